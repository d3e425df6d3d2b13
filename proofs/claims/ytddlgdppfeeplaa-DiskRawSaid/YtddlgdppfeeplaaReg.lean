/-
  Regions that draw their order, over a world of which 'St' is known: what only reads is taken first; calls follow. For every program.
-/
import Derived.Test.YtddlgdppfeeplaaOps
import Derived.OrdersHeld
import Derived.StillTail
set_option linter.unusedVariables false
set_option linter.unusedSimpArgs false
namespace Go.Er
open Go Go.RowKit

section reg
variable {P : Program} {tab : List (TypeId × TyE)} {w0 w : World} {L : List Own} {F : List Fct} {ops : Array Oper} {a : Act} {Q : Exit → Act → World → Prop}
  {d : Option Tmp} {T ty e : TypeId} {x y : Operand} {pos : String} {aft : Array Edge} {gd : Option (Nat × Bool)} {listed : Array Bool} {n : Nat}

/-- Whatever order the head's operations come up in: S holds behind each, and behind the last the tail follows. -/
def wpHT (P : Program) (ops : Array Oper) (Q : Exit → Act → World → Prop) (S : World → Prop) (n : Nat) (Lq : Array Bool → Act → World → Prop) : Nat → Array Bool → Act → World → Prop
  | 0, listed, a, w => Lq listed a w
  | f + 1, listed, a, w => Region.ready .any ops listed ≠ [] ∧ ∀ i ∈ Region.ready .any ops listed, i < n ∧ wpOp P ops Q i (fun a' w' => S w' ∧ wpHT P ops Q S n Lq f (listed.setIfInBounds i true) a' w') a w

theorem wpAny_of_HT {S : World → Prop} {m g : Nat} {Lq : Array Bool → Act → World → Prop} (hL : ∀ listed a w, Lq listed a w → wpAny P .any ops Q g listed a w) :
    ∀ (f : Nat) (listed : Array Bool) (a : Act) (w : World), wpHT P ops Q S m Lq f listed a w → wpAny P .any ops Q (f + g) listed a w
  | 0, listed, a, w, h => by rw [Nat.zero_add]; exact hL _ _ _ h
  | f + 1, listed, a, w, h => by
    rw [show f + 1 + g = (f + g) + 1 by omega]
    exact ⟨fun h0 => absurd h0 h.1, fun i hi => wpOp_mono (fun a' w' h' => wpAny_of_HT hL f _ a' w' h'.2) (h.2 i hi).2⟩

theorem wpHT_first {S : World → Prop} {m i : Nat} {oi : Oper} {v : Value} {Lq : Array Bool → Act → World → Prop} (hi : ops[i]? = some oi) (hsel : ∀ (j : Nat) (o : Oper) cs b, ops[j]? = some o → o.op ≠ .select cs b)
    (hQ : ∀ c a w, Q (.panic c) (a.put oi.dst v) w → Q (.panic c) a w) (hs : Region.sinkB .any ops m = true) (hc : Region.chainB .any ops m = true) (hn : m < ops.size) (hin : i < m)
    (hdone : ∀ listed a w, Lq listed a w → ∀ j ∈ Region.ready .any ops listed, m ≤ j) :
    ∀ (f : Nat) (listed : Array Bool) (a : Act) (w : World), HeadInv .any ops m listed →
      (∀ j oj, ops[j]? = some oj → j ≠ i → listed.getD j true = false → (∀ e ∈ oj.after, Region.binds .any e = true → e.on ≠ i) → oi.apart ops oj = true) →
      i ∈ Region.ready .any ops listed → YieldsIf P ops S oi v a → S w →
      wpHT P ops Q S m Lq f (listed.setIfInBounds i true) (a.put oi.dst v) w → wpHT P ops Q S m Lq (f + 1) listed a w := by
  intro f
  induction f with
  | zero =>
    intro listed a w inv _ hr hy hS H
    have hun := (mem_ready.1 hr).1
    refine ⟨fun h => (by rw [h] at hr; cases hr), fun j hj => ?_⟩
    have hjn : j < m := by
      rcases Nat.lt_or_ge j m with h | h
      · exact h
      · exact absurd hj (tail_waits hs hc hn inv _ i rfl hin hun j h)
    refine ⟨hjn, ?_⟩
    by_cases hji : j = i
    · subst hji; exact hy.wpOp hi hS ⟨hS, H⟩
    · have := hdone _ _ _ H j (ready_mono hj hji)
      omega
  | succ f ih =>
    intro listed a w inv hfree hr hy hS H
    have hun := (mem_ready.1 hr).1
    refine ⟨fun h => (by rw [h] at hr; cases hr), fun j hj => ?_⟩
    have hjn : j < m := by
      rcases Nat.lt_or_ge j m with h | h
      · exact h
      · exact absurd hj (tail_waits hs hc hn inv _ i rfl hin hun j h)
    refine ⟨hjn, ?_⟩
    by_cases hji : j = i
    · subst hji; exact hy.wpOp hi hS ⟨hS, H⟩
    · have h1 := (H.2 j (ready_mono hj hji)).2
      obtain ⟨hjun, oj, hoj, hall⟩ := mem_ready.1 hj
      have hnot : ∀ e ∈ oj.after, Region.binds .any e = true → e.on ≠ i := fun e he hb heq => by
        have h1 := hall e he hb
        rw [heq, getD_both hun] at h1
        cases h1
      have h2 := wpOp_putIf hoj (hfree j oj hoj hji hjun hnot) (fun cs b => hsel i oi cs b hi) (fun cs b => hsel j oj cs b hoj) hQ hy h1
      have hfree' : ∀ k ok, ops[k]? = some ok → k ≠ i → (listed.setIfInBounds j true).getD k true = false →
          (∀ e ∈ ok.after, Region.binds .any e = true → e.on ≠ i) → oi.apart ops ok = true := fun k ok hk hki hun hno => by
        refine hfree k ok hk hki ?_ hno
        by_cases hjk : j = k
        · subst hjk; exact hjun
        · rw [getD_set_ne true hjk] at hun; exact hun
      refine wpOp_mono (fun a' w' h3 => ⟨h3.2.1, ih (listed.setIfInBounds j true) a' w' (inv.set hj hjn) hfree' (ready_mono hr (Ne.symm hji)) h3.1 h3.2.1 ?_⟩) h2
      rw [Array.setIfInBounds_comm _ _ hji]
      exact h3.2.2

/-- The head's state, as a Bool for the kernel. -/
def hinvB (ops : Array Oper) (m : Nat) (listed : Array Bool) : Bool :=
  decide (listed.size = ops.size) && (List.range ops.size).all fun j => !listed.getD j false || (decide (j < m) && match ops[j]? with | some oj => oj.after.all fun e => !Region.binds .any e || listed.getD e.on false | none => true)

theorem hinvB_spec {m : Nat} (h : hinvB ops m listed = true) : HeadInv .any ops m listed := by
  simp only [hinvB, Bool.and_eq_true, decide_eq_true_eq, List.all_eq_true, List.mem_range] at h
  refine ⟨h.1, fun j oj hj hl e he hb => ?_, fun t ht htl => ?_⟩
  · have hjl : j < ops.size := (Array.getElem?_eq_some_iff.1 hj).1
    have := h.2 j hjl
    rw [hl] at this
    simp only [Bool.not_true, Bool.false_or, Bool.and_eq_true, hj] at this
    have h2 := Array.all_eq_true'.1 this.2 e he
    rw [hb] at h2
    simpa using h2
  · have := h.2 t htl
    have hts : t < listed.size := by omega
    cases hl : listed.getD t false with
    | false =>
      simp [hts] at hl ⊢
      exact hl
    | true =>
      rw [hl] at this
      simp only [Bool.not_true, Bool.false_or, Bool.and_eq_true, decide_eq_true_eq] at this
      omega

/-- The tail: from here on the operations come up one by one, in the text's order. -/
def TailQ (P : Program) (ops : Array Oper) (Q : Exit → Act → World → Prop) (l : List Oper) (m : Nat) (listed : Array Bool) (a : Act) (w : World) : Prop :=
  Region.seqB .any ops (l.length - m) m listed = true ∧ wpList P ops Q (l.drop m) a w

theorem rg_begin {id : Nat} {l : List Oper} (m : Nat) (hm : P.follows .mixedOrders = true) (hle : m ≤ l.length) (h : St w0 L F w)
    (next : ∀ w', St w0 L F w' → wpHT P l.toArray Q (fun w => St w0 L F w) m (TailQ P l.toArray Q l m) m (Array.replicate l.length false) a w') : (Code.region id l.toArray true).wp P Q a w := by
  refine wp_region_any hm ?_
  have := wpAny_of_HT (P := P) (ops := l.toArray) (Q := Q) (g := l.length - m) (Lq := TailQ P l.toArray Q l m) (fun listed a w hL => by
    have := wpAny_of_seq (P := P) (ops := l.toArray) (md := .any) (Q' := Q) (l.drop m) m listed a w (fun j => by simp [List.getElem?_drop]) (by rw [List.length_drop]; exact hL.1) hL.2
    rwa [List.length_drop] at this) m (Array.replicate l.length false) a w.drew (next _ h.drew)
  rw [show m + (l.length - m) = l.toArray.size by simp; omega] at this
  simpa using this

/-- Operation i is taken first: it yields v in every world of which St is known. -/
theorem rg_take {l : List Oper} {m f : Nat} (i : Nat) {oi : Oper} {v : Value} (hi0 : l[i]? = some oi) (hb : (Region.noSelect l.toArray && Region.sinkB .any l.toArray m && Region.chainB .any l.toArray m && decide (m < l.length) && decide (i < m) && hinvB l.toArray m listed && Region.free .any l.toArray listed i && (Region.ready .any l.toArray listed).contains i) = true)
    (hQ : ∀ c a w, Q (.panic c) (a.put oi.dst v) w → Q (.panic c) a w) (h : St w0 L F w) (hy : YieldsIf P l.toArray (fun w => St w0 L F w) oi v a)
    (next : wpHT P l.toArray Q (fun w => St w0 L F w) m (TailQ P l.toArray Q l m) f (listed.setIfInBounds i true) (a.put oi.dst v) w) :
    wpHT P l.toArray Q (fun w => St w0 L F w) m (TailQ P l.toArray Q l m) (f + 1) listed a w := by
  have hi : l.toArray[i]? = some oi := by simpa using hi0
  simp only [Bool.and_eq_true, decide_eq_true_eq] at hb
  obtain ⟨⟨⟨⟨⟨⟨⟨h1, h2⟩, h3⟩, h4⟩, h5⟩, h6⟩, h7⟩, h8⟩ := hb
  exact wpHT_first hi (Region.noSelect_spec h1) hQ h2 h3 (by simpa using h4) h5 (fun listed a w hL => seqB_ready hL.1) f listed a w (hinvB_spec h6) (Region.free_spec hi h7) (by simpa using h8) hy h next

/-- The one operation that may come up is a call. -/
theorem rg_call {l : List Oper} {m f : Nat} (i : Nat) {oi : Oper} (hi : l.toArray[i]? = some oi) (hr : Region.ready .any l.toArray listed = [i]) (him : i < m) (hw : Region.wanted oi (yielded l.toArray a.tmps) = true) {fn : FuncId} {args : Array Value}
    (hrun : (execOp a.eval oi).run P w = .ok (.enter fn args) w)
    (hc : Calls P fn args w fun e w' => ∃ v, e = .returned v ∧ St w0 L F w' ∧ wpHT P l.toArray Q (fun w => St w0 L F w) m (TailQ P l.toArray Q l m) f (listed.setIfInBounds i true) (a.put oi.dst v) w') :
    wpHT P l.toArray Q (fun w => St w0 L F w) m (TailQ P l.toArray Q l m) (f + 1) listed a w := by
  refine ⟨by rw [hr]; simp, fun j hj => ?_⟩
  obtain rfl : j = i := by rw [hr] at hj; simpa using hj
  refine ⟨him, ?_⟩
  unfold wpOp
  simp only [hi, hw, if_true]
  refine .inl ?_
  unfold Oper.wp
  rw [hrun]
  simp only [Oper.upon]
  refine hc.mono ?_
  rintro e w' ⟨v, rfl, h1, h2⟩
  exact ⟨h1, h2⟩

/-- One operation alone may come up. -/
theorem rg_one {l : List Oper} {m f : Nat} {S : World → Prop} (i : Nat) {oi : Oper} (hi0 : l[i]? = some oi) (hr : Region.ready .any l.toArray listed = [i]) (him : decide (i < m) = true) (hw : Region.wanted oi (yielded l.toArray a.tmps) = true)
    (h : ∀ K : Act → World → Prop, (∀ a' w', S w' → wpHT P l.toArray Q S m (TailQ P l.toArray Q l m) f (listed.setIfInBounds i true) a' w' → K a' w') → oi.wp P a w K Q) :
    wpHT P l.toArray Q S m (TailQ P l.toArray Q l m) (f + 1) listed a w := by
  have hi : l.toArray[i]? = some oi := by simpa using hi0
  refine ⟨by rw [hr]; simp, fun j hj => ?_⟩
  obtain rfl : j = i := by rw [hr] at hj; simpa using hj
  refine ⟨by simpa using him, ?_⟩
  unfold wpOp
  simp only [hi, hw, if_true]
  exact .inl (h _ fun a' w' h1 h2 => ⟨h1, h2⟩)

/-- The head is done. -/
theorem rg_tail {l : List Oper} {m : Nat} {S : World → Prop} (hB : Region.seqB .any l.toArray (l.length - m) m listed = true) (h : wpList P l.toArray Q (l.drop m) a w) :
    wpHT P l.toArray Q S m (TailQ P l.toArray Q l m) 0 listed a w := ⟨hB, h⟩

theorem y_load1 (tb : TabOk P tab) (i : Nat) {k : Nat} {z : List Value} {g off : Nat} {t : TypeId} {cs : List Value} {v : Value} (hw : Region.wanted ⟨d, .load T x, ty, pos, aft, gd⟩ (yielded ops a.tmps) = true)
    (hT : tyLook T tab = some ⟨false, k, z⟩) (hx : a.eval x = .pointer (some ⟨g, off, none⟩)) (hp : L[i]? = some (.blk g t cs)) (hv : cs[off]? = some v) :
    YieldsIf P ops (fun w => St w0 L F w) ⟨d, .load T x, ty, pos, aft, gd⟩ v a := by
  refine .inl ⟨hw, fun w h => ?_⟩
  have hl := run_loadVar_one tb h i hT hp hv
  unfold execOp
  simp only [hx, Instr.loadAt, Instr.sureAddr, Sem.run_bind, Sem.run_pure, Result.andThen_ok, hl]

theorem y_loadW (tb : TabOk P tab) (i : Nat) {k : Nat} {z : List Value} {g : Nat} {t : TypeId} {cs : List Value} (hw : Region.wanted ⟨d, .load T x, ty, pos, aft, gd⟩ (yielded ops a.tmps) = true)
    (hT : tyLook T tab = some ⟨true, k, z⟩) (hx : a.eval x = .pointer (some ⟨g, 0, none⟩)) (hp : L[i]? = some (.blk g t cs)) (hk : cs.length = k) :
    YieldsIf P ops (fun w => St w0 L F w) ⟨d, .load T x, ty, pos, aft, gd⟩ (.agg cs.toArray) a := by
  refine .inl ⟨hw, fun w h => ?_⟩
  have hl := run_loadVar_agg tb h i hT hp (vs := cs) (off := 0) (by rw [List.drop_zero, List.take_of_length_le (by omega)]) hk
  unfold execOp
  simp only [hx, Instr.loadAt, Instr.sureAddr, Sem.run_bind, Sem.run_pure, Result.andThen_ok, hl]

theorem y_pure {o : Oper} {v : Value} (hw : Region.wanted o (yielded ops a.tmps) = true) (h : ∀ w, (execOp a.eval o).run P w = .ok (.value v) w) : YieldsIf P ops (fun w => St w0 L F w) o v a :=
  .inl ⟨hw, fun w _ => h w⟩
theorem y_skip {o : Oper} (hw : Region.wanted o (yielded ops a.tmps) = false) : YieldsIf P ops (fun w => St w0 L F w) o undef a := .inr ⟨hw, rfl⟩
end reg
theorem at0 {α : Type} { p0 : α} {L : List α} : ( p0 :: L)[0]? = some p0 := rfl
theorem at1 {α : Type} {p0 p1 : α} {L : List α} : (p0 ::  p1 :: L)[1]? = some p1 := rfl
theorem at2 {α : Type} {p0 p1 p2 : α} {L : List α} : (p0 :: p1 ::  p2 :: L)[2]? = some p2 := rfl
theorem at3 {α : Type} {p0 p1 p2 p3 : α} {L : List α} : (p0 :: p1 :: p2 ::  p3 :: L)[3]? = some p3 := rfl
theorem at4 {α : Type} {p0 p1 p2 p3 p4 : α} {L : List α} : (p0 :: p1 :: p2 :: p3 ::  p4 :: L)[4]? = some p4 := rfl
theorem at5 {α : Type} {p0 p1 p2 p3 p4 p5 : α} {L : List α} : (p0 :: p1 :: p2 :: p3 :: p4 ::  p5 :: L)[5]? = some p5 := rfl
theorem at6 {α : Type} {p0 p1 p2 p3 p4 p5 p6 : α} {L : List α} : (p0 :: p1 :: p2 :: p3 :: p4 :: p5 ::  p6 :: L)[6]? = some p6 := rfl
theorem at7 {α : Type} {p0 p1 p2 p3 p4 p5 p6 p7 : α} {L : List α} : (p0 :: p1 :: p2 :: p3 :: p4 :: p5 :: p6 ::  p7 :: L)[7]? = some p7 := rfl
theorem at8 {α : Type} {p0 p1 p2 p3 p4 p5 p6 p7 p8 : α} {L : List α} : (p0 :: p1 :: p2 :: p3 :: p4 :: p5 :: p6 :: p7 ::  p8 :: L)[8]? = some p8 := rfl
theorem at9 {α : Type} {p0 p1 p2 p3 p4 p5 p6 p7 p8 p9 : α} {L : List α} : (p0 :: p1 :: p2 :: p3 :: p4 :: p5 :: p6 :: p7 :: p8 ::  p9 :: L)[9]? = some p9 := rfl
theorem at10 {α : Type} {p0 p1 p2 p3 p4 p5 p6 p7 p8 p9 p10 : α} {L : List α} : (p0 :: p1 :: p2 :: p3 :: p4 :: p5 :: p6 :: p7 :: p8 :: p9 ::  p10 :: L)[10]? = some p10 := rfl
theorem at11 {α : Type} {p0 p1 p2 p3 p4 p5 p6 p7 p8 p9 p10 p11 : α} {L : List α} : (p0 :: p1 :: p2 :: p3 :: p4 :: p5 :: p6 :: p7 :: p8 :: p9 :: p10 ::  p11 :: L)[11]? = some p11 := rfl
theorem at12 {α : Type} {p0 p1 p2 p3 p4 p5 p6 p7 p8 p9 p10 p11 p12 : α} {L : List α} : (p0 :: p1 :: p2 :: p3 :: p4 :: p5 :: p6 :: p7 :: p8 :: p9 :: p10 :: p11 ::  p12 :: L)[12]? = some p12 := rfl
theorem at13 {α : Type} {p0 p1 p2 p3 p4 p5 p6 p7 p8 p9 p10 p11 p12 p13 : α} {L : List α} : (p0 :: p1 :: p2 :: p3 :: p4 :: p5 :: p6 :: p7 :: p8 :: p9 :: p10 :: p11 :: p12 ::  p13 :: L)[13]? = some p13 := rfl
theorem at14 {α : Type} {p0 p1 p2 p3 p4 p5 p6 p7 p8 p9 p10 p11 p12 p13 p14 : α} {L : List α} : (p0 :: p1 :: p2 :: p3 :: p4 :: p5 :: p6 :: p7 :: p8 :: p9 :: p10 :: p11 :: p12 :: p13 ::  p14 :: L)[14]? = some p14 := rfl
theorem at15 {α : Type} {p0 p1 p2 p3 p4 p5 p6 p7 p8 p9 p10 p11 p12 p13 p14 p15 : α} {L : List α} : (p0 :: p1 :: p2 :: p3 :: p4 :: p5 :: p6 :: p7 :: p8 :: p9 :: p10 :: p11 :: p12 :: p13 :: p14 ::  p15 :: L)[15]? = some p15 := rfl
theorem at16 {α : Type} {p0 p1 p2 p3 p4 p5 p6 p7 p8 p9 p10 p11 p12 p13 p14 p15 p16 : α} {L : List α} : (p0 :: p1 :: p2 :: p3 :: p4 :: p5 :: p6 :: p7 :: p8 :: p9 :: p10 :: p11 :: p12 :: p13 :: p14 :: p15 ::  p16 :: L)[16]? = some p16 := rfl
theorem at17 {α : Type} {p0 p1 p2 p3 p4 p5 p6 p7 p8 p9 p10 p11 p12 p13 p14 p15 p16 p17 : α} {L : List α} : (p0 :: p1 :: p2 :: p3 :: p4 :: p5 :: p6 :: p7 :: p8 :: p9 :: p10 :: p11 :: p12 :: p13 :: p14 :: p15 :: p16 ::  p17 :: L)[17]? = some p17 := rfl
theorem at18 {α : Type} {p0 p1 p2 p3 p4 p5 p6 p7 p8 p9 p10 p11 p12 p13 p14 p15 p16 p17 p18 : α} {L : List α} : (p0 :: p1 :: p2 :: p3 :: p4 :: p5 :: p6 :: p7 :: p8 :: p9 :: p10 :: p11 :: p12 :: p13 :: p14 :: p15 :: p16 :: p17 ::  p18 :: L)[18]? = some p18 := rfl
theorem at19 {α : Type} {p0 p1 p2 p3 p4 p5 p6 p7 p8 p9 p10 p11 p12 p13 p14 p15 p16 p17 p18 p19 : α} {L : List α} : (p0 :: p1 :: p2 :: p3 :: p4 :: p5 :: p6 :: p7 :: p8 :: p9 :: p10 :: p11 :: p12 :: p13 :: p14 :: p15 :: p16 :: p17 :: p18 ::  p19 :: L)[19]? = some p19 := rfl
theorem at20 {α : Type} {p0 p1 p2 p3 p4 p5 p6 p7 p8 p9 p10 p11 p12 p13 p14 p15 p16 p17 p18 p19 p20 : α} {L : List α} : (p0 :: p1 :: p2 :: p3 :: p4 :: p5 :: p6 :: p7 :: p8 :: p9 :: p10 :: p11 :: p12 :: p13 :: p14 :: p15 :: p16 :: p17 :: p18 :: p19 ::  p20 :: L)[20]? = some p20 := rfl
theorem at21 {α : Type} {p0 p1 p2 p3 p4 p5 p6 p7 p8 p9 p10 p11 p12 p13 p14 p15 p16 p17 p18 p19 p20 p21 : α} {L : List α} : (p0 :: p1 :: p2 :: p3 :: p4 :: p5 :: p6 :: p7 :: p8 :: p9 :: p10 :: p11 :: p12 :: p13 :: p14 :: p15 :: p16 :: p17 :: p18 :: p19 :: p20 ::  p21 :: L)[21]? = some p21 := rfl
theorem at22 {α : Type} {p0 p1 p2 p3 p4 p5 p6 p7 p8 p9 p10 p11 p12 p13 p14 p15 p16 p17 p18 p19 p20 p21 p22 : α} {L : List α} : (p0 :: p1 :: p2 :: p3 :: p4 :: p5 :: p6 :: p7 :: p8 :: p9 :: p10 :: p11 :: p12 :: p13 :: p14 :: p15 :: p16 :: p17 :: p18 :: p19 :: p20 :: p21 ::  p22 :: L)[22]? = some p22 := rfl
theorem at23 {α : Type} {p0 p1 p2 p3 p4 p5 p6 p7 p8 p9 p10 p11 p12 p13 p14 p15 p16 p17 p18 p19 p20 p21 p22 p23 : α} {L : List α} : (p0 :: p1 :: p2 :: p3 :: p4 :: p5 :: p6 :: p7 :: p8 :: p9 :: p10 :: p11 :: p12 :: p13 :: p14 :: p15 :: p16 :: p17 :: p18 :: p19 :: p20 :: p21 :: p22 ::  p23 :: L)[23]? = some p23 := rfl
theorem at24 {α : Type} {p0 p1 p2 p3 p4 p5 p6 p7 p8 p9 p10 p11 p12 p13 p14 p15 p16 p17 p18 p19 p20 p21 p22 p23 p24 : α} {L : List α} : (p0 :: p1 :: p2 :: p3 :: p4 :: p5 :: p6 :: p7 :: p8 :: p9 :: p10 :: p11 :: p12 :: p13 :: p14 :: p15 :: p16 :: p17 :: p18 :: p19 :: p20 :: p21 :: p22 :: p23 ::  p24 :: L)[24]? = some p24 := rfl
theorem at25 {α : Type} {p0 p1 p2 p3 p4 p5 p6 p7 p8 p9 p10 p11 p12 p13 p14 p15 p16 p17 p18 p19 p20 p21 p22 p23 p24 p25 : α} {L : List α} : (p0 :: p1 :: p2 :: p3 :: p4 :: p5 :: p6 :: p7 :: p8 :: p9 :: p10 :: p11 :: p12 :: p13 :: p14 :: p15 :: p16 :: p17 :: p18 :: p19 :: p20 :: p21 :: p22 :: p23 :: p24 ::  p25 :: L)[25]? = some p25 := rfl
theorem at26 {α : Type} {p0 p1 p2 p3 p4 p5 p6 p7 p8 p9 p10 p11 p12 p13 p14 p15 p16 p17 p18 p19 p20 p21 p22 p23 p24 p25 p26 : α} {L : List α} : (p0 :: p1 :: p2 :: p3 :: p4 :: p5 :: p6 :: p7 :: p8 :: p9 :: p10 :: p11 :: p12 :: p13 :: p14 :: p15 :: p16 :: p17 :: p18 :: p19 :: p20 :: p21 :: p22 :: p23 :: p24 :: p25 ::  p26 :: L)[26]? = some p26 := rfl
theorem at27 {α : Type} {p0 p1 p2 p3 p4 p5 p6 p7 p8 p9 p10 p11 p12 p13 p14 p15 p16 p17 p18 p19 p20 p21 p22 p23 p24 p25 p26 p27 : α} {L : List α} : (p0 :: p1 :: p2 :: p3 :: p4 :: p5 :: p6 :: p7 :: p8 :: p9 :: p10 :: p11 :: p12 :: p13 :: p14 :: p15 :: p16 :: p17 :: p18 :: p19 :: p20 :: p21 :: p22 :: p23 :: p24 :: p25 :: p26 ::  p27 :: L)[27]? = some p27 := rfl
theorem at28 {α : Type} {p0 p1 p2 p3 p4 p5 p6 p7 p8 p9 p10 p11 p12 p13 p14 p15 p16 p17 p18 p19 p20 p21 p22 p23 p24 p25 p26 p27 p28 : α} {L : List α} : (p0 :: p1 :: p2 :: p3 :: p4 :: p5 :: p6 :: p7 :: p8 :: p9 :: p10 :: p11 :: p12 :: p13 :: p14 :: p15 :: p16 :: p17 :: p18 :: p19 :: p20 :: p21 :: p22 :: p23 :: p24 :: p25 :: p26 :: p27 ::  p28 :: L)[28]? = some p28 := rfl
theorem at29 {α : Type} {p0 p1 p2 p3 p4 p5 p6 p7 p8 p9 p10 p11 p12 p13 p14 p15 p16 p17 p18 p19 p20 p21 p22 p23 p24 p25 p26 p27 p28 p29 : α} {L : List α} : (p0 :: p1 :: p2 :: p3 :: p4 :: p5 :: p6 :: p7 :: p8 :: p9 :: p10 :: p11 :: p12 :: p13 :: p14 :: p15 :: p16 :: p17 :: p18 :: p19 :: p20 :: p21 :: p22 :: p23 :: p24 :: p25 :: p26 :: p27 :: p28 ::  p29 :: L)[29]? = some p29 := rfl
theorem at30 {α : Type} {p0 p1 p2 p3 p4 p5 p6 p7 p8 p9 p10 p11 p12 p13 p14 p15 p16 p17 p18 p19 p20 p21 p22 p23 p24 p25 p26 p27 p28 p29 p30 : α} {L : List α} : (p0 :: p1 :: p2 :: p3 :: p4 :: p5 :: p6 :: p7 :: p8 :: p9 :: p10 :: p11 :: p12 :: p13 :: p14 :: p15 :: p16 :: p17 :: p18 :: p19 :: p20 :: p21 :: p22 :: p23 :: p24 :: p25 :: p26 :: p27 :: p28 :: p29 ::  p30 :: L)[30]? = some p30 := rfl
theorem at31 {α : Type} {p0 p1 p2 p3 p4 p5 p6 p7 p8 p9 p10 p11 p12 p13 p14 p15 p16 p17 p18 p19 p20 p21 p22 p23 p24 p25 p26 p27 p28 p29 p30 p31 : α} {L : List α} : (p0 :: p1 :: p2 :: p3 :: p4 :: p5 :: p6 :: p7 :: p8 :: p9 :: p10 :: p11 :: p12 :: p13 :: p14 :: p15 :: p16 :: p17 :: p18 :: p19 :: p20 :: p21 :: p22 :: p23 :: p24 :: p25 :: p26 :: p27 :: p28 :: p29 :: p30 ::  p31 :: L)[31]? = some p31 := rfl
theorem at32 {α : Type} {p0 p1 p2 p3 p4 p5 p6 p7 p8 p9 p10 p11 p12 p13 p14 p15 p16 p17 p18 p19 p20 p21 p22 p23 p24 p25 p26 p27 p28 p29 p30 p31 p32 : α} {L : List α} : (p0 :: p1 :: p2 :: p3 :: p4 :: p5 :: p6 :: p7 :: p8 :: p9 :: p10 :: p11 :: p12 :: p13 :: p14 :: p15 :: p16 :: p17 :: p18 :: p19 :: p20 :: p21 :: p22 :: p23 :: p24 :: p25 :: p26 :: p27 :: p28 :: p29 :: p30 :: p31 ::  p32 :: L)[32]? = some p32 := rfl
theorem at33 {α : Type} {p0 p1 p2 p3 p4 p5 p6 p7 p8 p9 p10 p11 p12 p13 p14 p15 p16 p17 p18 p19 p20 p21 p22 p23 p24 p25 p26 p27 p28 p29 p30 p31 p32 p33 : α} {L : List α} : (p0 :: p1 :: p2 :: p3 :: p4 :: p5 :: p6 :: p7 :: p8 :: p9 :: p10 :: p11 :: p12 :: p13 :: p14 :: p15 :: p16 :: p17 :: p18 :: p19 :: p20 :: p21 :: p22 :: p23 :: p24 :: p25 :: p26 :: p27 :: p28 :: p29 :: p30 :: p31 :: p32 ::  p33 :: L)[33]? = some p33 := rfl
theorem at34 {α : Type} {p0 p1 p2 p3 p4 p5 p6 p7 p8 p9 p10 p11 p12 p13 p14 p15 p16 p17 p18 p19 p20 p21 p22 p23 p24 p25 p26 p27 p28 p29 p30 p31 p32 p33 p34 : α} {L : List α} : (p0 :: p1 :: p2 :: p3 :: p4 :: p5 :: p6 :: p7 :: p8 :: p9 :: p10 :: p11 :: p12 :: p13 :: p14 :: p15 :: p16 :: p17 :: p18 :: p19 :: p20 :: p21 :: p22 :: p23 :: p24 :: p25 :: p26 :: p27 :: p28 :: p29 :: p30 :: p31 :: p32 :: p33 ::  p34 :: L)[34]? = some p34 := rfl
theorem at35 {α : Type} {p0 p1 p2 p3 p4 p5 p6 p7 p8 p9 p10 p11 p12 p13 p14 p15 p16 p17 p18 p19 p20 p21 p22 p23 p24 p25 p26 p27 p28 p29 p30 p31 p32 p33 p34 p35 : α} {L : List α} : (p0 :: p1 :: p2 :: p3 :: p4 :: p5 :: p6 :: p7 :: p8 :: p9 :: p10 :: p11 :: p12 :: p13 :: p14 :: p15 :: p16 :: p17 :: p18 :: p19 :: p20 :: p21 :: p22 :: p23 :: p24 :: p25 :: p26 :: p27 :: p28 :: p29 :: p30 :: p31 :: p32 :: p33 :: p34 ::  p35 :: L)[35]? = some p35 := rfl
theorem at36 {α : Type} {p0 p1 p2 p3 p4 p5 p6 p7 p8 p9 p10 p11 p12 p13 p14 p15 p16 p17 p18 p19 p20 p21 p22 p23 p24 p25 p26 p27 p28 p29 p30 p31 p32 p33 p34 p35 p36 : α} {L : List α} : (p0 :: p1 :: p2 :: p3 :: p4 :: p5 :: p6 :: p7 :: p8 :: p9 :: p10 :: p11 :: p12 :: p13 :: p14 :: p15 :: p16 :: p17 :: p18 :: p19 :: p20 :: p21 :: p22 :: p23 :: p24 :: p25 :: p26 :: p27 :: p28 :: p29 :: p30 :: p31 :: p32 :: p33 :: p34 :: p35 ::  p36 :: L)[36]? = some p36 := rfl
theorem at37 {α : Type} {p0 p1 p2 p3 p4 p5 p6 p7 p8 p9 p10 p11 p12 p13 p14 p15 p16 p17 p18 p19 p20 p21 p22 p23 p24 p25 p26 p27 p28 p29 p30 p31 p32 p33 p34 p35 p36 p37 : α} {L : List α} : (p0 :: p1 :: p2 :: p3 :: p4 :: p5 :: p6 :: p7 :: p8 :: p9 :: p10 :: p11 :: p12 :: p13 :: p14 :: p15 :: p16 :: p17 :: p18 :: p19 :: p20 :: p21 :: p22 :: p23 :: p24 :: p25 :: p26 :: p27 :: p28 :: p29 :: p30 :: p31 :: p32 :: p33 :: p34 :: p35 :: p36 ::  p37 :: L)[37]? = some p37 := rfl
theorem at38 {α : Type} {p0 p1 p2 p3 p4 p5 p6 p7 p8 p9 p10 p11 p12 p13 p14 p15 p16 p17 p18 p19 p20 p21 p22 p23 p24 p25 p26 p27 p28 p29 p30 p31 p32 p33 p34 p35 p36 p37 p38 : α} {L : List α} : (p0 :: p1 :: p2 :: p3 :: p4 :: p5 :: p6 :: p7 :: p8 :: p9 :: p10 :: p11 :: p12 :: p13 :: p14 :: p15 :: p16 :: p17 :: p18 :: p19 :: p20 :: p21 :: p22 :: p23 :: p24 :: p25 :: p26 :: p27 :: p28 :: p29 :: p30 :: p31 :: p32 :: p33 :: p34 :: p35 :: p36 :: p37 ::  p38 :: L)[38]? = some p38 := rfl
theorem at39 {α : Type} {p0 p1 p2 p3 p4 p5 p6 p7 p8 p9 p10 p11 p12 p13 p14 p15 p16 p17 p18 p19 p20 p21 p22 p23 p24 p25 p26 p27 p28 p29 p30 p31 p32 p33 p34 p35 p36 p37 p38 p39 : α} {L : List α} : (p0 :: p1 :: p2 :: p3 :: p4 :: p5 :: p6 :: p7 :: p8 :: p9 :: p10 :: p11 :: p12 :: p13 :: p14 :: p15 :: p16 :: p17 :: p18 :: p19 :: p20 :: p21 :: p22 :: p23 :: p24 :: p25 :: p26 :: p27 :: p28 :: p29 :: p30 :: p31 :: p32 :: p33 :: p34 :: p35 :: p36 :: p37 :: p38 ::  p39 :: L)[39]? = some p39 := rfl
theorem at40 {α : Type} {p0 p1 p2 p3 p4 p5 p6 p7 p8 p9 p10 p11 p12 p13 p14 p15 p16 p17 p18 p19 p20 p21 p22 p23 p24 p25 p26 p27 p28 p29 p30 p31 p32 p33 p34 p35 p36 p37 p38 p39 p40 : α} {L : List α} : (p0 :: p1 :: p2 :: p3 :: p4 :: p5 :: p6 :: p7 :: p8 :: p9 :: p10 :: p11 :: p12 :: p13 :: p14 :: p15 :: p16 :: p17 :: p18 :: p19 :: p20 :: p21 :: p22 :: p23 :: p24 :: p25 :: p26 :: p27 :: p28 :: p29 :: p30 :: p31 :: p32 :: p33 :: p34 :: p35 :: p36 :: p37 :: p38 :: p39 ::  p40 :: L)[40]? = some p40 := rfl
theorem at41 {α : Type} {p0 p1 p2 p3 p4 p5 p6 p7 p8 p9 p10 p11 p12 p13 p14 p15 p16 p17 p18 p19 p20 p21 p22 p23 p24 p25 p26 p27 p28 p29 p30 p31 p32 p33 p34 p35 p36 p37 p38 p39 p40 p41 : α} {L : List α} : (p0 :: p1 :: p2 :: p3 :: p4 :: p5 :: p6 :: p7 :: p8 :: p9 :: p10 :: p11 :: p12 :: p13 :: p14 :: p15 :: p16 :: p17 :: p18 :: p19 :: p20 :: p21 :: p22 :: p23 :: p24 :: p25 :: p26 :: p27 :: p28 :: p29 :: p30 :: p31 :: p32 :: p33 :: p34 :: p35 :: p36 :: p37 :: p38 :: p39 :: p40 ::  p41 :: L)[41]? = some p41 := rfl
theorem at42 {α : Type} {p0 p1 p2 p3 p4 p5 p6 p7 p8 p9 p10 p11 p12 p13 p14 p15 p16 p17 p18 p19 p20 p21 p22 p23 p24 p25 p26 p27 p28 p29 p30 p31 p32 p33 p34 p35 p36 p37 p38 p39 p40 p41 p42 : α} {L : List α} : (p0 :: p1 :: p2 :: p3 :: p4 :: p5 :: p6 :: p7 :: p8 :: p9 :: p10 :: p11 :: p12 :: p13 :: p14 :: p15 :: p16 :: p17 :: p18 :: p19 :: p20 :: p21 :: p22 :: p23 :: p24 :: p25 :: p26 :: p27 :: p28 :: p29 :: p30 :: p31 :: p32 :: p33 :: p34 :: p35 :: p36 :: p37 :: p38 :: p39 :: p40 :: p41 ::  p42 :: L)[42]? = some p42 := rfl
theorem at43 {α : Type} {p0 p1 p2 p3 p4 p5 p6 p7 p8 p9 p10 p11 p12 p13 p14 p15 p16 p17 p18 p19 p20 p21 p22 p23 p24 p25 p26 p27 p28 p29 p30 p31 p32 p33 p34 p35 p36 p37 p38 p39 p40 p41 p42 p43 : α} {L : List α} : (p0 :: p1 :: p2 :: p3 :: p4 :: p5 :: p6 :: p7 :: p8 :: p9 :: p10 :: p11 :: p12 :: p13 :: p14 :: p15 :: p16 :: p17 :: p18 :: p19 :: p20 :: p21 :: p22 :: p23 :: p24 :: p25 :: p26 :: p27 :: p28 :: p29 :: p30 :: p31 :: p32 :: p33 :: p34 :: p35 :: p36 :: p37 :: p38 :: p39 :: p40 :: p41 :: p42 ::  p43 :: L)[43]? = some p43 := rfl
theorem at44 {α : Type} {p0 p1 p2 p3 p4 p5 p6 p7 p8 p9 p10 p11 p12 p13 p14 p15 p16 p17 p18 p19 p20 p21 p22 p23 p24 p25 p26 p27 p28 p29 p30 p31 p32 p33 p34 p35 p36 p37 p38 p39 p40 p41 p42 p43 p44 : α} {L : List α} : (p0 :: p1 :: p2 :: p3 :: p4 :: p5 :: p6 :: p7 :: p8 :: p9 :: p10 :: p11 :: p12 :: p13 :: p14 :: p15 :: p16 :: p17 :: p18 :: p19 :: p20 :: p21 :: p22 :: p23 :: p24 :: p25 :: p26 :: p27 :: p28 :: p29 :: p30 :: p31 :: p32 :: p33 :: p34 :: p35 :: p36 :: p37 :: p38 :: p39 :: p40 :: p41 :: p42 :: p43 ::  p44 :: L)[44]? = some p44 := rfl
theorem at45 {α : Type} {p0 p1 p2 p3 p4 p5 p6 p7 p8 p9 p10 p11 p12 p13 p14 p15 p16 p17 p18 p19 p20 p21 p22 p23 p24 p25 p26 p27 p28 p29 p30 p31 p32 p33 p34 p35 p36 p37 p38 p39 p40 p41 p42 p43 p44 p45 : α} {L : List α} : (p0 :: p1 :: p2 :: p3 :: p4 :: p5 :: p6 :: p7 :: p8 :: p9 :: p10 :: p11 :: p12 :: p13 :: p14 :: p15 :: p16 :: p17 :: p18 :: p19 :: p20 :: p21 :: p22 :: p23 :: p24 :: p25 :: p26 :: p27 :: p28 :: p29 :: p30 :: p31 :: p32 :: p33 :: p34 :: p35 :: p36 :: p37 :: p38 :: p39 :: p40 :: p41 :: p42 :: p43 :: p44 ::  p45 :: L)[45]? = some p45 := rfl
theorem at46 {α : Type} {p0 p1 p2 p3 p4 p5 p6 p7 p8 p9 p10 p11 p12 p13 p14 p15 p16 p17 p18 p19 p20 p21 p22 p23 p24 p25 p26 p27 p28 p29 p30 p31 p32 p33 p34 p35 p36 p37 p38 p39 p40 p41 p42 p43 p44 p45 p46 : α} {L : List α} : (p0 :: p1 :: p2 :: p3 :: p4 :: p5 :: p6 :: p7 :: p8 :: p9 :: p10 :: p11 :: p12 :: p13 :: p14 :: p15 :: p16 :: p17 :: p18 :: p19 :: p20 :: p21 :: p22 :: p23 :: p24 :: p25 :: p26 :: p27 :: p28 :: p29 :: p30 :: p31 :: p32 :: p33 :: p34 :: p35 :: p36 :: p37 :: p38 :: p39 :: p40 :: p41 :: p42 :: p43 :: p44 :: p45 ::  p46 :: L)[46]? = some p46 := rfl
theorem at47 {α : Type} {p0 p1 p2 p3 p4 p5 p6 p7 p8 p9 p10 p11 p12 p13 p14 p15 p16 p17 p18 p19 p20 p21 p22 p23 p24 p25 p26 p27 p28 p29 p30 p31 p32 p33 p34 p35 p36 p37 p38 p39 p40 p41 p42 p43 p44 p45 p46 p47 : α} {L : List α} : (p0 :: p1 :: p2 :: p3 :: p4 :: p5 :: p6 :: p7 :: p8 :: p9 :: p10 :: p11 :: p12 :: p13 :: p14 :: p15 :: p16 :: p17 :: p18 :: p19 :: p20 :: p21 :: p22 :: p23 :: p24 :: p25 :: p26 :: p27 :: p28 :: p29 :: p30 :: p31 :: p32 :: p33 :: p34 :: p35 :: p36 :: p37 :: p38 :: p39 :: p40 :: p41 :: p42 :: p43 :: p44 :: p45 :: p46 ::  p47 :: L)[47]? = some p47 := rfl
theorem at48 {α : Type} {p0 p1 p2 p3 p4 p5 p6 p7 p8 p9 p10 p11 p12 p13 p14 p15 p16 p17 p18 p19 p20 p21 p22 p23 p24 p25 p26 p27 p28 p29 p30 p31 p32 p33 p34 p35 p36 p37 p38 p39 p40 p41 p42 p43 p44 p45 p46 p47 p48 : α} {L : List α} : (p0 :: p1 :: p2 :: p3 :: p4 :: p5 :: p6 :: p7 :: p8 :: p9 :: p10 :: p11 :: p12 :: p13 :: p14 :: p15 :: p16 :: p17 :: p18 :: p19 :: p20 :: p21 :: p22 :: p23 :: p24 :: p25 :: p26 :: p27 :: p28 :: p29 :: p30 :: p31 :: p32 :: p33 :: p34 :: p35 :: p36 :: p37 :: p38 :: p39 :: p40 :: p41 :: p42 :: p43 :: p44 :: p45 :: p46 :: p47 ::  p48 :: L)[48]? = some p48 := rfl
theorem at49 {α : Type} {p0 p1 p2 p3 p4 p5 p6 p7 p8 p9 p10 p11 p12 p13 p14 p15 p16 p17 p18 p19 p20 p21 p22 p23 p24 p25 p26 p27 p28 p29 p30 p31 p32 p33 p34 p35 p36 p37 p38 p39 p40 p41 p42 p43 p44 p45 p46 p47 p48 p49 : α} {L : List α} : (p0 :: p1 :: p2 :: p3 :: p4 :: p5 :: p6 :: p7 :: p8 :: p9 :: p10 :: p11 :: p12 :: p13 :: p14 :: p15 :: p16 :: p17 :: p18 :: p19 :: p20 :: p21 :: p22 :: p23 :: p24 :: p25 :: p26 :: p27 :: p28 :: p29 :: p30 :: p31 :: p32 :: p33 :: p34 :: p35 :: p36 :: p37 :: p38 :: p39 :: p40 :: p41 :: p42 :: p43 :: p44 :: p45 :: p46 :: p47 :: p48 ::  p49 :: L)[49]? = some p49 := rfl
theorem at50 {α : Type} {p0 p1 p2 p3 p4 p5 p6 p7 p8 p9 p10 p11 p12 p13 p14 p15 p16 p17 p18 p19 p20 p21 p22 p23 p24 p25 p26 p27 p28 p29 p30 p31 p32 p33 p34 p35 p36 p37 p38 p39 p40 p41 p42 p43 p44 p45 p46 p47 p48 p49 p50 : α} {L : List α} : (p0 :: p1 :: p2 :: p3 :: p4 :: p5 :: p6 :: p7 :: p8 :: p9 :: p10 :: p11 :: p12 :: p13 :: p14 :: p15 :: p16 :: p17 :: p18 :: p19 :: p20 :: p21 :: p22 :: p23 :: p24 :: p25 :: p26 :: p27 :: p28 :: p29 :: p30 :: p31 :: p32 :: p33 :: p34 :: p35 :: p36 :: p37 :: p38 :: p39 :: p40 :: p41 :: p42 :: p43 :: p44 :: p45 :: p46 :: p47 :: p48 :: p49 ::  p50 :: L)[50]? = some p50 := rfl
theorem at51 {α : Type} {p0 p1 p2 p3 p4 p5 p6 p7 p8 p9 p10 p11 p12 p13 p14 p15 p16 p17 p18 p19 p20 p21 p22 p23 p24 p25 p26 p27 p28 p29 p30 p31 p32 p33 p34 p35 p36 p37 p38 p39 p40 p41 p42 p43 p44 p45 p46 p47 p48 p49 p50 p51 : α} {L : List α} : (p0 :: p1 :: p2 :: p3 :: p4 :: p5 :: p6 :: p7 :: p8 :: p9 :: p10 :: p11 :: p12 :: p13 :: p14 :: p15 :: p16 :: p17 :: p18 :: p19 :: p20 :: p21 :: p22 :: p23 :: p24 :: p25 :: p26 :: p27 :: p28 :: p29 :: p30 :: p31 :: p32 :: p33 :: p34 :: p35 :: p36 :: p37 :: p38 :: p39 :: p40 :: p41 :: p42 :: p43 :: p44 :: p45 :: p46 :: p47 :: p48 :: p49 :: p50 ::  p51 :: L)[51]? = some p51 := rfl
theorem at52 {α : Type} {p0 p1 p2 p3 p4 p5 p6 p7 p8 p9 p10 p11 p12 p13 p14 p15 p16 p17 p18 p19 p20 p21 p22 p23 p24 p25 p26 p27 p28 p29 p30 p31 p32 p33 p34 p35 p36 p37 p38 p39 p40 p41 p42 p43 p44 p45 p46 p47 p48 p49 p50 p51 p52 : α} {L : List α} : (p0 :: p1 :: p2 :: p3 :: p4 :: p5 :: p6 :: p7 :: p8 :: p9 :: p10 :: p11 :: p12 :: p13 :: p14 :: p15 :: p16 :: p17 :: p18 :: p19 :: p20 :: p21 :: p22 :: p23 :: p24 :: p25 :: p26 :: p27 :: p28 :: p29 :: p30 :: p31 :: p32 :: p33 :: p34 :: p35 :: p36 :: p37 :: p38 :: p39 :: p40 :: p41 :: p42 :: p43 :: p44 :: p45 :: p46 :: p47 :: p48 :: p49 :: p50 :: p51 ::  p52 :: L)[52]? = some p52 := rfl
theorem at53 {α : Type} {p0 p1 p2 p3 p4 p5 p6 p7 p8 p9 p10 p11 p12 p13 p14 p15 p16 p17 p18 p19 p20 p21 p22 p23 p24 p25 p26 p27 p28 p29 p30 p31 p32 p33 p34 p35 p36 p37 p38 p39 p40 p41 p42 p43 p44 p45 p46 p47 p48 p49 p50 p51 p52 p53 : α} {L : List α} : (p0 :: p1 :: p2 :: p3 :: p4 :: p5 :: p6 :: p7 :: p8 :: p9 :: p10 :: p11 :: p12 :: p13 :: p14 :: p15 :: p16 :: p17 :: p18 :: p19 :: p20 :: p21 :: p22 :: p23 :: p24 :: p25 :: p26 :: p27 :: p28 :: p29 :: p30 :: p31 :: p32 :: p33 :: p34 :: p35 :: p36 :: p37 :: p38 :: p39 :: p40 :: p41 :: p42 :: p43 :: p44 :: p45 :: p46 :: p47 :: p48 :: p49 :: p50 :: p51 :: p52 ::  p53 :: L)[53]? = some p53 := rfl
theorem at54 {α : Type} {p0 p1 p2 p3 p4 p5 p6 p7 p8 p9 p10 p11 p12 p13 p14 p15 p16 p17 p18 p19 p20 p21 p22 p23 p24 p25 p26 p27 p28 p29 p30 p31 p32 p33 p34 p35 p36 p37 p38 p39 p40 p41 p42 p43 p44 p45 p46 p47 p48 p49 p50 p51 p52 p53 p54 : α} {L : List α} : (p0 :: p1 :: p2 :: p3 :: p4 :: p5 :: p6 :: p7 :: p8 :: p9 :: p10 :: p11 :: p12 :: p13 :: p14 :: p15 :: p16 :: p17 :: p18 :: p19 :: p20 :: p21 :: p22 :: p23 :: p24 :: p25 :: p26 :: p27 :: p28 :: p29 :: p30 :: p31 :: p32 :: p33 :: p34 :: p35 :: p36 :: p37 :: p38 :: p39 :: p40 :: p41 :: p42 :: p43 :: p44 :: p45 :: p46 :: p47 :: p48 :: p49 :: p50 :: p51 :: p52 :: p53 ::  p54 :: L)[54]? = some p54 := rfl
theorem at55 {α : Type} {p0 p1 p2 p3 p4 p5 p6 p7 p8 p9 p10 p11 p12 p13 p14 p15 p16 p17 p18 p19 p20 p21 p22 p23 p24 p25 p26 p27 p28 p29 p30 p31 p32 p33 p34 p35 p36 p37 p38 p39 p40 p41 p42 p43 p44 p45 p46 p47 p48 p49 p50 p51 p52 p53 p54 p55 : α} {L : List α} : (p0 :: p1 :: p2 :: p3 :: p4 :: p5 :: p6 :: p7 :: p8 :: p9 :: p10 :: p11 :: p12 :: p13 :: p14 :: p15 :: p16 :: p17 :: p18 :: p19 :: p20 :: p21 :: p22 :: p23 :: p24 :: p25 :: p26 :: p27 :: p28 :: p29 :: p30 :: p31 :: p32 :: p33 :: p34 :: p35 :: p36 :: p37 :: p38 :: p39 :: p40 :: p41 :: p42 :: p43 :: p44 :: p45 :: p46 :: p47 :: p48 :: p49 :: p50 :: p51 :: p52 :: p53 :: p54 ::  p55 :: L)[55]? = some p55 := rfl
theorem at56 {α : Type} {p0 p1 p2 p3 p4 p5 p6 p7 p8 p9 p10 p11 p12 p13 p14 p15 p16 p17 p18 p19 p20 p21 p22 p23 p24 p25 p26 p27 p28 p29 p30 p31 p32 p33 p34 p35 p36 p37 p38 p39 p40 p41 p42 p43 p44 p45 p46 p47 p48 p49 p50 p51 p52 p53 p54 p55 p56 : α} {L : List α} : (p0 :: p1 :: p2 :: p3 :: p4 :: p5 :: p6 :: p7 :: p8 :: p9 :: p10 :: p11 :: p12 :: p13 :: p14 :: p15 :: p16 :: p17 :: p18 :: p19 :: p20 :: p21 :: p22 :: p23 :: p24 :: p25 :: p26 :: p27 :: p28 :: p29 :: p30 :: p31 :: p32 :: p33 :: p34 :: p35 :: p36 :: p37 :: p38 :: p39 :: p40 :: p41 :: p42 :: p43 :: p44 :: p45 :: p46 :: p47 :: p48 :: p49 :: p50 :: p51 :: p52 :: p53 :: p54 :: p55 ::  p56 :: L)[56]? = some p56 := rfl
theorem at57 {α : Type} {p0 p1 p2 p3 p4 p5 p6 p7 p8 p9 p10 p11 p12 p13 p14 p15 p16 p17 p18 p19 p20 p21 p22 p23 p24 p25 p26 p27 p28 p29 p30 p31 p32 p33 p34 p35 p36 p37 p38 p39 p40 p41 p42 p43 p44 p45 p46 p47 p48 p49 p50 p51 p52 p53 p54 p55 p56 p57 : α} {L : List α} : (p0 :: p1 :: p2 :: p3 :: p4 :: p5 :: p6 :: p7 :: p8 :: p9 :: p10 :: p11 :: p12 :: p13 :: p14 :: p15 :: p16 :: p17 :: p18 :: p19 :: p20 :: p21 :: p22 :: p23 :: p24 :: p25 :: p26 :: p27 :: p28 :: p29 :: p30 :: p31 :: p32 :: p33 :: p34 :: p35 :: p36 :: p37 :: p38 :: p39 :: p40 :: p41 :: p42 :: p43 :: p44 :: p45 :: p46 :: p47 :: p48 :: p49 :: p50 :: p51 :: p52 :: p53 :: p54 :: p55 :: p56 ::  p57 :: L)[57]? = some p57 := rfl
theorem at58 {α : Type} {p0 p1 p2 p3 p4 p5 p6 p7 p8 p9 p10 p11 p12 p13 p14 p15 p16 p17 p18 p19 p20 p21 p22 p23 p24 p25 p26 p27 p28 p29 p30 p31 p32 p33 p34 p35 p36 p37 p38 p39 p40 p41 p42 p43 p44 p45 p46 p47 p48 p49 p50 p51 p52 p53 p54 p55 p56 p57 p58 : α} {L : List α} : (p0 :: p1 :: p2 :: p3 :: p4 :: p5 :: p6 :: p7 :: p8 :: p9 :: p10 :: p11 :: p12 :: p13 :: p14 :: p15 :: p16 :: p17 :: p18 :: p19 :: p20 :: p21 :: p22 :: p23 :: p24 :: p25 :: p26 :: p27 :: p28 :: p29 :: p30 :: p31 :: p32 :: p33 :: p34 :: p35 :: p36 :: p37 :: p38 :: p39 :: p40 :: p41 :: p42 :: p43 :: p44 :: p45 :: p46 :: p47 :: p48 :: p49 :: p50 :: p51 :: p52 :: p53 :: p54 :: p55 :: p56 :: p57 ::  p58 :: L)[58]? = some p58 := rfl
theorem at59 {α : Type} {p0 p1 p2 p3 p4 p5 p6 p7 p8 p9 p10 p11 p12 p13 p14 p15 p16 p17 p18 p19 p20 p21 p22 p23 p24 p25 p26 p27 p28 p29 p30 p31 p32 p33 p34 p35 p36 p37 p38 p39 p40 p41 p42 p43 p44 p45 p46 p47 p48 p49 p50 p51 p52 p53 p54 p55 p56 p57 p58 p59 : α} {L : List α} : (p0 :: p1 :: p2 :: p3 :: p4 :: p5 :: p6 :: p7 :: p8 :: p9 :: p10 :: p11 :: p12 :: p13 :: p14 :: p15 :: p16 :: p17 :: p18 :: p19 :: p20 :: p21 :: p22 :: p23 :: p24 :: p25 :: p26 :: p27 :: p28 :: p29 :: p30 :: p31 :: p32 :: p33 :: p34 :: p35 :: p36 :: p37 :: p38 :: p39 :: p40 :: p41 :: p42 :: p43 :: p44 :: p45 :: p46 :: p47 :: p48 :: p49 :: p50 :: p51 :: p52 :: p53 :: p54 :: p55 :: p56 :: p57 :: p58 ::  p59 :: L)[59]? = some p59 := rfl
theorem at60 {α : Type} {p0 p1 p2 p3 p4 p5 p6 p7 p8 p9 p10 p11 p12 p13 p14 p15 p16 p17 p18 p19 p20 p21 p22 p23 p24 p25 p26 p27 p28 p29 p30 p31 p32 p33 p34 p35 p36 p37 p38 p39 p40 p41 p42 p43 p44 p45 p46 p47 p48 p49 p50 p51 p52 p53 p54 p55 p56 p57 p58 p59 p60 : α} {L : List α} : (p0 :: p1 :: p2 :: p3 :: p4 :: p5 :: p6 :: p7 :: p8 :: p9 :: p10 :: p11 :: p12 :: p13 :: p14 :: p15 :: p16 :: p17 :: p18 :: p19 :: p20 :: p21 :: p22 :: p23 :: p24 :: p25 :: p26 :: p27 :: p28 :: p29 :: p30 :: p31 :: p32 :: p33 :: p34 :: p35 :: p36 :: p37 :: p38 :: p39 :: p40 :: p41 :: p42 :: p43 :: p44 :: p45 :: p46 :: p47 :: p48 :: p49 :: p50 :: p51 :: p52 :: p53 :: p54 :: p55 :: p56 :: p57 :: p58 :: p59 ::  p60 :: L)[60]? = some p60 := rfl
theorem at61 {α : Type} {p0 p1 p2 p3 p4 p5 p6 p7 p8 p9 p10 p11 p12 p13 p14 p15 p16 p17 p18 p19 p20 p21 p22 p23 p24 p25 p26 p27 p28 p29 p30 p31 p32 p33 p34 p35 p36 p37 p38 p39 p40 p41 p42 p43 p44 p45 p46 p47 p48 p49 p50 p51 p52 p53 p54 p55 p56 p57 p58 p59 p60 p61 : α} {L : List α} : (p0 :: p1 :: p2 :: p3 :: p4 :: p5 :: p6 :: p7 :: p8 :: p9 :: p10 :: p11 :: p12 :: p13 :: p14 :: p15 :: p16 :: p17 :: p18 :: p19 :: p20 :: p21 :: p22 :: p23 :: p24 :: p25 :: p26 :: p27 :: p28 :: p29 :: p30 :: p31 :: p32 :: p33 :: p34 :: p35 :: p36 :: p37 :: p38 :: p39 :: p40 :: p41 :: p42 :: p43 :: p44 :: p45 :: p46 :: p47 :: p48 :: p49 :: p50 :: p51 :: p52 :: p53 :: p54 :: p55 :: p56 :: p57 :: p58 :: p59 :: p60 ::  p61 :: L)[61]? = some p61 := rfl
theorem at62 {α : Type} {p0 p1 p2 p3 p4 p5 p6 p7 p8 p9 p10 p11 p12 p13 p14 p15 p16 p17 p18 p19 p20 p21 p22 p23 p24 p25 p26 p27 p28 p29 p30 p31 p32 p33 p34 p35 p36 p37 p38 p39 p40 p41 p42 p43 p44 p45 p46 p47 p48 p49 p50 p51 p52 p53 p54 p55 p56 p57 p58 p59 p60 p61 p62 : α} {L : List α} : (p0 :: p1 :: p2 :: p3 :: p4 :: p5 :: p6 :: p7 :: p8 :: p9 :: p10 :: p11 :: p12 :: p13 :: p14 :: p15 :: p16 :: p17 :: p18 :: p19 :: p20 :: p21 :: p22 :: p23 :: p24 :: p25 :: p26 :: p27 :: p28 :: p29 :: p30 :: p31 :: p32 :: p33 :: p34 :: p35 :: p36 :: p37 :: p38 :: p39 :: p40 :: p41 :: p42 :: p43 :: p44 :: p45 :: p46 :: p47 :: p48 :: p49 :: p50 :: p51 :: p52 :: p53 :: p54 :: p55 :: p56 :: p57 :: p58 :: p59 :: p60 :: p61 ::  p62 :: L)[62]? = some p62 := rfl
theorem at63 {α : Type} {p0 p1 p2 p3 p4 p5 p6 p7 p8 p9 p10 p11 p12 p13 p14 p15 p16 p17 p18 p19 p20 p21 p22 p23 p24 p25 p26 p27 p28 p29 p30 p31 p32 p33 p34 p35 p36 p37 p38 p39 p40 p41 p42 p43 p44 p45 p46 p47 p48 p49 p50 p51 p52 p53 p54 p55 p56 p57 p58 p59 p60 p61 p62 p63 : α} {L : List α} : (p0 :: p1 :: p2 :: p3 :: p4 :: p5 :: p6 :: p7 :: p8 :: p9 :: p10 :: p11 :: p12 :: p13 :: p14 :: p15 :: p16 :: p17 :: p18 :: p19 :: p20 :: p21 :: p22 :: p23 :: p24 :: p25 :: p26 :: p27 :: p28 :: p29 :: p30 :: p31 :: p32 :: p33 :: p34 :: p35 :: p36 :: p37 :: p38 :: p39 :: p40 :: p41 :: p42 :: p43 :: p44 :: p45 :: p46 :: p47 :: p48 :: p49 :: p50 :: p51 :: p52 :: p53 :: p54 :: p55 :: p56 :: p57 :: p58 :: p59 :: p60 :: p61 :: p62 ::  p63 :: L)[63]? = some p63 := rfl
end Go.Er
