/-
  Own memory that is only read from a point on; slices of read arrays; appending zeros to nil. For every program.
-/
import Derived.Test.YtgofigkhdjjlmaaAvV
set_option linter.unusedVariables false
set_option linter.unusedSimpArgs false
set_option linter.unusedSectionVars false
namespace Go.Av
open Go Go.RowKit

/-- The value reads as v' where only the objects of Hp stay own. -/
def Fz (h Hp : Heap) (v v' : AV) : Prop :=
  ∀ (B : Bs) (n : Nat) (M : Nat → Option Nat) (w : World) (u : Value), (∀ id o, lk Hp id = some o → lk h id = some o) → ConcH B (lt n) M (lk h) w → Rep (cx B n M h w) v u → Rep (cx B n M Hp w) v' u
theorem fz_ext {B : Bs} {n : Nat} {M : Nat → Option Nat} {w : World} {h Hp : Heap} (hs : ∀ id o, lk Hp id = some o → lk h id = some o) : Ext (cx B n M h w) (cx B n M Hp w) :=
  ⟨fun id hid => ⟨hid, rfl⟩, fun b hb hl => ⟨⟨hb.1, fun id o hid ho he => hb.2 id o hid (hs id o ho) he⟩, hl, rfl⟩, fun _ _ h => h⟩
theorem fz_same {h Hp : Heap} {v : AV} : Fz h Hp v v := fun B n M w u hs hc hu => Rep.ext (fz_ext hs) _ _ hu
theorem fz_ok {h Hp : Heap} {B : Bs} {n : Nat} {M : Nat → Option Nat} {w : World} (hs : ∀ id o, lk Hp id = some o → lk h id = some o) (hc : ConcH B (lt n) M (lk h) w) {id g : Nat} {o : AObj} (ho : lk h id = some o) (hn : lk Hp id = none) (hd : id < n) (hM : M id = some g) : okOf B (lt n) M (lk Hp) g := by
  refine ⟨?_, fun k o' hk hH he => ?_⟩
  · rcases hc.lo id o g hd ho hM with h1 | h1
    · exact .inr (.inl h1)
    · exact .inr (.inr h1)
  · have := hc.inj k id o' o g hk hd (hs k o' hH) ho he hM
    subst this
    rw [hn] at hH
    cases hH
theorem fz_own {h Hp : Heap} {id off n size : Nat} {full : Bool} {T : TypeId} {cs ys : List CV} (ho : lk h id = some (.row T cs)) (hn : lk Hp id = none) (hy : (cs.drop off).take (n * size) = ys) (hl : ys.length = n * size) : Fz h Hp (.own id off n size full) (.c (.sl size n ys)) := by
  intro B N M w u hs hc hu
  have hext := fz_ext (B := B) (n := N) (M := M) (w := w) hs
  simp only [Rep, cx] at hu
  obtain ⟨hd, hu⟩ := hu
  have hz : n = 0 → ∃ us, RepCs (okOf B (lt N) M (lk Hp)) w ys us ∧ ∀ u ∈ us, u.oneCell' = true := fun h0 => by
    subst h0
    have : ys = [] := List.eq_nil_of_length_eq_zero (by simpa using hl)
    subst this
    exact ⟨[], by simp [RepCs], by simp⟩
  rcases hu with ⟨h1, h2, h3, h4⟩ | ⟨g, cp, h1, h2, h3, h4, h5⟩ | ⟨h1, h2, A, cp, h3, h4⟩
  · obtain ⟨us, hus, hon⟩ := hz h1
    exact ⟨none, 0, us, by rw [h4, h1], by omega, by simp [maxLen], hl, hus, hon, fun hn => absurd hn (by omega)⟩
  · obtain ⟨us, vs, hb, hr, hon⟩ := obj_row (fun id o h _ => h) hc ho hd h1
    have h6 := (hr.drop off).take (n * size)
    rw [hy] at h6
    refine ⟨some ⟨g, off, none⟩, cp, (us.drop off).take (n * size), h2, h3, h4, hl, RepCs.mono hext.ok _ _ h6, fun u hu => hon u (List.mem_of_mem_drop (List.mem_of_mem_take hu)), fun hn' => ⟨g, off, rfl, fz_ok hs hc ho hn hd h1, lt_of_block hb, fun j x hj => ?_⟩⟩
    have hjk : j < n * size := by
      rcases Nat.lt_or_ge j (n * size) with h1 | h1
      · exact h1
      · rw [List.getElem?_eq_none (by rw [List.length_take]; omega)] at hj; cases hj
    rw [List.getElem?_take_of_lt hjk, List.getElem?_drop] at hj
    exact cell_row hb hj
  · obtain ⟨us, hus, hon⟩ := hz h1
    subst h1
    exact ⟨A, cp, us, h3, by omega, h4, hl, hus, hon, fun hn => absurd hn (by omega)⟩
theorem fz_ownW {h Hp : Heap} {id n size : Nat} {full : Bool} {T : TypeId} {cs : List CV} (ho : lk h id = some (.row T cs)) (hn : lk Hp id = none) (hl : cs.length = n * size) : Fz h Hp (.own id 0 n size full) (.c (.sl size n cs)) :=
  fz_own ho hn (by rw [List.drop_zero, List.take_of_length_le (by omega)]) hl
theorem fz_ref {h Hp : Heap} {id off : Nat} {T : TypeId} {cs : List CV} (ho : lk h id = some (.row T cs)) (hn : lk Hp id = none) : Fz h Hp (.ref id off) (.ip cs off) := by
  intro B N M w u hs hc hu
  have hext := fz_ext (B := B) (n := N) (M := M) (w := w) hs
  simp only [Rep, cx] at hu
  obtain ⟨hd, g, hM, hu⟩ := hu
  obtain ⟨us, vs, hb, hr, hon⟩ := obj_row (fun id o h _ => h) hc ho hd hM
  exact ⟨g, 0, us, by rw [hu, Nat.zero_add], fz_ok hs hc ho hn hd hM, lt_of_block hb, RepCs.mono hext.ok _ _ hr, hon, fun j x hj => by rw [Nat.zero_add]; exact cell_row hb hj⟩
theorem fz_c {h Hp : Heap} {x y : CV} (hc : Cv x y) : Fz h Hp (.c x) (.c y) := fun B n M w u hs hcc hu => by
  have := Rep.ext (fz_ext (B := B) (n := n) (M := M) (w := w) hs) _ _ hu
  exact hc _ _ _ this
theorem fz_eq {h Hp : Heap} {v x y : AV} (h1 : Fz h Hp v x) (h2 : x = y) : Fz h Hp v y := h2 ▸ h1
inductive FzE (env : Env) (h Hp : Heap) : Env → Prop
  | nil : FzE env h Hp []
  | cons {t : Nat} {v v' : AV} {E : Env} (hl : lkE env t = some v) (hf : Fz h Hp v v') (hr : FzE env h Hp E) : FzE env h Hp ((t, v') :: E)
theorem FzE.get {env E : Env} {h Hp : Heap} (hf : FzE env h Hp E) : ∀ t av, lkE E t = some av → ∃ v, lkE env t = some v ∧ Fz h Hp v av := by
  induction hf with
  | nil => intro t av ht; cases ht
  | cons hl hf hr ih =>
    intro k x hk
    rw [lkE_cons] at hk
    split at hk
    · rename_i e; subst e; injection hk with hk; subst hk; exact ⟨_, hl, hf⟩
    · exact ih k x hk
def subH (h : Heap) : Heap → Prop
  | [] => True
  | (i, o) :: r => lk h i = some o ∧ subH h r
theorem subH_get {h : Heap} : ∀ {Hp : Heap}, subH h Hp → ∀ id o, lk Hp id = some o → lk h id = some o
  | [], _, id, o, ho => by cases ho
  | (i, q) :: r, hs, id, o, ho => by
    rw [lk_cons] at ho
    split at ho
    · rename_i e; subst e; rw [hs.1]; rw [live_eq ho]
    · exact subH_get hs.2 id o ho
/-- From here on some own objects are only read. -/
theorem weak_fz {n : Nat} {env E : Env} {h Hp : Heap} {dfs : Defs} (hE : FzE env h Hp E) (hs : subH h Hp) : Weak n env h dfs n E Hp dfs := by
  intro B sz a w hc
  obtain ⟨M, c1, c2, c3, c4⟩ := hc
  have hs := subH_get hs
  have hext := fz_ext (B := B) (n := n) (M := M) (w := w) hs
  refine ⟨M, ⟨c1.fr, fun id o hid ho => (c1.obj id o hid (hs id o ho)).ext hext (fun _ _ => rfl), fun id id' o o' g k1 k2 k3 k4 => c1.inj id id' o o' g k1 k2 (hs id o k3) (hs id' o' k4), fun id o g k1 k2 => c1.lo id o g k1 (hs id o k2)⟩, c2, fun t av ht => ?_, c4.ext hext⟩
  obtain ⟨v, hv, hf⟩ := hE.get t av ht
  exact hf B n M w _ hs c1 (c3 t v hv)

theorem awl_weak {P : Program} {ops : Array Oper} {sz n N : Nat} {l : List Oper} {K : AK} {env E : Env} {h Hp : Heap} {dfs D : Defs} (hw : Weak n env h dfs N E Hp D) (hx : AWL P ops sz l K N E Hp D) : AWL P ops sz l K n env h dfs := fun B a w hc => hx B a w (hw B sz a w hc)
section ops
variable {P : Program} {tab : Tab} {ev : Evl} {h : Heap} {d : Option Tmp} {T ty : TypeId} {x y : Operand} {pos : String} {aft : Array Edge} {gd : Option (Nat × Bool)} {i : Nat}
/-- The slice of an array that is only read. -/
theorem s_slArri {e : TyE} {E n off l r size : Nat} {cs ys : List CV} {lo hi : Option Operand} (tb : TabOk P tab) (hT : tyLook tab T = some e) (hk : e.kind = .array n E) (hs : sizeF tab E = some size) (hx : ev x = some (.ip cs off)) (hlo : Bd ev 0 lo l) (hhi : Bd ev n hi r) (hlr : l ≤ r) (hr : r ≤ n) (hn : n ≤ maxLen) (hys : (cs.drop (off + l * size)).take ((r - l) * size) = ys) (hl : ys.length = (r - l) * size) : Still P ⟨d, .slice T x lo hi none, ty, pos, aft, gd⟩ ev h (.c (.sl size (r - l) ys)) := by
  obtain ⟨e', hE, hs⟩ := sizeF_eq hs
  subst hs
  intro B dom M H w a hh hc he
  have h1 := he x _ hx
  have hsz := (tyLook_ok tb hE).sizeOf w
  have hund := (tyLook_ok tb hT).array hk
  simp only [Rep] at h1
  obtain ⟨b, o, us, h3, hb1, hb2, hr1, hr3, hr2⟩ := h1
  have hb := run_bounds (P := P) (w := w) (c := n) false he hlo hhi hlr hr
  have hrun : (execOp a.eval ⟨d, .slice T x lo hi none, ty, pos, aft, gd⟩).run P w = .ok (.value (.slice (some (if n = l then ⟨b, o + off, none⟩ else (⟨b, o + off, none⟩ : Addr).add (l * e'.size))) (r - l) (n - l))) w := by
    simp [execOp, Instr.sliceAt, h3, Sem.run_bind, run_underlying hund, hb, hsz, Instr.sureAddr]
  have h9 := (hr1.drop (off + l * e'.size)).take ((r - l) * e'.size)
  rw [hys] at h9
  refine ⟨_, hrun, _, _, (us.drop (off + l * e'.size)).take ((r - l) * e'.size), rfl, by omega, by omega, hl, h9, fun u hu => hr3 u (List.mem_of_mem_drop (List.mem_of_mem_take hu)), fun hn' => ?_⟩
  refine ⟨b, o + off + l * e'.size, by rw [if_neg (by omega), add_mk], hb1, hb2, fun j u hj => ?_⟩
  have hjk : j < (r - l) * e'.size := by
    rcases Nat.lt_or_ge j ((r - l) * e'.size) with h1 | h1
    · exact h1
    · rw [List.getElem?_eq_none (by rw [List.length_take]; omega)] at hj; cases hj
  rw [List.getElem?_take_of_lt hjk, List.getElem?_drop] at hj
  rw [show o + off + l * e'.size + j = o + (off + l * e'.size + j) by omega]
  exact hr2 _ u hj
theorem s_slN {e : TyE} {E : Nat} {hi : Option Operand} (tb : TabOk P tab) (hT : tyLook tab T = some e) (hk : e.kind = .slice E) {e' : TyE} (hE : tyLook tab E = some e') (hhi : Bd ev 0 hi 0) (hx : ev x = some (.c (.v (.slice none 0 0)))) : Still P ⟨d, .slice T x none hi none, ty, pos, aft, gd⟩ ev h (.c (.v (.slice none 0 0))) := by
  intro B dom M H w a hh hc he
  have h1 := he x _ hx
  simp only [Rep, RepC] at h1
  have hb := run_bounds (P := P) (w := w) (n := 0) (c := 0) true he (Bd.no : Bd ev 0 none 0) hhi (Nat.le_refl _) (Nat.le_refl _)
  have hsz := (tyLook_ok tb hE).sizeOf w
  refine ⟨_, ?_, rfl⟩
  have hund := (tyLook_ok tb hT).slice hk
  simp only [Option.map_none] at hb
  simp [execOp, Instr.sliceAt, Instr.slice, h1, Sem.run_bind, run_underlying hund, hb, hsz]
theorem s_capN {e : TyE} {E : Nat} (tb : TabOk P tab) (hT : tyLook tab T = some e) (hk : e.kind = .slice E) {A : Option Addr} {n c : Nat} (hx : ev x = some (.c (.v (.slice A n c)))) : Still P ⟨d, .call ⟨.builtin .cap, #[x], #[T]⟩, ty, pos, aft, gd⟩ ev h (.c (.v (.int .i64 c))) := by
  intro B dom M H w a hh hc he
  have h1 := he x _ hx
  simp only [Rep, RepC] at h1
  refine ⟨_, ?_, rfl⟩
  simp [execOp, resolve, invoke, builtin, Builtin.cap_, h1, run_underlying ((tyLook_ok tb hT).slice hk), goInt]
theorem exec_append' {Ti : TypeId} {w : World} (ρ : Operand → Value) {v : Value} {w' : World} (hr : (Builtin.append_ #[T, Ti] ty #[ρ x, ρ y]).run P w = .ok v w') : (execOp ρ ⟨d, .call ⟨.builtin .append, #[x, y], #[T, Ti]⟩, ty, pos, aft, gd⟩).run P w = .ok (.value v) w' := by
  simp only [execOp, resolve, invoke, builtin, Sem.run_bind, Sem.run_pure, Result.andThen_ok, List.map_toArray, List.map_cons, List.map_nil, hr]
/-- Zeros appended to nil: room is made. -/
theorem a_appendZ {Ti : TypeId} {k : IntKind} {e e' ei : TyE} {E size m : Nat} {I : Int} (tb : TabOk P tab) (hT : tyLook tab T = some e) (hk : e.kind = .slice E) (hs0 : sizeF tab E = some size) (hE : tyLook tab E = some e') (hTi : tyLook tab Ti = some ei) (hki : ei.kind = .int k) (hs : Nat.beq e'.size size = true) (hz : Nat.beq e'.zero.length size = true) (hp : Nat.blt 0 size = true)
    (hx : ev x = some (.c (.v (.slice none 0 0)))) (hy : ev y = some (.c (.v (.int .i64 I)))) (hI : I = (m : Int)) (h0 : 0 < m) (h63 : m ≤ maxLen) (hb : m * e'.bytes ≤ 140737488355328) :
    Adds P ⟨d, .call ⟨.builtin .append, #[x, y], #[T, Ti]⟩, ty, pos, aft, gd⟩ ev h (.own i 0 m size true) [(i, .row E [])] i (i + 1) := by
  refine adds_one rfl fun B dom M H w a hh hcc he => ?_
  subst hI
  have h1 := he x _ hx
  have h2 := he y _ hy
  simp only [Rep, RepC] at h1 h2
  obtain ⟨ti, zv, hi, hzv, hszt, hby, hzc⟩ := zero_cells (tyLook_ok tb hE)
  have hs' := Nat.eq_of_beq_eq_true hs
  have hz' := Nat.eq_of_beq_eq_true hz
  have hzs : zv.cells.size = ti.size := by rw [← Array.length_toList, hzc, hz', hszt, hs']
  have hp' : 0 < ti.size := by rw [hszt, hs']; simpa using hp
  rw [← hby] at hb
  simp only [maxLen] at h63
  have hw : IntKind.i64.wrap (m : Int) = (m : Int) := w64 (by omega) (by omega)
  have c1 : ¬ ((m : Int) < 0) := by omega
  have c2 : ¬ ((281474976710656 : Int) < (m : Int) * (ti.bytes : Int)) := by
    have h3 : ((m * ti.bytes : Nat) : Int) = (m : Int) * (ti.bytes : Int) := Int.natCast_mul _ _
    omega
  have c3 : ¬ ((m : Int) ≤ 0) := by omega
  have c4 : max (m : Int) 0 = (m : Int) := by omega
  have c5 : ¬ (m * ti.size = 0) := by
    have := Nat.mul_pos h0 hp'
    omega
  have hn : m ≠ 0 := by omega
  have h63' : ¬ (9223372036854775807 < (m : Int)) := by omega
  have h48' : ¬ (281474976710656 < Builtin.nextslicecap m 0 * ti.bytes) := by rw [nextslicecap_zero h0]; omega
  have hms : ¬ (m = 0 ∨ ti.size = 0) := by omega
  have hr : (Builtin.append_ #[T, Ti] ty #[.slice none 0 0, .int .i64 m]).run P w = .ok (.slice (some ⟨w.heap.size, 0, none⟩) m (grownCap w m 0 E)) (w.drew.alloc (.cells (Builtin.zeroCells zv.cells m ++ Builtin.zeroCells zv.cells (grownCap w m 0 E - m)) E)) := by
    simp [Builtin.append_, run_underlying ((tyLook_ok tb hT).slice hk), run_underlying ((tyLook_ok tb hTi).int hki), sizeOf, typeInfo, zeroValue, hi, hzv, asInt, asIntOf, hw, c1, c2, c3, c4, c5, hn, h63', h48', hms, Question.forced, run_firstCells_none, newRow, grownCap]
  have hge := grownCap_ge w m 0 E
  have hle := grownCap_le_maxLen w m 0 E (by simp only [maxLen]; omega)
  have hbl : (w.drew.alloc (.cells (Builtin.zeroCells zv.cells m ++ Builtin.zeroCells zv.cells (grownCap w m 0 E - m)) E)).heap[w.heap.size]? = some (.cells (([] : List Value) ++ (Builtin.zeroCells zv.cells m ++ Builtin.zeroCells zv.cells (grownCap w m 0 E - m)).toList).toArray E (0, 0)) := by
    rw [show w.heap.size = w.drew.heap.size from rfl, heap_alloc_new]
    simp
  refine ⟨_, _, some w.heap.size, exec_append' a.eval (by rw [h1, h2]; exact hr), ((Below.refl _ _).drew).alloc (Nat.le_refl _) _, fun g hg => by injection hg with hg; omega, fun C hext hw hd hM => ⟨.inr ⟨w.heap.size, [], _, rfl, by rw [hw]; exact hbl, by simp [RepCs], by simp⟩, hd, .inr (.inl ⟨w.heap.size, _, hM, rfl, hge, hle, fun _ => ⟨E, ?_⟩⟩)⟩⟩
  unfold World.shape?
  rw [hw, hbl]
  simp only [List.nil_append, List.size_toArray, Nat.zero_add, Array.length_toList, Array.size_append, size_zeroCells, hzs, hszt, hs', ← Nat.add_mul]
  congr 3
  omega
end ops
end Go.Av
