/-
  The walk's laws over a world of which 'St' is known: loads from, stores into and makings of blocks of the call's own. For every program.
-/
import Derived.Test.YtddlgdppfeeplaaLib
import Derived.Defers
import Derived.StillTailTactics
import Derived.Recover
set_option linter.unusedVariables false
set_option linter.unusedSimpArgs false
namespace Go.Er
open Go Go.RowKit

/-- A row of the table of types: is it a struct or an array; how many cells; the zero value's cells. -/
structure TyE where
  agg : Bool
  size : Nat
  zero : List Value

def aggB (P : Program) (t : TypeId) : Bool := match P.underlying t with | some (.struct _) | some (.array _ _) => true | _ => false

def TyOk (P : Program) (t : TypeId) (e : TyE) : Prop :=
  (P.info? t).map (fun i => (i.size, i.zero.map (·.cells.toList))) = some (e.size, some e.zero) ∧ (P.underlying t).isSome = true ∧ aggB P t = e.agg

def TabOk (P : Program) : List (TypeId × TyE) → Prop
  | [] => True
  | x :: r => TyOk P x.1 x.2 ∧ TabOk P r

def tyLook (t : TypeId) : List (TypeId × TyE) → Option TyE
  | [] => none
  | x :: r => if t = x.1 then some x.2 else tyLook t r

theorem tyLook_ok {P : Program} {t : TypeId} {e : TyE} : ∀ {tab : List (TypeId × TyE)}, TabOk P tab → tyLook t tab = some e → TyOk P t e
  | [], _, h => by cases h
  | x :: r, ht, h => by
    unfold tyLook at h
    split at h
    · rename_i he; subst he; injection h with h; subst h; exact ht.1
    · exact tyLook_ok ht.2 h

theorem TyOk.parts {P : Program} {t : TypeId} {e : TyE} (h : TyOk P t e) : ∃ i, P.info? t = some i ∧ i.size = e.size ∧ ∃ z, i.zero = some z ∧ z.cells.toList = e.zero := by
  obtain ⟨h1, _, _⟩ := h
  obtain ⟨i, hi, he⟩ := Option.map_eq_some_iff.1 h1
  simp only [Prod.mk.injEq] at he
  obtain ⟨z, hz, he2⟩ := Option.map_eq_some_iff.1 he.2
  exact ⟨i, hi, he.1, z, hz, he2⟩

theorem TyOk.isAgg {P : Program} {t : TypeId} {e : TyE} (h : TyOk P t e) (w : World) : (isAgg t).run P w = .ok e.agg w := by
  obtain ⟨_, h2, h3⟩ := h
  obtain ⟨d, hd⟩ := Option.isSome_iff_exists.1 h2
  unfold Go.isAgg
  rw [Sem.run_bind, run_underlying hd w]
  unfold aggB at h3
  rw [hd] at h3
  rw [← h3]
  cases d <;> simp

/-- The cells vs laid over cs from place off on. -/
def ins (cs : List Value) (off : Nat) : List Value → List Value
  | [] => cs
  | v :: vs => ins (cs.set off v) (off + 1) vs

theorem ins_eq : ∀ (vs cs : List Value) (off : Nat), off + vs.length ≤ cs.length → ins cs off vs = cs.take off ++ vs ++ cs.drop (off + vs.length)
  | [], cs, off, _ => by simp [ins]
  | v :: vs, cs, off, h => by
    simp only [List.length_cons] at h
    rw [ins, ins_eq vs (cs.set off v) (off + 1) (by simp; omega)]
    have := list_seg_step cs off v vs (by omega)
    simpa [Nat.add_assoc, Nat.add_comm 1] using this

theorem ins_length (vs cs : List Value) (off : Nat) : (ins cs off vs).length = cs.length := by
  induction vs generalizing cs off with
  | nil => rfl
  | cons v vs ih => rw [ins, ih]; simp

theorem own0 {p0 : Own} {L : List Own} : (p0 :: L)[0]? = some p0 := rfl
theorem own1 {p0 p1 : Own} {L : List Own} : (p0 :: p1 :: L)[1]? = some p1 := rfl
theorem own2 {p0 p1 p2 : Own} {L : List Own} : (p0 :: p1 :: p2 :: L)[2]? = some p2 := rfl
theorem own3 {p0 p1 p2 p3 : Own} {L : List Own} : (p0 :: p1 :: p2 :: p3 :: L)[3]? = some p3 := rfl
theorem own4 {p0 p1 p2 p3 p4 : Own} {L : List Own} : (p0 :: p1 :: p2 :: p3 :: p4 :: L)[4]? = some p4 := rfl
theorem own5 {p0 p1 p2 p3 p4 p5 : Own} {L : List Own} : (p0 :: p1 :: p2 :: p3 :: p4 :: p5 :: L)[5]? = some p5 := rfl
theorem own6 {p0 p1 p2 p3 p4 p5 p6 : Own} {L : List Own} : (p0 :: p1 :: p2 :: p3 :: p4 :: p5 :: p6 :: L)[6]? = some p6 := rfl
theorem own7 {p0 p1 p2 p3 p4 p5 p6 p7 : Own} {L : List Own} : (p0 :: p1 :: p2 :: p3 :: p4 :: p5 :: p6 :: p7 :: L)[7]? = some p7 := rfl
theorem own8 {p0 p1 p2 p3 p4 p5 p6 p7 p8 : Own} {L : List Own} : (p0 :: p1 :: p2 :: p3 :: p4 :: p5 :: p6 :: p7 :: p8 :: L)[8]? = some p8 := rfl
theorem own9 {p0 p1 p2 p3 p4 p5 p6 p7 p8 p9 : Own} {L : List Own} : (p0 :: p1 :: p2 :: p3 :: p4 :: p5 :: p6 :: p7 :: p8 :: p9 :: L)[9]? = some p9 := rfl

section vals
variable {a : Act} {x : Operand}
theorem evInt {k : IntKind} {n : Int} (h : a.eval x = .int k n) : a.eval x = .int k n := h
theorem evBool {b : Bool} (h : a.eval x = .bool b) : a.eval x = .bool b := h
theorem evSlice {A : Option Addr} {n c : Nat} (h : a.eval x = .slice A n c) : a.eval x = .slice A n c := h
theorem evStr {s : ByteArray} (h : a.eval x = .string s) : a.eval x = .string s := h
theorem evPtr {p : Option Addr} (h : a.eval x = .pointer p) : a.eval x = .pointer p := h
theorem evFn {f : Fn} {u v : Array Value} (h : a.eval x = .func f u v) : a.eval x = .func f u v := h
theorem evNilFn (h : a.eval x = .nilFunc) : a.eval x = .nilFunc := h
theorem evIf {t : TypeId} {v : Value} (h : a.eval x = .iface t v) : a.eval x = .iface t v := h
theorem evNil (h : a.eval x = .nilIface) : a.eval x = .nilIface := h
theorem evMap {r : Option Nat} (h : a.eval x = .map r) : a.eval x = .map r := h
end vals

section guards
variable {P : Program} {w : World} {ops : Array Oper} {rest : List Oper} {a : Act} {Q : Exit → Act → World → Prop} {d : Option Tmp} {T ty : TypeId} {x y : Operand} {pos : String} {aft : Array Edge} {gd : Option (Nat × Bool)}
theorem is_load (h : wpList P ops Q (⟨d, .load T x, ty, pos, aft, gd⟩ :: rest) a w) : wpList P ops Q (⟨d, .load T x, ty, pos, aft, gd⟩ :: rest) a w := h
theorem is_store (h : wpList P ops Q (⟨d, .store T x y, ty, pos, aft, gd⟩ :: rest) a w) : wpList P ops Q (⟨d, .store T x y, ty, pos, aft, gd⟩ :: rest) a w := h
theorem is_alloc (h : wpList P ops Q (⟨d, .alloc T, ty, pos, aft, gd⟩ :: rest) a w) : wpList P ops Q (⟨d, .alloc T, ty, pos, aft, gd⟩ :: rest) a w := h
theorem is_box (h : wpList P ops Q (⟨d, .box T x, ty, pos, aft, gd⟩ :: rest) a w) : wpList P ops Q (⟨d, .box T x, ty, pos, aft, gd⟩ :: rest) a w := h
theorem is_make (h : wpList P ops Q (⟨d, .makeSlice T x y, ty, pos, aft, gd⟩ :: rest) a w) : wpList P ops Q (⟨d, .makeSlice T x y, ty, pos, aft, gd⟩ :: rest) a w := h
theorem is_conv {S : TypeId} (h : wpList P ops Q (⟨d, .convert S T x, ty, pos, aft, gd⟩ :: rest) a w) : wpList P ops Q (⟨d, .convert S T x, ty, pos, aft, gd⟩ :: rest) a w := h
theorem is_bslice {n : Nat} {ps : Array (Nat × Operand)} (h : wpList P ops Q (⟨d, .buildSlice T n ps, ty, pos, aft, gd⟩ :: rest) a w) : wpList P ops Q (⟨d, .buildSlice T n ps, ty, pos, aft, gd⟩ :: rest) a w := h
theorem is_copy {ts : Array TypeId} (h : wpList P ops Q (⟨d, .call ⟨.builtin .copy, #[x, y], ts⟩, ty, pos, aft, gd⟩ :: rest) a w) : wpList P ops Q (⟨d, .call ⟨.builtin .copy, #[x, y], ts⟩, ty, pos, aft, gd⟩ :: rest) a w := h
theorem is_append {ts : Array TypeId} (h : wpList P ops Q (⟨d, .call ⟨.builtin .append, #[x, y], ts⟩, ty, pos, aft, gd⟩ :: rest) a w) : wpList P ops Q (⟨d, .call ⟨.builtin .append, #[x, y], ts⟩, ty, pos, aft, gd⟩ :: rest) a w := h
end guards

section laws
variable {P : Program} {tab : List (TypeId × TyE)} {w0 w : World} {L : List Own} {F : List Fct} {ops : Array Oper} {rest : List Oper} {a : Act} {Q : Exit → Act → World → Prop}
  {d : Option Tmp} {T ty : TypeId} {x y : Operand} {pos : String} {aft : Array Edge}

theorem run_load_own (h : St w0 L F w) (i : Nat) {g off : Nat} {t : TypeId} {cs : List Value} {v : Value} (hp : L[i]? = some (.blk g t cs)) (hv : cs[off]? = some v) : w.cell? ⟨g, off, none⟩ = some v := by
  have hb := h.blk i hp
  simp only [World.cell?, hb]
  simpa using hv

theorem st_load1 (tb : TabOk P tab) (h : St w0 L F w) (i : Nat) {k : Nat} {z : List Value} {g off : Nat} {t : TypeId} {cs : List Value} {v : Value} {gd : Option (Nat × Bool)} (hgd : Region.wanted ⟨d, .load T x, ty, pos, aft, gd⟩ (yielded ops a.tmps) = true)
    (hT : tyLook T tab = some ⟨false, k, z⟩) (hx : a.eval x = .pointer (some ⟨g, off, none⟩))
    (hp : L[i]? = some (.blk g t cs)) (hv : cs[off]? = some v) (next : wpList P ops Q rest (a.put d v) w) : wpList P ops Q (⟨d, .load T x, ty, pos, aft, gd⟩ :: rest) a w := by
  refine wpList_step fun K hK => ?_
  rw [if_pos hgd]
  have hc := run_load_own h i hp hv
  have ha := (tyLook_ok tb hT).isAgg w
  unfold Oper.wp execOp
  simp only [hx, Instr.loadAt, Instr.sureAddr, Sem.run_bind, Sem.run_pure, Result.andThen_ok, loadVar, ha]
  simp [hc]
  exact hK _ _ next

theorem run_loadVar_agg (tb : TabOk P tab) (h : St w0 L F w) (i : Nat) {T : TypeId} {k : Nat} {z : List Value} {g off : Nat} {t : TypeId} {cs vs : List Value} (hT : tyLook T tab = some ⟨true, k, z⟩)
    (hp : L[i]? = some (.blk g t cs)) (hv : (cs.drop off).take k = vs) (hk : vs.length = k) : (loadVar T ⟨g, off, none⟩).run P w = .ok (.agg vs.toArray) w := by
  have hb := h.blk i hp
  have ha := (tyLook_ok tb hT).isAgg w
  obtain ⟨ti, hi, hs, _⟩ := (tyLook_ok tb hT).parts
  have hl : (loadCells ⟨g, off, none⟩ vs.length).run P w = .ok vs.toArray w :=
    run_loadCells_list (P := P) w ⟨g, off, none⟩ vs (fun j v hj => by
      rw [add_mk]
      simp only [World.cell?, hb]
      rw [← hv] at hj
      have hjk : j < k := by
        rcases Nat.lt_or_ge j k with h1 | h1
        · exact h1
        · rw [List.getElem?_eq_none (by rw [List.length_take]; omega)] at hj; cases hj
      rw [List.getElem?_take_of_lt hjk, List.getElem?_drop] at hj
      simpa using hj)
  rw [hk] at hl
  simp [loadVar, Sem.run_bind, ha, sizeOf, typeInfo, hi, hs, hl]

theorem run_loadVar_one (tb : TabOk P tab) (h : St w0 L F w) (i : Nat) {T : TypeId} {k : Nat} {z : List Value} {g off : Nat} {t : TypeId} {cs : List Value} {v : Value} (hT : tyLook T tab = some ⟨false, k, z⟩)
    (hp : L[i]? = some (.blk g t cs)) (hv : cs[off]? = some v) : (loadVar T ⟨g, off, none⟩).run P w = .ok v w := by
  have hc := run_load_own h i hp hv
  have ha := (tyLook_ok tb hT).isAgg w
  simp [loadVar, Sem.run_bind, ha, hc]

theorem st_loadA (tb : TabOk P tab) (h : St w0 L F w) (i : Nat) {k : Nat} {z : List Value} {g off : Nat} {t : TypeId} {cs vs : List Value} {gd : Option (Nat × Bool)} (hgd : Region.wanted ⟨d, .load T x, ty, pos, aft, gd⟩ (yielded ops a.tmps) = true)
    (hT : tyLook T tab = some ⟨true, k, z⟩) (hx : a.eval x = .pointer (some ⟨g, off, none⟩))
    (hp : L[i]? = some (.blk g t cs)) (hv : (cs.drop off).take k = vs) (hk : vs.length = k) (next : wpList P ops Q rest (a.put d (.agg vs.toArray)) w) : wpList P ops Q (⟨d, .load T x, ty, pos, aft, gd⟩ :: rest) a w := by
  refine wpList_step fun K hK => ?_
  rw [if_pos hgd]
  have hl := run_loadVar_agg tb h i hT hp hv hk
  unfold Oper.wp execOp
  simp only [hx, Instr.loadAt, Instr.sureAddr, Sem.run_bind, Sem.run_pure, Result.andThen_ok, hl]
  exact hK _ _ next

theorem st_loadW (tb : TabOk P tab) (h : St w0 L F w) (i : Nat) {k : Nat} {z : List Value} {g : Nat} {t : TypeId} {cs : List Value} {gd : Option (Nat × Bool)} (hgd : Region.wanted ⟨d, .load T x, ty, pos, aft, gd⟩ (yielded ops a.tmps) = true)
    (hT : tyLook T tab = some ⟨true, k, z⟩) (hx : a.eval x = .pointer (some ⟨g, 0, none⟩))
    (hp : L[i]? = some (.blk g t cs)) (hk : cs.length = k) (next : wpList P ops Q rest (a.put d (.agg cs.toArray)) w) : wpList P ops Q (⟨d, .load T x, ty, pos, aft, gd⟩ :: rest) a w :=
  st_loadA tb h i hgd hT hx hp (by rw [List.drop_zero, List.take_of_length_le (by omega)]) hk next

theorem run_storeVar_own (tb : TabOk P tab) (h : St w0 L F w) (i : Nat) {T : TypeId} {e : TyE} {g off : Nat} {t : TypeId} {cs vs : List Value} {v : Value} (hT : tyLook T tab = some e)
    (hp : L[i]? = some (.blk g t cs)) (hv : v.cells.toList = vs) (hk : vs.length = e.size) (hfit : off + vs.length ≤ cs.length) (h1 : vs.all (·.oneCell') = true) :
    (storeVar T ⟨g, off, none⟩ v).run P w = .ok () (w.setRow g (ins cs off vs).toArray) := by
  have hb := h.blk i hp
  obtain ⟨ti, hi, hs, _⟩ := (tyLook_ok tb hT).parts
  have hst := run_storeCells_at P g off t vs 0 cs.toArray w hb (by simpa using hfit) (fun v hv => by simpa using List.all_eq_true.1 h1 v hv)
  have hsz : v.cells.size = ti.size := by rw [hs, ← hk, ← hv]; simp
  simp only [storeVar, sizeOf, typeInfo, Sem.run_bind]
  simp [hi, hsz, hv, hst]
  rw [ins_eq vs cs off hfit]
  simp

theorem st_storeA (tb : TabOk P tab) (h : St w0 L F w) (i : Nat) {e : TyE} {g off : Nat} {t : TypeId} {cs vs : List Value} (hT : tyLook T tab = some e) (hx : a.eval x = .pointer (some ⟨g, off, none⟩))
    (hp : L[i]? = some (.blk g t cs)) (hv : a.eval y = .agg vs.toArray) (hk : vs.length = e.size) (hfit : off + vs.length ≤ cs.length) (h1 : vs.all (·.oneCell') = true)
    (next : ∀ w', St w0 (L.set i (.blk g t (ins cs off vs))) F w' → wpList P ops Q rest a w') : wpList P ops Q (⟨none, .store T x y, ty, pos, aft, none⟩ :: rest) a w := by
  refine wpList_plain rfl fun K hK => ?_
  have hst := run_storeVar_own tb h i hT hp (v := .agg vs.toArray) rfl hk hfit h1
  unfold Oper.wp execOp
  simp only [hx, hv, Instr.storeAt, Instr.sureAddr, Sem.run_bind, Sem.run_pure, Result.andThen_ok, hst]
  exact hK _ _ (next _ (h.setRow i hp (ins cs off vs)))

theorem ins_whole (vs cs : List Value) (h : vs.length = cs.length) : ins cs 0 vs = vs := by
  rw [ins_eq _ _ _ (by omega)]
  simp [h]

theorem st_storeW (tb : TabOk P tab) (h : St w0 L F w) (i : Nat) {e : TyE} {g : Nat} {t : TypeId} {cs vs : List Value} (hT : tyLook T tab = some e) (hx : a.eval x = .pointer (some ⟨g, 0, none⟩))
    (hp : L[i]? = some (.blk g t cs)) (hv : a.eval y = .agg vs.toArray) (hk : vs.length = e.size) (hfit : vs.length = cs.length) (h1 : vs.all (·.oneCell') = true)
    (next : ∀ w', St w0 (L.set i (.blk g t vs)) F w' → wpList P ops Q rest a w') : wpList P ops Q (⟨none, .store T x y, ty, pos, aft, none⟩ :: rest) a w :=
  st_storeA tb h i hT hx hp hv hk (by omega) h1 (by rw [ins_whole _ _ hfit]; exact next)

theorem st_store1 (tb : TabOk P tab) (h : St w0 L F w) (i : Nat) {agg : Bool} {z : List Value} {g off : Nat} {t : TypeId} {cs : List Value} {v : Value} (hT : tyLook T tab = some ⟨agg, 1, z⟩) (hx : a.eval x = .pointer (some ⟨g, off, none⟩))
    (hp : L[i]? = some (.blk g t cs)) (hv : a.eval y = v) (hc : v.cells = #[v]) (hfit : off + 1 ≤ cs.length) (h1 : v.oneCell' = true)
    (next : ∀ w', St w0 (L.set i (.blk g t (cs.set off v))) F w' → wpList P ops Q rest a w') : wpList P ops Q (⟨none, .store T x y, ty, pos, aft, none⟩ :: rest) a w := by
  refine wpList_plain rfl fun K hK => ?_
  have hst := run_storeVar_own tb h i (vs := [v]) hT hp (v := v) (by rw [hc]) rfl hfit (by simp [h1])
  unfold Oper.wp execOp
  simp only [hx, hv, Instr.storeAt, Instr.sureAddr, Sem.run_bind, Sem.run_pure, Result.andThen_ok, hst]
  exact hK _ _ (next _ (h.setRow i hp (cs.set off v)))

theorem st_alloc (tb : TabOk P tab) (h : St w0 L F w) {e : TyE} (hT : tyLook T tab = some e)
    (next : ∀ w' g, St w0 (.blk g T e.zero :: L) F w' → wpList P ops Q rest (a.put d (.pointer (some ⟨g, 0, none⟩))) w') : wpList P ops Q (⟨d, .alloc T, ty, pos, aft, none⟩ :: rest) a w := by
  refine wpList_plain rfl fun K hK => ?_
  obtain ⟨ti, hi, hs, z, hz, hzc⟩ := (tyLook_ok tb hT).parts
  unfold Oper.wp execOp
  simp [Instr.alloc, zeroValue, typeInfo, hi, hz, newVar, newRow]
  have := h.alloc T e.zero
  rw [← hzc] at this
  refine hK _ _ (next _ _ ?_)
  rw [← hzc]
  simpa using this

theorem st_boxA (h : St w0 L F w) {vs : List Value} (hv : a.eval x = .agg vs.toArray)
    (next : ∀ w' g, St w0 (.blk g T vs :: L) F w' → wpList P ops Q rest (a.put d (.pointer (some ⟨g, 0, none⟩))) w') : wpList P ops Q (⟨d, .box T x, ty, pos, aft, none⟩ :: rest) a w := by
  refine wpList_plain rfl fun K hK => ?_
  unfold Oper.wp execOp
  simp [Instr.box, newVar, newRow, hv, Value.cells]
  exact hK _ _ (next _ _ (h.alloc T vs))

theorem st_box1 (h : St w0 L F w) {v : Value} (hv : a.eval x = v) (hc : v.cells = #[v])
    (next : ∀ w' g, St w0 (.blk g T [v] :: L) F w' → wpList P ops Q rest (a.put d (.pointer (some ⟨g, 0, none⟩))) w') : wpList P ops Q (⟨d, .box T x, ty, pos, aft, none⟩ :: rest) a w := by
  refine wpList_plain rfl fun K hK => ?_
  unfold Oper.wp execOp
  simp [Instr.box, newVar, newRow, hv, hc]
  exact hK _ _ (next _ _ (h.alloc T [v]))

theorem st_tail {id : Nat} {l : List Oper} (n : Nat) (hm : P.follows .mixedOrders = true) (hB : Region.lexTailB .any l.toArray n = true) (h : St w0 L F w)
    (next : ∀ w', St w0 L F w' → wpStill P l.toArray w' (fun a' => wpList P l.toArray Q (l.drop n) a' w') (l.take n) a) : (Code.region id l.toArray true).wp P Q a w :=
  wp_region_still_tail n hm hB (next _ h.drew)

theorem isl_load {K : Act → Prop} {gd : Option (Nat × Bool)} (h : wpStill P ops w K (⟨d, .load T x, ty, pos, aft, gd⟩ :: rest) a) : wpStill P ops w K (⟨d, .load T x, ty, pos, aft, gd⟩ :: rest) a := h

theorem stl_load1 {K : Act → Prop} (tb : TabOk P tab) (h : St w0 L F w) (i : Nat) {k : Nat} {z : List Value} {g off : Nat} {t : TypeId} {cs : List Value} {v : Value} {gd : Option (Nat × Bool)} (hgd : Region.wanted ⟨d, .load T x, ty, pos, aft, gd⟩ (yielded ops a.tmps) = true)
    (hT : tyLook T tab = some ⟨false, k, z⟩) (hx : a.eval x = .pointer (some ⟨g, off, none⟩))
    (hp : L[i]? = some (.blk g t cs)) (hv : cs[off]? = some v) (next : wpStill P ops w K rest (a.put d v)) : wpStill P ops w K (⟨d, .load T x, ty, pos, aft, gd⟩ :: rest) a := by
  refine wpStill_step fun K' hK => ?_
  rw [if_pos hgd]
  have hl := run_loadVar_one tb h i hT hp hv
  unfold Oper.still execOp
  simp only [hx, Instr.loadAt, Instr.sureAddr, Sem.run_bind, Sem.run_pure, Result.andThen_ok, hl]
  exact ⟨rfl, hK _ next⟩

theorem stl_loadW {K : Act → Prop} (tb : TabOk P tab) (h : St w0 L F w) (i : Nat) {k : Nat} {z : List Value} {g : Nat} {t : TypeId} {cs : List Value} {gd : Option (Nat × Bool)} (hgd : Region.wanted ⟨d, .load T x, ty, pos, aft, gd⟩ (yielded ops a.tmps) = true)
    (hT : tyLook T tab = some ⟨true, k, z⟩) (hx : a.eval x = .pointer (some ⟨g, 0, none⟩))
    (hp : L[i]? = some (.blk g t cs)) (hk : cs.length = k) (next : wpStill P ops w K rest (a.put d (.agg cs.toArray))) : wpStill P ops w K (⟨d, .load T x, ty, pos, aft, gd⟩ :: rest) a := by
  refine wpStill_step fun K' hK => ?_
  rw [if_pos hgd]
  have hl := run_loadVar_agg tb h i hT hp (vs := cs) (off := 0) (by rw [List.drop_zero, List.take_of_length_le (by omega)]) hk
  unfold Oper.still execOp
  simp only [hx, Instr.loadAt, Instr.sureAddr, Sem.run_bind, Sem.run_pure, Result.andThen_ok, hl]
  exact ⟨rfl, hK _ next⟩

/-- What a result variable reads as. -/
def Res (P : Program) (w : World) (tmps : Array Value) : ResultVar → Value → Prop
  | .tmp t, v => tmps.getD t undef = v
  | .cell p T, v => ∃ q, tmps.getD p undef = .pointer (some q) ∧ (loadVar T q).run P w = .ok v w

theorem Res.agg (tb : TabOk P tab) (h : St w0 L F w) {tmps : Array Value} {p : Tmp} (i : Nat) {k : Nat} {z : List Value} {g : Nat} {t : TypeId} {cs : List Value} (hx : tmps.getD p undef = .pointer (some ⟨g, 0, none⟩))
    (hT : tyLook T tab = some ⟨true, k, z⟩) (hp : L[i]? = some (.blk g t cs)) (hk : cs.length = k) : Res P w tmps (.cell p T) (.agg cs.toArray) :=
  ⟨_, hx, run_loadVar_agg tb h i hT hp (by rw [List.drop_zero, List.take_of_length_le (by omega)]) hk⟩

theorem Res.one (tb : TabOk P tab) (h : St w0 L F w) {tmps : Array Value} {p : Tmp} (i : Nat) {k : Nat} {z : List Value} {g : Nat} {t : TypeId} {cs : List Value} {v : Value} (hx : tmps.getD p undef = .pointer (some ⟨g, 0, none⟩))
    (hT : tyLook T tab = some ⟨false, k, z⟩) (hp : L[i]? = some (.blk g t cs)) (hv : cs[0]? = some v) : Res P w tmps (.cell p T) v :=
  ⟨_, hx, run_loadVar_one tb h i hT hp hv⟩

theorem ret1 {fn : Func} {tmps : Array Value} {r1 : ResultVar} {v1 : Value} (hf : fn.results = #[r1]) (h1 : Res P w tmps r1 v1) : (results fn tmps).run P w = .ok v1 w := by
  cases r1 with
  | tmp t => simp only [Res] at h1; simp [results, hf, ← h1]
  | cell p T =>
    obtain ⟨q, hq, hl⟩ := h1
    simp at hq
    simp [results, hf, hq, asAddr, hl]

theorem ret2 {fn : Func} {tmps : Array Value} {r1 r2 : ResultVar} {v1 v2 : Value} (hf : fn.results = #[r1, r2]) (h1 : Res P w tmps r1 v1) (h2 : Res P w tmps r2 v2) : (results fn tmps).run P w = .ok (.tuple #[v1, v2]) w := by
  cases r1 <;> cases r2 <;> simp only [Res] at h1 h2
  · simp at h1 h2; simp [results, hf, h1, h2]
  · obtain ⟨q, hq, hl⟩ := h2
    simp at hq h1
    simp [results, hf, hq, asAddr, hl, h1]
  · obtain ⟨q, hq, hl⟩ := h1
    simp at hq h2
    simp [results, hf, hq, asAddr, hl, h2]
  · obtain ⟨q, hq, hl⟩ := h1
    obtain ⟨q', hq', hl'⟩ := h2
    simp at hq hq'
    simp [results, hf, hq, asAddr, hl, hq', hl']

/-- The door of a function that defers one closure, which recovers nothing. -/
theorem door1 {fn : Func} {R : Ending → World → Prop} {tmps : Array Value} {f : FuncId} {cap : Array Value} {v : Value}
    (hc : CallsD P f cap .returning w fun e u' w' => e = .returned (.tuple #[]) ∧ u' = .returning ∧ w' = w)
    (hr : (results fn tmps).run P w = .ok v w) (hR : R (.returned v) w)
    (hi : (invoke (.fn (.func f) cap) #[]).run P w = .ok (.enter f cap) w) :
    bodyPostD P fn R .ret { tmps := tmps, defers := [{ target := .fn (.func f) cap, args := #[] }] } w := by
  show Leaves P fn tmps R _ .returning w
  refine leaves_cons (by simp) hi (hc.mono ?_)
  rintro e u' w' ⟨rfl, rfl, rfl⟩
  exact ⟨v, hr, hR⟩
end laws
end Go.Er
