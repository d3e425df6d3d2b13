/-
  What single operations yield on abstract values: new memory; append and copy; deferred calls. For every program.
-/
import Derived.Test.YtgofigkhdjjlmaaAvG
set_option linter.unusedVariables false
set_option linter.unusedSimpArgs false
namespace Go.Av
open Go Go.RowKit

section ops
variable {P : Program} {tab : Tab} {ev : Evl} {h : Heap} {d : Option Tmp} {T ty : TypeId} {x y z : Operand} {pos : String} {aft : Array Edge} {gd : Option (Nat × Bool)} {i : Nat}

theorem below_alloc (w : World) (o : Obj) : Below w.heap.size w (w.alloc o) := (Below.refl _ _).alloc (Nat.le_refl _) _

def zav (l : List Value) : List AV := l.map fun v => .c (.v v)
theorem zav_rep {C : Cx} (l : List Value) : RepL C (zav l) l := by
  have : zav l = (l.map CV.v).map AV.c := by simp [zav]
  rw [this]
  exact RepL.ofC (RepCs.plain l)

theorem run_alloc {w : World} {e : TyE} (hT : TyOk P T e) (ρ : Operand → Value) : (execOp ρ ⟨d, .alloc T, ty, pos, aft, gd⟩).run P w = .ok (.value (.pointer (some ⟨w.heap.size, 0, none⟩))) (w.alloc (.cells e.zero.toArray T)) := by
  obtain ⟨ti, hi, hs, hb, z, hz, hzc⟩ := hT.parts
  simp [execOp, Instr.alloc, zeroValue, typeInfo, hi, hz, newVar, newRow, ← hzc]

theorem a_alloc (tb : TabOk P tab) {e : TyE} {cs : List AV} (hT : tyLook tab T = some e) (hz : zav e.zero = cs) : Adds P ⟨d, .alloc T, ty, pos, aft, gd⟩ ev h (.ref i 0) [(i, .blk T cs)] i (i + 1) := by
  subst hz
  refine adds_one rfl fun B dom M H w a hh hc he => ⟨_, _, some w.heap.size, run_alloc (tyLook_ok tb hT) a.eval, below_alloc _ _, fun g hg => by injection hg with hg; omega, fun C hext hw hd hM => ⟨⟨w.heap.size, e.zero, rfl, ?_, zav_rep _⟩, hd, w.heap.size, hM, rfl⟩⟩
  rw [hw]; exact heap_alloc_new w _
/-- An array: its cells are closed. -/
theorem a_allocR (tb : TabOk P tab) {e : TyE} {n E : Nat} {cs : List CV} (hT : tyLook tab T = some e) (hk : e.kind = .array n E) (h1 : e.zero.all Value.oneCell' = true) (hz : e.zero.map CV.v = cs) : Adds P ⟨d, .alloc T, ty, pos, aft, gd⟩ ev h (.ref i 0) [(i, .row T cs)] i (i + 1) := by
  subst hz
  refine adds_one rfl fun B dom M H w a hh hc he => ⟨_, _, some w.heap.size, run_alloc (tyLook_ok tb hT) a.eval, below_alloc _ _, fun g hg => by injection hg with hg; omega, fun C hext hw hd hM => ⟨.inr ⟨w.heap.size, e.zero, [], rfl, ?_, RepCs.plain _, fun u hu => List.all_eq_true.1 h1 u hu⟩, hd, w.heap.size, hM, rfl⟩⟩
  rw [hw, List.append_nil]; exact heap_alloc_new w _

theorem run_box {w : World} (ρ : Operand → Value) : (execOp ρ ⟨d, .box T x, ty, pos, aft, gd⟩).run P w = .ok (.value (.pointer (some ⟨w.heap.size, 0, none⟩))) (w.alloc (.cells (ρ x).cells T)) := by
  simp [execOp, Instr.box, newVar, newRow]
theorem a_box1 {v : AV} (hx : ev x = some v) (h1 : v.one = true) : Adds P ⟨d, .box T x, ty, pos, aft, gd⟩ ev h (.ref i 0) [(i, .blk T [v])] i (i + 1) := by
  refine adds_one rfl fun B dom M H w a hh hc he => ⟨_, _, some w.heap.size, run_box a.eval, below_alloc _ _, fun g hg => by injection hg with hg; omega, fun C hext hw hd hM => ⟨⟨w.heap.size, [a.eval x], rfl, ?_, _, [], rfl, Rep.ext hext _ _ (he x _ hx), rfl⟩, hd, w.heap.size, hM, rfl⟩⟩
  rw [hw, ((he x _ hx).one h1).2]; exact heap_alloc_new w _
theorem a_boxA {v : AV} {xs : List AV} (hx : ev x = some v) (hp : Parts v xs) : Adds P ⟨d, .box T x, ty, pos, aft, gd⟩ ev h (.ref i 0) [(i, .blk T xs)] i (i + 1) := by
  refine adds_one rfl fun B dom M H w a hh hc he => ?_
  obtain ⟨us, hu, hr⟩ := hp.rep (he x _ hx)
  refine ⟨_, _, some w.heap.size, run_box a.eval, below_alloc _ _, fun g hg => by injection hg with hg; omega, fun C hext hw hd hM => ⟨⟨w.heap.size, us, rfl, ?_, RepL.ext hext _ _ hr⟩, hd, w.heap.size, hM, rfl⟩⟩
  rw [hw, hu]; exact heap_alloc_new w _
theorem a_boxR {cs : List CV} {e : TyE} {n E : Nat} (hT : tyLook tab T = some e) (hk : e.kind = .array n E) (hx : ev x = some (.c (.agg cs))) : Adds P ⟨d, .box T x, ty, pos, aft, gd⟩ ev h (.ref i 0) [(i, .row T cs)] i (i + 1) := by
  refine adds_one rfl fun B dom M H w a hh hc he => ?_
  obtain ⟨us, hu, hr, hon⟩ := he x _ hx
  refine ⟨_, _, some w.heap.size, run_box a.eval, below_alloc _ _, fun g hg => by injection hg with hg; omega, fun C hext hw hd hM => ⟨.inr ⟨w.heap.size, us, [], rfl, ?_, RepCs.mono hext.ok _ _ hr, hon⟩, hd, w.heap.size, hM, rfl⟩⟩
  rw [hw, List.append_nil, hu]; exact heap_alloc_new w _

/-- What is known of a slice type, by the table. -/
theorem zero_cells {t : TypeId} {e : TyE} (hT : TyOk P t e) : ∃ ti z, P.info? t = some ti ∧ ti.zero = some z ∧ ti.size = e.size ∧ ti.bytes = e.bytes ∧ z.cells.toList = e.zero := by
  obtain ⟨ti, hi, hs, hb, z, hz, hzc⟩ := hT.parts
  exact ⟨ti, z, hi, hz, hs, hb, hzc⟩

/-- n elements of zeros, closed. -/
def zc (z : List Value) (n : Nat) : List CV := (List.replicate n (z.map CV.v)).flatten
theorem zc_length (z : List Value) (n : Nat) : (zc z n).length = n * z.length := by simp [zc]
theorem zc_plain (z : List Value) (n : Nat) : zc z n = ((List.replicate n z).flatten).map CV.v := by
  simp [zc, List.map_flatten]
theorem madeCells_flat (z : Array Value) (n : Nat) (hz : 0 < z.size) : (madeCells z (n * z.size)).toList = (List.replicate n z.toList).flatten := by
  apply List.ext_getElem?
  intro j
  have h1 : (madeCells z (n * z.size)).toList = (List.range (n * z.size)).map (fun i => z[i % z.size]!) := by
    simp [madeCells]
  rw [h1]
  clear h1
  induction n generalizing j with
  | zero => simp
  | succ n ih =>
    rw [List.replicate_succ, List.flatten_cons]
    by_cases hj : j < z.size
    · rw [List.getElem?_append_left (by simpa using hj)]
      have : j < (n + 1) * z.size := by rw [Nat.add_mul]; omega
      simp [this, Nat.mod_eq_of_lt hj, hj]
    · rw [List.getElem?_append_right (by simpa using hj)]
      have h2 := ih (j - z.size)
      simp only [Array.length_toList]
      rw [← h2]
      simp only [List.getElem?_map]
      by_cases hj2 : j - z.size < n * z.size
      · have h3 : j < (n + 1) * z.size := by rw [Nat.add_mul]; omega
        rw [List.getElem?_range h3, List.getElem?_range hj2]
        simp only [Option.map_some]
        congr 2
        rw [Nat.mod_eq_sub_mod (by omega)]
      · have h3 : ¬ j < (n + 1) * z.size := by rw [Nat.add_mul]; omega
        rw [List.getElem?_eq_none (by simpa using h3), List.getElem?_eq_none (by simpa using hj2)]

/-- make([]T, l, c). -/
theorem a_make (tb : TabOk P tab) {e e' : TyE} {E size l c : Nat} {cs : List CV} {kl kc : IntKind} {I J : Int} (hT : tyLook tab T = some e) (hk : e.kind = .slice E) (hE : tyLook tab E = some e') (hs : Nat.beq e'.size size = true) (hz : Nat.beq e'.zero.length size = true) (h1' : e'.zero.all Value.oneCell' = true) (hp : Nat.blt 0 size = true) (hx : ev x = some (.c (.v (.int kl I)))) (hy : ev y = some (.c (.v (.int kc J)))) (hI : I = (l : Int)) (hJ : J = (c : Int))
    (hlc : l ≤ c) (hb : e'.bytes * c ≤ 281474976710656) (hc : c ≤ maxLen) (hcs : zc e'.zero l = cs) : Adds P ⟨d, .makeSlice T x y, ty, pos, aft, gd⟩ ev h (.own i 0 l size true) [(i, .row E cs)] i (i + 1) := by
  subst hcs
  refine adds_one rfl fun B dom M H w a hh hcc he => ?_
  have h1 := he x _ hx
  have h2 := he y _ hy
  simp only [Rep, RepC] at h1 h2
  obtain ⟨ti, zv, hi, hzv, hsz, hby, hzc⟩ := zero_cells (tyLook_ok tb hE)
  have hs' := Nat.eq_of_beq_eq_true hs
  have hz' := Nat.eq_of_beq_eq_true hz
  have hp' : 0 < size := by simpa using hp
  subst hI hJ
  have h63 : (c : Int) ≤ 9223372036854775807 := by simp only [maxLen] at hc; omega
  have hb' : (e'.bytes : Int) * (c : Int) ≤ 281474976710656 := by
    have h9 : ((e'.bytes * c : Nat) : Int) ≤ 281474976710656 := by omega
    rwa [Int.natCast_mul] at h9
  have hr := run_make (P := P) w T E ti zv ((tyLook_ok tb hT).slice hk) hi hzv kl kc l c (by omega) (by omega) (by rw [hby]; exact hb') h63
  simp only [Int.toNat_natCast, hsz, hs'] at hr
  have hzs : zv.cells.size = size := by rw [← Array.length_toList, hzc, hz']
  rw [← hzs] at hr
  refine ⟨.slice (some ⟨w.heap.size, 0, none⟩) l c, w.alloc (.cells (madeCells zv.cells (c * zv.cells.size)) E), some w.heap.size, by simp only [execOp, h1, h2, hr, Sem.run_bind, Result.andThen_ok]; rfl, below_alloc _ _, fun g hg => by injection hg with hg; omega, fun C hext hw hd hM => ⟨.inr ⟨w.heap.size, (List.replicate l zv.cells.toList).flatten, (List.replicate (c - l) zv.cells.toList).flatten, rfl, ?_, ?_, ?_⟩, hd, .inr (.inl ⟨w.heap.size, c, hM, rfl, hlc, hc, fun _ => ⟨E, ?_⟩⟩)⟩⟩
  · rw [hw, heap_alloc_new]
    congr 2
    apply Array.toList_inj.1
    rw [madeCells_flat _ _ (by omega), List.toList_toArray, ← List.flatten_append, List.replicate_append_replicate, show l + (c - l) = c by omega]
  · rw [zc_plain, hzc]; exact RepCs.plain _
  · intro u hu
    obtain ⟨l', hl', hu'⟩ := List.mem_flatten.1 hu
    rw [List.eq_of_mem_replicate hl', hzc] at hu'
    exact List.all_eq_true.1 h1' u hu'
  · unfold World.shape?
    rw [hw, heap_alloc_new]
    simp only
    rw [← Array.length_toList, madeCells_flat _ _ (by omega)]
    simp [hzs]

/-- Cells of the parts of a slice literal, one after the other. -/
theorem a_bslice0 (tb : TabOk P tab) {e e' : TyE} {E size : Nat} (hT : tyLook tab T = some e) (hk : e.kind = .slice E) (hE : tyLook tab E = some e') (hs : Nat.beq e'.size size = true) : Adds P ⟨d, .buildSlice T 0 #[], ty, pos, aft, gd⟩ ev h (.own i 0 0 size true) [(i, .row E [])] i (i + 1) := by
  refine adds_one rfl fun B dom M H w a hh hcc he => ?_
  have hsz := (tyLook_ok tb hE).sizeOf w
  refine ⟨.slice (some ⟨w.heap.size, 0, none⟩) 0 0, w.alloc (.cells #[] E), some w.heap.size, ?_, below_alloc _ _, fun g hg => by injection hg with hg; omega, fun C hext hw hd hM => ⟨.inr ⟨w.heap.size, [], [], rfl, ?_, by simp [RepCs], by simp⟩, hd, .inr (.inl ⟨w.heap.size, 0, hM, rfl, Nat.le_refl _, by simp [maxLen], fun _ => ⟨E, ?_⟩⟩)⟩⟩
  · simp [execOp, Instr.buildSlice, Sem.run_bind, run_underlying ((tyLook_ok tb hT).slice hk), hsz, newRow, Instr.fill, Array.range_zero']
  · rw [hw]; exact heap_alloc_new w _
  · unfold World.shape?
    rw [hw, heap_alloc_new]
    simp

def enumF {α : Type} : Nat → List α → List (Nat × α)
  | _, [] => []
  | k, x :: xs => (k, x) :: enumF (k + 1) xs
theorem enumF_map {α β : Type} (f : α → β) : ∀ (xs : List α) (k : Nat), (enumF k xs).map (fun p => (p.1, f p.2)) = enumF k (xs.map f)
  | [], _ => rfl
  | x :: xs, k => by simp [enumF, enumF_map f xs]

/-- One part of `size` cells laid into a row. -/
theorem fill_one {place : Nat → Option (Nat × Nat)} {arr : List Value} {v : Value} {vs : List Value} {k off : Nat} {rest : List (Nat × Value)} (hv : v.cells.toList = vs) (hp : place k = some (off, vs.length)) (hfit : off + vs.length ≤ arr.length) :
    Instr.fill place arr.toArray ((k, v) :: rest) = Instr.fill place (lay arr off vs).toArray rest := by
  have hsz : v.cells.size = vs.length := by rw [← hv]; simp
  rw [Instr.fill, hp]
  simp only
  rw [if_neg (by simp [hsz]; omega)]
  congr 1
  rw [← Array.foldl_toList, show v.cells.zipIdx.toList = vs.zipIdx by rw [← hv]; simp]
  clear hv hsz hp
  have key : ∀ (vs pre : List Value) (n : Nat), off + n + vs.length ≤ pre.length → (List.foldl (fun (cs : Array Value) (x : Value × Nat) => cs.setIfInBounds (off + x.2) x.1) pre.toArray (vs.zipIdx n)) = (lay pre (off + n) vs).toArray := by
    intro vs
    induction vs with
    | nil => intro pre n _; simp [lay]
    | cons v vs ih =>
      intro pre n hl
      simp only [List.length_cons] at hl
      simp only [List.zipIdx_cons, List.foldl_cons, List.setIfInBounds_toArray]
      rw [ih (pre.set (off + n) v) (n + 1) (by simp; omega)]
      congr 1
      have := list_seg_step pre (off + n) v vs (by omega)
      simpa [lay, Nat.add_assoc, Nat.add_comm 1] using this
  exact key vs arr 0 (by omega)

/-- Equal-sized parts one after the other. -/
theorem fill_parts (size : Nat) : ∀ (us : List Value) (css : List (List Value)) (k : Nat) (arr : List Value), us.map (·.cells.toList) = css → (∀ cs ∈ css, cs.length = size) → (k + us.length) * size ≤ arr.length →
    Instr.fill (fun i => some (i * size, size)) arr.toArray (enumF k us) = some (lay arr (k * size) css.flatten).toArray
  | [], css, k, arr, hc, hs, hl => by
    simp at hc; subst hc
    simp [enumF, Instr.fill, lay]
  | u :: us, css, k, arr, hc, hs, hl => by
    cases css with
    | nil => simp at hc
    | cons cs css =>
      simp only [List.map_cons, List.cons.injEq] at hc
      have hcl := hs cs (by simp)
      simp only [List.length_cons] at hl
      have hkl : k * size + size ≤ arr.length := by
        have : (k + 1) * size ≤ (k + (us.length + 1)) * size := Nat.mul_le_mul_right _ (by omega)
        rw [Nat.add_mul] at this; omega
      have hfl : css.flatten.length = us.length * size := by
        have h1 : ∀ c ∈ css, c.length = size := fun c hc => hs c (by simp [hc])
        have h2 : css.length = us.length := by rw [← hc.2]; simp
        rw [← h2]
        clear hc hs hl h2
        induction css with
        | nil => simp
        | cons c css ih => simp only [List.flatten_cons, List.length_append, List.length_cons]; rw [h1 c (by simp), ih (fun c hc => h1 c (by simp [hc])), Nat.add_mul]; omega
      have hl2 : (k + 1) * size + us.length * size ≤ arr.length := by
        rw [← Nat.add_mul]; rw [show k + 1 + us.length = k + (us.length + 1) by omega]; exact hl
      have hlayl : (lay arr (k * size) cs).length = arr.length := lay_length _ _ _ (by omega)
      rw [enumF, fill_one (off := k * size) (vs := cs) hc.1 (by rw [hcl]) (by omega), fill_parts size us css (k + 1) _ hc.2 (fun c h => hs c (by simp [h])) (by rw [hlayl, Nat.add_mul]; exact hl2)]
      congr 2
      have e1 : (k + 1) * size = k * size + cs.length := by rw [Nat.add_mul, hcl]; omega
      rw [e1] at hl2 ⊢
      simp only [lay, List.flatten_cons]
      have t1 : (arr.take (k * size)).length = k * size := by simp; omega
      rw [List.take_append_of_le_length (by simp; omega), List.take_of_length_le (by simp; omega)]
      rw [List.drop_append]
      rw [List.drop_of_length_le (by simp; omega)]
      simp only [List.nil_append, List.append_assoc, List.length_append, List.drop_drop]
      congr 4
      omega

/-- Flat cells of a closed value. -/
inductive Flat1 : CV → List CV → Prop
  | agg (cs : List CV) : Flat1 (.agg cs) cs
  | one {c : CV} (h : c.one = true) : Flat1 c [c]
theorem Flat1.rep {ok : Nat → Prop} {w : World} {c : CV} {cs : List CV} (h : Flat1 c cs) {u : Value} (hu : RepC ok w c u) : RepCs ok w cs u.cells.toList ∧ ∀ x ∈ u.cells.toList, x.oneCell' = true := by
  cases h with
  | agg =>
    simp only [RepC] at hu
    obtain ⟨us, rfl, h2, h3⟩ := hu
    exact ⟨by simpa [Value.cells] using h2, by simpa [Value.cells] using h3⟩
  | one h1 =>
    rw [(hu.one h1).2]
    exact ⟨⟨u, [], rfl, hu, rfl⟩, by simpa using (hu.one h1).1⟩
inductive FlatL : List CV → List (List CV) → Prop
  | nil : FlatL [] []
  | cons {c : CV} {cs : List CV} {l : List CV} {ls : List (List CV)} (h : Flat1 c cs) (hl : FlatL l ls) : FlatL (c :: l) (cs :: ls)
theorem FlatL.rep {ok : Nat → Prop} {w : World} : ∀ {l : List CV} {ls : List (List CV)}, FlatL l ls → ∀ {us : List Value}, RepCs ok w l us → (us.map (·.cells.toList)).map List.length = ls.map List.length ∧ RepCs ok w ls.flatten (us.map (·.cells.toList)).flatten ∧ ∀ x ∈ (us.map (·.cells.toList)).flatten, x.oneCell' = true
  | _, _, .nil, us, h => by simp only [RepCs] at h; subst h; simp [RepCs]
  | _, _, .cons h hl, us, hu => by
    simp only [RepCs] at hu
    obtain ⟨u, us', rfl, h2, h3⟩ := hu
    obtain ⟨k1, k2, k4⟩ := hl.rep h3
    obtain ⟨k3, k5⟩ := h.rep h2
    refine ⟨?_, ?_, ?_⟩
    · simp only [List.map_cons, k1, List.cons.injEq, and_true]
      exact k3.length
    · simp only [List.map_cons, List.flatten_cons]
      exact k3.append k2
    · intro x hx
      simp only [List.map_cons, List.flatten_cons] at hx
      rcases List.mem_append.1 hx with hx | hx
      · exact k5 x hx
      · exact k4 x hx

/-- A slice literal of closed parts. -/
theorem a_bslice (tb : TabOk P tab) {e e' : TyE} {E size n : Nat} {parts : List (Nat × Operand)} {xs : List Operand} {cs : List CV} {ls : List (List CV)} {all : List CV} (hT : tyLook tab T = some e) (hk : e.kind = .slice E) (hE : tyLook tab E = some e') (hs : Nat.beq e'.size size = true) (hz : Nat.beq e'.zero.length size = true) (hp : Nat.blt 0 size = true) (hpt : parts = enumF 0 xs) (hn : Nat.beq xs.length n = true) (h0 : Nat.blt 0 n = true) (hle : Nat.ble (n * size) 16777216 = true)
    (hx : argsC ev xs = some cs) (hfl : FlatL cs ls) (hsz : ls.all (fun l => Nat.beq l.length size) = true) (hall : ls.flatten = all) : Adds P ⟨d, .buildSlice T n parts.toArray, ty, pos, aft, gd⟩ ev h (.own i 0 n size true) [(i, .row E all)] i (i + 1) := by
  subst hall hpt
  refine adds_one rfl fun B dom M H w a hh hcc he => ?_
  have hargs : RepCs (okOf B dom M H) w cs (xs.map a.eval) := RepL.toC (C := ⟨dom, M, okOf B dom M H, w⟩) (evs_rep he (by rw [argsC_eq hx, List.map_map]; rfl))
  obtain ⟨k1, k2, hon⟩ := hfl.rep hargs
  have hs' := Nat.eq_of_beq_eq_true hs
  have hz' := Nat.eq_of_beq_eq_true hz
  have hn' := Nat.eq_of_beq_eq_true hn
  have hp' : 0 < size := by simpa using hp
  have h0' : 0 < n := by simpa using h0
  have hle' : n * size ≤ 16777216 := by simpa using hle
  obtain ⟨ti, zv, hi, hzv, hszt, hby, hzc⟩ := zero_cells (tyLook_ok tb hE)
  have hzs : zv.cells.size = size := by rw [← Array.length_toList, hzc, hz']
  have hsizes : ∀ l ∈ (xs.map a.eval).map (·.cells.toList), l.length = size := by
    intro l hl
    have h1 : l.length ∈ ((xs.map a.eval).map (·.cells.toList)).map List.length := List.mem_map.2 ⟨l, hl, rfl⟩
    rw [k1] at h1
    obtain ⟨l', hl', he'⟩ := List.mem_map.1 h1
    rw [← he']
    exact Nat.eq_of_beq_eq_true (List.all_eq_true.1 hsz l' hl')
  have hmul : 0 < n * size := Nat.mul_pos h0' hp'
  have hfill2 := fill_parts size (xs.map a.eval) _ 0 (((Array.range (n * size)).map (zv.cells[· % zv.cells.size]!)).toList) rfl hsizes (by simp [hn'])
  have hflen : ((xs.map a.eval).map (·.cells.toList)).flatten.length = n * size := by
    have := k2.length
    rw [this]
    have : ∀ (ls : List (List CV)), (∀ l ∈ ls, l.length = size) → ls.flatten.length = ls.length * size := by
      intro ls
      induction ls with
      | nil => simp
      | cons l ls ih => intro hh; simp only [List.flatten_cons, List.length_append, List.length_cons]; rw [hh l (by simp), ih (fun l h => hh l (by simp [h])), Nat.add_mul]; omega
    rw [this ls (fun l hl => Nat.eq_of_beq_eq_true (List.all_eq_true.1 hsz l hl))]
    have h3 : ls.length = (xs.map a.eval).length := by
      have := congrArg List.length k1
      simpa using this.symm
    rw [h3]; simp [hn']
  rw [Nat.zero_mul, lay_whole _ _ (by rw [hflen]; simp)] at hfill2
  rw [Array.toArray_toList] at hfill2
  refine ⟨.slice (some ⟨w.heap.size, 0, none⟩) n n, w.alloc (.cells ((xs.map a.eval).map (·.cells.toList)).flatten.toArray E), some w.heap.size, ?_, below_alloc _ _, fun g hg => by injection hg with hg; omega, fun C hext hw hd hM => ⟨.inr ⟨w.heap.size, _, [], rfl, ?_, RepCs.mono hext.ok _ _ k2, hon⟩, hd, .inr (.inl ⟨w.heap.size, n, hM, rfl, Nat.le_refl _, ?_, fun _ => ⟨E, ?_⟩⟩)⟩⟩
  · have hpm : ((enumF 0 xs).toArray.map fun p => (p.1, a.eval p.2)).toList = enumF 0 (xs.map a.eval) := by rw [← enumF_map]; simp
    have hne : ¬ n * size = 0 := by omega
    have hle2 : ¬ n * size > 2 ^ 24 := by simpa using hle'
    simp only [execOp, Instr.buildSlice, Sem.run_bind, run_underlying ((tyLook_ok tb hT).slice hk), Result.andThen_ok, (tyLook_ok tb hE).sizeOf w, hs']
    simp only [hle2, hne, if_false, Sem.run_bind, Sem.run_pure, Result.andThen_ok]
    rw [show (Array.map (fun x => (x.fst, a.eval x.snd)) (enumF 0 xs).toArray).toList = enumF 0 (xs.map a.eval) from hpm]
    simp only [zeroValue, typeInfo, Sem.run_bind, run_program, Result.andThen_ok, hi, Sem.run_pure, hzv]
    rw [hfill2]
    simp [newRow]
  · rw [hw, List.append_nil]; exact heap_alloc_new w _
  · have : n ≤ n * size := Nat.le_mul_of_pos_right _ hp'
    simp only [maxLen]; omega
  · unfold World.shape?
    rw [hw, heap_alloc_new]
    simp only [List.size_toArray, Nat.zero_add]
    rw [hflen]
end ops
end Go.Av
