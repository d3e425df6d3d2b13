/-
  Joined texts: AvH AvI AvW AvJ AvK AvU AvX AvY AvZ AvV. Lemmas; no statement of a law.
-/
import Derived.LoopN
import Derived.Test.YtccnhpaldmjkbaaGreatQ1
set_option linter.unusedSectionVars false
set_option linter.unusedSimpArgs false
set_option linter.unusedVariables false
namespace Go.Av
open Go Go.RowKit

section ops
variable {P : Program} {tab : Tab} {ev : Evl} {h : Heap} {d : Option Tmp} {T ty : TypeId} {x y z : Operand} {pos : String} {aft : Array Edge} {gd : Option (Nat × Bool)} {i : Nat}

theorem eU (w : World) (o : Obj) : Below w.heap.size w (w.alloc o) := (Below.refl _ _).alloc (Nat.le_refl _) _

def zav (l : List Value) : List AV := l.map fun v => .c (.v v)
theorem zav_rep {C : Cx} (l : List Value) : RepL C (zav l) l := by
  have : zav l = (l.map CV.v).map AV.c := by simp [zav]
  rw [this]
  exact RepL.ofC (RepCs.plain l)

theorem run_alloc {w : World} {e : TyE} (hT : TyOk P T e) (ρ : Operand → Value) : (execOp ρ ⟨d, .alloc T, ty, pos, aft, gd⟩).run P w = .ok (.value (.pointer (some ⟨w.heap.size, 0, none⟩))) (w.alloc (.cells e.zero.toArray T)) := by
  obtain ⟨ti, hi, hs, hb, z, hz, hzc⟩ := hT.parts
  simp [execOp, Instr.alloc, zeroValue, typeInfo, hi, hz, newVar, newRow, ← hzc]

theorem sX (tb : TabOk P tab) {e : TyE} {cs : List AV} (hT : tyLook tab T = some e) (hz : zav e.zero = cs) : Adds P ⟨d, .alloc T, ty, pos, aft, gd⟩ ev h (.ref i 0) [(i, .blk T cs)] i (i + 1) := by
  subst hz
  refine iA rfl fun B dom M H w a hh hc he => ⟨_, _, some w.heap.size, run_alloc (aS tb hT) a.eval, eU _ _, fun g hg => by injection hg with hg; omega, fun C hext hw hd hM => ⟨⟨w.heap.size, e.zero, rfl, ?_, zav_rep _⟩, hd, w.heap.size, hM, rfl⟩⟩
  rw [hw]; exact heap_alloc_new w _
theorem run_box {w : World} (ρ : Operand → Value) : (execOp ρ ⟨d, .box T x, ty, pos, aft, gd⟩).run P w = .ok (.value (.pointer (some ⟨w.heap.size, 0, none⟩))) (w.alloc (.cells (ρ x).cells T)) := by
  simp [execOp, Instr.box, newVar, newRow]
theorem yB {v : AV} {xs : List AV} (hx : ev x = some v) (hp : Parts v xs) : Adds P ⟨d, .box T x, ty, pos, aft, gd⟩ ev h (.ref i 0) [(i, .blk T xs)] i (i + 1) := by
  refine iA rfl fun B dom M H w a hh hc he => ?_
  obtain ⟨us, hu, hr⟩ := hp.rep (he x _ hx)
  refine ⟨_, _, some w.heap.size, run_box a.eval, eU _ _, fun g hg => by injection hg with hg; omega, fun C hext hw hd hM => ⟨⟨w.heap.size, us, rfl, ?_, RepL.ext hext _ _ hr⟩, hd, w.heap.size, hM, rfl⟩⟩
  rw [hw, hu]; exact heap_alloc_new w _
theorem jF {t : TypeId} {e : TyE} (hT : TyOk P t e) : ∃ ti z, P.info? t = some ti ∧ ti.zero = some z ∧ ti.size = e.size ∧ ti.bytes = e.bytes ∧ z.cells.toList = e.zero := by
  obtain ⟨ti, hi, hs, hb, z, hz, hzc⟩ := hT.parts
  exact ⟨ti, z, hi, hz, hs, hb, hzc⟩

def zc (z : List Value) (n : Nat) : List CV := (List.replicate n (z.map CV.v)).flatten
theorem a_bslice0 (tb : TabOk P tab) {e e' : TyE} {E size : Nat} (hT : tyLook tab T = some e) (hk : e.kind = .slice E) (hE : tyLook tab E = some e') (hs : Nat.beq e'.size size = true) : Adds P ⟨d, .buildSlice T 0 #[], ty, pos, aft, gd⟩ ev h (.own i 0 0 size true) [(i, .row E [])] i (i + 1) := by
  refine iA rfl fun B dom M H w a hh hcc he => ?_
  have hsz := (aS tb hE).sizeOf w
  refine ⟨.slice (some ⟨w.heap.size, 0, none⟩) 0 0, w.alloc (.cells #[] E), some w.heap.size, ?_, eU _ _, fun g hg => by injection hg with hg; omega, fun C hext hw hd hM => ⟨.inr ⟨w.heap.size, [], [], rfl, ?_, by simp [RepCs], by simp⟩, hd, .inr (.inl ⟨w.heap.size, 0, hM, rfl, Nat.le_refl _, by simp [maxLen], fun _ => ⟨E, ?_⟩⟩)⟩⟩
  · simp [execOp, Instr.buildSlice, Sem.run_bind, run_underlying ((aS tb hT).slice hk), hsz, newRow, Instr.fill, Array.range_zero']
  · rw [hw]; exact heap_alloc_new w _
  · unfold World.shape?
    rw [hw, heap_alloc_new]
    simp

def enumF {α : Type} : Nat → List α → List (Nat × α)
  | _, [] => []
  | k, x :: xs => (k, x) :: enumF (k + 1) xs
theorem rS {α β : Type} (f : α → β) : ∀ (xs : List α) (k : Nat), (enumF k xs).map (fun p => (p.1, f p.2)) = enumF k (xs.map f)
  | [], _ => rfl
  | x :: xs, k => by simp [enumF, rS f xs]

theorem vK {place : Nat → Option (Nat × Nat)} {arr : List Value} {v : Value} {vs : List Value} {k off : Nat} {rest : List (Nat × Value)} (hv : v.cells.toList = vs) (hp : place k = some (off, vs.length)) (hfit : off + vs.length ≤ arr.length) :
    Instr.fill place arr.toArray ((k, v) :: rest) = Instr.fill place (lay arr off vs).toArray rest := by
  have hsz : v.cells.size = vs.length := by rw [← hv]; simp
  rw [Instr.fill, hp]
  simp only
  rw [if_neg (by simp [hsz]; omega)]
  congr 1
  rw [← Array.foldl_toList, show v.cells.zipIdx.toList = vs.zipIdx by rw [← hv]; simp]
  clear hv hsz hp
  have key : ∀ (vs pre : List Value) (n : Nat), off + n + vs.length ≤ pre.length → (List.foldl (fun (cs : Array Value) (x : Value × Nat) => cs.setIfInBounds (off + x.2) x.1) pre.toArray (vs.zipIdx n)) = (lay pre (off + n) vs).toArray := by
    intro vs
    induction vs with
    | nil => intro pre n _; simp [lay]
    | cons v vs ih =>
      intro pre n hl
      simp only [List.length_cons] at hl
      simp only [List.zipIdx_cons, List.foldl_cons, List.setIfInBounds_toArray]
      rw [ih (pre.set (off + n) v) (n + 1) (by simp; omega)]
      congr 1
      have := list_seg_step pre (off + n) v vs (by omega)
      simpa [lay, Nat.add_assoc, Nat.add_comm 1] using this
  exact key vs arr 0 (by omega)

theorem pS (size : Nat) : ∀ (us : List Value) (css : List (List Value)) (k : Nat) (arr : List Value), us.map (·.cells.toList) = css → (∀ cs ∈ css, cs.length = size) → (k + us.length) * size ≤ arr.length →
    Instr.fill (fun i => some (i * size, size)) arr.toArray (enumF k us) = some (lay arr (k * size) css.flatten).toArray
  | [], css, k, arr, hc, hs, hl => by
    simp at hc; subst hc
    simp [enumF, Instr.fill, lay]
  | u :: us, css, k, arr, hc, hs, hl => by
    cases css with
    | nil => simp at hc
    | cons cs css =>
      simp only [List.map_cons, List.cons.injEq] at hc
      have hcl := hs cs (by simp)
      simp only [List.length_cons] at hl
      have hkl : k * size + size ≤ arr.length := by
        have : (k + 1) * size ≤ (k + (us.length + 1)) * size := Nat.mul_le_mul_right _ (by omega)
        rw [Nat.add_mul] at this; omega
      have hfl : css.flatten.length = us.length * size := by
        have h1 : ∀ c ∈ css, c.length = size := fun c hc => hs c (by simp [hc])
        have h2 : css.length = us.length := by rw [← hc.2]; simp
        rw [← h2]
        clear hc hs hl h2
        induction css with
        | nil => simp
        | cons c css ih => simp only [List.flatten_cons, List.length_append, List.length_cons]; rw [h1 c (by simp), ih (fun c hc => h1 c (by simp [hc])), Nat.add_mul]; omega
      have hl2 : (k + 1) * size + us.length * size ≤ arr.length := by
        rw [← Nat.add_mul]; rw [show k + 1 + us.length = k + (us.length + 1) by omega]; exact hl
      have hlayl : (lay arr (k * size) cs).length = arr.length := qA _ _ _ (by omega)
      rw [enumF, vK (off := k * size) (vs := cs) hc.1 (by rw [hcl]) (by omega), pS size us css (k + 1) _ hc.2 (fun c h => hs c (by simp [h])) (by rw [hlayl, Nat.add_mul]; exact hl2)]
      congr 2
      have e1 : (k + 1) * size = k * size + cs.length := by rw [Nat.add_mul, hcl]; omega
      rw [e1] at hl2 ⊢
      simp only [lay, List.flatten_cons]
      have t1 : (arr.take (k * size)).length = k * size := by simp; omega
      rw [List.take_append_of_le_length (by simp; omega), List.take_of_length_le (by simp; omega)]
      rw [List.drop_append]
      rw [List.drop_of_length_le (by simp; omega)]
      simp only [List.nil_append, List.append_assoc, List.length_append, List.drop_drop]
      congr 4
      omega

inductive Flat1 : CV → List CV → Prop
  | agg (cs : List CV) : Flat1 (.agg cs) cs
  | one {c : CV} (h : c.one = true) : Flat1 c [c]
theorem Flat1.rep {ok : Nat → Prop} {w : World} {c : CV} {cs : List CV} (h : Flat1 c cs) {u : Value} (hu : RepC ok w c u) : RepCs ok w cs u.cells.toList ∧ ∀ x ∈ u.cells.toList, x.oneCell' = true := by
  cases h with
  | agg =>
    simp only [RepC] at hu
    obtain ⟨us, rfl, h2, h3⟩ := hu
    exact ⟨by simpa [Value.cells] using h2, by simpa [Value.cells] using h3⟩
  | one h1 =>
    rw [(hu.one h1).2]
    exact ⟨⟨u, [], rfl, hu, rfl⟩, by simpa using (hu.one h1).1⟩
inductive FlatL : List CV → List (List CV) → Prop
  | nil : FlatL [] []
  | cons {c : CV} {cs : List CV} {l : List CV} {ls : List (List CV)} (h : Flat1 c cs) (hl : FlatL l ls) : FlatL (c :: l) (cs :: ls)
theorem FlatL.rep {ok : Nat → Prop} {w : World} : ∀ {l : List CV} {ls : List (List CV)}, FlatL l ls → ∀ {us : List Value}, RepCs ok w l us → (us.map (·.cells.toList)).map List.length = ls.map List.length ∧ RepCs ok w ls.flatten (us.map (·.cells.toList)).flatten ∧ ∀ x ∈ (us.map (·.cells.toList)).flatten, x.oneCell' = true
  | _, _, .nil, us, h => by simp only [RepCs] at h; subst h; simp [RepCs]
  | _, _, .cons h hl, us, hu => by
    simp only [RepCs] at hu
    obtain ⟨u, us', rfl, h2, h3⟩ := hu
    obtain ⟨k1, k2, k4⟩ := hl.rep h3
    obtain ⟨k3, k5⟩ := h.rep h2
    refine ⟨?_, ?_, ?_⟩
    · simp only [List.map_cons, k1, List.cons.injEq, and_true]
      exact k3.length
    · simp only [List.map_cons, List.flatten_cons]
      exact k3.append k2
    · intro x hx
      simp only [List.map_cons, List.flatten_cons] at hx
      rcases List.mem_append.1 hx with hx | hx
      · exact k5 x hx
      · exact k4 x hx

theorem a_bslice (tb : TabOk P tab) {e e' : TyE} {E size n : Nat} {parts : List (Nat × Operand)} {xs : List Operand} {cs : List CV} {ls : List (List CV)} {all : List CV} (hT : tyLook tab T = some e) (hk : e.kind = .slice E) (hE : tyLook tab E = some e') (hs : Nat.beq e'.size size = true) (hz : Nat.beq e'.zero.length size = true) (hp : Nat.blt 0 size = true) (hpt : parts = enumF 0 xs) (hn : Nat.beq xs.length n = true) (h0 : Nat.blt 0 n = true) (hle : Nat.ble (n * size) 16777216 = true)
    (hx : argsC ev xs = some cs) (hfl : FlatL cs ls) (hsz : ls.all (fun l => Nat.beq l.length size) = true) (hall : ls.flatten = all) : Adds P ⟨d, .buildSlice T n parts.toArray, ty, pos, aft, gd⟩ ev h (.own i 0 n size true) [(i, .row E all)] i (i + 1) := by
  subst hall hpt
  refine iA rfl fun B dom M H w a hh hcc he => ?_
  have hargs : RepCs (okOf B dom M H) w cs (xs.map a.eval) := RepL.toC (C := ⟨dom, M, okOf B dom M H, w⟩) (eI he (by rw [fU hx, List.map_map]; rfl))
  obtain ⟨k1, k2, hon⟩ := hfl.rep hargs
  have hs' := Nat.eq_of_beq_eq_true hs
  have hz' := Nat.eq_of_beq_eq_true hz
  have hn' := Nat.eq_of_beq_eq_true hn
  have hp' : 0 < size := by simpa using hp
  have h0' : 0 < n := by simpa using h0
  have hle' : n * size ≤ 16777216 := by simpa using hle
  obtain ⟨ti, zv, hi, hzv, hszt, hby, hzc⟩ := jF (aS tb hE)
  have hzs : zv.cells.size = size := by rw [← Array.length_toList, hzc, hz']
  have hsizes : ∀ l ∈ (xs.map a.eval).map (·.cells.toList), l.length = size := by
    intro l hl
    have h1 : l.length ∈ ((xs.map a.eval).map (·.cells.toList)).map List.length := List.mem_map.2 ⟨l, hl, rfl⟩
    rw [k1] at h1
    obtain ⟨l', hl', he'⟩ := List.mem_map.1 h1
    rw [← he']
    exact Nat.eq_of_beq_eq_true (List.all_eq_true.1 hsz l' hl')
  have hmul : 0 < n * size := Nat.mul_pos h0' hp'
  have hfill2 := pS size (xs.map a.eval) _ 0 (((Array.range (n * size)).map (zv.cells[· % zv.cells.size]!)).toList) rfl hsizes (by simp [hn'])
  have hflen : ((xs.map a.eval).map (·.cells.toList)).flatten.length = n * size := by
    have := k2.length
    rw [this]
    have : ∀ (ls : List (List CV)), (∀ l ∈ ls, l.length = size) → ls.flatten.length = ls.length * size := by
      intro ls
      induction ls with
      | nil => simp
      | cons l ls ih => intro hh; simp only [List.flatten_cons, List.length_append, List.length_cons]; rw [hh l (by simp), ih (fun l h => hh l (by simp [h])), Nat.add_mul]; omega
    rw [this ls (fun l hl => Nat.eq_of_beq_eq_true (List.all_eq_true.1 hsz l hl))]
    have h3 : ls.length = (xs.map a.eval).length := by
      have := congrArg List.length k1
      simpa using this.symm
    rw [h3]; simp [hn']
  rw [Nat.zero_mul, nG _ _ (by rw [hflen]; simp)] at hfill2
  rw [Array.toArray_toList] at hfill2
  refine ⟨.slice (some ⟨w.heap.size, 0, none⟩) n n, w.alloc (.cells ((xs.map a.eval).map (·.cells.toList)).flatten.toArray E), some w.heap.size, ?_, eU _ _, fun g hg => by injection hg with hg; omega, fun C hext hw hd hM => ⟨.inr ⟨w.heap.size, _, [], rfl, ?_, RepCs.mono hext.ok _ _ k2, hon⟩, hd, .inr (.inl ⟨w.heap.size, n, hM, rfl, Nat.le_refl _, ?_, fun _ => ⟨E, ?_⟩⟩)⟩⟩
  · have hpm : ((enumF 0 xs).toArray.map fun p => (p.1, a.eval p.2)).toList = enumF 0 (xs.map a.eval) := by rw [← rS]; simp
    have hne : ¬ n * size = 0 := by omega
    have hle2 : ¬ n * size > 2 ^ 24 := by simpa using hle'
    simp only [execOp, Instr.buildSlice, Sem.run_bind, run_underlying ((aS tb hT).slice hk), Result.andThen_ok, (aS tb hE).sizeOf w, hs']
    simp only [hle2, hne, if_false, Sem.run_bind, Sem.run_pure, Result.andThen_ok]
    rw [show (Array.map (fun x => (x.fst, a.eval x.snd)) (enumF 0 xs).toArray).toList = enumF 0 (xs.map a.eval) from hpm]
    simp only [zeroValue, typeInfo, Sem.run_bind, run_program, Result.andThen_ok, hi, Sem.run_pure, hzv]
    rw [hfill2]
    simp [newRow]
  · rw [hw, List.append_nil]; exact heap_alloc_new w _
  · have : n ≤ n * size := Nat.le_mul_of_pos_right _ hp'
    simp only [maxLen]; omega
  · unfold World.shape?
    rw [hw, heap_alloc_new]
    simp only [List.size_toArray, Nat.zero_add]
    rw [hflen]
end ops
end Go.Av
namespace Go.Av
open Go Go.RowKit

def SrcR (ok : Nat → Prop) (w : World) (size k : Nat) (ys : List CV) (u : Value) : Prop :=
  ∃ A c us, u = .slice A k c ∧ ys.length = k * size ∧ RepCs ok w ys us ∧ (∀ u ∈ us, u.oneCell' = true) ∧ (0 < k → ∃ b o, A = some ⟨b, o, none⟩ ∧ ∀ j x, us[j]? = some x → w.cell? ⟨b, o + j, none⟩ = some x)
def Src (h : Heap) (v : AV) (size k : Nat) (ys : List CV) : Prop :=
  ∀ (B : Bs) (dom : Nat → Prop) (M : Nat → Option Nat) (H : Nat → Option AObj) (w : World) (u : Value), (∀ id o, lk h id = some o → dom id → H id = some o) → ConcH B dom M H w → Rep ⟨dom, M, okOf B dom M H, w⟩ v u → SrcR (okOf B dom M H) w size k ys u
section src
variable {h : Heap}
theorem mM {size k : Nat} {ys : List CV} : Src h (.c (.sl size k ys)) size k ys := by
  intro B dom M H w u hh hc hu
  simp only [Rep, RepC] at hu
  obtain ⟨A, c, us, h1, h2, h3, h4, h5, h6, h7⟩ := hu
  exact ⟨A, c, us, h1, h4, h5, h6, fun hk => let ⟨b, o, e, _, _, hcell⟩ := h7 hk; ⟨b, o, e, hcell⟩⟩
theorem src_own {id off k size : Nat} {full : Bool} {T : TypeId} {cs ys : List CV} (ho : lk h id = some (.row T cs)) (hy : (cs.drop off).take (k * size) = ys) (hl : ys.length = k * size) : Src h (.own id off k size full) size k ys := by
  intro B dom M H w u hh hc hu
  simp only [Rep] at hu
  obtain ⟨hd, hu⟩ := hu
  have hz : k = 0 → ys = [] := fun h0 => List.eq_nil_of_length_eq_zero (by rw [hl, h0]; simp)
  rcases hu with ⟨h1, h2, h3, h4⟩ | ⟨g, cp, h1, h2, h3, h4, h5⟩ | ⟨h1, h2, A, cp, h3, h4⟩
  · rw [hz h1] at hl ⊢
    exact ⟨none, 0, [], by rw [h4, h1], hl, by simp [RepCs], by simp, fun hn => absurd hn (by omega)⟩
  · obtain ⟨us, vs, hb, hr, hon⟩ := eE hh hc ho hd h1
    have h6 := (hr.drop off).take (k * size)
    rw [hy] at h6
    refine ⟨_, cp, (us.drop off).take (k * size), h2, hl, h6, fun u hu => hon u (List.mem_of_mem_drop (List.mem_of_mem_take hu)), fun hn => ⟨g, off, rfl, fun j x hj => ?_⟩⟩
    have hjk : j < k * size := by
      rcases Nat.lt_or_ge j (k * size) with h1 | h1
      · exact h1
      · rw [List.getElem?_eq_none (by rw [List.length_take]; omega)] at hj; cases hj
    rw [List.getElem?_take_of_lt hjk, List.getElem?_drop] at hj
    exact eY hb hj
  · rw [hz h1] at hl ⊢
    exact ⟨A, cp, [], by rw [h3, h1], hl, by simp [RepCs], by simp, fun hn => absurd hn (by omega)⟩
theorem gA {id k size : Nat} {full : Bool} {T : TypeId} {cs : List CV} (ho : lk h id = some (.row T cs)) (hl : cs.length = k * size) : Src h (.own id 0 k size full) size k cs :=
  src_own ho (by rw [List.drop_zero, List.take_of_length_le (by omega)]) hl
end src

section app
variable {P : Program} {tab : Tab}

theorem run_app {w : World} {T ty E : TypeId} {ti : TypeInfo} {z : Value} (ht : P.underlying T = some (.slice E)) (hi : P.info? E = some ti) (hz : ti.zero = some z) (hzs : z.cells.size = ti.size) {g n cap : Nat} {us vs : List Value} (hg : w.heap[g]? = some (.cells (us ++ vs).toArray E (0, 0))) (hul : us.length = n * ti.size) (hcap : (us ++ vs).length = cap * ti.size) (hnc : n ≤ cap) (hcm : cap ≤ maxLen)
    {ok : Nat → Prop} {m : Nat} {ys : List CV} {u : Value} (hu : SrcR ok w ti.size m ys u) (h63 : n + m ≤ maxLen) (hb : (n + m) * ti.bytes ≤ 140737488355328) :
    ∃ news, RepCs ok w ys news ∧ (∀ x ∈ news, x.oneCell' = true) ∧
      ((∃ vs', (Builtin.append_ #[T, T] ty #[.slice (some ⟨g, 0, none⟩) n cap, u]).run P w = .ok (.slice (some ⟨g, 0, none⟩) (n + m) cap) (w.setRow g ((us ++ news) ++ vs').toArray) ∧ ((us ++ news) ++ vs').length = (us ++ vs).length ∧ n + m ≤ cap) ∨
       (∃ cap' vs' w', (Builtin.append_ #[T, T] ty #[.slice (some ⟨g, 0, none⟩) n cap, u]).run P w = .ok (.slice (some ⟨w.heap.size, 0, none⟩) (n + m) cap') w' ∧ Below w.heap.size w w' ∧ w'.heap[w.heap.size]? = some (.cells ((us ++ news) ++ vs').toArray E (0, 0)) ∧ ((us ++ news) ++ vs').length = cap' * ti.size ∧ n + m ≤ cap' ∧ cap' ≤ maxLen)) := by
  obtain ⟨A, c, news, rfl, h4, h5, h6, h7⟩ := hu
  have hnl := h5.length
  refine ⟨news, h5, h6, ?_⟩
  rcases A with _ | ad
  · have hm : m = 0 := by
      rcases Nat.eq_zero_or_pos m with h0 | h0
      · exact h0
      · obtain ⟨b, o, he, _⟩ := h7 h0; cases he
    subst hm
    have : news = [] := List.eq_nil_of_length_eq_zero (by rw [hnl, h4]; simp)
    subst this
    refine .inl ⟨vs, ?_, by simp, by omega⟩
    rw [List.append_nil, setRow_self w g _ E (0, 0) hg]
    simp [Builtin.append_, run_underlying ht, sizeOf, typeInfo, hi, Builtin.lenOf, Builtin.firstCells, hnc, storeCells]
  · have hcells : ∀ j x, news[j]? = some x → w.cell? (ad.add j) = some x := by
      intro j x hx
      rcases Nat.eq_zero_or_pos m with h0 | h0
      · subst h0
        have : news = [] := List.eq_nil_of_length_eq_zero (by rw [hnl, h4]; simp)
        subst this
        simp at hx
      · obtain ⟨b, o, he, hc⟩ := h7 h0
        injection he with he
        subst he
        rw [gG]
        exact hc j x hx
    have hl : news.length = m * ti.size := by rw [hnl, h4]
    by_cases hroom : n + m ≤ cap
    · have hfit : n * ti.size + news.length ≤ (us ++ vs).toArray.size := by
        rw [hl, ← Nat.add_mul, List.size_toArray, hcap]; exact Nat.mul_le_mul_right _ hroom
      have hr := run_append_room (P := P) w T ty E ti ht hi g n cap _ hg ad m c news hl hcells h6 hroom hfit
      simp only [List.size_toArray] at hfit
      refine .inl ⟨vs.drop news.length, ?_, ?_, hroom⟩
      · rw [hr]
        congr 3
        simp only [List.toList_toArray]
        rw [List.take_append_of_le_length (by omega), List.take_of_length_le (by omega)]
        rw [List.drop_append, List.drop_of_length_le (by omega)]
        simp only [List.nil_append, hul]
        congr 2
        omega
      · simp only [List.length_append, List.length_drop] at hfit ⊢; omega
    · have holds : ∀ j x, us[j]? = some x → w.cell? ((⟨g, 0, none⟩ : Addr).add j) = some x := fun j x hx => by rw [gG, Nat.zero_add]; exact eY hg hx
      have hr := run_append_grow (P := P) w T ty E ti z ht hi hz ⟨g, 0, none⟩ n cap us hul holds ad m c news hl hcells (by omega) (by simp only [maxLen] at h63; omega) (growslice_fits (by omega) hb)
      have hge := grownCap_ge w (n + m) cap E
      have hle := grownCap_le_maxLen w (n + m) cap E h63
      refine .inr ⟨_, (Builtin.zeroCells z.cells (grownCap w (n + m) cap E - (n + m))).toList, _, hr, ?_, ?_, ?_, hge, hle⟩
      · exact ((Below.refl _ _).drew).alloc (Nat.le_refl _) _
      · rw [show w.heap.size = w.drew.heap.size from rfl, heap_alloc_new]
        congr 2
        apply Array.toList_inj.1
        simp
      · simp only [List.length_append, Array.length_toList, size_zeroCells, hzs, hl, hul, ← Nat.add_mul]
        congr 1; omega
theorem qN {w : World} {T ty E : TypeId} {ti : TypeInfo} {z : Value} (ht : P.underlying T = some (.slice E)) (hi : P.info? E = some ti) (hz : ti.zero = some z) (hzs : z.cells.size = ti.size)
    {ok : Nat → Prop} {m : Nat} {ys : List CV} {u : Value} (hu : SrcR ok w ti.size m ys u) (h63 : m ≤ maxLen) (hb : m * ti.bytes ≤ 140737488355328) :
    ∃ news, RepCs ok w ys news ∧ (∀ x ∈ news, x.oneCell' = true) ∧
      ((m = 0 ∧ (Builtin.append_ #[T, T] ty #[.slice none 0 0, u]).run P w = .ok (.slice none 0 0) w) ∨
       (∃ cap' vs' w', (Builtin.append_ #[T, T] ty #[.slice none 0 0, u]).run P w = .ok (.slice (some ⟨w.heap.size, 0, none⟩) m cap') w' ∧ Below w.heap.size w w' ∧ w'.heap[w.heap.size]? = some (.cells (news ++ vs').toArray E (0, 0)) ∧ (news ++ vs').length = cap' * ti.size ∧ m ≤ cap' ∧ cap' ≤ maxLen)) := by
  obtain ⟨A, c, news, rfl, h4, h5, h6, h7⟩ := hu
  have hnl := h5.length
  refine ⟨news, h5, h6, ?_⟩
  by_cases h0 : m = 0
  · subst h0
    have : news = [] := List.eq_nil_of_length_eq_zero (by rw [hnl, h4]; simp)
    subst this
    refine .inl ⟨rfl, ?_⟩
    rcases A with _ | ad
    · simp [Builtin.append_, run_underlying ht, sizeOf, typeInfo, hi, Builtin.lenOf, Builtin.firstCells]
    · simp [Builtin.append_, run_underlying ht, sizeOf, typeInfo, hi, Builtin.lenOf, Builtin.firstCells, loadCells, loadCellsFrom]
  · obtain ⟨b, o, rfl, hc⟩ := h7 (by omega)
    have hr := run_append_nil (P := P) w T ty E ti z ht hi hz ⟨b, o, none⟩ m c news (by rw [hnl, h4]) (fun j x hx => by rw [gG]; exact hc j x hx) (by omega) (by simp only [maxLen] at h63; omega) (by omega)
    have hge := grownCap_ge w m 0 E
    have hle := grownCap_le_maxLen w m 0 E h63
    refine .inr ⟨_, (Builtin.zeroCells z.cells (grownCap w m 0 E - m)).toList, _, hr, ?_, ?_, ?_, hge, hle⟩
    · exact ((Below.refl _ _).drew).alloc (Nat.le_refl _) _
    · rw [show w.heap.size = w.drew.heap.size from rfl, heap_alloc_new]
      congr 2
      apply Array.toList_inj.1
      simp
    · simp only [List.length_append, Array.length_toList, size_zeroCells, hzs, hnl, h4, ← Nat.add_mul]
      congr 1; omega

variable {ev : Evl} {h : Heap} {d : Option Tmp} {T ty : TypeId} {x y : Operand} {pos : String} {aft : Array Edge} {gd : Option (Nat × Bool)} {i : Nat}
theorem dD {w : World} (ρ : Operand → Value) {v : Value} {w' : World} (hr : (Builtin.append_ #[T, T] ty #[ρ x, ρ y]).run P w = .ok v w') : (execOp ρ ⟨d, .call ⟨.builtin .append, #[x, y], #[T, T]⟩, ty, pos, aft, gd⟩).run P w = .ok (.value v) w' := by
  simp only [execOp, resolve, invoke, builtin, Sem.run_bind, Sem.run_pure, Result.andThen_ok, List.map_toArray, List.map_cons, List.map_nil, hr]

theorem a_appendN (tb : TabOk P tab) {e e' : TyE} {E size m : Nat} {vy : AV} {ys : List CV} (hT : tyLook tab T = some e) (hk : e.kind = .slice E) (hE : tyLook tab E = some e') (hs : Nat.beq e'.size size = true) (hz : Nat.beq e'.zero.length size = true)
    (hx : ev x = some (.c (.v (.slice none 0 0)))) (hy : ev y = some vy) (hf : Src h vy size m ys) (h63 : m ≤ maxLen) (hb : m * e'.bytes ≤ 140737488355328) :
    Adds P ⟨d, .call ⟨.builtin .append, #[x, y], #[T, T]⟩, ty, pos, aft, gd⟩ ev h (.own i 0 m size true) [(i, .row E ys)] i (i + 1) := by
  refine iA rfl fun B dom M H w a hh hcc he => ?_
  have h1 := he x _ hx
  simp only [Rep, RepC] at h1
  have h2 := hf B dom M H w _ hh hcc (he y _ hy)
  obtain ⟨ti, zv, hi, hzv, hszt, hby, hzc⟩ := jF (aS tb hE)
  have hs' := Nat.eq_of_beq_eq_true hs
  have hz' := Nat.eq_of_beq_eq_true hz
  have hzs : zv.cells.size = ti.size := by rw [← Array.length_toList, hzc, hz', hszt, hs']
  rw [← hs', ← hszt] at h2
  obtain ⟨news, n1, n2, n3⟩ := qN (P := P) (ty := ty) ((aS tb hT).slice hk) hi hzv hzs h2 h63 (by rw [hby]; exact hb)
  rcases n3 with ⟨rfl, hr⟩ | ⟨cap', vs', w', hr, hb', hblk, hlen, hc1, hc2⟩
  · have : ys = [] := by
      obtain ⟨_, _, _, _, h4, _⟩ := h2
      exact List.eq_nil_of_length_eq_zero (by rw [h4]; simp)
    subst this
    exact ⟨_, w, none, dD a.eval (by rw [h1]; exact hr), Below.refl _ _, by simp, fun C hext hw hd hM => ⟨.inl ⟨rfl, rfl⟩, hd, .inl ⟨rfl, rfl, hM, rfl⟩⟩⟩
  · refine ⟨_, w', some w.heap.size, dD a.eval (by rw [h1]; exact hr), hb', fun g hg => by injection hg with hg; omega, fun C hext hw hd hM => ⟨.inr ⟨w.heap.size, news, vs', rfl, by rw [hw]; exact hblk, RepCs.mono hext.ok _ _ n1, n2⟩, hd, .inr (.inl ⟨w.heap.size, cap', hM, rfl, hc1, hc2, fun _ => ⟨E, ?_⟩⟩)⟩⟩
    unfold World.shape?
    rw [hw, hblk]
    simp only [List.size_toArray, Nat.zero_add]
    rw [hlen, hszt, hs']
end app

section steps
variable {P : Program} {tab : Tab} {sz n : Nat} {env : Env} {h : Heap} {dfs : Defs} {K : AK} {ops : Array Oper} {rest : List Oper} {d : Option Tmp} {T ty : TypeId} {x y : Operand} {pos : String} {aft : Array Edge} {gd : Option (Nat × Bool)}

theorem yI (tb : TabOk P tab) {e e' : TyE} {E size m k id : Nat} {vy : AV} {cs ys : List CV} (hg : guardA ops env ⟨d, .call ⟨.builtin .append, #[x, y], #[T, T]⟩, ty, pos, aft, gd⟩ true) (hd : dstOk d sz = true) (hT : tyLook tab T = some e) (hk : e.kind = .slice E) (hE : tyLook tab E = some e') (hs : Nat.beq e'.size size = true) (hz : Nat.beq e'.zero.length size = true)
    (hx : evA env x = some (.own id 0 m size true)) (ho : lk h id = some (.row E cs)) (hcl : cs.length = m * size) (hy : evA env y = some vy) (hf : Src h vy size k ys) (h63 : m + k ≤ maxLen) (hb : (m + k) * e'.bytes ≤ 140737488355328)
    (next : AWL P ops sz rest K (n + 1) (putE env d (.own n 0 (m + k) size true)) ((n, .row E (cs ++ ys)) :: (id, .dead) :: h) dfs) :
    AWL P ops sz (⟨d, .call ⟨.builtin .append, #[x, y], #[T, T]⟩, ty, pos, aft, gd⟩ :: rest) K n env h dfs := by
  intro B a w hc
  obtain ⟨M, c1, c2, c3, c4⟩ := hc
  refine dM fun K' hK' => ?_
  rw [if_pos (hg.wanted c3)]
  have hrx := dH c3 x _ hx
  have hry := dH c3 y _ hy
  have hid : id < n := by simp only [Rep] at hrx; exact hrx.1
  have h2 := hf B (lt n) M (lk h) w _ (fun id o h _ => h) c1 hry
  obtain ⟨ti, zv, hi, hzv, hszt, hby, hzc⟩ := jF (aS tb hE)
  have hs' := Nat.eq_of_beq_eq_true hs
  have hz' := Nat.eq_of_beq_eq_true hz
  have hzs : zv.cells.size = ti.size := by rw [← Array.length_toList, hzc, hz', hszt, hs']
  rw [← hs', ← hszt] at h2
  have hsl := (aS tb hT).slice hk
  -- what the walk goes on with, given the new block
  have fin : ∀ (w' : World) (gq : Option Nat) (u : Value), w'.os = w.os → w'.tape = w.tape → w'.output = w.output → w.heap.size ≤ w'.heap.size → (∀ b, b < w.heap.size → M id ≠ some b → w'.heap[b]? = w.heap[b]?) → (∀ b s, w.shape? b = some s → w'.shape? b = some s) →
      (∀ g, gq = some g → M id = some g ∨ w.heap.size ≤ g) →
      (∀ C, Ext (cx B n M h w) C → C.w = w' → C.dom n → C.M n = gq → ObjRep C gq (.row E (cs ++ ys)) ∧ Rep C (.own n 0 (m + k) size true) u) →
      K' (a.put d u) w' := by
    intro w' gq u e1 e2 e3 e4 e5 e6 e7 e8
    let M' : Nat → Option Nat := fun q => if q = n then gq else M q
    let h' : Heap := (n, .row E (cs ++ ys)) :: (id, .dead) :: h
    have hMn : M' n = gq := by simp [M']
    have hMo : ∀ q, q < n → M' q = M q := fun q hq => by have : q ≠ n := by omega
                                                         simp [M', this]
    have hln : lk h' n = some (.row E (cs ++ ys)) := by simp only [h', bD, if_true]; rfl
    have hlid : lk h' id = none := by simp only [h', bD]; rw [if_neg (by omega)]; simp [AObj.live]
    have hlo : ∀ q, q < n → q ≠ id → lk h' q = lk h q := fun q hq hqi => by simp only [h', bD]; rw [if_neg (by omega), if_neg (fun e => hqi e.symm)]
    have hobj : ∀ q o, q < n + 1 → lk h' q = some o → (q = n ∧ o = .row E (cs ++ ys)) ∨ (q < n ∧ q ≠ id ∧ lk h q = some o) := fun q o hq hH => by
      by_cases hqn : q = n
      · subst hqn; rw [hln] at hH; injection hH with hH; exact .inl ⟨rfl, hH.symm⟩
      · have hqn' : q < n := by omega
        by_cases hqi : q = id
        · subst hqi; rw [hlid] at hH; cases hH
        · rw [hlo q hqn' hqi] at hH; exact .inr ⟨hqn', hqi, hH⟩
    have hext : Ext (cx B n M h w) (cx B (n + 1) M' h' w') := by
      refine ⟨fun q hq => ⟨Nat.lt_succ_of_lt hq, hMo q hq⟩, fun b hb1 hb2 => ⟨⟨hb1.1, fun q o hq hH he => ?_⟩, Nat.lt_of_lt_of_le hb2 e4, e5 b hb2 (fun he => hb1.2 id _ hid ho he)⟩, fun b s hbs => e6 b s hbs⟩
      rcases hobj q o hq hH with ⟨rfl, rfl⟩ | ⟨h1, h3, h4⟩
      · rw [hMn] at he
        rcases e7 b he with h1 | h1
        · exact hb1.2 id _ hid ho h1
        · simp only [cx] at hb2; omega
      · rw [hMo q h1] at he; exact hb1.2 q o h1 h4 he
    have e8' := e8 _ hext rfl (Nat.lt_succ_self n) hMn
    have hcc : ConcH B (lt (n + 1)) M' (lk h') w' := by
      refine ⟨⟨e1.trans c1.fr.os, e2.trans c1.fr.tape, e3.trans c1.fr.output, Nat.le_trans c1.fr.size e4, fun b h1 h3 => ?_⟩, fun q o hq hH => ?_, fun q q' o o' g h1 h3 h4 h5 h6 h7 => ?_, fun q o g hq hH he => ?_⟩
      · rw [e5 b (Nat.lt_of_lt_of_le h1 c1.fr.size) (fun he => ?_)]
        · exact c1.fr.block b h1 h3
        · rcases c1.lo id _ b hid ho he with h4 | h4
          · omega
          · exact h3 h4
      · rcases hobj q o hq hH with ⟨rfl, rfl⟩ | ⟨h1, h3, h4⟩
        · rw [hMn]; exact e8'.1
        · rw [hMo q h1]
          have h5 := c1.obj q o h1 h4
          exact h5.ext hext (fun b hb => e5 b (h5.lt b hb) (fun he => h3 (c1.inj q id o _ b h1 hid h4 ho hb he)))
      · rcases hobj q o h1 h4 with ⟨rfl, rfl⟩ | ⟨p1, p2, p3⟩ <;> rcases hobj q' o' h3 h5 with ⟨rfl, rfl⟩ | ⟨r1, r2, r3⟩
        · rfl
        · rw [hMn] at h6; rw [hMo q' r1] at h7
          rcases e7 g h6 with t1 | t1
          · exact absurd (c1.inj q' id o' _ g r1 hid r3 ho h7 t1) r2
          · have := (c1.obj q' o' r1 r3).lt g h7; simp only at this; omega
        · rw [hMn] at h7; rw [hMo q p1] at h6
          rcases e7 g h7 with t1 | t1
          · exact absurd (c1.inj q id o _ g p1 hid p3 ho h6 t1) p2
          · have := (c1.obj q o p1 p3).lt g h6; simp only at this; omega
        · rw [hMo q p1] at h6; rw [hMo q' r1] at h7
          exact c1.inj q q' o o' g p1 r1 p3 r3 h6 h7
      · rcases hobj q o hq hH with ⟨rfl, rfl⟩ | ⟨h1, h3, h4⟩
        · rw [hMn] at he
          rcases e7 g he with t1 | t1
          · exact c1.lo id _ g hid ho t1
          · have := c1.fr.size; exact .inl (by omega)
        · rw [hMo q h1] at he; exact c1.lo q o g h1 h4 he
    obtain ⟨p1, p2, p3⟩ := iZ (h' := h') (M' := M') c2 c3 hext (dP hd) e8'.2
    exact hK' _ _ (next B _ _ ⟨M', hcc, p1, p2, by rw [p3]; exact c4.ext hext⟩)
  unfold Oper.wp
  simp only [Rep] at hrx
  rcases hrx.2 with ⟨q1, q2, q3, q4⟩ | ⟨g, cp, q1, q2, q3, q4, q5⟩ | ⟨_, q2, _⟩
  · subst q1
    obtain rfl : cs = [] := List.eq_nil_of_length_eq_zero (by simpa using hcl)
    obtain ⟨news, n1, n2, n3⟩ := qN (P := P) (ty := ty) hsl hi hzv hzs h2 (by simpa using h63) (by rw [hby]; simpa using hb)
    rcases n3 with ⟨r1, hr⟩ | ⟨cap', vs', w', hr, hb', hblk, hlen, hc1, hc2⟩
    · have hys : ys = [] := List.eq_nil_of_length_eq_zero (by
        obtain ⟨_, _, _, _, h4, _⟩ := h2
        rw [h4, r1]; simp)
      rw [dD a.eval (w' := w) (v := .slice none 0 0) (by rw [q4]; exact hr)]
      simp only [Oper.upon]
      refine fin w none _ rfl rfl rfl (Nat.le_refl _) (fun _ _ _ => rfl) (fun _ _ h => h) (by simp) (fun C hext hw hdn hMn => ⟨.inl ⟨rfl, by rw [hys]; rfl⟩, hdn, .inl ⟨by omega, rfl, hMn, rfl⟩⟩)
    · rw [dD a.eval (w' := w') (v := .slice (some ⟨w.heap.size, 0, none⟩) k cap') (by rw [q4]; exact hr)]
      simp only [Oper.upon]
      refine fin w' (some w.heap.size) _ hb'.os hb'.tape hb'.output hb'.size (fun b hb2 _ => hb'.block b hb2) (fun b s hs => by rw [eA (hb'.block b (kE hs))]; exact hs) (fun g hg => by injection hg with hg; exact .inr (by omega)) (fun C hext hw hdn hMn => ⟨.inr ⟨w.heap.size, news, vs', rfl, by rw [hw]; exact hblk, ?_, n2⟩, hdn, .inr (.inl ⟨w.heap.size, cap', hMn, by simp, by omega, hc2, fun _ => ⟨E, ?_⟩⟩)⟩)
      · rw [List.nil_append]
        exact RepCs.mono hext.ok _ _ n1
      · unfold World.shape?
        rw [hw, hblk]
        simp only [List.size_toArray, Nat.zero_add]
        rw [hlen, hszt, hs']
  · obtain ⟨us, vs, hblk0, hus, hon⟩ := eE (fun id o h _ => h) c1 ho hid q1
    obtain ⟨e0, hsh⟩ := q5 trivial
    have hcap : (us ++ vs).length = cp * ti.size := by
      have hsh' : w.shape? g = some (E, (us ++ vs).length) := by
        unfold World.shape?
        rw [hblk0]; simp
      simp only [cx] at hsh
      rw [hsh'] at hsh
      injection hsh with hsh
      have := congrArg Prod.snd hsh
      simp only [Nat.zero_add] at this
      rw [this, hszt, hs']
    obtain ⟨news, n1, n2, n3⟩ := run_app (P := P) (ty := ty) hsl hi hzv hzs hblk0 (by rw [hus.length, hcl, hszt, hs']) hcap q3 q4 h2 h63 (by rw [hby]; exact hb)
    rcases n3 with ⟨vs', hr, hlen, hroom⟩ | ⟨cap', vs', w', hr, hb', hblk, hlen, hc1, hc2⟩
    · rw [dD a.eval (v := .slice (some ⟨g, 0, none⟩) (m + k) cp) (by rw [q2]; exact hr)]
      simp only [Oper.upon]
      have hnew := setRow_heap w g _ ((us ++ news) ++ vs').toArray E _ hblk0
      have hshp : ∀ b s, w.shape? b = some s → (w.setRow g ((us ++ news) ++ vs').toArray).shape? b = some s := fun b s hs => by
        by_cases hbg : b = g
        · subst hbg
          rw [← hs]
          unfold World.shape?
          rw [hnew, hblk0]
          simp only [List.size_toArray, hlen]
        · rw [eA (setRow_other w g b _ hbg)]; exact hs
      refine fin _ (some g) _ rfl rfl rfl (by simp) (fun b _ hb2 => setRow_other w g b _ (fun e => hb2 (by rw [e]; exact q1))) hshp (fun g' hg' => by injection hg' with hg'; subst hg'; exact .inl q1) (fun C hext hw hdn hMn => ⟨.inr ⟨g, us ++ news, vs', rfl, by rw [hw]; exact hnew, RepCs.mono hext.ok _ _ (hus.append n1), fun u hu => (List.mem_append.1 hu).elim (hon u) (n2 u)⟩, hdn, .inr (.inl ⟨g, cp, hMn, rfl, hroom, q4, fun _ => ⟨e0, ?_⟩⟩)⟩)
      rw [hw]
      exact hshp _ _ hsh
    · rw [dD a.eval (v := .slice (some ⟨w.heap.size, 0, none⟩) (m + k) cap') (w' := w') (by rw [q2]; exact hr)]
      simp only [Oper.upon]
      refine fin w' (some w.heap.size) _ hb'.os hb'.tape hb'.output hb'.size (fun b hb2 _ => hb'.block b hb2) (fun b s hs => by rw [eA (hb'.block b (kE hs))]; exact hs) (fun g hg => by injection hg with hg; exact .inr (by omega)) (fun C hext hw hdn hMn => ⟨.inr ⟨w.heap.size, us ++ news, vs', rfl, by rw [hw]; exact hblk, RepCs.mono hext.ok _ _ (hus.append n1), fun u hu => (List.mem_append.1 hu).elim (hon u) (n2 u)⟩, hdn, .inr (.inl ⟨w.heap.size, cap', hMn, rfl, hc1, hc2, fun _ => ⟨E, ?_⟩⟩)⟩)
      unfold World.shape?
      rw [hw, hblk]
      simp only [List.size_toArray, Nat.zero_add]
      rw [hlen, hszt, hs']
  · cases q2

theorem awl_defer {f : FuncId} {caps : List AV} (hf : Nat.beq f collF = false) (hg : guardA ops env ⟨none, .defer ⟨.value x, #[], #[]⟩, ty, pos, aft, gd⟩ true) (hx : evA env x = some (.fn f caps))
    (next : AWL P ops sz rest K n env h ((some f, caps) :: dfs)) : AWL P ops sz (⟨none, .defer ⟨.value x, #[], #[]⟩, ty, pos, aft, gd⟩ :: rest) K n env h dfs := by
  intro B a w hc
  obtain ⟨M, c1, c2, c3, c4⟩ := hc
  refine dM fun K' hK' => ?_
  rw [if_pos (hg.wanted c3)]
  obtain ⟨us, hu, hus⟩ := dH c3 x _ hx
  unfold Oper.wp
  have hrun : (execOp a.eval ⟨none, .defer ⟨.value x, #[], #[]⟩, ty, pos, aft, gd⟩).run P w = .ok (.defer { target := .fn (.func f) us.toArray, args := #[] }) w := by
    simp [execOp, resolve, hu, Deferred.ofValue]
  rw [hrun]
  simp only [Oper.upon, Act.put]
  exact hK' _ _ (next B _ _ ⟨M, c1, c2, c3, us, _, by rw [pL hf], hus, c4⟩)
end steps
end Go.Av
namespace Go.Av
open Go Go.RowKit
section
variable {next : Nat → Env → Heap → Defs → Prop} {K : AK} {n : Nat} {env : Env} {h : Heap} {dfs : Defs} {id id' : Nat}
theorem k_blk (hk : K .normal n env h dfs) : inBlk id K .normal n env h dfs := hk
theorem k_blkR (hk : K .ret n env h dfs) : inBlk id K .ret n env h dfs := hk
theorem k_blkH (hb : Nat.beq id' id = true) (hk : K .normal n env h dfs) : inBlk id K (.exit id') n env h dfs := by simp only [inBlk, hb]; exact hk
end
theorem w64 {x : Int} (h1 : -9223372036854775808 ≤ x) (h2 : x ≤ 9223372036854775807) : IntKind.i64.wrap x = x := by rw [IntKind.wrap_i64]; omega
theorem wu64 {x : Int} (h1 : 0 ≤ x) (h2 : x ≤ 18446744073709551615) : IntKind.u64.wrap x = x := by rw [IntKind.wrap_u64]; omega
theorem wu8 {x : Int} (h1 : 0 ≤ x) (h2 : x ≤ 255) : IntKind.u8.wrap x = x := by rw [IntKind.wrap_u8]; omega
theorem q64 {x y : Int} (h0 : 0 ≤ x) (hy : 0 < y) (h2 : x ≤ 9223372036854775807) : IntKind.i64.wrap (x.tdiv y) = x / y := by
  rw [Int.tdiv_eq_ediv_of_nonneg h0]
  have h3 : 0 ≤ x / y := Int.ediv_nonneg h0 (by omega)
  have h4 : x / y ≤ x := Int.ediv_le_self _ h0
  exact w64 (by omega) (by omega)
theorem r64 {x y : Int} (h0 : 0 ≤ x) : x.tmod y = x % y := Int.tmod_eq_emod_of_nonneg h0
theorem nt {j : Int} (h : 0 ≤ j) : j = (j.toNat : Int) := by omega
theorem whole0 {α : Type} {cs : List α} {k : Nat} (h : cs.length = k) : (cs.drop 0).take k = cs := by rw [List.drop_zero, List.take_of_length_le (by omega)]
end Go.Av
namespace Go.Av
open Go Go.RowKit

def memB : List Nat → Nat → Bool
  | [], _ => false
  | x :: r, t => match Nat.beq x t with | true => true | false => memB r t
theorem jX : ∀ {l : List Nat} {t : Nat}, memB l t = true → t ∈ l
  | [], t, h => by cases h
  | x :: r, t, h => by
    unfold memB at h
    split at h
    · rename_i e; rw [Nat.eq_of_beq_eq_true e]; simp
    · exact List.mem_cons_of_mem _ (jX h)
def evT (ts : List Nat) (env : Env) : Evl
  | .tmp t => match memB ts t with | true => lkE env t | false => none
  | .const x => some (.c (.v x))
  | .global _ => none
  | .func f => some (.fn f [])

theorem lk_mem : ∀ {h : Heap} {id : Nat} {o : AObj}, lk h id = some o → ∃ p ∈ h, p.1 = id
  | [], id, o, h => by cases h
  | p :: r, id, o, h => by
    obtain ⟨i, q⟩ := p
    rw [bD] at h
    split at h
    · rename_i e; exact ⟨(i, q), by simp, e⟩
    · obtain ⟨p, hp, he⟩ := lk_mem h
      exact ⟨p, by simp [hp], he⟩

inductive Chain (P : Program) (ops : Array Oper) : List Oper → Env → Heap → Nat → List AV → List Nat → Env → Heap → Nat → Prop
  | nil {env : Env} {h : Heap} {n : Nat} : Chain P ops [] env h n [] [n] env h n
  | add {o : Oper} {os : List Oper} {env E : Env} {h Δ H : Heap} {n n' N : Nat} {v : AV} {vs : List AV} {ns : List Nat} (hg : guardA ops env o true) (hn : n ≤ n') (hA : Adds P o (evT (o.looksAt ops) env) h v Δ n n') (hcov : ∀ id, n ≤ id → id < n' → (lk Δ id).isSome = true) (hkeys : ∀ p ∈ Δ, n ≤ p.1 ∧ p.1 < n')
      (hr : Chain P ops os (putE env o.dst v) (Δ ++ h) n' vs ns E H N) : Chain P ops (o :: os) env h n (v :: vs) (n :: ns) E H N
  | skip {o : Oper} {os : List Oper} {env E : Env} {h H : Heap} {n N : Nat} {vs : List AV} {ns : List Nat} (hg : guardA ops env o false)
      (hr : Chain P ops os (putE env o.dst (.c (.v undef))) h n vs ns E H N) : Chain P ops (o :: os) env h n (.c (.v undef) :: vs) (n :: ns) E H N

theorem Chain.le {P : Program} {ops : Array Oper} {l : List Oper} {env E : Env} {h H : Heap} {n N : Nat} {vs : List AV} {ns : List Nat} (hc : Chain P ops l env h n vs ns E H N) : n ≤ N ∧ ns[0]? = some n ∧ ns.length = l.length + 1 ∧ vs.length = l.length ∧ ns[l.length]? = some N ∧ ∀ id, id < n → lk H id = lk h id := by
  induction hc with
  | nil => exact ⟨Nat.le_refl _, rfl, rfl, rfl, rfl, fun _ _ => rfl⟩
  | add hg hn hA hcov hkeys hr ih =>
    obtain ⟨h1, h2, h3, h4, h5, h6⟩ := ih
    refine ⟨by omega, rfl, by simp [h3], by simp [h4], by simpa using h5, fun id hid => ?_⟩
    rw [h6 id (by omega)]
    exact fW fun p hp e => by have := (hkeys p hp).1; omega
  | skip hg hr ih =>
    obtain ⟨h1, h2, h3, h4, h5, h6⟩ := ih
    exact ⟨h1, rfl, by simp [h3], by simp [h4], by simpa using h5, h6⟩

structure StepAt (P : Program) (ops : Array Oper) (l : List Oper) (env0 : Env) (vs : List AV) (ns : List Nat) (H : Heap) (N i : Nat) (o : Oper) (env : Env) (h Δ : Heap) (n n' : Nat) (v : AV) : Prop where
  step : (guardA ops env o true ∧ Adds P o (evT (o.looksAt ops) env) h v Δ n n') ∨ (guardA ops env o false ∧ v = .c (.v undef) ∧ n' = n)
  hv : vs[i]? = some v
  hn : ns[i]? = some n
  hn' : ns[i + 1]? = some n'
  le : n ≤ n' ∧ n' ≤ N
  env : ∀ t av, lkE env t = some av → (∃ j oj, j < i ∧ l[j]? = some oj ∧ oj.dst = some t ∧ vs[j]? = some av) ∨ (lkE env0 t = some av ∧ ∀ j oj, j < i → l[j]? = some oj → oj.dst ≠ some t)
  old : ∀ id, id < n → lk H id = lk h id
  new : ∀ id, n ≤ id → id < n' → lk H id = lk Δ id
  keys : ∀ p ∈ h, p.1 < n

theorem Chain.get {P : Program} {ops : Array Oper} {l : List Oper} {env E : Env} {h H : Heap} {n N : Nat} {vs : List AV} {ns : List Nat} (hc : Chain P ops l env h n vs ns E H N) :
    (∀ p ∈ h, p.1 < n) → ∀ i o, l[i]? = some o → ∃ env' h' Δ n1 n2 v, StepAt P ops l env vs ns H N i o env' h' Δ n1 n2 v := by
  induction hc with
  | nil => intro _ i o hi; simp at hi
  | @add o os env E h Δ H n n' N v vs ns hg hn hA hcov hkeys hr ih =>
    intro hk0 i o' hi
    have hk1 : ∀ p ∈ Δ ++ h, p.1 < n' := fun p hp => (List.mem_append.1 hp).elim (fun hp => (hkeys p hp).2) (fun hp => by have := hk0 p hp; omega)
    have hle := hr.le
    cases i with
    | zero =>
      simp at hi; subst hi
      refine ⟨env, h, Δ, n, n', v, .inl ⟨hg, hA⟩, rfl, rfl, by simpa using hle.2.1, ⟨hn, hle.1⟩, fun t av ht => .inr ⟨ht, fun j oj hj => by omega⟩, fun id hid => ?_, fun id h1 h2 => ?_, hk0⟩
      · rw [hle.2.2.2.2.2 id (by omega)]
        exact fW fun p hp e => by have := (hkeys p hp).1; omega
      · rw [hle.2.2.2.2.2 id (by omega)]
        obtain ⟨q, hq⟩ := Option.isSome_iff_exists.1 (hcov id h1 h2)
        rw [gQ hq, hq]
    | succ i =>
      obtain ⟨env', h', Δ', n1, n2, v', s⟩ := ih hk1 i o' (by simpa using hi)
      refine ⟨env', h', Δ', n1, n2, v', s.step, by simpa using s.hv, by simpa using s.hn, by simpa using s.hn', s.le, fun t av ht => ?_, s.old, s.new, s.keys⟩
      rcases s.env t av ht with ⟨j, oj, h1, h2, h3, h4⟩ | ⟨h1, h2⟩
      · exact .inl ⟨j + 1, oj, by omega, by simpa using h2, h3, by simpa using h4⟩
      · cases hd : o.dst with
        | none =>
          rw [hd] at h1
          exact .inr ⟨h1, fun j oj hj hl => by
            cases j with
            | zero => simp at hl; subst hl; rw [hd]; simp
            | succ j => exact h2 j oj (by omega) (by simpa using hl)⟩
        | some d =>
          rw [hd] at h1
          simp only [putE, cW] at h1
          by_cases hdt : d = t
          · rw [if_pos hdt] at h1
            injection h1 with h1
            subst h1
            exact .inl ⟨0, o, by omega, rfl, by rw [hd, hdt], rfl⟩
          · rw [if_neg hdt] at h1
            exact .inr ⟨h1, fun j oj hj hl => by
              cases j with
              | zero => simp at hl; subst hl; rw [hd]; intro e; exact hdt (Option.some.inj e)
              | succ j => exact h2 j oj (by omega) (by simpa using hl)⟩
  | @skip o os env E h H n N vs ns hg hr ih =>
    intro hk0 i o' hi
    have hle := hr.le
    cases i with
    | zero =>
      simp at hi; subst hi
      exact ⟨env, h, [], n, n, .c (.v undef), .inr ⟨hg, rfl, rfl⟩, rfl, rfl, by simpa using hle.2.1, ⟨Nat.le_refl _, hle.1⟩, fun t av ht => .inr ⟨ht, fun j oj hj => by omega⟩, fun id hid => hle.2.2.2.2.2 id hid, fun id h1 h2 => by omega, hk0⟩
    | succ i =>
      obtain ⟨env', h', Δ', n1, n2, v', s⟩ := ih hk0 i o' (by simpa using hi)
      refine ⟨env', h', Δ', n1, n2, v', s.step, by simpa using s.hv, by simpa using s.hn, by simpa using s.hn', s.le, fun t av ht => ?_, s.old, s.new, s.keys⟩
      rcases s.env t av ht with ⟨j, oj, h1, h2, h3, h4⟩ | ⟨h1, h2⟩
      · exact .inl ⟨j + 1, oj, by omega, by simpa using h2, h3, by simpa using h4⟩
      · cases hd : o.dst with
        | none =>
          rw [hd] at h1
          exact .inr ⟨h1, fun j oj hj hl => by
            cases j with
            | zero => simp at hl; subst hl; rw [hd]; simp
            | succ j => exact h2 j oj (by omega) (by simpa using hl)⟩
        | some d =>
          rw [hd] at h1
          simp only [putE, cW] at h1
          by_cases hdt : d = t
          · rw [if_pos hdt] at h1
            injection h1 with h1
            subst h1
            exact .inl ⟨0, o, by omega, rfl, by rw [hd, hdt], rfl⟩
          · rw [if_neg hdt] at h1
            exact .inr ⟨h1, fun j oj hj hl => by
              cases j with
              | zero => simp at hl; subst hl; rw [hd]; intro e; exact hdt (Option.some.inj e)
              | succ j => exact h2 j oj (by omega) (by simpa using hl)⟩

theorem Chain.envEnd {P : Program} {ops : Array Oper} {l : List Oper} {env E : Env} {h H : Heap} {n N : Nat} {vs : List AV} {ns : List Nat} (hc : Chain P ops l env h n vs ns E H N) :
    ∀ t av, lkE E t = some av → (∃ j oj, j < l.length ∧ l[j]? = some oj ∧ oj.dst = some t ∧ vs[j]? = some av) ∨ (lkE env t = some av ∧ ∀ (j : Nat) (oj : Oper), l[j]? = some oj → oj.dst ≠ some t) := by
  have key : ∀ {o : Oper} {os : List Oper} {env E : Env} {v : AV} {vs : List AV}, (∀ t av, lkE E t = some av → (∃ j oj, j < os.length ∧ os[j]? = some oj ∧ oj.dst = some t ∧ vs[j]? = some av) ∨ (lkE (putE env o.dst v) t = some av ∧ ∀ (j : Nat) (oj : Oper), os[j]? = some oj → oj.dst ≠ some t)) →
      ∀ t av, lkE E t = some av → (∃ j oj, j < (o :: os).length ∧ (o :: os)[j]? = some oj ∧ oj.dst = some t ∧ (v :: vs)[j]? = some av) ∨ (lkE env t = some av ∧ ∀ (j : Nat) (oj : Oper), (o :: os)[j]? = some oj → oj.dst ≠ some t) := by
    intro o os env E v vs ih t av ht
    rcases ih t av ht with ⟨j, oj, h1, h2, h3, h4⟩ | ⟨h1, h2⟩
    · exact .inl ⟨j + 1, oj, by simp; omega, by simpa using h2, h3, by simpa using h4⟩
    · cases hd : o.dst with
      | none =>
        rw [hd] at h1
        exact .inr ⟨h1, fun j oj hl => by
          cases j with
          | zero => simp at hl; subst hl; rw [hd]; simp
          | succ j => exact h2 j oj (by simpa using hl)⟩
      | some d =>
        rw [hd] at h1
        simp only [putE, cW] at h1
        by_cases hdt : d = t
        · rw [if_pos hdt] at h1
          injection h1 with h1
          subst h1
          exact .inl ⟨0, o, by simp, rfl, by rw [hd, hdt], rfl⟩
        · rw [if_neg hdt] at h1
          exact .inr ⟨h1, fun j oj hl => by
            cases j with
            | zero => simp at hl; subst hl; rw [hd]; intro e; exact hdt (Option.some.inj e)
            | succ j => exact h2 j oj (by simpa using hl)⟩
  induction hc with
  | nil => intro t av ht; exact .inr ⟨ht, fun j oj hl => by simp at hl⟩
  | add hg hn hA hcov hkeys hr ih => exact key ih
  | skip hg hr ih => exact key ih

def dstsB (l : List Oper) (t : Nat) : Bool := l.any fun o => match o.dst with | some d => Nat.beq d t | none => false
def uniqB : List Oper → Bool
  | [] => true
  | o :: r => (match o.dst with | some d => !dstsB r d | none => true) && uniqB r
def edgeB (o : Oper) (j : Nat) : Bool := o.after.any fun e => Region.binds .any e && Nat.beq e.on j
def needB (l : List Oper) (o : Oper) (t : Nat) : Bool := !dstsB l t || (List.range l.length).any fun j => (match l[j]? with | some oj => (match oj.dst with | some d => Nat.beq d t | none => false) && edgeB o j | none => false)
def headB (ops : Array Oper) (l : List Oper) : Bool :=
  uniqB l && (List.range l.length).all fun i => match l[i]? with
    | some o => (o.after.all fun e => !Region.binds .any e || Nat.blt e.on i) && (o.looksAt ops).all fun t => needB l o t
    | none => true
def doneL (m k : Nat) : Array Bool := (List.replicate m true ++ List.replicate k false).toArray
def drawB (l : List Oper) (m : Nat) : Bool :=
  Nat.ble m l.length && headB l.toArray (l.take m) && (Nat.beq m l.length || (Region.sinkB .any l.toArray m && Region.chainB .any l.toArray m)) && Region.seqB .any l.toArray (l.length - m) m (doneL m (l.length - m))

theorem kZ {l : List Oper} {t : Nat} (h : dstsB l t = false) : ∀ (j : Nat) (oj : Oper), l[j]? = some oj → oj.dst ≠ some t := by
  intro j oj hj hd
  have := List.any_eq_false.1 h oj (List.mem_of_getElem? hj)
  rw [hd] at this
  simp [Nat.beq_refl] at this
theorem eQ : ∀ {l : List Oper}, uniqB l = true → ∀ {i j : Nat} {oi oj : Oper} {t : Nat}, l[i]? = some oi → l[j]? = some oj → oi.dst = some t → oj.dst = some t → i = j
  | [], h, i, j, oi, oj, t, hi, hj, h1, h2 => by simp at hi
  | o :: r, h, i, j, oi, oj, t, hi, hj, h1, h2 => by
    simp only [uniqB, Bool.and_eq_true] at h
    cases i with
    | zero =>
      cases j with
      | zero => rfl
      | succ j =>
        simp at hi hj
        subst hi
        have h3 := h.1
        rw [h1] at h3
        exact absurd h2 (kZ (by simpa using h3) j oj hj)
    | succ i =>
      cases j with
      | zero =>
        simp at hi hj
        subst hj
        have h3 := h.1
        rw [h2] at h3
        exact absurd h1 (kZ (by simpa using h3) i oi hi)
      | succ j => exact congrArg Nat.succ (eQ h.2 (by simpa using hi) (by simpa using hj) h1 h2)
def domL (n0 : Nat) (ns : List Nat) (m : Nat) (listed : Array Bool) (id : Nat) : Prop := id < n0 ∨ ∃ j a b, j < m ∧ listed.getD j false = true ∧ ns[j]? = some a ∧ ns[j + 1]? = some b ∧ a ≤ id ∧ id < b

def InvL (B : Bs) (sz n0 : Nat) (env0 : Env) (dfs : Defs) (l : List Oper) (vs : List AV) (ns : List Nat) (H : Heap) (listed : Array Bool) (a : Act) (w : World) : Prop :=
  ∃ M, ConcH B (domL n0 ns l.length listed) M (lk H) w ∧ a.tmps.size = sz ∧
    (∀ j o t v, l[j]? = some o → listed.getD j false = true → o.dst = some t → vs[j]? = some v → Rep ⟨domL n0 ns l.length listed, M, okOf B (domL n0 ns l.length listed) M (lk H), w⟩ v (a.tmps.getD t undef)) ∧
    (∀ t av, lkE env0 t = some av → (∀ (j : Nat) (o : Oper), l[j]? = some o → listed.getD j false = true → o.dst ≠ some t) → Rep ⟨domL n0 ns l.length listed, M, okOf B (domL n0 ns l.length listed) M (lk H), w⟩ av (a.tmps.getD t undef)) ∧
    DefRep B.fr ⟨domL n0 ns l.length listed, M, okOf B (domL n0 ns l.length listed) M (lk H), w⟩ dfs a.defers

theorem dY {ops : Array Oper} {l : List Oper} (h : headB ops l = true) {i : Nat} {o : Oper} (hi : l[i]? = some o) : (∀ e ∈ o.after, Region.binds .any e = true → e.on < i) ∧ (∀ t ∈ o.looksAt ops, needB l o t = true) := by
  simp only [headB, Bool.and_eq_true, List.all_eq_true] at h
  have hlt := (List.getElem?_eq_some_iff.1 hi).1
  have h1 := h.2 i (List.mem_range.2 hlt)
  simp only [hi, Bool.and_eq_true] at h1
  refine ⟨fun e he hb => ?_, fun t ht => List.all_eq_true.1 h1.2 t ht⟩
  have h2 := Array.all_eq_true'.1 h1.1 e he
  rw [hb] at h2
  simpa [Nat.blt_eq] using h2
theorem lJ {l : List Oper} {o : Oper} {t : Nat} (h : needB l o t = true) : (∀ (j : Nat) (oj : Oper), l[j]? = some oj → oj.dst ≠ some t) ∨ ∃ j oj, l[j]? = some oj ∧ oj.dst = some t ∧ ∃ e ∈ o.after, Region.binds .any e = true ∧ e.on = j := by
  simp only [needB, Bool.or_eq_true, Bool.not_eq_true'] at h
  rcases h with h | h
  · exact .inl (kZ h)
  · obtain ⟨j, _, hj⟩ := List.any_eq_true.1 h
    split at hj
    · rename_i oj hoj
      simp only [Bool.and_eq_true] at hj
      obtain ⟨h1, h2⟩ := hj
      unfold edgeB at h2
      obtain ⟨e, he, h3⟩ := Array.any_eq_true'.1 h2
      simp only [Bool.and_eq_true] at h3
      split at h1
      · rename_i d hd
        exact .inr ⟨j, oj, hoj, by rw [hd, Nat.eq_of_beq_eq_true h1], e, he, h3.1, Nat.eq_of_beq_eq_true h3.2⟩
      · cases h1
    · cases hj

section perm
variable {P : Program} {ops : Array Oper} {B : Bs} {sz n0 N : Nat} {env0 E : Env} {h0 H : Heap} {dfs : Defs} {l : List Oper} {vs : List AV} {ns : List Nat} {listed : Array Bool}

theorem oO {P : Program} {ops : Array Oper} {l : List Oper} {env E : Env} {h H : Heap} {n N : Nat} {vs : List AV} {ns : List Nat} (hc : Chain P ops l env h n vs ns E H N) : ∀ {i j a b : Nat}, i ≤ j → ns[i]? = some a → ns[j]? = some b → a ≤ b := by
  induction hc with
  | nil =>
    intro i j a b hij ha hb
    cases i with
    | zero => cases j with | zero => simp at ha hb; omega | succ j => simp at hb
    | succ i => simp at ha
  | @add o os env E h Δ H n n' N v vs ns hg hn hA hcov hkeys hr ih =>
    intro i j a b hij ha hb
    cases i with
    | zero =>
      cases j with
      | zero => simp at ha hb; omega
      | succ j =>
        simp at ha hb
        have := ih (Nat.zero_le j) hr.le.2.1 hb
        omega
    | succ i =>
      cases j with
      | zero => omega
      | succ j => exact ih (i := i) (j := j) (by omega) (by simpa using ha) (by simpa using hb)
  | @skip o os env E h H n N vs ns hg hr ih =>
    intro i j a b hij ha hb
    cases i with
    | zero =>
      cases j with
      | zero => simp at ha hb; omega
      | succ j =>
        simp at ha hb
        have := ih (Nat.zero_le j) hr.le.2.1 hb
        omega
    | succ i =>
      cases j with
      | zero => omega
      | succ j => exact ih (i := i) (j := j) (by omega) (by simpa using ha) (by simpa using hb)

theorem pM {m i a b : Nat} (hi : i < m) (hs : listed.getD i true = false) (ha : ns[i]? = some a) (hb : ns[i + 1]? = some b) : domL n0 ns m (listed.setIfInBounds i true) = ad (domL n0 ns m listed) a b := by
  have hsz : i < listed.size := by
    rcases Nat.lt_or_ge i listed.size with h | h
    · exact h
    · simp [Array.getElem?_eq_none h] at hs
  funext id
  simp only [domL, ad, eq_iff_iff]
  constructor
  · rintro (h | ⟨j, a', b', h1, h2, h3, h4, h5, h6⟩)
    · exact .inl (.inl h)
    · by_cases hij : i = j
      · subst hij
        rw [ha] at h3; rw [hb] at h4
        injection h3 with h3; injection h4 with h4
        exact .inr (by omega)
      · rw [getD_set_ne false hij] at h2
        exact .inl (.inr ⟨j, a', b', h1, h2, h3, h4, h5, h6⟩)
  · rintro ((h | ⟨j, a', b', h1, h2, h3, h4, h5, h6⟩) | ⟨h1, h2⟩)
    · exact .inl h
    · exact .inr ⟨j, a', b', h1, getD_set_true h2, h3, h4, h5, h6⟩
    · exact .inr ⟨i, a, b, hi, by simp [hsz], ha, hb, h1, h2⟩

theorem step_L (hc : Chain P ops l env0 h0 n0 vs ns E H N) (hB : headB ops l = true) (hk0 : ∀ p ∈ h0, p.1 < n0) (hsz : ∀ (j : Nat) (oj : Oper) (t : Nat), l[j]? = some oj → oj.dst = some t → t < sz) (hops : ∀ (j : Nat) (oj : Oper), l[j]? = some oj → ops[j]? = some oj) {Q : Exit → Act → World → Prop} {i : Nat} {o : Oper} {a : Act} {w : World} (hi : l[i]? = some o) (hr : i ∈ Region.ready .any ops listed) (hinv : InvL B sz n0 env0 dfs l vs ns H listed a w)
    {K : Act → World → Prop} (hK : ∀ a' w', InvL B sz n0 env0 dfs l vs ns H (listed.setIfInBounds i true) a' w' → K a' w') : wpOp P ops Q i K a w := by
  obtain ⟨M, c1, c2, c3, c4, c5⟩ := hinv
  obtain ⟨env', h', Δ, n1, n2, v, s⟩ := hc.get hk0 i o hi
  have hlt := (List.getElem?_eq_some_iff.1 hi).1
  have hun := (mem_ready.1 hr).1
  have hall : ∀ e ∈ o.after, Region.binds .any e = true → listed.getD e.on false = true := by
    obtain ⟨_, o', ho', hall⟩ := mem_ready.1 hr
    rw [hops i o hi] at ho'
    injection ho' with ho'
    subst ho'
    exact hall
  have hlistsz : i < listed.size := by
    rcases Nat.lt_or_ge i listed.size with h | h
    · exact h
    · simp [Array.getElem?_eq_none h] at hun
  have hb := dY hB hi
  have hu := (show uniqB l = true by simp only [headB, Bool.and_eq_true] at hB; exact hB.1)
  -- what the operation looks at
  have look : ∀ t av, t ∈ o.looksAt ops → lkE env' t = some av → Rep ⟨domL n0 ns l.length listed, M, okOf B (domL n0 ns l.length listed) M (lk H), w⟩ av (a.tmps.getD t undef) := by
    intro t av ht hav
    rcases lJ (hb.2 t ht) with hno | ⟨j, oj, hj, hdj, e, he, heb, hej⟩
    · rcases s.env t av hav with ⟨j, oj, h1, h2, h3, h4⟩ | ⟨h1, h2⟩
      · exact absurd h3 (hno j oj h2)
      · exact c4 t av h1 (fun j o' hj _ => hno j o' hj)
    · have hlj := hall e he heb
      rw [hej] at hlj
      have hji : j < i := by have := hb.1 e he heb; omega
      rcases s.env t av hav with ⟨j', oj', h1, h2, h3, h4⟩ | ⟨h1, h2⟩
      · have := eQ hu h2 hj h3 hdj
        subst this
        exact c3 j' oj' t av h2 hlj h3 h4
      · exact absurd hdj (h2 j oj hji hj)
  have hdset := pM (n0 := n0) (m := l.length) hlt hun s.hn s.hn'
  -- the state behind it
  have fin : ∀ u w' M', Ext ⟨domL n0 ns l.length listed, M, okOf B (domL n0 ns l.length listed) M (lk H), w⟩ ⟨domL n0 ns l.length (listed.setIfInBounds i true), M', okOf B (domL n0 ns l.length (listed.setIfInBounds i true)) M' (lk H), w'⟩ → ConcH B (domL n0 ns l.length (listed.setIfInBounds i true)) M' (lk H) w' → Rep ⟨domL n0 ns l.length (listed.setIfInBounds i true), M', okOf B (domL n0 ns l.length (listed.setIfInBounds i true)) M' (lk H), w'⟩ v u → K (a.put o.dst u) w' := by
    intro u w' M' hext hcc hv
    refine hK _ _ ⟨M', hcc, ?_, fun j oj t vj hj hl hd hvj => ?_, fun t av hav hno => ?_, ?_⟩
    · cases hd : o.dst with
      | none => simpa [Act.put] using c2
      | some d => simp [Act.put, c2]
    · by_cases hij : i = j
      · subst hij
        rw [hi] at hj; injection hj with hj; subst hj
        rw [s.hv] at hvj; injection hvj with hvj; subst hvj
        have ht := hsz i o t hi hd
        rw [hd]
        simp only [Act.put]
        rw [show (a.tmps.setIfInBounds t u).getD t undef = u by simp [c2, ht]]
        exact hv
      · rw [getD_set_ne false hij] at hl
        have h1 := c3 j oj t vj hj hl hd hvj
        have hne : ∀ d, o.dst = some d → d ≠ t := fun d hdd e => hij (eQ hu hi hj (by rw [hdd, e]) hd)
        cases hdo : o.dst with
        | none => simpa [Act.put] using Rep.ext hext _ _ h1
        | some d =>
          simp only [Act.put]
          rw [show (a.tmps.setIfInBounds d u).getD t undef = a.tmps.getD t undef by simp [Array.getElem?_setIfInBounds_ne (hne d hdo)]]
          exact Rep.ext hext _ _ h1
    · have hself : o.dst ≠ some t := hno i o hi (by simp [hlistsz])
      have h1 := c4 t av hav (fun j oj hj hl => hno j oj hj (getD_set_true hl))
      cases hdo : o.dst with
      | none => simpa [Act.put] using Rep.ext hext _ _ h1
      | some d =>
        have hne : d ≠ t := fun e => hself (by rw [hdo, e])
        simp only [Act.put]
        rw [show (a.tmps.setIfInBounds d u).getD t undef = a.tmps.getD t undef by simp [Array.getElem?_setIfInBounds_ne hne]]
        exact Rep.ext hext _ _ h1
    · have : (a.put o.dst u).defers = a.defers := by cases o.dst <;> rfl
      rw [this]
      exact c5.ext hext
  unfold wpOp
  rw [hops i o hi]
  simp only
  -- the guard
  have gd : ∀ b, guardA ops env' o b → Region.wanted o (yielded ops a.tmps) = b := by
    intro b hg
    unfold guardA at hg
    unfold Region.wanted
    cases hgd : o.guard with
    | none => rw [hgd] at hg; exact hg.symm
    | some p =>
      obtain ⟨j, want⟩ := p
      rw [hgd] at hg
      obtain ⟨t, h1, h2⟩ := hg
      rcases h2 with ⟨c, h2, h3⟩ | ⟨h2, rfl⟩
      rotate_left
      · have h4 := look t _ (by
          unfold Oper.looksAt
          rw [hgd]
          exact List.mem_append_right _ (by simp [h1])) h2
        simp only [Rep, RepC] at h4
        simp [gY h1 h4]
      have h4 := look t _ (by
        unfold Oper.looksAt
        rw [hgd]
        exact List.mem_append_right _ (by simp [h1])) h2
      simp only [Rep, RepC] at h4
      have hlt : t < a.tmps.size := by
        rcases Nat.lt_or_ge t a.tmps.size with h1 | h1
        · exact h1
        · simp [h1, undef] at h4
      have : yielded ops a.tmps j = some c := by
        unfold yielded
        rw [h1]
        have h5 : a.tmps[t]? = some (.bool c) := by
          rw [← h4]
          simp [hlt]
        simp [h5]
      simp only [this]
      rw [← h3]
      cases c <;> cases want <;> rfl
  rcases s.step with ⟨hg, hA⟩ | ⟨hg, rfl, rfl⟩
  · rw [gd true hg, if_pos rfl]
    refine .inl (hA B (domL n0 ns l.length listed) M (lk H) w a K Q (fun id ob k1 k2 => ?_) (fun id k1 k2 => ⟨?_, s.new id k1 k2⟩) c1 (fun x av hx => ?_) ?_)
    · -- an object of the text's heap is there
      rcases Nat.lt_or_ge id n1 with h1 | h1
      · rw [s.old id h1]; exact k1
      · obtain ⟨p, hp, hpi⟩ := lk_mem k1
        have := s.keys p hp
        omega
    · rintro (h1 | ⟨j, p, q, h1, h2, h3, h4, h5, h6⟩)
      · have := oO hc (Nat.zero_le i) hc.le.2.1 s.hn
        omega
      · have hij : i ≠ j := fun e => by subst e; rw [getD_both hun] at h2; cases h2
        rcases Nat.lt_or_gt_of_ne hij with h7 | h7
        · have := oO hc (show i + 1 ≤ j by omega) s.hn' h3
          omega
        · have := oO hc (show j + 1 ≤ i by omega) h4 s.hn
          omega
    · cases x with
      | tmp t =>
        simp only [evT] at hx
        split at hx
        · rename_i hm
          exact look t av (jX hm) hx
        · cases hx
      | const x => simp only [evT, Option.some.injEq] at hx; subst hx; simp [Rep, RepC, Act.eval]
      | global g => cases hx
      | func f => simp only [evT, Option.some.injEq] at hx; subst hx; exact ⟨[], rfl, rfl⟩
    · intro u w' M' hext hcc hv
      rw [← hdset] at hext hcc hv
      exact fin u w' M' hext hcc hv
  · rw [gd false hg, if_neg (by simp)]
    have hds2 : domL n0 ns l.length (listed.setIfInBounds i true) = domL n0 ns l.length listed := by rw [hdset, cQ]
    refine fin undef w M ?_ ?_ ?_
    · rw [hds2]; exact Ext.refl _
    · rw [hds2]; exact c1
    · simp [Rep, RepC]

theorem initL {w : World} {a : Act} {k : Nat} (hc : Chain P ops l env0 h0 n0 vs ns E H N) (h : Conc B sz n0 env0 h0 dfs a w) : InvL B sz n0 env0 dfs l vs ns H (Array.replicate k false) a w := by
  obtain ⟨M, c1, c2, c3, c4⟩ := h
  have hd : domL n0 ns l.length (Array.replicate k false) = lt n0 := by
    funext id
    simp only [domL, lt, eq_iff_iff]
    refine ⟨fun h => h.elim (fun h => h) ?_, .inl⟩
    rintro ⟨j, p, q, h1, h2, _⟩
    rw [getD_replicate_false] at h2
    cases h2
  have hle := hc.le
  have hH : ∀ id, id < n0 → lk H id = lk h0 id := hle.2.2.2.2.2
  have eok : okOf B (lt n0) M (lk H) = okOf B (lt n0) M (lk h0) := by
    funext b
    unfold okOf
    simp only [eq_iff_iff]
    refine and_congr Iff.rfl ⟨fun hk id o hid hh => hk id o hid (by rw [hH id hid]; exact hh), fun hk id o hid hh => hk id o hid (by rw [← hH id hid]; exact hh)⟩
  refine ⟨M, ?_, c2, (fun j o t v hj hl => by rw [getD_replicate_false] at hl; cases hl), fun t av hav _ => ?_, ?_⟩
  · rw [hd]
    refine ⟨c1.fr, fun id o hid hh => ?_, fun id id' o o' g k1 k2 k3 k4 => c1.inj id id' o o' g k1 k2 (by rw [← hH id k1]; exact k3) (by rw [← hH id' k2]; exact k4), fun id o g k1 k2 => c1.lo id o g k1 (by rw [← hH id k1]; exact k2)⟩
    rw [eok]
    exact c1.obj id o hid (by rw [← hH id hid]; exact hh)
  · rw [hd, eok]; exact c3 t av hav
  · rw [hd, eok]; exact c4

theorem endL {w : World} {a : Act} (hc : Chain P ops l env0 h0 n0 vs ns E H N) (hall : ∀ j, j < l.length → listed.getD j false = true) (h : InvL B sz n0 env0 dfs l vs ns H listed a w) : Conc B sz N E H dfs a w := by
  obtain ⟨M, c1, c2, c3, c4, c5⟩ := h
  have hle := hc.le
  have hd : domL n0 ns l.length listed = lt N := by
    funext id
    simp only [domL, lt, eq_iff_iff]
    constructor
    · rintro (h | ⟨j, p, q, h1, h2, h3, h4, h5, h6⟩)
      · omega
      · have := oO hc (show j + 1 ≤ l.length by omega) h4 hle.2.2.2.2.1
        omega
    · intro hid
      rcases Nat.lt_or_ge id n0 with h | h
      · exact .inl h
      · -- the first place whose bound is past id
        have : ∀ k, k ≤ l.length → (∃ b, ns[k]? = some b ∧ id < b) → ∃ j a b, j < l.length ∧ ns[j]? = some a ∧ ns[j + 1]? = some b ∧ a ≤ id ∧ id < b := by
          intro k
          induction k with
          | zero =>
            rintro _ ⟨b, hb, hlt⟩
            rw [hle.2.1] at hb
            injection hb with hb
            omega
          | succ k ih =>
            rintro hk ⟨b, hb, hlt⟩
            have hkl : k < ns.length := by rw [hle.2.2.1]; omega
            by_cases hq : ns[k] ≤ id
            · exact ⟨k, ns[k], b, by omega, List.getElem?_eq_getElem hkl, hb, hq, hlt⟩
            · exact ih (by omega) ⟨ns[k], List.getElem?_eq_getElem hkl, by omega⟩
        obtain ⟨j, p, q, h1, h2, h3, h4, h5⟩ := this l.length (Nat.le_refl _) ⟨N, hle.2.2.2.2.1, hid⟩
        exact .inr ⟨j, p, q, h1, hall j h1, h2, h3, h4, h5⟩
  rw [hd] at c1 c3 c4 c5
  refine ⟨M, c1, c2, fun t av ht => ?_, c5⟩
  rcases hc.envEnd t av ht with ⟨j, oj, h1, h2, h3, h4⟩ | ⟨h1, h2⟩
  · exact c3 j oj t av h2 (hall j h1) h3 h4
  · exact c4 t av h1 (fun j o hj _ => h2 j o hj)
end perm

def dstsOk (l : List Oper) (sz : Nat) : Bool := l.all fun o => dstOk o.dst sz
def keysB (h : Heap) (n : Nat) : Bool := h.all fun p => Nat.blt p.1 n

theorem jM {listed : Array Bool} : ∀ (m : Nat), (List.range m).countP (fun j => !listed.getD j false) = 0 → ∀ j, j < m → listed.getD j false = true := by
  intro m h j hj
  rw [List.countP_eq_zero] at h
  have := h j (List.mem_range.2 hj)
  simpa using this
theorem kY {listed : Array Bool} {i : Nat} : ∀ (m : Nat), i < m → listed.getD i true = false → (List.range m).countP (fun j => !listed.getD j false) = (List.range m).countP (fun j => !(listed.setIfInBounds i true).getD j false) + 1 := by
  intro m hi hun
  have hsz : i < listed.size := by
    rcases Nat.lt_or_ge i listed.size with h | h
    · exact h
    · simp [Array.getElem?_eq_none h] at hun
  induction m with
  | zero => omega
  | succ m ih =>
    rw [List.range_succ, List.countP_append, List.countP_append]
    by_cases him : i = m
    · subst him
      have h1 : (List.range i).countP (fun j => !listed.getD j false) = (List.range i).countP (fun j => !(listed.setIfInBounds i true).getD j false) := by
        apply List.countP_congr
        intro j hj
        have := List.mem_range.1 hj
        rw [getD_set_ne false (by omega)]
      have h2 : listed.getD i false = false := getD_both hun
      have h3 : (listed.setIfInBounds i true).getD i false = true := by simp [hsz]
      rw [h1]
      simp only [List.countP_singleton, h2, h3]
      simp
    · rw [ih (by omega)]
      have : (listed.setIfInBounds i true).getD m false = listed.getD m false := getD_set_ne false him
      simp only [List.countP_singleton, this]
      omega

theorem aw_draw {P : Program} {sz n0 N : Nat} {env0 E : Env} {h0 H : Heap} {dfs : Defs} {K : AK} {id : Nat} {l : List Oper} {vs : List AV} {ns : List Nat} (m : Nat) (hm : P.follows .mixedOrders = true) (hB : drawB l m = true) (hsz : dstsOk (l.take m) sz = true) (hk0 : keysB h0 n0 = true)
    (hc : Chain P l.toArray (l.take m) env0 h0 n0 vs ns E H N) (next : AWL P l.toArray sz (l.drop m) K N E H dfs) : AW P sz (.region id l.toArray true) K n0 env0 h0 dfs := by
  intro B a w hcc rd hrd
  simp only [drawB, Bool.and_eq_true, Bool.or_eq_true] at hB
  obtain ⟨⟨⟨b1, b2⟩, b3⟩, b4⟩ := hB
  have hml : m ≤ l.length := Nat.le_of_ble_eq_true b1
  have htl : (l.take m).length = m := by simp; omega
  have hk0' : ∀ p ∈ h0, p.1 < n0 := fun p hp => by simpa [Nat.blt_eq] using List.all_eq_true.1 hk0 p hp
  have hsz' : ∀ (j : Nat) (oj : Oper) (t : Nat), (l.take m)[j]? = some oj → oj.dst = some t → t < sz := fun j oj t hj hd => by
    have := List.all_eq_true.1 hsz oj (List.mem_of_getElem? hj)
    exact dP this t hd
  have hops : ∀ (j : Nat) (oj : Oper), (l.take m)[j]? = some oj → l.toArray[j]? = some oj := fun j oj hj => by
    rw [List.getElem?_take] at hj
    split at hj
    · simpa using hj
    · cases hj
  have hnd : rd = none ∨ ∀ (i : Nat) (o : Oper), l.toArray[i]? = some o → noDef o = true := hrd.imp_right fun k i o ho => tA (by simpa [plainC] using k) ho
  have hdrop : rd = none ∨ (l.drop m).all noDef = true := hrd.imp_right fun k => List.all_eq_true.2 fun o ho => List.all_eq_true.1 (by simpa [plainC] using k) o (List.mem_of_mem_drop ho)
  refine wpIn_region_any hm ?_
  -- the world behind the draw
  have hdrew : Conc B sz n0 env0 h0 dfs a { w with drawn := w.drawn + 1 } := by
    obtain ⟨M, c1, c2, c3, c4⟩ := hcc
    have hbel : Below w.heap.size w { w with drawn := w.drawn + 1 } := (Below.refl _ _).drew
    have hg := c1.grow hbel n0 n0 (M' := M) (fun _ _ => rfl) (fun id h1 h2 => by omega) (fun id o h1 h2 => by omega) (fun id id' o o' g h1 h2 => by omega) (fun _ id o h1 h2 => by omega)
    rw [cQ] at hg
    exact ⟨M, hg.1, c2, fun t av ht => Rep.ext hg.2 _ _ (c3 t av ht), c4.ext hg.2⟩
  have key : ∀ (f : Nat) (listed : Array Bool) (a : Act) (w : World), (List.range m).countP (fun j => !listed.getD j false) = f → HeadInv .any l.toArray m listed → InvL B sz n0 env0 dfs (l.take m) vs ns H listed a w →
      wpAnyIn (WF rd) 0 P .any l.toArray (KC B sz K) (f + (l.length - m)) listed a w := by
    intro f
    induction f with
    | zero =>
      intro listed a w hcnt hinv hI
      have hall := jM m hcnt
      have hlisted : listed = doneL m (l.length - m) := by
        apply Array.ext
        · rw [hinv.size]; simp [doneL]; omega
        · intro j h1 h2
          rw [hinv.size] at h1
          simp only [List.size_toArray] at h1
          by_cases hj : j < m
          · have := hall j hj
            simp [hinv.size, h1] at this
            simp [doneL, hj, this, List.getElem_append]
          · have := hinv.tail j (by omega) (by simpa using h1)
            simp [hinv.size, h1] at this
            simp [doneL, hj, this, List.getElem_append]
      rw [Nat.zero_add]
      have hconc := endL hc (by rw [htl]; exact hall) hI
      have := fG (F := WF rd) (n := 0) (P := P) (ops := l.toArray) (md := .any) (Q' := KC B sz K) (l.drop m) m listed a w (fun j => by simp [List.getElem?_drop]) (by rw [List.length_drop, hlisted]; exact b4) (next B a w hconc rd hdrop)
      rwa [List.length_drop] at this
    | succ f ih =>
      intro listed a w hcnt hinv hI
      rw [show f + 1 + (l.length - m) = (f + (l.length - m)) + 1 by omega]
      -- some operation of the head is still to come
      have hex : ∃ j, j < m ∧ listed.getD j false = false := by
        have hpos : 0 < (List.range m).countP (fun j => !listed.getD j false) := by omega
        obtain ⟨j, hj, hp⟩ := List.countP_pos_iff.1 hpos
        exact ⟨j, List.mem_range.1 hj, by simpa using hp⟩
      have hsize : ∀ j, j < m → j < listed.size := fun j hj => by rw [hinv.size]; simp; omega
      have hready : Region.ready .any l.toArray listed ≠ [] := by
        obtain ⟨j0, hj0, hu0⟩ := hex
        obtain ⟨j, ⟨hj, hu⟩, hmin⟩ := dX (fun j => j < m ∧ listed.getD j false = false) ⟨j0, hj0, hu0⟩
        have hjl : j < (l.take m).length := by omega
        have hb := dY b2 (List.getElem?_eq_getElem hjl)
        have hr : j ∈ Region.ready .any l.toArray listed := by
          refine mem_ready.2 ⟨getD_in (hsize j hj) hu, (l.take m)[j], hops j _ (List.getElem?_eq_getElem hjl), fun e he hbn => ?_⟩
          have hlt := hb.1 e he hbn
          cases hle : listed.getD e.on false with
          | true => rfl
          | false => have := hmin e.on ⟨by omega, hle⟩; omega
        intro h0; rw [h0] at hr; cases hr
      refine ⟨fun h => absurd h hready, fun i hi => ?_⟩
      have him : i < m := by
        rcases Nat.lt_or_ge i m with h | h
        · exact h
        · exfalso
          obtain ⟨_, oi, hoi, _⟩ := mem_ready.1 hi
          have hil : i < l.length := by simpa using (Array.getElem?_eq_some_iff.1 hoi).1
          rcases b3 with b3 | b3
          · have := Nat.eq_of_beq_eq_true b3; omega
          · obtain ⟨j0, hj0, hu0⟩ := hex
            exact tail_waits b3.1 b3.2 (by simp; omega) hinv _ j0 rfl hj0 (getD_in (hsize j0 hj0) hu0) i h hi
      have hil : i < (l.take m).length := by omega
      refine uM (hnd.imp_right fun k => k i) (step_L (Q := fun _ _ _ => False) hc b2 hk0' hsz' hops (List.getElem?_eq_getElem hil) hi hI fun a' w' hI' => ?_)
      refine ih _ a' w' ?_ (hinv.set hi him) hI'
      have := kY m him (mem_ready.1 hi).1
      omega
  have hcount : (List.range m).countP (fun j => !(Array.replicate l.toArray.size false).getD j false) = m := by
    rw [List.countP_eq_length.2 (fun j hj => by rw [getD_replicate_false]; rfl), List.length_range]
  have := key m (Array.replicate l.toArray.size false) a _ hcount ⟨by simp, (fun j oj hj hl => by rw [getD_replicate_false] at hl; cases hl), fun t h1 h2 => by simp at h2; simp [h2]⟩ (initL hc hdrew)
  rw [show m + (l.length - m) = l.toArray.size by simp; omega] at this
  exact this
end Go.Av
namespace Go.Av
open Go Go.RowKit

theorem Chain.snoc {P : Program} {ops : Array Oper} {l : List Oper} {env E : Env} {h H : Heap} {n N : Nat} {vs : List AV} {ns : List Nat} (hc : Chain P ops l env h n vs ns E H N) {o : Oper} {v : AV} {Δ : Heap} {N' : Nat}
    (hs : (guardA ops E o true ∧ N ≤ N' ∧ Adds P o (evT (o.looksAt ops) E) H v Δ N N' ∧ (∀ id, N ≤ id → id < N' → (lk Δ id).isSome = true) ∧ (∀ p ∈ Δ, N ≤ p.1 ∧ p.1 < N')) ∨ (guardA ops E o false ∧ v = .c (.v undef) ∧ Δ = [] ∧ N' = N)) :
    ∃ vs' ns', Chain P ops (l ++ [o]) env h n vs' ns' (putE E o.dst v) (Δ ++ H) N' := by
  induction hc with
  | nil =>
    rcases hs with ⟨h1, h2, h3, h4, h5⟩ | ⟨h1, rfl, rfl, rfl⟩
    · exact ⟨_, _, .add h1 h2 h3 h4 h5 .nil⟩
    · exact ⟨_, _, .skip h1 .nil⟩
  | add hg hn hA hcov hkeys hr ih =>
    obtain ⟨vs', ns', hch⟩ := ih hs
    exact ⟨_, _, .add hg hn hA hcov hkeys hch⟩
  | skip hg hr ih =>
    obtain ⟨vs', ns', hch⟩ := ih hs
    exact ⟨_, _, .skip hg hch⟩

def Drw (P : Program) (l : List Oper) (sz : Nat) (K : AK) (dfs : Defs) (id n0 : Nat) (env0 : Env) (h0 : Heap) (m : Nat) (rest : List Oper) (n : Nat) (env : Env) (h : Heap) : Prop :=
  ∀ pre vs ns, pre ++ rest = l → Chain P l.toArray pre env0 h0 n0 vs ns env h n → AW P sz (.region id l.toArray true) K n0 env0 h0 dfs

section
variable {P : Program} {l : List Oper} {sz : Nat} {K : AK} {dfs : Defs} {id n0 n : Nat} {env0 env : Env} {h0 h : Heap} {m : Nat} {rest : List Oper} {o : Oper} {v : AV}
theorem aw_drw (m : Nat) (hx : Drw P l sz K dfs id n0 env0 h0 m l n0 env0 h0) : AW P sz (.region id l.toArray true) K n0 env0 h0 dfs := hx [] [] [n0] rfl .nil
theorem lY {Δ : Heap} {n' : Nat} (hg : guardA l.toArray env o true) (hn : n ≤ n') (hA : Adds P o (evT (o.looksAt l.toArray) env) h v Δ n n') (hcov : ∀ id, n ≤ id → id < n' → (lk Δ id).isSome = true) (hkeys : ∀ p ∈ Δ, n ≤ p.1 ∧ p.1 < n')
    (next : Drw P l sz K dfs id n0 env0 h0 m rest n' (putE env o.dst v) (Δ ++ h)) : Drw P l sz K dfs id n0 env0 h0 (m + 1) (o :: rest) n env h := by
  intro pre vs ns hl hc
  obtain ⟨vs', ns', hch⟩ := hc.snoc (.inl ⟨hg, hn, hA, hcov, hkeys⟩)
  exact next (pre ++ [o]) vs' ns' (by simpa using hl) hch
theorem drw_skip (hg : guardA l.toArray env o false) (next : Drw P l sz K dfs id n0 env0 h0 m rest n (putE env o.dst (.c (.v undef))) h) : Drw P l sz K dfs id n0 env0 h0 (m + 1) (o :: rest) n env h := by
  intro pre vs ns hl hc
  obtain ⟨vs', ns', hch⟩ := hc.snoc (.inr ⟨hg, rfl, rfl, rfl⟩)
  exact next (pre ++ [o]) vs' ns' (by simpa using hl) hch
theorem drw_still (hg : guardA l.toArray env o true) (hA : Still P o (evT (o.looksAt l.toArray) env) h v) (next : Drw P l sz K dfs id n0 env0 h0 m rest n (putE env o.dst v) h) : Drw P l sz K dfs id n0 env0 h0 (m + 1) (o :: rest) n env h :=
  lY hg (Nat.le_refl _) hA.adds (fun id h1 h2 => by omega) (by simp) next
theorem drw_new (hg : guardA l.toArray env o true) (hA : Adds P o (evT (o.looksAt l.toArray) env) h v [] n n) (next : Drw P l sz K dfs id n0 env0 h0 m rest n (putE env o.dst v) h) : Drw P l sz K dfs id n0 env0 h0 (m + 1) (o :: rest) n env h :=
  lY hg (Nat.le_refl _) hA (fun id h1 h2 => by omega) (by simp) next
theorem drw_one {obj : AObj} (hlv : obj.live = some obj) (hg : guardA l.toArray env o true) (hA : Adds P o (evT (o.looksAt l.toArray) env) h v [(n, obj)] n (n + 1)) (next : Drw P l sz K dfs id n0 env0 h0 m rest (n + 1) (putE env o.dst v) ((n, obj) :: h)) : Drw P l sz K dfs id n0 env0 h0 (m + 1) (o :: rest) n env h :=
  lY hg (Nat.le_succ _) hA (fun id h1 h2 => by
    obtain rfl : id = n := by omega
    rw [bD, if_pos rfl, hlv]; rfl) (by simp) next
theorem drw_end (hm : P.follows .mixedOrders = true) (hB : drawB l (l.length - rest.length) = true) (hsz : dstsOk (l.take (l.length - rest.length)) sz = true) (hk0 : keysB h0 n0 = true) (next : AWL P l.toArray sz rest K n env h dfs) : Drw P l sz K dfs id n0 env0 h0 0 rest n env h := by
  intro pre vs ns hl hc
  have hlen : l.length - rest.length = pre.length := by rw [← hl]; simp
  rw [hlen] at hB hsz
  have ht : l.take pre.length = pre := by rw [← hl]; simp
  have hd : l.drop pre.length = rest := by rw [← hl]; simp
  exact aw_draw pre.length hm hB hsz hk0 (by rw [ht]; exact hc) (by rw [hd]; exact next)

variable {d : Option Tmp} {ty : TypeId} {pos : String} {aft : Array Edge} {gd : Option (Nat × Bool)} {f : FuncId} {xs : List Operand} {ats : Array TypeId} {r : AV} {hr : Heap} {nr : Nat}
theorem shH_lt {k nr : Nat} : ∀ {h : Heap}, h.all (fun p => Nat.blt p.1 nr) = true → ∀ p ∈ shH k h, k ≤ p.1 ∧ p.1 < k + nr
  | [], _, p, hp => by cases hp
  | q :: r, hb, p, hp => by
    simp only [List.all_cons, Bool.and_eq_true, Nat.blt_eq] at hb
    rw [shH] at hp
    rcases List.mem_cons.1 hp with rfl | hp
    · exact ⟨by simp, by simp; exact hb.1⟩
    · exact shH_lt (by simpa using hb.2) p hp
theorem vE {cs cs' : List CV} (hg : guardA l.toArray env ⟨d, .call ⟨.value (.func f), xs.toArray, ats⟩, ty, pos, aft, gd⟩ true) (hb : Body P f) (hx : argsC (evT (Oper.looksAt l.toArray ⟨d, .call ⟨.value (.func f), xs.toArray, ats⟩, ty, pos, aft, gd⟩) env) xs = some cs) (hac : AC P f cs' r hr nr) (hcv : CvL cs cs') (hcov : covB hr nr = true)
    (next : Drw P l sz K dfs id n0 env0 h0 m rest (n + nr) (putE env d (r.sh n)) (shH n hr ++ h)) : Drw P l sz K dfs id n0 env0 h0 (m + 1) (⟨d, .call ⟨.value (.func f), xs.toArray, ats⟩, ty, pos, aft, gd⟩ :: rest) n env h :=
  lY hg (Nat.le_add_right _ _) (kI hb hx hac hcv hcov) (fun id h1 h2 => by
    have := (mZ hcov (id - n)).1 (by omega)
    obtain ⟨o, ho⟩ := Option.isSome_iff_exists.1 this
    rw [show id = n + (id - n) by omega, uB, ho]; rfl) (shH_lt (by simp only [covB, Bool.and_eq_true] at hcov; exact hcov.1)) next
end

def AWR (P : Program) (sz : Nat) (c : Code) (K : AK) : Nat → Nat → Env → Heap → Defs → Prop
  | 0, _, _, _, _ => False
  | k + 1, n, env, h, dfs => AW P sz c (thenA (fun n env h dfs => AWR P sz c K k n env h dfs) K) n env h dfs
def fillA (place : Nat → Option (Nat × Nat)) (cs : List AV) : List (Nat × List AV) → Option (List AV)
  | [] => some cs
  | (i, vs) :: r => match place i with
    | some (off, size) => match Nat.beq vs.length size && Nat.ble (off + vs.length) cs.length with
      | true => fillA place (lay cs off vs) r
      | false => none
    | none => none
inductive CellsA : AV → List AV → Prop
  | agg {v : AV} {xs : List AV} (h : Parts v xs) : CellsA v xs
  | one {v : AV} (h : v.one = true) : CellsA v [v]
theorem CellsA.rep {C : Cx} {v : AV} {xs : List AV} (h : CellsA v xs) {u : Value} (hr : Rep C v u) : RepL C xs u.cells.toList := by
  cases h with
  | agg h => obtain ⟨us, rfl, h2⟩ := h.rep hr; simpa [Value.cells] using h2
  | one h => rw [(hr.one h).2]; exact ⟨u, [], rfl, hr, rfl⟩
inductive CellsL : List AV → List (List AV) → Prop
  | nil : CellsL [] []
  | cons {v : AV} {xs : List AV} {l : List AV} {ls : List (List AV)} (h : CellsA v xs) (hl : CellsL l ls) : CellsL (v :: l) (xs :: ls)
theorem rT {C : Cx} (place : Nat → Option (Nat × Nat)) : ∀ {ps : List (Nat × Value)} {ks : List Nat} {vs : List AV} {ls : List (List AV)} {cs out : List AV} {us : List Value}, CellsL vs ls → ps.map (·.1) = ks → RepL C vs (ps.map (·.2)) → RepL C cs us → fillA place cs (ks.zip ls) = some out →
    ∃ us', Instr.fill place us.toArray ps = some us'.toArray ∧ RepL C out us'
  | [], ks, vs, ls, cs, out, us, hc, hk, hv, hcs, hf => by
    simp at hk; subst hk
    simp [fillA] at hf; subst hf
    exact ⟨us, rfl, hcs⟩
  | (k, u) :: ps, ks, vs, ls, cs, out, us, hc, hk, hv, hcs, hf => by
    simp only [List.map_cons] at hk hv
    subst hk
    cases hc with
    | nil => obtain ⟨h1⟩ := hv
    | @cons v xs l ls h hl =>
      simp only [RepL] at hv
      obtain ⟨u', us'', he, h1, h2⟩ := hv
      injection he with he1 he2
      subst he1 he2
      simp only [List.zip_cons_cons, fillA] at hf
      split at hf
      · rename_i off size hp
        split at hf
        · rename_i hb
          simp only [Bool.and_eq_true] at hb
          have hlen := (h.rep h1).length
          have e1 := Nat.eq_of_beq_eq_true hb.1
          have e2 := Nat.le_of_ble_eq_true hb.2
          have hul := hcs.length
          have hcs' : RepL C (lay cs off xs) (lay us off u.cells.toList) := by
            unfold lay
            rw [hlen]
            exact ((hcs.take off).append (h.rep h1)).append (hcs.drop (off + xs.length))
          obtain ⟨us', h3, h4⟩ := rT place hl rfl h2 hcs' hf
          refine ⟨us', ?_, h4⟩
          rw [vK (vs := u.cells.toList) (off := off) rfl (by rw [hlen, e1]; exact hp) (by rw [hlen, hul]; exact e2)]
          exact h3
        · cases hf
      · cases hf

section build
variable {P : Program} {tab : Tab} {ev : Evl} {h : Heap} {d : Option Tmp} {T ty : TypeId} {pos : String} {aft : Array Edge} {gd : Option (Nat × Bool)}
def placeS (tab : Tab) (fs : List (Nat × TypeId)) (i : Nat) : Option (Nat × Nat) := match fs[i]? with
  | some (off, t) => match tyLook tab t with | some e => some (off, e.size) | none => none
  | none => none
theorem oA (w : World) : ∀ (fs : List Field) (g : List (Nat × TypeId)), fs.map (fun f => (f.offset, f.type)) = g → (∀ (i : Nat) (p : Nat × TypeId), g[i]? = some p → ∃ e, tyLook tab p.2 = some e) → TabOk P tab →
    ∃ ps : List (Nat × Nat), (fs.mapM (fun (f : Field) => (do pure (f.offset, ← sizeOf f.type) : Sem (Nat × Nat)))).run P w = .ok ps w ∧ ∀ i, ps[i]? = placeS tab g i
  | [], g, hg, hl, tb => by
    simp at hg; subst hg
    exact ⟨[], by simp, fun i => by simp [placeS]⟩
  | f :: fs, g, hg, hl, tb => by
    simp only [List.map_cons] at hg
    subst hg
    obtain ⟨e, he⟩ := hl 0 (f.offset, f.type) rfl
    obtain ⟨ps, h1, h2⟩ := oA w fs _ rfl (fun i p hp => hl (i + 1) p (by simpa using hp)) tb
    refine ⟨(f.offset, e.size) :: ps, ?_, fun i => ?_⟩
    · simp only [List.mapM_cons, Sem.run_bind, (aS tb he).sizeOf w, Result.andThen_ok, Sem.run_pure, h1]
    · cases i with
      | zero => simp only [placeS, List.getElem?_cons_zero]; simp only at he; rw [he]
      | succ i => simpa [placeS] using h2 i
theorem tR (tb : TabOk P tab) {e : TyE} {fs : List (Nat × TypeId)} {ps : List (Nat × Operand)} {vs : List AV} {ls : List (List AV)} {out : List AV} {v : AV} (hT : tyLook tab T = some e) (hk : e.kind = .struct fs) (hfs : fs.all (fun p => (tyLook tab p.2).isSome) = true) (hx : argsA ev (ps.map (·.2)) = some vs) (hcl : CellsL vs ls) (hf : fillA (placeS tab fs) (zav e.zero) ((ps.map (·.1)).zip ls) = some out) (hv : IsAgg out v) :
    Still P ⟨d, .build T ps.toArray, ty, pos, aft, gd⟩ ev h v := by
  intro B dom M H w a hh hc he
  have hargs := eI he (iB hx)
  obtain ⟨fields, h1, h2⟩ := (aS tb hT).struct hk
  obtain ⟨ti, hi, hs, hby, z, hz, hzc⟩ := (aS tb hT).parts
  obtain ⟨qs, h3, h4⟩ := oA (P := P) (tab := tab) w fields.toList fs h2 (fun i p hp => Option.isSome_iff_exists.1 (List.all_eq_true.1 hfs p (List.mem_of_getElem? hp))) tb
  obtain ⟨us', h5, h6⟩ := rT (ps := ps.map fun p => (p.1, a.eval p.2)) (ks := ps.map (·.1)) (placeS tab fs) hcl (by simp) (by rw [List.map_map]; rw [List.map_map] at hargs; exact hargs) (zav_rep e.zero) hf
  refine ⟨.agg us'.toArray, ?_, hv.rep h6⟩
  have hm : (fields.mapM fun (f : Field) => (do pure (f.offset, ← sizeOf f.type) : Sem (Nat × Nat))).run P w = .ok qs.toArray w := by
    rw [Array.mapM_eq_mapM_toList, map_eq_pure_bind, Sem.run_bind, h3]
    rfl
  have hplace : (fun i => qs.toArray[i]?) = placeS tab fs := by
    funext i; rw [← h4 i]; simp
  simp only [execOp, Instr.build, Sem.run_bind, zeroValue, typeInfo, run_program, Result.andThen_ok, hi, Sem.run_pure, hz, run_underlying h1, hm]
  rw [hplace]
  rw [show (Array.map (fun x => (x.fst, a.eval x.snd)) ps.toArray).toList = ps.map fun p => (p.1, a.eval p.2) by simp]
  rw [show z.cells = e.zero.toArray by rw [← hzc]]
  rw [h5]
  rfl
end build
end Go.Av
namespace Go.Av
open Go Go.RowKit

def IsW (p : Int) (x : BitVec 64) : Prop := p = (x.toNat : Int)
theorem IsW.ofInt {p : Int} {x : BitVec 64} (h : IsW p x) : BitVec.ofInt 64 p = x := by
  unfold IsW at h
  subst h
  apply BitVec.eq_of_toNat_eq
  simp only [BitVec.toNat_ofInt]
  have := x.isLt
  omega
section
variable {P : Program} {tab : Tab} {ev : Evl} {h : Heap} {d : Option Tmp} {T ty T' : TypeId} {X Y : Operand} {pos : String} {aft : Array Edge} {gd : Option (Nat × Bool)} {p q : Int} {x y : BitVec 64} (hX : ev X = some (.c (.v (.int .u64 p)))) (hp : IsW p x)
include hX hp
end
end Go.Av
namespace Go.Av
open Go
section
variable {P : Program} {ops : Array Oper} {sz n n0 i m : Nat} {K : AK} {env env0 : Env} {h h0 : Heap} {dfs : Defs} {rest l : List Oper} {d : Option Tmp} {ty : TypeId} {pos : String} {aft : Array Edge} {gd : Option (Nat × Bool)} {ev : Evl} {v : AV}
theorem isA_alloc {T : TypeId} (hh : AWL P ops sz (⟨d, .alloc T, ty, pos, aft, gd⟩ :: rest) K n env h dfs) : AWL P ops sz (⟨d, .alloc T, ty, pos, aft, gd⟩ :: rest) K n env h dfs := hh
theorem isA_box {T : TypeId} {x : Operand} (hh : AWL P ops sz (⟨d, .box T x, ty, pos, aft, gd⟩ :: rest) K n env h dfs) : AWL P ops sz (⟨d, .box T x, ty, pos, aft, gd⟩ :: rest) K n env h dfs := hh
theorem nE {T : TypeId} {ps : Array (Nat × Operand)} (hh : AWL P ops sz (⟨d, .build T ps, ty, pos, aft, gd⟩ :: rest) K n env h dfs) : AWL P ops sz (⟨d, .build T ps, ty, pos, aft, gd⟩ :: rest) K n env h dfs := hh
theorem cK {T : TypeId} {k : Nat} {ps : Array (Nat × Operand)} (hh : AWL P ops sz (⟨d, .buildSlice T k ps, ty, pos, aft, gd⟩ :: rest) K n env h dfs) : AWL P ops sz (⟨d, .buildSlice T k ps, ty, pos, aft, gd⟩ :: rest) K n env h dfs := hh
theorem dQ {T : TypeId} {k : Nat} {ps : Array (Nat × Operand)} (hh : Drw P l sz K dfs i n0 env0 h0 m (⟨d, .buildSlice T k ps, ty, pos, aft, gd⟩ :: rest) n env h) : Drw P l sz K dfs i n0 env0 h0 m (⟨d, .buildSlice T k ps, ty, pos, aft, gd⟩ :: rest) n env h := hh
theorem cS {T : TypeId} {x y : Operand} (hh : AWL P ops sz (⟨d, .store T x y, ty, pos, aft, gd⟩ :: rest) K n env h dfs) : AWL P ops sz (⟨d, .store T x y, ty, pos, aft, gd⟩ :: rest) K n env h dfs := hh
theorem isA_conv {T T' : TypeId} {x : Operand} (hh : AWL P ops sz (⟨d, .convert T T' x, ty, pos, aft, gd⟩ :: rest) K n env h dfs) : AWL P ops sz (⟨d, .convert T T' x, ty, pos, aft, gd⟩ :: rest) K n env h dfs := hh
theorem gZ {b : Builtin} {xs : Array Operand} {ts : Array TypeId} (hh : AWL P ops sz (⟨d, .call ⟨.builtin b, xs, ts⟩, ty, pos, aft, gd⟩ :: rest) K n env h dfs) : AWL P ops sz (⟨d, .call ⟨.builtin b, xs, ts⟩, ty, pos, aft, gd⟩ :: rest) K n env h dfs := hh
theorem aE {f : FuncId} {xs : Array Operand} {ts : Array TypeId} (hh : AWL P ops sz (⟨d, .call ⟨.value (.func f), xs, ts⟩, ty, pos, aft, gd⟩ :: rest) K n env h dfs) : AWL P ops sz (⟨d, .call ⟨.value (.func f), xs, ts⟩, ty, pos, aft, gd⟩ :: rest) K n env h dfs := hh
theorem aT {f : FuncId} {xs : Array Operand} {ts : Array TypeId} (hh : Drw P l sz K dfs i n0 env0 h0 m (⟨d, .call ⟨.value (.func f), xs, ts⟩, ty, pos, aft, gd⟩ :: rest) n env h) : Drw P l sz K dfs i n0 env0 h0 m (⟨d, .call ⟨.value (.func f), xs, ts⟩, ty, pos, aft, gd⟩ :: rest) n env h := hh
theorem cO {q : Nat} {xs : Array Operand} {ts : Array TypeId} (hh : AWL P ops sz (⟨d, .call ⟨.value (.tmp q), xs, ts⟩, ty, pos, aft, gd⟩ :: rest) K n env h dfs) : AWL P ops sz (⟨d, .call ⟨.value (.tmp q), xs, ts⟩, ty, pos, aft, gd⟩ :: rest) K n env h dfs := hh
theorem isA_defer {c : Call} (hh : AWL P ops sz (⟨d, .defer c, ty, pos, aft, gd⟩ :: rest) K n env h dfs) : AWL P ops sz (⟨d, .defer c, ty, pos, aft, gd⟩ :: rest) K n env h dfs := hh
theorem isC_cond {x : Operand} {a b : Code} (hh : AW P sz (.cond x a b) K n env h dfs) : AW P sz (.cond x a b) K n env h dfs := hh
theorem aF {a : Array Oper} (hh : AW P sz (.region i a true) K n env h dfs) : AW P sz (.region i a true) K n env h dfs := hh
theorem aH {o : Oper} (hh : AWL P ops sz (o :: rest) K n env h dfs) : AWL P ops sz (o :: rest) K n env h dfs := hh
theorem fV {op : Op} {g : Nat × Bool} (hh : AWL P ops sz (⟨d, op, ty, pos, aft, some g⟩ :: rest) K n env h dfs) : AWL P ops sz (⟨d, op, ty, pos, aft, some g⟩ :: rest) K n env h dfs := hh
end
mutual
def AV.noId : AV → Bool
  | .c _ | .ip _ _ | .junk => true
  | .ref _ _ | .own _ _ _ _ _ | .yld _ | .mh _ => false
  | .agg xs => AV.noIds xs
  | .tup xs => AV.noIds xs
  | .fn _ xs => AV.noIds xs
def AV.noIds : List AV → Bool
  | [] => true
  | x :: xs => AV.noId x && AV.noIds xs
end
mutual
theorem AV.sh_noId (k : Nat) : ∀ (x : AV), x.noId = true → x.sh k = x
  | .c _, _ => rfl
  | .ip _ _, _ => rfl
  | .junk, _ => rfl
  | .ref _ _, h => by cases h
  | .own _ _ _ _ _, h => by cases h
  | .yld _, h => by cases h
  | .mh _, h => by cases h
  | .agg xs, h => by rw [AV.sh, AV.shs_noId k xs h]
  | .tup xs, h => by rw [AV.sh, AV.shs_noId k xs h]
  | .fn _ xs, h => by rw [AV.sh, AV.shs_noId k xs h]
theorem AV.shs_noId (k : Nat) : ∀ (xs : List AV), AV.noIds xs = true → AV.shs k xs = xs
  | [], _ => rfl
  | x :: xs, h => by
    simp only [AV.noIds, Bool.and_eq_true] at h
    rw [AV.shs, AV.sh_noId k x h.1, AV.shs_noId k xs h.2]
end
section
variable {P : Program} {ops : Array Oper} {sz n n0 i m t : Nat} {K : AK} {env env0 : Env} {h h0 : Heap} {dfs : Defs} {rest l : List Oper} {op : Op} {ty : TypeId} {pos : String} {aft : Array Edge} {gd : Option (Nat × Bool)} {v : AV}
theorem a_still (hg : guardA ops env ⟨some t, op, ty, pos, aft, gd⟩ true) (hd : Nat.blt t sz = true) (hA : Still P ⟨some t, op, ty, pos, aft, gd⟩ (evA env) h v) (next : AWL P ops sz rest K n ((t, v) :: env) h dfs) : AWL P ops sz (⟨some t, op, ty, pos, aft, gd⟩ :: rest) K n env h dfs := rK hg hd hA next
theorem d_still (hg : guardA l.toArray env ⟨some t, op, ty, pos, aft, gd⟩ true) (hA : Still P ⟨some t, op, ty, pos, aft, gd⟩ (evT (Oper.looksAt l.toArray ⟨some t, op, ty, pos, aft, gd⟩) env) h v) (next : Drw P l sz K dfs i n0 env0 h0 m rest n ((t, v) :: env) h) : Drw P l sz K dfs i n0 env0 h0 (m + 1) (⟨some t, op, ty, pos, aft, gd⟩ :: rest) n env h := drw_still hg hA next
theorem a_one {obj : AObj} (hlv : obj.live = some obj) (hg : guardA ops env ⟨some t, op, ty, pos, aft, gd⟩ true) (hd : Nat.blt t sz = true) (hA : Adds P ⟨some t, op, ty, pos, aft, gd⟩ (evA env) h v [(n, obj)] n (n + 1)) (next : AWL P ops sz rest K (n + 1) ((t, v) :: env) ((n, obj) :: h) dfs) : AWL P ops sz (⟨some t, op, ty, pos, aft, gd⟩ :: rest) K n env h dfs := awl_one hlv hg hd hA next
theorem d_one {obj : AObj} (hlv : obj.live = some obj) (hg : guardA l.toArray env ⟨some t, op, ty, pos, aft, gd⟩ true) (hA : Adds P ⟨some t, op, ty, pos, aft, gd⟩ (evT (Oper.looksAt l.toArray ⟨some t, op, ty, pos, aft, gd⟩) env) h v [(n, obj)] n (n + 1)) (next : Drw P l sz K dfs i n0 env0 h0 m rest (n + 1) ((t, v) :: env) ((n, obj) :: h)) : Drw P l sz K dfs i n0 env0 h0 (m + 1) (⟨some t, op, ty, pos, aft, gd⟩ :: rest) n env h := drw_one hlv hg hA next
theorem yC (hg : guardA ops env ⟨some t, op, ty, pos, aft, gd⟩ false) (hd : Nat.blt t sz = true) (next : AWL P ops sz rest K n ((t, .c (.v undef)) :: env) h dfs) : AWL P ops sz (⟨some t, op, ty, pos, aft, gd⟩ :: rest) K n env h dfs := awl_skip hg hd next
theorem yQ (hg : guardA l.toArray env ⟨some t, op, ty, pos, aft, gd⟩ false) (next : Drw P l sz K dfs i n0 env0 h0 m rest n ((t, .c (.v undef)) :: env) h) : Drw P l sz K dfs i n0 env0 h0 (m + 1) (⟨some t, op, ty, pos, aft, gd⟩ :: rest) n env h := drw_skip hg next
variable {f : FuncId} {xs : List Operand} {ats : Array TypeId} {r : AV} {hr : Heap} {nr : Nat} {cs cs' : List CV}
theorem a_call0 (hg : guardA ops env ⟨some t, .call ⟨.value (.func f), xs.toArray, ats⟩, ty, pos, aft, gd⟩ true) (hd : Nat.blt t sz = true) (hb : Body P f) (hx : argsC (evA env) xs = some cs) (hac : AC P f cs' r [] 0) (hcv : CvL cs cs') (hid : r.noId = true)
    (next : AWL P ops sz rest K n ((t, r) :: env) h dfs) : AWL P ops sz (⟨some t, .call ⟨.value (.func f), xs.toArray, ats⟩, ty, pos, aft, gd⟩ :: rest) K n env h dfs :=
  uY hg hd hb hx hac hcv rfl (by rw [AV.sh_noId _ _ hid]; exact next)
theorem d_call0 (hg : guardA l.toArray env ⟨some t, .call ⟨.value (.func f), xs.toArray, ats⟩, ty, pos, aft, gd⟩ true) (hb : Body P f) (hx : argsC (evT (Oper.looksAt l.toArray ⟨some t, .call ⟨.value (.func f), xs.toArray, ats⟩, ty, pos, aft, gd⟩) env) xs = some cs) (hac : AC P f cs' r [] 0) (hcv : CvL cs cs') (hid : r.noId = true)
    (next : Drw P l sz K dfs i n0 env0 h0 m rest n ((t, r) :: env) h) : Drw P l sz K dfs i n0 env0 h0 (m + 1) (⟨some t, .call ⟨.value (.func f), xs.toArray, ats⟩, ty, pos, aft, gd⟩ :: rest) n env h :=
  vE hg hb hx hac hcv rfl (by rw [AV.sh_noId _ _ hid]; exact next)
theorem a_call1 {T : TypeId} {rc : List CV} {k size : Nat} (hg : guardA ops env ⟨some t, .call ⟨.value (.func f), xs.toArray, ats⟩, ty, pos, aft, gd⟩ true) (hd : Nat.blt t sz = true) (hb : Body P f) (hx : argsC (evA env) xs = some cs) (hac : AC P f cs' (.own 0 0 k size true) [(0, .row T rc)] 1) (hcv : CvL cs cs')
    (next : AWL P ops sz rest K (n + 1) ((t, .own n 0 k size true) :: env) ((n, .row T rc) :: h) dfs) : AWL P ops sz (⟨some t, .call ⟨.value (.func f), xs.toArray, ats⟩, ty, pos, aft, gd⟩ :: rest) K n env h dfs :=
  uY hg hd hb hx hac hcv rfl next
theorem d_call1 {T : TypeId} {rc : List CV} {k size : Nat} (hg : guardA l.toArray env ⟨some t, .call ⟨.value (.func f), xs.toArray, ats⟩, ty, pos, aft, gd⟩ true) (hb : Body P f) (hx : argsC (evT (Oper.looksAt l.toArray ⟨some t, .call ⟨.value (.func f), xs.toArray, ats⟩, ty, pos, aft, gd⟩) env) xs = some cs) (hac : AC P f cs' (.own 0 0 k size true) [(0, .row T rc)] 1) (hcv : CvL cs cs')
    (next : Drw P l sz K dfs i n0 env0 h0 m rest (n + 1) ((t, .own n 0 k size true) :: env) ((n, .row T rc) :: h)) : Drw P l sz K dfs i n0 env0 h0 (m + 1) (⟨some t, .call ⟨.value (.func f), xs.toArray, ats⟩, ty, pos, aft, gd⟩ :: rest) n env h :=
  vE hg hb hx hac hcv rfl next
variable {tab : Tab} {T : TypeId} {x y : Operand}
theorem oY (tb : TabOk P tab) {e e' : TyE} {E size m k id : Nat} {vy : AV} {cs ys : List CV} (hg : guardA ops env ⟨some t, .call ⟨.builtin .append, #[x, y], #[T, T]⟩, ty, pos, aft, gd⟩ true) (hd : Nat.blt t sz = true) (hT : tyLook tab T = some e) (hk : e.kind = .slice E) (hE : tyLook tab E = some e') (hs : Nat.beq e'.size size = true) (hz : Nat.beq e'.zero.length size = true)
    (hx : evA env x = some (.own id 0 m size true)) (ho : lk h id = some (.row E cs)) (hcl : cs.length = m * size) (hy : evA env y = some vy) (hf : Src h vy size k ys) (h63 : m + k ≤ maxLen) (hb : (m + k) * e'.bytes ≤ 140737488355328)
    (next : AWL P ops sz rest K (n + 1) ((t, .own n 0 (m + k) size true) :: env) ((n, .row E (cs ++ ys)) :: (id, .dead) :: h) dfs) :
    AWL P ops sz (⟨some t, .call ⟨.builtin .append, #[x, y], #[T, T]⟩, ty, pos, aft, gd⟩ :: rest) K n env h dfs := yI tb hg hd hT hk hE hs hz hx ho hcl hy hf h63 hb next
end
def writesB : Op → Bool
  | .assign _ | .store .. | .mapUpdate .. | .insert .. | .entryStore .. | .defer _ => true
  | .call ⟨.builtin b, _, _⟩ => match b with | .append | .copy | .delete | .clear => true | _ => false
  | _ => false
def headLen : List Oper → Nat
  | [] => 0
  | o :: r => match writesB o.op with | true => 0 | false => headLen r + 1
def setF {α : Type} : List α → Nat → α → Option (List α)
  | [], _, _ => none
  | _ :: r, 0, v => some (v :: r)
  | x :: r, k + 1, v => match setF r k v with | some r' => some (x :: r') | none => none
theorem uA {α : Type} : ∀ {cs : List α} {k : Nat} {v : α} {cs' : List α}, setF cs k v = some cs' → cs.set k v = cs' ∧ k < cs.length
  | [], k, v, cs', h => by cases h
  | x :: r, 0, v, cs', h => by simp [setF] at h; subst h; simp
  | x :: r, k + 1, v, cs', h => by
    simp only [setF] at h
    split at h
    · rename_i r' hr
      injection h with h; subst h
      obtain ⟨h1, h2⟩ := uA hr
      exact ⟨by simp [h1], by simp; exact h2⟩
    · cases h
section
variable {P : Program} {sz n : Nat} {env : Env} {h : Heap} {dfs : Defs} {K : AK} {ops : Array Oper} {rest : List Oper} {tab : Tab} {T ty : TypeId} {x y : Operand} {pos : String} {aft : Array Edge} {gd : Option (Nat × Bool)}
theorem f_store1 (tb : TabOk P tab) {e : TyE} (hg : guardA ops env ⟨none, .store T x y, ty, pos, aft, gd⟩ true) (hT : tyLook tab T = some e) (hk : Nat.beq e.size 1 = true) {id off : Nat} {T' : TypeId} {cs cs' : List AV} {v : AV} (hx : evA env x = some (.ref id off)) (hy : evA env y = some v) (h1 : v.one = true) (ho : lk h id = some (.blk T' cs)) (hs : setF cs off v = some cs')
    (next : AWL P ops sz rest K n env ((id, .blk T' cs') :: h) dfs) : AWL P ops sz (⟨none, .store T x y, ty, pos, aft, gd⟩ :: rest) K n env h dfs :=
  yL tb hg hT hk hx hy h1 ho (uA hs).2 (by rw [(uA hs).1]; exact next)
end
section
variable {P : Program} {sz n : Nat} {env env' : Env} {h h' : Heap} {dfs : Defs} {K : AK}
theorem aB {x y : Code} (hx : ∀ K' : AK, (∀ n env h dfs, AW P sz y K n env h dfs → K' .normal n env h dfs) → (∀ e n env h dfs, e ≠ .normal → K e n env h dfs → K' e n env h dfs) → AW P sz x K' n env h dfs) : AW P sz (.seq x y) K n env h dfs :=
  aw_seq (hx _ (fun _ _ _ _ h => h) (fun e n env h dfs he hk => by cases e <;> first | exact absurd rfl he | exact hk))
theorem pE {ι : Type} {c : Code} (N : Nat) (E : ι → Env) (Hp : ι → Heap) (D : Defs) (Inv : ι → Prop) (μ : ι → Nat) (i0 : ι) (h0 : Inv i0) (hw : Weak n env h dfs N (E i0) (Hp i0) D)
    (round : ∀ i, Inv i → ∀ K' : AK, (∀ n' env' h' dfs', (∃ j, Inv j ∧ μ j < μ i ∧ Weak n' env' h' dfs' N (E j) (Hp j) D) → K' .normal n' env' h' dfs') → (∀ e n env h dfs, e ≠ .normal → K e n env h dfs → K' e n env h dfs) → AW P sz c K' N (E i) (Hp i) D) : AW P sz (.loop c) K n env h dfs :=
  aw_loop N E Hp D Inv μ i0 h0 hw (fun i hi => round i hi _ (fun _ _ _ _ h => h) (fun e n env h dfs he hk => by cases e <;> first | exact absurd rfl he | exact hk))
def pruneE (env : Env) : List Nat → Option Env
  | [] => some []
  | k :: ks => match pruneE env ks with
    | some r => match lkE env k with | some v => some ((k, v) :: r) | none => some r
    | none => none
theorem gU : ∀ {ks : List Nat} {env' : Env}, pruneE env ks = some env' → ∀ t av, lkE env' t = some av → lkE env t = some av
  | [], env', hp, t, av, ht => by simp [pruneE] at hp; subst hp; cases ht
  | k :: ks, env', hp, t, av, ht => by
    simp only [pruneE] at hp
    split at hp
    · rename_i r hr
      split at hp
      · rename_i v hv
        injection hp with hp; subst hp
        rw [cW] at ht
        split at ht
        · rename_i e; subst e; rw [hv]; exact ht
        · exact gU hr t av ht
      · injection hp with hp; subst hp; exact gU hr t av ht
    · cases hp
def pruneH (h : Heap) : Nat → Option Heap
  | 0 => some []
  | k + 1 => match pruneH h k with
    | some r => match lk h k with | some v => some ((k, v) :: r) | none => some r
    | none => none
theorem eH : ∀ {k : Nat} {h' : Heap}, pruneH h k = some h' → ∀ i o, lk h' i = some o → lk h i = some o
  | 0, h', hp, i, o, ho => by simp [pruneH] at hp; subst hp; cases ho
  | k + 1, h', hp, i, o, ho => by
    simp only [pruneH] at hp
    split at hp
    · rename_i r hr
      split at hp
      · rename_i v hv
        injection hp with hp; subst hp
        rw [bD] at ho
        split at ho
        · rename_i e; subst e; rw [hv, ← fT ho]
        · exact eH hr i o ho
      · injection hp with hp; subst hp; exact eH hr i o ho
    · cases hp
theorem aG {c : Code} (ks : List Nat) (hE : pruneE env ks = some env') (hH : pruneH h n = some h') (hx : AW P sz c K n env' h' dfs) : AW P sz c K n env h dfs := by
  intro B a w hc
  refine hx B a w ?_
  obtain ⟨M, c1, c2, c3, c4⟩ := hc
  have hext : Ext (cx B n M h w) (cx B n M h' w) := ⟨fun id hid => ⟨hid, rfl⟩, fun b hb hl => ⟨⟨hb.1, fun id o hid ho he => hb.2 id o hid (eH hH id o ho) he⟩, hl, rfl⟩, fun _ _ h => h⟩
  refine ⟨M, ⟨c1.fr, fun id o hid ho => (c1.obj id o hid (eH hH id o ho)).ext hext (fun _ _ => rfl), fun id id' o o' g k1 k2 k3 k4 => c1.inj id id' o o' g k1 k2 (eH hH id o k3) (eH hH id' o' k4), fun id o g k1 k2 => c1.lo id o g k1 (eH hH id o k2)⟩, c2, fun t av ht => Rep.ext hext _ _ (c3 t av (gU hE t av ht)), c4.ext hext⟩
theorem aC {i : Nat} {a : Array Oper} (hh : AW P sz (.region i a false) K n env h dfs) : AW P sz (.region i a false) K n env h dfs := hh
theorem isC_any {c : Code} (hh : AW P sz c K n env h dfs) : AW P sz c K n env h dfs := hh
end
end Go.Av
namespace Go.Av
open Go Go.RowKit
section
variable {P : Program} {ops : Array Oper} {sz n n0 i m t : Nat} {K : AK} {env env0 : Env} {h h0 : Heap} {dfs : Defs} {rest l : List Oper} {op : Op} {ty : TypeId} {pos : String} {aft : Array Edge} {gd : Option (Nat × Bool)}
theorem x_a (hg : guardA ops env ⟨some t, op, ty, pos, aft, gd⟩ true) (hd : Nat.blt t sz = true) (hh : ∃ v, Still P ⟨some t, op, ty, pos, aft, gd⟩ (evA env) h v ∧ AWL P ops sz rest K n ((t, v) :: env) h dfs) : AWL P ops sz (⟨some t, op, ty, pos, aft, gd⟩ :: rest) K n env h dfs :=
  let ⟨_, h1, h2⟩ := hh; a_still hg hd h1 h2
theorem x_d (hg : guardA l.toArray env ⟨some t, op, ty, pos, aft, gd⟩ true) (hh : ∃ v, Still P ⟨some t, op, ty, pos, aft, gd⟩ (evT (Oper.looksAt l.toArray ⟨some t, op, ty, pos, aft, gd⟩) env) h v ∧ Drw P l sz K dfs i n0 env0 h0 m rest n ((t, v) :: env) h) : Drw P l sz K dfs i n0 env0 h0 (m + 1) (⟨some t, op, ty, pos, aft, gd⟩ :: rest) n env h :=
  let ⟨_, h1, h2⟩ := hh; d_still hg h1 h2
theorem y_a (hg : guardA ops env ⟨some t, op, ty, pos, aft, gd⟩ true) (hd : Nat.blt t sz = true) (hh : ∃ v obj, obj.live = some obj ∧ Adds P ⟨some t, op, ty, pos, aft, gd⟩ (evA env) h v [(n, obj)] n (n + 1) ∧ AWL P ops sz rest K (n + 1) ((t, v) :: env) ((n, obj) :: h) dfs) : AWL P ops sz (⟨some t, op, ty, pos, aft, gd⟩ :: rest) K n env h dfs :=
  let ⟨_, _, h1, h2, h3⟩ := hh; a_one h1 hg hd h2 h3
theorem y_d (hg : guardA l.toArray env ⟨some t, op, ty, pos, aft, gd⟩ true) (hh : ∃ v obj, obj.live = some obj ∧ Adds P ⟨some t, op, ty, pos, aft, gd⟩ (evT (Oper.looksAt l.toArray ⟨some t, op, ty, pos, aft, gd⟩) env) h v [(n, obj)] n (n + 1) ∧ Drw P l sz K dfs i n0 env0 h0 m rest (n + 1) ((t, v) :: env) ((n, obj) :: h)) : Drw P l sz K dfs i n0 env0 h0 (m + 1) (⟨some t, op, ty, pos, aft, gd⟩ :: rest) n env h :=
  let ⟨_, _, h1, h2, h3⟩ := hh; d_one h1 hg h2 h3
variable {f : FuncId} {xs : List Operand} {ats : Array TypeId}
def CallsTo (P : Program) (f : FuncId) (xs : List Operand) (ev : Evl) (N0 : AV → Prop) (N1 : Nat → Nat → TypeId → List CV → Prop) : Prop :=
  ∃ cs cs', Body P f ∧ argsC ev xs = some cs ∧ CvL cs cs' ∧ ((∃ r, AC P f cs' r [] 0 ∧ r.noId = true ∧ N0 r) ∨ ∃ k size T rc, AC P f cs' (.own 0 0 k size true) [(0, .row T rc)] 1 ∧ N1 k size T rc)
theorem z_a (hg : guardA ops env ⟨some t, .call ⟨.value (.func f), xs.toArray, ats⟩, ty, pos, aft, gd⟩ true) (hd : Nat.blt t sz = true)
    (hh : CallsTo P f xs (evA env) (fun r => AWL P ops sz rest K n ((t, r) :: env) h dfs) (fun k size T rc => AWL P ops sz rest K (n + 1) ((t, .own n 0 k size true) :: env) ((n, .row T rc) :: h) dfs)) : AWL P ops sz (⟨some t, .call ⟨.value (.func f), xs.toArray, ats⟩, ty, pos, aft, gd⟩ :: rest) K n env h dfs := by
  obtain ⟨cs, cs', h1, h2, h3, ⟨r, h4, h5, h6⟩ | ⟨k, size, T, rc, h4, h5⟩⟩ := hh
  · exact a_call0 hg hd h1 h2 h4 h3 h5 h6
  · exact a_call1 hg hd h1 h2 h4 h3 h5
theorem z_d (hg : guardA l.toArray env ⟨some t, .call ⟨.value (.func f), xs.toArray, ats⟩, ty, pos, aft, gd⟩ true)
    (hh : CallsTo P f xs (evT (Oper.looksAt l.toArray ⟨some t, .call ⟨.value (.func f), xs.toArray, ats⟩, ty, pos, aft, gd⟩) env) (fun r => Drw P l sz K dfs i n0 env0 h0 m rest n ((t, r) :: env) h) (fun k size T rc => Drw P l sz K dfs i n0 env0 h0 m rest (n + 1) ((t, .own n 0 k size true) :: env) ((n, .row T rc) :: h))) : Drw P l sz K dfs i n0 env0 h0 (m + 1) (⟨some t, .call ⟨.value (.func f), xs.toArray, ats⟩, ty, pos, aft, gd⟩ :: rest) n env h := by
  obtain ⟨cs, cs', h1, h2, h3, ⟨r, h4, h5, h6⟩ | ⟨k, size, T, rc, h4, h5⟩⟩ := hh
  · exact d_call0 hg h1 h2 h4 h3 h5 h6
  · exact d_call1 hg h1 h2 h4 h3 h5
theorem ct_0 {cs cs' : List CV} {r : AV} {ev : Evl} {N0 : AV → Prop} {N1 : Nat → Nat → TypeId → List CV → Prop} (hac : AC P f cs' r [] 0) (hb : Body P f) (hx : argsC ev xs = some cs) (hcv : CvL cs cs') (hid : r.noId = true) (hn : N0 r) : CallsTo P f xs ev N0 N1 := ⟨cs, cs', hb, hx, hcv, .inl ⟨r, hac, hid, hn⟩⟩
theorem ct_1 {cs cs' : List CV} {k size : Nat} {T : TypeId} {rc : List CV} {ev : Evl} {N0 : AV → Prop} {N1 : Nat → Nat → TypeId → List CV → Prop} (hac : AC P f cs' (.own 0 0 k size true) [(0, .row T rc)] 1) (hb : Body P f) (hx : argsC ev xs = some cs) (hcv : CvL cs cs') (hn : N1 k size T rc) : CallsTo P f xs ev N0 N1 := ⟨cs, cs', hb, hx, hcv, .inr ⟨k, size, T, rc, hac, hn⟩⟩
end

def cellsF : AV → Option (List AV)
  | .agg xs => some xs
  | .c (.agg cs) => some (cs.map AV.c)
  | .c (.v x) => match x.oneCell' with | true => some [.c (.v x)] | false => none
  | .c (.sl a b c) => some [.c (.sl a b c)]
  | .ref a b => some [.ref a b]
  | .own a b c d e => some [.own a b c d e]
  | .ip a b => some [.ip a b]
  | .fn a b => some [.fn a b]
  | .yld a => some [.yld a]
  | .mh a => some [.mh a]
  | .tup _ => none
  | .junk => none
theorem cellsF_ok {v : AV} {xs : List AV} (h : cellsF v = some xs) : CellsA v xs := by
  unfold cellsF at h
  split at h <;> first | (injection h with h; subst h; first | exact .agg (.mixed _) | exact .agg (.closed _) | exact .one rfl) | (split at h <;> first | (rename_i h1; injection h with h; subst h; exact .one h1) | cases h) | cases h
def cellsLF : List AV → Option (List (List AV))
  | [] => some []
  | v :: r => match cellsF v with
    | some x => match cellsLF r with | some l => some (x :: l) | none => none
    | none => none
theorem eO : ∀ {vs : List AV} {ls : List (List AV)}, cellsLF vs = some ls → CellsL vs ls
  | [], ls, h => by simp [cellsLF] at h; subst h; exact .nil
  | v :: r, ls, h => by
    simp only [cellsLF] at h
    split at h
    · rename_i x hx
      split at h
      · rename_i l hl; injection h with h; subst h; exact .cons (cellsF_ok hx) (eO hl)
      · cases h
    · cases h
def flatF : CV → Option (List CV)
  | .agg cs => some cs
  | .v x => match x.oneCell' with | true => some [.v x] | false => none
  | .sl a b c => some [.sl a b c]
theorem flatF_ok {v : CV} {xs : List CV} (h : flatF v = some xs) : Flat1 v xs := by
  unfold flatF at h
  split at h <;> first | (injection h with h; subst h; first | exact .agg _ | exact .one rfl) | (split at h <;> first | (rename_i h1; injection h with h; subst h; exact .one h1) | cases h) | cases h
def flatLF : List CV → Option (List (List CV))
  | [] => some []
  | v :: r => match flatF v with
    | some x => match flatLF r with | some l => some (x :: l) | none => none
    | none => none
theorem cI : ∀ {vs : List CV} {ls : List (List CV)}, flatLF vs = some ls → FlatL vs ls
  | [], ls, h => by simp [flatLF] at h; subst h; exact .nil
  | v :: r, ls, h => by
    simp only [flatLF] at h
    split at h
    · rename_i x hx
      split at h
      · rename_i l hl; injection h with h; subst h; exact .cons (flatF_ok hx) (cI hl)
      · cases h
    · cases h
section comb
variable {P : Program} {tab : Tab} {ev : Evl} {h : Heap} {d : Option Tmp} {T ty T' : TypeId} {x y : Operand} {pos : String} {aft : Array Edge} {gd : Option (Nat × Bool)} {op : BinOp}
def cmpZ : BinOp → Int → Int → Option Bool
  | .eql, m, n => some (decide (m = n))
  | .neq, m, n => some (decide (m ≠ n))
  | .lss, m, n => some (decide (m < n))
  | .leq, m, n => some (decide (m ≤ n))
  | .gtr, m, n => some (decide (n < m))
  | .geq, m, n => some (decide (n ≤ m))
  | _, _, _ => none
theorem dV {k : IntKind} {m n : Int} {b c : Bool} (hx : ev x = some (.c (.v (.int k m)))) (hy : ev y = some (.c (.v (.int k n)))) (hr : cmpZ op m n = some b) (hb : b = c) : Still P ⟨d, .binOp op T x y T', ty, pos, aft, gd⟩ ev h (.c (.v (.bool c))) := by
  subst hb
  cases op <;> simp only [cmpZ, Option.some.injEq, reduceCtorEq] at hr
  · exact s_eql hx hy hr
  · exact s_neq hx hy hr
  · exact s_lss hx hy hr
  · exact s_leq hx hy hr
  · exact s_gtr hx hy hr
  · exact s_geq hx hy hr
def aritZ : BinOp → Int → Int → Option Int
  | .add, m, n => some (m + n)
  | .sub, m, n => some (m - n)
  | .mul, m, n => some (m * n)
  | _, _, _ => none
theorem hY {k : IntKind} {m n r r' : Int} (hx : ev x = some (.c (.v (.int k m)))) (hy : ev y = some (.c (.v (.int k n)))) (hr : aritZ op m n = some r) (hw : k.wrap r = r') : Still P ⟨d, .binOp op T x y T', ty, pos, aft, gd⟩ ev h (.c (.v (.int k r'))) := by
  cases op <;> simp only [aritZ, Option.some.injEq, reduceCtorEq] at hr
  · exact s_add hx hy (by rw [hr]; exact hw)
  · exact s_sub hx hy (by rw [hr]; exact hw)
  · exact s_mul hx hy (by rw [hr]; exact hw)
theorem bT {m n r r' : Int} (hx : ev x = some (.c (.v (.int .i64 m)))) (hy : ev y = some (.c (.v (.int .i64 n)))) (hr : aritZ op m n = some r) (hw : IntKind.i64.wrap r = r') : Still P ⟨d, .binOp op T x y T', ty, pos, aft, gd⟩ ev h (.c (.v (.int .i64 r'))) := hY hx hy hr hw
def wordZ : BinOp → BitVec 64 → BitVec 64 → Option (BitVec 64)
  | .xor, x, y => some (x ^^^ y)
  | .and, x, y => some (x &&& y)
  | .or, x, y => some (x ||| y)
  | .add, x, y => some (x + y)
  | .sub, x, y => some (x - y)
  | .mul, x, y => some (x * y)
  | _, _, _ => none
end comb
theorem aA {P : Program} {o : Oper} {ev : Evl} {h : Heap} {N : AV → Prop} {v : AV} (hs : Still P o ev h v) (hn : N v) : ∃ v, Still P o ev h v ∧ N v := ⟨v, hs, hn⟩
theorem eG {P : Program} {o : Oper} {ev : Evl} {h : Heap} {n : Nat} {N : AV → AObj → Prop} {v : AV} {obj : AObj} (hs : Adds P o ev h v [(n, obj)] n (n + 1)) (hl : obj.live = some obj) (hn : N v obj) : ∃ v obj, obj.live = some obj ∧ Adds P o ev h v [(n, obj)] n (n + 1) ∧ N v obj := ⟨v, obj, hl, hs, hn⟩
/- Guards on what is still to be yielded. -/
section
variable {P : Program} {ev : Evl} {h : Heap} {N : AV → Prop} {d : Option Tmp} {ty : TypeId} {pos : String} {aft : Array Edge} {gd : Option (Nat × Bool)}
theorem yT {x : Operand} (hh : ∃ v, Still P ⟨d, .move x, ty, pos, aft, gd⟩ ev h v ∧ N v) : ∃ v, Still P ⟨d, .move x, ty, pos, aft, gd⟩ ev h v ∧ N v := hh
theorem pN {x : Operand} (hh : ∃ v, Still P ⟨d, .assign x, ty, pos, aft, gd⟩ ev h v ∧ N v) : ∃ v, Still P ⟨d, .assign x, ty, pos, aft, gd⟩ ev h v ∧ N v := hh
theorem yU {x y z : Operand} (hh : ∃ v, Still P ⟨d, .pick x y z, ty, pos, aft, gd⟩ ev h v ∧ N v) : ∃ v, Still P ⟨d, .pick x y z, ty, pos, aft, gd⟩ ev h v ∧ N v := hh
theorem tD {T : TypeId} {ps : Array (Nat × Operand)} (hh : ∃ v, Still P ⟨d, .build T ps, ty, pos, aft, gd⟩ ev h v ∧ N v) : ∃ v, Still P ⟨d, .build T ps, ty, pos, aft, gd⟩ ev h v ∧ N v := hh
theorem aP {T : TypeId} {x : Operand} (hh : ∃ v, Still P ⟨d, .load T x, ty, pos, aft, gd⟩ ev h v ∧ N v) : ∃ v, Still P ⟨d, .load T x, ty, pos, aft, gd⟩ ev h v ∧ N v := hh
theorem e_nil {x : Operand} (hh : ∃ v, Still P ⟨d, .nilCheck x, ty, pos, aft, gd⟩ ev h v ∧ N v) : ∃ v, Still P ⟨d, .nilCheck x, ty, pos, aft, gd⟩ ev h v ∧ N v := hh
theorem aU {o : BinOp} {T T' : TypeId} {x y : Operand} (hh : ∃ v, Still P ⟨d, .binOp o T x y T', ty, pos, aft, gd⟩ ev h v ∧ N v) : ∃ v, Still P ⟨d, .binOp o T x y T', ty, pos, aft, gd⟩ ev h v ∧ N v := hh
theorem e_un {o : UnOp} {T : TypeId} {x : Operand} (hh : ∃ v, Still P ⟨d, .unOp o T x, ty, pos, aft, gd⟩ ev h v ∧ N v) : ∃ v, Still P ⟨d, .unOp o T x, ty, pos, aft, gd⟩ ev h v ∧ N v := hh
theorem pO {T T' : TypeId} {x : Operand} (hh : ∃ v, Still P ⟨d, .convert T T' x, ty, pos, aft, gd⟩ ev h v ∧ N v) : ∃ v, Still P ⟨d, .convert T T' x, ty, pos, aft, gd⟩ ev h v ∧ N v := hh
theorem yS {f : Fn} {xs ys : Array Operand} (hh : ∃ v, Still P ⟨d, .makeFunc f xs ys, ty, pos, aft, gd⟩ ev h v ∧ N v) : ∃ v, Still P ⟨d, .makeFunc f xs ys, ty, pos, aft, gd⟩ ev h v ∧ N v := hh
theorem bE {T : TypeId} {x : Operand} {lo hi mx : Option Operand} (hh : ∃ v, Still P ⟨d, .slice T x lo hi mx, ty, pos, aft, gd⟩ ev h v ∧ N v) : ∃ v, Still P ⟨d, .slice T x lo hi mx, ty, pos, aft, gd⟩ ev h v ∧ N v := hh
theorem yR {T : TypeId} {x : Operand} {k : Nat} (hh : ∃ v, Still P ⟨d, .fieldAddr T x k, ty, pos, aft, gd⟩ ev h v ∧ N v) : ∃ v, Still P ⟨d, .fieldAddr T x k, ty, pos, aft, gd⟩ ev h v ∧ N v := hh
theorem e_ixA {T : TypeId} {x y : Operand} (hh : ∃ v, Still P ⟨d, .indexAddr T x y, ty, pos, aft, gd⟩ ev h v ∧ N v) : ∃ v, Still P ⟨d, .indexAddr T x y, ty, pos, aft, gd⟩ ev h v ∧ N v := hh
theorem bR {T : TypeId} {x y : Operand} (hh : ∃ v, Still P ⟨d, .index T x y, ty, pos, aft, gd⟩ ev h v ∧ N v) : ∃ v, Still P ⟨d, .index T x y, ty, pos, aft, gd⟩ ev h v ∧ N v := hh
theorem e_ext {x : Operand} {k : Nat} (hh : ∃ v, Still P ⟨d, .extract x k, ty, pos, aft, gd⟩ ev h v ∧ N v) : ∃ v, Still P ⟨d, .extract x k, ty, pos, aft, gd⟩ ev h v ∧ N v := hh
theorem rD {b : Builtin} {xs : Array Operand} {ts : Array TypeId} (hh : ∃ v, Still P ⟨d, .call ⟨.builtin b, xs, ts⟩, ty, pos, aft, gd⟩ ev h v ∧ N v) : ∃ v, Still P ⟨d, .call ⟨.builtin b, xs, ts⟩, ty, pos, aft, gd⟩ ev h v ∧ N v := hh
end
end Go.Av
namespace Go.Av
open Go Go.RowKit

def Flc (c : CV) : Prop := ∀ ok w u, RepC ok w c u → ∀ ok' w', RepC ok' w' c u
def FlcL (cs : List CV) : Prop := ∀ c ∈ cs, Flc c
theorem FlcL.rep : ∀ {cs : List CV}, FlcL cs → ∀ {ok w u}, RepCs ok w cs u → ∀ ok' w', RepCs ok' w' cs u
  | [], _, ok, w, u, h, ok', w' => h
  | c :: cs, hf, ok, w, u, h, ok', w' => by
    simp only [RepCs] at h ⊢
    obtain ⟨a, l, h1, h2, h3⟩ := h
    exact ⟨a, l, h1, hf c (by simp) _ _ _ h2 _ _, FlcL.rep (fun d hd => hf d (by simp [hd])) h3 _ _⟩
theorem jS : FlcL [] := fun c hc => by cases hc
inductive FlR : AV → Prop
  | c {x : CV} (h : Flc x) : FlR (.c x)
  | t {xs : List CV} (h : FlcL xs) : FlR (.tup (xs.map AV.c))
theorem FlR.rep {r : AV} (h : FlR r) {C C' : Cx} {u : Value} (hu : Rep C r u) : Rep C' r u := by
  cases h with
  | c h => simp only [Rep] at hu ⊢; exact h _ _ _ hu _ _
  | t h =>
    simp only [Rep] at hu ⊢
    obtain ⟨us, h1, h2⟩ := hu
    exact ⟨us, h1, RepL.ofC (h.rep (RepL.toC h2) _ _)⟩
section call
variable {P : Program} {ev : Evl} {h : Heap} {d : Option Tmp} {ty : TypeId} {pos : String} {aft : Array Edge} {gd : Option (Nat × Bool)} {i : Nat} {f : FuncId} {xs : List Operand} {ats : Array TypeId} {r : AV}

theorem yG {vs : List AV} {cs : List CV} (hb : Body P f) (hx : argsA ev xs = some vs) (hfz : FrzL [] h vs cs) (hac : AC P f cs r [] 0) (hfl : FlR r) :
    Adds P ⟨d, .call ⟨.value (.func f), xs.toArray, ats⟩, ty, pos, aft, gd⟩ ev h r [] i i := by
  intro B dom M H w a K Q hh hn hc he hK
  have hargs := hfz B dom M H w _ hh (by simp) hc (eI he (iB hx))
  unfold Oper.wp execOp
  simp only [resolve, Deferred.ofValue, Act.eval, invoke, Sem.run_bind, Sem.run_pure, Result.andThen_ok, List.map_toArray, Array.append_empty, Body.run hb, Oper.upon]
  rw [show (#[] ++ (List.map a.eval xs).toArray : Array Value) = (List.map a.eval xs).toArray by simp]
  refine (hac _ w _ hargs).mono ?_
  rintro e w' ⟨v, Mc, rfl, hcc, hv⟩
  simp only
  have hbl := hcc.fr.below
  have hg := hc.grow hbl i i (M' := M) (fun id _ => rfl) (fun id h1 h2 => by omega) (fun id o h1 h2 => by omega) (fun id id' o o' g h1 h2 => by omega) (fun hext id o h1 h2 => by omega)
  exact hK v w' M hg.2 hg.1 (hfl.rep hv)

theorem uX {vs : List AV} {cs rc : List CV} {k size : Nat} {T : TypeId} (hb : Body P f) (hx : argsA ev xs = some vs) (hfz : FrzL [] h vs cs) (hac : AC P f cs (.own 0 0 k size true) [(0, .row T rc)] 1) (hfl : FlcL rc) :
    Adds P ⟨d, .call ⟨.value (.func f), xs.toArray, ats⟩, ty, pos, aft, gd⟩ ev h (.own i 0 k size true) [(i, .row T rc)] i (i + 1) := by
  intro B dom M H w a K Q hh hn hc he hK
  have hargs := hfz B dom M H w _ hh (by simp) hc (eI he (iB hx))
  unfold Oper.wp execOp
  simp only [resolve, Deferred.ofValue, Act.eval, invoke, Sem.run_bind, Sem.run_pure, Result.andThen_ok, List.map_toArray, Array.append_empty, Body.run hb, Oper.upon]
  rw [show (#[] ++ (List.map a.eval xs).toArray : Array Value) = (List.map a.eval xs).toArray by simp]
  refine (hac _ w _ hargs).mono ?_
  rintro e w' ⟨v, Mc, rfl, hcc, hv⟩
  simp only
  have hbl := hcc.fr.below
  have hob := hcc.obj 0 _ (by simp [lt]) (show lk [(0, AObj.row T rc)] 0 = some (.row T rc) from rfl)
  have hHi : H i = some (.row T rc) := by rw [(hn i (by omega) (by omega)).2, bD, if_pos rfl]; rfl
  let M' : Nat → Option Nat := fun id => if id = i then Mc 0 else M id
  have hM1 : ∀ id, dom id → M' id = M id := fun id hid => by
    have : ¬ id = i := fun e => by subst e; exact (hn id (by omega) (by omega)).1 hid
    simp [M', this]
  have hMi : M' i = Mc 0 := by simp [M']
  have hnew : ∀ g, Mc 0 = some g → w.heap.size ≤ g := fun g hg => by
    rcases hcc.lo 0 _ g (by simp [lt]) (show lk [(0, AObj.row T rc)] 0 = some (.row T rc) from rfl) hg with h1 | h1
    · exact h1
    · cases h1
  have hg := hc.grow hbl i (i + 1) (M' := M') hM1 (fun id h1 h2 => (hn id h1 h2).1)
    (fun id o h1 h2 h3 g hg => by
      obtain rfl : id = i := by omega
      exact hnew g (hMi.symm.trans hg))
    (fun id id' o o' g h1 h2 h3 h4 _ _ _ _ => by omega)
    (fun hext id o h1 h2 h3 => by
      obtain rfl : id = i := by omega
      rw [hHi] at h3
      injection h3 with h3
      subst h3
      rw [hMi]
      rcases hob with k1 | ⟨g, us, ws, k1, k2, k3, k4⟩
      · exact .inl k1
      · exact .inr ⟨g, us, ws, k1, k2, hfl.rep k3 _ _, k4⟩)
  refine hK v w' M' hg.2 hg.1 ?_
  simp only [Rep, cx] at hv ⊢
  refine ⟨.inr ⟨by omega, by omega⟩, ?_⟩
  rw [hMi]
  exact hv.2
end call

section frame
def fram (env : Env) (dfs : Defs) : List AV := env.map (·.2) ++ dfs.flatMap (·.2)
theorem lL {env : Env} : ∀ {ks : List Nat} {env' : Env}, pruneE env ks = some env' → ∀ p ∈ env', lkE env p.1 = some p.2
  | [], env', hp, p, hm => by simp [pruneE] at hp; subst hp; cases hm
  | k :: ks, env', hp, p, hm => by
    simp only [pruneE] at hp
    split at hp
    · rename_i r hr
      split at hp
      · rename_i v hv
        injection hp with hp; subst hp
        rcases List.mem_cons.1 hm with rfl | hm
        · exact hv
        · exact lL hr p hm
      · injection hp with hp; subst hp; exact lL hr p hm
    · cases hp
theorem lkE_mem : ∀ {env : Env} {t : Nat} {av : AV}, lkE env t = some av → (t, av) ∈ env
  | [], t, av, h => by cases h
  | (i, v) :: r, t, av, h => by
    rw [cW] at h
    split at h
    · rename_i e; subst e; injection h with h; subst h; simp
    · exact List.mem_cons_of_mem _ (lkE_mem h)
theorem wM {C : Cx} {g : Nat → Value} : ∀ {env : Env}, (∀ p ∈ env, Rep C p.2 (g p.1)) → RepL C (env.map (·.2)) (env.map fun p => g p.1)
  | [], _ => rfl
  | p :: r, h => ⟨_, _, rfl, h p (by simp), wM fun q hq => h q (by simp [hq])⟩
theorem qL {C : Cx} {g : Nat → Value} : ∀ {env : Env}, RepL C (env.map (·.2)) (env.map fun p => g p.1) → ∀ p ∈ env, Rep C p.2 (g p.1)
  | [], _, p, hp => by cases hp
  | q :: r, h, p, hp => by
    simp only [List.map_cons, RepL] at h
    obtain ⟨u, us, e, h1, h2⟩ := h
    injection e with e1 e2
    subst e1 e2
    rcases List.mem_cons.1 hp with rfl | hp
    · exact h1
    · exact qL h2 p hp
theorem jA {C : Cx} : ∀ {xs ys : List AV} {us vs : List Value}, us.length = xs.length → RepL C (xs ++ ys) (us ++ vs) → RepL C xs us ∧ RepL C ys vs
  | [], ys, us, vs, hl, h => by
    have : us = [] := List.eq_nil_of_length_eq_zero (by simpa using hl)
    subst this
    exact ⟨rfl, h⟩
  | x :: xs, ys, [], vs, hl, h => by simp at hl
  | x :: xs, ys, u :: us, vs, hl, h => by
    simp only [List.cons_append, RepL] at h
    obtain ⟨a, l, e, h1, h2⟩ := h
    injection e with e1 e2
    subst e1 e2
    obtain ⟨k1, k2⟩ := jA (by simpa using hl) h2
    exact ⟨⟨_, _, rfl, h1, k1⟩, k2⟩
theorem nA {fr : List Value} {C : Cx} : ∀ {dfs : Defs} {ds : List Deferred}, DefRep fr C dfs ds → ∃ us, us.length = (dfs.flatMap (·.2)).length ∧ RepL C (dfs.flatMap (·.2)) us ∧ ∀ C', RepL C' (dfs.flatMap (·.2)) us → DefRep fr C' dfs ds
  | [], ds, h => ⟨[], rfl, rfl, fun C' _ => h⟩
  | (some f, caps) :: r, ds, h => by
    obtain ⟨us, ds', rfl, h2, h3⟩ := h
    obtain ⟨vs, k0, k1, k2⟩ := nA h3
    refine ⟨us ++ vs, by simp only [List.flatMap_cons, List.length_append]; rw [k0, h2.length], h2.append k1, fun C' hr => ?_⟩
    obtain ⟨l1, l2⟩ := jA h2.length hr
    exact ⟨us, ds', rfl, l1, k2 C' l2⟩
  | (none, xs) :: r, ds, h => by
    obtain ⟨h2, h3⟩ := h
    obtain ⟨vs, k0, k1, k2⟩ := nA h3
    refine ⟨fr ++ vs, by simp only [List.flatMap_cons, List.length_append]; rw [k0, h2.length], h2.append k1, fun C' hr => ?_⟩
    obtain ⟨l1, l2⟩ := jA h2.length hr
    exact ⟨l1, k2 C' l2⟩
def framM : Defs → Option (List AV)
  | [] => none
  | (none, xs) :: _ => some xs
  | (some _, _) :: r => framM r
theorem iI {fr : List Value} {C : Cx} {xs : List AV} : ∀ {dfs : Defs} {ds : List Deferred}, framM dfs = some xs → DefRep fr C dfs ds → RepL C xs fr
  | [], ds, h, _ => by cases h
  | (none, ys) :: r, ds, h, hd => by simp only [framM, Option.some.injEq] at h; subst h; exact hd.1
  | (some f, caps) :: r, ds, h, hd => by
    obtain ⟨us, ds', rfl, h2, h3⟩ := hd
    exact iI (dfs := r) h h3
def enumA : Nat → List AV → Env
  | _, [] => []
  | k, x :: xs => (k, x) :: enumA (k + 1) xs
theorem iG : ∀ {cs : List AV} {k t : Nat} {av : AV}, lkE (enumA k cs) t = some av → k ≤ t ∧ cs[t - k]? = some av
  | [], k, t, av, h => by cases h
  | c :: cs, k, t, av, h => by
    rw [enumA, cW] at h
    split at h
    · rename_i e; subst e; injection h with h; subst h; exact ⟨Nat.le_refl _, by simp⟩
    · rename_i e
      obtain ⟨h1, h2⟩ := iG h
      refine ⟨by omega, ?_⟩
      rw [show t - k = (t - (k + 1)) + 1 by omega]
      simpa using h2
def InK (P : Program) (tab : Tab) (rs : List ResultVar) (xs : List AV) (ops : Array Oper) (sz : Nat) (rest : List Oper) (K : AK) (env : Env) (d : Option Tmp) (dfs : Defs) : AK :=
  fun e n' env' h' dfs' => (e = .normal ∨ e = .ret) ∧ IdleD P h' dfs' ∧ framM dfs' = some xs ∧ ∃ v, ResL tab env' (endD h' dfs') rs v ∧ AWL P ops sz rest K n' (putE env d v) (endD h' dfs') dfs
variable {P : Program} {tab : Tab} {sz n : Nat} {env : Env} {h : Heap} {dfs : Defs} {K : AK} {ops : Array Oper} {rest : List Oper} {d : Option Tmp} {ty : TypeId} {pos : String} {aft : Array Edge} {gd : Option (Nat × Bool)} {f : FuncId} {x : Operand} {xs : List Operand} {ats : Array TypeId}
theorem dC {rs : List ResultVar} {zs : List AV} {t : Nat} {e : Exit} {n' : Nat} {env' : Env} {h' : Heap} {dfs' : Defs} {v : AV} (he : e = .normal ∨ e = .ret) (hi : IdleD P h' dfs') (hm : framM dfs' = some zs) {h2 : Heap} (hh : endD h' dfs' = h2) (hr : ResL tab env' h2 rs v) (next : AWL P ops sz rest K n' ((t, v) :: env) h2 dfs) : InK P tab rs zs ops sz rest K env (some t) dfs e n' env' h' dfs' := ⟨he, hi, hm, v, hh ▸ hr, hh ▸ next⟩
theorem dB {rs : List ResultVar} {zs : List AV} {e : Exit} {n' : Nat} {env' : Env} {h' : Heap} {dfs' : Defs} {v : AV} (he : e = .normal ∨ e = .ret) (hi : IdleD P h' dfs') (hm : framM dfs' = some zs) {h2 : Heap} (hh : endD h' dfs' = h2) (hr : ResL tab env' h2 rs v) (next : AWL P ops sz rest K n' env h2 dfs) : InK P tab rs zs ops sz rest K env none dfs e n' env' h' dfs' := ⟨he, hi, hm, v, hh ▸ hr, hh ▸ next⟩
theorem rep_fn {C : Cx} {caps : List AV} {u : Value} (h : Rep C (.fn f caps) u) : ∃ us, u = .func (.func f) #[] us.toArray ∧ RepL C caps us := by simpa only [Rep] using h

theorem dR (tb : TabOk P tab) (ks : List Nat) {fn : Func} {c : Code} {vs caps ws : List AV} {env' : Env} {szf : Nat} (hg : guardA ops env ⟨d, .call ⟨.value x, xs.toArray, ats⟩, ty, pos, aft, gd⟩ true) (hd : dstOk d sz = true) (hxf : evA env x = some (.fn f caps)) (hb : Body P f) (hf : P.funcs[f]? = some fn) (hc : fn.body = some c) (hx : argsA (evA env) xs = some vs) (hws : vs ++ caps = ws) (hsz : max fn.ntmps ws.length = szf) (hE : pruneE env ks = some env')
    (next : AW P szf c (InK P tab fn.results.toList (fram env' dfs) ops sz rest K env' d dfs) n (enumA 0 ws) h [(none, fram env' dfs)]) : AWL P ops sz (⟨d, .call ⟨.value x, xs.toArray, ats⟩, ty, pos, aft, gd⟩ :: rest) K n env h dfs := by
  intro B a w hcn
  obtain ⟨M, c1, c2, c3, c4⟩ := hcn
  refine dM fun K' hK' => ?_
  rw [if_pos (hg.wanted c3)]
  obtain ⟨us, hxv, hus⟩ := rep_fn (dH c3 x _ hxf)
  have hvs := eI (dH c3) (iB hx)
  obtain ⟨dv, dv0, dv1, dv2⟩ := nA c4
  have hcaps := hvs.append hus
  rw [hws] at hcaps
  have hlen := hcaps.length
  have henv : RepL (cx B n M h w) (env'.map (·.2)) (env'.map fun p => a.tmps.getD p.1 undef) := wM (g := fun t => a.tmps.getD t undef) fun p hp => c3 p.1 p.2 (lL hE p hp)
  let B' : Bs := ⟨B.w0, B.G, B.ok0, (env'.map fun p => a.tmps.getD p.1 undef) ++ dv⟩
  unfold Oper.wp execOp
  simp only [resolve, hxv, Deferred.ofValue, invoke, Sem.run_bind, Sem.run_pure, Result.andThen_ok, List.map_toArray, Array.append_empty, Body.run hb, Oper.upon]
  rw [show (#[] ++ (List.map a.eval xs).toArray ++ us.toArray : Array Value) = (List.map a.eval xs ++ us).toArray by simp]
  refine eX hf hc (wp_mono (iR (next B' _ w ⟨M, ⟨c1.fr, c1.obj, c1.inj, c1.lo⟩, ?_, ?_, ?_⟩)) ?_)
  · simp only [List.length_append, List.length_map] at hlen
    simp
    omega
  · intro t av ht
    obtain ⟨h1, h2⟩ := iG ht
    rw [Nat.sub_zero] at h2
    obtain ⟨u, hu, hru⟩ := hcaps.get h2
    have : ((List.map a.eval xs ++ us).toArray ++ Array.replicate (fn.ntmps - (List.map a.eval xs ++ us).toArray.size) undef).getD t undef = u := by
      have hlt := (List.getElem?_eq_some_iff.1 hu).1
      rw [Array.getD_eq_getD_getElem?, Array.getElem?_append_left (by simpa using hlt)]
      rw [List.getElem?_toArray, hu]
      rfl
    rw [this]
    exact hru
  · exact ⟨henv.append dv1, rfl⟩
  · intro e a' w' hq
    obtain ⟨n', env2, h', dfs', ⟨h1, h2, h3, v, h4, h5⟩, M', d1, d2, d3, d4⟩ := hq
    have : ∀ R : Ending → World → Prop, (∀ u w2, K' (a.put d u) w2 → R (.returned u) w2) → LeavesM P fn a'.tmps R a'.defers w' := by
      intro R hR
      refine dU h2 d1 d4 fun w2 g1 g2 => ?_
      obtain ⟨u, k1, k2⟩ := h4.run tb g1 (fun t av ht => Rep.ext g2 _ _ (d3 t av ht))
      refine ⟨u, k2, ?_⟩
      obtain ⟨e1, e2⟩ := jA (by simp) (RepL.ext g2 _ _ (iI h3 d4))
      have he := qL (g := fun t => a.tmps.getD t undef) e1
      obtain ⟨p1, p2, p3⟩ := iZ (env := env') (B := B) (a := a) (w := w2) (w' := w2) (M := M') (M' := M') (n := n') (n' := n') (h := endD h' dfs') (h' := endD h' dfs') c2 (fun t av ht => he (t, av) (lkE_mem ht)) (Ext.refl _) (dP hd) (v := v) (u := u) k1
      exact hR u w2 (hK' _ _ (h5 B _ _ ⟨M', ⟨g1.fr, g1.obj, g1.inj, g1.lo⟩, p1, p2, by rw [p3]; exact dv2 _ e2⟩))
    rcases h1 with rfl | rfl <;> exact this _ (fun u _ h => h)
end frame

section strokes
variable {P : Program} {ops : Array Oper} {sz n n0 i m t : Nat} {K : AK} {env env0 : Env} {h h0 : Heap} {dfs : Defs} {rest l : List Oper} {op : Op} {ty : TypeId} {pos : String} {aft : Array Edge} {gd : Option (Nat × Bool)}
theorem w_a (hg : guardA ops env ⟨some t, op, ty, pos, aft, gd⟩ true) (hd : Nat.blt t sz = true) (hh : ∃ v, Adds P ⟨some t, op, ty, pos, aft, gd⟩ (evA env) h v [] n n ∧ AWL P ops sz rest K n ((t, v) :: env) h dfs) : AWL P ops sz (⟨some t, op, ty, pos, aft, gd⟩ :: rest) K n env h dfs :=
  let ⟨_, h1, h2⟩ := hh; awl_new hg hd h1 h2
theorem w_d (hg : guardA l.toArray env ⟨some t, op, ty, pos, aft, gd⟩ true) (hh : ∃ v, Adds P ⟨some t, op, ty, pos, aft, gd⟩ (evT (Oper.looksAt l.toArray ⟨some t, op, ty, pos, aft, gd⟩) env) h v [] n n ∧ Drw P l sz K dfs i n0 env0 h0 m rest n ((t, v) :: env) h) : Drw P l sz K dfs i n0 env0 h0 (m + 1) (⟨some t, op, ty, pos, aft, gd⟩ :: rest) n env h :=
  let ⟨_, h1, h2⟩ := hh; drw_new hg h1 h2
theorem eL {o : Oper} {ev : Evl} {N : AV → Prop} {v : AV} (hs : Adds P o ev h v [] n n) (hn : N v) : ∃ v, Adds P o ev h v [] n n ∧ N v := ⟨v, hs, hn⟩
def readsB (all : List Oper) (t : Nat) : Bool := (all.any fun o => memB (o.looksAt all.toArray) t) || (Nat.blt 1 (all.countP fun o => match o.dst with | some d => Nat.beq d t | none => false))
def headLenF (fs : List Nat) (all : List Oper) : List Oper → Nat
  | [] => 0
  | o :: r => match o.op with
    | .assign _ => match o.dst with
      | some t => match readsB all t with | true => 0 | false => headLenF fs all r + 1
      | none => 0
    | .call ⟨.value (.func f), _, _⟩ => match memB fs f with | true => 0 | false => headLenF fs all r + 1
    | .call ⟨.value (.tmp _), _, _⟩ => 0
    | op => match writesB op with | true => 0 | false => headLenF fs all r + 1
theorem aI {id : Nat} (fs : List Nat) (hx : Drw P l sz K dfs id n0 env0 h0 (headLenF fs l l) l n0 env0 h0) : AW P sz (.region id l.toArray true) K n0 env0 h0 dfs := aw_drw _ hx
theorem bO {keep : List Nat} {x : AV} {y z : CV} (h1 : Frz keep h x y) (h2 : Cv y z) : Frz keep h x z := fun B dom M H w u hh hk hc hu => h2 _ _ _ (h1 B dom M H w u hh hk hc hu)
end strokes
section pick
variable {P : Program} {ev : Evl} {h : Heap} {d : Option Tmp} {ty : TypeId} {x y z : Operand} {pos : String} {aft : Array Edge} {gd : Option (Nat × Bool)} {b : Bool} {v : AV}
theorem qR (hc0 : ev z = some (.c (.v (.bool b)))) (hb : b = true) (hx : ev x = some v) : Still P ⟨d, .pick z x y, ty, pos, aft, gd⟩ ev h v := by subst hb; exact oU hc0 hx
theorem qQ (hc0 : ev z = some (.c (.v (.bool b)))) (hb : b = false) (hy : ev y = some v) : Still P ⟨d, .pick z x y, ty, pos, aft, gd⟩ ev h v := by subst hb; exact oT hc0 hy
end pick
theorem AC.bool {P : Program} {f : FuncId} {args : List CV} {x : Value} (h : AC P f args (.c (.v x)) [] 0) {w : World} {vs : List Value} (hvs : RepCs (fun _ => True) w args vs) : Calls P f vs.toArray w fun e w' => e = .returned x ∧ Below w.heap.size w w' :=
  (h _ w vs hvs).mono (by
    rintro e w' ⟨v, M, rfl, hc, hv⟩
    simp only [Rep, RepC] at hv
    subst hv
    exact ⟨rfl, hc.fr.below⟩)
end Go.Av
namespace Go.Av
open Go Go.RowKit
mutual
def AV.mp (σ : Nat → Nat) : AV → AV
  | .c x => .c x
  | .ip cs off => .ip cs off
  | .junk => .junk
  | .ref id off => .ref (σ id) off
  | .own id off n size full => .own (σ id) off n size full
  | .agg xs => .agg (AV.mps σ xs)
  | .tup xs => .tup (AV.mps σ xs)
  | .fn f xs => .fn f (AV.mps σ xs)
  | .yld id => .yld (σ id)
  | .mh id => .mh (σ id)
def AV.mps (σ : Nat → Nat) : List AV → List AV
  | [] => []
  | x :: xs => AV.mp σ x :: AV.mps σ xs
end
structure LessR (N : Nat) (σ : Nat → Nat) (C C' : Cx) : Prop where
  dom : ∀ id, id < N → C.dom (σ id) → C'.dom id ∧ C'.M id = C.M (σ id)
  ok : Keeps C.ok C'.ok C.w C'.w
  shape : ∀ b x, C.w.shape? b = some x → C'.w.shape? b = some x
mutual
theorem Rep.lessR {N : Nat} {σ : Nat → Nat} {C C' : Cx} (h : LessR N σ C C') : ∀ (x : AV) (u : Value), x.ltB N = true → Rep C (x.mp σ) u → Rep C' x u
  | .c x, u, _, hu => by simp only [Rep, AV.mp] at hu ⊢; exact RepC.mono h.ok x u hu
  | .ref id off, u, hl, hu => by
    simp only [Rep, AV.mp] at hu ⊢
    simp only [AV.ltB, Nat.blt_eq] at hl
    obtain ⟨hd, g, hg, hu⟩ := hu
    obtain ⟨k1, k2⟩ := h.dom id hl hd
    exact ⟨k1, g, k2.trans hg, hu⟩
  | .own id off n size full, u, hl, hu => by
    simp only [Rep, AV.mp] at hu ⊢
    simp only [AV.ltB, Nat.blt_eq] at hl
    obtain ⟨hd, hu⟩ := hu
    obtain ⟨k1, k2⟩ := h.dom id hl hd
    refine ⟨k1, ?_⟩
    rcases hu with ⟨h1, h2, h3, h4⟩ | ⟨g, cp, h1, h2, h3, h4, h5⟩ | h6
    · exact .inl ⟨h1, h2, k2.trans h3, h4⟩
    · exact .inr (.inl ⟨g, cp, k2.trans h1, h2, h3, h4, fun hf => let ⟨e, he⟩ := h5 hf; ⟨e, h.shape _ _ he⟩⟩)
    · exact .inr (.inr h6)
  | .ip cs off, u, _, hu => by
    simp only [Rep, AV.mp] at hu ⊢
    obtain ⟨b, o, us, h1, h2, h3, h4, h6, h5⟩ := hu
    obtain ⟨k1, k2, k3⟩ := h.ok b h2 h3
    exact ⟨b, o, us, h1, k1, k2, RepCs.mono h.ok cs us h4, h6, fun j x hx => by rw [World.cell?_of_block (w := C.w) k3]; exact h5 j x hx⟩
  | .agg xs, u, hl, hu => by
    simp only [Rep, AV.mp] at hu ⊢
    obtain ⟨us, h1, h2⟩ := hu
    exact ⟨us, h1, RepL.lessR h xs us hl h2⟩
  | .tup xs, u, hl, hu => by
    simp only [Rep, AV.mp] at hu ⊢
    obtain ⟨us, h1, h2⟩ := hu
    exact ⟨us, h1, RepL.lessR h xs us hl h2⟩
  | .fn f caps, u, hl, hu => by
    simp only [Rep, AV.mp] at hu ⊢
    obtain ⟨us, h1, h2⟩ := hu
    exact ⟨us, h1, RepL.lessR h caps us hl h2⟩
  | .yld id, u, hl, hu => by
    simp only [Rep, AV.mp] at hu ⊢
    simp only [AV.ltB, Nat.blt_eq] at hl
    obtain ⟨hd, g, hg, hu⟩ := hu
    obtain ⟨k1, k2⟩ := h.dom id hl hd
    exact ⟨k1, g, k2.trans hg, hu⟩
  | .mh id, u, hl, hu => by
    simp only [Rep, AV.mp] at hu ⊢
    simp only [AV.ltB, Nat.blt_eq] at hl
    obtain ⟨hd, g, hg, hu⟩ := hu
    obtain ⟨k1, k2⟩ := h.dom id hl hd
    exact ⟨k1, g, k2.trans hg, hu⟩
  | .junk, u, _, hu => by simp only [Rep]
theorem RepL.lessR {N : Nat} {σ : Nat → Nat} {C C' : Cx} (h : LessR N σ C C') : ∀ (xs : List AV) (us : List Value), AV.ltBs N xs = true → RepL C (AV.mps σ xs) us → RepL C' xs us
  | [], us, _, hu => by simpa [RepL, AV.mps] using hu
  | c :: cs, us, hl, hu => by
    simp only [RepL, AV.mps] at hu ⊢
    simp only [AV.ltBs, Bool.and_eq_true] at hl
    obtain ⟨u, us', h1, h2, h3⟩ := hu
    exact ⟨u, us', h1, Rep.lessR h c u hl.1 h2, RepL.lessR h cs us' hl.2 h3⟩
end
def AObj.mp (σ : Nat → Nat) : AObj → AObj
  | .blk T cs => .blk T (AV.mps σ cs)
  | .row T cs => .row T cs
  | .lp b sz L sl xs => .lp b sz L sl (AV.mps σ xs)
  | .dfr b => .dfr b
  | .tab es => .tab (es.map fun p => (p.1, p.2.mp σ))
  | .dead => .dead
theorem RepM.lessR {N : Nat} {σ : Nat → Nat} {C C' : Cx} (h : LessR N σ C C') : ∀ (es : List (CV × AV)) (ms : List MapEntry), (es.all fun p => p.2.ltB N) = true → RepM C (es.map fun p => (p.1, p.2.mp σ)) ms → RepM C' es ms
  | [], ms, _, hu => hu
  | e :: es, ms, hl, hu => by
    obtain ⟨m, ms', h1, h2, h3, h4⟩ := hu
    simp only [List.all_cons, Bool.and_eq_true] at hl
    exact ⟨m, ms', h1, RepC.mono h.ok _ _ h2, Rep.lessR h _ _ hl.1 h3, RepM.lessR h es ms' hl.2 h4⟩
theorem ObjRep.lessR {N : Nat} {σ : Nat → Nat} {C C' : Cx} (h : LessR N σ C C') {g : Option Nat} {o : AObj} (hw : C'.w = C.w) (hl : o.ltB N = true) (ho : ObjRep C g (o.mp σ)) : ObjRep C' g o := by
  cases o with
  | blk T cs =>
    obtain ⟨k, us, rfl, h2, h3⟩ := ho
    exact ⟨k, us, rfl, by rw [hw]; exact h2, RepL.lessR h cs us hl h3⟩
  | row T cs =>
    rcases ho with h1 | ⟨k, us, vs, rfl, h2, h3, h4⟩
    · exact .inl h1
    · exact .inr ⟨k, us, vs, rfl, by rw [hw]; exact h2, RepCs.mono h.ok cs us h3, h4⟩
  | lp b sz L sl xs =>
    obtain ⟨k, r, rfl, h2, h3, h4, h5, h6, h7, h8, h9⟩ := ho
    exact ⟨k, r, rfl, by rw [hw]; exact h2, h3, h4, h5, h6, h7, h8, RepL.lessR h xs _ hl h9⟩
  | dfr b =>
    obtain ⟨k, rfl, h2⟩ := ho
    exact ⟨k, rfl, by rw [hw]; exact h2⟩
  | tab es =>
    obtain ⟨k, ms, t, rfl, h2, h3⟩ := ho
    exact ⟨k, ms, t, rfl, by rw [hw]; exact h2, h3.1, RepM.lessR h es _ hl h3.2⟩
  | dead => exact ho.elim
def WeakER (σ : Nat → Nat) (env : Env) (N : Nat) (E : Env) : Prop := ∀ t av, lkE E t = some av → lkE env t = some (av.mp σ) ∧ av.ltB N = true
def WeakHR (σ : Nat → Nat) (h : Heap) (N : Nat) (Hp : Heap) : Prop := ∀ id o, lk Hp id = some o → lk h (σ id) = some (o.mp σ) ∧ o.ltB N = true
section
variable {σ : Nat → Nat}
theorem bI {env : Env} {N : Nat} : WeakER σ env N [] := fun t av h => by cases h
theorem bF {env E : Env} {N t : Nat} {av av' : AV} (h : lkE env t = some av') (he : av' = av.mp σ) (hl : av.ltB N = true) (hr : WeakER σ env N E) : WeakER σ env N ((t, av) :: E) := by
  intro k x hk
  rw [cW] at hk
  split at hk
  · rename_i e; subst e; injection hk with hk; subst hk; exact ⟨h.trans (by rw [he]), hl⟩
  · exact hr k x hk
theorem bJ {h : Heap} {N : Nat} : WeakHR σ h N [] := fun t av h => by cases h
theorem bB {h Hp : Heap} {N t : Nat} {o o' : AObj} (hh : lk h (σ t) = some o') (he : o' = o.mp σ) (hl : o.ltB N = true) (hr : WeakHR σ h N Hp) : WeakHR σ h N ((t, o) :: Hp) := by
  intro k x hk
  rw [bD] at hk
  split at hk
  · rename_i e; subst e; have hk := fT hk; subst hk; exact ⟨hh.trans (by rw [he]), hl⟩
  · exact hr k x hk
theorem DefRep.lessR {fr : List Value} {N : Nat} {C C' : Cx} (h : LessR N σ C C') : ∀ {l : Defs} {ds : List Deferred}, l.all (fun p => AV.ltBs N p.2) = true → DefRep fr C (l.map fun p => (p.1, AV.mps σ p.2)) ds → DefRep fr C' l ds
  | [], ds, _, hd => hd
  | (some f, caps) :: r, ds, hl, hd => by
    obtain ⟨us, ds', h1, h2, h3⟩ := hd
    simp only [List.all_cons, Bool.and_eq_true] at hl
    exact ⟨us, ds', h1, RepL.lessR h _ _ hl.1 h2, DefRep.lessR h hl.2 h3⟩
  | (none, xs) :: r, ds, hl, hd => by
    simp only [List.all_cons, Bool.and_eq_true] at hl
    exact ⟨RepL.lessR h _ _ hl.1 hd.1, DefRep.lessR h hl.2 hd.2⟩
end
def sg (l : List Nat) (i : Nat) : Nat := match l, i with
  | [], _ => 0
  | x :: _, 0 => x
  | _ :: r, i + 1 => sg r i
theorem bS (l : List Nat) {n N : Nat} {env E : Env} {h Hp : Heap} {dfs D : Defs} (hN : (List.range N).all (fun i => Nat.blt (sg l i) n) = true) (hinj : (List.range N).all (fun i => (List.range N).all fun j => Nat.beq i j || !Nat.beq (sg l i) (sg l j)) = true)
    (hE : WeakER (sg l) env N E) (hH : WeakHR (sg l) h N Hp) (hD : D.all (fun p => AV.ltBs N p.2) = true) (hD' : dfs = D.map fun p => (p.1, AV.mps (sg l) p.2)) : Weak n env h dfs N E Hp D := by
  intro B sz a w hc
  subst hD'
  obtain ⟨M, h1, h2, h3, h4⟩ := hc
  have hn' : ∀ i, i < N → sg l i < n := fun i hi => by
    have := List.all_eq_true.1 hN i (List.mem_range.2 hi)
    simpa using this
  have hi' : ∀ i j, i < N → j < N → sg l i = sg l j → i = j := fun i j hi hj e => by
    have := List.all_eq_true.1 (List.all_eq_true.1 hinj i (List.mem_range.2 hi)) j (List.mem_range.2 hj)
    simp only [Bool.or_eq_true, Bool.not_eq_true'] at this
    rcases this with h | h
    · exact Nat.eq_of_beq_eq_true h
    · rw [e, Nat.beq_refl] at h; cases h
  let M' : Nat → Option Nat := fun i => M (sg l i)
  have hok : ∀ b, okOf B (lt n) M (lk h) b → okOf B (lt N) M' (lk Hp) b := fun b hb => ⟨hb.1, fun id o hid hH' he => hb.2 (sg l id) _ (hn' id hid) (hH id o hH').1 he⟩
  have hls : LessR N (sg l) (cx B n M h w) (cx B N M' Hp w) := ⟨fun id hid _ => ⟨hid, rfl⟩, fun b hb hl => ⟨hok b hb, hl, rfl⟩, fun _ _ h => h⟩
  refine ⟨M', ⟨h1.fr, fun id o hid hH' => ?_, fun id id' o o' g k1 k2 k3 k4 k5 k6 => hi' id id' k1 k2 (h1.inj _ _ _ _ g (hn' id k1) (hn' id' k2) (hH id o k3).1 (hH id' o' k4).1 k5 k6), fun id o g k1 k2 => h1.lo _ _ g (hn' id k1) (hH id o k2).1⟩, h2, fun t av ht => ?_, h4.lessR hls hD⟩
  · exact (h1.obj _ _ (hn' id hid) (hH id o hH').1).lessR hls rfl (hH id o hH').2
  · exact Rep.lessR hls _ _ (hE t av ht).2 (h3 t _ (hE t av ht).1)
section makes
variable {P : Program} {tab : Tab} {ev : Evl} {h : Heap} {d : Option Tmp} {T ty : TypeId} {x y : Operand} {pos : String} {aft : Array Edge} {gd : Option (Nat × Bool)} {i : Nat} {e e' : TyE} {E size : Nat} (tb : TabOk P tab) (hT : tyLook tab T = some e) (hk : e.kind = .slice E) (hs0 : sizeF tab E = some size) (hE : tyLook tab E = some e')
include tb hT hk hs0 hE
theorem cM (hs : Nat.beq e'.size size = true) : Adds P ⟨d, .buildSlice T 0 #[], ty, pos, aft, gd⟩ ev h (.own i 0 0 size true) [(i, .row E [])] i (i + 1) := a_bslice0 tb hT hk hE hs
theorem cU {n : Nat} {parts : List (Nat × Operand)} {cs : List CV} {ls : List (List CV)} {all : List CV} (hs : Nat.beq e'.size size = true) (hz : Nat.beq e'.zero.length size = true) (hp : Nat.blt 0 size = true) (hpt : parts = enumF 0 (parts.map (·.2))) (hn : Nat.beq (parts.map (·.2)).length n = true) (h0 : Nat.blt 0 n = true) (hle : Nat.ble (n * size) 16777216 = true)
    (hx : argsC ev (parts.map (·.2)) = some cs) (hfl : FlatL cs ls) (hsz : ls.all (fun l => Nat.beq l.length size) = true) (hall : ls.flatten = all) : Adds P ⟨d, .buildSlice T n parts.toArray, ty, pos, aft, gd⟩ ev h (.own i 0 n size true) [(i, .row E all)] i (i + 1) := a_bslice tb hT hk hE hs hz hp hpt hn h0 hle hx hfl hsz hall
theorem mW {m : Nat} {vy : AV} {ys : List CV} (hs : Nat.beq e'.size size = true) (hz : Nat.beq e'.zero.length size = true)
    (hx : ev x = some (.c (.v (.slice none 0 0)))) (hy : ev y = some vy) (hf : Src h vy size m ys) (h63 : m ≤ maxLen) (hb : m * e'.bytes ≤ 140737488355328) :
    Adds P ⟨d, .call ⟨.builtin .append, #[x, y], #[T, T]⟩, ty, pos, aft, gd⟩ ev h (.own i 0 m size true) [(i, .row E ys)] i (i + 1) := a_appendN tb hT hk hE hs hz hx hy hf h63 hb
end makes
theorem zP {id id' off off' n n' size : Nat} {full : Bool} (h1 : id = id') (h2 : off = off') (h3 : n = n') : AV.own id off n size full = AV.own id' off' n' size full := by subst h1 h2 h3; rfl
theorem zH {k : IntKind} {m n : Int} (h : m = n) : AV.c (.v (.int k m)) = .c (.v (.int k n)) := by subst h; rfl
theorem cast_self (m : Nat) : (m : Int) = (m : Int) := rfl
theorem cast_lit (n : Nat) : (OfNat.ofNat n : Int) = ((OfNat.ofNat n : Nat) : Int) := rfl
def flatF' : List (List CV) → Option (List CV)
  | [] => some []
  | l :: r => match flatF' r with | some x => some (l ++ x) | none => none
end Go.Av
