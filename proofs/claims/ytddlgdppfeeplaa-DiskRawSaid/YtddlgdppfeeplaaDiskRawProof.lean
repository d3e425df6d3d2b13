/-
  The law erasurelaw32.DiskRaw returns true for every input, and each argument reads afterwards as it read before. No further condition.
-/
import Derived.Test.YtddlgdppfeeplaaRows
import Derived.Test.YtddlgdppfeeplaaRaw
import Derived.Test.YtddlgdppfeeplaaRowAid
import Derived.WalkKit
import Derived.ProofKit
import Derived.OpenShut
import Derived.ShutString
import Derived.ChangeOld
import Derived.Below
import Derived.Lib.SmallJoins
namespace Go.Proofs.Ytddlgdppfeeplaa.diskRaw
open Go.ChangeShapes Go.WideShapes Go.ChangeAt Go.RowKit Go.Joins
open Go.ChangeMaps (open_string shut_string)
set_option linter.unusedVariables false

theorem own : ownKnob Try.prog.godebug = none := by kernel_rfl
theorem laidOut : laidOutB Try.prog = true := by kernel_rfl
theorem cells26 : Try.prog.cellsOf 26 = 4 := by kernel_rfl
theorem cells41 : Try.prog.cellsOf 41 = 3 := by kernel_rfl

theorem row_of {H : Type} {enc : TypeId × Value → H} {W : World} {base : Nat} {held : Bool} {n : Nat} {v : Value} {y : DataW H × List MemPlace} (h : DataW.trod enc Try.prog W base (fun _ => true) held n 22 [v] = some y) :
    ∃ (a : Option Addr) (len cap : Nat) (l : List UInt8), v = .slice a len cap ∧ Er.SlR W 0 W.heap.size 1 a len cap (Er.u8s l) := by
  rcases open_ints Try.underlying22 Try.underlying5 (by kernel_rfl) h with ⟨hcs, _⟩ | ⟨x, l, c, zs, hcs, _, hl, hm, hz, _, hcell, hwz⟩
  · simp only [List.cons.injEq, and_true] at hcs
    obtain ⟨l, hs⟩ := Er.bytes_of_row (w := W) (a := none) (len := 0) (cap := 0) (zs := []) (.inl ⟨rfl, rfl, rfl, rfl⟩)
    exact ⟨none, 0, 0, l, hcs, hs⟩
  · simp only [List.cons.injEq, and_true] at hcs
    obtain ⟨r, hs⟩ := Er.bytes_of_row (w := W) (a := some x) (len := l) (cap := c) (zs := zs) (.inr ⟨_, rfl, hl, hm, by simpa using hz, hcell, hwz⟩)
    exact ⟨some x, l, c, r, hcs, hs⟩

set_option maxRecDepth 100000 in
theorem lifted (os : Os) (started : os.Started) (H : Type) (enc : TypeId × Value → H) :
    ReturnsInHanded {} Try.checked os 6 .any (Rows.diskRawSpec.pre6 enc Try.prog Try.f6 Rows.diskRawRow.domain false) (Rows.diskRawSpec.post enc Try.prog Try.f6 false true false false) := by
  refine returnsInHanded_of_change (C := Try.checked) own started (by kernel_rfl) Try.func6
    (ChangeSpec.witness6 (enc := enc) (C := Try.checked) false ⟨#[], #[.agg #[.slice none 0 0, .slice none 0 0, .int .i64 0, .bool false], .agg #[.int .i64 0, .int .i64 0, .slice none 0 0]], []⟩ 8 (by kernel_rfl) (by kernel_rfl) (by kernel_rfl) (by kernel_rfl)) ?_
  intro W base args ds gs before hval0 hW hcnd _
  have hval : ∀ (j : Nat) t v, Try.f6.params[j]? = some t → args[j]? = some v → Value.okWide Try.prog W .any base t v := hval0
  have hW' := hW
  obtain ⟨p, q, hA0, hV, rfl, hfz, hnd⟩ := hW
  have hA : DataW.TrodAll enc Try.prog W 0 (fun _ => true) true Try.f6.params.toList args.toList ds p := hA0
  rw [Try.params6] at hA hval
  obtain ⟨v0, vs0, d0, ds0, p0, q0, hargs, rfl, rfl, h0, r0⟩ := trodAll_cons hA
  obtain ⟨v1, vs1, d1, ds1, p1, q1, rfl, rfl, rfl, h1, r1⟩ := trodAll_cons r0
  obtain ⟨rfl, rfl, rfl⟩ := trodAll_nil r1
  obtain rfl : args = #[v0, v1] := by cases args; simp_all
  obtain ⟨rfl, rfl⟩ := trodVars_none hV
  have k0 := h0
  have lt0 : ∀ x ∈ p0, x.block < W.heap.size := by obtain ⟨m, hm⟩ := k0; exact DataW.trod_lt m _ _ _ hm
  have k1 := h1
  have lt1 : ∀ x ∈ p1, x.block < W.heap.size := by obtain ⟨m, hm⟩ := k1; exact DataW.trod_lt m _ _ _ hm
  obtain ⟨c0, c1, c2, c3, y0, y1, y2, y3, m, ev0, _, _, hy0, hy1, hy2, hy3⟩ := open_agg4 Try.underlying26 (by kernel_rfl) cells26 (hval 0 26 v0 rfl rfl) h0
  obtain ⟨e0, e1, e2, z0, z1, z2, m', ev1, _, _, hz0, hz1, hz2⟩ := open_agg3 Try.underlying41 (by kernel_rfl) cells41 (hval 1 41 v1 rfl rfl) h1
  obtain ⟨a, n0, x0, s, g0, s0⟩ := row_of hy0
  obtain ⟨b, n1, x1, t, g1, s1⟩ := row_of hy1
  obtain ⟨fu, g2, _, wf2⟩ := DataW.trod_int Try.underlying3 hy2
  obtain ⟨dn, g3, _⟩ := DataW.trod_bool Try.underlying4 hy3
  obtain ⟨kd, g4, _, wf4⟩ := DataW.trod_int Try.underlying3 hz0
  obtain ⟨nn, g5, _, wf5⟩ := DataW.trod_int Try.underlying3 hz1
  obtain ⟨cc, n2, x2, u, g6, s2⟩ := row_of hz2
  simp only [List.cons.injEq, and_true] at g2 g3 g4 g5
  have hfu := (bounds_i64 wf2).2
  clear hA0 hval0
  have wk := raw_any a b cc n0 n1 n2 x0 x1 x2 s t u fu kd nn dn W s0 s1 s2 hfu
  rw [← g2, ← g3, ← g0, ← g1, ← g4, ← g5, ← g6, ← ev0, ← ev1] at wk
  refine wk.mono fun e W' ⟨he, bel⟩ => ?_
  subst he
  exact ⟨_, rfl, _, _, _, [], _, [], hW', trodAll_mk1 (shut_bool Try.underlying4 _), (trodAll_cons_mk (Below.trod laidOut (by kernel_rfl) (of_decide_eq_true (by kernel_rfl)) k0 bel lt0) (trodAll_cons_mk (Below.trod laidOut (by kernel_rfl) (of_decide_eq_true (by kernel_rfl)) k1 bel lt1) trodAll_mk0)), rfl, bel.frame _, fun h => by cases h⟩

theorem over : Rows.diskRawRow.holds Try.pinned (OpenSpec.ofChange Rows.diskRawSpec) :=
  OpenClaim.holds_of_wide 6 Try.f6 rfl rfl rfl rfl rfl rfl rfl ⟨rfl, rfl, rfl, rfl, rfl⟩ rfl rfl rfl rfl rfl (by kernel_rfl) Try.func6 (by kernel_rfl)
    (of_decide_eq_true (by kernel_rfl)) (by unfold Func.isWrapper; first | (rw [if_pos (by decide +kernel)]; kernel_rfl) | (rw [if_neg (by decide +kernel)]; exact ⟨rfl, rfl⟩))
    (fun os started H enc _ => lifted os started H enc)

theorem proved : Rows.DiskRawSaid := over
#print axioms proved
end Go.Proofs.Ytddlgdppfeeplaa.diskRaw
