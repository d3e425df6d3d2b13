/-
  The law erasurelaw13.IndexChange returns true for every input, and each argument reads afterwards as it read before. No further condition.
-/
import Derived.Test.YtccnhpaldmjkbaaGreatRows
import Derived.WalkKit
import Derived.ProofKit
import Derived.OpenShut
import Derived.ShutString
import Derived.ChangeOld
import Derived.Below
import Derived.Test.YtccnhpaldmjkbaaGreatM15
import Derived.Test.YtccnhpaldmjkbaaGreatM16
import Derived.Test.YtccnhpaldmjkbaaGreatM40
namespace Go.Proofs.YtccnhpaldmjkbaaGreat.indexChange
open Go.ChangeShapes Go.WideShapes Go.ChangeAt Go.RowKit Go.Av
set_option linter.unusedVariables false

theorem own : ownKnob Tryz.prog.godebug = none := by kernel_rfl
theorem laidOut : laidOutB Tryz.prog = true := j_laid
theorem k0 : (Rows.indexChangeRow.wf (OpenSpec.ofChange Rows.indexChangeSpec)) = true := by kernel_rfl
theorem k1 : (laidOutB Tryz.prog) = true := j_laid
theorem k2 : (mapsRowed Tryz.prog) = true := j_maps
theorem k3 : (Tryz.f3.params.all (Tryz.prog.readableRec ·)) = true := by kernel_rfl
theorem k4 : (namedTie Tryz.prog Rows.indexChangeRow.named Rows.indexChangeSpec.vars) = true := by kernel_rfl
theorem k5 : ((Rows.indexChangeRow.stops == [])) = true := by kernel_rfl
theorem k6 : ((Tryz.prog.stops == [])) = true := by kernel_rfl
theorem k7 : ((Rows.indexChangeRow.knobs == [])) = true := by kernel_rfl
theorem k8 : ((Tryz.prog.stopKnobs == [])) = true := by kernel_rfl
theorem k9 : ((Rows.indexChangeRow.inPlace == Tryz.prog.inPlace 3)) = true := by kernel_rfl
theorem k10 : ((Rows.indexChangeRow.unfollowed == Tryz.prog.unfollowed 3)) = true := by kernel_rfl
theorem k11 : ((Rows.indexChangeRow.recurses == Tryz.prog.recurses 3)) = true := by kernel_rfl
theorem k12 : ((Rows.indexChangeRow.named == Tryz.prog.varsNamed 3)) = true := by kernel_rfl
theorem k13 : ((Rows.indexChangeRow.maps == (Tryz.f3.params.toList ++ Rows.indexChangeSpec.plain.varTypes Tryz.prog).any (Tryz.prog.mapsRec ·))) = true := by kernel_rfl
theorem k14 : ((Rows.indexChangeRow.ifaces == (Tryz.f3.params.toList ++ Rows.indexChangeSpec.plain.varTypes Tryz.prog).any (Tryz.prog.ifacesRec ·))) = true := by kernel_rfl
theorem k15 : ((Rows.indexChangeRow.mapsOut == Tryz.prog.mapsAmong Tryz.f3.resultTypes.toList)) = true := by kernel_rfl
theorem k16 : ((Rows.indexChangeRow.loops == (Tryz.f3.params.toList ++ Rows.indexChangeSpec.plain.varTypes Tryz.prog).any (Tryz.prog.loopsFrom ·))) = true := by kernel_rfl
theorem k17 : ((Rows.indexChangeRow.wideKeys == (Tryz.f3.params.toList ++ Rows.indexChangeSpec.plain.varTypes Tryz.prog ++ Tryz.f3.resultTypes.toList).any (Tryz.prog.wideKeysFrom ·))) = true := by kernel_rfl
theorem k18 : (Rows.indexChangeSpec.vars.all (Tryz.prog.varReadable ·)) = true := by kernel_rfl
theorem k19 : (Tryz.f3.resultTypes.all (fun t => Tryz.prog.readableRec t && decide (t < Tryz.prog.types.size))) = true := by kernel_rfl
theorem k20 : ((Rows.indexChangeRow.ifacesOut == Tryz.f3.resultTypes.toList.any (Tryz.prog.ifacesRec ·))) = true := by kernel_rfl
theorem k21 : ((Rows.indexChangeRow.loopsOut == Tryz.f3.resultTypes.toList.any (Tryz.prog.loopsFrom ·))) = true := by kernel_rfl
theorem k22 : ((Rows.indexChangeRow.plainKeys == Tryz.prog.plainKeys)) = true := by kernel_rfl
theorem k23 : (Rows.indexChangeRow.shortTexts.isNone) = true := by kernel_rfl
theorem k24 : (Tryz.prog.stopsHeard) = true := by kernel_rfl
theorem k25 : (Tryz.prog.mayEnter) = true := j_enter
theorem k26 : ((Rows.indexChangeRow.lifted == Tryz.prog.liftsFinal)) = true := by rw [j_final]; kernel_rfl
theorem k27 : ((Tryz.prog.make == some Rows.indexChangeRow.make)) = true := by rw [j_make]; kernel_rfl
theorem k28 : ((Rows.indexChangeRow.kinds == (if Rows.indexChangeRow.domain.isEmpty then [] else Tryz.f3.params.toList.map fun t => match Tryz.prog.underlying t with | some (.int k) => some k | _ => none))) = true := by kernel_rfl
theorem k29 : ((Rows.indexChangeRow.pinned == Rows.indexChangeRow.pinnedBy)) = true := by kernel_rfl
theorem k30 : ((Rows.indexChangeRow.veiled == (Tryz.f3.params.toList ++ Rows.indexChangeSpec.plain.varTypes Tryz.prog ++ Tryz.f3.resultTypes.toList).any (Tryz.prog.veiledRec ·))) = true := by kernel_rfl
theorem k31 : (Rows.indexChangeRow.veiledFits Tryz.prog Tryz.f3.params.toList (Tryz.f3.params.toList ++ Rows.indexChangeSpec.plain.varTypes Tryz.prog ++ Tryz.f3.resultTypes.toList)) = true := by kernel_rfl
set_option maxRecDepth 100000 in
theorem joined : joinedFacts Tryz.prog 3 Tryz.f3 Rows.indexChangeSpec Rows.indexChangeRow = true := by
  unfold joinedFacts
  exact (j_and (j_and (j_and (j_and (j_and (j_and (j_and (j_and (j_and (j_and (j_and (j_and (j_and (j_and (j_and (j_and (j_and (j_and (j_and (j_and (j_and (j_and (j_and (j_and (j_and (j_and (j_and (j_and (j_and (j_and (j_and k0 k1) k2) k3) k4) k5) k6) k7) k8) k9) k10) k11) k12) k13) k14) k15) k16) k17) k18) k19) k20) k21) k22) k23) k24) k25) k26) k27) k28) k29) k30) k31)

set_option maxRecDepth 100000 in
theorem lifted (os : Os) (started : os.Started) (H : Type) (enc : TypeId × Value → H) :
    ReturnsInHanded {} Tryz.checked os 3 .any (Rows.indexChangeSpec.pre6 enc Tryz.prog Tryz.f3 Rows.indexChangeRow.domain false) (Rows.indexChangeSpec.post enc Tryz.prog Tryz.f3 false true false false) := by
  refine returnsInHanded_of_change_sized (C := Tryz.checked) own started (by kernel_rfl) Tryz.func3
    (ChangeSpec.witness6 (enc := enc) (C := Tryz.checked) false ⟨#[], #[.slice none 0 0, .int .i64 0], []⟩ 8 (by kernel_rfl) (by kernel_rfl) (by kernel_rfl) (by kernel_rfl)) ?_
  intro W base args ds gs before hval0 hW hcnd hsz _
  have hval : ∀ (j : Nat) t v, Tryz.f3.params[j]? = some t → args[j]? = some v → Value.okWide Tryz.prog W .any base t v := hval0
  have hW' := hW
  obtain ⟨p, q, hA0, hV, rfl, hfz, hnd⟩ := hW
  have hA : DataW.TrodAll enc Tryz.prog W 0 (fun _ => true) true Tryz.f3.params.toList args.toList ds p := hA0
  rw [Tryz.params3] at hA hval
  obtain ⟨v0, vs0, d0, ds0, p0, q0, hargs, rfl, rfl, h0, r0⟩ := trodAll_cons hA
  obtain ⟨v1, vs1, d1, ds1, p1, q1, rfl, rfl, rfl, h1, r1⟩ := trodAll_cons r0
  obtain ⟨rfl, rfl, rfl⟩ := trodAll_nil r1
  obtain rfl : args = #[v0, v1] := by cases args; simp_all
  obtain ⟨rfl, rfl⟩ := trodVars_none hV
  have k0 := h0
  have lt0 : ∀ x ∈ p0, x.block < W.heap.size := by obtain ⟨m, hm⟩ := k0; exact DataW.trod_lt m _ _ _ hm
  obtain ⟨a0, len0, cap0, rfl⟩ := okWide_slice Tryz.underlying22 (hval 0 22 v0 rfl rfl)
  obtain ⟨x0, y0, s0⟩ := arg_one (op_slice (s := 1) Tryz.underlying22 (by kernel_rfl) (by decide) (op_int Tryz.underlying3)) h0 rfl
  have k1 := h1
  have lt1 : ∀ x ∈ p1, x.block < W.heap.size := by obtain ⟨m, hm⟩ := k1; exact DataW.trod_lt m _ _ _ hm
  obtain ⟨a1, rfl⟩ := okWide_int Tryz.underlying3 (hval 1 3 v1 rfl rfl)
  obtain ⟨x1, y1, s1⟩ := arg_one (op_int Tryz.underlying3) h1 rfl
  rw [Tryz.params3] at hsz
  have hreach0 := arg_reach (j := 0) (k := 8) Tryz.underlying22 (by kernel_rfl) h0 hsz rfl rfl
  clear hA0 hval0
  obtain ⟨L, rfl, hL⟩ := rd_ints s0
  obtain ⟨c, e1, hc⟩ := s1
  injection e1 with e1 _
  subst e1
  have hln := len_of y0
  have hlaw := law_ichange L L.length rfl (by have := hreach0; omega) c (wf_i64 hc).2
  refine (hlaw.bool (w := W) ⟨_, _, rfl, y0, ⟨_, _, rfl, y1, rfl⟩⟩).mono fun e W' ⟨he, bel⟩ => ?_
  subst he
  exact ⟨_, rfl, _, _, _, [], _, [], hW', trodAll_mk1 (shut_bool Tryz.underlying4 _), (trodAll_cons_mk (Below.trod laidOut (by kernel_rfl) (of_decide_eq_true (by kernel_rfl)) k0 bel lt0) (trodAll_cons_mk (Below.trod laidOut (by kernel_rfl) (of_decide_eq_true (by kernel_rfl)) k1 bel lt1) trodAll_mk0)), rfl, bel.frame _, fun h => by cases h⟩

theorem over : Rows.indexChangeRow.holds Tryz.pinned (OpenSpec.ofChange Rows.indexChangeSpec) :=
  OpenClaim.holds_of_wide 3 Tryz.f3 rfl rfl rfl rfl rfl rfl rfl ⟨rfl, rfl, rfl, rfl, rfl⟩ rfl rfl rfl rfl rfl (by kernel_rfl) Tryz.func3 joined
    (of_decide_eq_true (by kernel_rfl)) (by unfold Func.isWrapper; first | (rw [if_pos (by decide +kernel)]; kernel_rfl) | (rw [if_neg (by decide +kernel)]; exact ⟨rfl, rfl⟩))
    (fun os started H enc _ => lifted os started H enc)

theorem proved : Rows.IndexChangeSaid := over
#print axioms proved
end Go.Proofs.YtccnhpaldmjkbaaGreat.indexChange
