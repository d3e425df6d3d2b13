/-
  The law erasurelaw13.IndexFinds returns true for every input, and each argument reads afterwards as it read before. No further condition.
-/
import Derived.Test.YtccnhpaldmjkbaaRows
import Derived.WalkKit
import Derived.ProofKit
import Derived.OpenShut
import Derived.ShutString
import Derived.ChangeOld
import Derived.Below
import Derived.Test.YtccnhpaldmjkbaaM11
import Derived.Test.YtccnhpaldmjkbaaM23
namespace Go.Proofs.Ytccnhpaldmjkbaa.indexFinds
open Go.ChangeShapes Go.WideShapes Go.ChangeAt Go.RowKit Go.Av
set_option linter.unusedVariables false

theorem own : ownKnob Try.prog.godebug = none := by kernel_rfl
theorem laidOut : laidOutB Try.prog = true := j_laid
theorem k0 : (Rows.indexFindsRow.wf (OpenSpec.ofChange Rows.indexFindsSpec)) = true := by kernel_rfl
theorem k1 : (laidOutB Try.prog) = true := j_laid
theorem k2 : (mapsRowed Try.prog) = true := j_maps
theorem k3 : (Try.f5.params.all (Try.prog.readableRec ·)) = true := by kernel_rfl
theorem k4 : (namedTie Try.prog Rows.indexFindsRow.named Rows.indexFindsSpec.vars) = true := by kernel_rfl
theorem k5 : ((Rows.indexFindsRow.stops == [])) = true := by kernel_rfl
theorem k6 : ((Try.prog.stops == [])) = true := by kernel_rfl
theorem k7 : ((Rows.indexFindsRow.knobs == [])) = true := by kernel_rfl
theorem k8 : ((Try.prog.stopKnobs == [])) = true := by kernel_rfl
theorem k9 : ((Rows.indexFindsRow.inPlace == Try.prog.inPlace 5)) = true := by kernel_rfl
theorem k10 : ((Rows.indexFindsRow.unfollowed == Try.prog.unfollowed 5)) = true := by kernel_rfl
theorem k11 : ((Rows.indexFindsRow.recurses == Try.prog.recurses 5)) = true := by kernel_rfl
theorem k12 : ((Rows.indexFindsRow.named == Try.prog.varsNamed 5)) = true := by kernel_rfl
theorem k13 : ((Rows.indexFindsRow.maps == (Try.f5.params.toList ++ Rows.indexFindsSpec.plain.varTypes Try.prog).any (Try.prog.mapsRec ·))) = true := by kernel_rfl
theorem k14 : ((Rows.indexFindsRow.ifaces == (Try.f5.params.toList ++ Rows.indexFindsSpec.plain.varTypes Try.prog).any (Try.prog.ifacesRec ·))) = true := by kernel_rfl
theorem k15 : ((Rows.indexFindsRow.mapsOut == Try.prog.mapsAmong Try.f5.resultTypes.toList)) = true := by kernel_rfl
theorem k16 : ((Rows.indexFindsRow.loops == (Try.f5.params.toList ++ Rows.indexFindsSpec.plain.varTypes Try.prog).any (Try.prog.loopsFrom ·))) = true := by kernel_rfl
theorem k17 : ((Rows.indexFindsRow.wideKeys == (Try.f5.params.toList ++ Rows.indexFindsSpec.plain.varTypes Try.prog ++ Try.f5.resultTypes.toList).any (Try.prog.wideKeysFrom ·))) = true := by kernel_rfl
theorem k18 : (Rows.indexFindsSpec.vars.all (Try.prog.varReadable ·)) = true := by kernel_rfl
theorem k19 : (Try.f5.resultTypes.all (fun t => Try.prog.readableRec t && decide (t < Try.prog.types.size))) = true := by kernel_rfl
theorem k20 : ((Rows.indexFindsRow.ifacesOut == Try.f5.resultTypes.toList.any (Try.prog.ifacesRec ·))) = true := by kernel_rfl
theorem k21 : ((Rows.indexFindsRow.loopsOut == Try.f5.resultTypes.toList.any (Try.prog.loopsFrom ·))) = true := by kernel_rfl
theorem k22 : ((Rows.indexFindsRow.plainKeys == Try.prog.plainKeys)) = true := by kernel_rfl
theorem k23 : (Rows.indexFindsRow.shortTexts.isNone) = true := by kernel_rfl
theorem k24 : (Try.prog.stopsHeard) = true := by kernel_rfl
theorem k25 : (Try.prog.mayEnter) = true := j_enter
theorem k26 : ((Rows.indexFindsRow.lifted == Try.prog.liftsFinal)) = true := by rw [j_final]; kernel_rfl
theorem k27 : ((Try.prog.make == some Rows.indexFindsRow.make)) = true := by rw [j_make]; kernel_rfl
theorem k28 : ((Rows.indexFindsRow.kinds == (if Rows.indexFindsRow.domain.isEmpty then [] else Try.f5.params.toList.map fun t => match Try.prog.underlying t with | some (.int k) => some k | _ => none))) = true := by kernel_rfl
theorem k29 : ((Rows.indexFindsRow.pinned == Rows.indexFindsRow.pinnedBy)) = true := by kernel_rfl
theorem k30 : ((Rows.indexFindsRow.veiled == (Try.f5.params.toList ++ Rows.indexFindsSpec.plain.varTypes Try.prog ++ Try.f5.resultTypes.toList).any (Try.prog.veiledRec ·))) = true := by kernel_rfl
theorem k31 : (Rows.indexFindsRow.veiledFits Try.prog Try.f5.params.toList (Try.f5.params.toList ++ Rows.indexFindsSpec.plain.varTypes Try.prog ++ Try.f5.resultTypes.toList)) = true := by kernel_rfl
set_option maxRecDepth 100000 in
theorem joined : joinedFacts Try.prog 5 Try.f5 Rows.indexFindsSpec Rows.indexFindsRow = true := by
  unfold joinedFacts
  exact (j_and (j_and (j_and (j_and (j_and (j_and (j_and (j_and (j_and (j_and (j_and (j_and (j_and (j_and (j_and (j_and (j_and (j_and (j_and (j_and (j_and (j_and (j_and (j_and (j_and (j_and (j_and (j_and (j_and (j_and (j_and k0 k1) k2) k3) k4) k5) k6) k7) k8) k9) k10) k11) k12) k13) k14) k15) k16) k17) k18) k19) k20) k21) k22) k23) k24) k25) k26) k27) k28) k29) k30) k31)

set_option maxRecDepth 100000 in
theorem lifted (os : Os) (started : os.Started) (H : Type) (enc : TypeId × Value → H) :
    ReturnsInHanded {} Try.checked os 5 .any (Rows.indexFindsSpec.pre6 enc Try.prog Try.f5 Rows.indexFindsRow.domain false) (Rows.indexFindsSpec.post enc Try.prog Try.f5 false true false false) := by
  refine returnsInHanded_of_change_sized (C := Try.checked) own started (by kernel_rfl) Try.func5
    (ChangeSpec.witness6 (enc := enc) (C := Try.checked) false ⟨#[], #[.slice none 0 0], []⟩ 8 (by kernel_rfl) (by kernel_rfl) (by kernel_rfl) (by kernel_rfl)) ?_
  intro W base args ds gs before hval0 hW hcnd hsz _
  have hval : ∀ (j : Nat) t v, Try.f5.params[j]? = some t → args[j]? = some v → Value.okWide Try.prog W .any base t v := hval0
  have hW' := hW
  obtain ⟨p, q, hA0, hV, rfl, hfz, hnd⟩ := hW
  have hA : DataW.TrodAll enc Try.prog W 0 (fun _ => true) true Try.f5.params.toList args.toList ds p := hA0
  rw [Try.params5] at hA hval
  obtain ⟨v0, vs0, d0, ds0, p0, q0, hargs, rfl, rfl, h0, r0⟩ := trodAll_cons hA
  obtain ⟨rfl, rfl, rfl⟩ := trodAll_nil r0
  obtain rfl : args = #[v0] := by cases args; simp_all
  obtain ⟨rfl, rfl⟩ := trodVars_none hV
  have k0 := h0
  have lt0 : ∀ x ∈ p0, x.block < W.heap.size := by obtain ⟨m, hm⟩ := k0; exact DataW.trod_lt m _ _ _ hm
  obtain ⟨a0, len0, cap0, rfl⟩ := okWide_slice Try.underlying27 (hval 0 27 v0 rfl rfl)
  obtain ⟨x0, y0, s0⟩ := arg_one (op_slice (s := 1) Try.underlying27 (by kernel_rfl) (by decide) (op_int Try.underlying3)) h0 rfl
  rw [Try.params5] at hsz
  have hreach0 := arg_reach (j := 0) (k := 8) Try.underlying27 (by kernel_rfl) h0 hsz rfl rfl
  clear hA0 hval0
  obtain ⟨L, rfl, hL⟩ := rd_ints s0
  have hln := len_of y0
  have hlaw := law_ifinds L L.length rfl (by have := hreach0; omega)
  refine (hlaw.bool (w := W) ⟨_, _, rfl, y0, rfl⟩).mono fun e W' ⟨he, bel⟩ => ?_
  subst he
  exact ⟨_, rfl, _, _, _, [], _, [], hW', trodAll_mk1 (shut_bool Try.underlying4 _), (trodAll_cons_mk (Below.trod laidOut (by kernel_rfl) (of_decide_eq_true (by kernel_rfl)) k0 bel lt0) trodAll_mk0), rfl, bel.frame _, fun h => by cases h⟩

theorem over : Rows.indexFindsRow.holds Try.pinned (OpenSpec.ofChange Rows.indexFindsSpec) :=
  OpenClaim.holds_of_wide 5 Try.f5 rfl rfl rfl rfl rfl rfl rfl ⟨rfl, rfl, rfl, rfl, rfl⟩ rfl rfl rfl rfl rfl (by kernel_rfl) Try.func5 joined
    (of_decide_eq_true (by kernel_rfl)) (by unfold Func.isWrapper; first | (rw [if_pos (by decide +kernel)]; kernel_rfl) | (rw [if_neg (by decide +kernel)]; exact ⟨rfl, rfl⟩))
    (fun os started H enc _ => lifted os started H enc)

theorem proved : Rows.IndexFindsSaid := over
#print axioms proved
end Go.Proofs.Ytccnhpaldmjkbaa.indexFinds
