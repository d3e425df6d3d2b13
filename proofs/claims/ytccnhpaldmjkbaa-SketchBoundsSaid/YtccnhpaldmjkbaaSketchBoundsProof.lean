/-
  The law erasurelaw12.SketchBounds returns true for every input, and each argument reads afterwards as it read before. No further condition.
-/
import Derived.Test.YtccnhpaldmjkbaaRows
import Derived.WalkKit
import Derived.ProofKit
import Derived.OpenShut
import Derived.ShutString
import Derived.ChangeOld
import Derived.Below
import Derived.Test.YtccnhpaldmjkbaaM1
import Derived.Test.YtccnhpaldmjkbaaM2
import Derived.Test.YtccnhpaldmjkbaaM3
import Derived.Test.YtccnhpaldmjkbaaM4
import Derived.Test.YtccnhpaldmjkbaaM5
import Derived.Test.YtccnhpaldmjkbaaM6
import Derived.Test.YtccnhpaldmjkbaaM7
import Derived.Test.YtccnhpaldmjkbaaM8
import Derived.Test.YtccnhpaldmjkbaaM9
import Derived.Test.YtccnhpaldmjkbaaM10
import Derived.Test.YtccnhpaldmjkbaaM12
import Derived.Test.YtccnhpaldmjkbaaM13
import Derived.Test.YtccnhpaldmjkbaaM14
import Derived.Test.YtccnhpaldmjkbaaM15
import Derived.Test.YtccnhpaldmjkbaaM19
import Derived.Test.YtccnhpaldmjkbaaM21
import Derived.Test.YtccnhpaldmjkbaaM20
namespace Go.Proofs.Ytccnhpaldmjkbaa.sketchBounds
open Go.ChangeShapes Go.WideShapes Go.ChangeAt Go.RowKit Go.Av
set_option linter.unusedVariables false

theorem own : ownKnob Try.prog.godebug = none := by kernel_rfl
theorem laidOut : laidOutB Try.prog = true := j_laid
theorem k0 : (Rows.sketchBoundsRow.wf (OpenSpec.ofChange Rows.sketchBoundsSpec)) = true := by kernel_rfl
theorem k1 : (laidOutB Try.prog) = true := j_laid
theorem k2 : (mapsRowed Try.prog) = true := j_maps
theorem k3 : (Try.f9.params.all (Try.prog.readableRec ·)) = true := by kernel_rfl
theorem k4 : (namedTie Try.prog Rows.sketchBoundsRow.named Rows.sketchBoundsSpec.vars) = true := by kernel_rfl
theorem k5 : ((Rows.sketchBoundsRow.stops == [])) = true := by kernel_rfl
theorem k6 : ((Try.prog.stops == [])) = true := by kernel_rfl
theorem k7 : ((Rows.sketchBoundsRow.knobs == [])) = true := by kernel_rfl
theorem k8 : ((Try.prog.stopKnobs == [])) = true := by kernel_rfl
theorem k9 : ((Rows.sketchBoundsRow.inPlace == Try.prog.inPlace 9)) = true := by kernel_rfl
theorem k10 : ((Rows.sketchBoundsRow.unfollowed == Try.prog.unfollowed 9)) = true := by kernel_rfl
theorem k11 : ((Rows.sketchBoundsRow.recurses == Try.prog.recurses 9)) = true := by kernel_rfl
theorem k12 : ((Rows.sketchBoundsRow.named == Try.prog.varsNamed 9)) = true := by kernel_rfl
theorem k13 : ((Rows.sketchBoundsRow.maps == (Try.f9.params.toList ++ Rows.sketchBoundsSpec.plain.varTypes Try.prog).any (Try.prog.mapsRec ·))) = true := by kernel_rfl
theorem k14 : ((Rows.sketchBoundsRow.ifaces == (Try.f9.params.toList ++ Rows.sketchBoundsSpec.plain.varTypes Try.prog).any (Try.prog.ifacesRec ·))) = true := by kernel_rfl
theorem k15 : ((Rows.sketchBoundsRow.mapsOut == Try.prog.mapsAmong Try.f9.resultTypes.toList)) = true := by kernel_rfl
theorem k16 : ((Rows.sketchBoundsRow.loops == (Try.f9.params.toList ++ Rows.sketchBoundsSpec.plain.varTypes Try.prog).any (Try.prog.loopsFrom ·))) = true := by kernel_rfl
theorem k17 : ((Rows.sketchBoundsRow.wideKeys == (Try.f9.params.toList ++ Rows.sketchBoundsSpec.plain.varTypes Try.prog ++ Try.f9.resultTypes.toList).any (Try.prog.wideKeysFrom ·))) = true := by kernel_rfl
theorem k18 : (Rows.sketchBoundsSpec.vars.all (Try.prog.varReadable ·)) = true := by kernel_rfl
theorem k19 : (Try.f9.resultTypes.all (fun t => Try.prog.readableRec t && decide (t < Try.prog.types.size))) = true := by kernel_rfl
theorem k20 : ((Rows.sketchBoundsRow.ifacesOut == Try.f9.resultTypes.toList.any (Try.prog.ifacesRec ·))) = true := by kernel_rfl
theorem k21 : ((Rows.sketchBoundsRow.loopsOut == Try.f9.resultTypes.toList.any (Try.prog.loopsFrom ·))) = true := by kernel_rfl
theorem k22 : ((Rows.sketchBoundsRow.plainKeys == Try.prog.plainKeys)) = true := by kernel_rfl
theorem k23 : (Rows.sketchBoundsRow.shortTexts.isNone) = true := by kernel_rfl
theorem k24 : (Try.prog.stopsHeard) = true := by kernel_rfl
theorem k25 : (Try.prog.mayEnter) = true := j_enter
theorem k26 : ((Rows.sketchBoundsRow.lifted == Try.prog.liftsFinal)) = true := by rw [j_final]; kernel_rfl
theorem k27 : ((Try.prog.make == some Rows.sketchBoundsRow.make)) = true := by rw [j_make]; kernel_rfl
theorem k28 : ((Rows.sketchBoundsRow.kinds == (if Rows.sketchBoundsRow.domain.isEmpty then [] else Try.f9.params.toList.map fun t => match Try.prog.underlying t with | some (.int k) => some k | _ => none))) = true := by kernel_rfl
theorem k29 : ((Rows.sketchBoundsRow.pinned == Rows.sketchBoundsRow.pinnedBy)) = true := by kernel_rfl
theorem k30 : ((Rows.sketchBoundsRow.veiled == (Try.f9.params.toList ++ Rows.sketchBoundsSpec.plain.varTypes Try.prog ++ Try.f9.resultTypes.toList).any (Try.prog.veiledRec ·))) = true := by kernel_rfl
theorem k31 : (Rows.sketchBoundsRow.veiledFits Try.prog Try.f9.params.toList (Try.f9.params.toList ++ Rows.sketchBoundsSpec.plain.varTypes Try.prog ++ Try.f9.resultTypes.toList)) = true := by kernel_rfl
set_option maxRecDepth 100000 in
theorem joined : joinedFacts Try.prog 9 Try.f9 Rows.sketchBoundsSpec Rows.sketchBoundsRow = true := by
  unfold joinedFacts
  exact (j_and (j_and (j_and (j_and (j_and (j_and (j_and (j_and (j_and (j_and (j_and (j_and (j_and (j_and (j_and (j_and (j_and (j_and (j_and (j_and (j_and (j_and (j_and (j_and (j_and (j_and (j_and (j_and (j_and (j_and (j_and k0 k1) k2) k3) k4) k5) k6) k7) k8) k9) k10) k11) k12) k13) k14) k15) k16) k17) k18) k19) k20) k21) k22) k23) k24) k25) k26) k27) k28) k29) k30) k31)

set_option maxRecDepth 100000 in
theorem lifted (os : Os) (started : os.Started) (H : Type) (enc : TypeId × Value → H) :
    ReturnsInHanded {} Try.checked os 9 .any (Rows.sketchBoundsSpec.pre6 enc Try.prog Try.f9 Rows.sketchBoundsRow.domain false) (Rows.sketchBoundsSpec.post enc Try.prog Try.f9 false true false false) := by
  refine returnsInHanded_of_change_sized (C := Try.checked) own started (by kernel_rfl) Try.func9
    (ChangeSpec.witness6 (enc := enc) (C := Try.checked) false ⟨#[], #[.slice none 0 0], []⟩ 8 (by kernel_rfl) (by kernel_rfl) (by kernel_rfl) (by kernel_rfl)) ?_
  intro W base args ds gs before hval0 hW hcnd hsz _
  have hval : ∀ (j : Nat) t v, Try.f9.params[j]? = some t → args[j]? = some v → Value.okWide Try.prog W .any base t v := hval0
  have hW' := hW
  obtain ⟨p, q, hA0, hV, rfl, hfz, hnd⟩ := hW
  have hA : DataW.TrodAll enc Try.prog W 0 (fun _ => true) true Try.f9.params.toList args.toList ds p := hA0
  rw [Try.params9] at hA hval
  obtain ⟨v0, vs0, d0, ds0, p0, q0, hargs, rfl, rfl, h0, r0⟩ := trodAll_cons hA
  obtain ⟨rfl, rfl, rfl⟩ := trodAll_nil r0
  obtain rfl : args = #[v0] := by cases args; simp_all
  obtain ⟨rfl, rfl⟩ := trodVars_none hV
  have k0 := h0
  have lt0 : ∀ x ∈ p0, x.block < W.heap.size := by obtain ⟨m, hm⟩ := k0; exact DataW.trod_lt m _ _ _ hm
  obtain ⟨a0, len0, cap0, rfl⟩ := okWide_slice Try.underlying27 (hval 0 27 v0 rfl rfl)
  obtain ⟨x0, y0, s0⟩ := arg_one (op_slice (s := 1) Try.underlying27 (by kernel_rfl) (by decide) (op_int Try.underlying3)) h0 rfl
  rw [Try.params9] at hsz
  have hreach0 := arg_reach (j := 0) (k := 8) Try.underlying27 (by kernel_rfl) h0 hsz rfl rfl
  clear hA0 hval0
  obtain ⟨L, rfl, hL⟩ := rd_ints s0
  have hln := len_of y0
  have hlaw := law_sbounds L L.length rfl (by have := hreach0; omega)
  refine (hlaw.bool (w := W) ⟨_, _, rfl, y0, rfl⟩).mono fun e W' ⟨he, bel⟩ => ?_
  subst he
  exact ⟨_, rfl, _, _, _, [], _, [], hW', trodAll_mk1 (shut_bool Try.underlying4 _), (trodAll_cons_mk (Below.trod laidOut (by kernel_rfl) (of_decide_eq_true (by kernel_rfl)) k0 bel lt0) trodAll_mk0), rfl, bel.frame _, fun h => by cases h⟩

theorem over : Rows.sketchBoundsRow.holds Try.pinned (OpenSpec.ofChange Rows.sketchBoundsSpec) :=
  OpenClaim.holds_of_wide 9 Try.f9 rfl rfl rfl rfl rfl rfl rfl ⟨rfl, rfl, rfl, rfl, rfl⟩ rfl rfl rfl rfl rfl (by kernel_rfl) Try.func9 joined
    (of_decide_eq_true (by kernel_rfl)) (by unfold Func.isWrapper; first | (rw [if_pos (by decide +kernel)]; kernel_rfl) | (rw [if_neg (by decide +kernel)]; exact ⟨rfl, rfl⟩))
    (fun os started H enc _ => lifted os started H enc)

theorem proved : Rows.SketchBoundsSaid := over
#print axioms proved
end Go.Proofs.Ytccnhpaldmjkbaa.sketchBounds
