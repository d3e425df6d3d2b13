/-
  The law erasurelaw12.SketchHash returns true for every input, and each argument reads afterwards as it read before. No further condition.
-/
import Derived.Test.YtccnhpaldmjkbaaRows
import Derived.WalkKit
import Derived.ProofKit
import Derived.OpenShut
import Derived.ShutString
import Derived.ChangeOld
import Derived.Below
import Derived.Test.YtccnhpaldmjkbaaM1
import Derived.Test.YtccnhpaldmjkbaaM2
import Derived.Test.YtccnhpaldmjkbaaM3
import Derived.Test.YtccnhpaldmjkbaaM4
import Derived.Test.YtccnhpaldmjkbaaM5
import Derived.Test.YtccnhpaldmjkbaaM6
import Derived.Test.YtccnhpaldmjkbaaM7
import Derived.Test.YtccnhpaldmjkbaaM8
namespace Go.Proofs.Ytccnhpaldmjkbaa.sketchHash
open Go.ChangeShapes Go.WideShapes Go.ChangeAt Go.RowKit Go.Av
set_option linter.unusedVariables false

theorem own : ownKnob Try.prog.godebug = none := by kernel_rfl
theorem laidOut : laidOutB Try.prog = true := j_laid
theorem k0 : (Rows.sketchHashRow.wf (OpenSpec.ofChange Rows.sketchHashSpec)) = true := by kernel_rfl
theorem k1 : (laidOutB Try.prog) = true := j_laid
theorem k2 : (mapsRowed Try.prog) = true := j_maps
theorem k3 : (Try.f7.params.all (Try.prog.readableRec ·)) = true := by kernel_rfl
theorem k4 : (namedTie Try.prog Rows.sketchHashRow.named Rows.sketchHashSpec.vars) = true := by kernel_rfl
theorem k5 : ((Rows.sketchHashRow.stops == [])) = true := by kernel_rfl
theorem k6 : ((Try.prog.stops == [])) = true := by kernel_rfl
theorem k7 : ((Rows.sketchHashRow.knobs == [])) = true := by kernel_rfl
theorem k8 : ((Try.prog.stopKnobs == [])) = true := by kernel_rfl
theorem k9 : ((Rows.sketchHashRow.inPlace == Try.prog.inPlace 7)) = true := by kernel_rfl
theorem k10 : ((Rows.sketchHashRow.unfollowed == Try.prog.unfollowed 7)) = true := by kernel_rfl
theorem k11 : ((Rows.sketchHashRow.recurses == Try.prog.recurses 7)) = true := by kernel_rfl
theorem k12 : ((Rows.sketchHashRow.named == Try.prog.varsNamed 7)) = true := by kernel_rfl
theorem k13 : ((Rows.sketchHashRow.maps == (Try.f7.params.toList ++ Rows.sketchHashSpec.plain.varTypes Try.prog).any (Try.prog.mapsRec ·))) = true := by kernel_rfl
theorem k14 : ((Rows.sketchHashRow.ifaces == (Try.f7.params.toList ++ Rows.sketchHashSpec.plain.varTypes Try.prog).any (Try.prog.ifacesRec ·))) = true := by kernel_rfl
theorem k15 : ((Rows.sketchHashRow.mapsOut == Try.prog.mapsAmong Try.f7.resultTypes.toList)) = true := by kernel_rfl
theorem k16 : ((Rows.sketchHashRow.loops == (Try.f7.params.toList ++ Rows.sketchHashSpec.plain.varTypes Try.prog).any (Try.prog.loopsFrom ·))) = true := by kernel_rfl
theorem k17 : ((Rows.sketchHashRow.wideKeys == (Try.f7.params.toList ++ Rows.sketchHashSpec.plain.varTypes Try.prog ++ Try.f7.resultTypes.toList).any (Try.prog.wideKeysFrom ·))) = true := by kernel_rfl
theorem k18 : (Rows.sketchHashSpec.vars.all (Try.prog.varReadable ·)) = true := by kernel_rfl
theorem k19 : (Try.f7.resultTypes.all (fun t => Try.prog.readableRec t && decide (t < Try.prog.types.size))) = true := by kernel_rfl
theorem k20 : ((Rows.sketchHashRow.ifacesOut == Try.f7.resultTypes.toList.any (Try.prog.ifacesRec ·))) = true := by kernel_rfl
theorem k21 : ((Rows.sketchHashRow.loopsOut == Try.f7.resultTypes.toList.any (Try.prog.loopsFrom ·))) = true := by kernel_rfl
theorem k22 : ((Rows.sketchHashRow.plainKeys == Try.prog.plainKeys)) = true := by kernel_rfl
theorem k23 : (Rows.sketchHashRow.shortTexts.isNone) = true := by kernel_rfl
theorem k24 : (Try.prog.stopsHeard) = true := by kernel_rfl
theorem k25 : (Try.prog.mayEnter) = true := j_enter
theorem k26 : ((Rows.sketchHashRow.lifted == Try.prog.liftsFinal)) = true := by rw [j_final]; kernel_rfl
theorem k27 : ((Try.prog.make == some Rows.sketchHashRow.make)) = true := by rw [j_make]; kernel_rfl
theorem k28 : ((Rows.sketchHashRow.kinds == (if Rows.sketchHashRow.domain.isEmpty then [] else Try.f7.params.toList.map fun t => match Try.prog.underlying t with | some (.int k) => some k | _ => none))) = true := by kernel_rfl
theorem k29 : ((Rows.sketchHashRow.pinned == Rows.sketchHashRow.pinnedBy)) = true := by kernel_rfl
theorem k30 : ((Rows.sketchHashRow.veiled == (Try.f7.params.toList ++ Rows.sketchHashSpec.plain.varTypes Try.prog ++ Try.f7.resultTypes.toList).any (Try.prog.veiledRec ·))) = true := by kernel_rfl
theorem k31 : (Rows.sketchHashRow.veiledFits Try.prog Try.f7.params.toList (Try.f7.params.toList ++ Rows.sketchHashSpec.plain.varTypes Try.prog ++ Try.f7.resultTypes.toList)) = true := by kernel_rfl
set_option maxRecDepth 100000 in
theorem joined : joinedFacts Try.prog 7 Try.f7 Rows.sketchHashSpec Rows.sketchHashRow = true := by
  unfold joinedFacts
  exact (j_and (j_and (j_and (j_and (j_and (j_and (j_and (j_and (j_and (j_and (j_and (j_and (j_and (j_and (j_and (j_and (j_and (j_and (j_and (j_and (j_and (j_and (j_and (j_and (j_and (j_and (j_and (j_and (j_and (j_and (j_and k0 k1) k2) k3) k4) k5) k6) k7) k8) k9) k10) k11) k12) k13) k14) k15) k16) k17) k18) k19) k20) k21) k22) k23) k24) k25) k26) k27) k28) k29) k30) k31)

set_option maxRecDepth 100000 in
theorem lifted (os : Os) (started : os.Started) (H : Type) (enc : TypeId × Value → H) :
    ReturnsInHanded {} Try.checked os 7 .any (Rows.sketchHashSpec.pre6 enc Try.prog Try.f7 Rows.sketchHashRow.domain false) (Rows.sketchHashSpec.post enc Try.prog Try.f7 false true false false) := by
  refine returnsInHanded_of_change (C := Try.checked) own started (by kernel_rfl) Try.func7
    (ChangeSpec.witness6 (enc := enc) (C := Try.checked) false ⟨#[], #[.agg #[.int .i64 0, .int .i64 0, .string ⟨#[]⟩], .int .i64 0], []⟩ 8 (by kernel_rfl) (by kernel_rfl) (by kernel_rfl) (by kernel_rfl)) ?_
  intro W base args ds gs before hval0 hW hcnd _
  have hval : ∀ (j : Nat) t v, Try.f7.params[j]? = some t → args[j]? = some v → Value.okWide Try.prog W .any base t v := hval0
  have hW' := hW
  obtain ⟨p, q, hA0, hV, rfl, hfz, hnd⟩ := hW
  have hA : DataW.TrodAll enc Try.prog W 0 (fun _ => true) true Try.f7.params.toList args.toList ds p := hA0
  rw [Try.params7] at hA hval
  obtain ⟨v0, vs0, d0, ds0, p0, q0, hargs, rfl, rfl, h0, r0⟩ := trodAll_cons hA
  obtain ⟨v1, vs1, d1, ds1, p1, q1, rfl, rfl, rfl, h1, r1⟩ := trodAll_cons r0
  obtain ⟨rfl, rfl, rfl⟩ := trodAll_nil r1
  obtain rfl : args = #[v0, v1] := by cases args; simp_all
  obtain ⟨rfl, rfl⟩ := trodVars_none hV
  have k0 := h0
  have lt0 : ∀ x ∈ p0, x.block < W.heap.size := by obtain ⟨m, hm⟩ := k0; exact DataW.trod_lt m _ _ _ hm
  obtain ⟨c0, rfl⟩ : ∃ c, v0 = .agg c := by
    have := hval 0 43 v0 rfl rfl
    simp only [Value.okWide, Try.underlying43] at this
    obtain ⟨c, hc, _⟩ := this
    exact ⟨c, hc⟩
  obtain ⟨x0, y0, s0⟩ := arg_agg (op_struct Try.underlying43 (by kernel_rfl) (opf_cons (s := 1) rfl (by kernel_rfl) (op_int Try.underlying3) (opf_cons (s := 1) rfl (by kernel_rfl) (op_int Try.underlying2) (opf_cons (s := 1) rfl (by kernel_rfl) (op_str Try.underlying9) opf_nil)))) h0
  have k1 := h1
  have lt1 : ∀ x ∈ p1, x.block < W.heap.size := by obtain ⟨m, hm⟩ := k1; exact DataW.trod_lt m _ _ _ hm
  obtain ⟨a1, rfl⟩ := okWide_int Try.underlying3 (hval 1 3 v1 rfl rfl)
  obtain ⟨x1, y1, s1⟩ := arg_one (op_int Try.underlying3) h1 rfl
  clear hA0 hval0
  obtain ⟨A0, B0, rfl, ⟨k, rfl, _⟩, A1, B1, rfl, ⟨m, rfl, _⟩, A2, B2, rfl, ⟨str, rfl, _⟩, rfl⟩ := s0
  obtain ⟨t, rfl⟩ : ∃ t : List UInt8, str = ⟨t.toArray⟩ := ⟨str.data.toList, by cases str; simp⟩
  obtain ⟨row, e1, _⟩ := s1
  injection e1 with e1 _
  subst e1
  have hlaw := law_shash ⟨k, m, t⟩ row
  refine (hlaw.bool (w := W) ⟨_, _, rfl, y0, ⟨_, _, rfl, y1, rfl⟩⟩).mono fun e W' ⟨he, bel⟩ => ?_
  subst he
  exact ⟨_, rfl, _, _, _, [], _, [], hW', trodAll_mk1 (shut_bool Try.underlying4 _), (trodAll_cons_mk (Below.trod laidOut (by kernel_rfl) (of_decide_eq_true (by kernel_rfl)) k0 bel lt0) (trodAll_cons_mk (Below.trod laidOut (by kernel_rfl) (of_decide_eq_true (by kernel_rfl)) k1 bel lt1) trodAll_mk0)), rfl, bel.frame _, fun h => by cases h⟩

theorem over : Rows.sketchHashRow.holds Try.pinned (OpenSpec.ofChange Rows.sketchHashSpec) :=
  OpenClaim.holds_of_wide 7 Try.f7 rfl rfl rfl rfl rfl rfl rfl ⟨rfl, rfl, rfl, rfl, rfl⟩ rfl rfl rfl rfl rfl (by kernel_rfl) Try.func7 joined
    (of_decide_eq_true (by kernel_rfl)) (by unfold Func.isWrapper; first | (rw [if_pos (by decide +kernel)]; kernel_rfl) | (rw [if_neg (by decide +kernel)]; exact ⟨rfl, rfl⟩))
    (fun os started H enc _ => lifted os started H enc)

theorem proved : Rows.SketchHashSaid := over
#print axioms proved
end Go.Proofs.Ytccnhpaldmjkbaa.sketchHash
