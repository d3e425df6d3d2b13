/-
  The law erasurelaw12.SketchValid returns true for every input, and each argument reads afterwards as it read before. No further condition.
-/
import Derived.Test.YtccnhpaldmjkbaaGreatRows
import Derived.WalkKit
import Derived.ProofKit
import Derived.OpenShut
import Derived.ShutString
import Derived.ChangeOld
import Derived.Below
import Derived.Test.YtccnhpaldmjkbaaGreatM1
import Derived.Test.YtccnhpaldmjkbaaGreatM2
import Derived.Test.YtccnhpaldmjkbaaGreatM3
import Derived.Test.YtccnhpaldmjkbaaGreatM4
import Derived.Test.YtccnhpaldmjkbaaGreatM5
import Derived.Test.YtccnhpaldmjkbaaGreatM6
import Derived.Test.YtccnhpaldmjkbaaGreatM7
import Derived.Test.YtccnhpaldmjkbaaGreatM8
import Derived.Test.YtccnhpaldmjkbaaGreatM9
import Derived.Test.YtccnhpaldmjkbaaGreatM10
import Derived.Test.YtccnhpaldmjkbaaGreatM11
import Derived.Test.YtccnhpaldmjkbaaGreatM12
import Derived.Test.YtccnhpaldmjkbaaGreatM13
import Derived.Test.YtccnhpaldmjkbaaGreatM14
import Derived.Test.YtccnhpaldmjkbaaGreatM15
import Derived.Test.YtccnhpaldmjkbaaGreatM16
import Derived.Test.YtccnhpaldmjkbaaGreatM17
import Derived.Test.YtccnhpaldmjkbaaGreatM18
namespace Go.Proofs.YtccnhpaldmjkbaaGreat.sketchValid
open Go.ChangeShapes Go.WideShapes Go.ChangeAt Go.RowKit Go.Av
set_option linter.unusedVariables false

theorem own : ownKnob Tryz.prog.godebug = none := by kernel_rfl
theorem laidOut : laidOutB Tryz.prog = true := j_laid
theorem k0 : (Rows.sketchValidRow.wf (OpenSpec.ofChange Rows.sketchValidSpec)) = true := by kernel_rfl
theorem k1 : (laidOutB Tryz.prog) = true := j_laid
theorem k2 : (mapsRowed Tryz.prog) = true := j_maps
theorem k3 : (Tryz.f4.params.all (Tryz.prog.readableRec ·)) = true := by kernel_rfl
theorem k4 : (namedTie Tryz.prog Rows.sketchValidRow.named Rows.sketchValidSpec.vars) = true := by kernel_rfl
theorem k5 : ((Rows.sketchValidRow.stops == [])) = true := by kernel_rfl
theorem k6 : ((Tryz.prog.stops == [])) = true := by kernel_rfl
theorem k7 : ((Rows.sketchValidRow.knobs == [])) = true := by kernel_rfl
theorem k8 : ((Tryz.prog.stopKnobs == [])) = true := by kernel_rfl
theorem k9 : ((Rows.sketchValidRow.inPlace == Tryz.prog.inPlace 4)) = true := by kernel_rfl
theorem k10 : ((Rows.sketchValidRow.unfollowed == Tryz.prog.unfollowed 4)) = true := by kernel_rfl
theorem k11 : ((Rows.sketchValidRow.recurses == Tryz.prog.recurses 4)) = true := by kernel_rfl
theorem k12 : ((Rows.sketchValidRow.named == Tryz.prog.varsNamed 4)) = true := by kernel_rfl
theorem k13 : ((Rows.sketchValidRow.maps == (Tryz.f4.params.toList ++ Rows.sketchValidSpec.plain.varTypes Tryz.prog).any (Tryz.prog.mapsRec ·))) = true := by kernel_rfl
theorem k14 : ((Rows.sketchValidRow.ifaces == (Tryz.f4.params.toList ++ Rows.sketchValidSpec.plain.varTypes Tryz.prog).any (Tryz.prog.ifacesRec ·))) = true := by kernel_rfl
theorem k15 : ((Rows.sketchValidRow.mapsOut == Tryz.prog.mapsAmong Tryz.f4.resultTypes.toList)) = true := by kernel_rfl
theorem k16 : ((Rows.sketchValidRow.loops == (Tryz.f4.params.toList ++ Rows.sketchValidSpec.plain.varTypes Tryz.prog).any (Tryz.prog.loopsFrom ·))) = true := by kernel_rfl
theorem k17 : ((Rows.sketchValidRow.wideKeys == (Tryz.f4.params.toList ++ Rows.sketchValidSpec.plain.varTypes Tryz.prog ++ Tryz.f4.resultTypes.toList).any (Tryz.prog.wideKeysFrom ·))) = true := by kernel_rfl
theorem k18 : (Rows.sketchValidSpec.vars.all (Tryz.prog.varReadable ·)) = true := by kernel_rfl
theorem k19 : (Tryz.f4.resultTypes.all (fun t => Tryz.prog.readableRec t && decide (t < Tryz.prog.types.size))) = true := by kernel_rfl
theorem k20 : ((Rows.sketchValidRow.ifacesOut == Tryz.f4.resultTypes.toList.any (Tryz.prog.ifacesRec ·))) = true := by kernel_rfl
theorem k21 : ((Rows.sketchValidRow.loopsOut == Tryz.f4.resultTypes.toList.any (Tryz.prog.loopsFrom ·))) = true := by kernel_rfl
theorem k22 : ((Rows.sketchValidRow.plainKeys == Tryz.prog.plainKeys)) = true := by kernel_rfl
theorem k23 : (Rows.sketchValidRow.shortTexts.isNone) = true := by kernel_rfl
theorem k24 : (Tryz.prog.stopsHeard) = true := by kernel_rfl
theorem k25 : (Tryz.prog.mayEnter) = true := j_enter
theorem k26 : ((Rows.sketchValidRow.lifted == Tryz.prog.liftsFinal)) = true := by rw [j_final]; kernel_rfl
theorem k27 : ((Tryz.prog.make == some Rows.sketchValidRow.make)) = true := by rw [j_make]; kernel_rfl
theorem k28 : ((Rows.sketchValidRow.kinds == (if Rows.sketchValidRow.domain.isEmpty then [] else Tryz.f4.params.toList.map fun t => match Tryz.prog.underlying t with | some (.int k) => some k | _ => none))) = true := by kernel_rfl
theorem k29 : ((Rows.sketchValidRow.pinned == Rows.sketchValidRow.pinnedBy)) = true := by kernel_rfl
theorem k30 : ((Rows.sketchValidRow.veiled == (Tryz.f4.params.toList ++ Rows.sketchValidSpec.plain.varTypes Tryz.prog ++ Tryz.f4.resultTypes.toList).any (Tryz.prog.veiledRec ·))) = true := by kernel_rfl
theorem k31 : (Rows.sketchValidRow.veiledFits Tryz.prog Tryz.f4.params.toList (Tryz.f4.params.toList ++ Rows.sketchValidSpec.plain.varTypes Tryz.prog ++ Tryz.f4.resultTypes.toList)) = true := by kernel_rfl
set_option maxRecDepth 100000 in
theorem joined : joinedFacts Tryz.prog 4 Tryz.f4 Rows.sketchValidSpec Rows.sketchValidRow = true := by
  unfold joinedFacts
  exact (j_and (j_and (j_and (j_and (j_and (j_and (j_and (j_and (j_and (j_and (j_and (j_and (j_and (j_and (j_and (j_and (j_and (j_and (j_and (j_and (j_and (j_and (j_and (j_and (j_and (j_and (j_and (j_and (j_and (j_and (j_and k0 k1) k2) k3) k4) k5) k6) k7) k8) k9) k10) k11) k12) k13) k14) k15) k16) k17) k18) k19) k20) k21) k22) k23) k24) k25) k26) k27) k28) k29) k30) k31)

set_option maxRecDepth 100000 in
theorem lifted (os : Os) (started : os.Started) (H : Type) (enc : TypeId × Value → H) :
    ReturnsInHanded {} Tryz.checked os 4 .any (Rows.sketchValidSpec.pre6 enc Tryz.prog Tryz.f4 Rows.sketchValidRow.domain false) (Rows.sketchValidSpec.post enc Tryz.prog Tryz.f4 false true false false) := by
  refine returnsInHanded_of_change_sized (C := Tryz.checked) own started (by kernel_rfl) Tryz.func4
    (ChangeSpec.witness6 (enc := enc) (C := Tryz.checked) false ⟨#[], #[.slice none 0 0, .agg #[.string ⟨#[]⟩, .string ⟨#[]⟩, .int .i64 0, .int .i64 0, .int .i64 0, .int .i64 0], .slice none 0 0], []⟩ 8 (by kernel_rfl) (by kernel_rfl) (by kernel_rfl) (by kernel_rfl)) ?_
  intro W base args ds gs before hval0 hW hcnd hsz _
  have hval : ∀ (j : Nat) t v, Tryz.f4.params[j]? = some t → args[j]? = some v → Value.okWide Tryz.prog W .any base t v := hval0
  have hW' := hW
  obtain ⟨p, q, hA0, hV, rfl, hfz, hnd⟩ := hW
  have hA : DataW.TrodAll enc Tryz.prog W 0 (fun _ => true) true Tryz.f4.params.toList args.toList ds p := hA0
  rw [Tryz.params4] at hA hval
  obtain ⟨v0, vs0, d0, ds0, p0, q0, hargs, rfl, rfl, h0, r0⟩ := trodAll_cons hA
  obtain ⟨v1, vs1, d1, ds1, p1, q1, rfl, rfl, rfl, h1, r1⟩ := trodAll_cons r0
  obtain ⟨v2, vs2, d2, ds2, p2, q2, rfl, rfl, rfl, h2, r2⟩ := trodAll_cons r1
  obtain ⟨rfl, rfl, rfl⟩ := trodAll_nil r2
  obtain rfl : args = #[v0, v1, v2] := by cases args; simp_all
  obtain ⟨rfl, rfl⟩ := trodVars_none hV
  have k0 := h0
  have lt0 : ∀ x ∈ p0, x.block < W.heap.size := by obtain ⟨m, hm⟩ := k0; exact DataW.trod_lt m _ _ _ hm
  obtain ⟨a0, len0, cap0, rfl⟩ := okWide_slice Tryz.underlying22 (hval 0 22 v0 rfl rfl)
  obtain ⟨x0, y0, s0⟩ := arg_one (op_slice (s := 1) Tryz.underlying22 (by kernel_rfl) (by decide) (op_int Tryz.underlying3)) h0 rfl
  have k1 := h1
  have lt1 : ∀ x ∈ p1, x.block < W.heap.size := by obtain ⟨m, hm⟩ := k1; exact DataW.trod_lt m _ _ _ hm
  obtain ⟨c1, rfl⟩ : ∃ c, v1 = .agg c := by
    have := hval 1 39 v1 rfl rfl
    simp only [Value.okWide, Tryz.underlying39] at this
    obtain ⟨c, hc, _⟩ := this
    exact ⟨c, hc⟩
  obtain ⟨x1, y1, s1⟩ := arg_agg (op_struct Tryz.underlying39 (by kernel_rfl) (opf_cons (s := 1) rfl (by kernel_rfl) (op_str Tryz.underlying9) (opf_cons (s := 1) rfl (by kernel_rfl) (op_str Tryz.underlying9) (opf_cons (s := 1) rfl (by kernel_rfl) (op_int Tryz.underlying3) (opf_cons (s := 1) rfl (by kernel_rfl) (op_int Tryz.underlying3) (opf_cons (s := 1) rfl (by kernel_rfl) (op_int Tryz.underlying3) (opf_cons (s := 1) rfl (by kernel_rfl) (op_int Tryz.underlying3) opf_nil))))))) h1
  have k2 := h2
  have lt2 : ∀ x ∈ p2, x.block < W.heap.size := by obtain ⟨m, hm⟩ := k2; exact DataW.trod_lt m _ _ _ hm
  obtain ⟨a2, len2, cap2, rfl⟩ := okWide_slice Tryz.underlying40 (hval 2 40 v2 rfl rfl)
  obtain ⟨x2, y2, s2⟩ := arg_one (op_slice (s := 1) Tryz.underlying40 (by kernel_rfl) (by decide) (op_int Tryz.underlying2)) h2 rfl
  rw [Tryz.params4] at hsz
  have hreach0 := arg_reach (j := 0) (k := 8) Tryz.underlying22 (by kernel_rfl) h0 hsz rfl rfl
  have hreach2 := arg_reach (j := 2) (k := 8) Tryz.underlying40 (by kernel_rfl) h2 hsz rfl rfl
  clear hA0 hval0
  obtain ⟨L, rfl, hL⟩ := rd_ints s0
  have hln := len_of y0
  obtain ⟨A0, B0, rfl, ⟨t0, rfl, _⟩, A1, B1, rfl, ⟨t1, rfl, _⟩, A2, B2, rfl, ⟨sc, rfl, _⟩, A3, B3, rfl, ⟨sk, rfl, _⟩, A4, B4, rfl, ⟨sw, rfl, _⟩, A5, B5, rfl, ⟨sd, rfl, _⟩, rfl⟩ := s1
  obtain ⟨nm, rfl⟩ : ∃ t : List UInt8, t0 = ⟨t.toArray⟩ := ⟨t0.data.toList, by cases t0; simp⟩
  obtain ⟨sr, rfl⟩ : ∃ t : List UInt8, t1 = ⟨t.toArray⟩ := ⟨t1.data.toList, by cases t1; simp⟩
  obtain ⟨L2, rfl, hL2⟩ := rd_ints s2
  have hlaw := law_svalid L L.length rfl (by have := hreach0; omega) ⟨nm, sr, sc, sk, sw, sd⟩ L2 L2.length rfl hL2
  refine (hlaw.bool (w := W) ⟨_, _, rfl, y0, ⟨_, _, rfl, y1, ⟨_, _, rfl, y2, rfl⟩⟩⟩).mono fun e W' ⟨he, bel⟩ => ?_
  subst he
  exact ⟨_, rfl, _, _, _, [], _, [], hW', trodAll_mk1 (shut_bool Tryz.underlying4 _), (trodAll_cons_mk (Below.trod laidOut (by kernel_rfl) (of_decide_eq_true (by kernel_rfl)) k0 bel lt0) (trodAll_cons_mk (Below.trod laidOut (by kernel_rfl) (of_decide_eq_true (by kernel_rfl)) k1 bel lt1) (trodAll_cons_mk (Below.trod laidOut (by kernel_rfl) (of_decide_eq_true (by kernel_rfl)) k2 bel lt2) trodAll_mk0))), rfl, bel.frame _, fun h => by cases h⟩

theorem over : Rows.sketchValidRow.holds Tryz.pinned (OpenSpec.ofChange Rows.sketchValidSpec) :=
  OpenClaim.holds_of_wide 4 Tryz.f4 rfl rfl rfl rfl rfl rfl rfl ⟨rfl, rfl, rfl, rfl, rfl⟩ rfl rfl rfl rfl rfl (by kernel_rfl) Tryz.func4 joined
    (of_decide_eq_true (by kernel_rfl)) (by unfold Func.isWrapper; first | (rw [if_pos (by decide +kernel)]; kernel_rfl) | (rw [if_neg (by decide +kernel)]; exact ⟨rfl, rfl⟩))
    (fun os started H enc _ => lifted os started H enc)

theorem proved : Rows.SketchValidSaid := over
#print axioms proved
end Go.Proofs.YtccnhpaldmjkbaaGreat.sketchValid
