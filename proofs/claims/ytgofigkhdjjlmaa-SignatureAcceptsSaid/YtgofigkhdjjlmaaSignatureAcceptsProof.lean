/-
  The law erasurelaw39.SignatureAccepts returns true for every input, and each argument reads afterwards as it read before. No further condition.
-/
import Derived.Test.YtgofigkhdjjlmaaRows
import Derived.WalkKit
import Derived.ProofKit
import Derived.OpenShut
import Derived.ShutString
import Derived.ChangeOld
import Derived.Below
import Derived.Test.YtgofigkhdjjlmaaM1
import Derived.Test.YtgofigkhdjjlmaaM2
import Derived.Test.YtgofigkhdjjlmaaM3
import Derived.Test.YtgofigkhdjjlmaaM4
import Derived.Test.YtgofigkhdjjlmaaM5
import Derived.Test.YtgofigkhdjjlmaaM6
import Derived.Test.YtgofigkhdjjlmaaM7
import Derived.Test.YtgofigkhdjjlmaaM9
import Derived.Test.YtgofigkhdjjlmaaM10
import Derived.Test.YtgofigkhdjjlmaaM12
import Derived.Test.YtgofigkhdjjlmaaM13
import Derived.Test.YtgofigkhdjjlmaaM14
import Derived.Test.YtgofigkhdjjlmaaM15
namespace Go.Proofs.Ytgofigkhdjjlmaa.signatureAccepts
open Go.ChangeShapes Go.WideShapes Go.ChangeAt Go.RowKit Go.Av
set_option linter.unusedVariables false

theorem own : ownKnob Try.prog.godebug = none := by kernel_rfl
theorem laidOut : laidOutB Try.prog = true := j_laid
theorem k0 : (Rows.signatureAcceptsRow.wf (OpenSpec.ofChange Rows.signatureAcceptsSpec)) = true := by kernel_rfl
theorem k1 : (laidOutB Try.prog) = true := j_laid
theorem k2 : (mapsRowed Try.prog) = true := j_maps
theorem k3 : (Try.f25.params.all (Try.prog.readableRec ·)) = true := by kernel_rfl
theorem k4 : (namedTie Try.prog Rows.signatureAcceptsRow.named Rows.signatureAcceptsSpec.vars) = true := by kernel_rfl
theorem k5 : ((Rows.signatureAcceptsRow.stops == [])) = true := by kernel_rfl
theorem k6 : ((Try.prog.stops == [])) = true := by kernel_rfl
theorem k7 : ((Rows.signatureAcceptsRow.knobs == [])) = true := by kernel_rfl
theorem k8 : ((Try.prog.stopKnobs == [])) = true := by kernel_rfl
theorem k9 : ((Rows.signatureAcceptsRow.inPlace == Try.prog.inPlace 25)) = true := by kernel_rfl
theorem k10 : ((Rows.signatureAcceptsRow.unfollowed == Try.prog.unfollowed 25)) = true := by kernel_rfl
theorem k11 : ((Rows.signatureAcceptsRow.recurses == Try.prog.recurses 25)) = true := by kernel_rfl
theorem k12 : ((Rows.signatureAcceptsRow.named == Try.prog.varsNamed 25)) = true := by kernel_rfl
theorem k13 : ((Rows.signatureAcceptsRow.maps == (Try.f25.params.toList ++ Rows.signatureAcceptsSpec.plain.varTypes Try.prog).any (Try.prog.mapsRec ·))) = true := by kernel_rfl
theorem k14 : ((Rows.signatureAcceptsRow.ifaces == (Try.f25.params.toList ++ Rows.signatureAcceptsSpec.plain.varTypes Try.prog).any (Try.prog.ifacesRec ·))) = true := by kernel_rfl
theorem k15 : ((Rows.signatureAcceptsRow.mapsOut == Try.prog.mapsAmong Try.f25.resultTypes.toList)) = true := by kernel_rfl
theorem k16 : ((Rows.signatureAcceptsRow.loops == (Try.f25.params.toList ++ Rows.signatureAcceptsSpec.plain.varTypes Try.prog).any (Try.prog.loopsFrom ·))) = true := by kernel_rfl
theorem k17 : ((Rows.signatureAcceptsRow.wideKeys == (Try.f25.params.toList ++ Rows.signatureAcceptsSpec.plain.varTypes Try.prog ++ Try.f25.resultTypes.toList).any (Try.prog.wideKeysFrom ·))) = true := by kernel_rfl
theorem k18 : (Rows.signatureAcceptsSpec.vars.all (Try.prog.varReadable ·)) = true := by kernel_rfl
theorem k19 : (Try.f25.resultTypes.all (fun t => Try.prog.readableRec t && decide (t < Try.prog.types.size))) = true := by kernel_rfl
theorem k20 : ((Rows.signatureAcceptsRow.ifacesOut == Try.f25.resultTypes.toList.any (Try.prog.ifacesRec ·))) = true := by kernel_rfl
theorem k21 : ((Rows.signatureAcceptsRow.loopsOut == Try.f25.resultTypes.toList.any (Try.prog.loopsFrom ·))) = true := by kernel_rfl
theorem k22 : ((Rows.signatureAcceptsRow.plainKeys == Try.prog.plainKeys)) = true := by kernel_rfl
theorem k23 : (Rows.signatureAcceptsRow.shortTexts.isNone) = true := by kernel_rfl
theorem k24 : (Try.prog.stopsHeard) = true := by kernel_rfl
theorem k25 : (Try.prog.mayEnter) = true := j_enter
theorem k26 : ((Rows.signatureAcceptsRow.lifted == Try.prog.liftsFinal)) = true := by rw [j_final]; kernel_rfl
theorem k27 : ((Try.prog.make == some Rows.signatureAcceptsRow.make)) = true := by rw [j_make]; kernel_rfl
theorem k28 : ((Rows.signatureAcceptsRow.kinds == (if Rows.signatureAcceptsRow.domain.isEmpty then [] else Try.f25.params.toList.map fun t => match Try.prog.underlying t with | some (.int k) => some k | _ => none))) = true := by kernel_rfl
theorem k29 : ((Rows.signatureAcceptsRow.pinned == Rows.signatureAcceptsRow.pinnedBy)) = true := by kernel_rfl
theorem k30 : ((Rows.signatureAcceptsRow.veiled == (Try.f25.params.toList ++ Rows.signatureAcceptsSpec.plain.varTypes Try.prog ++ Try.f25.resultTypes.toList).any (Try.prog.veiledRec ·))) = true := by kernel_rfl
theorem k31 : (Rows.signatureAcceptsRow.veiledFits Try.prog Try.f25.params.toList (Try.f25.params.toList ++ Rows.signatureAcceptsSpec.plain.varTypes Try.prog ++ Try.f25.resultTypes.toList)) = true := by kernel_rfl
set_option maxRecDepth 100000 in
theorem joined : joinedFacts Try.prog 25 Try.f25 Rows.signatureAcceptsSpec Rows.signatureAcceptsRow = true := by
  unfold joinedFacts
  exact (j_and (j_and (j_and (j_and (j_and (j_and (j_and (j_and (j_and (j_and (j_and (j_and (j_and (j_and (j_and (j_and (j_and (j_and (j_and (j_and (j_and (j_and (j_and (j_and (j_and (j_and (j_and (j_and (j_and (j_and (j_and k0 k1) k2) k3) k4) k5) k6) k7) k8) k9) k10) k11) k12) k13) k14) k15) k16) k17) k18) k19) k20) k21) k22) k23) k24) k25) k26) k27) k28) k29) k30) k31)

set_option maxRecDepth 100000 in
theorem lifted (os : Os) (started : os.Started) (H : Type) (enc : TypeId × Value → H) :
    ReturnsInHanded {} Try.checked os 25 .any (Rows.signatureAcceptsSpec.pre6 enc Try.prog Try.f25 Rows.signatureAcceptsRow.domain false) (Rows.signatureAcceptsSpec.post enc Try.prog Try.f25 false true false false) := by
  refine returnsInHanded_of_change (C := Try.checked) own started (by kernel_rfl) Try.func25
    (ChangeSpec.witness6 (enc := enc) (C := Try.checked) false ⟨#[], #[.agg #[.int .u8 0, .int .u8 0, .int .u8 0, .int .u8 0, .int .u8 0, .int .u8 0, .int .u8 0, .int .u8 0, .int .u8 0, .int .u8 0, .int .u8 0, .int .u8 0, .int .u8 0, .int .u8 0, .int .u8 0, .int .u8 0, .int .u8 0, .int .u8 0, .int .u8 0, .int .u8 0, .int .u8 0, .int .u8 0, .int .u8 0, .int .u8 0, .int .u8 0, .int .u8 0, .int .u8 0, .int .u8 0, .int .u8 0, .int .u8 0, .int .u8 0, .int .u8 0], .int .i64 0, .slice none 0 0], []⟩ 8 (by kernel_rfl) (by kernel_rfl) (by kernel_rfl) (by kernel_rfl)) ?_
  intro W base args ds gs before hval0 hW hcnd _
  have hval : ∀ (j : Nat) t v, Try.f25.params[j]? = some t → args[j]? = some v → Value.okWide Try.prog W .any base t v := hval0
  have hW' := hW
  obtain ⟨p, q, hA0, hV, rfl, hfz, hnd⟩ := hW
  have hA : DataW.TrodAll enc Try.prog W 0 (fun _ => true) true Try.f25.params.toList args.toList ds p := hA0
  rw [Try.params25] at hA hval
  obtain ⟨v0, vs0, d0, ds0, p0, q0, hargs, rfl, rfl, h0, r0⟩ := trodAll_cons hA
  obtain ⟨v1, vs1, d1, ds1, p1, q1, rfl, rfl, rfl, h1, r1⟩ := trodAll_cons r0
  obtain ⟨v2, vs2, d2, ds2, p2, q2, rfl, rfl, rfl, h2, r2⟩ := trodAll_cons r1
  obtain ⟨rfl, rfl, rfl⟩ := trodAll_nil r2
  obtain rfl : args = #[v0, v1, v2] := by cases args; simp_all
  obtain ⟨rfl, rfl⟩ := trodVars_none hV
  have k0 := h0
  have lt0 : ∀ x ∈ p0, x.block < W.heap.size := by obtain ⟨m, hm⟩ := k0; exact DataW.trod_lt m _ _ _ hm
  obtain ⟨c0, rfl⟩ : ∃ c, v0 = .agg c := by
    have := hval 0 35 v0 rfl rfl
    simp only [Value.okWide, Try.underlying35] at this
    obtain ⟨c, hc, _⟩ := this
    exact ⟨c, hc⟩
  obtain ⟨x0, y0, s0⟩ := arg_agg (op_arr (s := 1) Try.underlying35 (by kernel_rfl) (by kernel_rfl) (op_int Try.underlying5)) h0
  have k1 := h1
  have lt1 : ∀ x ∈ p1, x.block < W.heap.size := by obtain ⟨m, hm⟩ := k1; exact DataW.trod_lt m _ _ _ hm
  obtain ⟨a1, rfl⟩ := okWide_int Try.underlying3 (hval 1 3 v1 rfl rfl)
  obtain ⟨x1, y1, s1⟩ := arg_one (op_int Try.underlying3) h1 rfl
  have k2 := h2
  have lt2 : ∀ x ∈ p2, x.block < W.heap.size := by obtain ⟨m, hm⟩ := k2; exact DataW.trod_lt m _ _ _ hm
  obtain ⟨a2, len2, cap2, rfl⟩ := okWide_slice Try.underlying22 (hval 2 22 v2 rfl rfl)
  obtain ⟨x2, y2, s2⟩ := arg_one (op_slice (s := 1) Try.underlying22 (by kernel_rfl) (by decide) (op_int Try.underlying5)) h2 rfl
  clear hA0 hval0
  obtain ⟨seed, rfl, hs⟩ := rd_dig s0
  obtain ⟨i, rfl, hi⟩ := rd_int s1
  obtain ⟨msg, rfl, hn⟩ := rd_bytes s2
  have hlaw := law_saccepts seed msg i msg.length hs rfl
  refine (hlaw.bool (w := W) ⟨_, _, rfl, y0, ⟨_, _, rfl, y1, ⟨_, _, rfl, y2, rfl⟩⟩⟩).mono fun e W' ⟨he, bel⟩ => ?_
  subst he
  exact ⟨_, rfl, _, _, _, [], _, [], hW', trodAll_mk1 (shut_bool Try.underlying4 _), (trodAll_cons_mk (Below.trod laidOut (by kernel_rfl) (of_decide_eq_true (by kernel_rfl)) k0 bel lt0) (trodAll_cons_mk (Below.trod laidOut (by kernel_rfl) (of_decide_eq_true (by kernel_rfl)) k1 bel lt1) (trodAll_cons_mk (Below.trod laidOut (by kernel_rfl) (of_decide_eq_true (by kernel_rfl)) k2 bel lt2) trodAll_mk0))), rfl, bel.frame _, fun h => by cases h⟩

theorem over : Rows.signatureAcceptsRow.holds Try.pinned (OpenSpec.ofChange Rows.signatureAcceptsSpec) :=
  OpenClaim.holds_of_wide 25 Try.f25 rfl rfl rfl rfl rfl rfl rfl ⟨rfl, rfl, rfl, rfl, rfl⟩ rfl rfl rfl rfl rfl (by kernel_rfl) Try.func25 joined
    (of_decide_eq_true (by kernel_rfl)) (by unfold Func.isWrapper; first | (rw [if_pos (by decide +kernel)]; kernel_rfl) | (rw [if_neg (by decide +kernel)]; exact ⟨rfl, rfl⟩))
    (fun os started H enc _ => lifted os started H enc)

theorem proved : Rows.SignatureAcceptsSaid := over
#print axioms proved
end Go.Proofs.Ytgofigkhdjjlmaa.signatureAccepts
