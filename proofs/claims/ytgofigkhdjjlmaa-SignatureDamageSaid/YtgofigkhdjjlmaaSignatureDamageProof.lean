/-
  The law erasurelaw39.SignatureDamage returns true for every input, and each argument reads afterwards as it read before. No further condition.
-/
import Derived.Test.YtgofigkhdjjlmaaRows
import Derived.WalkKit
import Derived.ProofKit
import Derived.OpenShut
import Derived.ShutString
import Derived.ChangeOld
import Derived.Below
import Derived.Test.YtgofigkhdjjlmaaM1
import Derived.Test.YtgofigkhdjjlmaaM2
import Derived.Test.YtgofigkhdjjlmaaM3
import Derived.Test.YtgofigkhdjjlmaaM4
import Derived.Test.YtgofigkhdjjlmaaM5
import Derived.Test.YtgofigkhdjjlmaaM6
import Derived.Test.YtgofigkhdjjlmaaM7
import Derived.Test.YtgofigkhdjjlmaaM9
import Derived.Test.YtgofigkhdjjlmaaM10
import Derived.Test.YtgofigkhdjjlmaaM12
import Derived.Test.YtgofigkhdjjlmaaM13
import Derived.Test.YtgofigkhdjjlmaaM14
import Derived.Test.YtgofigkhdjjlmaaM15
import Derived.Test.YtgofigkhdjjlmaaM16
import Derived.Test.YtgofigkhdjjlmaaM17
namespace Go.Proofs.Ytgofigkhdjjlmaa.signatureDamage
open Go.ChangeShapes Go.WideShapes Go.ChangeAt Go.RowKit Go.Av
set_option linter.unusedVariables false

theorem own : ownKnob Try.prog.godebug = none := by kernel_rfl
theorem laidOut : laidOutB Try.prog = true := j_laid
theorem k0 : (Rows.signatureDamageRow.wf (OpenSpec.ofChange Rows.signatureDamageSpec)) = true := by kernel_rfl
theorem k1 : (laidOutB Try.prog) = true := j_laid
theorem k2 : (mapsRowed Try.prog) = true := j_maps
theorem k3 : (Try.f15.params.all (Try.prog.readableRec ·)) = true := by kernel_rfl
theorem k4 : (namedTie Try.prog Rows.signatureDamageRow.named Rows.signatureDamageSpec.vars) = true := by kernel_rfl
theorem k5 : ((Rows.signatureDamageRow.stops == [])) = true := by kernel_rfl
theorem k6 : ((Try.prog.stops == [])) = true := by kernel_rfl
theorem k7 : ((Rows.signatureDamageRow.knobs == [])) = true := by kernel_rfl
theorem k8 : ((Try.prog.stopKnobs == [])) = true := by kernel_rfl
theorem k9 : ((Rows.signatureDamageRow.inPlace == Try.prog.inPlace 15)) = true := by kernel_rfl
theorem k10 : ((Rows.signatureDamageRow.unfollowed == Try.prog.unfollowed 15)) = true := by kernel_rfl
theorem k11 : ((Rows.signatureDamageRow.recurses == Try.prog.recurses 15)) = true := by kernel_rfl
theorem k12 : ((Rows.signatureDamageRow.named == Try.prog.varsNamed 15)) = true := by kernel_rfl
theorem k13 : ((Rows.signatureDamageRow.maps == (Try.f15.params.toList ++ Rows.signatureDamageSpec.plain.varTypes Try.prog).any (Try.prog.mapsRec ·))) = true := by kernel_rfl
theorem k14 : ((Rows.signatureDamageRow.ifaces == (Try.f15.params.toList ++ Rows.signatureDamageSpec.plain.varTypes Try.prog).any (Try.prog.ifacesRec ·))) = true := by kernel_rfl
theorem k15 : ((Rows.signatureDamageRow.mapsOut == Try.prog.mapsAmong Try.f15.resultTypes.toList)) = true := by kernel_rfl
theorem k16 : ((Rows.signatureDamageRow.loops == (Try.f15.params.toList ++ Rows.signatureDamageSpec.plain.varTypes Try.prog).any (Try.prog.loopsFrom ·))) = true := by kernel_rfl
theorem k17 : ((Rows.signatureDamageRow.wideKeys == (Try.f15.params.toList ++ Rows.signatureDamageSpec.plain.varTypes Try.prog ++ Try.f15.resultTypes.toList).any (Try.prog.wideKeysFrom ·))) = true := by kernel_rfl
theorem k18 : (Rows.signatureDamageSpec.vars.all (Try.prog.varReadable ·)) = true := by kernel_rfl
theorem k19 : (Try.f15.resultTypes.all (fun t => Try.prog.readableRec t && decide (t < Try.prog.types.size))) = true := by kernel_rfl
theorem k20 : ((Rows.signatureDamageRow.ifacesOut == Try.f15.resultTypes.toList.any (Try.prog.ifacesRec ·))) = true := by kernel_rfl
theorem k21 : ((Rows.signatureDamageRow.loopsOut == Try.f15.resultTypes.toList.any (Try.prog.loopsFrom ·))) = true := by kernel_rfl
theorem k22 : ((Rows.signatureDamageRow.plainKeys == Try.prog.plainKeys)) = true := by kernel_rfl
theorem k23 : (Rows.signatureDamageRow.shortTexts.isNone) = true := by kernel_rfl
theorem k24 : (Try.prog.stopsHeard) = true := by kernel_rfl
theorem k25 : (Try.prog.mayEnter) = true := j_enter
theorem k26 : ((Rows.signatureDamageRow.lifted == Try.prog.liftsFinal)) = true := by rw [j_final]; kernel_rfl
theorem k27 : ((Try.prog.make == some Rows.signatureDamageRow.make)) = true := by rw [j_make]; kernel_rfl
theorem k28 : ((Rows.signatureDamageRow.kinds == (if Rows.signatureDamageRow.domain.isEmpty then [] else Try.f15.params.toList.map fun t => match Try.prog.underlying t with | some (.int k) => some k | _ => none))) = true := by kernel_rfl
theorem k29 : ((Rows.signatureDamageRow.pinned == Rows.signatureDamageRow.pinnedBy)) = true := by kernel_rfl
theorem k30 : ((Rows.signatureDamageRow.veiled == (Try.f15.params.toList ++ Rows.signatureDamageSpec.plain.varTypes Try.prog ++ Try.f15.resultTypes.toList).any (Try.prog.veiledRec ·))) = true := by kernel_rfl
theorem k31 : (Rows.signatureDamageRow.veiledFits Try.prog Try.f15.params.toList (Try.f15.params.toList ++ Rows.signatureDamageSpec.plain.varTypes Try.prog ++ Try.f15.resultTypes.toList)) = true := by kernel_rfl
set_option maxRecDepth 100000 in
theorem joined : joinedFacts Try.prog 15 Try.f15 Rows.signatureDamageSpec Rows.signatureDamageRow = true := by
  unfold joinedFacts
  exact (j_and (j_and (j_and (j_and (j_and (j_and (j_and (j_and (j_and (j_and (j_and (j_and (j_and (j_and (j_and (j_and (j_and (j_and (j_and (j_and (j_and (j_and (j_and (j_and (j_and (j_and (j_and (j_and (j_and (j_and (j_and k0 k1) k2) k3) k4) k5) k6) k7) k8) k9) k10) k11) k12) k13) k14) k15) k16) k17) k18) k19) k20) k21) k22) k23) k24) k25) k26) k27) k28) k29) k30) k31)

set_option maxRecDepth 100000 in
theorem lifted (os : Os) (started : os.Started) (H : Type) (enc : TypeId × Value → H) :
    ReturnsInHanded {} Try.checked os 15 .any (Rows.signatureDamageSpec.pre6 enc Try.prog Try.f15 Rows.signatureDamageRow.domain false) (Rows.signatureDamageSpec.post enc Try.prog Try.f15 false true false false) := by
  refine returnsInHanded_of_change (C := Try.checked) own started (by kernel_rfl) Try.func15
    (ChangeSpec.witness6 (enc := enc) (C := Try.checked) false ⟨#[], #[.agg #[.int .u8 0, .int .u8 0, .int .u8 0, .int .u8 0, .int .u8 0, .int .u8 0, .int .u8 0, .int .u8 0, .int .u8 0, .int .u8 0, .int .u8 0, .int .u8 0, .int .u8 0, .int .u8 0, .int .u8 0, .int .u8 0, .int .u8 0, .int .u8 0, .int .u8 0, .int .u8 0, .int .u8 0, .int .u8 0, .int .u8 0, .int .u8 0, .int .u8 0, .int .u8 0, .int .u8 0, .int .u8 0, .int .u8 0, .int .u8 0, .int .u8 0, .int .u8 0], .slice none 0 0, .agg #[.int .i64 0, .int .i64 0, .int .i64 0]], []⟩ 8 (by kernel_rfl) (by kernel_rfl) (by kernel_rfl) (by kernel_rfl)) ?_
  intro W base args ds gs before hval0 hW hcnd _
  have hval : ∀ (j : Nat) t v, Try.f15.params[j]? = some t → args[j]? = some v → Value.okWide Try.prog W .any base t v := hval0
  have hW' := hW
  obtain ⟨p, q, hA0, hV, rfl, hfz, hnd⟩ := hW
  have hA : DataW.TrodAll enc Try.prog W 0 (fun _ => true) true Try.f15.params.toList args.toList ds p := hA0
  rw [Try.params15] at hA hval
  obtain ⟨v0, vs0, d0, ds0, p0, q0, hargs, rfl, rfl, h0, r0⟩ := trodAll_cons hA
  obtain ⟨v1, vs1, d1, ds1, p1, q1, rfl, rfl, rfl, h1, r1⟩ := trodAll_cons r0
  obtain ⟨v2, vs2, d2, ds2, p2, q2, rfl, rfl, rfl, h2, r2⟩ := trodAll_cons r1
  obtain ⟨rfl, rfl, rfl⟩ := trodAll_nil r2
  obtain rfl : args = #[v0, v1, v2] := by cases args; simp_all
  obtain ⟨rfl, rfl⟩ := trodVars_none hV
  have k0 := h0
  have lt0 : ∀ x ∈ p0, x.block < W.heap.size := by obtain ⟨m, hm⟩ := k0; exact DataW.trod_lt m _ _ _ hm
  obtain ⟨c0, rfl⟩ : ∃ c, v0 = .agg c := by
    have := hval 0 35 v0 rfl rfl
    simp only [Value.okWide, Try.underlying35] at this
    obtain ⟨c, hc, _⟩ := this
    exact ⟨c, hc⟩
  obtain ⟨x0, y0, s0⟩ := arg_agg (op_arr (s := 1) Try.underlying35 (by kernel_rfl) (by kernel_rfl) (op_int Try.underlying5)) h0
  have k1 := h1
  have lt1 : ∀ x ∈ p1, x.block < W.heap.size := by obtain ⟨m, hm⟩ := k1; exact DataW.trod_lt m _ _ _ hm
  obtain ⟨a1, len1, cap1, rfl⟩ := okWide_slice Try.underlying22 (hval 1 22 v1 rfl rfl)
  obtain ⟨x1, y1, s1⟩ := arg_one (op_slice (s := 1) Try.underlying22 (by kernel_rfl) (by decide) (op_int Try.underlying5)) h1 rfl
  have k2 := h2
  have lt2 : ∀ x ∈ p2, x.block < W.heap.size := by obtain ⟨m, hm⟩ := k2; exact DataW.trod_lt m _ _ _ hm
  obtain ⟨c2, rfl⟩ : ∃ c, v2 = .agg c := by
    have := hval 2 58 v2 rfl rfl
    simp only [Value.okWide, Try.underlying58] at this
    obtain ⟨c, hc, _⟩ := this
    exact ⟨c, hc⟩
  obtain ⟨x2, y2, s2⟩ := arg_agg (op_arr (s := 1) Try.underlying58 (by kernel_rfl) (by kernel_rfl) (op_int Try.underlying3)) h2
  clear hA0 hval0
  obtain ⟨seed, rfl, hs⟩ := rd_dig s0
  obtain ⟨msg, rfl, hn⟩ := rd_bytes s1
  obtain ⟨ls, rfl, h3, hls⟩ := s2
  obtain ⟨l0, l1, l2, rfl⟩ : ∃ a b c, ls = [a, b, c] := by
    match ls, h3 with
    | [a, b, c], _ => exact ⟨a, b, c, rfl⟩
  obtain ⟨⟨d0, rfl, _⟩, _⟩ := hls l0 (by simp)
  obtain ⟨⟨d1, rfl, _⟩, _⟩ := hls l1 (by simp)
  obtain ⟨⟨d2, rfl, _⟩, _⟩ := hls l2 (by simp)
  have hlaw := law_sdamage seed msg msg.length d0 d1 d2 hs rfl
  refine (hlaw.bool (w := W) ⟨_, _, rfl, y0, ⟨_, _, rfl, y1, ⟨_, _, rfl, y2, rfl⟩⟩⟩).mono fun e W' ⟨he, bel⟩ => ?_
  subst he
  exact ⟨_, rfl, _, _, _, [], _, [], hW', trodAll_mk1 (shut_bool Try.underlying4 _), (trodAll_cons_mk (Below.trod laidOut (by kernel_rfl) (of_decide_eq_true (by kernel_rfl)) k0 bel lt0) (trodAll_cons_mk (Below.trod laidOut (by kernel_rfl) (of_decide_eq_true (by kernel_rfl)) k1 bel lt1) (trodAll_cons_mk (Below.trod laidOut (by kernel_rfl) (of_decide_eq_true (by kernel_rfl)) k2 bel lt2) trodAll_mk0))), rfl, bel.frame _, fun h => by cases h⟩

theorem over : Rows.signatureDamageRow.holds Try.pinned (OpenSpec.ofChange Rows.signatureDamageSpec) :=
  OpenClaim.holds_of_wide 15 Try.f15 rfl rfl rfl rfl rfl rfl rfl ⟨rfl, rfl, rfl, rfl, rfl⟩ rfl rfl rfl rfl rfl (by kernel_rfl) Try.func15 joined
    (of_decide_eq_true (by kernel_rfl)) (by unfold Func.isWrapper; first | (rw [if_pos (by decide +kernel)]; kernel_rfl) | (rw [if_neg (by decide +kernel)]; exact ⟨rfl, rfl⟩))
    (fun os started H enc _ => lifted os started H enc)

theorem proved : Rows.SignatureDamageSaid := over
#print axioms proved
end Go.Proofs.Ytgofigkhdjjlmaa.signatureDamage
