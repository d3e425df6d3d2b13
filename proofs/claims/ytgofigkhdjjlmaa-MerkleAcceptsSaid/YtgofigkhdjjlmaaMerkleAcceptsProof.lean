/-
  The law erasurelaw38.MerkleAccepts returns true for every input, and each argument reads afterwards as it read before. No further condition.
-/
import Derived.Test.YtgofigkhdjjlmaaRows
import Derived.WalkKit
import Derived.ProofKit
import Derived.OpenShut
import Derived.ShutString
import Derived.ChangeOld
import Derived.Below
import Derived.Test.YtgofigkhdjjlmaaM1
import Derived.Test.YtgofigkhdjjlmaaM2
import Derived.Test.YtgofigkhdjjlmaaM3
import Derived.Test.YtgofigkhdjjlmaaM4
import Derived.Test.YtgofigkhdjjlmaaM5
import Derived.Test.YtgofigkhdjjlmaaM6
import Derived.Test.YtgofigkhdjjlmaaM7
import Derived.Test.YtgofigkhdjjlmaaM9
import Derived.Test.YtgofigkhdjjlmaaM10
namespace Go.Proofs.Ytgofigkhdjjlmaa.merkleAccepts
open Go.ChangeShapes Go.WideShapes Go.ChangeAt Go.RowKit Go.Av
set_option linter.unusedVariables false

theorem own : ownKnob Try.prog.godebug = none := by kernel_rfl
theorem laidOut : laidOutB Try.prog = true := j_laid
theorem k0 : (Rows.merkleAcceptsRow.wf (OpenSpec.ofChange Rows.merkleAcceptsSpec)) = true := by kernel_rfl
theorem k1 : (laidOutB Try.prog) = true := j_laid
theorem k2 : (mapsRowed Try.prog) = true := j_maps
theorem k3 : (Try.f20.params.all (Try.prog.readableRec ·)) = true := by kernel_rfl
theorem k4 : (namedTie Try.prog Rows.merkleAcceptsRow.named Rows.merkleAcceptsSpec.vars) = true := by kernel_rfl
theorem k5 : ((Rows.merkleAcceptsRow.stops == [])) = true := by kernel_rfl
theorem k6 : ((Try.prog.stops == [])) = true := by kernel_rfl
theorem k7 : ((Rows.merkleAcceptsRow.knobs == [])) = true := by kernel_rfl
theorem k8 : ((Try.prog.stopKnobs == [])) = true := by kernel_rfl
theorem k9 : ((Rows.merkleAcceptsRow.inPlace == Try.prog.inPlace 20)) = true := by kernel_rfl
theorem k10 : ((Rows.merkleAcceptsRow.unfollowed == Try.prog.unfollowed 20)) = true := by kernel_rfl
theorem k11 : ((Rows.merkleAcceptsRow.recurses == Try.prog.recurses 20)) = true := by kernel_rfl
theorem k12 : ((Rows.merkleAcceptsRow.named == Try.prog.varsNamed 20)) = true := by kernel_rfl
theorem k13 : ((Rows.merkleAcceptsRow.maps == (Try.f20.params.toList ++ Rows.merkleAcceptsSpec.plain.varTypes Try.prog).any (Try.prog.mapsRec ·))) = true := by kernel_rfl
theorem k14 : ((Rows.merkleAcceptsRow.ifaces == (Try.f20.params.toList ++ Rows.merkleAcceptsSpec.plain.varTypes Try.prog).any (Try.prog.ifacesRec ·))) = true := by kernel_rfl
theorem k15 : ((Rows.merkleAcceptsRow.mapsOut == Try.prog.mapsAmong Try.f20.resultTypes.toList)) = true := by kernel_rfl
theorem k16 : ((Rows.merkleAcceptsRow.loops == (Try.f20.params.toList ++ Rows.merkleAcceptsSpec.plain.varTypes Try.prog).any (Try.prog.loopsFrom ·))) = true := by kernel_rfl
theorem k17 : ((Rows.merkleAcceptsRow.wideKeys == (Try.f20.params.toList ++ Rows.merkleAcceptsSpec.plain.varTypes Try.prog ++ Try.f20.resultTypes.toList).any (Try.prog.wideKeysFrom ·))) = true := by kernel_rfl
theorem k18 : (Rows.merkleAcceptsSpec.vars.all (Try.prog.varReadable ·)) = true := by kernel_rfl
theorem k19 : (Try.f20.resultTypes.all (fun t => Try.prog.readableRec t && decide (t < Try.prog.types.size))) = true := by kernel_rfl
theorem k20 : ((Rows.merkleAcceptsRow.ifacesOut == Try.f20.resultTypes.toList.any (Try.prog.ifacesRec ·))) = true := by kernel_rfl
theorem k21 : ((Rows.merkleAcceptsRow.loopsOut == Try.f20.resultTypes.toList.any (Try.prog.loopsFrom ·))) = true := by kernel_rfl
theorem k22 : ((Rows.merkleAcceptsRow.plainKeys == Try.prog.plainKeys)) = true := by kernel_rfl
theorem k23 : (Rows.merkleAcceptsRow.shortTexts.isNone) = true := by kernel_rfl
theorem k24 : (Try.prog.stopsHeard) = true := by kernel_rfl
theorem k25 : (Try.prog.mayEnter) = true := j_enter
theorem k26 : ((Rows.merkleAcceptsRow.lifted == Try.prog.liftsFinal)) = true := by rw [j_final]; kernel_rfl
theorem k27 : ((Try.prog.make == some Rows.merkleAcceptsRow.make)) = true := by rw [j_make]; kernel_rfl
theorem k28 : ((Rows.merkleAcceptsRow.kinds == (if Rows.merkleAcceptsRow.domain.isEmpty then [] else Try.f20.params.toList.map fun t => match Try.prog.underlying t with | some (.int k) => some k | _ => none))) = true := by kernel_rfl
theorem k29 : ((Rows.merkleAcceptsRow.pinned == Rows.merkleAcceptsRow.pinnedBy)) = true := by kernel_rfl
theorem k30 : ((Rows.merkleAcceptsRow.veiled == (Try.f20.params.toList ++ Rows.merkleAcceptsSpec.plain.varTypes Try.prog ++ Try.f20.resultTypes.toList).any (Try.prog.veiledRec ·))) = true := by kernel_rfl
theorem k31 : (Rows.merkleAcceptsRow.veiledFits Try.prog Try.f20.params.toList (Try.f20.params.toList ++ Rows.merkleAcceptsSpec.plain.varTypes Try.prog ++ Try.f20.resultTypes.toList)) = true := by kernel_rfl
set_option maxRecDepth 100000 in
theorem joined : joinedFacts Try.prog 20 Try.f20 Rows.merkleAcceptsSpec Rows.merkleAcceptsRow = true := by
  unfold joinedFacts
  exact (j_and (j_and (j_and (j_and (j_and (j_and (j_and (j_and (j_and (j_and (j_and (j_and (j_and (j_and (j_and (j_and (j_and (j_and (j_and (j_and (j_and (j_and (j_and (j_and (j_and (j_and (j_and (j_and (j_and (j_and (j_and k0 k1) k2) k3) k4) k5) k6) k7) k8) k9) k10) k11) k12) k13) k14) k15) k16) k17) k18) k19) k20) k21) k22) k23) k24) k25) k26) k27) k28) k29) k30) k31)

set_option maxRecDepth 100000 in
theorem lifted (os : Os) (started : os.Started) (H : Type) (enc : TypeId × Value → H) :
    ReturnsInHanded {} Try.checked os 20 .any (Rows.merkleAcceptsSpec.pre6 enc Try.prog Try.f20 Rows.merkleAcceptsRow.domain false) (Rows.merkleAcceptsSpec.post enc Try.prog Try.f20 false true false false) := by
  refine returnsInHanded_of_change (C := Try.checked) own started (by kernel_rfl) Try.func20
    (ChangeSpec.witness6 (enc := enc) (C := Try.checked) false ⟨#[], #[.slice none 0 0], []⟩ 8 (by kernel_rfl) (by kernel_rfl) (by kernel_rfl) (by kernel_rfl)) ?_
  intro W base args ds gs before hval0 hW hcnd _
  have hval : ∀ (j : Nat) t v, Try.f20.params[j]? = some t → args[j]? = some v → Value.okWide Try.prog W .any base t v := hval0
  have hW' := hW
  obtain ⟨p, q, hA0, hV, rfl, hfz, hnd⟩ := hW
  have hA : DataW.TrodAll enc Try.prog W 0 (fun _ => true) true Try.f20.params.toList args.toList ds p := hA0
  rw [Try.params20] at hA hval
  obtain ⟨v0, vs0, d0, ds0, p0, q0, hargs, rfl, rfl, h0, r0⟩ := trodAll_cons hA
  obtain ⟨rfl, rfl, rfl⟩ := trodAll_nil r0
  obtain rfl : args = #[v0] := by cases args; simp_all
  obtain ⟨rfl, rfl⟩ := trodVars_none hV
  have k0 := h0
  have lt0 : ∀ x ∈ p0, x.block < W.heap.size := by obtain ⟨m, hm⟩ := k0; exact DataW.trod_lt m _ _ _ hm
  obtain ⟨a0, len0, cap0, rfl⟩ := okWide_slice Try.underlying52 (hval 0 52 v0 rfl rfl)
  obtain ⟨x0, y0, s0⟩ := arg_one (op_slice (s := 32) Try.underlying52 (by kernel_rfl) (by decide) (op_arr (s := 1) Try.underlying35 (by kernel_rfl) (by kernel_rfl) (op_int Try.underlying5))) h0 rfl
  clear hA0 hval0
  obtain ⟨L, rfl, hL1, hL⟩ := rd_digs s0
  have hlaw := law_maccepts L L.length hL rfl
  refine (hlaw.bool (w := W) ⟨_, _, rfl, y0, rfl⟩).mono fun e W' ⟨he, bel⟩ => ?_
  subst he
  exact ⟨_, rfl, _, _, _, [], _, [], hW', trodAll_mk1 (shut_bool Try.underlying4 _), (trodAll_cons_mk (Below.trod laidOut (by kernel_rfl) (of_decide_eq_true (by kernel_rfl)) k0 bel lt0) trodAll_mk0), rfl, bel.frame _, fun h => by cases h⟩

theorem over : Rows.merkleAcceptsRow.holds Try.pinned (OpenSpec.ofChange Rows.merkleAcceptsSpec) :=
  OpenClaim.holds_of_wide 20 Try.f20 rfl rfl rfl rfl rfl rfl rfl ⟨rfl, rfl, rfl, rfl, rfl⟩ rfl rfl rfl rfl rfl (by kernel_rfl) Try.func20 joined
    (of_decide_eq_true (by kernel_rfl)) (by unfold Func.isWrapper; first | (rw [if_pos (by decide +kernel)]; kernel_rfl) | (rw [if_neg (by decide +kernel)]; exact ⟨rfl, rfl⟩))
    (fun os started H enc _ => lifted os started H enc)

theorem proved : Rows.MerkleAcceptsSaid := over
#print axioms proved
end Go.Proofs.Ytgofigkhdjjlmaa.merkleAccepts
