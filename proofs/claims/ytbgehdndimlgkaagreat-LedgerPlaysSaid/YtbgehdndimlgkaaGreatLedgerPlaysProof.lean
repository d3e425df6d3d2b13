/-
  The law erasurelaw33.LedgerPlays returns true for every input, and each argument reads afterwards as it read before. No further condition.
-/
import Derived.Test.YtbgehdndimlgkaaGreatRows
import Derived.WalkKit
import Derived.ProofKit
import Derived.OpenShut
import Derived.ShutString
import Derived.ChangeOld
import Derived.Below
import Derived.Test.YtbgehdndimlgkaaGreatS43
import Derived.Test.YtbgehdndimlgkaaGreatS53
namespace Go.Proofs.YtbgehdndimlgkaaGreat.ledgerPlays
open Go.ChangeShapes Go.WideShapes Go.ChangeAt Go.RowKit Go.Av
set_option linter.unusedVariables false
theorem own:ownKnob Tryz.prog.godebug=none:=by kernel_rfl
theorem laidOut:laidOutB Tryz.prog=true:=j_laid
theorem k0:(Rows.ledgerPlaysRow.wf (OpenSpec.ofChange Rows.ledgerPlaysSpec))=true:=by kernel_rfl
theorem k1:(laidOutB Tryz.prog)=true:=j_laid
theorem k2:(mapsRowed Tryz.prog)=true:=j_maps
theorem k3:(Tryz.f7.params.all (Tryz.prog.readableRec ·))=true:=by kernel_rfl
theorem k4:(namedTie Tryz.prog Rows.ledgerPlaysRow.named Rows.ledgerPlaysSpec.vars)=true:=by kernel_rfl
theorem k5:((Rows.ledgerPlaysRow.stops==[]))=true:=by kernel_rfl
theorem k6:((Tryz.prog.stops==[]))=true:=by kernel_rfl
theorem k7:((Rows.ledgerPlaysRow.knobs==[]))=true:=by kernel_rfl
theorem k8:((Tryz.prog.stopKnobs==[]))=true:=by kernel_rfl
theorem k9:((Rows.ledgerPlaysRow.inPlace==Tryz.prog.inPlace 7))=true:=by kernel_rfl
theorem k10:((Rows.ledgerPlaysRow.unfollowed==Tryz.prog.unfollowed 7))=true:=by kernel_rfl
theorem k11:((Rows.ledgerPlaysRow.recurses==Tryz.prog.recurses 7))=true:=by kernel_rfl
theorem k12:((Rows.ledgerPlaysRow.named==Tryz.prog.varsNamed 7))=true:=by kernel_rfl
theorem k13:((Rows.ledgerPlaysRow.maps==(Tryz.f7.params.toList++Rows.ledgerPlaysSpec.plain.varTypes Tryz.prog).any (Tryz.prog.mapsRec ·)))=true:=by kernel_rfl
theorem k14:((Rows.ledgerPlaysRow.ifaces==(Tryz.f7.params.toList++Rows.ledgerPlaysSpec.plain.varTypes Tryz.prog).any (Tryz.prog.ifacesRec ·)))=true:=by kernel_rfl
theorem k15:((Rows.ledgerPlaysRow.mapsOut==Tryz.prog.mapsAmong Tryz.f7.resultTypes.toList))=true:=by kernel_rfl
theorem k16:((Rows.ledgerPlaysRow.loops==(Tryz.f7.params.toList++Rows.ledgerPlaysSpec.plain.varTypes Tryz.prog).any (Tryz.prog.loopsFrom ·)))=true:=by kernel_rfl
theorem k17:((Rows.ledgerPlaysRow.wideKeys==(Tryz.f7.params.toList++Rows.ledgerPlaysSpec.plain.varTypes Tryz.prog++Tryz.f7.resultTypes.toList).any (Tryz.prog.wideKeysFrom ·)))=true:=by kernel_rfl
theorem k18:(Rows.ledgerPlaysSpec.vars.all (Tryz.prog.varReadable ·))=true:=by kernel_rfl
theorem k19:(Tryz.f7.resultTypes.all (fun t=>Tryz.prog.readableRec t&&decide (t<Tryz.prog.types.size)))=true:=by kernel_rfl
theorem k20:((Rows.ledgerPlaysRow.ifacesOut==Tryz.f7.resultTypes.toList.any (Tryz.prog.ifacesRec ·)))=true:=by kernel_rfl
theorem k21:((Rows.ledgerPlaysRow.loopsOut==Tryz.f7.resultTypes.toList.any (Tryz.prog.loopsFrom ·)))=true:=by kernel_rfl
theorem k22:((Rows.ledgerPlaysRow.plainKeys==Tryz.prog.plainKeys))=true:=by kernel_rfl
theorem k23:(Rows.ledgerPlaysRow.shortTexts.isNone)=true:=by kernel_rfl
theorem k24:(Tryz.prog.stopsHeard)=true:=by kernel_rfl
theorem k25:(Tryz.prog.mayEnter)=true:=j_enter
theorem k26:((Rows.ledgerPlaysRow.lifted==Tryz.prog.liftsFinal))=true:=by rw [j_final];kernel_rfl
theorem k27:((Tryz.prog.make==some Rows.ledgerPlaysRow.make))=true:=by rw [j_make];kernel_rfl
theorem k28:((Rows.ledgerPlaysRow.kinds==(if Rows.ledgerPlaysRow.domain.isEmpty then [] else Tryz.f7.params.toList.map fun t=>match Tryz.prog.underlying t with|some (.int k)=>some k|_=>none)))=true:=by kernel_rfl
theorem k29:((Rows.ledgerPlaysRow.pinned==Rows.ledgerPlaysRow.pinnedBy))=true:=by kernel_rfl
theorem k30:((Rows.ledgerPlaysRow.veiled==(Tryz.f7.params.toList++Rows.ledgerPlaysSpec.plain.varTypes Tryz.prog++Tryz.f7.resultTypes.toList).any (Tryz.prog.veiledRec ·)))=true:=by kernel_rfl
theorem k31:(Rows.ledgerPlaysRow.veiledFits Tryz.prog Tryz.f7.params.toList (Tryz.f7.params.toList++Rows.ledgerPlaysSpec.plain.varTypes Tryz.prog++Tryz.f7.resultTypes.toList))=true:=by kernel_rfl
set_option maxRecDepth 100000 in
theorem joined:joinedFacts Tryz.prog 7 Tryz.f7 Rows.ledgerPlaysSpec Rows.ledgerPlaysRow=true:=by
 unfold joinedFacts
 exact (j_and (j_and (j_and (j_and (j_and (j_and (j_and (j_and (j_and (j_and (j_and (j_and (j_and (j_and (j_and (j_and (j_and (j_and (j_and (j_and (j_and (j_and (j_and (j_and (j_and (j_and (j_and (j_and (j_and (j_and (j_and k0 k1) k2) k3) k4) k5) k6) k7) k8) k9) k10) k11) k12) k13) k14) k15) k16) k17) k18) k19) k20) k21) k22) k23) k24) k25) k26) k27) k28) k29) k30) k31)
set_option maxRecDepth 100000 in
theorem lifted (os : Os) (started : os.Started) (H : Type) (enc : TypeId × Value → H) :
    ReturnsInHanded {} Tryz.checked os 7 .any (Rows.ledgerPlaysSpec.pre6 enc Tryz.prog Tryz.f7 Rows.ledgerPlaysRow.domain false) (Rows.ledgerPlaysSpec.post enc Tryz.prog Tryz.f7 false true false false) := by
  refine returnsInHanded_of_change (C := Tryz.checked) own started (by kernel_rfl) Tryz.func7
    (ChangeSpec.witness6 (enc := enc) (C := Tryz.checked) false ⟨#[], #[.slice none 0 0], []⟩ 8 (by kernel_rfl) (by kernel_rfl) (by kernel_rfl) (by kernel_rfl)) ?_
  intro W base args ds gs before hval0 hW hcnd _
  have hval : ∀ (j : Nat) t v, Tryz.f7.params[j]? = some t → args[j]? = some v → Value.okWide Tryz.prog W .any base t v := hval0
  have hW' := hW
  obtain ⟨p, q, hA0, hV, rfl, hfz, hnd⟩ := hW
  have hA : DataW.TrodAll enc Tryz.prog W 0 (fun _ => true) true Tryz.f7.params.toList args.toList ds p := hA0
  rw [Tryz.params7] at hA hval
  obtain ⟨v0, vs0, d0, ds0, p0, q0, hargs, rfl, rfl, h0, r0⟩ := trodAll_cons hA
  obtain ⟨rfl, rfl, rfl⟩ := trodAll_nil r0
  obtain rfl : args = #[v0] := by cases args; simp_all
  obtain ⟨rfl, rfl⟩ := trodVars_none hV
  have k0 := h0
  have lt0 : ∀ x ∈ p0, x.block < W.heap.size := by obtain ⟨m, hm⟩ := k0; exact DataW.trod_lt m _ _ _ hm
  obtain ⟨a0, len0, cap0, rfl⟩ := okWide_slice Tryz.underlying77 (hval 0 77 v0 rfl rfl)
  obtain ⟨x0, y0, s0⟩ := arg_one (op_slice (s := 67) Tryz.underlying77 (by kernel_rfl) (by decide) (op_struct Tryz.underlying79 (by kernel_rfl) (opf_cons (s := 1) rfl (by kernel_rfl) (op_int Tryz.underlying3) (opf_cons (s := 1) rfl (by kernel_rfl) (op_int Tryz.underlying3) (opf_cons (s := 65) rfl (by kernel_rfl) (op_struct Tryz.underlying49 (by kernel_rfl) (opf_cons (s := 1) rfl (by kernel_rfl) (op_int Tryz.underlying3) (opf_cons (s := 1) rfl (by kernel_rfl) (op_int Tryz.underlying3) (opf_cons (s := 1) rfl (by kernel_rfl) (op_int Tryz.underlying3) (opf_cons (s := 1) rfl (by kernel_rfl) (op_int Tryz.underlying3) (opf_cons (s := 8) rfl (by kernel_rfl) (op_struct Tryz.underlying41 (by kernel_rfl) (opf_cons (s := 1) rfl (by kernel_rfl) (op_int Tryz.underlying3) (opf_cons (s := 4) rfl (by kernel_rfl) (op_struct Tryz.underlying39 (by kernel_rfl) (opf_cons (s := 1) rfl (by kernel_rfl) (op_str Tryz.underlying9) (opf_cons (s := 3) rfl (by kernel_rfl) (op_struct Tryz.underlying37 (by kernel_rfl) (opf_cons (s := 1) rfl (by kernel_rfl) (op_int Tryz.underlying3) (opf_cons (s := 1) rfl (by kernel_rfl) (op_int Tryz.underlying2) (opf_cons (s := 1) rfl (by kernel_rfl) (op_str Tryz.underlying9) opf_nil)))) opf_nil))) (opf_cons (s := 1) rfl (by kernel_rfl) (op_int Tryz.underlying3) (opf_cons (s := 1) rfl (by kernel_rfl) (op_int Tryz.underlying3) (opf_cons (s := 1) rfl (by kernel_rfl) (op_int Tryz.underlying3) opf_nil)))))) (opf_cons (s := 10) rfl (by kernel_rfl) (op_struct Tryz.underlying43 (by kernel_rfl) (opf_cons (s := 4) rfl (by kernel_rfl) (op_struct Tryz.underlying39 (by kernel_rfl) (opf_cons (s := 1) rfl (by kernel_rfl) (op_str Tryz.underlying9) (opf_cons (s := 3) rfl (by kernel_rfl) (op_struct Tryz.underlying37 (by kernel_rfl) (opf_cons (s := 1) rfl (by kernel_rfl) (op_int Tryz.underlying3) (opf_cons (s := 1) rfl (by kernel_rfl) (op_int Tryz.underlying2) (opf_cons (s := 1) rfl (by kernel_rfl) (op_str Tryz.underlying9) opf_nil)))) opf_nil))) (opf_cons (s := 4) rfl (by kernel_rfl) (op_struct Tryz.underlying39 (by kernel_rfl) (opf_cons (s := 1) rfl (by kernel_rfl) (op_str Tryz.underlying9) (opf_cons (s := 3) rfl (by kernel_rfl) (op_struct Tryz.underlying37 (by kernel_rfl) (opf_cons (s := 1) rfl (by kernel_rfl) (op_int Tryz.underlying3) (opf_cons (s := 1) rfl (by kernel_rfl) (op_int Tryz.underlying2) (opf_cons (s := 1) rfl (by kernel_rfl) (op_str Tryz.underlying9) opf_nil)))) opf_nil))) (opf_cons (s := 1) rfl (by kernel_rfl) (op_int Tryz.underlying3) (opf_cons (s := 1) rfl (by kernel_rfl) (op_bool Tryz.underlying4) opf_nil))))) (opf_cons (s := 9) rfl (by kernel_rfl) (op_struct Tryz.underlying45 (by kernel_rfl) (opf_cons (s := 1) rfl (by kernel_rfl) (op_int Tryz.underlying3) (opf_cons (s := 1) rfl (by kernel_rfl) (op_int Tryz.underlying3) (opf_cons (s := 4) rfl (by kernel_rfl) (op_struct Tryz.underlying39 (by kernel_rfl) (opf_cons (s := 1) rfl (by kernel_rfl) (op_str Tryz.underlying9) (opf_cons (s := 3) rfl (by kernel_rfl) (op_struct Tryz.underlying37 (by kernel_rfl) (opf_cons (s := 1) rfl (by kernel_rfl) (op_int Tryz.underlying3) (opf_cons (s := 1) rfl (by kernel_rfl) (op_int Tryz.underlying2) (opf_cons (s := 1) rfl (by kernel_rfl) (op_str Tryz.underlying9) opf_nil)))) opf_nil))) (opf_cons (s := 1) rfl (by kernel_rfl) (op_int Tryz.underlying3) (opf_cons (s := 1) rfl (by kernel_rfl) (op_int Tryz.underlying3) (opf_cons (s := 1) rfl (by kernel_rfl) (op_int Tryz.underlying3) opf_nil))))))) (opf_cons (s := 1) rfl (by kernel_rfl) (op_slice (s := 3) Tryz.underlying46 (by kernel_rfl) (by decide) (op_struct Tryz.underlying76 (by kernel_rfl) (opf_cons (s := 1) rfl (by kernel_rfl) (op_int Tryz.underlying3) (opf_cons (s := 1) rfl (by kernel_rfl) (op_int Tryz.underlying3) (opf_cons (s := 1) rfl (by kernel_rfl) (op_int Tryz.underlying3) opf_nil))))) (opf_cons (s := 1) rfl (by kernel_rfl) (op_slice (s := 2) Tryz.underlying47 (by kernel_rfl) (by decide) (op_struct Tryz.underlying72 (by kernel_rfl) (opf_cons (s := 1) rfl (by kernel_rfl) (op_int Tryz.underlying3) (opf_cons (s := 1) rfl (by kernel_rfl) (op_int Tryz.underlying3) opf_nil)))) (opf_cons (s := 32) rfl (by kernel_rfl) (op_arr (s := 1) Tryz.underlying28 (by kernel_rfl) (by kernel_rfl) (op_int Tryz.underlying5)) opf_nil))))))))))) opf_nil))))) h0 rfl
  clear hA0 hval0
  obtain ⟨p, rfl, hp1, hp2⟩ := qd_acts s0
  have hlaw := law_lplays p p.length rfl hp2
  refine (hlaw.bool (w := W) ⟨_, _, rfl, y0, rfl⟩).mono fun e W' ⟨he, bel⟩ => ?_
  subst he
  exact ⟨_, rfl, _, _, _, [], _, [], hW', trodAll_mk1 (shut_bool Tryz.underlying4 _), (trodAll_cons_mk (Below.trod laidOut (by kernel_rfl) (of_decide_eq_true (by kernel_rfl)) k0 bel lt0) trodAll_mk0), rfl, bel.frame _, fun h => by cases h⟩
theorem over:Rows.ledgerPlaysRow.holds Tryz.pinned (OpenSpec.ofChange Rows.ledgerPlaysSpec) :=
 OpenClaim.holds_of_wide 7 Tryz.f7 rfl rfl rfl rfl rfl rfl rfl ⟨rfl,rfl,rfl,rfl,rfl⟩ rfl rfl rfl rfl rfl (by kernel_rfl) Tryz.func7 joined
  (of_decide_eq_true (by kernel_rfl)) (by unfold Func.isWrapper;first|(rw [if_pos (by decide +kernel)];kernel_rfl)|(rw [if_neg (by decide +kernel)];exact ⟨rfl,rfl⟩))
  (fun os started H enc _=>lifted os started H enc)
theorem proved:Rows.LedgerPlaysSaid:=over
#print axioms proved
end Go.Proofs.YtbgehdndimlgkaaGreat.ledgerPlays
