/-
  The law erasurelaw33.LedgerParses returns true for every input, and each argument reads afterwards as it read before. No further condition.
-/
import Derived.Test.YtbgehdndimlgkaaGreatRows
import Derived.WalkKit
import Derived.ProofKit
import Derived.OpenShut
import Derived.ShutString
import Derived.ChangeOld
import Derived.Below
import Derived.Test.YtbgehdndimlgkaaGreatP43
import Derived.Test.YtbgehdndimlgkaaGreatP52
namespace Go.Proofs.YtbgehdndimlgkaaGreat.ledgerParses
open Go.ChangeShapes Go.WideShapes Go.ChangeAt Go.RowKit Go.Av
set_option linter.unusedVariables false
theorem own:ownKnob Tryz.prog.godebug=none:=by kernel_rfl
theorem laidOut:laidOutB Tryz.prog=true:=j_laid
theorem k0:(Rows.ledgerParsesRow.wf (OpenSpec.ofChange Rows.ledgerParsesSpec))=true:=by kernel_rfl
theorem k1:(laidOutB Tryz.prog)=true:=j_laid
theorem k2:(mapsRowed Tryz.prog)=true:=j_maps
theorem k3:(Tryz.f3.params.all (Tryz.prog.readableRec ·))=true:=by kernel_rfl
theorem k4:(namedTie Tryz.prog Rows.ledgerParsesRow.named Rows.ledgerParsesSpec.vars)=true:=by kernel_rfl
theorem k5:((Rows.ledgerParsesRow.stops==[]))=true:=by kernel_rfl
theorem k6:((Tryz.prog.stops==[]))=true:=by kernel_rfl
theorem k7:((Rows.ledgerParsesRow.knobs==[]))=true:=by kernel_rfl
theorem k8:((Tryz.prog.stopKnobs==[]))=true:=by kernel_rfl
theorem k9:((Rows.ledgerParsesRow.inPlace==Tryz.prog.inPlace 3))=true:=by kernel_rfl
theorem k10:((Rows.ledgerParsesRow.unfollowed==Tryz.prog.unfollowed 3))=true:=by kernel_rfl
theorem k11:((Rows.ledgerParsesRow.recurses==Tryz.prog.recurses 3))=true:=by kernel_rfl
theorem k12:((Rows.ledgerParsesRow.named==Tryz.prog.varsNamed 3))=true:=by kernel_rfl
theorem k13:((Rows.ledgerParsesRow.maps==(Tryz.f3.params.toList++Rows.ledgerParsesSpec.plain.varTypes Tryz.prog).any (Tryz.prog.mapsRec ·)))=true:=by kernel_rfl
theorem k14:((Rows.ledgerParsesRow.ifaces==(Tryz.f3.params.toList++Rows.ledgerParsesSpec.plain.varTypes Tryz.prog).any (Tryz.prog.ifacesRec ·)))=true:=by kernel_rfl
theorem k15:((Rows.ledgerParsesRow.mapsOut==Tryz.prog.mapsAmong Tryz.f3.resultTypes.toList))=true:=by kernel_rfl
theorem k16:((Rows.ledgerParsesRow.loops==(Tryz.f3.params.toList++Rows.ledgerParsesSpec.plain.varTypes Tryz.prog).any (Tryz.prog.loopsFrom ·)))=true:=by kernel_rfl
theorem k17:((Rows.ledgerParsesRow.wideKeys==(Tryz.f3.params.toList++Rows.ledgerParsesSpec.plain.varTypes Tryz.prog++Tryz.f3.resultTypes.toList).any (Tryz.prog.wideKeysFrom ·)))=true:=by kernel_rfl
theorem k18:(Rows.ledgerParsesSpec.vars.all (Tryz.prog.varReadable ·))=true:=by kernel_rfl
theorem k19:(Tryz.f3.resultTypes.all (fun t=>Tryz.prog.readableRec t&&decide (t<Tryz.prog.types.size)))=true:=by kernel_rfl
theorem k20:((Rows.ledgerParsesRow.ifacesOut==Tryz.f3.resultTypes.toList.any (Tryz.prog.ifacesRec ·)))=true:=by kernel_rfl
theorem k21:((Rows.ledgerParsesRow.loopsOut==Tryz.f3.resultTypes.toList.any (Tryz.prog.loopsFrom ·)))=true:=by kernel_rfl
theorem k22:((Rows.ledgerParsesRow.plainKeys==Tryz.prog.plainKeys))=true:=by kernel_rfl
theorem k23:(Rows.ledgerParsesRow.shortTexts.isNone)=true:=by kernel_rfl
theorem k24:(Tryz.prog.stopsHeard)=true:=by kernel_rfl
theorem k25:(Tryz.prog.mayEnter)=true:=j_enter
theorem k26:((Rows.ledgerParsesRow.lifted==Tryz.prog.liftsFinal))=true:=by rw [j_final];kernel_rfl
theorem k27:((Tryz.prog.make==some Rows.ledgerParsesRow.make))=true:=by rw [j_make];kernel_rfl
theorem k28:((Rows.ledgerParsesRow.kinds==(if Rows.ledgerParsesRow.domain.isEmpty then [] else Tryz.f3.params.toList.map fun t=>match Tryz.prog.underlying t with|some (.int k)=>some k|_=>none)))=true:=by kernel_rfl
theorem k29:((Rows.ledgerParsesRow.pinned==Rows.ledgerParsesRow.pinnedBy))=true:=by kernel_rfl
theorem k30:((Rows.ledgerParsesRow.veiled==(Tryz.f3.params.toList++Rows.ledgerParsesSpec.plain.varTypes Tryz.prog++Tryz.f3.resultTypes.toList).any (Tryz.prog.veiledRec ·)))=true:=by kernel_rfl
theorem k31:(Rows.ledgerParsesRow.veiledFits Tryz.prog Tryz.f3.params.toList (Tryz.f3.params.toList++Rows.ledgerParsesSpec.plain.varTypes Tryz.prog++Tryz.f3.resultTypes.toList))=true:=by kernel_rfl
set_option maxRecDepth 100000 in
theorem joined:joinedFacts Tryz.prog 3 Tryz.f3 Rows.ledgerParsesSpec Rows.ledgerParsesRow=true:=by
 unfold joinedFacts
 exact (j_and (j_and (j_and (j_and (j_and (j_and (j_and (j_and (j_and (j_and (j_and (j_and (j_and (j_and (j_and (j_and (j_and (j_and (j_and (j_and (j_and (j_and (j_and (j_and (j_and (j_and (j_and (j_and (j_and (j_and (j_and k0 k1) k2) k3) k4) k5) k6) k7) k8) k9) k10) k11) k12) k13) k14) k15) k16) k17) k18) k19) k20) k21) k22) k23) k24) k25) k26) k27) k28) k29) k30) k31)
set_option maxRecDepth 100000 in
theorem lifted (os : Os) (started : os.Started) (H : Type) (enc : TypeId × Value → H) :
    ReturnsInHanded {} Tryz.checked os 3 .any (Rows.ledgerParsesSpec.pre6 enc Tryz.prog Tryz.f3 Rows.ledgerParsesRow.domain false) (Rows.ledgerParsesSpec.post enc Tryz.prog Tryz.f3 false true false false) := by
  refine returnsInHanded_of_change (C := Tryz.checked) own started (by kernel_rfl) Tryz.func3
    (ChangeSpec.witness6 (enc := enc) (C := Tryz.checked) false ⟨#[], #[.slice none 0 0, .slice none 0 0, .agg #[.int .i64 0, .int .i64 0]], []⟩ 8 (by kernel_rfl) (by kernel_rfl) (by kernel_rfl) (by kernel_rfl)) ?_
  intro W base args ds gs before hval0 hW hcnd _
  have hval : ∀ (j : Nat) t v, Tryz.f3.params[j]? = some t → args[j]? = some v → Value.okWide Tryz.prog W .any base t v := hval0
  have hW' := hW
  obtain ⟨p, q, hA0, hV, rfl, hfz, hnd⟩ := hW
  have hA : DataW.TrodAll enc Tryz.prog W 0 (fun _ => true) true Tryz.f3.params.toList args.toList ds p := hA0
  rw [Tryz.params3] at hA hval
  obtain ⟨v0, vs0, d0, ds0, p0, q0, hargs, rfl, rfl, h0, r0⟩ := trodAll_cons hA
  obtain ⟨v1, vs1, d1, ds1, p1, q1, rfl, rfl, rfl, h1, r1⟩ := trodAll_cons r0
  obtain ⟨v2, vs2, d2, ds2, p2, q2, rfl, rfl, rfl, h2, r2⟩ := trodAll_cons r1
  obtain ⟨rfl, rfl, rfl⟩ := trodAll_nil r2
  obtain rfl : args = #[v0, v1, v2] := by cases args; simp_all
  obtain ⟨rfl, rfl⟩ := trodVars_none hV
  have k0 := h0
  have lt0 : ∀ x ∈ p0, x.block < W.heap.size := by obtain ⟨m, hm⟩ := k0; exact DataW.trod_lt m _ _ _ hm
  obtain ⟨a0, len0, cap0, rfl⟩ := okWide_slice Tryz.underlying22 (hval 0 22 v0 rfl rfl)
  obtain ⟨x0, y0, s0⟩ := arg_one (op_slice (s := 1) Tryz.underlying22 (by kernel_rfl) (by decide) (op_int Tryz.underlying5)) h0 rfl
  have k1 := h1
  have lt1 : ∀ x ∈ p1, x.block < W.heap.size := by obtain ⟨m, hm⟩ := k1; exact DataW.trod_lt m _ _ _ hm
  obtain ⟨a1, len1, cap1, rfl⟩ := okWide_slice Tryz.underlying23 (hval 1 23 v1 rfl rfl)
  obtain ⟨x1, y1, s1⟩ := arg_one (op_slice (s := 65) Tryz.underlying23 (by kernel_rfl) (by decide) (op_struct Tryz.underlying49 (by kernel_rfl) (opf_cons (s := 1) rfl (by kernel_rfl) (op_int Tryz.underlying3) (opf_cons (s := 1) rfl (by kernel_rfl) (op_int Tryz.underlying3) (opf_cons (s := 1) rfl (by kernel_rfl) (op_int Tryz.underlying3) (opf_cons (s := 1) rfl (by kernel_rfl) (op_int Tryz.underlying3) (opf_cons (s := 8) rfl (by kernel_rfl) (op_struct Tryz.underlying41 (by kernel_rfl) (opf_cons (s := 1) rfl (by kernel_rfl) (op_int Tryz.underlying3) (opf_cons (s := 4) rfl (by kernel_rfl) (op_struct Tryz.underlying39 (by kernel_rfl) (opf_cons (s := 1) rfl (by kernel_rfl) (op_str Tryz.underlying9) (opf_cons (s := 3) rfl (by kernel_rfl) (op_struct Tryz.underlying37 (by kernel_rfl) (opf_cons (s := 1) rfl (by kernel_rfl) (op_int Tryz.underlying3) (opf_cons (s := 1) rfl (by kernel_rfl) (op_int Tryz.underlying2) (opf_cons (s := 1) rfl (by kernel_rfl) (op_str Tryz.underlying9) opf_nil)))) opf_nil))) (opf_cons (s := 1) rfl (by kernel_rfl) (op_int Tryz.underlying3) (opf_cons (s := 1) rfl (by kernel_rfl) (op_int Tryz.underlying3) (opf_cons (s := 1) rfl (by kernel_rfl) (op_int Tryz.underlying3) opf_nil)))))) (opf_cons (s := 10) rfl (by kernel_rfl) (op_struct Tryz.underlying43 (by kernel_rfl) (opf_cons (s := 4) rfl (by kernel_rfl) (op_struct Tryz.underlying39 (by kernel_rfl) (opf_cons (s := 1) rfl (by kernel_rfl) (op_str Tryz.underlying9) (opf_cons (s := 3) rfl (by kernel_rfl) (op_struct Tryz.underlying37 (by kernel_rfl) (opf_cons (s := 1) rfl (by kernel_rfl) (op_int Tryz.underlying3) (opf_cons (s := 1) rfl (by kernel_rfl) (op_int Tryz.underlying2) (opf_cons (s := 1) rfl (by kernel_rfl) (op_str Tryz.underlying9) opf_nil)))) opf_nil))) (opf_cons (s := 4) rfl (by kernel_rfl) (op_struct Tryz.underlying39 (by kernel_rfl) (opf_cons (s := 1) rfl (by kernel_rfl) (op_str Tryz.underlying9) (opf_cons (s := 3) rfl (by kernel_rfl) (op_struct Tryz.underlying37 (by kernel_rfl) (opf_cons (s := 1) rfl (by kernel_rfl) (op_int Tryz.underlying3) (opf_cons (s := 1) rfl (by kernel_rfl) (op_int Tryz.underlying2) (opf_cons (s := 1) rfl (by kernel_rfl) (op_str Tryz.underlying9) opf_nil)))) opf_nil))) (opf_cons (s := 1) rfl (by kernel_rfl) (op_int Tryz.underlying3) (opf_cons (s := 1) rfl (by kernel_rfl) (op_bool Tryz.underlying4) opf_nil))))) (opf_cons (s := 9) rfl (by kernel_rfl) (op_struct Tryz.underlying45 (by kernel_rfl) (opf_cons (s := 1) rfl (by kernel_rfl) (op_int Tryz.underlying3) (opf_cons (s := 1) rfl (by kernel_rfl) (op_int Tryz.underlying3) (opf_cons (s := 4) rfl (by kernel_rfl) (op_struct Tryz.underlying39 (by kernel_rfl) (opf_cons (s := 1) rfl (by kernel_rfl) (op_str Tryz.underlying9) (opf_cons (s := 3) rfl (by kernel_rfl) (op_struct Tryz.underlying37 (by kernel_rfl) (opf_cons (s := 1) rfl (by kernel_rfl) (op_int Tryz.underlying3) (opf_cons (s := 1) rfl (by kernel_rfl) (op_int Tryz.underlying2) (opf_cons (s := 1) rfl (by kernel_rfl) (op_str Tryz.underlying9) opf_nil)))) opf_nil))) (opf_cons (s := 1) rfl (by kernel_rfl) (op_int Tryz.underlying3) (opf_cons (s := 1) rfl (by kernel_rfl) (op_int Tryz.underlying3) (opf_cons (s := 1) rfl (by kernel_rfl) (op_int Tryz.underlying3) opf_nil))))))) (opf_cons (s := 1) rfl (by kernel_rfl) (op_slice (s := 3) Tryz.underlying46 (by kernel_rfl) (by decide) (op_struct Tryz.underlying76 (by kernel_rfl) (opf_cons (s := 1) rfl (by kernel_rfl) (op_int Tryz.underlying3) (opf_cons (s := 1) rfl (by kernel_rfl) (op_int Tryz.underlying3) (opf_cons (s := 1) rfl (by kernel_rfl) (op_int Tryz.underlying3) opf_nil))))) (opf_cons (s := 1) rfl (by kernel_rfl) (op_slice (s := 2) Tryz.underlying47 (by kernel_rfl) (by decide) (op_struct Tryz.underlying72 (by kernel_rfl) (opf_cons (s := 1) rfl (by kernel_rfl) (op_int Tryz.underlying3) (opf_cons (s := 1) rfl (by kernel_rfl) (op_int Tryz.underlying3) opf_nil)))) (opf_cons (s := 32) rfl (by kernel_rfl) (op_arr (s := 1) Tryz.underlying28 (by kernel_rfl) (by kernel_rfl) (op_int Tryz.underlying5)) opf_nil)))))))))))) h1 rfl
  have k2 := h2
  have lt2 : ∀ x ∈ p2, x.block < W.heap.size := by obtain ⟨m, hm⟩ := k2; exact DataW.trod_lt m _ _ _ hm
  obtain ⟨c2, rfl⟩ : ∃ c, v2 = .agg c := by
    have := hval 2 24 v2 rfl rfl
    simp only [Value.okWide, Tryz.underlying24] at this
    obtain ⟨c, hc, _⟩ := this
    exact ⟨c, hc⟩
  obtain ⟨x2, y2, s2⟩ := arg_agg (op_arr (s := 1) Tryz.underlying24 (by kernel_rfl) (by kernel_rfl) (op_int Tryz.underlying3)) h2
  clear hA0 hval0
  obtain ⟨b, rfl, hb⟩ := qd_bytes s0
  obtain ⟨p, rfl, hp1, hp2⟩ := qd_ents s1
  obtain ⟨d0, d1, rfl, _, _⟩ := qd_two s2
  have hlaw := law_lparses b b.length rfl hb p p.length rfl hp1 hp2 d0 d1
  refine (hlaw.bool (w := W) ⟨_, _, rfl, y0, ⟨_, _, rfl, y1, ⟨_, _, rfl, y2, rfl⟩⟩⟩).mono fun e W' ⟨he, bel⟩ => ?_
  subst he
  exact ⟨_, rfl, _, _, _, [], _, [], hW', trodAll_mk1 (shut_bool Tryz.underlying4 _), (trodAll_cons_mk (Below.trod laidOut (by kernel_rfl) (of_decide_eq_true (by kernel_rfl)) k0 bel lt0) (trodAll_cons_mk (Below.trod laidOut (by kernel_rfl) (of_decide_eq_true (by kernel_rfl)) k1 bel lt1) (trodAll_cons_mk (Below.trod laidOut (by kernel_rfl) (of_decide_eq_true (by kernel_rfl)) k2 bel lt2) trodAll_mk0))), rfl, bel.frame _, fun h => by cases h⟩
theorem over:Rows.ledgerParsesRow.holds Tryz.pinned (OpenSpec.ofChange Rows.ledgerParsesSpec) :=
 OpenClaim.holds_of_wide 3 Tryz.f3 rfl rfl rfl rfl rfl rfl rfl ⟨rfl,rfl,rfl,rfl,rfl⟩ rfl rfl rfl rfl rfl (by kernel_rfl) Tryz.func3 joined
  (of_decide_eq_true (by kernel_rfl)) (by unfold Func.isWrapper;first|(rw [if_pos (by decide +kernel)];kernel_rfl)|(rw [if_neg (by decide +kernel)];exact ⟨rfl,rfl⟩))
  (fun os started H enc _=>lifted os started H enc)
theorem proved:Rows.LedgerParsesSaid:=over
#print axioms proved
end Go.Proofs.YtbgehdndimlgkaaGreat.ledgerParses
