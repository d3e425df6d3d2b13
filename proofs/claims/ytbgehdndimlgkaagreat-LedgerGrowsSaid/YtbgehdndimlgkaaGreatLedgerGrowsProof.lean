/-
  The law erasurelaw33.LedgerGrows returns true for every input, and each argument reads afterwards as it read before. No further condition.
-/
import Derived.Test.YtbgehdndimlgkaaGreatRows
import Derived.WalkKit
import Derived.ProofKit
import Derived.OpenShut
import Derived.ShutString
import Derived.ChangeOld
import Derived.Below
import Derived.Test.YtbgehdndimlgkaaGreatP43
import Derived.Test.YtbgehdndimlgkaaGreatP53
namespace Go.Proofs.YtbgehdndimlgkaaGreat.ledgerGrows
open Go.ChangeShapes Go.WideShapes Go.ChangeAt Go.RowKit Go.Av
set_option linter.unusedVariables false
theorem own:ownKnob Tryz.prog.godebug=none:=by kernel_rfl
theorem laidOut:laidOutB Tryz.prog=true:=j_laid
theorem k0:(Rows.ledgerGrowsRow.wf (OpenSpec.ofChange Rows.ledgerGrowsSpec))=true:=by kernel_rfl
theorem k1:(laidOutB Tryz.prog)=true:=j_laid
theorem k2:(mapsRowed Tryz.prog)=true:=j_maps
theorem k3:(Tryz.f6.params.all (Tryz.prog.readableRec ·))=true:=by kernel_rfl
theorem k4:(namedTie Tryz.prog Rows.ledgerGrowsRow.named Rows.ledgerGrowsSpec.vars)=true:=by kernel_rfl
theorem k5:((Rows.ledgerGrowsRow.stops==[]))=true:=by kernel_rfl
theorem k6:((Tryz.prog.stops==[]))=true:=by kernel_rfl
theorem k7:((Rows.ledgerGrowsRow.knobs==[]))=true:=by kernel_rfl
theorem k8:((Tryz.prog.stopKnobs==[]))=true:=by kernel_rfl
theorem k9:((Rows.ledgerGrowsRow.inPlace==Tryz.prog.inPlace 6))=true:=by kernel_rfl
theorem k10:((Rows.ledgerGrowsRow.unfollowed==Tryz.prog.unfollowed 6))=true:=by kernel_rfl
theorem k11:((Rows.ledgerGrowsRow.recurses==Tryz.prog.recurses 6))=true:=by kernel_rfl
theorem k12:((Rows.ledgerGrowsRow.named==Tryz.prog.varsNamed 6))=true:=by kernel_rfl
theorem k13:((Rows.ledgerGrowsRow.maps==(Tryz.f6.params.toList++Rows.ledgerGrowsSpec.plain.varTypes Tryz.prog).any (Tryz.prog.mapsRec ·)))=true:=by kernel_rfl
theorem k14:((Rows.ledgerGrowsRow.ifaces==(Tryz.f6.params.toList++Rows.ledgerGrowsSpec.plain.varTypes Tryz.prog).any (Tryz.prog.ifacesRec ·)))=true:=by kernel_rfl
theorem k15:((Rows.ledgerGrowsRow.mapsOut==Tryz.prog.mapsAmong Tryz.f6.resultTypes.toList))=true:=by kernel_rfl
theorem k16:((Rows.ledgerGrowsRow.loops==(Tryz.f6.params.toList++Rows.ledgerGrowsSpec.plain.varTypes Tryz.prog).any (Tryz.prog.loopsFrom ·)))=true:=by kernel_rfl
theorem k17:((Rows.ledgerGrowsRow.wideKeys==(Tryz.f6.params.toList++Rows.ledgerGrowsSpec.plain.varTypes Tryz.prog++Tryz.f6.resultTypes.toList).any (Tryz.prog.wideKeysFrom ·)))=true:=by kernel_rfl
theorem k18:(Rows.ledgerGrowsSpec.vars.all (Tryz.prog.varReadable ·))=true:=by kernel_rfl
theorem k19:(Tryz.f6.resultTypes.all (fun t=>Tryz.prog.readableRec t&&decide (t<Tryz.prog.types.size)))=true:=by kernel_rfl
theorem k20:((Rows.ledgerGrowsRow.ifacesOut==Tryz.f6.resultTypes.toList.any (Tryz.prog.ifacesRec ·)))=true:=by kernel_rfl
theorem k21:((Rows.ledgerGrowsRow.loopsOut==Tryz.f6.resultTypes.toList.any (Tryz.prog.loopsFrom ·)))=true:=by kernel_rfl
theorem k22:((Rows.ledgerGrowsRow.plainKeys==Tryz.prog.plainKeys))=true:=by kernel_rfl
theorem k23:(Rows.ledgerGrowsRow.shortTexts.isNone)=true:=by kernel_rfl
theorem k24:(Tryz.prog.stopsHeard)=true:=by kernel_rfl
theorem k25:(Tryz.prog.mayEnter)=true:=j_enter
theorem k26:((Rows.ledgerGrowsRow.lifted==Tryz.prog.liftsFinal))=true:=by rw [j_final];kernel_rfl
theorem k27:((Tryz.prog.make==some Rows.ledgerGrowsRow.make))=true:=by rw [j_make];kernel_rfl
theorem k28:((Rows.ledgerGrowsRow.kinds==(if Rows.ledgerGrowsRow.domain.isEmpty then [] else Tryz.f6.params.toList.map fun t=>match Tryz.prog.underlying t with|some (.int k)=>some k|_=>none)))=true:=by kernel_rfl
theorem k29:((Rows.ledgerGrowsRow.pinned==Rows.ledgerGrowsRow.pinnedBy))=true:=by kernel_rfl
theorem k30:((Rows.ledgerGrowsRow.veiled==(Tryz.f6.params.toList++Rows.ledgerGrowsSpec.plain.varTypes Tryz.prog++Tryz.f6.resultTypes.toList).any (Tryz.prog.veiledRec ·)))=true:=by kernel_rfl
theorem k31:(Rows.ledgerGrowsRow.veiledFits Tryz.prog Tryz.f6.params.toList (Tryz.f6.params.toList++Rows.ledgerGrowsSpec.plain.varTypes Tryz.prog++Tryz.f6.resultTypes.toList))=true:=by kernel_rfl
set_option maxRecDepth 100000 in
theorem joined:joinedFacts Tryz.prog 6 Tryz.f6 Rows.ledgerGrowsSpec Rows.ledgerGrowsRow=true:=by
 unfold joinedFacts
 exact (j_and (j_and (j_and (j_and (j_and (j_and (j_and (j_and (j_and (j_and (j_and (j_and (j_and (j_and (j_and (j_and (j_and (j_and (j_and (j_and (j_and (j_and (j_and (j_and (j_and (j_and (j_and (j_and (j_and (j_and (j_and k0 k1) k2) k3) k4) k5) k6) k7) k8) k9) k10) k11) k12) k13) k14) k15) k16) k17) k18) k19) k20) k21) k22) k23) k24) k25) k26) k27) k28) k29) k30) k31)
set_option maxRecDepth 100000 in
theorem lifted (os : Os) (started : os.Started) (H : Type) (enc : TypeId × Value → H) :
    ReturnsInHanded {} Tryz.checked os 6 .any (Rows.ledgerGrowsSpec.pre6 enc Tryz.prog Tryz.f6 Rows.ledgerGrowsRow.domain false) (Rows.ledgerGrowsSpec.post enc Tryz.prog Tryz.f6 false true false false) := by
  refine returnsInHanded_of_change (C := Tryz.checked) own started (by kernel_rfl) Tryz.func6
    (ChangeSpec.witness6 (enc := enc) (C := Tryz.checked) false ⟨#[], #[.slice none 0 0, .agg #[.int .i64 0, .int .i64 0, .int .i64 0, .int .i64 0, .int .i64 0, .string ⟨#[]⟩, .int .i64 0, .int .i64 0, .string ⟨#[]⟩, .int .i64 0, .int .i64 0, .int .i64 0, .string ⟨#[]⟩, .int .i64 0, .int .i64 0, .string ⟨#[]⟩, .string ⟨#[]⟩, .int .i64 0, .int .i64 0, .string ⟨#[]⟩, .int .i64 0, .bool false, .int .i64 0, .int .i64 0, .string ⟨#[]⟩, .int .i64 0, .int .i64 0, .string ⟨#[]⟩, .int .i64 0, .int .i64 0, .int .i64 0, .slice none 0 0, .slice none 0 0, .int .u8 0, .int .u8 0, .int .u8 0, .int .u8 0, .int .u8 0, .int .u8 0, .int .u8 0, .int .u8 0, .int .u8 0, .int .u8 0, .int .u8 0, .int .u8 0, .int .u8 0, .int .u8 0, .int .u8 0, .int .u8 0, .int .u8 0, .int .u8 0, .int .u8 0, .int .u8 0, .int .u8 0, .int .u8 0, .int .u8 0, .int .u8 0, .int .u8 0, .int .u8 0, .int .u8 0, .int .u8 0, .int .u8 0, .int .u8 0, .int .u8 0, .int .u8 0]], []⟩ 8 (by kernel_rfl) (by kernel_rfl) (by kernel_rfl) (by kernel_rfl)) ?_
  intro W base args ds gs before hval0 hW hcnd _
  have hval : ∀ (j : Nat) t v, Tryz.f6.params[j]? = some t → args[j]? = some v → Value.okWide Tryz.prog W .any base t v := hval0
  have hW' := hW
  obtain ⟨p, q, hA0, hV, rfl, hfz, hnd⟩ := hW
  have hA : DataW.TrodAll enc Tryz.prog W 0 (fun _ => true) true Tryz.f6.params.toList args.toList ds p := hA0
  rw [Tryz.params6] at hA hval
  obtain ⟨v0, vs0, d0, ds0, p0, q0, hargs, rfl, rfl, h0, r0⟩ := trodAll_cons hA
  obtain ⟨v1, vs1, d1, ds1, p1, q1, rfl, rfl, rfl, h1, r1⟩ := trodAll_cons r0
  obtain ⟨rfl, rfl, rfl⟩ := trodAll_nil r1
  obtain rfl : args = #[v0, v1] := by cases args; simp_all
  obtain ⟨rfl, rfl⟩ := trodVars_none hV
  have k0 := h0
  have lt0 : ∀ x ∈ p0, x.block < W.heap.size := by obtain ⟨m, hm⟩ := k0; exact DataW.trod_lt m _ _ _ hm
  obtain ⟨a0, len0, cap0, rfl⟩ := okWide_slice Tryz.underlying23 (hval 0 23 v0 rfl rfl)
  obtain ⟨x0, y0, s0⟩ := arg_one (op_slice (s := 65) Tryz.underlying23 (by kernel_rfl) (by decide) (op_struct Tryz.underlying49 (by kernel_rfl) (opf_cons (s := 1) rfl (by kernel_rfl) (op_int Tryz.underlying3) (opf_cons (s := 1) rfl (by kernel_rfl) (op_int Tryz.underlying3) (opf_cons (s := 1) rfl (by kernel_rfl) (op_int Tryz.underlying3) (opf_cons (s := 1) rfl (by kernel_rfl) (op_int Tryz.underlying3) (opf_cons (s := 8) rfl (by kernel_rfl) (op_struct Tryz.underlying41 (by kernel_rfl) (opf_cons (s := 1) rfl (by kernel_rfl) (op_int Tryz.underlying3) (opf_cons (s := 4) rfl (by kernel_rfl) (op_struct Tryz.underlying39 (by kernel_rfl) (opf_cons (s := 1) rfl (by kernel_rfl) (op_str Tryz.underlying9) (opf_cons (s := 3) rfl (by kernel_rfl) (op_struct Tryz.underlying37 (by kernel_rfl) (opf_cons (s := 1) rfl (by kernel_rfl) (op_int Tryz.underlying3) (opf_cons (s := 1) rfl (by kernel_rfl) (op_int Tryz.underlying2) (opf_cons (s := 1) rfl (by kernel_rfl) (op_str Tryz.underlying9) opf_nil)))) opf_nil))) (opf_cons (s := 1) rfl (by kernel_rfl) (op_int Tryz.underlying3) (opf_cons (s := 1) rfl (by kernel_rfl) (op_int Tryz.underlying3) (opf_cons (s := 1) rfl (by kernel_rfl) (op_int Tryz.underlying3) opf_nil)))))) (opf_cons (s := 10) rfl (by kernel_rfl) (op_struct Tryz.underlying43 (by kernel_rfl) (opf_cons (s := 4) rfl (by kernel_rfl) (op_struct Tryz.underlying39 (by kernel_rfl) (opf_cons (s := 1) rfl (by kernel_rfl) (op_str Tryz.underlying9) (opf_cons (s := 3) rfl (by kernel_rfl) (op_struct Tryz.underlying37 (by kernel_rfl) (opf_cons (s := 1) rfl (by kernel_rfl) (op_int Tryz.underlying3) (opf_cons (s := 1) rfl (by kernel_rfl) (op_int Tryz.underlying2) (opf_cons (s := 1) rfl (by kernel_rfl) (op_str Tryz.underlying9) opf_nil)))) opf_nil))) (opf_cons (s := 4) rfl (by kernel_rfl) (op_struct Tryz.underlying39 (by kernel_rfl) (opf_cons (s := 1) rfl (by kernel_rfl) (op_str Tryz.underlying9) (opf_cons (s := 3) rfl (by kernel_rfl) (op_struct Tryz.underlying37 (by kernel_rfl) (opf_cons (s := 1) rfl (by kernel_rfl) (op_int Tryz.underlying3) (opf_cons (s := 1) rfl (by kernel_rfl) (op_int Tryz.underlying2) (opf_cons (s := 1) rfl (by kernel_rfl) (op_str Tryz.underlying9) opf_nil)))) opf_nil))) (opf_cons (s := 1) rfl (by kernel_rfl) (op_int Tryz.underlying3) (opf_cons (s := 1) rfl (by kernel_rfl) (op_bool Tryz.underlying4) opf_nil))))) (opf_cons (s := 9) rfl (by kernel_rfl) (op_struct Tryz.underlying45 (by kernel_rfl) (opf_cons (s := 1) rfl (by kernel_rfl) (op_int Tryz.underlying3) (opf_cons (s := 1) rfl (by kernel_rfl) (op_int Tryz.underlying3) (opf_cons (s := 4) rfl (by kernel_rfl) (op_struct Tryz.underlying39 (by kernel_rfl) (opf_cons (s := 1) rfl (by kernel_rfl) (op_str Tryz.underlying9) (opf_cons (s := 3) rfl (by kernel_rfl) (op_struct Tryz.underlying37 (by kernel_rfl) (opf_cons (s := 1) rfl (by kernel_rfl) (op_int Tryz.underlying3) (opf_cons (s := 1) rfl (by kernel_rfl) (op_int Tryz.underlying2) (opf_cons (s := 1) rfl (by kernel_rfl) (op_str Tryz.underlying9) opf_nil)))) opf_nil))) (opf_cons (s := 1) rfl (by kernel_rfl) (op_int Tryz.underlying3) (opf_cons (s := 1) rfl (by kernel_rfl) (op_int Tryz.underlying3) (opf_cons (s := 1) rfl (by kernel_rfl) (op_int Tryz.underlying3) opf_nil))))))) (opf_cons (s := 1) rfl (by kernel_rfl) (op_slice (s := 3) Tryz.underlying46 (by kernel_rfl) (by decide) (op_struct Tryz.underlying76 (by kernel_rfl) (opf_cons (s := 1) rfl (by kernel_rfl) (op_int Tryz.underlying3) (opf_cons (s := 1) rfl (by kernel_rfl) (op_int Tryz.underlying3) (opf_cons (s := 1) rfl (by kernel_rfl) (op_int Tryz.underlying3) opf_nil))))) (opf_cons (s := 1) rfl (by kernel_rfl) (op_slice (s := 2) Tryz.underlying47 (by kernel_rfl) (by decide) (op_struct Tryz.underlying72 (by kernel_rfl) (opf_cons (s := 1) rfl (by kernel_rfl) (op_int Tryz.underlying3) (opf_cons (s := 1) rfl (by kernel_rfl) (op_int Tryz.underlying3) opf_nil)))) (opf_cons (s := 32) rfl (by kernel_rfl) (op_arr (s := 1) Tryz.underlying28 (by kernel_rfl) (by kernel_rfl) (op_int Tryz.underlying5)) opf_nil)))))))))))) h0 rfl
  have k1 := h1
  have lt1 : ∀ x ∈ p1, x.block < W.heap.size := by obtain ⟨m, hm⟩ := k1; exact DataW.trod_lt m _ _ _ hm
  obtain ⟨c1, rfl⟩ : ∃ c, v1 = .agg c := by
    have := hval 1 49 v1 rfl rfl
    simp only [Value.okWide, Tryz.underlying49] at this
    obtain ⟨c, hc, _⟩ := this
    exact ⟨c, hc⟩
  obtain ⟨x1, y1, s1⟩ := arg_agg (op_struct Tryz.underlying49 (by kernel_rfl) (opf_cons (s := 1) rfl (by kernel_rfl) (op_int Tryz.underlying3) (opf_cons (s := 1) rfl (by kernel_rfl) (op_int Tryz.underlying3) (opf_cons (s := 1) rfl (by kernel_rfl) (op_int Tryz.underlying3) (opf_cons (s := 1) rfl (by kernel_rfl) (op_int Tryz.underlying3) (opf_cons (s := 8) rfl (by kernel_rfl) (op_struct Tryz.underlying41 (by kernel_rfl) (opf_cons (s := 1) rfl (by kernel_rfl) (op_int Tryz.underlying3) (opf_cons (s := 4) rfl (by kernel_rfl) (op_struct Tryz.underlying39 (by kernel_rfl) (opf_cons (s := 1) rfl (by kernel_rfl) (op_str Tryz.underlying9) (opf_cons (s := 3) rfl (by kernel_rfl) (op_struct Tryz.underlying37 (by kernel_rfl) (opf_cons (s := 1) rfl (by kernel_rfl) (op_int Tryz.underlying3) (opf_cons (s := 1) rfl (by kernel_rfl) (op_int Tryz.underlying2) (opf_cons (s := 1) rfl (by kernel_rfl) (op_str Tryz.underlying9) opf_nil)))) opf_nil))) (opf_cons (s := 1) rfl (by kernel_rfl) (op_int Tryz.underlying3) (opf_cons (s := 1) rfl (by kernel_rfl) (op_int Tryz.underlying3) (opf_cons (s := 1) rfl (by kernel_rfl) (op_int Tryz.underlying3) opf_nil)))))) (opf_cons (s := 10) rfl (by kernel_rfl) (op_struct Tryz.underlying43 (by kernel_rfl) (opf_cons (s := 4) rfl (by kernel_rfl) (op_struct Tryz.underlying39 (by kernel_rfl) (opf_cons (s := 1) rfl (by kernel_rfl) (op_str Tryz.underlying9) (opf_cons (s := 3) rfl (by kernel_rfl) (op_struct Tryz.underlying37 (by kernel_rfl) (opf_cons (s := 1) rfl (by kernel_rfl) (op_int Tryz.underlying3) (opf_cons (s := 1) rfl (by kernel_rfl) (op_int Tryz.underlying2) (opf_cons (s := 1) rfl (by kernel_rfl) (op_str Tryz.underlying9) opf_nil)))) opf_nil))) (opf_cons (s := 4) rfl (by kernel_rfl) (op_struct Tryz.underlying39 (by kernel_rfl) (opf_cons (s := 1) rfl (by kernel_rfl) (op_str Tryz.underlying9) (opf_cons (s := 3) rfl (by kernel_rfl) (op_struct Tryz.underlying37 (by kernel_rfl) (opf_cons (s := 1) rfl (by kernel_rfl) (op_int Tryz.underlying3) (opf_cons (s := 1) rfl (by kernel_rfl) (op_int Tryz.underlying2) (opf_cons (s := 1) rfl (by kernel_rfl) (op_str Tryz.underlying9) opf_nil)))) opf_nil))) (opf_cons (s := 1) rfl (by kernel_rfl) (op_int Tryz.underlying3) (opf_cons (s := 1) rfl (by kernel_rfl) (op_bool Tryz.underlying4) opf_nil))))) (opf_cons (s := 9) rfl (by kernel_rfl) (op_struct Tryz.underlying45 (by kernel_rfl) (opf_cons (s := 1) rfl (by kernel_rfl) (op_int Tryz.underlying3) (opf_cons (s := 1) rfl (by kernel_rfl) (op_int Tryz.underlying3) (opf_cons (s := 4) rfl (by kernel_rfl) (op_struct Tryz.underlying39 (by kernel_rfl) (opf_cons (s := 1) rfl (by kernel_rfl) (op_str Tryz.underlying9) (opf_cons (s := 3) rfl (by kernel_rfl) (op_struct Tryz.underlying37 (by kernel_rfl) (opf_cons (s := 1) rfl (by kernel_rfl) (op_int Tryz.underlying3) (opf_cons (s := 1) rfl (by kernel_rfl) (op_int Tryz.underlying2) (opf_cons (s := 1) rfl (by kernel_rfl) (op_str Tryz.underlying9) opf_nil)))) opf_nil))) (opf_cons (s := 1) rfl (by kernel_rfl) (op_int Tryz.underlying3) (opf_cons (s := 1) rfl (by kernel_rfl) (op_int Tryz.underlying3) (opf_cons (s := 1) rfl (by kernel_rfl) (op_int Tryz.underlying3) opf_nil))))))) (opf_cons (s := 1) rfl (by kernel_rfl) (op_slice (s := 3) Tryz.underlying46 (by kernel_rfl) (by decide) (op_struct Tryz.underlying76 (by kernel_rfl) (opf_cons (s := 1) rfl (by kernel_rfl) (op_int Tryz.underlying3) (opf_cons (s := 1) rfl (by kernel_rfl) (op_int Tryz.underlying3) (opf_cons (s := 1) rfl (by kernel_rfl) (op_int Tryz.underlying3) opf_nil))))) (opf_cons (s := 1) rfl (by kernel_rfl) (op_slice (s := 2) Tryz.underlying47 (by kernel_rfl) (by decide) (op_struct Tryz.underlying72 (by kernel_rfl) (opf_cons (s := 1) rfl (by kernel_rfl) (op_int Tryz.underlying3) (opf_cons (s := 1) rfl (by kernel_rfl) (op_int Tryz.underlying3) opf_nil)))) (opf_cons (s := 32) rfl (by kernel_rfl) (op_arr (s := 1) Tryz.underlying28 (by kernel_rfl) (by kernel_rfl) (op_int Tryz.underlying5)) opf_nil))))))))))) h1
  clear hA0 hval0
  obtain ⟨p, rfl, hp1, hp2⟩ := qd_ents s0
  obtain ⟨e, rfl, he1, he2⟩ := qd_en s1
  have hlaw := law_lgrows p p.length rfl hp1 hp2 e he1 he2 _ _ rfl rfl
  refine (hlaw.bool (w := W) ⟨_, _, rfl, y0, ⟨_, _, rfl, y1, rfl⟩⟩).mono fun e W' ⟨he, bel⟩ => ?_
  subst he
  exact ⟨_, rfl, _, _, _, [], _, [], hW', trodAll_mk1 (shut_bool Tryz.underlying4 _), (trodAll_cons_mk (Below.trod laidOut (by kernel_rfl) (of_decide_eq_true (by kernel_rfl)) k0 bel lt0) (trodAll_cons_mk (Below.trod laidOut (by kernel_rfl) (of_decide_eq_true (by kernel_rfl)) k1 bel lt1) trodAll_mk0)), rfl, bel.frame _, fun h => by cases h⟩
theorem over:Rows.ledgerGrowsRow.holds Tryz.pinned (OpenSpec.ofChange Rows.ledgerGrowsSpec) :=
 OpenClaim.holds_of_wide 6 Tryz.f6 rfl rfl rfl rfl rfl rfl rfl ⟨rfl,rfl,rfl,rfl,rfl⟩ rfl rfl rfl rfl rfl (by kernel_rfl) Tryz.func6 joined
  (of_decide_eq_true (by kernel_rfl)) (by unfold Func.isWrapper;first|(rw [if_pos (by decide +kernel)];kernel_rfl)|(rw [if_neg (by decide +kernel)];exact ⟨rfl,rfl⟩))
  (fun os started H enc _=>lifted os started H enc)
theorem proved:Rows.LedgerGrowsSaid:=over
#print axioms proved
end Go.Proofs.YtbgehdndimlgkaaGreat.ledgerGrows
