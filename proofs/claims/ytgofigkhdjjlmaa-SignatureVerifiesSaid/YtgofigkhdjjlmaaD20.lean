/-
  Pair (walk), as the reference and as the program have it.
-/
import Derived.Test.YtgofigkhdjjlmaaD8
import Derived.Test.YtgofigkhdjjlmaaWK
import Derived.Test.YtgofigkhdjjlmaaD13
import Derived.Test.YtgofigkhdjjlmaaAvQ
import Derived.Test.YtgofigkhdjjlmaaAvT
set_option linter.unusedVariables false
set_option linter.unusedSimpArgs false
namespace Go.Proofs.Ytgofigkhdjjlmaa
open Go Go.RowKit Go.Av
set_option maxRecDepth 100000
theorem pair_idle : Idle Try.prog 79 0 := by
  intro us w hl
  obtain ⟨_, rfl⟩ : ∃ _ : Unit, us = [] := by
    match us, hl with | [], _ => exact ⟨(), rfl⟩
  refine callsD_of_wpS Try.func79 rfl fun c₀ cs hu => ?_
  apply wpS_region
  simp [wpOpsS, go_sem, recoverD, hu, Try.ntmps79, Exit.thenS]
  cases c₀
  simp_all [bodyPostS, results, Try.results79]
theorem pair_idle_b : Body Try.prog 79 := by unfold Body; kernel_rfl
attribute [local irreducible] Still Adds AWL AW Drw AC AWR Weak Frz Src RetK Out InK permute
attribute [local simp] u8c_take u8c_drop u8c_app
set_option maxHeartbeats 4000000 in
theorem rpair_ok (dom : BitVec 64) (a b : List UInt8) (ha : a.length = 32) (hb : b.length = 32) : AC Try.prog 43 [wv dom, .agg (u8c a), .agg (u8c b)] (.c (.agg (u8c (sum dom (a ++ b))))) [] 0 := by
  have hua : (u8c a).length = 32 := by rw [u8c_length, ha]
  have hub : (u8c b).length = 32 := by rw [u8c_length, hb]
  refine ac_enter tabOk (sz := 14) Try.func43 rfl (by rw [Try.ntmps43]; rfl) ?_
  repeat' (first
    | ((with_reducible refine aw_seqk ?_); intro K hK hX)
    | ((with_reducible refine isC_reg ?_); refine aw_prune [0, 1, 2, 4, 5, 6] rfl rfl ?_; with_reducible refine aw_region ?_)
    | ((with_reducible refine isC_draw ?_); refine aw_prune [0, 1, 2, 4, 5, 6] rfl rfl ?_; refine aw_drwF [] ?_)
    | (refine drw_endX [0] (by kernel_rfl) (by kernel_rfl) (by kernel_rfl) rfl ?_)
    | (refine k_only ?_)
    | ((first | with_reducible refine isA_call ?_ | with_reducible refine isD_call ?_); (first | refine wA ?_ | refine wN ?_ | refine wD ?_); (first | refine cF (rsum_ok dom (a ++ b) 64 (by simp; omega) (by decide)) ?_))
    | ((first | with_reducible refine isA_call ?_ | with_reducible refine isD_call ?_); (first | refine zA ?_ | refine zN ?_ | refine zD ?_); (first | refine c1 (bytes_ok a ha) ?_ | refine c1 (bytes_ok b hb) ?_))
    | refine stA ?_
    | refine stD ?_
    | (refine hK _ _ _ _ ?_; clear hK hX K)
    | (refine hX _ _ _ _ _ (by simp) ?_; clear hK hX K))
  have hus : (u8c (sum dom (a ++ b))).length = 32 := by rw [u8c_length, sum_length]
  refine retK_mk (by first | exact .inl rfl | exact .inr rfl) (by exact trivial) (ResL.one (by first | exact ResA.one rfl rfl rfl rfl rfl | exact ResA.agg rfl rfl rfl rfl rfl (by first | exact IsAgg.closed rfl rfl | exact IsAgg.mixed _) | exact ResA.aggr rfl rfl rfl rfl (by first | rfl | with_reducible assumption | (simp <;> fail) | omega | (simp; omega) | assumption))) (by first | exact out_c (by first | exact frz_c cv_rfl | exact frz_c cv_nil | exact frz_ownW rfl rfl (by first | rfl | with_reducible assumption | (simp <;> fail) | omega | (simp; omega) | assumption) | exact frz_eq (frz_c cv_rfl) (by first | rfl | (simp <;> fail) | fail)) | exact out_own rfl rfl)
set_option maxHeartbeats 4000000 in
theorem pair_ok (dom : BitVec 64) (a b : List UInt8) (ha : a.length = 32) (hb : b.length = 32) : AC Try.prog 42 [wv dom, .agg (u8c a), .agg (u8c b)] (.c (.agg (u8c (sum dom (a ++ b))))) [] 0 := by
  have hua : (u8c a).length = 32 := by rw [u8c_length, ha]
  have hub : (u8c b).length = 32 := by rw [u8c_length, hb]
  have huab : (u8c (a ++ b)).length = 64 := by rw [u8c_length, List.length_append]; omega
  have hus : (u8c (sum dom (a ++ b))).length = 32 := by rw [u8c_length, sum_length]
  refine ac_enter tabOk (sz := 13) Try.func42 rfl (by rw [Try.ntmps42]; rfl) ?_
  repeat' (first
    | ((with_reducible refine aw_seqk ?_); intro K hK hX)
    | ((with_reducible refine isC_reg ?_); refine aw_prune [0, 1, 2, 4, 5, 6] rfl rfl ?_; with_reducible refine aw_region ?_)
    | refine stA ?_
    | refine stD ?_
    | (refine hK _ _ _ _ ?_; clear hK hX K)
    | (refine hX _ _ _ _ _ (by simp) ?_; clear hK hX K))
  refine aw_weak (weak_fz (E := [(0, .c (wv dom)), (4, .ip (u8c a) 0), (5, .ip (u8c b) 0), (6, .ref 2 0)]) (Hp := [(2, .row 35 z32)]) (by repeat' (first | exact FzE.nil | refine FzE.cons rfl ?_ ?_ | exact fz_same | exact fz_ref rfl rfl | exact fz_ownW rfl rfl (by first | rfl | with_reducible assumption | (simp <;> fail) | omega | (simp; omega) | assumption) | exact fz_own rfl rfl (by first | exact whole0 (by first | rfl | omega) | rfl) (by first | rfl | with_reducible assumption | (simp <;> fail) | omega | (simp; omega) | assumption))) (by repeat' (first | exact trivial | refine ⟨rfl, ?_⟩))) ?_
  repeat' (first
    | ((with_reducible refine aw_seqk ?_); intro K hK hX)
    | ((with_reducible refine isC_reg ?_); refine aw_prune [0, 1, 2, 4, 5, 6] rfl rfl ?_; with_reducible refine aw_region ?_)
    | ((with_reducible refine isC_draw ?_); refine aw_prune [0, 1, 2, 4, 5, 6] rfl rfl ?_; refine aw_drwF [] ?_)
    | ((first | with_reducible refine isA_call ?_ | with_reducible refine isD_call ?_); (first | refine wA ?_ | refine wN ?_ | refine wD ?_); (first | refine cF (sum_ok dom (a ++ b) 64 (by simp; omega) (by decide)) ?_))
    | ((first | with_reducible refine isA_call ?_ | with_reducible refine isD_call ?_); (first | refine yA ?_ | refine yD ?_); (first | refine cF1 (concat_ok a b 32 32 ha hb (by decide) (by decide)) ?_))
    | refine stA ?_
    | refine stD ?_
    | (refine hK _ _ _ _ ?_; clear hK hX K)
    | (refine hX _ _ _ _ _ (by simp) ?_; clear hK hX K))
  refine retK_mk (by first | exact .inl rfl | exact .inr rfl) (by exact ⟨pair_idle, pair_idle_b, trivial⟩) (ResL.one (by first | exact ResA.one rfl rfl rfl rfl rfl | exact ResA.agg rfl rfl rfl rfl rfl (by first | exact IsAgg.closed rfl rfl | exact IsAgg.mixed _) | exact ResA.aggr rfl rfl rfl rfl (by first | rfl | with_reducible assumption | (simp <;> fail) | omega | (simp; omega) | assumption))) (by first | exact out_c (by first | exact frz_c cv_rfl | exact frz_c cv_nil | exact frz_ownW rfl rfl (by first | rfl | with_reducible assumption | (simp <;> fail) | omega | (simp; omega) | assumption) | exact frz_eq (frz_c cv_rfl) (by first | rfl | (simp <;> fail) | fail)) | exact out_own rfl rfl)
end Go.Proofs.Ytgofigkhdjjlmaa
