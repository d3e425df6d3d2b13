/-
  Joined texts: F2. Lemmas; no statement of a law.
-/
import Derived.Test.YtgofigkhdjjlmaaM1
import Derived.Test.YtgofigkhdjjlmaaM2
import Derived.Test.YtgofigkhdjjlmaaM3
import Derived.Test.YtgofigkhdjjlmaaM4
import Derived.Test.YtgofigkhdjjlmaaM5
import Derived.Test.YtgofigkhdjjlmaaM6
import Derived.Test.YtgofigkhdjjlmaaM12
/-
  Leaves and roots of seeds (walk), as the program has them.
-/
set_option linter.unusedVariables false
set_option linter.unusedSimpArgs false
namespace Go.Proofs.Ytgofigkhdjjlmaa
open Go Go.RowKit Go.Av
set_option maxRecDepth 100000
attribute [local irreducible] Still Adds AWL AW Drw DrwE EStep AC AWR Weak Frz Src RetK Out InK ItK AsK RdK permute
attribute [local simp] u8c_take u8c_drop u8c_app
set_option maxHeartbeats 4000000 in
theorem leaves_ok (seed : List UInt8) (hs : seed.length = 32) : AC Try.prog 93 [.agg (u8c seed)] (.own 0 0 4 32 true) [(0, .row 35 (dc (leavesD seed)))] 1 := by
  have hus : (u8c seed).length = 32 := by rw [u8c_length, hs]
  have hVl := leavesD_length seed
  have hVa := leavesD_all seed
  have hVg := leavesD_get seed
  generalize leavesD seed = V at hVl hVa hVg ⊢
  refine ac_enter tabOk (sz := 5) Try.func93 rfl (by rw [Try.ntmps93]; rfl) ?_
  repeat' (first
    | ((with_reducible refine aw_seqk ?_); intro K hK hX)
    | ((with_reducible refine isC_reg ?_); refine aw_prune [0, 1, 2, 4, 5, 6, 9, 10] rfl rfl ?_; with_reducible refine aw_region ?_)
    | ((first | with_reducible refine isA_call ?_ | with_reducible refine isA_callv ?_); refine awl_inl tabOk [0, 1, 2, 3, 4, 5, 6, 7, 8, 9, 10, 11, 12, 13, 14, 15, 16, 17, 18, 19, 20] g_none rfl rfl (by unfold Body; kernel_rfl) Try.func83 rfl rfl rfl (szf := 21) (by rw [Try.ntmps83]; rfl) rfl ?_)
    | refine stA ?_
    | (refine hK _ _ _ _ ?_; clear hK hX K)
    | (refine hX _ _ _ _ _ (by simp) ?_; clear hK hX K)
    | (first | refine inK_some (by first | exact .inl rfl | exact .inr rfl) (by exact trivial) rfl rfl (ResL.one (ResA.tmp rfl)) ?_ | refine inK_none (by first | exact .inl rfl | exact .inr rfl) (by exact trivial) rfl rfl (ResL.one (ResA.tmp rfl)) ?_))
  refine aw_loopo [10] [1] rfl rfl (fun i : Nat => [(10, .c (iv i))]) (fun i => [(1, .row 35 (dc (filD V 4 i)))]) (fun i => i ≤ 4) (fun i => 4 - i) 0 (by omega) (by refine weak_mk rfl ?_ ?_ rfl <;> (repeat' (first | exact weakE_nil | exact weakH_nil | refine weakE_cons rfl (by first | rfl | (exact congrArg (AObj.row 35) ((zc_dig 4).trans (by rw [filD_zero]))) | exact own_eq rfl rfl (by omega) | exact int_eq (by omega) | (simp <;> fail) | (congr 4; omega) | (congr 3; omega) | (congr 2; omega)) rfl ?_ | refine weakH_cons rfl (by first | rfl | (exact congrArg (AObj.row 35) ((zc_dig 4).trans (by rw [filD_zero]))) | exact own_eq rfl rfl (by omega) | exact int_eq (by omega) | (simp <;> fail) | (congr 4; omega) | (congr 3; omega) | (congr 2; omega)) rfl ?_))) ?_
  intro i hi K hK hX
  have hfa := filD_all 4 i hVa
  have hfl := filD_length hVl (show i ≤ 4 by omega)
  have hdf := dc_length hfa hfl
  by_cases hlt : i < 4
  · have hst := lay_dc hfa i (by omega) (V.getD i []) (getD32 hVa i (by omega))
    rw [filD_set hVl hlt, hVg i hlt] at hst
    have hEl := lastD_length seed i
    have hEa := lastD_all seed i
    have hEg := lastD_get seed i
    have hlf := leaf_ok (lastD seed i) 35 hEa hEl (by decide)
    have hll : (u8c (leafD (lastD seed i))).length = 32 := by rw [u8c_length, leafD_length]
    generalize leafD (lastD seed i) = lf at hlf hll hst
    generalize lastD seed i = E at hEl hEa hEg hlf
    repeat' (first
    | ((with_reducible refine aw_seqk ?_); intro K hK hX)
    | ((with_reducible refine isC_reg ?_); refine aw_prune [0, 1, 2, 3, 4, 5, 6, 9, 10] rfl rfl ?_; with_reducible refine aw_region ?_)
    | ((first | with_reducible refine isA_call ?_ | with_reducible refine isA_callv ?_); refine awl_inl tabOk [0, 1, 2, 3, 4, 5, 6, 7, 8, 9, 10, 11, 12, 13, 14, 15, 16, 17, 18, 19, 20] g_none rfl rfl (by unfold Body; kernel_rfl) Try.func83 rfl rfl rfl (szf := 21) (by rw [Try.ntmps83]; rfl) rfl ?_)
    | ((first | with_reducible refine isA_call ?_ | with_reducible refine isA_callv ?_); refine awl_inl tabOk [0, 1, 2, 3, 4, 5, 6, 7, 8, 9, 10, 11, 12, 13, 14, 15, 16, 17, 18, 19, 20] g_none rfl rfl (by unfold Body; kernel_rfl) Try.func112 rfl rfl rfl (szf := 7) (by rw [Try.ntmps112]; rfl) rfl ?_)
    | refine stA ?_
    | (refine hK _ _ _ _ ?_; clear hK hX K)
    | (refine hX _ _ _ _ _ (by simp) ?_; clear hK hX K)
    | (first | refine inK_some (by first | exact .inl rfl | exact .inr rfl) (by exact trivial) rfl rfl (ResL.one (ResA.tmp rfl)) ?_ | refine inK_none (by first | exact .inl rfl | exact .inr rfl) (by exact trivial) rfl rfl (ResL.one (ResA.tmp rfl)) ?_)
    | (first | refine inK_some (by first | exact .inl rfl | exact .inr rfl) (by exact trivial) rfl rfl (ResL.one (by first | exact ResA.one rfl rfl rfl rfl rfl | exact ResA.agg rfl rfl rfl rfl rfl (by first | exact IsAgg.closed rfl rfl | exact IsAgg.mixed _) | exact ResA.aggr rfl rfl rfl rfl (by first | rfl | with_reducible assumption | (simp <;> fail) | omega | (simp; omega) | assumption))) ?_ | refine inK_none (by first | exact .inl rfl | exact .inr rfl) (by exact trivial) rfl rfl (ResL.one (by first | exact ResA.one rfl rfl rfl rfl rfl | exact ResA.agg rfl rfl rfl rfl rfl (by first | exact IsAgg.closed rfl rfl | exact IsAgg.mixed _) | exact ResA.aggr rfl rfl rfl rfl (by first | rfl | with_reducible assumption | (simp <;> fail) | omega | (simp; omega) | assumption))) ?_))
    refine aw_loopo [10] [4] rfl rfl (fun j : Nat => [(10, .c (iv j))]) (fun j => [(4, .row 35 (dc (filD E 35 j)))]) (fun j => j ≤ 35) (fun j => 35 - j) 0 (by omega) (by refine weak_mk rfl ?_ ?_ rfl <;> (repeat' (first | exact weakE_nil | exact weakH_nil | refine weakE_cons rfl (by first | rfl | (exact congrArg (AObj.row 35) ((zc_dig 35).trans (by rw [filD_zero]))) | exact own_eq rfl rfl (by omega) | exact int_eq (by omega) | (simp <;> fail) | (congr 4; omega) | (congr 3; omega) | (congr 2; omega)) rfl ?_ | refine weakH_cons rfl (by first | rfl | (exact congrArg (AObj.row 35) ((zc_dig 35).trans (by rw [filD_zero]))) | exact own_eq rfl rfl (by omega) | exact int_eq (by omega) | (simp <;> fail) | (congr 4; omega) | (congr 3; omega) | (congr 2; omega)) rfl ?_))) ?_
    intro j hj K hK hX
    have hfaj := filD_all 35 j hEa
    have hflj := filD_length hEl (show j ≤ 35 by omega)
    have hdfj := dc_length hfaj hflj
    by_cases hltj : j < 35
    · have hbe := begin_ok seed i j hs (by omega) (by omega)
      have hbl := beginD_length seed i j
      have hbu : (u8c (beginD seed i j)).length = 32 := by rw [u8c_length, hbl]
      have hlk := walk_ok (beginD seed i j) 15 hbl (by decide)
      have hlu : (u8c (linkN 15 (beginD seed i j))).length = 32 := by rw [u8c_length, linkN_length hbl]
      have hstj := lay_dc hfaj j (by omega) (E.getD j []) (getD32 hEa j (by omega))
      rw [filD_set hEl hltj, hEg j hltj] at hstj
      generalize linkN 15 (beginD seed i j) = y at hlk hlu hstj
      generalize beginD seed i j = b at hbe hbl hbu hlk
      repeat' (first
    | ((with_reducible refine aw_seqk ?_); intro K hK hX)
    | ((with_reducible refine isC_reg ?_); refine aw_prune [0, 1, 2, 4, 5, 6, 9, 10] rfl rfl ?_; with_reducible refine aw_region ?_)
    | ((with_reducible refine isA_call ?_); (first | refine zA ?_ | refine zN ?_); (first | refine c0 (hbe) ?_ | refine c0 (hlk) ?_))
    | ((first | with_reducible refine isA_call ?_ | with_reducible refine isA_callv ?_); refine awl_inl tabOk [0, 1, 2, 3, 4, 5, 6, 7, 8, 9, 10, 11, 12, 13, 14, 15, 16, 17, 18, 19, 20] g_none rfl rfl (by unfold Body; kernel_rfl) Try.func83 rfl rfl rfl (szf := 21) (by rw [Try.ntmps83]; rfl) rfl ?_)
    | ((first | with_reducible refine isA_call ?_ | with_reducible refine isA_callv ?_); refine awl_inl tabOk [0, 1, 2, 3, 4, 5, 6, 7, 8, 9, 10, 11, 12, 13, 14, 15, 16, 17, 18, 19, 20] g_none rfl rfl (by unfold Body; kernel_rfl) Try.func113 rfl rfl rfl (szf := 10) (by rw [Try.ntmps113]; rfl) rfl ?_)
    | ((with_reducible refine isA_store ?_); (refine awl_store1r tabOk g_none rfl rfl rfl rfl rfl rfl (by first | omega | exact Nat.le_of_ble_eq_true rfl | omega | (simp; omega)) ?_))
    | ((with_reducible refine isA_store ?_); (refine awl_storeAr tabOk g_none rfl rfl rfl (by first | rfl | with_reducible assumption | (simp <;> fail) | omega | (simp; omega) | assumption) rfl (by first | exact Nat.le_of_ble_eq_true rfl | omega | (simp; omega)) (by first | exact hstj | exact lay_whole _ _ (by first | rfl | with_reducible assumption | (simp <;> fail) | omega | (simp; omega) | assumption) | rfl) ?_))
    | refine stA ?_
    | (refine hK _ _ _ _ ?_; clear hK hX K)
    | (refine hX _ _ _ _ _ (by simp) ?_; clear hK hX K)
    | (first | refine inK_some (by first | exact .inl rfl | exact .inr rfl) (by exact trivial) rfl rfl (ResL.one (ResA.tmp rfl)) ?_ | refine inK_none (by first | exact .inl rfl | exact .inr rfl) (by exact trivial) rfl rfl (ResL.one (ResA.tmp rfl)) ?_)
    | (first | refine inK_some (by first | exact .inl rfl | exact .inr rfl) (by exact trivial) rfl rfl (ResL.one (by first | exact ResA.one rfl rfl rfl rfl rfl | exact ResA.agg rfl rfl rfl rfl rfl (by first | exact IsAgg.closed rfl rfl | exact IsAgg.mixed _) | exact ResA.aggr rfl rfl rfl rfl (by first | rfl | with_reducible assumption | (simp <;> fail) | omega | (simp; omega) | assumption))) ?_ | refine inK_none (by first | exact .inl rfl | exact .inr rfl) (by exact trivial) rfl rfl (ResL.one (by first | exact ResA.one rfl rfl rfl rfl rfl | exact ResA.agg rfl rfl rfl rfl rfl (by first | exact IsAgg.closed rfl rfl | exact IsAgg.mixed _) | exact ResA.aggr rfl rfl rfl rfl (by first | rfl | with_reducible assumption | (simp <;> fail) | omega | (simp; omega) | assumption))) ?_))
      exact ⟨j + 1, by omega, by omega, weakA⟩
    · have hjn : j = 35 := by omega
      rw [hjn, filD_full hEl] at hdfj ⊢
      repeat' (first
    | ((with_reducible refine aw_seqk ?_); intro K hK hX)
    | ((with_reducible refine isC_reg ?_); refine aw_prune [0, 1, 2, 3, 4, 5, 6, 9, 10] rfl rfl ?_; with_reducible refine aw_region ?_)
    | ((with_reducible refine isA_call ?_); (first | refine wA ?_ | refine wN ?_); (first | refine cF (hlf) ?_))
    | ((first | with_reducible refine isA_call ?_ | with_reducible refine isA_callv ?_); refine awl_inl tabOk [0, 1, 2, 3, 4, 5, 6, 7, 8, 9, 10, 11, 12, 13, 14, 15, 16, 17, 18, 19, 20] g_none rfl rfl (by unfold Body; kernel_rfl) Try.func83 rfl rfl rfl (szf := 21) (by rw [Try.ntmps83]; rfl) rfl ?_)
    | ((first | with_reducible refine isA_call ?_ | with_reducible refine isA_callv ?_); refine awl_inl tabOk [0, 1, 2, 3, 4, 5, 6, 7, 8, 9, 10, 11, 12, 13, 14, 15, 16, 17, 18, 19, 20] g_none rfl rfl (by unfold Body; kernel_rfl) Try.func112 rfl rfl rfl (szf := 7) (by rw [Try.ntmps112]; rfl) rfl ?_)
    | ((with_reducible refine isA_store ?_); (refine awl_store1r tabOk g_none rfl rfl rfl rfl rfl rfl (by first | omega | exact Nat.le_of_ble_eq_true rfl | omega | (simp; omega)) ?_))
    | ((with_reducible refine isA_store ?_); (refine awl_storeAr tabOk g_none rfl rfl rfl (by first | rfl | with_reducible assumption | (simp <;> fail) | omega | (simp; omega) | assumption) rfl (by first | exact Nat.le_of_ble_eq_true rfl | omega | (simp; omega)) (by first | exact hst | exact lay_whole _ _ (by first | rfl | with_reducible assumption | (simp <;> fail) | omega | (simp; omega) | assumption) | rfl) ?_))
    | refine stA ?_
    | (refine hK _ _ _ _ ?_; clear hK hX K)
    | (refine hX _ _ _ _ _ (by simp) ?_; clear hK hX K)
    | (first | refine inK_some (by first | exact .inl rfl | exact .inr rfl) (by exact trivial) rfl rfl (ResL.one (ResA.tmp rfl)) ?_ | refine inK_none (by first | exact .inl rfl | exact .inr rfl) (by exact trivial) rfl rfl (ResL.one (ResA.tmp rfl)) ?_)
    | (first | refine inK_some (by first | exact .inl rfl | exact .inr rfl) (by exact trivial) rfl rfl (ResL.one (by first | exact ResA.one rfl rfl rfl rfl rfl | exact ResA.agg rfl rfl rfl rfl rfl (by first | exact IsAgg.closed rfl rfl | exact IsAgg.mixed _) | exact ResA.aggr rfl rfl rfl rfl (by first | rfl | with_reducible assumption | (simp <;> fail) | omega | (simp; omega) | assumption))) ?_ | refine inK_none (by first | exact .inl rfl | exact .inr rfl) (by exact trivial) rfl rfl (ResL.one (by first | exact ResA.one rfl rfl rfl rfl rfl | exact ResA.agg rfl rfl rfl rfl rfl (by first | exact IsAgg.closed rfl rfl | exact IsAgg.mixed _) | exact ResA.aggr rfl rfl rfl rfl (by first | rfl | with_reducible assumption | (simp <;> fail) | omega | (simp; omega) | assumption))) ?_))
      exact ⟨i + 1, by omega, by omega, weakA⟩
  · have hin : i = 4 := by omega
    rw [hin, filD_full hVl] at hdf ⊢
    repeat' (first
    | ((with_reducible refine aw_seqk ?_); intro K hK hX)
    | ((with_reducible refine isC_reg ?_); refine aw_prune [0, 1, 2, 4, 5, 6, 9, 10] rfl rfl ?_; with_reducible refine aw_region ?_)
    | ((first | with_reducible refine isA_call ?_ | with_reducible refine isA_callv ?_); refine awl_inl tabOk [0, 1, 2, 3, 4, 5, 6, 7, 8, 9, 10, 11, 12, 13, 14, 15, 16, 17, 18, 19, 20] g_none rfl rfl (by unfold Body; kernel_rfl) Try.func83 rfl rfl rfl (szf := 21) (by rw [Try.ntmps83]; rfl) rfl ?_)
    | refine stA ?_
    | (refine hK _ _ _ _ ?_; clear hK hX K)
    | (refine hX _ _ _ _ _ (by simp) ?_; clear hK hX K)
    | (first | refine inK_some (by first | exact .inl rfl | exact .inr rfl) (by exact trivial) rfl rfl (ResL.one (ResA.tmp rfl)) ?_ | refine inK_none (by first | exact .inl rfl | exact .inr rfl) (by exact trivial) rfl rfl (ResL.one (ResA.tmp rfl)) ?_))
    refine retK_mk (by first | exact .inl rfl | exact .inr rfl) (by exact trivial) rfl (ResL.one (ResA.tmp rfl)) (by first | exact out_c (by first | exact frz_c cv_rfl | exact frz_c cv_nil | exact frz_ownW rfl rfl (by first | rfl | with_reducible assumption | (simp <;> fail) | omega | (simp; omega) | assumption) | exact frz_eq (frz_c cv_rfl) (by first | rfl | (simp <;> fail) | fail)) | exact out_own rfl rfl)
theorem pub_idle : Idle Try.prog 92 1 := by
  intro us w hl
  obtain ⟨u0, rfl⟩ : ∃ u0, us = [u0] := by
    match us, hl with | [u0], _ => exact ⟨u0, rfl⟩
  refine callsD_of_wpS Try.func92 rfl fun c₀ cs hu => ?_
  apply wpS_seq
  apply wpS_region
  simp [wpOpsS, go_sem, recoverD, hu, Try.ntmps92, Exit.thenS]
  refine wpS_cond (t := false) (by simp [Act.eval, Array.replicate]) ?_
  simp only [Bool.false_eq_true, if_false]
  refine wpS_of_wp (wp_skip ?_)
  cases c₀
  simp_all [bodyPostS, results, Try.results92]
theorem pub_idle_b : Body Try.prog 92 := by unfold Body; kernel_rfl
set_option maxHeartbeats 4000000 in
theorem public_ok (seed : List UInt8) (hs : seed.length = 32) : AC Try.prog 50 [.agg (u8c seed)] (.c (.agg (u8c (publicD seed)))) [] 0 := by
  have hus : (u8c seed).length = 32 := by rw [u8c_length, hs]
  have h1 := leaves_ok seed hs
  have h2 := root38_ok (leavesD seed) 4 (leavesD_all seed) (leavesD_length seed) (by decide)
  have hdl := dc_length (leavesD_all seed) (leavesD_length seed)
  have hpl : (u8c (publicD seed)).length = 32 := by rw [u8c_length, publicD_length]
  unfold publicD at *
  generalize rootD (leavesD seed) = R at h2 hpl ⊢
  generalize dc (leavesD seed) = D at h1 h2 hdl
  refine ac_enter tabOk (sz := 11) Try.func50 rfl (by rw [Try.ntmps50]; rfl) ?_
  repeat' (first
    | ((with_reducible refine aw_seqk ?_); intro K hK hX)
    | ((with_reducible refine isC_reg ?_); refine aw_prune [0, 1, 2] rfl rfl ?_; with_reducible refine aw_region ?_)
    | ((with_reducible refine isA_call ?_); (first | refine wA ?_ | refine wN ?_); (first | refine cF (h2) ?_))
    | ((with_reducible refine isA_call ?_); (first | refine zA ?_ | refine zN ?_); (first | refine c1 (h1) ?_))
    | refine stA ?_
    | (refine hK _ _ _ _ ?_; clear hK hX K)
    | (refine hX _ _ _ _ _ (by simp) ?_; clear hK hX K))
  refine retK_mk (by first | exact .inl rfl | exact .inr rfl) (by exact ⟨pub_idle, pub_idle_b, trivial⟩) rfl (ResL.one (by first | exact ResA.one rfl rfl rfl rfl rfl | exact ResA.agg rfl rfl rfl rfl rfl (by first | exact IsAgg.closed rfl rfl | exact IsAgg.mixed _) | exact ResA.aggr rfl rfl rfl rfl (by first | rfl | with_reducible assumption | (simp <;> fail) | omega | (simp; omega) | assumption))) (by first | exact out_c (by first | exact frz_c cv_rfl | exact frz_c cv_nil | exact frz_ownW rfl rfl (by first | rfl | with_reducible assumption | (simp <;> fail) | omega | (simp; omega) | assumption) | exact frz_eq (frz_c cv_rfl) (by first | rfl | (simp <;> fail) | fail)) | exact out_own rfl rfl)
theorem law_spublic (seed : List UInt8) (hs : seed.length = 32) : AC Try.prog 16 [.agg (u8c seed)] (.c (.v (.bool true))) [] 0 := by
  have hus : (u8c seed).length = 32 := by rw [u8c_length, hs]
  have h1 := public_ok seed hs
  have h2 := rpublic_ok seed hs
  have hpl := publicD_length seed
  have hpu : (u8c (publicD seed)).length = 32 := by rw [u8c_length, hpl]
  generalize publicD seed = R at h1 h2 hpl hpu
  refine ac_enter tabOk (sz := 11) Try.func16 rfl (by rw [Try.ntmps16]; rfl) ?_
  repeat' (first
    | ((with_reducible refine aw_seqk ?_); intro K hK hX)
    | ((with_reducible refine isC_reg ?_); refine aw_prune [0, 1, 2] rfl rfl ?_; with_reducible refine aw_region ?_)
    | ((with_reducible refine isC_draw ?_); refine aw_prune [0, 1, 2] rfl rfl ?_; refine aw_drwF [] ?_)
    | ((first | with_reducible refine isA_call ?_ | with_reducible refine isD_call ?_); (first | refine zA ?_ | refine zN ?_ | refine zD ?_); (first | refine c0 (h1) ?_ | refine c0 (h2) ?_ | refine c0 (awake39_ok) ?_))
    | ((first | ((with_reducible refine isA_any ?_); refine xA ?_) | ((with_reducible refine isDk_any ?_); refine xD ?_)); (first | ((with_reducible refine e_bin ?_); (first | refine ex_i (s_eqlU tabOk (by kernel_rfl) rfl rfl rfl rfl rfl rfl rfl rfl rfl hpl hpl (decide_eq_true rfl)) ?_))))
    | refine stA ?_
    | refine stD ?_
    | (refine hK _ _ _ _ ?_; clear hK hX K)
    | (refine hX _ _ _ _ _ (by simp) ?_; clear hK hX K))
  refine retK_mk (by first | exact .inl rfl | exact .inr rfl) (by exact trivial) rfl (ResL.one (ResA.tmp rfl)) (by first | exact out_c (by first | exact frz_c cv_rfl | exact frz_c cv_nil | exact frz_ownW rfl rfl (by first | rfl | with_reducible assumption | (simp <;> fail) | omega | (simp; omega) | assumption) | exact frz_eq (frz_c cv_rfl) (by first | rfl | (simp <;> fail) | fail)) | exact out_own rfl rfl)
end Go.Proofs.Ytgofigkhdjjlmaa
