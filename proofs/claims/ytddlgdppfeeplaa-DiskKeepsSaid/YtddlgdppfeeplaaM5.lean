/-
  Joined texts: G1 AvR. Lemmas; no statement of a law.
-/
import Derived.ChangeOld
import Derived.ChangeSlices
import Derived.ShutString
import Derived.Test.YtddlgdppfeeplaaM1
import Derived.Test.YtddlgdppfeeplaaM2
import Derived.Test.YtddlgdppfeeplaaM3
import Derived.Test.YtddlgdppfeeplaaM4
/-
  Functions of the disk (walk), as the program has them.
-/
set_option linter.unusedVariables false
set_option linter.unusedSimpArgs false
namespace Go.Proofs.Ytddlgdppfeeplaa
open Go Go.RowKit Go.Av
set_option maxRecDepth 100000
attribute [local irreducible] Still Adds AWL AW Drw DrwE EStep AC AWR Weak Frz Src RetK Out InK ItK AsK RdK
attribute [local simp] u8c_take u8c_drop u8c_app zc_length lay_len
theorem join_ok (a b : List UInt8) (m k q : Nat) (ha : a.length = m) (hb : b.length = k) (hq : m + k = q) (h : q ≤ 1000000000) : AC Try.prog 27 [.sl 1 m (u8c a), .sl 1 k (u8c b)] (.own 0 0 q 1 true) [(0, .row 5 (u8c (a ++ b)))] 1 := by
  have hua : (u8c a).length = m := by rw [u8c_length, ha]
  have hub : (u8c b).length = k := by rw [u8c_length, hb]
  subst hq
  refine ac_enter tabOk (sz := 22) Try.func27 rfl (by rw [Try.ntmps27]; rfl) ?_
  repeat' (first
    | ((with_reducible refine aw_seqk ?_); intro K hK hX)
    | ((with_reducible refine isC_reg ?_); refine aw_prune [0, 1, 4, 5, 6] rfl rfl ?_; with_reducible refine aw_region ?_)
    | refine stA ?_
    | (refine hK _ _ _ _ ?_; clear hK hX K)
    | (refine hX _ _ _ _ _ (by simp) ?_; clear hK hX K))
  rw [lay_two rfl ha hb]
  refine retK_mk (by first | exact .inl rfl | exact .inr rfl) (by exact trivial) rfl (ResL.one (ResA.tmp rfl)) (by first | exact out_c (by repeat' (first | exact frz_c cv_rfl | exact frz_c cv_nil | exact frz_ownW rfl rfl (by first | rfl | with_reducible assumption | (simp <;> fail) | omega | (simp <;> omega) | assumption) | exact frz_own rfl rfl rfl (by first | rfl | with_reducible assumption | (simp <;> fail) | omega | (simp <;> omega) | assumption) | exact frz_cv (frz_ownW rfl rfl (by first | rfl | with_reducible assumption | (simp <;> fail) | omega | (simp <;> omega) | assumption)) (cv_sl (by first | rfl | omega | (simp <;> fail) | fail) (by first | rfl | omega | (simp <;> fail) | fail)) | exact frz_cv (frz_own rfl rfl rfl (by first | rfl | with_reducible assumption | (simp <;> fail) | omega | (simp <;> omega) | assumption)) (cv_sl (by first | rfl | omega | (simp <;> fail) | fail) (by first | rfl | omega | (simp <;> fail) | fail)) | refine frz_agg rfl ?_ | refine frz_c (cv_agg ?_) | exact frzl_nil | refine frzl_cons ?_ ?_ | exact cvl_nil | refine cvl_cons ?_ ?_ | exact cv_rfl | exact cv_nil | exact cv_sl (by first | rfl | omega | (simp <;> fail) | fail) (by first | rfl | omega | (simp <;> fail) | fail) | exact frz_own rfl rfl (by assumption) (by assumption) | exact frz_int (by first | exact w64 (by omega) (by omega) | omega) | exact frz_true (by first | assumption | omega) | exact frz_false (by first | assumption | omega) | exact frz_eq (frz_c cv_rfl) (by first | rfl | (simp <;> fail) | fail))) | exact out_own rfl rfl)

theorem clone_ok (sy pe : List UInt8) (fu : Int) (dn : Bool) (m k : Nat) (hm : sy.length = m) (hk : pe.length = k) (h1 : m ≤ 1000000) (h2 : k ≤ 1000000) : AC Try.prog 26 [dkC m k sy pe fu dn] (.c (dkC m k sy pe fu dn)) [] 0 := by
  have hua : (u8c sy).length = m := by rw [u8c_length, hm]
  have hub : (u8c pe).length = k := by rw [u8c_length, hk]
  have j1 := join_ok sy [] m 0 m hm rfl rfl (by omega)
  have j2 := join_ok pe [] k 0 k hk rfl rfl (by omega)
  rw [List.append_nil] at j1 j2
  refine ac_enter tabOk (sz := 12) Try.func26 rfl (by rw [Try.ntmps26]; rfl) ?_
  repeat' (first
    | ((with_reducible refine aw_seqk ?_); intro K hK hX)
    | ((with_reducible refine isC_reg ?_); refine aw_prune [0, 1, 2] rfl rfl ?_; with_reducible refine aw_region ?_)
    | ((with_reducible refine isA_call ?_); (first | refine zA ?_ | refine zN ?_); (first | refine c1 (j1) ?_ | refine c1 (j2) ?_))
    | refine stA ?_
    | (refine hK _ _ _ _ ?_; clear hK hX K)
    | (refine hX _ _ _ _ _ (by simp) ?_; clear hK hX K))
  refine retK_mk (by first | exact .inl rfl | exact .inr rfl) (by exact trivial) rfl (ResL.one (by first | exact ResA.one rfl rfl rfl rfl rfl | exact ResA.agg rfl rfl rfl rfl rfl (by first | exact IsAgg.closed rfl rfl | exact IsAgg.mixed _) | exact ResA.aggr rfl rfl rfl rfl (by first | rfl | with_reducible assumption | (simp <;> fail) | omega | (simp <;> omega) | assumption))) (by first | exact out_c (by repeat' (first | exact frz_c cv_rfl | exact frz_c cv_nil | exact frz_ownW rfl rfl (by first | rfl | with_reducible assumption | (simp <;> fail) | omega | (simp <;> omega) | assumption) | exact frz_own rfl rfl rfl (by first | rfl | with_reducible assumption | (simp <;> fail) | omega | (simp <;> omega) | assumption) | exact frz_cv (frz_ownW rfl rfl (by first | rfl | with_reducible assumption | (simp <;> fail) | omega | (simp <;> omega) | assumption)) (cv_sl (by first | rfl | omega | (simp <;> fail) | fail) (by first | rfl | omega | (simp <;> fail) | fail)) | exact frz_cv (frz_own rfl rfl rfl (by first | rfl | with_reducible assumption | (simp <;> fail) | omega | (simp <;> omega) | assumption)) (cv_sl (by first | rfl | omega | (simp <;> fail) | fail) (by first | rfl | omega | (simp <;> fail) | fail)) | refine frz_agg rfl ?_ | refine frz_c (cv_agg ?_) | exact frzl_nil | refine frzl_cons ?_ ?_ | exact cvl_nil | refine cvl_cons ?_ ?_ | exact cv_rfl | exact cv_nil | exact cv_sl (by first | rfl | omega | (simp <;> fail) | fail) (by first | rfl | omega | (simp <;> fail) | fail) | exact frz_own rfl rfl (by assumption) (by assumption) | exact frz_int (by first | exact w64 (by omega) (by omega) | omega) | exact frz_true (by first | assumption | omega) | exact frz_false (by first | assumption | omega) | exact frz_eq (frz_c cv_rfl) (by first | rfl | (simp <;> fail) | fail))) | exact out_own rfl rfl)
theorem valid_ok (sy pe : List UInt8) (fu : Int) (dn : Bool) (m k : Nat) (hm : sy.length = m) (hk : pe.length = k) (h1 : m ≤ 1000000) (h2 : k ≤ 1000000) : AC Try.prog 20 [dkC m k sy pe fu dn] (.c (bv (Dk.ok ⟨sy, pe, fu, dn⟩))) [] 0 := by
  have hua : (u8c sy).length = m := by rw [u8c_length, hm]
  have hub : (u8c pe).length = k := by rw [u8c_length, hk]
  by_cases b1 : (m : Int) + (k : Int) ≤ 131072
  · by_cases b2 : -1 ≤ fu
    · rw [ok_true (s := ⟨sy, pe, fu, dn⟩) hm hk (by omega) b2]
      refine ac_enter tabOk (sz := 16) Try.func20 rfl (by rw [Try.ntmps20]; rfl) ?_
      repeat' (first
    | ((with_reducible refine aw_seqk ?_); intro K hK hX)
    | ((with_reducible refine isC_reg ?_); refine aw_prune [0, 1, 2] rfl rfl ?_; with_reducible refine aw_region ?_)
    | refine stA ?_
    | (refine hK _ _ _ _ ?_; clear hK hX K)
    | (refine hX _ _ _ _ _ (by simp) ?_; clear hK hX K))
      refine retK_mk (by first | exact .inl rfl | exact .inr rfl) (by exact trivial) rfl (ResL.one (ResA.tmp rfl)) (by first | exact out_c (by repeat' (first | exact frz_c cv_rfl | exact frz_c cv_nil | exact frz_ownW rfl rfl (by first | rfl | with_reducible assumption | (simp <;> fail) | omega | (simp <;> omega) | assumption) | exact frz_own rfl rfl rfl (by first | rfl | with_reducible assumption | (simp <;> fail) | omega | (simp <;> omega) | assumption) | exact frz_cv (frz_ownW rfl rfl (by first | rfl | with_reducible assumption | (simp <;> fail) | omega | (simp <;> omega) | assumption)) (cv_sl (by first | rfl | omega | (simp <;> fail) | fail) (by first | rfl | omega | (simp <;> fail) | fail)) | exact frz_cv (frz_own rfl rfl rfl (by first | rfl | with_reducible assumption | (simp <;> fail) | omega | (simp <;> omega) | assumption)) (cv_sl (by first | rfl | omega | (simp <;> fail) | fail) (by first | rfl | omega | (simp <;> fail) | fail)) | refine frz_agg rfl ?_ | refine frz_c (cv_agg ?_) | exact frzl_nil | refine frzl_cons ?_ ?_ | exact cvl_nil | refine cvl_cons ?_ ?_ | exact cv_rfl | exact cv_nil | exact cv_sl (by first | rfl | omega | (simp <;> fail) | fail) (by first | rfl | omega | (simp <;> fail) | fail) | exact frz_own rfl rfl (by assumption) (by assumption) | exact frz_int (by first | exact w64 (by omega) (by omega) | omega) | exact frz_true (by first | assumption | omega) | exact frz_false (by first | assumption | omega) | exact frz_eq (frz_c cv_rfl) (by first | rfl | (simp <;> fail) | fail))) | exact out_own rfl rfl)
    · rw [ok_false (s := ⟨sy, pe, fu, dn⟩) hm hk (fun h => b2 h.2)]
      refine ac_enter tabOk (sz := 16) Try.func20 rfl (by rw [Try.ntmps20]; rfl) ?_
      repeat' (first
    | ((with_reducible refine aw_seqk ?_); intro K hK hX)
    | ((with_reducible refine isC_reg ?_); refine aw_prune [0, 1, 2] rfl rfl ?_; with_reducible refine aw_region ?_)
    | refine stA ?_
    | (refine hK _ _ _ _ ?_; clear hK hX K)
    | (refine hX _ _ _ _ _ (by simp) ?_; clear hK hX K))
      refine retK_mk (by first | exact .inl rfl | exact .inr rfl) (by exact trivial) rfl (ResL.one (ResA.tmp rfl)) (by first | exact out_c (by repeat' (first | exact frz_c cv_rfl | exact frz_c cv_nil | exact frz_ownW rfl rfl (by first | rfl | with_reducible assumption | (simp <;> fail) | omega | (simp <;> omega) | assumption) | exact frz_own rfl rfl rfl (by first | rfl | with_reducible assumption | (simp <;> fail) | omega | (simp <;> omega) | assumption) | exact frz_cv (frz_ownW rfl rfl (by first | rfl | with_reducible assumption | (simp <;> fail) | omega | (simp <;> omega) | assumption)) (cv_sl (by first | rfl | omega | (simp <;> fail) | fail) (by first | rfl | omega | (simp <;> fail) | fail)) | exact frz_cv (frz_own rfl rfl rfl (by first | rfl | with_reducible assumption | (simp <;> fail) | omega | (simp <;> omega) | assumption)) (cv_sl (by first | rfl | omega | (simp <;> fail) | fail) (by first | rfl | omega | (simp <;> fail) | fail)) | refine frz_agg rfl ?_ | refine frz_c (cv_agg ?_) | exact frzl_nil | refine frzl_cons ?_ ?_ | exact cvl_nil | refine cvl_cons ?_ ?_ | exact cv_rfl | exact cv_nil | exact cv_sl (by first | rfl | omega | (simp <;> fail) | fail) (by first | rfl | omega | (simp <;> fail) | fail) | exact frz_own rfl rfl (by assumption) (by assumption) | exact frz_int (by first | exact w64 (by omega) (by omega) | omega) | exact frz_true (by first | assumption | omega) | exact frz_false (by first | assumption | omega) | exact frz_eq (frz_c cv_rfl) (by first | rfl | (simp <;> fail) | fail))) | exact out_own rfl rfl)
  · rw [ok_false (s := ⟨sy, pe, fu, dn⟩) hm hk (by omega)]
    refine ac_enter tabOk (sz := 16) Try.func20 rfl (by rw [Try.ntmps20]; rfl) ?_
    repeat' (first
    | ((with_reducible refine aw_seqk ?_); intro K hK hX)
    | ((with_reducible refine isC_reg ?_); refine aw_prune [0, 1, 2] rfl rfl ?_; with_reducible refine aw_region ?_)
    | refine stA ?_
    | (refine hK _ _ _ _ ?_; clear hK hX K)
    | (refine hX _ _ _ _ _ (by simp) ?_; clear hK hX K))
    refine retK_mk (by first | exact .inl rfl | exact .inr rfl) (by exact trivial) rfl (ResL.one (ResA.tmp rfl)) (by first | exact out_c (by repeat' (first | exact frz_c cv_rfl | exact frz_c cv_nil | exact frz_ownW rfl rfl (by first | rfl | with_reducible assumption | (simp <;> fail) | omega | (simp <;> omega) | assumption) | exact frz_own rfl rfl rfl (by first | rfl | with_reducible assumption | (simp <;> fail) | omega | (simp <;> omega) | assumption) | exact frz_cv (frz_ownW rfl rfl (by first | rfl | with_reducible assumption | (simp <;> fail) | omega | (simp <;> omega) | assumption)) (cv_sl (by first | rfl | omega | (simp <;> fail) | fail) (by first | rfl | omega | (simp <;> fail) | fail)) | exact frz_cv (frz_own rfl rfl rfl (by first | rfl | with_reducible assumption | (simp <;> fail) | omega | (simp <;> omega) | assumption)) (cv_sl (by first | rfl | omega | (simp <;> fail) | fail) (by first | rfl | omega | (simp <;> fail) | fail)) | refine frz_agg rfl ?_ | refine frz_c (cv_agg ?_) | exact frzl_nil | refine frzl_cons ?_ ?_ | exact cvl_nil | refine cvl_cons ?_ ?_ | exact cv_rfl | exact cv_nil | exact cv_sl (by first | rfl | omega | (simp <;> fail) | fail) (by first | rfl | omega | (simp <;> fail) | fail) | exact frz_own rfl rfl (by assumption) (by assumption) | exact frz_int (by first | exact w64 (by omega) (by omega) | omega) | exact frz_true (by first | assumption | omega) | exact frz_false (by first | assumption | omega) | exact frz_eq (frz_c cv_rfl) (by first | rfl | (simp <;> fail) | fail))) | exact out_own rfl rfl)
theorem new_ok : AC Try.prog 11 [] (.c (dkC 0 0 [] [] (-1) false)) [] 0 := by
  refine ac_enter tabOk (sz := 2) Try.func11 rfl (by rw [Try.ntmps11]; rfl) ?_
  repeat' (first
    | ((with_reducible refine aw_seqk ?_); intro K hK hX)
    | ((with_reducible refine isC_reg ?_); refine aw_prune [0] rfl rfl ?_; with_reducible refine aw_region ?_)
    | refine stA ?_
    | (refine hK _ _ _ _ ?_; clear hK hX K)
    | (refine hX _ _ _ _ _ (by simp) ?_; clear hK hX K))
  refine retK_mk (by first | exact .inl rfl | exact .inr rfl) (by exact trivial) rfl (ResL.one (by first | exact ResA.one rfl rfl rfl rfl rfl | exact ResA.agg rfl rfl rfl rfl rfl (by first | exact IsAgg.closed rfl rfl | exact IsAgg.mixed _) | exact ResA.aggr rfl rfl rfl rfl (by first | rfl | with_reducible assumption | (simp <;> fail) | omega | (simp <;> omega) | assumption))) (by first | exact out_c (by repeat' (first | exact frz_c cv_rfl | exact frz_c cv_nil | exact frz_ownW rfl rfl (by first | rfl | with_reducible assumption | (simp <;> fail) | omega | (simp <;> omega) | assumption) | exact frz_own rfl rfl rfl (by first | rfl | with_reducible assumption | (simp <;> fail) | omega | (simp <;> omega) | assumption) | exact frz_cv (frz_ownW rfl rfl (by first | rfl | with_reducible assumption | (simp <;> fail) | omega | (simp <;> omega) | assumption)) (cv_sl (by first | rfl | omega | (simp <;> fail) | fail) (by first | rfl | omega | (simp <;> fail) | fail)) | exact frz_cv (frz_own rfl rfl rfl (by first | rfl | with_reducible assumption | (simp <;> fail) | omega | (simp <;> omega) | assumption)) (cv_sl (by first | rfl | omega | (simp <;> fail) | fail) (by first | rfl | omega | (simp <;> fail) | fail)) | refine frz_agg rfl ?_ | refine frz_c (cv_agg ?_) | exact frzl_nil | refine frzl_cons ?_ ?_ | exact cvl_nil | refine cvl_cons ?_ ?_ | exact cv_rfl | exact cv_nil | exact cv_sl (by first | rfl | omega | (simp <;> fail) | fail) (by first | rfl | omega | (simp <;> fail) | fail) | exact frz_own rfl rfl (by assumption) (by assumption) | exact frz_int (by first | exact w64 (by omega) (by omega) | omega) | exact frz_true (by first | assumption | omega) | exact frz_false (by first | assumption | omega) | exact frz_eq (frz_c cv_rfl) (by first | rfl | (simp <;> fail) | fail))) | exact out_own rfl rfl)
theorem ap_idle : Idle Try.prog 25 2 := by
  intro us w hl
  obtain ⟨u0, u1, rfl⟩ : ∃ u0 u1, us = [u0, u1] := by
    match us, hl with | [u0, u1], _ => exact ⟨u0, u1, rfl⟩
  refine callsD_of_wpS Try.func25 rfl fun c₀ cs hu => ?_
  apply wpS_seq
  apply wpS_region
  simp [wpOpsS, go_sem, recoverD, hu, Try.ntmps25, Exit.thenS]
  refine wpS_cond (t := false) (by simp [Act.eval, Array.replicate]) ?_
  simp only [Bool.false_eq_true, if_false]
  refine wpS_of_wp (wp_skip ?_)
  cases c₀
  simp_all [bodyPostS, results, Try.results25]
theorem ap_idle_b : Body Try.prog 25 := by unfold Body; kernel_rfl
theorem sy_idle : Idle Try.prog 37 2 := by
  intro us w hl
  obtain ⟨u0, u1, rfl⟩ : ∃ u0 u1, us = [u0, u1] := by
    match us, hl with | [u0, u1], _ => exact ⟨u0, u1, rfl⟩
  refine callsD_of_wpS Try.func37 rfl fun c₀ cs hu => ?_
  apply wpS_seq
  apply wpS_region
  simp [wpOpsS, go_sem, recoverD, hu, Try.ntmps37, Exit.thenS]
  refine wpS_cond (t := false) (by simp [Act.eval, Array.replicate]) ?_
  simp only [Bool.false_eq_true, if_false]
  refine wpS_of_wp (wp_skip ?_)
  cases c₀
  simp_all [bodyPostS, results, Try.results37]
theorem sy_idle_b : Body Try.prog 37 := by unfold Body; kernel_rfl
theorem fa_idle : Idle Try.prog 28 2 := by
  intro us w hl
  obtain ⟨u0, u1, rfl⟩ : ∃ u0 u1, us = [u0, u1] := by
    match us, hl with | [u0, u1], _ => exact ⟨u0, u1, rfl⟩
  refine callsD_of_wpS Try.func28 rfl fun c₀ cs hu => ?_
  apply wpS_seq
  apply wpS_region
  simp [wpOpsS, go_sem, recoverD, hu, Try.ntmps28, Exit.thenS]
  refine wpS_cond (t := false) (by simp [Act.eval, Array.replicate]) ?_
  simp only [Bool.false_eq_true, if_false]
  refine wpS_of_wp (wp_skip ?_)
  cases c₀
  simp_all [bodyPostS, results, Try.results28]
theorem fa_idle_b : Body Try.prog 28 := by unfold Body; kernel_rfl
theorem cr_idle : Idle Try.prog 36 2 := by
  intro us w hl
  obtain ⟨u0, u1, rfl⟩ : ∃ u0 u1, us = [u0, u1] := by
    match us, hl with | [u0, u1], _ => exact ⟨u0, u1, rfl⟩
  refine callsD_of_wpS Try.func36 rfl fun c₀ cs hu => ?_
  apply wpS_seq
  apply wpS_region
  simp [wpOpsS, go_sem, recoverD, hu, Try.ntmps36, Exit.thenS]
  refine wpS_cond (t := false) (by simp [Act.eval, Array.replicate]) ?_
  simp only [Bool.false_eq_true, if_false]
  refine wpS_of_wp (wp_skip ?_)
  cases c₀
  simp_all [bodyPostS, results, Try.results36]
theorem cr_idle_b : Body Try.prog 36 := by unfold Body; kernel_rfl
theorem cu_idle : Idle Try.prog 38 2 := by
  intro us w hl
  obtain ⟨u0, u1, rfl⟩ : ∃ u0 u1, us = [u0, u1] := by
    match us, hl with | [u0, u1], _ => exact ⟨u0, u1, rfl⟩
  refine callsD_of_wpS Try.func38 rfl fun c₀ cs hu => ?_
  apply wpS_seq
  apply wpS_region
  simp [wpOpsS, go_sem, recoverD, hu, Try.ntmps38, Exit.thenS]
  refine wpS_cond (t := false) (by simp [Act.eval, Array.replicate]) ?_
  simp only [Bool.false_eq_true, if_false]
  refine wpS_of_wp (wp_skip ?_)
  cases c₀
  simp_all [bodyPostS, results, Try.results38]
theorem cu_idle_b : Body Try.prog 38 := by unfold Body; kernel_rfl
theorem re_idle : Idle Try.prog 29 2 := by
  intro us w hl
  obtain ⟨u0, u1, rfl⟩ : ∃ u0 u1, us = [u0, u1] := by
    match us, hl with | [u0, u1], _ => exact ⟨u0, u1, rfl⟩
  refine callsD_of_wpS Try.func29 rfl fun c₀ cs hu => ?_
  apply wpS_seq
  apply wpS_region
  simp [wpOpsS, go_sem, recoverD, hu, Try.ntmps29, Exit.thenS]
  refine wpS_cond (t := false) (by simp [Act.eval, Array.replicate]) ?_
  simp only [Bool.false_eq_true, if_false]
  refine wpS_of_wp (wp_skip ?_)
  cases c₀
  simp_all [bodyPostS, results, Try.results29]
theorem re_idle_b : Body Try.prog 29 := by unfold Body; kernel_rfl
set_option maxHeartbeats 4000000 in
theorem append_ok (sy pe b : List UInt8) (fu : Int) (dn : Bool) (m k n : Nat) (hm : sy.length = m) (hk : pe.length = k) (hn : b.length = n) (h1 : m ≤ 1000000) (h2 : k ≤ 1000000) (h3 : n ≤ 1000000) (h5 : fu ≤ 9223372036854775807) (s' : Dk) (e : Int) (m' k' : Nat) (hr : opA ⟨sy, pe, fu, dn⟩ b = (s', e)) (hm' : s'.sy.length = m') (hk' : s'.pe.length = k') : AC Try.prog 10 [dkC m k sy pe fu dn, .sl 1 n (u8c b)] (.tup [.c (dkV m' k' s'), .c (iv e)]) [] 0 := by
  have hva := valid_ok sy pe fu dn m k hm hk h1 h2
  have hcl := clone_ok sy pe fu dn m k hm hk h1 h2
  have j1 := fun b n q hn hq h => join_ok pe b k n q hk hn hq h
  have hua : (u8c sy).length = m := by rw [u8c_length, hm]
  have hub : (u8c pe).length = k := by rw [u8c_length, hk]
  have hun : (u8c b).length = n := by rw [u8c_length, hn]
  cases hok : Dk.ok ⟨sy, pe, fu, dn⟩ with
  | false =>
    rw [hok] at hva
    simp only [opA, hok, if_true] at hr
    injection hr with e1 e2
    subst e1 e2 hm' hk'
    refine ac_enter tabOk (sz := 65) Try.func10 rfl (by rw [Try.ntmps10]; rfl) ?_
    repeat' (first
    | ((with_reducible refine aw_seqk ?_); intro K hK hX)
    | ((with_reducible refine isC_reg ?_); refine aw_prune [0, 1, 2, 4, 5] rfl rfl ?_; with_reducible refine aw_region ?_)
    | ((with_reducible refine isC_draw ?_); refine aw_prune [0, 1, 2, 4, 5] rfl rfl ?_; refine aw_drwF [] ?_)
    | ((first | with_reducible refine isA_call ?_ | with_reducible refine isD_call ?_); (first | refine zA ?_ | refine zN ?_ | refine zD ?_); (first | refine c0 (hva) ?_))
    | refine stA ?_
    | refine stD ?_
    | (refine hK _ _ _ _ ?_; clear hK hX K)
    | (refine hX _ _ _ _ _ (by simp) ?_; clear hK hX K))
    refine retK_mk (by first | exact .inl rfl | exact .inr rfl) (by exact ⟨ap_idle, ap_idle_b, trivial⟩) rfl (ResL.two (by first | exact ResA.one rfl rfl rfl rfl rfl | exact ResA.agg rfl rfl rfl rfl rfl (by first | exact IsAgg.closed rfl rfl | exact IsAgg.mixed _) | exact ResA.aggr rfl rfl rfl rfl (by first | rfl | with_reducible assumption | (simp <;> fail) | omega | (simp <;> omega) | assumption)) (by first | exact ResA.one rfl rfl rfl rfl rfl | exact ResA.agg rfl rfl rfl rfl rfl (by first | exact IsAgg.closed rfl rfl | exact IsAgg.mixed _) | exact ResA.aggr rfl rfl rfl rfl (by first | rfl | with_reducible assumption | (simp <;> fail) | omega | (simp <;> omega) | assumption))) (out_t (frzl_cons (by repeat' (first | exact frz_c cv_rfl | exact frz_c cv_nil | exact frz_ownW rfl rfl (by first | rfl | with_reducible assumption | (simp <;> fail) | omega | (simp <;> omega) | assumption) | exact frz_own rfl rfl rfl (by first | rfl | with_reducible assumption | (simp <;> fail) | omega | (simp <;> omega) | assumption) | exact frz_cv (frz_ownW rfl rfl (by first | rfl | with_reducible assumption | (simp <;> fail) | omega | (simp <;> omega) | assumption)) (cv_sl (by first | rfl | omega | (simp <;> fail) | fail) (by first | rfl | omega | (simp <;> fail) | fail)) | exact frz_cv (frz_own rfl rfl rfl (by first | rfl | with_reducible assumption | (simp <;> fail) | omega | (simp <;> omega) | assumption)) (cv_sl (by first | rfl | omega | (simp <;> fail) | fail) (by first | rfl | omega | (simp <;> fail) | fail)) | refine frz_agg rfl ?_ | refine frz_c (cv_agg ?_) | exact frzl_nil | refine frzl_cons ?_ ?_ | exact cvl_nil | refine cvl_cons ?_ ?_ | exact cv_rfl | exact cv_nil | exact cv_sl (by first | rfl | omega | (simp <;> fail) | fail) (by first | rfl | omega | (simp <;> fail) | fail) | exact frz_own rfl rfl (by assumption) (by assumption) | exact frz_int (by first | exact w64 (by omega) (by omega) | omega) | exact frz_true (by first | assumption | omega) | exact frz_false (by first | assumption | omega) | exact frz_eq (frz_c cv_rfl) (by first | rfl | (simp <;> fail) | fail))) (frzl_cons (by repeat' (first | exact frz_c cv_rfl | exact frz_c cv_nil | exact frz_ownW rfl rfl (by first | rfl | with_reducible assumption | (simp <;> fail) | omega | (simp <;> omega) | assumption) | exact frz_own rfl rfl rfl (by first | rfl | with_reducible assumption | (simp <;> fail) | omega | (simp <;> omega) | assumption) | exact frz_cv (frz_ownW rfl rfl (by first | rfl | with_reducible assumption | (simp <;> fail) | omega | (simp <;> omega) | assumption)) (cv_sl (by first | rfl | omega | (simp <;> fail) | fail) (by first | rfl | omega | (simp <;> fail) | fail)) | exact frz_cv (frz_own rfl rfl rfl (by first | rfl | with_reducible assumption | (simp <;> fail) | omega | (simp <;> omega) | assumption)) (cv_sl (by first | rfl | omega | (simp <;> fail) | fail) (by first | rfl | omega | (simp <;> fail) | fail)) | refine frz_agg rfl ?_ | refine frz_c (cv_agg ?_) | exact frzl_nil | refine frzl_cons ?_ ?_ | exact cvl_nil | refine cvl_cons ?_ ?_ | exact cv_rfl | exact cv_nil | exact cv_sl (by first | rfl | omega | (simp <;> fail) | fail) (by first | rfl | omega | (simp <;> fail) | fail) | exact frz_own rfl rfl (by assumption) (by assumption) | exact frz_int (by first | exact w64 (by omega) (by omega) | omega) | exact frz_true (by first | assumption | omega) | exact frz_false (by first | assumption | omega) | exact frz_eq (frz_c cv_rfl) (by first | rfl | (simp <;> fail) | fail))) frzl_nil)))
  | true =>
    rw [hok] at hva
    obtain ⟨l1, l2⟩ := ok_facts hm hk hok
    simp only [opA, hok, hm, hk, hn, Bool.true_eq_false, if_false] at hr
    cases dn with
    | true =>
      simp only [if_true] at hr
      injection hr with e1 e2
      subst e1 e2
      obtain rfl : m = m' := by rw [← hm, ← hm']
      obtain rfl : k = k' := by rw [← hk, ← hk']
      refine ac_enter tabOk (sz := 65) Try.func10 rfl (by rw [Try.ntmps10]; rfl) ?_
      repeat' (first
    | ((with_reducible refine aw_seqk ?_); intro K hK hX)
    | ((with_reducible refine isC_reg ?_); refine aw_prune [0, 1, 2, 4, 5] rfl rfl ?_; with_reducible refine aw_region ?_)
    | ((with_reducible refine isC_draw ?_); refine aw_prune [0, 1, 2, 4, 5] rfl rfl ?_; refine aw_drwF [] ?_)
    | ((first | with_reducible refine isA_call ?_ | with_reducible refine isD_call ?_); (first | refine zA ?_ | refine zN ?_ | refine zD ?_); (first | refine c0 (hva) ?_ | refine c0 (hcl) ?_))
    | refine stA ?_
    | refine stD ?_
    | (refine hK _ _ _ _ ?_; clear hK hX K)
    | (refine hX _ _ _ _ _ (by simp) ?_; clear hK hX K))
      refine retK_mk (by first | exact .inl rfl | exact .inr rfl) (by exact ⟨ap_idle, ap_idle_b, trivial⟩) rfl (ResL.two (by first | exact ResA.one rfl rfl rfl rfl rfl | exact ResA.agg rfl rfl rfl rfl rfl (by first | exact IsAgg.closed rfl rfl | exact IsAgg.mixed _) | exact ResA.aggr rfl rfl rfl rfl (by first | rfl | with_reducible assumption | (simp <;> fail) | omega | (simp <;> omega) | assumption)) (by first | exact ResA.one rfl rfl rfl rfl rfl | exact ResA.agg rfl rfl rfl rfl rfl (by first | exact IsAgg.closed rfl rfl | exact IsAgg.mixed _) | exact ResA.aggr rfl rfl rfl rfl (by first | rfl | with_reducible assumption | (simp <;> fail) | omega | (simp <;> omega) | assumption))) (out_t (frzl_cons (by repeat' (first | exact frz_c cv_rfl | exact frz_c cv_nil | exact frz_ownW rfl rfl (by first | rfl | with_reducible assumption | (simp <;> fail) | omega | (simp <;> omega) | assumption) | exact frz_own rfl rfl rfl (by first | rfl | with_reducible assumption | (simp <;> fail) | omega | (simp <;> omega) | assumption) | exact frz_cv (frz_ownW rfl rfl (by first | rfl | with_reducible assumption | (simp <;> fail) | omega | (simp <;> omega) | assumption)) (cv_sl (by first | rfl | omega | (simp <;> fail) | fail) (by first | rfl | omega | (simp <;> fail) | fail)) | exact frz_cv (frz_own rfl rfl rfl (by first | rfl | with_reducible assumption | (simp <;> fail) | omega | (simp <;> omega) | assumption)) (cv_sl (by first | rfl | omega | (simp <;> fail) | fail) (by first | rfl | omega | (simp <;> fail) | fail)) | refine frz_agg rfl ?_ | refine frz_c (cv_agg ?_) | exact frzl_nil | refine frzl_cons ?_ ?_ | exact cvl_nil | refine cvl_cons ?_ ?_ | exact cv_rfl | exact cv_nil | exact cv_sl (by first | rfl | omega | (simp <;> fail) | fail) (by first | rfl | omega | (simp <;> fail) | fail) | exact frz_own rfl rfl (by assumption) (by assumption) | exact frz_int (by first | exact w64 (by omega) (by omega) | omega) | exact frz_true (by first | assumption | omega) | exact frz_false (by first | assumption | omega) | exact frz_eq (frz_c cv_rfl) (by first | rfl | (simp <;> fail) | fail))) (frzl_cons (by repeat' (first | exact frz_c cv_rfl | exact frz_c cv_nil | exact frz_ownW rfl rfl (by first | rfl | with_reducible assumption | (simp <;> fail) | omega | (simp <;> omega) | assumption) | exact frz_own rfl rfl rfl (by first | rfl | with_reducible assumption | (simp <;> fail) | omega | (simp <;> omega) | assumption) | exact frz_cv (frz_ownW rfl rfl (by first | rfl | with_reducible assumption | (simp <;> fail) | omega | (simp <;> omega) | assumption)) (cv_sl (by first | rfl | omega | (simp <;> fail) | fail) (by first | rfl | omega | (simp <;> fail) | fail)) | exact frz_cv (frz_own rfl rfl rfl (by first | rfl | with_reducible assumption | (simp <;> fail) | omega | (simp <;> omega) | assumption)) (cv_sl (by first | rfl | omega | (simp <;> fail) | fail) (by first | rfl | omega | (simp <;> fail) | fail)) | refine frz_agg rfl ?_ | refine frz_c (cv_agg ?_) | exact frzl_nil | refine frzl_cons ?_ ?_ | exact cvl_nil | refine cvl_cons ?_ ?_ | exact cv_rfl | exact cv_nil | exact cv_sl (by first | rfl | omega | (simp <;> fail) | fail) (by first | rfl | omega | (simp <;> fail) | fail) | exact frz_own rfl rfl (by assumption) (by assumption) | exact frz_int (by first | exact w64 (by omega) (by omega) | omega) | exact frz_true (by first | assumption | omega) | exact frz_false (by first | assumption | omega) | exact frz_eq (frz_c cv_rfl) (by first | rfl | (simp <;> fail) | fail))) frzl_nil)))
    | false =>
      simp only [Bool.false_eq_true, if_false] at hr
      by_cases b1 : 131072 < m + k + n
      · rw [if_pos b1] at hr
        injection hr with e1 e2
        subst e1 e2 hm' hk'
        refine ac_enter tabOk (sz := 65) Try.func10 rfl (by rw [Try.ntmps10]; rfl) ?_
        repeat' (first
    | ((with_reducible refine aw_seqk ?_); intro K hK hX)
    | ((with_reducible refine isC_reg ?_); refine aw_prune [0, 1, 2, 4, 5] rfl rfl ?_; with_reducible refine aw_region ?_)
    | ((with_reducible refine isC_draw ?_); refine aw_prune [0, 1, 2, 4, 5] rfl rfl ?_; refine aw_drwF [] ?_)
    | ((first | with_reducible refine isA_call ?_ | with_reducible refine isD_call ?_); (first | refine zA ?_ | refine zN ?_ | refine zD ?_); (first | refine c0 (hva) ?_ | refine c0 (hcl) ?_))
    | refine stA ?_
    | refine stD ?_
    | (refine hK _ _ _ _ ?_; clear hK hX K)
    | (refine hX _ _ _ _ _ (by simp) ?_; clear hK hX K))
        refine retK_mk (by first | exact .inl rfl | exact .inr rfl) (by exact ⟨ap_idle, ap_idle_b, trivial⟩) rfl (ResL.two (by first | exact ResA.one rfl rfl rfl rfl rfl | exact ResA.agg rfl rfl rfl rfl rfl (by first | exact IsAgg.closed rfl rfl | exact IsAgg.mixed _) | exact ResA.aggr rfl rfl rfl rfl (by first | rfl | with_reducible assumption | (simp <;> fail) | omega | (simp <;> omega) | assumption)) (by first | exact ResA.one rfl rfl rfl rfl rfl | exact ResA.agg rfl rfl rfl rfl rfl (by first | exact IsAgg.closed rfl rfl | exact IsAgg.mixed _) | exact ResA.aggr rfl rfl rfl rfl (by first | rfl | with_reducible assumption | (simp <;> fail) | omega | (simp <;> omega) | assumption))) (out_t (frzl_cons (by repeat' (first | exact frz_c cv_rfl | exact frz_c cv_nil | exact frz_ownW rfl rfl (by first | rfl | with_reducible assumption | (simp <;> fail) | omega | (simp <;> omega) | assumption) | exact frz_own rfl rfl rfl (by first | rfl | with_reducible assumption | (simp <;> fail) | omega | (simp <;> omega) | assumption) | exact frz_cv (frz_ownW rfl rfl (by first | rfl | with_reducible assumption | (simp <;> fail) | omega | (simp <;> omega) | assumption)) (cv_sl (by first | rfl | omega | (simp <;> fail) | fail) (by first | rfl | omega | (simp <;> fail) | fail)) | exact frz_cv (frz_own rfl rfl rfl (by first | rfl | with_reducible assumption | (simp <;> fail) | omega | (simp <;> omega) | assumption)) (cv_sl (by first | rfl | omega | (simp <;> fail) | fail) (by first | rfl | omega | (simp <;> fail) | fail)) | refine frz_agg rfl ?_ | refine frz_c (cv_agg ?_) | exact frzl_nil | refine frzl_cons ?_ ?_ | exact cvl_nil | refine cvl_cons ?_ ?_ | exact cv_rfl | exact cv_nil | exact cv_sl (by first | rfl | omega | (simp <;> fail) | fail) (by first | rfl | omega | (simp <;> fail) | fail) | exact frz_own rfl rfl (by assumption) (by assumption) | exact frz_int (by first | exact w64 (by omega) (by omega) | omega) | exact frz_true (by first | assumption | omega) | exact frz_false (by first | assumption | omega) | exact frz_eq (frz_c cv_rfl) (by first | rfl | (simp <;> fail) | fail))) (frzl_cons (by repeat' (first | exact frz_c cv_rfl | exact frz_c cv_nil | exact frz_ownW rfl rfl (by first | rfl | with_reducible assumption | (simp <;> fail) | omega | (simp <;> omega) | assumption) | exact frz_own rfl rfl rfl (by first | rfl | with_reducible assumption | (simp <;> fail) | omega | (simp <;> omega) | assumption) | exact frz_cv (frz_ownW rfl rfl (by first | rfl | with_reducible assumption | (simp <;> fail) | omega | (simp <;> omega) | assumption)) (cv_sl (by first | rfl | omega | (simp <;> fail) | fail) (by first | rfl | omega | (simp <;> fail) | fail)) | exact frz_cv (frz_own rfl rfl rfl (by first | rfl | with_reducible assumption | (simp <;> fail) | omega | (simp <;> omega) | assumption)) (cv_sl (by first | rfl | omega | (simp <;> fail) | fail) (by first | rfl | omega | (simp <;> fail) | fail)) | refine frz_agg rfl ?_ | refine frz_c (cv_agg ?_) | exact frzl_nil | refine frzl_cons ?_ ?_ | exact cvl_nil | refine cvl_cons ?_ ?_ | exact cv_rfl | exact cv_nil | exact cv_sl (by first | rfl | omega | (simp <;> fail) | fail) (by first | rfl | omega | (simp <;> fail) | fail) | exact frz_own rfl rfl (by assumption) (by assumption) | exact frz_int (by first | exact w64 (by omega) (by omega) | omega) | exact frz_true (by first | assumption | omega) | exact frz_false (by first | assumption | omega) | exact frz_eq (frz_c cv_rfl) (by first | rfl | (simp <;> fail) | fail))) frzl_nil)))
      · rw [if_neg b1] at hr
        by_cases b2 : fu = -1
        · subst b2
          rw [if_neg (fun h => h.1 rfl), if_pos rfl] at hr
          injection hr with e1 e2
          subst e1 e2
          obtain rfl : m = m' := by rw [← hm, ← hm']
          obtain rfl : k + n = k' := by rw [← hk', List.length_append, hk, hn]
          have hj := j1 b n _ hn rfl (by omega)
          have hab : (u8c (pe ++ b)).length = k + n := by rw [u8c_length, hk']
          refine ac_enter tabOk (sz := 65) Try.func10 rfl (by rw [Try.ntmps10]; rfl) ?_
          repeat' (first
    | ((with_reducible refine aw_seqk ?_); intro K hK hX)
    | ((with_reducible refine isC_reg ?_); refine aw_prune [0, 1, 2, 4, 5] rfl rfl ?_; with_reducible refine aw_region ?_)
    | ((with_reducible refine isC_draw ?_); refine aw_prune [0, 1, 2, 4, 5] rfl rfl ?_; refine aw_drwF [] ?_)
    | ((first | with_reducible refine isA_call ?_ | with_reducible refine isD_call ?_); (first | refine zA ?_ | refine zN ?_ | refine zD ?_); (first | refine c0 (hva) ?_ | refine c0 (hcl) ?_ | refine c1 (hj) ?_))
    | refine stA ?_
    | refine stD ?_
    | (refine hK _ _ _ _ ?_; clear hK hX K)
    | (refine hX _ _ _ _ _ (by simp) ?_; clear hK hX K))
          refine retK_mk (by first | exact .inl rfl | exact .inr rfl) (by exact ⟨ap_idle, ap_idle_b, trivial⟩) rfl (ResL.two (by first | exact ResA.one rfl rfl rfl rfl rfl | exact ResA.agg rfl rfl rfl rfl rfl (by first | exact IsAgg.closed rfl rfl | exact IsAgg.mixed _) | exact ResA.aggr rfl rfl rfl rfl (by first | rfl | with_reducible assumption | (simp <;> fail) | omega | (simp <;> omega) | assumption)) (by first | exact ResA.one rfl rfl rfl rfl rfl | exact ResA.agg rfl rfl rfl rfl rfl (by first | exact IsAgg.closed rfl rfl | exact IsAgg.mixed _) | exact ResA.aggr rfl rfl rfl rfl (by first | rfl | with_reducible assumption | (simp <;> fail) | omega | (simp <;> omega) | assumption))) (out_t (frzl_cons (by repeat' (first | exact frz_c cv_rfl | exact frz_c cv_nil | exact frz_ownW rfl rfl (by first | rfl | with_reducible assumption | (simp <;> fail) | omega | (simp <;> omega) | assumption) | exact frz_own rfl rfl rfl (by first | rfl | with_reducible assumption | (simp <;> fail) | omega | (simp <;> omega) | assumption) | exact frz_cv (frz_ownW rfl rfl (by first | rfl | with_reducible assumption | (simp <;> fail) | omega | (simp <;> omega) | assumption)) (cv_sl (by first | rfl | omega | (simp <;> fail) | fail) (by first | rfl | omega | (simp <;> fail) | fail)) | exact frz_cv (frz_own rfl rfl rfl (by first | rfl | with_reducible assumption | (simp <;> fail) | omega | (simp <;> omega) | assumption)) (cv_sl (by first | rfl | omega | (simp <;> fail) | fail) (by first | rfl | omega | (simp <;> fail) | fail)) | refine frz_agg rfl ?_ | refine frz_c (cv_agg ?_) | exact frzl_nil | refine frzl_cons ?_ ?_ | exact cvl_nil | refine cvl_cons ?_ ?_ | exact cv_rfl | exact cv_nil | exact cv_sl (by first | rfl | omega | (simp <;> fail) | fail) (by first | rfl | omega | (simp <;> fail) | fail) | exact frz_own rfl rfl (by assumption) (by assumption) | exact frz_int (by first | exact w64 (by omega) (by omega) | omega) | exact frz_true (by first | assumption | omega) | exact frz_false (by first | assumption | omega) | exact frz_eq (frz_c cv_rfl) (by first | rfl | (simp <;> fail) | fail))) (frzl_cons (by repeat' (first | exact frz_c cv_rfl | exact frz_c cv_nil | exact frz_ownW rfl rfl (by first | rfl | with_reducible assumption | (simp <;> fail) | omega | (simp <;> omega) | assumption) | exact frz_own rfl rfl rfl (by first | rfl | with_reducible assumption | (simp <;> fail) | omega | (simp <;> omega) | assumption) | exact frz_cv (frz_ownW rfl rfl (by first | rfl | with_reducible assumption | (simp <;> fail) | omega | (simp <;> omega) | assumption)) (cv_sl (by first | rfl | omega | (simp <;> fail) | fail) (by first | rfl | omega | (simp <;> fail) | fail)) | exact frz_cv (frz_own rfl rfl rfl (by first | rfl | with_reducible assumption | (simp <;> fail) | omega | (simp <;> omega) | assumption)) (cv_sl (by first | rfl | omega | (simp <;> fail) | fail) (by first | rfl | omega | (simp <;> fail) | fail)) | refine frz_agg rfl ?_ | refine frz_c (cv_agg ?_) | exact frzl_nil | refine frzl_cons ?_ ?_ | exact cvl_nil | refine cvl_cons ?_ ?_ | exact cv_rfl | exact cv_nil | exact cv_sl (by first | rfl | omega | (simp <;> fail) | fail) (by first | rfl | omega | (simp <;> fail) | fail) | exact frz_own rfl rfl (by assumption) (by assumption) | exact frz_int (by first | exact w64 (by omega) (by omega) | omega) | exact frz_true (by first | assumption | omega) | exact frz_false (by first | assumption | omega) | exact frz_eq (frz_c cv_rfl) (by first | rfl | (simp <;> fail) | fail))) frzl_nil)))
        · by_cases b3 : fu < (n : Int)
          · rw [if_pos ⟨b2, b3⟩] at hr
            injection hr with e1 e2
            subst e1 e2
            obtain rfl : m = m' := by rw [← hm, ← hm']
            obtain ⟨q, rfl⟩ : ∃ q : Nat, fu = (q : Int) := ⟨fu.toNat, by omega⟩
            rw [Int.toNat_natCast] at hk'
            have hq : (b.take q).length = q := by rw [List.length_take]; omega
            obtain rfl : k + q = k' := by rw [← hk', List.length_append, hk, hq]
            have hj := j1 (b.take q) q _ hq rfl (by omega)
            have hab : (u8c (pe ++ b.take q)).length = k + q := by rw [u8c_length, hk']
            refine ac_enter tabOk (sz := 65) Try.func10 rfl (by rw [Try.ntmps10]; rfl) ?_
            repeat' (first
    | ((with_reducible refine aw_seqk ?_); intro K hK hX)
    | ((with_reducible refine isC_reg ?_); refine aw_prune [0, 1, 2, 4, 5] rfl rfl ?_; with_reducible refine aw_region ?_)
    | ((with_reducible refine isC_draw ?_); refine aw_prune [0, 1, 2, 4, 5] rfl rfl ?_; refine aw_drwE [] ?_)
    | ((first | with_reducible refine isA_call ?_ | with_reducible refine isE_call ?_); (first | refine zA ?_ | refine zN ?_ | refine zE ?_); (first | refine c0 (hva) ?_ | refine c0 (hcl) ?_ | refine c1 (hj) ?_))
    | refine stA ?_
    | refine stE ?_
    | (refine hK _ _ _ _ ?_; clear hK hX K)
    | (refine hX _ _ _ _ _ (by simp) ?_; clear hK hX K))
            refine retK_mk (by first | exact .inl rfl | exact .inr rfl) (by exact ⟨ap_idle, ap_idle_b, trivial⟩) rfl (ResL.two (by first | exact ResA.one rfl rfl rfl rfl rfl | exact ResA.agg rfl rfl rfl rfl rfl (by first | exact IsAgg.closed rfl rfl | exact IsAgg.mixed _) | exact ResA.aggr rfl rfl rfl rfl (by first | rfl | with_reducible assumption | (simp <;> fail) | omega | (simp <;> omega) | assumption)) (by first | exact ResA.one rfl rfl rfl rfl rfl | exact ResA.agg rfl rfl rfl rfl rfl (by first | exact IsAgg.closed rfl rfl | exact IsAgg.mixed _) | exact ResA.aggr rfl rfl rfl rfl (by first | rfl | with_reducible assumption | (simp <;> fail) | omega | (simp <;> omega) | assumption))) (out_t (frzl_cons (by repeat' (first | exact frz_c cv_rfl | exact frz_c cv_nil | exact frz_ownW rfl rfl (by first | rfl | with_reducible assumption | (simp <;> fail) | omega | (simp <;> omega) | assumption) | exact frz_own rfl rfl rfl (by first | rfl | with_reducible assumption | (simp <;> fail) | omega | (simp <;> omega) | assumption) | exact frz_cv (frz_ownW rfl rfl (by first | rfl | with_reducible assumption | (simp <;> fail) | omega | (simp <;> omega) | assumption)) (cv_sl (by first | rfl | omega | (simp <;> fail) | fail) (by first | rfl | omega | (simp <;> fail) | fail)) | exact frz_cv (frz_own rfl rfl rfl (by first | rfl | with_reducible assumption | (simp <;> fail) | omega | (simp <;> omega) | assumption)) (cv_sl (by first | rfl | omega | (simp <;> fail) | fail) (by first | rfl | omega | (simp <;> fail) | fail)) | refine frz_agg rfl ?_ | refine frz_c (cv_agg ?_) | exact frzl_nil | refine frzl_cons ?_ ?_ | exact cvl_nil | refine cvl_cons ?_ ?_ | exact cv_rfl | exact cv_nil | exact cv_sl (by first | rfl | omega | (simp <;> fail) | fail) (by first | rfl | omega | (simp <;> fail) | fail) | exact frz_own rfl rfl (by assumption) (by assumption) | exact frz_int (by first | exact w64 (by omega) (by omega) | omega) | exact frz_true (by first | assumption | omega) | exact frz_false (by first | assumption | omega) | exact frz_eq (frz_c cv_rfl) (by first | rfl | (simp <;> fail) | fail))) (frzl_cons (by repeat' (first | exact frz_c cv_rfl | exact frz_c cv_nil | exact frz_ownW rfl rfl (by first | rfl | with_reducible assumption | (simp <;> fail) | omega | (simp <;> omega) | assumption) | exact frz_own rfl rfl rfl (by first | rfl | with_reducible assumption | (simp <;> fail) | omega | (simp <;> omega) | assumption) | exact frz_cv (frz_ownW rfl rfl (by first | rfl | with_reducible assumption | (simp <;> fail) | omega | (simp <;> omega) | assumption)) (cv_sl (by first | rfl | omega | (simp <;> fail) | fail) (by first | rfl | omega | (simp <;> fail) | fail)) | exact frz_cv (frz_own rfl rfl rfl (by first | rfl | with_reducible assumption | (simp <;> fail) | omega | (simp <;> omega) | assumption)) (cv_sl (by first | rfl | omega | (simp <;> fail) | fail) (by first | rfl | omega | (simp <;> fail) | fail)) | refine frz_agg rfl ?_ | refine frz_c (cv_agg ?_) | exact frzl_nil | refine frzl_cons ?_ ?_ | exact cvl_nil | refine cvl_cons ?_ ?_ | exact cv_rfl | exact cv_nil | exact cv_sl (by first | rfl | omega | (simp <;> fail) | fail) (by first | rfl | omega | (simp <;> fail) | fail) | exact frz_own rfl rfl (by assumption) (by assumption) | exact frz_int (by first | exact w64 (by omega) (by omega) | omega) | exact frz_true (by first | assumption | omega) | exact frz_false (by first | assumption | omega) | exact frz_eq (frz_c cv_rfl) (by first | rfl | (simp <;> fail) | fail))) frzl_nil)))
          · rw [if_neg (fun h => b3 h.2), if_neg b2] at hr
            injection hr with e1 e2
            subst e1 e2
            obtain rfl : m = m' := by rw [← hm, ← hm']
            obtain rfl : k + n = k' := by rw [← hk', List.length_append, hk, hn]
            have hj := j1 b n _ hn rfl (by omega)
            have hab : (u8c (pe ++ b)).length = k + n := by rw [u8c_length, hk']
            refine ac_enter tabOk (sz := 65) Try.func10 rfl (by rw [Try.ntmps10]; rfl) ?_
            repeat' (first
    | ((with_reducible refine aw_seqk ?_); intro K hK hX)
    | ((with_reducible refine isC_reg ?_); refine aw_prune [0, 1, 2, 4, 5] rfl rfl ?_; with_reducible refine aw_region ?_)
    | ((with_reducible refine isC_draw ?_); refine aw_prune [0, 1, 2, 4, 5] rfl rfl ?_; refine aw_drwF [] ?_)
    | ((first | with_reducible refine isA_call ?_ | with_reducible refine isD_call ?_); (first | refine zA ?_ | refine zN ?_ | refine zD ?_); (first | refine c0 (hva) ?_ | refine c0 (hcl) ?_ | refine c1 (hj) ?_))
    | refine stA ?_
    | refine stD ?_
    | (refine hK _ _ _ _ ?_; clear hK hX K)
    | (refine hX _ _ _ _ _ (by simp) ?_; clear hK hX K))
            refine retK_mk (by first | exact .inl rfl | exact .inr rfl) (by exact ⟨ap_idle, ap_idle_b, trivial⟩) rfl (ResL.two (by first | exact ResA.one rfl rfl rfl rfl rfl | exact ResA.agg rfl rfl rfl rfl rfl (by first | exact IsAgg.closed rfl rfl | exact IsAgg.mixed _) | exact ResA.aggr rfl rfl rfl rfl (by first | rfl | with_reducible assumption | (simp <;> fail) | omega | (simp <;> omega) | assumption)) (by first | exact ResA.one rfl rfl rfl rfl rfl | exact ResA.agg rfl rfl rfl rfl rfl (by first | exact IsAgg.closed rfl rfl | exact IsAgg.mixed _) | exact ResA.aggr rfl rfl rfl rfl (by first | rfl | with_reducible assumption | (simp <;> fail) | omega | (simp <;> omega) | assumption))) (out_t (frzl_cons (by repeat' (first | exact frz_c cv_rfl | exact frz_c cv_nil | exact frz_ownW rfl rfl (by first | rfl | with_reducible assumption | (simp <;> fail) | omega | (simp <;> omega) | assumption) | exact frz_own rfl rfl rfl (by first | rfl | with_reducible assumption | (simp <;> fail) | omega | (simp <;> omega) | assumption) | exact frz_cv (frz_ownW rfl rfl (by first | rfl | with_reducible assumption | (simp <;> fail) | omega | (simp <;> omega) | assumption)) (cv_sl (by first | rfl | omega | (simp <;> fail) | fail) (by first | rfl | omega | (simp <;> fail) | fail)) | exact frz_cv (frz_own rfl rfl rfl (by first | rfl | with_reducible assumption | (simp <;> fail) | omega | (simp <;> omega) | assumption)) (cv_sl (by first | rfl | omega | (simp <;> fail) | fail) (by first | rfl | omega | (simp <;> fail) | fail)) | refine frz_agg rfl ?_ | refine frz_c (cv_agg ?_) | exact frzl_nil | refine frzl_cons ?_ ?_ | exact cvl_nil | refine cvl_cons ?_ ?_ | exact cv_rfl | exact cv_nil | exact cv_sl (by first | rfl | omega | (simp <;> fail) | fail) (by first | rfl | omega | (simp <;> fail) | fail) | exact frz_own rfl rfl (by assumption) (by assumption) | exact frz_int (by first | exact w64 (by omega) (by omega) | omega) | exact frz_true (by first | assumption | omega) | exact frz_false (by first | assumption | omega) | exact frz_eq (frz_c cv_rfl) (by first | rfl | (simp <;> fail) | fail))) (frzl_cons (by repeat' (first | exact frz_c cv_rfl | exact frz_c cv_nil | exact frz_ownW rfl rfl (by first | rfl | with_reducible assumption | (simp <;> fail) | omega | (simp <;> omega) | assumption) | exact frz_own rfl rfl rfl (by first | rfl | with_reducible assumption | (simp <;> fail) | omega | (simp <;> omega) | assumption) | exact frz_cv (frz_ownW rfl rfl (by first | rfl | with_reducible assumption | (simp <;> fail) | omega | (simp <;> omega) | assumption)) (cv_sl (by first | rfl | omega | (simp <;> fail) | fail) (by first | rfl | omega | (simp <;> fail) | fail)) | exact frz_cv (frz_own rfl rfl rfl (by first | rfl | with_reducible assumption | (simp <;> fail) | omega | (simp <;> omega) | assumption)) (cv_sl (by first | rfl | omega | (simp <;> fail) | fail) (by first | rfl | omega | (simp <;> fail) | fail)) | refine frz_agg rfl ?_ | refine frz_c (cv_agg ?_) | exact frzl_nil | refine frzl_cons ?_ ?_ | exact cvl_nil | refine cvl_cons ?_ ?_ | exact cv_rfl | exact cv_nil | exact cv_sl (by first | rfl | omega | (simp <;> fail) | fail) (by first | rfl | omega | (simp <;> fail) | fail) | exact frz_own rfl rfl (by assumption) (by assumption) | exact frz_int (by first | exact w64 (by omega) (by omega) | omega) | exact frz_true (by first | assumption | omega) | exact frz_false (by first | assumption | omega) | exact frz_eq (frz_c cv_rfl) (by first | rfl | (simp <;> fail) | fail))) frzl_nil)))
set_option maxHeartbeats 4000000 in
theorem sync_ok (sy pe : List UInt8) (fu : Int) (dn : Bool) (m k : Nat) (hm : sy.length = m) (hk : pe.length = k) (h1 : m ≤ 1000000) (h2 : k ≤ 1000000) (s' : Dk) (e : Int) (m' k' : Nat) (hr : opS ⟨sy, pe, fu, dn⟩ = (s', e)) (hm' : s'.sy.length = m') (hk' : s'.pe.length = k') : AC Try.prog 23 [dkC m k sy pe fu dn] (.tup [.c (dkV m' k' s'), .c (iv e)]) [] 0 := by
  have hva := valid_ok sy pe fu dn m k hm hk h1 h2
  have hcl := clone_ok sy pe fu dn m k hm hk h1 h2
  have j1 := fun q hq h => join_ok sy pe m k q hm hk hq h
  have hua : (u8c sy).length = m := by rw [u8c_length, hm]
  have hub : (u8c pe).length = k := by rw [u8c_length, hk]
  cases hok : Dk.ok ⟨sy, pe, fu, dn⟩ with
  | false =>
    rw [hok] at hva
    simp only [opS, hok, if_true] at hr
    injection hr with e1 e2
    subst e1 e2 hm' hk'
    refine ac_enter tabOk (sz := 33) Try.func23 rfl (by rw [Try.ntmps23]; rfl) ?_
    repeat' (first
    | ((with_reducible refine aw_seqk ?_); intro K hK hX)
    | ((with_reducible refine isC_reg ?_); refine aw_prune [0, 1, 2, 3] rfl rfl ?_; with_reducible refine aw_region ?_)
    | ((with_reducible refine isA_call ?_); (first | refine zA ?_ | refine zN ?_); (first | refine c0 (hva) ?_))
    | refine stA ?_
    | (refine hK _ _ _ _ ?_; clear hK hX K)
    | (refine hX _ _ _ _ _ (by simp) ?_; clear hK hX K))
    refine retK_mk (by first | exact .inl rfl | exact .inr rfl) (by exact ⟨sy_idle, sy_idle_b, trivial⟩) rfl (ResL.two (by first | exact ResA.one rfl rfl rfl rfl rfl | exact ResA.agg rfl rfl rfl rfl rfl (by first | exact IsAgg.closed rfl rfl | exact IsAgg.mixed _) | exact ResA.aggr rfl rfl rfl rfl (by first | rfl | with_reducible assumption | (simp <;> fail) | omega | (simp <;> omega) | assumption)) (by first | exact ResA.one rfl rfl rfl rfl rfl | exact ResA.agg rfl rfl rfl rfl rfl (by first | exact IsAgg.closed rfl rfl | exact IsAgg.mixed _) | exact ResA.aggr rfl rfl rfl rfl (by first | rfl | with_reducible assumption | (simp <;> fail) | omega | (simp <;> omega) | assumption))) (out_t (frzl_cons (by repeat' (first | exact frz_c cv_rfl | exact frz_c cv_nil | exact frz_ownW rfl rfl (by first | rfl | with_reducible assumption | (simp <;> fail) | omega | (simp <;> omega) | assumption) | exact frz_own rfl rfl rfl (by first | rfl | with_reducible assumption | (simp <;> fail) | omega | (simp <;> omega) | assumption) | exact frz_cv (frz_ownW rfl rfl (by first | rfl | with_reducible assumption | (simp <;> fail) | omega | (simp <;> omega) | assumption)) (cv_sl (by first | rfl | omega | (simp <;> fail) | fail) (by first | rfl | omega | (simp <;> fail) | fail)) | exact frz_cv (frz_own rfl rfl rfl (by first | rfl | with_reducible assumption | (simp <;> fail) | omega | (simp <;> omega) | assumption)) (cv_sl (by first | rfl | omega | (simp <;> fail) | fail) (by first | rfl | omega | (simp <;> fail) | fail)) | refine frz_agg rfl ?_ | refine frz_c (cv_agg ?_) | exact frzl_nil | refine frzl_cons ?_ ?_ | exact cvl_nil | refine cvl_cons ?_ ?_ | exact cv_rfl | exact cv_nil | exact cv_sl (by first | rfl | omega | (simp <;> fail) | fail) (by first | rfl | omega | (simp <;> fail) | fail) | exact frz_own rfl rfl (by assumption) (by assumption) | exact frz_int (by first | exact w64 (by omega) (by omega) | omega) | exact frz_true (by first | assumption | omega) | exact frz_false (by first | assumption | omega) | exact frz_eq (frz_c cv_rfl) (by first | rfl | (simp <;> fail) | fail))) (frzl_cons (by repeat' (first | exact frz_c cv_rfl | exact frz_c cv_nil | exact frz_ownW rfl rfl (by first | rfl | with_reducible assumption | (simp <;> fail) | omega | (simp <;> omega) | assumption) | exact frz_own rfl rfl rfl (by first | rfl | with_reducible assumption | (simp <;> fail) | omega | (simp <;> omega) | assumption) | exact frz_cv (frz_ownW rfl rfl (by first | rfl | with_reducible assumption | (simp <;> fail) | omega | (simp <;> omega) | assumption)) (cv_sl (by first | rfl | omega | (simp <;> fail) | fail) (by first | rfl | omega | (simp <;> fail) | fail)) | exact frz_cv (frz_own rfl rfl rfl (by first | rfl | with_reducible assumption | (simp <;> fail) | omega | (simp <;> omega) | assumption)) (cv_sl (by first | rfl | omega | (simp <;> fail) | fail) (by first | rfl | omega | (simp <;> fail) | fail)) | refine frz_agg rfl ?_ | refine frz_c (cv_agg ?_) | exact frzl_nil | refine frzl_cons ?_ ?_ | exact cvl_nil | refine cvl_cons ?_ ?_ | exact cv_rfl | exact cv_nil | exact cv_sl (by first | rfl | omega | (simp <;> fail) | fail) (by first | rfl | omega | (simp <;> fail) | fail) | exact frz_own rfl rfl (by assumption) (by assumption) | exact frz_int (by first | exact w64 (by omega) (by omega) | omega) | exact frz_true (by first | assumption | omega) | exact frz_false (by first | assumption | omega) | exact frz_eq (frz_c cv_rfl) (by first | rfl | (simp <;> fail) | fail))) frzl_nil)))
  | true =>
    rw [hok] at hva
    obtain ⟨l1, l2⟩ := ok_facts hm hk hok
    simp only [opS, hok, hm, hk, Bool.true_eq_false, if_false] at hr
    cases dn with
    | true =>
      simp only [if_true] at hr
      injection hr with e1 e2
      subst e1 e2
      obtain rfl : m = m' := by rw [← hm, ← hm']
      obtain rfl : k = k' := by rw [← hk, ← hk']
      refine ac_enter tabOk (sz := 33) Try.func23 rfl (by rw [Try.ntmps23]; rfl) ?_
      repeat' (first
    | ((with_reducible refine aw_seqk ?_); intro K hK hX)
    | ((with_reducible refine isC_reg ?_); refine aw_prune [0, 1, 2, 3] rfl rfl ?_; with_reducible refine aw_region ?_)
    | ((with_reducible refine isA_call ?_); (first | refine zA ?_ | refine zN ?_); (first | refine c0 (hva) ?_ | refine c0 (hcl) ?_))
    | refine stA ?_
    | (refine hK _ _ _ _ ?_; clear hK hX K)
    | (refine hX _ _ _ _ _ (by simp) ?_; clear hK hX K))
      refine retK_mk (by first | exact .inl rfl | exact .inr rfl) (by exact ⟨sy_idle, sy_idle_b, trivial⟩) rfl (ResL.two (by first | exact ResA.one rfl rfl rfl rfl rfl | exact ResA.agg rfl rfl rfl rfl rfl (by first | exact IsAgg.closed rfl rfl | exact IsAgg.mixed _) | exact ResA.aggr rfl rfl rfl rfl (by first | rfl | with_reducible assumption | (simp <;> fail) | omega | (simp <;> omega) | assumption)) (by first | exact ResA.one rfl rfl rfl rfl rfl | exact ResA.agg rfl rfl rfl rfl rfl (by first | exact IsAgg.closed rfl rfl | exact IsAgg.mixed _) | exact ResA.aggr rfl rfl rfl rfl (by first | rfl | with_reducible assumption | (simp <;> fail) | omega | (simp <;> omega) | assumption))) (out_t (frzl_cons (by repeat' (first | exact frz_c cv_rfl | exact frz_c cv_nil | exact frz_ownW rfl rfl (by first | rfl | with_reducible assumption | (simp <;> fail) | omega | (simp <;> omega) | assumption) | exact frz_own rfl rfl rfl (by first | rfl | with_reducible assumption | (simp <;> fail) | omega | (simp <;> omega) | assumption) | exact frz_cv (frz_ownW rfl rfl (by first | rfl | with_reducible assumption | (simp <;> fail) | omega | (simp <;> omega) | assumption)) (cv_sl (by first | rfl | omega | (simp <;> fail) | fail) (by first | rfl | omega | (simp <;> fail) | fail)) | exact frz_cv (frz_own rfl rfl rfl (by first | rfl | with_reducible assumption | (simp <;> fail) | omega | (simp <;> omega) | assumption)) (cv_sl (by first | rfl | omega | (simp <;> fail) | fail) (by first | rfl | omega | (simp <;> fail) | fail)) | refine frz_agg rfl ?_ | refine frz_c (cv_agg ?_) | exact frzl_nil | refine frzl_cons ?_ ?_ | exact cvl_nil | refine cvl_cons ?_ ?_ | exact cv_rfl | exact cv_nil | exact cv_sl (by first | rfl | omega | (simp <;> fail) | fail) (by first | rfl | omega | (simp <;> fail) | fail) | exact frz_own rfl rfl (by assumption) (by assumption) | exact frz_int (by first | exact w64 (by omega) (by omega) | omega) | exact frz_true (by first | assumption | omega) | exact frz_false (by first | assumption | omega) | exact frz_eq (frz_c cv_rfl) (by first | rfl | (simp <;> fail) | fail))) (frzl_cons (by repeat' (first | exact frz_c cv_rfl | exact frz_c cv_nil | exact frz_ownW rfl rfl (by first | rfl | with_reducible assumption | (simp <;> fail) | omega | (simp <;> omega) | assumption) | exact frz_own rfl rfl rfl (by first | rfl | with_reducible assumption | (simp <;> fail) | omega | (simp <;> omega) | assumption) | exact frz_cv (frz_ownW rfl rfl (by first | rfl | with_reducible assumption | (simp <;> fail) | omega | (simp <;> omega) | assumption)) (cv_sl (by first | rfl | omega | (simp <;> fail) | fail) (by first | rfl | omega | (simp <;> fail) | fail)) | exact frz_cv (frz_own rfl rfl rfl (by first | rfl | with_reducible assumption | (simp <;> fail) | omega | (simp <;> omega) | assumption)) (cv_sl (by first | rfl | omega | (simp <;> fail) | fail) (by first | rfl | omega | (simp <;> fail) | fail)) | refine frz_agg rfl ?_ | refine frz_c (cv_agg ?_) | exact frzl_nil | refine frzl_cons ?_ ?_ | exact cvl_nil | refine cvl_cons ?_ ?_ | exact cv_rfl | exact cv_nil | exact cv_sl (by first | rfl | omega | (simp <;> fail) | fail) (by first | rfl | omega | (simp <;> fail) | fail) | exact frz_own rfl rfl (by assumption) (by assumption) | exact frz_int (by first | exact w64 (by omega) (by omega) | omega) | exact frz_true (by first | assumption | omega) | exact frz_false (by first | assumption | omega) | exact frz_eq (frz_c cv_rfl) (by first | rfl | (simp <;> fail) | fail))) frzl_nil)))
    | false =>
      simp only [Bool.false_eq_true, if_false] at hr
      by_cases b1 : fu = 0 ∧ 0 < k
      · rw [if_pos b1] at hr
        obtain ⟨rfl, b2⟩ := b1
        have b2' : (0 : Int) < (k : Int) := by omega
        injection hr with e1 e2
        subst e1 e2
        obtain rfl : m = m' := by rw [← hm, ← hm']
        obtain rfl : k = k' := by rw [← hk, ← hk']
        refine ac_enter tabOk (sz := 33) Try.func23 rfl (by rw [Try.ntmps23]; rfl) ?_
        repeat' (first
    | ((with_reducible refine aw_seqk ?_); intro K hK hX)
    | ((with_reducible refine isC_reg ?_); refine aw_prune [0, 1, 2, 3] rfl rfl ?_; with_reducible refine aw_region ?_)
    | ((with_reducible refine isA_call ?_); (first | refine zA ?_ | refine zN ?_); (first | refine c0 (hva) ?_ | refine c0 (hcl) ?_))
    | refine stA ?_
    | (refine hK _ _ _ _ ?_; clear hK hX K)
    | (refine hX _ _ _ _ _ (by simp) ?_; clear hK hX K))
        refine retK_mk (by first | exact .inl rfl | exact .inr rfl) (by exact ⟨sy_idle, sy_idle_b, trivial⟩) rfl (ResL.two (by first | exact ResA.one rfl rfl rfl rfl rfl | exact ResA.agg rfl rfl rfl rfl rfl (by first | exact IsAgg.closed rfl rfl | exact IsAgg.mixed _) | exact ResA.aggr rfl rfl rfl rfl (by first | rfl | with_reducible assumption | (simp <;> fail) | omega | (simp <;> omega) | assumption)) (by first | exact ResA.one rfl rfl rfl rfl rfl | exact ResA.agg rfl rfl rfl rfl rfl (by first | exact IsAgg.closed rfl rfl | exact IsAgg.mixed _) | exact ResA.aggr rfl rfl rfl rfl (by first | rfl | with_reducible assumption | (simp <;> fail) | omega | (simp <;> omega) | assumption))) (out_t (frzl_cons (by repeat' (first | exact frz_c cv_rfl | exact frz_c cv_nil | exact frz_ownW rfl rfl (by first | rfl | with_reducible assumption | (simp <;> fail) | omega | (simp <;> omega) | assumption) | exact frz_own rfl rfl rfl (by first | rfl | with_reducible assumption | (simp <;> fail) | omega | (simp <;> omega) | assumption) | exact frz_cv (frz_ownW rfl rfl (by first | rfl | with_reducible assumption | (simp <;> fail) | omega | (simp <;> omega) | assumption)) (cv_sl (by first | rfl | omega | (simp <;> fail) | fail) (by first | rfl | omega | (simp <;> fail) | fail)) | exact frz_cv (frz_own rfl rfl rfl (by first | rfl | with_reducible assumption | (simp <;> fail) | omega | (simp <;> omega) | assumption)) (cv_sl (by first | rfl | omega | (simp <;> fail) | fail) (by first | rfl | omega | (simp <;> fail) | fail)) | refine frz_agg rfl ?_ | refine frz_c (cv_agg ?_) | exact frzl_nil | refine frzl_cons ?_ ?_ | exact cvl_nil | refine cvl_cons ?_ ?_ | exact cv_rfl | exact cv_nil | exact cv_sl (by first | rfl | omega | (simp <;> fail) | fail) (by first | rfl | omega | (simp <;> fail) | fail) | exact frz_own rfl rfl (by assumption) (by assumption) | exact frz_int (by first | exact w64 (by omega) (by omega) | omega) | exact frz_true (by first | assumption | omega) | exact frz_false (by first | assumption | omega) | exact frz_eq (frz_c cv_rfl) (by first | rfl | (simp <;> fail) | fail))) (frzl_cons (by repeat' (first | exact frz_c cv_rfl | exact frz_c cv_nil | exact frz_ownW rfl rfl (by first | rfl | with_reducible assumption | (simp <;> fail) | omega | (simp <;> omega) | assumption) | exact frz_own rfl rfl rfl (by first | rfl | with_reducible assumption | (simp <;> fail) | omega | (simp <;> omega) | assumption) | exact frz_cv (frz_ownW rfl rfl (by first | rfl | with_reducible assumption | (simp <;> fail) | omega | (simp <;> omega) | assumption)) (cv_sl (by first | rfl | omega | (simp <;> fail) | fail) (by first | rfl | omega | (simp <;> fail) | fail)) | exact frz_cv (frz_own rfl rfl rfl (by first | rfl | with_reducible assumption | (simp <;> fail) | omega | (simp <;> omega) | assumption)) (cv_sl (by first | rfl | omega | (simp <;> fail) | fail) (by first | rfl | omega | (simp <;> fail) | fail)) | refine frz_agg rfl ?_ | refine frz_c (cv_agg ?_) | exact frzl_nil | refine frzl_cons ?_ ?_ | exact cvl_nil | refine cvl_cons ?_ ?_ | exact cv_rfl | exact cv_nil | exact cv_sl (by first | rfl | omega | (simp <;> fail) | fail) (by first | rfl | omega | (simp <;> fail) | fail) | exact frz_own rfl rfl (by assumption) (by assumption) | exact frz_int (by first | exact w64 (by omega) (by omega) | omega) | exact frz_true (by first | assumption | omega) | exact frz_false (by first | assumption | omega) | exact frz_eq (frz_c cv_rfl) (by first | rfl | (simp <;> fail) | fail))) frzl_nil)))
      · rw [if_neg b1] at hr
        injection hr with e1 e2
        subst e1 e2
        obtain rfl : m + k = m' := by rw [← hm', List.length_append, hm, hk]
        obtain rfl : 0 = k' := by rw [← hk']; rfl
        have hj := j1 _ rfl (by omega)
        have hab : (u8c (sy ++ pe)).length = m + k := by rw [u8c_length, hm']
        by_cases b2 : fu = 0
        · have b3 : ¬ (0 : Int) < (k : Int) := by omega
          subst b2
          refine ac_enter tabOk (sz := 33) Try.func23 rfl (by rw [Try.ntmps23]; rfl) ?_
          repeat' (first
    | ((with_reducible refine aw_seqk ?_); intro K hK hX)
    | ((with_reducible refine isC_reg ?_); refine aw_prune [0, 1, 2, 3] rfl rfl ?_; with_reducible refine aw_region ?_)
    | ((with_reducible refine isA_call ?_); (first | refine zA ?_ | refine zN ?_); (first | refine c0 (hva) ?_ | refine c0 (hcl) ?_ | refine c1 (hj) ?_))
    | refine stA ?_
    | (refine hK _ _ _ _ ?_; clear hK hX K)
    | (refine hX _ _ _ _ _ (by simp) ?_; clear hK hX K))
          refine retK_mk (by first | exact .inl rfl | exact .inr rfl) (by exact ⟨sy_idle, sy_idle_b, trivial⟩) rfl (ResL.two (by first | exact ResA.one rfl rfl rfl rfl rfl | exact ResA.agg rfl rfl rfl rfl rfl (by first | exact IsAgg.closed rfl rfl | exact IsAgg.mixed _) | exact ResA.aggr rfl rfl rfl rfl (by first | rfl | with_reducible assumption | (simp <;> fail) | omega | (simp <;> omega) | assumption)) (by first | exact ResA.one rfl rfl rfl rfl rfl | exact ResA.agg rfl rfl rfl rfl rfl (by first | exact IsAgg.closed rfl rfl | exact IsAgg.mixed _) | exact ResA.aggr rfl rfl rfl rfl (by first | rfl | with_reducible assumption | (simp <;> fail) | omega | (simp <;> omega) | assumption))) (out_t (frzl_cons (by repeat' (first | exact frz_c cv_rfl | exact frz_c cv_nil | exact frz_ownW rfl rfl (by first | rfl | with_reducible assumption | (simp <;> fail) | omega | (simp <;> omega) | assumption) | exact frz_own rfl rfl rfl (by first | rfl | with_reducible assumption | (simp <;> fail) | omega | (simp <;> omega) | assumption) | exact frz_cv (frz_ownW rfl rfl (by first | rfl | with_reducible assumption | (simp <;> fail) | omega | (simp <;> omega) | assumption)) (cv_sl (by first | rfl | omega | (simp <;> fail) | fail) (by first | rfl | omega | (simp <;> fail) | fail)) | exact frz_cv (frz_own rfl rfl rfl (by first | rfl | with_reducible assumption | (simp <;> fail) | omega | (simp <;> omega) | assumption)) (cv_sl (by first | rfl | omega | (simp <;> fail) | fail) (by first | rfl | omega | (simp <;> fail) | fail)) | refine frz_agg rfl ?_ | refine frz_c (cv_agg ?_) | exact frzl_nil | refine frzl_cons ?_ ?_ | exact cvl_nil | refine cvl_cons ?_ ?_ | exact cv_rfl | exact cv_nil | exact cv_sl (by first | rfl | omega | (simp <;> fail) | fail) (by first | rfl | omega | (simp <;> fail) | fail) | exact frz_own rfl rfl (by assumption) (by assumption) | exact frz_int (by first | exact w64 (by omega) (by omega) | omega) | exact frz_true (by first | assumption | omega) | exact frz_false (by first | assumption | omega) | exact frz_eq (frz_c cv_rfl) (by first | rfl | (simp <;> fail) | fail))) (frzl_cons (by repeat' (first | exact frz_c cv_rfl | exact frz_c cv_nil | exact frz_ownW rfl rfl (by first | rfl | with_reducible assumption | (simp <;> fail) | omega | (simp <;> omega) | assumption) | exact frz_own rfl rfl rfl (by first | rfl | with_reducible assumption | (simp <;> fail) | omega | (simp <;> omega) | assumption) | exact frz_cv (frz_ownW rfl rfl (by first | rfl | with_reducible assumption | (simp <;> fail) | omega | (simp <;> omega) | assumption)) (cv_sl (by first | rfl | omega | (simp <;> fail) | fail) (by first | rfl | omega | (simp <;> fail) | fail)) | exact frz_cv (frz_own rfl rfl rfl (by first | rfl | with_reducible assumption | (simp <;> fail) | omega | (simp <;> omega) | assumption)) (cv_sl (by first | rfl | omega | (simp <;> fail) | fail) (by first | rfl | omega | (simp <;> fail) | fail)) | refine frz_agg rfl ?_ | refine frz_c (cv_agg ?_) | exact frzl_nil | refine frzl_cons ?_ ?_ | exact cvl_nil | refine cvl_cons ?_ ?_ | exact cv_rfl | exact cv_nil | exact cv_sl (by first | rfl | omega | (simp <;> fail) | fail) (by first | rfl | omega | (simp <;> fail) | fail) | exact frz_own rfl rfl (by assumption) (by assumption) | exact frz_int (by first | exact w64 (by omega) (by omega) | omega) | exact frz_true (by first | assumption | omega) | exact frz_false (by first | assumption | omega) | exact frz_eq (frz_c cv_rfl) (by first | rfl | (simp <;> fail) | fail))) frzl_nil)))
        · clear b1
          refine ac_enter tabOk (sz := 33) Try.func23 rfl (by rw [Try.ntmps23]; rfl) ?_
          repeat' (first
    | ((with_reducible refine aw_seqk ?_); intro K hK hX)
    | ((with_reducible refine isC_reg ?_); refine aw_prune [0, 1, 2, 3] rfl rfl ?_; with_reducible refine aw_region ?_)
    | ((with_reducible refine isA_call ?_); (first | refine zA ?_ | refine zN ?_); (first | refine c0 (hva) ?_ | refine c0 (hcl) ?_ | refine c1 (hj) ?_))
    | refine stA ?_
    | (refine hK _ _ _ _ ?_; clear hK hX K)
    | (refine hX _ _ _ _ _ (by simp) ?_; clear hK hX K))
          refine retK_mk (by first | exact .inl rfl | exact .inr rfl) (by exact ⟨sy_idle, sy_idle_b, trivial⟩) rfl (ResL.two (by first | exact ResA.one rfl rfl rfl rfl rfl | exact ResA.agg rfl rfl rfl rfl rfl (by first | exact IsAgg.closed rfl rfl | exact IsAgg.mixed _) | exact ResA.aggr rfl rfl rfl rfl (by first | rfl | with_reducible assumption | (simp <;> fail) | omega | (simp <;> omega) | assumption)) (by first | exact ResA.one rfl rfl rfl rfl rfl | exact ResA.agg rfl rfl rfl rfl rfl (by first | exact IsAgg.closed rfl rfl | exact IsAgg.mixed _) | exact ResA.aggr rfl rfl rfl rfl (by first | rfl | with_reducible assumption | (simp <;> fail) | omega | (simp <;> omega) | assumption))) (out_t (frzl_cons (by repeat' (first | exact frz_c cv_rfl | exact frz_c cv_nil | exact frz_ownW rfl rfl (by first | rfl | with_reducible assumption | (simp <;> fail) | omega | (simp <;> omega) | assumption) | exact frz_own rfl rfl rfl (by first | rfl | with_reducible assumption | (simp <;> fail) | omega | (simp <;> omega) | assumption) | exact frz_cv (frz_ownW rfl rfl (by first | rfl | with_reducible assumption | (simp <;> fail) | omega | (simp <;> omega) | assumption)) (cv_sl (by first | rfl | omega | (simp <;> fail) | fail) (by first | rfl | omega | (simp <;> fail) | fail)) | exact frz_cv (frz_own rfl rfl rfl (by first | rfl | with_reducible assumption | (simp <;> fail) | omega | (simp <;> omega) | assumption)) (cv_sl (by first | rfl | omega | (simp <;> fail) | fail) (by first | rfl | omega | (simp <;> fail) | fail)) | refine frz_agg rfl ?_ | refine frz_c (cv_agg ?_) | exact frzl_nil | refine frzl_cons ?_ ?_ | exact cvl_nil | refine cvl_cons ?_ ?_ | exact cv_rfl | exact cv_nil | exact cv_sl (by first | rfl | omega | (simp <;> fail) | fail) (by first | rfl | omega | (simp <;> fail) | fail) | exact frz_own rfl rfl (by assumption) (by assumption) | exact frz_int (by first | exact w64 (by omega) (by omega) | omega) | exact frz_true (by first | assumption | omega) | exact frz_false (by first | assumption | omega) | exact frz_eq (frz_c cv_rfl) (by first | rfl | (simp <;> fail) | fail))) (frzl_cons (by repeat' (first | exact frz_c cv_rfl | exact frz_c cv_nil | exact frz_ownW rfl rfl (by first | rfl | with_reducible assumption | (simp <;> fail) | omega | (simp <;> omega) | assumption) | exact frz_own rfl rfl rfl (by first | rfl | with_reducible assumption | (simp <;> fail) | omega | (simp <;> omega) | assumption) | exact frz_cv (frz_ownW rfl rfl (by first | rfl | with_reducible assumption | (simp <;> fail) | omega | (simp <;> omega) | assumption)) (cv_sl (by first | rfl | omega | (simp <;> fail) | fail) (by first | rfl | omega | (simp <;> fail) | fail)) | exact frz_cv (frz_own rfl rfl rfl (by first | rfl | with_reducible assumption | (simp <;> fail) | omega | (simp <;> omega) | assumption)) (cv_sl (by first | rfl | omega | (simp <;> fail) | fail) (by first | rfl | omega | (simp <;> fail) | fail)) | refine frz_agg rfl ?_ | refine frz_c (cv_agg ?_) | exact frzl_nil | refine frzl_cons ?_ ?_ | exact cvl_nil | refine cvl_cons ?_ ?_ | exact cv_rfl | exact cv_nil | exact cv_sl (by first | rfl | omega | (simp <;> fail) | fail) (by first | rfl | omega | (simp <;> fail) | fail) | exact frz_own rfl rfl (by assumption) (by assumption) | exact frz_int (by first | exact w64 (by omega) (by omega) | omega) | exact frz_true (by first | assumption | omega) | exact frz_false (by first | assumption | omega) | exact frz_eq (frz_c cv_rfl) (by first | rfl | (simp <;> fail) | fail))) frzl_nil)))
set_option maxHeartbeats 4000000 in
theorem fail_ok (sy pe : List UInt8) (fu : Int) (dn : Bool) (m k : Nat) (i : Int) (hm : sy.length = m) (hk : pe.length = k) (h1 : m ≤ 1000000) (h2 : k ≤ 1000000) (h3 : -9223372036854775808 ≤ i) (h4 : i ≤ 9223372036854775807) (s' : Dk) (e : Int) (m' k' : Nat) (hr : opF ⟨sy, pe, fu, dn⟩ i = (s', e)) (hm' : s'.sy.length = m') (hk' : s'.pe.length = k') : AC Try.prog 13 [dkC m k sy pe fu dn, iv i] (.tup [.c (dkV m' k' s'), .c (iv e)]) [] 0 := by
  have hva := valid_ok sy pe fu dn m k hm hk h1 h2
  have hcl := clone_ok sy pe fu dn m k hm hk h1 h2
  have hua : (u8c sy).length = m := by rw [u8c_length, hm]
  have hub : (u8c pe).length = k := by rw [u8c_length, hk]
  cases hok : Dk.ok ⟨sy, pe, fu, dn⟩ with
  | false =>
    rw [hok] at hva
    simp only [opF, hok, if_true, true_or] at hr
    injection hr with e1 e2
    subst e1 e2 hm' hk'
    refine ac_enter tabOk (sz := 20) Try.func13 rfl (by rw [Try.ntmps13]; rfl) ?_
    repeat' (first
    | ((with_reducible refine aw_seqk ?_); intro K hK hX)
    | ((with_reducible refine isC_reg ?_); refine aw_prune [0, 1, 2, 4, 5] rfl rfl ?_; with_reducible refine aw_region ?_)
    | ((with_reducible refine isA_call ?_); (first | refine zA ?_ | refine zN ?_); (first | refine c0 (hva) ?_))
    | refine stA ?_
    | (refine hK _ _ _ _ ?_; clear hK hX K)
    | (refine hX _ _ _ _ _ (by simp) ?_; clear hK hX K))
    refine retK_mk (by first | exact .inl rfl | exact .inr rfl) (by exact ⟨fa_idle, fa_idle_b, trivial⟩) rfl (ResL.two (by first | exact ResA.one rfl rfl rfl rfl rfl | exact ResA.agg rfl rfl rfl rfl rfl (by first | exact IsAgg.closed rfl rfl | exact IsAgg.mixed _) | exact ResA.aggr rfl rfl rfl rfl (by first | rfl | with_reducible assumption | (simp <;> fail) | omega | (simp <;> omega) | assumption)) (by first | exact ResA.one rfl rfl rfl rfl rfl | exact ResA.agg rfl rfl rfl rfl rfl (by first | exact IsAgg.closed rfl rfl | exact IsAgg.mixed _) | exact ResA.aggr rfl rfl rfl rfl (by first | rfl | with_reducible assumption | (simp <;> fail) | omega | (simp <;> omega) | assumption))) (out_t (frzl_cons (by repeat' (first | exact frz_c cv_rfl | exact frz_c cv_nil | exact frz_ownW rfl rfl (by first | rfl | with_reducible assumption | (simp <;> fail) | omega | (simp <;> omega) | assumption) | exact frz_own rfl rfl rfl (by first | rfl | with_reducible assumption | (simp <;> fail) | omega | (simp <;> omega) | assumption) | exact frz_cv (frz_ownW rfl rfl (by first | rfl | with_reducible assumption | (simp <;> fail) | omega | (simp <;> omega) | assumption)) (cv_sl (by first | rfl | omega | (simp <;> fail) | fail) (by first | rfl | omega | (simp <;> fail) | fail)) | exact frz_cv (frz_own rfl rfl rfl (by first | rfl | with_reducible assumption | (simp <;> fail) | omega | (simp <;> omega) | assumption)) (cv_sl (by first | rfl | omega | (simp <;> fail) | fail) (by first | rfl | omega | (simp <;> fail) | fail)) | refine frz_agg rfl ?_ | refine frz_c (cv_agg ?_) | exact frzl_nil | refine frzl_cons ?_ ?_ | exact cvl_nil | refine cvl_cons ?_ ?_ | exact cv_rfl | exact cv_nil | exact cv_sl (by first | rfl | omega | (simp <;> fail) | fail) (by first | rfl | omega | (simp <;> fail) | fail) | exact frz_own rfl rfl (by assumption) (by assumption) | exact frz_int (by first | exact w64 (by omega) (by omega) | omega) | exact frz_true (by first | assumption | omega) | exact frz_false (by first | assumption | omega) | exact frz_eq (frz_c cv_rfl) (by first | rfl | (simp <;> fail) | fail))) (frzl_cons (by repeat' (first | exact frz_c cv_rfl | exact frz_c cv_nil | exact frz_ownW rfl rfl (by first | rfl | with_reducible assumption | (simp <;> fail) | omega | (simp <;> omega) | assumption) | exact frz_own rfl rfl rfl (by first | rfl | with_reducible assumption | (simp <;> fail) | omega | (simp <;> omega) | assumption) | exact frz_cv (frz_ownW rfl rfl (by first | rfl | with_reducible assumption | (simp <;> fail) | omega | (simp <;> omega) | assumption)) (cv_sl (by first | rfl | omega | (simp <;> fail) | fail) (by first | rfl | omega | (simp <;> fail) | fail)) | exact frz_cv (frz_own rfl rfl rfl (by first | rfl | with_reducible assumption | (simp <;> fail) | omega | (simp <;> omega) | assumption)) (cv_sl (by first | rfl | omega | (simp <;> fail) | fail) (by first | rfl | omega | (simp <;> fail) | fail)) | refine frz_agg rfl ?_ | refine frz_c (cv_agg ?_) | exact frzl_nil | refine frzl_cons ?_ ?_ | exact cvl_nil | refine cvl_cons ?_ ?_ | exact cv_rfl | exact cv_nil | exact cv_sl (by first | rfl | omega | (simp <;> fail) | fail) (by first | rfl | omega | (simp <;> fail) | fail) | exact frz_own rfl rfl (by assumption) (by assumption) | exact frz_int (by first | exact w64 (by omega) (by omega) | omega) | exact frz_true (by first | assumption | omega) | exact frz_false (by first | assumption | omega) | exact frz_eq (frz_c cv_rfl) (by first | rfl | (simp <;> fail) | fail))) frzl_nil)))
  | true =>
    rw [hok] at hva
    obtain ⟨l1, l2⟩ := ok_facts hm hk hok
    simp only [opF, hok, hm, hk, Bool.true_eq_false, false_or, if_false] at hr
    by_cases b1 : i < -1
    · rw [if_pos b1] at hr
      injection hr with e1 e2
      subst e1 e2 hm' hk'
      refine ac_enter tabOk (sz := 20) Try.func13 rfl (by rw [Try.ntmps13]; rfl) ?_
      repeat' (first
    | ((with_reducible refine aw_seqk ?_); intro K hK hX)
    | ((with_reducible refine isC_reg ?_); refine aw_prune [0, 1, 2, 4, 5] rfl rfl ?_; with_reducible refine aw_region ?_)
    | ((with_reducible refine isA_call ?_); (first | refine zA ?_ | refine zN ?_); (first | refine c0 (hva) ?_))
    | refine stA ?_
    | (refine hK _ _ _ _ ?_; clear hK hX K)
    | (refine hX _ _ _ _ _ (by simp) ?_; clear hK hX K))
      refine retK_mk (by first | exact .inl rfl | exact .inr rfl) (by exact ⟨fa_idle, fa_idle_b, trivial⟩) rfl (ResL.two (by first | exact ResA.one rfl rfl rfl rfl rfl | exact ResA.agg rfl rfl rfl rfl rfl (by first | exact IsAgg.closed rfl rfl | exact IsAgg.mixed _) | exact ResA.aggr rfl rfl rfl rfl (by first | rfl | with_reducible assumption | (simp <;> fail) | omega | (simp <;> omega) | assumption)) (by first | exact ResA.one rfl rfl rfl rfl rfl | exact ResA.agg rfl rfl rfl rfl rfl (by first | exact IsAgg.closed rfl rfl | exact IsAgg.mixed _) | exact ResA.aggr rfl rfl rfl rfl (by first | rfl | with_reducible assumption | (simp <;> fail) | omega | (simp <;> omega) | assumption))) (out_t (frzl_cons (by repeat' (first | exact frz_c cv_rfl | exact frz_c cv_nil | exact frz_ownW rfl rfl (by first | rfl | with_reducible assumption | (simp <;> fail) | omega | (simp <;> omega) | assumption) | exact frz_own rfl rfl rfl (by first | rfl | with_reducible assumption | (simp <;> fail) | omega | (simp <;> omega) | assumption) | exact frz_cv (frz_ownW rfl rfl (by first | rfl | with_reducible assumption | (simp <;> fail) | omega | (simp <;> omega) | assumption)) (cv_sl (by first | rfl | omega | (simp <;> fail) | fail) (by first | rfl | omega | (simp <;> fail) | fail)) | exact frz_cv (frz_own rfl rfl rfl (by first | rfl | with_reducible assumption | (simp <;> fail) | omega | (simp <;> omega) | assumption)) (cv_sl (by first | rfl | omega | (simp <;> fail) | fail) (by first | rfl | omega | (simp <;> fail) | fail)) | refine frz_agg rfl ?_ | refine frz_c (cv_agg ?_) | exact frzl_nil | refine frzl_cons ?_ ?_ | exact cvl_nil | refine cvl_cons ?_ ?_ | exact cv_rfl | exact cv_nil | exact cv_sl (by first | rfl | omega | (simp <;> fail) | fail) (by first | rfl | omega | (simp <;> fail) | fail) | exact frz_own rfl rfl (by assumption) (by assumption) | exact frz_int (by first | exact w64 (by omega) (by omega) | omega) | exact frz_true (by first | assumption | omega) | exact frz_false (by first | assumption | omega) | exact frz_eq (frz_c cv_rfl) (by first | rfl | (simp <;> fail) | fail))) (frzl_cons (by repeat' (first | exact frz_c cv_rfl | exact frz_c cv_nil | exact frz_ownW rfl rfl (by first | rfl | with_reducible assumption | (simp <;> fail) | omega | (simp <;> omega) | assumption) | exact frz_own rfl rfl rfl (by first | rfl | with_reducible assumption | (simp <;> fail) | omega | (simp <;> omega) | assumption) | exact frz_cv (frz_ownW rfl rfl (by first | rfl | with_reducible assumption | (simp <;> fail) | omega | (simp <;> omega) | assumption)) (cv_sl (by first | rfl | omega | (simp <;> fail) | fail) (by first | rfl | omega | (simp <;> fail) | fail)) | exact frz_cv (frz_own rfl rfl rfl (by first | rfl | with_reducible assumption | (simp <;> fail) | omega | (simp <;> omega) | assumption)) (cv_sl (by first | rfl | omega | (simp <;> fail) | fail) (by first | rfl | omega | (simp <;> fail) | fail)) | refine frz_agg rfl ?_ | refine frz_c (cv_agg ?_) | exact frzl_nil | refine frzl_cons ?_ ?_ | exact cvl_nil | refine cvl_cons ?_ ?_ | exact cv_rfl | exact cv_nil | exact cv_sl (by first | rfl | omega | (simp <;> fail) | fail) (by first | rfl | omega | (simp <;> fail) | fail) | exact frz_own rfl rfl (by assumption) (by assumption) | exact frz_int (by first | exact w64 (by omega) (by omega) | omega) | exact frz_true (by first | assumption | omega) | exact frz_false (by first | assumption | omega) | exact frz_eq (frz_c cv_rfl) (by first | rfl | (simp <;> fail) | fail))) frzl_nil)))
    · rw [if_neg b1] at hr
      injection hr with e1 e2
      subst e1 e2
      obtain rfl : m = m' := by rw [← hm, ← hm']
      obtain rfl : k = k' := by rw [← hk, ← hk']
      refine ac_enter tabOk (sz := 20) Try.func13 rfl (by rw [Try.ntmps13]; rfl) ?_
      repeat' (first
    | ((with_reducible refine aw_seqk ?_); intro K hK hX)
    | ((with_reducible refine isC_reg ?_); refine aw_prune [0, 1, 2, 4, 5] rfl rfl ?_; with_reducible refine aw_region ?_)
    | ((with_reducible refine isA_call ?_); (first | refine zA ?_ | refine zN ?_); (first | refine c0 (hva) ?_ | refine c0 (hcl) ?_))
    | refine stA ?_
    | (refine hK _ _ _ _ ?_; clear hK hX K)
    | (refine hX _ _ _ _ _ (by simp) ?_; clear hK hX K))
      refine retK_mk (by first | exact .inl rfl | exact .inr rfl) (by exact ⟨fa_idle, fa_idle_b, trivial⟩) rfl (ResL.two (by first | exact ResA.one rfl rfl rfl rfl rfl | exact ResA.agg rfl rfl rfl rfl rfl (by first | exact IsAgg.closed rfl rfl | exact IsAgg.mixed _) | exact ResA.aggr rfl rfl rfl rfl (by first | rfl | with_reducible assumption | (simp <;> fail) | omega | (simp <;> omega) | assumption)) (by first | exact ResA.one rfl rfl rfl rfl rfl | exact ResA.agg rfl rfl rfl rfl rfl (by first | exact IsAgg.closed rfl rfl | exact IsAgg.mixed _) | exact ResA.aggr rfl rfl rfl rfl (by first | rfl | with_reducible assumption | (simp <;> fail) | omega | (simp <;> omega) | assumption))) (out_t (frzl_cons (by repeat' (first | exact frz_c cv_rfl | exact frz_c cv_nil | exact frz_ownW rfl rfl (by first | rfl | with_reducible assumption | (simp <;> fail) | omega | (simp <;> omega) | assumption) | exact frz_own rfl rfl rfl (by first | rfl | with_reducible assumption | (simp <;> fail) | omega | (simp <;> omega) | assumption) | exact frz_cv (frz_ownW rfl rfl (by first | rfl | with_reducible assumption | (simp <;> fail) | omega | (simp <;> omega) | assumption)) (cv_sl (by first | rfl | omega | (simp <;> fail) | fail) (by first | rfl | omega | (simp <;> fail) | fail)) | exact frz_cv (frz_own rfl rfl rfl (by first | rfl | with_reducible assumption | (simp <;> fail) | omega | (simp <;> omega) | assumption)) (cv_sl (by first | rfl | omega | (simp <;> fail) | fail) (by first | rfl | omega | (simp <;> fail) | fail)) | refine frz_agg rfl ?_ | refine frz_c (cv_agg ?_) | exact frzl_nil | refine frzl_cons ?_ ?_ | exact cvl_nil | refine cvl_cons ?_ ?_ | exact cv_rfl | exact cv_nil | exact cv_sl (by first | rfl | omega | (simp <;> fail) | fail) (by first | rfl | omega | (simp <;> fail) | fail) | exact frz_own rfl rfl (by assumption) (by assumption) | exact frz_int (by first | exact w64 (by omega) (by omega) | omega) | exact frz_true (by first | assumption | omega) | exact frz_false (by first | assumption | omega) | exact frz_eq (frz_c cv_rfl) (by first | rfl | (simp <;> fail) | fail))) (frzl_cons (by repeat' (first | exact frz_c cv_rfl | exact frz_c cv_nil | exact frz_ownW rfl rfl (by first | rfl | with_reducible assumption | (simp <;> fail) | omega | (simp <;> omega) | assumption) | exact frz_own rfl rfl rfl (by first | rfl | with_reducible assumption | (simp <;> fail) | omega | (simp <;> omega) | assumption) | exact frz_cv (frz_ownW rfl rfl (by first | rfl | with_reducible assumption | (simp <;> fail) | omega | (simp <;> omega) | assumption)) (cv_sl (by first | rfl | omega | (simp <;> fail) | fail) (by first | rfl | omega | (simp <;> fail) | fail)) | exact frz_cv (frz_own rfl rfl rfl (by first | rfl | with_reducible assumption | (simp <;> fail) | omega | (simp <;> omega) | assumption)) (cv_sl (by first | rfl | omega | (simp <;> fail) | fail) (by first | rfl | omega | (simp <;> fail) | fail)) | refine frz_agg rfl ?_ | refine frz_c (cv_agg ?_) | exact frzl_nil | refine frzl_cons ?_ ?_ | exact cvl_nil | refine cvl_cons ?_ ?_ | exact cv_rfl | exact cv_nil | exact cv_sl (by first | rfl | omega | (simp <;> fail) | fail) (by first | rfl | omega | (simp <;> fail) | fail) | exact frz_own rfl rfl (by assumption) (by assumption) | exact frz_int (by first | exact w64 (by omega) (by omega) | omega) | exact frz_true (by first | assumption | omega) | exact frz_false (by first | assumption | omega) | exact frz_eq (frz_c cv_rfl) (by first | rfl | (simp <;> fail) | fail))) frzl_nil)))
set_option maxHeartbeats 4000000 in
theorem crash_ok (sy pe : List UInt8) (fu : Int) (dn : Bool) (m k : Nat) (i : Int) (hm : sy.length = m) (hk : pe.length = k) (h1 : m ≤ 1000000) (h2 : k ≤ 1000000) (h3 : -9223372036854775808 ≤ i) (h4 : i ≤ 9223372036854775807) (s' : Dk) (e : Int) (m' k' : Nat) (hr : opC ⟨sy, pe, fu, dn⟩ i = (s', e)) (hm' : s'.sy.length = m') (hk' : s'.pe.length = k') : AC Try.prog 22 [dkC m k sy pe fu dn, iv i] (.tup [.c (dkV m' k' s'), .c (iv e)]) [] 0 := by
  have hva := valid_ok sy pe fu dn m k hm hk h1 h2
  have j1 := fun b n q hn hq h => join_ok sy b m n q hm hn hq h
  have hua : (u8c sy).length = m := by rw [u8c_length, hm]
  have hub : (u8c pe).length = k := by rw [u8c_length, hk]
  cases hok : Dk.ok ⟨sy, pe, fu, dn⟩ with
  | false =>
    rw [hok] at hva
    simp only [opC, hok, if_true] at hr
    injection hr with e1 e2
    subst e1 e2 hm' hk'
    refine ac_enter tabOk (sz := 25) Try.func22 rfl (by rw [Try.ntmps22]; rfl) ?_
    repeat' (first
    | ((with_reducible refine aw_seqk ?_); intro K hK hX)
    | ((with_reducible refine isC_reg ?_); refine aw_prune [0, 1, 2, 4, 5] rfl rfl ?_; with_reducible refine aw_region ?_)
    | ((with_reducible refine isC_draw ?_); refine aw_prune [0, 1, 2, 4, 5] rfl rfl ?_; refine aw_drwF [] ?_)
    | ((first | with_reducible refine isA_call ?_ | with_reducible refine isD_call ?_); (first | refine zA ?_ | refine zN ?_ | refine zD ?_); (first | refine c0 (hva) ?_))
    | refine stA ?_
    | refine stD ?_
    | (refine hK _ _ _ _ ?_; clear hK hX K)
    | (refine hX _ _ _ _ _ (by simp) ?_; clear hK hX K))
    refine retK_mk (by first | exact .inl rfl | exact .inr rfl) (by exact ⟨cr_idle, cr_idle_b, trivial⟩) rfl (ResL.two (by first | exact ResA.one rfl rfl rfl rfl rfl | exact ResA.agg rfl rfl rfl rfl rfl (by first | exact IsAgg.closed rfl rfl | exact IsAgg.mixed _) | exact ResA.aggr rfl rfl rfl rfl (by first | rfl | with_reducible assumption | (simp <;> fail) | omega | (simp <;> omega) | assumption)) (by first | exact ResA.one rfl rfl rfl rfl rfl | exact ResA.agg rfl rfl rfl rfl rfl (by first | exact IsAgg.closed rfl rfl | exact IsAgg.mixed _) | exact ResA.aggr rfl rfl rfl rfl (by first | rfl | with_reducible assumption | (simp <;> fail) | omega | (simp <;> omega) | assumption))) (out_t (frzl_cons (by repeat' (first | exact frz_c cv_rfl | exact frz_c cv_nil | exact frz_ownW rfl rfl (by first | rfl | with_reducible assumption | (simp <;> fail) | omega | (simp <;> omega) | assumption) | exact frz_own rfl rfl rfl (by first | rfl | with_reducible assumption | (simp <;> fail) | omega | (simp <;> omega) | assumption) | exact frz_cv (frz_ownW rfl rfl (by first | rfl | with_reducible assumption | (simp <;> fail) | omega | (simp <;> omega) | assumption)) (cv_sl (by first | rfl | omega | (simp <;> fail) | fail) (by first | rfl | omega | (simp <;> fail) | fail)) | exact frz_cv (frz_own rfl rfl rfl (by first | rfl | with_reducible assumption | (simp <;> fail) | omega | (simp <;> omega) | assumption)) (cv_sl (by first | rfl | omega | (simp <;> fail) | fail) (by first | rfl | omega | (simp <;> fail) | fail)) | refine frz_agg rfl ?_ | refine frz_c (cv_agg ?_) | exact frzl_nil | refine frzl_cons ?_ ?_ | exact cvl_nil | refine cvl_cons ?_ ?_ | exact cv_rfl | exact cv_nil | exact cv_sl (by first | rfl | omega | (simp <;> fail) | fail) (by first | rfl | omega | (simp <;> fail) | fail) | exact frz_own rfl rfl (by assumption) (by assumption) | exact frz_int (by first | exact w64 (by omega) (by omega) | omega) | exact frz_true (by first | assumption | omega) | exact frz_false (by first | assumption | omega) | exact frz_eq (frz_c cv_rfl) (by first | rfl | (simp <;> fail) | fail))) (frzl_cons (by repeat' (first | exact frz_c cv_rfl | exact frz_c cv_nil | exact frz_ownW rfl rfl (by first | rfl | with_reducible assumption | (simp <;> fail) | omega | (simp <;> omega) | assumption) | exact frz_own rfl rfl rfl (by first | rfl | with_reducible assumption | (simp <;> fail) | omega | (simp <;> omega) | assumption) | exact frz_cv (frz_ownW rfl rfl (by first | rfl | with_reducible assumption | (simp <;> fail) | omega | (simp <;> omega) | assumption)) (cv_sl (by first | rfl | omega | (simp <;> fail) | fail) (by first | rfl | omega | (simp <;> fail) | fail)) | exact frz_cv (frz_own rfl rfl rfl (by first | rfl | with_reducible assumption | (simp <;> fail) | omega | (simp <;> omega) | assumption)) (cv_sl (by first | rfl | omega | (simp <;> fail) | fail) (by first | rfl | omega | (simp <;> fail) | fail)) | refine frz_agg rfl ?_ | refine frz_c (cv_agg ?_) | exact frzl_nil | refine frzl_cons ?_ ?_ | exact cvl_nil | refine cvl_cons ?_ ?_ | exact cv_rfl | exact cv_nil | exact cv_sl (by first | rfl | omega | (simp <;> fail) | fail) (by first | rfl | omega | (simp <;> fail) | fail) | exact frz_own rfl rfl (by assumption) (by assumption) | exact frz_int (by first | exact w64 (by omega) (by omega) | omega) | exact frz_true (by first | assumption | omega) | exact frz_false (by first | assumption | omega) | exact frz_eq (frz_c cv_rfl) (by first | rfl | (simp <;> fail) | fail))) frzl_nil)))
  | true =>
    rw [hok] at hva
    obtain ⟨l1, l2⟩ := ok_facts hm hk hok
    simp only [opC, hok, hm, hk, Bool.true_eq_false, if_false] at hr
    injection hr with e1 e2
    subst e1 e2
    obtain rfl : 0 = k' := by rw [← hk']; rfl
    obtain ⟨q, hq1, hq2, hq3⟩ : ∃ q : Nat, q ≤ k ∧ pe.take i.toNat = pe.take q ∧ (if (k : Int) < (if i < 0 then 0 else i) then (k : Int) else (if i < 0 then 0 else i)) = (q : Int) := by
      refine ⟨min i.toNat k, by omega, ?_, by split <;> split <;> omega⟩
      by_cases h : i.toNat ≤ k
      · rw [Nat.min_eq_left h]
      · rw [Nat.min_eq_right (by omega), List.take_of_length_le (by omega), List.take_of_length_le (by omega)]
    rw [hq2] at hm' ⊢
    have hq : (pe.take q).length = q := by rw [List.length_take]; omega
    obtain rfl : m + q = m' := by rw [← hm', List.length_append, hm, hq]
    have hj := j1 (pe.take q) q _ hq rfl (by omega)
    have hab : (u8c (sy ++ pe.take q)).length = m + q := by rw [u8c_length, hm']
    refine ac_enter tabOk (sz := 25) Try.func22 rfl (by rw [Try.ntmps22]; rfl) ?_
    repeat' (first
    | ((with_reducible refine aw_seqk ?_); intro K hK hX)
    | ((with_reducible refine isC_reg ?_); refine aw_prune [0, 1, 2, 4, 5] rfl rfl ?_; with_reducible refine aw_region ?_)
    | ((with_reducible refine isC_draw ?_); refine aw_prune [0, 1, 2, 4, 5] rfl rfl ?_; refine aw_drwE [] ?_)
    | ((first | with_reducible refine isA_call ?_ | with_reducible refine isE_call ?_); (first | refine zA ?_ | refine zN ?_ | refine zE ?_); (first | refine c0 (hva) ?_ | refine c1 (hj) ?_))
    | ((first | ((with_reducible refine isA_any ?_); refine xA ?_) | ((with_reducible refine isEk_any ?_); refine xE ?_)); (first | ((with_reducible refine e_bi ?_); (first | refine ex_i (s_min rfl rfl hq3) ?_))))
    | refine stA ?_
    | refine stE ?_
    | (refine hK _ _ _ _ ?_; clear hK hX K)
    | (refine hX _ _ _ _ _ (by simp) ?_; clear hK hX K))
    refine retK_mk (by first | exact .inl rfl | exact .inr rfl) (by exact ⟨cr_idle, cr_idle_b, trivial⟩) rfl (ResL.two (by first | exact ResA.one rfl rfl rfl rfl rfl | exact ResA.agg rfl rfl rfl rfl rfl (by first | exact IsAgg.closed rfl rfl | exact IsAgg.mixed _) | exact ResA.aggr rfl rfl rfl rfl (by first | rfl | with_reducible assumption | (simp <;> fail) | omega | (simp <;> omega) | assumption)) (by first | exact ResA.one rfl rfl rfl rfl rfl | exact ResA.agg rfl rfl rfl rfl rfl (by first | exact IsAgg.closed rfl rfl | exact IsAgg.mixed _) | exact ResA.aggr rfl rfl rfl rfl (by first | rfl | with_reducible assumption | (simp <;> fail) | omega | (simp <;> omega) | assumption))) (out_t (frzl_cons (by repeat' (first | exact frz_c cv_rfl | exact frz_c cv_nil | exact frz_ownW rfl rfl (by first | rfl | with_reducible assumption | (simp <;> fail) | omega | (simp <;> omega) | assumption) | exact frz_own rfl rfl rfl (by first | rfl | with_reducible assumption | (simp <;> fail) | omega | (simp <;> omega) | assumption) | exact frz_cv (frz_ownW rfl rfl (by first | rfl | with_reducible assumption | (simp <;> fail) | omega | (simp <;> omega) | assumption)) (cv_sl (by first | rfl | omega | (simp <;> fail) | fail) (by first | rfl | omega | (simp <;> fail) | fail)) | exact frz_cv (frz_own rfl rfl rfl (by first | rfl | with_reducible assumption | (simp <;> fail) | omega | (simp <;> omega) | assumption)) (cv_sl (by first | rfl | omega | (simp <;> fail) | fail) (by first | rfl | omega | (simp <;> fail) | fail)) | refine frz_agg rfl ?_ | refine frz_c (cv_agg ?_) | exact frzl_nil | refine frzl_cons ?_ ?_ | exact cvl_nil | refine cvl_cons ?_ ?_ | exact cv_rfl | exact cv_nil | exact cv_sl (by first | rfl | omega | (simp <;> fail) | fail) (by first | rfl | omega | (simp <;> fail) | fail) | exact frz_own rfl rfl (by assumption) (by assumption) | exact frz_int (by first | exact w64 (by omega) (by omega) | omega) | exact frz_true (by first | assumption | omega) | exact frz_false (by first | assumption | omega) | exact frz_eq (frz_c cv_rfl) (by first | rfl | (simp <;> fail) | fail))) (frzl_cons (by repeat' (first | exact frz_c cv_rfl | exact frz_c cv_nil | exact frz_ownW rfl rfl (by first | rfl | with_reducible assumption | (simp <;> fail) | omega | (simp <;> omega) | assumption) | exact frz_own rfl rfl rfl (by first | rfl | with_reducible assumption | (simp <;> fail) | omega | (simp <;> omega) | assumption) | exact frz_cv (frz_ownW rfl rfl (by first | rfl | with_reducible assumption | (simp <;> fail) | omega | (simp <;> omega) | assumption)) (cv_sl (by first | rfl | omega | (simp <;> fail) | fail) (by first | rfl | omega | (simp <;> fail) | fail)) | exact frz_cv (frz_own rfl rfl rfl (by first | rfl | with_reducible assumption | (simp <;> fail) | omega | (simp <;> omega) | assumption)) (cv_sl (by first | rfl | omega | (simp <;> fail) | fail) (by first | rfl | omega | (simp <;> fail) | fail)) | refine frz_agg rfl ?_ | refine frz_c (cv_agg ?_) | exact frzl_nil | refine frzl_cons ?_ ?_ | exact cvl_nil | refine cvl_cons ?_ ?_ | exact cv_rfl | exact cv_nil | exact cv_sl (by first | rfl | omega | (simp <;> fail) | fail) (by first | rfl | omega | (simp <;> fail) | fail) | exact frz_own rfl rfl (by assumption) (by assumption) | exact frz_int (by first | exact w64 (by omega) (by omega) | omega) | exact frz_true (by first | assumption | omega) | exact frz_false (by first | assumption | omega) | exact frz_eq (frz_c cv_rfl) (by first | rfl | (simp <;> fail) | fail))) frzl_nil)))
set_option maxHeartbeats 4000000 in
theorem cut_ok (sy pe : List UInt8) (fu : Int) (dn : Bool) (m k : Nat) (i : Int) (hm : sy.length = m) (hk : pe.length = k) (h1 : m ≤ 1000000) (h2 : k ≤ 1000000) (h3 : -9223372036854775808 ≤ i) (h4 : i ≤ 9223372036854775807) (s' : Dk) (e : Int) (m' k' : Nat) (hr : opT ⟨sy, pe, fu, dn⟩ i = (s', e)) (hm' : s'.sy.length = m') (hk' : s'.pe.length = k') : AC Try.prog 24 [dkC m k sy pe fu dn, iv i] (.tup [.c (dkV m' k' s'), .c (iv e)]) [] 0 := by
  have hva := valid_ok sy pe fu dn m k hm hk h1 h2
  have hcl := clone_ok sy pe fu dn m k hm hk h1 h2
  have j1 := fun q hq h => join_ok sy pe m k q hm hk hq h
  have hua : (u8c sy).length = m := by rw [u8c_length, hm]
  have hub : (u8c pe).length = k := by rw [u8c_length, hk]
  cases hok : Dk.ok ⟨sy, pe, fu, dn⟩ with
  | false =>
    rw [hok] at hva
    simp only [opT, hok, if_true, true_or] at hr
    injection hr with e1 e2
    subst e1 e2 hm' hk'
    refine ac_enter tabOk (sz := 42) Try.func24 rfl (by rw [Try.ntmps24]; rfl) ?_
    repeat' (first
    | ((with_reducible refine aw_seqk ?_); intro K hK hX)
    | ((with_reducible refine isC_reg ?_); refine aw_prune [0, 1, 2, 4, 5] rfl rfl ?_; with_reducible refine aw_region ?_)
    | ((with_reducible refine isA_call ?_); (first | refine zA ?_ | refine zN ?_); (first | refine c0 (hva) ?_))
    | refine stA ?_
    | (refine hK _ _ _ _ ?_; clear hK hX K)
    | (refine hX _ _ _ _ _ (by simp) ?_; clear hK hX K))
    refine retK_mk (by first | exact .inl rfl | exact .inr rfl) (by exact ⟨cu_idle, cu_idle_b, trivial⟩) rfl (ResL.two (by first | exact ResA.one rfl rfl rfl rfl rfl | exact ResA.agg rfl rfl rfl rfl rfl (by first | exact IsAgg.closed rfl rfl | exact IsAgg.mixed _) | exact ResA.aggr rfl rfl rfl rfl (by first | rfl | with_reducible assumption | (simp <;> fail) | omega | (simp <;> omega) | assumption)) (by first | exact ResA.one rfl rfl rfl rfl rfl | exact ResA.agg rfl rfl rfl rfl rfl (by first | exact IsAgg.closed rfl rfl | exact IsAgg.mixed _) | exact ResA.aggr rfl rfl rfl rfl (by first | rfl | with_reducible assumption | (simp <;> fail) | omega | (simp <;> omega) | assumption))) (out_t (frzl_cons (by repeat' (first | exact frz_c cv_rfl | exact frz_c cv_nil | exact frz_ownW rfl rfl (by first | rfl | with_reducible assumption | (simp <;> fail) | omega | (simp <;> omega) | assumption) | exact frz_own rfl rfl rfl (by first | rfl | with_reducible assumption | (simp <;> fail) | omega | (simp <;> omega) | assumption) | exact frz_cv (frz_ownW rfl rfl (by first | rfl | with_reducible assumption | (simp <;> fail) | omega | (simp <;> omega) | assumption)) (cv_sl (by first | rfl | omega | (simp <;> fail) | fail) (by first | rfl | omega | (simp <;> fail) | fail)) | exact frz_cv (frz_own rfl rfl rfl (by first | rfl | with_reducible assumption | (simp <;> fail) | omega | (simp <;> omega) | assumption)) (cv_sl (by first | rfl | omega | (simp <;> fail) | fail) (by first | rfl | omega | (simp <;> fail) | fail)) | refine frz_agg rfl ?_ | refine frz_c (cv_agg ?_) | exact frzl_nil | refine frzl_cons ?_ ?_ | exact cvl_nil | refine cvl_cons ?_ ?_ | exact cv_rfl | exact cv_nil | exact cv_sl (by first | rfl | omega | (simp <;> fail) | fail) (by first | rfl | omega | (simp <;> fail) | fail) | exact frz_own rfl rfl (by assumption) (by assumption) | exact frz_int (by first | exact w64 (by omega) (by omega) | omega) | exact frz_true (by first | assumption | omega) | exact frz_false (by first | assumption | omega) | exact frz_eq (frz_c cv_rfl) (by first | rfl | (simp <;> fail) | fail))) (frzl_cons (by repeat' (first | exact frz_c cv_rfl | exact frz_c cv_nil | exact frz_ownW rfl rfl (by first | rfl | with_reducible assumption | (simp <;> fail) | omega | (simp <;> omega) | assumption) | exact frz_own rfl rfl rfl (by first | rfl | with_reducible assumption | (simp <;> fail) | omega | (simp <;> omega) | assumption) | exact frz_cv (frz_ownW rfl rfl (by first | rfl | with_reducible assumption | (simp <;> fail) | omega | (simp <;> omega) | assumption)) (cv_sl (by first | rfl | omega | (simp <;> fail) | fail) (by first | rfl | omega | (simp <;> fail) | fail)) | exact frz_cv (frz_own rfl rfl rfl (by first | rfl | with_reducible assumption | (simp <;> fail) | omega | (simp <;> omega) | assumption)) (cv_sl (by first | rfl | omega | (simp <;> fail) | fail) (by first | rfl | omega | (simp <;> fail) | fail)) | refine frz_agg rfl ?_ | refine frz_c (cv_agg ?_) | exact frzl_nil | refine frzl_cons ?_ ?_ | exact cvl_nil | refine cvl_cons ?_ ?_ | exact cv_rfl | exact cv_nil | exact cv_sl (by first | rfl | omega | (simp <;> fail) | fail) (by first | rfl | omega | (simp <;> fail) | fail) | exact frz_own rfl rfl (by assumption) (by assumption) | exact frz_int (by first | exact w64 (by omega) (by omega) | omega) | exact frz_true (by first | assumption | omega) | exact frz_false (by first | assumption | omega) | exact frz_eq (frz_c cv_rfl) (by first | rfl | (simp <;> fail) | fail))) frzl_nil)))
  | true =>
    rw [hok] at hva
    obtain ⟨l1, l2⟩ := ok_facts hm hk hok
    simp only [opT, hok, hm, hk, Bool.true_eq_false, false_or, if_false] at hr
    by_cases b1 : i < 0
    · rw [if_pos (.inl b1)] at hr
      injection hr with e1 e2
      subst e1 e2 hm' hk'
      refine ac_enter tabOk (sz := 42) Try.func24 rfl (by rw [Try.ntmps24]; rfl) ?_
      repeat' (first
    | ((with_reducible refine aw_seqk ?_); intro K hK hX)
    | ((with_reducible refine isC_reg ?_); refine aw_prune [0, 1, 2, 4, 5] rfl rfl ?_; with_reducible refine aw_region ?_)
    | ((with_reducible refine isA_call ?_); (first | refine zA ?_ | refine zN ?_); (first | refine c0 (hva) ?_))
    | refine stA ?_
    | (refine hK _ _ _ _ ?_; clear hK hX K)
    | (refine hX _ _ _ _ _ (by simp) ?_; clear hK hX K))
      refine retK_mk (by first | exact .inl rfl | exact .inr rfl) (by exact ⟨cu_idle, cu_idle_b, trivial⟩) rfl (ResL.two (by first | exact ResA.one rfl rfl rfl rfl rfl | exact ResA.agg rfl rfl rfl rfl rfl (by first | exact IsAgg.closed rfl rfl | exact IsAgg.mixed _) | exact ResA.aggr rfl rfl rfl rfl (by first | rfl | with_reducible assumption | (simp <;> fail) | omega | (simp <;> omega) | assumption)) (by first | exact ResA.one rfl rfl rfl rfl rfl | exact ResA.agg rfl rfl rfl rfl rfl (by first | exact IsAgg.closed rfl rfl | exact IsAgg.mixed _) | exact ResA.aggr rfl rfl rfl rfl (by first | rfl | with_reducible assumption | (simp <;> fail) | omega | (simp <;> omega) | assumption))) (out_t (frzl_cons (by repeat' (first | exact frz_c cv_rfl | exact frz_c cv_nil | exact frz_ownW rfl rfl (by first | rfl | with_reducible assumption | (simp <;> fail) | omega | (simp <;> omega) | assumption) | exact frz_own rfl rfl rfl (by first | rfl | with_reducible assumption | (simp <;> fail) | omega | (simp <;> omega) | assumption) | exact frz_cv (frz_ownW rfl rfl (by first | rfl | with_reducible assumption | (simp <;> fail) | omega | (simp <;> omega) | assumption)) (cv_sl (by first | rfl | omega | (simp <;> fail) | fail) (by first | rfl | omega | (simp <;> fail) | fail)) | exact frz_cv (frz_own rfl rfl rfl (by first | rfl | with_reducible assumption | (simp <;> fail) | omega | (simp <;> omega) | assumption)) (cv_sl (by first | rfl | omega | (simp <;> fail) | fail) (by first | rfl | omega | (simp <;> fail) | fail)) | refine frz_agg rfl ?_ | refine frz_c (cv_agg ?_) | exact frzl_nil | refine frzl_cons ?_ ?_ | exact cvl_nil | refine cvl_cons ?_ ?_ | exact cv_rfl | exact cv_nil | exact cv_sl (by first | rfl | omega | (simp <;> fail) | fail) (by first | rfl | omega | (simp <;> fail) | fail) | exact frz_own rfl rfl (by assumption) (by assumption) | exact frz_int (by first | exact w64 (by omega) (by omega) | omega) | exact frz_true (by first | assumption | omega) | exact frz_false (by first | assumption | omega) | exact frz_eq (frz_c cv_rfl) (by first | rfl | (simp <;> fail) | fail))) (frzl_cons (by repeat' (first | exact frz_c cv_rfl | exact frz_c cv_nil | exact frz_ownW rfl rfl (by first | rfl | with_reducible assumption | (simp <;> fail) | omega | (simp <;> omega) | assumption) | exact frz_own rfl rfl rfl (by first | rfl | with_reducible assumption | (simp <;> fail) | omega | (simp <;> omega) | assumption) | exact frz_cv (frz_ownW rfl rfl (by first | rfl | with_reducible assumption | (simp <;> fail) | omega | (simp <;> omega) | assumption)) (cv_sl (by first | rfl | omega | (simp <;> fail) | fail) (by first | rfl | omega | (simp <;> fail) | fail)) | exact frz_cv (frz_own rfl rfl rfl (by first | rfl | with_reducible assumption | (simp <;> fail) | omega | (simp <;> omega) | assumption)) (cv_sl (by first | rfl | omega | (simp <;> fail) | fail) (by first | rfl | omega | (simp <;> fail) | fail)) | refine frz_agg rfl ?_ | refine frz_c (cv_agg ?_) | exact frzl_nil | refine frzl_cons ?_ ?_ | exact cvl_nil | refine cvl_cons ?_ ?_ | exact cv_rfl | exact cv_nil | exact cv_sl (by first | rfl | omega | (simp <;> fail) | fail) (by first | rfl | omega | (simp <;> fail) | fail) | exact frz_own rfl rfl (by assumption) (by assumption) | exact frz_int (by first | exact w64 (by omega) (by omega) | omega) | exact frz_true (by first | assumption | omega) | exact frz_false (by first | assumption | omega) | exact frz_eq (frz_c cv_rfl) (by first | rfl | (simp <;> fail) | fail))) frzl_nil)))
    · by_cases b2 : (m : Int) + (k : Int) < i
      · rw [if_pos (.inr b2)] at hr
        injection hr with e1 e2
        subst e1 e2 hm' hk'
        refine ac_enter tabOk (sz := 42) Try.func24 rfl (by rw [Try.ntmps24]; rfl) ?_
        repeat' (first
    | ((with_reducible refine aw_seqk ?_); intro K hK hX)
    | ((with_reducible refine isC_reg ?_); refine aw_prune [0, 1, 2, 4, 5] rfl rfl ?_; with_reducible refine aw_region ?_)
    | ((with_reducible refine isA_call ?_); (first | refine zA ?_ | refine zN ?_); (first | refine c0 (hva) ?_))
    | refine stA ?_
    | (refine hK _ _ _ _ ?_; clear hK hX K)
    | (refine hX _ _ _ _ _ (by simp) ?_; clear hK hX K))
        refine retK_mk (by first | exact .inl rfl | exact .inr rfl) (by exact ⟨cu_idle, cu_idle_b, trivial⟩) rfl (ResL.two (by first | exact ResA.one rfl rfl rfl rfl rfl | exact ResA.agg rfl rfl rfl rfl rfl (by first | exact IsAgg.closed rfl rfl | exact IsAgg.mixed _) | exact ResA.aggr rfl rfl rfl rfl (by first | rfl | with_reducible assumption | (simp <;> fail) | omega | (simp <;> omega) | assumption)) (by first | exact ResA.one rfl rfl rfl rfl rfl | exact ResA.agg rfl rfl rfl rfl rfl (by first | exact IsAgg.closed rfl rfl | exact IsAgg.mixed _) | exact ResA.aggr rfl rfl rfl rfl (by first | rfl | with_reducible assumption | (simp <;> fail) | omega | (simp <;> omega) | assumption))) (out_t (frzl_cons (by repeat' (first | exact frz_c cv_rfl | exact frz_c cv_nil | exact frz_ownW rfl rfl (by first | rfl | with_reducible assumption | (simp <;> fail) | omega | (simp <;> omega) | assumption) | exact frz_own rfl rfl rfl (by first | rfl | with_reducible assumption | (simp <;> fail) | omega | (simp <;> omega) | assumption) | exact frz_cv (frz_ownW rfl rfl (by first | rfl | with_reducible assumption | (simp <;> fail) | omega | (simp <;> omega) | assumption)) (cv_sl (by first | rfl | omega | (simp <;> fail) | fail) (by first | rfl | omega | (simp <;> fail) | fail)) | exact frz_cv (frz_own rfl rfl rfl (by first | rfl | with_reducible assumption | (simp <;> fail) | omega | (simp <;> omega) | assumption)) (cv_sl (by first | rfl | omega | (simp <;> fail) | fail) (by first | rfl | omega | (simp <;> fail) | fail)) | refine frz_agg rfl ?_ | refine frz_c (cv_agg ?_) | exact frzl_nil | refine frzl_cons ?_ ?_ | exact cvl_nil | refine cvl_cons ?_ ?_ | exact cv_rfl | exact cv_nil | exact cv_sl (by first | rfl | omega | (simp <;> fail) | fail) (by first | rfl | omega | (simp <;> fail) | fail) | exact frz_own rfl rfl (by assumption) (by assumption) | exact frz_int (by first | exact w64 (by omega) (by omega) | omega) | exact frz_true (by first | assumption | omega) | exact frz_false (by first | assumption | omega) | exact frz_eq (frz_c cv_rfl) (by first | rfl | (simp <;> fail) | fail))) (frzl_cons (by repeat' (first | exact frz_c cv_rfl | exact frz_c cv_nil | exact frz_ownW rfl rfl (by first | rfl | with_reducible assumption | (simp <;> fail) | omega | (simp <;> omega) | assumption) | exact frz_own rfl rfl rfl (by first | rfl | with_reducible assumption | (simp <;> fail) | omega | (simp <;> omega) | assumption) | exact frz_cv (frz_ownW rfl rfl (by first | rfl | with_reducible assumption | (simp <;> fail) | omega | (simp <;> omega) | assumption)) (cv_sl (by first | rfl | omega | (simp <;> fail) | fail) (by first | rfl | omega | (simp <;> fail) | fail)) | exact frz_cv (frz_own rfl rfl rfl (by first | rfl | with_reducible assumption | (simp <;> fail) | omega | (simp <;> omega) | assumption)) (cv_sl (by first | rfl | omega | (simp <;> fail) | fail) (by first | rfl | omega | (simp <;> fail) | fail)) | refine frz_agg rfl ?_ | refine frz_c (cv_agg ?_) | exact frzl_nil | refine frzl_cons ?_ ?_ | exact cvl_nil | refine cvl_cons ?_ ?_ | exact cv_rfl | exact cv_nil | exact cv_sl (by first | rfl | omega | (simp <;> fail) | fail) (by first | rfl | omega | (simp <;> fail) | fail) | exact frz_own rfl rfl (by assumption) (by assumption) | exact frz_int (by first | exact w64 (by omega) (by omega) | omega) | exact frz_true (by first | assumption | omega) | exact frz_false (by first | assumption | omega) | exact frz_eq (frz_c cv_rfl) (by first | rfl | (simp <;> fail) | fail))) frzl_nil)))
      · rw [if_neg (by omega)] at hr
        cases dn with
        | true =>
          simp only [if_true] at hr
          injection hr with e1 e2
          subst e1 e2
          obtain rfl : m = m' := by rw [← hm, ← hm']
          obtain rfl : k = k' := by rw [← hk, ← hk']
          refine ac_enter tabOk (sz := 42) Try.func24 rfl (by rw [Try.ntmps24]; rfl) ?_
          repeat' (first
    | ((with_reducible refine aw_seqk ?_); intro K hK hX)
    | ((with_reducible refine isC_reg ?_); refine aw_prune [0, 1, 2, 4, 5] rfl rfl ?_; with_reducible refine aw_region ?_)
    | ((with_reducible refine isA_call ?_); (first | refine zA ?_ | refine zN ?_); (first | refine c0 (hva) ?_ | refine c0 (hcl) ?_))
    | refine stA ?_
    | (refine hK _ _ _ _ ?_; clear hK hX K)
    | (refine hX _ _ _ _ _ (by simp) ?_; clear hK hX K))
          refine retK_mk (by first | exact .inl rfl | exact .inr rfl) (by exact ⟨cu_idle, cu_idle_b, trivial⟩) rfl (ResL.two (by first | exact ResA.one rfl rfl rfl rfl rfl | exact ResA.agg rfl rfl rfl rfl rfl (by first | exact IsAgg.closed rfl rfl | exact IsAgg.mixed _) | exact ResA.aggr rfl rfl rfl rfl (by first | rfl | with_reducible assumption | (simp <;> fail) | omega | (simp <;> omega) | assumption)) (by first | exact ResA.one rfl rfl rfl rfl rfl | exact ResA.agg rfl rfl rfl rfl rfl (by first | exact IsAgg.closed rfl rfl | exact IsAgg.mixed _) | exact ResA.aggr rfl rfl rfl rfl (by first | rfl | with_reducible assumption | (simp <;> fail) | omega | (simp <;> omega) | assumption))) (out_t (frzl_cons (by repeat' (first | exact frz_c cv_rfl | exact frz_c cv_nil | exact frz_ownW rfl rfl (by first | rfl | with_reducible assumption | (simp <;> fail) | omega | (simp <;> omega) | assumption) | exact frz_own rfl rfl rfl (by first | rfl | with_reducible assumption | (simp <;> fail) | omega | (simp <;> omega) | assumption) | exact frz_cv (frz_ownW rfl rfl (by first | rfl | with_reducible assumption | (simp <;> fail) | omega | (simp <;> omega) | assumption)) (cv_sl (by first | rfl | omega | (simp <;> fail) | fail) (by first | rfl | omega | (simp <;> fail) | fail)) | exact frz_cv (frz_own rfl rfl rfl (by first | rfl | with_reducible assumption | (simp <;> fail) | omega | (simp <;> omega) | assumption)) (cv_sl (by first | rfl | omega | (simp <;> fail) | fail) (by first | rfl | omega | (simp <;> fail) | fail)) | refine frz_agg rfl ?_ | refine frz_c (cv_agg ?_) | exact frzl_nil | refine frzl_cons ?_ ?_ | exact cvl_nil | refine cvl_cons ?_ ?_ | exact cv_rfl | exact cv_nil | exact cv_sl (by first | rfl | omega | (simp <;> fail) | fail) (by first | rfl | omega | (simp <;> fail) | fail) | exact frz_own rfl rfl (by assumption) (by assumption) | exact frz_int (by first | exact w64 (by omega) (by omega) | omega) | exact frz_true (by first | assumption | omega) | exact frz_false (by first | assumption | omega) | exact frz_eq (frz_c cv_rfl) (by first | rfl | (simp <;> fail) | fail))) (frzl_cons (by repeat' (first | exact frz_c cv_rfl | exact frz_c cv_nil | exact frz_ownW rfl rfl (by first | rfl | with_reducible assumption | (simp <;> fail) | omega | (simp <;> omega) | assumption) | exact frz_own rfl rfl rfl (by first | rfl | with_reducible assumption | (simp <;> fail) | omega | (simp <;> omega) | assumption) | exact frz_cv (frz_ownW rfl rfl (by first | rfl | with_reducible assumption | (simp <;> fail) | omega | (simp <;> omega) | assumption)) (cv_sl (by first | rfl | omega | (simp <;> fail) | fail) (by first | rfl | omega | (simp <;> fail) | fail)) | exact frz_cv (frz_own rfl rfl rfl (by first | rfl | with_reducible assumption | (simp <;> fail) | omega | (simp <;> omega) | assumption)) (cv_sl (by first | rfl | omega | (simp <;> fail) | fail) (by first | rfl | omega | (simp <;> fail) | fail)) | refine frz_agg rfl ?_ | refine frz_c (cv_agg ?_) | exact frzl_nil | refine frzl_cons ?_ ?_ | exact cvl_nil | refine cvl_cons ?_ ?_ | exact cv_rfl | exact cv_nil | exact cv_sl (by first | rfl | omega | (simp <;> fail) | fail) (by first | rfl | omega | (simp <;> fail) | fail) | exact frz_own rfl rfl (by assumption) (by assumption) | exact frz_int (by first | exact w64 (by omega) (by omega) | omega) | exact frz_true (by first | assumption | omega) | exact frz_false (by first | assumption | omega) | exact frz_eq (frz_c cv_rfl) (by first | rfl | (simp <;> fail) | fail))) frzl_nil)))
        | false =>
          simp only [Bool.false_eq_true, if_false] at hr
          injection hr with e1 e2
          subst e1 e2
          obtain rfl : 0 = k' := by rw [← hk']; rfl
          obtain ⟨q, rfl⟩ : ∃ q : Nat, i = (q : Int) := ⟨i.toNat, by omega⟩
          rw [Int.toNat_natCast] at hm' ⊢
          have hab : (u8c (sy ++ pe)).length = m + k := by rw [u8c_length, List.length_append, hm, hk]
          obtain rfl : q = m' := by rw [← hm', List.length_take, List.length_append, hm, hk]; omega
          have hj := j1 _ rfl (by omega)
          have hc1 : ((u8c (sy ++ pe)).drop 0).take (q * 1) = u8c ((sy ++ pe).take q) := by rw [List.drop_zero, Nat.mul_one, u8c_take]
          have hc2 : (u8c ((sy ++ pe).take q)).length = q * 1 := by rw [u8c_length, Nat.mul_one]; exact hm'
          refine ac_enter tabOk (sz := 42) Try.func24 rfl (by rw [Try.ntmps24]; rfl) ?_
          repeat' (first
    | ((with_reducible refine aw_seqk ?_); intro K hK hX)
    | ((with_reducible refine isC_reg ?_); refine aw_prune [0, 1, 2, 4, 5] rfl rfl ?_; with_reducible refine aw_region ?_)
    | ((with_reducible refine isA_call ?_); (first | refine zA ?_ | refine zN ?_); (first | refine c0 (hva) ?_ | refine c0 (hcl) ?_ | refine c1 (hj) ?_))
    | refine stA ?_
    | (refine hK _ _ _ _ ?_; clear hK hX K)
    | (refine hX _ _ _ _ _ (by simp) ?_; clear hK hX K))
          refine retK_mk (by first | exact .inl rfl | exact .inr rfl) (by exact ⟨cu_idle, cu_idle_b, trivial⟩) rfl (ResL.two (by first | exact ResA.one rfl rfl rfl rfl rfl | exact ResA.agg rfl rfl rfl rfl rfl (by first | exact IsAgg.closed rfl rfl | exact IsAgg.mixed _) | exact ResA.aggr rfl rfl rfl rfl (by first | rfl | with_reducible assumption | (simp <;> fail) | omega | (simp <;> omega) | assumption)) (by first | exact ResA.one rfl rfl rfl rfl rfl | exact ResA.agg rfl rfl rfl rfl rfl (by first | exact IsAgg.closed rfl rfl | exact IsAgg.mixed _) | exact ResA.aggr rfl rfl rfl rfl (by first | rfl | with_reducible assumption | (simp <;> fail) | omega | (simp <;> omega) | assumption))) (out_t (frzl_cons (by repeat' (first | exact frz_c cv_rfl | exact frz_c cv_nil | exact frz_ownW rfl rfl (by first | rfl | with_reducible assumption | (simp <;> fail) | omega | (simp <;> omega) | assumption) | exact frz_own rfl rfl rfl (by first | rfl | with_reducible assumption | (simp <;> fail) | omega | (simp <;> omega) | assumption) | exact frz_cv (frz_ownW rfl rfl (by first | rfl | with_reducible assumption | (simp <;> fail) | omega | (simp <;> omega) | assumption)) (cv_sl (by first | rfl | omega | (simp <;> fail) | fail) (by first | rfl | omega | (simp <;> fail) | fail)) | exact frz_cv (frz_own rfl rfl rfl (by first | rfl | with_reducible assumption | (simp <;> fail) | omega | (simp <;> omega) | assumption)) (cv_sl (by first | rfl | omega | (simp <;> fail) | fail) (by first | rfl | omega | (simp <;> fail) | fail)) | refine frz_agg rfl ?_ | refine frz_c (cv_agg ?_) | exact frzl_nil | refine frzl_cons ?_ ?_ | exact cvl_nil | refine cvl_cons ?_ ?_ | exact cv_rfl | exact cv_nil | exact cv_sl (by first | rfl | omega | (simp <;> fail) | fail) (by first | rfl | omega | (simp <;> fail) | fail) | exact frz_own rfl rfl (by assumption) (by assumption) | exact frz_int (by first | exact w64 (by omega) (by omega) | omega) | exact frz_true (by first | assumption | omega) | exact frz_false (by first | assumption | omega) | exact frz_eq (frz_c cv_rfl) (by first | rfl | (simp <;> fail) | fail))) (frzl_cons (by repeat' (first | exact frz_c cv_rfl | exact frz_c cv_nil | exact frz_ownW rfl rfl (by first | rfl | with_reducible assumption | (simp <;> fail) | omega | (simp <;> omega) | assumption) | exact frz_own rfl rfl rfl (by first | rfl | with_reducible assumption | (simp <;> fail) | omega | (simp <;> omega) | assumption) | exact frz_cv (frz_ownW rfl rfl (by first | rfl | with_reducible assumption | (simp <;> fail) | omega | (simp <;> omega) | assumption)) (cv_sl (by first | rfl | omega | (simp <;> fail) | fail) (by first | rfl | omega | (simp <;> fail) | fail)) | exact frz_cv (frz_own rfl rfl rfl (by first | rfl | with_reducible assumption | (simp <;> fail) | omega | (simp <;> omega) | assumption)) (cv_sl (by first | rfl | omega | (simp <;> fail) | fail) (by first | rfl | omega | (simp <;> fail) | fail)) | refine frz_agg rfl ?_ | refine frz_c (cv_agg ?_) | exact frzl_nil | refine frzl_cons ?_ ?_ | exact cvl_nil | refine cvl_cons ?_ ?_ | exact cv_rfl | exact cv_nil | exact cv_sl (by first | rfl | omega | (simp <;> fail) | fail) (by first | rfl | omega | (simp <;> fail) | fail) | exact frz_own rfl rfl (by assumption) (by assumption) | exact frz_int (by first | exact w64 (by omega) (by omega) | omega) | exact frz_true (by first | assumption | omega) | exact frz_false (by first | assumption | omega) | exact frz_eq (frz_c cv_rfl) (by first | rfl | (simp <;> fail) | fail))) frzl_nil)))
set_option maxHeartbeats 4000000 in
theorem read_ok (sy pe : List UInt8) (fu : Int) (dn : Bool) (m k : Nat) (hm : sy.length = m) (hk : pe.length = k) (h1 : m ≤ 1000000) (h2 : k ≤ 1000000) (s' : List UInt8) (e : Int) (m' : Nat) (hr : opR ⟨sy, pe, fu, dn⟩ = (s', e)) (hm' : s'.length = m') : AC Try.prog 14 [dkC m k sy pe fu dn] (.tup [.c (.sl 1 m' (u8c s')), .c (iv e)]) [] 0 := by
  have hva := valid_ok sy pe fu dn m k hm hk h1 h2
  have j1 := fun q hq h => join_ok sy pe m k q hm hk hq h
  have hua : (u8c sy).length = m := by rw [u8c_length, hm]
  have hub : (u8c pe).length = k := by rw [u8c_length, hk]
  cases hok : Dk.ok ⟨sy, pe, fu, dn⟩ with
  | false =>
    rw [hok] at hva
    simp only [opR, hok, if_true] at hr
    injection hr with e1 e2
    subst e1 e2 hm'
    refine ac_enter tabOk (sz := 15) Try.func14 rfl (by rw [Try.ntmps14]; rfl) ?_
    repeat' (first
    | ((with_reducible refine aw_seqk ?_); intro K hK hX)
    | ((with_reducible refine isC_reg ?_); refine aw_prune [0, 1, 2, 3] rfl rfl ?_; with_reducible refine aw_region ?_)
    | ((with_reducible refine isA_call ?_); (first | refine zA ?_ | refine zN ?_); (first | refine c0 (hva) ?_))
    | refine stA ?_
    | (refine hK _ _ _ _ ?_; clear hK hX K)
    | (refine hX _ _ _ _ _ (by simp) ?_; clear hK hX K))
    refine retK_mk (by first | exact .inl rfl | exact .inr rfl) (by exact ⟨re_idle, re_idle_b, trivial⟩) rfl (ResL.two (by first | exact ResA.one rfl rfl rfl rfl rfl | exact ResA.agg rfl rfl rfl rfl rfl (by first | exact IsAgg.closed rfl rfl | exact IsAgg.mixed _) | exact ResA.aggr rfl rfl rfl rfl (by first | rfl | with_reducible assumption | (simp <;> fail) | omega | (simp <;> omega) | assumption)) (by first | exact ResA.one rfl rfl rfl rfl rfl | exact ResA.agg rfl rfl rfl rfl rfl (by first | exact IsAgg.closed rfl rfl | exact IsAgg.mixed _) | exact ResA.aggr rfl rfl rfl rfl (by first | rfl | with_reducible assumption | (simp <;> fail) | omega | (simp <;> omega) | assumption))) (out_t (frzl_cons (by repeat' (first | exact frz_c cv_rfl | exact frz_c cv_nil | exact frz_ownW rfl rfl (by first | rfl | with_reducible assumption | (simp <;> fail) | omega | (simp <;> omega) | assumption) | exact frz_own rfl rfl rfl (by first | rfl | with_reducible assumption | (simp <;> fail) | omega | (simp <;> omega) | assumption) | exact frz_cv (frz_ownW rfl rfl (by first | rfl | with_reducible assumption | (simp <;> fail) | omega | (simp <;> omega) | assumption)) (cv_sl (by first | rfl | omega | (simp <;> fail) | fail) (by first | rfl | omega | (simp <;> fail) | fail)) | exact frz_cv (frz_own rfl rfl rfl (by first | rfl | with_reducible assumption | (simp <;> fail) | omega | (simp <;> omega) | assumption)) (cv_sl (by first | rfl | omega | (simp <;> fail) | fail) (by first | rfl | omega | (simp <;> fail) | fail)) | refine frz_agg rfl ?_ | refine frz_c (cv_agg ?_) | exact frzl_nil | refine frzl_cons ?_ ?_ | exact cvl_nil | refine cvl_cons ?_ ?_ | exact cv_rfl | exact cv_nil | exact cv_sl (by first | rfl | omega | (simp <;> fail) | fail) (by first | rfl | omega | (simp <;> fail) | fail) | exact frz_own rfl rfl (by assumption) (by assumption) | exact frz_int (by first | exact w64 (by omega) (by omega) | omega) | exact frz_true (by first | assumption | omega) | exact frz_false (by first | assumption | omega) | exact frz_eq (frz_c cv_rfl) (by first | rfl | (simp <;> fail) | fail))) (frzl_cons (by repeat' (first | exact frz_c cv_rfl | exact frz_c cv_nil | exact frz_ownW rfl rfl (by first | rfl | with_reducible assumption | (simp <;> fail) | omega | (simp <;> omega) | assumption) | exact frz_own rfl rfl rfl (by first | rfl | with_reducible assumption | (simp <;> fail) | omega | (simp <;> omega) | assumption) | exact frz_cv (frz_ownW rfl rfl (by first | rfl | with_reducible assumption | (simp <;> fail) | omega | (simp <;> omega) | assumption)) (cv_sl (by first | rfl | omega | (simp <;> fail) | fail) (by first | rfl | omega | (simp <;> fail) | fail)) | exact frz_cv (frz_own rfl rfl rfl (by first | rfl | with_reducible assumption | (simp <;> fail) | omega | (simp <;> omega) | assumption)) (cv_sl (by first | rfl | omega | (simp <;> fail) | fail) (by first | rfl | omega | (simp <;> fail) | fail)) | refine frz_agg rfl ?_ | refine frz_c (cv_agg ?_) | exact frzl_nil | refine frzl_cons ?_ ?_ | exact cvl_nil | refine cvl_cons ?_ ?_ | exact cv_rfl | exact cv_nil | exact cv_sl (by first | rfl | omega | (simp <;> fail) | fail) (by first | rfl | omega | (simp <;> fail) | fail) | exact frz_own rfl rfl (by assumption) (by assumption) | exact frz_int (by first | exact w64 (by omega) (by omega) | omega) | exact frz_true (by first | assumption | omega) | exact frz_false (by first | assumption | omega) | exact frz_eq (frz_c cv_rfl) (by first | rfl | (simp <;> fail) | fail))) frzl_nil)))
  | true =>
    rw [hok] at hva
    obtain ⟨l1, l2⟩ := ok_facts hm hk hok
    simp only [opR, hok, hm, hk, Bool.true_eq_false, if_false] at hr
    cases dn with
    | true =>
      simp only [if_true] at hr
      injection hr with e1 e2
      subst e1 e2 hm'
      refine ac_enter tabOk (sz := 15) Try.func14 rfl (by rw [Try.ntmps14]; rfl) ?_
      repeat' (first
    | ((with_reducible refine aw_seqk ?_); intro K hK hX)
    | ((with_reducible refine isC_reg ?_); refine aw_prune [0, 1, 2, 3] rfl rfl ?_; with_reducible refine aw_region ?_)
    | ((with_reducible refine isA_call ?_); (first | refine zA ?_ | refine zN ?_); (first | refine c0 (hva) ?_))
    | refine stA ?_
    | (refine hK _ _ _ _ ?_; clear hK hX K)
    | (refine hX _ _ _ _ _ (by simp) ?_; clear hK hX K))
      refine retK_mk (by first | exact .inl rfl | exact .inr rfl) (by exact ⟨re_idle, re_idle_b, trivial⟩) rfl (ResL.two (by first | exact ResA.one rfl rfl rfl rfl rfl | exact ResA.agg rfl rfl rfl rfl rfl (by first | exact IsAgg.closed rfl rfl | exact IsAgg.mixed _) | exact ResA.aggr rfl rfl rfl rfl (by first | rfl | with_reducible assumption | (simp <;> fail) | omega | (simp <;> omega) | assumption)) (by first | exact ResA.one rfl rfl rfl rfl rfl | exact ResA.agg rfl rfl rfl rfl rfl (by first | exact IsAgg.closed rfl rfl | exact IsAgg.mixed _) | exact ResA.aggr rfl rfl rfl rfl (by first | rfl | with_reducible assumption | (simp <;> fail) | omega | (simp <;> omega) | assumption))) (out_t (frzl_cons (by repeat' (first | exact frz_c cv_rfl | exact frz_c cv_nil | exact frz_ownW rfl rfl (by first | rfl | with_reducible assumption | (simp <;> fail) | omega | (simp <;> omega) | assumption) | exact frz_own rfl rfl rfl (by first | rfl | with_reducible assumption | (simp <;> fail) | omega | (simp <;> omega) | assumption) | exact frz_cv (frz_ownW rfl rfl (by first | rfl | with_reducible assumption | (simp <;> fail) | omega | (simp <;> omega) | assumption)) (cv_sl (by first | rfl | omega | (simp <;> fail) | fail) (by first | rfl | omega | (simp <;> fail) | fail)) | exact frz_cv (frz_own rfl rfl rfl (by first | rfl | with_reducible assumption | (simp <;> fail) | omega | (simp <;> omega) | assumption)) (cv_sl (by first | rfl | omega | (simp <;> fail) | fail) (by first | rfl | omega | (simp <;> fail) | fail)) | refine frz_agg rfl ?_ | refine frz_c (cv_agg ?_) | exact frzl_nil | refine frzl_cons ?_ ?_ | exact cvl_nil | refine cvl_cons ?_ ?_ | exact cv_rfl | exact cv_nil | exact cv_sl (by first | rfl | omega | (simp <;> fail) | fail) (by first | rfl | omega | (simp <;> fail) | fail) | exact frz_own rfl rfl (by assumption) (by assumption) | exact frz_int (by first | exact w64 (by omega) (by omega) | omega) | exact frz_true (by first | assumption | omega) | exact frz_false (by first | assumption | omega) | exact frz_eq (frz_c cv_rfl) (by first | rfl | (simp <;> fail) | fail))) (frzl_cons (by repeat' (first | exact frz_c cv_rfl | exact frz_c cv_nil | exact frz_ownW rfl rfl (by first | rfl | with_reducible assumption | (simp <;> fail) | omega | (simp <;> omega) | assumption) | exact frz_own rfl rfl rfl (by first | rfl | with_reducible assumption | (simp <;> fail) | omega | (simp <;> omega) | assumption) | exact frz_cv (frz_ownW rfl rfl (by first | rfl | with_reducible assumption | (simp <;> fail) | omega | (simp <;> omega) | assumption)) (cv_sl (by first | rfl | omega | (simp <;> fail) | fail) (by first | rfl | omega | (simp <;> fail) | fail)) | exact frz_cv (frz_own rfl rfl rfl (by first | rfl | with_reducible assumption | (simp <;> fail) | omega | (simp <;> omega) | assumption)) (cv_sl (by first | rfl | omega | (simp <;> fail) | fail) (by first | rfl | omega | (simp <;> fail) | fail)) | refine frz_agg rfl ?_ | refine frz_c (cv_agg ?_) | exact frzl_nil | refine frzl_cons ?_ ?_ | exact cvl_nil | refine cvl_cons ?_ ?_ | exact cv_rfl | exact cv_nil | exact cv_sl (by first | rfl | omega | (simp <;> fail) | fail) (by first | rfl | omega | (simp <;> fail) | fail) | exact frz_own rfl rfl (by assumption) (by assumption) | exact frz_int (by first | exact w64 (by omega) (by omega) | omega) | exact frz_true (by first | assumption | omega) | exact frz_false (by first | assumption | omega) | exact frz_eq (frz_c cv_rfl) (by first | rfl | (simp <;> fail) | fail))) frzl_nil)))
    | false =>
      simp only [Bool.false_eq_true, if_false] at hr
      injection hr with e1 e2
      subst e1 e2
      have hab : (u8c (sy ++ pe)).length = m + k := by rw [u8c_length, List.length_append, hm, hk]
      obtain rfl : m + k = m' := by rw [← hm', List.length_append, hm, hk]
      have hj := j1 _ rfl (by omega)
      refine ac_enter tabOk (sz := 15) Try.func14 rfl (by rw [Try.ntmps14]; rfl) ?_
      repeat' (first
    | ((with_reducible refine aw_seqk ?_); intro K hK hX)
    | ((with_reducible refine isC_reg ?_); refine aw_prune [0, 1, 2, 3] rfl rfl ?_; with_reducible refine aw_region ?_)
    | ((with_reducible refine isA_call ?_); (first | refine zA ?_ | refine zN ?_); (first | refine c0 (hva) ?_ | refine c1 (hj) ?_))
    | refine stA ?_
    | (refine hK _ _ _ _ ?_; clear hK hX K)
    | (refine hX _ _ _ _ _ (by simp) ?_; clear hK hX K))
      refine retK_mk (by first | exact .inl rfl | exact .inr rfl) (by exact ⟨re_idle, re_idle_b, trivial⟩) rfl (ResL.two (by first | exact ResA.one rfl rfl rfl rfl rfl | exact ResA.agg rfl rfl rfl rfl rfl (by first | exact IsAgg.closed rfl rfl | exact IsAgg.mixed _) | exact ResA.aggr rfl rfl rfl rfl (by first | rfl | with_reducible assumption | (simp <;> fail) | omega | (simp <;> omega) | assumption)) (by first | exact ResA.one rfl rfl rfl rfl rfl | exact ResA.agg rfl rfl rfl rfl rfl (by first | exact IsAgg.closed rfl rfl | exact IsAgg.mixed _) | exact ResA.aggr rfl rfl rfl rfl (by first | rfl | with_reducible assumption | (simp <;> fail) | omega | (simp <;> omega) | assumption))) (out_t (frzl_cons (by repeat' (first | exact frz_c cv_rfl | exact frz_c cv_nil | exact frz_ownW rfl rfl (by first | rfl | with_reducible assumption | (simp <;> fail) | omega | (simp <;> omega) | assumption) | exact frz_own rfl rfl rfl (by first | rfl | with_reducible assumption | (simp <;> fail) | omega | (simp <;> omega) | assumption) | exact frz_cv (frz_ownW rfl rfl (by first | rfl | with_reducible assumption | (simp <;> fail) | omega | (simp <;> omega) | assumption)) (cv_sl (by first | rfl | omega | (simp <;> fail) | fail) (by first | rfl | omega | (simp <;> fail) | fail)) | exact frz_cv (frz_own rfl rfl rfl (by first | rfl | with_reducible assumption | (simp <;> fail) | omega | (simp <;> omega) | assumption)) (cv_sl (by first | rfl | omega | (simp <;> fail) | fail) (by first | rfl | omega | (simp <;> fail) | fail)) | refine frz_agg rfl ?_ | refine frz_c (cv_agg ?_) | exact frzl_nil | refine frzl_cons ?_ ?_ | exact cvl_nil | refine cvl_cons ?_ ?_ | exact cv_rfl | exact cv_nil | exact cv_sl (by first | rfl | omega | (simp <;> fail) | fail) (by first | rfl | omega | (simp <;> fail) | fail) | exact frz_own rfl rfl (by assumption) (by assumption) | exact frz_int (by first | exact w64 (by omega) (by omega) | omega) | exact frz_true (by first | assumption | omega) | exact frz_false (by first | assumption | omega) | exact frz_eq (frz_c cv_rfl) (by first | rfl | (simp <;> fail) | fail))) (frzl_cons (by repeat' (first | exact frz_c cv_rfl | exact frz_c cv_nil | exact frz_ownW rfl rfl (by first | rfl | with_reducible assumption | (simp <;> fail) | omega | (simp <;> omega) | assumption) | exact frz_own rfl rfl rfl (by first | rfl | with_reducible assumption | (simp <;> fail) | omega | (simp <;> omega) | assumption) | exact frz_cv (frz_ownW rfl rfl (by first | rfl | with_reducible assumption | (simp <;> fail) | omega | (simp <;> omega) | assumption)) (cv_sl (by first | rfl | omega | (simp <;> fail) | fail) (by first | rfl | omega | (simp <;> fail) | fail)) | exact frz_cv (frz_own rfl rfl rfl (by first | rfl | with_reducible assumption | (simp <;> fail) | omega | (simp <;> omega) | assumption)) (cv_sl (by first | rfl | omega | (simp <;> fail) | fail) (by first | rfl | omega | (simp <;> fail) | fail)) | refine frz_agg rfl ?_ | refine frz_c (cv_agg ?_) | exact frzl_nil | refine frzl_cons ?_ ?_ | exact cvl_nil | refine cvl_cons ?_ ?_ | exact cv_rfl | exact cv_nil | exact cv_sl (by first | rfl | omega | (simp <;> fail) | fail) (by first | rfl | omega | (simp <;> fail) | fail) | exact frz_own rfl rfl (by assumption) (by assumption) | exact frz_int (by first | exact w64 (by omega) (by omega) | omega) | exact frz_true (by first | assumption | omega) | exact frz_false (by first | assumption | omega) | exact frz_eq (frz_c cv_rfl) (by first | rfl | (simp <;> fail) | fail))) frzl_nil)))
end Go.Proofs.Ytddlgdppfeeplaa
/-
  How the arguments of a row read as closed values. For every program.
-/
set_option linter.unusedVariables false
set_option linter.unusedSimpArgs false
namespace Go.Av
open Go Go.RowKit

section
variable {H : Type} {enc : TypeId × Value → H} {P : Program} {W : World} {base : Nat} {sp : Nat → Bool} {held : Bool}
abbrev RC (W : World) (xs : List CV) (cs : List Value) : Prop := RepCs (fun _ => True) W xs cs ∧ ∀ u ∈ cs, u.oneCell' = true
/-- Whatever a reader reads at a type reads as closed values of this form. -/
def Opens (enc : TypeId × Value → H) (P : Program) (W : World) (base : Nat) (sp : Nat → Bool) (held : Bool) (t : TypeId) (R : List CV → Prop) : Prop :=
  ∀ fuel cs y, DataW.trod enc P W base sp held fuel t cs = some y → ∃ xs, RC W xs cs ∧ R xs

theorem RC.app {xs ys : List CV} {cs ds : List Value} (h : RC W xs cs) (k : RC W ys ds) : RC W (xs ++ ys) (cs ++ ds) :=
  ⟨h.1.append k.1, fun u hu => (List.mem_append.1 hu).elim (h.2 u) (k.2 u)⟩
theorem op_int {t : TypeId} {k : IntKind} (hu : P.underlying t = some (.int k)) : Opens enc P W base sp held t fun xs => ∃ m, xs = [.v (.int k m)] ∧ (Lit.int k m).wf = true := by
  intro fuel cs y h
  obtain ⟨n, rfl, _, hw⟩ := DataW.trod_int hu h
  exact ⟨[.v (.int k n)], ⟨⟨_, _, rfl, rfl, rfl⟩, by simp [Value.oneCell']⟩, n, rfl, hw⟩
theorem op_bool {t : TypeId} (hu : P.underlying t = some .bool) : Opens enc P W base sp held t fun xs => ∃ m, xs = [.v (.bool m)] := by
  intro fuel cs y h
  obtain ⟨n, rfl, _⟩ := DataW.trod_bool hu h
  exact ⟨[.v (.bool n)], ⟨⟨_, _, rfl, rfl, rfl⟩, by simp [Value.oneCell']⟩, n, rfl⟩
theorem op_str {t : TypeId} (hu : P.underlying t = some .string) : Opens enc P W base sp held t fun xs => ∃ s, xs = [.v (.string s)] ∧ s.size ≤ maxLen := by
  intro fuel cs y h
  obtain ⟨n, rfl, _, hs⟩ := DataW.trod_string hu h
  exact ⟨[.v (.string n)], ⟨⟨_, _, rfl, rfl, rfl⟩, by simp [Value.oneCell']⟩, n, rfl, hs⟩

theorem mapM_some {α β : Type} {f : α → Option β} : ∀ {L : List α} {ys : List β}, L.mapM f = some ys → ∀ x ∈ L, ∃ y, f x = some y
  | [], ys, h, x, hx => by cases hx
  | a :: L, ys, h, x, hx => by
    rw [List.mapM_cons] at h
    simp only [bind, Option.bind_eq_some_iff, pure, Option.some.injEq] at h
    obtain ⟨y, hy, zs, hz, rfl⟩ := h
    rcases List.mem_cons.1 hx with rfl | hx
    · exact ⟨y, hy⟩
    · exact mapM_some hz x hx

theorem rc_blocks {R : List CV → Prop} {s : Nat} : ∀ (n : Nat) {cs : List Value}, cs.length = n * s → (∀ i, i < n → ∃ xs, RC W xs ((cs.drop (i * s)).take s) ∧ R xs) → ∃ ls : List (List CV), ls.length = n ∧ RC W ls.flatten cs ∧ ∀ l ∈ ls, R l ∧ l.length = s
  | 0, cs, hl, _ => by
    have : cs = [] := List.eq_nil_of_length_eq_zero (by simpa using hl)
    subst this
    exact ⟨[], rfl, ⟨rfl, by simp⟩, by simp⟩
  | n + 1, cs, hl, h => by
    rw [Nat.succ_mul] at hl
    obtain ⟨xs, hx, hr⟩ := h 0 (by omega)
    rw [Nat.zero_mul, List.drop_zero] at hx
    obtain ⟨ls, h1, h2, h3⟩ := rc_blocks (R := R) (s := s) n (cs := cs.drop s) (by rw [List.length_drop]; omega) (fun i hi => by
      obtain ⟨ys, hy, hr⟩ := h (i + 1) (by omega)
      refine ⟨ys, ?_, hr⟩
      rw [List.drop_drop, show s + i * s = (i + 1) * s by rw [Nat.succ_mul]; omega]
      exact hy)
    refine ⟨xs :: ls, by simp [h1], ?_, fun l hl' => ?_⟩
    · have := hx.app h2
      rwa [List.take_append_drop] at this
    · rcases List.mem_cons.1 hl' with rfl | hl'
      · refine ⟨hr, ?_⟩
        rw [← hx.1.length, List.length_take]
        omega
      · exact h3 l hl'
theorem op_arr {t e : TypeId} {n s : Nat} {R : List CV → Prop} (hu : P.underlying t = some (.array n e)) (hs : P.cellsOf e = s) (hct : P.cellsOf t = n * s) (he : Opens enc P W base sp held e R) : Opens enc P W base sp held t fun xs => ∃ ls : List (List CV), xs = ls.flatten ∧ ls.length = n ∧ ∀ l ∈ ls, R l ∧ l.length = s := by
  intro fuel cs y h
  cases fuel with
  | zero => simp [DataW.trod] at h
  | succ m =>
    rw [DataW.trod_step] at h
    unfold DataW.trodStep at h
    simp only [hu] at h
    split at h
    · rename_i hl
      simp only [Option.map_eq_some_iff] at h
      obtain ⟨ys, hy, _⟩ := h
      rw [hs] at hy
      obtain ⟨ls, h1, h2, h3⟩ := rc_blocks (R := R) (s := s) n (cs := cs) (by rw [hl, hct]) (fun i hi => by
        obtain ⟨z, hz⟩ := mapM_some hy i (List.mem_range.2 hi)
        exact he m _ _ hz)
      exact ⟨_, h2, ls, rfl, h1, h3⟩
    · cases h
theorem cells_get {a : Addr} {n : Nat} {cs : List Value} (h : W.cells? base a n = some cs) : cs.length = n ∧ ∀ j, j < n → W.cell? (a.add j) = cs[j]? := by
  unfold World.cells? at h
  split at h
  · have key : ∀ (L : List Nat) (cs : List Value), L.mapM (fun i => W.cell? (a.add i)) = some cs → cs.length = L.length ∧ ∀ (j x : Nat), L[j]? = some x → W.cell? (a.add x) = cs[j]? := by
      intro L
      induction L with
      | nil => intro cs h; simp at h; subst h; simp
      | cons x L ih =>
        intro cs h
        rw [List.mapM_cons] at h
        simp only [bind, Option.bind_eq_some_iff, pure, Option.some.injEq] at h
        obtain ⟨y, hy, zs, hz, rfl⟩ := h
        obtain ⟨h1, h2⟩ := ih zs hz
        refine ⟨by simp [h1], fun j z hj => ?_⟩
        cases j with
        | zero => simp at hj; subst hj; simpa using hy
        | succ j => simpa using h2 j z (by simpa using hj)
    obtain ⟨h1, h2⟩ := key _ _ h
    exact ⟨by simpa using h1, fun j hj => h2 j j (by simp [hj])⟩
  · cases h
theorem addr_add (a : Addr) (i j : Nat) : (a.add i).add j = a.add (i + j) := by
  unfold Addr.add
  by_cases hi : i = 0 <;> by_cases hj : j = 0 <;> simp [hi, hj, Nat.add_assoc]
theorem rc_rows {R : List CV → Prop} {s : Nat} {a : Addr} : ∀ (n : Nat), (∀ i, i < n → ∃ ci xs, W.cells? base (a.add (i * s)) s = some ci ∧ RC W xs ci ∧ R xs) →
    ∃ (us : List Value) (ls : List (List CV)), us.length = n * s ∧ (∀ j, j < n * s → W.cell? (a.add j) = us[j]?) ∧ ls.length = n ∧ RC W ls.flatten us ∧ ∀ l ∈ ls, R l ∧ l.length = s
  | 0, _ => ⟨[], [], by simp, by simp, rfl, ⟨rfl, by simp⟩, by simp⟩
  | n + 1, h => by
    obtain ⟨us, ls, h1, h2, h3, h4, h5⟩ := rc_rows n (fun i hi => h i (by omega))
    obtain ⟨ci, xs, k1, k2, k3⟩ := h n (by omega)
    obtain ⟨k4, k5⟩ := cells_get k1
    refine ⟨us ++ ci, ls ++ [xs], by rw [List.length_append, h1, k4, Nat.succ_mul], fun j hj => ?_, by simp [h3], ?_, fun l hl => ?_⟩
    · rw [Nat.succ_mul] at hj
      rcases Nat.lt_or_ge j (n * s) with hlt | hge
      · rw [List.getElem?_append_left (by omega)]; exact h2 j hlt
      · rw [List.getElem?_append_right (by omega), h1, ← k5 (j - n * s) (by omega), addr_add]
        congr 2
        omega
    · have := h4.app k2
      simpa using this
    · rcases List.mem_append.1 hl with hl | hl
      · exact h5 l hl
      · rw [List.mem_singleton] at hl
        subst hl
        exact ⟨k3, by rw [← k2.1.length]; exact k4⟩
theorem spot_of_cell {x : Addr} {u : Value} (h : W.cell? x = some u) : x.spot = none ∧ x.block < W.heap.size := by
  unfold World.cell? at h
  split at h
  · rename_i cs t fz hb
    split at h
    · cases h
    · rename_i hsp
      exact ⟨by simpa using hsp, lt_of_block hb⟩
  · cases h
theorem op_slice {t e : TypeId} {s : Nat} {R : List CV → Prop} (hu : P.underlying t = some (.slice e)) (hs : P.cellsOf e = s) (h0 : 0 < s) (he : Opens enc P W base sp held e R) : Opens enc P W base sp held t fun xs => ∃ ls : List (List CV), xs = [.sl s ls.length ls.flatten] ∧ ls.length ≤ maxLen ∧ ∀ l ∈ ls, R l ∧ l.length = s := by
  intro fuel cs y h
  rcases DataW.trod_slice hu h with ⟨rfl, _⟩ | ⟨a, len, cap, elems, rest, n, _, rfl, rfl, hb, hl, hm, hlen, hel, hsp, hns⟩
  · refine ⟨[.sl s 0 []], ⟨⟨_, _, rfl, ?_, rfl⟩, by simp [Value.oneCell']⟩, [], rfl, by simp [maxLen], by simp⟩
    exact ⟨none, 0, [], rfl, Nat.le_refl _, by simp [maxLen], by simp, by simp [RepCs], by simp, fun h => absurd h (by omega)⟩
  · rw [hs] at hel
    obtain ⟨us, ls, h1, h2, h3, h4, h5⟩ := rc_rows (R := R) (s := s) (a := a) (W := W) (base := base) len (fun i hi => by
      have := hel i hi
      rw [List.getElem?_eq_getElem (by omega)] at this
      rw [Option.bind_eq_some_iff] at this
      obtain ⟨ci, k1, k2⟩ := this
      obtain ⟨xs, k3, k4⟩ := he _ _ _ k2
      exact ⟨ci, xs, k1, k3, k4⟩)
    refine ⟨[.sl s len ls.flatten], ⟨⟨_, _, rfl, ?_, rfl⟩, by simp [Value.oneCell']⟩, ls, by rw [h3], by omega, h5⟩
    have hfl : ls.flatten.length = len * s := by rw [← h4.1.length, h1]
    refine ⟨some a, cap, us, rfl, hl, hm, hfl, h4.1, h4.2, fun hn => ?_⟩
    have hpos : 0 < len * s := Nat.mul_pos hn h0
    have hc0 := h2 0 hpos
    rw [List.getElem?_eq_getElem (by omega)] at hc0
    obtain ⟨e1, e2⟩ := spot_of_cell hc0
    obtain ⟨b, o, spt⟩ := a
    simp only [Addr.add] at e1 e2
    subst e1
    refine ⟨b, o, rfl, trivial, e2, fun j x hj => ?_⟩
    have hjl : j < len * s := by
      rw [← h1]
      exact (List.getElem?_eq_some_iff.1 hj).1
    have := h2 j hjl
    rw [hj, add_mk] at this
    exact this
/-- Fields one after the other, from a place on. -/
def OpF (enc : TypeId × Value → H) (P : Program) (W : World) (base : Nat) (sp : Nat → Bool) (held : Bool) (off : Nat) (fs : List Field) (R : List CV → Prop) : Prop :=
  ∀ (fuel : Nat) (cs : List Value) ys, fs.mapM (fun f => DataW.trod enc P W base sp held fuel f.type ((cs.drop f.offset).take (P.cellsOf f.type))) = some ys → cs.length = off + (fs.map fun f => P.cellsOf f.type).sum → ∃ xs, RC W xs (cs.drop off) ∧ R xs
theorem opf_nil {off : Nat} : OpF enc P W base sp held off [] fun xs => xs = [] := by
  intro fuel cs ys h hl
  simp at hl
  exact ⟨[], ⟨by rw [List.drop_of_length_le (by omega)]; rfl, by rw [List.drop_of_length_le (by omega)]; simp⟩, rfl⟩
theorem opf_cons {off s : Nat} {f : Field} {fs : List Field} {R1 R2 : List CV → Prop} (hoff : f.offset = off) (hs : P.cellsOf f.type = s) (he : Opens enc P W base sp held f.type R1) (hr : OpF enc P W base sp held (off + s) fs R2) : OpF enc P W base sp held off (f :: fs) fun xs => ∃ a b, xs = a ++ b ∧ R1 a ∧ R2 b := by
  intro fuel cs ys h hl
  rw [List.mapM_cons] at h
  simp only [bind, Option.bind_eq_some_iff, pure, Option.some.injEq] at h
  obtain ⟨y, hy, zs, hz, rfl⟩ := h
  simp only [List.map_cons, List.sum_cons, hs] at hl
  obtain ⟨b, h1, h2⟩ := hr fuel cs zs hz (by omega)
  obtain ⟨a, h3, h4⟩ := he _ _ _ hy
  refine ⟨a ++ b, ?_, a, b, rfl, h4, h2⟩
  rw [hoff, hs] at h3
  have := h3.app h1
  rw [← List.drop_drop, List.take_append_drop] at this
  exact this
theorem op_struct {t : TypeId} {fs : List Field} {R : List CV → Prop} (hu : P.underlying t = some (.struct fs.toArray)) (hc : P.cellsOf t = (fs.map fun f => P.cellsOf f.type).sum) (hf : OpF enc P W base sp held 0 fs R) : Opens enc P W base sp held t R := by
  intro fuel cs y h
  cases fuel with
  | zero => simp [DataW.trod] at h
  | succ m =>
    rw [DataW.trod_step] at h
    unfold DataW.trodStep at h
    simp only [hu] at h
    split at h
    · rename_i hl
      simp only [Option.map_eq_some_iff] at h
      obtain ⟨ys, hy, _⟩ := h
      obtain ⟨xs, h1, h2⟩ := hf m cs ys (by simpa using hy) (by rw [hl, hc]; omega)
      rw [List.drop_zero] at h1
      exact ⟨xs, h1, h2⟩
    · cases h

/-- One-cell arguments and aggregates. -/
theorem arg_one {t : TypeId} {v : Value} {d : DataW H} {p : List MemPlace} {R : List CV → Prop} (he : Opens enc P W base sp held t R) (h : DataW.Trod enc P W base sp held t v d p) (hv : v.cells = #[v]) : ∃ x, RepC (fun _ => True) W x v ∧ R [x] := by
  obtain ⟨fuel, hf⟩ := h
  rw [hv] at hf
  obtain ⟨xs, h1, h2⟩ := he _ _ _ hf
  obtain ⟨h1, _⟩ := h1
  cases xs with
  | nil => simp [RepCs] at h1
  | cons x xs =>
    simp only [RepCs] at h1
    obtain ⟨u, us, e, h3, h4⟩ := h1
    injection e with e1 e2
    subst e1 e2
    cases xs with
    | nil => exact ⟨x, h3, h2⟩
    | cons y ys => simp [RepCs] at h4
theorem arg_agg {t : TypeId} {cs : Array Value} {d : DataW H} {p : List MemPlace} {R : List CV → Prop} (he : Opens enc P W base sp held t R) (h : DataW.Trod enc P W base sp held t (.agg cs) d p) : ∃ xs, RepC (fun _ => True) W (.agg xs) (.agg cs) ∧ R xs := by
  obtain ⟨fuel, hf⟩ := h
  obtain ⟨xs, h1, h2⟩ := he _ _ _ hf
  exact ⟨xs, ⟨cs.toList, by simp, h1.1, h1.2⟩, h2⟩
end
end Go.Av
