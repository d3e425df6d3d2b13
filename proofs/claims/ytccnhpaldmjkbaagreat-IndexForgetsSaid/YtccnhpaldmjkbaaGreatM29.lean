/-
  Joined texts: JR. Lemmas; no statement of a law.
-/
import Derived.Test.YtccnhpaldmjkbaaGreatM12
import Derived.Test.YtccnhpaldmjkbaaGreatM21
set_option linter.unusedSimpArgs false
set_option linter.unusedVariables false
/-
  Comparing rows (walk).
-/
namespace Go.Proofs.YtccnhpaldmjkbaaGreat
open Go Go.RowKit Go.Av
set_option maxRecDepth 100000
attribute [local irreducible] Still Adds AWL AW Drw DrwE EStep AC AWR Weak Frz Src RetK Out InK ItK AsK RdK RetT OutT ACT
set_option maxHeartbeats 4000000 in
theorem sameR2_ok (r s : List Vl) (n m : Nat) (hn : r.length = n) (hm : s.length = m) (hn2 : n ≤ 1000000) (hm2 : m ≤ 1000000) : AC Tryz.prog 42 [.sl 3 n (rc r), .sl 3 m (rc s)] (.c (bv (decide (r = s)))) [] 0 := by
  have hcl : (rc r).length = n * 3 := by rw [rc_length, hn]
  have hcm : (rc s).length = m * 3 := by rw [rc_length, hm]
  by_cases hl : n = m
  · subst hl
    have hcond : decide ((n : Int) ≠ (n : Int)) = false := by simp
    refine ac_enter tabOk (sz := 26) Tryz.func42 rfl (by rw [Tryz.ntmps42]; rfl) ?_
    repeat' (first | ((with_reducible refine aw_seqk ?_); intro K hK hX) | ((with_reducible refine isC_reg ?_); refine aw_prune [0, 1, 4, 5] rfl rfl ?_; with_reducible refine aw_region ?_) | ((with_reducible refine isC_draw ?_); refine aw_prune [0, 1, 4, 5] rfl rfl ?_; refine aw_drwF [] ?_) | ((first | ((with_reducible refine isA_any ?_); refine xA ?_) | ((with_reducible refine isDk_any ?_); refine xD ?_)); (first | ((with_reducible refine e_bin ?_); (first | refine ex_i (s_cmp rfl rfl rfl hcond) ?_)))) | refine stA ?_ | refine stD ?_ | (refine hK _ _ _ _ ?_; clear hK hX K) | (refine hX _ _ _ _ _ (by simp) ?_; clear hK hX K))
    refine aw_loopo [5] [] rfl rfl (fun i : Nat => [(5, .c (iv i))]) (fun i => []) (fun i => i ≤ n ∧ r.take i = s.take i) (fun i => n - i) 0 ⟨Nat.zero_le _, rfl⟩ weakA ?_
    intro i hi K hK hX
    obtain ⟨hi, htk⟩ := hi
    by_cases hik : i < n
    · obtain ⟨v, hv⟩ : ∃ v, r[i]? = some v := ⟨_, List.getElem?_eq_getElem (by omega)⟩
      obtain ⟨w, hw⟩ : ∃ w, s[i]? = some w := ⟨_, List.getElem?_eq_getElem (by omega)⟩
      have hav := rc_at hv
      have haw := rc_at hw
      by_cases hvw : v = w
      · have hne : (!decide (v = w)) = false := by simp [hvw]
        have htk2 : r.take (i + 1) = s.take (i + 1) := by rw [List.take_add_one, List.take_add_one, htk, hv, hw, hvw]
        clear hv hw hvw htk
        repeat' (first | ((with_reducible refine aw_seqk ?_); intro K hK hX) | ((with_reducible refine isC_reg ?_); refine aw_prune [0, 1, 4, 5] rfl rfl ?_; with_reducible refine aw_region ?_) | ((with_reducible refine isC_draw ?_); refine aw_prune [0, 1, 4, 5] rfl rfl ?_; refine aw_drwF [] ?_) | ((first | ((with_reducible refine isA_any ?_); refine xA ?_) | ((with_reducible refine isDk_any ?_); refine xD ?_)); (first | ((with_reducible refine e_bin ?_); (first | refine ex_i (s_neqV (a := v) (b := w) rfl rfl hne) ?_)) | ((with_reducible refine e_load ?_); (first | refine ex_i (s_loadAr tabOk rfl rfl rfl rfl (by first | first | exact hav | exact haw | exact whole0 (by first | rfl | omega) | rfl) zln) ?_ | refine ex_i (s_loadAi tabOk rfl rfl rfl (by first | first | exact hav | exact haw | exact whole0 (by first | rfl | omega) | rfl) zln) ?_)) | ((with_reducible refine e_slice ?_); (first | refine ex_i (s_slArri tabOk rfl rfl rfl rfl zbd zbd zle zle (by decide) (by first | first | exact hav | exact haw | exact whole0 (by first | rfl | omega) | rfl) zln) ?_)))) | refine stA ?_ | refine stD ?_ | (refine hK _ _ _ _ ?_; clear hK hX K) | (refine hX _ _ _ _ _ (by simp) ?_; clear hK hX K))
        exact ⟨i + 1, ⟨by omega, htk2⟩, by omega, weakA⟩
      · have hne : (!decide (v = w)) = true := by simp [hvw]
        have hrs : r ≠ s := fun e => by
          rw [e] at hv
          exact hvw (by rw [hv] at hw; injection hw)
        have hbad : bv false = bv (decide (r = s)) := by rw [decide_eq_false hrs]
        clear hv hw hvw htk hrs
        repeat' (first | ((with_reducible refine aw_seqk ?_); intro K hK hX) | ((with_reducible refine isC_reg ?_); refine aw_prune [0, 1, 4, 5] rfl rfl ?_; with_reducible refine aw_region ?_) | ((with_reducible refine isC_draw ?_); refine aw_prune [0, 1, 4, 5] rfl rfl ?_; refine aw_drwF [] ?_) | ((first | ((with_reducible refine isA_any ?_); refine xA ?_) | ((with_reducible refine isDk_any ?_); refine xD ?_)); (first | ((with_reducible refine e_bin ?_); (first | refine ex_i (s_neqV (a := v) (b := w) rfl rfl hne) ?_)) | ((with_reducible refine e_load ?_); (first | refine ex_i (s_loadAr tabOk rfl rfl rfl rfl (by first | first | exact hav | exact haw | exact whole0 (by first | rfl | omega) | rfl) zln) ?_ | refine ex_i (s_loadAi tabOk rfl rfl rfl (by first | first | exact hav | exact haw | exact whole0 (by first | rfl | omega) | rfl) zln) ?_)) | ((with_reducible refine e_slice ?_); (first | refine ex_i (s_slArri tabOk rfl rfl rfl rfl zbd zbd zle zle (by decide) (by first | first | exact hav | exact haw | exact whole0 (by first | rfl | omega) | rfl) zln) ?_)))) | refine stA ?_ | refine stD ?_ | (refine hK _ _ _ _ ?_; clear hK hX K) | (refine hX _ _ _ _ _ (by simp) ?_; clear hK hX K))
        refine retK_mk zio ztr rfl (ResL.one (ResA.tmp rfl)) (out_c (frz_cv (frz_c cv_rfl) (cv_eq hbad)))
    · have hie : i = n := by omega
      have hrs : r = s := by
        rw [hie, List.take_of_length_le (by omega), List.take_of_length_le (by omega)] at htk
        exact htk
      have hbad : bv true = bv (decide (r = s)) := by rw [decide_eq_true hrs]
      rw [hie]
      clear htk hrs
      repeat' (first | ((with_reducible refine aw_seqk ?_); intro K hK hX) | ((with_reducible refine isC_reg ?_); refine aw_prune [0, 1, 4, 5] rfl rfl ?_; with_reducible refine aw_region ?_) | ((with_reducible refine isC_draw ?_); refine aw_prune [0, 1, 4, 5] rfl rfl ?_; refine aw_drwF [] ?_) | refine stA ?_ | refine stD ?_ | (refine hK _ _ _ _ ?_; clear hK hX K) | (refine hX _ _ _ _ _ (by simp) ?_; clear hK hX K))
      refine retK_mk zio ztr rfl (ResL.one (ResA.tmp rfl)) (out_c (frz_cv (frz_c cv_rfl) (cv_eq hbad)))
  · have hcond : decide ((n : Int) ≠ (m : Int)) = true := decide_eq_true (by omega)
    have hrs : r ≠ s := fun e => hl (by rw [← hn, ← hm, e])
    have hbad : bv false = bv (decide (r = s)) := by rw [decide_eq_false hrs]
    clear hrs
    refine ac_enter tabOk (sz := 26) Tryz.func42 rfl (by rw [Tryz.ntmps42]; rfl) ?_
    repeat' (first | ((with_reducible refine aw_seqk ?_); intro K hK hX) | ((with_reducible refine isC_reg ?_); refine aw_prune [0, 1, 4, 5] rfl rfl ?_; with_reducible refine aw_region ?_) | ((with_reducible refine isC_draw ?_); refine aw_prune [0, 1, 4, 5] rfl rfl ?_; refine aw_drwF [] ?_) | ((first | ((with_reducible refine isA_any ?_); refine xA ?_) | ((with_reducible refine isDk_any ?_); refine xD ?_)); (first | ((with_reducible refine e_bin ?_); (first | refine ex_i (s_cmp rfl rfl rfl hcond) ?_)))) | refine stA ?_ | refine stD ?_ | (refine hK _ _ _ _ ?_; clear hK hX K) | (refine hX _ _ _ _ _ (by simp) ?_; clear hK hX K))
    refine retK_mk zio ztr rfl (ResL.one (ResA.tmp rfl)) (out_c (frz_cv (frz_c cv_rfl) (cv_eq hbad)))
end Go.Proofs.YtccnhpaldmjkbaaGreat
