/-
  Joined texts: E14. Lemmas; no statement of a law.
-/
import Derived.Test.YtgofigkhdjjlmaaM1
import Derived.Test.YtgofigkhdjjlmaaM2
import Derived.Test.YtgofigkhdjjlmaaM3
import Derived.Test.YtgofigkhdjjlmaaM4
import Derived.Test.YtgofigkhdjjlmaaM5
import Derived.Test.YtgofigkhdjjlmaaM6
import Derived.Test.YtgofigkhdjjlmaaM7
/-
  The laws MerkleRoots, MerkleProofs, MerkleApplies (walk).
-/
set_option linter.unusedVariables false
set_option linter.unusedSimpArgs false
namespace Go.Proofs.Ytgofigkhdjjlmaa
open Go Go.RowKit Go.Av
set_option maxRecDepth 100000
attribute [local irreducible] Still Adds AWL AW Drw DrwE EStep AC AWR Weak Frz Src RetK Out InK ItK AsK RdK permute
attribute [local simp] u8c_take u8c_drop u8c_app
set_option maxHeartbeats 4000000 in
theorem law_mroots (L : List (List UInt8)) (k : Nat) (i : Int) (hL : all32 L) (hk : L.length = k) : AC Try.prog 17 [.sl 32 k (dc L), iv i] (.c (.v (.bool true))) [] 0 := by
  by_cases b1 : (40 : Int) < (k : Int)
  · refine ac_enter tabOk (sz := 50) Try.func17 rfl (by rw [Try.ntmps17]; rfl) ?_
    repeat' (first
    | ((with_reducible refine aw_seqk ?_); intro K hK hX)
    | ((with_reducible refine isC_reg ?_); refine aw_prune [0, 1, 4, 5, 6, 7, 8] rfl rfl ?_; with_reducible refine aw_region ?_)
    | ((with_reducible refine isA_call ?_); (first | refine zA ?_ | refine zN ?_); (first | refine c0 (awake38_ok) ?_))
    | refine stA ?_
    | (refine hK _ _ _ _ ?_; clear hK hX K)
    | (refine hX _ _ _ _ _ (by simp) ?_; clear hK hX K))
    refine retK_mk (by first | exact .inl rfl | exact .inr rfl) (by exact trivial) rfl (ResL.one (ResA.tmp rfl)) (by first | exact out_c (by first | exact frz_c cv_rfl | exact frz_c cv_nil | exact frz_ownW rfl rfl (by first | rfl | with_reducible assumption | (simp <;> fail) | omega | (simp; omega) | assumption) | exact frz_eq (frz_c cv_rfl) (by first | rfl | (simp <;> fail) | fail)) | exact out_own rfl rfl)
  · have h1 := root38_ok L k hL hk (by omega)
    have h2 := rroot38_ok L k hL hk (by omega)
    have hrl : (rootD L).length = 32 := sealD_length _ _
    have hru : (u8c (rootD L)).length = 32 := by rw [u8c_length, hrl]
    have g1 := height_ok i
    have g2 := rheight_ok i
    have g3 := height_ok (k : Int)
    have g4 := rheight_ok (k : Int)
    generalize rootD L = R at h1 h2 hrl hru
    generalize heightP i = a at g1 g2
    generalize heightP (k : Int) = b at g3 g4
    refine ac_enter tabOk (sz := 50) Try.func17 rfl (by rw [Try.ntmps17]; rfl) ?_
    repeat' (first
    | ((with_reducible refine aw_seqk ?_); intro K hK hX)
    | ((with_reducible refine isC_reg ?_); refine aw_prune [0, 1, 4, 5, 6, 7, 8] rfl rfl ?_; with_reducible refine aw_region ?_)
    | ((with_reducible refine isA_call ?_); (first | refine zA ?_ | refine zN ?_); (first | refine c0 (h1) ?_ | refine c0 (h2) ?_ | refine c0 (g1) ?_ | refine c0 (g2) ?_ | refine c0 (g3) ?_ | refine c0 (g4) ?_ | refine c0 (awake38_ok) ?_))
    | (((with_reducible refine isA_any ?_); refine xA ?_); (first | ((with_reducible refine e_bin ?_); (first | refine ex_i (s_eqlU tabOk (by kernel_rfl) rfl rfl rfl rfl rfl rfl rfl rfl rfl hrl hrl (decide_eq_true rfl)) ?_ | refine ex_i (s_cmp rfl rfl rfl (decide_eq_true rfl)) ?_))))
    | refine stA ?_
    | (refine hK _ _ _ _ ?_; clear hK hX K)
    | (refine hX _ _ _ _ _ (by simp) ?_; clear hK hX K))
    refine retK_mk (by first | exact .inl rfl | exact .inr rfl) (by exact trivial) rfl (ResL.one (ResA.tmp rfl)) (by first | exact out_c (by first | exact frz_c cv_rfl | exact frz_c cv_nil | exact frz_ownW rfl rfl (by first | rfl | with_reducible assumption | (simp <;> fail) | omega | (simp; omega) | assumption) | exact frz_eq (frz_c cv_rfl) (by first | rfl | (simp <;> fail) | fail)) | exact out_own rfl rfl)
set_option maxHeartbeats 4000000 in
theorem law_mproofs (L : List (List UInt8)) (k : Nat) (i : Int) (hL : all32 L) (hk : L.length = k) : AC Try.prog 18 [.sl 32 k (dc L), iv i] (.c (.v (.bool true))) [] 0 := by
  by_cases b1 : (40 : Int) < (k : Int)
  · refine ac_enter tabOk (sz := 36) Try.func18 rfl (by rw [Try.ntmps18]; rfl) ?_
    repeat' (first
    | ((with_reducible refine aw_seqk ?_); intro K hK hX)
    | ((with_reducible refine isC_reg ?_); refine aw_prune [0, 1, 4, 5, 6, 7, 8] rfl rfl ?_; with_reducible refine aw_region ?_)
    | ((with_reducible refine isA_call ?_); (first | refine zA ?_ | refine zN ?_); (first | refine c0 (awake38_ok) ?_))
    | refine stA ?_
    | (refine hK _ _ _ _ ?_; clear hK hX K)
    | (refine hX _ _ _ _ _ (by simp) ?_; clear hK hX K))
    refine retK_mk (by first | exact .inl rfl | exact .inr rfl) (by exact trivial) rfl (ResL.one (ResA.tmp rfl)) (by first | exact out_c (by first | exact frz_c cv_rfl | exact frz_c cv_nil | exact frz_ownW rfl rfl (by first | rfl | with_reducible assumption | (simp <;> fail) | omega | (simp; omega) | assumption) | exact frz_eq (frz_c cv_rfl) (by first | rfl | (simp <;> fail) | fail)) | exact out_own rfl rfl)
  · by_cases b2 : i < 0 ∨ (k : Int) ≤ i
    · have h1 := prove_out L i k hL hk (by omega) b2
      have h2 := rprove_out L i k hL hk (by omega) b2
      refine ac_enter tabOk (sz := 36) Try.func18 rfl (by rw [Try.ntmps18]; rfl) ?_
      repeat' (first
    | ((with_reducible refine aw_seqk ?_); intro K hK hX)
    | ((with_reducible refine isC_reg ?_); refine aw_prune [0, 1, 4, 5, 6, 7, 8] rfl rfl ?_; with_reducible refine aw_region ?_)
    | ((with_reducible refine isA_call ?_); (first | refine zA ?_ | refine zN ?_); (first | refine c0 (h1) ?_ | refine c0 (h2) ?_ | refine c0 (same_nil) ?_ | refine c0 (awake38_ok) ?_))
    | refine stA ?_
    | (refine hK _ _ _ _ ?_; clear hK hX K)
    | (refine hX _ _ _ _ _ (by simp) ?_; clear hK hX K))
      refine retK_mk (by first | exact .inl rfl | exact .inr rfl) (by exact trivial) rfl (ResL.one (ResA.tmp rfl)) (by first | exact out_c (by first | exact frz_c cv_rfl | exact frz_c cv_nil | exact frz_ownW rfl rfl (by first | rfl | with_reducible assumption | (simp <;> fail) | omega | (simp; omega) | assumption) | exact frz_eq (frz_c cv_rfl) (by first | rfl | (simp <;> fail) | fail)) | exact out_own rfl rfl)
    · obtain ⟨I, rfl⟩ : ∃ I : Nat, i = I := ⟨i.toNat, by omega⟩
      have hsf := sib_facts (L := L) (I := I) (n := k) hk (by omega)
      obtain ⟨m, hm⟩ : ∃ m, (sibD (L.map nodeD) I).length = m := ⟨_, rfl⟩
      have h1 := prove_ok L I k m hL hk (by omega) (by omega) hm
      have h2 := rprove_ok L I k m hL hk (by omega) (by omega) hm
      rw [hm] at hsf
      have h3 := same_ok I k (sibD (L.map nodeD) I) m hsf.1 hm (by omega)
      generalize sibD (L.map nodeD) I = S at h1 h2 h3 hm
      refine ac_enter tabOk (sz := 36) Try.func18 rfl (by rw [Try.ntmps18]; rfl) ?_
      repeat' (first
    | ((with_reducible refine aw_seqk ?_); intro K hK hX)
    | ((with_reducible refine isC_reg ?_); refine aw_prune [0, 1, 4, 5, 6, 7, 8] rfl rfl ?_; with_reducible refine aw_region ?_)
    | ((with_reducible refine isA_call ?_); (first | refine zA ?_ | refine zN ?_); (first | refine c0 (h1) ?_ | refine c0 (h2) ?_ | refine c0 (h3) ?_ | refine c0 (awake38_ok) ?_))
    | ((with_reducible refine isA_store ?_); refine awl_storeA tabOk g_none rfl rfl rfl (by first | exact Parts.mixed _ | exact Parts.closed _) (by rfl) (by rfl) rfl (Nat.le_of_ble_eq_true rfl) (by rfl) ?_)
    | refine stA ?_
    | (refine hK _ _ _ _ ?_; clear hK hX K)
    | (refine hX _ _ _ _ _ (by simp) ?_; clear hK hX K))
      refine retK_mk (by first | exact .inl rfl | exact .inr rfl) (by exact trivial) rfl (ResL.one (ResA.tmp rfl)) (by first | exact out_c (by first | exact frz_c cv_rfl | exact frz_c cv_nil | exact frz_ownW rfl rfl (by first | rfl | with_reducible assumption | (simp <;> fail) | omega | (simp; omega) | assumption) | exact frz_eq (frz_c cv_rfl) (by first | rfl | (simp <;> fail) | fail)) | exact out_own rfl rfl)
set_option maxHeartbeats 4000000 in
theorem law_mapplies (root leaf : List UInt8) (i c : Int) (S : List (List UInt8)) (m : Nat) (hr : root.length = 32) (hl : leaf.length = 32) (hS : all32 S) (hm : S.length = m) : AC Try.prog 19 [.agg (u8c root), .agg (u8c leaf), .agg [iv i, iv c, .sl 32 m (dc S)]] (.c (.v (.bool true))) [] 0 := by
  have hur : (u8c root).length = 32 := by rw [u8c_length, hr]
  have hul : (u8c leaf).length = 32 := by rw [u8c_length, hl]
  by_cases b1 : (40 : Int) < (m : Int)
  · refine ac_enter tabOk (sz := 63) Try.func19 rfl (by rw [Try.ntmps19]; rfl) ?_
    repeat' (first
    | ((with_reducible refine aw_seqk ?_); intro K hK hX)
    | ((with_reducible refine isC_reg ?_); refine aw_prune [0, 1, 2, 3, 4, 5, 6, 7, 8, 9, 10] rfl rfl ?_; with_reducible refine aw_region ?_)
    | ((with_reducible refine isA_call ?_); (first | refine zA ?_ | refine zN ?_); (first | refine c0 (awake38_ok) ?_))
    | refine stA ?_
    | (refine hK _ _ _ _ ?_; clear hK hX K)
    | (refine hX _ _ _ _ _ (by simp) ?_; clear hK hX K))
    refine retK_mk (by first | exact .inl rfl | exact .inr rfl) (by exact trivial) rfl (ResL.one (ResA.tmp rfl)) (by first | exact out_c (by first | exact frz_c cv_rfl | exact frz_c cv_nil | exact frz_ownW rfl rfl (by first | rfl | with_reducible assumption | (simp <;> fail) | omega | (simp; omega) | assumption) | exact frz_eq (frz_c cv_rfl) (by first | rfl | (simp <;> fail) | fail)) | exact out_own rfl rfl)
  · have h1 := apply_ok leaf i c S m hl hS hm (by omega)
    have h2 := rapply_ok leaf i c S m hl hS hm (by omega)
    have hal := appP_length leaf i c S
    have h3 := verify_ok root leaf i c S m hr hl hS hm (by omega)
    have h4 := verify_ok (appP leaf i c S).1 leaf i c S m hal hl hS hm (by omega)
    unfold verP at h3 h4
    generalize appP leaf i c S = r at h1 h2 h3 h4 hal
    obtain ⟨D, e⟩ := r
    dsimp only at h1 h2 h3 h4 hal
    have huD : (u8c D).length = 32 := by rw [u8c_length, hal]
    by_cases he : e = 0
    · have he' : (e : Int) = 0 := by omega
      rw [decide_eq_true he, Bool.true_and] at h3 h4
      rw [decide_eq_true (rfl : D = D)] at h4
      by_cases hD : D = root
      · rw [decide_eq_true hD] at h3
        subst hD
        refine ac_enter tabOk (sz := 63) Try.func19 rfl (by rw [Try.ntmps19]; rfl) ?_
        repeat' (first
    | ((with_reducible refine aw_seqk ?_); intro K hK hX)
    | ((with_reducible refine isC_reg ?_); refine aw_prune [0, 1, 2, 3, 4, 5, 6, 7, 8, 9, 10] rfl rfl ?_; with_reducible refine aw_region ?_)
    | ((with_reducible refine isA_call ?_); (first | refine zA ?_ | refine zN ?_); (first | refine c0 (h1) ?_ | refine c0 (h2) ?_ | refine c0 (h3) ?_ | refine c0 (awake38_ok) ?_))
    | (((with_reducible refine isA_any ?_); refine xA ?_); (first | ((with_reducible refine e_bin ?_); (first | refine ex_i (s_eqlU tabOk (by kernel_rfl) rfl rfl rfl rfl rfl rfl rfl rfl rfl hal hal (decide_eq_true rfl)) ?_ | refine ex_i (s_cmp rfl rfl rfl (decide_eq_true rfl)) ?_))))
    | ((with_reducible refine isA_store ?_); refine awl_storeA tabOk g_none rfl rfl rfl (by first | exact Parts.mixed _ | exact Parts.closed _) (by rfl) (by rfl) rfl (Nat.le_of_ble_eq_true rfl) (by rfl) ?_)
    | refine stA ?_
    | (refine hK _ _ _ _ ?_; clear hK hX K)
    | (refine hX _ _ _ _ _ (by simp) ?_; clear hK hX K))
        refine retK_mk (by first | exact .inl rfl | exact .inr rfl) (by exact trivial) rfl (ResL.one (ResA.tmp rfl)) (by first | exact out_c (by first | exact frz_c cv_rfl | exact frz_c cv_nil | exact frz_ownW rfl rfl (by first | rfl | with_reducible assumption | (simp <;> fail) | omega | (simp; omega) | assumption) | exact frz_eq (frz_c cv_rfl) (by first | rfl | (simp <;> fail) | fail)) | exact out_own rfl rfl)
      · rw [decide_eq_false hD] at h3
        refine ac_enter tabOk (sz := 63) Try.func19 rfl (by rw [Try.ntmps19]; rfl) ?_
        repeat' (first
    | ((with_reducible refine aw_seqk ?_); intro K hK hX)
    | ((with_reducible refine isC_reg ?_); refine aw_prune [0, 1, 2, 3, 4, 5, 6, 7, 8, 9, 10] rfl rfl ?_; with_reducible refine aw_region ?_)
    | ((with_reducible refine isA_call ?_); (first | refine zA ?_ | refine zN ?_); (first | refine c0 (h1) ?_ | refine c0 (h2) ?_ | refine c0 (h3) ?_ | refine c0 (h4) ?_ | refine c0 (awake38_ok) ?_))
    | (((with_reducible refine isA_any ?_); refine xA ?_); (first | ((with_reducible refine e_bin ?_); (first | refine ex_i (s_eqlU tabOk (by kernel_rfl) rfl rfl rfl rfl rfl rfl rfl rfl rfl hal hal (decide_eq_true rfl)) ?_ | refine ex_i (s_eqlU tabOk (by kernel_rfl) rfl rfl rfl rfl rfl rfl rfl rfl rfl hal hr (decide_eq_false hD)) ?_ | refine ex_i (s_cmp rfl rfl rfl (decide_eq_true rfl)) ?_))))
    | ((with_reducible refine isA_store ?_); refine awl_storeA tabOk g_none rfl rfl rfl (by first | exact Parts.mixed _ | exact Parts.closed _) (by rfl) (by rfl) rfl (Nat.le_of_ble_eq_true rfl) (by rfl) ?_)
    | refine stA ?_
    | (refine hK _ _ _ _ ?_; clear hK hX K)
    | (refine hX _ _ _ _ _ (by simp) ?_; clear hK hX K))
        refine retK_mk (by first | exact .inl rfl | exact .inr rfl) (by exact trivial) rfl (ResL.one (ResA.tmp rfl)) (by first | exact out_c (by first | exact frz_c cv_rfl | exact frz_c cv_nil | exact frz_ownW rfl rfl (by first | rfl | with_reducible assumption | (simp <;> fail) | omega | (simp; omega) | assumption) | exact frz_eq (frz_c cv_rfl) (by first | rfl | (simp <;> fail) | fail)) | exact out_own rfl rfl)
    · have he' : ¬ (e : Int) = 0 := by omega
      rw [decide_eq_false he, Bool.false_and] at h3 h4
      refine ac_enter tabOk (sz := 63) Try.func19 rfl (by rw [Try.ntmps19]; rfl) ?_
      repeat' (first
    | ((with_reducible refine aw_seqk ?_); intro K hK hX)
    | ((with_reducible refine isC_reg ?_); refine aw_prune [0, 1, 2, 3, 4, 5, 6, 7, 8, 9, 10] rfl rfl ?_; with_reducible refine aw_region ?_)
    | ((with_reducible refine isA_call ?_); (first | refine zA ?_ | refine zN ?_); (first | refine c0 (h1) ?_ | refine c0 (h2) ?_ | refine c0 (h3) ?_ | refine c0 (awake38_ok) ?_))
    | (((with_reducible refine isA_any ?_); refine xA ?_); (first | ((with_reducible refine e_bin ?_); (first | refine ex_i (s_eqlU tabOk (by kernel_rfl) rfl rfl rfl rfl rfl rfl rfl rfl rfl hal hal (decide_eq_true rfl)) ?_ | refine ex_i (s_cmp rfl rfl rfl (decide_eq_true rfl)) ?_))))
    | ((with_reducible refine isA_store ?_); refine awl_storeA tabOk g_none rfl rfl rfl (by first | exact Parts.mixed _ | exact Parts.closed _) (by rfl) (by rfl) rfl (Nat.le_of_ble_eq_true rfl) (by rfl) ?_)
    | refine stA ?_
    | (refine hK _ _ _ _ ?_; clear hK hX K)
    | (refine hX _ _ _ _ _ (by simp) ?_; clear hK hX K))
      refine retK_mk (by first | exact .inl rfl | exact .inr rfl) (by exact trivial) rfl (ResL.one (ResA.tmp rfl)) (by first | exact out_c (by first | exact frz_c cv_rfl | exact frz_c cv_nil | exact frz_ownW rfl rfl (by first | rfl | with_reducible assumption | (simp <;> fail) | omega | (simp; omega) | assumption) | exact frz_eq (frz_c cv_rfl) (by first | rfl | (simp <;> fail) | fail)) | exact out_own rfl rfl)
end Go.Proofs.Ytgofigkhdjjlmaa
