/-
  Joined texts: F4. Lemmas; no statement of a law.
-/
import Derived.Test.YtgofigkhdjjlmaaM1
import Derived.Test.YtgofigkhdjjlmaaM2
import Derived.Test.YtgofigkhdjjlmaaM3
import Derived.Test.YtgofigkhdjjlmaaM4
import Derived.Test.YtgofigkhdjjlmaaM5
import Derived.Test.YtgofigkhdjjlmaaM6
import Derived.Test.YtgofigkhdjjlmaaM7
import Derived.Test.YtgofigkhdjjlmaaM10
import Derived.Test.YtgofigkhdjjlmaaM12
import Derived.Test.YtgofigkhdjjlmaaM13
import Derived.Test.YtgofigkhdjjlmaaM14
/-
  The laws SignatureSigns and SignatureAccepts (walk).
-/
set_option linter.unusedVariables false
set_option linter.unusedSimpArgs false
namespace Go.Proofs.Ytgofigkhdjjlmaa
open Go Go.RowKit Go.Av
set_option maxRecDepth 100000
theorem pathD_all {seed : List UInt8} {I : Nat} (hI : I < 4) : all32 (pathD seed I) := (sib_facts (L := leavesD seed) (I := I) (leavesD_length seed) hI).1
theorem linkN_add (x : List UInt8) (a b : Nat) : linkN b (linkN a x) = linkN (a + b) x := by
  induction b with
  | zero => rfl
  | succ b ih =>
    show sum 392#64 (linkN b (linkN a x)) = sum 392#64 (linkN (a + b) x)
    rw [ih]
/-- A signature's chains, walked to their ends, are the leaf's. -/
theorem endsD_parts (D seed : List UInt8) (I : Nat) : endsD D (partsD D seed I) = lastD seed I := by
  unfold endsD lastD
  refine List.map_congr_left fun j hj => ?_
  have hj := List.mem_range.1 hj
  have := dall_le D j
  rw [partsD_get D seed I j hj, linkN_add, show dall D j + (15 - dall D j) = 15 by omega]
theorem verS_sign (seed msg : List UInt8) (I : Nat) (hI : I < 4) : verS (publicD seed) msg I (partsD (sum 390#64 msg) seed I) I 4 (pathD seed I) = true := by
  unfold verS
  rw [if_pos ⟨partsD_length _ _ _, rfl, rfl⟩, endsD_parts]
  have := verP_sib (L := leavesD seed) (I := I) (n := 4) (leavesD_length seed) hI (by decide)
  rw [leavesD_get seed I hI] at this
  exact this
attribute [local irreducible] Still Adds AWL AW Drw DrwE EStep AC AWR Weak Frz Src RetK Out InK ItK AsK RdK permute
attribute [local simp] u8c_take u8c_drop u8c_app
set_option maxHeartbeats 4000000 in
theorem law_ssigns (seed msg : List UInt8) (i : Int) (n : Nat) (hs : seed.length = 32) (hn : msg.length = n) : AC Try.prog 24 [.agg (u8c seed), iv i, .sl 1 n (u8c msg)] (.c (.v (.bool true))) [] 0 := by
  have hus : (u8c seed).length = 32 := by rw [u8c_length, hs]
  by_cases b1 : (200 : Int) < (n : Int)
  · refine ac_enter tabOk (sz := 40) Try.func24 rfl (by rw [Try.ntmps24]; rfl) ?_
    repeat' (first
    | ((with_reducible refine aw_seqk ?_); intro K hK hX)
    | ((with_reducible refine isC_reg ?_); refine aw_prune [0, 1, 2, 3, 6, 7, 8, 9, 10] rfl rfl ?_; with_reducible refine aw_region ?_)
    | ((with_reducible refine isA_call ?_); (first | refine zA ?_ | refine zN ?_); (first | refine c0 (awake39_ok) ?_))
    | refine stA ?_
    | (refine hK _ _ _ _ ?_; clear hK hX K)
    | (refine hX _ _ _ _ _ (by simp) ?_; clear hK hX K))
    refine retK_mk (by first | exact .inl rfl | exact .inr rfl) (by exact trivial) rfl (ResL.one (ResA.tmp rfl)) (by first | exact out_c (by first | exact frz_c cv_rfl | exact frz_c cv_nil | exact frz_ownW rfl rfl (by first | rfl | with_reducible assumption | (simp <;> fail) | omega | (simp; omega) | assumption) | exact frz_eq (frz_c cv_rfl) (by first | rfl | (simp <;> fail) | fail)) | exact out_own rfl rfl)
  · by_cases hi : i < 0 ∨ 4 ≤ i
    · have h1 := sign_bad seed msg i n hs hi
      have h2 := rsign_bad seed msg i n hs hi
      have h3 := sigsame_ok 0 [] 0 0 0 [] 0 (fun d hd => by cases hd) rfl (by decide) (fun d hd => by cases hd) rfl (by decide)
      refine ac_enter tabOk (sz := 40) Try.func24 rfl (by rw [Try.ntmps24]; rfl) ?_
      repeat' (first
    | ((with_reducible refine aw_seqk ?_); intro K hK hX)
    | ((with_reducible refine isC_reg ?_); refine aw_prune [0, 1, 2, 3, 6, 7, 8, 9, 10] rfl rfl ?_; with_reducible refine aw_region ?_)
    | ((with_reducible refine isA_call ?_); refine awl_call g_none rfl (by unfold Body; kernel_rfl) rfl h3 (cvl_cons (cv_agg (cvl_cons cv_rfl (cvl_cons cv_nil (cvl_cons cv_rfl (cvl_cons cv_rfl (cvl_cons cv_nil cvl_nil)))))) (cvl_cons (cv_agg (cvl_cons cv_rfl (cvl_cons cv_nil (cvl_cons cv_rfl (cvl_cons cv_rfl (cvl_cons cv_nil cvl_nil)))))) cvl_nil)) rfl ?_)
    | ((with_reducible refine isA_call ?_); (first | refine zA ?_ | refine zN ?_); (first | refine c0 (h1) ?_ | refine c0 (h2) ?_ | refine c0 (awake39_ok) ?_))
    | (((with_reducible refine isA_any ?_); refine xA ?_); (first | ((with_reducible refine e_bin ?_); (first | refine ex_i (s_cmp rfl rfl rfl (decide_eq_true rfl)) ?_))))
    | ((with_reducible refine isA_store ?_); refine awl_storeA tabOk g_none rfl rfl rfl (by first | exact Parts.mixed _ | exact Parts.closed _) (by rfl) (by rfl) rfl (Nat.le_of_ble_eq_true rfl) (by rfl) ?_)
    | refine stA ?_
    | (refine hK _ _ _ _ ?_; clear hK hX K)
    | (refine hX _ _ _ _ _ (by simp) ?_; clear hK hX K))
      refine retK_mk (by first | exact .inl rfl | exact .inr rfl) (by exact trivial) rfl (ResL.one (ResA.tmp rfl)) (by first | exact out_c (by first | exact frz_c cv_rfl | exact frz_c cv_nil | exact frz_ownW rfl rfl (by first | rfl | with_reducible assumption | (simp <;> fail) | omega | (simp; omega) | assumption) | exact frz_eq (frz_c cv_rfl) (by first | rfl | (simp <;> fail) | fail)) | exact out_own rfl rfl)
    · obtain ⟨I, rfl⟩ : ∃ I : Nat, i = (I : Int) := ⟨i.toNat, by omega⟩
      obtain ⟨m, hm⟩ : ∃ m, (pathD seed I).length = m := ⟨_, rfl⟩
      have hm4 : m ≤ 100000 := by
        have := (sib_facts (L := leavesD seed) (I := I) (n := 4) (leavesD_length seed) (by omega)).2
        rw [← hm]; unfold pathD; omega
      have h1 := sign_ok seed msg I n m hs (by omega) hn (by omega) hm
      have h2 := rsign_ok seed msg I n m hs (by omega) hn (by omega) hm
      have h3 := sigsame_ok I (partsD (sum 390#64 msg) seed I) 35 I 4 (pathD seed I) m (partsD_all _ _ _) (partsD_length _ _ _) (by decide) (pathD_all (by omega)) hm hm4
      refine ac_enter tabOk (sz := 40) Try.func24 rfl (by rw [Try.ntmps24]; rfl) ?_
      repeat' (first
    | ((with_reducible refine aw_seqk ?_); intro K hK hX)
    | ((with_reducible refine isC_reg ?_); refine aw_prune [0, 1, 2, 3, 6, 7, 8, 9, 10] rfl rfl ?_; with_reducible refine aw_region ?_)
    | ((with_reducible refine isA_call ?_); (first | refine zA ?_ | refine zN ?_); (first | refine c0 (h1) ?_ | refine c0 (h2) ?_ | refine c0 (h3) ?_ | refine c0 (awake39_ok) ?_))
    | (((with_reducible refine isA_any ?_); refine xA ?_); (first | ((with_reducible refine e_bin ?_); (first | refine ex_i (s_cmp rfl rfl rfl (decide_eq_true rfl)) ?_))))
    | ((with_reducible refine isA_store ?_); refine awl_storeA tabOk g_none rfl rfl rfl (by first | exact Parts.mixed _ | exact Parts.closed _) (by rfl) (by rfl) rfl (Nat.le_of_ble_eq_true rfl) (by rfl) ?_)
    | refine stA ?_
    | (refine hK _ _ _ _ ?_; clear hK hX K)
    | (refine hX _ _ _ _ _ (by simp) ?_; clear hK hX K))
      refine retK_mk (by first | exact .inl rfl | exact .inr rfl) (by exact trivial) rfl (ResL.one (ResA.tmp rfl)) (by first | exact out_c (by first | exact frz_c cv_rfl | exact frz_c cv_nil | exact frz_ownW rfl rfl (by first | rfl | with_reducible assumption | (simp <;> fail) | omega | (simp; omega) | assumption) | exact frz_eq (frz_c cv_rfl) (by first | rfl | (simp <;> fail) | fail)) | exact out_own rfl rfl)
set_option maxHeartbeats 4000000 in
theorem law_saccepts (seed msg : List UInt8) (x : Int) (n : Nat) (hs : seed.length = 32) (hn : msg.length = n) : AC Try.prog 25 [.agg (u8c seed), iv x, .sl 1 n (u8c msg)] (.c (.v (.bool true))) [] 0 := by
  have hus : (u8c seed).length = 32 := by rw [u8c_length, hs]
  by_cases b1 : (200 : Int) < (n : Int)
  · refine ac_enter tabOk (sz := 43) Try.func25 rfl (by rw [Try.ntmps25]; rfl) ?_
    repeat' (first
    | ((with_reducible refine aw_seqk ?_); intro K hK hX)
    | ((with_reducible refine isC_reg ?_); refine aw_prune [0, 1, 2, 3, 6, 7, 8, 9] rfl rfl ?_; with_reducible refine aw_region ?_)
    | ((with_reducible refine isC_draw ?_); refine aw_prune [0, 1, 2, 3, 6, 7, 8, 9] rfl rfl ?_; refine aw_drwF [] ?_)
    | ((first | with_reducible refine isA_call ?_ | with_reducible refine isD_call ?_); (first | refine zA ?_ | refine zN ?_ | refine zD ?_); (first | refine c0 (awake39_ok) ?_))
    | refine stA ?_
    | refine stD ?_
    | (refine hK _ _ _ _ ?_; clear hK hX K)
    | (refine hX _ _ _ _ _ (by simp) ?_; clear hK hX K))
    refine retK_mk (by first | exact .inl rfl | exact .inr rfl) (by exact trivial) rfl (ResL.one (ResA.tmp rfl)) (by first | exact out_c (by first | exact frz_c cv_rfl | exact frz_c cv_nil | exact frz_ownW rfl rfl (by first | rfl | with_reducible assumption | (simp <;> fail) | omega | (simp; omega) | assumption) | exact frz_eq (frz_c cv_rfl) (by first | rfl | (simp <;> fail) | fail)) | exact out_own rfl rfl)
  · obtain ⟨I, hr⟩ : ∃ I : Nat, (((BitVec.ofInt 64 x).toNat : Int)).tmod 4 = (I : Int) := ⟨(BitVec.ofInt 64 x).toNat % 4, by rw [r64 (by omega)]; omega⟩
    have hI : I < 4 := by
      rw [r64 (by omega)] at hr; omega
    obtain ⟨m, hm⟩ : ∃ m, (pathD seed I).length = m := ⟨_, rfl⟩
    have hm4 : m ≤ 100000 := by
      have := (sib_facts (L := leavesD seed) (I := I) (n := 4) (leavesD_length seed) hI).2
      rw [← hm]; unfold pathD; omega
    have h1 := sign_ok seed msg I n m hs hI hn (by omega) hm
    have h2 := public_ok seed hs
    have hpl := publicD_length seed
    have h3 := sver_ok (publicD seed) msg n I (partsD (sum 390#64 msg) seed I) 35 I 4 (pathD seed I) m hpl hn (by omega) (partsD_all _ _ _) (partsD_length _ _ _) (by decide) (pathD_all hI) hm hm4
    rw [verS_sign seed msg I hI] at h3
    have hpu : (u8c (publicD seed)).length = 32 := by rw [u8c_length, hpl]
    generalize publicD seed = R at h2 h3 hpl hpu
    refine ac_enter tabOk (sz := 43) Try.func25 rfl (by rw [Try.ntmps25]; rfl) ?_
    repeat' (first
    | ((with_reducible refine aw_seqk ?_); intro K hK hX)
    | ((with_reducible refine isC_reg ?_); refine aw_prune [0, 1, 2, 3, 6, 7, 8, 9] rfl rfl ?_; with_reducible refine aw_region ?_)
    | ((with_reducible refine isC_draw ?_); refine aw_prune [0, 1, 2, 3, 6, 7, 8, 9] rfl rfl ?_; refine aw_drwF [] ?_)
    | ((first | with_reducible refine isA_call ?_ | with_reducible refine isD_call ?_); (first | refine zA ?_ | refine zN ?_ | refine zD ?_); (first | refine c0 (h1) ?_ | refine c0 (h2) ?_ | refine c0 (h3) ?_ | refine c0 (awake39_ok) ?_))
    | ((first | ((with_reducible refine isA_any ?_); refine xA ?_) | ((with_reducible refine isDk_any ?_); refine xD ?_)); (first | ((with_reducible refine e_bin ?_); (first | refine ex_i (s_rem (k := .u64) rfl rfl (by decide) hr) ?_ | refine ex_i (s_cmp rfl rfl rfl (decide_eq_true rfl)) ?_))))
    | ((with_reducible refine isA_store ?_); refine awl_storeA tabOk g_none rfl rfl rfl (by first | exact Parts.mixed _ | exact Parts.closed _) (by rfl) (by rfl) rfl (Nat.le_of_ble_eq_true rfl) (by rfl) ?_)
    | refine stA ?_
    | refine stD ?_
    | (refine hK _ _ _ _ ?_; clear hK hX K)
    | (refine hX _ _ _ _ _ (by simp) ?_; clear hK hX K))
    refine retK_mk (by first | exact .inl rfl | exact .inr rfl) (by exact trivial) rfl (ResL.one (ResA.tmp rfl)) (by first | exact out_c (by first | exact frz_c cv_rfl | exact frz_c cv_nil | exact frz_ownW rfl rfl (by first | rfl | with_reducible assumption | (simp <;> fail) | omega | (simp; omega) | assumption) | exact frz_eq (frz_c cv_rfl) (by first | rfl | (simp <;> fail) | fail)) | exact out_own rfl rfl)
end Go.Proofs.Ytgofigkhdjjlmaa
