/-
  Joined texts: E8 E4b AvRf E9 E10 E11. Lemmas; no statement of a law.
-/
import Derived.Test.YtgofigkhdjjlmaaM1
import Derived.Test.YtgofigkhdjjlmaaM2
import Derived.Test.YtgofigkhdjjlmaaM3
import Derived.Test.YtgofigkhdjjlmaaM4
import Derived.Test.YtgofigkhdjjlmaaM5
/-
  Levels and roots of trees (walk of the reference).
-/
set_option linter.unusedVariables false
set_option linter.unusedSimpArgs false
namespace Go.Proofs.Ytgofigkhdjjlmaa
open Go Go.RowKit Go.Av
set_option maxRecDepth 100000
theorem take_all {L : List (List UInt8)} {n : Nat} (h : L.length ≤ n) : L.take n = L := List.take_of_length_le h
theorem take_dc {L : List (List UInt8)} {i : Nat} {x : List UInt8} (hi : i < L.length) (hx : L.getD i [] = x) : u8c (L.take i).flatten ++ [u8c x].flatten = u8c (L.take (i + 1)).flatten := by
  have := take_flat_u hi
  rw [hx] at this
  rw [← this]
  simp
attribute [local irreducible] Still Adds AWL AW Drw DrwE EStep AC AWR Weak Frz Src RetK Out InK permute
attribute [local simp] u8c_take u8c_drop u8c_app
set_option maxHeartbeats 4000000 in
theorem rup_ok (L : List (List UInt8)) (n : Nat) (hL : all32 L) (hn : L.length = n) (hnn : n ≤ 5000) : AC Try.prog 98 [.sl 32 n (dc L)] (.own 0 0 ((n + 1) / 2) 32 true) [(0, .row 35 (dc (upD L)))] 1 := by
  have hul := upD_length L
  rw [hn] at hul
  have hua := upD_all hL
  have hdl := dc_length hL hn
  have heven := fun j => upD_even (L := L) (j := j)
  have hlast := fun j => upD_last (L := L) (j := j)
  unfold dc at *
  generalize upD L = U at hul hua heven hlast ⊢
  refine ac_enter tabOk (sz := 37) Try.func98 rfl (by rw [Try.ntmps98]; rfl) ?_
  repeat' (first
    | ((with_reducible refine aw_seqk ?_); intro K hK hX)
    | ((with_reducible refine isC_reg ?_); refine aw_prune [0, 2, 3, 4] rfl rfl ?_; with_reducible refine aw_region ?_)
    | ((with_reducible refine isC_draw ?_); refine aw_prune [0, 2, 3, 4] rfl rfl ?_; refine aw_drwF [] ?_)
    | refine stA ?_
    | refine stD ?_
    | (refine hK _ _ _ _ ?_; clear hK hX K)
    | (refine hX _ _ _ _ _ (by simp) ?_; clear hK hX K))
  refine aw_nilown 3 35 32 rfl ?_
  refine aw_loopk 1 (fun j : Nat => [(0, .c (.sl 32 n (u8c L.flatten))), (3, .own 0 0 j 32 true), (4, .c (iv (2 * j : Nat)))]) (fun j => [(0, .row 35 (u8c (U.take j).flatten))]) [] (fun j => j ≤ (n + 1) / 2) (fun j => (n + 1) / 2 - j) 0 (by omega) weakA ?_
  intro j hj K hK hX
  have hli := take_flat_len hua (show j ≤ U.length by omega)
  by_cases hlt : 2 * j < n
  · have hda := dig_at hL (2 * j) (by omega)
    have hd := getD32 hL (2 * j) (by omega)
    unfold dc at hda
    by_cases h1 : 2 * j + 1 < n
    · have hdb := dig_at hL (2 * j + 1) (by omega)
      have he := getD32 hL (2 * j + 1) (by omega)
      unfold dc at hdb
      have htf := take_dc (L := U) (i := j) (by omega) (heven j (by omega))
      generalize L.getD (2 * j) [] = a at hd hda htf
      generalize L.getD (2 * j + 1) [] = b at he hdb htf
      have hu1 : (u8c a).length = 32 := by rw [u8c_length, hd]
      have hu2 : (u8c b).length = 32 := by rw [u8c_length, he]
      have hk := rjoin_ok a b hd he
      have hu3 : (u8c (joinD a b)).length = 32 := by rw [u8c_length, joinD_length]
      generalize joinD a b = x at hk hu3 htf
      repeat' (first
    | ((with_reducible refine aw_seqk ?_); intro K hK hX)
    | ((with_reducible refine isC_reg ?_); refine aw_prune [0, 2, 3, 4] rfl rfl ?_; with_reducible refine aw_region ?_)
    | ((with_reducible refine isC_draw ?_); refine aw_prune [0, 2, 3, 4] rfl rfl ?_; refine aw_drwF [] ?_)
    | ((first | with_reducible refine isA_call ?_ | with_reducible refine isD_call ?_); (first | refine zA ?_ | refine zN ?_ | refine zD ?_); (first | refine c0 (hk) ?_))
    | ((first | ((with_reducible refine isA_any ?_); refine xA ?_) | ((with_reducible refine isDk_any ?_); refine xD ?_)); (first | ((with_reducible refine e_ixA ?_); (first | refine ex_i (s_ixC tabOk rfl rfl (show ((2 * j : Nat) : Int) + 1 = ((2 * j + 1 : Nat) : Int) by omega) rfl rfl rfl rfl (by omega)) ?_)) | ((with_reducible refine e_load ?_); (first | refine ex_i (s_loadAr tabOk rfl rfl rfl rfl (by first | first | exact hda | exact hdb | exact whole0 (by first | rfl | omega) | rfl) (by first | rfl | with_reducible assumption | (simp <;> fail) | omega | (simp; omega) | assumption)) ?_ | refine ex_i (s_loadAi tabOk rfl rfl rfl (by first | first | exact hda | exact hdb | exact whole0 (by first | rfl | omega) | rfl) (by first | rfl | with_reducible assumption | (simp <;> fail) | omega | (simp; omega) | assumption)) ?_)) | ((with_reducible refine e_slice ?_); (first | refine ex_i (s_slArri tabOk rfl rfl rfl rfl (by first | exact Bd.no | exact Bd.yes rfl (by first | with_reducible exact cast_self _ | with_reducible exact cast_lit _ | exact nt (by omega) | rfl)) (by first | exact Bd.no | exact Bd.yes rfl (by first | with_reducible exact cast_self _ | with_reducible exact cast_lit _ | exact nt (by omega) | rfl)) (by first | exact Nat.le_of_ble_eq_true rfl | omega | (simp; omega)) (by first | exact Nat.le_of_ble_eq_true rfl | omega | (simp; omega)) (by decide) (by first | first | exact hda | exact hdb | exact whole0 (by first | rfl | omega) | rfl) (by first | rfl | with_reducible assumption | (simp <;> fail) | omega | (simp; omega) | assumption)) ?_))))
    | refine stA ?_
    | refine stD ?_
    | (refine hK _ _ _ _ ?_; clear hK hX K)
    | (refine hX _ _ _ _ _ (by simp) ?_; clear hK hX K))
      exact ⟨j + 1, by omega, by omega, (by refine weak_ren [2] rfl rfl ?_ ?_ rfl rfl <;> (repeat' (first | exact weakER_nil | exact weakHR_nil | refine weakER_cons rfl (by first | rfl | (exact congrArg (AObj.row 35) htf) | exact own_eq rfl rfl (by omega) | exact int_eq (by omega) | (simp <;> fail) | (congr 4; omega) | (congr 3; omega) | (congr 2; omega)) rfl ?_ | refine weakHR_cons rfl (by first | rfl | (exact congrArg (AObj.row 35) htf) | exact own_eq rfl rfl (by omega) | exact int_eq (by omega) | (simp <;> fail) | (congr 4; omega) | (congr 3; omega) | (congr 2; omega)) rfl ?_)))⟩
    · have htf := take_dc (L := U) (i := j) (by omega) (hlast j (by omega))
      generalize L.getD (2 * j) [] = a at hd hda htf
      have hu1 : (u8c a).length = 32 := by rw [u8c_length, hd]
      repeat' (first
    | ((with_reducible refine aw_seqk ?_); intro K hK hX)
    | ((with_reducible refine isC_reg ?_); refine aw_prune [0, 2, 3, 4] rfl rfl ?_; with_reducible refine aw_region ?_)
    | ((with_reducible refine isC_draw ?_); refine aw_prune [0, 2, 3, 4] rfl rfl ?_; refine aw_drwF [] ?_)
    | ((first | ((with_reducible refine isA_any ?_); refine xA ?_) | ((with_reducible refine isDk_any ?_); refine xD ?_)); (first | ((with_reducible refine e_load ?_); (first | refine ex_i (s_loadAr tabOk rfl rfl rfl rfl (by first | exact hda | exact whole0 (by first | rfl | omega) | rfl) (by first | rfl | with_reducible assumption | (simp <;> fail) | omega | (simp; omega) | assumption)) ?_ | refine ex_i (s_loadAi tabOk rfl rfl rfl (by first | exact hda | exact whole0 (by first | rfl | omega) | rfl) (by first | rfl | with_reducible assumption | (simp <;> fail) | omega | (simp; omega) | assumption)) ?_)) | ((with_reducible refine e_slice ?_); (first | refine ex_i (s_slArri tabOk rfl rfl rfl rfl (by first | exact Bd.no | exact Bd.yes rfl (by first | with_reducible exact cast_self _ | with_reducible exact cast_lit _ | exact nt (by omega) | rfl)) (by first | exact Bd.no | exact Bd.yes rfl (by first | with_reducible exact cast_self _ | with_reducible exact cast_lit _ | exact nt (by omega) | rfl)) (by first | exact Nat.le_of_ble_eq_true rfl | omega | (simp; omega)) (by first | exact Nat.le_of_ble_eq_true rfl | omega | (simp; omega)) (by decide) (by first | exact hda | exact whole0 (by first | rfl | omega) | rfl) (by first | rfl | with_reducible assumption | (simp <;> fail) | omega | (simp; omega) | assumption)) ?_))))
    | refine stA ?_
    | refine stD ?_
    | (refine hK _ _ _ _ ?_; clear hK hX K)
    | (refine hX _ _ _ _ _ (by simp) ?_; clear hK hX K))
      exact ⟨j + 1, by omega, by omega, (by refine weak_ren [2] rfl rfl ?_ ?_ rfl rfl <;> (repeat' (first | exact weakER_nil | exact weakHR_nil | refine weakER_cons rfl (by first | rfl | (exact congrArg (AObj.row 35) htf) | exact own_eq rfl rfl (by omega) | exact int_eq (by omega) | (simp <;> fail) | (congr 4; omega) | (congr 3; omega) | (congr 2; omega)) rfl ?_ | refine weakHR_cons rfl (by first | rfl | (exact congrArg (AObj.row 35) htf) | exact own_eq rfl rfl (by omega) | exact int_eq (by omega) | (simp <;> fail) | (congr 4; omega) | (congr 3; omega) | (congr 2; omega)) rfl ?_)))⟩
  · have hj2 : j = (n + 1) / 2 := by omega
    have hfl : U.take j = U := take_all (by omega)
    rw [hfl] at hli ⊢
    repeat' (first
    | ((with_reducible refine aw_seqk ?_); intro K hK hX)
    | ((with_reducible refine isC_reg ?_); refine aw_prune [0, 2, 3, 4] rfl rfl ?_; with_reducible refine aw_region ?_)
    | ((with_reducible refine isC_draw ?_); refine aw_prune [0, 2, 3, 4] rfl rfl ?_; refine aw_drwF [] ?_)
    | refine stA ?_
    | refine stD ?_
    | (refine hK _ _ _ _ ?_; clear hK hX K)
    | (refine hX _ _ _ _ _ (by simp) ?_; clear hK hX K))
    rw [← hj2]
    refine retK_mk (by first | exact .inl rfl | exact .inr rfl) (by exact trivial) rfl (ResL.one (ResA.tmp rfl)) (by first | exact out_c (by first | exact frz_c cv_rfl | exact frz_c cv_nil | exact frz_ownW rfl rfl (by first | rfl | with_reducible assumption | (simp <;> fail) | omega | (simp; omega) | assumption) | exact frz_eq (frz_c cv_rfl) (by first | rfl | (simp <;> fail) | fail)) | exact out_own rfl rfl)
set_option maxHeartbeats 4000000 in
theorem rroot38_big (L : List (List UInt8)) (n : Nat) (hL : all32 L) (hn : L.length = n) (hnn : 4096 < n) : AC Try.prog 53 [.sl 32 n (dc L)] (.tup [.c (.agg (u8c zero32)), .c (iv 8)]) [] 0 := by
  have b1 : (4096 : Int) < (n : Int) := by omega
  refine ac_enter tabOk (sz := 40) Try.func53 rfl (by rw [Try.ntmps53]; rfl) ?_
  repeat' (first
    | ((with_reducible refine aw_seqk ?_); intro K hK hX)
    | ((with_reducible refine isC_reg ?_); refine aw_prune [0, 2, 3, 4, 5, 6] rfl rfl ?_; with_reducible refine aw_region ?_)
    | refine stA ?_
    | (refine hK _ _ _ _ ?_; clear hK hX K)
    | (refine hX _ _ _ _ _ (by simp) ?_; clear hK hX K))
  refine retK_mk (by first | exact .inl rfl | exact .inr rfl) (by exact trivial) rfl (ResL.two (by first | exact ResA.one rfl rfl rfl rfl rfl | exact ResA.agg rfl rfl rfl rfl rfl (by first | exact IsAgg.closed rfl rfl | exact IsAgg.mixed _) | exact ResA.aggr rfl rfl rfl rfl (by first | rfl | with_reducible assumption | (simp <;> fail) | omega | (simp; omega) | assumption)) (ResA.tmp rfl)) (out_t (frzl_cons (by first | exact frz_c cv_rfl | exact frz_c cv_nil | exact frz_ownW rfl rfl (by first | rfl | with_reducible assumption | (simp <;> fail) | omega | (simp; omega) | assumption) | exact frz_eq (frz_c cv_rfl) (by first | rfl | (simp <;> fail) | fail)) (frzl_cons (by first | exact frz_c cv_rfl | exact frz_c cv_nil | exact frz_ownW rfl rfl (by first | rfl | with_reducible assumption | (simp <;> fail) | omega | (simp; omega) | assumption) | exact frz_eq (frz_c cv_rfl) (by first | rfl | (simp <;> fail) | fail)) frzl_nil)))
set_option maxHeartbeats 4000000 in
theorem rroot38_ok (L : List (List UInt8)) (n : Nat) (hL : all32 L) (hn : L.length = n) (hnn : n ≤ 4096) : AC Try.prog 53 [.sl 32 n (dc L)] (.tup [.c (.agg (u8c (rootD L))), .c (iv 0)]) [] 0 := by
  have hdl := dc_length hL hn
  have b1 : ¬ (4096 : Int) < (n : Int) := by omega
  have hna := nodes_all L
  have hng := fun i => nodes_get (L := L) (i := i)
  have hnl : (L.map nodeD).length = n := by simp [hn]
  unfold rootD
  generalize L.map nodeD = V at hna hng hnl ⊢
  have htl := topD_length n (Nat.le_of_eq hnl) hna
  have hse := rroot_ok (topD V) n htl (by omega)
  rw [hn]
  have hus : (u8c (sealD (topD V) n)).length = 32 := by rw [u8c_length, sealD_length]
  generalize sealD (topD V) n = R at hse hus ⊢
  have hut : (u8c (topD V)).length = 32 := by rw [u8c_length, htl]
  generalize htop : topD V = T at hse hut htl
  refine ac_enter tabOk (sz := 40) Try.func53 rfl (by rw [Try.ntmps53]; rfl) ?_
  repeat' (first
    | ((with_reducible refine aw_seqk ?_); intro K hK hX)
    | ((with_reducible refine isC_reg ?_); refine aw_prune [0, 2, 3, 4, 5, 6] rfl rfl ?_; with_reducible refine aw_region ?_)
    | refine stA ?_
    | (refine hK _ _ _ _ ?_; clear hK hX K)
    | (refine hX _ _ _ _ _ (by simp) ?_; clear hK hX K))
  refine aw_nilown 4 35 32 rfl ?_
  refine aw_loopk 2 (fun i : Nat => [(0, .c (.sl 32 n (dc L))), (2, .ref 0 0), (3, .c (iv 0)), (4, .own 1 0 i 32 true), (5, .c (iv i))]) (fun i => [(0, .row 35 z32), (1, .row 35 (u8c (V.take i).flatten))]) [] (fun i => i ≤ n) (fun i => n - i) 0 (by omega) weakA ?_
  intro i hi K hK hX
  have hli := take_flat_len hna (show i ≤ V.length by omega)
  by_cases hlt : i < n
  · have hd := getD32 hL i (by omega)
    have hda := dig_at hL i (by omega)
    have htf := take_dc (L := V) (i := i) (by omega) (hng i (by omega))
    generalize L.getD i [] = d at hd hda htf
    have hud : (u8c d).length = 32 := by rw [u8c_length, hd]
    have hk := rnode_ok d hd
    have hun : (u8c (nodeD d)).length = 32 := by rw [u8c_length, nodeD_length]
    generalize nodeD d = x at hk hun htf
    repeat' (first
    | ((with_reducible refine aw_seqk ?_); intro K hK hX)
    | ((with_reducible refine isC_reg ?_); refine aw_prune [0, 2, 3, 4, 5, 6] rfl rfl ?_; with_reducible refine aw_region ?_)
    | ((with_reducible refine isA_call ?_); (first | refine zA ?_ | refine zN ?_); (first | refine c0 (hk) ?_))
    | (((with_reducible refine isA_any ?_); refine xA ?_); (first | ((with_reducible refine e_load ?_); (first | refine ex_i (s_loadAr tabOk rfl rfl rfl rfl (by first | exact hda | exact whole0 (by first | rfl | omega) | rfl) (by first | rfl | with_reducible assumption | (simp <;> fail) | omega | (simp; omega) | assumption)) ?_ | refine ex_i (s_loadAi tabOk rfl rfl rfl (by first | exact hda | exact whole0 (by first | rfl | omega) | rfl) (by first | rfl | with_reducible assumption | (simp <;> fail) | omega | (simp; omega) | assumption)) ?_)) | ((with_reducible refine e_slice ?_); (first | refine ex_i (s_slArri tabOk rfl rfl rfl rfl (by first | exact Bd.no | exact Bd.yes rfl (by first | with_reducible exact cast_self _ | with_reducible exact cast_lit _ | exact nt (by omega) | rfl)) (by first | exact Bd.no | exact Bd.yes rfl (by first | with_reducible exact cast_self _ | with_reducible exact cast_lit _ | exact nt (by omega) | rfl)) (by first | exact Nat.le_of_ble_eq_true rfl | omega | (simp; omega)) (by first | exact Nat.le_of_ble_eq_true rfl | omega | (simp; omega)) (by decide) (by first | exact hda | exact whole0 (by first | rfl | omega) | rfl) (by first | rfl | with_reducible assumption | (simp <;> fail) | omega | (simp; omega) | assumption)) ?_))))
    | refine stA ?_
    | (refine hK _ _ _ _ ?_; clear hK hX K)
    | (refine hX _ _ _ _ _ (by simp) ?_; clear hK hX K))
    exact ⟨i + 1, by omega, by omega, (by refine weak_ren [0, 3] rfl rfl ?_ ?_ rfl rfl <;> (repeat' (first | exact weakER_nil | exact weakHR_nil | refine weakER_cons rfl (by first | rfl | (exact congrArg (AObj.row 35) htf) | exact own_eq rfl rfl (by omega) | exact int_eq (by omega) | (simp <;> fail) | (congr 4; omega) | (congr 3; omega) | (congr 2; omega)) rfl ?_ | refine weakHR_cons rfl (by first | rfl | (exact congrArg (AObj.row 35) htf) | exact own_eq rfl rfl (by omega) | exact int_eq (by omega) | (simp <;> fail) | (congr 4; omega) | (congr 3; omega) | (congr 2; omega)) rfl ?_)))⟩
  · have hin : i = n := by omega
    have hfl : V.take i = V := take_all (by omega)
    rw [hfl] at hli ⊢
    repeat' (first
    | ((with_reducible refine aw_seqk ?_); intro K hK hX)
    | ((with_reducible refine isC_reg ?_); refine aw_prune [0, 2, 3, 4, 5, 6] rfl rfl ?_; with_reducible refine aw_region ?_)
    | refine stA ?_
    | (refine hK _ _ _ _ ?_; clear hK hX K)
    | (refine hX _ _ _ _ _ (by simp) ?_; clear hK hX K))
    refine aw_loopk 3 (fun M : List (List UInt8) => [(0, .c (.sl 32 n (dc L))), (2, .ref 0 0), (3, .c (iv 0)), (4, .own 1 0 M.length 32 true), (6, .ref 2 0)]) (fun M => [(0, .row 35 z32), (1, .row 35 (u8c M.flatten)), (2, .row 35 z32)]) [] (fun M => all32 M ∧ M.length ≤ 4096 ∧ topD M = T) (fun M => M.length) V ⟨hna, by omega, htop⟩ (by refine weak_mk rfl ?_ ?_ rfl <;> (repeat' (first | exact weakE_nil | exact weakH_nil | refine weakE_cons rfl (by first | rfl | (rw [hnl, ← hin]) | exact own_eq rfl rfl (by omega) | exact int_eq (by omega) | (simp <;> fail) | (congr 4; omega) | (congr 3; omega) | (congr 2; omega)) rfl ?_ | refine weakH_cons rfl (by first | rfl | (rw [hnl, ← hin]) | exact own_eq rfl rfl (by omega) | exact int_eq (by omega) | (simp <;> fail) | (congr 4; omega) | (congr 3; omega) | (congr 2; omega)) rfl ?_))) ?_
    rintro M ⟨hM, hMl, hMt⟩ K hK hX
    (try dsimp only at hK)
    have hml := flat_len hM
    generalize hm : M.length = m at hMl hml hK ⊢
    have huM : (u8c M.flatten).length = m * 32 := by rw [u8c_length, hml]
    by_cases h1 : 1 < m
    · have hup := rup_ok M m hM hm (by omega)
      have hul := upD_length M
      rw [hm] at hul
      repeat' (first
    | ((with_reducible refine aw_seqk ?_); intro K hK hX)
    | ((with_reducible refine isC_reg ?_); refine aw_prune [0, 2, 3, 4, 5, 6] rfl rfl ?_; with_reducible refine aw_region ?_)
    | ((with_reducible refine isA_call ?_); (refine yA ?_); (first | refine cF1 (hup) ?_))
    | refine stA ?_
    | (refine hK _ _ _ _ ?_; clear hK hX K)
    | (refine hX _ _ _ _ _ (by simp) ?_; clear hK hX K))
      exact ⟨upD M, ⟨upD_all hM, by omega, by rw [← topD_up (by omega)]; exact hMt⟩, by omega, (by refine weak_ren [0, 3, 2] rfl rfl ?_ ?_ rfl rfl <;> (repeat' (first | exact weakER_nil | exact weakHR_nil | refine weakER_cons rfl (by first | rfl | ((rw [hul]; rfl)) | exact own_eq rfl rfl (by omega) | exact int_eq (by omega) | (simp <;> fail) | (congr 4; omega) | (congr 3; omega) | (congr 2; omega)) rfl ?_ | refine weakHR_cons rfl (by first | rfl | ((rw [hul]; rfl)) | exact own_eq rfl rfl (by omega) | exact int_eq (by omega) | (simp <;> fail) | (congr 4; omega) | (congr 3; omega) | (congr 2; omega)) rfl ?_)))⟩
    · by_cases h0 : m = 1
      · have hd := getD32 hM 0 (by omega)
        have hda := dig_at hM 0 (by omega)
        rw [topD_end (by omega)] at hMt
        have hMt' : M.getD 0 [] = T := by
          rw [← hMt]
          obtain ⟨a, rfl⟩ := List.length_eq_one_iff.1 (hm.trans h0)
          rfl
        rw [hMt'] at hd hda
        unfold dc at hda
        repeat' (first
    | ((with_reducible refine aw_seqk ?_); intro K hK hX)
    | ((with_reducible refine isC_reg ?_); refine aw_prune [0, 2, 3, 4, 5, 6] rfl rfl ?_; with_reducible refine aw_region ?_)
    | ((with_reducible refine isA_call ?_); (first | refine zA ?_ | refine zN ?_); (first | refine c0 (hse) ?_))
    | (((with_reducible refine isA_any ?_); refine xA ?_); (first | ((with_reducible refine e_load ?_); (first | refine ex_i (s_loadAr tabOk rfl rfl rfl rfl (by first | exact hda | exact whole0 (by first | rfl | omega) | rfl) (by first | rfl | with_reducible assumption | (simp <;> fail) | omega | (simp; omega) | assumption)) ?_ | refine ex_i (s_loadAi tabOk rfl rfl rfl (by first | exact hda | exact whole0 (by first | rfl | omega) | rfl) (by first | rfl | with_reducible assumption | (simp <;> fail) | omega | (simp; omega) | assumption)) ?_)) | ((with_reducible refine e_slice ?_); (first | refine ex_i (s_slArri tabOk rfl rfl rfl rfl (by first | exact Bd.no | exact Bd.yes rfl (by first | with_reducible exact cast_self _ | with_reducible exact cast_lit _ | exact nt (by omega) | rfl)) (by first | exact Bd.no | exact Bd.yes rfl (by first | with_reducible exact cast_self _ | with_reducible exact cast_lit _ | exact nt (by omega) | rfl)) (by first | exact Nat.le_of_ble_eq_true rfl | omega | (simp; omega)) (by first | exact Nat.le_of_ble_eq_true rfl | omega | (simp; omega)) (by decide) (by first | exact hda | exact whole0 (by first | rfl | omega) | rfl) (by first | rfl | with_reducible assumption | (simp <;> fail) | omega | (simp; omega) | assumption)) ?_))))
    | refine stA ?_
    | (refine hK _ _ _ _ ?_; clear hK hX K)
    | (refine hX _ _ _ _ _ (by simp) ?_; clear hK hX K))
        refine retK_mk (by first | exact .inl rfl | exact .inr rfl) (by exact trivial) rfl (ResL.two (by first | exact ResA.one rfl rfl rfl rfl rfl | exact ResA.agg rfl rfl rfl rfl rfl (by first | exact IsAgg.closed rfl rfl | exact IsAgg.mixed _) | exact ResA.aggr rfl rfl rfl rfl (by first | rfl | with_reducible assumption | (simp <;> fail) | omega | (simp; omega) | assumption)) (ResA.tmp rfl)) (out_t (frzl_cons (by first | exact frz_c cv_rfl | exact frz_c cv_nil | exact frz_ownW rfl rfl (by first | rfl | with_reducible assumption | (simp <;> fail) | omega | (simp; omega) | assumption) | exact frz_eq (frz_c cv_rfl) (by first | rfl | (simp <;> fail) | fail)) (frzl_cons (by first | exact frz_c cv_rfl | exact frz_c cv_nil | exact frz_ownW rfl rfl (by first | rfl | with_reducible assumption | (simp <;> fail) | omega | (simp; omega) | assumption) | exact frz_eq (frz_c cv_rfl) (by first | rfl | (simp <;> fail) | fail)) frzl_nil)))
      · have hM0 : M = [] := List.eq_nil_of_length_eq_zero (by omega)
        rw [topD_end (by omega), hM0] at hMt
        have hMt' : zero32 = T := hMt
        subst hMt'
        repeat' (first
    | ((with_reducible refine aw_seqk ?_); intro K hK hX)
    | ((with_reducible refine isC_reg ?_); refine aw_prune [0, 2, 3, 4, 5, 6] rfl rfl ?_; with_reducible refine aw_region ?_)
    | ((with_reducible refine isA_call ?_); (first | refine zA ?_ | refine zN ?_); (first | refine c0 (hse) ?_))
    | refine stA ?_
    | (refine hK _ _ _ _ ?_; clear hK hX K)
    | (refine hX _ _ _ _ _ (by simp) ?_; clear hK hX K))
        refine retK_mk (by first | exact .inl rfl | exact .inr rfl) (by exact trivial) rfl (ResL.two (by first | exact ResA.one rfl rfl rfl rfl rfl | exact ResA.agg rfl rfl rfl rfl rfl (by first | exact IsAgg.closed rfl rfl | exact IsAgg.mixed _) | exact ResA.aggr rfl rfl rfl rfl (by first | rfl | with_reducible assumption | (simp <;> fail) | omega | (simp; omega) | assumption)) (ResA.tmp rfl)) (out_t (frzl_cons (by first | exact frz_c cv_rfl | exact frz_c cv_nil | exact frz_ownW rfl rfl (by first | rfl | with_reducible assumption | (simp <;> fail) | omega | (simp; omega) | assumption) | exact frz_eq (frz_c cv_rfl) (by first | rfl | (simp <;> fail) | fail)) (frzl_cons (by first | exact frz_c cv_rfl | exact frz_c cv_nil | exact frz_ownW rfl rfl (by first | rfl | with_reducible assumption | (simp <;> fail) | omega | (simp; omega) | assumption) | exact frz_eq (frz_c cv_rfl) (by first | rfl | (simp <;> fail) | fail)) frzl_nil)))
end Go.Proofs.Ytgofigkhdjjlmaa
/-
  Lists of digests that are filled one by one. Plain.
-/
set_option linter.unusedVariables false
set_option linter.unusedSimpArgs false
namespace Go.Proofs.Ytgofigkhdjjlmaa
open Go Go.RowKit Go.Av
set_option maxRecDepth 100000
theorem flat_set : ∀ {L : List (List UInt8)} (i : Nat) (x : List UInt8), all32 L → i < L.length → x.length = 32 → L.flatten.take (i * 32) ++ x ++ L.flatten.drop (i * 32 + 32) = (L.set i x).flatten
  | [], i, x, _, hi, _ => by simp at hi
  | d :: L, 0, x, h, _, hx => by
    have := h d (by simp)
    simp [this, List.drop_append]
  | d :: L, i + 1, x, h, hi, hx => by
    have hd := h d (by simp)
    have ih := flat_set (L := L) i x (fun y hy => h y (by simp [hy])) (by simpa using hi) hx
    rw [List.flatten_cons, List.set_cons_succ, List.flatten_cons, ← ih, show (i + 1) * 32 = d.length + i * 32 by omega, show d.length + i * 32 + 32 = d.length + (i * 32 + 32) by omega]
    simp only [List.take_append, List.drop_append, Nat.add_sub_cancel_left]
    rw [List.take_of_length_le (by omega), List.drop_of_length_le (by omega)]
    simp
theorem lay_dc {L : List (List UInt8)} (h : all32 L) (i : Nat) (hi : i < L.length) (x : List UInt8) (hx : x.length = 32) : lay (dc L) (0 + i * 32) (u8c x) = dc (L.set i x) := by
  unfold lay dc
  rw [Nat.zero_add, u8c_length, hx, u8c_take, u8c_drop, ← u8c_app, ← u8c_app, flat_set i x h hi hx]
/-- A list of which the first i elements are there. -/
def filD (E : List (List UInt8)) (n i : Nat) : List (List UInt8) := E.take i ++ List.replicate (n - i) zero32
theorem zero32_length : zero32.length = 32 := by decide
theorem filD_length {E : List (List UInt8)} {n i : Nat} (hE : E.length = n) (hi : i ≤ n) : (filD E n i).length = n := by
  unfold filD
  rw [List.length_append, List.length_take, List.length_replicate]
  omega
theorem filD_all {E : List (List UInt8)} (n i : Nat) (hE : all32 E) : all32 (filD E n i) := fun d hd => by
  rcases List.mem_append.1 hd with hd | hd
  · exact hE d (List.mem_of_mem_take hd)
  · rw [List.eq_of_mem_replicate hd]; exact zero32_length
theorem filD_set {E : List (List UInt8)} {n i : Nat} (hE : E.length = n) (hi : i < n) : (filD E n i).set i (E.getD i []) = filD E n (i + 1) := by
  unfold filD
  rw [List.set_append, if_neg (by rw [List.length_take]; omega), List.length_take, show i - min i E.length = 0 by omega, show n - i = (n - (i + 1)) + 1 by omega, List.replicate_succ, List.set_cons_zero]
  have e1 : E.take (i + 1) = E.take i ++ [E.getD i []] := by
    rw [List.take_add_one, List.getElem?_eq_getElem (by omega), List.getD_eq_getElem?_getD, List.getElem?_eq_getElem (by omega)]
    rfl
  rw [e1]
  simp
theorem filD_full {E : List (List UInt8)} {n : Nat} (hE : E.length = n) : filD E n n = E := by
  unfold filD
  rw [Nat.sub_self, ← hE, List.take_length]
  simp
theorem filD_zero {E : List (List UInt8)} {n : Nat} : filD E n 0 = List.replicate n zero32 := by simp [filD]
theorem zc_dig (n : Nat) : zc (List.replicate 32 (Value.int .u8 0)) n = dc (List.replicate n zero32) := by
  induction n with
  | zero => rfl
  | succ n ih =>
    have e : zc (List.replicate 32 (Value.int .u8 0)) (n + 1) = (List.replicate 32 (Value.int .u8 0)).map CV.v ++ zc (List.replicate 32 (Value.int .u8 0)) n := by simp [zc, List.replicate_succ]
    rw [e, ih, List.replicate_succ]
    show _ = u8c (zero32 ++ (List.replicate n zero32).flatten)
    rw [u8c_app]
    rfl
end Go.Proofs.Ytgofigkhdjjlmaa
/-
  A range over a function: the iterator is walked into, the loop's body is walked at each call of yield. For every program.
-/
set_option linter.unusedVariables false
set_option linter.unusedSimpArgs false
namespace Go.Av
open Go Go.RowKit
section
variable {P : Program} {tab : Tab} {sz n : Nat} {env : Env} {h : Heap} {dfs : Defs} {K : AK} {ops : Array Oper} {rest : List Oper} {d : Option Tmp} {ty : TypeId} {pos : String} {aft : Array Edge} {gd : Option (Nat × Bool)} {f : FuncId} {x : Operand} {xs : List Operand} {ats : Array TypeId}

/-- The iterator has returned: on behind the loop. -/
def ItK (P : Program) (l sz : Nat) (L : LC) (env' : Env) (K : AK) (dfs : Defs) : AK :=
  fun e n' _ h' dfs' => (e = .normal ∨ e = .ret) ∧ IdleD P h' dfs' ∧ framM dfs' = some (.yld (l + 1) :: .ref l 0 :: fram env' dfs) ∧
    lk (endD h' dfs') (l + 1) = some (.lp .ready sz L (env'.map (·.1)) (env'.map (·.2))) ∧ l + 1 < n' ∧
    K .normal n' env' ((l + 1, .lp .exhausted sz L (env'.map (·.1)) (env'.map (·.2))) :: endD h' dfs') ((some collF, [.ref l 0]) :: dfs)

theorem ext_refl' {C C' : Cx} (h : C = C') : Ext C C' := h ▸ Ext.refl C
theorem map_env {a : Act} : ∀ (env' : Env), (env'.map (·.1)).map (fun s => a.tmps.getD s undef) = env'.map fun p => a.tmps.getD p.1 undef
  | [] => rfl
  | p :: r => by simp only [List.map_cons]; rw [← map_env r]

theorem aw_range (tb : TabOk P tab) (ks : List Nat) {ps : Array Tmp} {asn bd : Code} {caps : List AV} {fn : Func} {c : Code} {env' : Env} {szf : Nat} (hxf : evA env x = some (.fn f caps)) (hb : Body P f) (hf : P.funcs[f]? = some fn) (hc : fn.body = some c) (hsz : max fn.ntmps (caps.length + 1) = szf) (hrs : fn.results = #[]) (hE : pruneE env ks = some env')
    (next : ∀ L : LC, L = ⟨ps.toList, asn, bd⟩ → AW P szf c (ItK P n sz L env' K dfs) (n + 2) (enumA 0 (.yld (n + 1) :: caps)) ((n + 1, .lp .ready sz L (env'.map (·.1)) (env'.map (·.2))) :: (n, .dfr true) :: h) [(none, .yld (n + 1) :: .ref n 0 :: fram env' dfs)]) :
    AW P sz (.rangeFunc x ps asn bd) K n env h dfs := by
  intro B a w hcn rd hrd
  obtain rfl : rd = none := hrd.resolve_right (by simp [plainC])
  obtain ⟨M, c1, c2, c3, c4⟩ := hcn
  obtain ⟨us, hxv, hus⟩ := rep_fn (rep_eval c3 x _ hxf)
  obtain ⟨dv, dv0, dv1, dv2⟩ := defRep_fr c4
  have henv : RepL (cx B n M h w) (env'.map (·.2)) (env'.map fun p => a.tmps.getD p.1 undef) := repL_map (g := fun t => a.tmps.getD t undef) fun p hp => c3 p.1 p.2 (pruneE_all hE p hp)
  let B' : Bs := ⟨B.w0, B.G, B.ok0, .func (.yield (w.heap.size + 1)) #[] #[] :: .pointer (some ⟨w.heap.size, 0, none⟩) :: ((env'.map fun p => a.tmps.getD p.1 undef) ++ dv)⟩
  refine wpIn_rangeFunc fun fnn hfn => ?_
  obtain ⟨W1, hW1⟩ : ∃ W1, (w.alloc (.deferred (some []))).alloc (.loop { state := .ready, pending := none, fn := fnn, tmps := a.tmps, params := ps, assign := asn, body := bd, defers := w.heap.size }) = W1 := ⟨_, rfl⟩
  have hbel : Below w.heap.size w W1 := by
    rw [← hW1]; exact ((Below.refl _ w).alloc (Nat.le_refl _) _).alloc (by simp) _
  have hl1 : W1.heap[w.heap.size + 1]? = some (.loop { state := .ready, pending := none, fn := fnn, tmps := a.tmps, params := ps, assign := asn, body := bd, defers := w.heap.size }) := by
    rw [← hW1]; have := World.alloc_heap_new (w.alloc (.deferred (some []))) (.loop { state := .ready, pending := none, fn := fnn, tmps := a.tmps, params := ps, assign := asn, body := bd, defers := w.heap.size }); rwa [World.size_alloc] at this
  have hk1 : W1.heap[w.heap.size]? = some (.deferred (some [])) := by
    rw [← hW1]; exact (Below.heap_alloc _ _ _ (by simp)).trans (World.alloc_heap_new w _)
  obtain ⟨L, hL⟩ : ∃ L : LC, L = ⟨ps.toList, asn, bd⟩ := ⟨_, rfl⟩
  let h1 : Heap := (n + 1, .lp .ready sz L (env'.map (·.1)) (env'.map (·.2))) :: (n, .dfr true) :: h
  let M' : Nat → Option Nat := fun id => if id = n then some w.heap.size else if id = n + 1 then some (w.heap.size + 1) else M id
  have e1 : ∀ id, id < n → lk h1 id = lk h id := fun id hid => by
    simp only [h1]; rw [lk_cons, if_neg (by omega), lk_cons, if_neg (by omega)]
  have eok : okOf B (lt n) M (lk h1) = okOf B (lt n) M (lk h) := by
    funext b
    unfold okOf
    simp only [eq_iff_iff]
    refine and_congr Iff.rfl ⟨fun hk id o hid hH => hk id o hid (by rw [e1 id hid]; exact hH), fun hk id o hid hH => hk id o hid (by rw [← e1 id hid]; exact hH)⟩
  have c1' : ConcH B (lt n) M (lk h1) w := by
    refine ⟨c1.fr, fun id o hid hH => ?_, fun id id' o o' g k1 k2 k3 k4 => c1.inj id id' o o' g k1 k2 (by rw [← e1 id k1]; exact k3) (by rw [← e1 id' k2]; exact k4), fun id o g k1 k2 => c1.lo id o g k1 (by rw [← e1 id k1]; exact k2)⟩
    rw [eok]
    exact c1.obj id o hid (by rw [← e1 id hid]; exact hH)
  have hn0 : lk h1 n = some (.dfr true) := by simp only [h1]; rw [lk_cons, if_neg (by omega), lk_cons, if_pos rfl]; rfl
  have hn1 : lk h1 (n + 1) = some (.lp .ready sz L (env'.map (·.1)) (env'.map (·.2))) := by simp only [h1]; rw [lk_cons, if_pos rfl]; rfl
  have hm0 : M' n = some w.heap.size := by simp [M']
  have hm1 : M' (n + 1) = some (w.heap.size + 1) := by simp [M']
  have hg := c1'.grow hbel n (n + 2) (M' := M')
    (fun id hid => by simp only [lt] at hid; simp only [M']; rw [if_neg (by omega), if_neg (by omega)])
    (fun id k1 k2 hd => by simp only [lt] at hd; omega)
    (fun id o k1 k2 k3 g hg => by
      have : id = n ∨ id = n + 1 := by omega
      rcases this with rfl | rfl
      · rw [hm0] at hg; injection hg with hg; omega
      · rw [hm1] at hg; injection hg with hg; omega)
    (fun id id' o o' g k1 k2 k3 k4 _ _ k5 k6 => by
      have j1 : id = n ∨ id = n + 1 := by omega
      have j2 : id' = n ∨ id' = n + 1 := by omega
      rcases j1 with rfl | rfl <;> rcases j2 with rfl | rfl <;> first | rfl | (rw [hm0] at *; rw [hm1] at *; simp only [Option.some.injEq] at k5 k6; omega))
    (fun hext id o k1 k2 k3 => by
      have : id = n ∨ id = n + 1 := by omega
      rcases this with rfl | rfl
      · rw [hn0] at k3; injection k3 with k3; subst k3
        rw [hm0]
        exact ⟨_, rfl, hk1⟩
      · rw [hn1] at k3; injection k3 with k3; subst k3
        rw [hm1]
        rw [eok] at hext
        refine ⟨_, _, rfl, hl1, rfl, rfl, by rw [hL], by rw [hL], by rw [hL], c2, ?_⟩
        rw [map_env]
        exact RepL.ext hext _ _ henv)
  rw [eok] at hg
  rw [lt_ad (Nat.le_add_right n 2)] at hg
  obtain ⟨hg1, hg2⟩ := hg
  have hg2 : Ext (cx B n M h w) (cx B (n + 2) M' h1 W1) := hg2
  have hyl : Rep (cx B (n + 2) M' h1 W1) (.yld (n + 1)) (.func (.yield (w.heap.size + 1)) #[] #[]) := ⟨by simp only [cx, lt]; omega, w.heap.size + 1, hm1, rfl⟩
  have hcaps : RepL (cx B (n + 2) M' h1 W1) (.yld (n + 1) :: caps) (.func (.yield (w.heap.size + 1)) #[] #[] :: us) := ⟨_, _, rfl, hyl, RepL.ext hg2 _ _ hus⟩
  refine ⟨w.heap.size + 1, [{ target := .collected w.heap.size, args := #[] }], W1, { target := .fn (.func f) us.toArray, args := #[.func (.yield (w.heap.size + 1)) #[] #[]] }, W1, f, #[.func (.yield (w.heap.size + 1)) #[] #[]] ++ us.toArray, W1, ?_, ?_, fun _ _ => wf_fn none _, ?_, wf_room none, calls_in (rd := none) ?_⟩
  · rw [← hW1]; exact run_enterLoop_outer _ _ _ _ _
  · simp only [resolve, hxv]
    simp [go_sem]
  · simp only [invoke]
    rw [Body.run hb]
  · have hlen := hus.length
    rw [show (#[Value.func (.yield (w.heap.size + 1)) #[] #[]] ++ us.toArray) = (Value.func (.yield (w.heap.size + 1)) #[] #[] :: us).toArray by simp]
    refine calls_of_wpM hf hc (wp_mono (wpg_plain (next L hL B' _ W1 ⟨M', ⟨hg1.fr, hg1.obj, hg1.inj, hg1.lo⟩, ?_, ?_, ?_⟩)) ?_)
    · simp
      omega
    · intro t av ht
      obtain ⟨k1, k2⟩ := enumA_get ht
      rw [Nat.sub_zero] at k2
      obtain ⟨u, hu, hru⟩ := hcaps.get k2
      have : ((Value.func (.yield (w.heap.size + 1)) #[] #[] :: us).toArray ++ Array.replicate (fn.ntmps - (Value.func (.yield (w.heap.size + 1)) #[] #[] :: us).toArray.size) undef).getD t undef = u := by
        have hlt := (List.getElem?_eq_some_iff.1 hu).1
        rw [Array.getD_eq_getD_getElem?, Array.getElem?_append_left (by simpa using hlt)]
        rw [List.getElem?_toArray, hu]
        rfl
      rw [this]
      exact hru
    · exact ⟨⟨_, _, rfl, hyl, _, _, rfl, ⟨by simp only [cx, lt]; omega, w.heap.size, hm0, rfl⟩, (RepL.ext hg2 _ _ henv).append (RepL.ext hg2 _ _ dv1)⟩, rfl⟩
    · intro e a' w' hq
      obtain ⟨n', env2, h', dfs', ⟨q1, q2, q3, q4, q5, q6⟩, M2, d1, d2, d3, d4⟩ := hq
      have : LeavesM P fn a'.tmps (rangePost (WF none) 0 P (w.heap.size + 1) (KC B sz K) { a with defers := [{ target := .collected w.heap.size, args := #[] }] ++ a.defers }) a'.defers w' := by
        refine leaves_idle q2 d1 d4 fun w2 g1 g2 => ?_
        refine ⟨.tuple #[], by simp [results, hrs], ?_⟩
        have hfr := RepL.ext g2 _ _ (framM_rep q3 d4)
        simp only [RepL] at hfr
        obtain ⟨y1, y2, y3, y4, y5, y6, y7, y8, y9⟩ := hfr
        injection y3 with y3 y3'
        subst y3 y3'
        injection y7 with y7 y7'
        subst y7 y7'
        simp only [Rep] at y4 y8
        obtain ⟨_, gl, m1, m1'⟩ := y4
        obtain ⟨_, gd, m2, m2'⟩ := y8
        have m1'' : w.heap.size + 1 = gl := by simpa using m1'
        have m2'' : w.heap.size = gd := by simpa using m2'
        subst m1'' m2''
        have m1 : M2 (n + 1) = some (w.heap.size + 1) := m1
        obtain ⟨e2, e3⟩ := repL_split (by simp) y9
        have hob := g1.obj (n + 1) _ q5 q4
        rw [m1] at hob
        obtain ⟨k, r, hk, r1, r2, r3, r4, r5, r6, r7, r8⟩ := hob
        injection hk with hk
        subst hk
        have r1 : w2.heap[w.heap.size + 1]? = some (.loop r) := r1
        obtain ⟨t1, t2⟩ := turn_put g1 (o' := .lp .exhausted sz L (List.map Prod.fst env') (List.map Prod.snd env')) (q' := .loop { r with state := .exhausted }) rfl q5 q4 m1 r1 rfl rfl
          (fun hx => ⟨_, _, rfl, World.putObj_heap_same (lt_of_block r1), rfl, r3, r4, r5, r6, r7, RepL.ext hx _ _ r8⟩)
        have he := repL_unmap (g := fun t => a.tmps.getD t undef) (RepL.ext t2 _ _ e2)
        refine ⟨none, _, by rw [← r3]; exact run_endLoop r1 (by rw [r2]; simp), n', env', _, _, q6, M2, ⟨t1.fr, t1.obj, t1.inj, t1.lo⟩, c2, fun t av ht => he (t, av) (lkE_mem ht), [.pointer (some ⟨w.heap.size, 0, none⟩)], a.defers, rfl, ?_, dv2 _ (RepL.ext t2 _ _ e3)⟩
        exact ⟨_, _, rfl, ⟨by simp only [cx, lt]; omega, w.heap.size, m2, rfl⟩, rfl⟩
      rcases q1 with rfl | rfl <;> exact this

/-- The loop's variables, set for a round. -/
def bindE : List Tmp → List AV → Env → Env
  | p :: ps, v :: vs, E => bindE ps vs ((p, v) :: E)
  | _, _, E => E
def zipE : List Nat → List AV → Env
  | s :: ss, x :: xs => (s, x) :: zipE ss xs
  | _, _ => []
theorem zipE_rep {C : Cx} {g : Nat → Value} : ∀ {slots : List Nat} {xs : List AV}, RepL C xs (slots.map g) → ∀ t av, lkE (zipE slots xs) t = some av → Rep C av (g t)
  | [], xs, h, t, av, ht => by cases xs <;> cases ht
  | s :: ss, [], h, t, av, ht => by cases ht
  | s :: ss, x :: xs, h, t, av, ht => by
    simp only [List.map_cons, RepL] at h
    obtain ⟨u, us, e, h1, h2⟩ := h
    injection e with e1 e2
    subst e1 e2
    rw [zipE, lkE_cons] at ht
    split at ht
    · rename_i e; subst e; injection ht with ht; subst ht; exact h1
    · exact zipE_rep h2 t av ht
theorem bindE_rep {C : Cx} : ∀ {ps : List Tmp} {vs : List AV} {us : List Value} {E : Env} {tmps : Array Value}, RepL C vs us → ps.length = vs.length → (∀ p ∈ ps, p < tmps.size) → (∀ t av, lkE E t = some av → Rep C av (tmps.getD t undef)) →
    (∀ t av, lkE (bindE ps vs E) t = some av → Rep C av (((ps.zip us).foldl (fun t p => t.setIfInBounds p.1 p.2) tmps).getD t undef)) ∧ ((ps.zip us).foldl (fun t p => t.setIfInBounds p.1 p.2) tmps).size = tmps.size
  | [], [], us, E, tmps, h, hl, hp, hE => by
    simp only [RepL] at h
    subst h
    exact ⟨hE, rfl⟩
  | [], v :: vs, us, E, tmps, h, hl, hp, hE => by simp at hl
  | p :: ps, [], us, E, tmps, h, hl, hp, hE => by simp at hl
  | p :: ps, v :: vs, us, E, tmps, h, hl, hp, hE => by
    simp only [RepL] at h
    obtain ⟨u, us', rfl, h1, h2⟩ := h
    have hps : p < tmps.size := hp p (by simp)
    have := bindE_rep (E := (p, v) :: E) (tmps := tmps.setIfInBounds p u) h2 (by simpa using hl) (fun q hq => by rw [Array.size_setIfInBounds]; exact hp q (by simp [hq])) (fun t av ht => by
      rw [lkE_cons] at ht
      split at ht
      · rename_i e; subst e; injection ht with ht; subst ht
        simp [hps]; exact h1
      · rename_i e
        have := hE t av ht
        simp only [Array.getD_eq_getD_getElem?] at this ⊢
        rw [Array.getElem?_setIfInBounds_ne e]
        exact this)
    refine ⟨this.1, ?_⟩
    rw [List.zip_cons_cons, List.foldl_cons, this.2, Array.size_setIfInBounds]

/-- The end of a round: on in the iterator. -/
def RdK (P : Program) (id szc : Nat) (L : LC) (slots : List Nat) (xs : List AV) (env' : Env) (ops : Array Oper) (sz : Nat) (rest : List Oper) (K : AK) (d : Option Tmp) (dfs : Defs) : AK :=
  fun e n2 _ h2 dfs2 => e = .normal ∧ framM dfs2 = some (.yld id :: fram env' dfs) ∧ lk h2 id = some (.lp .busy szc L slots xs) ∧ Nat.blt id n2 = true ∧ AWL P ops sz rest K n2 (putE env' d (.c (.v (.bool true)))) ((id, .lp .ready szc L slots xs) :: h2) dfs
def AsK (P : Program) (id szc : Nat) (L : LC) (slots : List Nat) (xs : List AV) (env' : Env) (ops : Array Oper) (sz : Nat) (rest : List Oper) (K : AK) (d : Option Tmp) (dfs : Defs) : AK :=
  fun e n1 env1 h1 dfs1 => e = .normal ∧ framM dfs1 = some (.yld id :: fram env' dfs) ∧ lk h1 id = some (.lp .ready szc L slots xs) ∧ Nat.blt id n1 = true ∧ AW P szc L.bd (RdK P id szc L slots xs env' ops sz rest K d dfs) n1 env1 ((id, .lp .busy szc L slots xs) :: h1) dfs1

theorem awl_yield (ks : List Nat) {id szc : Nat} {L : LC} {slots : List Nat} {vs ys : List AV} {env' : Env} (hg : guardA ops env ⟨d, .call ⟨.value x, xs.toArray, ats⟩, ty, pos, aft, gd⟩ true) (hd : dstOk d sz = true) (hx : evA env x = some (.yld id)) (ho : lk h id = some (.lp .ready szc L slots ys)) (hv : argsA (evA env) xs = some vs) (hE : pruneE env ks = some env')
    {ps : List Tmp} {asn bd : Code} (hL : L = ⟨ps, asn, bd⟩) (hps : Nat.beq ps.length vs.length = true) (hpb : ps.all (fun p => Nat.blt p szc) = true) (hp1 : plainC asn = true) (hp2 : plainC bd = true)
    (next : AW P szc asn (AsK P id szc L slots ys env' ops sz rest K d dfs) n (bindE ps vs (zipE slots ys)) h [(none, .yld id :: fram env' dfs)]) :
    AWL P ops sz (⟨d, .call ⟨.value x, xs.toArray, ats⟩, ty, pos, aft, gd⟩ :: rest) K n env h dfs := by
  intro B a w hcn rd hrd
  rw [List.all_cons] at hrd
  obtain ⟨hrd1, hrd2⟩ := plain2 hrd
  obtain ⟨M, c1, c2, c3, c4⟩ := hcn
  refine wpListIn_step fun K' hK' => ?_
  rw [if_pos (hg.wanted c3)]
  have hy := rep_eval c3 x _ hx
  simp only [Rep] at hy
  obtain ⟨hid, l, hM, hxv⟩ := hy
  have hM : M id = some l := hM
  have hob := c1.obj id _ hid ho
  rw [hM] at hob
  obtain ⟨k, r, hk, r1, r2, r3, r4, r5, r6, r7, r8⟩ := hob
  injection hk with hk
  subst hk
  have hvs := evs_rep (rep_eval c3) (argsA_eq hv)
  obtain ⟨dv, dv0, dv1, dv2⟩ := defRep_fr c4
  have henv : RepL (cx B n M h w) (env'.map (·.2)) (env'.map fun p => a.tmps.getD p.1 undef) := repL_map (g := fun t => a.tmps.getD t undef) fun p hp => c3 p.1 p.2 (pruneE_all hE p hp)
  let B' : Bs := ⟨B.w0, B.G, B.ok0, .func (.yield l) #[] #[] :: ((env'.map fun p => a.tmps.getD p.1 undef) ++ dv)⟩
  have hpl : ps.length = vs.length := Nat.eq_of_beq_eq_true hps
  subst hL
  have hrun : (execOp a.eval ⟨d, .call ⟨.value x, xs.toArray, ats⟩, ty, pos, aft, gd⟩).run P w = .ok (.round l r.fn ((ps.zip (xs.map a.eval)).foldl (fun t p => t.setIfInBounds p.1 p.2) r.tmps) r.assign r.body) w := by
    have hy := run_yield (P := P) (w := w) (l := l) (r := r) (args := (xs.map a.eval).toArray) r1 (by rw [r4]; simp; rw [hpl, ← hvs.length]; simp)
    simp only [execOp, resolve, hxv, Deferred.ofValue, invoke, Sem.run_bind, Sem.run_pure, Result.andThen_ok, List.map_toArray]
    rw [show (#[] ++ (List.map a.eval xs).toArray) = (List.map a.eval xs).toArray by simp, hy, r4]
    congr 2
    simp only [List.zip_toArray, List.foldl_toArray]
  have hfold := bindE_rep (C := cx B n M h w) (ps := ps) (vs := vs) (us := xs.map a.eval) (E := zipE slots ys) (tmps := r.tmps) hvs hpl (fun p hp => by
    have := List.all_eq_true.1 hpb p hp
    rw [r7]
    simpa using this) (fun t av ht => zipE_rep (g := fun s => r.tmps.getD s undef) r8 t av ht)
  refine ⟨fun f _ => wf_fn rd f, ?_⟩
  have hsem : Oper.semAt (WF rd).round a.eval ⟨d, .call ⟨.value x, xs.toArray, ats⟩, ty, pos, aft, gd⟩ = execOp a.eval ⟨d, .call ⟨.value x, xs.toArray, ats⟩, ty, pos, aft, gd⟩ := Oper.semAt_eq _ _ _ (fun c hc => by cases hc)
  rw [hsem, hrun]
  refine ⟨wf_room rd, roundIn_of_wpIn (wf_fn rd _) ?_⟩
  have hF : (WF rd).inRound l = WF (some l) := by cases rd <;> rfl
  rw [hF]
  have hw0 : Conc B' szc n (bindE ps vs (zipE slots ys)) h [(none, .yld id :: fram env' dfs)] { tmps := (ps.zip (xs.map a.eval)).foldl (fun t p => t.setIfInBounds p.1 p.2) r.tmps, defers := [] } w :=
    ⟨M, ⟨c1.fr, c1.obj, c1.inj, c1.lo⟩, hfold.2.trans r7, hfold.1, ⟨⟨_, _, rfl, ⟨hid, l, hM, rfl⟩, henv.append dv1⟩, rfl⟩⟩
  rw [r5, r6]
  -- what the waiting frame tells
  have wait : ∀ {n1 : Nat} {h1 : Heap} {dfs1 : Defs} {M1 : Nat → Option Nat} {w1 : World} {ds : List Deferred}, framM dfs1 = some (.yld id :: fram env' dfs) → DefRep B'.fr (cx B' n1 M1 h1 w1) dfs1 ds → M1 id = some l ∧ RepL (cx B' n1 M1 h1 w1) (fram env' dfs) ((env'.map fun p => a.tmps.getD p.1 undef) ++ dv) := by
    intro n1 h1 dfs1 M1 w1 ds hm hdr
    have hfr := framM_rep hm hdr
    simp only [RepL] at hfr
    obtain ⟨y1, y2, y3, y4, y9⟩ := hfr
    injection y3 with y3 y3'
    subst y3 y3'
    simp only [Rep] at y4
    obtain ⟨_, gl, m1, m1'⟩ := y4
    have m1'' : l = gl := by simpa using m1'
    subst m1''
    exact ⟨m1, y9⟩
  refine wpIn_mono (next B' _ w hw0 (some l) (.inr hp1)) fun e a1 w1 hq => ?_
  obtain ⟨n1, env1, h1, dfs1, ⟨rfl, q2, q3, q4, q5⟩, M1, d1, d2, d3, d4⟩ := hq
  obtain ⟨m1, _⟩ := wait q2 d4
  have q4' : id < n1 := by simpa using q4
  have hob := d1.obj id _ q4' q3
  rw [m1] at hob
  obtain ⟨k, r', hk, s1, s2, s3, s4, s5, s6, s7, s8⟩ := hob
  injection hk with hk
  subst hk
  obtain ⟨t1, t2⟩ := turn_put d1 (o' := .lp .busy szc ⟨ps, asn, bd⟩ slots ys) (q' := .loop { r' with state := .busy }) rfl q4' q3 m1 s1 rfl rfl
    (fun hx => ⟨_, _, rfl, World.putObj_heap_same (lt_of_block s1), rfl, s3, s4, s5, s6, s7, RepL.ext hx _ _ s8⟩)
  refine ⟨_, run_beginRound s1 s2, ?_⟩
  refine wpIn_mono (q5 B' _ _ ⟨M1, t1, d2, fun t av ht => Rep.ext t2 _ _ (d3 t av ht), d4.ext t2⟩ (some l) (.inr hp2)) fun e a2 w2 hq => ?_
  obtain ⟨n2, env2, h2, dfs2, ⟨rfl, z2, z3, z4, z5⟩, M2, f1, f2, f3, f4⟩ := hq
  obtain ⟨m2, hwt⟩ := wait z2 f4
  have z4' : id < n2 := by simpa using z4
  have hob := f1.obj id _ z4' z3
  rw [m2] at hob
  obtain ⟨k, r2', hk, v1, v2, v3, v4, v5, v6, v7, v8⟩ := hob
  injection hk with hk
  subst hk
  obtain ⟨g1, g2⟩ := turn_put f1 (o' := .lp .ready szc ⟨ps, asn, bd⟩ slots ys) (q' := .loop { r2' with state := .ready, pending := none }) rfl z4' z3 m2 v1 rfl rfl
    (fun hx => ⟨_, _, rfl, World.putObj_heap_same (lt_of_block v1), rfl, rfl, v4, v5, v6, v7, RepL.ext hx _ _ v8⟩)
  obtain ⟨e1, e2⟩ := repL_split (by simp) (RepL.ext g2 _ _ hwt)
  have he := repL_unmap (g := fun t => a.tmps.getD t undef) e1
  refine ⟨.bool true, _, run_endRound none v1, ?_⟩
  refine hK' _ _ (z5 B _ _ ?_ rd hrd2)
  obtain ⟨p1, p2, p3⟩ := put_env (env := env') (B := B) (a := a) (w := w2.putObj l (.loop { r2' with state := .ready, pending := none })) (w' := w2.putObj l (.loop { r2' with state := .ready, pending := none })) (M := M2) (M' := M2) (n := n2) (n' := n2) (h := (id, .lp .ready szc ⟨ps, asn, bd⟩ slots ys) :: h2) (h' := (id, .lp .ready szc ⟨ps, asn, bd⟩ slots ys) :: h2) (d := d) c2 (fun t av ht => he (t, av) (lkE_mem ht)) (Ext.refl _) (dstOk_spec hd) (v := .c (.v (.bool true))) (u := .bool true) (by simp [Rep, RepC])
  exact ⟨M2, ⟨g1.fr, g1.obj, g1.inj, g1.lo⟩, p1, p2, by rw [p3]; exact dv2 _ e2⟩

theorem isC_range {y : Operand} {ps : Array Tmp} {c1 c2 : Code} (hh : AW P sz (.rangeFunc y ps c1 c2) K n env h dfs) : AW P sz (.rangeFunc y ps c1 c2) K n env h dfs := hh
theorem itK_mk {l : Nat} {L : LC} {env' env2 : Env} {e : Exit} {n' : Nat} {h' h2 : Heap} {dfs' : Defs} (he : e = .normal ∨ e = .ret) (hi : IdleD P h' dfs') (hm : framM dfs' = some (.yld (l + 1) :: .ref l 0 :: fram env' dfs)) (hh : endD h' dfs' = h2) (ho : lk h2 (l + 1) = some (.lp .ready sz L (env'.map (·.1)) (env'.map (·.2)))) (hlt : Nat.blt (l + 1) n' = true)
    (next : K .normal n' env' ((l + 1, .lp .exhausted sz L (env'.map (·.1)) (env'.map (·.2))) :: h2) ((some collF, [.ref l 0]) :: dfs)) : ItK P l sz L env' K dfs e n' env2 h' dfs' :=
  ⟨he, hi, hm, by rw [hh]; exact ho, by simpa using hlt, by rw [hh]; exact next⟩
theorem asK_mk {id szc n1 : Nat} {L : LC} {slots : List Nat} {ys : List AV} {env' env1 : Env} {h1 : Heap} {dfs1 : Defs} {ps : List Tmp} {asn bd : Code} (hL : L = ⟨ps, asn, bd⟩) (hm : framM dfs1 = some (.yld id :: fram env' dfs)) (ho : lk h1 id = some (.lp .ready szc L slots ys)) (hlt : Nat.blt id n1 = true)
    (next : AW P szc bd (RdK P id szc L slots ys env' ops sz rest K d dfs) n1 env1 ((id, .lp .busy szc L slots ys) :: h1) dfs1) : AsK P id szc L slots ys env' ops sz rest K d dfs .normal n1 env1 h1 dfs1 := by
  subst hL
  exact ⟨rfl, hm, ho, hlt, next⟩
theorem rdK_some {id szc n2 t : Nat} {L : LC} {slots : List Nat} {ys : List AV} {env' env2 : Env} {h2 : Heap} {dfs2 : Defs} (hm : framM dfs2 = some (.yld id :: fram env' dfs)) (ho : lk h2 id = some (.lp .busy szc L slots ys)) (hlt : Nat.blt id n2 = true)
    (next : AWL P ops sz rest K n2 ((t, .c (.v (.bool true))) :: env') ((id, .lp .ready szc L slots ys) :: h2) dfs) : RdK P id szc L slots ys env' ops sz rest K (some t) dfs .normal n2 env2 h2 dfs2 := ⟨rfl, hm, ho, hlt, next⟩

/-- A loop: only what varies is told. -/
def dropE (ks : List Nat) : Env → Option Env
  | [] => some []
  | p :: r => match dropE ks r with
    | some r' => match memB ks p.1 with | true => some r' | false => some (p :: r')
    | none => none
def dropH (ks : List Nat) : Heap → Option Heap
  | [] => some []
  | p :: r => match dropH ks r with
    | some r' => match memB ks p.1 with | true => some r' | false => some (p :: r')
    | none => none
theorem aw_loopo {ι : Type} {c : Code} (ks hs : List Nat) {envR : Env} {hR : Heap} (hE : dropE ks env = some envR) (hH : dropH hs h = some hR) (ov : ι → Env) (hov : ι → Heap) (Inv : ι → Prop) (μ : ι → Nat) (i0 : ι) (h0 : Inv i0) (hw : Weak n env h dfs n (ov i0 ++ envR) (hov i0 ++ hR) dfs)
    (round : ∀ i, Inv i → ∀ K' : AK, (∀ n' env' h' dfs', (∃ j, Inv j ∧ μ j < μ i ∧ Weak n' env' h' dfs' n (ov j ++ envR) (hov j ++ hR) dfs) → K' .normal n' env' h' dfs') → (∀ e n env h dfs, e ≠ .normal → K e n env h dfs → K' e n env h dfs) → AW P sz c K' n (ov i ++ envR) (hov i ++ hR) dfs) : AW P sz (.loop c) K n env h dfs :=
  aw_loopk n (fun i => ov i ++ envR) (fun i => hov i ++ hR) dfs Inv μ i0 h0 hw round

end
theorem nilrow {n : Nat} {h : Heap} (T : TypeId) {B : Bs} {w : World} {M : Nat → Option Nat} (c1 : ConcH B (lt n) M (lk h) w) : ∃ M', ConcH B (lt (n + 1)) M' (lk ((n, .row T []) :: h)) w ∧ M' n = none ∧ Ext (cx B n M h w) (cx B (n + 1) M' ((n, .row T []) :: h) w) := by
  have e1 : ∀ id, id < n → lk ((n, .row T []) :: h) id = lk h id := fun id hid => by rw [lk_cons, if_neg (by omega)]
  have e2 : lk ((n, AObj.row T []) :: h) n = some (.row T []) := by rw [lk_cons, if_pos rfl]; rfl
  have eok : okOf B (lt n) M (lk ((n, .row T []) :: h)) = okOf B (lt n) M (lk h) := by
    funext b
    unfold okOf
    simp only [eq_iff_iff]
    exact and_congr Iff.rfl ⟨fun hk id o hid hH => hk id o hid (by rw [e1 id hid]; exact hH), fun hk id o hid hH => hk id o hid (by rw [← e1 id hid]; exact hH)⟩
  have h1' : ConcH B (lt n) M (lk ((n, .row T []) :: h)) w := by
    refine ⟨c1.fr, fun id o hid hH => ?_, fun id id' o o' g k1 k2 k3 k4 => c1.inj id id' o o' g k1 k2 (by rw [← e1 id k1]; exact k3) (by rw [← e1 id' k2]; exact k4), fun id o g k1 k2 => c1.lo id o g k1 (by rw [← e1 id k1]; exact k2)⟩
    rw [eok]
    exact c1.obj id o hid (by rw [← e1 id hid]; exact hH)
  let M' : Nat → Option Nat := fun id => if id = n then none else M id
  have hMn : M' n = none := by simp [M']
  have hg := h1'.grow (Below.refl w.heap.size w) n (n + 1) (M' := M') (fun id hid => by
      have : ¬ id = n := by simp only [lt] at hid; omega
      simp [M', this]) (fun id k1 k2 => by simp only [lt]; omega)
    (fun id o k1 k2 k3 g hg => by obtain rfl : id = n := by omega
                                  rw [hMn] at hg; cases hg)
    (fun id id' o o' g k1 k2 k3 k4 _ _ _ _ => by omega)
    (fun hext id o k1 k2 k3 => by
      obtain rfl : id = n := by omega
      rw [e2] at k3
      injection k3 with k3
      subst k3
      exact .inl ⟨hMn, rfl⟩)
  rw [lt_ad (Nat.le_succ n)] at hg
  have hext : Ext (cx B n M h w) (cx B (n + 1) M' ((n, .row T []) :: h) w) := by
    have := hg.2
    rw [eok] at this
    exact this
  exact ⟨M', hg.1, hMn, hext⟩
/-- A nil slice in a block's cell as an own row without cells. -/
theorem weak_nilcell {n id k size : Nat} {env : Env} {h : Heap} {dfs : Defs} {T : TypeId} {cs cs' : List AV} (T' : TypeId) (ho : lk h id = some (.blk T cs)) (hid : Nat.blt id n = true) (hk : cs[k]? = some (.c (.v (.slice none 0 0)))) (hs : cs.set k (.own n 0 0 size true) = cs') : Weak n env h dfs (n + 1) env ((id, .blk T cs') :: (n, .row T' []) :: h) dfs := by
  intro B sz a w hc
  have hid' : id < n := by simpa using hid
  obtain ⟨M, c1, c2, c3, c4⟩ := hc
  obtain ⟨M', g1, hMn, hext⟩ := nilrow T' c1
  have ho1 : lk ((n, .row T' []) :: h) id = some (.blk T cs) := by rw [lk_cons, if_neg (by omega)]; exact ho
  have hob := g1.obj id _ (Nat.lt_succ_of_lt hid') ho1
  obtain ⟨g, us, hg, hb, hus⟩ := hob
  obtain ⟨u, hu, hru⟩ := hus.get hk
  simp only [Rep, RepC] at hru
  subst hru
  have hset : us.set k (.slice none 0 0) = us := by
    apply List.ext_getElem?
    intro j
    rw [List.getElem?_set]
    split
    · rename_i e; subst e; split
      · exact hu.symm
      · rename_i hl; rw [List.getElem?_eq_none (by omega)]
    · rfl
  obtain ⟨t1, t2⟩ := g1.turn (w' := w) (o' := .blk T cs') rfl (Nat.lt_succ_of_lt hid') ho1 hg rfl rfl rfl rfl (fun _ _ => rfl) rfl (fun hx => ⟨g, us, rfl, hb, by
    have h1 := RepL.ext hx _ _ hus
    have := h1.set k (c := .own n 0 0 size true) (u := .slice none 0 0) ⟨Nat.lt_succ_self n, .inl ⟨rfl, rfl, hMn, rfl⟩⟩
    rw [hset, hs] at this
    exact this⟩)
  have hxx := hext.trans t2
  exact ⟨M', t1, c2, fun k av hk => Rep.ext hxx _ _ (c3 k av hk), c4.ext hxx⟩
theorem aw_nilcell {P : Program} {sz n : Nat} {c : Code} {K : AK} {env : Env} {h : Heap} {dfs : Defs} (id k : Nat) (T' : TypeId) (size : Nat) {T : TypeId} {cs cs' : List AV} (ho : lk h id = some (.blk T cs)) (hid : Nat.blt id n = true) (hk : cs[k]? = some (.c (.v (.slice none 0 0)))) (hs : cs.set k (.own n 0 0 size true) = cs') (next : AW P sz c K (n + 1) env ((id, .blk T cs') :: (n, .row T' []) :: h) dfs) : AW P sz c K n env h dfs := aw_weak (weak_nilcell T' ho hid hk hs) next
end Go.Av
/-
  Levels and roots of trees (walk of the program).
-/
set_option linter.unusedVariables false
set_option linter.unusedSimpArgs false
namespace Go.Proofs.Ytgofigkhdjjlmaa
open Go Go.RowKit Go.Av
set_option maxRecDepth 100000
attribute [local irreducible] Still Adds AWL AW Drw DrwE EStep AC AWR Weak Frz Src RetK Out InK ItK AsK RdK permute
attribute [local simp] u8c_take u8c_drop u8c_app
theorem root_idle : Idle Try.prog 94 2 := by
  intro us w hl
  obtain ⟨u0, u1, rfl⟩ : ∃ u0 u1, us = [u0, u1] := by
    match us, hl with | [u0, u1], _ => exact ⟨u0, u1, rfl⟩
  refine callsD_of_wpS Try.func94 rfl fun c₀ cs hu => ?_
  apply wpS_seq
  apply wpS_region
  simp [wpOpsS, go_sem, recoverD, hu, Try.ntmps94, Exit.thenS]
  refine wpS_cond (t := false) (by simp [Act.eval, Array.replicate]) ?_
  simp only [Bool.false_eq_true, if_false]
  refine wpS_of_wp (wp_skip ?_)
  cases c₀
  simp_all [bodyPostS, results, Try.results94]
theorem root_idle_b : Body Try.prog 94 := by unfold Body; kernel_rfl
set_option maxHeartbeats 4000000 in
theorem above_ok (L : List (List UInt8)) (n : Nat) (hL : all32 L) (hn : L.length = n) (hnn : n ≤ 5000) : AC Try.prog 115 [.sl 32 n (dc L)] (.own 0 0 ((n + 1) / 2) 32 true) [(0, .row 35 (dc (upD L)))] 1 := by
  have hul := upD_length L
  rw [hn] at hul
  have hua := upD_all hL
  have hdl := dc_length hL hn
  have heven := fun j => upD_even (L := L) (j := j)
  have hlast := fun j => upD_last (L := L) (j := j)
  unfold dc at *
  generalize upD L = U at hul hua heven hlast ⊢
  refine ac_enter tabOk (sz := 44) Try.func115 rfl (by rw [Try.ntmps115]; rfl) ?_
  repeat' (first
    | ((with_reducible refine aw_seqk ?_); intro K hK hX)
    | ((with_reducible refine isC_reg ?_); refine aw_prune [0, 2, 3, 4] rfl rfl ?_; with_reducible refine aw_region ?_)
    | ((with_reducible refine isC_draw ?_); refine aw_prune [0, 2, 3, 4] rfl rfl ?_; refine aw_drwF [] ?_)
    | refine stA ?_
    | refine stD ?_
    | (refine hK _ _ _ _ ?_; clear hK hX K)
    | (refine hX _ _ _ _ _ (by simp) ?_; clear hK hX K))
  refine aw_loopo [3, 4] [0] rfl rfl (fun j : Nat => [(3, .own 0 0 j 32 true), (4, .c (iv (2 * j : Nat)))]) (fun j => [(0, .row 35 (u8c (U.take j).flatten))]) (fun j => 2 * j ≤ n) (fun j => n - j) 0 (by omega) weakA ?_
  intro j hj K hK hX
  have hli := take_flat_len hua (show j ≤ U.length by omega)
  by_cases h1 : 2 * j + 1 < n
  · have hda := dig_at hL (2 * j) (by omega)
    have hd := getD32 hL (2 * j) (by omega)
    have hdb := dig_at hL (2 * j + 1) (by omega)
    have he := getD32 hL (2 * j + 1) (by omega)
    unfold dc at hda hdb
    have htf := take_dc (L := U) (i := j) (by omega) (heven j (by omega))
    generalize L.getD (2 * j) [] = a at hd hda htf
    generalize L.getD (2 * j + 1) [] = b at he hdb htf
    have hu1 : (u8c a).length = 32 := by rw [u8c_length, hd]
    have hu2 : (u8c b).length = 32 := by rw [u8c_length, he]
    have hk : AC Try.prog 42 [wv 381#64, .agg (u8c a), .agg (u8c b)] (.c (.agg (u8c (joinD a b)))) [] 0 := pair_ok 381#64 a b hd he
    have hu3 : (u8c (joinD a b)).length = 32 := by rw [u8c_length, joinD_length]
    generalize joinD a b = x at hk hu3 htf
    repeat' (first
    | ((with_reducible refine aw_seqk ?_); intro K hK hX)
    | ((with_reducible refine isC_reg ?_); refine aw_prune [0, 2, 3, 4] rfl rfl ?_; with_reducible refine aw_region ?_)
    | ((with_reducible refine isC_draw ?_); refine aw_prune [0, 2, 3, 4] rfl rfl ?_; refine aw_drwE [] ?_)
    | ((first | with_reducible refine isA_call ?_ | with_reducible refine isE_call ?_); (first | refine zA ?_ | refine zN ?_ | refine zE ?_); (first | refine c0 (hk) ?_))
    | ((first | ((with_reducible refine isA_any ?_); refine xA ?_) | ((with_reducible refine isEk_any ?_); refine xE ?_)); (first | ((with_reducible refine e_ixA ?_); (first | refine ex_i (s_ixC tabOk rfl rfl (show ((2 * j : Nat) : Int) + 1 = ((2 * j + 1 : Nat) : Int) by omega) rfl rfl rfl rfl (by omega)) ?_)) | ((with_reducible refine e_load ?_); (first | refine ex_i (s_loadAr tabOk rfl rfl rfl rfl (by first | first | exact hda | exact hdb | exact whole0 (by first | rfl | omega) | rfl) (by first | rfl | with_reducible assumption | (simp <;> fail) | omega | (simp; omega) | assumption)) ?_ | refine ex_i (s_loadAi tabOk rfl rfl rfl (by first | first | exact hda | exact hdb | exact whole0 (by first | rfl | omega) | rfl) (by first | rfl | with_reducible assumption | (simp <;> fail) | omega | (simp; omega) | assumption)) ?_)) | ((with_reducible refine e_slice ?_); (first | refine ex_i (s_slArri tabOk rfl rfl rfl rfl (by first | exact Bd.no | exact Bd.yes rfl (by first | with_reducible exact cast_self _ | with_reducible exact cast_lit _ | exact nt (by omega) | rfl)) (by first | exact Bd.no | exact Bd.yes rfl (by first | with_reducible exact cast_self _ | with_reducible exact cast_lit _ | exact nt (by omega) | rfl)) (by first | exact Nat.le_of_ble_eq_true rfl | omega | (simp; omega)) (by first | exact Nat.le_of_ble_eq_true rfl | omega | (simp; omega)) (by decide) (by first | first | exact hda | exact hdb | exact whole0 (by first | rfl | omega) | rfl) (by first | rfl | with_reducible assumption | (simp <;> fail) | omega | (simp; omega) | assumption)) ?_))))
    | refine stA ?_
    | refine stE ?_
    | (refine hK _ _ _ _ ?_; clear hK hX K)
    | (refine hX _ _ _ _ _ (by simp) ?_; clear hK hX K))
    exact ⟨j + 1, by omega, by omega, (by refine weak_ren [2] rfl rfl ?_ ?_ rfl rfl <;> (repeat' (first | exact weakER_nil | exact weakHR_nil | refine weakER_cons rfl (by first | rfl | (exact congrArg (AObj.row 35) htf) | exact own_eq rfl rfl (by omega) | exact int_eq (by omega) | (simp <;> fail) | (congr 4; omega) | (congr 3; omega) | (congr 2; omega)) rfl ?_ | refine weakHR_cons rfl (by first | rfl | (exact congrArg (AObj.row 35) htf) | exact own_eq rfl rfl (by omega) | exact int_eq (by omega) | (simp <;> fail) | (congr 4; omega) | (congr 3; omega) | (congr 2; omega)) rfl ?_)))⟩
  · by_cases h2 : 2 * j < n
    · have hda := dig_at hL (2 * j) (by omega)
      have hd := getD32 hL (2 * j) (by omega)
      unfold dc at hda
      have htf := take_dc (L := U) (i := j) (by omega) (hlast j (by omega))
      generalize L.getD (2 * j) [] = a at hd hda htf
      have hu1 : (u8c a).length = 32 := by rw [u8c_length, hd]
      have hodd : (n : Int) % 2 = 1 := by omega
      have hfl : U.take (j + 1) = U := take_all (by omega)
      rw [hfl] at htf
      repeat' (first
    | ((with_reducible refine aw_seqk ?_); intro K hK hX)
    | ((with_reducible refine isC_reg ?_); refine aw_prune [0, 2, 3, 4] rfl rfl ?_; with_reducible refine aw_region ?_)
    | ((with_reducible refine isC_draw ?_); refine aw_prune [0, 2, 3, 4] rfl rfl ?_; refine aw_drwE [] ?_)
    | ((first | ((with_reducible refine isA_any ?_); refine xA ?_) | ((with_reducible refine isEk_any ?_); refine xE ?_)); (first | ((with_reducible refine e_ixA ?_); (first | refine ex_i (s_ixC tabOk rfl rfl (show (n : Int) - 1 = ((2 * j : Nat) : Int) by omega) rfl rfl rfl rfl (by omega)) ?_)) | ((with_reducible refine e_load ?_); (first | refine ex_i (s_loadAr tabOk rfl rfl rfl rfl (by first | exact hda | exact whole0 (by first | rfl | omega) | rfl) (by first | rfl | with_reducible assumption | (simp <;> fail) | omega | (simp; omega) | assumption)) ?_ | refine ex_i (s_loadAi tabOk rfl rfl rfl (by first | exact hda | exact whole0 (by first | rfl | omega) | rfl) (by first | rfl | with_reducible assumption | (simp <;> fail) | omega | (simp; omega) | assumption)) ?_)) | ((with_reducible refine e_slice ?_); (first | refine ex_i (s_slArri tabOk rfl rfl rfl rfl (by first | exact Bd.no | exact Bd.yes rfl (by first | with_reducible exact cast_self _ | with_reducible exact cast_lit _ | exact nt (by omega) | rfl)) (by first | exact Bd.no | exact Bd.yes rfl (by first | with_reducible exact cast_self _ | with_reducible exact cast_lit _ | exact nt (by omega) | rfl)) (by first | exact Nat.le_of_ble_eq_true rfl | omega | (simp; omega)) (by first | exact Nat.le_of_ble_eq_true rfl | omega | (simp; omega)) (by decide) (by first | exact hda | exact whole0 (by first | rfl | omega) | rfl) (by first | rfl | with_reducible assumption | (simp <;> fail) | omega | (simp; omega) | assumption)) ?_))))
    | refine stA ?_
    | refine stE ?_
    | (refine hK _ _ _ _ ?_; clear hK hX K)
    | (refine hX _ _ _ _ _ (by simp) ?_; clear hK hX K))
      rw [show (n + 1) / 2 = j + 1 by omega, ← htf]
      refine retK_mk (by first | exact .inl rfl | exact .inr rfl) (by exact trivial) rfl (ResL.one (ResA.tmp rfl)) (by first | exact out_c (by first | exact frz_c cv_rfl | exact frz_c cv_nil | exact frz_ownW rfl rfl (by first | rfl | with_reducible assumption | (simp <;> fail) | omega | (simp; omega) | assumption) | exact frz_eq (frz_c cv_rfl) (by first | rfl | (simp <;> fail) | fail)) | exact out_own rfl rfl)
    · have hodd : ¬ (n : Int) % 2 = 1 := by omega
      have hfl : U.take j = U := take_all (by omega)
      rw [hfl] at hli ⊢
      repeat' (first
    | ((with_reducible refine aw_seqk ?_); intro K hK hX)
    | ((with_reducible refine isC_reg ?_); refine aw_prune [0, 2, 3, 4] rfl rfl ?_; with_reducible refine aw_region ?_)
    | ((with_reducible refine isC_draw ?_); refine aw_prune [0, 2, 3, 4] rfl rfl ?_; refine aw_drwE [] ?_)
    | refine stA ?_
    | refine stE ?_
    | (refine hK _ _ _ _ ?_; clear hK hX K)
    | (refine hX _ _ _ _ _ (by simp) ?_; clear hK hX K))
      rw [show (n + 1) / 2 = j by omega]
      refine retK_mk (by first | exact .inl rfl | exact .inr rfl) (by exact trivial) rfl (ResL.one (ResA.tmp rfl)) (by first | exact out_c (by first | exact frz_c cv_rfl | exact frz_c cv_nil | exact frz_ownW rfl rfl (by first | rfl | with_reducible assumption | (simp <;> fail) | omega | (simp; omega) | assumption) | exact frz_eq (frz_c cv_rfl) (by first | rfl | (simp <;> fail) | fail)) | exact out_own rfl rfl)
set_option maxHeartbeats 8000000 in
theorem root38_big (L : List (List UInt8)) (n : Nat) (hL : all32 L) (hn : L.length = n) (hnn : 4096 < n) : AC Try.prog 52 [.sl 32 n (dc L)] (.tup [.c (.agg (u8c zero32)), .c (iv 8)]) [] 0 := by
  have b1 : (4096 : Int) < (n : Int) := by omega
  refine ac_enter tabOk (sz := 21) Try.func52 rfl (by rw [Try.ntmps52]; rfl) ?_
  repeat' (first
    | ((with_reducible refine aw_seqk ?_); intro K hK hX)
    | ((with_reducible refine isC_reg ?_); refine aw_prune [0, 2, 3, 4, 5, 13] rfl rfl ?_; with_reducible refine aw_region ?_)
    | refine stA ?_
    | (refine hK _ _ _ _ ?_; clear hK hX K)
    | (refine hX _ _ _ _ _ (by simp) ?_; clear hK hX K))
  refine retK_mk (by first | exact .inl rfl | exact .inr rfl) (by exact ⟨root_idle, root_idle_b, trivial⟩) rfl (ResL.two (by first | exact ResA.one rfl rfl rfl rfl rfl | exact ResA.agg rfl rfl rfl rfl rfl (by first | exact IsAgg.closed rfl rfl | exact IsAgg.mixed _) | exact ResA.aggr rfl rfl rfl rfl (by first | rfl | with_reducible assumption | (simp <;> fail) | omega | (simp; omega) | assumption)) (by first | exact ResA.one rfl rfl rfl rfl rfl | exact ResA.agg rfl rfl rfl rfl rfl (by first | exact IsAgg.closed rfl rfl | exact IsAgg.mixed _) | exact ResA.aggr rfl rfl rfl rfl (by first | rfl | with_reducible assumption | (simp <;> fail) | omega | (simp; omega) | assumption))) (out_t (frzl_cons (by first | exact frz_c cv_rfl | exact frz_c cv_nil | exact frz_ownW rfl rfl (by first | rfl | with_reducible assumption | (simp <;> fail) | omega | (simp; omega) | assumption) | exact frz_eq (frz_c cv_rfl) (by first | rfl | (simp <;> fail) | fail)) (frzl_cons (by first | exact frz_c cv_rfl | exact frz_c cv_nil | exact frz_ownW rfl rfl (by first | rfl | with_reducible assumption | (simp <;> fail) | omega | (simp; omega) | assumption) | exact frz_eq (frz_c cv_rfl) (by first | rfl | (simp <;> fail) | fail)) frzl_nil)))
set_option maxHeartbeats 8000000 in
theorem root38_ok (L : List (List UInt8)) (n : Nat) (hL : all32 L) (hn : L.length = n) (hnn : n ≤ 4096) : AC Try.prog 52 [.sl 32 n (dc L)] (.tup [.c (.agg (u8c (rootD L))), .c (iv 0)]) [] 0 := by
  have hdl := dc_length hL hn
  have b1 : ¬ (4096 : Int) < (n : Int) := by omega
  have hna := nodes_all L
  have hng := fun i => nodes_get (L := L) (i := i)
  have hnl : (L.map nodeD).length = n := by simp [hn]
  unfold rootD
  generalize L.map nodeD = V at hna hng hnl ⊢
  have htl := topD_length n (Nat.le_of_eq hnl) hna
  have hse := seal_ok (topD V) n htl (by omega)
  rw [hn]
  have hus : (u8c (sealD (topD V) n)).length = 32 := by rw [u8c_length, sealD_length]
  generalize sealD (topD V) n = R at hse hus ⊢
  have hut : (u8c (topD V)).length = 32 := by rw [u8c_length, htl]
  generalize htop : topD V = T at hse hut htl
  by_cases h0 : (n : Int) = 0
  · have hV : V = [] := List.eq_nil_of_length_eq_zero (by omega)
    rw [hV, topD_end (by simp)] at htop
    have htop' : zero32 = T := htop
    subst htop'
    refine ac_enter tabOk (sz := 21) Try.func52 rfl (by rw [Try.ntmps52]; rfl) ?_
    repeat' (first
    | ((with_reducible refine aw_seqk ?_); intro K hK hX)
    | ((with_reducible refine isC_reg ?_); refine aw_prune [0, 1, 2, 3, 4, 5, 12, 13, 14] rfl rfl ?_; with_reducible refine aw_region ?_)
    | ((with_reducible refine isA_call ?_); (first | refine zA ?_ | refine zN ?_); (first | refine c0 (hse) ?_))
    | ((first | with_reducible refine isA_call ?_ | with_reducible refine isA_callv ?_); refine awl_inl tabOk [0, 1, 2, 3, 4, 5, 6, 7, 8, 9, 10, 11, 12, 13, 14, 15, 16, 17, 18, 19, 20] g_none rfl rfl (by unfold Body; kernel_rfl) Try.func95 rfl rfl rfl (szf := 4) (by rw [Try.ntmps95]; rfl) rfl ?_)
    | ((with_reducible refine isC_range ?_); refine aw_range tabOk [0, 1, 2, 3, 4, 5, 6, 7, 8, 9, 10, 11, 12, 13, 14, 15, 16, 17, 18, 19, 20, 21, 22, 23, 24, 25, 26, 27, 28, 29, 30, 31, 32, 33, 34] rfl (by unfold Body; kernel_rfl) Try.func114 rfl (szf := 35) (by rw [Try.ntmps114]; rfl) rfl rfl ?_; intro Lc hLc)
    | ((with_reducible refine isA_callv ?_); refine awl_yield [0, 1, 2, 3, 4, 5, 6, 7, 8, 9, 10, 11, 12, 13, 14, 15, 16, 17, 18, 19, 20, 21, 22, 23, 24, 25, 26, 27, 28, 29, 30, 31, 32, 33, 34] g_none rfl rfl rfl rfl rfl hLc rfl rfl (by kernel_rfl) (by kernel_rfl) ?_)
    | (refine asK_mk hLc rfl rfl rfl ?_)
    | (refine rdK_some rfl rfl rfl ?_)
    | (refine itK_mk (by first | exact .inl rfl | exact .inr rfl) (by exact trivial) rfl rfl rfl rfl ?_; clear hLc)
    | refine stA ?_
    | (refine hK _ _ _ _ ?_; clear hK hX K)
    | (refine hX _ _ _ _ _ (by simp) ?_; clear hK hX K)
    | (first | refine inK_some (by first | exact .inl rfl | exact .inr rfl) (by exact trivial) rfl rfl (ResL.one (ResA.tmp rfl)) ?_ | refine inK_none (by first | exact .inl rfl | exact .inr rfl) (by exact trivial) rfl rfl (ResL.one (ResA.tmp rfl)) ?_))
    refine retK_mk (by first | exact .inl rfl | exact .inr rfl) (by exact ⟨rfl, root_idle, root_idle_b, trivial⟩) rfl (ResL.two (by first | exact ResA.one rfl rfl rfl rfl rfl | exact ResA.agg rfl rfl rfl rfl rfl (by first | exact IsAgg.closed rfl rfl | exact IsAgg.mixed _) | exact ResA.aggr rfl rfl rfl rfl (by first | rfl | with_reducible assumption | (simp <;> fail) | omega | (simp; omega) | assumption)) (by first | exact ResA.one rfl rfl rfl rfl rfl | exact ResA.agg rfl rfl rfl rfl rfl (by first | exact IsAgg.closed rfl rfl | exact IsAgg.mixed _) | exact ResA.aggr rfl rfl rfl rfl (by first | rfl | with_reducible assumption | (simp <;> fail) | omega | (simp; omega) | assumption))) (out_t (frzl_cons (by first | exact frz_c cv_rfl | exact frz_c cv_nil | exact frz_ownW rfl rfl (by first | rfl | with_reducible assumption | (simp <;> fail) | omega | (simp; omega) | assumption) | exact frz_eq (frz_c cv_rfl) (by first | rfl | (simp <;> fail) | fail)) (frzl_cons (by first | exact frz_c cv_rfl | exact frz_c cv_nil | exact frz_ownW rfl rfl (by first | rfl | with_reducible assumption | (simp <;> fail) | omega | (simp; omega) | assumption) | exact frz_eq (frz_c cv_rfl) (by first | rfl | (simp <;> fail) | fail)) frzl_nil)))
  · refine ac_enter tabOk (sz := 21) Try.func52 rfl (by rw [Try.ntmps52]; rfl) ?_
    repeat' (first
    | ((with_reducible refine aw_seqk ?_); intro K hK hX)
    | ((with_reducible refine isC_reg ?_); refine aw_prune [0, 1, 2, 3, 4, 5, 12, 13, 14] rfl rfl ?_; with_reducible refine aw_region ?_)
    | ((first | with_reducible refine isA_call ?_ | with_reducible refine isA_callv ?_); refine awl_inl tabOk [0, 1, 2, 3, 4, 5, 6, 7, 8, 9, 10, 11, 12, 13, 14, 15, 16, 17, 18, 19, 20] g_none rfl rfl (by unfold Body; kernel_rfl) Try.func95 rfl rfl rfl (szf := 4) (by rw [Try.ntmps95]; rfl) rfl ?_)
    | ((with_reducible refine isC_range ?_); refine aw_range tabOk [0, 1, 2, 3, 4, 5, 6, 7, 8, 9, 10, 11, 12, 13, 14, 15, 16, 17, 18, 19, 20, 21, 22, 23, 24, 25, 26, 27, 28, 29, 30, 31, 32, 33, 34] rfl (by unfold Body; kernel_rfl) Try.func114 rfl (szf := 35) (by rw [Try.ntmps114]; rfl) rfl rfl ?_; intro Lc hLc)
    | ((with_reducible refine isA_callv ?_); refine awl_yield [0, 1, 2, 3, 4, 5, 6, 7, 8, 9, 10, 11, 12, 13, 14, 15, 16, 17, 18, 19, 20, 21, 22, 23, 24, 25, 26, 27, 28, 29, 30, 31, 32, 33, 34] g_none rfl rfl rfl rfl rfl hLc rfl rfl (by kernel_rfl) (by kernel_rfl) ?_)
    | (refine asK_mk hLc rfl rfl rfl ?_)
    | (refine rdK_some rfl rfl rfl ?_)
    | (refine itK_mk (by first | exact .inl rfl | exact .inr rfl) (by exact trivial) rfl rfl rfl rfl ?_; clear hLc)
    | refine stA ?_
    | (refine hK _ _ _ _ ?_; clear hK hX K)
    | (refine hX _ _ _ _ _ (by simp) ?_; clear hK hX K)
    | (first | refine inK_some (by first | exact .inl rfl | exact .inr rfl) (by exact trivial) rfl rfl (ResL.one (ResA.tmp rfl)) ?_ | refine inK_none (by first | exact .inl rfl | exact .inr rfl) (by exact trivial) rfl rfl (ResL.one (ResA.tmp rfl)) ?_))
    refine aw_loopo [14] [6] rfl rfl (fun i : Nat => [(14, .c (iv i))]) (fun i => [(6, .row 35 (dc (filD V n i)))]) (fun i => i ≤ n) (fun i => n - i) 0 (by omega) (by refine weak_mk rfl ?_ ?_ rfl <;> (repeat' (first | exact weakE_nil | exact weakH_nil | refine weakE_cons rfl (by first | rfl | (exact congrArg (AObj.row 35) ((zc_dig n).trans (by rw [filD_zero]))) | exact own_eq rfl rfl (by omega) | exact int_eq (by omega) | (simp <;> fail) | (congr 4; omega) | (congr 3; omega) | (congr 2; omega)) rfl ?_ | refine weakH_cons rfl (by first | rfl | (exact congrArg (AObj.row 35) ((zc_dig n).trans (by rw [filD_zero]))) | exact own_eq rfl rfl (by omega) | exact int_eq (by omega) | (simp <;> fail) | (congr 4; omega) | (congr 3; omega) | (congr 2; omega)) rfl ?_))) ?_
    intro i hi K hK hX
    have hfa := filD_all n i hna
    have hfl := filD_length hnl (show i ≤ n by omega)
    have hdf := dc_length hfa hfl
    by_cases hlt : i < n
    · have hd := getD32 hL i (by omega)
      have hda := dig_at hL i (by omega)
      have hst := lay_dc hfa i (by omega) (V.getD i []) (getD32 hna i (by omega))
      rw [filD_set hnl hlt, hng i (by omega)] at hst
      generalize L.getD i [] = d at hd hda hst
      have hud : (u8c d).length = 32 := by rw [u8c_length, hd]
      have hk := node_ok d hd
      have hun : (u8c (nodeD d)).length = 32 := by rw [u8c_length, nodeD_length]
      generalize nodeD d = x at hk hun hst
      repeat' (first
    | ((with_reducible refine aw_seqk ?_); intro K hK hX)
    | ((with_reducible refine isC_reg ?_); refine aw_prune [0, 1, 2, 3, 4, 5, 12, 13, 14] rfl rfl ?_; with_reducible refine aw_region ?_)
    | ((with_reducible refine isA_call ?_); (first | refine zA ?_ | refine zN ?_); (first | refine c0 (hk) ?_))
    | ((with_reducible refine isC_range ?_); refine aw_range tabOk [0, 1, 2, 3, 4, 5, 6, 7, 8, 9, 10, 11, 12, 13, 14, 15, 16, 17, 18, 19, 20, 21, 22, 23, 24, 25, 26, 27, 28, 29, 30, 31, 32, 33, 34] rfl (by unfold Body; kernel_rfl) Try.func114 rfl (szf := 35) (by rw [Try.ntmps114]; rfl) rfl rfl ?_; intro Lc hLc)
    | ((with_reducible refine isA_callv ?_); refine awl_yield [0, 1, 2, 3, 4, 5, 6, 7, 8, 9, 10, 11, 12, 13, 14, 15, 16, 17, 18, 19, 20, 21, 22, 23, 24, 25, 26, 27, 28, 29, 30, 31, 32, 33, 34] g_none rfl rfl rfl rfl rfl hLc rfl rfl (by kernel_rfl) (by kernel_rfl) ?_)
    | (refine asK_mk hLc rfl rfl rfl ?_)
    | (refine rdK_some rfl rfl rfl ?_)
    | (refine itK_mk (by first | exact .inl rfl | exact .inr rfl) (by exact trivial) rfl rfl rfl rfl ?_; clear hLc)
    | (((with_reducible refine isA_any ?_); refine xA ?_); (first | ((with_reducible refine e_load ?_); (first | refine ex_i (s_loadAr tabOk rfl rfl rfl rfl (by first | exact hda | exact whole0 (by first | rfl | omega) | rfl) (by first | rfl | with_reducible assumption | (simp <;> fail) | omega | (simp; omega) | assumption)) ?_ | refine ex_i (s_loadAi tabOk rfl rfl rfl (by first | exact hda | exact whole0 (by first | rfl | omega) | rfl) (by first | rfl | with_reducible assumption | (simp <;> fail) | omega | (simp; omega) | assumption)) ?_)) | ((with_reducible refine e_slice ?_); (first | refine ex_i (s_slArri tabOk rfl rfl rfl rfl (by first | exact Bd.no | exact Bd.yes rfl (by first | with_reducible exact cast_self _ | with_reducible exact cast_lit _ | exact nt (by omega) | rfl)) (by first | exact Bd.no | exact Bd.yes rfl (by first | with_reducible exact cast_self _ | with_reducible exact cast_lit _ | exact nt (by omega) | rfl)) (by first | exact Nat.le_of_ble_eq_true rfl | omega | (simp; omega)) (by first | exact Nat.le_of_ble_eq_true rfl | omega | (simp; omega)) (by decide) (by first | exact hda | exact whole0 (by first | rfl | omega) | rfl) (by first | rfl | with_reducible assumption | (simp <;> fail) | omega | (simp; omega) | assumption)) ?_))))
    | ((with_reducible refine isA_store ?_); (refine awl_store1r tabOk g_none rfl rfl rfl rfl rfl rfl (by first | omega | exact Nat.le_of_ble_eq_true rfl | omega | (simp; omega)) ?_))
    | ((with_reducible refine isA_store ?_); (refine awl_storeAr tabOk g_none rfl rfl rfl (by first | rfl | with_reducible assumption | (simp <;> fail) | omega | (simp; omega) | assumption) rfl (by first | exact Nat.le_of_ble_eq_true rfl | omega | (simp; omega)) (by first | exact hst | exact lay_whole _ _ (by first | rfl | with_reducible assumption | (simp <;> fail) | omega | (simp; omega) | assumption) | rfl) ?_))
    | refine stA ?_
    | (refine hK _ _ _ _ ?_; clear hK hX K)
    | (refine hX _ _ _ _ _ (by simp) ?_; clear hK hX K))
      exact ⟨i + 1, by omega, by omega, weakA⟩
    · have hin : i = n := by omega
      have hff : filD V n i = V := by rw [hin]; exact filD_full hnl
      rw [hff] at hdf ⊢
      repeat' (first
    | ((with_reducible refine aw_seqk ?_); intro K hK hX)
    | ((with_reducible refine isC_reg ?_); refine aw_prune [0, 1, 2, 3, 4, 5, 12, 13, 14] rfl rfl ?_; with_reducible refine aw_region ?_)
    | ((with_reducible refine isC_range ?_); refine aw_range tabOk [0, 1, 2, 3, 4, 5, 6, 7, 8, 9, 10, 11, 12, 13, 14, 15, 16, 17, 18, 19, 20, 21, 22, 23, 24, 25, 26, 27, 28, 29, 30, 31, 32, 33, 34] rfl (by unfold Body; kernel_rfl) Try.func114 rfl (szf := 35) (by rw [Try.ntmps114]; rfl) rfl rfl ?_; intro Lc hLc)
    | ((with_reducible refine isA_callv ?_); refine awl_yield [0, 1, 2, 3, 4, 5, 6, 7, 8, 9, 10, 11, 12, 13, 14, 15, 16, 17, 18, 19, 20, 21, 22, 23, 24, 25, 26, 27, 28, 29, 30, 31, 32, 33, 34] g_none rfl rfl rfl rfl rfl hLc rfl rfl (by kernel_rfl) (by kernel_rfl) ?_)
    | (refine asK_mk hLc rfl rfl rfl ?_)
    | (refine rdK_some rfl rfl rfl ?_)
    | (refine itK_mk (by first | exact .inl rfl | exact .inr rfl) (by exact trivial) rfl rfl rfl rfl ?_; clear hLc)
    | refine stA ?_
    | (refine hK _ _ _ _ ?_; clear hK hX K)
    | (refine hX _ _ _ _ _ (by simp) ?_; clear hK hX K))
      refine aw_loopo [3, 15] [2, 6] rfl rfl (fun p : List (List UInt8) × Nat × List UInt8 => [(3, .own 6 0 p.2.1 32 true)]) (fun p => [(2, .row 35 (u8c p.2.2)), (6, .row 35 (dc p.1))]) (fun p => all32 p.1 ∧ p.1.length = p.2.1 ∧ 1 ≤ p.2.1 ∧ p.2.1 ≤ 4096 ∧ p.2.2.length = 32 ∧ topD p.1 = T) (fun p => p.2.1) (V, n, zero32) ⟨hna, hnl, by dsimp only; omega, by dsimp only; omega, rfl, htop⟩ weakA ?_
      rintro ⟨M, m, X⟩ ⟨hM, hm, hm1, hm2, hX32, hMt⟩ K hK hX
      dsimp only at hM hm hm1 hm2 hX32 hMt hK ⊢
      have hdM := dc_length hM hm
      have huX : (u8c X).length = 32 := by rw [u8c_length, hX32]
      have hd := getD32 hM 0 (by omega)
      have hda := dig_at0 hM 0 (by omega)
      by_cases h1 : 1 < m
      · have hup := above_ok M m hM hm (by omega)
        have hul := upD_length M
        rw [hm] at hul
        have hua := upD_all hM
        rw [topD_up (by omega)] at hMt
        generalize M.getD 0 [] = d at hd hda
        have hud : (u8c d).length = 32 := by rw [u8c_length, hd]
        repeat' (first
    | ((with_reducible refine aw_seqk ?_); intro K hK hX)
    | ((with_reducible refine isC_reg ?_); refine aw_prune [0, 1, 2, 3, 4, 5, 12, 13, 14] rfl rfl ?_; with_reducible refine aw_region ?_)
    | ((with_reducible refine isA_call ?_); (refine yA ?_); (first | refine cF1 (hup) ?_))
    | ((with_reducible refine isC_range ?_); refine aw_range tabOk [0, 1, 2, 3, 4, 5, 6, 7, 8, 9, 10, 11, 12, 13, 14, 15, 16, 17, 18, 19, 20, 21, 22, 23, 24, 25, 26, 27, 28, 29, 30, 31, 32, 33, 34] rfl (by unfold Body; kernel_rfl) Try.func114 rfl (szf := 35) (by rw [Try.ntmps114]; rfl) rfl rfl ?_; intro Lc hLc)
    | ((with_reducible refine isA_callv ?_); refine awl_yield [0, 1, 2, 3, 4, 5, 6, 7, 8, 9, 10, 11, 12, 13, 14, 15, 16, 17, 18, 19, 20, 21, 22, 23, 24, 25, 26, 27, 28, 29, 30, 31, 32, 33, 34] g_none rfl rfl rfl rfl rfl hLc rfl rfl (by kernel_rfl) (by kernel_rfl) ?_)
    | (refine asK_mk hLc rfl rfl rfl ?_)
    | (refine rdK_some rfl rfl rfl ?_)
    | (refine itK_mk (by first | exact .inl rfl | exact .inr rfl) (by exact trivial) rfl rfl rfl rfl ?_; clear hLc)
    | (((with_reducible refine isA_any ?_); refine xA ?_); (first | ((with_reducible refine e_load ?_); (first | refine ex_i (s_loadAr tabOk rfl rfl rfl rfl (by first | exact hda | exact whole0 (by first | rfl | omega) | rfl) (by first | rfl | with_reducible assumption | (simp <;> fail) | omega | (simp; omega) | assumption)) ?_ | refine ex_i (s_loadAi tabOk rfl rfl rfl (by first | exact hda | exact whole0 (by first | rfl | omega) | rfl) (by first | rfl | with_reducible assumption | (simp <;> fail) | omega | (simp; omega) | assumption)) ?_)) | ((with_reducible refine e_slice ?_); (first | refine ex_i (s_slArri tabOk rfl rfl rfl rfl (by first | exact Bd.no | exact Bd.yes rfl (by first | with_reducible exact cast_self _ | with_reducible exact cast_lit _ | exact nt (by omega) | rfl)) (by first | exact Bd.no | exact Bd.yes rfl (by first | with_reducible exact cast_self _ | with_reducible exact cast_lit _ | exact nt (by omega) | rfl)) (by first | exact Nat.le_of_ble_eq_true rfl | omega | (simp; omega)) (by first | exact Nat.le_of_ble_eq_true rfl | omega | (simp; omega)) (by decide) (by first | exact hda | exact whole0 (by first | rfl | omega) | rfl) (by first | rfl | with_reducible assumption | (simp <;> fail) | omega | (simp; omega) | assumption)) ?_))))
    | refine stA ?_
    | (refine hK _ _ _ _ ?_; clear hK hX K)
    | (refine hX _ _ _ _ _ (by simp) ?_; clear hK hX K))
        exact ⟨(upD M, (m + 1) / 2, d), ⟨hua, hul, by dsimp only; omega, by dsimp only; omega, hd, hMt⟩, by dsimp only; omega, (by refine weak_ren [0, 1, 2, 3, 4, 5, 7] rfl rfl ?_ ?_ rfl rfl <;> (repeat' (first | exact weakER_nil | exact weakHR_nil | refine weakER_cons rfl (by first | rfl | exact own_eq rfl rfl (by omega) | exact int_eq (by omega) | (simp <;> fail) | (congr 4; omega) | (congr 3; omega) | (congr 2; omega)) rfl ?_ | refine weakHR_cons rfl (by first | rfl | exact own_eq rfl rfl (by omega) | exact int_eq (by omega) | (simp <;> fail) | (congr 4; omega) | (congr 3; omega) | (congr 2; omega)) rfl ?_)))⟩
      · rw [topD_end (by omega)] at hMt
        have hMt' : M.getD 0 [] = T := by
          rw [← hMt]
          obtain ⟨a, rfl⟩ := List.length_eq_one_iff.1 (hm.trans (show m = 1 by omega))
          rfl
        rw [hMt'] at hd hda
        repeat' (first
    | ((with_reducible refine aw_seqk ?_); intro K hK hX)
    | ((with_reducible refine isC_reg ?_); refine aw_prune [0, 1, 2, 3, 4, 5, 12, 13, 14] rfl rfl ?_; with_reducible refine aw_region ?_)
    | ((with_reducible refine isA_call ?_); (first | refine zA ?_ | refine zN ?_); (first | refine c0 (hse) ?_))
    | ((with_reducible refine isC_range ?_); refine aw_range tabOk [0, 1, 2, 3, 4, 5, 6, 7, 8, 9, 10, 11, 12, 13, 14, 15, 16, 17, 18, 19, 20, 21, 22, 23, 24, 25, 26, 27, 28, 29, 30, 31, 32, 33, 34] rfl (by unfold Body; kernel_rfl) Try.func114 rfl (szf := 35) (by rw [Try.ntmps114]; rfl) rfl rfl ?_; intro Lc hLc)
    | ((with_reducible refine isA_callv ?_); refine awl_yield [0, 1, 2, 3, 4, 5, 6, 7, 8, 9, 10, 11, 12, 13, 14, 15, 16, 17, 18, 19, 20, 21, 22, 23, 24, 25, 26, 27, 28, 29, 30, 31, 32, 33, 34] g_none rfl rfl rfl rfl rfl hLc rfl rfl (by kernel_rfl) (by kernel_rfl) ?_)
    | (refine asK_mk hLc rfl rfl rfl ?_)
    | (refine rdK_some rfl rfl rfl ?_)
    | (refine itK_mk (by first | exact .inl rfl | exact .inr rfl) (by exact trivial) rfl rfl rfl rfl ?_; clear hLc)
    | (((with_reducible refine isA_any ?_); refine xA ?_); (first | ((with_reducible refine e_load ?_); (first | refine ex_i (s_loadAr tabOk rfl rfl rfl rfl (by first | exact hda | exact whole0 (by first | rfl | omega) | rfl) (by first | rfl | with_reducible assumption | (simp <;> fail) | omega | (simp; omega) | assumption)) ?_ | refine ex_i (s_loadAi tabOk rfl rfl rfl (by first | exact hda | exact whole0 (by first | rfl | omega) | rfl) (by first | rfl | with_reducible assumption | (simp <;> fail) | omega | (simp; omega) | assumption)) ?_)) | ((with_reducible refine e_slice ?_); (first | refine ex_i (s_slArri tabOk rfl rfl rfl rfl (by first | exact Bd.no | exact Bd.yes rfl (by first | with_reducible exact cast_self _ | with_reducible exact cast_lit _ | exact nt (by omega) | rfl)) (by first | exact Bd.no | exact Bd.yes rfl (by first | with_reducible exact cast_self _ | with_reducible exact cast_lit _ | exact nt (by omega) | rfl)) (by first | exact Nat.le_of_ble_eq_true rfl | omega | (simp; omega)) (by first | exact Nat.le_of_ble_eq_true rfl | omega | (simp; omega)) (by decide) (by first | exact hda | exact whole0 (by first | rfl | omega) | rfl) (by first | rfl | with_reducible assumption | (simp <;> fail) | omega | (simp; omega) | assumption)) ?_))))
    | refine stA ?_
    | (refine hK _ _ _ _ ?_; clear hK hX K)
    | (refine hX _ _ _ _ _ (by simp) ?_; clear hK hX K))
        refine retK_mk (by first | exact .inl rfl | exact .inr rfl) (by exact ⟨rfl, root_idle, root_idle_b, trivial⟩) rfl (ResL.two (by first | exact ResA.one rfl rfl rfl rfl rfl | exact ResA.agg rfl rfl rfl rfl rfl (by first | exact IsAgg.closed rfl rfl | exact IsAgg.mixed _) | exact ResA.aggr rfl rfl rfl rfl (by first | rfl | with_reducible assumption | (simp <;> fail) | omega | (simp; omega) | assumption)) (by first | exact ResA.one rfl rfl rfl rfl rfl | exact ResA.agg rfl rfl rfl rfl rfl (by first | exact IsAgg.closed rfl rfl | exact IsAgg.mixed _) | exact ResA.aggr rfl rfl rfl rfl (by first | rfl | with_reducible assumption | (simp <;> fail) | omega | (simp; omega) | assumption))) (out_t (frzl_cons (by first | exact frz_c cv_rfl | exact frz_c cv_nil | exact frz_ownW rfl rfl (by first | rfl | with_reducible assumption | (simp <;> fail) | omega | (simp; omega) | assumption) | exact frz_eq (frz_c cv_rfl) (by first | rfl | (simp <;> fail) | fail)) (frzl_cons (by first | exact frz_c cv_rfl | exact frz_c cv_nil | exact frz_ownW rfl rfl (by first | rfl | with_reducible assumption | (simp <;> fail) | omega | (simp; omega) | assumption) | exact frz_eq (frz_c cv_rfl) (by first | rfl | (simp <;> fail) | fail)) frzl_nil)))
end Go.Proofs.Ytgofigkhdjjlmaa
/-
  Heights, proofs of the reference, comparison of proofs (walk).
-/
set_option linter.unusedVariables false
set_option linter.unusedSimpArgs false
namespace Go.Proofs.Ytgofigkhdjjlmaa
open Go Go.RowKit Go.Av
set_option maxRecDepth 100000
def hgt (n : Nat) : Nat := if h : n ≤ 1 then 0 else hgt ((n + 1) / 2) + 1
termination_by n
decreasing_by omega
theorem hgt_end {n : Nat} (h : n ≤ 1) : hgt n = 0 := by rw [hgt, dif_pos h]
theorem hgt_up {n : Nat} (h : ¬ n ≤ 1) : hgt n = hgt ((n + 1) / 2) + 1 := by rw [hgt, dif_neg h]
def heightP (n : Int) : Nat := if n < 1 ∨ 4096 < n then 0 else hgt n.toNat
attribute [local irreducible] Still Adds AWL AW Drw DrwE EStep AC AWR Weak Frz Src RetK Out InK ItK AsK RdK permute
attribute [local simp] u8c_take u8c_drop u8c_app
set_option maxHeartbeats 4000000 in
theorem height_ok (i : Int) : AC Try.prog 54 [iv i] (.c (iv (heightP i))) [] 0 := by
  unfold heightP
  by_cases b1 : i < 1
  · rw [if_pos (.inl b1)]
    refine ac_enter tabOk (sz := 18) Try.func54 rfl (by rw [Try.ntmps54]; rfl) ?_
    repeat' (first
    | ((with_reducible refine aw_seqk ?_); intro K hK hX)
    | ((with_reducible refine isC_reg ?_); refine aw_prune [0, 2, 3] rfl rfl ?_; with_reducible refine aw_region ?_)
    | refine stA ?_
    | (refine hK _ _ _ _ ?_; clear hK hX K)
    | (refine hX _ _ _ _ _ (by simp) ?_; clear hK hX K))
    refine retK_mk (by first | exact .inl rfl | exact .inr rfl) (by exact trivial) rfl (ResL.one (ResA.tmp rfl)) (by first | exact out_c (by first | exact frz_c cv_rfl | exact frz_c cv_nil | exact frz_ownW rfl rfl (by first | rfl | with_reducible assumption | (simp <;> fail) | omega | (simp; omega) | assumption) | exact frz_eq (frz_c cv_rfl) (by first | rfl | (simp <;> fail) | fail)) | exact out_own rfl rfl)
  · by_cases b2 : 4096 < i
    · rw [if_pos (.inr b2)]
      refine ac_enter tabOk (sz := 18) Try.func54 rfl (by rw [Try.ntmps54]; rfl) ?_
      repeat' (first
    | ((with_reducible refine aw_seqk ?_); intro K hK hX)
    | ((with_reducible refine isC_reg ?_); refine aw_prune [0, 2, 3] rfl rfl ?_; with_reducible refine aw_region ?_)
    | refine stA ?_
    | (refine hK _ _ _ _ ?_; clear hK hX K)
    | (refine hX _ _ _ _ _ (by simp) ?_; clear hK hX K))
      refine retK_mk (by first | exact .inl rfl | exact .inr rfl) (by exact trivial) rfl (ResL.one (ResA.tmp rfl)) (by first | exact out_c (by first | exact frz_c cv_rfl | exact frz_c cv_nil | exact frz_ownW rfl rfl (by first | rfl | with_reducible assumption | (simp <;> fail) | omega | (simp; omega) | assumption) | exact frz_eq (frz_c cv_rfl) (by first | rfl | (simp <;> fail) | fail)) | exact out_own rfl rfl)
    · rw [if_neg (by omega)]
      obtain ⟨N, rfl⟩ : ∃ N : Nat, i = N := ⟨i.toNat, by omega⟩
      rw [Int.toNat_natCast]
      generalize hH : hgt N = H
      refine ac_enter tabOk (sz := 18) Try.func54 rfl (by rw [Try.ntmps54]; rfl) ?_
      repeat' (first
    | ((with_reducible refine aw_seqk ?_); intro K hK hX)
    | ((with_reducible refine isC_reg ?_); refine aw_prune [0, 2, 3] rfl rfl ?_; with_reducible refine aw_region ?_)
    | refine stA ?_
    | (refine hK _ _ _ _ ?_; clear hK hX K)
    | (refine hX _ _ _ _ _ (by simp) ?_; clear hK hX K))
      refine aw_loopo [0, 3] [] rfl rfl (fun p : Nat × Nat => [(0, .c (iv p.1)), (3, .c (iv p.2))]) (fun _ => []) (fun p => 1 ≤ p.1 ∧ p.1 ≤ 4096 ∧ p.1 + p.2 ≤ 5000 ∧ p.2 + hgt p.1 = H) (fun p => p.1) (N, 0) ⟨by dsimp only; omega, by dsimp only; omega, by dsimp only; omega, by simpa using hH⟩ weakA ?_
      rintro ⟨m, k⟩ ⟨h1, h2, h3, h4⟩ K hK hX
      dsimp only at h1 h2 h3 h4 hK ⊢
      by_cases hm : m ≤ 1
      · rw [hgt_end hm, Nat.add_zero] at h4
        repeat' (first
    | ((with_reducible refine aw_seqk ?_); intro K hK hX)
    | ((with_reducible refine isC_reg ?_); refine aw_prune [0, 2, 3] rfl rfl ?_; with_reducible refine aw_region ?_)
    | refine stA ?_
    | (refine hK _ _ _ _ ?_; clear hK hX K)
    | (refine hX _ _ _ _ _ (by simp) ?_; clear hK hX K))
        rw [← h4]
        refine retK_mk (by first | exact .inl rfl | exact .inr rfl) (by exact trivial) rfl (ResL.one (ResA.tmp rfl)) (by first | exact out_c (by first | exact frz_c cv_rfl | exact frz_c cv_nil | exact frz_ownW rfl rfl (by first | rfl | with_reducible assumption | (simp <;> fail) | omega | (simp; omega) | assumption) | exact frz_eq (frz_c cv_rfl) (by first | rfl | (simp <;> fail) | fail)) | exact out_own rfl rfl)
      · rw [hgt_up hm] at h4
        repeat' (first
    | ((with_reducible refine aw_seqk ?_); intro K hK hX)
    | ((with_reducible refine isC_reg ?_); refine aw_prune [0, 2, 3] rfl rfl ?_; with_reducible refine aw_region ?_)
    | refine stA ?_
    | (refine hK _ _ _ _ ?_; clear hK hX K)
    | (refine hX _ _ _ _ _ (by simp) ?_; clear hK hX K))
        exact ⟨((m + 1) / 2, k + 1), ⟨by dsimp only; omega, by dsimp only; omega, by dsimp only; omega, by dsimp only; omega⟩, by dsimp only; omega, weakA⟩
set_option maxHeartbeats 4000000 in
theorem rheight_ok (i : Int) : AC Try.prog 55 [iv i] (.c (iv (heightP i))) [] 0 := by
  unfold heightP
  by_cases b1 : i < 1
  · rw [if_pos (.inl b1)]
    refine ac_enter tabOk (sz := 18) Try.func55 rfl (by rw [Try.ntmps55]; rfl) ?_
    repeat' (first
    | ((with_reducible refine aw_seqk ?_); intro K hK hX)
    | ((with_reducible refine isC_reg ?_); refine aw_prune [0, 2, 3] rfl rfl ?_; with_reducible refine aw_region ?_)
    | refine stA ?_
    | (refine hK _ _ _ _ ?_; clear hK hX K)
    | (refine hX _ _ _ _ _ (by simp) ?_; clear hK hX K))
    refine retK_mk (by first | exact .inl rfl | exact .inr rfl) (by exact trivial) rfl (ResL.one (ResA.tmp rfl)) (by first | exact out_c (by first | exact frz_c cv_rfl | exact frz_c cv_nil | exact frz_ownW rfl rfl (by first | rfl | with_reducible assumption | (simp <;> fail) | omega | (simp; omega) | assumption) | exact frz_eq (frz_c cv_rfl) (by first | rfl | (simp <;> fail) | fail)) | exact out_own rfl rfl)
  · by_cases b2 : 4096 < i
    · rw [if_pos (.inr b2)]
      refine ac_enter tabOk (sz := 18) Try.func55 rfl (by rw [Try.ntmps55]; rfl) ?_
      repeat' (first
    | ((with_reducible refine aw_seqk ?_); intro K hK hX)
    | ((with_reducible refine isC_reg ?_); refine aw_prune [0, 2, 3] rfl rfl ?_; with_reducible refine aw_region ?_)
    | refine stA ?_
    | (refine hK _ _ _ _ ?_; clear hK hX K)
    | (refine hX _ _ _ _ _ (by simp) ?_; clear hK hX K))
      refine retK_mk (by first | exact .inl rfl | exact .inr rfl) (by exact trivial) rfl (ResL.one (ResA.tmp rfl)) (by first | exact out_c (by first | exact frz_c cv_rfl | exact frz_c cv_nil | exact frz_ownW rfl rfl (by first | rfl | with_reducible assumption | (simp <;> fail) | omega | (simp; omega) | assumption) | exact frz_eq (frz_c cv_rfl) (by first | rfl | (simp <;> fail) | fail)) | exact out_own rfl rfl)
    · rw [if_neg (by omega)]
      obtain ⟨N, rfl⟩ : ∃ N : Nat, i = N := ⟨i.toNat, by omega⟩
      rw [Int.toNat_natCast]
      generalize hH : hgt N = H
      refine ac_enter tabOk (sz := 18) Try.func55 rfl (by rw [Try.ntmps55]; rfl) ?_
      repeat' (first
    | ((with_reducible refine aw_seqk ?_); intro K hK hX)
    | ((with_reducible refine isC_reg ?_); refine aw_prune [0, 2, 3] rfl rfl ?_; with_reducible refine aw_region ?_)
    | refine stA ?_
    | (refine hK _ _ _ _ ?_; clear hK hX K)
    | (refine hX _ _ _ _ _ (by simp) ?_; clear hK hX K))
      refine aw_loopo [0, 3] [] rfl rfl (fun p : Nat × Nat => [(0, .c (iv p.1)), (3, .c (iv p.2))]) (fun _ => []) (fun p => 1 ≤ p.1 ∧ p.1 ≤ 4096 ∧ p.1 + p.2 ≤ 5000 ∧ p.2 + hgt p.1 = H) (fun p => p.1) (N, 0) ⟨by dsimp only; omega, by dsimp only; omega, by dsimp only; omega, by simpa using hH⟩ weakA ?_
      rintro ⟨m, k⟩ ⟨h1, h2, h3, h4⟩ K hK hX
      dsimp only at h1 h2 h3 h4 hK ⊢
      by_cases hm : m ≤ 1
      · rw [hgt_end hm, Nat.add_zero] at h4
        repeat' (first
    | ((with_reducible refine aw_seqk ?_); intro K hK hX)
    | ((with_reducible refine isC_reg ?_); refine aw_prune [0, 2, 3] rfl rfl ?_; with_reducible refine aw_region ?_)
    | refine stA ?_
    | (refine hK _ _ _ _ ?_; clear hK hX K)
    | (refine hX _ _ _ _ _ (by simp) ?_; clear hK hX K))
        rw [← h4]
        refine retK_mk (by first | exact .inl rfl | exact .inr rfl) (by exact trivial) rfl (ResL.one (ResA.tmp rfl)) (by first | exact out_c (by first | exact frz_c cv_rfl | exact frz_c cv_nil | exact frz_ownW rfl rfl (by first | rfl | with_reducible assumption | (simp <;> fail) | omega | (simp; omega) | assumption) | exact frz_eq (frz_c cv_rfl) (by first | rfl | (simp <;> fail) | fail)) | exact out_own rfl rfl)
      · rw [hgt_up hm] at h4
        repeat' (first
    | ((with_reducible refine aw_seqk ?_); intro K hK hX)
    | ((with_reducible refine isC_reg ?_); refine aw_prune [0, 2, 3] rfl rfl ?_; with_reducible refine aw_region ?_)
    | refine stA ?_
    | (refine hK _ _ _ _ ?_; clear hK hX K)
    | (refine hX _ _ _ _ _ (by simp) ?_; clear hK hX K))
        exact ⟨((m + 1) / 2, k + 1), ⟨by dsimp only; omega, by dsimp only; omega, by dsimp only; omega, by dsimp only; omega⟩, by dsimp only; omega, weakA⟩
set_option maxHeartbeats 4000000 in
theorem rprove_big (L : List (List UInt8)) (i : Int) (n : Nat) (hL : all32 L) (hn : L.length = n) (hnn : 4096 < n) : AC Try.prog 57 [.sl 32 n (dc L), iv i] (.tup [.c (.agg [iv 0, iv 0, .v (.slice none 0 0)]), .c (iv 8)]) [] 0 := by
  have b1 : (4096 : Int) < (n : Int) := by omega
  refine ac_enter tabOk (sz := 76) Try.func57 rfl (by rw [Try.ntmps57]; rfl) ?_
  repeat' (first
    | ((with_reducible refine aw_seqk ?_); intro K hK hX)
    | ((with_reducible refine isC_reg ?_); refine aw_prune [0, 1, 4, 5, 6, 7, 8] rfl rfl ?_; with_reducible refine aw_region ?_)
    | ((with_reducible refine isC_draw ?_); refine aw_prune [0, 1, 4, 5, 6, 7, 8] rfl rfl ?_; refine aw_drwF [] ?_)
    | refine stA ?_
    | refine stD ?_
    | (refine hK _ _ _ _ ?_; clear hK hX K)
    | (refine hX _ _ _ _ _ (by simp) ?_; clear hK hX K))
  refine retK_mk (by first | exact .inl rfl | exact .inr rfl) (by exact trivial) rfl (ResL.two (by first | exact ResA.one rfl rfl rfl rfl rfl | exact ResA.agg rfl rfl rfl rfl rfl (by first | exact IsAgg.closed rfl rfl | exact IsAgg.mixed _) | exact ResA.aggr rfl rfl rfl rfl (by first | rfl | with_reducible assumption | (simp <;> fail) | omega | (simp; omega) | assumption)) (ResA.tmp rfl)) (out_t (frzl_cons (by first | exact frz_c cv_rfl | exact frz_c cv_nil | exact frz_ownW rfl rfl (by first | rfl | with_reducible assumption | (simp <;> fail) | omega | (simp; omega) | assumption) | exact frz_eq (frz_c cv_rfl) (by first | rfl | (simp <;> fail) | fail)) (frzl_cons (by first | exact frz_c cv_rfl | exact frz_c cv_nil | exact frz_ownW rfl rfl (by first | rfl | with_reducible assumption | (simp <;> fail) | omega | (simp; omega) | assumption) | exact frz_eq (frz_c cv_rfl) (by first | rfl | (simp <;> fail) | fail)) frzl_nil)))
set_option maxHeartbeats 4000000 in
theorem rprove_out (L : List (List UInt8)) (i : Int) (n : Nat) (hL : all32 L) (hn : L.length = n) (hnn : n ≤ 4096) (hi : i < 0 ∨ (n : Int) ≤ i) : AC Try.prog 57 [.sl 32 n (dc L), iv i] (.tup [.c (.agg [iv 0, iv 0, .v (.slice none 0 0)]), .c (iv 10)]) [] 0 := by
  have b1 : ¬ (4096 : Int) < (n : Int) := by omega
  by_cases b2 : i < 0
  · clear hi
    refine ac_enter tabOk (sz := 76) Try.func57 rfl (by rw [Try.ntmps57]; rfl) ?_
    repeat' (first
    | ((with_reducible refine aw_seqk ?_); intro K hK hX)
    | ((with_reducible refine isC_reg ?_); refine aw_prune [0, 1, 4, 5, 6, 7, 8] rfl rfl ?_; with_reducible refine aw_region ?_)
    | ((with_reducible refine isC_draw ?_); refine aw_prune [0, 1, 4, 5, 6, 7, 8] rfl rfl ?_; refine aw_drwF [] ?_)
    | refine stA ?_
    | refine stD ?_
    | (refine hK _ _ _ _ ?_; clear hK hX K)
    | (refine hX _ _ _ _ _ (by simp) ?_; clear hK hX K))
    refine retK_mk (by first | exact .inl rfl | exact .inr rfl) (by exact trivial) rfl (ResL.two (by first | exact ResA.one rfl rfl rfl rfl rfl | exact ResA.agg rfl rfl rfl rfl rfl (by first | exact IsAgg.closed rfl rfl | exact IsAgg.mixed _) | exact ResA.aggr rfl rfl rfl rfl (by first | rfl | with_reducible assumption | (simp <;> fail) | omega | (simp; omega) | assumption)) (ResA.tmp rfl)) (out_t (frzl_cons (by first | exact frz_c cv_rfl | exact frz_c cv_nil | exact frz_ownW rfl rfl (by first | rfl | with_reducible assumption | (simp <;> fail) | omega | (simp; omega) | assumption) | exact frz_eq (frz_c cv_rfl) (by first | rfl | (simp <;> fail) | fail)) (frzl_cons (by first | exact frz_c cv_rfl | exact frz_c cv_nil | exact frz_ownW rfl rfl (by first | rfl | with_reducible assumption | (simp <;> fail) | omega | (simp; omega) | assumption) | exact frz_eq (frz_c cv_rfl) (by first | rfl | (simp <;> fail) | fail)) frzl_nil)))
  · have b3 : (n : Int) ≤ i := by omega
    clear hi
    refine ac_enter tabOk (sz := 76) Try.func57 rfl (by rw [Try.ntmps57]; rfl) ?_
    repeat' (first
    | ((with_reducible refine aw_seqk ?_); intro K hK hX)
    | ((with_reducible refine isC_reg ?_); refine aw_prune [0, 1, 4, 5, 6, 7, 8] rfl rfl ?_; with_reducible refine aw_region ?_)
    | ((with_reducible refine isC_draw ?_); refine aw_prune [0, 1, 4, 5, 6, 7, 8] rfl rfl ?_; refine aw_drwF [] ?_)
    | refine stA ?_
    | refine stD ?_
    | (refine hK _ _ _ _ ?_; clear hK hX K)
    | (refine hX _ _ _ _ _ (by simp) ?_; clear hK hX K))
    refine retK_mk (by first | exact .inl rfl | exact .inr rfl) (by exact trivial) rfl (ResL.two (by first | exact ResA.one rfl rfl rfl rfl rfl | exact ResA.agg rfl rfl rfl rfl rfl (by first | exact IsAgg.closed rfl rfl | exact IsAgg.mixed _) | exact ResA.aggr rfl rfl rfl rfl (by first | rfl | with_reducible assumption | (simp <;> fail) | omega | (simp; omega) | assumption)) (ResA.tmp rfl)) (out_t (frzl_cons (by first | exact frz_c cv_rfl | exact frz_c cv_nil | exact frz_ownW rfl rfl (by first | rfl | with_reducible assumption | (simp <;> fail) | omega | (simp; omega) | assumption) | exact frz_eq (frz_c cv_rfl) (by first | rfl | (simp <;> fail) | fail)) (frzl_cons (by first | exact frz_c cv_rfl | exact frz_c cv_nil | exact frz_ownW rfl rfl (by first | rfl | with_reducible assumption | (simp <;> fail) | omega | (simp; omega) | assumption) | exact frz_eq (frz_c cv_rfl) (by first | rfl | (simp <;> fail) | fail)) frzl_nil)))
theorem keep2 {h : Heap} {k n : Nat} {T : TypeId} {cs : List CV} (hk : Nat.blt k n = true) (h1 : lk h k = some (.row T cs)) : KeepH [k] h [(0, .row T cs)] n := keep1 hk h1
set_option maxHeartbeats 4000000 in
theorem rprove_own (L : List (List UInt8)) (I : Nat) (n : Nat) (hL : all32 L) (hn : L.length = n) (hnn : n ≤ 4096) (hI : I < n) : AC Try.prog 57 [.sl 32 n (dc L), iv I] (.tup [.agg [.c (iv I), .c (iv n), .own 0 0 (sibD (L.map nodeD) I).length 32 true], .c (iv 0)]) [(0, .row 35 (dc (sibD (L.map nodeD) I)))] 1 := by
  have hdl := dc_length hL hn
  have b1 : ¬ (4096 : Int) < (n : Int) := by omega
  have b2 : ¬ (I : Int) < 0 := by omega
  have b3 : ¬ (n : Int) ≤ (I : Int) := by omega
  have hna := nodes_all L
  have hng := fun i => nodes_get (L := L) (i := i)
  have hnl : (L.map nodeD).length = n := by simp [hn]
  generalize L.map nodeD = V at hna hng hnl ⊢
  generalize hS : sibD V I = S0
  refine ac_enter tabOk (sz := 76) Try.func57 rfl (by rw [Try.ntmps57]; rfl) ?_
  repeat' (first
    | ((with_reducible refine aw_seqk ?_); intro K hK hX)
    | ((with_reducible refine isC_reg ?_); refine aw_prune [0, 1, 4, 5, 6, 7, 8] rfl rfl ?_; with_reducible refine aw_region ?_)
    | ((with_reducible refine isC_draw ?_); refine aw_prune [0, 1, 4, 5, 6, 7, 8] rfl rfl ?_; refine aw_drwF [] ?_)
    | ((with_reducible refine isA_store ?_); refine awl_storeA tabOk g_none rfl rfl rfl (by first | exact Parts.mixed _ | exact Parts.closed _) (by rfl) (by rfl) rfl (Nat.le_of_ble_eq_true rfl) (by rfl) ?_)
    | refine stA ?_
    | refine stD ?_
    | (refine hK _ _ _ _ ?_; clear hK hX K)
    | (refine hX _ _ _ _ _ (by simp) ?_; clear hK hX K))
  refine aw_nilown 7 35 32 rfl ?_
  refine aw_loopk 3 (fun i : Nat => [(0, .c (.sl 32 n (dc L))), (1, .c (iv I)), (4, .ref 0 0), (5, .c (iv 0)), (6, .ref 1 0), (7, .own 2 0 i 32 true), (8, .c (iv i))]) (fun i => [(0, .blk 54 [.c (iv 0), .c (iv 0), .c (.v (.slice none 0 0))]), (1, .blk 54 [.c (iv I), .c (iv n), .c (.v (.slice none 0 0))]), (2, .row 35 (u8c (V.take i).flatten))]) [] (fun i => i ≤ n) (fun i => n - i) 0 (by omega) weakA ?_
  intro i hi K hK hX
  have hli := take_flat_len hna (show i ≤ V.length by omega)
  by_cases hlt : i < n
  · have hd := getD32 hL i (by omega)
    have hda := dig_at hL i (by omega)
    have htf := take_dc (L := V) (i := i) (by omega) (hng i (by omega))
    generalize L.getD i [] = d at hd hda htf
    have hud : (u8c d).length = 32 := by rw [u8c_length, hd]
    have hk := rnode_ok d hd
    have hun : (u8c (nodeD d)).length = 32 := by rw [u8c_length, nodeD_length]
    generalize nodeD d = x at hk hun htf
    repeat' (first
    | ((with_reducible refine aw_seqk ?_); intro K hK hX)
    | ((with_reducible refine isC_reg ?_); refine aw_prune [0, 1, 4, 5, 6, 7, 8] rfl rfl ?_; with_reducible refine aw_region ?_)
    | ((with_reducible refine isC_draw ?_); refine aw_prune [0, 1, 4, 5, 6, 7, 8] rfl rfl ?_; refine aw_drwE [] ?_)
    | ((first | with_reducible refine isA_call ?_ | with_reducible refine isE_call ?_); (first | refine zA ?_ | refine zN ?_ | refine zE ?_); (first | refine c0 (hk) ?_))
    | ((first | ((with_reducible refine isA_any ?_); refine xA ?_) | ((with_reducible refine isEk_any ?_); refine xE ?_)); (first | ((with_reducible refine e_load ?_); (first | refine ex_i (s_loadAr tabOk rfl rfl rfl rfl (by first | exact hda | exact whole0 (by first | rfl | omega) | rfl) (by first | rfl | with_reducible assumption | (simp <;> fail) | omega | (simp; omega) | assumption)) ?_ | refine ex_i (s_loadAi tabOk rfl rfl rfl (by first | exact hda | exact whole0 (by first | rfl | omega) | rfl) (by first | rfl | with_reducible assumption | (simp <;> fail) | omega | (simp; omega) | assumption)) ?_)) | ((with_reducible refine e_slice ?_); (first | refine ex_i (s_slArri tabOk rfl rfl rfl rfl (by first | exact Bd.no | exact Bd.yes rfl (by first | with_reducible exact cast_self _ | with_reducible exact cast_lit _ | exact nt (by omega) | rfl)) (by first | exact Bd.no | exact Bd.yes rfl (by first | with_reducible exact cast_self _ | with_reducible exact cast_lit _ | exact nt (by omega) | rfl)) (by first | exact Nat.le_of_ble_eq_true rfl | omega | (simp; omega)) (by first | exact Nat.le_of_ble_eq_true rfl | omega | (simp; omega)) (by decide) (by first | exact hda | exact whole0 (by first | rfl | omega) | rfl) (by first | rfl | with_reducible assumption | (simp <;> fail) | omega | (simp; omega) | assumption)) ?_))))
    | refine stA ?_
    | refine stE ?_
    | (refine hK _ _ _ _ ?_; clear hK hX K)
    | (refine hX _ _ _ _ _ (by simp) ?_; clear hK hX K))
    exact ⟨i + 1, by omega, by omega, (by refine weak_ren [0, 1, 4] rfl rfl ?_ ?_ rfl rfl <;> (repeat' (first | exact weakER_nil | exact weakHR_nil | refine weakER_cons rfl (by first | rfl | (exact congrArg (AObj.row 35) htf) | exact own_eq rfl rfl (by omega) | exact int_eq (by omega) | (simp <;> fail) | (congr 4; omega) | (congr 3; omega) | (congr 2; omega)) rfl ?_ | refine weakHR_cons rfl (by first | rfl | (exact congrArg (AObj.row 35) htf) | exact own_eq rfl rfl (by omega) | exact int_eq (by omega) | (simp <;> fail) | (congr 4; omega) | (congr 3; omega) | (congr 2; omega)) rfl ?_)))⟩
  · have hin : i = n := by omega
    have hfl : V.take i = V := take_all (by omega)
    rw [hfl] at hli ⊢
    repeat' (first
    | ((with_reducible refine aw_seqk ?_); intro K hK hX)
    | ((with_reducible refine isC_reg ?_); refine aw_prune [0, 1, 4, 5, 6, 7, 8] rfl rfl ?_; with_reducible refine aw_region ?_)
    | ((with_reducible refine isC_draw ?_); refine aw_prune [0, 1, 4, 5, 6, 7, 8] rfl rfl ?_; refine aw_drwF [] ?_)
    | refine stA ?_
    | refine stD ?_
    | (refine hK _ _ _ _ ?_; clear hK hX K)
    | (refine hX _ _ _ _ _ (by simp) ?_; clear hK hX K))
    refine aw_nilcell 1 2 35 32 rfl rfl rfl rfl ?_
    refine aw_loopk 4 (fun p : List (List UInt8) × Nat × Nat × List (List UInt8) × Nat => [(0, .c (.sl 32 n (dc L))), (1, .c (iv p.2.2.1)), (4, .ref 0 0), (5, .c (iv 0)), (6, .ref 1 0), (7, .own 2 0 p.2.1 32 true)]) (fun p => [(0, .blk 54 [.c (iv 0), .c (iv 0), .c (.v (.slice none 0 0))]), (1, .blk 54 [.c (iv I), .c (iv n), .own 3 0 p.2.2.2.2 32 true]), (2, .row 35 (u8c p.1.flatten)), (3, .row 35 (u8c p.2.2.2.1.flatten))]) [] (fun p => all32 p.1 ∧ all32 p.2.2.2.1 ∧ p.1.length = p.2.1 ∧ p.2.2.2.1.length = p.2.2.2.2 ∧ p.2.1 ≤ 4096 ∧ p.2.2.1 < p.2.1 ∧ p.2.1 + p.2.2.2.2 ≤ 5000 ∧ p.2.2.2.1 ++ sibD p.1 p.2.2.1 = S0) (fun p => p.2.1) (V, n, I, [], 0) ⟨hna, (fun d hd => by cases hd), hnl, rfl, by dsimp only; omega, by dsimp only; omega, by dsimp only; omega, by simpa using hS⟩ (by refine weak_mk rfl ?_ ?_ rfl <;> (repeat' (first | exact weakE_nil | exact weakH_nil | refine weakE_cons rfl (by first | rfl | (first | rw [hin] | rfl) | exact own_eq rfl rfl (by omega) | exact int_eq (by omega) | (simp <;> fail) | (congr 4; omega) | (congr 3; omega) | (congr 2; omega)) rfl ?_ | refine weakH_cons rfl (by first | rfl | (first | rw [hin] | rfl) | exact own_eq rfl rfl (by omega) | exact int_eq (by omega) | (simp <;> fail) | (congr 4; omega) | (congr 3; omega) | (congr 2; omega)) rfl ?_))) ?_
    rintro ⟨M, m, j, S, t⟩ ⟨hM, hSa, hm, hs, hMl, hj, hSl, hSS⟩ K hK hX
    dsimp only at hM hSa hm hs hMl hj hSl hSS hK ⊢
    have hml := flat_len hM
    rw [hm] at hml
    have huM : (u8c M.flatten).length = m * 32 := by rw [u8c_length, hml]
    have hsl := flat_len hSa
    rw [hs] at hsl
    have huS : (u8c S.flatten).length = t * 32 := by rw [u8c_length, hsl]
    by_cases h1 : 1 < m
    · have hup := rup_ok M m hM hm (by omega)
      have hul := upD_length M
      rw [hm] at hul
      have hua := upD_all hM
      rcases Nat.mod_two_eq_zero_or_one j with hp | hp
      · by_cases h3 : j + 1 < m
        · rw [sibD_even (by omega) (by omega) (by omega)] at hSS
          have hd := getD32 hM (j + 1) (by omega)
          have hda := dig_at0 hM (j + 1) (by omega)
          unfold dc at hda
          generalize M.getD (j + 1) [] = d at hd hda hSS
          have hud : (u8c d).length = 32 := by rw [u8c_length, hd]
          have hap : u8c S.flatten ++ [u8c d].flatten = u8c (S ++ [d]).flatten := by simp [u8c_app]
          have h3' : (j : Int) + 1 < (m : Int) := by omega
          have hp' : ¬ (j : Int) % 2 = 1 := by omega
          repeat' (first
    | ((with_reducible refine aw_seqk ?_); intro K hK hX)
    | ((with_reducible refine isC_reg ?_); refine aw_prune [0, 1, 4, 5, 6, 7, 8] rfl rfl ?_; with_reducible refine aw_region ?_)
    | ((with_reducible refine isC_draw ?_); refine aw_prune [0, 1, 4, 5, 6, 7, 8] rfl rfl ?_; refine aw_drwE [] ?_)
    | ((first | with_reducible refine isA_call ?_ | with_reducible refine isE_call ?_); (first | refine yA ?_ | refine yE ?_); (first | refine cF1 (hup) ?_))
    | ((first | ((with_reducible refine isA_any ?_); refine xA ?_) | ((with_reducible refine isEk_any ?_); refine xE ?_)); (first | ((with_reducible refine e_ixA ?_); (first | refine ex_i (s_ixO tabOk rfl rfl (show (j : Int) + 1 = ((j + 1 : Nat) : Int) by omega) rfl rfl rfl rfl (by omega)) ?_)) | ((with_reducible refine e_load ?_); (first | refine ex_i (s_loadAr tabOk rfl rfl rfl rfl (by first | exact hda | exact whole0 (by first | rfl | omega) | rfl) (by first | rfl | with_reducible assumption | (simp <;> fail) | omega | (simp; omega) | assumption)) ?_ | refine ex_i (s_loadAi tabOk rfl rfl rfl (by first | exact hda | exact whole0 (by first | rfl | omega) | rfl) (by first | rfl | with_reducible assumption | (simp <;> fail) | omega | (simp; omega) | assumption)) ?_)) | ((with_reducible refine e_slice ?_); (first | refine ex_i (s_slArri tabOk rfl rfl rfl rfl (by first | exact Bd.no | exact Bd.yes rfl (by first | with_reducible exact cast_self _ | with_reducible exact cast_lit _ | exact nt (by omega) | rfl)) (by first | exact Bd.no | exact Bd.yes rfl (by first | with_reducible exact cast_self _ | with_reducible exact cast_lit _ | exact nt (by omega) | rfl)) (by first | exact Nat.le_of_ble_eq_true rfl | omega | (simp; omega)) (by first | exact Nat.le_of_ble_eq_true rfl | omega | (simp; omega)) (by decide) (by first | exact hda | exact whole0 (by first | rfl | omega) | rfl) (by first | rfl | with_reducible assumption | (simp <;> fail) | omega | (simp; omega) | assumption)) ?_))))
    | refine stA ?_
    | refine stE ?_
    | (refine hK _ _ _ _ ?_; clear hK hX K)
    | (refine hX _ _ _ _ _ (by simp) ?_; clear hK hX K))
          exact ⟨(upD M, (m + 1) / 2, j / 2, S ++ [d], t + 1), ⟨hua, (fun x hx => by rcases List.mem_append.1 hx with hx | hx; exact hSa x hx; rw [List.mem_singleton.1 hx]; exact hd), hul, by dsimp only; simp [hs], by dsimp only; omega, by dsimp only; omega, by dsimp only; omega, by dsimp only; simpa using hSS⟩, by dsimp only; omega, (by refine weak_ren [0, 1, 6, 5] rfl rfl ?_ ?_ rfl rfl <;> (repeat' (first | exact weakER_nil | exact weakHR_nil | refine weakER_cons rfl (by first | rfl | (exact congrArg (AObj.row 35) hap) | exact own_eq rfl rfl (by omega) | exact int_eq (by omega) | (simp <;> fail) | (congr 4; omega) | (congr 3; omega) | (congr 2; omega)) rfl ?_ | refine weakHR_cons rfl (by first | rfl | (exact congrArg (AObj.row 35) hap) | exact own_eq rfl rfl (by omega) | exact int_eq (by omega) | (simp <;> fail) | (congr 4; omega) | (congr 3; omega) | (congr 2; omega)) rfl ?_)))⟩
        · rw [sibD_lone (by omega) (by omega) (by omega)] at hSS
          have h3' : ¬ (j : Int) + 1 < (m : Int) := by omega
          have hp' : ¬ (j : Int) % 2 = 1 := by omega
          repeat' (first
    | ((with_reducible refine aw_seqk ?_); intro K hK hX)
    | ((with_reducible refine isC_reg ?_); refine aw_prune [0, 1, 4, 5, 6, 7, 8] rfl rfl ?_; with_reducible refine aw_region ?_)
    | ((with_reducible refine isC_draw ?_); refine aw_prune [0, 1, 4, 5, 6, 7, 8] rfl rfl ?_; refine aw_drwE [] ?_)
    | ((first | with_reducible refine isA_call ?_ | with_reducible refine isE_call ?_); (first | refine yA ?_ | refine yE ?_); (first | refine cF1 (hup) ?_))
    | refine stA ?_
    | refine stE ?_
    | (refine hK _ _ _ _ ?_; clear hK hX K)
    | (refine hX _ _ _ _ _ (by simp) ?_; clear hK hX K))
          exact ⟨(upD M, (m + 1) / 2, j / 2, S, t), ⟨hua, hSa, hul, hs, by dsimp only; omega, by dsimp only; omega, by dsimp only; omega, hSS⟩, by dsimp only; omega, (by refine weak_ren [0, 1, 4, 3] rfl rfl ?_ ?_ rfl rfl <;> (repeat' (first | exact weakER_nil | exact weakHR_nil | refine weakER_cons rfl (by first | rfl | exact own_eq rfl rfl (by omega) | exact int_eq (by omega) | (simp <;> fail) | (congr 4; omega) | (congr 3; omega) | (congr 2; omega)) rfl ?_ | refine weakHR_cons rfl (by first | rfl | exact own_eq rfl rfl (by omega) | exact int_eq (by omega) | (simp <;> fail) | (congr 4; omega) | (congr 3; omega) | (congr 2; omega)) rfl ?_)))⟩
      · rw [sibD_odd (by omega) hp] at hSS
        have hd := getD32 hM (j - 1) (by omega)
        have hda := dig_at0 hM (j - 1) (by omega)
        unfold dc at hda
        generalize M.getD (j - 1) [] = d at hd hda hSS
        have hud : (u8c d).length = 32 := by rw [u8c_length, hd]
        have hap : u8c S.flatten ++ [u8c d].flatten = u8c (S ++ [d]).flatten := by simp [u8c_app]
        have hp' : (j : Int) % 2 = 1 := by omega
        repeat' (first
    | ((with_reducible refine aw_seqk ?_); intro K hK hX)
    | ((with_reducible refine isC_reg ?_); refine aw_prune [0, 1, 4, 5, 6, 7, 8] rfl rfl ?_; with_reducible refine aw_region ?_)
    | ((with_reducible refine isC_draw ?_); refine aw_prune [0, 1, 4, 5, 6, 7, 8] rfl rfl ?_; refine aw_drwE [] ?_)
    | ((first | with_reducible refine isA_call ?_ | with_reducible refine isE_call ?_); (first | refine yA ?_ | refine yE ?_); (first | refine cF1 (hup) ?_))
    | ((first | ((with_reducible refine isA_any ?_); refine xA ?_) | ((with_reducible refine isEk_any ?_); refine xE ?_)); (first | ((with_reducible refine e_ixA ?_); (first | refine ex_i (s_ixO tabOk rfl rfl (show (j : Int) - 1 = ((j - 1 : Nat) : Int) by omega) rfl rfl rfl rfl (by omega)) ?_)) | ((with_reducible refine e_load ?_); (first | refine ex_i (s_loadAr tabOk rfl rfl rfl rfl (by first | exact hda | exact whole0 (by first | rfl | omega) | rfl) (by first | rfl | with_reducible assumption | (simp <;> fail) | omega | (simp; omega) | assumption)) ?_ | refine ex_i (s_loadAi tabOk rfl rfl rfl (by first | exact hda | exact whole0 (by first | rfl | omega) | rfl) (by first | rfl | with_reducible assumption | (simp <;> fail) | omega | (simp; omega) | assumption)) ?_)) | ((with_reducible refine e_slice ?_); (first | refine ex_i (s_slArri tabOk rfl rfl rfl rfl (by first | exact Bd.no | exact Bd.yes rfl (by first | with_reducible exact cast_self _ | with_reducible exact cast_lit _ | exact nt (by omega) | rfl)) (by first | exact Bd.no | exact Bd.yes rfl (by first | with_reducible exact cast_self _ | with_reducible exact cast_lit _ | exact nt (by omega) | rfl)) (by first | exact Nat.le_of_ble_eq_true rfl | omega | (simp; omega)) (by first | exact Nat.le_of_ble_eq_true rfl | omega | (simp; omega)) (by decide) (by first | exact hda | exact whole0 (by first | rfl | omega) | rfl) (by first | rfl | with_reducible assumption | (simp <;> fail) | omega | (simp; omega) | assumption)) ?_))))
    | refine stA ?_
    | refine stE ?_
    | (refine hK _ _ _ _ ?_; clear hK hX K)
    | (refine hX _ _ _ _ _ (by simp) ?_; clear hK hX K))
        exact ⟨(upD M, (m + 1) / 2, j / 2, S ++ [d], t + 1), ⟨hua, (fun x hx => by rcases List.mem_append.1 hx with hx | hx; exact hSa x hx; rw [List.mem_singleton.1 hx]; exact hd), hul, by dsimp only; simp [hs], by dsimp only; omega, by dsimp only; omega, by dsimp only; omega, by dsimp only; simpa using hSS⟩, by dsimp only; omega, (by refine weak_ren [0, 1, 6, 5] rfl rfl ?_ ?_ rfl rfl <;> (repeat' (first | exact weakER_nil | exact weakHR_nil | refine weakER_cons rfl (by first | rfl | (exact congrArg (AObj.row 35) hap) | exact own_eq rfl rfl (by omega) | exact int_eq (by omega) | (simp <;> fail) | (congr 4; omega) | (congr 3; omega) | (congr 2; omega)) rfl ?_ | refine weakHR_cons rfl (by first | rfl | (exact congrArg (AObj.row 35) hap) | exact own_eq rfl rfl (by omega) | exact int_eq (by omega) | (simp <;> fail) | (congr 4; omega) | (congr 3; omega) | (congr 2; omega)) rfl ?_)))⟩
    · rw [sibD_end (by omega), List.append_nil] at hSS
      have hS0 : S0.length = t := by rw [← hSS, hs]
      repeat' (first
    | ((with_reducible refine aw_seqk ?_); intro K hK hX)
    | ((with_reducible refine isC_reg ?_); refine aw_prune [0, 1, 4, 5, 6, 7, 8] rfl rfl ?_; with_reducible refine aw_region ?_)
    | ((with_reducible refine isC_draw ?_); refine aw_prune [0, 1, 4, 5, 6, 7, 8] rfl rfl ?_; refine aw_drwF [] ?_)
    | ((with_reducible refine isA_store ?_); refine awl_storeA tabOk g_none rfl rfl rfl (by first | exact Parts.mixed _ | exact Parts.closed _) (by rfl) (by rfl) rfl (Nat.le_of_ble_eq_true rfl) (by rfl) ?_)
    | refine stA ?_
    | refine stD ?_
    | (refine hK _ _ _ _ ?_; clear hK hX K)
    | (refine hX _ _ _ _ _ (by simp) ?_; clear hK hX K))
      rw [hS0, ← hSS]
      refine retK_mk (by first | exact .inl rfl | exact .inr rfl) (by exact trivial) rfl (ResL.two (by first | exact ResA.one rfl rfl rfl rfl rfl | exact ResA.agg rfl rfl rfl rfl rfl (by first | exact IsAgg.closed rfl rfl | exact IsAgg.mixed _) | exact ResA.aggr rfl rfl rfl rfl (by first | rfl | with_reducible assumption | (simp <;> fail) | omega | (simp; omega) | assumption)) (ResA.tmp rfl)) (out_ren (σ := [3]) (by decide) (keep1 rfl rfl) (ren_tup (renl_cons (ren_agg (renl_cons (ren_c (frz_c cv_rfl)) (renl_cons (ren_c (frz_c cv_rfl)) (renl_cons (ren_own rfl) renl_nil)))) (renl_cons (ren_c (frz_c cv_rfl)) renl_nil))))
end Go.Proofs.Ytgofigkhdjjlmaa
/-
  Proofs of trees (walk of the program).
-/
set_option linter.unusedVariables false
set_option linter.unusedSimpArgs false
namespace Go.Proofs.Ytgofigkhdjjlmaa
open Go Go.RowKit Go.Av
set_option maxRecDepth 100000
attribute [local irreducible] Still Adds AWL AW Drw DrwE EStep AC AWR Weak Frz Src RetK Out InK ItK AsK RdK permute
attribute [local simp] u8c_take u8c_drop u8c_app
theorem prove_idle : Idle Try.prog 100 2 := by
  intro us w hl
  obtain ⟨u0, u1, rfl⟩ : ∃ u0 u1, us = [u0, u1] := by
    match us, hl with | [u0, u1], _ => exact ⟨u0, u1, rfl⟩
  refine callsD_of_wpS Try.func100 rfl fun c₀ cs hu => ?_
  apply wpS_seq
  apply wpS_region
  simp [wpOpsS, go_sem, recoverD, hu, Try.ntmps100, Exit.thenS]
  refine wpS_cond (t := false) (by simp [Act.eval, Array.replicate]) ?_
  simp only [Bool.false_eq_true, if_false]
  refine wpS_of_wp (wp_skip ?_)
  cases c₀
  simp_all [bodyPostS, results, Try.results100]
theorem prove_idle_b : Body Try.prog 100 := by unfold Body; kernel_rfl
set_option maxHeartbeats 4000000 in
theorem prove_big (L : List (List UInt8)) (i : Int) (n : Nat) (hL : all32 L) (hn : L.length = n) (hnn : 4096 < n) : AC Try.prog 56 [.sl 32 n (dc L), iv i] (.tup [.c (.agg [iv 0, iv 0, .v (.slice none 0 0)]), .c (iv 8)]) [] 0 := by
  have b1 : (4096 : Int) < (n : Int) := by omega
  refine ac_enter tabOk (sz := 49) Try.func56 rfl (by rw [Try.ntmps56]; rfl) ?_
  repeat' (first
    | ((with_reducible refine aw_seqk ?_); intro K hK hX)
    | ((with_reducible refine isC_reg ?_); refine aw_prune [0, 1, 4, 5, 6, 7, 8, 30] rfl rfl ?_; with_reducible refine aw_region ?_)
    | ((with_reducible refine isC_draw ?_); refine aw_prune [0, 1, 4, 5, 6, 7, 8, 30] rfl rfl ?_; refine aw_drwF [] ?_)
    | refine stA ?_
    | refine stD ?_
    | (refine hK _ _ _ _ ?_; clear hK hX K)
    | (refine hX _ _ _ _ _ (by simp) ?_; clear hK hX K))
  refine retK_mk (by first | exact .inl rfl | exact .inr rfl) (by exact ⟨prove_idle, prove_idle_b, trivial⟩) rfl (ResL.two (by first | exact ResA.one rfl rfl rfl rfl rfl | exact ResA.agg rfl rfl rfl rfl rfl (by first | exact IsAgg.closed rfl rfl | exact IsAgg.mixed _) | exact ResA.aggr rfl rfl rfl rfl (by first | rfl | with_reducible assumption | (simp <;> fail) | omega | (simp; omega) | assumption)) (by first | exact ResA.one rfl rfl rfl rfl rfl | exact ResA.agg rfl rfl rfl rfl rfl (by first | exact IsAgg.closed rfl rfl | exact IsAgg.mixed _) | exact ResA.aggr rfl rfl rfl rfl (by first | rfl | with_reducible assumption | (simp <;> fail) | omega | (simp; omega) | assumption))) (out_t (frzl_cons (by first | exact frz_c cv_rfl | exact frz_c cv_nil | exact frz_ownW rfl rfl (by first | rfl | with_reducible assumption | (simp <;> fail) | omega | (simp; omega) | assumption) | exact frz_eq (frz_c cv_rfl) (by first | rfl | (simp <;> fail) | fail)) (frzl_cons (by first | exact frz_c cv_rfl | exact frz_c cv_nil | exact frz_ownW rfl rfl (by first | rfl | with_reducible assumption | (simp <;> fail) | omega | (simp; omega) | assumption) | exact frz_eq (frz_c cv_rfl) (by first | rfl | (simp <;> fail) | fail)) frzl_nil)))
set_option maxHeartbeats 4000000 in
theorem prove_out (L : List (List UInt8)) (i : Int) (n : Nat) (hL : all32 L) (hn : L.length = n) (hnn : n ≤ 4096) (hi : i < 0 ∨ (n : Int) ≤ i) : AC Try.prog 56 [.sl 32 n (dc L), iv i] (.tup [.c (.agg [iv 0, iv 0, .v (.slice none 0 0)]), .c (iv 10)]) [] 0 := by
  have b1 : ¬ (4096 : Int) < (n : Int) := by omega
  by_cases b2 : i < 0
  · clear hi
    refine ac_enter tabOk (sz := 49) Try.func56 rfl (by rw [Try.ntmps56]; rfl) ?_
    repeat' (first
    | ((with_reducible refine aw_seqk ?_); intro K hK hX)
    | ((with_reducible refine isC_reg ?_); refine aw_prune [0, 1, 4, 5, 6, 7, 8, 30] rfl rfl ?_; with_reducible refine aw_region ?_)
    | ((with_reducible refine isC_draw ?_); refine aw_prune [0, 1, 4, 5, 6, 7, 8, 30] rfl rfl ?_; refine aw_drwF [] ?_)
    | refine stA ?_
    | refine stD ?_
    | (refine hK _ _ _ _ ?_; clear hK hX K)
    | (refine hX _ _ _ _ _ (by simp) ?_; clear hK hX K))
    refine retK_mk (by first | exact .inl rfl | exact .inr rfl) (by exact ⟨prove_idle, prove_idle_b, trivial⟩) rfl (ResL.two (by first | exact ResA.one rfl rfl rfl rfl rfl | exact ResA.agg rfl rfl rfl rfl rfl (by first | exact IsAgg.closed rfl rfl | exact IsAgg.mixed _) | exact ResA.aggr rfl rfl rfl rfl (by first | rfl | with_reducible assumption | (simp <;> fail) | omega | (simp; omega) | assumption)) (by first | exact ResA.one rfl rfl rfl rfl rfl | exact ResA.agg rfl rfl rfl rfl rfl (by first | exact IsAgg.closed rfl rfl | exact IsAgg.mixed _) | exact ResA.aggr rfl rfl rfl rfl (by first | rfl | with_reducible assumption | (simp <;> fail) | omega | (simp; omega) | assumption))) (out_t (frzl_cons (by first | exact frz_c cv_rfl | exact frz_c cv_nil | exact frz_ownW rfl rfl (by first | rfl | with_reducible assumption | (simp <;> fail) | omega | (simp; omega) | assumption) | exact frz_eq (frz_c cv_rfl) (by first | rfl | (simp <;> fail) | fail)) (frzl_cons (by first | exact frz_c cv_rfl | exact frz_c cv_nil | exact frz_ownW rfl rfl (by first | rfl | with_reducible assumption | (simp <;> fail) | omega | (simp; omega) | assumption) | exact frz_eq (frz_c cv_rfl) (by first | rfl | (simp <;> fail) | fail)) frzl_nil)))
  · have b3 : (n : Int) ≤ i := by omega
    clear hi
    refine ac_enter tabOk (sz := 49) Try.func56 rfl (by rw [Try.ntmps56]; rfl) ?_
    repeat' (first
    | ((with_reducible refine aw_seqk ?_); intro K hK hX)
    | ((with_reducible refine isC_reg ?_); refine aw_prune [0, 1, 4, 5, 6, 7, 8, 30] rfl rfl ?_; with_reducible refine aw_region ?_)
    | ((with_reducible refine isC_draw ?_); refine aw_prune [0, 1, 4, 5, 6, 7, 8, 30] rfl rfl ?_; refine aw_drwF [] ?_)
    | refine stA ?_
    | refine stD ?_
    | (refine hK _ _ _ _ ?_; clear hK hX K)
    | (refine hX _ _ _ _ _ (by simp) ?_; clear hK hX K))
    refine retK_mk (by first | exact .inl rfl | exact .inr rfl) (by exact ⟨prove_idle, prove_idle_b, trivial⟩) rfl (ResL.two (by first | exact ResA.one rfl rfl rfl rfl rfl | exact ResA.agg rfl rfl rfl rfl rfl (by first | exact IsAgg.closed rfl rfl | exact IsAgg.mixed _) | exact ResA.aggr rfl rfl rfl rfl (by first | rfl | with_reducible assumption | (simp <;> fail) | omega | (simp; omega) | assumption)) (by first | exact ResA.one rfl rfl rfl rfl rfl | exact ResA.agg rfl rfl rfl rfl rfl (by first | exact IsAgg.closed rfl rfl | exact IsAgg.mixed _) | exact ResA.aggr rfl rfl rfl rfl (by first | rfl | with_reducible assumption | (simp <;> fail) | omega | (simp; omega) | assumption))) (out_t (frzl_cons (by first | exact frz_c cv_rfl | exact frz_c cv_nil | exact frz_ownW rfl rfl (by first | rfl | with_reducible assumption | (simp <;> fail) | omega | (simp; omega) | assumption) | exact frz_eq (frz_c cv_rfl) (by first | rfl | (simp <;> fail) | fail)) (frzl_cons (by first | exact frz_c cv_rfl | exact frz_c cv_nil | exact frz_ownW rfl rfl (by first | rfl | with_reducible assumption | (simp <;> fail) | omega | (simp; omega) | assumption) | exact frz_eq (frz_c cv_rfl) (by first | rfl | (simp <;> fail) | fail)) frzl_nil)))
set_option maxHeartbeats 8000000 in
theorem prove_own (L : List (List UInt8)) (I : Nat) (n : Nat) (hL : all32 L) (hn : L.length = n) (hnn : n ≤ 4096) (hI : I < n) : AC Try.prog 56 [.sl 32 n (dc L), iv I] (.tup [.agg [.c (iv I), .c (iv n), .own 0 0 (sibD (L.map nodeD) I).length 32 true], .c (iv 0)]) [(0, .row 35 (dc (sibD (L.map nodeD) I)))] 1 := by
  have hdl := dc_length hL hn
  have b1 : ¬ (4096 : Int) < (n : Int) := by omega
  have b2 : ¬ (I : Int) < 0 := by omega
  have b3 : ¬ (n : Int) ≤ (I : Int) := by omega
  have h0 : ¬ (n : Int) = 0 := by omega
  have hna := nodes_all L
  have hng := fun i => nodes_get (L := L) (i := i)
  have hnl : (L.map nodeD).length = n := by simp [hn]
  generalize L.map nodeD = V at hna hng hnl ⊢
  generalize hS : sibD V I = S0
  refine ac_enter tabOk (sz := 49) Try.func56 rfl (by rw [Try.ntmps56]; rfl) ?_
  repeat' (first
    | ((with_reducible refine aw_seqk ?_); intro K hK hX)
    | ((with_reducible refine isC_reg ?_); refine aw_prune [0, 1, 2, 3, 4, 5, 6, 7, 8, 12, 13, 14, 30] rfl rfl ?_; with_reducible refine aw_region ?_)
    | ((with_reducible refine isC_draw ?_); refine aw_prune [0, 1, 2, 3, 4, 5, 6, 7, 8, 12, 13, 14, 30] rfl rfl ?_; refine aw_drwF [95] ?_)
    | ((first | with_reducible refine isA_call ?_ | with_reducible refine isA_callv ?_); refine awl_inl tabOk [0, 1, 2, 3, 4, 5, 6, 7, 8, 9, 10, 11, 12, 13, 14, 15, 16, 17, 18, 19, 20, 21, 22, 23, 24, 25, 26, 27, 28, 29, 30, 31, 32, 33, 34, 35, 36, 37, 38, 39, 40, 41, 42, 43, 44, 45, 46, 47, 48] g_none rfl rfl (by unfold Body; kernel_rfl) Try.func95 rfl rfl rfl (szf := 4) (by rw [Try.ntmps95]; rfl) rfl ?_)
    | ((with_reducible refine isC_range ?_); refine aw_range tabOk [0, 1, 2, 3, 4, 5, 6, 7, 8, 9, 10, 11, 12, 13, 14, 15, 16, 17, 18, 19, 20, 21, 22, 23, 24, 25, 26, 27, 28, 29, 30, 31, 32, 33, 34, 35, 36, 37, 38, 39, 40, 41, 42, 43, 44, 45, 46, 47, 48] rfl (by unfold Body; kernel_rfl) Try.func114 rfl (szf := 35) (by rw [Try.ntmps114]; rfl) rfl rfl ?_; intro Lc hLc)
    | ((with_reducible refine isA_callv ?_); refine awl_yield [0, 1, 2, 3, 4, 5, 6, 7, 8, 9, 10, 11, 12, 13, 14, 15, 16, 17, 18, 19, 20, 21, 22, 23, 24, 25, 26, 27, 28, 29, 30, 31, 32, 33, 34, 35, 36, 37, 38, 39, 40, 41, 42, 43, 44, 45, 46, 47, 48] g_none rfl rfl rfl rfl rfl hLc rfl rfl (by kernel_rfl) (by kernel_rfl) ?_)
    | (refine asK_mk hLc rfl rfl rfl ?_)
    | (refine rdK_some rfl rfl rfl ?_)
    | (refine itK_mk (by first | exact .inl rfl | exact .inr rfl) (by exact trivial) rfl rfl rfl rfl ?_; clear hLc)
    | ((with_reducible refine isA_store ?_); refine awl_storeA tabOk g_none rfl rfl rfl (by first | exact Parts.mixed _ | exact Parts.closed _) (by rfl) (by rfl) rfl (Nat.le_of_ble_eq_true rfl) (by rfl) ?_)
    | refine stA ?_
    | refine stD ?_
    | (refine hK _ _ _ _ ?_; clear hK hX K)
    | (refine hX _ _ _ _ _ (by simp) ?_; clear hK hX K)
    | (first | refine inK_some (by first | exact .inl rfl | exact .inr rfl) (by exact trivial) rfl rfl (ResL.one (ResA.tmp rfl)) ?_ | refine inK_none (by first | exact .inl rfl | exact .inr rfl) (by exact trivial) rfl rfl (ResL.one (ResA.tmp rfl)) ?_))
  refine aw_loopo [14] [6] rfl rfl (fun i : Nat => [(14, .c (iv i))]) (fun i => [(6, .row 35 (dc (filD V n i)))]) (fun i => i ≤ n) (fun i => n - i) 0 (by omega) (by refine weak_mk rfl ?_ ?_ rfl <;> (repeat' (first | exact weakE_nil | exact weakH_nil | refine weakE_cons rfl (by first | rfl | (exact congrArg (AObj.row 35) ((zc_dig n).trans (by rw [filD_zero]))) | exact own_eq rfl rfl (by omega) | exact int_eq (by omega) | (simp <;> fail) | (congr 4; omega) | (congr 3; omega) | (congr 2; omega)) rfl ?_ | refine weakH_cons rfl (by first | rfl | (exact congrArg (AObj.row 35) ((zc_dig n).trans (by rw [filD_zero]))) | exact own_eq rfl rfl (by omega) | exact int_eq (by omega) | (simp <;> fail) | (congr 4; omega) | (congr 3; omega) | (congr 2; omega)) rfl ?_))) ?_
  intro i hi K hK hX
  have hfa := filD_all n i hna
  have hfl := filD_length hnl (show i ≤ n by omega)
  have hdf := dc_length hfa hfl
  by_cases hlt : i < n
  · have hd := getD32 hL i (by omega)
    have hda := dig_at hL i (by omega)
    have hst := lay_dc hfa i (by omega) (V.getD i []) (getD32 hna i (by omega))
    rw [filD_set hnl hlt, hng i (by omega)] at hst
    generalize L.getD i [] = d at hd hda hst
    have hud : (u8c d).length = 32 := by rw [u8c_length, hd]
    have hk := node_ok d hd
    have hun : (u8c (nodeD d)).length = 32 := by rw [u8c_length, nodeD_length]
    generalize nodeD d = x at hk hun hst
    repeat' (first
    | ((with_reducible refine aw_seqk ?_); intro K hK hX)
    | ((with_reducible refine isC_reg ?_); refine aw_prune [0, 1, 3, 4, 5, 6, 7, 8, 12, 13, 14, 30] rfl rfl ?_; with_reducible refine aw_region ?_)
    | ((with_reducible refine isC_draw ?_); refine aw_prune [0, 1, 3, 4, 5, 6, 7, 8, 12, 13, 14, 30] rfl rfl ?_; refine aw_drwF [] ?_)
    | ((first | with_reducible refine isA_call ?_ | with_reducible refine isD_call ?_); (first | refine zA ?_ | refine zN ?_ | refine zD ?_); (first | refine c0 (hk) ?_))
    | ((with_reducible refine isC_range ?_); refine aw_range tabOk [0, 1, 2, 3, 4, 5, 6, 7, 8, 9, 10, 11, 12, 13, 14, 15, 16, 17, 18, 19, 20, 21, 22, 23, 24, 25, 26, 27, 28, 29, 30, 31, 32, 33, 34, 35, 36, 37, 38, 39, 40, 41, 42, 43, 44, 45, 46, 47, 48] rfl (by unfold Body; kernel_rfl) Try.func114 rfl (szf := 35) (by rw [Try.ntmps114]; rfl) rfl rfl ?_; intro Lc hLc)
    | ((with_reducible refine isA_callv ?_); refine awl_yield [0, 1, 2, 3, 4, 5, 6, 7, 8, 9, 10, 11, 12, 13, 14, 15, 16, 17, 18, 19, 20, 21, 22, 23, 24, 25, 26, 27, 28, 29, 30, 31, 32, 33, 34, 35, 36, 37, 38, 39, 40, 41, 42, 43, 44, 45, 46, 47, 48] g_none rfl rfl rfl rfl rfl hLc rfl rfl (by kernel_rfl) (by kernel_rfl) ?_)
    | (refine asK_mk hLc rfl rfl rfl ?_)
    | (refine rdK_some rfl rfl rfl ?_)
    | (refine itK_mk (by first | exact .inl rfl | exact .inr rfl) (by exact trivial) rfl rfl rfl rfl ?_; clear hLc)
    | ((first | ((with_reducible refine isA_any ?_); refine xA ?_) | ((with_reducible refine isDk_any ?_); refine xD ?_)); (first | ((with_reducible refine e_load ?_); (first | refine ex_i (s_loadAr tabOk rfl rfl rfl rfl (by first | exact hda | exact whole0 (by first | rfl | omega) | rfl) (by first | rfl | with_reducible assumption | (simp <;> fail) | omega | (simp; omega) | assumption)) ?_ | refine ex_i (s_loadAi tabOk rfl rfl rfl (by first | exact hda | exact whole0 (by first | rfl | omega) | rfl) (by first | rfl | with_reducible assumption | (simp <;> fail) | omega | (simp; omega) | assumption)) ?_)) | ((with_reducible refine e_slice ?_); (first | refine ex_i (s_slArri tabOk rfl rfl rfl rfl (by first | exact Bd.no | exact Bd.yes rfl (by first | with_reducible exact cast_self _ | with_reducible exact cast_lit _ | exact nt (by omega) | rfl)) (by first | exact Bd.no | exact Bd.yes rfl (by first | with_reducible exact cast_self _ | with_reducible exact cast_lit _ | exact nt (by omega) | rfl)) (by first | exact Nat.le_of_ble_eq_true rfl | omega | (simp; omega)) (by first | exact Nat.le_of_ble_eq_true rfl | omega | (simp; omega)) (by decide) (by first | exact hda | exact whole0 (by first | rfl | omega) | rfl) (by first | rfl | with_reducible assumption | (simp <;> fail) | omega | (simp; omega) | assumption)) ?_))))
    | ((with_reducible refine isA_store ?_); (refine awl_store1r tabOk g_none rfl rfl rfl rfl rfl rfl (by first | omega | exact Nat.le_of_ble_eq_true rfl | omega | (simp; omega)) ?_))
    | ((with_reducible refine isA_store ?_); (refine awl_storeAr tabOk g_none rfl rfl rfl (by first | rfl | with_reducible assumption | (simp <;> fail) | omega | (simp; omega) | assumption) rfl (by first | exact Nat.le_of_ble_eq_true rfl | omega | (simp; omega)) (by first | exact hst | exact lay_whole _ _ (by first | rfl | with_reducible assumption | (simp <;> fail) | omega | (simp; omega) | assumption) | rfl) ?_))
    | refine stA ?_
    | refine stD ?_
    | (refine hK _ _ _ _ ?_; clear hK hX K)
    | (refine hX _ _ _ _ _ (by simp) ?_; clear hK hX K))
    exact ⟨i + 1, by omega, by omega, weakA⟩
  · have hin : i = n := by omega
    have hff : filD V n i = V := by rw [hin]; exact filD_full hnl
    rw [hff] at hdf ⊢
    repeat' (first
    | ((with_reducible refine aw_seqk ?_); intro K hK hX)
    | ((with_reducible refine isC_reg ?_); refine aw_prune [0, 1, 3, 4, 5, 6, 7, 8, 12, 13, 14, 30] rfl rfl ?_; with_reducible refine aw_region ?_)
    | ((with_reducible refine isC_draw ?_); refine aw_prune [0, 1, 3, 4, 5, 6, 7, 8, 12, 13, 14, 30] rfl rfl ?_; refine aw_drwF [] ?_)
    | ((with_reducible refine isC_range ?_); refine aw_range tabOk [0, 1, 2, 3, 4, 5, 6, 7, 8, 9, 10, 11, 12, 13, 14, 15, 16, 17, 18, 19, 20, 21, 22, 23, 24, 25, 26, 27, 28, 29, 30, 31, 32, 33, 34, 35, 36, 37, 38, 39, 40, 41, 42, 43, 44, 45, 46, 47, 48] rfl (by unfold Body; kernel_rfl) Try.func114 rfl (szf := 35) (by rw [Try.ntmps114]; rfl) rfl rfl ?_; intro Lc hLc)
    | ((with_reducible refine isA_callv ?_); refine awl_yield [0, 1, 2, 3, 4, 5, 6, 7, 8, 9, 10, 11, 12, 13, 14, 15, 16, 17, 18, 19, 20, 21, 22, 23, 24, 25, 26, 27, 28, 29, 30, 31, 32, 33, 34, 35, 36, 37, 38, 39, 40, 41, 42, 43, 44, 45, 46, 47, 48] g_none rfl rfl rfl rfl rfl hLc rfl rfl (by kernel_rfl) (by kernel_rfl) ?_)
    | (refine asK_mk hLc rfl rfl rfl ?_)
    | (refine rdK_some rfl rfl rfl ?_)
    | (refine itK_mk (by first | exact .inl rfl | exact .inr rfl) (by exact trivial) rfl rfl rfl rfl ?_; clear hLc)
    | refine stA ?_
    | refine stD ?_
    | (refine hK _ _ _ _ ?_; clear hK hX K)
    | (refine hX _ _ _ _ _ (by simp) ?_; clear hK hX K))
    refine aw_nilcell 0 2 35 32 rfl rfl rfl rfl ?_
    refine aw_loopo [3, 15] [0, 2, 6, 7] rfl rfl (fun p : List (List UInt8) × Nat × Nat × List (List UInt8) × Nat => [(3, .own 6 0 p.2.1 32 true)]) (fun p => [(0, .blk 54 [.c (iv I), .c (iv n), .own 7 0 p.2.2.2.2 32 true]), (2, .blk 3 [.c (iv p.2.2.1)]), (6, .row 35 (dc p.1)), (7, .row 35 (u8c p.2.2.2.1.flatten))]) (fun p => all32 p.1 ∧ all32 p.2.2.2.1 ∧ p.1.length = p.2.1 ∧ p.2.2.2.1.length = p.2.2.2.2 ∧ p.2.1 ≤ 4096 ∧ p.2.2.1 < p.2.1 ∧ p.2.1 + p.2.2.2.2 ≤ 5000 ∧ p.2.2.2.1 ++ sibD p.1 p.2.2.1 = S0) (fun p => p.2.1) (V, n, I, [], 0) ⟨hna, (fun d hd => by cases hd), hnl, rfl, by dsimp only; omega, by dsimp only; omega, by dsimp only; omega, by simpa using hS⟩ weakA ?_
    rintro ⟨M, m, j, S, t⟩ ⟨hM, hSa, hm, hs, hMl, hj, hSl, hSS⟩ K hK hX
    dsimp only at hM hSa hm hs hMl hj hSl hSS hK ⊢
    have hdM := dc_length hM hm
    have hsl := flat_len hSa
    rw [hs] at hsl
    have huS : (u8c S.flatten).length = t * 32 := by rw [u8c_length, hsl]
    by_cases h1 : 1 < m
    · have hup := above_ok M m hM hm (by omega)
      have hul := upD_length M
      rw [hm] at hul
      have hua := upD_all hM
      rcases Nat.mod_two_eq_zero_or_one j with hp | hp
      · by_cases h3 : j + 1 < m
        · rw [sibD_even (by omega) (by omega) (by omega)] at hSS
          have hd := getD32 hM (j + 1) (by omega)
          have hda := dig_at0 hM (j + 1) (by omega)
          generalize M.getD (j + 1) [] = d at hd hda hSS
          have hud : (u8c d).length = 32 := by rw [u8c_length, hd]
          have hap : u8c S.flatten ++ [u8c d].flatten = u8c (S ++ [d]).flatten := by simp [u8c_app]
          repeat' (first
    | ((with_reducible refine aw_seqk ?_); intro K hK hX)
    | ((with_reducible refine isC_reg ?_); refine aw_prune [0, 1, 3, 4, 5, 6, 7, 8, 12, 13, 14, 30] rfl rfl ?_; with_reducible refine aw_region ?_)
    | ((with_reducible refine isC_draw ?_); refine aw_prune [0, 1, 3, 4, 5, 6, 7, 8, 12, 13, 14, 30] rfl rfl ?_; refine aw_drwE [] ?_)
    | ((first | with_reducible refine isA_call ?_ | with_reducible refine isE_call ?_); (first | refine yA ?_ | refine yE ?_); (first | refine cF1 (hup) ?_))
    | ((with_reducible refine isC_range ?_); refine aw_range tabOk [0, 1, 2, 3, 4, 5, 6, 7, 8, 9, 10, 11, 12, 13, 14, 15, 16, 17, 18, 19, 20, 21, 22, 23, 24, 25, 26, 27, 28, 29, 30, 31, 32, 33, 34, 35, 36, 37, 38, 39, 40, 41, 42, 43, 44, 45, 46, 47, 48] rfl (by unfold Body; kernel_rfl) Try.func114 rfl (szf := 35) (by rw [Try.ntmps114]; rfl) rfl rfl ?_; intro Lc hLc)
    | ((with_reducible refine isA_callv ?_); refine awl_yield [0, 1, 2, 3, 4, 5, 6, 7, 8, 9, 10, 11, 12, 13, 14, 15, 16, 17, 18, 19, 20, 21, 22, 23, 24, 25, 26, 27, 28, 29, 30, 31, 32, 33, 34, 35, 36, 37, 38, 39, 40, 41, 42, 43, 44, 45, 46, 47, 48] g_none rfl rfl rfl rfl rfl hLc rfl rfl (by kernel_rfl) (by kernel_rfl) ?_)
    | (refine asK_mk hLc rfl rfl rfl ?_)
    | (refine rdK_some rfl rfl rfl ?_)
    | (refine itK_mk (by first | exact .inl rfl | exact .inr rfl) (by exact trivial) rfl rfl rfl rfl ?_; clear hLc)
    | ((first | ((with_reducible refine isA_any ?_); refine xA ?_) | ((with_reducible refine isEk_any ?_); refine xE ?_)); (first | ((with_reducible refine e_bin ?_); (first | refine ex_i (s_xor1 (b := j) (c := j + 1) (by omega) (if_pos hp) rfl rfl) ?_)) | ((with_reducible refine e_load ?_); (first | refine ex_i (s_loadAr tabOk rfl rfl rfl rfl (by first | exact hda | exact whole0 (by first | rfl | omega) | rfl) (by first | rfl | with_reducible assumption | (simp <;> fail) | omega | (simp; omega) | assumption)) ?_ | refine ex_i (s_loadAi tabOk rfl rfl rfl (by first | exact hda | exact whole0 (by first | rfl | omega) | rfl) (by first | rfl | with_reducible assumption | (simp <;> fail) | omega | (simp; omega) | assumption)) ?_)) | ((with_reducible refine e_slice ?_); (first | refine ex_i (s_slArri tabOk rfl rfl rfl rfl (by first | exact Bd.no | exact Bd.yes rfl (by first | with_reducible exact cast_self _ | with_reducible exact cast_lit _ | exact nt (by omega) | rfl)) (by first | exact Bd.no | exact Bd.yes rfl (by first | with_reducible exact cast_self _ | with_reducible exact cast_lit _ | exact nt (by omega) | rfl)) (by first | exact Nat.le_of_ble_eq_true rfl | omega | (simp; omega)) (by first | exact Nat.le_of_ble_eq_true rfl | omega | (simp; omega)) (by decide) (by first | exact hda | exact whole0 (by first | rfl | omega) | rfl) (by first | rfl | with_reducible assumption | (simp <;> fail) | omega | (simp; omega) | assumption)) ?_))))
    | refine stA ?_
    | refine stE ?_
    | (refine hK _ _ _ _ ?_; clear hK hX K)
    | (refine hX _ _ _ _ _ (by simp) ?_; clear hK hX K))
          exact ⟨(upD M, (m + 1) / 2, j / 2, S ++ [d], t + 1), ⟨hua, (fun x hx => by rcases List.mem_append.1 hx with hx | hx; exact hSa x hx; rw [List.mem_singleton.1 hx]; exact hd), hul, by dsimp only; simp [hs], by dsimp only; omega, by dsimp only; omega, by dsimp only; omega, by dsimp only; simpa using hSS⟩, by dsimp only; omega, (by refine weak_ren [0, 1, 2, 3, 4, 5, 10, 9] rfl rfl ?_ ?_ rfl rfl <;> (repeat' (first | exact weakER_nil | exact weakHR_nil | refine weakER_cons rfl (by first | rfl | (exact congrArg (AObj.row 35) hap) | exact own_eq rfl rfl (by omega) | exact int_eq (by omega) | (simp <;> fail) | (congr 4; omega) | (congr 3; omega) | (congr 2; omega)) rfl ?_ | refine weakHR_cons rfl (by first | rfl | (exact congrArg (AObj.row 35) hap) | exact own_eq rfl rfl (by omega) | exact int_eq (by omega) | (simp <;> fail) | (congr 4; omega) | (congr 3; omega) | (congr 2; omega)) rfl ?_)))⟩
        · rw [sibD_lone (by omega) (by omega) (by omega)] at hSS
          repeat' (first
    | ((with_reducible refine aw_seqk ?_); intro K hK hX)
    | ((with_reducible refine isC_reg ?_); refine aw_prune [0, 1, 3, 4, 5, 6, 7, 8, 12, 13, 14, 30] rfl rfl ?_; with_reducible refine aw_region ?_)
    | ((with_reducible refine isC_draw ?_); refine aw_prune [0, 1, 3, 4, 5, 6, 7, 8, 12, 13, 14, 30] rfl rfl ?_; refine aw_drwE [] ?_)
    | ((first | with_reducible refine isA_call ?_ | with_reducible refine isE_call ?_); (first | refine yA ?_ | refine yE ?_); (first | refine cF1 (hup) ?_))
    | ((with_reducible refine isC_range ?_); refine aw_range tabOk [0, 1, 2, 3, 4, 5, 6, 7, 8, 9, 10, 11, 12, 13, 14, 15, 16, 17, 18, 19, 20, 21, 22, 23, 24, 25, 26, 27, 28, 29, 30, 31, 32, 33, 34, 35, 36, 37, 38, 39, 40, 41, 42, 43, 44, 45, 46, 47, 48] rfl (by unfold Body; kernel_rfl) Try.func114 rfl (szf := 35) (by rw [Try.ntmps114]; rfl) rfl rfl ?_; intro Lc hLc)
    | ((with_reducible refine isA_callv ?_); refine awl_yield [0, 1, 2, 3, 4, 5, 6, 7, 8, 9, 10, 11, 12, 13, 14, 15, 16, 17, 18, 19, 20, 21, 22, 23, 24, 25, 26, 27, 28, 29, 30, 31, 32, 33, 34, 35, 36, 37, 38, 39, 40, 41, 42, 43, 44, 45, 46, 47, 48] g_none rfl rfl rfl rfl rfl hLc rfl rfl (by kernel_rfl) (by kernel_rfl) ?_)
    | (refine asK_mk hLc rfl rfl rfl ?_)
    | (refine rdK_some rfl rfl rfl ?_)
    | (refine itK_mk (by first | exact .inl rfl | exact .inr rfl) (by exact trivial) rfl rfl rfl rfl ?_; clear hLc)
    | ((first | ((with_reducible refine isA_any ?_); refine xA ?_) | ((with_reducible refine isEk_any ?_); refine xE ?_)); (first | ((with_reducible refine e_bin ?_); (first | refine ex_i (s_xor1 (b := j) (c := j + 1) (by omega) (if_pos hp) rfl rfl) ?_))))
    | refine stA ?_
    | refine stE ?_
    | (refine hK _ _ _ _ ?_; clear hK hX K)
    | (refine hX _ _ _ _ _ (by simp) ?_; clear hK hX K))
          exact ⟨(upD M, (m + 1) / 2, j / 2, S, t), ⟨hua, hSa, hul, hs, by dsimp only; omega, by dsimp only; omega, by dsimp only; omega, hSS⟩, by dsimp only; omega, (by refine weak_ren [0, 1, 2, 3, 4, 5, 8, 7] rfl rfl ?_ ?_ rfl rfl <;> (repeat' (first | exact weakER_nil | exact weakHR_nil | refine weakER_cons rfl (by first | rfl | exact own_eq rfl rfl (by omega) | exact int_eq (by omega) | (simp <;> fail) | (congr 4; omega) | (congr 3; omega) | (congr 2; omega)) rfl ?_ | refine weakHR_cons rfl (by first | rfl | exact own_eq rfl rfl (by omega) | exact int_eq (by omega) | (simp <;> fail) | (congr 4; omega) | (congr 3; omega) | (congr 2; omega)) rfl ?_)))⟩
      · rw [sibD_odd (by omega) hp] at hSS
        have hd := getD32 hM (j - 1) (by omega)
        have hda := dig_at0 hM (j - 1) (by omega)
        generalize M.getD (j - 1) [] = d at hd hda hSS
        have hud : (u8c d).length = 32 := by rw [u8c_length, hd]
        have hap : u8c S.flatten ++ [u8c d].flatten = u8c (S ++ [d]).flatten := by simp [u8c_app]
        repeat' (first
    | ((with_reducible refine aw_seqk ?_); intro K hK hX)
    | ((with_reducible refine isC_reg ?_); refine aw_prune [0, 1, 3, 4, 5, 6, 7, 8, 12, 13, 14, 30] rfl rfl ?_; with_reducible refine aw_region ?_)
    | ((with_reducible refine isC_draw ?_); refine aw_prune [0, 1, 3, 4, 5, 6, 7, 8, 12, 13, 14, 30] rfl rfl ?_; refine aw_drwE [] ?_)
    | ((first | with_reducible refine isA_call ?_ | with_reducible refine isE_call ?_); (first | refine yA ?_ | refine yE ?_); (first | refine cF1 (hup) ?_))
    | ((with_reducible refine isC_range ?_); refine aw_range tabOk [0, 1, 2, 3, 4, 5, 6, 7, 8, 9, 10, 11, 12, 13, 14, 15, 16, 17, 18, 19, 20, 21, 22, 23, 24, 25, 26, 27, 28, 29, 30, 31, 32, 33, 34, 35, 36, 37, 38, 39, 40, 41, 42, 43, 44, 45, 46, 47, 48] rfl (by unfold Body; kernel_rfl) Try.func114 rfl (szf := 35) (by rw [Try.ntmps114]; rfl) rfl rfl ?_; intro Lc hLc)
    | ((with_reducible refine isA_callv ?_); refine awl_yield [0, 1, 2, 3, 4, 5, 6, 7, 8, 9, 10, 11, 12, 13, 14, 15, 16, 17, 18, 19, 20, 21, 22, 23, 24, 25, 26, 27, 28, 29, 30, 31, 32, 33, 34, 35, 36, 37, 38, 39, 40, 41, 42, 43, 44, 45, 46, 47, 48] g_none rfl rfl rfl rfl rfl hLc rfl rfl (by kernel_rfl) (by kernel_rfl) ?_)
    | (refine asK_mk hLc rfl rfl rfl ?_)
    | (refine rdK_some rfl rfl rfl ?_)
    | (refine itK_mk (by first | exact .inl rfl | exact .inr rfl) (by exact trivial) rfl rfl rfl rfl ?_; clear hLc)
    | ((first | ((with_reducible refine isA_any ?_); refine xA ?_) | ((with_reducible refine isEk_any ?_); refine xE ?_)); (first | ((with_reducible refine e_bin ?_); (first | refine ex_i (s_xor1 (b := j) (c := j - 1) (by omega) (if_neg (by omega)) rfl rfl) ?_)) | ((with_reducible refine e_load ?_); (first | refine ex_i (s_loadAr tabOk rfl rfl rfl rfl (by first | exact hda | exact whole0 (by first | rfl | omega) | rfl) (by first | rfl | with_reducible assumption | (simp <;> fail) | omega | (simp; omega) | assumption)) ?_ | refine ex_i (s_loadAi tabOk rfl rfl rfl (by first | exact hda | exact whole0 (by first | rfl | omega) | rfl) (by first | rfl | with_reducible assumption | (simp <;> fail) | omega | (simp; omega) | assumption)) ?_)) | ((with_reducible refine e_slice ?_); (first | refine ex_i (s_slArri tabOk rfl rfl rfl rfl (by first | exact Bd.no | exact Bd.yes rfl (by first | with_reducible exact cast_self _ | with_reducible exact cast_lit _ | exact nt (by omega) | rfl)) (by first | exact Bd.no | exact Bd.yes rfl (by first | with_reducible exact cast_self _ | with_reducible exact cast_lit _ | exact nt (by omega) | rfl)) (by first | exact Nat.le_of_ble_eq_true rfl | omega | (simp; omega)) (by first | exact Nat.le_of_ble_eq_true rfl | omega | (simp; omega)) (by decide) (by first | exact hda | exact whole0 (by first | rfl | omega) | rfl) (by first | rfl | with_reducible assumption | (simp <;> fail) | omega | (simp; omega) | assumption)) ?_))))
    | refine stA ?_
    | refine stE ?_
    | (refine hK _ _ _ _ ?_; clear hK hX K)
    | (refine hX _ _ _ _ _ (by simp) ?_; clear hK hX K))
        exact ⟨(upD M, (m + 1) / 2, j / 2, S ++ [d], t + 1), ⟨hua, (fun x hx => by rcases List.mem_append.1 hx with hx | hx; exact hSa x hx; rw [List.mem_singleton.1 hx]; exact hd), hul, by dsimp only; simp [hs], by dsimp only; omega, by dsimp only; omega, by dsimp only; omega, by dsimp only; simpa using hSS⟩, by dsimp only; omega, (by refine weak_ren [0, 1, 2, 3, 4, 5, 10, 9] rfl rfl ?_ ?_ rfl rfl <;> (repeat' (first | exact weakER_nil | exact weakHR_nil | refine weakER_cons rfl (by first | rfl | (exact congrArg (AObj.row 35) hap) | exact own_eq rfl rfl (by omega) | exact int_eq (by omega) | (simp <;> fail) | (congr 4; omega) | (congr 3; omega) | (congr 2; omega)) rfl ?_ | refine weakHR_cons rfl (by first | rfl | (exact congrArg (AObj.row 35) hap) | exact own_eq rfl rfl (by omega) | exact int_eq (by omega) | (simp <;> fail) | (congr 4; omega) | (congr 3; omega) | (congr 2; omega)) rfl ?_)))⟩
    · rw [sibD_end (by omega), List.append_nil] at hSS
      have hS0 : S0.length = t := by rw [← hSS, hs]
      have hp : j % 2 = 0 := by omega
      repeat' (first
    | ((with_reducible refine aw_seqk ?_); intro K hK hX)
    | ((with_reducible refine isC_reg ?_); refine aw_prune [0, 1, 3, 4, 5, 6, 7, 8, 12, 13, 14, 30] rfl rfl ?_; with_reducible refine aw_region ?_)
    | ((with_reducible refine isC_draw ?_); refine aw_prune [0, 1, 3, 4, 5, 6, 7, 8, 12, 13, 14, 30] rfl rfl ?_; refine aw_drwE [] ?_)
    | ((with_reducible refine isC_range ?_); refine aw_range tabOk [0, 1, 2, 3, 4, 5, 6, 7, 8, 9, 10, 11, 12, 13, 14, 15, 16, 17, 18, 19, 20, 21, 22, 23, 24, 25, 26, 27, 28, 29, 30, 31, 32, 33, 34, 35, 36, 37, 38, 39, 40, 41, 42, 43, 44, 45, 46, 47, 48] rfl (by unfold Body; kernel_rfl) Try.func114 rfl (szf := 35) (by rw [Try.ntmps114]; rfl) rfl rfl ?_; intro Lc hLc)
    | ((with_reducible refine isA_callv ?_); refine awl_yield [0, 1, 2, 3, 4, 5, 6, 7, 8, 9, 10, 11, 12, 13, 14, 15, 16, 17, 18, 19, 20, 21, 22, 23, 24, 25, 26, 27, 28, 29, 30, 31, 32, 33, 34, 35, 36, 37, 38, 39, 40, 41, 42, 43, 44, 45, 46, 47, 48] g_none rfl rfl rfl rfl rfl hLc rfl rfl (by kernel_rfl) (by kernel_rfl) ?_)
    | (refine asK_mk hLc rfl rfl rfl ?_)
    | (refine rdK_some rfl rfl rfl ?_)
    | (refine itK_mk (by first | exact .inl rfl | exact .inr rfl) (by exact trivial) rfl rfl rfl rfl ?_; clear hLc)
    | ((first | ((with_reducible refine isA_any ?_); refine xA ?_) | ((with_reducible refine isEk_any ?_); refine xE ?_)); (first | ((with_reducible refine e_bin ?_); (first | refine ex_i (s_xor1 (b := j) (c := j + 1) (by omega) (if_pos hp) rfl rfl) ?_))))
    | ((with_reducible refine isA_store ?_); refine awl_storeA tabOk g_none rfl rfl rfl (by first | exact Parts.mixed _ | exact Parts.closed _) (by rfl) (by rfl) rfl (Nat.le_of_ble_eq_true rfl) (by rfl) ?_)
    | ((with_reducible refine isE_store ?_); refine d_storeA tabOk g_none rfl rfl rfl rfl rfl (by first | exact Parts.mixed _ | exact Parts.closed _) (by rfl) (by rfl) rfl (Nat.le_of_ble_eq_true rfl) (by rfl) rfl ?_)
    | refine stA ?_
    | refine stE ?_
    | (refine hK _ _ _ _ ?_; clear hK hX K)
    | (refine hX _ _ _ _ _ (by simp) ?_; clear hK hX K))
      rw [hS0, ← hSS]
      refine retK_mk (by first | exact .inl rfl | exact .inr rfl) (by exact ⟨rfl, prove_idle, prove_idle_b, trivial⟩) rfl (ResL.two (by first | exact ResA.one rfl rfl rfl rfl rfl | exact ResA.agg rfl rfl rfl rfl rfl (by first | exact IsAgg.closed rfl rfl | exact IsAgg.mixed _) | exact ResA.aggr rfl rfl rfl rfl (by first | rfl | with_reducible assumption | (simp <;> fail) | omega | (simp; omega) | assumption)) (by first | exact ResA.one rfl rfl rfl rfl rfl | exact ResA.agg rfl rfl rfl rfl rfl (by first | exact IsAgg.closed rfl rfl | exact IsAgg.mixed _) | exact ResA.aggr rfl rfl rfl rfl (by first | rfl | with_reducible assumption | (simp <;> fail) | omega | (simp; omega) | assumption))) (out_ren (σ := [7]) (by decide) (keep1 rfl rfl) (ren_tup (renl_cons (ren_agg (renl_cons (ren_c (frz_c cv_rfl)) (renl_cons (ren_c (frz_c cv_rfl)) (renl_cons (ren_own rfl) renl_nil)))) (renl_cons (ren_c (frz_c cv_rfl)) renl_nil))))
end Go.Proofs.Ytgofigkhdjjlmaa
