/-
  Joined texts: U9 AvSh U10 U11p. Lemmas; no statement of a law.
-/
import Derived.Test.YtccnhpaldmjkbaaM1
import Derived.Test.YtccnhpaldmjkbaaM2
import Derived.Test.YtccnhpaldmjkbaaM3
import Derived.Test.YtccnhpaldmjkbaaM4
import Derived.Test.YtccnhpaldmjkbaaM5
import Derived.Test.YtccnhpaldmjkbaaM6
import Derived.Test.YtccnhpaldmjkbaaM7
import Derived.Test.YtccnhpaldmjkbaaM9
import Derived.Test.YtccnhpaldmjkbaaM10
import Derived.Test.YtccnhpaldmjkbaaM13
import Derived.Test.YtccnhpaldmjkbaaM14
/-
  Values that are added to a sketch (walk), as the program has it.
-/
set_option linter.unusedVariables false
set_option linter.unusedSimpArgs false
namespace Go.Proofs.Ytccnhpaldmjkbaa
open Go Go.RowKit Go.Av
set_option maxRecDepth 100000
attribute [local irreducible] Still Adds AWL AW Drw DrwE EStep AC AWR Weak Frz Src RetK Out InK ItK AsK RdK RetT OutT ACT ACS RetS ACP RetP
theorem ad_idle : Idle Try.prog 97 0 := by
  intro us w hl
  obtain ⟨_, rfl⟩ : ∃ _ : Unit, us = [] := by
    match us, hl with | [], _ => exact ⟨(), rfl⟩
  refine callsD_of_wpS Try.func97 rfl fun c₀ cs hu => ?_
  apply wpS_region
  simp [wpOpsS, go_sem, recoverD, hu, Try.ntmps97, Exit.thenS]
  cases c₀
  simp_all [bodyPostS, results, Try.results97]
theorem ad_idle_b : Body Try.prog 97 := by unfold Body; kernel_rfl
theorem clone64_nil : AC Try.prog 88 [.v (.slice none 0 0)] (.c (.v (.slice none 0 0))) [] 0 := by
  refine ac_enter tabOk (sz := 8) Try.func88 rfl (by rw [Try.ntmps88]; rfl) ?_
  repeat' (first
    | ((with_reducible refine aw_seqk ?_); intro K hK hX)
    | ((with_reducible refine isC_reg ?_); refine aw_prune [0, 2] rfl rfl ?_; with_reducible refine aw_region ?_)
    | (((with_reducible refine isA_any ?_); refine xA ?_); (first | ((with_reducible refine e_bin ?_); (first | refine ex_i (s_eqnilV tabOk rfl rfl rfl rfl) ?_))))
    | refine stA ?_
    | (refine hK _ _ _ _ ?_; clear hK hX K)
    | (refine hX _ _ _ _ _ (by simp) ?_; clear hK hX K))
  refine retK_mk (by first | exact .inl rfl | exact .inr rfl) (by exact trivial) rfl (ResL.one (ResA.tmp rfl)) (by first | exact out_c zfz | exact out_own rfl rfl)
set_option maxHeartbeats 8000000 in
theorem add_cnt (nm sr : List UInt8) (col kd : Int) (w d : Nat) (v : Vl) (l : List Int) (n : Nat) (c : Int) (hn : l.length = n) (hnn : n ≤ 1000000) (hv : valC ⟨nm, sr, col, kd, w, d⟩ l) (hwd : n = w * d) (ho : okP v) (hz : v.k ≠ 0) (hc1 : 0 < c) (hc2 : c ≤ 262144) (hv2 : valC ⟨nm, sr, col, kd, w, d⟩ (addN kd w v c l d)) : AC Try.prog 43 [.agg [sv nm, sv sr, iv col, iv kd, iv w, iv d], .sl 1 n (intc .i64 l), .agg v.c, iv c] (.tup [.c (.sl 1 n (intc .i64 (addN kd w v c l d))), .c (iv 0)]) [] 0 := by
  have hil : (intc .i64 l).length = n := by rw [intc_length, hn]
  obtain ⟨⟨f1, f2, f3, f4, f5, f6⟩, f7, f8, f9⟩ := id hv
  simp only at f1 f2 f3 f4 f5 f6 f7 f8
  have hp : 0 < n := by rw [hwd]; exact Nat.mul_pos (by omega) (by omega)
  have h1 := valc_ok ⟨nm, sr, col, kd, w, d⟩ l n hn f7 (by simp only [maxLen]; omega)
  have : ∀ i : Decidable (valC ⟨nm, sr, col, kd, w, d⟩ l), @decide _ i = true := fun i => @decide_eq_true _ i hv
  rw [this] at h1
  have h2 := valid_ok v
  rw [okV_t ho] at h2
  have h3 := clone64_ok l n hn hp hnn
  have had : ∀ j, (addN kd w v c l j).length = n := fun j => by rw [addN_length, hn]
  have h5 := valc_ok ⟨nm, sr, col, kd, w, d⟩ (addN kd w v c l d) n (had d) f7 (by simp only [maxLen]; omega)
  have : ∀ i : Decidable (valC ⟨nm, sr, col, kd, w, d⟩ (addN kd w v c l d)), @decide _ i = true := fun i => @decide_eq_true _ i hv2
  rw [this] at h5
  have hpl := fun (row : Nat) (h : row < 256) => place_ok nm sr col kd w d v row (by omega) (by omega) h
  have hlt2 : ∀ j, j < d → placeV w v j < n := fun j h => by rw [hwd]; exact placeV_lt v (by omega) h
  have hap : ∀ j, addN kd w v c l (j + 1) = putP kd (addN kd w v c l j) (placeV w v j) c := fun j => rfl
  have hin : inB l 1073741824 := fun x hx => by
    have := f9 x hx
    unfold okX limZ at this
    simp only at this
    split at this <;> omega
  have hai : ∀ j, j ≤ d → inB (addN kd w v c l j) 10000000000000 := fun j hj => by
    have h1 := addN_inB (kd := kd) (w := w) (v := v) hin (by omega) (show 0 ≤ c by omega) j
    refine inB_mono h1 ?_
    have : (j : Int) * (c + 1) ≤ 8 * 262145 := Int.mul_le_mul (by omega) (by omega) (by omega) (by omega)
    omega
  have ha0 : l = addN kd w v c l 0 := rfl
  generalize placeV w v = pl at hpl hlt2 hap
  generalize addN kd w v c l = ad at hap had hai ha0 h5 hv2 ⊢
  have hdl := had d
  have hdi : (intc .i64 (ad d)).length = n := by rw [intc_length, hdl]
  obtain ⟨a, m, b⟩ := v
  simp only [Vl.c, Sk.c] at *
  have hz' : a ≠ 0 := hz
  clear hz hv hv2 this hin f9
  refine ac_enter tabOk (sz := 58) Try.func43 rfl (by rw [Try.ntmps43]; rfl) ?_
  repeat' (first
    | ((with_reducible refine aw_seqk ?_); intro K hK hX)
    | ((with_reducible refine isC_reg ?_); refine aw_prune [0, 1, 2, 3, 4, 6, 8, 9, 10, 11] rfl rfl ?_; with_reducible refine aw_region ?_)
    | ((with_reducible refine isC_draw ?_); refine aw_prune [0, 1, 2, 3, 4, 6, 8, 9, 10, 11] rfl rfl ?_; refine aw_drwF [85] ?_)
    | ((first | with_reducible refine isA_call ?_ | with_reducible refine isD_call ?_); (first | refine zA ?_ | refine zN ?_ | refine zD ?_); (first | refine c0 (h1) ?_ | refine c0 (h2) ?_ | refine c1 (h3) ?_))
    | ((first | with_reducible refine isA_call ?_ | with_reducible refine isA_callv ?_); refine awl_inl tabOk [0, 1, 2, 3, 4, 5, 6, 7, 8, 9, 10, 11, 12, 13, 14, 15, 16, 17, 18, 19, 20, 21, 22, 23, 24, 25, 26, 27, 28, 29, 30, 31, 32, 33, 34, 35, 36, 37, 38, 39, 40, 41, 42, 43, 44, 45, 46, 47, 48, 49, 50, 51, 52, 53, 54, 55, 56, 57] g_none rfl rfl (by unfold Body; kernel_rfl) Try.func85 rfl rfl rfl (szf := 34) (by rw [Try.ntmps85]; rfl) rfl ?_)
    | refine stA ?_
    | refine stD ?_
    | (refine hK _ _ _ _ ?_; clear hK hX K)
    | (refine hX _ _ _ _ _ (by simp) ?_; clear hK hX K)
    | (first | refine inK_some (by first | exact .inl rfl | exact .inr rfl) (by exact trivial) rfl rfl ResL.none ?_ | refine inK_none (by first | exact .inl rfl | exact .inr rfl) (by exact trivial) rfl rfl ResL.none ?_))
  refine aw_loopo [8, 9, 11] [2] rfl rfl (fun j : Nat => [(11, .c (iv j))]) (fun j => [(2, .row 2 (intc .i64 (ad j)))]) (fun j => j ≤ d) (fun j => d - j) 0 (by omega) (by refine weak_mk rfl ?_ ?_ rfl <;> (repeat' (first | exact weakE_nil | exact weakH_nil | refine weakE_cons rfl (by first | rfl | (exact congrArg (fun x => AObj.row 2 (intc .i64 x)) ha0) | exact own_eq rfl rfl (by omega) | exact int_eq (by omega) | (simp <;> fail) | (congr 4; omega) | (congr 3; omega) | (congr 2; omega)) rfl ?_ | refine weakH_cons rfl (by first | rfl | (exact congrArg (fun x => AObj.row 2 (intc .i64 x)) ha0) | exact own_eq rfl rfl (by omega) | exact int_eq (by omega) | (simp <;> fail) | (congr 4; omega) | (congr 3; omega) | (congr 2; omega)) rfl ?_))) ?_
  intro j hj K hK hX
  have hjl := had j
  have hji : (intc .i64 (ad j)).length = n := by rw [intc_length, hjl]
  by_cases hjd : j < d
  · have hplj := hpl j (by omega)
    have hpj := hlt2 j hjd
    have hput := hap j
    have hbj := getD_inB (hai j hj) (by decide) (pl j)
    have hgt := intc_at (getD_at (l := ad j) (i := pl j) (by omega))
    unfold putP at hput
    generalize pl j = p at hplj hpj hput hbj hgt
    clear hpl hlt2 hap had hai ha0 h1 h2 h3 h5
    by_cases k0 : kd = 0
    · rw [if_pos k0] at hput
      generalize (ad j).getD p 0 = g at hput hbj hgt
      have hset : (intc .i64 (ad j)).set (0 + p * 1) (iv (g + c)) = intc .i64 (ad (j + 1)) := by rw [Nat.zero_add, Nat.mul_one, hput, intc_set]
      repeat' (first
    | ((with_reducible refine aw_seqk ?_); intro K hK hX)
    | ((with_reducible refine isC_reg ?_); refine aw_prune [0, 1, 2, 3, 4, 6, 8, 9, 10, 11] rfl rfl ?_; with_reducible refine aw_region ?_)
    | ((with_reducible refine isC_draw ?_); refine aw_prune [0, 1, 2, 3, 4, 6, 8, 9, 10, 11] rfl rfl ?_; refine aw_drwF [85] ?_)
    | ((first | with_reducible refine isA_call ?_ | with_reducible refine isD_call ?_); (first | refine zA ?_ | refine zN ?_ | refine zD ?_); (first | refine c0 (hplj) ?_))
    | ((first | with_reducible refine isA_call ?_ | with_reducible refine isA_callv ?_); refine awl_inl tabOk [0, 1, 2, 3, 4, 5, 6, 7, 8, 9, 10, 11, 12, 13, 14, 15, 16, 17, 18, 19, 20, 21, 22, 23, 24, 25, 26, 27, 28, 29, 30, 31, 32, 33, 34, 35, 36, 37, 38, 39, 40, 41, 42, 43, 44, 45, 46, 47, 48, 49, 50, 51, 52, 53, 54, 55, 56, 57] g_none rfl rfl (by unfold Body; kernel_rfl) Try.func85 rfl rfl rfl (szf := 34) (by rw [Try.ntmps85]; rfl) rfl ?_)
    | ((first | ((with_reducible refine isA_any ?_); refine xA ?_) | ((with_reducible refine isDk_any ?_); refine xD ?_)); (first | ((with_reducible refine e_load ?_); (first | refine ex_i (s_load1 tabOk rfl rfl rfl rfl (by (rw [Nat.zero_add, Nat.mul_one]; exact hgt))) ?_ | refine ex_i (s_load1r tabOk rfl rfl rfl rfl (by (rw [Nat.zero_add, Nat.mul_one]; exact hgt))) ?_ | refine ex_i (s_load1i tabOk rfl rfl rfl (by (rw [Nat.zero_add, Nat.mul_one]; exact hgt))) ?_)) | ((with_reducible refine e_ix ?_); (first | refine ex_i (s_ixV1 tabOk rfl rfl zcj rfl rfl rfl rfl rfl zle (by (rw [Nat.zero_add, Nat.mul_one]; exact hgt))) ?_ | refine ex_i (s_ixStr tabOk rfl rfl zcj rfl rfl (by (rw [Nat.zero_add, Nat.mul_one]; exact hgt))) ?_))))
    | ((with_reducible refine isA_store ?_); (refine awl_store1r tabOk g_none rfl rfl rfl rfl rfl rfl (by first | omega | exact Nat.le_of_ble_eq_true rfl | omega | (simp <;> omega)) ?_))
    | refine stA ?_
    | refine stD ?_
    | (refine hK _ _ _ _ ?_; clear hK hX K)
    | (refine hX _ _ _ _ _ (by simp) ?_; clear hK hX K)
    | (first | refine inK_some (by first | exact .inl rfl | exact .inr rfl) (by exact trivial) rfl rfl ResL.none ?_ | refine inK_none (by first | exact .inl rfl | exact .inr rfl) (by exact trivial) rfl rfl ResL.none ?_))
      exact ⟨j + 1, by omega, by omega, (by refine weak_mk rfl ?_ ?_ rfl <;> (repeat' (first | exact weakE_nil | exact weakH_nil | refine weakE_cons rfl (by first | rfl | (exact congrArg (AObj.row 2) hset) | exact own_eq rfl rfl (by omega) | exact int_eq (by omega) | (simp <;> fail) | (congr 4; omega) | (congr 3; omega) | (congr 2; omega)) rfl ?_ | refine weakH_cons rfl (by first | rfl | (exact congrArg (AObj.row 2) hset) | exact own_eq rfl rfl (by omega) | exact int_eq (by omega) | (simp <;> fail) | (congr 4; omega) | (congr 3; omega) | (congr 2; omega)) rfl ?_)))⟩
    · rw [if_neg k0] at hput
      have hset : (intc .i64 (ad j)).set (0 + p * 1) (iv 1) = intc .i64 (ad (j + 1)) := by rw [Nat.zero_add, Nat.mul_one, hput, intc_set]
      repeat' (first
    | ((with_reducible refine aw_seqk ?_); intro K hK hX)
    | ((with_reducible refine isC_reg ?_); refine aw_prune [0, 1, 2, 3, 4, 6, 8, 9, 10, 11] rfl rfl ?_; with_reducible refine aw_region ?_)
    | ((with_reducible refine isC_draw ?_); refine aw_prune [0, 1, 2, 3, 4, 6, 8, 9, 10, 11] rfl rfl ?_; refine aw_drwF [85] ?_)
    | ((first | with_reducible refine isA_call ?_ | with_reducible refine isD_call ?_); (first | refine zA ?_ | refine zN ?_ | refine zD ?_); (first | refine c0 (hplj) ?_))
    | ((first | with_reducible refine isA_call ?_ | with_reducible refine isA_callv ?_); refine awl_inl tabOk [0, 1, 2, 3, 4, 5, 6, 7, 8, 9, 10, 11, 12, 13, 14, 15, 16, 17, 18, 19, 20, 21, 22, 23, 24, 25, 26, 27, 28, 29, 30, 31, 32, 33, 34, 35, 36, 37, 38, 39, 40, 41, 42, 43, 44, 45, 46, 47, 48, 49, 50, 51, 52, 53, 54, 55, 56, 57] g_none rfl rfl (by unfold Body; kernel_rfl) Try.func85 rfl rfl rfl (szf := 34) (by rw [Try.ntmps85]; rfl) rfl ?_)
    | ((with_reducible refine isA_store ?_); (refine awl_store1r tabOk g_none rfl rfl rfl rfl rfl rfl (by first | omega | exact Nat.le_of_ble_eq_true rfl | omega | (simp <;> omega)) ?_))
    | refine stA ?_
    | refine stD ?_
    | (refine hK _ _ _ _ ?_; clear hK hX K)
    | (refine hX _ _ _ _ _ (by simp) ?_; clear hK hX K)
    | (first | refine inK_some (by first | exact .inl rfl | exact .inr rfl) (by exact trivial) rfl rfl ResL.none ?_ | refine inK_none (by first | exact .inl rfl | exact .inr rfl) (by exact trivial) rfl rfl ResL.none ?_))
      exact ⟨j + 1, by omega, by omega, (by refine weak_mk rfl ?_ ?_ rfl <;> (repeat' (first | exact weakE_nil | exact weakH_nil | refine weakE_cons rfl (by first | rfl | (exact congrArg (AObj.row 2) hset) | exact own_eq rfl rfl (by omega) | exact int_eq (by omega) | (simp <;> fail) | (congr 4; omega) | (congr 3; omega) | (congr 2; omega)) rfl ?_ | refine weakH_cons rfl (by first | rfl | (exact congrArg (AObj.row 2) hset) | exact own_eq rfl rfl (by omega) | exact int_eq (by omega) | (simp <;> fail) | (congr 4; omega) | (congr 3; omega) | (congr 2; omega)) rfl ?_)))⟩
  · have hjd2 : j = d := by omega
    rw [hjd2] at hji ⊢
    clear hpl hlt2 hap had hai ha0 h1 h2 h3
    repeat' (first
    | ((with_reducible refine aw_seqk ?_); intro K hK hX)
    | ((with_reducible refine isC_reg ?_); refine aw_prune [0, 1, 2, 3, 4, 6, 8, 9, 10, 11] rfl rfl ?_; with_reducible refine aw_region ?_)
    | ((with_reducible refine isC_draw ?_); refine aw_prune [0, 1, 2, 3, 4, 6, 8, 9, 10, 11] rfl rfl ?_; refine aw_drwF [85] ?_)
    | ((first | with_reducible refine isA_call ?_ | with_reducible refine isD_call ?_); (first | refine wA ?_ | refine wN ?_ | refine wD ?_); (first | refine cF (h5) ?_))
    | ((first | with_reducible refine isA_call ?_ | with_reducible refine isA_callv ?_); refine awl_inl tabOk [0, 1, 2, 3, 4, 5, 6, 7, 8, 9, 10, 11, 12, 13, 14, 15, 16, 17, 18, 19, 20, 21, 22, 23, 24, 25, 26, 27, 28, 29, 30, 31, 32, 33, 34, 35, 36, 37, 38, 39, 40, 41, 42, 43, 44, 45, 46, 47, 48, 49, 50, 51, 52, 53, 54, 55, 56, 57] g_none rfl rfl (by unfold Body; kernel_rfl) Try.func85 rfl rfl rfl (szf := 34) (by rw [Try.ntmps85]; rfl) rfl ?_)
    | refine stA ?_
    | refine stD ?_
    | (refine hK _ _ _ _ ?_; clear hK hX K)
    | (refine hX _ _ _ _ _ (by simp) ?_; clear hK hX K)
    | (first | refine inK_some (by first | exact .inl rfl | exact .inr rfl) (by exact trivial) rfl rfl ResL.none ?_ | refine inK_none (by first | exact .inl rfl | exact .inr rfl) (by exact trivial) rfl rfl ResL.none ?_))
    refine retK_mk (by first | exact .inl rfl | exact .inr rfl) (by exact ⟨ad_idle, ad_idle_b, trivial⟩) rfl (ResL.two (ResA.tmp rfl) (ResA.tmp rfl)) (out_t (frzl_cons zfz (frzl_cons zfz frzl_nil)))
set_option maxHeartbeats 4000000 in
theorem add_nul (nm sr : List UInt8) (col kd : Int) (w d : Nat) (v : Vl) (l : List Int) (n : Nat) (c : Int) (hn : l.length = n) (h0 : 0 < n) (hnn : n ≤ 1000000) (hv : kd ≠ 2 ∧ valC ⟨nm, sr, col, kd, w, d⟩ l ∨ kd = 2 ∧ formP ⟨nm, sr, col, 2, w, d⟩ ∧ hashP w l) (ho : okP v) (hz : v.k = 0) (hc1 : 0 ≤ c) (hc2 : c ≤ 262144) : AC Try.prog 43 [.agg [sv nm, sv sr, iv col, iv kd, iv w, iv d], .sl 1 n (intc .i64 l), .agg v.c, iv c] (.tup [.c (.sl 1 n (intc .i64 l)), .c (iv 0)]) [] 0 := by
  have hil : (intc .i64 l).length = n := by rw [intc_length, hn]
  have h2 := valid_ok v
  rw [okV_t ho] at h2
  have h3 := clone64_ok l n hn h0 hnn
  obtain ⟨a, m, b⟩ := v
  simp only [Vl.c] at *
  have hz' : a = 0 := hz
  subst hz'
  clear hz
  rcases hv with ⟨hk, hv⟩ | ⟨rfl, hf, hv⟩
  · have h1 := valc_ok ⟨nm, sr, col, kd, w, d⟩ l n hn hk (by simp only [maxLen]; omega)
    have : ∀ i : Decidable (valC ⟨nm, sr, col, kd, w, d⟩ l), @decide _ i = true := fun i => @decide_eq_true _ i hv
    rw [this] at h1
    simp only [Sk.c] at h1
    clear hv this
    refine ac_enter tabOk (sz := 58) Try.func43 rfl (by rw [Try.ntmps43]; rfl) ?_
    repeat' (first
    | ((with_reducible refine aw_seqk ?_); intro K hK hX)
    | ((with_reducible refine isC_reg ?_); refine aw_prune [0, 1, 2, 3, 4, 6, 8, 9, 10] rfl rfl ?_; with_reducible refine aw_region ?_)
    | ((with_reducible refine isC_draw ?_); refine aw_prune [0, 1, 2, 3, 4, 6, 8, 9, 10] rfl rfl ?_; refine aw_drwF [] ?_)
    | ((first | with_reducible refine isA_call ?_ | with_reducible refine isD_call ?_); (first | refine zA ?_ | refine zN ?_ | refine zD ?_); (first | refine c0 (h1) ?_ | refine c0 (h2) ?_ | refine c0 (h3) ?_ | refine c1 (h3) ?_))
    | refine stA ?_
    | refine stD ?_
    | (refine hK _ _ _ _ ?_; clear hK hX K)
    | (refine hX _ _ _ _ _ (by simp) ?_; clear hK hX K))
    refine retK_mk (by first | exact .inl rfl | exact .inr rfl) (by exact ⟨ad_idle, ad_idle_b, trivial⟩) rfl (ResL.two (ResA.tmp rfl) (ResA.tmp rfl)) (out_t (frzl_cons zfz (frzl_cons zfz frzl_nil)))
  · have hw2 := hf.2.1
    simp only at hw2
    have h1 := valb_ok nm sr col d w l n hn (by simp only [maxLen]; omega) (by omega)
    have : ∀ i : Decidable (formP ⟨nm, sr, col, 2, w, d⟩ ∧ hashP w l), @decide _ i = true := fun i => @decide_eq_true _ i ⟨hf, hv⟩
    rw [this] at h1
    clear hv hf this
    refine ac_enter tabOk (sz := 58) Try.func43 rfl (by rw [Try.ntmps43]; rfl) ?_
    repeat' (first
    | ((with_reducible refine aw_seqk ?_); intro K hK hX)
    | ((with_reducible refine isC_reg ?_); refine aw_prune [0, 1, 2, 3, 4, 6, 8, 9, 10] rfl rfl ?_; with_reducible refine aw_region ?_)
    | ((with_reducible refine isC_draw ?_); refine aw_prune [0, 1, 2, 3, 4, 6, 8, 9, 10] rfl rfl ?_; refine aw_drwF [] ?_)
    | ((first | with_reducible refine isA_call ?_ | with_reducible refine isD_call ?_); (first | refine zA ?_ | refine zN ?_ | refine zD ?_); (first | refine c0 (h1) ?_ | refine c0 (h2) ?_ | refine c0 (h3) ?_ | refine c1 (h3) ?_))
    | refine stA ?_
    | refine stD ?_
    | (refine hK _ _ _ _ ?_; clear hK hX K)
    | (refine hX _ _ _ _ _ (by simp) ?_; clear hK hX K))
    refine retK_mk (by first | exact .inl rfl | exact .inr rfl) (by exact ⟨ad_idle, ad_idle_b, trivial⟩) rfl (ResL.two (ResA.tmp rfl) (ResA.tmp rfl)) (out_t (frzl_cons zfz (frzl_cons zfz frzl_nil)))
set_option maxHeartbeats 4000000 in
theorem add_nul_nil (nm sr : List UInt8) (col : Int) (w d : Nat) (v : Vl) (c : Int) (hf : formP ⟨nm, sr, col, 2, w, d⟩) (ho : okP v) (hz : v.k = 0) (hc1 : 0 ≤ c) (hc2 : c ≤ 262144) : AC Try.prog 43 [.agg [sv nm, sv sr, iv col, iv 2, iv w, iv d], .v (.slice none 0 0), .agg v.c, iv c] (.tup [.c (.v (.slice none 0 0)), .c (iv 0)]) [] 0 := by
  have h2 := valid_ok v
  rw [okV_t ho] at h2
  have h3 := clone64_nil
  obtain ⟨a, m, b⟩ := v
  simp only [Vl.c] at *
  have hz' : a = 0 := hz
  subst hz'
  clear hz
  have hw2 := hf.2.1
  simp only at hw2
  have h1 := valb_ok nm sr col d w [] 0 rfl (by simp only [maxLen]; omega) (by omega)
  have : ∀ i : Decidable (formP ⟨nm, sr, col, 2, w, d⟩ ∧ hashP w []), @decide _ i = true := fun i => @decide_eq_true _ i ⟨hf, Nat.zero_le _, List.Pairwise.nil, fun x hx => by cases hx⟩
  rw [this] at h1
  clear hf this
  refine ac_enter tabOk (sz := 58) Try.func43 rfl (by rw [Try.ntmps43]; rfl) ?_
  repeat' (first
    | ((with_reducible refine aw_seqk ?_); intro K hK hX)
    | ((with_reducible refine isC_reg ?_); refine aw_prune [0, 1, 2, 3, 4, 6, 8, 9, 10] rfl rfl ?_; with_reducible refine aw_region ?_)
    | ((with_reducible refine isC_draw ?_); refine aw_prune [0, 1, 2, 3, 4, 6, 8, 9, 10] rfl rfl ?_; refine aw_drwF [] ?_)
    | ((first | with_reducible refine isA_call ?_ | with_reducible refine isD_call ?_); (first | refine zA ?_ | refine zN ?_ | refine zD ?_); (first | refine c0 (h1) ?_ | refine c0 (h2) ?_ | refine c0 (h3) ?_ | refine c1 (h3) ?_))
    | refine stA ?_
    | refine stD ?_
    | (refine hK _ _ _ _ ?_; clear hK hX K)
    | (refine hX _ _ _ _ _ (by simp) ?_; clear hK hX K))
  refine retK_mk (by first | exact .inl rfl | exact .inr rfl) (by exact ⟨ad_idle, ad_idle_b, trivial⟩) rfl (ResL.two (ResA.tmp rfl) (ResA.tmp rfl)) (out_t (frzl_cons zfz (frzl_cons zfz frzl_nil)))
set_option maxHeartbeats 8000000 in
theorem addb_some (nm sr : List UInt8) (col : Int) (w d : Nat) (v : Vl) (l : List Int) (n Q : Nat) (c : Int) (hn : l.length = n) (h0 : 0 < n) (hnn : n ≤ 900000) (hf : formP ⟨nm, sr, col, 2, w, d⟩) (hv : hashP w l) (ho : okP v) (hz : v.k ≠ 0) (hc1 : 0 < c) (hc2 : c ≤ 262144) (hQ : (smallI w (l ++ [botN v])).length = Q) : AC Try.prog 43 [.agg [sv nm, sv sr, iv col, iv 2, iv w, iv d], .sl 1 n (intc .i64 l), .agg v.c, iv c] (.tup [.c (.sl 1 Q (intc .i64 (smallI w (l ++ [botN v])))), .c (iv 0)]) [] 0 := by
  have hil : (intc .i64 l).length = n := by rw [intc_length, hn]
  have h2 := valid_ok v
  rw [okV_t ho] at h2
  have h3 := clone64_ok l n hn h0 (by omega)
  have h4 := both_ok v
  have hw2 := hf.2.1
  simp only at hw2
  have h1 := valb_ok nm sr col d w l n hn (by simp only [maxLen]; omega) (by omega)
  have : ∀ i : Decidable (formP ⟨nm, sr, col, 2, w, d⟩ ∧ hashP w l), @decide _ i = true := fun i => @decide_eq_true _ i ⟨hf, hv⟩
  rw [this] at h1
  generalize botN v = y at *
  have hrow : intc .i64 l ++ [iv y] = intc .i64 (l ++ [y]) := by simp [intc]
  have hll : (l ++ [y]).length = n + 1 := by rw [List.length_append, hn]; rfl
  have h5 := smallest_ok nm sr col 2 d w (l ++ [y]) (n + 1) hll (by omega) (by omega) (by omega)
  rw [hQ] at h5
  generalize smallI w (l ++ [y]) = S at *
  have hSl : (intc .i64 S).length = Q := by rw [ic_len, hQ]
  obtain ⟨a, m, b⟩ := v
  simp only [Vl.c] at *
  have hz' : a ≠ 0 := hz
  clear hz hf hv this
  refine ac_enter tabOk (sz := 58) Try.func43 rfl (by rw [Try.ntmps43]; rfl) ?_
  repeat' (first
    | ((with_reducible refine aw_seqk ?_); intro K hK hX)
    | ((with_reducible refine isC_reg ?_); refine aw_prune [0, 1, 2, 3, 4, 6, 8, 9, 10] rfl rfl ?_; with_reducible refine aw_region ?_)
    | ((with_reducible refine isC_draw ?_); refine aw_prune [0, 1, 2, 3, 4, 6, 8, 9, 10] rfl rfl ?_; refine aw_drwE [] ?_)
    | ((with_reducible refine isA_call ?_); refine awl_callP1 (h5) g_none rfl (by unfold Body; kernel_rfl) ((by omega)) rfl rfl (hrow) rfl zcv rfl zcv ?_)
    | ((with_reducible refine isE_call ?_); refine d_callP1 (h5) g_none rfl rfl (by unfold Body; kernel_rfl) ((by omega)) rfl rfl (hrow) rfl zcv rfl zcv rfl ?_)
    | ((first | with_reducible refine isA_call ?_ | with_reducible refine isE_call ?_); (first | refine zA ?_ | refine zN ?_ | refine zE ?_); (first | refine c0 (h1) ?_ | refine c0 (h2) ?_ | refine c1 (h3) ?_ | refine c0 (h4) ?_))
    | refine stA ?_
    | refine stE ?_
    | (refine hK _ _ _ _ ?_; clear hK hX K)
    | (refine hX _ _ _ _ _ (by simp) ?_; clear hK hX K))
  refine retK_mk (by first | exact .inl rfl | exact .inr rfl) (by exact ⟨ad_idle, ad_idle_b, trivial⟩) rfl (ResL.two (ResA.tmp rfl) (ResA.tmp rfl)) (out_t (frzl_cons zfz (frzl_cons zfz frzl_nil)))
set_option maxHeartbeats 8000000 in
theorem addb_nil (nm sr : List UInt8) (col : Int) (w d : Nat) (v : Vl) (Q : Nat) (c : Int) (hf : formP ⟨nm, sr, col, 2, w, d⟩) (ho : okP v) (hz : v.k ≠ 0) (hc1 : 0 < c) (hc2 : c ≤ 262144) (hQ : (smallI w [botN v]).length = Q) : AC Try.prog 43 [.agg [sv nm, sv sr, iv col, iv 2, iv w, iv d], .v (.slice none 0 0), .agg v.c, iv c] (.tup [.c (.sl 1 Q (intc .i64 (smallI w [botN v]))), .c (iv 0)]) [] 0 := by
  have h2 := valid_ok v
  rw [okV_t ho] at h2
  have h3 := clone64_nil
  have h4 := both_ok v
  have hw2 := hf.2.1
  simp only at hw2
  have h1 := valb_ok nm sr col d w [] 0 rfl (by simp only [maxLen]; omega) (by omega)
  have : ∀ i : Decidable (formP ⟨nm, sr, col, 2, w, d⟩ ∧ hashP w []), @decide _ i = true := fun i => @decide_eq_true _ i ⟨hf, Nat.zero_le _, List.Pairwise.nil, fun x hx => by cases hx⟩
  rw [this] at h1
  generalize botN v = y at *
  have hrow : [iv y] = intc .i64 [y] := rfl
  have h5 := smallest_ok nm sr col 2 d w [y] 1 rfl (by omega) (by omega) (by omega)
  rw [hQ] at h5
  generalize smallI w [y] = S at *
  have hSl : (intc .i64 S).length = Q := by rw [ic_len, hQ]
  obtain ⟨a, m, b⟩ := v
  simp only [Vl.c] at *
  have hz' : a ≠ 0 := hz
  clear hz hf this
  refine ac_enter tabOk (sz := 58) Try.func43 rfl (by rw [Try.ntmps43]; rfl) ?_
  repeat' (first
    | ((with_reducible refine aw_seqk ?_); intro K hK hX)
    | ((with_reducible refine isC_reg ?_); refine aw_prune [0, 1, 2, 3, 4, 6, 8, 9, 10] rfl rfl ?_; with_reducible refine aw_region ?_)
    | ((with_reducible refine isC_draw ?_); refine aw_prune [0, 1, 2, 3, 4, 6, 8, 9, 10] rfl rfl ?_; refine aw_drwE [] ?_)
    | ((with_reducible refine isA_call ?_); refine awl_callP1 (h5) g_none rfl (by unfold Body; kernel_rfl) ((by omega)) rfl rfl (hrow) rfl zcv rfl zcv ?_)
    | ((with_reducible refine isE_call ?_); refine d_callP1 (h5) g_none rfl rfl (by unfold Body; kernel_rfl) ((by omega)) rfl rfl (hrow) rfl zcv rfl zcv rfl ?_)
    | ((first | with_reducible refine isA_call ?_ | with_reducible refine isE_call ?_); (first | refine zA ?_ | refine zN ?_ | refine zE ?_); (first | refine c0 (h1) ?_ | refine c0 (h2) ?_ | refine c0 (h3) ?_ | refine c0 (h4) ?_))
    | refine stA ?_
    | refine stE ?_
    | (refine hK _ _ _ _ ?_; clear hK hX K)
    | (refine hX _ _ _ _ _ (by simp) ?_; clear hK hX K))
  refine retK_mk (by first | exact .inl rfl | exact .inr rfl) (by exact ⟨ad_idle, ad_idle_b, trivial⟩) rfl (ResL.two (ResA.tmp rfl) (ResA.tmp rfl)) (out_t (frzl_cons zfz (frzl_cons zfz frzl_nil)))
end Go.Proofs.Ytccnhpaldmjkbaa
/-
  Elements taken out of an own row: append(s[:i], s[j:]...), in place. For every program.
-/
set_option linter.unusedVariables false
set_option linter.unusedSimpArgs false
namespace Go.Av
open Go Go.RowKit
theorem setCells_lay (g : Nat) (T : TypeId) : ∀ (vs : List Value) (o : Nat) (w : World) (cur : List Value), o + vs.length ≤ cur.length → w.heap[g]? = some (.cells cur.toArray T (0, 0)) →
    ∃ cur' : List Value, cur'.length = cur.length ∧ cur'.take (o + vs.length) = cur.take o ++ vs ∧ w.setCells g o vs = w.setRow g cur'.toArray
  | [], o, w, cur, hl, h => ⟨cur, rfl, by simp, (setRow_self w g _ T _ h).symm⟩
  | v :: vs, o, w, cur, hl, h => by
    have h1 := setCell_eq_setRow w g o cur.toArray T (0, 0) v h
    rw [List.setIfInBounds_toArray] at h1
    have h2 := setRow_heap w g cur.toArray (cur.set o v).toArray T (0, 0) h
    simp only [List.length_cons] at hl
    obtain ⟨c, c1, c2, c3⟩ := setCells_lay g T vs (o + 1) (w.setRow g (cur.set o v).toArray) (cur.set o v) (by rw [List.length_set]; omega) h2
    refine ⟨c, by rw [c1, List.length_set], ?_, ?_⟩
    · rw [List.length_cons, show o + (vs.length + 1) = o + 1 + vs.length by omega, c2, List.take_set, List.take_add_one, List.getElem?_eq_getElem (by omega), Option.toList_some, List.set_append_right _ _ (by rw [List.length_take]; omega), List.length_take, Nat.min_eq_left (by omega), Nat.sub_self, List.set_cons_zero, List.append_assoc]
      rfl
    · show (w.setCell ⟨g, o, none⟩ v).setCells g (o + 1) vs = _
      rw [h1, c3, setRow_setRow]
section
variable {P : Program} {tab : Tab} {ev : Evl} {h : Heap} {d : Option Tmp} {T ty : TypeId} {pos : String} {aft : Array Edge} {gd : Option (Nat × Bool)} {q : Nat} {x y : Operand}
theorem e_shift (tb : TabOk P tab) {e e' : TyE} {E size i k id off : Nat} {fl : Bool} {cs cs' : List CV} (hT : tyLook tab T = some e) (hk : e.kind = .slice E) (hE : tyLook tab E = some e') (hs : Nat.beq e'.size size = true) (hp : Nat.blt 0 size = true)
    (hx : ev x = some (.own id 0 i size true)) (hy : ev y = some (.own id off k size fl)) (ho : lk h id = some (.row E cs)) (hcl : 0 < cs.length) (hoff : off + k * size ≤ cs.length) (hik : (i + k) * size ≤ cs.length) (hcs : cs.take (i * size) ++ (cs.drop off).take (k * size) = cs') :
    EStep P ⟨d, .call ⟨.builtin .append, #[x, y], #[T, T]⟩, ty, pos, aft, gd⟩ ev h (.own id 0 (i + k) size true) [] (some (id, some (.row E cs'))) q q := by
  intro B dom M H w a K Q hh hn hc he hK
  subst hcs
  have hpx := he x _ hx
  have hpy := he y _ hy
  simp only [Rep] at hpx hpy
  obtain ⟨hid, hpx⟩ := hpx
  obtain ⟨_, hpy⟩ := hpy
  have hs' := Nat.eq_of_beq_eq_true hs
  have hsp : 0 < size := by simpa [Nat.blt_eq] using hp
  have hob := hc.obj id _ hid (hh id _ ho hid)
  rcases hob with ⟨h1, h2⟩ | ⟨g, us, vs, hM, hb, hus, hone⟩
  · subst h2; simp at hcl
  · have hul := hus.length
    rcases hpx with ⟨_, _, h3, _⟩ | ⟨g', cp, hM', hpx, hicp, hcp, hfull⟩ | ⟨_, h3, _⟩
    · rw [hM] at h3; cases h3
    · rw [hM] at hM'
      injection hM' with hM'
      subst hM'
      obtain ⟨e0, hsh⟩ := hfull trivial
      have htot : us.length + vs.length = cp * size := by
        unfold World.shape? at hsh
        rw [hb] at hsh
        simp only [Option.some.injEq, Prod.mk.injEq, List.size_toArray, List.length_append] at hsh
        omega
      have hle : i + k ≤ cp := Nat.le_of_mul_le_mul_right (c := size) (by omega) hsp
      have hikm : (i + k) * size = i * size + k * size := Nat.add_mul ..
      have hnew : ∃ A c2, a.eval y = .slice A k c2 ∧ (Builtin.firstCells size k (.slice A k c2)).run P w = .ok ((us.drop off).take (k * size)).toArray w := by
        rcases hpy with ⟨k0, _, h3, _⟩ | ⟨g', c2, h3, hpy, _, _, _⟩ | ⟨k0, _, A, c2, hpy, _⟩
        · rw [hM] at h3; cases h3
        · rw [hM] at h3
          injection h3 with h3
          subst h3
          refine ⟨_, _, hpy, run_firstCells_some (P := P) w size k ⟨g, off, none⟩ k c2 ((us.drop off).take (k * size)) (by rw [List.length_take, List.length_drop]; omega) fun j v hj => ?_⟩
          have hjl := (List.getElem?_eq_some_iff.1 hj).1
          rw [List.length_take, List.length_drop] at hjl
          rw [List.getElem?_take_of_lt (by omega), List.getElem?_drop] at hj
          rw [add_mk]
          exact cell_row hb hj
        · subst k0
          refine ⟨A, c2, hpy, ?_⟩
          rw [Nat.zero_mul, List.take_zero]
          cases A <;> simp [Builtin.firstCells, loadCells, loadCellsFrom]
      obtain ⟨A, c2, hey, hfc⟩ := hnew
      generalize hnews : (us.drop off).take (k * size) = news at hfc
      have hnl : news.length = k * size := by rw [← hnews, List.length_take, List.length_drop]; omega
      have hnone : ∀ u ∈ news, u.oneCell' = true := fun u hu => by
        rw [← hnews] at hu
        exact hone u (List.mem_of_mem_drop (List.mem_of_mem_take hu))
      have hfits : i * size + news.length ≤ (us ++ vs).length := by rw [List.length_append]; omega
      have hst := run_storeCells_cells (P := P) g (i * size) news 0 w (fun j hj => by
          rw [Nat.add_zero, cell_blk hb, List.getElem?_eq_getElem (by omega)]; rfl) (fun j hj => by
          unfold World.frozen?
          rw [hb]
          simp) hnone
      simp only [Nat.add_zero] at hst
      obtain ⟨cur, l1, l2, l3⟩ := setCells_lay g E news (i * size) w (us ++ vs) hfits hb
      rw [l3] at hst
      obtain ⟨ti, hi, hts, _⟩ := (tyLook_ok tb hE).parts
      have hrun : (Builtin.append_ #[T, T] ty #[a.eval x, a.eval y]).run P w = .ok (.slice (some ⟨g, 0, none⟩) (i + k) cp) (w.setRow g cur.toArray) := by
        have hts' : ti.size = size := by rw [hts, hs']
        have hz0 : (⟨g, 0, none⟩ : Addr).add (i * size) = ⟨g, i * size, none⟩ := by simp [add_mk]
        rw [hpx, hey]
        simp [Builtin.append_, run_underlying ((tyLook_ok tb hT).slice hk), sizeOf, typeInfo, hi, Builtin.lenOf, hle, hts', hfc, hz0, hst]
      obtain ⟨k1, k2⟩ := hc.turnE (o' := .row E (cs.take (i * size) ++ (cs.drop off).take (k * size))) (w' := w.setRow g cur.toArray) hid (hh id _ ho hid) hM rfl rfl rfl (by simp) (fun k hk => setRow_other w g k _ hk) (shape_setRow hb (by simp [l1]))
        (fun hext => .inr ⟨g, us.take (i * size) ++ news, cur.drop (i * size + news.length), rfl, by
            rw [show us.take (i * size) ++ news = cur.take (i * size + news.length) by rw [l2, List.take_append_of_le_length (by omega)], List.take_append_drop]
            exact setRow_heap w g _ _ E _ hb, RepCs.append (RepCs.mono hext.ok _ _ (RepCs.take _ hus)) (by rw [← hnews]; exact RepCs.mono hext.ok _ _ (RepCs.take _ (RepCs.drop _ hus))), fun u hu => (List.mem_append.1 hu).elim (fun h => hone u (List.mem_of_mem_take h)) (hnone u)⟩)
      unfold Oper.wp
      have hx' := exec_append' (P := P) (T := T) (Ti := T) (ty := ty) (d := d) (pos := pos) (aft := aft) (gd := gd) (x := x) (y := y) a.eval hrun
      simp only [hx', Oper.upon]
      rw [ad_self] at hK
      refine hK _ _ M k2 k1 ?_
      simp only [Rep]
      exact ⟨hid, .inr (.inl ⟨g, cp, hM, rfl, hle, hcp, fun _ => ⟨e0, by
        have h9 : (w.setRow g cur.toArray).shape? g = w.shape? g := shape_setRow hb (by simp [l1])
        rw [h9]; exact hsh⟩⟩)⟩
    · cases h3
end
section
variable {P : Program} {tab : Tab} {sz n i0 n0 m : Nat} {env env0 : Env} {h h0 hr : Heap} {dfs : Defs} {K : AK} {ops : Array Oper} {l rest : List Oper} {es : List Eat} {ids : List Nat} {d : Option Tmp} {t : Tmp} {T ty : TypeId} {pos : String} {aft : Array Edge} {gd : Option (Nat × Bool)} {x y : Operand}
theorem awl_shift (tb : TabOk P tab) {e e' : TyE} {E size i k id off : Nat} {fl : Bool} {cs cs' : List CV} (hg : guardA ops env ⟨d, .call ⟨.builtin .append, #[x, y], #[T, T]⟩, ty, pos, aft, gd⟩ true) (hd : dstOk d sz = true) (hT : tyLook tab T = some e) (hk : e.kind = .slice E) (hE : tyLook tab E = some e') (hs : Nat.beq e'.size size = true) (hp : Nat.blt 0 size = true)
    (hx : evA env x = some (.own id 0 i size true)) (hy : evA env y = some (.own id off k size fl)) (ho : lk h id = some (.row E cs)) (hcl : 0 < cs.length) (hoff : off + k * size ≤ cs.length) (hik : (i + k) * size ≤ cs.length) (hcs : cs.take (i * size) ++ (cs.drop off).take (k * size) = cs')
    (next : AWL P ops sz rest K n (putE env d (.own id 0 (i + k) size true)) ((id, .row E cs') :: h) dfs) : AWL P ops sz (⟨d, .call ⟨.builtin .append, #[x, y], #[T, T]⟩, ty, pos, aft, gd⟩ :: rest) K n env h dfs :=
  awl_est (c := some (id, some (.row E cs'))) (Δ := []) hg hd (Nat.le_refl _) rfl (e_shift tb hT hk hE hs hp hx hy ho hcl hoff hik hcs) (fun id h1 h2 => by omega) (by simp) next
theorem d_shift (tb : TabOk P tab) {e e' : TyE} {E size i k id off : Nat} {fl : Bool} {cs cs' : List CV} (hg : guardA l.toArray env ⟨some t, .call ⟨.builtin .append, #[x, y], #[T, T]⟩, ty, pos, aft, gd⟩ true) (hi : idsF env (Oper.looksAt l.toArray ⟨some t, .call ⟨.builtin .append, #[x, y], #[T, T]⟩, ty, pos, aft, gd⟩) = some ids) (hfl : filtF ids h = some hr) (hT : tyLook tab T = some e) (hk : e.kind = .slice E) (hE : tyLook tab E = some e') (hs : Nat.beq e'.size size = true) (hp : Nat.blt 0 size = true)
    (hx : evT (Oper.looksAt l.toArray ⟨some t, .call ⟨.builtin .append, #[x, y], #[T, T]⟩, ty, pos, aft, gd⟩) env x = some (.own id 0 i size true)) (hy : evT (Oper.looksAt l.toArray ⟨some t, .call ⟨.builtin .append, #[x, y], #[T, T]⟩, ty, pos, aft, gd⟩) env y = some (.own id off k size fl)) (ho : lk hr id = some (.row E cs)) (hcl : 0 < cs.length) (hoff : off + k * size ≤ cs.length) (hik : (i + k) * size ≤ cs.length) (hcs : cs.take (i * size) ++ (cs.drop off).take (k * size) = cs') (hin : Nat.blt id n = true)
    (next : DrwE P l sz K dfs i0 n0 env0 h0 (es ++ [(ids, some (id, some (.row E cs')))]) m rest n ((t, .own id 0 (i + k) size true) :: env) ((id, .row E cs') :: h)) : DrwE P l sz K dfs i0 n0 env0 h0 es (m + 1) (⟨some t, .call ⟨.builtin .append, #[x, y], #[T, T]⟩, ty, pos, aft, gd⟩ :: rest) n env h :=
  drwE_step (v := .own id 0 (i + k) size true) (Δ := []) hg (Nat.le_refl _) (filtF_spec hfl) (by simp) (c := some (id, some (.row E cs'))) rfl (fun k x e => by
    injection e with e; injection e with e1 e2; subst e1
    exact ⟨(filtF_spec hfl _ _ ho).2, by simpa [Nat.blt_eq] using hin⟩) (e_shift tb hT hk hE hs hp hx hy ho hcl hoff hik hcs) (fun id h1 h2 => by omega) (by simp) next
end
end Go.Av
/-
  The law SketchOrder (walk).
-/
set_option linter.unusedVariables false
set_option linter.unusedSimpArgs false
namespace Go.Proofs.Ytccnhpaldmjkbaa
open Go Go.RowKit Go.Av
set_option maxRecDepth 100000
/-- What a call of Add must do at each step: X tells the cells after some entries. -/
def StepX (nm sr : List UInt8) (col : Nat) (kd : Int) (w d : Nat) (A : List En) (X : List En → CV) : Prop :=
  ∀ (R L : List En) (e : En), (R ++ L).Perm A → e ∈ L → AC Try.prog 43 [.agg [sv nm, sv sr, iv col, iv kd, iv w, iv d], X R, .agg (cellV e.r col).c, iv e.n] (.tup [.c (X (R ++ [e])), .c (iv 0)]) [] 0
theorem erase_perm {R L A : List En} {i : Nat} {e : En} (h : (R ++ L).Perm A) (he : L[i]? = some e) : (R ++ [e] ++ L.eraseIdx i).Perm A := by
  refine List.Perm.trans ?_ h
  rw [List.append_assoc]
  refine List.Perm.append_left R ?_
  obtain ⟨h1, h2⟩ := List.getElem?_eq_some_iff.1 he
  have h3 : L = L.take i ++ e :: L.drop (i + 1) := by rw [← drop_at he, List.take_append_drop]
  rw [List.eraseIdx_eq_take_drop_succ]
  conv => rhs; rw [h3]
  show (e :: (L.take i ++ L.drop (i + 1))).Perm _
  exact List.perm_middle.symm
theorem ec_erase {L : List En} {i : Nat} : (ec L).take (i * 2) ++ (ec L).drop ((i + 1) * 2) = ec (L.eraseIdx i) := by
  rw [ec_take, ec_drop, ← ec_app, List.eraseIdx_eq_take_drop_succ]
attribute [local irreducible] Still Adds AWL AW Drw DrwE EStep AC AWR Weak Frz Src RetK Out InK ItK AsK RdK RetT OutT ACT ACS RetS ACP RetP
set_option maxHeartbeats 8000000 in
theorem order_walk (l : List Int) (n : Nat) (hn : l.length = n) (hml : n ≤ maxLen) (hb : 8 * n ≤ 140737488355328) (a1 a2 : Int) (col w d : Nat) (kd : Int) (A : List En) (na : Nat) (X : List En → CV) (hw : w ≤ 1000) (hd : d ≤ 1000) (hcol : col ≤ 1000) (hna : A.length = na) (hna4 : na ≤ 500) (hfA : fitB A) (hrow2 : ∀ e ∈ A, e.r.length = 2)
    (t1 : 0 ≤ a2) (t2 : a2 ≤ 9223372036854775807)
    (h1 : ACT Try.prog 36 83 (tpC l n 0) [] (tpC l n a1) (.agg [sv [115], sv [116, 48], iv col, iv kd, iv w, iv d]))
    (h2 : ACT Try.prog 23 83 (tpC l n a1) [iv 2, iv 8, bv false] (tpC l n a2) (.sl 2 na (ec A)))
    (h5 : AC Try.prog 37 [.agg [sv [115], sv [116, 48], iv col, iv kd, iv w, iv d], .sl 2 na (ec A)] (.tup [.c (X A), .c (iv 0)]) [] 0)
    (h6 : AC Try.prog 37 [.agg [sv [115], sv [116, 48], iv col, iv kd, iv w, iv d], .v (.slice none 0 0)] (.tup [.c (X []), .c (iv 0)]) [] 0)
    (h7 : ∀ R : List En, R.Perm A → AC Try.prog 39 [X R, X A] (.c (bv true)) [] 0)
    (hSt : StepX [115] [116, 48] col kd w d A X) : AC Try.prog 11 [.sl 1 n (intc .i64 l)] (.c (bv true)) [] 0 := by
  have haw := awake12_ok
  have hil : (intc .i64 l).length = n := by rw [intc_length, hn]
  have hAl : (ec A).length = na * 2 := by rw [ec_length, hna]
  refine ac_enter tabOk (sz := 94) Try.func11 rfl (by rw [Try.ntmps11]; rfl) ?_
  repeat' (first
    | ((with_reducible refine aw_seqk ?_); intro K hK hX)
    | ((with_reducible refine isC_reg ?_); refine aw_prune [0, 2, 3, 4, 5, 6, 7, 8, 9, 10, 11] rfl rfl ?_; with_reducible refine aw_region ?_)
    | ((with_reducible refine isC_draw ?_); refine aw_prune [0, 2, 3, 4, 5, 6, 7, 8, 9, 10, 11] rfl rfl ?_; refine aw_drwF [18] ?_)
    | ((with_reducible refine isA_build ?_); refine awl_fzE (m' := n) (cs' := intc .i64 l) 5 rfl rfl zln (by omega) (by simp) ?_)
    | ((with_reducible refine isA_call ?_); refine awl_callT (h1) g_none rfl (by unfold Body; kernel_rfl) rfl rfl rfl rfl zcv rfl (by (try simp only [tpC, List.map_cons, List.map_nil]); exact rfl) ?_)
    | ((with_reducible refine isA_call ?_); refine awl_callT (h2) g_none rfl (by unfold Body; kernel_rfl) rfl rfl rfl rfl zcv rfl (by (try simp only [tpC, List.map_cons, List.map_nil]); exact rfl) ?_)
    | ((first | with_reducible refine isA_call ?_ | with_reducible refine isD_call ?_); (first | refine zA ?_ | refine zN ?_ | refine zD ?_); (first | refine c0 (h5) ?_ | refine c0 (h6) ?_))
    | ((first | with_reducible refine isA_call ?_ | with_reducible refine isA_callv ?_); refine awl_inl tabOk [0, 1, 2, 3, 4, 5, 6, 7, 8, 9, 10, 11, 12, 13, 14, 15, 16, 17, 18, 19, 20, 21, 22, 23, 24, 25, 26, 27, 28, 29, 30, 31, 32, 33, 34, 35, 36, 37, 38, 39, 40, 41, 42, 43, 44, 45, 46, 47, 48, 49, 50, 51, 52, 53, 54, 55, 56, 57, 58, 59, 60, 61, 62, 63, 64, 65, 66, 67, 68, 69, 70, 71, 72, 73, 74, 75, 76, 77, 78, 79, 80, 81, 82, 83, 84, 85, 86, 87, 88, 89, 90, 91, 92, 93] g_none rfl rfl (by unfold Body; kernel_rfl) Try.func18 rfl rfl rfl (szf := 8) (by rw [Try.ntmps18]; rfl) rfl ?_)
    | ((with_reducible refine isA_store ?_); refine awl_storeA tabOk g_none rfl rfl rfl (by first | exact Parts.mixed _ | exact Parts.closed _) (by rfl) (by rfl) rfl (Nat.le_of_ble_eq_true rfl) (by rfl) ?_)
    | refine stA ?_
    | refine stD ?_
    | (refine hK _ _ _ _ ?_; clear hK hX K)
    | (refine hX _ _ _ _ _ (by simp) ?_; clear hK hX K)
    | (first | refine inK_some (by first | exact .inl rfl | exact .inr rfl) (by exact trivial) rfl rfl (ResL.one (ResA.tmp rfl)) ?_ | refine inK_none (by first | exact .inl rfl | exact .inr rfl) (by exact trivial) rfl rfl (ResL.one (ResA.tmp rfl)) ?_))
  refine aw_loopo [7, 8, 9, 10, 11, 31, 32, 33] [2, 3, 4, 5] rfl rfl (fun p : List En × List En × Int × Nat => [(7, .c (iv 0)), (8, .c (X p.1)), (9, .own 5 0 p.2.2.2 2 true)]) (fun p => [(2, .blk 83 [.c (.sl 1 n (intc .i64 l)), .c (iv p.2.2.1)]), (3, .blk 60 [.c (sv [115]), .c (sv [116, 48]), .c (iv col), .c (iv kd), .c (iv w), .c (iv d)]), (5, .row 46 (ec p.2.1))]) (fun p => (p.1 ++ p.2.1).Perm A ∧ p.2.1.length = p.2.2.2 ∧ 0 ≤ p.2.2.1 ∧ p.2.2.1 ≤ 9223372036854775807) (fun p => p.2.2.2) ([], A, a2, na) ⟨List.Perm.refl _, hna, t1, t2⟩ weakA ?_
  rintro ⟨R, L, a, m⟩ ⟨hp, hm, i1, i2⟩ K hK hX
  dsimp only at hp hm i1 i2 ⊢
  have hLl : (ec L).length = m * 2 := by rw [ec_length, hm]
  clear h1 h2 h5 h6
  by_cases hm0 : 0 < m
  · have hmA : m ≤ na := by
      have := hp.length_eq
      rw [List.length_append] at this
      omega
    have h3 := next_ok l n a m hn hml i1 i2 (by omega)
    obtain ⟨b1, b2⟩ : 0 ≤ nextX l n a m ∧ nextX l n a m < m := by
      by_cases h : m = 1
      · unfold nextX
        rw [if_pos (show stopP n a m from .inl (by omega))]
        omega
      · exact nextX_bd l n a m (by omega) (by omega)
    obtain ⟨b3, b4⟩ := nextA_bd n a m i1 i2
    obtain ⟨i, hi⟩ : ∃ i : Nat, nextX l n a m = i := ⟨(nextX l n a m).toNat, by omega⟩
    rw [hi] at h3 b2
    generalize nextA n a m = a' at *
    obtain ⟨e, he⟩ : ∃ e, L[i]? = some e := ⟨L[i]'(by omega), List.getElem?_eq_getElem _⟩
    have hmem := List.mem_of_getElem? he
    have hmA2 : e ∈ A := hp.mem_iff.1 (List.mem_append.2 (.inr hmem))
    have hen := ec_n he
    have her := ec_row he
    have hr2 := hrow2 e hmA2
    have hrl : (rc e.r).length = 2 * 3 := by rw [rc_length, hr2]
    have hadd := hSt R L e hp hmem
    have hper := erase_perm hp he
    have hels : (L.eraseIdx i).length = m - 1 := by rw [List.length_eraseIdx, if_pos (by omega), hm]
    have hshift : (ec L).take (i * 2) ++ ((ec L).drop (0 + (i + 1) * 2)).take ((m - (i + 1)) * 2) = ec (L.eraseIdx i) := by
      have h9 : ((ec L).drop ((i + 1) * 2)).take ((m - (i + 1)) * 2) = (ec L).drop ((i + 1) * 2) := List.take_of_length_le (by rw [List.length_drop, hLl]; omega)
      rw [Nat.zero_add, h9]
      exact ec_erase
    have hoffx : 0 + (i + 1) * 2 + (m - (i + 1)) * 2 ≤ (ec L).length := by omega
    have hikx : (i + (m - (i + 1))) * 2 ≤ (ec L).length := by omega
    have hmk : i + (m - (i + 1)) = m - 1 := by omega
    have hat : col < 2 → ((rc e.r).drop (col * 3)).take 3 = (cellV e.r col).c := fun hc => by
      obtain ⟨v, hv⟩ : ∃ v, e.r[col]? = some v := ⟨e.r[col]'(by omega), List.getElem?_eq_getElem _⟩
      have : cellV e.r col = v := by unfold cellV; rw [List.getD_eq_getElem?_getD, hv]; rfl
      rw [this]
      exact rc_at hv
    have hnu : ¬ col < 2 → cellV e.r col = Vl.nul := fun hc => by unfold cellV; rw [List.getD_eq_getElem?_getD, List.getElem?_eq_none (by omega)]; rfl
    have hper2 : (R ++ [e] ++ L.eraseIdx i).Perm A := hper
    generalize R ++ [e] = R' at *
    generalize hL' : L.eraseIdx i = L' at *
    obtain ⟨r, c⟩ := e
    simp only at hen her hr2 hrl hadd hat hnu
    clear he hmem hmA2 hper hSt h7 hp hi b1
    by_cases hc : col < 2
    · have hav := hat hc
      clear hnu hat
      generalize cellV r col = v at hadd hav
      obtain ⟨x, y, t⟩ := v
      simp only [Vl.c] at hadd hav
      repeat' (first
    | ((with_reducible refine aw_seqk ?_); intro K hK hX)
    | ((with_reducible refine isC_reg ?_); refine aw_prune [0, 2, 3, 4, 5, 6, 7, 8, 9, 10, 11] rfl rfl ?_; with_reducible refine aw_region ?_)
    | ((with_reducible refine isE_move ?_); refine d_still0 g_none (s_move rfl) ?_)
    | ((with_reducible refine isC_draw (i := 14) ?_); refine aw_prune [0, 2, 3, 4, 5, 6, 7, 8, 9, 10, 11] rfl rfl ?_; refine aw_drwE [] ?_)
    | ((with_reducible refine isC_draw ?_); refine aw_prune [0, 2, 3, 4, 5, 6, 7, 8, 9, 10, 11] rfl rfl ?_; refine aw_drwF [] ?_)
    | (refine drw_endA (by kernel_rfl) (by kernel_rfl) (by kernel_rfl) rfl ?_)
    | (refine k_only ?_)
    | ((with_reducible refine isA_call ?_); refine awl_callT (h3) g_none rfl (by unfold Body; kernel_rfl) rfl rfl rfl rfl zcv rfl (by (try simp only [tpC, List.map_cons, List.map_nil]); exact rfl) ?_)
    | ((with_reducible refine isE_call ?_); refine d_callT (h3) g_none rfl rfl (by unfold Body; kernel_rfl) rfl rfl rfl rfl zcv rfl (by (try simp only [tpC, List.map_cons, List.map_nil]); exact rfl) rfl ?_)
    | ((with_reducible refine isE_bi ?_); refine d_shift tabOk g_none rfl rfl rfl rfl rfl rfl rfl rfl rfl rfl (by omega) (by exact hoffx) (by exact hikx) hshift rfl ?_)
    | ((first | with_reducible refine isA_call ?_ | with_reducible refine isD_call ?_ | with_reducible refine isE_call ?_); (first | refine zA ?_ | refine zN ?_ | refine zD ?_ | refine zE ?_); (first | refine c0 (hadd) ?_))
    | ((first | ((with_reducible refine isA_any ?_); refine xA ?_) | ((with_reducible refine isDk_any ?_); refine xD ?_) | ((with_reducible refine isEk_any ?_); refine xE ?_)); (first | ((with_reducible refine e_load ?_); (first | refine ex_i (s_load1 tabOk rfl rfl rfl rfl (by first | (rw [Nat.zero_add]; exact hen) | (rw [Nat.zero_add]; exact her))) ?_ | refine ex_i (s_load1r tabOk rfl rfl rfl rfl (by first | (rw [Nat.zero_add]; exact hen) | (rw [Nat.zero_add]; exact her))) ?_ | refine ex_i (s_load1i tabOk rfl rfl rfl (by first | (rw [Nat.zero_add]; exact hen) | (rw [Nat.zero_add]; exact her))) ?_ | refine ex_i (s_loadAr tabOk rfl rfl rfl rfl (by first | exact hav | exact whole0 (by first | rfl | omega) | rfl) zln) ?_ | refine ex_i (s_loadAi tabOk rfl rfl rfl (by first | exact hav | exact whole0 (by first | rfl | omega) | rfl) zln) ?_)) | ((with_reducible refine e_ix ?_); (first | refine ex_i (s_ixV1 tabOk rfl rfl zcj rfl rfl rfl rfl rfl zle (by first | (rw [Nat.zero_add]; exact hen) | (rw [Nat.zero_add]; exact her))) ?_ | refine ex_i (s_ixStr tabOk rfl rfl zcj rfl rfl (by first | (rw [Nat.zero_add]; exact hen) | (rw [Nat.zero_add]; exact her))) ?_)) | ((with_reducible refine e_slice ?_); (first | refine ex_i (s_slArri tabOk rfl rfl rfl rfl zbd zbd zle zle (by decide) (by first | exact hav | exact whole0 (by first | rfl | omega) | rfl) zln) ?_))))
    | ((with_reducible refine isA_store ?_); refine awl_storeA tabOk g_none rfl rfl rfl (by first | exact Parts.mixed _ | exact Parts.closed _) (by rfl) (by rfl) rfl (Nat.le_of_ble_eq_true rfl) (by rfl) ?_)
    | ((with_reducible refine isE_store ?_); refine d_storeA tabOk g_none rfl rfl rfl rfl rfl (by first | exact Parts.mixed _ | exact Parts.closed _) (by rfl) (by rfl) rfl (Nat.le_of_ble_eq_true rfl) (by rfl) rfl ?_)
    | (refine drwE_end3 (by kernel_rfl) (by kernel_rfl) (by kernel_rfl) (by kernel_rfl) rfl ?_)
    | refine stA ?_
    | refine stD ?_
    | refine stE ?_
    | (refine hK _ _ _ _ ?_; clear hK hX K)
    | (refine hX _ _ _ _ _ (by simp) ?_; clear hK hX K))
      exact ⟨(R', L', a', m - 1), ⟨hper2, hels, b3, b4⟩, by simp only; omega, (by refine weak_mk rfl ?_ ?_ rfl <;> (repeat' (first | exact weakE_nil | exact weakH_nil | refine weakE_cons rfl (by first | rfl | (exact own_eq rfl rfl hmk) | exact own_eq rfl rfl (by omega) | exact int_eq (by omega) | (simp <;> fail) | (congr 4; omega) | (congr 3; omega) | (congr 2; omega)) rfl ?_ | refine weakH_cons rfl (by first | rfl | (exact own_eq rfl rfl hmk) | exact own_eq rfl rfl (by omega) | exact int_eq (by omega) | (simp <;> fail) | (congr 4; omega) | (congr 3; omega) | (congr 2; omega)) rfl ?_)))⟩
    · have hnv := hnu hc
      rw [hnv] at hadd
      simp only [Vl.c, Vl.nul] at hadd
      clear hnu hat
      repeat' (first
    | ((with_reducible refine aw_seqk ?_); intro K hK hX)
    | ((with_reducible refine isC_reg ?_); refine aw_prune [0, 2, 3, 4, 5, 6, 7, 8, 9, 10, 11] rfl rfl ?_; with_reducible refine aw_region ?_)
    | ((with_reducible refine isE_move ?_); refine d_still0 g_none (s_move rfl) ?_)
    | ((with_reducible refine isC_draw (i := 14) ?_); refine aw_prune [0, 2, 3, 4, 5, 6, 7, 8, 9, 10, 11] rfl rfl ?_; refine aw_drwE [] ?_)
    | ((with_reducible refine isC_draw ?_); refine aw_prune [0, 2, 3, 4, 5, 6, 7, 8, 9, 10, 11] rfl rfl ?_; refine aw_drwF [] ?_)
    | (refine drw_endA (by kernel_rfl) (by kernel_rfl) (by kernel_rfl) rfl ?_)
    | (refine k_only ?_)
    | ((with_reducible refine isA_call ?_); refine awl_callT (h3) g_none rfl (by unfold Body; kernel_rfl) rfl rfl rfl rfl zcv rfl (by (try simp only [tpC, List.map_cons, List.map_nil]); exact rfl) ?_)
    | ((with_reducible refine isE_call ?_); refine d_callT (h3) g_none rfl rfl (by unfold Body; kernel_rfl) rfl rfl rfl rfl zcv rfl (by (try simp only [tpC, List.map_cons, List.map_nil]); exact rfl) rfl ?_)
    | ((with_reducible refine isE_bi ?_); refine d_shift tabOk g_none rfl rfl rfl rfl rfl rfl rfl rfl rfl rfl (by omega) (by exact hoffx) (by exact hikx) hshift rfl ?_)
    | ((first | with_reducible refine isA_call ?_ | with_reducible refine isD_call ?_ | with_reducible refine isE_call ?_); (first | refine zA ?_ | refine zN ?_ | refine zD ?_ | refine zE ?_); (first | refine c0 (hadd) ?_))
    | ((first | ((with_reducible refine isA_any ?_); refine xA ?_) | ((with_reducible refine isDk_any ?_); refine xD ?_) | ((with_reducible refine isEk_any ?_); refine xE ?_)); (first | ((with_reducible refine e_load ?_); (first | refine ex_i (s_load1 tabOk rfl rfl rfl rfl (by first | (rw [Nat.zero_add]; exact hen) | (rw [Nat.zero_add]; exact her))) ?_ | refine ex_i (s_load1r tabOk rfl rfl rfl rfl (by first | (rw [Nat.zero_add]; exact hen) | (rw [Nat.zero_add]; exact her))) ?_ | refine ex_i (s_load1i tabOk rfl rfl rfl (by first | (rw [Nat.zero_add]; exact hen) | (rw [Nat.zero_add]; exact her))) ?_ | refine ex_i (s_loadAr tabOk rfl rfl rfl rfl (by first | fail | exact whole0 (by first | rfl | omega) | rfl) zln) ?_ | refine ex_i (s_loadAi tabOk rfl rfl rfl (by first | fail | exact whole0 (by first | rfl | omega) | rfl) zln) ?_)) | ((with_reducible refine e_ix ?_); (first | refine ex_i (s_ixV1 tabOk rfl rfl zcj rfl rfl rfl rfl rfl zle (by first | (rw [Nat.zero_add]; exact hen) | (rw [Nat.zero_add]; exact her))) ?_ | refine ex_i (s_ixStr tabOk rfl rfl zcj rfl rfl (by first | (rw [Nat.zero_add]; exact hen) | (rw [Nat.zero_add]; exact her))) ?_)) | ((with_reducible refine e_slice ?_); (first | refine ex_i (s_slArri tabOk rfl rfl rfl rfl zbd zbd zle zle (by decide) (by first | fail | exact whole0 (by first | rfl | omega) | rfl) zln) ?_))))
    | ((with_reducible refine isA_store ?_); refine awl_storeA tabOk g_none rfl rfl rfl (by first | exact Parts.mixed _ | exact Parts.closed _) (by rfl) (by rfl) rfl (Nat.le_of_ble_eq_true rfl) (by rfl) ?_)
    | ((with_reducible refine isE_store ?_); refine d_storeA tabOk g_none rfl rfl rfl rfl rfl (by first | exact Parts.mixed _ | exact Parts.closed _) (by rfl) (by rfl) rfl (Nat.le_of_ble_eq_true rfl) (by rfl) rfl ?_)
    | (refine drwE_end3 (by kernel_rfl) (by kernel_rfl) (by kernel_rfl) (by kernel_rfl) rfl ?_)
    | refine stA ?_
    | refine stD ?_
    | refine stE ?_
    | (refine hK _ _ _ _ ?_; clear hK hX K)
    | (refine hX _ _ _ _ _ (by simp) ?_; clear hK hX K))
      exact ⟨(R', L', a', m - 1), ⟨hper2, hels, b3, b4⟩, by simp only; omega, (by refine weak_mk rfl ?_ ?_ rfl <;> (repeat' (first | exact weakE_nil | exact weakH_nil | refine weakE_cons rfl (by first | rfl | (exact own_eq rfl rfl hmk) | exact own_eq rfl rfl (by omega) | exact int_eq (by omega) | (simp <;> fail) | (congr 4; omega) | (congr 3; omega) | (congr 2; omega)) rfl ?_ | refine weakH_cons rfl (by first | rfl | (exact own_eq rfl rfl hmk) | exact own_eq rfl rfl (by omega) | exact int_eq (by omega) | (simp <;> fail) | (congr 4; omega) | (congr 3; omega) | (congr 2; omega)) rfl ?_)))⟩
  · have hm1 : m = 0 := by omega
    have hLn : L = [] := List.eq_nil_of_length_eq_zero (by omega)
    subst hm1 hLn
    rw [List.append_nil] at hp
    have h8 := h7 R hp
    clear h7 hSt
    repeat' (first
    | ((with_reducible refine aw_seqk ?_); intro K hK hX)
    | ((with_reducible refine isC_reg ?_); refine aw_prune [0, 2, 3, 4, 5, 6, 7, 8, 9, 10, 11] rfl rfl ?_; with_reducible refine aw_region ?_)
    | ((with_reducible refine isC_draw ?_); refine aw_prune [0, 2, 3, 4, 5, 6, 7, 8, 9, 10, 11] rfl rfl ?_; refine aw_drwF [] ?_)
    | ((first | with_reducible refine isA_call ?_ | with_reducible refine isD_call ?_); (first | refine zA ?_ | refine zN ?_ | refine zD ?_); (first | refine c0 (h8) ?_ | refine c0 (haw) ?_))
    | refine stA ?_
    | refine stD ?_
    | (refine hK _ _ _ _ ?_; clear hK hX K)
    | (refine hX _ _ _ _ _ (by simp) ?_; clear hK hX K))
    refine retK_mk (by first | exact .inl rfl | exact .inr rfl) (by exact trivial) rfl (ResL.one (ResA.tmp rfl)) (by first | exact out_c zfz | exact out_own rfl rfl)
end Go.Proofs.Ytccnhpaldmjkbaa
/-
  Cells after some entries, in any order. Plain.
-/
set_option linter.unusedVariables false
set_option linter.unusedSimpArgs false
namespace Go.Proofs.Ytccnhpaldmjkbaa
open Go Go.RowKit Go.Av
set_option maxRecDepth 100000
def foldK (kd : Int) (w d col N : Nat) (R : List En) : List Int := R.foldl (stepE kd w d col) (List.replicate N 0)
theorem foldK_snoc (kd : Int) (w d col N : Nat) (R : List En) (e : En) : foldK kd w d col N (R ++ [e]) = stepE kd w d col (foldK kd w d col N R) e := by simp [foldK]
theorem foldK_length (kd : Int) (w d col N : Nat) (R : List En) : (foldK kd w d col N R).length = N := by unfold foldK; rw [foldl_length, List.length_replicate]
theorem foldK_build {kd : Int} {w d col N n : Nat} {A : List En} (hN : w * d = N) (hn : A.length = n) : buildN kd w d col A n = foldK kd w d col N A := by
  unfold buildN foldK
  rw [hN, List.take_of_length_le (by omega)]
theorem wsum_perm (g : List Vl → Int) {a b : List En} (h : a.Perm b) : wsum g a = wsum g b := by
  induction h with
  | nil => rfl
  | cons x _ ih => rw [wsum_cons, wsum_cons, ih]
  | swap x y l => simp only [wsum_cons]; omega
  | trans _ _ h1 h2 => rw [h1, h2]
theorem absS_perm {a b : List En} (h : a.Perm b) : absS a = absS b := by
  induction h with
  | nil => rfl
  | cons x _ ih => rw [absS_cons, absS_cons, ih]
  | swap x y l => simp only [absS_cons]; omega
  | trans _ _ h1 h2 => rw [h1, h2]
theorem addN1_getD (w : Nat) (v : Vl) (n : Int) (l : List Int) {p : Nat} (hp : p < l.length) : ∀ i, (addN 1 w v n l i).getD p 0 = if 0 < cnt w v p i then 1 else l.getD p 0
  | 0 => by simp [addN, cnt]
  | i + 1 => by
    have ih := addN1_getD w v n l hp i
    rw [addN, putP, if_neg (by decide), getD_set (by rw [addN_length]; exact hp), cnt]
    by_cases h : placeV w v i = p
    · rw [if_pos h, if_pos h, if_pos (by omega)]
    · rw [if_neg h, if_neg h, ih, Nat.add_zero]
theorem stepE1_getD (w d col : Nat) (l : List Int) (e : En) {p : Nat} (hp : p < l.length) : (stepE 1 w d col l e).getD p 0 = if 0 < hits w d col p e.r then 1 else l.getD p 0 := by
  unfold stepE hits
  by_cases h : (cellV e.r col).k = 0
  · rw [if_pos h, if_pos h, if_neg (by omega)]
  · rw [if_neg h, if_neg h, addN1_getD _ _ _ _ hp]
    by_cases h2 : 0 < cnt w (cellV e.r col) p d
    · rw [if_pos h2, if_pos (by omega)]
    · rw [if_neg h2, if_neg (by omega)]
open Classical in
theorem foldE1_getD (w d col : Nat) {p : Nat} : ∀ (b : List En) (l : List Int), p < l.length → (b.foldl (stepE 1 w d col) l).getD p 0 = if (∃ e ∈ b, 0 < hits w d col p e.r) then 1 else l.getD p 0
  | [], l, hp => by rw [if_neg (by simp)]; rfl
  | e :: b, l, hp => by
    rw [List.foldl_cons, foldE1_getD w d col b _ (by rw [stepE_length]; exact hp), stepE1_getD w d col l e hp]
    by_cases h1 : ∃ e ∈ b, 0 < hits w d col p e.r
    · obtain ⟨f, hf, hh⟩ := h1
      rw [if_pos ⟨f, hf, hh⟩, if_pos ⟨f, by simp [hf], hh⟩]
    · rw [if_neg h1]
      by_cases h2 : 0 < hits w d col p e.r
      · rw [if_pos h2, if_pos ⟨e, by simp, h2⟩]
      · rw [if_neg h2, if_neg]
        rintro ⟨f, hf, hh⟩
        rcases List.mem_cons.1 hf with rfl | hf
        · exact h2 hh
        · exact h1 ⟨f, hf, hh⟩
theorem foldK_perm {kd : Int} {w d col N : Nat} {R A : List En} (hk : kd = 0 ∨ kd = 1) (h : R.Perm A) : foldK kd w d col N R = foldK kd w d col N A := by
  refine list_eq_getD (foldK_length ..) (foldK_length ..) fun p hp => ?_
  unfold foldK
  have hr : p < (List.replicate N (0 : Int)).length := by rw [List.length_replicate]; exact hp
  rcases hk with rfl | rfl
  · rw [foldE_getD _ _ _ _ _ hr, foldE_getD _ _ _ _ _ hr, wsum_perm _ h]
  · rw [foldE1_getD _ _ _ _ _ hr, foldE1_getD _ _ _ _ _ hr]
    have : (∃ e ∈ R, 0 < hits w d col p e.r) ↔ (∃ e ∈ A, 0 < hits w d col p e.r) := ⟨fun ⟨e, he, h2⟩ => ⟨e, h.mem_iff.1 he, h2⟩, fun ⟨e, he, h2⟩ => ⟨e, h.mem_iff.2 he, h2⟩⟩
    simp only [this]
theorem foldK_val {nm sr : List UInt8} {kd : Int} {w d col N : Nat} {R : List En} (hk : kd = 0 ∨ kd = 1) (hf : formP ⟨nm, sr, col, kd, w, d⟩) (hN : w * d = N) (hpos : ∀ e ∈ R, 0 < e.n) (hab : absS R ≤ 1000) (hd : d ≤ 8) : valC ⟨nm, sr, col, kd, w, d⟩ (foldK kd w d col N R) := by
  refine ⟨hf, by rcases hk with rfl | rfl <;> simp, by rw [foldK_length, ← hN]; simp, fun x hx => ?_⟩
  unfold okX limZ
  rcases hk with rfl | rfl
  · obtain ⟨p, hp, rfl⟩ := mem_getD hx
    rw [foldK_length] at hp
    unfold foldK
    rw [foldE_getD _ _ _ _ _ (by rw [List.length_replicate]; exact hp), getD_repl, Int.zero_add]
    obtain ⟨a1, a2⟩ := wsum_bd (hits_bd w d col p) hpos
    have m1 : (d : Int) * (absS R : Int) ≤ 8 * 1000 := Int.mul_le_mul (by omega) (by omega) (by omega) (by omega)
    simp only [if_true]
    omega
  · have := foldE_01 (w := w) (d := d) (col := col) R (l := List.replicate N 0) (fun x hx => .inl (List.eq_of_mem_replicate hx)) x hx
    rw [if_neg (show ¬ (1 : Int) = 0 by decide)]
    rcases this with h | h <;> omega
theorem hashE_snoc (col : Nat) (R : List En) (e : En) : hashE col (R ++ [e]) = hashE col R ++ if (cellV e.r col).k = 0 then [] else [botN (cellV e.r col)] := by
  rw [hashE_app]
  simp [hashE]
theorem hashE_pmem {col : Nat} {R A : List En} (h : R.Perm A) (x : Int) : x ∈ hashE col R ↔ x ∈ hashE col A := by
  rw [hashE_mem, hashE_mem]
  exact ⟨fun ⟨e, he, h2⟩ => ⟨e, h.mem_iff.1 he, h2⟩, fun ⟨e, he, h2⟩ => ⟨e, h.mem_iff.2 he, h2⟩⟩
theorem small_pos {w : Nat} {l : List Int} (hw : 0 < w) (h : l ≠ []) : 0 < (smallI w l).length := by
  unfold smallI
  rw [List.length_take]
  obtain ⟨x, hx⟩ := List.exists_mem_of_ne_nil l h
  have := List.length_pos_of_mem (((ascL_facts l).2 x).2 hx)
  omega
/-- The cells of a bottom-k sketch, as a value: none is nil. -/
def botC (w col : Nat) (R : List En) : CV := if hashE col R = [] then .v (.slice none 0 0) else .sl 1 (smallI w (hashE col R)).length (intc .i64 (smallI w (hashE col R)))
theorem botC_nil {w col : Nat} {R : List En} (h : hashE col R = []) : botC w col R = .v (.slice none 0 0) := if_pos h
theorem botC_some {w col : Nat} {R : List En} (h : hashE col R ≠ []) : botC w col R = .sl 1 (smallI w (hashE col R)).length (intc .i64 (smallI w (hashE col R))) := if_neg h
theorem botC_congr {w col : Nat} {R A : List En} (h : ∀ x, x ∈ hashE col R ↔ x ∈ hashE col A) : botC w col R = botC w col A := by
  unfold botC
  rw [smallI_congr h]
  have : hashE col R = [] ↔ hashE col A = [] := by
    constructor
    · intro e
      rw [e] at h
      exact List.eq_nil_iff_forall_not_mem.2 fun x hx => by have := (h x).2 hx; cases this
    · intro e
      rw [e] at h
      exact List.eq_nil_iff_forall_not_mem.2 fun x hx => by have := (h x).1 hx; cases this
  simp only [this]
end Go.Proofs.Ytccnhpaldmjkbaa
