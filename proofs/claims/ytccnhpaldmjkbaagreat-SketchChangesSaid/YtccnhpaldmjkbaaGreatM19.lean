/-
  Joined texts: U9 U8 U12 U12b AvEm. Lemmas; no statement of a law.
-/
import Derived.Test.YtccnhpaldmjkbaaGreatM12
set_option linter.unusedSimpArgs false
set_option linter.unusedVariables false
/-
  Values that are added to a sketch (walk), as the program has it.
-/
namespace Go.Proofs.YtccnhpaldmjkbaaGreat
open Go Go.RowKit Go.Av
set_option maxRecDepth 100000
attribute [local irreducible] Still Adds AWL AW Drw DrwE EStep AC AWR Weak Frz Src RetK Out InK ItK AsK RdK RetT OutT ACT ACS RetS ACP RetP
theorem ad_idle : Idle Tryz.prog 128 0 := by
  intro us w hl
  obtain ⟨_, rfl⟩ : ∃ _ : Unit, us = [] := by
    match us, hl with | [], _ => exact ⟨(), rfl⟩
  refine callsD_of_wpS Tryz.func128 rfl fun c₀ cs hu => ?_
  apply wpS_region
  simp [wpOpsS, go_sem, recoverD, hu, Tryz.ntmps128, Exit.thenS]
  cases c₀
  simp_all [bodyPostS, results, Tryz.results128]
theorem ad_idle_b : Body Tryz.prog 128 := by unfold Body; kernel_rfl
set_option maxHeartbeats 8000000 in
theorem add_cnt (nm sr : List UInt8) (col kd : Int) (w d : Nat) (v : Vl) (l : List Int) (n : Nat) (c : Int) (hn : l.length = n) (hnn : n ≤ 1000000) (hv : valC ⟨nm, sr, col, kd, w, d⟩ l) (hwd : n = w * d) (ho : okP v) (hz : v.k ≠ 0) (hc1 : 0 < c) (hc2 : c ≤ 262144) (hv2 : valC ⟨nm, sr, col, kd, w, d⟩ (addN kd w v c l d)) : AC Tryz.prog 69 [.agg [sv nm, sv sr, iv col, iv kd, iv w, iv d], .sl 1 n (intc .i64 l), .agg v.c, iv c] (.tup [.c (.sl 1 n (intc .i64 (addN kd w v c l d))), .c (iv 0)]) [] 0 := by
  have hil : (intc .i64 l).length = n := by rw [intc_length, hn]
  obtain ⟨⟨f1, f2, f3, f4, f5, f6⟩, f7, f8, f9⟩ := id hv
  simp only at f1 f2 f3 f4 f5 f6 f7 f8
  have hp : 0 < n := by rw [hwd]; exact Nat.mul_pos (by omega) (by omega)
  have h1 := valc_ok ⟨nm, sr, col, kd, w, d⟩ l n hn f7 (by simp only [maxLen]; omega)
  have : ∀ i : Decidable (valC ⟨nm, sr, col, kd, w, d⟩ l), @decide _ i = true := fun i => @decide_eq_true _ i hv
  rw [this] at h1
  have h2 := valid_ok v
  rw [okV_t ho] at h2
  have h3 := clone64_ok l n hn hp hnn
  have had : ∀ j, (addN kd w v c l j).length = n := fun j => by rw [addN_length, hn]
  have h5 := valc_ok ⟨nm, sr, col, kd, w, d⟩ (addN kd w v c l d) n (had d) f7 (by simp only [maxLen]; omega)
  have : ∀ i : Decidable (valC ⟨nm, sr, col, kd, w, d⟩ (addN kd w v c l d)), @decide _ i = true := fun i => @decide_eq_true _ i hv2
  rw [this] at h5
  have hpl := fun (row : Nat) (h : row < 256) => place_ok nm sr col kd w d v row (by omega) (by omega) h
  have hlt2 : ∀ j, j < d → placeV w v j < n := fun j h => by rw [hwd]; exact placeV_lt v (by omega) h
  have hap : ∀ j, addN kd w v c l (j + 1) = putP kd (addN kd w v c l j) (placeV w v j) c := fun j => rfl
  have hin : inB l 1073741824 := fun x hx => by
    have := f9 x hx
    unfold okX limZ at this
    simp only at this
    split at this <;> omega
  have hai : ∀ j, j ≤ d → inB (addN kd w v c l j) 10000000000000 := fun j hj => by
    have h1 := addN_inB (kd := kd) (w := w) (v := v) hin (by omega) (show 0 ≤ c by omega) j
    refine inB_mono h1 ?_
    have : (j : Int) * (c + 1) ≤ 8 * 262145 := Int.mul_le_mul (by omega) (by omega) (by omega) (by omega)
    omega
  have ha0 : l = addN kd w v c l 0 := rfl
  generalize placeV w v = pl at hpl hlt2 hap
  generalize addN kd w v c l = ad at hap had hai ha0 h5 hv2 ⊢
  have hdl := had d
  have hdi : (intc .i64 (ad d)).length = n := by rw [intc_length, hdl]
  obtain ⟨a, m, b⟩ := v
  simp only [Vl.c, Sk.c] at *
  have hz' : a ≠ 0 := hz
  clear hz hv hv2 this hin f9
  refine ac_enter tabOk (sz := 58) Tryz.func69 rfl (by rw [Tryz.ntmps69]; rfl) ?_
  repeat' (first | ((with_reducible refine aw_seqk ?_); intro K hK hX) | ((with_reducible refine isC_reg ?_); refine aw_prune [0, 1, 2, 3, 4, 6, 8, 9, 10, 11] rfl rfl ?_; with_reducible refine aw_region ?_) | ((with_reducible refine isC_draw ?_); refine aw_prune [0, 1, 2, 3, 4, 6, 8, 9, 10, 11] rfl rfl ?_; refine aw_drwF [121] ?_) | ((first | with_reducible refine isA_call ?_ | with_reducible refine isD_call ?_); (first | refine zA ?_ | refine zN ?_ | refine zD ?_); (first | refine c0 (h1) ?_ | refine c0 (h2) ?_ | refine c1 (h3) ?_)) | ((first | with_reducible refine isA_call ?_ | with_reducible refine isA_callv ?_); refine awl_inl tabOk [0, 1, 2, 3, 4, 5, 6, 7, 8, 9, 10, 11, 12, 13, 14, 15, 16, 17, 18, 19, 20, 21, 22, 23, 24, 25, 26, 27, 28, 29, 30, 31, 32, 33, 34, 35, 36, 37, 38, 39, 40, 41, 42, 43, 44, 45, 46, 47, 48, 49, 50, 51, 52, 53, 54, 55, 56, 57] g_none rfl rfl zby Tryz.func121 rfl rfl rfl (szf := 34) (by rw [Tryz.ntmps121]; rfl) rfl ?_) | refine stA ?_ | refine stD ?_ | (refine hK _ _ _ _ ?_; clear hK hX K) | (refine hX _ _ _ _ _ (by simp) ?_; clear hK hX K) | (first | refine inK_some zio ztr rfl rfl ResL.none ?_ | refine inK_none zio ztr rfl rfl ResL.none ?_))
  refine aw_loopo [8, 9, 11] [2] rfl rfl (fun j : Nat => [(11, .c (iv j))]) (fun j => [(2, .row 2 (intc .i64 (ad j)))]) (fun j => j ≤ d) (fun j => d - j) 0 (by omega) (by refine weak_mk rfl ?_ ?_ rfl <;> (repeat' (first | exact weakE_nil | exact weakH_nil | refine weakE_cons rfl (by first | rfl | (exact congrArg (fun x => AObj.row 2 (intc .i64 x)) ha0) | exact zeq) rfl ?_ | refine weakH_cons rfl (by first | rfl | (exact congrArg (fun x => AObj.row 2 (intc .i64 x)) ha0) | exact zeq) rfl ?_))) ?_
  intro j hj K hK hX
  have hjl := had j
  have hji : (intc .i64 (ad j)).length = n := by rw [intc_length, hjl]
  by_cases hjd : j < d
  · have hplj := hpl j (by omega)
    have hpj := hlt2 j hjd
    have hput := hap j
    have hbj := getD_inB (hai j hj) (by decide) (pl j)
    have hgt := intc_at (getD_at (l := ad j) (i := pl j) (by omega))
    unfold putP at hput
    generalize pl j = p at hplj hpj hput hbj hgt
    clear hpl hlt2 hap had hai ha0 h1 h2 h3 h5
    by_cases k0 : kd = 0
    · rw [if_pos k0] at hput
      generalize (ad j).getD p 0 = g at hput hbj hgt
      have hset : (intc .i64 (ad j)).set (0 + p * 1) (iv (g + c)) = intc .i64 (ad (j + 1)) := by rw [Nat.zero_add, Nat.mul_one, hput, intc_set]
      repeat' (first | ((with_reducible refine aw_seqk ?_); intro K hK hX) | ((with_reducible refine isC_reg ?_); refine aw_prune [0, 1, 2, 3, 4, 6, 8, 9, 10, 11] rfl rfl ?_; with_reducible refine aw_region ?_) | ((with_reducible refine isC_draw ?_); refine aw_prune [0, 1, 2, 3, 4, 6, 8, 9, 10, 11] rfl rfl ?_; refine aw_drwF [121] ?_) | ((first | with_reducible refine isA_call ?_ | with_reducible refine isD_call ?_); (first | refine zA ?_ | refine zN ?_ | refine zD ?_); (first | refine c0 (hplj) ?_)) | ((first | with_reducible refine isA_call ?_ | with_reducible refine isA_callv ?_); refine awl_inl tabOk [0, 1, 2, 3, 4, 5, 6, 7, 8, 9, 10, 11, 12, 13, 14, 15, 16, 17, 18, 19, 20, 21, 22, 23, 24, 25, 26, 27, 28, 29, 30, 31, 32, 33, 34, 35, 36, 37, 38, 39, 40, 41, 42, 43, 44, 45, 46, 47, 48, 49, 50, 51, 52, 53, 54, 55, 56, 57] g_none rfl rfl zby Tryz.func121 rfl rfl rfl (szf := 34) (by rw [Tryz.ntmps121]; rfl) rfl ?_) | ((first | ((with_reducible refine isA_any ?_); refine xA ?_) | ((with_reducible refine isDk_any ?_); refine xD ?_)); (first | ((with_reducible refine e_load ?_); (first | refine ex_i (s_load1 tabOk rfl rfl rfl rfl (by (rw [Nat.zero_add, Nat.mul_one]; exact hgt))) ?_ | refine ex_i (s_load1r tabOk rfl rfl rfl rfl (by (rw [Nat.zero_add, Nat.mul_one]; exact hgt))) ?_ | refine ex_i (s_load1i tabOk rfl rfl rfl (by (rw [Nat.zero_add, Nat.mul_one]; exact hgt))) ?_)) | ((with_reducible refine e_ix ?_); (first | refine ex_i (s_ixV1 tabOk rfl rfl zcj rfl rfl rfl rfl rfl zle (by (rw [Nat.zero_add, Nat.mul_one]; exact hgt))) ?_ | refine ex_i (s_ixStr tabOk rfl rfl zcj rfl rfl (by (rw [Nat.zero_add, Nat.mul_one]; exact hgt))) ?_)))) | ((with_reducible refine isA_store ?_); (refine awl_store1r tabOk g_none rfl rfl rfl rfl rfl rfl (by first | omega | exact Nat.le_of_ble_eq_true rfl | omega | (simp <;> omega)) ?_)) | refine stA ?_ | refine stD ?_ | (refine hK _ _ _ _ ?_; clear hK hX K) | (refine hX _ _ _ _ _ (by simp) ?_; clear hK hX K) | (first | refine inK_some zio ztr rfl rfl ResL.none ?_ | refine inK_none zio ztr rfl rfl ResL.none ?_))
      exact ⟨j + 1, by omega, by omega, (by refine weak_mk rfl ?_ ?_ rfl <;> (repeat' (first | exact weakE_nil | exact weakH_nil | refine weakE_cons rfl (by first | rfl | (exact congrArg (AObj.row 2) hset) | exact zeq) rfl ?_ | refine weakH_cons rfl (by first | rfl | (exact congrArg (AObj.row 2) hset) | exact zeq) rfl ?_)))⟩
    · rw [if_neg k0] at hput
      have hset : (intc .i64 (ad j)).set (0 + p * 1) (iv 1) = intc .i64 (ad (j + 1)) := by rw [Nat.zero_add, Nat.mul_one, hput, intc_set]
      repeat' (first | ((with_reducible refine aw_seqk ?_); intro K hK hX) | ((with_reducible refine isC_reg ?_); refine aw_prune [0, 1, 2, 3, 4, 6, 8, 9, 10, 11] rfl rfl ?_; with_reducible refine aw_region ?_) | ((with_reducible refine isC_draw ?_); refine aw_prune [0, 1, 2, 3, 4, 6, 8, 9, 10, 11] rfl rfl ?_; refine aw_drwF [121] ?_) | ((first | with_reducible refine isA_call ?_ | with_reducible refine isD_call ?_); (first | refine zA ?_ | refine zN ?_ | refine zD ?_); (first | refine c0 (hplj) ?_)) | ((first | with_reducible refine isA_call ?_ | with_reducible refine isA_callv ?_); refine awl_inl tabOk [0, 1, 2, 3, 4, 5, 6, 7, 8, 9, 10, 11, 12, 13, 14, 15, 16, 17, 18, 19, 20, 21, 22, 23, 24, 25, 26, 27, 28, 29, 30, 31, 32, 33, 34, 35, 36, 37, 38, 39, 40, 41, 42, 43, 44, 45, 46, 47, 48, 49, 50, 51, 52, 53, 54, 55, 56, 57] g_none rfl rfl zby Tryz.func121 rfl rfl rfl (szf := 34) (by rw [Tryz.ntmps121]; rfl) rfl ?_) | ((with_reducible refine isA_store ?_); (refine awl_store1r tabOk g_none rfl rfl rfl rfl rfl rfl (by first | omega | exact Nat.le_of_ble_eq_true rfl | omega | (simp <;> omega)) ?_)) | refine stA ?_ | refine stD ?_ | (refine hK _ _ _ _ ?_; clear hK hX K) | (refine hX _ _ _ _ _ (by simp) ?_; clear hK hX K) | (first | refine inK_some zio ztr rfl rfl ResL.none ?_ | refine inK_none zio ztr rfl rfl ResL.none ?_))
      exact ⟨j + 1, by omega, by omega, (by refine weak_mk rfl ?_ ?_ rfl <;> (repeat' (first | exact weakE_nil | exact weakH_nil | refine weakE_cons rfl (by first | rfl | (exact congrArg (AObj.row 2) hset) | exact zeq) rfl ?_ | refine weakH_cons rfl (by first | rfl | (exact congrArg (AObj.row 2) hset) | exact zeq) rfl ?_)))⟩
  · have hjd2 : j = d := by omega
    rw [hjd2] at hji ⊢
    clear hpl hlt2 hap had hai ha0 h1 h2 h3
    repeat' (first | ((with_reducible refine aw_seqk ?_); intro K hK hX) | ((with_reducible refine isC_reg ?_); refine aw_prune [0, 1, 2, 3, 4, 6, 8, 9, 10, 11] rfl rfl ?_; with_reducible refine aw_region ?_) | ((with_reducible refine isC_draw ?_); refine aw_prune [0, 1, 2, 3, 4, 6, 8, 9, 10, 11] rfl rfl ?_; refine aw_drwF [121] ?_) | ((first | with_reducible refine isA_call ?_ | with_reducible refine isD_call ?_); (first | refine wA ?_ | refine wN ?_ | refine wD ?_); (first | refine cF (h5) ?_)) | ((first | with_reducible refine isA_call ?_ | with_reducible refine isA_callv ?_); refine awl_inl tabOk [0, 1, 2, 3, 4, 5, 6, 7, 8, 9, 10, 11, 12, 13, 14, 15, 16, 17, 18, 19, 20, 21, 22, 23, 24, 25, 26, 27, 28, 29, 30, 31, 32, 33, 34, 35, 36, 37, 38, 39, 40, 41, 42, 43, 44, 45, 46, 47, 48, 49, 50, 51, 52, 53, 54, 55, 56, 57] g_none rfl rfl zby Tryz.func121 rfl rfl rfl (szf := 34) (by rw [Tryz.ntmps121]; rfl) rfl ?_) | refine stA ?_ | refine stD ?_ | (refine hK _ _ _ _ ?_; clear hK hX K) | (refine hX _ _ _ _ _ (by simp) ?_; clear hK hX K) | (first | refine inK_some zio ztr rfl rfl ResL.none ?_ | refine inK_none zio ztr rfl rfl ResL.none ?_))
    refine retK_mk zio (by exact ⟨ad_idle, ad_idle_b, trivial⟩) rfl (ResL.two (ResA.tmp rfl) (ResA.tmp rfl)) (out_t (frzl_cons zfz (frzl_cons zfz frzl_nil)))
set_option maxHeartbeats 8000000 in
theorem addb_some (nm sr : List UInt8) (col : Int) (w d : Nat) (v : Vl) (l : List Int) (n Q : Nat) (c : Int) (hn : l.length = n) (h0 : 0 < n) (hnn : n ≤ 900000) (hf : formP ⟨nm, sr, col, 2, w, d⟩) (hv : hashP w l) (ho : okP v) (hz : v.k ≠ 0) (hc1 : 0 < c) (hc2 : c ≤ 262144) (hQ : (smallI w (l ++ [botN v])).length = Q) : AC Tryz.prog 69 [.agg [sv nm, sv sr, iv col, iv 2, iv w, iv d], .sl 1 n (intc .i64 l), .agg v.c, iv c] (.tup [.c (.sl 1 Q (intc .i64 (smallI w (l ++ [botN v])))), .c (iv 0)]) [] 0 := by
  have hil : (intc .i64 l).length = n := by rw [intc_length, hn]
  have h2 := valid_ok v
  rw [okV_t ho] at h2
  have h3 := clone64_ok l n hn h0 (by omega)
  have h4 := both_ok v
  have hw2 := hf.2.1
  simp only at hw2
  have h1 := valb_ok nm sr col d w l n hn (by simp only [maxLen]; omega) (by omega)
  have : ∀ i : Decidable (formP ⟨nm, sr, col, 2, w, d⟩ ∧ hashP w l), @decide _ i = true := fun i => @decide_eq_true _ i ⟨hf, hv⟩
  rw [this] at h1
  generalize botN v = y at *
  have hrow : intc .i64 l ++ [iv y] = intc .i64 (l ++ [y]) := by simp [intc]
  have hll : (l ++ [y]).length = n + 1 := by rw [List.length_append, hn]; rfl
  have h5 := smallest_ok nm sr col 2 d w (l ++ [y]) (n + 1) hll (by omega) (by omega) (by omega)
  rw [hQ] at h5
  generalize smallI w (l ++ [y]) = S at *
  have hSl : (intc .i64 S).length = Q := by rw [ic_len, hQ]
  obtain ⟨a, m, b⟩ := v
  simp only [Vl.c] at *
  have hz' : a ≠ 0 := hz
  clear hz hf hv this
  refine ac_enter tabOk (sz := 58) Tryz.func69 rfl (by rw [Tryz.ntmps69]; rfl) ?_
  repeat' (first | ((with_reducible refine aw_seqk ?_); intro K hK hX) | ((with_reducible refine isC_reg ?_); refine aw_prune [0, 1, 2, 3, 4, 6, 8, 9, 10] rfl rfl ?_; with_reducible refine aw_region ?_) | ((with_reducible refine isC_draw ?_); refine aw_prune [0, 1, 2, 3, 4, 6, 8, 9, 10] rfl rfl ?_; refine aw_drwE [] ?_) | ((with_reducible refine isA_call ?_); refine awl_callP1 (h5) g_none rfl zby ((by omega)) rfl rfl (hrow) rfl zcv rfl zcv ?_) | ((with_reducible refine isE_call ?_); refine d_callP1 (h5) g_none rfl rfl zby ((by omega)) rfl rfl (hrow) rfl zcv rfl zcv rfl ?_) | ((first | with_reducible refine isA_call ?_ | with_reducible refine isE_call ?_); (first | refine zA ?_ | refine zN ?_ | refine zE ?_); (first | refine c0 (h1) ?_ | refine c0 (h2) ?_ | refine c1 (h3) ?_ | refine c0 (h4) ?_)) | refine stA ?_ | refine stE ?_ | (refine hK _ _ _ _ ?_; clear hK hX K) | (refine hX _ _ _ _ _ (by simp) ?_; clear hK hX K))
  refine retK_mk zio (by exact ⟨ad_idle, ad_idle_b, trivial⟩) rfl (ResL.two (ResA.tmp rfl) (ResA.tmp rfl)) (out_t (frzl_cons zfz (frzl_cons zfz frzl_nil)))
end Go.Proofs.YtccnhpaldmjkbaaGreat
/-
  The law SketchSupport (walk).
-/
namespace Go.Proofs.YtccnhpaldmjkbaaGreat
open Go Go.RowKit Go.Av
set_option maxRecDepth 100000
attribute [local irreducible] Still Adds AWL AW Drw DrwE EStep AC AWR Weak Frz Src RetK Out InK ItK AsK RdK RetT OutT ACT ACS RetS ACP RetP
end Go.Proofs.YtccnhpaldmjkbaaGreat
/-
  Sketches that are merged (walk), as the program has it.
-/
namespace Go.Proofs.YtccnhpaldmjkbaaGreat
open Go Go.RowKit Go.Av
set_option maxRecDepth 100000
def mergeK (kd : Int) (a b : List Int) : List Int := List.zipWith (fun x y => if kd = 0 then x + y else if x < y then y else x) a b
theorem mergeK_length {kd : Int} {a b : List Int} {n : Nat} (ha : a.length = n) (hb : b.length = n) : (mergeK kd a b).length = n := by unfold mergeK; rw [List.length_zipWith, ha, hb, Nat.min_self]
theorem mergeK_at {kd : Int} {a b : List Int} {i : Nat} {x y : Int} (ha : a[i]? = some x) (hb : b[i]? = some y) : (mergeK kd a b)[i]? = some (if kd = 0 then x + y else if x < y then y else x) := by
  unfold mergeK
  rw [List.getElem?_zipWith, ha, hb]
theorem ts_length {M Z : List Int} {i n : Nat} (hM : M.length = n) (hZ : Z.length = n) : (M.take i ++ Z.drop i).length = n := by simp; omega
theorem ts_set {M Z : List Int} {i : Nat} {x : Int} (hM : M[i]? = some x) (hl : M.length = Z.length) : (M.take i ++ Z.drop i).set i x = M.take (i + 1) ++ Z.drop (i + 1) := by
  obtain ⟨h1, h2⟩ := List.getElem?_eq_some_iff.1 hM
  rw [List.set_append_right _ _ (by rw [List.length_take]; omega), List.length_take, Nat.min_eq_left (by omega), Nat.sub_self, List.drop_eq_getElem_cons (by omega), List.set_cons_zero, List.take_add_one, hM, List.append_assoc]
  rfl
attribute [local irreducible] Still Adds AWL AW Drw DrwE EStep AC AWR Weak Frz Src RetK Out InK ItK AsK RdK RetT OutT ACT ACS RetS ACP RetP
theorem me_idle : Idle Tryz.prog 134 0 := by
  intro us w hl
  obtain ⟨_, rfl⟩ : ∃ _ : Unit, us = [] := by
    match us, hl with | [], _ => exact ⟨(), rfl⟩
  refine callsD_of_wpS Tryz.func134 rfl fun c₀ cs hu => ?_
  apply wpS_region
  simp [wpOpsS, go_sem, recoverD, hu, Tryz.ntmps134, Exit.thenS]
  cases c₀
  simp_all [bodyPostS, results, Tryz.results134]
theorem me_idle_b : Body Tryz.prog 134 := by unfold Body; kernel_rfl
theorem compact_0 : AC Tryz.prog 159 [.sl 1 0 []] (.c (.sl 1 0 [])) [] 0 := by
  refine ac_enter tabOk (sz := 61) Tryz.func159 rfl (by rw [Tryz.ntmps159]; rfl) ?_
  repeat' (first | ((with_reducible refine aw_seqk ?_); intro K hK hX) | ((with_reducible refine isC_reg ?_); refine aw_prune [0, 2, 3, 4, 5] rfl rfl ?_; with_reducible refine aw_region ?_) | ((with_reducible refine isC_draw ?_); refine aw_prune [0, 2, 3, 4, 5] rfl rfl ?_; refine aw_drwF [] ?_) | refine stA ?_ | refine stD ?_ | (refine hK _ _ _ _ ?_; clear hK hX K) | (refine hX _ _ _ _ _ (by simp) ?_; clear hK hX K))
  refine retK_mk zio ztr rfl (ResL.one (ResA.tmp rfl)) zou
set_option maxHeartbeats 4000000 in
theorem smallest_0 (nm sr : List UInt8) (col kd d : Int) (w : Nat) (hw : w ≤ 100000) : AC Tryz.prog 129 [.agg [sv nm, sv sr, iv col, iv kd, iv w, iv d], .sl 1 0 []] (.c (.sl 1 0 [])) [] 0 := by
  have h1 := sort64_none
  have h2 := compact_0
  have hmin : (if (0 : Int) < (w : Int) then (0 : Int) else (w : Int)) = ((0 : Nat) : Int) := by split <;> omega
  refine ac_enter tabOk (sz := 16) Tryz.func129 rfl (by rw [Tryz.ntmps129]; rfl) ?_
  repeat' (first | ((with_reducible refine aw_seqk ?_); intro K hK hX) | ((with_reducible refine isC_reg ?_); refine aw_prune [0, 1, 2, 4] rfl rfl ?_; with_reducible refine aw_region ?_) | ((with_reducible refine isA_call ?_); (first | refine zA ?_ | refine zN ?_); (first | refine c0 (h1) ?_ | refine c0 (h2) ?_)) | (((with_reducible refine isA_any ?_); refine xA ?_); (first | ((with_reducible refine e_bi ?_); (first | refine ex_i (s_min rfl rfl hmin) ?_)))) | refine stA ?_ | (refine hK _ _ _ _ ?_; clear hK hX K) | (refine hX _ _ _ _ _ (by simp) ?_; clear hK hX K))
  refine retK_mk zio ztr rfl (ResL.one (ResA.tmp rfl)) zou
set_option maxHeartbeats 4000000 in
theorem grow_nil : AC Tryz.prog 161 [.v (.slice none 0 0), iv (0 : Nat)] (.c (.v (.slice none 0 0))) [] 0 := by
  refine ac_enter tabOk (sz := 27) Tryz.func161 rfl (by rw [Tryz.ntmps161]; rfl) ?_
  repeat' (first | ((with_reducible refine aw_seqk ?_); intro K hK hX) | ((with_reducible refine isC_reg ?_); refine aw_prune [0, 1, 4] rfl rfl ?_; with_reducible refine aw_region ?_) | refine stA ?_ | (refine hK _ _ _ _ ?_; clear hK hX K) | (refine hX _ _ _ _ _ (by simp) ?_; clear hK hX K))
  refine retK_mk zio ztr rfl (ResL.one (ResA.tmp rfl)) zou
set_option maxHeartbeats 4000000 in
theorem grow_pos (s : Nat) (h0 : 0 < s) (h1 : s ≤ 1000000) : AC Tryz.prog 161 [.v (.slice none 0 0), iv s] (.own 0 0 0 1 true) [(0, .row 2 [])] 1 := by
  refine ac_enter tabOk (sz := 27) Tryz.func161 rfl (by rw [Tryz.ntmps161]; rfl) ?_
  repeat' (first | ((with_reducible refine aw_seqk ?_); intro K hK hX) | ((with_reducible refine isC_reg ?_); refine aw_prune [0, 1, 4] rfl rfl ?_; with_reducible refine aw_region ?_) | refine stA ?_ | (refine hK _ _ _ _ ?_; clear hK hX K) | (refine hX _ _ _ _ _ (by simp) ?_; clear hK hX K))
  refine retK_mk zio ztr rfl (ResL.one (ResA.tmp rfl)) zou
theorem ic_nil : intc .i64 [] = [] := rfl
set_option maxHeartbeats 8000000 in
theorem concat_ok (x y : List Int) (n m : Nat) (hn : x.length = n) (hm : y.length = m) (hnn : n ≤ 100000) (hmm : m ≤ 100000) : AC Tryz.prog 135 [.sl 1 2 [.sl 1 n (intc .i64 x), .sl 1 m (intc .i64 y)]] (.own 0 0 (n + m) 1 true) [(0, .row 2 (intc .i64 (x ++ y)))] 1 := by
  have hxl : (intc .i64 x).length = n := by rw [intc_length, hn]
  have hyl : (intc .i64 y).length = m := by rw [intc_length, hm]
  have hxy : intc .i64 x ++ intc .i64 y = intc .i64 (x ++ y) := by simp [intc]
  by_cases h0 : n + m = 0
  · have h1 := grow_nil
    have e : (0 + (n : Int) + (m : Int)) = ((0 : Nat) : Int) := by omega
    rw [← e] at h1
    refine ac_enter tabOk (sz := 36) Tryz.func135 rfl (by rw [Tryz.ntmps135]; rfl) ?_
    repeat' (first | ((with_reducible refine aw_seqk ?_); intro K hK hX) | ((with_reducible refine isC_reg ?_); refine aw_prune [0, 2, 3, 5, 6, 8, 9, 10, 11, 25, 26, 27] rfl rfl ?_; with_reducible refine aw_region ?_) | ((with_reducible refine isC_loop ?_); refine aw_rounds 3 ?_) | (refine awr_k ?_; intro K hK hX) | ((with_reducible refine isA_call ?_); (first | refine zA ?_ | refine zN ?_); (first | refine c0 (h1) ?_)) | refine stA ?_ | (refine hK _ _ _ _ ?_; clear hK hX K) | (refine hX _ _ _ _ _ (by simp) ?_; clear hK hX K))
    rw [hxy]
    refine retK_mk zio ztr rfl (ResL.one (ResA.tmp rfl)) zou
  · have h1 := grow_pos (n + m) (by omega) (by omega)
    refine ac_enter tabOk (sz := 36) Tryz.func135 rfl (by rw [Tryz.ntmps135]; rfl) ?_
    repeat' (first | ((with_reducible refine aw_seqk ?_); intro K hK hX) | ((with_reducible refine isC_reg ?_); refine aw_prune [0, 2, 3, 5, 6, 8, 9, 10, 11, 25, 26, 27] rfl rfl ?_; with_reducible refine aw_region ?_) | ((with_reducible refine isC_loop ?_); refine aw_rounds 3 ?_) | (refine awr_k ?_; intro K hK hX) | ((with_reducible refine isA_call ?_); (first | refine zA ?_ | refine zN ?_); (first | refine c1 (h1) ?_)) | refine stA ?_ | (refine hK _ _ _ _ ?_; clear hK hX K) | (refine hX _ _ _ _ _ (by simp) ?_; clear hK hX K))
    rw [Nat.zero_add n, List.nil_append, hxy]
    refine retK_mk zio ztr rfl (ResL.one (ResA.tmp rfl)) zou
set_option maxHeartbeats 8000000 in
theorem merge_cells (nm sr : List UInt8) (col kd : Int) (w d : Nat) (a b : List Int) (n : Nat) (hn : a.length = n) (hm : b.length = n) (hnn : n ≤ 1000000) (hva : valC ⟨nm, sr, col, kd, w, d⟩ a) (hvb : valC ⟨nm, sr, col, kd, w, d⟩ b) (hvm : valC ⟨nm, sr, col, kd, w, d⟩ (mergeK kd a b)) : AC Tryz.prog 73 [.agg [sv nm, sv sr, iv col, iv kd, iv w, iv d], .sl 1 n (intc .i64 a), .sl 1 n (intc .i64 b)] (.tup [.c (.sl 1 n (intc .i64 (mergeK kd a b))), .c (iv 0)]) [] 0 := by
  have hal : (intc .i64 a).length = n := by rw [intc_length, hn]
  have hbl : (intc .i64 b).length = n := by rw [intc_length, hm]
  obtain ⟨f7, fa⟩ := And.intro hva.2.1 hva.2.2.2
  have fb := hvb.2.2.2
  simp only at f7 fa fb
  have h1 := valc_ok ⟨nm, sr, col, kd, w, d⟩ a n hn f7 (by simp only [maxLen]; omega)
  have : ∀ i : Decidable (valC ⟨nm, sr, col, kd, w, d⟩ a), @decide _ i = true := fun i => @decide_eq_true _ i hva
  rw [this] at h1
  have h2 := valc_ok ⟨nm, sr, col, kd, w, d⟩ b n hm f7 (by simp only [maxLen]; omega)
  have : ∀ i : Decidable (valC ⟨nm, sr, col, kd, w, d⟩ b), @decide _ i = true := fun i => @decide_eq_true _ i hvb
  rw [this] at h2
  have hml := mergeK_length (kd := kd) hn hm
  have h5 := valc_ok ⟨nm, sr, col, kd, w, d⟩ (mergeK kd a b) n hml f7 (by simp only [maxLen]; omega)
  have : ∀ i : Decidable (valC ⟨nm, sr, col, kd, w, d⟩ (mergeK kd a b)), @decide _ i = true := fun i => @decide_eq_true _ i hvm
  rw [this] at h5
  have hat := fun {i : Nat} {x y : Int} (h : a[i]? = some x) (k : b[i]? = some y) => mergeK_at (kd := kd) h k
  generalize mergeK kd a b = M at *
  obtain ⟨Z, hZ⟩ : ∃ Z, List.replicate n (0 : Int) = Z := ⟨_, rfl⟩
  have hZl : Z.length = n := by rw [← hZ, List.length_replicate]
  have hz0 : zc [Value.int .i64 0] n = intc .i64 (M.take 0 ++ Z.drop 0) := by rw [zc_int, hZ]; rfl
  have hzn : M.take n ++ Z.drop n = M := by rw [List.take_of_length_le (by omega), List.drop_eq_nil_of_le (by omega), List.append_nil]
  simp only [Sk.c] at h1 h2 h5
  clear hva hvb hvm this
  refine ac_enter tabOk (sz := 70) Tryz.func73 rfl (by rw [Tryz.ntmps73]; rfl) ?_
  repeat' (first | ((with_reducible refine aw_seqk ?_); intro K hK hX) | ((with_reducible refine isC_reg ?_); refine aw_prune [0, 1, 2, 3, 6, 7, 8, 9, 33, 34] rfl rfl ?_; with_reducible refine aw_region ?_) | ((with_reducible refine isC_draw ?_); refine aw_prune [0, 1, 2, 3, 6, 7, 8, 9, 33, 34] rfl rfl ?_; refine aw_drwF [] ?_) | ((first | with_reducible refine isA_call ?_ | with_reducible refine isD_call ?_); (first | refine zA ?_ | refine zN ?_ | refine zD ?_); (first | refine c0 (h1) ?_ | refine c0 (h2) ?_)) | refine stA ?_ | refine stD ?_ | (refine hK _ _ _ _ ?_; clear hK hX K) | (refine hX _ _ _ _ _ (by simp) ?_; clear hK hX K))
  refine aw_loopo [8, 9, 32, 34] [1] rfl rfl (fun i : Nat => [(8, .own 1 0 n 1 true), (34, .c (iv i))]) (fun i => [(1, .row 2 (intc .i64 (M.take i ++ Z.drop i)))]) (fun i => i ≤ n) (fun i => n - i) 0 (Nat.zero_le _) (by refine weak_mk rfl ?_ ?_ rfl <;> (repeat' (first | exact weakE_nil | exact weakH_nil | refine weakE_cons rfl (by first | rfl | (exact congrArg (AObj.row 2) hz0) | exact zeq) rfl ?_ | refine weakH_cons rfl (by first | rfl | (exact congrArg (AObj.row 2) hz0) | exact zeq) rfl ?_))) ?_
  intro i hi K hK hX
  have hrl := ts_length (i := i) hml hZl
  have hri : (intc .i64 (M.take i ++ Z.drop i)).length = n := by rw [ic_len, hrl]
  by_cases hlt : i < n
  · obtain ⟨x, hx⟩ : ∃ x, a[i]? = some x := ⟨a[i]'(by omega), List.getElem?_eq_getElem _⟩
    obtain ⟨y, hy⟩ : ∃ y, b[i]? = some y := ⟨b[i]'(by omega), List.getElem?_eq_getElem _⟩
    have hxa := ic_at hx
    have hyb := ic_at hy
    have hts := ts_set (Z := Z) (hat hx hy) (by omega)
    have bx := fa x (List.mem_of_getElem? hx)
    have by' := fb y (List.mem_of_getElem? hy)
    unfold okX limZ at bx by'
    generalize M.take i ++ Z.drop i = W at *
    clear hat hz0 hzn h1 h2 h5 fa fb hx hy
    by_cases k0 : kd = 0
    · rw [if_pos k0] at bx by' hts
      have hset : (intc .i64 W).set (0 + i * 1) (iv (x + y)) = intc .i64 (M.take (i + 1) ++ Z.drop (i + 1)) := by rw [Nat.zero_add, Nat.mul_one, ← ic_set, hts]
      repeat' (first | ((with_reducible refine aw_seqk ?_); intro K hK hX) | ((with_reducible refine isC_reg ?_); refine aw_prune [0, 1, 2, 3, 6, 7, 8, 9, 33, 34] rfl rfl ?_; with_reducible refine aw_region ?_) | ((with_reducible refine isC_draw ?_); refine aw_prune [0, 1, 2, 3, 6, 7, 8, 9, 33, 34] rfl rfl ?_; refine aw_drwF [] ?_) | ((first | ((with_reducible refine isA_any ?_); refine xA ?_) | ((with_reducible refine isDk_any ?_); refine xD ?_)); (first | ((with_reducible refine e_load ?_); (first | refine ex_i (s_load1 tabOk rfl rfl rfl rfl (by first | (rw [Nat.mul_one]; exact hxa) | (rw [Nat.mul_one]; exact hyb))) ?_ | refine ex_i (s_load1r tabOk rfl rfl rfl rfl (by first | (rw [Nat.mul_one]; exact hxa) | (rw [Nat.mul_one]; exact hyb))) ?_ | refine ex_i (s_load1i tabOk rfl rfl rfl (by first | (rw [Nat.mul_one]; exact hxa) | (rw [Nat.mul_one]; exact hyb))) ?_)) | ((with_reducible refine e_ix ?_); (first | refine ex_i (s_ixV1 tabOk rfl rfl zcj rfl rfl rfl rfl rfl zle (by first | (rw [Nat.mul_one]; exact hxa) | (rw [Nat.mul_one]; exact hyb))) ?_ | refine ex_i (s_ixStr tabOk rfl rfl zcj rfl rfl (by first | (rw [Nat.mul_one]; exact hxa) | (rw [Nat.mul_one]; exact hyb))) ?_)))) | ((with_reducible refine isA_store ?_); (refine awl_store1r tabOk g_none rfl rfl rfl rfl rfl rfl (by first | omega | exact Nat.le_of_ble_eq_true rfl | omega | (simp <;> omega)) ?_)) | refine stA ?_ | refine stD ?_ | (refine hK _ _ _ _ ?_; clear hK hX K) | (refine hX _ _ _ _ _ (by simp) ?_; clear hK hX K))
      exact ⟨i + 1, by omega, by omega, (by refine weak_mk rfl ?_ ?_ rfl <;> (repeat' (first | exact weakE_nil | exact weakH_nil | refine weakE_cons rfl (by first | rfl | (exact congrArg (AObj.row 2) hset) | exact zeq) rfl ?_ | refine weakH_cons rfl (by first | rfl | (exact congrArg (AObj.row 2) hset) | exact zeq) rfl ?_)))⟩
    · rw [if_neg k0] at bx by' hts
      have hset : (intc .i64 W).set (0 + i * 1) (iv (if x < y then y else x)) = intc .i64 (M.take (i + 1) ++ Z.drop (i + 1)) := by rw [Nat.zero_add, Nat.mul_one, ← ic_set, hts]
      repeat' (first | ((with_reducible refine aw_seqk ?_); intro K hK hX) | ((with_reducible refine isC_reg ?_); refine aw_prune [0, 1, 2, 3, 6, 7, 8, 9, 33, 34] rfl rfl ?_; with_reducible refine aw_region ?_) | ((with_reducible refine isC_draw ?_); refine aw_prune [0, 1, 2, 3, 6, 7, 8, 9, 33, 34] rfl rfl ?_; refine aw_drwF [] ?_) | ((first | ((with_reducible refine isA_any ?_); refine xA ?_) | ((with_reducible refine isDk_any ?_); refine xD ?_)); (first | ((with_reducible refine e_load ?_); (first | refine ex_i (s_load1 tabOk rfl rfl rfl rfl (by first | (rw [Nat.mul_one]; exact hxa) | (rw [Nat.mul_one]; exact hyb))) ?_ | refine ex_i (s_load1r tabOk rfl rfl rfl rfl (by first | (rw [Nat.mul_one]; exact hxa) | (rw [Nat.mul_one]; exact hyb))) ?_ | refine ex_i (s_load1i tabOk rfl rfl rfl (by first | (rw [Nat.mul_one]; exact hxa) | (rw [Nat.mul_one]; exact hyb))) ?_)) | ((with_reducible refine e_ix ?_); (first | refine ex_i (s_ixV1 tabOk rfl rfl zcj rfl rfl rfl rfl rfl zle (by first | (rw [Nat.mul_one]; exact hxa) | (rw [Nat.mul_one]; exact hyb))) ?_ | refine ex_i (s_ixStr tabOk rfl rfl zcj rfl rfl (by first | (rw [Nat.mul_one]; exact hxa) | (rw [Nat.mul_one]; exact hyb))) ?_)))) | ((with_reducible refine isA_store ?_); (refine awl_store1r tabOk g_none rfl rfl rfl rfl rfl rfl (by first | omega | exact Nat.le_of_ble_eq_true rfl | omega | (simp <;> omega)) ?_)) | refine stA ?_ | refine stD ?_ | (refine hK _ _ _ _ ?_; clear hK hX K) | (refine hX _ _ _ _ _ (by simp) ?_; clear hK hX K))
      exact ⟨i + 1, by omega, by omega, (by refine weak_mk rfl ?_ ?_ rfl <;> (repeat' (first | exact weakE_nil | exact weakH_nil | refine weakE_cons rfl (by first | rfl | (exact congrArg (AObj.row 2) hset) | exact zeq) rfl ?_ | refine weakH_cons rfl (by first | rfl | (exact congrArg (AObj.row 2) hset) | exact zeq) rfl ?_)))⟩
  · have hin : i = n := by omega
    rw [hin] at hri ⊢
    rw [hzn] at hri ⊢
    clear hat hz0 hzn h1 h2 fa fb
    repeat' (first | ((with_reducible refine aw_seqk ?_); intro K hK hX) | ((with_reducible refine isC_reg ?_); refine aw_prune [0, 1, 2, 3, 6, 7, 8, 9, 33, 34] rfl rfl ?_; with_reducible refine aw_region ?_) | ((with_reducible refine isC_draw ?_); refine aw_prune [0, 1, 2, 3, 6, 7, 8, 9, 33, 34] rfl rfl ?_; refine aw_drwF [] ?_) | ((first | with_reducible refine isA_call ?_ | with_reducible refine isD_call ?_); (first | refine wA ?_ | refine wN ?_ | refine wD ?_); (first | refine cF (h5) ?_)) | refine stA ?_ | refine stD ?_ | (refine hK _ _ _ _ ?_; clear hK hX K) | (refine hX _ _ _ _ _ (by simp) ?_; clear hK hX K))
    refine retK_mk zio (by exact ⟨me_idle, me_idle_b, trivial⟩) rfl (ResL.two (ResA.tmp rfl) (ResA.tmp rfl)) (out_t (frzl_cons zfz (frzl_cons zfz frzl_nil)))
end Go.Proofs.YtccnhpaldmjkbaaGreat
/-
  Bottom-k sketches that are merged (walk).
-/
namespace Go.Proofs.YtccnhpaldmjkbaaGreat
open Go Go.RowKit Go.Av
set_option maxRecDepth 100000
attribute [local irreducible] Still Adds AWL AW Drw DrwE EStep AC AWR Weak Frz Src RetK Out InK ItK AsK RdK RetT OutT ACT ACS RetS ACP RetP
set_option maxHeartbeats 4000000 in
theorem concat_0 : AC Tryz.prog 135 [.sl 1 2 [.sl 1 0 [], .sl 1 0 []]] (.c (.sl 1 0 [])) [] 0 := by
  have h1 := grow_nil
  have e : (0 + ((0 : Nat) : Int) + ((0 : Nat) : Int)) = ((0 : Nat) : Int) := by omega
  rw [← e] at h1
  refine ac_enter tabOk (sz := 36) Tryz.func135 rfl (by rw [Tryz.ntmps135]; rfl) ?_
  repeat' (first | ((with_reducible refine aw_seqk ?_); intro K hK hX) | ((with_reducible refine isC_reg ?_); refine aw_prune [0, 2, 3, 5, 6, 8, 9, 10, 11, 25, 26, 27] rfl rfl ?_; with_reducible refine aw_region ?_) | ((with_reducible refine isC_loop ?_); refine aw_rounds 3 ?_) | (refine awr_k ?_; intro K hK hX) | ((with_reducible refine isA_call ?_); (first | refine zA ?_ | refine zN ?_); (first | refine c0 (h1) ?_)) | refine stA ?_ | (refine hK _ _ _ _ ?_; clear hK hX K) | (refine hX _ _ _ _ _ (by simp) ?_; clear hK hX K))
  refine retK_mk zio ztr rfl (ResL.one (ResA.tmp rfl)) zou
set_option maxHeartbeats 8000000 in
theorem merge_bot (nm sr : List UInt8) (col : Int) (w d : Nat) (x y : List Int) (n m Q : Nat) (hn : x.length = n) (hm : y.length = m) (hf : formP ⟨nm, sr, col, 2, w, d⟩) (hx : hashP w x) (hy : hashP w y) (hQ : (smallI w (x ++ y)).length = Q) : AC Tryz.prog 73 [.agg [sv nm, sv sr, iv col, iv 2, iv w, iv d], .sl 1 n (intc .i64 x), .sl 1 m (intc .i64 y)] (.tup [.c (.sl 1 Q (intc .i64 (smallI w (x ++ y)))), .c (iv 0)]) [] 0 := by
  have hxl : (intc .i64 x).length = n := by rw [intc_length, hn]
  have hyl : (intc .i64 y).length = m := by rw [intc_length, hm]
  have hw2 := hf.2.1
  simp only at hw2
  have hnw : n ≤ w := by rw [← hn]; exact hx.1
  have hmw : m ≤ w := by rw [← hm]; exact hy.1
  have h1 := valb_ok nm sr col d w x n hn (by simp only [maxLen]; omega) (by omega)
  have : ∀ i : Decidable (formP ⟨nm, sr, col, 2, w, d⟩ ∧ hashP w x), @decide _ i = true := fun i => @decide_eq_true _ i ⟨hf, hx⟩
  rw [this] at h1
  have h2 := valb_ok nm sr col d w y m hm (by simp only [maxLen]; omega) (by omega)
  have : ∀ i : Decidable (formP ⟨nm, sr, col, 2, w, d⟩ ∧ hashP w y), @decide _ i = true := fun i => @decide_eq_true _ i ⟨hf, hy⟩
  rw [this] at h2
  have h3 := concat_ok x y n m hn hm (by omega) (by omega)
  have hll : (x ++ y).length = n + m := by rw [List.length_append, hn, hm]
  have hci : (intc .i64 (x ++ y)).length = n + m := by rw [ic_len, hll]
  by_cases h0 : n + m = 0
  · have hxn : x = [] := List.eq_nil_of_length_eq_zero (by omega)
    have hyn : y = [] := List.eq_nil_of_length_eq_zero (by omega)
    subst hxn hyn
    obtain rfl : n = 0 := by omega
    obtain rfl : m = 0 := by omega
    have hs : smallI w ([] ++ []) = [] := by
      have := ascL_length []
      unfold smallI
      rw [List.append_nil, List.eq_nil_of_length_eq_zero (l := ascL []) (by simpa using this)]
      simp
    rw [hs] at hQ ⊢
    obtain rfl : Q = 0 := hQ.symm
    have h4 := smallest_0 nm sr col 2 d w (by omega)
    clear hx hy hf this hll hci hs
    simp only [ic_nil] at h1 h2 ⊢
    clear h3
    have h3 := concat_0
    refine ac_enter tabOk (sz := 70) Tryz.func73 rfl (by rw [Tryz.ntmps73]; rfl) ?_
    repeat' (first | ((with_reducible refine aw_seqk ?_); intro K hK hX) | ((with_reducible refine isC_reg ?_); refine aw_prune [0, 1, 2, 3, 6, 7, 8, 9, 33, 34] rfl rfl ?_; with_reducible refine aw_region ?_) | ((with_reducible refine isC_draw ?_); refine aw_prune [0, 1, 2, 3, 6, 7, 8, 9, 33, 34] rfl rfl ?_; refine aw_drwF [] ?_) | ((first | with_reducible refine isA_bslice ?_ | with_reducible refine isD_bslice ?_); (first | refine wA ?_ | refine wD ?_); (first | refine ew_i (adds_closed (b_bslice0 tabOk rfl rfl rfl rfl rfl) zln) ?_ | refine ew_i (adds_closed (b_bslice tabOk rfl rfl rfl rfl rfl rfl rfl rfl rfl rfl rfl rfl (flatLF_ok rfl) (by first | rfl | exact all1 (by assumption) | (simp <;> fail) | fail) (by rfl)) zln) ?_)) | ((first | with_reducible refine isA_call ?_ | with_reducible refine isD_call ?_); (first | refine zA ?_ | refine zN ?_ | refine zD ?_); (first | refine c0 (h1) ?_ | refine c0 (h2) ?_ | refine c0 (h3) ?_ | refine c0 (h4) ?_)) | refine stA ?_ | refine stD ?_ | (refine hK _ _ _ _ ?_; clear hK hX K) | (refine hX _ _ _ _ _ (by simp) ?_; clear hK hX K))
    refine retK_mk zio (by exact ⟨me_idle, me_idle_b, trivial⟩) rfl (ResL.two (ResA.tmp rfl) (ResA.tmp rfl)) (out_t (frzl_cons zfz (frzl_cons zfz frzl_nil)))
  · have h4 := smallest_ok nm sr col 2 d w (x ++ y) (n + m) hll (by omega) (by omega) (by omega)
    rw [hQ] at h4
    generalize smallI w (x ++ y) = S at *
    have hSl : (intc .i64 S).length = Q := by rw [ic_len, hQ]
    clear hx hy hf this hll
    refine ac_enter tabOk (sz := 70) Tryz.func73 rfl (by rw [Tryz.ntmps73]; rfl) ?_
    repeat' (first | ((with_reducible refine aw_seqk ?_); intro K hK hX) | ((with_reducible refine isC_reg ?_); refine aw_prune [0, 1, 2, 3, 6, 7, 8, 9, 33, 34] rfl rfl ?_; with_reducible refine aw_region ?_) | ((with_reducible refine isC_draw ?_); refine aw_prune [0, 1, 2, 3, 6, 7, 8, 9, 33, 34] rfl rfl ?_; refine aw_drwE [] ?_) | ((first | with_reducible refine isA_bslice ?_ | with_reducible refine isE_bslice ?_); (first | refine wA ?_ | refine wE ?_); (first | refine ew_i (adds_closed (b_bslice0 tabOk rfl rfl rfl rfl rfl) zln) ?_ | refine ew_i (adds_closed (b_bslice tabOk rfl rfl rfl rfl rfl rfl rfl rfl rfl rfl rfl rfl (flatLF_ok rfl) (by first | rfl | exact all1 (by assumption) | (simp <;> fail) | fail) (by rfl)) zln) ?_)) | ((with_reducible refine isA_call ?_); refine awl_callP1 (h4) g_none rfl zby ((by omega)) rfl rfl (rfl) rfl zcv rfl zcv ?_) | ((with_reducible refine isE_call ?_); refine d_callP1 (h4) g_none rfl rfl zby ((by omega)) rfl rfl (rfl) rfl zcv rfl zcv rfl ?_) | ((first | with_reducible refine isA_call ?_ | with_reducible refine isE_call ?_); (first | refine zA ?_ | refine zN ?_ | refine zE ?_); (first | refine c0 (h1) ?_ | refine c0 (h2) ?_ | refine c1 (h3) ?_)) | refine stA ?_ | refine stE ?_ | (refine hK _ _ _ _ ?_; clear hK hX K) | (refine hX _ _ _ _ _ (by simp) ?_; clear hK hX K))
    refine retK_mk zio (by exact ⟨me_idle, me_idle_b, trivial⟩) rfl (ResL.two (ResA.tmp rfl) (ResA.tmp rfl)) (out_t (frzl_cons zfz (frzl_cons zfz frzl_nil)))
end Go.Proofs.YtccnhpaldmjkbaaGreat
/-
  Slices of no element that may or may not be nil. For every program.
-/
namespace Go.Av
open Go Go.RowKit
theorem src_v0 {h : Heap} {size c : Nat} {A : Option Addr} : Src h (.c (.v (.slice A 0 c))) size 0 [] := by
  intro B dom M H w u hh hc hu
  simp only [Rep, RepC] at hu
  exact ⟨A, c, [], hu, by simp, by simp [RepCs], by simp, fun h => absurd h (by omega)⟩
theorem cv_v0 {size c : Nat} {A : Option Addr} (hc : c ≤ maxLen) : Cv (.v (.slice A 0 c)) (.sl size 0 []) := fun ok w u h => by
  simp only [RepC] at h ⊢
  exact ⟨A, c, [], h, Nat.zero_le _, hc, by simp, by simp [RepCs], by simp, fun h => absurd h (by omega)⟩
theorem repCs_split0 {ok : Nat → Prop} {w : World} {size : Nat} {ys : List CV} : ∀ (xs : List CV) (vs : List Value), RepCs ok w (xs ++ .sl size 0 [] :: ys) vs → ∃ A c, c ≤ maxLen ∧ RepCs ok w (xs ++ .v (.slice A 0 c) :: ys) vs
  | [], vs, h => by
    simp only [List.nil_append, RepCs] at h
    obtain ⟨u, us, rfl, h1, h2⟩ := h
    simp only [RepC] at h1
    obtain ⟨A, c, us', rfl, _, h3, _⟩ := h1
    refine ⟨A, c, h3, ?_⟩
    simp only [List.nil_append, RepCs, RepC]
    exact ⟨_, us, rfl, rfl, h2⟩
  | x :: xs, vs, h => by
    simp only [List.cons_append, RepCs] at h
    obtain ⟨u, us, rfl, h1, h2⟩ := h
    obtain ⟨A, c, h3, h4⟩ := repCs_split0 xs us h2
    refine ⟨A, c, h3, ?_⟩
    simp only [List.cons_append, RepCs]
    exact ⟨u, us, rfl, h1, h4⟩
theorem AC.split0 {P : Program} {f : FuncId} {size : Nat} {xs ys : List CV} {r : AV} {hr : Heap} {nr : Nat} (h : ∀ A c, c ≤ maxLen → AC P f (xs ++ .v (.slice A 0 c) :: ys) r hr nr) : AC P f (xs ++ .sl size 0 [] :: ys) r hr nr := fun ok w vs hvs => by
  obtain ⟨A, c, hc, h1⟩ := repCs_split0 xs vs hvs
  exact h A c hc ok w vs h1
end Go.Av
