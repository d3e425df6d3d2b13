/-
  Slices put together; Keyed and Expand (walk), as the program has them.
-/
import Derived.Test.YtgofigkhdjjlmaaD6
import Derived.Test.YtgofigkhdjjlmaaWK
import Derived.Test.YtgofigkhdjjlmaaAvS
import Derived.Test.YtgofigkhdjjlmaaAvT
set_option linter.unusedVariables false
set_option linter.unusedSimpArgs false
namespace Go.Proofs.Ytgofigkhdjjlmaa
open Go Go.RowKit Go.Av
set_option maxRecDepth 100000
theorem keyed_idle : Idle Try.prog 81 0 := by
  intro us w hl
  obtain ⟨_, rfl⟩ : ∃ _ : Unit, us = [] := by
    match us, hl with | [], _ => exact ⟨(), rfl⟩
  refine callsD_of_wpS Try.func81 rfl fun c₀ cs hu => ?_
  apply wpS_region
  simp [wpOpsS, go_sem, recoverD, hu, Try.ntmps81, Exit.thenS]
  cases c₀
  simp_all [bodyPostS, results, Try.results81]
theorem keyed_idle_b : Body Try.prog 81 := by unfold Body; kernel_rfl
theorem expand_idle : Idle Try.prog 78 2 := by
  intro us w hl
  obtain ⟨u0, u1, rfl⟩ : ∃ u0 u1, us = [u0, u1] := by
    match us, hl with | [u0, u1], _ => exact ⟨u0, u1, rfl⟩
  refine callsD_of_wpS Try.func78 rfl fun c₀ cs hu => ?_
  apply wpS_seq
  apply wpS_region
  simp [wpOpsS, go_sem, recoverD, hu, Try.ntmps78, Exit.thenS]
  refine wpS_cond (t := false) (by simp [Act.eval, Array.replicate]) ?_
  simp only [Bool.false_eq_true, if_false]
  refine wpS_of_wp (wp_skip ?_)
  cases c₀
  simp_all [bodyPostS, results, Try.results78]
theorem expand_idle_b : Body Try.prog 78 := by unfold Body; kernel_rfl
attribute [local irreducible] Still Adds AWL AW Drw AC AWR Weak Frz Src RetK Out InK
attribute [local simp] u8c_take u8c_drop u8c_app
set_option maxHeartbeats 4000000 in
theorem grow_ok (k : Nat) (h0 : 0 < k) (hk : k ≤ 1000000000) : AC Try.prog 110 [.v (.slice none 0 0), iv k] (.own 0 0 0 1 true) [(0, .row 5 [])] 1 := by
  refine ac_enter tabOk (sz := 27) Try.func110 rfl (by rw [Try.ntmps110]; rfl) ?_
  repeat' (first
    | ((with_reducible refine aw_seqk ?_); intro K hK hX)
    | ((with_reducible refine isC_reg ?_); refine aw_prune [0, 1, 4] rfl rfl ?_; with_reducible refine aw_region ?_)
    | refine stA ?_
    | (refine hK _ _ _ _ ?_; clear hK hX K)
    | (refine hX _ _ _ _ _ (by simp) ?_; clear hK hX K))
  refine retK_mk (by first | exact .inl rfl | exact .inr rfl) (by exact trivial) (ResL.one (ResA.tmp rfl)) (by first | exact out_c (by first | exact frz_c cv_rfl | exact frz_c cv_nil | exact frz_ownW rfl rfl (by first | rfl | with_reducible assumption | (simp <;> fail) | omega | (simp; omega) | assumption) | exact frz_eq (frz_c cv_rfl) (by first | rfl | (simp <;> fail) | fail)) | exact out_own rfl rfl)
set_option maxHeartbeats 4000000 in
theorem concat_ok (a b : List UInt8) (m n : Nat) (ha : a.length = m) (hb : b.length = n) (h0 : 0 < m) (hk : m + n ≤ 1000000000) : AC Try.prog 80 [.sl 1 2 [.sl 1 m (u8c a), .sl 1 n (u8c b)]] (.own 0 0 (m + n) 1 true) [(0, .row 5 (u8c (a ++ b)))] 1 := by
  have hua : (u8c a).length = m := by rw [u8c_length, ha]
  have hub : (u8c b).length = n := by rw [u8c_length, hb]
  refine ac_enter tabOk (sz := 36) Try.func80 rfl (by rw [Try.ntmps80]; rfl) ?_
  repeat' (first
    | ((with_reducible refine aw_seqk ?_); intro K hK hX)
    | ((with_reducible refine isC_reg ?_); refine aw_prune [0, 2, 3, 5, 6, 8, 9, 10, 11, 25, 26, 27] rfl rfl ?_; with_reducible refine aw_region ?_)
    | ((with_reducible refine isC_loop ?_); refine aw_rounds 3 ?_)
    | (refine awr_k ?_; intro K hK hX)
    | ((with_reducible refine isA_call ?_); (first | refine zA ?_ | refine zN ?_); (first | refine c1 (grow_ok (m + n) (by omega) (by omega)) ?_))
    | refine stA ?_
    | (refine hK _ _ _ _ ?_; clear hK hX K)
    | (refine hX _ _ _ _ _ (by simp) ?_; clear hK hX K))
  rw [show 0 + m + n = m + n by omega, List.nil_append, ← u8c_app]
  refine retK_mk (by first | exact .inl rfl | exact .inr rfl) (by exact trivial) (ResL.one (ResA.tmp rfl)) (by first | exact out_c (by first | exact frz_c cv_rfl | exact frz_c cv_nil | exact frz_ownW rfl rfl (by first | rfl | with_reducible assumption | (simp <;> fail) | omega | (simp; omega) | assumption) | exact frz_eq (frz_c cv_rfl) (by first | rfl | (simp <;> fail) | fail)) | exact out_own rfl rfl)
set_option maxHeartbeats 4000000 in
theorem keyed_ok (dom : BitVec 64) (k l : List UInt8) (n : Nat) (hk : k.length = 32) (hl : l.length = n) (hm : n ≤ 100000000) : AC Try.prog 44 [wv dom, .agg (u8c k), .sl 1 n (u8c l)] (.c (.agg (u8c (sum dom (k ++ l))))) [] 0 := by
  have hua : (u8c k).length = 32 := by rw [u8c_length, hk]
  have hub : (u8c l).length = n := by rw [u8c_length, hl]
  have hus : (u8c (sum dom (k ++ l))).length = 32 := by rw [u8c_length, sum_length]
  have hukl : (u8c (k ++ l)).length = 32 + n := by rw [u8c_length, List.length_append]; omega
  refine ac_enter tabOk (sz := 13) Try.func44 rfl (by rw [Try.ntmps44]; rfl) ?_
  repeat' (first
    | ((with_reducible refine aw_seqk ?_); intro K hK hX)
    | ((with_reducible refine isC_reg ?_); refine aw_prune [0, 1, 2, 4, 6] rfl rfl ?_; with_reducible refine aw_region ?_)
    | refine stA ?_
    | (refine hK _ _ _ _ ?_; clear hK hX K)
    | (refine hX _ _ _ _ _ (by simp) ?_; clear hK hX K))
  refine awl_weak (weak_fz (E := [(6, .ref 1 0), (7, .c (wv dom)), (8, .c (.sl 1 32 (u8c k))), (9, .c (.sl 1 n (u8c l)))]) (Hp := [(1, .row 35 z32)]) (by repeat' (first | exact FzE.nil | refine FzE.cons rfl ?_ ?_ | exact fz_same | exact fz_ref rfl rfl | exact fz_ownW rfl rfl (by first | rfl | with_reducible assumption | (simp <;> fail) | omega | (simp; omega) | assumption) | exact fz_own rfl rfl (by first | exact whole0 (by first | rfl | omega) | rfl) (by first | rfl | with_reducible assumption | (simp <;> fail) | omega | (simp; omega) | assumption))) (by repeat' (first | exact trivial | refine ⟨rfl, ?_⟩))) ?_
  repeat' (first
    | ((with_reducible refine aw_seqk ?_); intro K hK hX)
    | ((with_reducible refine isC_reg ?_); refine aw_prune [0, 1, 2, 4, 6] rfl rfl ?_; with_reducible refine aw_region ?_)
    | ((with_reducible refine isA_call ?_); (first | refine wA ?_ | refine wN ?_); (first | refine cF (sum_ok dom (k ++ l) (32 + n) (by simp; omega) (by simp only [maxLen]; omega)) ?_))
    | ((with_reducible refine isA_call ?_); (refine yA ?_); (first | refine cF1 (concat_ok k l 32 n hk hl (by decide) (by omega)) ?_))
    | refine stA ?_
    | (refine hK _ _ _ _ ?_; clear hK hX K)
    | (refine hX _ _ _ _ _ (by simp) ?_; clear hK hX K))
  refine retK_mk (by first | exact .inl rfl | exact .inr rfl) (by exact ⟨keyed_idle, keyed_idle_b, trivial⟩) (ResL.one (by first | exact ResA.one rfl rfl rfl rfl rfl | exact ResA.agg rfl rfl rfl rfl rfl (by first | exact IsAgg.closed rfl rfl | exact IsAgg.mixed _) | exact ResA.aggr rfl rfl rfl rfl (by first | rfl | with_reducible assumption | (simp <;> fail) | omega | (simp; omega) | assumption))) (by first | exact out_c (by first | exact frz_c cv_rfl | exact frz_c cv_nil | exact frz_ownW rfl rfl (by first | rfl | with_reducible assumption | (simp <;> fail) | omega | (simp; omega) | assumption) | exact frz_eq (frz_c cv_rfl) (by first | rfl | (simp <;> fail) | fail)) | exact out_own rfl rfl)
theorem zc_u8 (n : Nat) : zc [Value.int .u8 0] n = u8c (List.replicate n 0) := by
  induction n with
  | zero => rfl
  | succ n ih =>
    simp only [zc, List.replicate_succ, List.flatten_cons, u8c, List.map_cons] at ih ⊢
    rw [ih]
    rfl
set_option maxHeartbeats 4000000 in
theorem expand_ok (dom : BitVec 64) (k : List UInt8) (n : Nat) (hk : k.length = 32) (hm : n ≤ 4096) : AC Try.prog 39 [wv dom, .agg (u8c k), iv n] (.tup [.c (.sl 1 n (u8c (outB (absorb dom k) n))), .c (iv 0)]) [] 0 := by
  have hua : (u8c k).length = 32 := by rw [u8c_length, hk]
  have g1 : (decide ((n : Int) < 0) == false) = true := by rw [decide_eq_false (by omega)]; rfl
  refine ac_enter tabOk (sz := 24) Try.func39 rfl (by rw [Try.ntmps39]; rfl) ?_
  repeat' (first
    | ((with_reducible refine aw_seqk ?_); intro K hK hX)
    | ((with_reducible refine isC_reg ?_); refine aw_prune [0, 1, 2, 4, 6, 7, 8] rfl rfl ?_; with_reducible refine aw_region ?_)
    | ((with_reducible refine isA_call ?_); (first | refine wA ?_ | refine wN ?_); (first | refine cF (absorb_ok dom k 32 hk (by decide)) ?_))
    | ((first | with_reducible refine isA_call ?_ | with_reducible refine isA_callv ?_); refine awl_inl tabOk [0, 1, 2, 3, 4, 5, 6, 7, 8, 9, 10, 11, 12, 13, 14, 15, 16, 17, 18, 19, 20, 21, 22, 23, 24, 25, 26, 27, 28, 29] g_none rfl rfl (by unfold Body; kernel_rfl) Try.func71 rfl rfl rfl (szf := 30) (by rw [Try.ntmps71]; rfl) rfl ?_)
    | refine stA ?_
    | (refine hK _ _ _ _ ?_; clear hK hX K)
    | (refine hX _ _ _ _ _ (by simp) ?_; clear hK hX K)
    | (first | refine inK_some (by first | exact .inl rfl | exact .inr rfl) (by exact trivial) rfl ResL.none ?_ | refine inK_none (by first | exact .inl rfl | exact .inr rfl) (by exact trivial) rfl ResL.none ?_))
  generalize hS : absorb dom k = S
  refine aw_loopk 5 (fun i : Nat => [(1, .own 3 0 n 1 true), (2, .ref 4 0), (6, .c (iv n)), (7, .c (iv i))]) (fun i => [(0, .row 35 (u8c k)), (1, .blk 22 [.c (.v (.slice none 0 0))]), (2, .blk 39 [.c (iv 0)]), (3, .row 5 (u8c (fil S n i))), (4, .row 30 (stAt S i).cs)]) _ (fun i => i ≤ n) (fun i => n - i) 0 (by omega) (by refine weak_mk rfl ?_ ?_ rfl <;> (repeat' (first | exact weakE_nil | exact weakH_nil | refine weakE_cons rfl (by first | rfl | (exact congrArg (AObj.row 5) (by rw [fil_zero]; exact zc_u8 n)) | exact own_eq rfl rfl (by omega) | exact int_eq (by omega) | (simp <;> fail) | (congr 4; omega) | (congr 3; omega) | (congr 2; omega)) rfl ?_ | refine weakH_cons rfl (by first | rfl | (exact congrArg (AObj.row 5) (by rw [fil_zero]; exact zc_u8 n)) | exact own_eq rfl rfl (by omega) | exact int_eq (by omega) | (simp <;> fail) | (congr 4; omega) | (congr 3; omega) | (congr 2; omega)) rfl ?_))) ?_
  intro i hi K hK hX
  by_cases hlt : i < n
  · skip
    have hlen : (u8c (fil S n i)).length = n := by rw [u8c_length, fil_length _ _ _ (by omega)]
    by_cases h0 : 0 < i
    · have g1 : (decide ((0 : Int) < (i : Int)) == true) = true := by rw [decide_eq_true (by omega)]; rfl
      by_cases h8 : i % 8 = 0
      · repeat' (first
    | ((with_reducible refine aw_seqk ?_); intro K hK hX)
    | ((with_reducible refine isC_reg ?_); refine aw_prune [0, 1, 2, 4, 6, 7, 8] rfl rfl ?_; with_reducible refine aw_region ?_)
    | ((with_reducible refine isA_call ?_); (first | refine zA ?_ | refine zN ?_); (first | refine c0 (permute_ok (stAt S i)) ?_))
    | ((first | with_reducible refine isA_call ?_ | with_reducible refine isA_callv ?_); refine awl_inl tabOk [0, 1, 2, 3, 4, 5, 6, 7, 8, 9, 10, 11, 12, 13, 14, 15, 16, 17, 18, 19, 20, 21, 22, 23, 24, 25, 26, 27, 28, 29] g_none rfl rfl (by unfold Body; kernel_rfl) Try.func71 rfl rfl rfl (szf := 30) (by rw [Try.ntmps71]; rfl) rfl ?_)
    | (((with_reducible refine isA_any ?_); refine xA ?_); (first | ((with_reducible refine e_bin ?_); (first | refine ex_i (s_shrW rfl isW_rfl rfl (show 8 * ((i : Int) % 8) = ((8 * (i % 8) : Nat) : Int) by omega)) ?_))))
    | ((with_reducible refine isA_store ?_); (refine awl_store1r tabOk g_none rfl rfl rfl rfl rfl rfl (by first | omega | exact Nat.le_of_ble_eq_true rfl | omega | (simp; omega)) ?_))
    | refine stA ?_
    | (refine hK _ _ _ _ ?_; clear hK hX K)
    | (refine hX _ _ _ _ _ (by simp) ?_; clear hK hX K)
    | (first | refine inK_some (by first | exact .inl rfl | exact .inr rfl) (by exact trivial) rfl ResL.none ?_ | refine inK_none (by first | exact .inl rfl | exact .inr rfl) (by exact trivial) rfl ResL.none ?_))
        rw [stAt_next S i ⟨h0, h8⟩]
        exact ⟨i + 1, by omega, by omega, (by refine weak_mk rfl ?_ ?_ rfl <;> (repeat' (first | exact weakE_nil | exact weakH_nil | refine weakE_cons rfl (by first | rfl | (exact congrArg (AObj.row 5) (fil_set S n i hlt)) | exact own_eq rfl rfl (by omega) | exact int_eq (by omega) | (simp <;> fail) | (congr 4; omega) | (congr 3; omega) | (congr 2; omega)) rfl ?_ | refine weakH_cons rfl (by first | rfl | (exact congrArg (AObj.row 5) (fil_set S n i hlt)) | exact own_eq rfl rfl (by omega) | exact int_eq (by omega) | (simp <;> fail) | (congr 4; omega) | (congr 3; omega) | (congr 2; omega)) rfl ?_)))⟩
      · repeat' (first
    | ((with_reducible refine aw_seqk ?_); intro K hK hX)
    | ((with_reducible refine isC_reg ?_); refine aw_prune [0, 1, 2, 4, 6, 7, 8] rfl rfl ?_; with_reducible refine aw_region ?_)
    | ((first | with_reducible refine isA_call ?_ | with_reducible refine isA_callv ?_); refine awl_inl tabOk [0, 1, 2, 3, 4, 5, 6, 7, 8, 9, 10, 11, 12, 13, 14, 15, 16, 17, 18, 19, 20, 21, 22, 23, 24, 25, 26, 27, 28, 29] g_none rfl rfl (by unfold Body; kernel_rfl) Try.func71 rfl rfl rfl (szf := 30) (by rw [Try.ntmps71]; rfl) rfl ?_)
    | (((with_reducible refine isA_any ?_); refine xA ?_); (first | ((with_reducible refine e_bin ?_); (first | refine ex_i (s_shrW rfl isW_rfl rfl (show 8 * ((i : Int) % 8) = ((8 * (i % 8) : Nat) : Int) by omega)) ?_))))
    | ((with_reducible refine isA_store ?_); (refine awl_store1r tabOk g_none rfl rfl rfl rfl rfl rfl (by first | omega | exact Nat.le_of_ble_eq_true rfl | omega | (simp; omega)) ?_))
    | refine stA ?_
    | (refine hK _ _ _ _ ?_; clear hK hX K)
    | (refine hX _ _ _ _ _ (by simp) ?_; clear hK hX K)
    | (first | refine inK_some (by first | exact .inl rfl | exact .inr rfl) (by exact trivial) rfl ResL.none ?_ | refine inK_none (by first | exact .inl rfl | exact .inr rfl) (by exact trivial) rfl ResL.none ?_))
        rw [stAt_same S i (fun h => h8 h.2)]
        exact ⟨i + 1, by omega, by omega, (by refine weak_mk rfl ?_ ?_ rfl <;> (repeat' (first | exact weakE_nil | exact weakH_nil | refine weakE_cons rfl (by first | rfl | (exact congrArg (AObj.row 5) (fil_set S n i hlt)) | exact own_eq rfl rfl (by omega) | exact int_eq (by omega) | (simp <;> fail) | (congr 4; omega) | (congr 3; omega) | (congr 2; omega)) rfl ?_ | refine weakH_cons rfl (by first | rfl | (exact congrArg (AObj.row 5) (fil_set S n i hlt)) | exact own_eq rfl rfl (by omega) | exact int_eq (by omega) | (simp <;> fail) | (congr 4; omega) | (congr 3; omega) | (congr 2; omega)) rfl ?_)))⟩
    · have g1 : (decide ((0 : Int) < (i : Int)) == true) = false := by rw [decide_eq_false (by omega)]; rfl
      repeat' (first
    | ((with_reducible refine aw_seqk ?_); intro K hK hX)
    | ((with_reducible refine isC_reg ?_); refine aw_prune [0, 1, 2, 4, 6, 7, 8] rfl rfl ?_; with_reducible refine aw_region ?_)
    | ((first | with_reducible refine isA_call ?_ | with_reducible refine isA_callv ?_); refine awl_inl tabOk [0, 1, 2, 3, 4, 5, 6, 7, 8, 9, 10, 11, 12, 13, 14, 15, 16, 17, 18, 19, 20, 21, 22, 23, 24, 25, 26, 27, 28, 29] g_none rfl rfl (by unfold Body; kernel_rfl) Try.func71 rfl rfl rfl (szf := 30) (by rw [Try.ntmps71]; rfl) rfl ?_)
    | (((with_reducible refine isA_any ?_); refine xA ?_); (first | ((with_reducible refine e_bin ?_); (first | refine ex_i (s_shrW rfl isW_rfl rfl (show 8 * ((i : Int) % 8) = ((8 * (i % 8) : Nat) : Int) by omega)) ?_))))
    | ((with_reducible refine isA_store ?_); (refine awl_store1r tabOk g_none rfl rfl rfl rfl rfl rfl (by first | omega | exact Nat.le_of_ble_eq_true rfl | omega | (simp; omega)) ?_))
    | refine stA ?_
    | (refine hK _ _ _ _ ?_; clear hK hX K)
    | (refine hX _ _ _ _ _ (by simp) ?_; clear hK hX K)
    | (first | refine inK_some (by first | exact .inl rfl | exact .inr rfl) (by exact trivial) rfl ResL.none ?_ | refine inK_none (by first | exact .inl rfl | exact .inr rfl) (by exact trivial) rfl ResL.none ?_))
      rw [stAt_same S i (fun h => h0 h.1)]
      exact ⟨i + 1, by omega, by omega, (by refine weak_mk rfl ?_ ?_ rfl <;> (repeat' (first | exact weakE_nil | exact weakH_nil | refine weakE_cons rfl (by first | rfl | (exact congrArg (AObj.row 5) (fil_set S n i hlt)) | exact own_eq rfl rfl (by omega) | exact int_eq (by omega) | (simp <;> fail) | (congr 4; omega) | (congr 3; omega) | (congr 2; omega)) rfl ?_ | refine weakH_cons rfl (by first | rfl | (exact congrArg (AObj.row 5) (fil_set S n i hlt)) | exact own_eq rfl rfl (by omega) | exact int_eq (by omega) | (simp <;> fail) | (congr 4; omega) | (congr 3; omega) | (congr 2; omega)) rfl ?_)))⟩
  · obtain rfl : i = n := by omega
    repeat' (first
    | ((with_reducible refine aw_seqk ?_); intro K hK hX)
    | ((with_reducible refine isC_reg ?_); refine aw_prune [0, 1, 2, 4, 6, 7, 8] rfl rfl ?_; with_reducible refine aw_region ?_)
    | ((first | with_reducible refine isA_call ?_ | with_reducible refine isA_callv ?_); refine awl_inl tabOk [0, 1, 2, 3, 4, 5, 6, 7, 8, 9, 10, 11, 12, 13, 14, 15, 16, 17, 18, 19, 20, 21, 22, 23, 24, 25, 26, 27, 28, 29] g_none rfl rfl (by unfold Body; kernel_rfl) Try.func71 rfl rfl rfl (szf := 30) (by rw [Try.ntmps71]; rfl) rfl ?_)
    | refine stA ?_
    | (refine hK _ _ _ _ ?_; clear hK hX K)
    | (refine hX _ _ _ _ _ (by simp) ?_; clear hK hX K)
    | (first | refine inK_some (by first | exact .inl rfl | exact .inr rfl) (by exact trivial) rfl ResL.none ?_ | refine inK_none (by first | exact .inl rfl | exact .inr rfl) (by exact trivial) rfl ResL.none ?_))
    rw [fil_full]
    subst hS
    have hlen : (u8c (outB (absorb dom k) i)).length = i := by rw [u8c_length, outB_length]
    refine retK_mk (by first | exact .inl rfl | exact .inr rfl) (by exact ⟨expand_idle, expand_idle_b, trivial⟩) (ResL.two (by first | exact ResA.one rfl rfl rfl rfl rfl | exact ResA.agg rfl rfl rfl rfl rfl (by first | exact IsAgg.closed rfl rfl | exact IsAgg.mixed _) | exact ResA.aggr rfl rfl rfl rfl (by first | rfl | with_reducible assumption | (simp <;> fail) | omega | (simp; omega) | assumption)) (by first | exact ResA.one rfl rfl rfl rfl rfl | exact ResA.agg rfl rfl rfl rfl rfl (by first | exact IsAgg.closed rfl rfl | exact IsAgg.mixed _) | exact ResA.aggr rfl rfl rfl rfl (by first | rfl | with_reducible assumption | (simp <;> fail) | omega | (simp; omega) | assumption))) (out_t (frzl_cons (by first | exact frz_c cv_rfl | exact frz_c cv_nil | exact frz_ownW rfl rfl (by first | rfl | with_reducible assumption | (simp <;> fail) | omega | (simp; omega) | assumption) | exact frz_eq (frz_c cv_rfl) (by first | rfl | (simp <;> fail) | fail)) (frzl_cons (by first | exact frz_c cv_rfl | exact frz_c cv_nil | exact frz_ownW rfl rfl (by first | rfl | with_reducible assumption | (simp <;> fail) | omega | (simp; omega) | assumption) | exact frz_eq (frz_c cv_rfl) (by first | rfl | (simp <;> fail) | fail)) frzl_nil)))
set_option maxHeartbeats 4000000 in
theorem expand_bad (dom : BitVec 64) (k : List UInt8) (n : Int) (hk : k.length = 32) (hm : n < 0 ∨ 4096 < n) : AC Try.prog 39 [wv dom, .agg (u8c k), iv n] (.tup [.c (.v (.slice none 0 0)), .c (iv 1)]) [] 0 := by
  have hua : (u8c k).length = 32 := by rw [u8c_length, hk]
  by_cases h0 : n < 0
  · have g1 : (decide (n < 0) == false) = false := by rw [decide_eq_true h0]; rfl
    refine ac_enter tabOk (sz := 24) Try.func39 rfl (by rw [Try.ntmps39]; rfl) ?_
    repeat' (first
    | ((with_reducible refine aw_seqk ?_); intro K hK hX)
    | ((with_reducible refine isC_reg ?_); refine aw_prune [0, 1, 2, 4, 6, 7, 8] rfl rfl ?_; with_reducible refine aw_region ?_)
    | refine stA ?_
    | (refine hK _ _ _ _ ?_; clear hK hX K)
    | (refine hX _ _ _ _ _ (by simp) ?_; clear hK hX K))
    refine retK_mk (by first | exact .inl rfl | exact .inr rfl) (by exact ⟨expand_idle, expand_idle_b, trivial⟩) (ResL.two (by first | exact ResA.one rfl rfl rfl rfl rfl | exact ResA.agg rfl rfl rfl rfl rfl (by first | exact IsAgg.closed rfl rfl | exact IsAgg.mixed _) | exact ResA.aggr rfl rfl rfl rfl (by first | rfl | with_reducible assumption | (simp <;> fail) | omega | (simp; omega) | assumption)) (by first | exact ResA.one rfl rfl rfl rfl rfl | exact ResA.agg rfl rfl rfl rfl rfl (by first | exact IsAgg.closed rfl rfl | exact IsAgg.mixed _) | exact ResA.aggr rfl rfl rfl rfl (by first | rfl | with_reducible assumption | (simp <;> fail) | omega | (simp; omega) | assumption))) (out_t (frzl_cons (by first | exact frz_c cv_rfl | exact frz_c cv_nil | exact frz_ownW rfl rfl (by first | rfl | with_reducible assumption | (simp <;> fail) | omega | (simp; omega) | assumption) | exact frz_eq (frz_c cv_rfl) (by first | rfl | (simp <;> fail) | fail)) (frzl_cons (by first | exact frz_c cv_rfl | exact frz_c cv_nil | exact frz_ownW rfl rfl (by first | rfl | with_reducible assumption | (simp <;> fail) | omega | (simp; omega) | assumption) | exact frz_eq (frz_c cv_rfl) (by first | rfl | (simp <;> fail) | fail)) frzl_nil)))
  · have g1 : (decide (n < 0) == false) = true := by rw [decide_eq_false h0]; rfl
    refine ac_enter tabOk (sz := 24) Try.func39 rfl (by rw [Try.ntmps39]; rfl) ?_
    repeat' (first
    | ((with_reducible refine aw_seqk ?_); intro K hK hX)
    | ((with_reducible refine isC_reg ?_); refine aw_prune [0, 1, 2, 4, 6, 7, 8] rfl rfl ?_; with_reducible refine aw_region ?_)
    | refine stA ?_
    | (refine hK _ _ _ _ ?_; clear hK hX K)
    | (refine hX _ _ _ _ _ (by simp) ?_; clear hK hX K))
    refine retK_mk (by first | exact .inl rfl | exact .inr rfl) (by exact ⟨expand_idle, expand_idle_b, trivial⟩) (ResL.two (by first | exact ResA.one rfl rfl rfl rfl rfl | exact ResA.agg rfl rfl rfl rfl rfl (by first | exact IsAgg.closed rfl rfl | exact IsAgg.mixed _) | exact ResA.aggr rfl rfl rfl rfl (by first | rfl | with_reducible assumption | (simp <;> fail) | omega | (simp; omega) | assumption)) (by first | exact ResA.one rfl rfl rfl rfl rfl | exact ResA.agg rfl rfl rfl rfl rfl (by first | exact IsAgg.closed rfl rfl | exact IsAgg.mixed _) | exact ResA.aggr rfl rfl rfl rfl (by first | rfl | with_reducible assumption | (simp <;> fail) | omega | (simp; omega) | assumption))) (out_t (frzl_cons (by first | exact frz_c cv_rfl | exact frz_c cv_nil | exact frz_ownW rfl rfl (by first | rfl | with_reducible assumption | (simp <;> fail) | omega | (simp; omega) | assumption) | exact frz_eq (frz_c cv_rfl) (by first | rfl | (simp <;> fail) | fail)) (frzl_cons (by first | exact frz_c cv_rfl | exact frz_c cv_nil | exact frz_ownW rfl rfl (by first | rfl | with_reducible assumption | (simp <;> fail) | omega | (simp; omega) | assumption) | exact frz_eq (frz_c cv_rfl) (by first | rfl | (simp <;> fail) | fail)) frzl_nil)))
end Go.Proofs.Ytgofigkhdjjlmaa
