/-
  Squeezing and Sum (walk), as the program has it.
-/
import Derived.Test.YtgofigkhdjjlmaaD5
import Derived.Test.YtgofigkhdjjlmaaWK
import Derived.Test.YtgofigkhdjjlmaaAvV
import Derived.Test.YtgofigkhdjjlmaaAvY
import Derived.Test.YtgofigkhdjjlmaaAvT
set_option linter.unusedVariables false
set_option linter.unusedSimpArgs false
namespace Go.Proofs.Ytgofigkhdjjlmaa
open Go Go.RowKit Go.Av
set_option maxRecDepth 100000
theorem sum_idle : Idle Try.prog 70 0 := by
  intro us w hl
  obtain ⟨_, rfl⟩ : ∃ _ : Unit, us = [] := by
    match us, hl with | [], _ => exact ⟨(), rfl⟩
  refine callsD_of_wpS Try.func70 rfl fun c₀ cs hu => ?_
  apply wpS_region
  simp [wpOpsS, go_sem, recoverD, hu, Try.ntmps70, Exit.thenS]
  cases c₀
  simp_all [bodyPostS, results, Try.results70]
theorem sum_idle_b : Body Try.prog 70 := by unfold Body; kernel_rfl
/-- The row of n bytes of which i are filled. -/
def fil (S : S5) (n i : Nat) : List UInt8 := outB S i ++ List.replicate (n - i) 0
theorem fil_zero (S : S5) (n : Nat) : fil S n 0 = List.replicate n 0 := by simp [fil, outB]
theorem fil_full (S : S5) (n : Nat) : fil S n n = outB S n := by simp [fil]
theorem fil_length (S : S5) (n i : Nat) (h : i ≤ n) : (fil S n i).length = n := by simp [fil, outB_length]; omega
theorem u8c_set (l : List UInt8) (i : Nat) (b : UInt8) : (u8c l).set i (.v (.int .u8 (b.toNat : Int))) = u8c (l.set i b) := by
  unfold u8c
  rw [← List.map_set]
theorem fil_set (S : S5) (n i : Nat) (h : i < n) : (u8c (fil S n i)).set (0 + i * 1) (.v (.int .u8 ((byteAt S i).toNat : Int))) = u8c (fil S n (i + 1)) := by
  rw [u8c_set, Nat.zero_add, Nat.mul_one]
  congr 1
  unfold fil
  rw [outB_succ, List.set_append_right _ _ (by rw [outB_length]; omega), outB_length, Nat.sub_self, show n - i = (n - (i + 1)) + 1 by omega, List.replicate_succ, List.set_cons_zero]
  simp
def stAt (S : S5) (i : Nat) : S5 := permN ((i - 1) / 8) S
theorem stAt_same (S : S5) (i : Nat) (h : ¬ (0 < i ∧ i % 8 = 0)) : stAt S i = permN (i / 8) S := by
  unfold stAt; congr 1; omega
theorem stAt_next (S : S5) (i : Nat) (h : 0 < i ∧ i % 8 = 0) : permute (stAt S i) = permN (i / 8) S := by
  unfold stAt
  rw [show i / 8 = (i - 1) / 8 + 1 by omega]
  rfl
theorem stAt_succ (S : S5) (i : Nat) : stAt S (i + 1) = permN (i / 8) S := rfl
attribute [local irreducible] Still Adds AWL AW Drw AC AWR Weak Frz Src RetK Out InK
abbrev z32 : List CV := List.map CV.v [.int .u8 0, .int .u8 0, .int .u8 0, .int .u8 0, .int .u8 0, .int .u8 0, .int .u8 0, .int .u8 0, .int .u8 0, .int .u8 0, .int .u8 0, .int .u8 0, .int .u8 0, .int .u8 0, .int .u8 0, .int .u8 0, .int .u8 0, .int .u8 0, .int .u8 0, .int .u8 0, .int .u8 0, .int .u8 0, .int .u8 0, .int .u8 0, .int .u8 0, .int .u8 0, .int .u8 0, .int .u8 0, .int .u8 0, .int .u8 0, .int .u8 0, .int .u8 0]
set_option maxHeartbeats 4000000 in
theorem sum_ok (dom : BitVec 64) (l : List UInt8) (n : Nat) (hl : l.length = n) (hm : n ≤ maxLen) : AC Try.prog 33 [wv dom, .sl 1 n (u8c l)] (.c (.agg (u8c (sum dom l)))) [] 0 := by
  refine ac_enter tabOk (sz := 12) Try.func33 rfl (by rw [Try.ntmps33]; rfl) ?_
  repeat' (first
    | ((with_reducible refine aw_seqk ?_); intro K hK hX)
    | ((with_reducible refine isC_reg ?_); refine aw_prune [0, 1, 2, 4, 5, 6, 7] rfl rfl ?_; with_reducible refine aw_region ?_)
    | ((with_reducible refine isC_draw ?_); refine aw_prune [0, 1, 2, 4, 5, 6, 7] rfl rfl ?_; refine aw_drwF [71] ?_)
    | ((first | with_reducible refine isA_call ?_ | with_reducible refine isD_call ?_); (first | refine zA ?_ | refine zN ?_ | refine zD ?_); (first | refine c0 (absorb_ok dom l n hl hm) ?_))
    | ((first | with_reducible refine isA_call ?_ | with_reducible refine isA_callv ?_); refine awl_inl tabOk [0, 1, 2, 3, 4, 5, 6, 7, 8, 9, 10, 11, 12, 13, 14, 15, 16, 17, 18, 19, 20, 21, 22, 23, 24, 25, 26, 27, 28, 29] g_none rfl rfl (by unfold Body; kernel_rfl) Try.func71 rfl rfl rfl (szf := 30) (by rw [Try.ntmps71]; rfl) rfl ?_)
    | refine stA ?_
    | refine stD ?_
    | (refine hK _ _ _ _ ?_; clear hK hX K)
    | (refine hX _ _ _ _ _ (by simp) ?_; clear hK hX K)
    | (first | refine inK_some (by first | exact .inl rfl | exact .inr rfl) (by exact trivial) rfl ResL.none ?_ | refine inK_none (by first | exact .inl rfl | exact .inr rfl) (by exact trivial) rfl ResL.none ?_))
  generalize hS : absorb dom l = S
  refine aw_loopk 3 (fun i : Nat => [(1, .own 1 0 32 1 false), (2, .ref 2 0), (6, .c (iv 32)), (7, .c (iv i))]) (fun i => [(0, .row 35 z32), (1, .row 35 (u8c (fil S 32 i))), (2, .row 30 (stAt S i).cs)]) _ (fun i => i ≤ 32) (fun i => 32 - i) 0 (by omega) weakA ?_
  intro i hi K hK hX
  by_cases hlt : i < 32
  · skip
    have hlen : (u8c (fil S 32 i)).length = 32 := by rw [u8c_length, fil_length _ _ _ (by omega)]
    by_cases h0 : 0 < i
    · have g1 : (decide ((0 : Int) < (i : Int)) == true) = true := by rw [decide_eq_true (by omega)]; rfl
      by_cases h8 : i % 8 = 0
      · repeat' (first
    | ((with_reducible refine aw_seqk ?_); intro K hK hX)
    | ((with_reducible refine isC_reg ?_); refine aw_prune [0, 1, 2, 4, 5, 6, 7] rfl rfl ?_; with_reducible refine aw_region ?_)
    | ((with_reducible refine isC_draw ?_); refine aw_prune [0, 1, 2, 4, 5, 6, 7] rfl rfl ?_; refine aw_drwF [71] ?_)
    | ((first | with_reducible refine isA_call ?_ | with_reducible refine isD_call ?_); (first | refine zA ?_ | refine zN ?_ | refine zD ?_); (first | refine c0 (permute_ok (stAt S i)) ?_))
    | ((first | with_reducible refine isA_call ?_ | with_reducible refine isA_callv ?_); refine awl_inl tabOk [0, 1, 2, 3, 4, 5, 6, 7, 8, 9, 10, 11, 12, 13, 14, 15, 16, 17, 18, 19, 20, 21, 22, 23, 24, 25, 26, 27, 28, 29] g_none rfl rfl (by unfold Body; kernel_rfl) Try.func71 rfl rfl rfl (szf := 30) (by rw [Try.ntmps71]; rfl) rfl ?_)
    | ((first | ((with_reducible refine isA_any ?_); refine xA ?_) | ((with_reducible refine isDk_any ?_); refine xD ?_)); (first | ((with_reducible refine e_bin ?_); (first | refine ex_i (s_shrW rfl isW_rfl rfl (show 8 * ((i : Int) % 8) = ((8 * (i % 8) : Nat) : Int) by omega)) ?_))))
    | ((with_reducible refine isA_store ?_); (refine awl_store1r tabOk g_none rfl rfl rfl rfl rfl rfl (by first | omega | exact Nat.le_of_ble_eq_true rfl | omega | (simp; omega)) ?_))
    | refine stA ?_
    | refine stD ?_
    | (refine hK _ _ _ _ ?_; clear hK hX K)
    | (refine hX _ _ _ _ _ (by simp) ?_; clear hK hX K)
    | (first | refine inK_some (by first | exact .inl rfl | exact .inr rfl) (by exact trivial) rfl ResL.none ?_ | refine inK_none (by first | exact .inl rfl | exact .inr rfl) (by exact trivial) rfl ResL.none ?_))
        rw [stAt_next S i ⟨h0, h8⟩]
        exact ⟨i + 1, by omega, by omega, (by refine weak_mk rfl ?_ ?_ rfl <;> (repeat' (first | exact weakE_nil | exact weakH_nil | refine weakE_cons rfl (by first | rfl | (exact congrArg (AObj.row 35) (fil_set S 32 i hlt)) | exact own_eq rfl rfl (by omega) | exact int_eq (by omega) | (simp <;> fail) | (congr 4; omega) | (congr 3; omega) | (congr 2; omega)) rfl ?_ | refine weakH_cons rfl (by first | rfl | (exact congrArg (AObj.row 35) (fil_set S 32 i hlt)) | exact own_eq rfl rfl (by omega) | exact int_eq (by omega) | (simp <;> fail) | (congr 4; omega) | (congr 3; omega) | (congr 2; omega)) rfl ?_)))⟩
      · repeat' (first
    | ((with_reducible refine aw_seqk ?_); intro K hK hX)
    | ((with_reducible refine isC_reg ?_); refine aw_prune [0, 1, 2, 4, 5, 6, 7] rfl rfl ?_; with_reducible refine aw_region ?_)
    | ((with_reducible refine isC_draw ?_); refine aw_prune [0, 1, 2, 4, 5, 6, 7] rfl rfl ?_; refine aw_drwF [71] ?_)
    | ((first | with_reducible refine isA_call ?_ | with_reducible refine isA_callv ?_); refine awl_inl tabOk [0, 1, 2, 3, 4, 5, 6, 7, 8, 9, 10, 11, 12, 13, 14, 15, 16, 17, 18, 19, 20, 21, 22, 23, 24, 25, 26, 27, 28, 29] g_none rfl rfl (by unfold Body; kernel_rfl) Try.func71 rfl rfl rfl (szf := 30) (by rw [Try.ntmps71]; rfl) rfl ?_)
    | ((first | ((with_reducible refine isA_any ?_); refine xA ?_) | ((with_reducible refine isDk_any ?_); refine xD ?_)); (first | ((with_reducible refine e_bin ?_); (first | refine ex_i (s_shrW rfl isW_rfl rfl (show 8 * ((i : Int) % 8) = ((8 * (i % 8) : Nat) : Int) by omega)) ?_))))
    | ((with_reducible refine isA_store ?_); (refine awl_store1r tabOk g_none rfl rfl rfl rfl rfl rfl (by first | omega | exact Nat.le_of_ble_eq_true rfl | omega | (simp; omega)) ?_))
    | refine stA ?_
    | refine stD ?_
    | (refine hK _ _ _ _ ?_; clear hK hX K)
    | (refine hX _ _ _ _ _ (by simp) ?_; clear hK hX K)
    | (first | refine inK_some (by first | exact .inl rfl | exact .inr rfl) (by exact trivial) rfl ResL.none ?_ | refine inK_none (by first | exact .inl rfl | exact .inr rfl) (by exact trivial) rfl ResL.none ?_))
        rw [stAt_same S i (fun h => h8 h.2)]
        exact ⟨i + 1, by omega, by omega, (by refine weak_mk rfl ?_ ?_ rfl <;> (repeat' (first | exact weakE_nil | exact weakH_nil | refine weakE_cons rfl (by first | rfl | (exact congrArg (AObj.row 35) (fil_set S 32 i hlt)) | exact own_eq rfl rfl (by omega) | exact int_eq (by omega) | (simp <;> fail) | (congr 4; omega) | (congr 3; omega) | (congr 2; omega)) rfl ?_ | refine weakH_cons rfl (by first | rfl | (exact congrArg (AObj.row 35) (fil_set S 32 i hlt)) | exact own_eq rfl rfl (by omega) | exact int_eq (by omega) | (simp <;> fail) | (congr 4; omega) | (congr 3; omega) | (congr 2; omega)) rfl ?_)))⟩
    · have g1 : (decide ((0 : Int) < (i : Int)) == true) = false := by rw [decide_eq_false (by omega)]; rfl
      repeat' (first
    | ((with_reducible refine aw_seqk ?_); intro K hK hX)
    | ((with_reducible refine isC_reg ?_); refine aw_prune [0, 1, 2, 4, 5, 6, 7] rfl rfl ?_; with_reducible refine aw_region ?_)
    | ((with_reducible refine isC_draw ?_); refine aw_prune [0, 1, 2, 4, 5, 6, 7] rfl rfl ?_; refine aw_drwF [71] ?_)
    | ((first | with_reducible refine isA_call ?_ | with_reducible refine isA_callv ?_); refine awl_inl tabOk [0, 1, 2, 3, 4, 5, 6, 7, 8, 9, 10, 11, 12, 13, 14, 15, 16, 17, 18, 19, 20, 21, 22, 23, 24, 25, 26, 27, 28, 29] g_none rfl rfl (by unfold Body; kernel_rfl) Try.func71 rfl rfl rfl (szf := 30) (by rw [Try.ntmps71]; rfl) rfl ?_)
    | ((first | ((with_reducible refine isA_any ?_); refine xA ?_) | ((with_reducible refine isDk_any ?_); refine xD ?_)); (first | ((with_reducible refine e_bin ?_); (first | refine ex_i (s_shrW rfl isW_rfl rfl (show 8 * ((i : Int) % 8) = ((8 * (i % 8) : Nat) : Int) by omega)) ?_))))
    | ((with_reducible refine isA_store ?_); (refine awl_store1r tabOk g_none rfl rfl rfl rfl rfl rfl (by first | omega | exact Nat.le_of_ble_eq_true rfl | omega | (simp; omega)) ?_))
    | refine stA ?_
    | refine stD ?_
    | (refine hK _ _ _ _ ?_; clear hK hX K)
    | (refine hX _ _ _ _ _ (by simp) ?_; clear hK hX K)
    | (first | refine inK_some (by first | exact .inl rfl | exact .inr rfl) (by exact trivial) rfl ResL.none ?_ | refine inK_none (by first | exact .inl rfl | exact .inr rfl) (by exact trivial) rfl ResL.none ?_))
      rw [stAt_same S i (fun h => h0 h.1)]
      exact ⟨i + 1, by omega, by omega, (by refine weak_mk rfl ?_ ?_ rfl <;> (repeat' (first | exact weakE_nil | exact weakH_nil | refine weakE_cons rfl (by first | rfl | (exact congrArg (AObj.row 35) (fil_set S 32 i hlt)) | exact own_eq rfl rfl (by omega) | exact int_eq (by omega) | (simp <;> fail) | (congr 4; omega) | (congr 3; omega) | (congr 2; omega)) rfl ?_ | refine weakH_cons rfl (by first | rfl | (exact congrArg (AObj.row 35) (fil_set S 32 i hlt)) | exact own_eq rfl rfl (by omega) | exact int_eq (by omega) | (simp <;> fail) | (congr 4; omega) | (congr 3; omega) | (congr 2; omega)) rfl ?_)))⟩
  · obtain rfl : i = 32 := by omega
    repeat' (first
    | ((with_reducible refine aw_seqk ?_); intro K hK hX)
    | ((with_reducible refine isC_reg ?_); refine aw_prune [0, 1, 2, 4, 5, 6, 7] rfl rfl ?_; with_reducible refine aw_region ?_)
    | ((with_reducible refine isC_draw ?_); refine aw_prune [0, 1, 2, 4, 5, 6, 7] rfl rfl ?_; refine aw_drwF [71] ?_)
    | ((first | with_reducible refine isA_call ?_ | with_reducible refine isA_callv ?_); refine awl_inl tabOk [0, 1, 2, 3, 4, 5, 6, 7, 8, 9, 10, 11, 12, 13, 14, 15, 16, 17, 18, 19, 20, 21, 22, 23, 24, 25, 26, 27, 28, 29] g_none rfl rfl (by unfold Body; kernel_rfl) Try.func71 rfl rfl rfl (szf := 30) (by rw [Try.ntmps71]; rfl) rfl ?_)
    | refine stA ?_
    | refine stD ?_
    | (refine hK _ _ _ _ ?_; clear hK hX K)
    | (refine hX _ _ _ _ _ (by simp) ?_; clear hK hX K)
    | (first | refine inK_some (by first | exact .inl rfl | exact .inr rfl) (by exact trivial) rfl ResL.none ?_ | refine inK_none (by first | exact .inl rfl | exact .inr rfl) (by exact trivial) rfl ResL.none ?_))
    rw [fil_full]
    subst hS
    have hlen : (u8c (outB (absorb dom l) 32)).length = 32 := by rw [u8c_length, outB_length]
    refine retK_mk (by first | exact .inl rfl | exact .inr rfl) (by exact ⟨sum_idle, sum_idle_b, trivial⟩) (ResL.one (by first | exact ResA.one rfl rfl rfl rfl rfl | exact ResA.agg rfl rfl rfl rfl rfl (by first | exact IsAgg.closed rfl rfl | exact IsAgg.mixed _) | exact ResA.aggr rfl rfl rfl rfl (by first | rfl | with_reducible assumption | (simp <;> fail) | omega | (simp; omega) | assumption))) (by first | exact out_c (by first | exact frz_c cv_rfl | exact frz_c cv_nil | exact frz_ownW rfl rfl (by first | rfl | with_reducible assumption | (simp <;> fail) | omega | (simp; omega) | assumption) | exact frz_eq (frz_c cv_rfl) (by first | rfl | (simp <;> fail) | fail)) | exact out_own rfl rfl)
end Go.Proofs.Ytgofigkhdjjlmaa
