/-
  Sum, Bytes, Pair, Keyed (walk), as the reference has them; putting slices together.
-/
import Derived.Test.YtgofigkhdjjlmaaD7
import Derived.Test.YtgofigkhdjjlmaaWK
import Derived.Test.YtgofigkhdjjlmaaAvS
import Derived.Test.YtgofigkhdjjlmaaAvT
set_option linter.unusedVariables false
set_option linter.unusedSimpArgs false
namespace Go.Proofs.Ytgofigkhdjjlmaa
open Go Go.RowKit Go.Av
set_option maxRecDepth 100000
attribute [local irreducible] Still Adds AWL AW Drw AC AWR Weak Frz Src RetK Out InK
attribute [local simp] u8c_take u8c_drop u8c_app
theorem out_at (S : S5) (n i : Nat) (h : i < n) : (u8c (outB S n))[i * 1]? = some (.v (.int .u8 ((byteAt S i).toNat : Int))) := by
  rw [Nat.mul_one]
  refine u8c_get ?_
  simp [outB, h]
set_option maxHeartbeats 4000000 in
theorem rsum_ok (dom : BitVec 64) (l : List UInt8) (n : Nat) (hl : l.length = n) (hm : n ≤ 1000000000) : AC Try.prog 34 [wv dom, .sl 1 n (u8c l)] (.c (.agg (u8c (sum dom l)))) [] 0 := by
  refine ac_enter tabOk (sz := 23) Try.func34 rfl (by rw [Try.ntmps34]; rfl) ?_
  repeat' (first
    | ((with_reducible refine aw_seqk ?_); intro K hK hX)
    | ((with_reducible refine isC_reg ?_); refine aw_prune [0, 1, 4, 5, 6, 7] rfl rfl ?_; with_reducible refine aw_region ?_)
    | ((with_reducible refine isA_call ?_); (first | refine zA ?_ | refine zN ?_); (first | refine c0 (rabsorb_ok dom l n hl hm) ?_ | refine c0 (rsqueeze_ok (absorb dom l) 32 (by decide)) ?_))
    | refine stA ?_
    | (refine hK _ _ _ _ ?_; clear hK hX K)
    | (refine hX _ _ _ _ _ (by simp) ?_; clear hK hX K))
  generalize hS : absorb dom l = S
  refine aw_loopk 2 (fun i : Nat => [(4, .ref 0 0), (5, .ref 1 0), (6, .c (.sl 1 32 (u8c (outB S 32)))), (7, .c (iv i))]) (fun i => [(0, .row 35 z32), (1, .row 35 (u8c (fil S 32 i)))]) [] (fun i => i ≤ 32) (fun i => 32 - i) 0 (by omega) weakA ?_
  intro i hi K hK hX
  have hlen : (u8c (fil S 32 i)).length = 32 := by rw [u8c_length, fil_length _ _ _ (by omega)]
  by_cases hlt : i < 32
  · repeat' (first
    | ((with_reducible refine aw_seqk ?_); intro K hK hX)
    | ((with_reducible refine isC_reg ?_); refine aw_prune [0, 1, 4, 5, 6, 7] rfl rfl ?_; with_reducible refine aw_region ?_)
    | (((with_reducible refine isA_any ?_); refine xA ?_); (first | ((with_reducible refine e_load ?_); (first | refine ex_i (s_load1 tabOk rfl rfl rfl rfl (by exact out_at _ _ _ hlt)) ?_ | refine ex_i (s_load1r tabOk rfl rfl rfl rfl (by exact out_at _ _ _ hlt)) ?_ | refine ex_i (s_load1i tabOk rfl rfl rfl (by exact out_at _ _ _ hlt)) ?_)) | ((with_reducible refine e_ix ?_); (first | refine ex_i (s_ixV1 tabOk rfl rfl (by first | with_reducible exact cast_self _ | with_reducible exact cast_lit _ | exact nt (by omega) | rfl) rfl rfl rfl rfl rfl (by first | exact Nat.le_of_ble_eq_true rfl | omega | (simp; omega)) (by exact out_at _ _ _ hlt)) ?_ | refine ex_i (s_ixStr tabOk rfl rfl (by first | with_reducible exact cast_self _ | with_reducible exact cast_lit _ | exact nt (by omega) | rfl) rfl rfl (by exact out_at _ _ _ hlt)) ?_))))
    | ((with_reducible refine isA_store ?_); (refine awl_store1r tabOk g_none rfl rfl rfl rfl rfl rfl (by first | omega | exact Nat.le_of_ble_eq_true rfl | omega | (simp; omega)) ?_))
    | refine stA ?_
    | (refine hK _ _ _ _ ?_; clear hK hX K)
    | (refine hX _ _ _ _ _ (by simp) ?_; clear hK hX K))
    exact ⟨i + 1, by omega, by omega, (by refine weak_mk rfl ?_ ?_ rfl <;> (repeat' (first | exact weakE_nil | exact weakH_nil | refine weakE_cons rfl (by first | rfl | (exact congrArg (AObj.row 35) (fil_set S 32 i hlt)) | exact own_eq rfl rfl (by omega) | exact int_eq (by omega) | (simp <;> fail) | (congr 4; omega) | (congr 3; omega) | (congr 2; omega)) rfl ?_ | refine weakH_cons rfl (by first | rfl | (exact congrArg (AObj.row 35) (fil_set S 32 i hlt)) | exact own_eq rfl rfl (by omega) | exact int_eq (by omega) | (simp <;> fail) | (congr 4; omega) | (congr 3; omega) | (congr 2; omega)) rfl ?_)))⟩
  · obtain rfl : i = 32 := by omega
    repeat' (first
    | ((with_reducible refine aw_seqk ?_); intro K hK hX)
    | ((with_reducible refine isC_reg ?_); refine aw_prune [0, 1, 4, 5, 6, 7] rfl rfl ?_; with_reducible refine aw_region ?_)
    | refine stA ?_
    | (refine hK _ _ _ _ ?_; clear hK hX K)
    | (refine hX _ _ _ _ _ (by simp) ?_; clear hK hX K))
    rw [fil_full]
    subst hS
    have hlen : (u8c (outB (absorb dom l) 32)).length = 32 := by rw [u8c_length, outB_length]
    refine retK_mk (by first | exact .inl rfl | exact .inr rfl) (by exact trivial) (ResL.one (by first | exact ResA.one rfl rfl rfl rfl rfl | exact ResA.agg rfl rfl rfl rfl rfl (by first | exact IsAgg.closed rfl rfl | exact IsAgg.mixed _) | exact ResA.aggr rfl rfl rfl rfl (by first | rfl | with_reducible assumption | (simp <;> fail) | omega | (simp; omega) | assumption))) (by first | exact out_c (by first | exact frz_c cv_rfl | exact frz_c cv_nil | exact frz_ownW rfl rfl (by first | rfl | with_reducible assumption | (simp <;> fail) | omega | (simp; omega) | assumption) | exact frz_eq (frz_c cv_rfl) (by first | rfl | (simp <;> fail) | fail)) | exact out_own rfl rfl)
theorem take_step (l : List UInt8) (i : Nat) (h : i < l.length) : u8c (l.take i) ++ [.v (.int .u8 ((l.getD i 0).toNat : Int))] = u8c (l.take (i + 1)) := by
  rw [List.take_add_one, u8c_app, List.getElem?_eq_getElem h]
  simp [u8c, List.getD, List.getElem?_eq_getElem h]
set_option maxHeartbeats 4000000 in
theorem bytes_ok (l : List UInt8) (hl : l.length = 32) : AC Try.prog 41 [.agg (u8c l)] (.own 0 0 32 1 true) [(0, .row 5 (u8c l))] 1 := by
  refine ac_enter tabOk (sz := 17) Try.func41 rfl (by rw [Try.ntmps41]; rfl) ?_
  repeat' (first
    | ((with_reducible refine aw_seqk ?_); intro K hK hX)
    | ((with_reducible refine isC_reg ?_); refine aw_prune [0, 1, 2, 3, 4] rfl rfl ?_; with_reducible refine aw_region ?_)
    | refine stA ?_
    | (refine hK _ _ _ _ ?_; clear hK hX K)
    | (refine hX _ _ _ _ _ (by simp) ?_; clear hK hX K))
  refine aw_loopk 2 (fun i : Nat => [(1, .ref 0 0), (3, .own 1 0 i 1 true), (4, .c (iv i))]) (fun i => [(0, .row 35 (u8c l)), (1, .row 5 (u8c (l.take i)))]) [] (fun i => i ≤ 32) (fun i => 32 - i) 0 (by omega) weakA ?_
  intro i hi K hK hX
  have hlen : (u8c (l.take i)).length = i := by rw [u8c_length, List.length_take]; omega
  by_cases hlt : i < 32
  · repeat' (first
    | ((with_reducible refine aw_seqk ?_); intro K hK hX)
    | ((with_reducible refine isC_reg ?_); refine aw_prune [0, 1, 2, 3, 4] rfl rfl ?_; with_reducible refine aw_region ?_)
    | (((with_reducible refine isA_any ?_); refine xA ?_); (first | ((with_reducible refine e_load ?_); (first | refine ex_i (s_load1 tabOk rfl rfl rfl rfl (by exact u8_at0 l i (by omega))) ?_ | refine ex_i (s_load1r tabOk rfl rfl rfl rfl (by exact u8_at0 l i (by omega))) ?_ | refine ex_i (s_load1i tabOk rfl rfl rfl (by exact u8_at0 l i (by omega))) ?_)) | ((with_reducible refine e_ix ?_); (first | refine ex_i (s_ixV1 tabOk rfl rfl (by first | with_reducible exact cast_self _ | with_reducible exact cast_lit _ | exact nt (by omega) | rfl) rfl rfl rfl rfl rfl (by first | exact Nat.le_of_ble_eq_true rfl | omega | (simp; omega)) (by exact u8_at0 l i (by omega))) ?_ | refine ex_i (s_ixStr tabOk rfl rfl (by first | with_reducible exact cast_self _ | with_reducible exact cast_lit _ | exact nt (by omega) | rfl) rfl rfl (by exact u8_at0 l i (by omega))) ?_))))
    | refine stA ?_
    | (refine hK _ _ _ _ ?_; clear hK hX K)
    | (refine hX _ _ _ _ _ (by simp) ?_; clear hK hX K))
    exact ⟨i + 1, by omega, by omega, (by refine weak_ren [0, 3] rfl rfl ?_ ?_ rfl rfl <;> (repeat' (first | exact weakER_nil | exact weakHR_nil | refine weakER_cons rfl (by first | rfl | (exact congrArg (AObj.row 5) (take_step l i (by omega))) | exact own_eq rfl rfl (by omega) | exact int_eq (by omega) | (simp <;> fail) | (congr 4; omega) | (congr 3; omega) | (congr 2; omega)) rfl ?_ | refine weakHR_cons rfl (by first | rfl | (exact congrArg (AObj.row 5) (take_step l i (by omega))) | exact own_eq rfl rfl (by omega) | exact int_eq (by omega) | (simp <;> fail) | (congr 4; omega) | (congr 3; omega) | (congr 2; omega)) rfl ?_)))⟩
  · obtain rfl : i = 32 := by omega
    repeat' (first
    | ((with_reducible refine aw_seqk ?_); intro K hK hX)
    | ((with_reducible refine isC_reg ?_); refine aw_prune [0, 1, 2, 3, 4] rfl rfl ?_; with_reducible refine aw_region ?_)
    | refine stA ?_
    | (refine hK _ _ _ _ ?_; clear hK hX K)
    | (refine hX _ _ _ _ _ (by simp) ?_; clear hK hX K))
    rw [List.take_of_length_le (by omega)]
    refine retK_mk (by first | exact .inl rfl | exact .inr rfl) (by exact trivial) (ResL.one (ResA.tmp rfl)) (by first | exact out_c (by first | exact frz_c cv_rfl | exact frz_c cv_nil | exact frz_ownW rfl rfl (by first | rfl | with_reducible assumption | (simp <;> fail) | omega | (simp; omega) | assumption) | exact frz_eq (frz_c cv_rfl) (by first | rfl | (simp <;> fail) | fail)) | exact out_own rfl rfl)
set_option maxHeartbeats 4000000 in
theorem rkeyed_ok (dom : BitVec 64) (k l : List UInt8) (n : Nat) (hk : k.length = 32) (hl : l.length = n) (hm : n ≤ 100000000) : AC Try.prog 45 [wv dom, .agg (u8c k), .sl 1 n (u8c l)] (.c (.agg (u8c (sum dom (k ++ l))))) [] 0 := by
  have hua : (u8c k).length = 32 := by rw [u8c_length, hk]
  have hub : (u8c l).length = n := by rw [u8c_length, hl]
  have hus : (u8c (sum dom (k ++ l))).length = 32 := by rw [u8c_length, sum_length]
  refine ac_enter tabOk (sz := 13) Try.func45 rfl (by rw [Try.ntmps45]; rfl) ?_
  repeat' (first
    | ((with_reducible refine aw_seqk ?_); intro K hK hX)
    | ((with_reducible refine isC_reg ?_); refine aw_prune [0, 1, 2, 4, 6] rfl rfl ?_; with_reducible refine aw_region ?_)
    | ((with_reducible refine isA_call ?_); (first | refine wA ?_ | refine wN ?_); (first | refine cF (rsum_ok dom (k ++ l) (32 + n) (by simp; omega) (by omega)) ?_))
    | ((with_reducible refine isA_call ?_); (first | refine zA ?_ | refine zN ?_); (first | refine c1 (bytes_ok k hk) ?_))
    | refine stA ?_
    | (refine hK _ _ _ _ ?_; clear hK hX K)
    | (refine hX _ _ _ _ _ (by simp) ?_; clear hK hX K))
  refine retK_mk (by first | exact .inl rfl | exact .inr rfl) (by exact trivial) (ResL.one (by first | exact ResA.one rfl rfl rfl rfl rfl | exact ResA.agg rfl rfl rfl rfl rfl (by first | exact IsAgg.closed rfl rfl | exact IsAgg.mixed _) | exact ResA.aggr rfl rfl rfl rfl (by first | rfl | with_reducible assumption | (simp <;> fail) | omega | (simp; omega) | assumption))) (by first | exact out_c (by first | exact frz_c cv_rfl | exact frz_c cv_nil | exact frz_ownW rfl rfl (by first | rfl | with_reducible assumption | (simp <;> fail) | omega | (simp; omega) | assumption) | exact frz_eq (frz_c cv_rfl) (by first | rfl | (simp <;> fail) | fail)) | exact out_own rfl rfl)
theorem maxE : True := trivial
set_option maxHeartbeats 4000000 in
theorem rexpand_ok (dom : BitVec 64) (k : List UInt8) (n : Nat) (hk : k.length = 32) (hm : n ≤ 4096) : AC Try.prog 40 [wv dom, .agg (u8c k), iv n] (.tup [.c (.sl 1 n (u8c (outB (absorb dom k) n))), .c (iv 0)]) [] 0 := by
  have hua : (u8c k).length = 32 := by rw [u8c_length, hk]
  have g1 : (decide ((n : Int) < 0) == false) = true := by rw [decide_eq_false (by omega)]; rfl
  refine ac_enter tabOk (sz := 20) Try.func40 rfl (by rw [Try.ntmps40]; rfl) ?_
  repeat' (first
    | ((with_reducible refine aw_seqk ?_); intro K hK hX)
    | ((with_reducible refine isC_reg ?_); refine aw_prune [0, 1, 2, 4, 6, 7] rfl rfl ?_; with_reducible refine aw_region ?_)
    | ((with_reducible refine isA_call ?_); (first | refine wA ?_ | refine wN ?_); (first | refine cF (rabsorb_ok dom k 32 hk (by decide)) ?_))
    | ((with_reducible refine isA_call ?_); (first | refine zA ?_ | refine zN ?_); (first | refine c1 (bytes_ok k hk) ?_ | refine c0 (rsqueeze_ok (absorb dom k) n (by omega)) ?_))
    | refine stA ?_
    | (refine hK _ _ _ _ ?_; clear hK hX K)
    | (refine hX _ _ _ _ _ (by simp) ?_; clear hK hX K))
  refine retK_mk (by first | exact .inl rfl | exact .inr rfl) (by exact trivial) (ResL.two (ResA.tmp rfl) (ResA.tmp rfl)) (out_t (frzl_cons (by first | exact frz_c cv_rfl | exact frz_c cv_nil | exact frz_ownW rfl rfl (by first | rfl | with_reducible assumption | (simp <;> fail) | omega | (simp; omega) | assumption) | exact frz_eq (frz_c cv_rfl) (by first | rfl | (simp <;> fail) | fail)) (frzl_cons (by first | exact frz_c cv_rfl | exact frz_c cv_nil | exact frz_ownW rfl rfl (by first | rfl | with_reducible assumption | (simp <;> fail) | omega | (simp; omega) | assumption) | exact frz_eq (frz_c cv_rfl) (by first | rfl | (simp <;> fail) | fail)) frzl_nil)))
set_option maxHeartbeats 4000000 in
theorem rexpand_bad (dom : BitVec 64) (k : List UInt8) (n : Int) (hk : k.length = 32) (hm : n < 0 ∨ 4096 < n) : AC Try.prog 40 [wv dom, .agg (u8c k), iv n] (.tup [.c (.v (.slice none 0 0)), .c (iv 1)]) [] 0 := by
  have hua : (u8c k).length = 32 := by rw [u8c_length, hk]
  by_cases h0 : n < 0
  · have g1 : (decide (n < 0) == false) = false := by rw [decide_eq_true h0]; rfl
    refine ac_enter tabOk (sz := 20) Try.func40 rfl (by rw [Try.ntmps40]; rfl) ?_
    repeat' (first
    | ((with_reducible refine aw_seqk ?_); intro K hK hX)
    | ((with_reducible refine isC_reg ?_); refine aw_prune [0, 1, 2, 4, 6, 7] rfl rfl ?_; with_reducible refine aw_region ?_)
    | refine stA ?_
    | (refine hK _ _ _ _ ?_; clear hK hX K)
    | (refine hX _ _ _ _ _ (by simp) ?_; clear hK hX K))
    refine retK_mk (by first | exact .inl rfl | exact .inr rfl) (by exact trivial) (ResL.two (ResA.tmp rfl) (ResA.tmp rfl)) (out_t (frzl_cons (by first | exact frz_c cv_rfl | exact frz_c cv_nil | exact frz_ownW rfl rfl (by first | rfl | with_reducible assumption | (simp <;> fail) | omega | (simp; omega) | assumption) | exact frz_eq (frz_c cv_rfl) (by first | rfl | (simp <;> fail) | fail)) (frzl_cons (by first | exact frz_c cv_rfl | exact frz_c cv_nil | exact frz_ownW rfl rfl (by first | rfl | with_reducible assumption | (simp <;> fail) | omega | (simp; omega) | assumption) | exact frz_eq (frz_c cv_rfl) (by first | rfl | (simp <;> fail) | fail)) frzl_nil)))
  · have g1 : (decide (n < 0) == false) = true := by rw [decide_eq_false h0]; rfl
    refine ac_enter tabOk (sz := 20) Try.func40 rfl (by rw [Try.ntmps40]; rfl) ?_
    repeat' (first
    | ((with_reducible refine aw_seqk ?_); intro K hK hX)
    | ((with_reducible refine isC_reg ?_); refine aw_prune [0, 1, 2, 4, 6, 7] rfl rfl ?_; with_reducible refine aw_region ?_)
    | refine stA ?_
    | (refine hK _ _ _ _ ?_; clear hK hX K)
    | (refine hX _ _ _ _ _ (by simp) ?_; clear hK hX K))
    refine retK_mk (by first | exact .inl rfl | exact .inr rfl) (by exact trivial) (ResL.two (ResA.tmp rfl) (ResA.tmp rfl)) (out_t (frzl_cons (by first | exact frz_c cv_rfl | exact frz_c cv_nil | exact frz_ownW rfl rfl (by first | rfl | with_reducible assumption | (simp <;> fail) | omega | (simp; omega) | assumption) | exact frz_eq (frz_c cv_rfl) (by first | rfl | (simp <;> fail) | fail)) (frzl_cons (by first | exact frz_c cv_rfl | exact frz_c cv_nil | exact frz_ownW rfl rfl (by first | rfl | with_reducible assumption | (simp <;> fail) | omega | (simp; omega) | assumption) | exact frz_eq (frz_c cv_rfl) (by first | rfl | (simp <;> fail) | fail)) frzl_nil)))
end Go.Proofs.Ytgofigkhdjjlmaa
