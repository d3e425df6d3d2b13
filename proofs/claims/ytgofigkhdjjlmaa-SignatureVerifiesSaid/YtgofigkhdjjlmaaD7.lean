/-
  Absorbing, squeezing and Sum (walk), as the reference has it.
-/
import Derived.Test.YtgofigkhdjjlmaaD3
import Derived.Test.YtgofigkhdjjlmaaWK
import Derived.Test.YtgofigkhdjjlmaaD6
import Derived.Test.YtgofigkhdjjlmaaAvV
import Derived.Test.YtgofigkhdjjlmaaAvY
import Derived.Test.YtgofigkhdjjlmaaAvT
set_option linter.unusedVariables false
set_option linter.unusedSimpArgs false
namespace Go.Proofs.Ytgofigkhdjjlmaa
open Go Go.RowKit Go.Av
set_option maxRecDepth 100000
attribute [local irreducible] Still Adds AWL AW Drw AC AWR Weak Frz Src RetK Out InK
attribute [local simp] u8c_take u8c_drop
theorem pad_step (l : List UInt8) (k : Nat) : u8c (l ++ 1 :: List.replicate k 0) ++ [.v (.int .u8 0)] = u8c (l ++ 1 :: List.replicate (k + 1) 0) := by
  have : [CV.v (.int .u8 0)] = u8c [0] := rfl
  rw [this, ← u8c_app, List.append_assoc, List.cons_append, List.replicate_succ']
theorem word_at (p : List UInt8) (m j : Nat) : List.take (m * 1) (List.drop (0 + 8 * j * 1) (u8c p)) = u8c (List.take m (List.drop (8 * j) p)) := by
  rw [Nat.zero_add, Nat.mul_one, Nat.mul_one, u8c_drop, u8c_take]
set_option maxHeartbeats 4000000 in
theorem rabsorb_ok (dom : BitVec 64) (l : List UInt8) (n : Nat) (hl : l.length = n) (hm : n ≤ 1000000000) : AC Try.prog 74 [wv dom, .sl 1 n (u8c l)] (.c (.agg (absorb dom l).cs)) [] 0 := by
  have hul : (u8c l).length = n := by rw [u8c_length, hl]
  refine ac_enter tabOk (sz := 42) Try.func74 rfl (by rw [Try.ntmps74]; rfl) ?_
  repeat' (first
    | ((with_reducible refine aw_seqk ?_); intro K hK hX)
    | ((with_reducible refine isC_reg ?_); refine aw_prune [0, 1, 4, 5, 6, 7] rfl rfl ?_; with_reducible refine aw_region ?_)
    | ((with_reducible refine isC_draw ?_); refine aw_prune [0, 1, 4, 5, 6, 7] rfl rfl ?_; refine aw_drwF [] ?_)
    | refine stA ?_
    | refine stD ?_
    | (refine hK _ _ _ _ ?_; clear hK hX K)
    | (refine hX _ _ _ _ _ (by simp) ?_; clear hK hX K))
  refine aw_loopk 2 (fun k : Nat => [(0, .c (wv dom)), (4, .ref 0 0), (5, .own 1 0 (n + 1 + k) 1 true)]) (fun k => [(0, .row 30 z5), (1, .row 5 (u8c (l ++ 1 :: List.replicate k 0)))]) [] (fun k => k ≤ 7 - n % 8) (fun k => 7 - k) 0 (by omega) (by refine weak_ren [0, 4] rfl rfl ?_ ?_ rfl rfl <;> (repeat' (first | exact weakER_nil | exact weakHR_nil | refine weakER_cons rfl (by first | rfl | (exact congrArg (AObj.row 5) (by simp [u8c])) | exact own_eq rfl rfl (by omega) | exact int_eq (by omega) | (simp <;> fail) | (congr 4; omega) | (congr 3; omega) | (congr 2; omega)) rfl ?_ | refine weakHR_cons rfl (by first | rfl | (exact congrArg (AObj.row 5) (by simp [u8c])) | exact own_eq rfl rfl (by omega) | exact int_eq (by omega) | (simp <;> fail) | (congr 4; omega) | (congr 3; omega) | (congr 2; omega)) rfl ?_))) ?_
  intro k hk K hK hX
  have hlen : (u8c (l ++ 1 :: List.replicate k 0)).length = n + 1 + k := by rw [u8c_length, List.length_append, List.length_cons, List.length_replicate]; omega
  by_cases hlt : (n + 1 + k) % 8 ≠ 0
  · repeat' (first
    | ((with_reducible refine aw_seqk ?_); intro K hK hX)
    | ((with_reducible refine isC_reg ?_); refine aw_prune [0, 1, 4, 5, 6, 7] rfl rfl ?_; with_reducible refine aw_region ?_)
    | ((with_reducible refine isC_draw ?_); refine aw_prune [0, 1, 4, 5, 6, 7] rfl rfl ?_; refine aw_drwF [] ?_)
    | refine stA ?_
    | refine stD ?_
    | (refine hK _ _ _ _ ?_; clear hK hX K)
    | (refine hX _ _ _ _ _ (by simp) ?_; clear hK hX K))
    exact ⟨k + 1, by omega, by omega, (by refine weak_ren [0, 3] rfl rfl ?_ ?_ rfl rfl <;> (repeat' (first | exact weakER_nil | exact weakHR_nil | refine weakER_cons rfl (by first | rfl | (exact congrArg (AObj.row 5) (pad_step l k)) | exact own_eq rfl rfl (by omega) | exact int_eq (by omega) | (simp <;> fail) | (congr 4; omega) | (congr 3; omega) | (congr 2; omega)) rfl ?_ | refine weakHR_cons rfl (by first | rfl | (exact congrArg (AObj.row 5) (pad_step l k)) | exact own_eq rfl rfl (by omega) | exact int_eq (by omega) | (simp <;> fail) | (congr 4; omega) | (congr 3; omega) | (congr 2; omega)) rfl ?_)))⟩
  · obtain rfl : k = 7 - n % 8 := by omega
    repeat' (first
    | ((with_reducible refine aw_seqk ?_); intro K hK hX)
    | ((with_reducible refine isC_reg ?_); refine aw_prune [0, 1, 4, 5, 6, 7] rfl rfl ?_; with_reducible refine aw_region ?_)
    | ((with_reducible refine isC_draw ?_); refine aw_prune [0, 1, 4, 5, 6, 7] rfl rfl ?_; refine aw_drwF [] ?_)
    | ((first | with_reducible refine isA_call ?_ | with_reducible refine isD_call ?_); (first | refine zA ?_ | refine zN ?_ | refine zD ?_); (first | refine c0 (rpermute_ok ⟨dom, 1#64, 2#64, 3#64, 4#64⟩) ?_))
    | refine stA ?_
    | refine stD ?_
    | (refine hK _ _ _ _ ?_; clear hK hX K)
    | (refine hX _ _ _ _ _ (by simp) ?_; clear hK hX K))
    have hL : n + 1 + (7 - n % 8) = 8 * (n / 8 + 1) := by omega
    have hp : l ++ 1 :: List.replicate (7 - n % 8) 0 = padR l := by rw [padR, hl]
    rw [hL, hp] at hlen
    rw [hL, hp]
    refine aw_loopk 3 (fun j : Nat => [(4, .ref 0 0), (5, .own 1 0 (8 * (n / 8 + 1)) 1 true), (6, .ref 2 0), (7, .c (iv ((8 * j : Nat) : Int)))]) (fun j => [(0, .row 30 z5), (1, .row 5 (u8c (padR l))), (2, .row 30 (absK (start dom) (padR l) j).cs)]) [] (fun j => j ≤ n / 8 + 1) (fun j => n / 8 + 1 - j) 0 (by omega) weakA ?_
    intro j hj K hK hX
    by_cases hlt : j < n / 8 + 1
    · have hpl : (padR l).length = 8 * (n / 8 + 1) := by rw [padR_length, hl]
      have hw : (((padR l).drop (8 * j)).take 8).length = 8 := by rw [List.length_take, List.length_drop, padR_length, hl]; omega
      repeat' (first
    | ((with_reducible refine aw_seqk ?_); intro K hK hX)
    | ((with_reducible refine isC_reg ?_); refine aw_prune [0, 1, 4, 5, 6, 7] rfl rfl ?_; with_reducible refine aw_region ?_)
    | ((with_reducible refine isC_draw ?_); refine aw_prune [0, 1, 4, 5, 6, 7] rfl rfl ?_; refine aw_drwF [] ?_)
    | ((first | with_reducible refine isA_call ?_ | with_reducible refine isD_call ?_); (first | refine wA ?_ | refine wN ?_ | refine wD ?_); (first | refine cF (rword_ok (((padR l).drop (8 * j)).take 8) hw) ?_))
    | ((first | with_reducible refine isA_call ?_ | with_reducible refine isD_call ?_); (first | refine zA ?_ | refine zN ?_ | refine zD ?_); (first | refine c0 (rpermute_ok (xorA (absK (start dom) (padR l) j) (wdN (((padR l).drop (8 * j)).take 8) 8))) ?_))
    | refine stA ?_
    | refine stD ?_
    | (refine hK _ _ _ _ ?_; clear hK hX K)
    | (refine hX _ _ _ _ _ (by simp) ?_; clear hK hX K))
      exact ⟨j + 1, by omega, by omega, weakA⟩
    · obtain rfl : j = n / 8 + 1 := by omega
      repeat' (first
    | ((with_reducible refine aw_seqk ?_); intro K hK hX)
    | ((with_reducible refine isC_reg ?_); refine aw_prune [0, 1, 4, 5, 6, 7] rfl rfl ?_; with_reducible refine aw_region ?_)
    | ((with_reducible refine isC_draw ?_); refine aw_prune [0, 1, 4, 5, 6, 7] rfl rfl ?_; refine aw_drwF [] ?_)
    | refine stA ?_
    | refine stD ?_
    | (refine hK _ _ _ _ ?_; clear hK hX K)
    | (refine hX _ _ _ _ _ (by simp) ?_; clear hK hX K))
      have := absorb_padR dom l
      rw [hl] at this
      rw [← this]
      refine retK_mk (by first | exact .inl rfl | exact .inr rfl) (by exact trivial) (ResL.one (by first | exact ResA.one rfl rfl rfl rfl rfl | exact ResA.agg rfl rfl rfl rfl rfl (by first | exact IsAgg.closed rfl rfl | exact IsAgg.mixed _) | exact ResA.aggr rfl rfl rfl rfl (by first | rfl | with_reducible assumption | (simp <;> fail) | omega | (simp; omega) | assumption))) (by first | exact out_c (by first | exact frz_c cv_rfl | exact frz_c cv_nil | exact frz_ownW rfl rfl (by first | rfl | with_reducible assumption | (simp <;> fail) | omega | (simp; omega) | assumption) | exact frz_eq (frz_c cv_rfl) (by first | rfl | (simp <;> fail) | fail)) | exact out_own rfl rfl)
theorem byte_at (S : S5) (k i : Nat) (h : i < 8) : UInt8.ofBitVec (((permN k S).a >>> (8 * i)).setWidth 8) = byteAt S (8 * k + i) := by
  unfold byteAt
  rw [show (8 * k + i) / 8 = k by omega, show (8 * k + i) % 8 = i by omega]
theorem out_step (S : S5) (k i : Nat) (h : i < 8) : u8c (outB S (8 * k + i)) ++ [.v (.int .u8 ((UInt8.ofBitVec (((permN k S).a >>> (8 * i)).setWidth 8)).toNat : Int))] = u8c (outB S (8 * k + (i + 1))) := by
  rw [byte_at S k i h, ← Nat.add_assoc, outB_succ, u8c_app]
  rfl
set_option maxHeartbeats 4000000 in
theorem rsqueeze_ok (S : S5) (n : Nat) (hm : n ≤ 1000000000) : AC Try.prog 73 [.agg S.cs, iv n] (.c (.sl 1 n (u8c (outB S n)))) [] 0 := by
  refine ac_enter tabOk (sz := 30) Try.func73 rfl (by rw [Try.ntmps73]; rfl) ?_
  repeat' (first
    | ((with_reducible refine aw_seqk ?_); intro K hK hX)
    | ((with_reducible refine isC_reg ?_); refine aw_prune [0, 1, 2, 4, 5, 6] rfl rfl ?_; with_reducible refine aw_region ?_)
    | refine stA ?_
    | (refine hK _ _ _ _ ?_; clear hK hX K)
    | (refine hX _ _ _ _ _ (by simp) ?_; clear hK hX K))
  refine aw_loopk 2 (fun k : Nat => [(1, .c (iv n)), (2, .ref 0 0), (5, .own 1 0 (8 * k) 1 true)]) (fun k => [(0, .row 30 (permN k S).cs), (1, .row 5 (u8c (outB S (8 * k))))]) [] (fun k => 8 * k < n + 8) (fun k => n + 8 - 8 * k) 0 (by omega) weakA ?_
  intro k hk K hK hX
  by_cases hlt : 8 * k < n
  · repeat' (first
    | ((with_reducible refine aw_seqk ?_); intro K hK hX)
    | ((with_reducible refine isC_reg ?_); refine aw_prune [0, 1, 2, 4, 5, 6] rfl rfl ?_; with_reducible refine aw_region ?_)
    | refine stA ?_
    | (refine hK _ _ _ _ ?_; clear hK hX K)
    | (refine hX _ _ _ _ _ (by simp) ?_; clear hK hX K))
    refine aw_loopk 2 (fun i : Nat => [(1, .c (iv n)), (2, .ref 0 0), (5, .own 1 0 (8 * k + i) 1 true), (6, .c (iv i))]) (fun i => [(0, .row 30 (permN k S).cs), (1, .row 5 (u8c (outB S (8 * k + i))))]) [] (fun i => i ≤ 8) (fun i => 8 - i) 0 (by omega) weakA ?_
    intro i hi K hK hX
    have hlen : (u8c (outB S (8 * k + i))).length = 8 * k + i := by rw [u8c_length, outB_length]
    by_cases hlt : i < 8
    · repeat' (first
    | ((with_reducible refine aw_seqk ?_); intro K hK hX)
    | ((with_reducible refine isC_reg ?_); refine aw_prune [0, 1, 2, 4, 5, 6] rfl rfl ?_; with_reducible refine aw_region ?_)
    | (((with_reducible refine isA_any ?_); refine xA ?_); (first | ((with_reducible refine e_bin ?_); (first | refine ex_i (s_shrW rfl isW_rfl rfl (show 8 * (i : Int) = ((8 * i : Nat) : Int) by omega)) ?_))))
    | refine stA ?_
    | (refine hK _ _ _ _ ?_; clear hK hX K)
    | (refine hX _ _ _ _ _ (by simp) ?_; clear hK hX K))
      exact ⟨i + 1, by omega, by omega, (by refine weak_ren [0, 3] rfl rfl ?_ ?_ rfl rfl <;> (repeat' (first | exact weakER_nil | exact weakHR_nil | refine weakER_cons rfl (by first | rfl | (exact congrArg (AObj.row 5) (out_step S k i hlt)) | exact own_eq rfl rfl (by omega) | exact int_eq (by omega) | (simp <;> fail) | (congr 4; omega) | (congr 3; omega) | (congr 2; omega)) rfl ?_ | refine weakHR_cons rfl (by first | rfl | (exact congrArg (AObj.row 5) (out_step S k i hlt)) | exact own_eq rfl rfl (by omega) | exact int_eq (by omega) | (simp <;> fail) | (congr 4; omega) | (congr 3; omega) | (congr 2; omega)) rfl ?_)))⟩
    · obtain rfl : i = 8 := by omega
      repeat' (first
    | ((with_reducible refine aw_seqk ?_); intro K hK hX)
    | ((with_reducible refine isC_reg ?_); refine aw_prune [0, 1, 2, 4, 5, 6] rfl rfl ?_; with_reducible refine aw_region ?_)
    | ((with_reducible refine isA_call ?_); (first | refine zA ?_ | refine zN ?_); (first | refine c0 (rpermute_ok (permN k S)) ?_))
    | refine stA ?_
    | (refine hK _ _ _ _ ?_; clear hK hX K)
    | (refine hX _ _ _ _ _ (by simp) ?_; clear hK hX K))
      exact ⟨k + 1, by omega, by omega, (by refine weak_mk rfl ?_ ?_ rfl <;> (repeat' (first | exact weakE_nil | exact weakH_nil | refine weakE_cons rfl (by first | rfl | (rw [show 8 * k + 8 = 8 * (k + 1) by omega]) | exact own_eq rfl rfl (by omega) | exact int_eq (by omega) | (simp <;> fail) | (congr 4; omega) | (congr 3; omega) | (congr 2; omega)) rfl ?_ | refine weakH_cons rfl (by first | rfl | (rw [show 8 * k + 8 = 8 * (k + 1) by omega]) | exact own_eq rfl rfl (by omega) | exact int_eq (by omega) | (simp <;> fail) | (congr 4; omega) | (congr 3; omega) | (congr 2; omega)) rfl ?_)))⟩
  · have hlen : (outB S (8 * k)).length = 8 * k := outB_length _ _
    repeat' (first
    | ((with_reducible refine aw_seqk ?_); intro K hK hX)
    | ((with_reducible refine isC_reg ?_); refine aw_prune [0, 1, 2, 4, 5, 6] rfl rfl ?_; with_reducible refine aw_region ?_)
    | refine stA ?_
    | (refine hK _ _ _ _ ?_; clear hK hX K)
    | (refine hX _ _ _ _ _ (by simp) ?_; clear hK hX K))
    have hf : u8c (outB S n) = u8c (((outB S (8 * k)).drop 0).take n) := by rw [List.drop_zero, outB_take _ _ _ (by omega)]
    rw [hf]
    refine retK_mk (by first | exact .inl rfl | exact .inr rfl) (by exact trivial) (ResL.one (ResA.tmp rfl)) (by exact out_c (frz_u8 rfl rfl (by omega) (by omega) (by omega)))
end Go.Proofs.Ytgofigkhdjjlmaa
