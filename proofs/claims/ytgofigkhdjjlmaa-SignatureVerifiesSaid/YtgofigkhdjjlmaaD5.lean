/-
  Absorbing (walk), as the program has it.
-/
import Derived.Test.YtgofigkhdjjlmaaD4
import Derived.Test.YtgofigkhdjjlmaaWK
import Derived.Test.YtgofigkhdjjlmaaAvV
import Derived.Test.YtgofigkhdjjlmaaAvY
import Derived.Test.YtgofigkhdjjlmaaAvT
set_option linter.unusedVariables false
set_option linter.unusedSimpArgs false
namespace Go.Proofs.Ytgofigkhdjjlmaa
open Go Go.RowKit Go.Av
set_option maxRecDepth 100000
theorem sl_part (l : List UInt8) (n a m : Nat) (hl : l.length = n) (h : a + m ≤ n) : ((u8c l).drop (a * 1)).take (m * 1) = u8c ((l.drop a).take m) := by
  rw [Nat.mul_one, Nat.mul_one, u8c_drop, u8c_take]
theorem sl_step (l : List UInt8) (n k : Nat) (hl : l.length = n) (h : 8 * (k + 1) ≤ n) : AV.c (CV.sl 1 (n - 8 * k - 8) (List.take ((n - 8 * k - 8) * 1) (List.drop (8 * 1) (u8c (List.drop (8 * k) l))))) = AV.c (CV.sl 1 (n - 8 * (k + 1)) (u8c (List.drop (8 * (k + 1)) l))) := by
  rw [Nat.mul_one, Nat.mul_one, u8c_drop, u8c_take, List.drop_drop, List.take_of_length_le (by rw [List.length_drop]; omega), show n - 8 * k - 8 = n - 8 * (k + 1) by omega, show 8 * k + 8 = 8 * (k + 1) by omega]
theorem lay_last (r : List UInt8) (m : Nat) (h : r.length = m) (hm : m < 8) : lay (List.map CV.v [Value.int IntKind.u8 0, Value.int IntKind.u8 0, Value.int IntKind.u8 0, Value.int IntKind.u8 0, Value.int IntKind.u8 0, Value.int IntKind.u8 0, Value.int IntKind.u8 0, Value.int IntKind.u8 0]) (0 + 0 * 1) (u8c r) = u8c (r ++ List.replicate (8 - m) 0) := by
  have : List.map CV.v [Value.int IntKind.u8 0, Value.int IntKind.u8 0, Value.int IntKind.u8 0, Value.int IntKind.u8 0, Value.int IntKind.u8 0, Value.int IntKind.u8 0, Value.int IntKind.u8 0, Value.int IntKind.u8 0] = u8c (List.replicate 8 0) := rfl
  rw [this]
  simp only [lay, Nat.zero_mul, Nat.add_zero, List.take_zero, List.nil_append, Nat.zero_add, u8c_length, u8c_drop, h, u8c_app, List.drop_replicate]
theorem set_pad (r : List UInt8) (m : Nat) (h : r.length = m) (hm : m < 8) : (u8c (r ++ List.replicate (8 - m) 0)).set (0 + m * 1) (.v (.int .u8 1)) = u8c (pad8 r) := by
  have : CV.v (.int .u8 1) = .v (.int .u8 ((1 : UInt8).toNat : Int)) := rfl
  rw [this, Nat.zero_add, Nat.mul_one]
  unfold u8c
  rw [← List.map_set]
  congr 1
  unfold pad8
  rw [List.set_append_right _ _ (by omega), h, Nat.sub_self, show 8 - m = (7 - m) + 1 by omega, List.replicate_succ, List.set_cons_zero]
attribute [local irreducible] Still Adds AWL AW Drw AC AWR Weak Frz Src RetK Out
attribute [local simp] u8c_take u8c_drop
set_option maxHeartbeats 4000000 in
theorem absorb_ok (dom : BitVec 64) (l : List UInt8) (n : Nat) (hl : l.length = n) (hm : n ≤ maxLen) : AC Try.prog 72 [wv dom, .sl 1 n (u8c l)] (.c (.agg (absorb dom l).cs)) [] 0 := by
  have hm' : n ≤ 9223372036854775807 := hm
  refine ac_enter tabOk (sz := 38) Try.func72 rfl (by rw [Try.ntmps72]; rfl) ?_
  repeat' (first
    | ((with_reducible refine aw_seqk ?_); intro K hK hX)
    | ((with_reducible refine isC_reg ?_); refine aw_prune [0, 1, 4, 5, 6] rfl rfl ?_; with_reducible refine aw_region ?_)
    | ((with_reducible refine isC_draw ?_); refine aw_prune [0, 1, 4, 5, 6] rfl rfl ?_; refine aw_drwF [] ?_)
    | ((first | with_reducible refine isA_call ?_ | with_reducible refine isD_call ?_); (first | refine zA ?_ | refine zN ?_ | refine zD ?_); (first | refine c0 (permute_ok ⟨dom, 1#64, 2#64, 3#64, 4#64⟩) ?_))
    | refine stA ?_
    | refine stD ?_
    | (refine hK _ _ _ _ ?_; clear hK hX K)
    | (refine hX _ _ _ _ _ (by simp) ?_; clear hK hX K))
  refine aw_loopk 2 (fun k : Nat => [(4, .ref 0 0), (5, .ref 1 0), (1, .c (.sl 1 (n - 8 * k) (u8c (l.drop (8 * k)))))]) (fun k => [(0, .row 30 z5), (1, .row 30 (absK (start dom) l k).cs)]) [] (fun k => 8 * k ≤ n) (fun k => n - 8 * k) 0 (by omega) weakA ?_
  intro k hk K hK hX
  by_cases hlt : 8 ≤ n - 8 * k
  · repeat' (first
    | ((with_reducible refine aw_seqk ?_); intro K hK hX)
    | ((with_reducible refine isC_reg ?_); refine aw_prune [0, 1, 4, 5, 6] rfl rfl ?_; with_reducible refine aw_region ?_)
    | ((with_reducible refine isC_draw ?_); refine aw_prune [0, 1, 4, 5, 6] rfl rfl ?_; refine aw_drwF [] ?_)
    | ((first | with_reducible refine isA_call ?_ | with_reducible refine isD_call ?_); (first | refine zA ?_ | refine zN ?_ | refine zD ?_); (first | refine c0 (word_ok ((l.drop (8 * k)).take 8) (by simp; omega)) ?_ | refine c0 (permute_ok (xorA (absK (start dom) l k) (wdN ((l.drop (8 * k)).take 8) 8))) ?_))
    | refine stA ?_
    | refine stD ?_
    | (refine hK _ _ _ _ ?_; clear hK hX K)
    | (refine hX _ _ _ _ _ (by simp) ?_; clear hK hX K))
    exact ⟨k + 1, by omega, by omega, (by refine weak_mk rfl ?_ ?_ rfl <;> (repeat' (first | exact weakE_nil | exact weakH_nil | refine weakE_cons rfl (by first | rfl | (exact sl_step l n k hl (by omega)) | exact own_eq rfl rfl (by omega) | exact int_eq (by omega) | (simp <;> fail) | (congr 4; omega) | (congr 3; omega) | (congr 2; omega)) rfl ?_ | refine weakH_cons rfl (by first | rfl | (exact sl_step l n k hl (by omega)) | exact own_eq rfl rfl (by omega) | exact int_eq (by omega) | (simp <;> fail) | (congr 4; omega) | (congr 3; omega) | (congr 2; omega)) rfl ?_)))⟩
  · have hr : (l.drop (8 * k)).length = n - 8 * k := by rw [List.length_drop, hl]
    have hkn : k = l.length / 8 := by omega
    have hp : (u8c (pad8 (l.drop (8 * k)))).length = 8 := by rw [u8c_length, pad8_length]; omega
    have hq : (u8c (l.drop (8 * k) ++ List.replicate (8 - (n - 8 * k)) 0)).length = 8 := by rw [u8c_length, List.length_append, List.length_replicate]; omega
    repeat' (first
    | ((with_reducible refine aw_seqk ?_); intro K hK hX)
    | ((with_reducible refine isC_reg ?_); refine aw_prune [0, 1, 4, 5, 6] rfl rfl ?_; with_reducible refine aw_region ?_)
    | ((with_reducible refine isC_draw ?_); refine aw_prune [0, 1, 4, 5, 6] rfl rfl ?_; refine aw_drwF [] ?_)
    | refine stA ?_
    | refine stD ?_
    | (refine hK _ _ _ _ ?_; clear hK hX K)
    | (refine hX _ _ _ _ _ (by simp) ?_; clear hK hX K))
    rw [lay_last _ _ hr (by omega)]
    repeat' (first
    | ((with_reducible refine aw_seqk ?_); intro K hK hX)
    | ((with_reducible refine isC_reg ?_); refine aw_prune [0, 1, 4, 5, 6] rfl rfl ?_; with_reducible refine aw_region ?_)
    | ((with_reducible refine isC_draw ?_); refine aw_prune [0, 1, 4, 5, 6] rfl rfl ?_; refine aw_drwF [] ?_)
    | refine stA ?_
    | refine stD ?_
    | (refine hK _ _ _ _ ?_; clear hK hX K)
    | (refine hX _ _ _ _ _ (by simp) ?_; clear hK hX K))
    rw [set_pad _ _ hr (by omega)]
    repeat' (first
    | ((with_reducible refine aw_seqk ?_); intro K hK hX)
    | ((with_reducible refine isC_reg ?_); refine aw_prune [0, 1, 4, 5, 6] rfl rfl ?_; with_reducible refine aw_region ?_)
    | ((with_reducible refine isC_draw ?_); refine aw_prune [0, 1, 4, 5, 6] rfl rfl ?_; refine aw_drwF [] ?_)
    | ((first | with_reducible refine isA_call ?_ | with_reducible refine isD_call ?_); (first | refine wA ?_ | refine wN ?_ | refine wD ?_); (first | refine cF (word_ok (pad8 (l.drop (8 * k))) (by rw [pad8_length]; omega)) ?_))
    | ((first | with_reducible refine isA_call ?_ | with_reducible refine isD_call ?_); (first | refine zA ?_ | refine zN ?_ | refine zD ?_); (first | refine c0 (permute_ok (xorA (absK (start dom) l k) (wdN (pad8 (l.drop (8 * k))) 8))) ?_))
    | refine stA ?_
    | refine stD ?_
    | (refine hK _ _ _ _ ?_; clear hK hX K)
    | (refine hX _ _ _ _ _ (by simp) ?_; clear hK hX K))
    subst hkn
    refine retK_mk (by first | exact .inl rfl | exact .inr rfl) (by exact trivial) (ResL.one (by first | exact ResA.one rfl rfl rfl rfl rfl | exact ResA.agg rfl rfl rfl rfl rfl (by first | exact IsAgg.closed rfl rfl | exact IsAgg.mixed _) | exact ResA.aggr rfl rfl rfl rfl (by first | rfl | with_reducible assumption | (simp <;> fail) | omega | (simp; omega) | assumption))) (by first | exact out_c (by first | exact frz_c cv_rfl | exact frz_c cv_nil | exact frz_ownW rfl rfl (by first | rfl | with_reducible assumption | (simp <;> fail) | omega | (simp; omega) | assumption) | exact frz_eq (frz_c cv_rfl) (by first | rfl | (simp <;> fail) | fail)) | exact out_own rfl rfl)
end Go.Proofs.Ytgofigkhdjjlmaa
