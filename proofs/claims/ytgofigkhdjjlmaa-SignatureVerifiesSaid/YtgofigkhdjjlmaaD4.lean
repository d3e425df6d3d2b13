/-
  Words of bytes and absorbing (walk), as the program has it.
-/
import Derived.Test.YtgofigkhdjjlmaaDP
import Derived.Test.YtgofigkhdjjlmaaWK
import Derived.Test.YtgofigkhdjjlmaaAvV
import Derived.Test.YtgofigkhdjjlmaaAvY
import Derived.Test.YtgofigkhdjjlmaaAvT
set_option linter.unusedVariables false
set_option linter.unusedSimpArgs false
namespace Go.Proofs.Ytgofigkhdjjlmaa
open Go Go.RowKit Go.Av
set_option maxRecDepth 100000
theorem u8_at (l : List UInt8) (i : Nat) (h : i < l.length) : (u8c l)[i * 1]? = some (.v (.int .u8 ((l.getD i 0).toNat : Int))) := by
  rw [Nat.mul_one]
  refine u8c_get ?_
  simp [List.getD, List.getElem?_eq_getElem h]
theorem u8_at0 (l : List UInt8) (i : Nat) (h : i < l.length) : (u8c l)[0 + i * 1]? = some (.v (.int .u8 ((l.getD i 0).toNat : Int))) := by
  rw [Nat.zero_add]; exact u8_at l i h
attribute [local irreducible] Still Adds AWL AW Drw AC AWR Weak Frz Src RetK Out
set_option maxHeartbeats 4000000 in
theorem word_ok (l : List UInt8) (hl : l.length = 8) : AC Try.prog 108 [.sl 1 8 (u8c l)] (.c (wv (wdN l 8))) [] 0 := by
  refine ac_enter tabOk (sz := 22) Try.func108 rfl (by rw [Try.ntmps108]; rfl) ?_
  repeat' (first
    | ((with_reducible refine aw_seqk ?_); intro K hK hX)
    | ((with_reducible refine isC_reg ?_); refine aw_prune [0, 2, 3, 4, 5, 6, 7, 8] rfl rfl ?_; with_reducible refine aw_region ?_)
    | refine stA ?_
    | (refine hK _ _ _ _ ?_; clear hK hX K)
    | (refine hX _ _ _ _ _ (by simp) ?_; clear hK hX K))
  refine aw_loopk 0 (fun i : Nat => [(6, .c (.sl 1 8 (u8c l))), (7, .c (iv 8)), (8, .c (iv i)), (3, .c (wv (wdN l i)))]) (fun i => []) [] (fun i => i ≤ 8) (fun i => 8 - i) 0 (by omega) weakA ?_
  intro i hi K hK hX
  by_cases hlt : i < 8
  · repeat' (first
    | ((with_reducible refine aw_seqk ?_); intro K hK hX)
    | ((with_reducible refine isC_reg ?_); refine aw_prune [0, 2, 3, 4, 5, 6, 7, 8] rfl rfl ?_; with_reducible refine aw_region ?_)
    | (((with_reducible refine isA_any ?_); refine xA ?_); (first | ((with_reducible refine e_bin ?_); (first | refine ex_i (s_shlW rfl isW_rfl rfl (show 8 * (i : Int) = ((8 * i : Nat) : Int) by omega)) ?_)) | ((with_reducible refine e_load ?_); (first | refine ex_i (s_load1 tabOk rfl rfl rfl rfl (by exact u8_at l i (by omega))) ?_ | refine ex_i (s_load1r tabOk rfl rfl rfl rfl (by exact u8_at l i (by omega))) ?_ | refine ex_i (s_load1i tabOk rfl rfl rfl (by exact u8_at l i (by omega))) ?_)) | ((with_reducible refine e_ix ?_); (first | refine ex_i (s_ixV1 tabOk rfl rfl (by first | with_reducible exact cast_self _ | with_reducible exact cast_lit _ | exact nt (by omega) | rfl) rfl rfl rfl rfl rfl (by first | exact Nat.le_of_ble_eq_true rfl | omega | (simp; omega)) (by exact u8_at l i (by omega))) ?_ | refine ex_i (s_ixStr tabOk rfl rfl (by first | with_reducible exact cast_self _ | with_reducible exact cast_lit _ | exact nt (by omega) | rfl) rfl rfl (by exact u8_at l i (by omega))) ?_))))
    | refine stA ?_
    | (refine hK _ _ _ _ ?_; clear hK hX K)
    | (refine hX _ _ _ _ _ (by simp) ?_; clear hK hX K))
    exact ⟨i + 1, by omega, by omega, weakA⟩
  · obtain rfl : i = 8 := by omega
    repeat' (first
    | ((with_reducible refine aw_seqk ?_); intro K hK hX)
    | ((with_reducible refine isC_reg ?_); refine aw_prune [0, 2, 3, 4, 5, 6, 7, 8] rfl rfl ?_; with_reducible refine aw_region ?_)
    | refine stA ?_
    | (refine hK _ _ _ _ ?_; clear hK hX K)
    | (refine hX _ _ _ _ _ (by simp) ?_; clear hK hX K))
    refine retK_mk (by first | exact .inl rfl | exact .inr rfl) (by exact trivial) (ResL.one (ResA.tmp rfl)) (by first | exact out_c (by first | exact frz_c cv_rfl | exact frz_c cv_nil | exact frz_ownW rfl rfl (by first | rfl | with_reducible assumption | (simp <;> fail) | omega | (simp; omega) | assumption) | exact frz_eq (frz_c cv_rfl) (by first | rfl | (simp <;> fail) | fail)) | exact out_own rfl rfl)
set_option maxHeartbeats 4000000 in
theorem rword_ok (l : List UInt8) (hl : l.length = 8) : AC Try.prog 109 [.sl 1 8 (u8c l)] (.c (wv (wdN l 8))) [] 0 := by
  refine ac_enter tabOk (sz := 20) Try.func109 rfl (by rw [Try.ntmps109]; rfl) ?_
  repeat' (first
    | ((with_reducible refine aw_seqk ?_); intro K hK hX)
    | ((with_reducible refine isC_reg ?_); refine aw_prune [0, 2, 3, 4] rfl rfl ?_; with_reducible refine aw_region ?_)
    | refine stA ?_
    | (refine hK _ _ _ _ ?_; clear hK hX K)
    | (refine hX _ _ _ _ _ (by simp) ?_; clear hK hX K))
  refine aw_loopk 0 (fun i : Nat => [(0, .c (.sl 1 8 (u8c l))), (4, .c (iv i)), (3, .c (wv (wdN l i)))]) (fun i => []) [] (fun i => i ≤ 8) (fun i => 8 - i) 0 (by omega) weakA ?_
  intro i hi K hK hX
  by_cases hlt : i < 8
  · repeat' (first
    | ((with_reducible refine aw_seqk ?_); intro K hK hX)
    | ((with_reducible refine isC_reg ?_); refine aw_prune [0, 2, 3, 4] rfl rfl ?_; with_reducible refine aw_region ?_)
    | (((with_reducible refine isA_any ?_); refine xA ?_); (first | ((with_reducible refine e_bin ?_); (first | refine ex_i (s_shlW rfl isW_rfl rfl (show 8 * (i : Int) = ((8 * i : Nat) : Int) by omega)) ?_)) | ((with_reducible refine e_load ?_); (first | refine ex_i (s_load1 tabOk rfl rfl rfl rfl (by exact u8_at l i (by omega))) ?_ | refine ex_i (s_load1r tabOk rfl rfl rfl rfl (by exact u8_at l i (by omega))) ?_ | refine ex_i (s_load1i tabOk rfl rfl rfl (by exact u8_at l i (by omega))) ?_)) | ((with_reducible refine e_ix ?_); (first | refine ex_i (s_ixV1 tabOk rfl rfl (by first | with_reducible exact cast_self _ | with_reducible exact cast_lit _ | exact nt (by omega) | rfl) rfl rfl rfl rfl rfl (by first | exact Nat.le_of_ble_eq_true rfl | omega | (simp; omega)) (by exact u8_at l i (by omega))) ?_ | refine ex_i (s_ixStr tabOk rfl rfl (by first | with_reducible exact cast_self _ | with_reducible exact cast_lit _ | exact nt (by omega) | rfl) rfl rfl (by exact u8_at l i (by omega))) ?_))))
    | refine stA ?_
    | (refine hK _ _ _ _ ?_; clear hK hX K)
    | (refine hX _ _ _ _ _ (by simp) ?_; clear hK hX K))
    exact ⟨i + 1, by omega, by omega, weakA⟩
  · obtain rfl : i = 8 := by omega
    repeat' (first
    | ((with_reducible refine aw_seqk ?_); intro K hK hX)
    | ((with_reducible refine isC_reg ?_); refine aw_prune [0, 2, 3, 4] rfl rfl ?_; with_reducible refine aw_region ?_)
    | refine stA ?_
    | (refine hK _ _ _ _ ?_; clear hK hX K)
    | (refine hX _ _ _ _ _ (by simp) ?_; clear hK hX K))
    refine retK_mk (by first | exact .inl rfl | exact .inr rfl) (by exact trivial) (ResL.one (ResA.tmp rfl)) (by first | exact out_c (by first | exact frz_c cv_rfl | exact frz_c cv_nil | exact frz_ownW rfl rfl (by first | rfl | with_reducible assumption | (simp <;> fail) | omega | (simp; omega) | assumption) | exact frz_eq (frz_c cv_rfl) (by first | rfl | (simp <;> fail) | fail)) | exact out_own rfl rfl)
end Go.Proofs.Ytgofigkhdjjlmaa
