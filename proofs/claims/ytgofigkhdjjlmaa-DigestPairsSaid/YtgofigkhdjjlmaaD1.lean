/-
  The permutation of the digest, as the program and as the reference have it.
-/
import Derived.Test.YtgofigkhdjjlmaaAvV
import Derived.Test.YtgofigkhdjjlmaaAvT
set_option linter.unusedVariables false
set_option linter.unusedSimpArgs false
namespace Go.Proofs.Ytgofigkhdjjlmaa
open Go Go.RowKit Go.Av
set_option maxRecDepth 100000
attribute [local irreducible] Still Adds AWL AW Drw AC AWR Weak Frz Src RetK Out
abbrev wv (x : BitVec 64) : CV := .v (.int .u64 (x.toNat : Int))
abbrev iv (n : Int) : CV := .v (.int .i64 n)

set_option maxHeartbeats 400000 in
theorem rotl_ok (x : BitVec 64) (k : Int) : AC Try.prog 107 [wv x, iv k] (.c (wv (x <<< (BitVec.ofInt 64 k &&& 63#64).toNat ||| x >>> (64#64 - (BitVec.ofInt 64 k &&& 63#64)).toNat))) [] 0 := by
  refine ac_enter tabOk (sz := 17) Try.func107 rfl (by rw [Try.ntmps107]; rfl) ?_
  repeat' (first
    | ((with_reducible refine isC_any ?_); (first | ((with_reducible refine aw_seqk ?_); intro K hK hX) | ((with_reducible refine isC_reg ?_); refine aw_prune [0, 1, 4, 5] rfl rfl ?_; with_reducible refine aw_region ?_) | ((with_reducible refine isC_cond ?_); (first | (refine aw_condT rfl rfl ?_) | (refine aw_condF rfl rfl ?_) | (refine aw_condT rfl (by first | rfl | assumption | exact decide_eq_true (by omega) | (simp only [*] <;> fail) | fail) ?_) | (refine aw_condF rfl (by first | rfl | assumption | exact decide_eq_false (by omega) | (simp only [*] <;> fail) | fail) ?_))) | (with_reducible refine aw_block ?_) | (with_reducible refine aw_skip ?_) | (with_reducible refine aw_exit ?_) | (with_reducible refine aw_ret ?_)))
    | ((refine x_a g_none rfl ?_); (first
      | ((with_reducible refine e_move ?_); (first | refine ex_i (s_move rfl) ?_))
      | ((with_reducible refine e_bin ?_); (first | refine ex_i (s_arit64 rfl rfl rfl (by first | (simp only [Int.reduceAdd, Int.reduceSub, Int.reduceMul]; exact w64 (by omega) (by omega)) | exact w64 (by omega) (by omega) | exact wu64 (by omega) (by omega) | exact wu8 (by omega) (by omega) | rfl)) ?_ | refine ex_i (s_word rfl (by first | exact isW_rfl | exact isW_lit rfl) rfl (by first | exact isW_rfl | exact isW_lit rfl) rfl) ?_ | refine ex_i (s_arit rfl rfl rfl (by first | (simp only [Int.reduceAdd, Int.reduceSub, Int.reduceMul]; exact w64 (by omega) (by omega)) | exact w64 (by omega) (by omega) | exact wu64 (by omega) (by omega) | exact wu8 (by omega) (by omega) | rfl)) ?_ | refine ex_i (s_shlW rfl (by first | exact isW_rfl | exact isW_lit rfl) rfl (by first | with_reducible exact cast_self _ | with_reducible exact cast_lit _ | exact nt (by omega) | rfl)) ?_ | refine ex_i (s_shrW rfl (by first | exact isW_rfl | exact isW_lit rfl) rfl (by first | with_reducible exact cast_self _ | with_reducible exact cast_lit _ | exact nt (by omega) | rfl)) ?_ | refine ex_i (s_and rfl rfl rfl) ?_ | refine ex_i (s_or rfl rfl rfl) ?_ | refine ex_i (s_shl rfl rfl (by first | exact Nat.le_of_ble_eq_true rfl | omega | (simp; omega)) rfl) ?_ | refine ex_i (s_shr rfl rfl (by first | exact Nat.le_of_ble_eq_true rfl | omega | (simp; omega)) rfl) ?_))
      | ((with_reducible refine e_assign ?_); (first | refine ex_i (s_assign rfl) ?_))
      | ((with_reducible refine e_conv ?_); (first | refine ex_i (s_convWB rfl (by first | exact isW_rfl | exact isW_lit rfl) tabOk rfl rfl rfl) ?_ | refine ex_i (s_convWW rfl (by first | exact isW_rfl | exact isW_lit rfl) tabOk rfl rfl rfl) ?_ | refine ex_i (s_convBW rfl tabOk rfl rfl rfl) ?_ | refine ex_i (s_convIW rfl tabOk rfl rfl rfl) ?_ | refine ex_i (s_convInt tabOk rfl rfl rfl rfl (by first | (simp only [Int.reduceAdd, Int.reduceSub, Int.reduceMul]; exact w64 (by omega) (by omega)) | exact w64 (by omega) (by omega) | exact wu64 (by omega) (by omega) | exact wu8 (by omega) (by omega) | rfl)) ?_ | refine ex_i (s_convStr tabOk rfl rfl rfl rfl) ?_ | refine ex_i (s_toStr tabOk rfl rfl rfl rfl rfl rfl rfl (by first | exact frz_c cv_rfl | exact frz_c cv_nil | exact frz_ownW rfl rfl (by first | rfl | (simp <;> fail) | omega | (simp; omega)))) ?_))))
    | (with_reducible refine awl_nil ?_)
    | (refine hK _ _ _ _ ?_; clear hK hX K)
    | (refine hX _ _ _ _ _ (by simp) ?_; clear hK hX K)
    | (with_reducible refine k_then ?_)
    | (with_reducible refine k_thenX ?_)
    | (with_reducible refine k_thenR ?_)
    | (with_reducible refine k_blk ?_)
    | (with_reducible refine k_blkR ?_)
    | (refine k_blkH rfl ?_)
    | (refine k_blkM rfl ?_))
  refine retK_mk (by first | exact .inl rfl | exact .inr rfl) (by exact trivial) (ResL.one (ResA.tmp rfl)) (by first | exact out_c (by first | exact frz_c cv_rfl | exact frz_c cv_nil | exact frz_ownW rfl rfl (by first | rfl | (simp <;> fail) | omega | (simp; omega)) | exact frz_eq (frz_c cv_rfl) (by first | rfl | (simp <;> fail) | fail)) | exact out_own rfl rfl | exact out_t (frzl_cons (by first | exact frz_c cv_rfl | exact frz_c cv_nil | exact frz_ownW rfl rfl (by first | rfl | (simp <;> fail) | omega | (simp; omega)) | exact frz_eq (frz_c cv_rfl) (by first | rfl | (simp <;> fail) | fail)) frzl_nil) | exact out_t (frzl_cons (by first | exact frz_c cv_rfl | exact frz_c cv_nil | exact frz_ownW rfl rfl (by first | rfl | (simp <;> fail) | omega | (simp; omega)) | exact frz_eq (frz_c cv_rfl) (by first | rfl | (simp <;> fail) | fail)) (frzl_cons (by first | exact frz_c cv_rfl | exact frz_c cv_nil | exact frz_ownW rfl rfl (by first | rfl | (simp <;> fail) | omega | (simp; omega)) | exact frz_eq (frz_c cv_rfl) (by first | rfl | (simp <;> fail) | fail)) frzl_nil)) | exact out_t frzl_nil)

def rotr (x : BitVec 64) (n : Nat) : BitVec 64 := x >>> n ||| x <<< (64 - n)
theorem rot_amount : ∀ a : Fin 64, 0 < a.val → (BitVec.ofInt 64 (0 - (a.val : Int)) &&& 63#64).toNat = 64 - a.val ∧ (64#64 - (BitVec.ofInt 64 (0 - (a.val : Int)) &&& 63#64)).toNat = a.val := by decide
theorem rot_eq (x : BitVec 64) (a : Nat) (h0 : 0 < a) (h1 : a < 64) : x <<< (BitVec.ofInt 64 (0 - (a : Int)) &&& 63#64).toNat ||| x >>> (64#64 - (BitVec.ofInt 64 (0 - (a : Int)) &&& 63#64)).toNat = rotr x a := by
  obtain ⟨e1, e2⟩ := rot_amount ⟨a, h1⟩ h0
  simp only at e1 e2
  rw [e1, e2, rotr, BitVec.or_comm]
theorem rotl_to (x : BitVec 64) (a : Nat) (h0 : 0 < a) (h1 : a < 64) : AC Try.prog 107 [wv x, iv (0 - (a : Int))] (.c (wv (rotr x a))) [] 0 := by
  have := rotl_ok x (0 - (a : Int))
  rwa [rot_eq x a h0 h1] at this

def mix (x : BitVec 64) (a b : Nat) : BitVec 64 := x ^^^ rotr x a ^^^ rotr x b
set_option maxHeartbeats 400000 in
theorem mixed_ok (x : BitVec 64) (a b : Nat) (h0 : 0 < a) (h1 : a < 64) (h2 : 0 < b) (h3 : b < 64) : AC Try.prog 68 [wv x, iv a, iv b] (.c (wv (mix x a b))) [] 0 := by
  refine ac_enter tabOk (sz := 18) Try.func68 rfl (by rw [Try.ntmps68]; rfl) ?_
  repeat' (first
    | ((with_reducible refine isC_any ?_); (first | ((with_reducible refine aw_seqk ?_); intro K hK hX) | ((with_reducible refine isC_reg ?_); refine aw_prune [0, 1, 2, 6] rfl rfl ?_; with_reducible refine aw_region ?_) | ((with_reducible refine isC_cond ?_); (first | (refine aw_condT rfl rfl ?_) | (refine aw_condF rfl rfl ?_) | (refine aw_condT rfl (by first | rfl | assumption | exact decide_eq_true (by omega) | (simp only [*] <;> fail) | fail) ?_) | (refine aw_condF rfl (by first | rfl | assumption | exact decide_eq_false (by omega) | (simp only [*] <;> fail) | fail) ?_))) | (with_reducible refine aw_block ?_) | (with_reducible refine aw_skip ?_) | (with_reducible refine aw_exit ?_) | (with_reducible refine aw_ret ?_)))
    | ((with_reducible refine isA_call ?_); (first | refine z_a g_none rfl ?_ | refine z_n g_none ?_); (first | (refine ct_0 (rotl_to x a h0 h1) (by unfold Body; kernel_rfl) rfl (by first | exact cvl_rfl | ((repeat' (first | exact cvl_nil | refine cvl_cons ?_ ?_ | (first | exact cv_rfl | exact cv_nil | (refine cv_sl ?_ ?_ <;> first | rfl | omega | (simp <;> fail) | fail) | (refine cv_eq ?_; first | rfl | (simp <;> fail) | fail)))) <;> fail) | fail) rfl ?_) | (refine ct_0 (rotl_to x b h2 h3) (by unfold Body; kernel_rfl) rfl (by first | exact cvl_rfl | ((repeat' (first | exact cvl_nil | refine cvl_cons ?_ ?_ | (first | exact cv_rfl | exact cv_nil | (refine cv_sl ?_ ?_ <;> first | rfl | omega | (simp <;> fail) | fail) | (refine cv_eq ?_; first | rfl | (simp <;> fail) | fail)))) <;> fail) | fail) rfl ?_)))
    | ((refine x_a g_none rfl ?_); (first
      | ((with_reducible refine e_move ?_); (first | refine ex_i (s_move rfl) ?_))
      | ((with_reducible refine e_bin ?_); (first | refine ex_i (s_word rfl (by first | exact isW_rfl | exact isW_lit rfl) rfl (by first | exact isW_rfl | exact isW_lit rfl) rfl) ?_ | refine ex_i (s_xor rfl rfl rfl) ?_))
      | ((with_reducible refine e_assign ?_); (first | refine ex_i (s_assign rfl) ?_))
      | ((with_reducible refine e_un ?_); (first | refine ex_i (s_not rfl rfl) ?_ | refine ex_i (s_complW rfl (by first | exact isW_rfl | exact isW_lit rfl)) ?_ | refine ex_i (s_neg rfl (by first | exact w64 (by omega) (by omega) | rfl)) ?_ | refine ex_i (s_compl rfl rfl) ?_))))
    | (with_reducible refine awl_nil ?_)
    | (refine hK _ _ _ _ ?_; clear hK hX K)
    | (refine hX _ _ _ _ _ (by simp) ?_; clear hK hX K)
    | (with_reducible refine k_then ?_)
    | (with_reducible refine k_thenX ?_)
    | (with_reducible refine k_thenR ?_)
    | (with_reducible refine k_blk ?_)
    | (with_reducible refine k_blkR ?_)
    | (refine k_blkH rfl ?_)
    | (refine k_blkM rfl ?_))
  refine retK_mk (by first | exact .inl rfl | exact .inr rfl) (by exact trivial) (ResL.one (ResA.tmp rfl)) (by first | exact out_c (by first | exact frz_c cv_rfl | exact frz_c cv_nil | exact frz_ownW rfl rfl (by first | rfl | (simp <;> fail) | omega | (simp; omega)) | exact frz_eq (frz_c cv_rfl) (by first | rfl | (simp <;> fail) | fail)) | exact out_own rfl rfl | exact out_t (frzl_cons (by first | exact frz_c cv_rfl | exact frz_c cv_nil | exact frz_ownW rfl rfl (by first | rfl | (simp <;> fail) | omega | (simp; omega)) | exact frz_eq (frz_c cv_rfl) (by first | rfl | (simp <;> fail) | fail)) frzl_nil) | exact out_t (frzl_cons (by first | exact frz_c cv_rfl | exact frz_c cv_nil | exact frz_ownW rfl rfl (by first | rfl | (simp <;> fail) | omega | (simp; omega)) | exact frz_eq (frz_c cv_rfl) (by first | rfl | (simp <;> fail) | fail)) (frzl_cons (by first | exact frz_c cv_rfl | exact frz_c cv_nil | exact frz_ownW rfl rfl (by first | rfl | (simp <;> fail) | omega | (simp; omega)) | exact frz_eq (frz_c cv_rfl) (by first | rfl | (simp <;> fail) | fail)) frzl_nil)) | exact out_t frzl_nil)
set_option maxHeartbeats 400000 in
theorem rotate_ok (x : BitVec 64) (a : Nat) (h0 : 0 < a) (h1 : a < 64) : AC Try.prog 69 [wv x, iv a] (.c (wv (rotr x a))) [] 0 := by
  refine ac_enter tabOk (sz := 13) Try.func69 rfl (by rw [Try.ntmps69]; rfl) ?_
  repeat' (first
    | ((with_reducible refine isC_any ?_); (first | ((with_reducible refine aw_seqk ?_); intro K hK hX) | ((with_reducible refine isC_reg ?_); refine aw_prune [0, 1, 4] rfl rfl ?_; with_reducible refine aw_region ?_) | ((with_reducible refine isC_cond ?_); (first | (refine aw_condT rfl rfl ?_) | (refine aw_condF rfl rfl ?_) | (refine aw_condT rfl (by first | rfl | assumption | exact decide_eq_true (by omega) | (simp only [*] <;> fail) | fail) ?_) | (refine aw_condF rfl (by first | rfl | assumption | exact decide_eq_false (by omega) | (simp only [*] <;> fail) | fail) ?_))) | ((with_reducible refine isC_draw ?_); refine aw_prune [0, 1, 4] rfl rfl ?_; refine aw_drwF [] ?_) | (with_reducible refine aw_block ?_) | (with_reducible refine aw_skip ?_) | (with_reducible refine aw_exit ?_) | (with_reducible refine aw_ret ?_)))
    | (refine drw_end (by kernel_rfl) (by kernel_rfl) (by kernel_rfl) rfl ?_)
    | ((first | refine x_a g_none rfl ?_ | refine x_d g_none ?_); (first
      | ((with_reducible refine e_move ?_); (first | refine ex_i (s_move rfl) ?_))
      | ((with_reducible refine e_bin ?_); (first | refine ex_i (s_shlW (by exact rfl) (by exact isW_rfl) (by exact rfl) (show 64 - (a : Int) = ((64 - a : Nat) : Int) by omega)) ?_ | refine ex_i (s_arit64 rfl rfl rfl (by first | (simp only [Int.reduceAdd, Int.reduceSub, Int.reduceMul]; exact w64 (by omega) (by omega)) | exact w64 (by omega) (by omega) | exact wu64 (by omega) (by omega) | exact wu8 (by omega) (by omega) | rfl)) ?_ | refine ex_i (s_word rfl (by first | exact isW_rfl | exact isW_lit rfl) rfl (by first | exact isW_rfl | exact isW_lit rfl) rfl) ?_ | refine ex_i (s_arit rfl rfl rfl (by first | (simp only [Int.reduceAdd, Int.reduceSub, Int.reduceMul]; exact w64 (by omega) (by omega)) | exact w64 (by omega) (by omega) | exact wu64 (by omega) (by omega) | exact wu8 (by omega) (by omega) | rfl)) ?_ | refine ex_i (s_shlW rfl (by first | exact isW_rfl | exact isW_lit rfl) rfl (by first | with_reducible exact cast_self _ | with_reducible exact cast_lit _ | exact nt (by omega) | rfl)) ?_ | refine ex_i (s_shrW rfl (by first | exact isW_rfl | exact isW_lit rfl) rfl (by first | with_reducible exact cast_self _ | with_reducible exact cast_lit _ | exact nt (by omega) | rfl)) ?_ | refine ex_i (s_or rfl rfl rfl) ?_ | refine ex_i (s_shl rfl rfl (by first | exact Nat.le_of_ble_eq_true rfl | omega | (simp; omega)) rfl) ?_ | refine ex_i (s_shr rfl rfl (by first | exact Nat.le_of_ble_eq_true rfl | omega | (simp; omega)) rfl) ?_))
      | ((with_reducible refine e_assign ?_); (first | refine ex_i (s_assign rfl) ?_))))
    | (with_reducible refine awl_nil ?_)
    | (refine hK _ _ _ _ ?_; clear hK hX K)
    | (refine hX _ _ _ _ _ (by simp) ?_; clear hK hX K)
    | (with_reducible refine k_then ?_)
    | (with_reducible refine k_thenX ?_)
    | (with_reducible refine k_thenR ?_)
    | (with_reducible refine k_blk ?_)
    | (with_reducible refine k_blkR ?_)
    | (refine k_blkH rfl ?_)
    | (refine k_blkM rfl ?_))
  refine retK_mk (by first | exact .inl rfl | exact .inr rfl) (by exact trivial) (ResL.one (ResA.tmp rfl)) (by first | exact out_c (by first | exact frz_c cv_rfl | exact frz_c cv_nil | exact frz_ownW rfl rfl (by first | rfl | (simp <;> fail) | omega | (simp; omega)) | exact frz_eq (frz_c cv_rfl) (by first | rfl | (simp <;> fail) | fail)) | exact out_own rfl rfl | exact out_t (frzl_cons (by first | exact frz_c cv_rfl | exact frz_c cv_nil | exact frz_ownW rfl rfl (by first | rfl | (simp <;> fail) | omega | (simp; omega)) | exact frz_eq (frz_c cv_rfl) (by first | rfl | (simp <;> fail) | fail)) frzl_nil) | exact out_t (frzl_cons (by first | exact frz_c cv_rfl | exact frz_c cv_nil | exact frz_ownW rfl rfl (by first | rfl | (simp <;> fail) | omega | (simp; omega)) | exact frz_eq (frz_c cv_rfl) (by first | rfl | (simp <;> fail) | fail)) (frzl_cons (by first | exact frz_c cv_rfl | exact frz_c cv_nil | exact frz_ownW rfl rfl (by first | rfl | (simp <;> fail) | omega | (simp; omega)) | exact frz_eq (frz_c cv_rfl) (by first | rfl | (simp <;> fail) | fail)) frzl_nil)) | exact out_t frzl_nil)

end Go.Proofs.Ytgofigkhdjjlmaa
