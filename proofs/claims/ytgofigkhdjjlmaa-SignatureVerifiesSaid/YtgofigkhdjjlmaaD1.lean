/-
  The permutation of the digest, as the program and as the reference have it.
-/
import Derived.Test.YtgofigkhdjjlmaaAvV
import Derived.Test.YtgofigkhdjjlmaaWK
import Derived.Test.YtgofigkhdjjlmaaAvT
set_option linter.unusedVariables false
set_option linter.unusedSimpArgs false
namespace Go.Proofs.Ytgofigkhdjjlmaa
open Go Go.RowKit Go.Av
set_option maxRecDepth 100000
attribute [local irreducible] Still Adds AWL AW Drw AC AWR Weak Frz Src RetK Out
abbrev wv (x : BitVec 64) : CV := .v (.int .u64 (x.toNat : Int))
abbrev iv (n : Int) : CV := .v (.int .i64 n)

set_option maxHeartbeats 400000 in
theorem rotl_ok (x : BitVec 64) (k : Int) : AC Try.prog 107 [wv x, iv k] (.c (wv (x <<< (BitVec.ofInt 64 k &&& 63#64).toNat ||| x >>> (64#64 - (BitVec.ofInt 64 k &&& 63#64)).toNat))) [] 0 := by
  refine ac_enter tabOk (sz := 17) Try.func107 rfl (by rw [Try.ntmps107]; rfl) ?_
  repeat' (first
    | ((with_reducible refine aw_seqk ?_); intro K hK hX)
    | ((with_reducible refine isC_reg ?_); refine aw_prune [0, 1, 4, 5] rfl rfl ?_; with_reducible refine aw_region ?_)
    | refine stA ?_
    | (refine hK _ _ _ _ ?_; clear hK hX K)
    | (refine hX _ _ _ _ _ (by simp) ?_; clear hK hX K))
  refine retK_mk (by first | exact .inl rfl | exact .inr rfl) (by exact trivial) (ResL.one (ResA.tmp rfl)) (by first | exact out_c (by first | exact frz_c cv_rfl | exact frz_c cv_nil | exact frz_ownW rfl rfl (by first | rfl | with_reducible assumption | (simp <;> fail) | omega | (simp; omega) | assumption) | exact frz_eq (frz_c cv_rfl) (by first | rfl | (simp <;> fail) | fail)) | exact out_own rfl rfl)

def rotr (x : BitVec 64) (n : Nat) : BitVec 64 := x >>> n ||| x <<< (64 - n)
theorem rot_amount : ∀ a : Fin 64, 0 < a.val → (BitVec.ofInt 64 (0 - (a.val : Int)) &&& 63#64).toNat = 64 - a.val ∧ (64#64 - (BitVec.ofInt 64 (0 - (a.val : Int)) &&& 63#64)).toNat = a.val := by decide
theorem rot_eq (x : BitVec 64) (a : Nat) (h0 : 0 < a) (h1 : a < 64) : x <<< (BitVec.ofInt 64 (0 - (a : Int)) &&& 63#64).toNat ||| x >>> (64#64 - (BitVec.ofInt 64 (0 - (a : Int)) &&& 63#64)).toNat = rotr x a := by
  obtain ⟨e1, e2⟩ := rot_amount ⟨a, h1⟩ h0
  simp only at e1 e2
  rw [e1, e2, rotr, BitVec.or_comm]
theorem rotl_to (x : BitVec 64) (a : Nat) (h0 : 0 < a) (h1 : a < 64) : AC Try.prog 107 [wv x, iv (0 - (a : Int))] (.c (wv (rotr x a))) [] 0 := by
  have := rotl_ok x (0 - (a : Int))
  rwa [rot_eq x a h0 h1] at this

def mix (x : BitVec 64) (a b : Nat) : BitVec 64 := x ^^^ rotr x a ^^^ rotr x b
set_option maxHeartbeats 400000 in
theorem mixed_ok (x : BitVec 64) (a b : Nat) (h0 : 0 < a) (h1 : a < 64) (h2 : 0 < b) (h3 : b < 64) : AC Try.prog 68 [wv x, iv a, iv b] (.c (wv (mix x a b))) [] 0 := by
  refine ac_enter tabOk (sz := 18) Try.func68 rfl (by rw [Try.ntmps68]; rfl) ?_
  repeat' (first
    | ((with_reducible refine aw_seqk ?_); intro K hK hX)
    | ((with_reducible refine isC_reg ?_); refine aw_prune [0, 1, 2, 6] rfl rfl ?_; with_reducible refine aw_region ?_)
    | ((with_reducible refine isA_call ?_); (first | refine zA ?_ | refine zN ?_); (first | refine c0 (rotl_to x a h0 h1) ?_ | refine c0 (rotl_to x b h2 h3) ?_))
    | refine stA ?_
    | (refine hK _ _ _ _ ?_; clear hK hX K)
    | (refine hX _ _ _ _ _ (by simp) ?_; clear hK hX K))
  refine retK_mk (by first | exact .inl rfl | exact .inr rfl) (by exact trivial) (ResL.one (ResA.tmp rfl)) (by first | exact out_c (by first | exact frz_c cv_rfl | exact frz_c cv_nil | exact frz_ownW rfl rfl (by first | rfl | with_reducible assumption | (simp <;> fail) | omega | (simp; omega) | assumption) | exact frz_eq (frz_c cv_rfl) (by first | rfl | (simp <;> fail) | fail)) | exact out_own rfl rfl)
set_option maxHeartbeats 400000 in
theorem rotate_ok (x : BitVec 64) (a : Nat) (h0 : 0 < a) (h1 : a < 64) : AC Try.prog 69 [wv x, iv a] (.c (wv (rotr x a))) [] 0 := by
  refine ac_enter tabOk (sz := 13) Try.func69 rfl (by rw [Try.ntmps69]; rfl) ?_
  repeat' (first
    | ((with_reducible refine aw_seqk ?_); intro K hK hX)
    | ((with_reducible refine isC_reg ?_); refine aw_prune [0, 1, 4] rfl rfl ?_; with_reducible refine aw_region ?_)
    | ((with_reducible refine isC_draw ?_); refine aw_prune [0, 1, 4] rfl rfl ?_; refine aw_drwF [] ?_)
    | ((first | ((with_reducible refine isA_any ?_); refine xA ?_) | ((with_reducible refine isDk_any ?_); refine xD ?_)); (first | ((with_reducible refine e_bin ?_); (first | refine ex_i (s_shlW (by exact rfl) (by exact isW_rfl) (by exact rfl) (show 64 - (a : Int) = ((64 - a : Nat) : Int) by omega)) ?_))))
    | refine stA ?_
    | refine stD ?_
    | (refine hK _ _ _ _ ?_; clear hK hX K)
    | (refine hX _ _ _ _ _ (by simp) ?_; clear hK hX K))
  refine retK_mk (by first | exact .inl rfl | exact .inr rfl) (by exact trivial) (ResL.one (ResA.tmp rfl)) (by first | exact out_c (by first | exact frz_c cv_rfl | exact frz_c cv_nil | exact frz_ownW rfl rfl (by first | rfl | with_reducible assumption | (simp <;> fail) | omega | (simp; omega) | assumption) | exact frz_eq (frz_c cv_rfl) (by first | rfl | (simp <;> fail) | fail)) | exact out_own rfl rfl)

end Go.Proofs.Ytgofigkhdjjlmaa
