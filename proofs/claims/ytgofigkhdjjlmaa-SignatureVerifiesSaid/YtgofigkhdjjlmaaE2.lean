/-
  Nodes, roots, Apply and Verify of trees (walk), as the program and as the reference have them.
-/
import Derived.Test.YtgofigkhdjjlmaaEP
import Derived.Test.YtgofigkhdjjlmaaWK
import Derived.Test.YtgofigkhdjjlmaaD20
import Derived.Test.YtgofigkhdjjlmaaD11
import Derived.Test.YtgofigkhdjjlmaaAvT
set_option linter.unusedVariables false
set_option linter.unusedSimpArgs false
namespace Go.Proofs.Ytgofigkhdjjlmaa
open Go Go.RowKit Go.Av
set_option maxRecDepth 100000
section
variable {P : Program} {tab : Tab} {ev : Evl} {h : Heap} {d : Option Tmp} {T ty T' : TypeId} {x y : Operand} {pos : String} {aft : Array Edge} {gd : Option (Nat × Bool)}
theorem xor1 (i : Nat) : i ^^^ 1 = if i % 2 = 0 then i + 1 else i - 1 := by
  have h1 := Nat.xor_div_two_pow (a := i) (b := 1) (n := 1)
  have h2 := Nat.xor_mod_two_pow (a := i) (b := 1) (n := 1)
  rw [Nat.pow_one] at h1 h2
  have h1' : (i ^^^ 1) / 2 = i / 2 := by rw [h1]; simp
  rcases Nat.mod_two_eq_zero_or_one i with h | h
  · rw [h] at h2
    have h2' : (i ^^^ 1) % 2 = 1 := h2
    rw [if_pos h]
    omega
  · rw [h] at h2
    have h2' : (i ^^^ 1) % 2 = 0 := h2
    rw [if_neg (by omega)]
    omega
theorem s_xor1 {b c : Nat} (hb : b < 1000000) (hc : (if b % 2 = 0 then b + 1 else b - 1) = c) (hx : ev x = some (.c (.v (.int .i64 (b : Int))))) (hy : ev y = some (.c (.v (.int .i64 1)))) : Still P ⟨d, .binOp .xor T x y T', ty, pos, aft, gd⟩ ev h (.c (.v (.int .i64 (c : Int)))) :=
  s_xor hx hy (by
    subst hc
    show IntKind.i64.wrap ((BitVec.ofInt 64 (b : Int) ^^^ BitVec.ofInt 64 1).toNat : Int) = _
    have e1 : BitVec.ofInt 64 (b : Int) = BitVec.ofNat 64 b := by simp
    have e2 : BitVec.ofInt 64 1 = BitVec.ofNat 64 1 := by decide
    have e3 : (BitVec.ofNat 64 b ^^^ BitVec.ofNat 64 1).toNat = if b % 2 = 0 then b + 1 else b - 1 := by
      rw [BitVec.toNat_xor, BitVec.toNat_ofNat, BitVec.toNat_ofNat, Nat.mod_eq_of_lt (by omega)]
      exact xor1 b
    rw [e1, e2, e3]
    split <;> exact w64 (by omega) (by omega))
end
attribute [local irreducible] Still Adds AWL AW Drw AC AWR Weak Frz Src RetK Out InK permute
attribute [local simp] u8c_take u8c_drop u8c_app
set_option maxHeartbeats 4000000 in
theorem node_ok (x : List UInt8) (hx : x.length = 32) : AC Try.prog 102 [.agg (u8c x)] (.c (.agg (u8c (nodeD x)))) [] 0 := by
  have hux : (u8c x).length = 32 := by rw [u8c_length, hx]
  have hk := keyed_ok 380#64 x [] 0 hx rfl (by decide)
  rw [List.append_nil] at hk
  have hus : (u8c (nodeD x)).length = 32 := by rw [u8c_length, nodeD_length]
  unfold nodeD at *
  refine ac_enter tabOk (sz := 5) Try.func102 rfl (by rw [Try.ntmps102]; rfl) ?_
  repeat' (first
    | ((with_reducible refine aw_seqk ?_); intro K hK hX)
    | ((with_reducible refine isC_reg ?_); refine aw_prune [0, 1, 2] rfl rfl ?_; with_reducible refine aw_region ?_)
    | ((with_reducible refine isA_call ?_); (first | refine zA ?_ | refine zN ?_); (first | refine c0 (hk) ?_))
    | refine stA ?_
    | (refine hK _ _ _ _ ?_; clear hK hX K)
    | (refine hX _ _ _ _ _ (by simp) ?_; clear hK hX K))
  refine retK_mk (by first | exact .inl rfl | exact .inr rfl) (by exact trivial) (ResL.one (by first | exact ResA.one rfl rfl rfl rfl rfl | exact ResA.agg rfl rfl rfl rfl rfl (by first | exact IsAgg.closed rfl rfl | exact IsAgg.mixed _) | exact ResA.aggr rfl rfl rfl rfl (by first | rfl | with_reducible assumption | (simp <;> fail) | omega | (simp; omega) | assumption))) (by first | exact out_c (by first | exact frz_c cv_rfl | exact frz_c cv_nil | exact frz_ownW rfl rfl (by first | rfl | with_reducible assumption | (simp <;> fail) | omega | (simp; omega) | assumption) | exact frz_eq (frz_c cv_rfl) (by first | rfl | (simp <;> fail) | fail)) | exact out_own rfl rfl)
set_option maxHeartbeats 4000000 in
theorem rnode_ok (x : List UInt8) (hx : x.length = 32) : AC Try.prog 97 [.agg (u8c x)] (.c (.agg (u8c (nodeD x)))) [] 0 := by
  have hux : (u8c x).length = 32 := by rw [u8c_length, hx]
  have hk := rkeyed_ok 380#64 x [] 0 hx rfl (by decide)
  rw [List.append_nil] at hk
  have hus : (u8c (nodeD x)).length = 32 := by rw [u8c_length, nodeD_length]
  unfold nodeD at *
  refine ac_enter tabOk (sz := 5) Try.func97 rfl (by rw [Try.ntmps97]; rfl) ?_
  repeat' (first
    | ((with_reducible refine aw_seqk ?_); intro K hK hX)
    | ((with_reducible refine isC_reg ?_); refine aw_prune [0, 1, 2] rfl rfl ?_; with_reducible refine aw_region ?_)
    | ((with_reducible refine isA_call ?_); (first | refine zA ?_ | refine zN ?_); (first | refine c0 (hk) ?_))
    | refine stA ?_
    | (refine hK _ _ _ _ ?_; clear hK hX K)
    | (refine hX _ _ _ _ _ (by simp) ?_; clear hK hX K))
  refine retK_mk (by first | exact .inl rfl | exact .inr rfl) (by exact trivial) (ResL.one (by first | exact ResA.one rfl rfl rfl rfl rfl | exact ResA.agg rfl rfl rfl rfl rfl (by first | exact IsAgg.closed rfl rfl | exact IsAgg.mixed _) | exact ResA.aggr rfl rfl rfl rfl (by first | rfl | with_reducible assumption | (simp <;> fail) | omega | (simp; omega) | assumption))) (by first | exact out_c (by first | exact frz_c cv_rfl | exact frz_c cv_nil | exact frz_ownW rfl rfl (by first | rfl | with_reducible assumption | (simp <;> fail) | omega | (simp; omega) | assumption) | exact frz_eq (frz_c cv_rfl) (by first | rfl | (simp <;> fail) | fail)) | exact out_own rfl rfl)
set_option maxHeartbeats 4000000 in
theorem rjoin_ok (x y : List UInt8) (hx : x.length = 32) (hy : y.length = 32) : AC Try.prog 103 [.agg (u8c x), .agg (u8c y)] (.c (.agg (u8c (joinD x y)))) [] 0 := by
  have hux : (u8c x).length = 32 := by rw [u8c_length, hx]
  have huy : (u8c y).length = 32 := by rw [u8c_length, hy]
  have hk := rpair_ok 381#64 x y hx hy
  have hus : (u8c (joinD x y)).length = 32 := by rw [u8c_length, joinD_length]
  unfold joinD at *
  refine ac_enter tabOk (sz := 8) Try.func103 rfl (by rw [Try.ntmps103]; rfl) ?_
  repeat' (first
    | ((with_reducible refine aw_seqk ?_); intro K hK hX)
    | ((with_reducible refine isC_reg ?_); refine aw_prune [0, 1, 2, 3, 4] rfl rfl ?_; with_reducible refine aw_region ?_)
    | ((with_reducible refine isA_call ?_); (first | refine zA ?_ | refine zN ?_); (first | refine c0 (hk) ?_))
    | refine stA ?_
    | (refine hK _ _ _ _ ?_; clear hK hX K)
    | (refine hX _ _ _ _ _ (by simp) ?_; clear hK hX K))
  refine retK_mk (by first | exact .inl rfl | exact .inr rfl) (by exact trivial) (ResL.one (by first | exact ResA.one rfl rfl rfl rfl rfl | exact ResA.agg rfl rfl rfl rfl rfl (by first | exact IsAgg.closed rfl rfl | exact IsAgg.mixed _) | exact ResA.aggr rfl rfl rfl rfl (by first | rfl | with_reducible assumption | (simp <;> fail) | omega | (simp; omega) | assumption))) (by first | exact out_c (by first | exact frz_c cv_rfl | exact frz_c cv_nil | exact frz_ownW rfl rfl (by first | rfl | with_reducible assumption | (simp <;> fail) | omega | (simp; omega) | assumption) | exact frz_eq (frz_c cv_rfl) (by first | rfl | (simp <;> fail) | fail)) | exact out_own rfl rfl)
set_option maxHeartbeats 4000000 in
theorem seal_ok (x : List UInt8) (n : Nat) (hx : x.length = 32) (hn : n ≤ 100000) : AC Try.prog 96 [.agg (u8c x), iv n] (.c (.agg (u8c (sealD x n)))) [] 0 := by
  have hux : (u8c x).length = 32 := by rw [u8c_length, hx]
  have hl := enc_len (n : Int)
  have he := appint_ok [] 0 (n : Int) (by omega) _ _ rfl (by decide) rfl rfl
  rw [Nat.zero_add] at he
  have hue : (u8c (enc (n : Int))).length = (enc (n : Int)).length := u8c_length _
  have hk := keyed_ok 382#64 x (enc (n : Int)) _ hx rfl (by omega)
  have hus : (u8c (sealD x n)).length = 32 := by rw [u8c_length, sealD_length]
  unfold sealD at *
  rw [List.nil_append] at he
  generalize (enc (n : Int)).length = k at *
  refine ac_enter tabOk (sz := 9) Try.func96 rfl (by rw [Try.ntmps96]; rfl) ?_
  repeat' (first
    | ((with_reducible refine aw_seqk ?_); intro K hK hX)
    | ((with_reducible refine isC_reg ?_); refine aw_prune [0, 1, 2, 4] rfl rfl ?_; with_reducible refine aw_region ?_)
    | ((with_reducible refine isC_draw ?_); refine aw_prune [0, 1, 2, 4] rfl rfl ?_; refine aw_drwF [] ?_)
    | ((first | with_reducible refine isA_call ?_ | with_reducible refine isD_call ?_); (first | refine wA ?_ | refine wN ?_ | refine wD ?_); (first | refine cF (hk) ?_))
    | ((first | with_reducible refine isA_call ?_ | with_reducible refine isD_call ?_); (first | refine zA ?_ | refine zN ?_ | refine zD ?_); (first | refine c1 (he) ?_))
    | refine stA ?_
    | refine stD ?_
    | (refine hK _ _ _ _ ?_; clear hK hX K)
    | (refine hX _ _ _ _ _ (by simp) ?_; clear hK hX K))
  refine retK_mk (by first | exact .inl rfl | exact .inr rfl) (by exact trivial) (ResL.one (by first | exact ResA.one rfl rfl rfl rfl rfl | exact ResA.agg rfl rfl rfl rfl rfl (by first | exact IsAgg.closed rfl rfl | exact IsAgg.mixed _) | exact ResA.aggr rfl rfl rfl rfl (by first | rfl | with_reducible assumption | (simp <;> fail) | omega | (simp; omega) | assumption))) (by first | exact out_c (by first | exact frz_c cv_rfl | exact frz_c cv_nil | exact frz_ownW rfl rfl (by first | rfl | with_reducible assumption | (simp <;> fail) | omega | (simp; omega) | assumption) | exact frz_eq (frz_c cv_rfl) (by first | rfl | (simp <;> fail) | fail)) | exact out_own rfl rfl)
set_option maxHeartbeats 4000000 in
theorem rroot_ok (x : List UInt8) (n : Nat) (hx : x.length = 32) (hn : n ≤ 100000) : AC Try.prog 99 [.agg (u8c x), iv n] (.c (.agg (u8c (sealD x n)))) [] 0 := by
  have hux : (u8c x).length = 32 := by rw [u8c_length, hx]
  have hl := enc_len (n : Int)
  have he := rint_ok (n : Int) (by omega) _ rfl
  have hue : (u8c (enc (n : Int))).length = (enc (n : Int)).length := u8c_length _
  have hk := rkeyed_ok 382#64 x (enc (n : Int)) _ hx rfl (by omega)
  have hus : (u8c (sealD x n)).length = 32 := by rw [u8c_length, sealD_length]
  unfold sealD at *
  generalize (enc (n : Int)).length = k at *
  refine ac_enter tabOk (sz := 9) Try.func99 rfl (by rw [Try.ntmps99]; rfl) ?_
  repeat' (first
    | ((with_reducible refine aw_seqk ?_); intro K hK hX)
    | ((with_reducible refine isC_reg ?_); refine aw_prune [0, 1, 2, 4] rfl rfl ?_; with_reducible refine aw_region ?_)
    | ((with_reducible refine isC_draw ?_); refine aw_prune [0, 1, 2, 4] rfl rfl ?_; refine aw_drwF [] ?_)
    | ((first | with_reducible refine isA_call ?_ | with_reducible refine isD_call ?_); (first | refine wA ?_ | refine wN ?_ | refine wD ?_); (first | refine cF (hk) ?_))
    | ((first | with_reducible refine isA_call ?_ | with_reducible refine isD_call ?_); (first | refine zA ?_ | refine zN ?_ | refine zD ?_); (first | refine c1 (he) ?_))
    | refine stA ?_
    | refine stD ?_
    | (refine hK _ _ _ _ ?_; clear hK hX K)
    | (refine hX _ _ _ _ _ (by simp) ?_; clear hK hX K))
  refine retK_mk (by first | exact .inl rfl | exact .inr rfl) (by exact trivial) (ResL.one (by first | exact ResA.one rfl rfl rfl rfl rfl | exact ResA.agg rfl rfl rfl rfl rfl (by first | exact IsAgg.closed rfl rfl | exact IsAgg.mixed _) | exact ResA.aggr rfl rfl rfl rfl (by first | rfl | with_reducible assumption | (simp <;> fail) | omega | (simp; omega) | assumption))) (by first | exact out_c (by first | exact frz_c cv_rfl | exact frz_c cv_nil | exact frz_ownW rfl rfl (by first | rfl | with_reducible assumption | (simp <;> fail) | omega | (simp; omega) | assumption) | exact frz_eq (frz_c cv_rfl) (by first | rfl | (simp <;> fail) | fail)) | exact out_own rfl rfl)
end Go.Proofs.Ytgofigkhdjjlmaa
