/-
  The digits of a message (walk), as the reference has them; lists of numbers compared; the laws SignatureDigits, SignatureChecks.
-/
import Derived.Test.YtgofigkhdjjlmaaD17
import Derived.Test.YtgofigkhdjjlmaaWK
import Derived.Test.YtgofigkhdjjlmaaD15
import Derived.Test.YtgofigkhdjjlmaaDR
import Derived.Test.YtgofigkhdjjlmaaAvN
import Derived.Test.YtgofigkhdjjlmaaAvT
set_option linter.unusedVariables false
set_option linter.unusedSimpArgs false
namespace Go.Proofs.Ytgofigkhdjjlmaa
open Go Go.RowKit Go.Av
set_option maxRecDepth 100000
def dfst (D : List UInt8) (i : Nat) : List Int := (List.range i).map fun j => (dgt D j : Int)
theorem dfst_length (D : List UInt8) (i : Nat) : (dfst D i).length = i := by simp [dfst]
theorem dgt_even (D : List UInt8) (i : Nat) : dgt D (2 * i) = (D.getD i 0).toNat / 16 := by
  unfold dgt
  rw [if_pos (by omega), show 2 * i / 2 = i by omega]
theorem dgt_odd (D : List UInt8) (i : Nat) : dgt D (2 * i + 1) = (D.getD i 0).toNat % 16 := by
  unfold dgt
  rw [if_neg (by omega), show (2 * i + 1) / 2 = i by omega]
theorem dfst_step (D : List UInt8) (i : Nat) : intc .i64 (dfst D (2 * i)) ++ [.v (.int .i64 (((D.getD i 0).toNat / 16 : Nat) : Int)), .v (.int .i64 (((D.getD i 0).toNat % 16 : Nat) : Int))] = intc .i64 (dfst D (2 * (i + 1))) := by
  rw [← dgt_even, ← dgt_odd]
  simp [dfst, intc, show 2 * (i + 1) = 2 * i + 1 + 1 by omega, List.range_succ]
theorem ckN_step (D : List UInt8) (i : Nat) : (ckN D (2 * i) : Int) + 15 - (((D.getD i 0).toNat / 16 : Nat) : Int) + 15 - (((D.getD i 0).toNat % 16 : Nat) : Int) = ((ckN D (2 * (i + 1)) : Nat) : Int) := by
  have h1 := dgt_le D (2 * i)
  have h2 := dgt_le D (2 * i + 1)
  rw [← dgt_even, ← dgt_odd]
  simp only [show 2 * (i + 1) = 2 * i + 1 + 1 by omega, ckN]
  omega
theorem digs_eq (D : List UInt8) : intc .i64 (dfst D 32) ++ [.v (.int .i64 ((ckN D 32 / 256 : Nat) : Int)), .v (.int .i64 ((ckN D 32 / 16 % 16 : Nat) : Int)), .v (.int .i64 ((ckN D 32 % 16 : Nat) : Int))] = intc .i64 (digs D) := by
  have hc := ckN_le D 32
  have e : digs D = dfst D 32 ++ [((ckN D 32 / 256 : Nat) : Int), ((ckN D 32 / 16 % 16 : Nat) : Int), ((ckN D 32 % 16 : Nat) : Int)] := by
    unfold digs dfst
    rw [show 35 = 32 + 1 + 1 + 1 from rfl, List.range_succ, List.range_succ, List.range_succ]
    simp only [List.map_append, List.map_cons, List.map_nil, List.append_assoc, List.cons_append, List.nil_append]
    have h1 : (List.range 32).map (fun j => (dall D j : Int)) = (List.range 32).map fun j => (dgt D j : Int) := by
      apply List.map_congr_left
      intro j hj
      have := List.mem_range.1 hj
      simp only [dall, if_pos this]
    have a1 : dall D 32 = ckN D 32 / 256 := by
      unfold dall
      rw [if_neg (by omega)]
      show ckN D 32 / 256 % 16 = _
      omega
    have a2 : dall D (32 + 1) = ckN D 32 / 16 % 16 := by
      unfold dall
      exact if_neg (by omega)
    have a3 : dall D (32 + 1 + 1) = ckN D 32 % 16 := by
      have h2 : dall D (32 + 1 + 1) = ckN D 32 / 1 % 16 := by
        unfold dall
        exact if_neg (by omega)
      rw [h2, Nat.div_one]
    rw [h1, ← a1, ← a2, ← a3]
  rw [e]
  simp [intc]
theorem int_at (l : List Int) (i : Nat) (h : i < l.length) : (intc .i64 l)[i * 1]? = some (.v (.int .i64 (l.getD i 0))) := by
  rw [Nat.mul_one]
  simp [intc, List.getD, List.getElem?_eq_getElem h]
theorem int_at0 (l : List Int) (i : Nat) (h : i < l.length) : (intc .i64 l)[0 + i * 1]? = some (.v (.int .i64 (l.getD i 0))) := by
  rw [Nat.zero_add]; exact int_at l i h
theorem digs_length (D : List UInt8) : (digs D).length = 35 := by simp [digs]
theorem digs_get (D : List UInt8) (i : Nat) (h : i < 35) : (digs D).getD i 0 = (dall D i : Int) := by
  simp [digs, List.getD, h]
theorem dall_le (D : List UInt8) (j : Nat) : dall D j ≤ 15 := by
  unfold dall
  split
  · exact dgt_le D j
  · omega
section
variable {P : Program} {ev : Evl} {h : Heap} {d : Option Tmp} {T ty T' : TypeId} {x y : Operand} {pos : String} {aft : Array Edge} {gd : Option (Nat × Bool)}
theorem s_quoN {b m : Nat} (hm : 0 < m) (hb : b < 9223372036854775808) {Y : Int} (hY : Y = (m : Int)) (hx : ev x = some (.c (.v (.int .i64 (b : Int))))) (hy : ev y = some (.c (.v (.int .i64 Y)))) : Still P ⟨d, .binOp .quo T x y T', ty, pos, aft, gd⟩ ev h (.c (.v (.int .i64 ((b / m : Nat) : Int)))) :=
  s_quo hx hy (by omega) (by
    subst hY
    rw [q64 (by omega) (by omega) (by omega)]
    simp)
theorem s_remN {b m : Nat} (hm : 0 < m) {Y : Int} (hY : Y = (m : Int)) (hx : ev x = some (.c (.v (.int .i64 (b : Int))))) (hy : ev y = some (.c (.v (.int .i64 Y)))) : Still P ⟨d, .binOp .rem T x y T', ty, pos, aft, gd⟩ ev h (.c (.v (.int .i64 ((b % m : Nat) : Int)))) :=
  s_rem hx hy (by omega) (by
    subst hY
    rw [r64 (by omega)]
    simp)
end
attribute [local irreducible] Still Adds AWL AW Drw AC AWR Weak Frz Src RetK Out InK permute
set_option maxHeartbeats 4000000 in
theorem rdigits_ok (l : List UInt8) (n : Nat) (hl : l.length = n) (hm : n ≤ 1000000) : AC Try.prog 29 [.sl 1 n (u8c l)] (.own 0 0 35 1 true) [(0, .row 3 (intc .i64 (digs (sum 390#64 l))))] 1 := by
  have hDl := sum_length 390#64 l
  have hsu := rsum_ok 390#64 l n hl (by omega)
  generalize sum 390#64 l = D at *
  have hu : (u8c D).length = 32 := by rw [u8c_length, hDl]
  refine ac_enter tabOk (sz := 47) Try.func29 rfl (by rw [Try.ntmps29]; rfl) ?_
  repeat' (first
    | ((with_reducible refine aw_seqk ?_); intro K hK hX)
    | ((with_reducible refine isC_reg ?_); refine aw_prune [0, 2, 3, 4, 5, 6, 7, 8] rfl rfl ?_; with_reducible refine aw_region ?_)
    | ((with_reducible refine isC_draw ?_); refine aw_prune [0, 2, 3, 4, 5, 6, 7, 8] rfl rfl ?_; refine aw_drwF [] ?_)
    | ((first | with_reducible refine isA_call ?_ | with_reducible refine isD_call ?_); (first | refine zA ?_ | refine zN ?_ | refine zD ?_); (first | refine c0 (hsu) ?_))
    | refine stA ?_
    | refine stD ?_
    | (refine hK _ _ _ _ ?_; clear hK hX K)
    | (refine hX _ _ _ _ _ (by simp) ?_; clear hK hX K))
  refine aw_nilown 4 3 1 rfl ?_
  refine aw_loopk 2 (fun i : Nat => [(3, .ref 0 0), (4, .own 1 0 (2 * i) 1 true), (5, .c (iv (ckN D (2 * i)))), (6, .c (iv i))]) (fun i => [(0, .row 35 (u8c D)), (1, .row 3 (intc .i64 (dfst D (2 * i))))]) [] (fun i => i ≤ 16) (fun i => 16 - i) 0 (by omega) weakA ?_
  intro i hi K hK hX
  have hlen : (intc .i64 (dfst D (2 * i))).length = 2 * i := by rw [intc_length, dfst_length]
  have hc := ckN_le D (2 * i)
  have hb := (D.getD i 0).toNat_lt
  by_cases hlt : i < 16
  · repeat' (first
    | ((with_reducible refine aw_seqk ?_); intro K hK hX)
    | ((with_reducible refine isC_reg ?_); refine aw_prune [0, 2, 3, 4, 5, 6, 7, 8] rfl rfl ?_; with_reducible refine aw_region ?_)
    | ((with_reducible refine isC_draw ?_); refine aw_prune [0, 2, 3, 4, 5, 6, 7, 8] rfl rfl ?_; refine aw_drwF [] ?_)
    | ((first | ((with_reducible refine isA_any ?_); refine xA ?_) | ((with_reducible refine isDk_any ?_); refine xD ?_)); (first | ((with_reducible refine e_bin ?_); (first | refine ex_i (s_quo16 rfl rfl) ?_ | refine ex_i (s_rem16 rfl rfl) ?_)) | ((with_reducible refine e_load ?_); (first | refine ex_i (s_load1 tabOk rfl rfl rfl rfl (by exact u8_at0 D i (by omega))) ?_ | refine ex_i (s_load1r tabOk rfl rfl rfl rfl (by exact u8_at0 D i (by omega))) ?_ | refine ex_i (s_load1i tabOk rfl rfl rfl (by exact u8_at0 D i (by omega))) ?_)) | ((with_reducible refine e_ix ?_); (first | refine ex_i (s_ixV1 tabOk rfl rfl (by first | with_reducible exact cast_self _ | with_reducible exact cast_lit _ | exact nt (by omega) | rfl) rfl rfl rfl rfl rfl (by first | exact Nat.le_of_ble_eq_true rfl | omega | (simp; omega)) (by exact u8_at0 D i (by omega))) ?_ | refine ex_i (s_ixStr tabOk rfl rfl (by first | with_reducible exact cast_self _ | with_reducible exact cast_lit _ | exact nt (by omega) | rfl) rfl rfl (by exact u8_at0 D i (by omega))) ?_))))
    | refine stA ?_
    | refine stD ?_
    | (refine hK _ _ _ _ ?_; clear hK hX K)
    | (refine hX _ _ _ _ _ (by simp) ?_; clear hK hX K))
    rw [ckN_step]
    exact ⟨i + 1, by omega, by omega, (by refine weak_ren [0, 3] rfl rfl ?_ ?_ rfl rfl <;> (repeat' (first | exact weakER_nil | exact weakHR_nil | refine weakER_cons rfl (by first | rfl | (exact congrArg (AObj.row 3) (dfst_step D i)) | exact own_eq rfl rfl (by omega) | exact int_eq (by omega) | (simp <;> fail) | (congr 4; omega) | (congr 3; omega) | (congr 2; omega)) rfl ?_ | refine weakHR_cons rfl (by first | rfl | (exact congrArg (AObj.row 3) (dfst_step D i)) | exact own_eq rfl rfl (by omega) | exact int_eq (by omega) | (simp <;> fail) | (congr 4; omega) | (congr 3; omega) | (congr 2; omega)) rfl ?_)))⟩
  · obtain rfl : i = 16 := by omega
    have hc2 : ckN D (2 * 16) < 9223372036854775808 := by omega
    have hc3 : ckN D (2 * 16) / 16 < 9223372036854775808 := by omega
    repeat' (first
    | ((with_reducible refine aw_seqk ?_); intro K hK hX)
    | ((with_reducible refine isC_reg ?_); refine aw_prune [0, 2, 3, 4, 5, 6, 7, 8] rfl rfl ?_; with_reducible refine aw_region ?_)
    | ((with_reducible refine isC_draw ?_); refine aw_prune [0, 2, 3, 4, 5, 6, 7, 8] rfl rfl ?_; refine aw_drwF [] ?_)
    | ((first | ((with_reducible refine isA_any ?_); refine xA ?_) | ((with_reducible refine isDk_any ?_); refine xD ?_)); (first | ((with_reducible refine e_bin ?_); (first | refine ex_i (s_quoN (m := 256) (by decide) hc2 rfl rfl rfl) ?_ | refine ex_i (s_quoN (m := 16) (by decide) hc2 rfl rfl rfl) ?_ | refine ex_i (s_remN (m := 16) (by decide) rfl rfl rfl) ?_))))
    | refine stA ?_
    | refine stD ?_
    | (refine hK _ _ _ _ ?_; clear hK hX K)
    | (refine hX _ _ _ _ _ (by simp) ?_; clear hK hX K))
    rw [show (intc .i64 (dfst D (2 * 16)) ++ [[CV.v (Value.int IntKind.i64 ((ckN D (2 * 16) / 256 : Nat) : Int))], [CV.v (.int .i64 ((ckN D (2 * 16) / 16 % 16 : Nat) : Int))], [CV.v (.int .i64 ((ckN D (2 * 16) % 16 : Nat) : Int))]].flatten) = intc .i64 (digs D) from digs_eq D]
    refine retK_mk (by first | exact .inl rfl | exact .inr rfl) (by exact trivial) (ResL.one (ResA.tmp rfl)) (by first | exact out_c (by first | exact frz_c cv_rfl | exact frz_c cv_nil | exact frz_ownW rfl rfl (by first | rfl | with_reducible assumption | (simp <;> fail) | omega | (simp; omega) | assumption) | exact frz_eq (frz_c cv_rfl) (by first | rfl | (simp <;> fail) | fail)) | exact out_own rfl rfl)
end Go.Proofs.Ytgofigkhdjjlmaa
