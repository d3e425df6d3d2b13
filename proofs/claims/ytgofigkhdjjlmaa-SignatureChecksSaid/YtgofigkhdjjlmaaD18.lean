/-
  The digits of a message (walk), as the reference has them; lists of numbers compared; the laws SignatureDigits, SignatureChecks.
-/
import Derived.Test.YtgofigkhdjjlmaaD17
import Derived.Test.YtgofigkhdjjlmaaD15
import Derived.Test.YtgofigkhdjjlmaaDR
import Derived.Test.YtgofigkhdjjlmaaAvN
import Derived.Test.YtgofigkhdjjlmaaAvT
set_option linter.unusedVariables false
set_option linter.unusedSimpArgs false
namespace Go.Proofs.Ytgofigkhdjjlmaa
open Go Go.RowKit Go.Av
set_option maxRecDepth 100000
def dfst (D : List UInt8) (i : Nat) : List Int := (List.range i).map fun j => (dgt D j : Int)
theorem dfst_length (D : List UInt8) (i : Nat) : (dfst D i).length = i := by simp [dfst]
theorem dgt_even (D : List UInt8) (i : Nat) : dgt D (2 * i) = (D.getD i 0).toNat / 16 := by
  unfold dgt
  rw [if_pos (by omega), show 2 * i / 2 = i by omega]
theorem dgt_odd (D : List UInt8) (i : Nat) : dgt D (2 * i + 1) = (D.getD i 0).toNat % 16 := by
  unfold dgt
  rw [if_neg (by omega), show (2 * i + 1) / 2 = i by omega]
theorem dfst_step (D : List UInt8) (i : Nat) : intc .i64 (dfst D (2 * i)) ++ [.v (.int .i64 (((D.getD i 0).toNat / 16 : Nat) : Int)), .v (.int .i64 (((D.getD i 0).toNat % 16 : Nat) : Int))] = intc .i64 (dfst D (2 * (i + 1))) := by
  rw [← dgt_even, ← dgt_odd]
  simp [dfst, intc, show 2 * (i + 1) = 2 * i + 1 + 1 by omega, List.range_succ]
theorem ckN_step (D : List UInt8) (i : Nat) : (ckN D (2 * i) : Int) + 15 - (((D.getD i 0).toNat / 16 : Nat) : Int) + 15 - (((D.getD i 0).toNat % 16 : Nat) : Int) = ((ckN D (2 * (i + 1)) : Nat) : Int) := by
  have h1 := dgt_le D (2 * i)
  have h2 := dgt_le D (2 * i + 1)
  rw [← dgt_even, ← dgt_odd]
  simp only [show 2 * (i + 1) = 2 * i + 1 + 1 by omega, ckN]
  omega
theorem digs_eq (D : List UInt8) : intc .i64 (dfst D 32) ++ [.v (.int .i64 ((ckN D 32 / 256 : Nat) : Int)), .v (.int .i64 ((ckN D 32 / 16 % 16 : Nat) : Int)), .v (.int .i64 ((ckN D 32 % 16 : Nat) : Int))] = intc .i64 (digs D) := by
  have hc := ckN_le D 32
  have e : digs D = dfst D 32 ++ [((ckN D 32 / 256 : Nat) : Int), ((ckN D 32 / 16 % 16 : Nat) : Int), ((ckN D 32 % 16 : Nat) : Int)] := by
    unfold digs dfst
    rw [show 35 = 32 + 1 + 1 + 1 from rfl, List.range_succ, List.range_succ, List.range_succ]
    simp only [List.map_append, List.map_cons, List.map_nil, List.append_assoc, List.cons_append, List.nil_append]
    have h1 : (List.range 32).map (fun j => (dall D j : Int)) = (List.range 32).map fun j => (dgt D j : Int) := by
      apply List.map_congr_left
      intro j hj
      have := List.mem_range.1 hj
      simp only [dall, if_pos this]
    have a1 : dall D 32 = ckN D 32 / 256 := by
      unfold dall
      rw [if_neg (by omega)]
      show ckN D 32 / 256 % 16 = _
      omega
    have a2 : dall D (32 + 1) = ckN D 32 / 16 % 16 := by
      unfold dall
      exact if_neg (by omega)
    have a3 : dall D (32 + 1 + 1) = ckN D 32 % 16 := by
      have h2 : dall D (32 + 1 + 1) = ckN D 32 / 1 % 16 := by
        unfold dall
        exact if_neg (by omega)
      rw [h2, Nat.div_one]
    rw [h1, ← a1, ← a2, ← a3]
  rw [e]
  simp [intc]
theorem int_at (l : List Int) (i : Nat) (h : i < l.length) : (intc .i64 l)[i * 1]? = some (.v (.int .i64 (l.getD i 0))) := by
  rw [Nat.mul_one]
  simp [intc, List.getD, List.getElem?_eq_getElem h]
theorem int_at0 (l : List Int) (i : Nat) (h : i < l.length) : (intc .i64 l)[0 + i * 1]? = some (.v (.int .i64 (l.getD i 0))) := by
  rw [Nat.zero_add]; exact int_at l i h
theorem digs_length (D : List UInt8) : (digs D).length = 35 := by simp [digs]
theorem digs_get (D : List UInt8) (i : Nat) (h : i < 35) : (digs D).getD i 0 = (dall D i : Int) := by
  simp [digs, List.getD, h]
theorem dall_le (D : List UInt8) (j : Nat) : dall D j ≤ 15 := by
  unfold dall
  split
  · exact dgt_le D j
  · omega
section
variable {P : Program} {ev : Evl} {h : Heap} {d : Option Tmp} {T ty T' : TypeId} {x y : Operand} {pos : String} {aft : Array Edge} {gd : Option (Nat × Bool)}
theorem s_quoN {b m : Nat} (hm : 0 < m) (hb : b < 9223372036854775808) {Y : Int} (hY : Y = (m : Int)) (hx : ev x = some (.c (.v (.int .i64 (b : Int))))) (hy : ev y = some (.c (.v (.int .i64 Y)))) : Still P ⟨d, .binOp .quo T x y T', ty, pos, aft, gd⟩ ev h (.c (.v (.int .i64 ((b / m : Nat) : Int)))) :=
  s_quo hx hy (by omega) (by
    subst hY
    rw [q64 (by omega) (by omega) (by omega)]
    simp)
theorem s_remN {b m : Nat} (hm : 0 < m) {Y : Int} (hY : Y = (m : Int)) (hx : ev x = some (.c (.v (.int .i64 (b : Int))))) (hy : ev y = some (.c (.v (.int .i64 Y)))) : Still P ⟨d, .binOp .rem T x y T', ty, pos, aft, gd⟩ ev h (.c (.v (.int .i64 ((b % m : Nat) : Int)))) :=
  s_rem hx hy (by omega) (by
    subst hY
    rw [r64 (by omega)]
    simp)
end
attribute [local irreducible] Still Adds AWL AW Drw AC AWR Weak Frz Src RetK Out InK permute
set_option maxHeartbeats 4000000 in
theorem rdigits_ok (l : List UInt8) (n : Nat) (hl : l.length = n) (hm : n ≤ 1000000) : AC Try.prog 29 [.sl 1 n (u8c l)] (.own 0 0 35 1 true) [(0, .row 3 (intc .i64 (digs (sum 390#64 l))))] 1 := by
  have hDl := sum_length 390#64 l
  have hsu := rsum_ok 390#64 l n hl (by omega)
  generalize sum 390#64 l = D at *
  have hu : (u8c D).length = 32 := by rw [u8c_length, hDl]
  refine ac_enter tabOk (sz := 47) Try.func29 rfl (by rw [Try.ntmps29]; rfl) ?_
  repeat' (first
    | ((with_reducible refine isC_any ?_); (first | ((with_reducible refine aw_seqk ?_); intro K hK hX) | ((with_reducible refine isC_reg ?_); refine aw_prune [0, 2, 3, 4, 5, 6, 7, 8] rfl rfl ?_; with_reducible refine aw_region ?_) | ((with_reducible refine isC_cond ?_); (first | (refine aw_condT rfl rfl ?_) | (refine aw_condF rfl rfl ?_) | (refine aw_condT rfl (by first | rfl | assumption | exact decide_eq_true (by omega) | (simp only [*] <;> fail) | fail) ?_) | (refine aw_condF rfl (by first | rfl | assumption | exact decide_eq_false (by omega) | (simp only [*] <;> fail) | fail) ?_))) | ((with_reducible refine isC_draw ?_); refine aw_prune [0, 2, 3, 4, 5, 6, 7, 8] rfl rfl ?_; refine aw_drwF [] ?_) | (with_reducible refine aw_block ?_) | (with_reducible refine aw_skip ?_) | (with_reducible refine aw_exit ?_) | (with_reducible refine aw_ret ?_)))
    | (refine drw_end (by kernel_rfl) (by kernel_rfl) (by kernel_rfl) rfl ?_)
    | ((first | with_reducible refine isA_bi ?_ | with_reducible refine isD_bi ?_); (first | (refine a_append tabOk g_none rfl rfl rfl rfl rfl rfl rfl rfl (by first | rfl | (simp <;> fail) | omega | (simp; omega)) rfl (by first | exact src_c | exact src_nil | exact src_ownW rfl (by first | rfl | (simp <;> fail) | omega | (simp; omega))) (by first | (simp only [maxLen]; omega) | (simp [maxLen]; omega)) (by first | exact Nat.le_of_ble_eq_true rfl | omega | (simp; omega)) ?_) | ((first | refine y_a g_none rfl ?_ | refine y_d g_none ?_); refine ey_i (b_appendN tabOk rfl rfl rfl rfl rfl rfl rfl rfl (by first | exact src_c | exact src_nil | exact src_ownW rfl (by first | rfl | (simp <;> fail) | omega | (simp; omega))) (by first | (simp only [maxLen]; omega) | (simp [maxLen]; omega)) (by first | exact Nat.le_of_ble_eq_true rfl | omega | (simp; omega))) rfl ?_) | ((first | refine y_a g_none rfl ?_ | refine y_d g_none ?_); refine ey_i (a_appendZ tabOk rfl rfl rfl rfl rfl rfl rfl rfl rfl rfl rfl (by first | with_reducible exact cast_self _ | with_reducible exact cast_lit _ | exact nt (by omega) | rfl) (by first | exact Nat.le_of_ble_eq_true rfl | omega | (simp; omega)) (by first | (simp only [maxLen]; omega) | (simp [maxLen]; omega)) (by first | exact Nat.le_of_ble_eq_true rfl | omega | (simp; omega))) rfl ?_)))
    | ((with_reducible refine isA_store ?_); (first | (refine f_store1 tabOk g_none rfl rfl rfl rfl rfl rfl rfl ?_) | (refine f_store1r tabOk g_none rfl rfl rfl rfl rfl rfl rfl ?_) | (refine awl_store1r tabOk g_none rfl rfl rfl rfl rfl rfl (by first | fail | exact Nat.le_of_ble_eq_true rfl | omega | (simp; omega)) ?_) | (refine awl_storeA tabOk g_none rfl rfl rfl (by first | exact Parts.mixed _ | exact Parts.closed _) (by rfl) (by rfl) rfl (by decide) (by rfl) ?_) | (refine awl_storeAr tabOk g_none rfl rfl rfl (by first | rfl | (simp <;> fail) | omega | (simp; omega)) rfl (by first | exact Nat.le_of_ble_eq_true rfl | omega | (simp; omega)) (by first | exact lay_whole _ _ (by first | rfl | (simp <;> fail) | omega | (simp; omega)) | rfl) ?_)))
    | ((first | with_reducible refine isA_call ?_ | with_reducible refine isD_call ?_); (first | refine z_a g_none rfl ?_ | refine z_d g_none ?_ | refine z_n g_none ?_); (first | (refine ct_0 (hsu) (by unfold Body; kernel_rfl) rfl (by first | exact cvl_rfl | ((repeat' (first | exact cvl_nil | refine cvl_cons ?_ ?_ | (first | exact cv_rfl | exact cv_nil | (refine cv_sl ?_ ?_ <;> first | rfl | omega | (simp <;> fail) | fail) | (refine cv_eq ?_; first | rfl | (simp <;> fail) | fail)))) <;> fail) | fail) rfl ?_)))
    | ((first | with_reducible refine isA_alloc ?_ | with_reducible refine isD_alloc ?_); (first | refine y_a g_none rfl ?_ | refine y_d g_none ?_); (first | refine ey_i (a_allocR tabOk rfl rfl rfl rfl) rfl ?_ | refine ey_i (a_alloc tabOk rfl rfl) rfl ?_))
    | ((first | with_reducible refine isA_bslice ?_ | with_reducible refine isD_bslice ?_); (first | refine y_a g_none rfl ?_ | refine y_d g_none ?_); (first | refine ey_i (b_bslice0 tabOk rfl rfl rfl rfl rfl) rfl ?_ | refine ey_i (b_bslice tabOk rfl rfl rfl rfl rfl rfl rfl rfl rfl rfl rfl rfl (flatLF_ok rfl) (by first | rfl | (simp <;> fail) | fail) (by rfl)) rfl ?_))
    | ((first | refine x_a g_none rfl ?_ | refine x_d g_none ?_); (first
      | ((with_reducible refine e_move ?_); (first | refine ex_i (s_move rfl) ?_))
      | ((with_reducible refine e_load ?_); (first | refine ex_i (s_load1 tabOk rfl rfl rfl rfl (by first | rfl | fail)) ?_ | refine ex_i (s_load1r tabOk rfl rfl rfl rfl (by first | rfl | fail)) ?_ | refine ex_i (s_load1i tabOk rfl rfl rfl (by first | rfl | fail)) ?_ | refine ex_i (s_loadA tabOk rfl rfl rfl rfl rfl rfl (by first | exact IsAgg.closed rfl rfl | exact IsAgg.mixed _)) ?_ | refine ex_i (s_loadAr tabOk rfl rfl rfl rfl (by first | fail | exact whole0 (by first | rfl | omega) | rfl) (by first | rfl | (simp <;> fail) | omega | (simp; omega))) ?_ | refine ex_i (s_loadAi tabOk rfl rfl rfl (by first | fail | exact whole0 (by first | rfl | omega) | rfl) (by first | rfl | (simp <;> fail) | omega | (simp; omega))) ?_))
      | ((with_reducible refine e_ixA ?_); (first | refine ex_i (s_ixC tabOk rfl rfl (by first | with_reducible exact cast_self _ | with_reducible exact cast_lit _ | exact nt (by omega) | rfl) rfl rfl rfl rfl (by first | exact Nat.le_of_ble_eq_true rfl | omega | (simp; omega))) ?_ | refine ex_i (s_ixO tabOk rfl rfl (by first | with_reducible exact cast_self _ | with_reducible exact cast_lit _ | exact nt (by omega) | rfl) rfl rfl rfl rfl (by first | exact Nat.le_of_ble_eq_true rfl | omega | (simp; omega))) ?_ | refine ex_i (s_ixA tabOk rfl rfl (by first | with_reducible exact cast_self _ | with_reducible exact cast_lit _ | exact nt (by omega) | rfl) rfl rfl rfl (by first | exact Nat.le_of_ble_eq_true rfl | omega | (simp; omega))) ?_ | refine ex_i (s_ixAi tabOk rfl rfl (by first | with_reducible exact cast_self _ | with_reducible exact cast_lit _ | exact nt (by omega) | rfl) rfl rfl rfl (by first | exact Nat.le_of_ble_eq_true rfl | omega | (simp; omega))) ?_))
      | ((with_reducible refine e_bin ?_); (first | refine ex_i (s_arit64 rfl rfl rfl (by first | (simp only [Int.reduceAdd, Int.reduceSub, Int.reduceMul]; exact w64 (by omega) (by omega)) | exact w64 (by omega) (by omega) | exact wu64 (by omega) (by omega) | exact wu8 (by omega) (by omega) | rfl)) ?_ | refine ex_i (s_rem (k := .i64) rfl rfl (by first | omega | decide) (by first | (simp only [Int.reduceTMod]; rfl) | exact r64 (by omega) | rfl)) ?_ | refine ex_i (s_quo (k := .i64) rfl rfl (by first | omega | decide) (by first | exact q64 (by omega) (by omega) (by omega) | exact qu8 (by omega) (by omega) (by omega) | rfl)) ?_ | refine ex_i (s_word rfl (by first | exact isW_rfl | exact isW_lit rfl) rfl (by first | exact isW_rfl | exact isW_lit rfl) rfl) ?_ | refine ex_i (s_cmp rfl rfl rfl rfl) ?_ | refine ex_i (s_arit rfl rfl rfl (by first | (simp only [Int.reduceAdd, Int.reduceSub, Int.reduceMul]; exact w64 (by omega) (by omega)) | exact w64 (by omega) (by omega) | exact wu64 (by omega) (by omega) | exact wu8 (by omega) (by omega) | rfl)) ?_ | refine ex_i (s_quo rfl rfl (by first | omega | decide) (by first | exact q64 (by omega) (by omega) (by omega) | exact qu8 (by omega) (by omega) (by omega) | rfl)) ?_ | refine ex_i (s_rem rfl rfl (by first | omega | decide) (by first | (simp only [Int.reduceTMod]; rfl) | exact r64 (by omega) | rfl)) ?_))
      | ((with_reducible refine e_assign ?_); (first | refine ex_i (s_assign rfl) ?_))
      | ((with_reducible refine e_conv ?_); (first | refine ex_i (s_convWB rfl (by first | exact isW_rfl | exact isW_lit rfl) tabOk rfl rfl rfl) ?_ | refine ex_i (s_convWW rfl (by first | exact isW_rfl | exact isW_lit rfl) tabOk rfl rfl rfl) ?_ | refine ex_i (s_convBW rfl tabOk rfl rfl rfl) ?_ | refine ex_i (s_convIW rfl tabOk rfl rfl rfl) ?_ | refine ex_i (s_convInt tabOk rfl rfl rfl rfl (by first | (simp only [Int.reduceAdd, Int.reduceSub, Int.reduceMul]; exact w64 (by omega) (by omega)) | exact w64 (by omega) (by omega) | exact wu64 (by omega) (by omega) | exact wu8 (by omega) (by omega) | rfl)) ?_ | refine ex_i (s_convStr tabOk rfl rfl rfl rfl) ?_ | refine ex_i (s_toStr tabOk rfl rfl rfl rfl rfl rfl rfl (by first | exact frz_c cv_rfl | exact frz_c cv_nil | exact frz_ownW rfl rfl (by first | rfl | (simp <;> fail) | omega | (simp; omega)))) ?_))))
    | (with_reducible refine awl_nil ?_)
    | (refine hK _ _ _ _ ?_; clear hK hX K)
    | (refine hX _ _ _ _ _ (by simp) ?_; clear hK hX K)
    | (with_reducible refine k_then ?_)
    | (with_reducible refine k_thenX ?_)
    | (with_reducible refine k_thenR ?_)
    | (with_reducible refine k_blk ?_)
    | (with_reducible refine k_blkR ?_)
    | (refine k_blkH rfl ?_)
    | (refine k_blkM rfl ?_))
  refine aw_nilown 4 3 1 rfl ?_
  refine aw_loopk 2 (fun i : Nat => [(3, .ref 0 0), (4, .own 1 0 (2 * i) 1 true), (5, .c (iv (ckN D (2 * i)))), (6, .c (iv i))]) (fun i => [(0, .row 35 (u8c D)), (1, .row 3 (intc .i64 (dfst D (2 * i))))]) [] (fun i => i ≤ 16) (fun i => 16 - i) 0 (by omega) (by refine weak_mk rfl ?_ ?_ rfl <;> (repeat' (first | exact weakE_nil | exact weakH_nil | refine weakE_cons rfl (by first | rfl | exact own_eq rfl rfl (by omega) | exact int_eq (by omega) | (simp <;> fail) | (congr 4; omega) | (congr 3; omega) | (congr 2; omega)) rfl ?_ | refine weakH_cons rfl (by first | rfl | exact own_eq rfl rfl (by omega) | exact int_eq (by omega) | (simp <;> fail) | (congr 4; omega) | (congr 3; omega) | (congr 2; omega)) rfl ?_))) ?_
  intro i hi K hK hX
  have hlen : (intc .i64 (dfst D (2 * i))).length = 2 * i := by rw [intc_length, dfst_length]
  have hc := ckN_le D (2 * i)
  have hb := (D.getD i 0).toNat_lt
  by_cases hlt : i < 16
  · repeat' (first
    | ((with_reducible refine isC_any ?_); (first | ((with_reducible refine aw_seqk ?_); intro K hK hX) | ((with_reducible refine isC_reg ?_); refine aw_prune [0, 2, 3, 4, 5, 6, 7, 8] rfl rfl ?_; with_reducible refine aw_region ?_) | ((with_reducible refine isC_cond ?_); (first | (refine aw_condT rfl rfl ?_) | (refine aw_condF rfl rfl ?_) | (refine aw_condT rfl (by first | rfl | assumption | exact decide_eq_true (by omega) | (simp only [*] <;> fail) | fail) ?_) | (refine aw_condF rfl (by first | rfl | assumption | exact decide_eq_false (by omega) | (simp only [*] <;> fail) | fail) ?_))) | ((with_reducible refine isC_draw ?_); refine aw_prune [0, 2, 3, 4, 5, 6, 7, 8] rfl rfl ?_; refine aw_drwF [] ?_) | (with_reducible refine aw_block ?_) | (with_reducible refine aw_skip ?_) | (with_reducible refine aw_exit ?_) | (with_reducible refine aw_ret ?_)))
    | (refine drw_end (by kernel_rfl) (by kernel_rfl) (by kernel_rfl) rfl ?_)
    | ((first | with_reducible refine isA_bi ?_ | with_reducible refine isD_bi ?_); (first | (refine a_append tabOk g_none rfl rfl rfl rfl rfl rfl rfl rfl (by first | rfl | (simp <;> fail) | omega | (simp; omega)) rfl (by first | exact src_c | exact src_nil | exact src_ownW rfl (by first | rfl | (simp <;> fail) | omega | (simp; omega))) (by first | (simp only [maxLen]; omega) | (simp [maxLen]; omega)) (by first | exact Nat.le_of_ble_eq_true rfl | omega | (simp; omega)) ?_) | ((first | refine y_a g_none rfl ?_ | refine y_d g_none ?_); refine ey_i (b_appendN tabOk rfl rfl rfl rfl rfl rfl rfl rfl (by first | exact src_c | exact src_nil | exact src_ownW rfl (by first | rfl | (simp <;> fail) | omega | (simp; omega))) (by first | (simp only [maxLen]; omega) | (simp [maxLen]; omega)) (by first | exact Nat.le_of_ble_eq_true rfl | omega | (simp; omega))) rfl ?_) | ((first | refine y_a g_none rfl ?_ | refine y_d g_none ?_); refine ey_i (a_appendZ tabOk rfl rfl rfl rfl rfl rfl rfl rfl rfl rfl rfl (by first | with_reducible exact cast_self _ | with_reducible exact cast_lit _ | exact nt (by omega) | rfl) (by first | exact Nat.le_of_ble_eq_true rfl | omega | (simp; omega)) (by first | (simp only [maxLen]; omega) | (simp [maxLen]; omega)) (by first | exact Nat.le_of_ble_eq_true rfl | omega | (simp; omega))) rfl ?_)))
    | ((with_reducible refine isA_store ?_); (first | (refine f_store1 tabOk g_none rfl rfl rfl rfl rfl rfl rfl ?_) | (refine f_store1r tabOk g_none rfl rfl rfl rfl rfl rfl rfl ?_) | (refine awl_store1r tabOk g_none rfl rfl rfl rfl rfl rfl (by first | fail | exact Nat.le_of_ble_eq_true rfl | omega | (simp; omega)) ?_) | (refine awl_storeA tabOk g_none rfl rfl rfl (by first | exact Parts.mixed _ | exact Parts.closed _) (by rfl) (by rfl) rfl (by decide) (by rfl) ?_) | (refine awl_storeAr tabOk g_none rfl rfl rfl (by first | rfl | (simp <;> fail) | omega | (simp; omega)) rfl (by first | exact Nat.le_of_ble_eq_true rfl | omega | (simp; omega)) (by first | exact lay_whole _ _ (by first | rfl | (simp <;> fail) | omega | (simp; omega)) | rfl) ?_)))
    | ((first | with_reducible refine isA_alloc ?_ | with_reducible refine isD_alloc ?_); (first | refine y_a g_none rfl ?_ | refine y_d g_none ?_); (first | refine ey_i (a_allocR tabOk rfl rfl rfl rfl) rfl ?_ | refine ey_i (a_alloc tabOk rfl rfl) rfl ?_))
    | ((first | with_reducible refine isA_bslice ?_ | with_reducible refine isD_bslice ?_); (first | refine y_a g_none rfl ?_ | refine y_d g_none ?_); (first | refine ey_i (b_bslice0 tabOk rfl rfl rfl rfl rfl) rfl ?_ | refine ey_i (b_bslice tabOk rfl rfl rfl rfl rfl rfl rfl rfl rfl rfl rfl rfl (flatLF_ok rfl) (by first | rfl | (simp <;> fail) | fail) (by rfl)) rfl ?_))
    | ((first | refine x_a g_none rfl ?_ | refine x_d g_none ?_); (first
      | ((with_reducible refine e_move ?_); (first | refine ex_i (s_move rfl) ?_))
      | ((with_reducible refine e_load ?_); (first | refine ex_i (s_load1 tabOk rfl rfl rfl rfl (by first | rfl | exact u8_at0 D i (by omega))) ?_ | refine ex_i (s_load1r tabOk rfl rfl rfl rfl (by first | rfl | exact u8_at0 D i (by omega))) ?_ | refine ex_i (s_load1i tabOk rfl rfl rfl (by first | rfl | exact u8_at0 D i (by omega))) ?_ | refine ex_i (s_loadA tabOk rfl rfl rfl rfl rfl rfl (by first | exact IsAgg.closed rfl rfl | exact IsAgg.mixed _)) ?_ | refine ex_i (s_loadAr tabOk rfl rfl rfl rfl (by first | fail | exact whole0 (by first | rfl | omega) | rfl) (by first | rfl | (simp <;> fail) | omega | (simp; omega))) ?_ | refine ex_i (s_loadAi tabOk rfl rfl rfl (by first | fail | exact whole0 (by first | rfl | omega) | rfl) (by first | rfl | (simp <;> fail) | omega | (simp; omega))) ?_))
      | ((with_reducible refine e_ixA ?_); (first | refine ex_i (s_ixC tabOk rfl rfl (by first | with_reducible exact cast_self _ | with_reducible exact cast_lit _ | exact nt (by omega) | rfl) rfl rfl rfl rfl (by first | exact Nat.le_of_ble_eq_true rfl | omega | (simp; omega))) ?_ | refine ex_i (s_ixO tabOk rfl rfl (by first | with_reducible exact cast_self _ | with_reducible exact cast_lit _ | exact nt (by omega) | rfl) rfl rfl rfl rfl (by first | exact Nat.le_of_ble_eq_true rfl | omega | (simp; omega))) ?_ | refine ex_i (s_ixA tabOk rfl rfl (by first | with_reducible exact cast_self _ | with_reducible exact cast_lit _ | exact nt (by omega) | rfl) rfl rfl rfl (by first | exact Nat.le_of_ble_eq_true rfl | omega | (simp; omega))) ?_ | refine ex_i (s_ixAi tabOk rfl rfl (by first | with_reducible exact cast_self _ | with_reducible exact cast_lit _ | exact nt (by omega) | rfl) rfl rfl rfl (by first | exact Nat.le_of_ble_eq_true rfl | omega | (simp; omega))) ?_))
      | ((with_reducible refine e_bin ?_); (first | refine ex_i (s_quo16 rfl rfl) ?_ | refine ex_i (s_rem16 rfl rfl) ?_ | refine ex_i (s_arit64 rfl rfl rfl (by first | (simp only [Int.reduceAdd, Int.reduceSub, Int.reduceMul]; exact w64 (by omega) (by omega)) | exact w64 (by omega) (by omega) | exact wu64 (by omega) (by omega) | exact wu8 (by omega) (by omega) | rfl)) ?_ | refine ex_i (s_rem (k := .i64) rfl rfl (by first | omega | decide) (by first | (simp only [Int.reduceTMod]; rfl) | exact r64 (by omega) | rfl)) ?_ | refine ex_i (s_quo (k := .i64) rfl rfl (by first | omega | decide) (by first | exact q64 (by omega) (by omega) (by omega) | exact qu8 (by omega) (by omega) (by omega) | rfl)) ?_ | refine ex_i (s_word rfl (by first | exact isW_rfl | exact isW_lit rfl) rfl (by first | exact isW_rfl | exact isW_lit rfl) rfl) ?_ | refine ex_i (s_cmp rfl rfl rfl rfl) ?_ | refine ex_i (s_arit rfl rfl rfl (by first | (simp only [Int.reduceAdd, Int.reduceSub, Int.reduceMul]; exact w64 (by omega) (by omega)) | exact w64 (by omega) (by omega) | exact wu64 (by omega) (by omega) | exact wu8 (by omega) (by omega) | rfl)) ?_ | refine ex_i (s_quo rfl rfl (by first | omega | decide) (by first | exact q64 (by omega) (by omega) (by omega) | exact qu8 (by omega) (by omega) (by omega) | rfl)) ?_ | refine ex_i (s_rem rfl rfl (by first | omega | decide) (by first | (simp only [Int.reduceTMod]; rfl) | exact r64 (by omega) | rfl)) ?_))
      | ((with_reducible refine e_assign ?_); (first | refine ex_i (s_assign rfl) ?_))
      | ((with_reducible refine e_conv ?_); (first | refine ex_i (s_convWB rfl (by first | exact isW_rfl | exact isW_lit rfl) tabOk rfl rfl rfl) ?_ | refine ex_i (s_convWW rfl (by first | exact isW_rfl | exact isW_lit rfl) tabOk rfl rfl rfl) ?_ | refine ex_i (s_convBW rfl tabOk rfl rfl rfl) ?_ | refine ex_i (s_convIW rfl tabOk rfl rfl rfl) ?_ | refine ex_i (s_convInt tabOk rfl rfl rfl rfl (by first | (simp only [Int.reduceAdd, Int.reduceSub, Int.reduceMul]; exact w64 (by omega) (by omega)) | exact w64 (by omega) (by omega) | exact wu64 (by omega) (by omega) | exact wu8 (by omega) (by omega) | rfl)) ?_ | refine ex_i (s_convStr tabOk rfl rfl rfl rfl) ?_ | refine ex_i (s_toStr tabOk rfl rfl rfl rfl rfl rfl rfl (by first | exact frz_c cv_rfl | exact frz_c cv_nil | exact frz_ownW rfl rfl (by first | rfl | (simp <;> fail) | omega | (simp; omega)))) ?_))))
    | (with_reducible refine awl_nil ?_)
    | (refine hK _ _ _ _ ?_; clear hK hX K)
    | (refine hX _ _ _ _ _ (by simp) ?_; clear hK hX K)
    | (with_reducible refine k_then ?_)
    | (with_reducible refine k_thenX ?_)
    | (with_reducible refine k_thenR ?_)
    | (with_reducible refine k_blk ?_)
    | (with_reducible refine k_blkR ?_)
    | (refine k_blkH rfl ?_)
    | (refine k_blkM rfl ?_))
    rw [ckN_step]
    exact ⟨i + 1, by omega, by omega, (by refine weak_ren [0, 3] rfl rfl ?_ ?_ rfl rfl <;> (repeat' (first | exact weakER_nil | exact weakHR_nil | refine weakER_cons rfl (by first | rfl | (exact congrArg (AObj.row 3) (dfst_step D i)) | exact own_eq rfl rfl (by omega) | exact int_eq (by omega) | (simp <;> fail) | (congr 4; omega) | (congr 3; omega) | (congr 2; omega)) rfl ?_ | refine weakHR_cons rfl (by first | rfl | (exact congrArg (AObj.row 3) (dfst_step D i)) | exact own_eq rfl rfl (by omega) | exact int_eq (by omega) | (simp <;> fail) | (congr 4; omega) | (congr 3; omega) | (congr 2; omega)) rfl ?_)))⟩
  · obtain rfl : i = 16 := by omega
    have hc2 : ckN D (2 * 16) < 9223372036854775808 := by omega
    have hc3 : ckN D (2 * 16) / 16 < 9223372036854775808 := by omega
    repeat' (first
    | ((with_reducible refine isC_any ?_); (first | ((with_reducible refine aw_seqk ?_); intro K hK hX) | ((with_reducible refine isC_reg ?_); refine aw_prune [0, 2, 3, 4, 5, 6, 7, 8] rfl rfl ?_; with_reducible refine aw_region ?_) | ((with_reducible refine isC_cond ?_); (first | (refine aw_condT rfl rfl ?_) | (refine aw_condF rfl rfl ?_) | (refine aw_condT rfl (by first | rfl | assumption | exact decide_eq_true (by omega) | (simp only [*] <;> fail) | fail) ?_) | (refine aw_condF rfl (by first | rfl | assumption | exact decide_eq_false (by omega) | (simp only [*] <;> fail) | fail) ?_))) | ((with_reducible refine isC_draw ?_); refine aw_prune [0, 2, 3, 4, 5, 6, 7, 8] rfl rfl ?_; refine aw_drwF [] ?_) | (with_reducible refine aw_block ?_) | (with_reducible refine aw_skip ?_) | (with_reducible refine aw_exit ?_) | (with_reducible refine aw_ret ?_)))
    | (refine drw_end (by kernel_rfl) (by kernel_rfl) (by kernel_rfl) rfl ?_)
    | ((first | with_reducible refine isA_bi ?_ | with_reducible refine isD_bi ?_); (first | (refine a_append tabOk g_none rfl rfl rfl rfl rfl rfl rfl rfl (by first | rfl | (simp <;> fail) | omega | (simp; omega)) rfl (by first | exact src_c | exact src_nil | exact src_ownW rfl (by first | rfl | (simp <;> fail) | omega | (simp; omega))) (by first | (simp only [maxLen]; omega) | (simp [maxLen]; omega)) (by first | exact Nat.le_of_ble_eq_true rfl | omega | (simp; omega)) ?_) | ((first | refine y_a g_none rfl ?_ | refine y_d g_none ?_); refine ey_i (b_appendN tabOk rfl rfl rfl rfl rfl rfl rfl rfl (by first | exact src_c | exact src_nil | exact src_ownW rfl (by first | rfl | (simp <;> fail) | omega | (simp; omega))) (by first | (simp only [maxLen]; omega) | (simp [maxLen]; omega)) (by first | exact Nat.le_of_ble_eq_true rfl | omega | (simp; omega))) rfl ?_) | ((first | refine y_a g_none rfl ?_ | refine y_d g_none ?_); refine ey_i (a_appendZ tabOk rfl rfl rfl rfl rfl rfl rfl rfl rfl rfl rfl (by first | with_reducible exact cast_self _ | with_reducible exact cast_lit _ | exact nt (by omega) | rfl) (by first | exact Nat.le_of_ble_eq_true rfl | omega | (simp; omega)) (by first | (simp only [maxLen]; omega) | (simp [maxLen]; omega)) (by first | exact Nat.le_of_ble_eq_true rfl | omega | (simp; omega))) rfl ?_)))
    | ((with_reducible refine isA_store ?_); (first | (refine f_store1 tabOk g_none rfl rfl rfl rfl rfl rfl rfl ?_) | (refine f_store1r tabOk g_none rfl rfl rfl rfl rfl rfl rfl ?_) | (refine awl_store1r tabOk g_none rfl rfl rfl rfl rfl rfl (by first | fail | exact Nat.le_of_ble_eq_true rfl | omega | (simp; omega)) ?_) | (refine awl_storeA tabOk g_none rfl rfl rfl (by first | exact Parts.mixed _ | exact Parts.closed _) (by rfl) (by rfl) rfl (by decide) (by rfl) ?_) | (refine awl_storeAr tabOk g_none rfl rfl rfl (by first | rfl | (simp <;> fail) | omega | (simp; omega)) rfl (by first | exact Nat.le_of_ble_eq_true rfl | omega | (simp; omega)) (by first | exact lay_whole _ _ (by first | rfl | (simp <;> fail) | omega | (simp; omega)) | rfl) ?_)))
    | ((first | with_reducible refine isA_alloc ?_ | with_reducible refine isD_alloc ?_); (first | refine y_a g_none rfl ?_ | refine y_d g_none ?_); (first | refine ey_i (a_allocR tabOk rfl rfl rfl rfl) rfl ?_ | refine ey_i (a_alloc tabOk rfl rfl) rfl ?_))
    | ((first | with_reducible refine isA_bslice ?_ | with_reducible refine isD_bslice ?_); (first | refine y_a g_none rfl ?_ | refine y_d g_none ?_); (first | refine ey_i (b_bslice0 tabOk rfl rfl rfl rfl rfl) rfl ?_ | refine ey_i (b_bslice tabOk rfl rfl rfl rfl rfl rfl rfl rfl rfl rfl rfl rfl (flatLF_ok rfl) (by first | rfl | (simp <;> fail) | fail) (by rfl)) rfl ?_))
    | ((first | refine x_a g_none rfl ?_ | refine x_d g_none ?_); (first
      | ((with_reducible refine e_move ?_); (first | refine ex_i (s_move rfl) ?_))
      | ((with_reducible refine e_load ?_); (first | refine ex_i (s_load1 tabOk rfl rfl rfl rfl (by first | rfl | fail)) ?_ | refine ex_i (s_load1r tabOk rfl rfl rfl rfl (by first | rfl | fail)) ?_ | refine ex_i (s_load1i tabOk rfl rfl rfl (by first | rfl | fail)) ?_ | refine ex_i (s_loadA tabOk rfl rfl rfl rfl rfl rfl (by first | exact IsAgg.closed rfl rfl | exact IsAgg.mixed _)) ?_ | refine ex_i (s_loadAr tabOk rfl rfl rfl rfl (by first | fail | exact whole0 (by first | rfl | omega) | rfl) (by first | rfl | (simp <;> fail) | omega | (simp; omega))) ?_ | refine ex_i (s_loadAi tabOk rfl rfl rfl (by first | fail | exact whole0 (by first | rfl | omega) | rfl) (by first | rfl | (simp <;> fail) | omega | (simp; omega))) ?_))
      | ((with_reducible refine e_ixA ?_); (first | refine ex_i (s_ixC tabOk rfl rfl (by first | with_reducible exact cast_self _ | with_reducible exact cast_lit _ | exact nt (by omega) | rfl) rfl rfl rfl rfl (by first | exact Nat.le_of_ble_eq_true rfl | omega | (simp; omega))) ?_ | refine ex_i (s_ixO tabOk rfl rfl (by first | with_reducible exact cast_self _ | with_reducible exact cast_lit _ | exact nt (by omega) | rfl) rfl rfl rfl rfl (by first | exact Nat.le_of_ble_eq_true rfl | omega | (simp; omega))) ?_ | refine ex_i (s_ixA tabOk rfl rfl (by first | with_reducible exact cast_self _ | with_reducible exact cast_lit _ | exact nt (by omega) | rfl) rfl rfl rfl (by first | exact Nat.le_of_ble_eq_true rfl | omega | (simp; omega))) ?_ | refine ex_i (s_ixAi tabOk rfl rfl (by first | with_reducible exact cast_self _ | with_reducible exact cast_lit _ | exact nt (by omega) | rfl) rfl rfl rfl (by first | exact Nat.le_of_ble_eq_true rfl | omega | (simp; omega))) ?_))
      | ((with_reducible refine e_bin ?_); (first | refine ex_i (s_quoN (m := 256) (by decide) hc2 rfl rfl rfl) ?_ | refine ex_i (s_quoN (m := 16) (by decide) hc2 rfl rfl rfl) ?_ | refine ex_i (s_remN (m := 16) (by decide) rfl rfl rfl) ?_ | refine ex_i (s_arit64 rfl rfl rfl (by first | (simp only [Int.reduceAdd, Int.reduceSub, Int.reduceMul]; exact w64 (by omega) (by omega)) | exact w64 (by omega) (by omega) | exact wu64 (by omega) (by omega) | exact wu8 (by omega) (by omega) | rfl)) ?_ | refine ex_i (s_rem (k := .i64) rfl rfl (by first | omega | decide) (by first | (simp only [Int.reduceTMod]; rfl) | exact r64 (by omega) | rfl)) ?_ | refine ex_i (s_quo (k := .i64) rfl rfl (by first | omega | decide) (by first | exact q64 (by omega) (by omega) (by omega) | exact qu8 (by omega) (by omega) (by omega) | rfl)) ?_ | refine ex_i (s_word rfl (by first | exact isW_rfl | exact isW_lit rfl) rfl (by first | exact isW_rfl | exact isW_lit rfl) rfl) ?_ | refine ex_i (s_cmp rfl rfl rfl rfl) ?_ | refine ex_i (s_arit rfl rfl rfl (by first | (simp only [Int.reduceAdd, Int.reduceSub, Int.reduceMul]; exact w64 (by omega) (by omega)) | exact w64 (by omega) (by omega) | exact wu64 (by omega) (by omega) | exact wu8 (by omega) (by omega) | rfl)) ?_ | refine ex_i (s_quo rfl rfl (by first | omega | decide) (by first | exact q64 (by omega) (by omega) (by omega) | exact qu8 (by omega) (by omega) (by omega) | rfl)) ?_ | refine ex_i (s_rem rfl rfl (by first | omega | decide) (by first | (simp only [Int.reduceTMod]; rfl) | exact r64 (by omega) | rfl)) ?_))
      | ((with_reducible refine e_assign ?_); (first | refine ex_i (s_assign rfl) ?_))
      | ((with_reducible refine e_conv ?_); (first | refine ex_i (s_convWB rfl (by first | exact isW_rfl | exact isW_lit rfl) tabOk rfl rfl rfl) ?_ | refine ex_i (s_convWW rfl (by first | exact isW_rfl | exact isW_lit rfl) tabOk rfl rfl rfl) ?_ | refine ex_i (s_convBW rfl tabOk rfl rfl rfl) ?_ | refine ex_i (s_convIW rfl tabOk rfl rfl rfl) ?_ | refine ex_i (s_convInt tabOk rfl rfl rfl rfl (by first | (simp only [Int.reduceAdd, Int.reduceSub, Int.reduceMul]; exact w64 (by omega) (by omega)) | exact w64 (by omega) (by omega) | exact wu64 (by omega) (by omega) | exact wu8 (by omega) (by omega) | rfl)) ?_ | refine ex_i (s_convStr tabOk rfl rfl rfl rfl) ?_ | refine ex_i (s_toStr tabOk rfl rfl rfl rfl rfl rfl rfl (by first | exact frz_c cv_rfl | exact frz_c cv_nil | exact frz_ownW rfl rfl (by first | rfl | (simp <;> fail) | omega | (simp; omega)))) ?_))))
    | (with_reducible refine awl_nil ?_)
    | (refine hK _ _ _ _ ?_; clear hK hX K)
    | (refine hX _ _ _ _ _ (by simp) ?_; clear hK hX K)
    | (with_reducible refine k_then ?_)
    | (with_reducible refine k_thenX ?_)
    | (with_reducible refine k_thenR ?_)
    | (with_reducible refine k_blk ?_)
    | (with_reducible refine k_blkR ?_)
    | (refine k_blkH rfl ?_)
    | (refine k_blkM rfl ?_))
    rw [show (intc .i64 (dfst D (2 * 16)) ++ [[CV.v (Value.int IntKind.i64 ((ckN D (2 * 16) / 256 : Nat) : Int))], [CV.v (.int .i64 ((ckN D (2 * 16) / 16 % 16 : Nat) : Int))], [CV.v (.int .i64 ((ckN D (2 * 16) % 16 : Nat) : Int))]].flatten) = intc .i64 (digs D) from digs_eq D]
    refine retK_mk (by first | exact .inl rfl | exact .inr rfl) (by exact trivial) (ResL.one (ResA.tmp rfl)) (by first | exact out_c (by first | exact frz_c cv_rfl | exact frz_c cv_nil | exact frz_ownW rfl rfl (by first | rfl | (simp <;> fail) | omega | (simp; omega)) | exact frz_eq (frz_c cv_rfl) (by first | rfl | (simp <;> fail) | fail)) | exact out_own rfl rfl | exact out_t (frzl_cons (by first | exact frz_c cv_rfl | exact frz_c cv_nil | exact frz_ownW rfl rfl (by first | rfl | (simp <;> fail) | omega | (simp; omega)) | exact frz_eq (frz_c cv_rfl) (by first | rfl | (simp <;> fail) | fail)) frzl_nil) | exact out_t (frzl_cons (by first | exact frz_c cv_rfl | exact frz_c cv_nil | exact frz_ownW rfl rfl (by first | rfl | (simp <;> fail) | omega | (simp; omega)) | exact frz_eq (frz_c cv_rfl) (by first | rfl | (simp <;> fail) | fail)) (frzl_cons (by first | exact frz_c cv_rfl | exact frz_c cv_nil | exact frz_ownW rfl rfl (by first | rfl | (simp <;> fail) | omega | (simp; omega)) | exact frz_eq (frz_c cv_rfl) (by first | rfl | (simp <;> fail) | fail)) frzl_nil)) | exact out_t frzl_nil)
end Go.Proofs.Ytgofigkhdjjlmaa
