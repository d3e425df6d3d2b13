/-
  The digits of a message (walk), as the program and as the reference have them.
-/
import Derived.Test.YtgofigkhdjjlmaaD8
import Derived.Test.YtgofigkhdjjlmaaWK
import Derived.Test.YtgofigkhdjjlmaaAvS
import Derived.Test.YtgofigkhdjjlmaaAvT
set_option linter.unusedVariables false
set_option linter.unusedSimpArgs false
namespace Go.Proofs.Ytgofigkhdjjlmaa
open Go Go.RowKit Go.Av
set_option maxRecDepth 100000
theorem digits_idle : Idle Try.prog 64 1 := by
  intro us w hl
  obtain ⟨u0, rfl⟩ : ∃ u0, us = [u0] := by
    match us, hl with | [u0], _ => exact ⟨u0, rfl⟩
  refine callsD_of_wpS Try.func64 rfl fun c₀ cs hu => ?_
  apply wpS_seq
  apply wpS_region
  simp [wpOpsS, go_sem, recoverD, hu, Try.ntmps64, Exit.thenS]
  refine wpS_cond (t := false) (by simp [Act.eval, Array.replicate]) ?_
  simp only [Bool.false_eq_true, if_false]
  refine wpS_of_wp (wp_skip ?_)
  cases c₀
  simp_all [bodyPostS, results, Try.results64]
theorem digits_idle_b : Body Try.prog 64 := by unfold Body; kernel_rfl
/-- A digit of the digest, the sum of what is lacking, all digits. -/
def dgt (D : List UInt8) (j : Nat) : Nat := if j % 2 = 0 then (D.getD (j / 2) 0).toNat / 16 else (D.getD (j / 2) 0).toNat % 16
def ckN (D : List UInt8) : Nat → Nat
  | 0 => 0
  | j + 1 => ckN D j + (15 - dgt D j)
def dall (D : List UInt8) (j : Nat) : Nat := if j < 32 then dgt D j else ckN D 32 / 2 ^ (4 * (34 - j)) % 16
theorem dgt_le (D : List UInt8) (j : Nat) : dgt D j ≤ 15 := by
  have := (D.getD (j / 2) 0).toNat_lt
  unfold dgt
  split <;> omega
theorem ckN_le (D : List UInt8) : ∀ j, ckN D j ≤ 15 * j
  | 0 => Nat.le_refl _
  | j + 1 => by
    have := ckN_le D j
    simp only [ckN]
    omega
def flI (D : List UInt8) (i : Nat) : List Int := ((List.range i).map fun j => (dall D j : Int)) ++ List.replicate (35 - i) 0
def digs (D : List UInt8) : List Int := (List.range 35).map fun j => (dall D j : Int)
theorem flI_full (D : List UInt8) : flI D 35 = digs D := by simp [flI, digs]
theorem flI_length (D : List UInt8) (i : Nat) (h : i ≤ 35) : (flI D i).length = 35 := by simp [flI]; omega
theorem intc_set (l : List Int) (i : Nat) (b : Int) : (intc .i64 l).set i (.v (.int .i64 b)) = intc .i64 (l.set i b) := by
  unfold intc
  rw [← List.map_set]
theorem flI_set (D : List UInt8) (i : Nat) (h : i < 35) : (intc .i64 (flI D i)).set (0 + i * 1) (.v (.int .i64 (dall D i : Int))) = intc .i64 (flI D (i + 1)) := by
  rw [intc_set, Nat.zero_add, Nat.mul_one]
  congr 1
  unfold flI
  rw [List.range_succ, List.map_append, List.set_append_right _ _ (by simp), List.length_map, List.length_range, Nat.sub_self, show 35 - i = (35 - (i + 1)) + 1 by omega, List.replicate_succ, List.set_cons_zero]
  simp
theorem zc_int (n : Nat) : zc [Value.int .i64 0] n = intc .i64 (List.replicate n 0) := by
  induction n with
  | zero => rfl
  | succ n ih =>
    simp only [zc, List.replicate_succ, List.flatten_cons, intc, List.map_cons] at ih ⊢
    rw [ih]
    rfl
section
variable {P : Program} {ev : Evl} {h : Heap} {d : Option Tmp} {T ty T' : TypeId} {x y : Operand} {pos : String} {aft : Array Edge} {gd : Option (Nat × Bool)}
theorem s_shrN {b m : Nat} {k : IntKind} {Y : Int} (hx : ev x = some (.c (.v (.int .i64 (b : Int))))) (hy : ev y = some (.c (.v (.int k Y)))) (hY : Y = (m : Int)) (hm : m < 64) : Still P ⟨d, .binOp .shr T x y T', ty, pos, aft, gd⟩ ev h (.c (.v (.int .i64 ((b / 2 ^ m : Nat) : Int)))) :=
  s_shr hx hy (by omega) (by
    subst hY
    have e : min ((m : Int).toNat) IntKind.i64.bits = m := by
      show min ((m : Int).toNat) 64 = m
      omega
    rw [e, Int.fdiv_eq_ediv_of_nonneg _ (Int.le_of_lt (Int.pow_pos (by decide)))]
    simp)
theorem s_and15i {b : Nat} (hb : b < 9223372036854775808) (hx : ev x = some (.c (.v (.int .i64 (b : Int))))) (hy : ev y = some (.c (.v (.int .i64 15)))) : Still P ⟨d, .binOp .and T x y T', ty, pos, aft, gd⟩ ev h (.c (.v (.int .i64 ((b % 16 : Nat) : Int)))) :=
  s_and hx hy (by
    show IntKind.i64.wrap ((BitVec.ofInt 64 (b : Int) &&& BitVec.ofInt 64 15).toNat : Int) = _
    have e1 : BitVec.ofInt 64 (b : Int) = BitVec.ofNat 64 b := by simp
    have e2 : BitVec.ofInt 64 15 = BitVec.ofNat 64 15 := by decide
    have e3 : (BitVec.ofNat 64 b &&& BitVec.ofNat 64 15).toNat = b % 16 := by
      rw [BitVec.toNat_and, BitVec.toNat_ofNat, BitVec.toNat_ofNat, Nat.mod_eq_of_lt (by omega)]
      show b &&& (2 ^ 4 - 1) = _
      rw [Nat.and_two_pow_sub_one_eq_mod]
    rw [e1, e2, e3]
    exact w64 (by omega) (by omega))
end
attribute [local irreducible] Still Adds AWL AW Drw AC AWR Weak Frz Src RetK Out InK permute
set_option maxHeartbeats 4000000 in
theorem digits_ok (l : List UInt8) (n : Nat) (hl : l.length = n) (hm : n ≤ 1000000) : AC Try.prog 27 [.sl 1 n (u8c l)] (.own 0 0 35 1 true) [(0, .row 3 (intc .i64 (digs (sum 390#64 l))))] 1 := by
  have hDl := sum_length 390#64 l
  have hsu := sum_ok 390#64 l n hl (by simp only [maxLen]; omega)
  generalize sum 390#64 l = D at *
  have hu : (u8c D).length = 32 := by rw [u8c_length, hDl]
  refine ac_enter tabOk (sz := 10) Try.func27 rfl (by rw [Try.ntmps27]; rfl) ?_
  repeat' (first
    | ((with_reducible refine aw_seqk ?_); intro K hK hX)
    | ((with_reducible refine isC_reg ?_); refine aw_prune [0, 1, 2, 3, 4, 5, 6, 9, 10] rfl rfl ?_; with_reducible refine aw_region ?_)
    | ((with_reducible refine isA_call ?_); (first | refine zA ?_ | refine zN ?_); (first | refine c0 (hsu) ?_))
    | ((first | with_reducible refine isA_call ?_ | with_reducible refine isA_callv ?_); refine awl_inl tabOk [0, 1, 2, 3, 4, 5, 6, 7, 8, 9, 10, 11, 12, 13, 14, 15, 16, 17, 18, 19, 20] g_none rfl rfl (by unfold Body; kernel_rfl) Try.func65 rfl rfl rfl (szf := 21) (by rw [Try.ntmps65]; rfl) rfl ?_)
    | refine stA ?_
    | (refine hK _ _ _ _ ?_; clear hK hX K)
    | (refine hX _ _ _ _ _ (by simp) ?_; clear hK hX K)
    | (first | refine inK_some (by first | exact .inl rfl | exact .inr rfl) (by exact trivial) rfl (ResL.one (ResA.tmp rfl)) ?_ | refine inK_none (by first | exact .inl rfl | exact .inr rfl) (by exact trivial) rfl (ResL.one (ResA.tmp rfl)) ?_))
  refine aw_loopk 4 (fun i : Nat => [(1, .fn 66 [.ref 2 0, .ref 1 0]), (5, .own 3 0 35 1 true), (9, .c (iv 35)), (10, .c (iv i))]) (fun i => [(0, .blk 24 [.c (.v (.slice none 0 0))]), (1, .row 35 (u8c D)), (2, .blk 3 [.c (iv (ckN D (min i 32)))]), (3, .row 3 (intc .i64 (flI D i)))]) _ (fun i => i ≤ 35) (fun i => 35 - i) 0 (by omega) (by refine weak_mk rfl ?_ ?_ rfl <;> (repeat' (first | exact weakE_nil | exact weakH_nil | refine weakE_cons rfl (by first | rfl | (exact congrArg (AObj.row 3) (zc_int 35)) | exact own_eq rfl rfl (by omega) | exact int_eq (by omega) | (simp <;> fail) | (congr 4; omega) | (congr 3; omega) | (congr 2; omega)) rfl ?_ | refine weakH_cons rfl (by first | rfl | (exact congrArg (AObj.row 3) (zc_int 35)) | exact own_eq rfl rfl (by omega) | exact int_eq (by omega) | (simp <;> fail) | (congr 4; omega) | (congr 3; omega) | (congr 2; omega)) rfl ?_))) ?_
  intro i hi K hK hX
  have hlen : (intc .i64 (flI D i)).length = 35 := by rw [intc_length, flI_length _ _ (by omega)]
  by_cases hlt : i < 35
  · by_cases h32 : i < 32
    · have hc := ckN_le D i
      have hmin : min i 32 = i := by omega
      have hmin' : min (i + 1) 32 = i + 1 := by omega
      rw [hmin]
      rcases Nat.mod_two_eq_zero_or_one i with hp | hp
      · obtain ⟨j, rfl⟩ : ∃ j, i = 2 * j := ⟨i / 2, by omega⟩
        have hb := (D.getD j 0).toNat_lt
        have hx1 : (D.getD j 0).toNat / 2 ^ 4 < 9223372036854775808 := by omega
        have hdv : (D.getD j 0).toNat / 2 ^ 4 % 16 = dall D (2 * j) := by
          unfold dall dgt
          rw [if_pos h32, if_pos hp, show (2 * j) / 2 = j by omega]
          omega
        have hd15 : dall D (2 * j) ≤ 15 := by rw [← hdv]; omega
        have hck : (ckN D (2 * j) : Int) + (15 - (dall D (2 * j) : Int)) = ((ckN D (2 * j + 1) : Nat) : Int) := by
          have := dgt_le D (2 * j)
          have e : dall D (2 * j) = dgt D (2 * j) := by unfold dall; rw [if_pos h32]
          rw [e]
          simp only [ckN]
          omega
        repeat' (first
    | ((with_reducible refine aw_seqk ?_); intro K hK hX)
    | ((with_reducible refine isC_reg ?_); refine aw_prune [0, 1, 2, 3, 4, 5, 6, 9, 10] rfl rfl ?_; with_reducible refine aw_region ?_)
    | ((first | with_reducible refine isA_call ?_ | with_reducible refine isA_callv ?_); refine awl_inl tabOk [0, 1, 2, 3, 4, 5, 6, 7, 8, 9, 10, 11, 12, 13, 14, 15, 16, 17, 18, 19, 20, 21, 22, 23, 24, 25, 26, 27, 28, 29, 30] g_none rfl rfl (by unfold Body; kernel_rfl) Try.func65 rfl rfl rfl (szf := 21) (by rw [Try.ntmps65]; rfl) rfl ?_)
    | ((first | with_reducible refine isA_call ?_ | with_reducible refine isA_callv ?_); refine awl_inl tabOk [0, 1, 2, 3, 4, 5, 6, 7, 8, 9, 10, 11, 12, 13, 14, 15, 16, 17, 18, 19, 20, 21, 22, 23, 24, 25, 26, 27, 28, 29, 30] g_none rfl rfl (by unfold Body; kernel_rfl) Try.func66 rfl rfl rfl (szf := 31) (by rw [Try.ntmps66]; rfl) rfl ?_)
    | (((with_reducible refine isA_any ?_); refine xA ?_); (first | ((with_reducible refine e_ixA ?_); (first | refine ex_i (s_ixA tabOk rfl rfl (show ((2 * j : Nat) : Int) / 2 = (j : Int) by omega) rfl rfl rfl (by omega)) ?_)) | ((with_reducible refine e_bin ?_); (first | refine ex_i (s_shrN rfl rfl (show (4 : Int) = ((4 : Nat) : Int) from rfl) (by decide)) ?_ | refine ex_i (s_and15i hx1 rfl rfl) ?_)) | ((with_reducible refine e_load ?_); (first | refine ex_i (s_load1 tabOk rfl rfl rfl rfl (by exact u8_at0 D j (by omega))) ?_ | refine ex_i (s_load1r tabOk rfl rfl rfl rfl (by exact u8_at0 D j (by omega))) ?_ | refine ex_i (s_load1i tabOk rfl rfl rfl (by exact u8_at0 D j (by omega))) ?_)) | ((with_reducible refine e_ix ?_); (first | refine ex_i (s_ixV1 tabOk rfl rfl (by first | with_reducible exact cast_self _ | with_reducible exact cast_lit _ | exact nt (by omega) | rfl) rfl rfl rfl rfl rfl (by first | exact Nat.le_of_ble_eq_true rfl | omega | (simp; omega)) (by exact u8_at0 D j (by omega))) ?_ | refine ex_i (s_ixStr tabOk rfl rfl (by first | with_reducible exact cast_self _ | with_reducible exact cast_lit _ | exact nt (by omega) | rfl) rfl rfl (by exact u8_at0 D j (by omega))) ?_))))
    | ((with_reducible refine isA_store ?_); (refine awl_store1r tabOk g_none rfl rfl rfl rfl rfl rfl (by first | omega | exact Nat.le_of_ble_eq_true rfl | omega | (simp; omega)) ?_))
    | refine stA ?_
    | (refine hK _ _ _ _ ?_; clear hK hX K)
    | (refine hX _ _ _ _ _ (by simp) ?_; clear hK hX K)
    | (first | refine inK_some (by first | exact .inl rfl | exact .inr rfl) (by exact trivial) rfl (ResL.one (ResA.tmp rfl)) ?_ | refine inK_none (by first | exact .inl rfl | exact .inr rfl) (by exact trivial) rfl (ResL.one (ResA.tmp rfl)) ?_))
        rw [hdv, hck]
        exact ⟨2 * j + 1, by omega, by omega, (by refine weak_mk rfl ?_ ?_ rfl <;> (repeat' (first | exact weakE_nil | exact weakH_nil | refine weakE_cons rfl (by first | rfl | (first | exact congrArg (AObj.row 3) (flI_set D (2 * j) (by omega)) | rw [hmin']) | exact own_eq rfl rfl (by omega) | exact int_eq (by omega) | (simp <;> fail) | (congr 4; omega) | (congr 3; omega) | (congr 2; omega)) rfl ?_ | refine weakH_cons rfl (by first | rfl | (first | exact congrArg (AObj.row 3) (flI_set D (2 * j) (by omega)) | rw [hmin']) | exact own_eq rfl rfl (by omega) | exact int_eq (by omega) | (simp <;> fail) | (congr 4; omega) | (congr 3; omega) | (congr 2; omega)) rfl ?_)))⟩
      · obtain ⟨j, rfl⟩ : ∃ j, i = 2 * j + 1 := ⟨i / 2, by omega⟩
        have hb := (D.getD j 0).toNat_lt
        have hx1 : (D.getD j 0).toNat < 9223372036854775808 := by omega
        have hdv : (D.getD j 0).toNat % 16 = dall D (2 * j + 1) := by
          unfold dall dgt
          rw [if_pos h32, if_neg (by omega), show (2 * j + 1) / 2 = j by omega]
          skip
        have hd15 : dall D (2 * j + 1) ≤ 15 := by rw [← hdv]; omega
        have hck : (ckN D (2 * j + 1) : Int) + (15 - (dall D (2 * j + 1) : Int)) = ((ckN D (2 * j + 1 + 1) : Nat) : Int) := by
          have := dgt_le D (2 * j + 1)
          have e : dall D (2 * j + 1) = dgt D (2 * j + 1) := by unfold dall; rw [if_pos h32]
          rw [e]
          simp only [ckN]
          omega
        repeat' (first
    | ((with_reducible refine aw_seqk ?_); intro K hK hX)
    | ((with_reducible refine isC_reg ?_); refine aw_prune [0, 1, 2, 3, 4, 5, 6, 9, 10] rfl rfl ?_; with_reducible refine aw_region ?_)
    | ((first | with_reducible refine isA_call ?_ | with_reducible refine isA_callv ?_); refine awl_inl tabOk [0, 1, 2, 3, 4, 5, 6, 7, 8, 9, 10, 11, 12, 13, 14, 15, 16, 17, 18, 19, 20, 21, 22, 23, 24, 25, 26, 27, 28, 29, 30] g_none rfl rfl (by unfold Body; kernel_rfl) Try.func65 rfl rfl rfl (szf := 21) (by rw [Try.ntmps65]; rfl) rfl ?_)
    | ((first | with_reducible refine isA_call ?_ | with_reducible refine isA_callv ?_); refine awl_inl tabOk [0, 1, 2, 3, 4, 5, 6, 7, 8, 9, 10, 11, 12, 13, 14, 15, 16, 17, 18, 19, 20, 21, 22, 23, 24, 25, 26, 27, 28, 29, 30] g_none rfl rfl (by unfold Body; kernel_rfl) Try.func66 rfl rfl rfl (szf := 31) (by rw [Try.ntmps66]; rfl) rfl ?_)
    | (((with_reducible refine isA_any ?_); refine xA ?_); (first | ((with_reducible refine e_ixA ?_); (first | refine ex_i (s_ixA tabOk rfl rfl (show ((2 * j + 1 : Nat) : Int) / 2 = (j : Int) by omega) rfl rfl rfl (by omega)) ?_)) | ((with_reducible refine e_bin ?_); (first | refine ex_i (s_and15i hx1 rfl rfl) ?_)) | ((with_reducible refine e_load ?_); (first | refine ex_i (s_load1 tabOk rfl rfl rfl rfl (by exact u8_at0 D j (by omega))) ?_ | refine ex_i (s_load1r tabOk rfl rfl rfl rfl (by exact u8_at0 D j (by omega))) ?_ | refine ex_i (s_load1i tabOk rfl rfl rfl (by exact u8_at0 D j (by omega))) ?_)) | ((with_reducible refine e_ix ?_); (first | refine ex_i (s_ixV1 tabOk rfl rfl (by first | with_reducible exact cast_self _ | with_reducible exact cast_lit _ | exact nt (by omega) | rfl) rfl rfl rfl rfl rfl (by first | exact Nat.le_of_ble_eq_true rfl | omega | (simp; omega)) (by exact u8_at0 D j (by omega))) ?_ | refine ex_i (s_ixStr tabOk rfl rfl (by first | with_reducible exact cast_self _ | with_reducible exact cast_lit _ | exact nt (by omega) | rfl) rfl rfl (by exact u8_at0 D j (by omega))) ?_))))
    | ((with_reducible refine isA_store ?_); (refine awl_store1r tabOk g_none rfl rfl rfl rfl rfl rfl (by first | omega | exact Nat.le_of_ble_eq_true rfl | omega | (simp; omega)) ?_))
    | refine stA ?_
    | (refine hK _ _ _ _ ?_; clear hK hX K)
    | (refine hX _ _ _ _ _ (by simp) ?_; clear hK hX K)
    | (first | refine inK_some (by first | exact .inl rfl | exact .inr rfl) (by exact trivial) rfl (ResL.one (ResA.tmp rfl)) ?_ | refine inK_none (by first | exact .inl rfl | exact .inr rfl) (by exact trivial) rfl (ResL.one (ResA.tmp rfl)) ?_))
        rw [hdv, hck]
        exact ⟨2 * j + 1 + 1, by omega, by omega, (by refine weak_mk rfl ?_ ?_ rfl <;> (repeat' (first | exact weakE_nil | exact weakH_nil | refine weakE_cons rfl (by first | rfl | (first | exact congrArg (AObj.row 3) (flI_set D (2 * j + 1) (by omega)) | rw [hmin']) | exact own_eq rfl rfl (by omega) | exact int_eq (by omega) | (simp <;> fail) | (congr 4; omega) | (congr 3; omega) | (congr 2; omega)) rfl ?_ | refine weakH_cons rfl (by first | rfl | (first | exact congrArg (AObj.row 3) (flI_set D (2 * j + 1) (by omega)) | rw [hmin']) | exact own_eq rfl rfl (by omega) | exact int_eq (by omega) | (simp <;> fail) | (congr 4; omega) | (congr 3; omega) | (congr 2; omega)) rfl ?_)))⟩
    · have hc := ckN_le D 32
      have hmin : min i 32 = 32 := by omega
      have hmin' : min (i + 1) 32 = 32 := by omega
      rw [hmin]
      have hdv : ckN D 32 / 2 ^ (4 * (34 - i)) % 16 = dall D i := by unfold dall; rw [if_neg h32]
      have hx1 : ckN D 32 / 2 ^ (4 * (34 - i)) < 9223372036854775808 := Nat.lt_of_le_of_lt (Nat.div_le_self _ _) (by omega)
      repeat' (first
    | ((with_reducible refine aw_seqk ?_); intro K hK hX)
    | ((with_reducible refine isC_reg ?_); refine aw_prune [0, 1, 2, 3, 4, 5, 6, 9, 10] rfl rfl ?_; with_reducible refine aw_region ?_)
    | ((first | with_reducible refine isA_call ?_ | with_reducible refine isA_callv ?_); refine awl_inl tabOk [0, 1, 2, 3, 4, 5, 6, 7, 8, 9, 10, 11, 12, 13, 14, 15, 16, 17, 18, 19, 20, 21, 22, 23, 24, 25, 26, 27, 28, 29, 30] g_none rfl rfl (by unfold Body; kernel_rfl) Try.func65 rfl rfl rfl (szf := 21) (by rw [Try.ntmps65]; rfl) rfl ?_)
    | ((first | with_reducible refine isA_call ?_ | with_reducible refine isA_callv ?_); refine awl_inl tabOk [0, 1, 2, 3, 4, 5, 6, 7, 8, 9, 10, 11, 12, 13, 14, 15, 16, 17, 18, 19, 20, 21, 22, 23, 24, 25, 26, 27, 28, 29, 30] g_none rfl rfl (by unfold Body; kernel_rfl) Try.func66 rfl rfl rfl (szf := 31) (by rw [Try.ntmps66]; rfl) rfl ?_)
    | (((with_reducible refine isA_any ?_); refine xA ?_); (first | ((with_reducible refine e_bin ?_); (first | refine ex_i (s_shrN rfl rfl (show 4 * (34 - (i : Int)) = ((4 * (34 - i) : Nat) : Int) by omega) (by omega)) ?_ | refine ex_i (s_and15i hx1 rfl rfl) ?_))))
    | ((with_reducible refine isA_store ?_); (refine awl_store1r tabOk g_none rfl rfl rfl rfl rfl rfl (by first | omega | exact Nat.le_of_ble_eq_true rfl | omega | (simp; omega)) ?_))
    | refine stA ?_
    | (refine hK _ _ _ _ ?_; clear hK hX K)
    | (refine hX _ _ _ _ _ (by simp) ?_; clear hK hX K)
    | (first | refine inK_some (by first | exact .inl rfl | exact .inr rfl) (by exact trivial) rfl (ResL.one (ResA.tmp rfl)) ?_ | refine inK_none (by first | exact .inl rfl | exact .inr rfl) (by exact trivial) rfl (ResL.one (ResA.tmp rfl)) ?_))
      rw [hdv]
      exact ⟨i + 1, by omega, by omega, (by refine weak_mk rfl ?_ ?_ rfl <;> (repeat' (first | exact weakE_nil | exact weakH_nil | refine weakE_cons rfl (by first | rfl | (first | exact congrArg (AObj.row 3) (flI_set D i hlt) | rw [hmin']) | exact own_eq rfl rfl (by omega) | exact int_eq (by omega) | (simp <;> fail) | (congr 4; omega) | (congr 3; omega) | (congr 2; omega)) rfl ?_ | refine weakH_cons rfl (by first | rfl | (first | exact congrArg (AObj.row 3) (flI_set D i hlt) | rw [hmin']) | exact own_eq rfl rfl (by omega) | exact int_eq (by omega) | (simp <;> fail) | (congr 4; omega) | (congr 3; omega) | (congr 2; omega)) rfl ?_)))⟩
  · obtain rfl : i = 35 := by omega
    repeat' (first
    | ((with_reducible refine aw_seqk ?_); intro K hK hX)
    | ((with_reducible refine isC_reg ?_); refine aw_prune [0, 1, 2, 3, 4, 5, 6, 9, 10] rfl rfl ?_; with_reducible refine aw_region ?_)
    | ((first | with_reducible refine isA_call ?_ | with_reducible refine isA_callv ?_); refine awl_inl tabOk [0, 1, 2, 3, 4, 5, 6, 7, 8, 9, 10, 11, 12, 13, 14, 15, 16, 17, 18, 19, 20] g_none rfl rfl (by unfold Body; kernel_rfl) Try.func65 rfl rfl rfl (szf := 21) (by rw [Try.ntmps65]; rfl) rfl ?_)
    | refine stA ?_
    | (refine hK _ _ _ _ ?_; clear hK hX K)
    | (refine hX _ _ _ _ _ (by simp) ?_; clear hK hX K)
    | (first | refine inK_some (by first | exact .inl rfl | exact .inr rfl) (by exact trivial) rfl (ResL.one (ResA.tmp rfl)) ?_ | refine inK_none (by first | exact .inl rfl | exact .inr rfl) (by exact trivial) rfl (ResL.one (ResA.tmp rfl)) ?_))
    rw [flI_full]
    refine retK_mk (by first | exact .inl rfl | exact .inr rfl) (by exact ⟨digits_idle, digits_idle_b, trivial⟩) (ResL.one (by first | exact ResA.one rfl rfl rfl rfl rfl | exact ResA.agg rfl rfl rfl rfl rfl (by first | exact IsAgg.closed rfl rfl | exact IsAgg.mixed _) | exact ResA.aggr rfl rfl rfl rfl (by first | rfl | with_reducible assumption | (simp <;> fail) | omega | (simp; omega) | assumption))) (by first | exact out_c (by first | exact frz_c cv_rfl | exact frz_c cv_nil | exact frz_ownW rfl rfl (by first | rfl | with_reducible assumption | (simp <;> fail) | omega | (simp; omega) | assumption) | exact frz_eq (frz_c cv_rfl) (by first | rfl | (simp <;> fail) | fail)) | exact out_own rfl rfl)
end Go.Proofs.Ytgofigkhdjjlmaa
