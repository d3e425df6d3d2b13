/-
  Joined texts: Z12. Lemmas; no statement of a law.
-/
import Derived.Test.YtccnhpaldmjkbaaGreatM13
set_option linter.unusedSimpArgs false
set_option linter.unusedVariables false
/-
  Values and rows off a tape (walk).
-/
namespace Go.Proofs.YtccnhpaldmjkbaaGreat
open Go Go.RowKit Go.Av
set_option maxRecDepth 100000
def txtS (x : Int) : List UInt8 := [[97], [98], [], [97, 98], [97, 32, 98], [120, 0, 121], [255, 34, 92], [98, 32, 97, 32, 98], [108, 111, 110, 103, 32, 116, 101, 120, 116, 32, 111, 102, 32, 116, 104, 105, 114, 116, 121, 45, 116, 119, 111, 32, 98, 121, 116, 101, 115, 32, 105, 116], [66]].getD x.toNat []
theorem txtc (x : Int) (h1 : 0 ≤ x) (h2 : x < 10) : ([sv [97], sv [98], sv [], sv [97, 98], sv [97, 32, 98], sv [120, 0, 121], sv [255, 34, 92], sv [98, 32, 97, 32, 98], sv [108, 111, 110, 103, 32, 116, 101, 120, 116, 32, 111, 102, 32, 116, 104, 105, 114, 116, 121, 45, 116, 119, 111, 32, 98, 121, 116, 101, 115, 32, 105, 116], sv [66]] : List CV)[x.toNat]? = some (sv (txtS x)) ∧ okP ⟨2, 0, txtS x⟩ := by
  rcases (show x = 0 ∨ x = 1 ∨ x = 2 ∨ x = 3 ∨ x = 4 ∨ x = 5 ∨ x = 6 ∨ x = 7 ∨ x = 8 ∨ x = 9 by omega) with e | e | e | e | e | e | e | e | e | e <;> subst e <;> exact ⟨rfl, .inr (.inr ⟨rfl, rfl, by decide⟩)⟩
def numS (x : Int) : Int := [0, 1, 2, 3, -1, -2, 7, 100, 4294967296, -4294967296, 5, 4].getD x.toNat 0
theorem numc (x : Int) (h1 : 0 ≤ x) (h2 : x < 12) : ([iv 0, iv 1, iv 2, iv 3, iv (-1), iv (-2), iv 7, iv 100, iv 4294967296, iv (-4294967296), iv 5, iv 4] : List CV)[x.toNat]? = some (iv (numS x)) ∧ okP (vI (numS x)) := by
  rcases (show x = 0 ∨ x = 1 ∨ x = 2 ∨ x = 3 ∨ x = 4 ∨ x = 5 ∨ x = 6 ∨ x = 7 ∨ x = 8 ∨ x = 9 ∨ x = 10 ∨ x = 11 by omega) with e | e | e | e | e | e | e | e | e | e | e | e <;> subst e <;> exact ⟨rfl, okI _ (by decide) (by decide)⟩
/-- The first values of a tape, by what draws one. -/
def rowG (F : Int → Vl × Int) : Nat → Int → List Vl
  | 0, _ => []
  | i + 1, a => (F a).1 :: rowG F i (F a).2
def rowH (F : Int → Vl × Int) : Nat → Int → Int
  | 0, a => a
  | i + 1, a => rowH F i (F a).2
attribute [local irreducible] Still Adds AWL AW Drw DrwE EStep AC AWR Weak Frz Src RetK Out InK ItK AsK RdK RetT OutT ACT ACS RetS ACP RetP
set_option maxHeartbeats 8000000 in
theorem ttext_ok (l : List Int) (n : Nat) (a : Int) (hn : l.length = n) (hnn : n ≤ maxLen) (ha0 : 0 ≤ a) (ha : a ≤ 9223372036854775807) :
    ∃ (v : Vl) (a' : Int), okP v ∧ 0 ≤ a' ∧ a' ≤ 9223372036854775807 ∧ ACT Tryz.prog 67 72 (tpC l n a) [] (tpC l n a') (.agg v.c) := by
  have h0 := next_ok l n a 10 hn hnn ha0 ha (by decide)
  obtain ⟨b0, b0'⟩ := nextX_bd l n a 10 (by decide) (by decide)
  obtain ⟨p1, p2⟩ := nextA_bd n a 10 ha0 ha
  generalize nextX l n a 10 = x at *
  generalize nextA n a 10 = a1 at *
  obtain ⟨hw, ho⟩ := txtc x b0 b0'
  have h1 := rtext_ok (txtS x)
  rw [clV_ok ho] at h1
  refine ⟨⟨2, 0, txtS x⟩, a1, ho, p1, p2, ?_⟩
  clear ho
  generalize txtS x = t at hw h1 ⊢
  simp only [Vl.c] at *
  refine act_enter tabOk (sz := 9) Tryz.func67 rfl (by rw [Tryz.ntmps67]; rfl) ?_
  repeat' (first | ((with_reducible refine aw_seqk ?_); intro K hK hX) | ((with_reducible refine isC_reg ?_); refine aw_prune [0, 2] rfl rfl ?_; with_reducible refine aw_region ?_) | ((with_reducible refine isA_call ?_); refine awl_callT (h0) g_none rfl zby rfl rfl rfl rfl zcv rfl ztp ?_) | ((with_reducible refine isA_call ?_); (first | refine zA ?_ | refine zN ?_); (first | refine c0 (h1) ?_)) | (((with_reducible refine isA_any ?_); refine xA ?_); (first | ((with_reducible refine e_load ?_); (first | refine ex_i (s_load1 tabOk rfl rfl rfl rfl (by (rw [Nat.zero_add, Nat.mul_one]; exact hw))) ?_ | refine ex_i (s_load1r tabOk rfl rfl rfl rfl (by (rw [Nat.zero_add, Nat.mul_one]; exact hw))) ?_ | refine ex_i (s_load1i tabOk rfl rfl rfl (by (rw [Nat.zero_add, Nat.mul_one]; exact hw))) ?_)) | ((with_reducible refine e_ix ?_); (first | refine ex_i (s_ixV1 tabOk rfl rfl zcj rfl rfl rfl rfl rfl zle (by (rw [Nat.zero_add, Nat.mul_one]; exact hw))) ?_ | refine ex_i (s_ixStr tabOk rfl rfl zcj rfl rfl (by (rw [Nat.zero_add, Nat.mul_one]; exact hw))) ?_)))) | ((with_reducible refine isA_store ?_); refine awl_storeA tabOk g_none rfl rfl rfl zpt (by rfl) (by rfl) rfl (Nat.le_of_ble_eq_true rfl) (by rfl) ?_) | refine stA ?_ | (refine hK _ _ _ _ ?_; clear hK hX K) | (refine hX _ _ _ _ _ (by simp) ?_; clear hK hX K))
  refine retT_mk zio ztr rfl rfl (ResL.one zrs) (outT_c zfz rfl rfl)
set_option maxHeartbeats 8000000 in
theorem tint_ok (l : List Int) (n : Nat) (a : Int) (hn : l.length = n) (hnn : n ≤ maxLen) (ha0 : 0 ≤ a) (ha : a ≤ 9223372036854775807) :
    ∃ (v : Vl) (a' : Int), okP v ∧ 0 ≤ a' ∧ a' ≤ 9223372036854775807 ∧ ACT Tryz.prog 68 72 (tpC l n a) [] (tpC l n a') (.agg v.c) := by
  have h0 := next_ok l n a 12 hn hnn ha0 ha (by decide)
  obtain ⟨b0, b0'⟩ := nextX_bd l n a 12 (by decide) (by decide)
  obtain ⟨p1, p2⟩ := nextA_bd n a 12 ha0 ha
  generalize nextX l n a 12 = x at *
  generalize nextA n a 12 = a1 at *
  obtain ⟨hw, ho⟩ := numc x b0 b0'
  have h1 := rint_ok (numS x)
  unfold vI at ho
  rw [clV_ok (v := ⟨1, numS x, []⟩) ho] at h1
  refine ⟨⟨1, numS x, []⟩, a1, ho, p1, p2, ?_⟩
  clear ho
  generalize numS x = t at hw h1 ⊢
  simp only [Vl.c] at *
  refine act_enter tabOk (sz := 9) Tryz.func68 rfl (by rw [Tryz.ntmps68]; rfl) ?_
  repeat' (first | ((with_reducible refine aw_seqk ?_); intro K hK hX) | ((with_reducible refine isC_reg ?_); refine aw_prune [0, 2] rfl rfl ?_; with_reducible refine aw_region ?_) | ((with_reducible refine isA_call ?_); refine awl_callT (h0) g_none rfl zby rfl rfl rfl rfl zcv rfl ztp ?_) | ((with_reducible refine isA_call ?_); (first | refine zA ?_ | refine zN ?_); (first | refine c0 (h1) ?_)) | (((with_reducible refine isA_any ?_); refine xA ?_); (first | ((with_reducible refine e_load ?_); (first | refine ex_i (s_load1 tabOk rfl rfl rfl rfl (by (rw [Nat.zero_add, Nat.mul_one]; exact hw))) ?_ | refine ex_i (s_load1r tabOk rfl rfl rfl rfl (by (rw [Nat.zero_add, Nat.mul_one]; exact hw))) ?_ | refine ex_i (s_load1i tabOk rfl rfl rfl (by (rw [Nat.zero_add, Nat.mul_one]; exact hw))) ?_)) | ((with_reducible refine e_ix ?_); (first | refine ex_i (s_ixV1 tabOk rfl rfl zcj rfl rfl rfl rfl rfl zle (by (rw [Nat.zero_add, Nat.mul_one]; exact hw))) ?_ | refine ex_i (s_ixStr tabOk rfl rfl zcj rfl rfl (by (rw [Nat.zero_add, Nat.mul_one]; exact hw))) ?_)))) | ((with_reducible refine isA_store ?_); refine awl_storeA tabOk g_none rfl rfl rfl zpt (by rfl) (by rfl) rfl (Nat.le_of_ble_eq_true rfl) (by rfl) ?_) | refine stA ?_ | (refine hK _ _ _ _ ?_; clear hK hX K) | (refine hX _ _ _ _ _ (by simp) ?_; clear hK hX K))
  refine retT_mk zio ztr rfl rfl (ResL.one zrs) (outT_c zfz rfl rfl)
set_option maxHeartbeats 8000000 in
theorem tval_ok (l : List Int) (n : Nat) (a : Int) (hn : l.length = n) (hnn : n ≤ maxLen) (ha0 : 0 ≤ a) (ha : a ≤ 9223372036854775807) :
    ∃ (v : Vl) (a' : Int), okP v ∧ 0 ≤ a' ∧ a' ≤ 9223372036854775807 ∧ ACT Tryz.prog 26 72 (tpC l n a) [] (tpC l n a') (.agg v.c) := by
  have h0 := next_ok l n a 5 hn hnn ha0 ha (by decide)
  obtain ⟨b0, b0'⟩ := nextX_bd l n a 5 (by decide) (by decide)
  obtain ⟨p1, p2⟩ := nextA_bd n a 5 ha0 ha
  generalize nextX l n a 5 = x at *
  generalize nextA n a 5 = a1 at *
  by_cases x0 : x = 0
  · refine ⟨Vl.nul, a1, ok_nul, p1, p2, ?_⟩
    have h1 := True.intro
    simp only [Vl.c, Vl.nul]
    refine act_enter tabOk (sz := 15) Tryz.func26 rfl (by rw [Tryz.ntmps26]; rfl) ?_
    repeat' (first | ((with_reducible refine aw_seqk ?_); intro K hK hX) | ((with_reducible refine isC_reg ?_); refine aw_prune [0, 2, 4, 8] rfl rfl ?_; with_reducible refine aw_region ?_) | ((with_reducible refine isA_call ?_); refine awl_callT (h0) g_none rfl zby rfl rfl rfl rfl zcv rfl ztp ?_) | ((with_reducible refine isA_call ?_); refine awl_callT (h1) g_none rfl zby rfl rfl rfl rfl zcv rfl ztp ?_) | ((with_reducible refine isA_store ?_); refine awl_storeA tabOk g_none rfl rfl rfl zpt (by rfl) (by rfl) rfl (Nat.le_of_ble_eq_true rfl) (by rfl) ?_) | refine stA ?_ | (refine hK _ _ _ _ ?_; clear hK hX K) | (refine hX _ _ _ _ _ (by simp) ?_; clear hK hX K))
    refine retT_mk zio ztr rfl rfl (ResL.one zrs) (outT_c zfz rfl rfl)
  · by_cases x2 : x ≤ 2
    · obtain ⟨v, a2, ho, q1, q2, h1⟩ := ttext_ok l n a1 hn hnn p1 p2
      refine ⟨v, a2, ho, q1, q2, ?_⟩
      clear ho
      obtain ⟨k, m, t⟩ := v
      simp only [Vl.c] at *
      by_cases x1 : x = 1
      ·
        refine act_enter tabOk (sz := 15) Tryz.func26 rfl (by rw [Tryz.ntmps26]; rfl) ?_
        repeat' (first | ((with_reducible refine aw_seqk ?_); intro K hK hX) | ((with_reducible refine isC_reg ?_); refine aw_prune [0, 2, 4, 8] rfl rfl ?_; with_reducible refine aw_region ?_) | ((with_reducible refine isA_call ?_); refine awl_callT (h0) g_none rfl zby rfl rfl rfl rfl zcv rfl ztp ?_) | ((with_reducible refine isA_call ?_); refine awl_callT (h1) g_none rfl zby rfl rfl rfl rfl zcv rfl ztp ?_) | ((with_reducible refine isA_store ?_); refine awl_storeA tabOk g_none rfl rfl rfl zpt (by rfl) (by rfl) rfl (Nat.le_of_ble_eq_true rfl) (by rfl) ?_) | refine stA ?_ | (refine hK _ _ _ _ ?_; clear hK hX K) | (refine hX _ _ _ _ _ (by simp) ?_; clear hK hX K))
        refine retT_mk zio ztr rfl rfl (ResL.one zrs) (outT_c zfz rfl rfl)
      ·
        refine act_enter tabOk (sz := 15) Tryz.func26 rfl (by rw [Tryz.ntmps26]; rfl) ?_
        repeat' (first | ((with_reducible refine aw_seqk ?_); intro K hK hX) | ((with_reducible refine isC_reg ?_); refine aw_prune [0, 2, 4, 8] rfl rfl ?_; with_reducible refine aw_region ?_) | ((with_reducible refine isA_call ?_); refine awl_callT (h0) g_none rfl zby rfl rfl rfl rfl zcv rfl ztp ?_) | ((with_reducible refine isA_call ?_); refine awl_callT (h1) g_none rfl zby rfl rfl rfl rfl zcv rfl ztp ?_) | ((with_reducible refine isA_store ?_); refine awl_storeA tabOk g_none rfl rfl rfl zpt (by rfl) (by rfl) rfl (Nat.le_of_ble_eq_true rfl) (by rfl) ?_) | refine stA ?_ | (refine hK _ _ _ _ ?_; clear hK hX K) | (refine hX _ _ _ _ _ (by simp) ?_; clear hK hX K))
        refine retT_mk zio ztr rfl rfl (ResL.one zrs) (outT_c zfz rfl rfl)
    · obtain ⟨v, a2, ho, q1, q2, h1⟩ := tint_ok l n a1 hn hnn p1 p2
      refine ⟨v, a2, ho, q1, q2, ?_⟩
      clear ho
      obtain ⟨k, m, t⟩ := v
      simp only [Vl.c] at *
      refine act_enter tabOk (sz := 15) Tryz.func26 rfl (by rw [Tryz.ntmps26]; rfl) ?_
      repeat' (first | ((with_reducible refine aw_seqk ?_); intro K hK hX) | ((with_reducible refine isC_reg ?_); refine aw_prune [0, 2, 4, 8] rfl rfl ?_; with_reducible refine aw_region ?_) | ((with_reducible refine isA_call ?_); refine awl_callT (h0) g_none rfl zby rfl rfl rfl rfl zcv rfl ztp ?_) | ((with_reducible refine isA_call ?_); refine awl_callT (h1) g_none rfl zby rfl rfl rfl rfl zcv rfl ztp ?_) | ((with_reducible refine isA_store ?_); refine awl_storeA tabOk g_none rfl rfl rfl zpt (by rfl) (by rfl) rfl (Nat.le_of_ble_eq_true rfl) (by rfl) ?_) | refine stA ?_ | (refine hK _ _ _ _ ?_; clear hK hX K) | (refine hX _ _ _ _ _ (by simp) ?_; clear hK hX K))
      refine retT_mk zio ztr rfl rfl (ResL.one zrs) (outT_c zfz rfl rfl)
end Go.Proofs.YtccnhpaldmjkbaaGreat
