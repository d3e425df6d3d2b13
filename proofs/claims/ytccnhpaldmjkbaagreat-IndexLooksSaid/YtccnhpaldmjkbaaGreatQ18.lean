/-
  Joined texts: Z12. Lemmas; no statement of a law.
-/
import Derived.Test.YtccnhpaldmjkbaaGreatQ13
set_option maxHeartbeats 16000000
set_option linter.unusedSimpArgs false
set_option linter.unusedVariables false
namespace Go.Proofs.YtccnhpaldmjkbaaGreat
open Go Go.RowKit Go.Av
set_option maxRecDepth 100000
def txtS (x : Int) : List UInt8 := [[97], [98], [], [97, 98], [97, 32, 98], [120, 0, 121], [255, 34, 92], [98, 32, 97, 32, 98], [108, 111, 110, 103, 32, 116, 101, 120, 116, 32, 111, 102, 32, 116, 104, 105, 114, 116, 121, 45, 116, 119, 111, 32, 98, 121, 116, 101, 115, 32, 105, 116], [66]].getD x.toNat []
theorem txtc (x : Int) (h1 : 0 ≤ x) (h2 : x < 10) : ([sv [97], sv [98], sv [], sv [97, 98], sv [97, 32, 98], sv [120, 0, 121], sv [255, 34, 92], sv [98, 32, 97, 32, 98], sv [108, 111, 110, 103, 32, 116, 101, 120, 116, 32, 111, 102, 32, 116, 104, 105, 114, 116, 121, 45, 116, 119, 111, 32, 98, 121, 116, 101, 115, 32, 105, 116], sv [66]] : List CV)[x.toNat]? = some (sv (txtS x)) ∧ okP ⟨2, 0, txtS x⟩ := by
  rcases (show x = 0 ∨ x = 1 ∨ x = 2 ∨ x = 3 ∨ x = 4 ∨ x = 5 ∨ x = 6 ∨ x = 7 ∨ x = 8 ∨ x = 9 by omega) with e | e | e | e | e | e | e | e | e | e <;> subst e <;> exact ⟨rfl, .inr (.inr ⟨rfl, rfl, by decide⟩)⟩
def numS (x : Int) : Int := [0, 1, 2, 3, -1, -2, 7, 100, 4294967296, -4294967296, 5, 4].getD x.toNat 0
theorem numc (x : Int) (h1 : 0 ≤ x) (h2 : x < 12) : ([iv 0, iv 1, iv 2, iv 3, iv (-1), iv (-2), iv 7, iv 100, iv 4294967296, iv (-4294967296), iv 5, iv 4] : List CV)[x.toNat]? = some (iv (numS x)) ∧ okP (vI (numS x)) := by
  rcases (show x = 0 ∨ x = 1 ∨ x = 2 ∨ x = 3 ∨ x = 4 ∨ x = 5 ∨ x = 6 ∨ x = 7 ∨ x = 8 ∨ x = 9 ∨ x = 10 ∨ x = 11 by omega) with e | e | e | e | e | e | e | e | e | e | e | e <;> subst e <;> exact ⟨rfl, okI _ (by decide) (by decide)⟩
def rowG (F : Int → Vl × Int) : Nat → Int → List Vl
  | 0, _ => []
  | i + 1, a => (F a).1 :: rowG F i (F a).2
def rowH (F : Int → Vl × Int) : Nat → Int → Int
  | 0, a => a
  | i + 1, a => rowH F i (F a).2
theorem gV (F : Int → Vl × Int) : ∀ (i : Nat) (a : Int), (rowG F i a).length = i
  | 0, _ => rfl
  | i + 1, a => by rw [rowG, List.length_cons, gV]
attribute [local irreducible] Still Adds AWL AW Drw DrwE EStep AC AWR Weak Frz Src RetK Out InK ItK AsK RdK RetT OutT ACT ACS RetS ACP RetP
theorem ttext_ok (l : List Int) (n : Nat) (a : Int) (hn : l.length = n) (hnn : n ≤ maxLen) (ha0 : 0 ≤ a) (ha : a ≤ 9223372036854775807) :
    ∃ (v : Vl) (a' : Int), okP v ∧ 0 ≤ a' ∧ a' ≤ 9223372036854775807 ∧ ACT Tryz.prog 67 72 (tpC l n a) [] (tpC l n a') (.agg v.c) := by
  have h0 := dZ l n a 10 hn hnn ha0 ha (by decide)
  obtain ⟨b0, b0'⟩ := cX l n a 10 (by decide) (by decide)
  obtain ⟨p1, p2⟩ := cB n a 10 ha0 ha
  generalize nextX l n a 10 = x at *
  generalize nextA n a 10 = a1 at *
  obtain ⟨hw, ho⟩ := txtc x b0 b0'
  have h1 := mI (txtS x)
  rw [eZ ho] at h1
  refine ⟨⟨2, 0, txtS x⟩, a1, ho, p1, p2, ?_⟩
  clear ho
  generalize txtS x = t at hw h1 ⊢
  simp only [Vl.c] at *
  refine bX tabOk (sz := 9) Tryz.func67 rfl (by rw [Tryz.ntmps67]; rfl) ?_
  repeat' (first | ((with_reducible refine aB ?_); intro K hK hX) | ((with_reducible refine aC ?_); refine aD [0, 2] rfl rfl ?_) | ((with_reducible refine aE ?_); refine aX (h0) aL rfl zby rfl rfl rfl rfl zcv rfl ztp ?_) | ((with_reducible refine aE ?_); (first | refine zA ?_ | refine zN ?_); (first | refine c0 h1 ?_)) | (((with_reducible refine aH ?_); refine xA ?_); (first | ((with_reducible refine aP ?_); (first | refine aA (aR tabOk rfl rfl rfl rfl (by (rw [Nat.zero_add, Nat.mul_one]; exact hw))) ?_ | refine aA (aN tabOk rfl rfl rfl rfl (by (rw [Nat.zero_add, Nat.mul_one]; exact hw))) ?_ | refine aA (aM tabOk rfl rfl rfl (by (rw [Nat.zero_add, Nat.mul_one]; exact hw))) ?_)) | ((with_reducible refine bR ?_); (first | refine aA (s_ixV1 tabOk rfl rfl zcj rfl rfl rfl rfl rfl zle (by (rw [Nat.zero_add, Nat.mul_one]; exact hw))) ?_ | refine aA (aQ tabOk rfl rfl zcj rfl rfl (by (rw [Nat.zero_add, Nat.mul_one]; exact hw))) ?_)))) | ((with_reducible refine cS ?_); refine dO tabOk aL rfl rfl rfl zpt (by rfl) (by rfl) rfl (Nat.le_of_ble_eq_true rfl) (by rfl) ?_) | refine stA ?_ | ((first | refine hK _ _ _ _ ?_ | refine hX _ _ _ _ _ (by simp) ?_); clear hK hX K))
  refine cH zio ztr rfl rfl (ResL.one zrs) (cT zfz rfl rfl)
theorem tint_ok (l : List Int) (n : Nat) (a : Int) (hn : l.length = n) (hnn : n ≤ maxLen) (ha0 : 0 ≤ a) (ha : a ≤ 9223372036854775807) :
    ∃ (v : Vl) (a' : Int), okP v ∧ 0 ≤ a' ∧ a' ≤ 9223372036854775807 ∧ ACT Tryz.prog 68 72 (tpC l n a) [] (tpC l n a') (.agg v.c) := by
  have h0 := dZ l n a 12 hn hnn ha0 ha (by decide)
  obtain ⟨b0, b0'⟩ := cX l n a 12 (by decide) (by decide)
  obtain ⟨p1, p2⟩ := cB n a 12 ha0 ha
  generalize nextX l n a 12 = x at *
  generalize nextA n a 12 = a1 at *
  obtain ⟨hw, ho⟩ := numc x b0 b0'
  have h1 := oS (numS x)
  unfold vI at ho
  rw [eZ (v := ⟨1, numS x, []⟩) ho] at h1
  refine ⟨⟨1, numS x, []⟩, a1, ho, p1, p2, ?_⟩
  clear ho
  generalize numS x = t at hw h1 ⊢
  simp only [Vl.c] at *
  refine bX tabOk (sz := 9) Tryz.func68 rfl (by rw [Tryz.ntmps68]; rfl) ?_
  repeat' (first | ((with_reducible refine aB ?_); intro K hK hX) | ((with_reducible refine aC ?_); refine aD [0, 2] rfl rfl ?_) | ((with_reducible refine aE ?_); refine aX (h0) aL rfl zby rfl rfl rfl rfl zcv rfl ztp ?_) | ((with_reducible refine aE ?_); (first | refine zA ?_ | refine zN ?_); (first | refine c0 h1 ?_)) | (((with_reducible refine aH ?_); refine xA ?_); (first | ((with_reducible refine aP ?_); (first | refine aA (aR tabOk rfl rfl rfl rfl (by (rw [Nat.zero_add, Nat.mul_one]; exact hw))) ?_ | refine aA (aN tabOk rfl rfl rfl rfl (by (rw [Nat.zero_add, Nat.mul_one]; exact hw))) ?_ | refine aA (aM tabOk rfl rfl rfl (by (rw [Nat.zero_add, Nat.mul_one]; exact hw))) ?_)) | ((with_reducible refine bR ?_); (first | refine aA (s_ixV1 tabOk rfl rfl zcj rfl rfl rfl rfl rfl zle (by (rw [Nat.zero_add, Nat.mul_one]; exact hw))) ?_ | refine aA (aQ tabOk rfl rfl zcj rfl rfl (by (rw [Nat.zero_add, Nat.mul_one]; exact hw))) ?_)))) | ((with_reducible refine cS ?_); refine dO tabOk aL rfl rfl rfl zpt (by rfl) (by rfl) rfl (Nat.le_of_ble_eq_true rfl) (by rfl) ?_) | refine stA ?_ | ((first | refine hK _ _ _ _ ?_ | refine hX _ _ _ _ _ (by simp) ?_); clear hK hX K))
  refine cH zio ztr rfl rfl (ResL.one zrs) (cT zfz rfl rfl)
theorem tval_ok (l : List Int) (n : Nat) (a : Int) (hn : l.length = n) (hnn : n ≤ maxLen) (ha0 : 0 ≤ a) (ha : a ≤ 9223372036854775807) :
    ∃ (v : Vl) (a' : Int), okP v ∧ 0 ≤ a' ∧ a' ≤ 9223372036854775807 ∧ ACT Tryz.prog 26 72 (tpC l n a) [] (tpC l n a') (.agg v.c) := by
  have h0 := dZ l n a 5 hn hnn ha0 ha (by decide)
  obtain ⟨b0, b0'⟩ := cX l n a 5 (by decide) (by decide)
  obtain ⟨p1, p2⟩ := cB n a 5 ha0 ha
  generalize nextX l n a 5 = x at *
  generalize nextA n a 5 = a1 at *
  by_cases x0 : x = 0
  · refine ⟨Vl.nul, a1, tO, p1, p2, ?_⟩
    have h1 := True.intro
    simp only [Vl.c, Vl.nul]
    refine bX tabOk (sz := 15) Tryz.func26 rfl (by rw [Tryz.ntmps26]; rfl) ?_
    repeat' (first | ((with_reducible refine aB ?_); intro K hK hX) | ((with_reducible refine aC ?_); refine aD [0, 2, 4, 8] rfl rfl ?_) | ((with_reducible refine aE ?_); refine aX (h0) aL rfl zby rfl rfl rfl rfl zcv rfl ztp ?_) | ((with_reducible refine aE ?_); refine aX (h1) aL rfl zby rfl rfl rfl rfl zcv rfl ztp ?_) | ((with_reducible refine cS ?_); refine dO tabOk aL rfl rfl rfl zpt (by rfl) (by rfl) rfl (Nat.le_of_ble_eq_true rfl) (by rfl) ?_) | refine stA ?_ | ((first | refine hK _ _ _ _ ?_ | refine hX _ _ _ _ _ (by simp) ?_); clear hK hX K))
    refine cH zio ztr rfl rfl (ResL.one zrs) (cT zfz rfl rfl)
  · by_cases x2 : x ≤ 2
    · obtain ⟨v, a2, ho, q1, q2, h1⟩ := ttext_ok l n a1 hn hnn p1 p2
      refine ⟨v, a2, ho, q1, q2, ?_⟩
      clear ho
      obtain ⟨k, m, t⟩ := v
      simp only [Vl.c] at *
      by_cases x1 : x = 1
      ·
        refine bX tabOk (sz := 15) Tryz.func26 rfl (by rw [Tryz.ntmps26]; rfl) ?_
        repeat' (first | ((with_reducible refine aB ?_); intro K hK hX) | ((with_reducible refine aC ?_); refine aD [0, 2, 4, 8] rfl rfl ?_) | ((with_reducible refine aE ?_); refine aX (h0) aL rfl zby rfl rfl rfl rfl zcv rfl ztp ?_) | ((with_reducible refine aE ?_); refine aX (h1) aL rfl zby rfl rfl rfl rfl zcv rfl ztp ?_) | ((with_reducible refine cS ?_); refine dO tabOk aL rfl rfl rfl zpt (by rfl) (by rfl) rfl (Nat.le_of_ble_eq_true rfl) (by rfl) ?_) | refine stA ?_ | ((first | refine hK _ _ _ _ ?_ | refine hX _ _ _ _ _ (by simp) ?_); clear hK hX K))
        refine cH zio ztr rfl rfl (ResL.one zrs) (cT zfz rfl rfl)
      ·
        refine bX tabOk (sz := 15) Tryz.func26 rfl (by rw [Tryz.ntmps26]; rfl) ?_
        repeat' (first | ((with_reducible refine aB ?_); intro K hK hX) | ((with_reducible refine aC ?_); refine aD [0, 2, 4, 8] rfl rfl ?_) | ((with_reducible refine aE ?_); refine aX (h0) aL rfl zby rfl rfl rfl rfl zcv rfl ztp ?_) | ((with_reducible refine aE ?_); refine aX (h1) aL rfl zby rfl rfl rfl rfl zcv rfl ztp ?_) | ((with_reducible refine cS ?_); refine dO tabOk aL rfl rfl rfl zpt (by rfl) (by rfl) rfl (Nat.le_of_ble_eq_true rfl) (by rfl) ?_) | refine stA ?_ | ((first | refine hK _ _ _ _ ?_ | refine hX _ _ _ _ _ (by simp) ?_); clear hK hX K))
        refine cH zio ztr rfl rfl (ResL.one zrs) (cT zfz rfl rfl)
    · obtain ⟨v, a2, ho, q1, q2, h1⟩ := tint_ok l n a1 hn hnn p1 p2
      refine ⟨v, a2, ho, q1, q2, ?_⟩
      clear ho
      obtain ⟨k, m, t⟩ := v
      simp only [Vl.c] at *
      refine bX tabOk (sz := 15) Tryz.func26 rfl (by rw [Tryz.ntmps26]; rfl) ?_
      repeat' (first | ((with_reducible refine aB ?_); intro K hK hX) | ((with_reducible refine aC ?_); refine aD [0, 2, 4, 8] rfl rfl ?_) | ((with_reducible refine aE ?_); refine aX (h0) aL rfl zby rfl rfl rfl rfl zcv rfl ztp ?_) | ((with_reducible refine aE ?_); refine aX (h1) aL rfl zby rfl rfl rfl rfl zcv rfl ztp ?_) | ((with_reducible refine cS ?_); refine dO tabOk aL rfl rfl rfl zpt (by rfl) (by rfl) rfl (Nat.le_of_ble_eq_true rfl) (by rfl) ?_) | refine stA ?_ | ((first | refine hK _ _ _ _ ?_ | refine hX _ _ _ _ _ (by simp) ?_); clear hK hX K))
      refine cH zio ztr rfl rfl (ResL.one zrs) (cT zfz rfl rfl)
theorem wJ (D : List Vl) (v : Vl) : rc D ++ v.c = rc (D ++ [v]) := by simp [rc]
theorem trow_ok (l : List Int) (n : Nat) (a m1 m : Int) (hn : l.length = n) (hnn : n ≤ maxLen) (ha0 : 0 ≤ a) (ha : a ≤ 9223372036854775807) (hm : 2 ≤ m) (hm2 : m ≤ 20) (hmi : m1 + 1 = m) :
    ∃ (r : List Vl) (N : Nat) (a' : Int), r.length = N ∧ (N : Int) < m ∧ 0 ≤ a' ∧ a' ≤ 9223372036854775807 ∧ ACT Tryz.prog 50 72 (tpC l n a) [iv m1] (tpC l n a') (.sl 3 N (rc r)) := by
  have hF0 : ∀ a : Int, ∃ p : Vl × Int, 0 ≤ a → a ≤ 9223372036854775807 → 0 ≤ p.2 ∧ p.2 ≤ 9223372036854775807 ∧ ACT Tryz.prog 26 72 (tpC l n a) [] (tpC l n p.2) (.agg p.1.c) := fun a => by
    by_cases h1 : 0 ≤ a
    · by_cases h2 : a ≤ 9223372036854775807
      · obtain ⟨v, a', _, q1, q2, h⟩ := tval_ok l n a hn hnn h1 h2
        exact ⟨(v, a'), fun _ _ => ⟨q1, q2, h⟩⟩
      · exact ⟨(Vl.nul, 0), fun _ h => absurd h h2⟩
    · exact ⟨(Vl.nul, 0), fun h => absurd h h1⟩
  obtain ⟨F, hF⟩ := Classical.axiomOfChoice hF0
  clear hF0
  have hB : ∀ (i : Nat) (a : Int), 0 ≤ a → a ≤ 9223372036854775807 → 0 ≤ rowH F i a ∧ rowH F i a ≤ 9223372036854775807 := by
    intro i
    induction i with
    | zero => exact fun a h1 h2 => ⟨h1, h2⟩
    | succ i ih => exact fun a h1 h2 => ih _ (hF a h1 h2).1 (hF a h1 h2).2.1
  have hx0 := dZ l n a m hn hnn ha0 ha (by omega)
  obtain ⟨b1, b2⟩ := cX l n a m hm (by omega)
  obtain ⟨b3, b4⟩ := cB n a m ha0 ha
  generalize nextX l n a m = x at *
  generalize nextA n a m = a0 at *
  obtain ⟨Q, rfl⟩ : ∃ Q : Nat, x = Q := ⟨x.toNat, by omega⟩
  obtain ⟨c1, c2⟩ := hB Q a0 b3 b4
  refine ⟨rowG F Q a0, Q, rowH F Q a0, gV .., b2, c1, c2, ?_⟩
  obtain ⟨Z, hZ⟩ : ∃ Z, rowG F Q a0 = Z := ⟨_, rfl⟩
  obtain ⟨A', hA⟩ : ∃ A', rowH F Q a0 = A' := ⟨_, rfl⟩
  have hZl : Z.length = Q := by rw [← hZ, gV]
  rw [hZ, hA]
  rw [← hmi] at hx0
  clear hB c1 c2 b1
  refine bX tabOk (sz := 21) Tryz.func50 rfl (by rw [Tryz.ntmps50]; rfl) ?_
  repeat' (first | ((with_reducible refine aB ?_); intro K hK hX) | ((with_reducible refine aC ?_); refine aD [0, 1, 4, 5, 6] rfl rfl ?_) | ((with_reducible refine aE ?_); refine aX (hx0) aL rfl zby rfl rfl rfl rfl zcv rfl ztp ?_) | (((with_reducible refine aH ?_); refine xA ?_); (first | ((with_reducible refine aU ?_); (first | refine aA (bT rfl rfl rfl (by rw [hmi]; exact w64 (by omega) (by omega))) ?_)))) | refine stA ?_ | ((first | refine hK _ _ _ _ ?_ | refine hX _ _ _ _ _ (by simp) ?_); clear hK hX K))
  refine dK 5 51 3 rfl ?_
  refine bC [5, 6, 7, 8, 9, 10] [0, 1] rfl rfl (fun p : Nat × Int × List Vl × Nat => [(5, .own 1 0 p.2.2.2 3 true), (6, .c (iv p.1))]) (fun p => [(0, .blk 72 [.c (.sl 1 n (intc .i64 l)), .c (iv p.2.1)]), (1, .row 51 (rc p.2.2.1))]) (fun p => p.2.2.1.length = p.2.2.2 ∧ 0 ≤ p.2.1 ∧ p.2.1 ≤ 9223372036854775807 ∧ p.2.2.1 ++ rowG F p.1 p.2.1 = Z ∧ rowH F p.1 p.2.1 = A') (fun p => p.1) (Q, a0, [], 0) ⟨rfl, b3, b4, hZ, hA⟩ weakA ?_
  rintro ⟨i, a1, o, q⟩ ⟨hq, i1, i2, hst, hse⟩ K hK hX
  dsimp only at hq i1 i2 hst hse ⊢
  have hlo : (rc o).length = q * 3 := by rw [dT, hq]
  have hqi : q + i = Q := by rw [← hZl, ← hst, List.length_append, gV, hq]
  cases i with
  | succ i =>
    rw [rowG] at hst
    rw [rowH] at hse
    obtain ⟨p1, p2, h1⟩ := hF a1 i1 i2
    generalize F a1 = p at *
    obtain ⟨v, a2⟩ := p
    dsimp only at *
    have hst' : (o ++ [v]) ++ rowG F i a2 = Z := by rw [← hst, List.append_assoc]; rfl
    clear hF hx0 hZ hA hst
    obtain ⟨k1, m1', t1⟩ := v
    simp only [Vl.c] at h1
    repeat' (first | ((with_reducible refine aB ?_); intro K hK hX) | ((with_reducible refine aC ?_); refine aD [0, 1, 4, 5, 6] rfl rfl ?_) | ((with_reducible refine aE ?_); refine aX (h1) aL rfl zby rfl rfl rfl rfl zcv rfl ztp ?_) | refine stA ?_ | ((first | refine hK _ _ _ _ ?_ | refine hX _ _ _ _ _ (by simp) ?_); clear hK hX K))
    exact ⟨(i, a2, o ++ [⟨k1, m1', t1⟩], q + 1), ⟨by rw [List.length_append, hq]; rfl, p1, p2, hst', hse⟩, by simp only; omega, (by refine bS [0, 3] rfl rfl ?_ ?_ rfl rfl <;> (repeat' (first | exact bI | exact bJ | refine bF rfl (by first | rfl | (exact congrArg (AObj.row 51) (wJ o ⟨k1, m1', t1⟩)) | exact zeq) rfl ?_ | refine bB rfl (by first | rfl | (exact congrArg (AObj.row 51) (wJ o ⟨k1, m1', t1⟩)) | exact zeq) rfl ?_)))⟩
  | zero =>
    rw [rowG, List.append_nil] at hst
    rw [rowH] at hse
    rw [hst] at hlo ⊢
    rw [hse]
    have hqQ : q = Q := by omega
    rw [hqQ] at hlo ⊢
    clear hF hx0 hZ hA hst hse
    repeat' (first | ((with_reducible refine aB ?_); intro K hK hX) | ((with_reducible refine aC ?_); refine aD [0, 1, 4, 5, 6] rfl rfl ?_) | refine stA ?_ | ((first | refine hK _ _ _ _ ?_ | refine hX _ _ _ _ _ (by simp) ?_); clear hK hX K))
    refine cH zio ztr rfl rfl (ResL.one (ResA.tmp rfl)) (cT zfz rfl rfl)
end Go.Proofs.YtccnhpaldmjkbaaGreat
