/-
  Joined texts: T14 IR. Lemmas; no statement of a law.
-/
import Derived.Test.YtccnhpaldmjkbaaGreatQ11
import Derived.Test.YtccnhpaldmjkbaaGreatQ12
import Derived.Test.YtccnhpaldmjkbaaGreatQ25
import Derived.Test.YtccnhpaldmjkbaaGreatQ26
set_option maxHeartbeats 16000000
set_option linter.unusedSimpArgs false
set_option linter.unusedVariables false
namespace Go.Proofs.YtccnhpaldmjkbaaGreat
open Go Go.RowKit Go.Av
set_option maxRecDepth 100000
def txtL : List (List UInt8) := [[111, 108, 100, 32, 115, 116, 114, 101, 101, 116], [79, 108, 100, 45, 83, 116, 114, 101, 101, 116, 32, 53], [97, 32, 98, 32, 97], [], [45, 45], [66, 32, 53], [122, 255, 32, 97], [53], [115, 116, 114, 101, 101, 116], [97]]
def txtV (x : Int) : Vl := ⟨2, 0, txtL.getD x.toNat []⟩
theorem txtV_ok (x : Int) : okP (txtV x) := by
  refine .inr (.inr ⟨rfl, rfl, ?_⟩)
  unfold txtV
  simp only
  rw [List.getD_eq_getElem?_getD]
  cases h : txtL[x.toNat]? with
  | none => simp
  | some t =>
    have : t ∈ txtL := List.mem_of_getElem? h
    have hall : ∀ t ∈ txtL, t.length ≤ 32 := by decide
    exact hall t this
theorem txc (x : Int) (h1 : 0 ≤ x) (h2 : x < 10) : (txtL.map fun t => sv t)[x.toNat]? = some (sv (txtV x).t) := by
  rcases (show x = 0 ∨ x = 1 ∨ x = 2 ∨ x = 3 ∨ x = 4 ∨ x = 5 ∨ x = 6 ∨ x = 7 ∨ x = 8 ∨ x = 9 by omega) with e | e | e | e | e | e | e | e | e | e <;> subst e <;> rfl
def txV1 (l : List Int) (n : Nat) (a : Int) : Vl × Int := if nextX l n (nextA n a 10) 8 = 0 then (shortV (nextX l n (nextA n (nextA n a 10) 8) 6), nextA n (nextA n (nextA n a 10) 8) 6) else (txtV (nextX l n a 10), nextA n (nextA n a 10) 8)
def txE (l : List Int) (n : Nat) (a : Int) : En × Int := (⟨[(txV1 l n a).1, shortV (nextX l n (txV1 l n a).2 6)], 1 + nextX l n (nextA n (txV1 l n a).2 6) 3⟩, nextA n (nextA n (txV1 l n a).2 6) 3)
def txsF (l : List Int) (n : Nat) : Nat → Int → List En
  | 0, _ => []
  | i + 1, a => (txE l n a).1 :: txsF l n i (txE l n a).2
def txsA (l : List Int) (n : Nat) : Nat → Int → Int
  | 0, a => a
  | i + 1, a => txsA l n i (txE l n a).2
def txRaw (l : List Int) (n : Nat) (a m : Int) : List En := txsF l n (nextX l n a m).toNat (nextA n a m)
def txB (l : List Int) (n : Nat) (a m : Int) : List En := sortE (txRaw l n a m)
def txA (l : List Int) (n : Nat) (a m : Int) : Int := txsA l n (nextX l n a m).toNat (nextA n a m)
theorem txV1_bd (l : List Int) (n : Nat) (a : Int) (ha : 0 ≤ a) (ha2 : a ≤ 9223372036854775807) : okP (txV1 l n a).1 ∧ 0 ≤ (txV1 l n a).2 ∧ (txV1 l n a).2 ≤ 9223372036854775807 := by
  obtain ⟨h1, h2⟩ := cB n a 10 ha ha2
  obtain ⟨h3, h4⟩ := cB n _ 8 h1 h2
  unfold txV1
  split
  · exact ⟨sO _, cB n _ 6 h3 h4⟩
  · exact ⟨txtV_ok _, h3, h4⟩
theorem txE_bd (l : List Int) (n : Nat) (a : Int) (ha : 0 ≤ a) (ha2 : a ≤ 9223372036854775807) : (rowP (txE l n a).1.r ∧ (txE l n a).1.r.length = 2 ∧ 1 ≤ (txE l n a).1.n ∧ (txE l n a).1.n ≤ 3) ∧ 0 ≤ (txE l n a).2 ∧ (txE l n a).2 ≤ 9223372036854775807 := by
  obtain ⟨h0, h1, h2⟩ := txV1_bd l n a ha ha2
  obtain ⟨h3, h4⟩ := cB n _ 6 h1 h2
  obtain ⟨h5, h6⟩ := cX l n (nextA n (txV1 l n a).2 6) 3 (by decide) (by decide)
  refine ⟨⟨⟨by simp [txE], fun v hv => ?_⟩, rfl, by unfold txE; simp only; omega, by unfold txE; simp only; omega⟩, cB n _ 3 h3 h4⟩
  simp only [txE, List.mem_cons, List.not_mem_nil, or_false] at hv
  rcases hv with rfl | rfl
  · exact h0
  · exact sO _
theorem gW (l : List Int) (n : Nat) : ∀ (i : Nat) (a : Int), (txsF l n i a).length = i
  | 0, _ => rfl
  | i + 1, a => by rw [txsF, List.length_cons, gW]
theorem xO (l : List Int) (n : Nat) : ∀ (i : Nat) (a : Int), 0 ≤ a → a ≤ 9223372036854775807 → ∀ e ∈ txsF l n i a, rowP e.r ∧ e.r.length = 2 ∧ 1 ≤ e.n ∧ e.n ≤ 3
  | 0, _, _, _, e, he => by cases he
  | i + 1, a, h1, h2, e, he => by
    obtain ⟨k1, k2, k3⟩ := txE_bd l n a h1 h2
    rw [txsF] at he
    rcases List.mem_cons.1 he with rfl | he
    · exact k1
    · exact xO l n i _ k2 k3 e he
theorem txsA_bd (l : List Int) (n : Nat) : ∀ (i : Nat) (a : Int), 0 ≤ a → a ≤ 9223372036854775807 → 0 ≤ txsA l n i a ∧ txsA l n i a ≤ 9223372036854775807
  | 0, a, h1, h2 => ⟨h1, h2⟩
  | i + 1, a, h1, h2 => by
    obtain ⟨_, k2, k3⟩ := txE_bd l n a h1 h2
    exact txsA_bd l n i _ k2 k3
theorem txA_bd (l : List Int) (n : Nat) (a m : Int) (ha : 0 ≤ a) (ha2 : a ≤ 9223372036854775807) : 0 ≤ txA l n a m ∧ txA l n a m ≤ 9223372036854775807 := by
  obtain ⟨h1, h2⟩ := cB n a m ha ha2
  exact txsA_bd l n _ _ h1 h2
theorem oE (l : List Int) (n : Nat) (a m : Int) (ha : 0 ≤ a) (ha2 : a ≤ 9223372036854775807) (hm : 2 ≤ m) (hm2 : m ≤ 4294967296) : ((txRaw l n a m).length : Int) < m ∧ ∀ e ∈ txRaw l n a m, rowP e.r ∧ e.r.length = 2 ∧ 1 ≤ e.n ∧ e.n ≤ 3 := by
  obtain ⟨h1, h2⟩ := cX l n a m hm hm2
  obtain ⟨h3, h4⟩ := cB n a m ha ha2
  unfold txRaw
  exact ⟨by rw [gW]; omega, xO l n _ _ h3 h4⟩
theorem txB_F (l : List Int) (n : Nat) (a m : Int) (ha : 0 ≤ a) (ha2 : a ≤ 9223372036854775807) (hm : 2 ≤ m) (hm2 : m ≤ 20) : BagF (3 * (m - 1).toNat) (txB l n a m) ∧ (∀ e ∈ txB l n a m, e.r.length = 2) ∧ (txB l n a m).length ≤ (m - 1).toNat := by
  obtain ⟨h1, h3⟩ := oE l n a m ha ha2 hm (by omega)
  have h4 : absS (txRaw l n a m) ≤ 3 * (txRaw l n a m).length := absS_le (D := 3) fun e he => by obtain ⟨_, _, q1, q2⟩ := h3 e he; omega
  have h5 := fZ (txRaw l n a m).length _ (Nat.le_refl _)
  refine ⟨BagF.sort (fun e he => by have := (h3 e he).2.2.1; omega) (fun e he => (h3 e he).1) (by omega), fun e he => h5.2.2 (fun r => r.length = 2) (fun e he => (h3 e he).2.1) e he, ?_⟩
  have := h5.1
  unfold txB
  omega
attribute [local irreducible] Still Adds AWL AW Drw DrwE EStep AC AWR Weak Frz Src RetK Out InK ItK AsK RdK RetT OutT ACT
theorem ttxb_ok (l : List Int) (n : Nat) (a m1 m : Int) (N : Nat) (hn : l.length = n) (hnn : n ≤ maxLen) (ha0 : 0 ≤ a) (ha : a ≤ 9223372036854775807) (hm : 2 ≤ m) (hm2 : m ≤ 20) (hmi : m1 + 1 = m) (hN : (txB l n a m).length = N) :
    ACT Tryz.prog 10 72 (tpC l n a) [iv m1] (tpC l n (txA l n a m)) (.sl 2 N (ec (txB l n a m))) := by
  obtain ⟨hr1, hr2⟩ := oE l n a m ha0 ha hm (by omega)
  have hx0 := dZ l n a m hn hnn ha0 ha (by omega)
  obtain ⟨b1, b2⟩ := cX l n a m hm (by omega)
  obtain ⟨b3, b4⟩ := cB n a m ha0 ha
  unfold txB txA at *
  obtain ⟨Q, hQ⟩ : ∃ Q, (txRaw l n a m).length = Q := ⟨_, rfl⟩
  have hQ2 : (nextX l n a m).toNat = Q := by rw [← hQ, txRaw, gW]
  have hQ3 : nextX l n a m = (Q : Int) := by omega
  have hnm := norm_ok (txRaw l n a m) Q N hQ (by omega) (fun e he => (hr2 e he).1)
    (by have := absS_le (l := txRaw l n a m) (D := 3) fun e he => by obtain ⟨_, _, q1, q2⟩ := hr2 e he; omega
        omega) hN
  rw [hQ3] at hx0
  rw [hQ2]
  have hZ : txRaw l n a m = txsF l n Q (nextA n a m) := by rw [← hQ2]; rfl
  generalize txRaw l n a m = Z at *
  generalize nextA n a m = a0 at *
  obtain ⟨A', hA⟩ : ∃ A', txsA l n Q a0 = A' := ⟨_, rfl⟩
  rw [hA]
  generalize hS : sortE Z = S at hnm hN ⊢
  have hQ20 : Q ≤ 20 := by omega
  rw [← hmi] at hx0
  clear hr1 hr2 hQ2 hQ3 b1 b2 hS hN
  refine bX tabOk (sz := 46) Tryz.func10 rfl (by rw [Tryz.ntmps10]; rfl) ?_
  repeat' (first | ((with_reducible refine aB ?_); intro K hK hX) | ((with_reducible refine aC ?_); refine aD [0, 1, 4, 5, 6, 7, 8] rfl rfl ?_) | ((with_reducible refine aF ?_); refine aG [0, 1, 4, 5, 6, 7, 8] rfl rfl ?_; refine aI [] ?_) | ((with_reducible refine aE ?_); refine aX (hx0) aL rfl zby rfl rfl rfl rfl zcv rfl ztp ?_) | ((first | ((with_reducible refine aH ?_); refine xA ?_) | ((with_reducible refine aO ?_); refine xD ?_)); (first | ((with_reducible refine aU ?_); (first | refine aA (bT rfl rfl rfl (by rw [hmi]; exact w64 (by omega) (by omega))) ?_)))) | refine stA ?_ | refine stD ?_ | ((first | refine hK _ _ _ _ ?_ | refine hX _ _ _ _ _ (by simp) ?_); clear hK hX K))
  refine dK 5 68 2 rfl ?_
  refine bC [5, 6, 10, 11, 12, 13] [0, 1] rfl rfl (fun p : Nat × Int × List En × Nat => [(5, .own 1 0 p.2.2.2 2 true), (6, .c (iv p.1))]) (fun p => [(0, .blk 72 [.c (.sl 1 n (intc .i64 l)), .c (iv p.2.1)]), (1, .row 68 (ec p.2.2.1))]) (fun p => p.2.2.1.length = p.2.2.2 ∧ 0 ≤ p.2.1 ∧ p.2.1 ≤ 9223372036854775807 ∧ p.2.2.1 ++ txsF l n p.1 p.2.1 = Z ∧ txsA l n p.1 p.2.1 = A') (fun p => p.1) (Q, a0, [], 0) ⟨rfl, b3, b4, by rw [hZ]; rfl, hA⟩ weakA ?_
  rintro ⟨i, a1, o, q⟩ ⟨hq, i1, i2, hst, hse⟩ K hK hX
  dsimp only at hq i1 i2 hst hse ⊢
  have hlo : (ec o).length = q * 2 := by rw [bH, hq]
  have hqi : q + i = Q := by rw [← hQ, ← hst, List.length_append, gW, hq]
  cases i with
  | succ i =>
    rw [txsF] at hst
    rw [txsA] at hse
    have h1 := dZ l n a1 10 hn hnn i1 i2 (by decide)
    obtain ⟨x1, x2⟩ := cX l n a1 10 (by decide) (by decide)
    obtain ⟨p1, p2⟩ := cB n a1 10 i1 i2
    have h2 := dZ l n (nextA n a1 10) 8 hn hnn p1 p2 (by decide)
    obtain ⟨y1, y2⟩ := cX l n (nextA n a1 10) 8 (by decide) (by decide)
    obtain ⟨p3, p4⟩ := cB n (nextA n a1 10) 8 p1 p2
    have hcx := txc (nextX l n a1 10) x1 x2
    simp only [txtL, List.map_cons, List.map_nil] at hcx
    by_cases hy : nextX l n (nextA n a1 10) 8 = 0
    · have h3 := qT l n (nextA n (nextA n a1 10) 8) hn hnn p3 p4
      obtain ⟨p5, p6⟩ := cB n (nextA n (nextA n a1 10) 8) 6 p3 p4
      have e0 : txV1 l n a1 = (shortV (nextX l n (nextA n (nextA n a1 10) 8) 6), nextA n (nextA n (nextA n a1 10) 8) 6) := by unfold txV1; rw [if_pos hy]
      have e1 : txE l n a1 = (⟨[shortV (nextX l n (nextA n (nextA n a1 10) 8) 6), shortV (nextX l n (nextA n (nextA n (nextA n a1 10) 8) 6) 6)], 1 + nextX l n (nextA n (nextA n (nextA n (nextA n a1 10) 8) 6) 6) 3⟩, nextA n (nextA n (nextA n (nextA n (nextA n a1 10) 8) 6) 6) 3) := by unfold txE; rw [e0]
      rw [e1] at hst hse
      clear e0 e1
      rw [hy] at h2
      generalize nextX l n a1 10 = x at *
      generalize (txtV x).t = tx at hcx
      generalize shortV (nextX l n (nextA n (nextA n a1 10) 8) 6) = v1 at *
      generalize nextA n (nextA n (nextA n a1 10) 8) 6 = a4 at *
      generalize nextA n (nextA n a1 10) 8 = a3 at *
      generalize nextA n a1 10 = a2 at *
      have h4 := qT l n a4 hn hnn p5 p6
      obtain ⟨p7, p8⟩ := cB n a4 6 p5 p6
      generalize shortV (nextX l n a4 6) = v2 at *
      generalize nextA n a4 6 = a5 at *
      have h5 := dZ l n a5 3 hn hnn p7 p8 (by decide)
      obtain ⟨z1, z2⟩ := cX l n a5 3 (by decide) (by decide)
      obtain ⟨p9, p10⟩ := cB n a5 3 p7 p8
      generalize nextX l n a5 3 = z at *
      generalize nextA n a5 3 = a6 at *
      have hst' := jC hst
      clear hx0 hnm hZ hA hst hy
      obtain ⟨k1, m1', t1⟩ := v1
      obtain ⟨k2, m2', t2⟩ := v2
      simp only [Vl.c] at h3 h4
      repeat' (first | ((with_reducible refine aB ?_); intro K hK hX) | ((with_reducible refine aC ?_); refine aD [0, 1, 4, 5, 6, 7, 8] rfl rfl ?_) | ((with_reducible refine jV ?_); refine jN aL (kD rfl) ?_) | ((with_reducible refine aF (i := 8) ?_); refine aG [0, 1, 4, 5, 6, 7, 8] rfl rfl ?_; refine cJ [] ?_) | ((with_reducible refine aF ?_); refine aG [0, 1, 4, 5, 6, 7, 8] rfl rfl ?_; refine aI [] ?_) | ((first | with_reducible refine cK ?_ | with_reducible refine dQ ?_ | with_reducible refine iY ?_); (first | refine wA ?_ | refine wD ?_ | refine wE ?_); (first | refine eL (bK (cM tabOk rfl rfl rfl rfl rfl) zln) ?_ | refine eL (bK (cU tabOk rfl rfl rfl rfl rfl rfl rfl rfl rfl rfl rfl rfl (cI rfl) (by first | rfl | exact all1 (by assumption) | (simp <;> fail) | fail) (by rfl)) zln) ?_)) | ((with_reducible refine aE ?_); refine aX (h1) aL rfl zby rfl rfl rfl rfl zcv rfl ztp ?_) | ((with_reducible refine bW ?_); refine eC (h1) aL rfl rfl zby rfl rfl rfl rfl zcv rfl ztp rfl ?_) | ((with_reducible refine aE ?_); refine aX (h2) aL rfl zby rfl rfl rfl rfl zcv rfl ztp ?_) | ((with_reducible refine bW ?_); refine eC (h2) aL rfl rfl zby rfl rfl rfl rfl zcv rfl ztp rfl ?_) | ((with_reducible refine aE ?_); refine aX (h3) aL rfl zby rfl rfl rfl rfl zcv rfl ztp ?_) | ((with_reducible refine bW ?_); refine eC (h3) aL rfl rfl zby rfl rfl rfl rfl zcv rfl ztp rfl ?_) | ((with_reducible refine aE ?_); refine aX (h4) aL rfl zby rfl rfl rfl rfl zcv rfl ztp ?_) | ((with_reducible refine bW ?_); refine eC (h4) aL rfl rfl zby rfl rfl rfl rfl zcv rfl ztp rfl ?_) | ((with_reducible refine aE ?_); refine aX (h5) aL rfl zby rfl rfl rfl rfl zcv rfl ztp ?_) | ((with_reducible refine bW ?_); refine eC (h5) aL rfl rfl zby rfl rfl rfl rfl zcv rfl ztp rfl ?_) | ((first | ((with_reducible refine aH ?_); refine xA ?_) | ((with_reducible refine aO ?_); refine xD ?_) | ((with_reducible refine cN ?_); refine xE ?_)); (first | ((with_reducible refine aP ?_); (first | refine aA (aR tabOk rfl rfl rfl rfl (by (rw [Nat.mul_one]; exact hcx))) ?_ | refine aA (aN tabOk rfl rfl rfl rfl (by (rw [Nat.mul_one]; exact hcx))) ?_ | refine aA (aM tabOk rfl rfl rfl (by (rw [Nat.mul_one]; exact hcx))) ?_)) | ((with_reducible refine bR ?_); (first | refine aA (s_ixV1 tabOk rfl rfl zcj rfl rfl rfl rfl rfl zle (by (rw [Nat.mul_one]; exact hcx))) ?_ | refine aA (aQ tabOk rfl rfl zcj rfl rfl (by (rw [Nat.mul_one]; exact hcx))) ?_)))) | (refine iE (by kernel_rfl) (by kernel_rfl) (by kernel_rfl) (by kernel_rfl) rfl ?_) | refine stA ?_ | refine stD ?_ | refine stE ?_ | ((first | refine hK _ _ _ _ ?_ | refine hX _ _ _ _ _ (by simp) ?_); clear hK hX K))
      exact ⟨(i, a6, o ++ [⟨[⟨k1, m1', t1⟩, ⟨k2, m2', t2⟩], 1 + z⟩], q + 1), ⟨by rw [List.length_append, hq]; rfl, p9, p10, hst', hse⟩, by simp only; omega, (by refine bS [0, 3] rfl rfl ?_ ?_ rfl rfl <;> (repeat' (first | exact bI | exact bJ | refine bF rfl (by first | rfl | (exact congrArg (AObj.row 68) (eD o ⟨[⟨k1, m1', t1⟩, ⟨k2, m2', t2⟩], 1 + z⟩)) | exact zeq) rfl ?_ | refine bB rfl (by first | rfl | (exact congrArg (AObj.row 68) (eD o ⟨[⟨k1, m1', t1⟩, ⟨k2, m2', t2⟩], 1 + z⟩)) | exact zeq) rfl ?_)))⟩
    · have e0 : txV1 l n a1 = (txtV (nextX l n a1 10), nextA n (nextA n a1 10) 8) := by unfold txV1; rw [if_neg hy]
      have e1 : txE l n a1 = (⟨[txtV (nextX l n a1 10), shortV (nextX l n (nextA n (nextA n a1 10) 8) 6)], 1 + nextX l n (nextA n (nextA n (nextA n a1 10) 8) 6) 3⟩, nextA n (nextA n (nextA n (nextA n a1 10) 8) 6) 3) := by unfold txE; rw [e0]
      rw [e1] at hst hse
      clear e0 e1
      have e2 : txtV (nextX l n a1 10) = ⟨2, 0, (txtV (nextX l n a1 10)).t⟩ := rfl
      rw [e2] at hst
      clear e2
      generalize (txtV (nextX l n a1 10)).t = t1 at hcx hst
      generalize nextX l n a1 10 = x at *
      generalize nextX l n (nextA n a1 10) 8 = y at *
      generalize nextA n (nextA n a1 10) 8 = a4 at *
      generalize nextA n a1 10 = a2 at *
      have h4 := qT l n a4 hn hnn p3 p4
      obtain ⟨p7, p8⟩ := cB n a4 6 p3 p4
      generalize shortV (nextX l n a4 6) = v2 at *
      generalize nextA n a4 6 = a5 at *
      have h5 := dZ l n a5 3 hn hnn p7 p8 (by decide)
      obtain ⟨z1, z2⟩ := cX l n a5 3 (by decide) (by decide)
      obtain ⟨p9, p10⟩ := cB n a5 3 p7 p8
      generalize nextX l n a5 3 = z at *
      generalize nextA n a5 3 = a6 at *
      have hst' := jC hst
      clear hx0 hnm hZ hA hst
      obtain ⟨k2, m2', t2⟩ := v2
      simp only [Vl.c] at h4
      repeat' (first | ((with_reducible refine aB ?_); intro K hK hX) | ((with_reducible refine aC ?_); refine aD [0, 1, 4, 5, 6, 7, 8] rfl rfl ?_) | ((with_reducible refine jV ?_); refine jN aL (kD rfl) ?_) | ((with_reducible refine aF (i := 8) ?_); refine aG [0, 1, 4, 5, 6, 7, 8] rfl rfl ?_; refine cJ [] ?_) | ((with_reducible refine aF ?_); refine aG [0, 1, 4, 5, 6, 7, 8] rfl rfl ?_; refine aI [] ?_) | ((first | with_reducible refine cK ?_ | with_reducible refine dQ ?_ | with_reducible refine iY ?_); (first | refine wA ?_ | refine wD ?_ | refine wE ?_); (first | refine eL (bK (cM tabOk rfl rfl rfl rfl rfl) zln) ?_ | refine eL (bK (cU tabOk rfl rfl rfl rfl rfl rfl rfl rfl rfl rfl rfl rfl (cI rfl) (by first | rfl | exact all1 (by assumption) | (simp <;> fail) | fail) (by rfl)) zln) ?_)) | ((with_reducible refine aE ?_); refine aX (h1) aL rfl zby rfl rfl rfl rfl zcv rfl ztp ?_) | ((with_reducible refine bW ?_); refine eC (h1) aL rfl rfl zby rfl rfl rfl rfl zcv rfl ztp rfl ?_) | ((with_reducible refine aE ?_); refine aX (h2) aL rfl zby rfl rfl rfl rfl zcv rfl ztp ?_) | ((with_reducible refine bW ?_); refine eC (h2) aL rfl rfl zby rfl rfl rfl rfl zcv rfl ztp rfl ?_) | ((with_reducible refine aE ?_); refine aX (h4) aL rfl zby rfl rfl rfl rfl zcv rfl ztp ?_) | ((with_reducible refine bW ?_); refine eC (h4) aL rfl rfl zby rfl rfl rfl rfl zcv rfl ztp rfl ?_) | ((with_reducible refine aE ?_); refine aX (h5) aL rfl zby rfl rfl rfl rfl zcv rfl ztp ?_) | ((with_reducible refine bW ?_); refine eC (h5) aL rfl rfl zby rfl rfl rfl rfl zcv rfl ztp rfl ?_) | ((first | ((with_reducible refine aH ?_); refine xA ?_) | ((with_reducible refine aO ?_); refine xD ?_) | ((with_reducible refine cN ?_); refine xE ?_)); (first | ((with_reducible refine aP ?_); (first | refine aA (aR tabOk rfl rfl rfl rfl (by (rw [Nat.mul_one]; exact hcx))) ?_ | refine aA (aN tabOk rfl rfl rfl rfl (by (rw [Nat.mul_one]; exact hcx))) ?_ | refine aA (aM tabOk rfl rfl rfl (by (rw [Nat.mul_one]; exact hcx))) ?_)) | ((with_reducible refine bR ?_); (first | refine aA (s_ixV1 tabOk rfl rfl zcj rfl rfl rfl rfl rfl zle (by (rw [Nat.mul_one]; exact hcx))) ?_ | refine aA (aQ tabOk rfl rfl zcj rfl rfl (by (rw [Nat.mul_one]; exact hcx))) ?_)))) | (refine iE (by kernel_rfl) (by kernel_rfl) (by kernel_rfl) (by kernel_rfl) rfl ?_) | refine stA ?_ | refine stD ?_ | refine stE ?_ | ((first | refine hK _ _ _ _ ?_ | refine hX _ _ _ _ _ (by simp) ?_); clear hK hX K))
      exact ⟨(i, a6, o ++ [⟨[⟨2, 0, t1⟩, ⟨k2, m2', t2⟩], 1 + z⟩], q + 1), ⟨by rw [List.length_append, hq]; rfl, p9, p10, hst', hse⟩, by simp only; omega, (by refine bS [0, 3] rfl rfl ?_ ?_ rfl rfl <;> (repeat' (first | exact bI | exact bJ | refine bF rfl (by first | rfl | (exact congrArg (AObj.row 68) (eD o ⟨[⟨2, 0, t1⟩, ⟨k2, m2', t2⟩], 1 + z⟩)) | exact zeq) rfl ?_ | refine bB rfl (by first | rfl | (exact congrArg (AObj.row 68) (eD o ⟨[⟨2, 0, t1⟩, ⟨k2, m2', t2⟩], 1 + z⟩)) | exact zeq) rfl ?_)))⟩
  | zero =>
    rw [txsF, List.append_nil] at hst
    rw [txsA] at hse
    rw [hst] at hlo ⊢
    rw [hse]
    have hqQ : q = Q := by omega
    rw [hqQ] at hlo ⊢
    clear hZ hA b3 b4 hx0 hst hse hq hqi hqQ i1 i2
    repeat' (first | ((with_reducible refine aB ?_); intro K hK hX) | ((with_reducible refine aC ?_); refine aD [0, 1, 4, 5, 6, 7, 8] rfl rfl ?_) | ((with_reducible refine aF ?_); refine aG [0, 1, 4, 5, 6, 7, 8] rfl rfl ?_; refine aI [] ?_) | ((with_reducible refine aE ?_); refine awl_fz 41 rfl rfl zln ?_) | ((first | with_reducible refine aE ?_ | with_reducible refine aT ?_); (first | refine zA ?_ | refine zN ?_ | refine zD ?_); (first | refine c0 hnm ?_)) | refine stA ?_ | refine stD ?_ | ((first | refine hK _ _ _ _ ?_ | refine hX _ _ _ _ _ (by simp) ?_); clear hK hX K))
    refine cH zio ztr rfl rfl (ResL.one (ResA.tmp rfl)) (cT zfz rfl rfl)
end Go.Proofs.YtccnhpaldmjkbaaGreat
namespace Go.Proofs.YtccnhpaldmjkbaaGreat
open Go Go.RowKit Go.Av
set_option maxRecDepth 100000
theorem posP_rows {b : List En} (hp : posP b) : ∀ e ∈ b, rowP e.r := fun e he => by
  obtain ⟨i, hi⟩ := List.mem_iff_getElem?.1 he
  exact (hp.1.2 i (List.getElem?_eq_some_iff.1 hi).1 e hi).1.2.2
attribute [local irreducible] Still Adds AWL AW Drw DrwE EStep AC AWR Weak Frz Src RetK Out InK ItK AsK RdK
open Classical in
theorem rbuild_ok (b : List En) (n : Nat) (hn : b.length = n) (hf : fitB b) (hp : posP b) (col : Nat) (hc : (col : Int) ≤ 9223372036854775807) (M : Nat) (hM : (postP (prs col b)).length = M) : AC Tryz.prog 11 [.sl 2 n (ec b), iv col] (.tup [.c (.sl 3 M (pc (postP (prs col b)))), .c (iv 0)]) [] 0 := by
  have hn2 : n ≤ 4096 := by rw [← hn]; exact hp.1.1
  have h1 := rpos_ok b n hn (by simp only [maxLen]; omega) hf
  rw [decide_eq_true hp] at h1
  have hrow := posP_rows hp
  have hgood := sE hp.1
  have hpost := zC (col := col) hgood
  have h2 := rpost_ok [] 0 rfl (by omega) b n hn hn2 hrow col hc M (by rw [hpost]; exact hM) fun i j e w he hw => by
    refine raddN_ok _ _ _ rfl ?_ (fun y hy => ?_) ?_ ?_
    · have k1 := nC [] (prs col (b.take i) ++ ((wdsE col e.r).take j).map fun w => (w, e))
      have k2 := eP (col := col) (b := b.take i) (fun e he => (hrow e (List.mem_of_mem_take he)).2)
      have k3 := (fF (col := col) (hrow e (List.mem_of_getElem? he)).2).1
      rw [List.length_take] at k2
      rw [List.length_append, List.length_map, List.length_take, List.length_nil] at k1
      unfold atP
      omega
    · have : y.r.length ≤ 16 := by
        refine rV (fun y => y.r.length ≤ 16) (fun y x hy _ => hy) (fun y hy => by cases hy) _ (fun p hp => ?_) y hy
        rcases List.mem_append.1 hp with hp | hp
        · exact (hrow _ (List.mem_of_mem_take (gC hp).1)).1
        · obtain ⟨v, _, rfl⟩ := List.mem_map.1 hp
          exact (hrow e (List.mem_of_getElem? he)).1
      simp only [maxLen]; omega
    · have := (hrow e (List.mem_of_getElem? he)).1
      show e.r.length ≤ _
      simp only [maxLen]; omega
    · exact prs_new hgood he hw
  rw [hpost] at h2
  generalize pc (postP (prs col b)) = R at h2 ⊢
  clear hp hrow hM hf hn hgood hpost
  refine aJ tabOk (sz := 16) Tryz.func11 rfl (by rw [Tryz.ntmps11]; rfl) ?_
  repeat' (first | ((with_reducible refine aB ?_); intro K hK hX) | ((with_reducible refine aC ?_); refine aD [0, 1, 4, 5] rfl rfl ?_) | ((with_reducible refine aE ?_); (first | refine zA ?_ | refine zN ?_); (first | refine c0 h1 ?_ | refine c0 h2 ?_)) | refine stA ?_ | ((first | refine hK _ _ _ _ ?_ | refine hX _ _ _ _ _ (by simp) ?_); clear hK hX K))
  refine aK zio ztr rfl (ResL.two (ResA.tmp rfl) (ResA.tmp rfl)) (jG (bV zfz (bV zfz dG)))
end Go.Proofs.YtccnhpaldmjkbaaGreat
