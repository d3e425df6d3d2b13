/-
  Joined texts: J5. Lemmas; no statement of a law.
-/
import Derived.Test.YtccnhpaldmjkbaaGreatQ43
set_option linter.unusedSimpArgs false
set_option linter.unusedVariables false
namespace Go.Proofs.YtccnhpaldmjkbaaGreat
open Go Go.RowKit Go.Av
set_option maxRecDepth 100000
attribute [local irreducible] Still Adds AWL AW Drw DrwE EStep AC AWR Weak Frz Src RetK Out InK ItK AsK RdK RetT OutT ACT ACTq
open Classical in
set_option maxHeartbeats 16000000 in
theorem looks_a (l : List Int) (n : Nat) (hn : l.length = n) (hml : n ≤ maxLen) (hb : 8 * n ≤ 140737488355328) (a1 a2 : Int) (A : List En) (P E P2 PP : List Po) (na M Q m2 mp : Nat) (W WW : Wd) (hna : A.length = na) (hM : P.length = M) (hQ : E.length = Q) (hm2 : P2.length = m2) (hmp : PP.length = mp) (hmp2 : mp ≤ maxLen) (hWW : WW.length ≤ maxLen)
    (hsb : AC Tryz.prog 30 [.sl 3 mp (pc PP)] (.c (bv true)) [] 0)
    (c2' : WW.length ≤ 100) (c3' : P2 = PP)
    (h1 : ACT Tryz.prog 10 72 (tpC l n 0) [iv 8] (tpC l n a1) (.sl 2 na (ec A)))
    (hb1 : AC Tryz.prog 11 [.sl 2 na (ec A), iv 0] (.tup [.c (.sl 3 M (pc P)), .c (iv 0)]) [] 0)
    (h4 : ACT Tryz.prog 15 72 (tpC l n a1) [.sl 3 M (pc P)] (tpC l n a2) (.sl 3 Q (pc E)))
    (s1 : 0 ≤ a2) (s2 : a2 ≤ 9223372036854775807) (hM2 : M ≤ 50000) (hQ2 : Q ≤ 50000) (hm3 : m2 ≤ 50000) (fP : fitP P) (fE : fitP E) (f2 : fitP P2) :
    AC Tryz.prog 7 [.sl 1 n (intc .i64 l), .sl 3 mp (pc PP), sv WW] (.c (bv true)) [] 0 := by
  have haw := yH
  have hil : (intc .i64 l).length = n := by rw [nX, hn]
  have hAl : (ec A).length = na * 2 := by rw [bH, hna]
  have hPl : (pc P).length = M * 3 := by rw [bQ, hM]
  have hEl : (pc E).length = Q * 3 := by rw [bQ, hQ]
  have hPPl : (pc PP).length = mp * 3 := by rw [bQ, hmp]
  have hsz := kF WW
  obtain ⟨F, f, hall⟩ := looks_all hM hQ hm2 hM2 hQ2 hm3 fP fE f2
  clear fP fE f2
  have hmm : m2 = mp := by rw [← hm2, c3', hmp]
  rw [c3', hmm] at hall
  clear c3' hmm hm2 hm3
  refine aJ tabOk (sz := 103) Tryz.func7 rfl (by rw [Tryz.ntmps7]; rfl) ?_
  repeat' (first | ((with_reducible refine aB ?_); intro K hK hX) | ((with_reducible refine aC ?_); refine aD [0, 1, 2, 6, 7, 8, 10, 11, 12] rfl rfl ?_) | ((with_reducible refine aF ?_); refine aG [0, 1, 2, 6, 7, 8, 10, 11, 12] rfl rfl ?_; refine aI [9] ?_) | ((with_reducible refine nE ?_); refine tB (m' := n) (cs' := intc .i64 l) 5 rfl rfl zln (by omega) (by simp) ?_) | ((first | with_reducible refine aE ?_ | with_reducible refine cO ?_); refine dR tabOk [0, 1, 2, 3, 4, 5, 6, 7, 8, 9, 10, 11, 12, 13, 14, 15, 16, 17, 18, 19, 20, 21, 22, 23, 24, 25, 26, 27, 28, 29, 30, 31, 32, 33, 34, 35, 36, 37, 38, 39, 40, 41, 42, 43, 44, 45, 46, 47, 48, 49, 50, 51, 52, 53, 54, 55, 56, 57, 58, 59, 60, 61, 62, 63, 64, 65, 66, 67, 68, 69, 70, 71, 72, 73, 74, 75, 76, 77, 78, 79, 80, 81, 82, 83, 84, 85, 86, 87, 88, 89, 90, 91, 92, 93, 94, 95, 96, 97, 98, 99, 100, 101, 102] aL rfl rfl zby Tryz.func9 rfl rfl rfl (szf := 8) (by rw [Tryz.ntmps9]; rfl) rfl ?_) | ((with_reducible refine cS ?_); refine dO tabOk aL rfl rfl rfl zpt (by rfl) (by rfl) rfl (Nat.le_of_ble_eq_true rfl) (by rfl) ?_) | refine stA ?_ | refine stD ?_ | ((first | refine hK _ _ _ _ ?_ | refine hX _ _ _ _ _ (by simp) ?_); clear hK hX K) | (first | refine dC zio ztr rfl rfl (ResL.one (ResA.tmp rfl)) ?_ | refine dB zio ztr rfl rfl (ResL.one (ResA.tmp rfl)) ?_))
  repeat' (first | ((with_reducible refine aB ?_); intro K hK hX) | ((with_reducible refine aC ?_); refine aD [0, 1, 2, 6, 7, 8, 10, 11, 12] rfl rfl ?_) | ((with_reducible refine aF ?_); refine aG [0, 1, 2, 6, 7, 8, 10, 11, 12] rfl rfl ?_; refine aI [] ?_) | ((with_reducible refine aE ?_); refine aX (h1) aL rfl zby rfl rfl rfl rfl zcv rfl ztp ?_) | ((with_reducible refine aE ?_); refine aX (h4) aL rfl zby rfl rfl rfl rfl zcv rfl ztp ?_) | ((first | with_reducible refine cK ?_ | with_reducible refine dQ ?_); (first | refine wA ?_ | refine wD ?_); (first | refine eL (bK (cM tabOk rfl rfl rfl rfl rfl) zln) ?_ | refine eL (bK (cU tabOk rfl rfl rfl rfl rfl rfl rfl rfl rfl rfl rfl rfl (cI rfl) (by first | rfl | exact all1 (by assumption) | (simp <;> fail) | fail) (by rfl)) zln) ?_)) | ((first | with_reducible refine aE ?_ | with_reducible refine aT ?_); (first | refine zA ?_ | refine zN ?_ | refine zD ?_); (first | refine c0 hb1 ?_ | refine c0 hsb ?_)) | refine stA ?_ | refine stD ?_ | ((first | refine hK _ _ _ _ ?_ | refine hX _ _ _ _ _ (by simp) ?_); clear hK hX K))
  refine bC [11, 12] [2] rfl rfl (fun s : Nat × Int => [(11, .c (iv s.1))]) (fun s => [(2, .blk 72 [.c (.sl 1 n (intc .i64 l)), .c (iv s.2)])]) (fun s => s.1 ≤ 3 ∧ 0 ≤ s.2 ∧ s.2 ≤ 9223372036854775807) (fun s => 3 - s.1) (0, a2) ⟨by omega, s1, s2⟩ weakA ?_
  rintro ⟨i, a⟩ ⟨hi, i1, i2⟩ K hK hX
  dsimp only at hi i1 i2 ⊢
  by_cases hlt : i < 3
  · obtain ⟨e1, e2, e3, e4⟩ := hall i hlt
    obtain ⟨v1, v2, b1, b2, b3, b4, x, M1, M2, R1, R2, vb, ⟨u1, u2⟩, x2, hw1, hw2, hx, hfi, hv, hrv, hR1, k1, k2, k3, hR2, l1, l2, l3, hbb⟩ := looks_rd l n a hn hml i1 i2 (F i) (f i) e1 e2 e3 WW
    have hpl : (pc (F i)).length = f i * 3 := by rw [bQ, e1]
    generalize pc (F i) = PF at *
    clear hall e1 e3 h1 hb1 h4 hsb haw
    repeat' (first | ((with_reducible refine aB ?_); intro K hK hX) | ((with_reducible refine aC ?_); refine aD [0, 1, 2, 6, 7, 8, 10, 11, 12] rfl rfl ?_) | ((with_reducible refine jV ?_); refine jN (by first | exact aL | exact (bP rfl rfl zgb)) (kD rfl) ?_) | ((with_reducible refine aF (i := 10) ?_); refine aG [0, 1, 2, 6, 7, 8, 10, 11, 12] rfl rfl ?_; refine cJ [] ?_) | ((with_reducible refine aF ?_); refine aG [0, 1, 2, 6, 7, 8, 10, 11, 12] rfl rfl ?_; refine aI [] ?_) | ((with_reducible refine aE ?_); refine aX (hw1) (by first | exact aL | exact (bP rfl rfl zgb)) rfl zby rfl rfl rfl rfl zcv rfl ztp ?_) | ((with_reducible refine bW ?_); refine eC (hw1) (by first | exact aL | exact (bP rfl rfl zgb)) rfl rfl zby rfl rfl rfl rfl zcv rfl ztp rfl ?_) | ((with_reducible refine aE ?_); refine aX (hw2) (by first | exact aL | exact (bP rfl rfl zgb)) rfl zby rfl rfl rfl rfl zcv rfl ztp ?_) | ((with_reducible refine bW ?_); refine eC (hw2) (by first | exact aL | exact (bP rfl rfl zgb)) rfl rfl zby rfl rfl rfl rfl zcv rfl ztp rfl ?_) | ((with_reducible refine aE ?_); refine aX (hx) (by first | exact aL | exact (bP rfl rfl zgb)) rfl zby rfl rfl rfl rfl zcv rfl ztp ?_) | ((with_reducible refine bW ?_); refine eC (hx) (by first | exact aL | exact (bP rfl rfl zgb)) rfl rfl zby rfl rfl rfl rfl zcv rfl ztp rfl ?_) | ((first | with_reducible refine cK ?_ | with_reducible refine dQ ?_ | with_reducible refine iY ?_); (first | refine wA ?_ | refine wD ?_ | refine wE ?_); (first | refine eL (bK (cM tabOk rfl rfl rfl rfl rfl) zln) ?_ | refine eL (bK (cU tabOk rfl rfl rfl rfl rfl rfl rfl rfl rfl rfl rfl rfl (cI rfl) (by first | rfl | exact all1 (by assumption) | (simp <;> fail) | fail) (by rfl)) zln) ?_)) | ((with_reducible refine aE ?_); refine yK (hfi) (by first | exact aL | exact (bP rfl rfl zgb)) rfl zby rfl rfl rfl rfl zcv rfl ztp ?_) | ((with_reducible refine bW ?_); refine d_callTq (hfi) (by first | exact aL | exact (bP rfl rfl zgb)) rfl rfl zby rfl rfl rfl rfl zcv rfl ztp rfl ?_) | ((first | with_reducible refine aE ?_ | with_reducible refine aT ?_ | with_reducible refine bW ?_); (first | refine zA ?_ | refine zN ?_ | refine zD ?_ | refine zE ?_); (first | refine c0 hv ?_ | refine c0 hrv ?_ | refine c0 k1 ?_ | refine c0 k2 ?_ | refine c0 k3 ?_ | refine c0 l1 ?_ | refine c0 l2 ?_ | refine c0 l3 ?_)) | ((first | ((with_reducible refine aH ?_); refine xA ?_) | ((with_reducible refine aO ?_); refine xD ?_) | ((with_reducible refine cN ?_); refine xE ?_)); (first | ((with_reducible refine aU ?_); (first | refine aA (tU tabOk rfl rfl rfl rfl hbb) ?_)) | ((with_reducible refine aP ?_); (first | refine aA (aR tabOk rfl rfl rfl rfl (by (rw [Nat.mul_one]; exact e4))) ?_ | refine aA (aN tabOk rfl rfl rfl rfl (by (rw [Nat.mul_one]; exact e4))) ?_ | refine aA (aM tabOk rfl rfl rfl (by (rw [Nat.mul_one]; exact e4))) ?_)) | ((with_reducible refine bR ?_); (first | refine aA (s_ixV1 tabOk rfl rfl zcj rfl rfl rfl rfl rfl zle (by (rw [Nat.mul_one]; exact e4))) ?_ | refine aA (aQ tabOk rfl rfl zcj rfl rfl (by (rw [Nat.mul_one]; exact e4))) ?_)))) | (refine iE (by kernel_rfl) (by kernel_rfl) (by kernel_rfl) (by kernel_rfl) rfl ?_) | refine stA ?_ | refine stD ?_ | refine stE ?_ | ((first | refine hK _ _ _ _ ?_ | refine hX _ _ _ _ _ (by simp) ?_); clear hK hX K))
    exact ⟨(i + 1, b4), ⟨by simp only; omega, u1, u2⟩, by simp only; omega, weakA⟩
  · have hie : i = 3 := by omega
    rw [hie]
    clear hall
    repeat' (first | ((with_reducible refine aB ?_); intro K hK hX) | ((with_reducible refine aC ?_); refine aD [0, 1, 2, 6, 7, 8, 10, 11, 12] rfl rfl ?_) | ((with_reducible refine aF ?_); refine aG [0, 1, 2, 6, 7, 8, 10, 11, 12] rfl rfl ?_; refine aI [] ?_) | ((first | with_reducible refine aE ?_ | with_reducible refine aT ?_); (first | refine zA ?_ | refine zN ?_ | refine zD ?_); (first | refine c0 haw ?_)) | refine stA ?_ | refine stD ?_ | ((first | refine hK _ _ _ _ ?_ | refine hX _ _ _ _ _ (by simp) ?_); clear hK hX K))
    refine aK zio ztr rfl (ResL.one (ResA.tmp rfl)) zou
end Go.Proofs.YtccnhpaldmjkbaaGreat
