/-
  Joined texts: JX. Lemmas; no statement of a law.
-/
import Derived.Test.YtccnhpaldmjkbaaGreatQ40
import Derived.Test.YtccnhpaldmjkbaaGreatQ41
set_option linter.unusedSimpArgs false
set_option linter.unusedVariables false
namespace Go.Proofs.YtccnhpaldmjkbaaGreat
open Go Go.RowKit Go.Av
set_option maxRecDepth 100000
theorem yZ {p : List Po} (h : smallPs p) : fitP p := fun x hx => by
  obtain ⟨h1, h2, _⟩ := h.2 x hx
  exact ⟨by omega, by omega⟩
theorem strc_take (v1 v2 w : Wd) (x : Nat) (hx : x < 4) : ([v1, v2, w].take x).length = x ∧ List.take ((x - 0) * 1) (List.drop (0 * 1) [sv v1, sv v2, sv w]) = strc ([v1, v2, w].take x) := by
  rcases (show x = 0 ∨ x = 1 ∨ x = 2 ∨ x = 3 by omega) with e | e | e | e <;> subst e <;> exact ⟨rfl, rfl⟩
theorem fz_cvc {h Hp : Heap} {x y : CV} (hcv : Cv x y) : Fz h Hp (.c x) (.c y) := fun B n M w' u hs hc hu => by
  have := iX (v := .c x) B n M w' u hs hc hu
  simp only [Rep] at this ⊢
  exact hcv _ _ _ this
theorem looks_all {P E P2 : List Po} {M Q m2 : Nat} (hM : P.length = M) (hQ : E.length = Q) (hm2 : P2.length = m2) (hM2 : M ≤ 50000) (hQ2 : Q ≤ 50000) (hm3 : m2 ≤ 50000) (fP : fitP P) (fE : fitP E) (f2 : fitP P2) : ∃ (F : Nat → List Po) (f : Nat → Nat), ∀ i, i < 3 → (F i).length = f i ∧ f i ≤ 50000 ∧ fitP (F i) ∧ ([.sl 3 M (pc P), .sl 3 Q (pc E), .sl 3 m2 (pc P2)] : List CV)[i]? = some (.sl 3 (f i) (pc (F i))) := by
  obtain ⟨F, hF⟩ : ∃ F : Nat → List Po, F 0 = P ∧ F 1 = E ∧ F 2 = P2 := ⟨fun i => if i = 0 then P else if i = 1 then E else P2, rfl, rfl, rfl⟩
  obtain ⟨f, hf⟩ : ∃ f : Nat → Nat, f 0 = M ∧ f 1 = Q ∧ f 2 = m2 := ⟨fun i => if i = 0 then M else if i = 1 then Q else m2, rfl, rfl, rfl⟩
  refine ⟨F, f, fun i hi => ?_⟩
  obtain ⟨e1, e2, e3⟩ := hF
  obtain ⟨e4, e5, e6⟩ := hf
  rcases (show i = 0 ∨ i = 1 ∨ i = 2 by omega) with e | e | e <;> subst e
  · rw [e1, e4]; exact ⟨hM, hM2, fP, rfl⟩
  · rw [e2, e5]; exact ⟨hQ, hQ2, fE, rfl⟩
  · rw [e3, e6]; exact ⟨hm2, hm3, f2, rfl⟩
open Classical in
theorem looks_rd (l : List Int) (n : Nat) (a : Int) (hn : l.length = n) (hml : n ≤ maxLen) (i1 : 0 ≤ a) (i2 : a ≤ 9223372036854775807) (p : List Po) (m : Nat) (e1 : p.length = m) (e2 : m ≤ 50000) (e3 : fitP p) (W : Wd) : ∃ (v1 v2 : Wd) (b1 b2 b3 b4 : Int) (x M1 M2 : Nat) (R1 R2 : List CV) (vb : Bool), (0 ≤ b4 ∧ b4 ≤ 9223372036854775807) ∧ x < 4 ∧
    ACT Tryz.prog 31 72 (tpC l n a) [] (tpC l n b1) (sv v1) ∧ ACT Tryz.prog 31 72 (tpC l n b1) [] (tpC l n b2) (sv v2) ∧ ACT Tryz.prog 27 72 (tpC l n b2) [iv 4] (tpC l n b3) (iv x) ∧ ACTq Tryz.prog 34 72 (tpC l n b3) (.sl 3 m (pc p)) (tpC l n b4) (bv true) ∧
    AC Tryz.prog 32 [.sl 3 m (pc p)] (.c (bv vb)) [] 0 ∧ AC Tryz.prog 33 [.sl 3 m (pc p)] (.c (bv vb)) [] 0 ∧
    R1.length = M1 * 2 ∧ AC Tryz.prog 36 [.sl 3 m (pc p), .sl 1 x (List.take ((x - 0) * 1) (List.drop (0 * 1) [sv v1, sv v2, sv W]))] (.c (.sl 2 M1 R1)) [] 0 ∧ AC Tryz.prog 37 [.sl 3 m (pc p), .sl 1 x (List.take ((x - 0) * 1) (List.drop (0 * 1) [sv v1, sv v2, sv W]))] (.c (.sl 2 M1 R1)) [] 0 ∧ AC Tryz.prog 35 [.sl 2 M1 R1, .sl 2 M1 R1] (.c (bv true)) [] 0 ∧
    R2.length = M2 * 2 ∧ AC Tryz.prog 38 [.sl 3 m (pc p), sv W] (.c (.sl 2 M2 R2)) [] 0 ∧ AC Tryz.prog 39 [.sl 3 m (pc p), sv W] (.c (.sl 2 M2 R2)) [] 0 ∧ AC Tryz.prog 35 [.sl 2 M2 R2, .sl 2 M2 R2] (.c (bv true)) [] 0 ∧ (!(vb == vb)) = false := by
  have hw1 := kH l n a hn hml i1 i2
  obtain ⟨t1, t2⟩ := cB n a 9 i1 i2
  have hw2 := kH l n (nextA n a 9) hn hml t1 t2
  obtain ⟨t3, t4⟩ := cB n (nextA n a 9) 9 t1 t2
  have hx := dZ l n (nextA n (nextA n a 9) 9) 4 hn hml t3 t4 (by decide)
  obtain ⟨x1, x2⟩ := cX l n (nextA n (nextA n a 9) 9) 4 (by decide) (by decide)
  obtain ⟨t5, t6⟩ := cB n (nextA n (nextA n a 9) 9) 4 t3 t4
  obtain ⟨x, hxx⟩ : ∃ x : Nat, nextX l n (nextA n (nextA n a 9) 9) 4 = x := ⟨(nextX l n (nextA n (nextA n a 9) 9) 4).toNat, by omega⟩
  rw [hxx] at hx x1 x2
  have hfi := finds_ok l n _ hn hml t5 t6 p m e1 (by omega) e3
  obtain ⟨g1, g2⟩ := pT e3
  obtain ⟨q1, q2⟩ := strc_take (wrdW (nextX l n a 9)) (wrdW (nextX l n (nextA n a 9) 9)) W x (by omega)
  obtain ⟨M1, R1, hR1, k1, k2, k3⟩ := srch_both p m ([wrdW (nextX l n a 9), wrdW (nextX l n (nextA n a 9) 9), W].take x) x e1 (by omega) q1 (by omega) e3
  rw [← q2] at k1 k2
  obtain ⟨M2, R2, hR2, l1, l2, l3⟩ := sB p m W e1 (by omega) e3
  exact ⟨_, _, _, _, _, _, x, M1, M2, R1, R2, decide (valP p), wdA_bd n _ t5 t6 4, by omega, hw1, hw2, hx, hfi, mB p m e1 (by simp only [maxLen]; omega) g1, kA p m e1 (by simp only [maxLen]; omega) g2, hR1, k1, k2, k3, hR2, l1, l2, l3, by cases decide (valP p) <;> rfl⟩
end Go.Proofs.YtccnhpaldmjkbaaGreat
