/-
  Joined texts: JW. Lemmas; no statement of a law.
-/
import Derived.Test.YtccnhpaldmjkbaaGreatQ44
import Derived.Test.YtccnhpaldmjkbaaGreatQ45
import Derived.Test.YtccnhpaldmjkbaaGreatQ46
set_option linter.unusedSimpArgs false
set_option linter.unusedVariables false
namespace Go.Proofs.YtccnhpaldmjkbaaGreat
open Go Go.RowKit Go.Av
set_option maxRecDepth 100000
attribute [local irreducible] Still Adds AWL AW Drw DrwE EStep AC AWR Weak Frz Src RetK Out InK ItK AsK RdK RetT OutT ACT ACTq
theorem law_ilooks (l : List Int) (n : Nat) (hn : l.length = n) (hb : 8 * n ≤ 140737488355328) (p : List Po) (m : Nat) (hm : p.length = m) (hm2 : m ≤ maxLen) (hf : ∀ x ∈ p, x.w.length ≤ maxLen ∧ x.r.length ≤ maxLen) (w : Wd) (hw : w.length ≤ maxLen) : AC Tryz.prog 7 [.sl 1 n (intc .i64 l), .sl 3 m (pc p), sv w] (.c (bv true)) [] 0 := by
  have hml : n ≤ maxLen := by simp only [maxLen]; omega
  obtain ⟨fA, fA2, lA⟩ := txB_F l n 0 9 (by omega) (by omega) (by decide) (by decide)
  obtain ⟨na, hna⟩ : ∃ na, (txB l n 0 9).length = na := ⟨_, rfl⟩
  have h1 := ttxb_ok l n 0 8 9 na hn hml (by omega) (by omega) (by decide) (by decide) rfl hna
  obtain ⟨s1, s2⟩ := txA_bd l n 0 9 (by omega) (by omega)
  have fA : BagF 24 (txB l n 0 9) := fA
  generalize txB l n 0 9 = A at *
  generalize txA l n 0 9 = a1 at *
  have hna24 : na ≤ 24 := by rw [← hna]; exact fA.len
  have hpA := fA.posP (by decide)
  have hvA := post_val hpA.1 hpA.2 0
  obtain ⟨M, hM⟩ : ∃ M, (postP (prs 0 A)).length = M := ⟨_, rfl⟩
  have hb1 := rbuild_ok A na hna fA.fit hpA 0 (by decide) M hM
  have hMA := eP (col := 0) fA.ok
  rw [← mE, hM, hna] at hMA
  have hfP : fitP (postP (prs 0 A)) := fun x hx => by
    obtain ⟨y1, y2, _⟩ := (gL hvA).2 x hx
    have := y1.2.1
    have := y2.1
    exact ⟨by omega, by omega⟩
  generalize postP (prs 0 A) = P at *
  obtain ⟨E, Q, a2, hE, hQ, fE, v1, v2, h4⟩ := tspp_ok l n a1 P M hn hml s1 s2 hM (by omega) hfP
  have hsb := smpost_ok p m hm hm2 hf
  by_cases hs : smallPs p ∧ w.length ≤ 100
  · have h30 := hs.1.1
    rw [decide_eq_true hs.1] at hsb
    exact looks_a l n hn hml hb a1 a2 A P E p p na M Q m m w w hna hM hE hm hm hm2 hw hsb hs.2 rfl h1 hb1 h4 v1 v2 (by omega) (by omega) (by omega) hfP fE (yZ hs.1)
  · by_cases h : smallPs p
    · rw [decide_eq_true h] at hsb
      exact looks_b l n hn hml hb a1 a2 A P E [] p na M Q 0 m [] w hna hM hE rfl hm hm2 hw hsb (by have : ¬ w.length ≤ 100 := fun h2 => hs ⟨h, h2⟩; omega) rfl h1 hb1 h4 v1 v2 (by omega) (by omega) (by omega) hfP fE (fun x hx => by cases hx)
    · rw [decide_eq_false h] at hsb
      exact looks_c l n hn hml hb a1 a2 A P E [] p na M Q 0 m [] w hna hM hE rfl hm hm2 hw hsb rfl h1 hb1 h4 v1 v2 (by omega) (by omega) (by omega) hfP fE (fun x hx => by cases hx)
end Go.Proofs.YtccnhpaldmjkbaaGreat
