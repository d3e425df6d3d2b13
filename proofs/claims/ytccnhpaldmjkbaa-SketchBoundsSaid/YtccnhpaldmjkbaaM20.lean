/-
  Joined texts: U18. Lemmas; no statement of a law.
-/
import Derived.Test.YtccnhpaldmjkbaaM1
import Derived.Test.YtccnhpaldmjkbaaM2
import Derived.Test.YtccnhpaldmjkbaaM3
import Derived.Test.YtccnhpaldmjkbaaM4
import Derived.Test.YtccnhpaldmjkbaaM5
import Derived.Test.YtccnhpaldmjkbaaM6
import Derived.Test.YtccnhpaldmjkbaaM7
import Derived.Test.YtccnhpaldmjkbaaM9
import Derived.Test.YtccnhpaldmjkbaaM10
import Derived.Test.YtccnhpaldmjkbaaM13
import Derived.Test.YtccnhpaldmjkbaaM15
import Derived.Test.YtccnhpaldmjkbaaM19
import Derived.Test.YtccnhpaldmjkbaaM21
/-
  The law SketchBounds: its kinds of sketches.
-/
set_option linter.unusedVariables false
set_option linter.unusedSimpArgs false
namespace Go.Proofs.Ytccnhpaldmjkbaa
open Go Go.RowKit Go.Av
set_option maxRecDepth 100000
theorem law_sbounds (l : List Int) (n : Nat) (hn : l.length = n) (hb : 8 * n ≤ 140737488355328) : AC Try.prog 9 [.sl 1 n (intc .i64 l)] (.c (bv true)) [] 0 := by
  have hml : n ≤ maxLen := by simp only [maxLen]; omega
  obtain ⟨col, w, d, kd, hsk, c1, w1, w2, d1, d2, hkd⟩ := skF_facts l n 0
  have h1 := tsk_ok l n 0 hn hml (by omega) (by omega)
  rw [hsk] at h1
  obtain ⟨s1, s2⟩ := skA_bd n 0 (by omega) (by omega)
  generalize skA n 0 = a1 at *
  obtain ⟨fa1, fa2, fa3⟩ := bagF_F l n a1 9 (by decide) (by decide)
  obtain ⟨na, hna⟩ : ∃ na, (bagF l n a1 9 false).length = na := ⟨_, rfl⟩
  have h2 := tbag_ok l n a1 8 9 false na hn hml s1 s2 (by decide) (by decide) rfl hna
  generalize bagF l n a1 9 false = A at *
  generalize bagA l n a1 9 = a2 at *
  have fA := fa1.up (N := 500) (by decide)
  have hna4 : na ≤ 500 := by rw [← hna]; exact fA.len
  have hpA := fA.posP (by decide)
  obtain ⟨hfm, hwd, hwd0⟩ := form_of3 (nm := [115]) (sr := [116, 48]) (col := col) (kd := kd) w1 w2 d1 d2 hkd
  have hk3 : kd = 0 ∨ kd = 1 ∨ kd = 2 := by omega
  by_cases k2 : kd = 2
  · have hd1 : d = 1 := by omega
    subst k2 hd1
    have hP := smallI_P (w := w) (l := hashE col A) fun x hx => hashE_bd hx
    obtain ⟨q, hq⟩ : ∃ q, (smallI w (hashE col A)).length = q := ⟨_, rfl⟩
    have hqw : q ≤ w := by rw [← hq]; exact hP.1
    have hcv := botC_cv0 w col A
    rw [hq] at hcv
    have hX : ∀ v : Vl, AC Try.prog 40 [.agg [sv [115], sv [116, 48], iv col, iv 2, iv w, iv (1 : Nat)], botC w col A, .agg v.c] (.c (iv (diffN w (smallI w (hashE col A))))) [] 0 := fun v =>
      AC.args (est2_ok [115] [116, 48] col (1 : Nat) w v (smallI w (hashE col A)) q hq hfm hP) (cvl_cons cv_rfl (cvl_cons hcv (cvl_cons cv_rfl cvl_nil)))
    refine bounds_walk l n hn hml hb a1 a2 col w 1 2 A na (botC w col A) q (by omega) (by omega) (by omega) hna hna4 fA.fit fa2 hk3 fA.pos fA.abs ?_ (by omega) h1 h2 ?_ ?_ ?_ ?_
    · by_cases h0 : hashE col A = []
      · refine .inl ⟨botC_nil h0, ?_⟩
        rw [← hq, h0, small_nil0]
        rfl
      · refine .inr ⟨intc .i64 (smallI w (hashE col A)), ?_⟩
        rw [botC_some h0, hq]
    · by_cases h0 : hashE col A = []
      · rw [botC_nil h0]
        exact build2_nil [115] [116, 48] col (1 : Nat) w A na hna fA.fit hfm hpA (by omega) h0
      · rw [botC_some h0]
        exact build2_some [115] [116, 48] col (1 : Nat) w _ A na hna fA.fit hfm hpA (by omega) h0 rfl
    · exact fun e he hk => ⟨_, hX _, fun h => absurd h (by decide), fun h => absurd h (by decide)⟩
    · intro _ hlt
      have := hX Vl.nul
      have e : diffN w (smallI w (hashE col A)) = q := by unfold diffN; rw [hq, if_pos hlt]
      rw [e] at this
      exact this
    · intro _
      rw [← hq]
      exact small_diff
  · have hk : kd = 0 ∨ kd = 1 := by omega
    obtain ⟨N, hN⟩ : ∃ N, w * d = N := ⟨_, rfl⟩
    rw [hN] at hwd hwd0
    have hab := fA.abs
    have hv := foldK_val (nm := [115]) (sr := [116, 48]) (R := A) (col := col) hk hfm hN fA.pos (by omega) (by omega)
    refine bounds_walk l n hn hml hb a1 a2 col w d kd A na (.sl 1 N (intc .i64 (foldK kd w d col N A))) N (by omega) (by omega) (by omega) hna hna4 fA.fit fa2 hk3 fA.pos fA.abs (.inr ⟨_, rfl⟩) (by omega) h1 h2 ?_ ?_ (fun h => absurd h k2) (fun h => absurd h k2)
    · have h5 := build_ok [115] [116, 48] col kd w d N A na hna (by simp only [maxLen]; omega) fA.fit k2 hfm hpA (by omega) hN
      rw [foldK_build hN hna] at h5
      exact h5
    · intro e he hz
      have hok := cell_okP (col := col) (fA.row e he).2
      refine ⟨_, est_ok [115] [116, 48] col kd w d (cellV e.r col) (foldK kd w d col N A) N (foldK_length ..) (by simp only [maxLen]; omega) k2 hv hok hz, fun h => ?_, fun h => ?_⟩
      · subst h
        exact est_mult hN w1 d1 hz fA.pos
      · subst h
        exact est_bloom hN w1 d1 hz he rfl
end Go.Proofs.Ytccnhpaldmjkbaa
