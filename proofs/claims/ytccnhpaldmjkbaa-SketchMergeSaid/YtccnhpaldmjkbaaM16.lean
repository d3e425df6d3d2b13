/-
  Joined texts: U11. Lemmas; no statement of a law.
-/
import Derived.Test.YtccnhpaldmjkbaaM1
import Derived.Test.YtccnhpaldmjkbaaM2
import Derived.Test.YtccnhpaldmjkbaaM3
import Derived.Test.YtccnhpaldmjkbaaM4
import Derived.Test.YtccnhpaldmjkbaaM5
import Derived.Test.YtccnhpaldmjkbaaM6
import Derived.Test.YtccnhpaldmjkbaaM7
import Derived.Test.YtccnhpaldmjkbaaM9
import Derived.Test.YtccnhpaldmjkbaaM10
import Derived.Test.YtccnhpaldmjkbaaM13
import Derived.Test.YtccnhpaldmjkbaaM14
import Derived.Test.YtccnhpaldmjkbaaM15
/-
  The law SketchOrder: its kinds of sketches.
-/
set_option linter.unusedVariables false
set_option linter.unusedSimpArgs false
namespace Go.Proofs.Ytccnhpaldmjkbaa
open Go Go.RowKit Go.Av
set_option maxRecDepth 100000
theorem perm_mem {R L A : List En} {e : En} (h : (R ++ L).Perm A) (he : e ∈ L) : (∀ f ∈ R ++ [e], f ∈ A) ∧ absS (R ++ [e]) ≤ absS A := by
  refine ⟨fun f hf => h.mem_iff.1 ?_, ?_⟩
  · rcases List.mem_append.1 hf with h1 | h1
    · exact List.mem_append.2 (.inl h1)
    · rw [List.mem_singleton] at h1
      subst h1
      exact List.mem_append.2 (.inr he)
  · have h1 := absS_perm h
    rw [absS_app] at h1
    have h2 := absS_mem he
    have h3 : absS [e] = e.n.natAbs := by simp [absS]
    rw [absS_app, h3]
    omega
theorem cell_ok {r : List Vl} {col : Nat} (h : ∀ v ∈ r, okP v) : okP (cellV r col) := by
  unfold cellV
  rw [List.getD_eq_getElem?_getD]
  cases hc : r[col]? with
  | none => exact ok_nul
  | some v => exact h v (List.mem_of_getElem? hc)
theorem stepX_cells {nm sr : List UInt8} {col w d N : Nat} {kd : Int} {A : List En} (hk : kd = 0 ∨ kd = 1) (hf : formP ⟨nm, sr, col, kd, w, d⟩) (hN : w * d = N) (hN0 : 0 < N) (hNb : N ≤ 1000) (hd : d ≤ 8) (hA : BagF 500 A) :
    StepX nm sr col kd w d A fun R => .sl 1 N (intc .i64 (foldK kd w d col N R)) := by
  intro R L e hp he
  obtain ⟨q1, q2⟩ := perm_mem hp he
  have heA := q1 e (by simp)
  have hok := cell_ok (col := col) (hA.row e heA).2
  have hpos := hA.pos e heA
  have heb := absS_mem heA
  have hab := hA.abs
  have hvR := foldK_val (nm := nm) (sr := sr) (R := R) (col := col) hk hf hN (fun f hf => hA.pos f (q1 f (by simp [hf]))) (by rw [absS_app] at q2; omega) hd
  have hvR2 := foldK_val (nm := nm) (sr := sr) (R := R ++ [e]) (col := col) hk hf hN (fun f hf => hA.pos f (q1 f hf)) (by omega) hd
  simp only
  rw [foldK_snoc] at hvR2 ⊢
  have hl := foldK_length kd w d col N R
  generalize foldK kd w d col N R = C at *
  have hk2 : kd ≠ 2 := by omega
  by_cases hz : (cellV e.r col).k = 0
  · have : stepE kd w d col C e = C := by unfold stepE; rw [if_pos hz]
    rw [this]
    exact add_nul nm sr col kd w d (cellV e.r col) C N e.n hl hN0 (by omega) (.inl ⟨hk2, hvR⟩) hok hz (by omega) (by omega)
  · have : stepE kd w d col C e = addN kd w (cellV e.r col) e.n C d := by unfold stepE; rw [if_neg hz]
    rw [this] at hvR2 ⊢
    exact add_cnt nm sr col kd w d (cellV e.r col) C N e.n hl (by omega) hvR hN.symm hok hz hpos (by omega) hvR2
theorem stepX_bot {nm sr : List UInt8} {col w d : Nat} {A : List En} (hf : formP ⟨nm, sr, col, 2, w, d⟩) (hw0 : 0 < w) (hw : w ≤ 1000) (hA : BagF 500 A) : StepX nm sr col 2 w d A (botC w col) := by
  intro R L e hp he
  obtain ⟨q1, q2⟩ := perm_mem hp he
  have heA := q1 e (by simp)
  have hok := cell_ok (col := col) (hA.row e heA).2
  have hpos := hA.pos e heA
  have heb := absS_mem heA
  have hab := hA.abs
  have hsn := hashE_snoc col R e
  by_cases h0 : hashE col R = []
  · rw [botC_nil h0]
    by_cases hz : (cellV e.r col).k = 0
    · rw [if_pos hz, h0, List.append_nil] at hsn
      rw [botC_nil hsn]
      exact add_nul_nil nm sr col w d (cellV e.r col) e.n hf hok hz (by omega) (by omega)
    · rw [if_neg hz, h0, List.nil_append] at hsn
      rw [botC_some (by rw [hsn]; simp), hsn]
      exact addb_nil nm sr col w d (cellV e.r col) _ e.n hf hok hz hpos (by omega) rfl
  · have hP := smallI_P (w := w) (l := hashE col R) fun x hx => hashE_bd hx
    have hl0 := small_pos hw0 h0
    have hlw := smallI_length w (hashE col R)
    rw [botC_some h0]
    by_cases hz : (cellV e.r col).k = 0
    · rw [if_pos hz, List.append_nil] at hsn
      rw [botC_some (by rw [hsn]; exact h0), hsn]
      exact add_nul nm sr col 2 w d (cellV e.r col) _ _ e.n rfl hl0 (by omega) (.inr ⟨rfl, hf, hP⟩) hok hz (by omega) (by omega)
    · rw [if_neg hz] at hsn
      rw [botC_some (by rw [hsn]; simp), hsn, ← small_app]
      exact addb_some nm sr col w d (cellV e.r col) _ _ _ e.n rfl hl0 (by omega) hf hP hok hz hpos (by omega) rfl
theorem law_sorder (l : List Int) (n : Nat) (hn : l.length = n) (hb : 8 * n ≤ 140737488355328) : AC Try.prog 11 [.sl 1 n (intc .i64 l)] (.c (bv true)) [] 0 := by
  have hml : n ≤ maxLen := by simp only [maxLen]; omega
  obtain ⟨col, w, d, kd, hsk, c1, w1, w2, d1, d2, hkd⟩ := skF_facts l n 0
  have h1 := tsk_ok l n 0 hn hml (by omega) (by omega)
  rw [hsk] at h1
  obtain ⟨s1, s2⟩ := skA_bd n 0 (by omega) (by omega)
  generalize skA n 0 = a1 at *
  obtain ⟨fa1, fa2, fa3⟩ := bagF_F l n a1 9 (by decide) (by decide)
  obtain ⟨na, hna⟩ : ∃ na, (bagF l n a1 9 false).length = na := ⟨_, rfl⟩
  have h2 := tbag_ok l n a1 8 9 false na hn hml s1 s2 (by decide) (by decide) rfl hna
  obtain ⟨t1, t2⟩ := bagA_bd l n a1 9 s1 s2
  generalize bagF l n a1 9 false = A at *
  generalize bagA l n a1 9 = a2 at *
  have fA := fa1.up (N := 500) (by decide)
  have hna4 : na ≤ 500 := by rw [← hna]; exact fA.len
  have hpA := fA.posP (by decide)
  have e0 : BagF 500 [] := ⟨List.Pairwise.nil, fun e he => (by cases he), fun e he => (by cases he), by simp [absS]⟩
  have hp0 := e0.posP (by decide)
  obtain ⟨hfm, hwd, hwd0⟩ := form_of2 (nm := [115]) (sr := [116, 48]) (col := col) (kd := kd) w1 w2 d1 d2 hkd
  by_cases k2 : kd = 2
  · have hd1 : d = 1 := by omega
    subst k2 hd1
    refine order_walk l n hn hml hb a1 a2 col w 1 2 A na (botC w col) (by omega) (by omega) (by omega) hna hna4 fA.fit fa2 t1 t2 h1 h2 ?_ ?_ ?_ (stepX_bot hfm w1 (by omega) fA)
    · by_cases h0 : hashE col A = []
      · rw [botC_nil h0]
        exact build2_nil [115] [116, 48] col (1 : Nat) w A na hna fA.fit hfm hpA (by omega) h0
      · rw [botC_some h0]
        exact build2_some [115] [116, 48] col (1 : Nat) w _ A na hna fA.fit hfm hpA (by omega) h0 rfl
    · rw [botC_nil rfl]
      exact AC.args (build2_nil [115] [116, 48] col (1 : Nat) w [] 0 rfl e0.fit hfm hp0 (by omega) rfl) (cvl_cons cv_rfl (cvl_cons cv_nil cvl_nil))
    · intro R hR
      rw [botC_congr (hashE_pmem hR)]
      by_cases h0 : hashE col A = []
      · rw [botC_nil h0]
        exact AC.args (rsame_t [] 0 rfl (by simp [maxLen])) (cvl_cons cv_nil (cvl_cons cv_nil cvl_nil))
      · rw [botC_some h0]
        have hlw := smallI_length w (hashE col A)
        exact rsame_t _ _ rfl (by simp only [maxLen]; omega)
  · have hk : kd = 0 ∨ kd = 1 := by omega
    obtain ⟨N, hN⟩ : ∃ N, w * d = N := ⟨_, rfl⟩
    rw [hN] at hwd hwd0
    refine order_walk l n hn hml hb a1 a2 col w d kd A na (fun R => .sl 1 N (intc .i64 (foldK kd w d col N R))) (by omega) (by omega) (by omega) hna hna4 fA.fit fa2 t1 t2 h1 h2 ?_ ?_ ?_ (stepX_cells hk hfm hN hwd0 (by omega) (by omega) fA)
    · have h5 := build_ok [115] [116, 48] col kd w d N A na hna (by simp only [maxLen]; omega) fA.fit k2 hfm hpA (by omega) hN
      rw [foldK_build hN hna] at h5
      exact h5
    · have h6 := build_ok [115] [116, 48] col kd w d N [] 0 rfl (by simp only [maxLen]; omega) e0.fit k2 hfm hp0 (by omega) hN
      rw [foldK_build (A := []) (n := 0) hN rfl] at h6
      exact AC.args h6 (cvl_cons cv_rfl (cvl_cons cv_nil cvl_nil))
    · intro R hR
      rw [foldK_perm hk hR]
      exact rsame_t _ _ (foldK_length ..) (by simp only [maxLen]; omega)
end Go.Proofs.Ytccnhpaldmjkbaa
