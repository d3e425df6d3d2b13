/-
  Joined texts: Z14. Lemmas; no statement of a law.
-/
import Derived.Test.YtccnhpaldmjkbaaGreatM1
import Derived.Test.YtccnhpaldmjkbaaGreatM2
import Derived.Test.YtccnhpaldmjkbaaGreatM3
import Derived.Test.YtccnhpaldmjkbaaGreatM4
import Derived.Test.YtccnhpaldmjkbaaGreatM5
import Derived.Test.YtccnhpaldmjkbaaGreatM6
import Derived.Test.YtccnhpaldmjkbaaGreatM7
import Derived.Test.YtccnhpaldmjkbaaGreatM8
import Derived.Test.YtccnhpaldmjkbaaGreatM9
import Derived.Test.YtccnhpaldmjkbaaGreatM10
import Derived.Test.YtccnhpaldmjkbaaGreatM11
import Derived.Test.YtccnhpaldmjkbaaGreatM12
import Derived.Test.YtccnhpaldmjkbaaGreatM13
/-
  Build of both packages, for every sketch and every bag (walk).
-/
set_option linter.unusedVariables false
set_option linter.unusedSimpArgs false
namespace Go.Proofs.YtccnhpaldmjkbaaGreat
open Go Go.RowKit Go.Av
set_option maxRecDepth 100000
attribute [local irreducible] Still Adds AWL AW Drw DrwE EStep AC AWR Weak Frz Src RetK Out InK ItK AsK RdK RetT OutT ACT ACS RetS ACP RetP
open Classical in
set_option maxHeartbeats 8000000 in
theorem bad_build (s : Sk) (b : List En) (n : Nat) (hn : b.length = n) (hm : n ≤ maxLen) (hfb : fitB b) (hbad : ¬ (formP s ∧ 0 ≤ s.col ∧ posP b)) :
    AC Tryz.prog 63 [.agg s.c, .sl 2 n (ec b)] (.tup [.c (.v (.slice none 0 0)), .c (iv 1)]) [] 0 ∧ AC Tryz.prog 19 [.agg s.c, .sl 2 n (ec b)] (.tup [.c (.v (.slice none 0 0)), .c (iv 1)]) [] 0 := by
  have h1 := form_ok s
  have r1 := rform_ok s
  have h2 := pos_ok b n hn hm hfb
  have r2 := rpos_ok b n hn hm hfb
  have hbl : (ec b).length = n * 2 := by rw [ec_length, hn]
  by_cases f1 : formP s
  · rw [form_t f1] at h1 r1
    by_cases f2 : 0 ≤ s.col
    · have f3 : ¬ posP b := fun h => hbad ⟨f1, f2, h⟩
      have : ∀ i : Decidable (posP b), @decide _ i = false := fun i => @decide_eq_false _ i f3
      rw [this] at h2 r2
      clear this f3 hbad f1 hfb
      constructor
      · obtain ⟨nm, sr, col, kd, w, d⟩ := s
        simp only [Sk.c] at *
        refine ac_enter tabOk (sz := 57) Tryz.func63 rfl (by rw [Tryz.ntmps63]; rfl) ?_
        repeat' (first
    | ((with_reducible refine aw_seqk ?_); intro K hK hX)
    | ((with_reducible refine isC_reg ?_); refine aw_prune [0, 1, 2, 4, 5, 6, 8, 9, 35, 36, 37] rfl rfl ?_; with_reducible refine aw_region ?_)
    | ((with_reducible refine isA_call ?_); (first | refine zA ?_ | refine zN ?_); (first | refine c0 (h1) ?_ | refine c0 (h2) ?_))
    | refine stA ?_
    | (refine hK _ _ _ _ ?_; clear hK hX K)
    | (refine hX _ _ _ _ _ (by simp) ?_; clear hK hX K))
        refine retK_mk (by first | exact .inl rfl | exact .inr rfl) (by exact ⟨bu_idle, bu_idle_b, trivial⟩) rfl (ResL.two (ResA.tmp rfl) (ResA.tmp rfl)) (out_t (frzl_cons zfz (frzl_cons zfz frzl_nil)))
      · obtain ⟨nm, sr, col, kd, w, d⟩ := s
        simp only [Sk.c] at *
        refine ac_enter tabOk (sz := 69) Tryz.func19 rfl (by rw [Tryz.ntmps19]; rfl) ?_
        repeat' (first
    | ((with_reducible refine aw_seqk ?_); intro K hK hX)
    | ((with_reducible refine isC_reg ?_); refine aw_prune [0, 1, 2, 4, 5, 6, 7] rfl rfl ?_; with_reducible refine aw_region ?_)
    | ((with_reducible refine isC_draw ?_); refine aw_prune [0, 1, 2, 4, 5, 6, 7] rfl rfl ?_; refine aw_drwF [] ?_)
    | ((first | with_reducible refine isA_call ?_ | with_reducible refine isD_call ?_); (first | refine zA ?_ | refine zN ?_ | refine zD ?_); (first | refine c0 (r1) ?_ | refine c0 (r2) ?_))
    | refine stA ?_
    | refine stD ?_
    | (refine hK _ _ _ _ ?_; clear hK hX K)
    | (refine hX _ _ _ _ _ (by simp) ?_; clear hK hX K))
        refine retK_mk (by first | exact .inl rfl | exact .inr rfl) (by exact trivial) rfl (ResL.two (ResA.tmp rfl) (ResA.tmp rfl)) (out_t (frzl_cons zfz (frzl_cons zfz frzl_nil)))
    · clear hbad f1 hfb
      constructor
      · obtain ⟨nm, sr, col, kd, w, d⟩ := s
        simp only [Sk.c] at *
        refine ac_enter tabOk (sz := 57) Tryz.func63 rfl (by rw [Tryz.ntmps63]; rfl) ?_
        repeat' (first
    | ((with_reducible refine aw_seqk ?_); intro K hK hX)
    | ((with_reducible refine isC_reg ?_); refine aw_prune [0, 1, 2, 4, 5, 6, 8, 9, 35, 36, 37] rfl rfl ?_; with_reducible refine aw_region ?_)
    | ((with_reducible refine isA_call ?_); (first | refine zA ?_ | refine zN ?_); (first | refine c0 (h1) ?_ | refine c0 (h2) ?_))
    | refine stA ?_
    | (refine hK _ _ _ _ ?_; clear hK hX K)
    | (refine hX _ _ _ _ _ (by simp) ?_; clear hK hX K))
        refine retK_mk (by first | exact .inl rfl | exact .inr rfl) (by exact ⟨bu_idle, bu_idle_b, trivial⟩) rfl (ResL.two (ResA.tmp rfl) (ResA.tmp rfl)) (out_t (frzl_cons zfz (frzl_cons zfz frzl_nil)))
      · obtain ⟨nm, sr, col, kd, w, d⟩ := s
        simp only [Sk.c] at *
        refine ac_enter tabOk (sz := 69) Tryz.func19 rfl (by rw [Tryz.ntmps19]; rfl) ?_
        repeat' (first
    | ((with_reducible refine aw_seqk ?_); intro K hK hX)
    | ((with_reducible refine isC_reg ?_); refine aw_prune [0, 1, 2, 4, 5, 6, 7] rfl rfl ?_; with_reducible refine aw_region ?_)
    | ((with_reducible refine isC_draw ?_); refine aw_prune [0, 1, 2, 4, 5, 6, 7] rfl rfl ?_; refine aw_drwF [] ?_)
    | ((first | with_reducible refine isA_call ?_ | with_reducible refine isD_call ?_); (first | refine zA ?_ | refine zN ?_ | refine zD ?_); (first | refine c0 (r1) ?_ | refine c0 (r2) ?_))
    | refine stA ?_
    | refine stD ?_
    | (refine hK _ _ _ _ ?_; clear hK hX K)
    | (refine hX _ _ _ _ _ (by simp) ?_; clear hK hX K))
        refine retK_mk (by first | exact .inl rfl | exact .inr rfl) (by exact trivial) rfl (ResL.two (ResA.tmp rfl) (ResA.tmp rfl)) (out_t (frzl_cons zfz (frzl_cons zfz frzl_nil)))
  · rw [form_f f1] at h1 r1
    clear hbad f1 hfb
    constructor
    · obtain ⟨nm, sr, col, kd, w, d⟩ := s
      simp only [Sk.c] at *
      refine ac_enter tabOk (sz := 57) Tryz.func63 rfl (by rw [Tryz.ntmps63]; rfl) ?_
      repeat' (first
    | ((with_reducible refine aw_seqk ?_); intro K hK hX)
    | ((with_reducible refine isC_reg ?_); refine aw_prune [0, 1, 2, 4, 5, 6, 8, 9, 35, 36, 37] rfl rfl ?_; with_reducible refine aw_region ?_)
    | ((with_reducible refine isA_call ?_); (first | refine zA ?_ | refine zN ?_); (first | refine c0 (h1) ?_ | refine c0 (h2) ?_))
    | refine stA ?_
    | (refine hK _ _ _ _ ?_; clear hK hX K)
    | (refine hX _ _ _ _ _ (by simp) ?_; clear hK hX K))
      refine retK_mk (by first | exact .inl rfl | exact .inr rfl) (by exact ⟨bu_idle, bu_idle_b, trivial⟩) rfl (ResL.two (ResA.tmp rfl) (ResA.tmp rfl)) (out_t (frzl_cons zfz (frzl_cons zfz frzl_nil)))
    · obtain ⟨nm, sr, col, kd, w, d⟩ := s
      simp only [Sk.c] at *
      refine ac_enter tabOk (sz := 69) Tryz.func19 rfl (by rw [Tryz.ntmps19]; rfl) ?_
      repeat' (first
    | ((with_reducible refine aw_seqk ?_); intro K hK hX)
    | ((with_reducible refine isC_reg ?_); refine aw_prune [0, 1, 2, 4, 5, 6, 7] rfl rfl ?_; with_reducible refine aw_region ?_)
    | ((with_reducible refine isC_draw ?_); refine aw_prune [0, 1, 2, 4, 5, 6, 7] rfl rfl ?_; refine aw_drwF [] ?_)
    | ((first | with_reducible refine isA_call ?_ | with_reducible refine isD_call ?_); (first | refine zA ?_ | refine zN ?_ | refine zD ?_); (first | refine c0 (r1) ?_ | refine c0 (r2) ?_))
    | refine stA ?_
    | refine stD ?_
    | (refine hK _ _ _ _ ?_; clear hK hX K)
    | (refine hX _ _ _ _ _ (by simp) ?_; clear hK hX K))
      refine retK_mk (by first | exact .inl rfl | exact .inr rfl) (by exact trivial) rfl (ResL.two (ResA.tmp rfl) (ResA.tmp rfl)) (out_t (frzl_cons zfz (frzl_cons zfz frzl_nil)))
theorem cvl2 {x y : CV} (h : Cv x y) : CvL [x, x] [y, y] := cvl_cons h (cvl_cons h cvl_nil)
/-- What Build of both gives. -/
theorem build_both (s : Sk) (b : List En) (n : Nat) (hn : b.length = n) (hm : n ≤ maxLen) (hfb : fitB b) (hcol : s.col ≤ 9223372036854775807) : ∃ (X : CV) (z : Int), AC Tryz.prog 63 [.agg s.c, .sl 2 n (ec b)] (.tup [.c X, .c (iv z)]) [] 0 ∧ AC Tryz.prog 19 [.agg s.c, .sl 2 n (ec b)] (.tup [.c X, .c (iv z)]) [] 0 ∧ AC Tryz.prog 66 [X, X] (.c (bv true)) [] 0 := by
  by_cases hok : formP s ∧ 0 ≤ s.col ∧ posP b
  · obtain ⟨hf, hc, hp⟩ := hok
    obtain ⟨nm, sr, col, kd, w, d⟩ := s
    simp only [Sk.c] at *
    obtain ⟨f1, f2, f3, f4, f5, f6⟩ := id hf
    simp only at f1 f2 f3 f4 f5 f6
    obtain ⟨W, rfl⟩ : ∃ W : Nat, w = W := ⟨w.toNat, by omega⟩
    obtain ⟨D, rfl⟩ : ∃ D : Nat, d = D := ⟨d.toNat, by omega⟩
    obtain ⟨C, rfl⟩ : ∃ C : Nat, col = C := ⟨col.toNat, by omega⟩
    by_cases k2 : kd = 2
    · subst k2
      refine ⟨botC W C b, 0, ?_, rbuildb_ok nm sr C D W b n hn hfb hf hp (by omega), ?_⟩
      · by_cases h0 : hashE C b = []
        · rw [botC_nil h0]
          exact build2_nil nm sr C D W b n hn hfb hf hp (by omega) h0
        · rw [botC_some h0]
          exact build2_some nm sr C D W _ b n hn hfb hf hp (by omega) h0 rfl
      · exact AC.args (rsame_t (smallI W (hashE C b)) _ rfl (by have := smallI_length W (hashE C b); simp only [maxLen]; omega)) (cvl2 (botC_cv0 W C b))
    · obtain ⟨N, hN⟩ : ∃ N, W * D = N := ⟨_, rfl⟩
      have hNb : N ≤ 1024 := by have : (W : Int) * (D : Int) = ((W * D : Nat) : Int) := by simp
                                omega
      exact ⟨_, 0, build_ok nm sr C kd W D N b n hn hm hfb k2 hf hp (by omega) hN, rbuildc_ok nm sr C kd W D N b n hn hfb k2 hf hp (by omega) hN, rsame_t _ N (by rw [buildN_length, hN]) (by simp only [maxLen]; omega)⟩
  · obtain ⟨h1, h2⟩ := bad_build s b n hn hm hfb hok
    exact ⟨_, 1, h1, h2, AC.args (rsame_t [] 0 rfl (by simp only [maxLen]; omega)) (cvl2 cv_nil)⟩
theorem eqii (z : Int) : decide (z = z) = true := decide_eq_true rfl
set_option maxHeartbeats 4000000 in
theorem builds_ok (s : Sk) (b : List En) (n : Nat) (hn : b.length = n) (hm : n ≤ maxLen) (hfb : fitB b) (hcol : s.col ≤ 9223372036854775807) : AC Tryz.prog 25 [.agg s.c, .sl 2 n (ec b)] (.c (bv true)) [] 0 := by
  obtain ⟨X, z, h1, h2, h3⟩ := build_both s b n hn hm hfb hcol
  obtain ⟨nm, sr, col, kd, w, d⟩ := s
  have hbl : (ec b).length = n * 2 := by rw [ec_length, hn]
  simp only [Sk.c] at *
  clear hm hfb
  refine ac_enter tabOk (sz := 29) Tryz.func25 rfl (by rw [Tryz.ntmps25]; rfl) ?_
  repeat' (first
    | ((with_reducible refine aw_seqk ?_); intro K hK hX)
    | ((with_reducible refine isC_reg ?_); refine aw_prune [0, 1, 2, 4, 5, 6, 7, 8] rfl rfl ?_; with_reducible refine aw_region ?_)
    | ((with_reducible refine isA_call ?_); (first | refine zA ?_ | refine zN ?_); (first | refine c0 (h1) ?_ | refine c0 (h2) ?_ | refine c0 (h3) ?_))
    | (((with_reducible refine isA_any ?_); refine xA ?_); (first | ((with_reducible refine e_bin ?_); (first | refine ex_i (s_cmp rfl rfl rfl (eqii _)) ?_))))
    | refine stA ?_
    | (refine hK _ _ _ _ ?_; clear hK hX K)
    | (refine hX _ _ _ _ _ (by simp) ?_; clear hK hX K))
  refine retK_mk (by first | exact .inl rfl | exact .inr rfl) (by exact trivial) rfl (ResL.one (ResA.tmp rfl)) (by first | exact out_c zfz | exact out_own rfl rfl)
end Go.Proofs.YtccnhpaldmjkbaaGreat
