/-
  Joined texts: Z11. Lemmas; no statement of a law.
-/
import Derived.Test.YtccnhpaldmjkbaaGreatM1
import Derived.Test.YtccnhpaldmjkbaaGreatM2
import Derived.Test.YtccnhpaldmjkbaaGreatM3
import Derived.Test.YtccnhpaldmjkbaaGreatM4
import Derived.Test.YtccnhpaldmjkbaaGreatM5
import Derived.Test.YtccnhpaldmjkbaaGreatM6
import Derived.Test.YtccnhpaldmjkbaaGreatM7
import Derived.Test.YtccnhpaldmjkbaaGreatM8
import Derived.Test.YtccnhpaldmjkbaaGreatM9
import Derived.Test.YtccnhpaldmjkbaaGreatM10
import Derived.Test.YtccnhpaldmjkbaaGreatM11
import Derived.Test.YtccnhpaldmjkbaaGreatM12
import Derived.Test.YtccnhpaldmjkbaaGreatM13
import Derived.Test.YtccnhpaldmjkbaaGreatM14
/-
  The law SketchValid (walk), and its kinds of sketches.
-/
set_option linter.unusedVariables false
set_option linter.unusedSimpArgs false
namespace Go.Proofs.YtccnhpaldmjkbaaGreat
open Go Go.RowKit Go.Av
set_option maxRecDepth 100000
theorem beqb (b : Bool) : (b == b) = true := by cases b <;> rfl
attribute [local irreducible] Still Adds AWL AW Drw DrwE EStep AC AWR Weak Frz Src RetK Out InK ItK AsK RdK RetT OutT ACT ACS RetS ACP RetP
set_option maxHeartbeats 8000000 in
theorem svalid_walk (l : List Int) (n : Nat) (hn : l.length = n) (hml : n ≤ maxLen) (hb : 8 * n ≤ 140737488355328) (a1 a2 a3 a4 : Int) (x y s : Sk) (cells : List Int) (m : Nat) (hm : cells.length = m) (hmm : m ≤ maxLen) (A : List En) (na : Nat) (hna : A.length = na) (X D C : CV) (b1 b2 b3 b4 : Bool)
    (hC : m ≤ 1100 ∧ C = .sl 1 m (intc .i64 cells) ∨ 1100 < m ∧ C = .v (.slice none 0 0))
    (h1 : ACT Tryz.prog 18 72 (tpC l n 0) [] (tpC l n a1) (.agg x.c))
    (h2 : ACT Tryz.prog 14 72 (tpC l n a1) [iv 2, iv 8, bv false] (tpC l n a2) (.sl 2 na (ec A)))
    (h3 : AC Tryz.prog 19 [.agg x.c, .sl 2 na (ec A)] (.tup [.c X, .c (iv 0)]) [] 0)
    (h4 : ACT Tryz.prog 20 72 (tpC l n a2) [X] (tpC l n a3) D)
    (h5 : ACT Tryz.prog 21 72 (tpC l n a3) [.agg x.c] (tpC l n a4) (.agg y.c))
    (v0 : AC Tryz.prog 22 [.agg x.c, X] (.c (bv true)) [] 0)
    (v1 : AC Tryz.prog 22 [.agg x.c, D] (.c (bv b1)) [] 0) (r1 : AC Tryz.prog 23 [.agg x.c, D] (.c (bv b1)) [] 0)
    (v2 : AC Tryz.prog 22 [.agg y.c, X] (.c (bv b2)) [] 0) (r2 : AC Tryz.prog 23 [.agg y.c, X] (.c (bv b2)) [] 0)
    (v3 : AC Tryz.prog 22 [.agg s.c, C] (.c (bv b3)) [] 0) (r3 : AC Tryz.prog 23 [.agg s.c, C] (.c (bv b3)) [] 0)
    (v4 : AC Tryz.prog 22 [.agg x.c, C] (.c (bv b4)) [] 0) (r4 : AC Tryz.prog 23 [.agg x.c, C] (.c (bv b4)) [] 0) :
    AC Tryz.prog 4 [.sl 1 n (intc .i64 l), .agg s.c, .sl 1 m (intc .i64 cells)] (.c (bv true)) [] 0 := by
  have haw := awake12_ok
  have hml2 : m ≤ 9223372036854775807 := hmm
  clear hmm
  have hil : (intc .i64 l).length = n := by rw [intc_length, hn]
  have hcl : (intc .i64 cells).length = m := by rw [intc_length, hm]
  have hAl : (ec A).length = na * 2 := by rw [ec_length, hna]
  obtain ⟨x1, x2, x3, x4, x5, x6⟩ := x
  obtain ⟨y1, y2, y3, y4, y5, y6⟩ := y
  obtain ⟨s1, s2, s3, s4, s5, s6⟩ := s
  simp only [Sk.c] at *
  rcases hC with ⟨hc, rfl⟩ | ⟨hc, rfl⟩
  · refine ac_enter tabOk (sz := 75) Tryz.func4 rfl (by rw [Tryz.ntmps4]; rfl) ?_
    repeat' (first
    | ((with_reducible refine aw_seqk ?_); intro K hK hX)
    | ((with_reducible refine isC_reg ?_); refine aw_prune [0, 1, 2, 4, 6, 7, 8, 9, 11, 12] rfl rfl ?_; with_reducible refine aw_region ?_)
    | ((with_reducible refine isE_move ?_); refine d_still0 g_none (s_move rfl) ?_)
    | ((with_reducible refine isC_draw (i := 5) ?_); refine aw_prune [0, 1, 2, 4, 6, 7, 8, 9, 11, 12] rfl rfl ?_; refine aw_drwE [9] ?_)
    | ((with_reducible refine isC_draw (i := 6) ?_); refine aw_prune [0, 1, 2, 4, 6, 7, 8, 9, 11, 12] rfl rfl ?_; refine aw_drwE [9] ?_)
    | ((with_reducible refine isC_draw ?_); refine aw_prune [0, 1, 2, 4, 6, 7, 8, 9, 11, 12] rfl rfl ?_; refine aw_drwF [9] ?_)
    | ((with_reducible refine isA_build ?_); refine awl_fzE (m' := n) (cs' := intc .i64 l) 5 rfl rfl zln (by omega) (by simp) ?_)
    | ((with_reducible refine isA_call ?_); refine awl_callT (h1) g_none rfl (by unfold Body; kernel_rfl) rfl rfl rfl rfl zcv rfl (by (try simp only [tpC, List.map_cons, List.map_nil]); exact rfl) ?_)
    | ((with_reducible refine isE_call ?_); refine d_callT (h1) g_none rfl rfl (by unfold Body; kernel_rfl) rfl rfl rfl rfl zcv rfl (by (try simp only [tpC, List.map_cons, List.map_nil]); exact rfl) rfl ?_)
    | ((with_reducible refine isA_call ?_); refine awl_callT (h2) g_none rfl (by unfold Body; kernel_rfl) rfl rfl rfl rfl zcv rfl (by (try simp only [tpC, List.map_cons, List.map_nil]); exact rfl) ?_)
    | ((with_reducible refine isE_call ?_); refine d_callT (h2) g_none rfl rfl (by unfold Body; kernel_rfl) rfl rfl rfl rfl zcv rfl (by (try simp only [tpC, List.map_cons, List.map_nil]); exact rfl) rfl ?_)
    | ((with_reducible refine isA_call ?_); refine awl_callT (h4) g_none rfl (by unfold Body; kernel_rfl) rfl rfl rfl rfl zcv rfl (by (try simp only [tpC, List.map_cons, List.map_nil]); exact rfl) ?_)
    | ((with_reducible refine isE_call ?_); refine d_callT (h4) g_none rfl rfl (by unfold Body; kernel_rfl) rfl rfl rfl rfl zcv rfl (by (try simp only [tpC, List.map_cons, List.map_nil]); exact rfl) rfl ?_)
    | ((with_reducible refine isA_call ?_); refine awl_callT (h5) g_none rfl (by unfold Body; kernel_rfl) rfl rfl rfl rfl zcv rfl (by (try simp only [tpC, List.map_cons, List.map_nil]); exact rfl) ?_)
    | ((with_reducible refine isE_call ?_); refine d_callT (h5) g_none rfl rfl (by unfold Body; kernel_rfl) rfl rfl rfl rfl zcv rfl (by (try simp only [tpC, List.map_cons, List.map_nil]); exact rfl) rfl ?_)
    | ((first | with_reducible refine isA_call ?_ | with_reducible refine isD_call ?_ | with_reducible refine isE_call ?_); (first | refine zA ?_ | refine zN ?_ | refine zD ?_ | refine zE ?_); (first | refine c0 (h3) ?_ | refine c0 (v0) ?_ | refine c0 (v1) ?_ | refine c0 (r1) ?_ | refine c0 (v2) ?_ | refine c0 (r2) ?_ | refine c0 (v3) ?_ | refine c0 (r3) ?_ | refine c0 (v4) ?_ | refine c0 (r4) ?_ | refine c0 (haw) ?_))
    | ((first | with_reducible refine isA_call ?_ | with_reducible refine isA_callv ?_); refine awl_inl tabOk [0, 1, 2, 3, 4, 5, 6, 7, 8, 9, 10, 11, 12, 13, 14, 15, 16, 17, 18, 19, 20, 21, 22, 23, 24, 25, 26, 27, 28, 29, 30, 31, 32, 33, 34, 35, 36, 37, 38, 39, 40, 41, 42, 43, 44, 45, 46, 47, 48, 49, 50, 51, 52, 53, 54, 55, 56, 57, 58, 59, 60, 61, 62, 63, 64, 65, 66, 67, 68, 69, 70, 71, 72, 73, 74] g_none rfl rfl (by unfold Body; kernel_rfl) Tryz.func9 rfl rfl rfl (szf := 8) (by rw [Tryz.ntmps9]; rfl) rfl ?_)
    | ((first | ((with_reducible refine isA_any ?_); refine xA ?_) | ((with_reducible refine isDk_any ?_); refine xD ?_) | ((with_reducible refine isEk_any ?_); refine xE ?_)); (first | ((with_reducible refine e_bin ?_); (first | refine ex_i (s_eqlB tabOk rfl rfl rfl rfl (beqb _)) ?_))))
    | ((with_reducible refine isA_store ?_); refine awl_storeA tabOk g_none rfl rfl rfl (by first | exact Parts.mixed _ | exact Parts.closed _) (by rfl) (by rfl) rfl (Nat.le_of_ble_eq_true rfl) (by rfl) ?_)
    | ((with_reducible refine isE_store ?_); refine d_storeA tabOk g_none rfl rfl rfl rfl rfl (by first | exact Parts.mixed _ | exact Parts.closed _) (by rfl) (by rfl) rfl (Nat.le_of_ble_eq_true rfl) (by rfl) rfl ?_)
    | (refine drwE_end3 (by kernel_rfl) (by kernel_rfl) (by kernel_rfl) (by kernel_rfl) rfl ?_)
    | refine stA ?_
    | refine stD ?_
    | refine stE ?_
    | (refine hK _ _ _ _ ?_; clear hK hX K)
    | (refine hX _ _ _ _ _ (by simp) ?_; clear hK hX K)
    | (first | refine inK_some (by first | exact .inl rfl | exact .inr rfl) (by exact trivial) rfl rfl (ResL.one (ResA.tmp rfl)) ?_ | refine inK_none (by first | exact .inl rfl | exact .inr rfl) (by exact trivial) rfl rfl (ResL.one (ResA.tmp rfl)) ?_))
    refine retK_mk (by first | exact .inl rfl | exact .inr rfl) (by exact trivial) rfl (ResL.one (ResA.tmp rfl)) (by first | exact out_c zfz | exact out_own rfl rfl)
  · refine ac_enter tabOk (sz := 75) Tryz.func4 rfl (by rw [Tryz.ntmps4]; rfl) ?_
    repeat' (first
    | ((with_reducible refine aw_seqk ?_); intro K hK hX)
    | ((with_reducible refine isC_reg ?_); refine aw_prune [0, 1, 2, 4, 6, 7, 8, 9, 11, 12] rfl rfl ?_; with_reducible refine aw_region ?_)
    | ((with_reducible refine isE_move ?_); refine d_still0 g_none (s_move rfl) ?_)
    | ((with_reducible refine isC_draw (i := 5) ?_); refine aw_prune [0, 1, 2, 4, 6, 7, 8, 9, 11, 12] rfl rfl ?_; refine aw_drwE [9] ?_)
    | ((with_reducible refine isC_draw (i := 6) ?_); refine aw_prune [0, 1, 2, 4, 6, 7, 8, 9, 11, 12] rfl rfl ?_; refine aw_drwE [9] ?_)
    | ((with_reducible refine isC_draw ?_); refine aw_prune [0, 1, 2, 4, 6, 7, 8, 9, 11, 12] rfl rfl ?_; refine aw_drwF [9] ?_)
    | ((with_reducible refine isA_build ?_); refine awl_fzE (m' := n) (cs' := intc .i64 l) 5 rfl rfl zln (by omega) (by simp) ?_)
    | ((with_reducible refine isA_call ?_); refine awl_callT (h1) g_none rfl (by unfold Body; kernel_rfl) rfl rfl rfl rfl zcv rfl (by (try simp only [tpC, List.map_cons, List.map_nil]); exact rfl) ?_)
    | ((with_reducible refine isE_call ?_); refine d_callT (h1) g_none rfl rfl (by unfold Body; kernel_rfl) rfl rfl rfl rfl zcv rfl (by (try simp only [tpC, List.map_cons, List.map_nil]); exact rfl) rfl ?_)
    | ((with_reducible refine isA_call ?_); refine awl_callT (h2) g_none rfl (by unfold Body; kernel_rfl) rfl rfl rfl rfl zcv rfl (by (try simp only [tpC, List.map_cons, List.map_nil]); exact rfl) ?_)
    | ((with_reducible refine isE_call ?_); refine d_callT (h2) g_none rfl rfl (by unfold Body; kernel_rfl) rfl rfl rfl rfl zcv rfl (by (try simp only [tpC, List.map_cons, List.map_nil]); exact rfl) rfl ?_)
    | ((with_reducible refine isA_call ?_); refine awl_callT (h4) g_none rfl (by unfold Body; kernel_rfl) rfl rfl rfl rfl zcv rfl (by (try simp only [tpC, List.map_cons, List.map_nil]); exact rfl) ?_)
    | ((with_reducible refine isE_call ?_); refine d_callT (h4) g_none rfl rfl (by unfold Body; kernel_rfl) rfl rfl rfl rfl zcv rfl (by (try simp only [tpC, List.map_cons, List.map_nil]); exact rfl) rfl ?_)
    | ((with_reducible refine isA_call ?_); refine awl_callT (h5) g_none rfl (by unfold Body; kernel_rfl) rfl rfl rfl rfl zcv rfl (by (try simp only [tpC, List.map_cons, List.map_nil]); exact rfl) ?_)
    | ((with_reducible refine isE_call ?_); refine d_callT (h5) g_none rfl rfl (by unfold Body; kernel_rfl) rfl rfl rfl rfl zcv rfl (by (try simp only [tpC, List.map_cons, List.map_nil]); exact rfl) rfl ?_)
    | ((first | with_reducible refine isA_call ?_ | with_reducible refine isD_call ?_ | with_reducible refine isE_call ?_); (first | refine zA ?_ | refine zN ?_ | refine zD ?_ | refine zE ?_); (first | refine c0 (h3) ?_ | refine c0 (v0) ?_ | refine c0 (v1) ?_ | refine c0 (r1) ?_ | refine c0 (v2) ?_ | refine c0 (r2) ?_ | refine c0 (v3) ?_ | refine c0 (r3) ?_ | refine c0 (v4) ?_ | refine c0 (r4) ?_ | refine c0 (haw) ?_))
    | ((first | with_reducible refine isA_call ?_ | with_reducible refine isA_callv ?_); refine awl_inl tabOk [0, 1, 2, 3, 4, 5, 6, 7, 8, 9, 10, 11, 12, 13, 14, 15, 16, 17, 18, 19, 20, 21, 22, 23, 24, 25, 26, 27, 28, 29, 30, 31, 32, 33, 34, 35, 36, 37, 38, 39, 40, 41, 42, 43, 44, 45, 46, 47, 48, 49, 50, 51, 52, 53, 54, 55, 56, 57, 58, 59, 60, 61, 62, 63, 64, 65, 66, 67, 68, 69, 70, 71, 72, 73, 74] g_none rfl rfl (by unfold Body; kernel_rfl) Tryz.func9 rfl rfl rfl (szf := 8) (by rw [Tryz.ntmps9]; rfl) rfl ?_)
    | ((first | ((with_reducible refine isA_any ?_); refine xA ?_) | ((with_reducible refine isDk_any ?_); refine xD ?_) | ((with_reducible refine isEk_any ?_); refine xE ?_)); (first | ((with_reducible refine e_bin ?_); (first | refine ex_i (s_eqlB tabOk rfl rfl rfl rfl (beqb _)) ?_))))
    | ((with_reducible refine isA_store ?_); refine awl_storeA tabOk g_none rfl rfl rfl (by first | exact Parts.mixed _ | exact Parts.closed _) (by rfl) (by rfl) rfl (Nat.le_of_ble_eq_true rfl) (by rfl) ?_)
    | ((with_reducible refine isE_store ?_); refine d_storeA tabOk g_none rfl rfl rfl rfl rfl (by first | exact Parts.mixed _ | exact Parts.closed _) (by rfl) (by rfl) rfl (Nat.le_of_ble_eq_true rfl) (by rfl) rfl ?_)
    | (refine drwE_end3 (by kernel_rfl) (by kernel_rfl) (by kernel_rfl) (by kernel_rfl) rfl ?_)
    | refine stA ?_
    | refine stD ?_
    | refine stE ?_
    | (refine hK _ _ _ _ ?_; clear hK hX K)
    | (refine hX _ _ _ _ _ (by simp) ?_; clear hK hX K)
    | (first | refine inK_some (by first | exact .inl rfl | exact .inr rfl) (by exact trivial) rfl rfl (ResL.one (ResA.tmp rfl)) ?_ | refine inK_none (by first | exact .inl rfl | exact .inr rfl) (by exact trivial) rfl rfl (ResL.one (ResA.tmp rfl)) ?_))
    refine retK_mk (by first | exact .inl rfl | exact .inr rfl) (by exact trivial) rfl (ResL.one (ResA.tmp rfl)) (by first | exact out_c zfz | exact out_own rfl rfl)
theorem law_svalid (l : List Int) (n : Nat) (hn : l.length = n) (hb : 8 * n ≤ 140737488355328) (s : Sk) (cells : List Int) (m : Nat) (hm : cells.length = m) (hmm : m ≤ maxLen) : AC Tryz.prog 4 [.sl 1 n (intc .i64 l), .agg s.c, .sl 1 m (intc .i64 cells)] (.c (bv true)) [] 0 := by
  have hml : n ≤ maxLen := by simp only [maxLen]; omega
  obtain ⟨col, w, d, kd, hsk, c1, w1, w2, d1, d2, hkd⟩ := skF_facts l n 0
  have h1 := tsk_ok l n 0 hn hml (by omega) (by omega)
  rw [hsk] at h1
  obtain ⟨s1, s2⟩ := skA_bd n 0 (by omega) (by omega)
  generalize skA n 0 = a1 at *
  obtain ⟨fa1, fa2, fa3⟩ := bagF_F l n a1 9 (by decide) (by decide)
  obtain ⟨na, hna⟩ : ∃ na, (bagF l n a1 9 false).length = na := ⟨_, rfl⟩
  have h2 := tbag_ok l n a1 8 9 false na hn hml s1 s2 (by decide) (by decide) rfl hna
  obtain ⟨t1, t2⟩ := bagA_bd l n a1 9 s1 s2
  generalize bagF l n a1 9 false = A at *
  generalize bagA l n a1 9 = a2 at *
  have fA := fa1.up (N := 500) (by decide)
  have hpA := fA.posP (by decide)
  obtain ⟨hfm, hwd, hwd0⟩ := form_of3 (nm := [115]) (sr := [116, 48]) (col := col) (kd := kd) w1 w2 d1 d2 hkd
  have key : ∃ (X : CV) (L : List Int) (q : Nat), L.length = q ∧ q ≤ 1000 ∧ Cv X (.sl 1 q (intc .i64 L)) ∧ AC Tryz.prog 19 [.agg (Sk.c ⟨[115], [116, 48], col, kd, w, d⟩), .sl 2 na (ec A)] (.tup [.c X, .c (iv 0)]) [] 0 ∧ AC Tryz.prog 22 [.agg (Sk.c ⟨[115], [116, 48], col, kd, w, d⟩), .sl 1 q (intc .i64 L)] (.c (bv true)) [] 0 := by
    by_cases k2 : kd = 2
    · have hd1 : d = 1 := by omega
      subst k2 hd1
      have hP := smallI_P (w := w) (l := hashE col A) fun x hx => hashE_bd hx
      have m4 := valb_ok [115] [116, 48] col (1 : Nat) w (smallI w (hashE col A)) _ rfl (by have := hP.1; simp only [maxLen]; omega) (by omega)
      have : ∀ i : Decidable (formP ⟨[115], [116, 48], col, 2, w, (1 : Nat)⟩ ∧ hashP w (smallI w (hashE col A))), @decide _ i = true := fun i => @decide_eq_true _ i ⟨hfm, hP⟩
      rw [this] at m4
      refine ⟨_, smallI w (hashE col A), _, rfl, by have := hP.1; omega, botC_cv0 w col A, ?_, m4⟩
      exact rbuildb_ok [115] [116, 48] col (1 : Nat) w A na hna fA.fit hfm hpA (by omega)
    · have hk : kd = 0 ∨ kd = 1 := by omega
      obtain ⟨N, hN⟩ : ∃ N, w * d = N := ⟨_, rfl⟩
      rw [hN] at hwd hwd0
      have hab := fA.abs
      have hv := foldK_val (nm := [115]) (sr := [116, 48]) (R := A) (col := col) hk hfm hN fA.pos (by omega) (by omega)
      have h5 := rbuildc_ok [115] [116, 48] col kd w d N A na hna fA.fit k2 hfm hpA (by omega) hN
      rw [foldK_build hN hna] at h5
      have m4 := valc_ok ⟨[115], [116, 48], col, kd, w, d⟩ (foldK kd w d col N A) N (foldK_length ..) k2 (by simp only [maxLen]; omega)
      have : ∀ i : Decidable (valC ⟨[115], [116, 48], col, kd, w, d⟩ (foldK kd w d col N A)), @decide _ i = true := fun i => @decide_eq_true _ i hv
      rw [this] at m4
      exact ⟨_, _, N, foldK_length .., by omega, cv_rfl, h5, m4⟩
  obtain ⟨X, L, q, hq, hqb, hcv, h3, v0⟩ := key
  obtain ⟨e, Q, a3, he, hQ, b1, b2, h4⟩ := tspc_ok l n a2 L q hn hml t1 t2 hq (by omega)
  obtain ⟨y, a4, hy, b3, b4, h5⟩ := tsps_ok l n a3 ⟨[115], [116, 48], col, kd, w, d⟩ hn hml b1 b2
  obtain ⟨x1, v1, r1⟩ := vboth ⟨[115], [116, 48], col, kd, w, d⟩ e Q he (by simp only [maxLen]; omega)
  obtain ⟨x2, v2, r2⟩ := vboth y L q hq (by simp only [maxLen]; omega)
  have hx : CvL [X] [.sl 1 q (intc .i64 L)] := cvl_cons hcv cvl_nil
  have hc2 : ∀ t : Sk, CvL [.agg t.c, X] [.agg t.c, .sl 1 q (intc .i64 L)] := fun t => cvl_cons cv_rfl hx
  by_cases hc : m ≤ 1100
  · obtain ⟨x3, v3, r3⟩ := vboth s cells m hm hmm
    obtain ⟨x4, v4, r4⟩ := vboth ⟨[115], [116, 48], col, kd, w, d⟩ cells m hm hmm
    exact svalid_walk l n hn hml hb a1 a2 a3 a4 _ y s cells m hm hmm A na hna X _ _ x1 x2 x3 x4 (.inl ⟨hc, rfl⟩) h1 h2 h3 (ACT.args h4 hx) h5 (AC.args v0 (hc2 _)) v1 r1 (AC.args v2 (hc2 _)) (AC.args r2 (hc2 _)) v3 r3 v4 r4
  · obtain ⟨x3, v3, r3⟩ := vboth s [] 0 rfl (by simp only [maxLen]; omega)
    obtain ⟨x4, v4, r4⟩ := vboth ⟨[115], [116, 48], col, kd, w, d⟩ [] 0 rfl (by simp only [maxLen]; omega)
    have hz : ∀ t : Sk, CvL [.agg t.c, .v (.slice none 0 0)] [.agg t.c, .sl 1 0 (intc .i64 [])] := fun t => cvl_cons cv_rfl (cvl_cons cv_nil cvl_nil)
    exact svalid_walk l n hn hml hb a1 a2 a3 a4 _ y s cells m hm hmm A na hna X _ _ x1 x2 x3 x4 (.inr ⟨by omega, rfl⟩) h1 h2 h3 (ACT.args h4 hx) h5 (AC.args v0 (hc2 _)) v1 r1 (AC.args v2 (hc2 _)) (AC.args r2 (hc2 _)) (AC.args v3 (hz _)) (AC.args r3 (hz _)) (AC.args v4 (hz _)) (AC.args r4 (hz _))
end Go.Proofs.YtccnhpaldmjkbaaGreat
