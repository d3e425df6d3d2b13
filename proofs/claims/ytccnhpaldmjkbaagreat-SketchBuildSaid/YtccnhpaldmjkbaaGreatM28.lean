/-
  Joined texts: Z15. Lemmas; no statement of a law.
-/
import Derived.Test.YtccnhpaldmjkbaaGreatM1
import Derived.Test.YtccnhpaldmjkbaaGreatM2
import Derived.Test.YtccnhpaldmjkbaaGreatM3
import Derived.Test.YtccnhpaldmjkbaaGreatM4
import Derived.Test.YtccnhpaldmjkbaaGreatM5
import Derived.Test.YtccnhpaldmjkbaaGreatM6
import Derived.Test.YtccnhpaldmjkbaaGreatM7
import Derived.Test.YtccnhpaldmjkbaaGreatM8
import Derived.Test.YtccnhpaldmjkbaaGreatM9
import Derived.Test.YtccnhpaldmjkbaaGreatM10
import Derived.Test.YtccnhpaldmjkbaaGreatM11
import Derived.Test.YtccnhpaldmjkbaaGreatM12
import Derived.Test.YtccnhpaldmjkbaaGreatM13
import Derived.Test.YtccnhpaldmjkbaaGreatM24
import Derived.Test.YtccnhpaldmjkbaaGreatM26
import Derived.Test.YtccnhpaldmjkbaaGreatM27
/-
  The law SketchBuild (walk).
-/
set_option linter.unusedVariables false
set_option linter.unusedSimpArgs false
namespace Go.Proofs.YtccnhpaldmjkbaaGreat
open Go Go.RowKit Go.Av
set_option maxRecDepth 100000
theorem bagF_fit (l : List Int) (n : Nat) (a m : Int) (sg : Bool) (hm : 2 ≤ m) (hm2 : m ≤ 20) : fitB (bagF l n a m sg) ∧ (bagF l n a m sg).length ≤ 20 := by
  obtain ⟨h1, h2⟩ := raw_facts l n a m hm (by omega)
  have h3 := fix_facts sg _ h2
  have h5 := sortE_facts ((rawF l n a m).map (fixE sg)).length _ (Nat.le_refl _)
  constructor
  · intro e he
    have := h5.2.2 (fun r => r.length = 2) (fun e he => (h3 e he).2.1) e he
    rw [show e.r.length = 2 from this]
    simp only [maxLen]; omega
  · have := h5.1
    rw [List.length_map] at this
    unfold bagF
    omega
attribute [local irreducible] Still Adds AWL AW Drw DrwE EStep AC AWR Weak Frz Src RetK Out InK ItK AsK RdK RetT OutT ACT ACS RetS ACP RetP
set_option maxHeartbeats 8000000 in
theorem sbuild_walk (l : List Int) (n : Nat) (hn : l.length = n) (hml : n ≤ maxLen) (hb : 8 * n ≤ 140737488355328) (a1 a2 a3 a4 a5 : Int) (x y : Sk) (A B C : List En) (na nb nc : Nat) (hna : A.length = na) (hnb : B.length = nb) (hnc : C.length = nc)
    (h1 : ACT Tryz.prog 18 72 (tpC l n 0) [] (tpC l n a1) (.agg x.c))
    (h2 : ACT Tryz.prog 14 72 (tpC l n a1) [iv 2, iv 10, bv false] (tpC l n a2) (.sl 2 na (ec A)))
    (h3 : ACT Tryz.prog 21 72 (tpC l n a2) [.agg x.c] (tpC l n a3) (.agg y.c))
    (h4 : ACT Tryz.prog 16 72 (tpC l n a3) [.sl 2 na (ec A)] (tpC l n a4) (.sl 2 nb (ec B)))
    (h5 : ACT Tryz.prog 14 72 (tpC l n a4) [iv 2, iv 6, bv true] (tpC l n a5) (.sl 2 nc (ec C)))
    (b1 : AC Tryz.prog 25 [.agg x.c, .sl 2 na (ec A)] (.c (bv true)) [] 0)
    (b2 : AC Tryz.prog 25 [.agg y.c, .sl 2 na (ec A)] (.c (bv true)) [] 0)
    (b3 : AC Tryz.prog 25 [.agg x.c, .sl 2 nb (ec B)] (.c (bv true)) [] 0)
    (b4 : AC Tryz.prog 25 [.agg x.c, .sl 2 nc (ec C)] (.c (bv true)) [] 0) :
    AC Tryz.prog 5 [.sl 1 n (intc .i64 l)] (.c (bv true)) [] 0 := by
  have haw := awake12_ok
  have hil : (intc .i64 l).length = n := by rw [intc_length, hn]
  have hAl : (ec A).length = na * 2 := by rw [ec_length, hna]
  have hBl : (ec B).length = nb * 2 := by rw [ec_length, hnb]
  have hCl : (ec C).length = nc * 2 := by rw [ec_length, hnc]
  obtain ⟨x1, x2, x3, x4, x5, x6⟩ := x
  obtain ⟨y1, y2, y3, y4, y5, y6⟩ := y
  simp only [Sk.c] at *
  refine ac_enter tabOk (sz := 38) Tryz.func5 rfl (by rw [Tryz.ntmps5]; rfl) ?_
  repeat' (first
    | ((with_reducible refine aw_seqk ?_); intro K hK hX)
    | ((with_reducible refine isC_reg ?_); refine aw_prune [0, 2, 3, 4, 5] rfl rfl ?_; with_reducible refine aw_region ?_)
    | ((with_reducible refine isE_move ?_); refine d_still0 (by first | exact g_none | exact (g_some rfl rfl (by first | rfl | assumption | exact gd1 (by omega) | exact gd2 (by omega) | exact gd3 (by omega) | exact gd4 (by omega) | (simp only [*] <;> fail) | fail))) (s_move rfl) ?_)
    | ((with_reducible refine isC_draw (i := 3) ?_); refine aw_prune [0, 2, 3, 4, 5] rfl rfl ?_; refine aw_drwE [9] ?_)
    | ((with_reducible refine isC_draw ?_); refine aw_prune [0, 2, 3, 4, 5] rfl rfl ?_; refine aw_drwF [9] ?_)
    | ((with_reducible refine isA_build ?_); refine awl_fzE (m' := n) (cs' := intc .i64 l) 5 rfl rfl zln (by omega) (by simp) ?_)
    | ((with_reducible refine isA_call ?_); refine awl_callT (h1) (by first | exact g_none | exact (g_some rfl rfl (by first | rfl | assumption | exact gd1 (by omega) | exact gd2 (by omega) | exact gd3 (by omega) | exact gd4 (by omega) | (simp only [*] <;> fail) | fail))) rfl (by unfold Body; kernel_rfl) rfl rfl rfl rfl zcv rfl (by (try simp only [tpC, List.map_cons, List.map_nil]); exact rfl) ?_)
    | ((with_reducible refine isE_call ?_); refine d_callT (h1) (by first | exact g_none | exact (g_some rfl rfl (by first | rfl | assumption | exact gd1 (by omega) | exact gd2 (by omega) | exact gd3 (by omega) | exact gd4 (by omega) | (simp only [*] <;> fail) | fail))) rfl rfl (by unfold Body; kernel_rfl) rfl rfl rfl rfl zcv rfl (by (try simp only [tpC, List.map_cons, List.map_nil]); exact rfl) rfl ?_)
    | ((with_reducible refine isA_call ?_); refine awl_callT (h2) (by first | exact g_none | exact (g_some rfl rfl (by first | rfl | assumption | exact gd1 (by omega) | exact gd2 (by omega) | exact gd3 (by omega) | exact gd4 (by omega) | (simp only [*] <;> fail) | fail))) rfl (by unfold Body; kernel_rfl) rfl rfl rfl rfl zcv rfl (by (try simp only [tpC, List.map_cons, List.map_nil]); exact rfl) ?_)
    | ((with_reducible refine isE_call ?_); refine d_callT (h2) (by first | exact g_none | exact (g_some rfl rfl (by first | rfl | assumption | exact gd1 (by omega) | exact gd2 (by omega) | exact gd3 (by omega) | exact gd4 (by omega) | (simp only [*] <;> fail) | fail))) rfl rfl (by unfold Body; kernel_rfl) rfl rfl rfl rfl zcv rfl (by (try simp only [tpC, List.map_cons, List.map_nil]); exact rfl) rfl ?_)
    | ((with_reducible refine isA_call ?_); refine awl_callT (h3) (by first | exact g_none | exact (g_some rfl rfl (by first | rfl | assumption | exact gd1 (by omega) | exact gd2 (by omega) | exact gd3 (by omega) | exact gd4 (by omega) | (simp only [*] <;> fail) | fail))) rfl (by unfold Body; kernel_rfl) rfl rfl rfl rfl zcv rfl (by (try simp only [tpC, List.map_cons, List.map_nil]); exact rfl) ?_)
    | ((with_reducible refine isE_call ?_); refine d_callT (h3) (by first | exact g_none | exact (g_some rfl rfl (by first | rfl | assumption | exact gd1 (by omega) | exact gd2 (by omega) | exact gd3 (by omega) | exact gd4 (by omega) | (simp only [*] <;> fail) | fail))) rfl rfl (by unfold Body; kernel_rfl) rfl rfl rfl rfl zcv rfl (by (try simp only [tpC, List.map_cons, List.map_nil]); exact rfl) rfl ?_)
    | ((with_reducible refine isA_call ?_); refine awl_callT (h4) (by first | exact g_none | exact (g_some rfl rfl (by first | rfl | assumption | exact gd1 (by omega) | exact gd2 (by omega) | exact gd3 (by omega) | exact gd4 (by omega) | (simp only [*] <;> fail) | fail))) rfl (by unfold Body; kernel_rfl) rfl rfl rfl rfl zcv rfl (by (try simp only [tpC, List.map_cons, List.map_nil]); exact rfl) ?_)
    | ((with_reducible refine isE_call ?_); refine d_callT (h4) (by first | exact g_none | exact (g_some rfl rfl (by first | rfl | assumption | exact gd1 (by omega) | exact gd2 (by omega) | exact gd3 (by omega) | exact gd4 (by omega) | (simp only [*] <;> fail) | fail))) rfl rfl (by unfold Body; kernel_rfl) rfl rfl rfl rfl zcv rfl (by (try simp only [tpC, List.map_cons, List.map_nil]); exact rfl) rfl ?_)
    | ((with_reducible refine isA_call ?_); refine awl_callT (h5) (by first | exact g_none | exact (g_some rfl rfl (by first | rfl | assumption | exact gd1 (by omega) | exact gd2 (by omega) | exact gd3 (by omega) | exact gd4 (by omega) | (simp only [*] <;> fail) | fail))) rfl (by unfold Body; kernel_rfl) rfl rfl rfl rfl zcv rfl (by (try simp only [tpC, List.map_cons, List.map_nil]); exact rfl) ?_)
    | ((with_reducible refine isE_call ?_); refine d_callT (h5) (by first | exact g_none | exact (g_some rfl rfl (by first | rfl | assumption | exact gd1 (by omega) | exact gd2 (by omega) | exact gd3 (by omega) | exact gd4 (by omega) | (simp only [*] <;> fail) | fail))) rfl rfl (by unfold Body; kernel_rfl) rfl rfl rfl rfl zcv rfl (by (try simp only [tpC, List.map_cons, List.map_nil]); exact rfl) rfl ?_)
    | ((first | with_reducible refine isA_call ?_ | with_reducible refine isD_call ?_ | with_reducible refine isE_call ?_); (first | refine zA ?_ | refine zN ?_ | refine zD ?_ | refine zE ?_); (first | refine c0 (b1) ?_ | refine c0 (b2) ?_ | refine c0 (b3) ?_ | refine c0 (b4) ?_ | refine c0 (haw) ?_))
    | ((first | with_reducible refine isA_call ?_ | with_reducible refine isA_callv ?_); refine awl_inl tabOk [0, 1, 2, 3, 4, 5, 6, 7, 8, 9, 10, 11, 12, 13, 14, 15, 16, 17, 18, 19, 20, 21, 22, 23, 24, 25, 26, 27, 28, 29, 30, 31, 32, 33, 34, 35, 36, 37] g_none rfl rfl (by unfold Body; kernel_rfl) Tryz.func9 rfl rfl rfl (szf := 8) (by rw [Tryz.ntmps9]; rfl) rfl ?_)
    | ((with_reducible refine isA_store ?_); refine awl_storeA tabOk g_none rfl rfl rfl (by first | exact Parts.mixed _ | exact Parts.closed _) (by rfl) (by rfl) rfl (Nat.le_of_ble_eq_true rfl) (by rfl) ?_)
    | ((with_reducible refine isE_store ?_); refine d_storeA tabOk g_none rfl rfl rfl rfl rfl (by first | exact Parts.mixed _ | exact Parts.closed _) (by rfl) (by rfl) rfl (Nat.le_of_ble_eq_true rfl) (by rfl) rfl ?_)
    | (refine drwE_end3 (by kernel_rfl) (by kernel_rfl) (by kernel_rfl) (by kernel_rfl) rfl ?_)
    | refine stA ?_
    | refine stD ?_
    | refine stE ?_
    | (refine hK _ _ _ _ ?_; clear hK hX K)
    | (refine hX _ _ _ _ _ (by simp) ?_; clear hK hX K)
    | (first | refine inK_some (by first | exact .inl rfl | exact .inr rfl) (by exact trivial) rfl rfl (ResL.one (ResA.tmp rfl)) ?_ | refine inK_none (by first | exact .inl rfl | exact .inr rfl) (by exact trivial) rfl rfl (ResL.one (ResA.tmp rfl)) ?_))
  refine retK_mk (by first | exact .inl rfl | exact .inr rfl) (by exact trivial) rfl (ResL.one (ResA.tmp rfl)) (by first | exact out_c zfz | exact out_own rfl rfl)
theorem law_sbuild (l : List Int) (n : Nat) (hn : l.length = n) (hb : 8 * n ≤ 140737488355328) : AC Tryz.prog 5 [.sl 1 n (intc .i64 l)] (.c (bv true)) [] 0 := by
  have hml : n ≤ maxLen := by simp only [maxLen]; omega
  obtain ⟨col, w, d, kd, hsk, c1, w1, w2, d1, d2, hkd⟩ := skF_facts l n 0
  have h1 := tsk_ok l n 0 hn hml (by omega) (by omega)
  rw [hsk] at h1
  obtain ⟨s1, s2⟩ := skA_bd n 0 (by omega) (by omega)
  generalize skA n 0 = a1 at *
  obtain ⟨fA, lA⟩ := bagF_fit l n a1 11 false (by decide) (by decide)
  obtain ⟨na, hna⟩ : ∃ na, (bagF l n a1 11 false).length = na := ⟨_, rfl⟩
  have h2 := tbag_ok l n a1 10 11 false na hn hml s1 s2 (by decide) (by decide) rfl hna
  obtain ⟨t1, t2⟩ := bagA_bd l n a1 11 s1 s2
  generalize bagF l n a1 11 false = A at *
  generalize bagA l n a1 11 = a2 at *
  obtain ⟨y, a3, hy, p1, p2, h3⟩ := tsps_ok l n a2 ⟨[115], [116, 48], col, kd, w, d⟩ hn hml t1 t2
  obtain ⟨B, nb, a4, hB, hBq, fB, p3, p4, h4⟩ := tspb_ok l n a3 A na hn hml p1 p2 hna (by omega) fA
  obtain ⟨fC, lC⟩ := bagF_fit l n a4 7 true (by decide) (by decide)
  obtain ⟨nc, hnc⟩ : ∃ nc, (bagF l n a4 7 true).length = nc := ⟨_, rfl⟩
  have h5 := tbag_ok l n a4 6 7 true nc hn hml p3 p4 (by decide) (by decide) rfl hnc
  generalize bagF l n a4 7 true = C at *
  generalize bagA l n a4 7 = a5 at *
  simp only at hy
  have hx : (Sk.mk [115] [116, 48] col kd w d).col ≤ 9223372036854775807 := by simp only; omega
  have hm1 : na ≤ maxLen := by simp only [maxLen]; omega
  have hm2 : nb ≤ maxLen := by simp only [maxLen]; omega
  have hm3 : nc ≤ maxLen := by simp only [maxLen]; omega
  exact sbuild_walk l n hn hml hb a1 a2 a3 a4 a5 _ y A B C na nb nc hna hB hnc h1 h2 h3 h4 h5 (builds_ok _ A na hna hm1 fA hx) (builds_ok y A na hna hm1 fA (by omega)) (builds_ok _ B nb hB hm2 fB hx) (builds_ok _ C nc hnc hm3 fC hx)
end Go.Proofs.YtccnhpaldmjkbaaGreat
