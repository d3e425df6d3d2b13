/-
  Joined texts: U8. Lemmas; no statement of a law.
-/
import Derived.Test.YtccnhpaldmjkbaaM1
import Derived.Test.YtccnhpaldmjkbaaM2
import Derived.Test.YtccnhpaldmjkbaaM3
import Derived.Test.YtccnhpaldmjkbaaM4
import Derived.Test.YtccnhpaldmjkbaaM5
import Derived.Test.YtccnhpaldmjkbaaM6
import Derived.Test.YtccnhpaldmjkbaaM7
import Derived.Test.YtccnhpaldmjkbaaM9
import Derived.Test.YtccnhpaldmjkbaaM10
import Derived.Test.YtccnhpaldmjkbaaM13
/-
  The law SketchSupport (walk).
-/
set_option linter.unusedVariables false
set_option linter.unusedSimpArgs false
namespace Go.Proofs.Ytccnhpaldmjkbaa
open Go Go.RowKit Go.Av
set_option maxRecDepth 100000
theorem form_of2 {nm sr : List UInt8} {col : Int} {kd : Int} {w d : Nat} (w1 : 1 ≤ w) (w2 : w ≤ 64) (d1 : 1 ≤ d) (d2 : d ≤ 3) (hk : kd = 0 ∨ kd = 1 ∨ kd = 2 ∧ d = 1) : formP ⟨nm, sr, col, kd, w, d⟩ ∧ w * d ≤ 192 ∧ 0 < w * d := by
  have h1 : w * d ≤ 64 * 3 := Nat.mul_le_mul w2 d2
  have h2 : (w : Int) * (d : Int) = ((w * d : Nat) : Int) := by simp
  refine ⟨⟨?_, ?_, ?_, ?_, ?_, ?_⟩, by omega, Nat.mul_pos w1 d1⟩
  · show 1 ≤ (w : Int); omega
  · show (w : Int) ≤ 1024; omega
  · show 1 ≤ (d : Int); omega
  · show (d : Int) ≤ 8; omega
  · show (w : Int) * (d : Int) ≤ 1024; omega
  · show kd = 0 ∨ kd = 1 ∨ kd = 2 ∧ (d : Int) = 1; omega
attribute [local irreducible] Still Adds AWL AW Drw DrwE EStep AC AWR Weak Frz Src RetK Out InK ItK AsK RdK RetT OutT ACT ACS RetS ACP RetP
set_option maxHeartbeats 8000000 in
theorem law_ssupport (l : List Int) (n : Nat) (hn : l.length = n) (hb : 8 * n ≤ 140737488355328) : AC Try.prog 10 [.sl 1 n (intc .i64 l)] (.c (bv true)) [] 0 := by
  have haw := awake12_ok
  have hml : n ≤ maxLen := by simp only [maxLen]; omega
  have hil : (intc .i64 l).length = n := by rw [intc_length, hn]
  obtain ⟨col, w, d, kd, hsk, c1, w1, w2, d1, d2, hkd⟩ := skF_facts l n 0
  have h1 := tsk_ok l n 0 hn hml (by omega) (by omega)
  rw [hsk] at h1
  obtain ⟨s1, s2⟩ := skA_bd n 0 (by omega) (by omega)
  generalize skA n 0 = a1 at *
  obtain ⟨fa1, fa2, fa3⟩ := bagF_F l n a1 9 (by decide) (by decide)
  obtain ⟨na, hna⟩ : ∃ na, (bagF l n a1 9 false).length = na := ⟨_, rfl⟩
  have h2 := tbag_ok l n a1 8 9 false na hn hml s1 s2 (by decide) (by decide) rfl hna
  generalize bagF l n a1 9 false = A at *
  generalize bagA l n a1 9 = a2 at *
  have fA := fa1.up (N := 500) (by decide)
  have fB := fA.supp
  have hnb : (suppE A).length = na := by rw [supp_length, hna]
  have h3 := rsupp_ok A na hna fA
  have hAl : (ec A).length = na * 2 := by rw [ec_length, hna]
  have hBl : (ec (suppE A)).length = na * 2 := by rw [ec_length, hnb]
  have hna4 : na ≤ 500 := by rw [← hna]; exact fA.len
  simp only [Sk.c] at h1
  obtain ⟨N, hN⟩ : ∃ N, w * d = N := ⟨_, rfl⟩
  by_cases k2 : kd = 2
  · have hd1 : d = 1 := by omega
    subst k2 hd1
    obtain ⟨hfm, hwd, hwd0⟩ := form_of2 (nm := [115]) (sr := [116, 48]) (col := col) (kd := 2) w1 w2 d1 d2 (.inr (.inr ⟨rfl, rfl⟩))
    have he := hashE_supp col A
    by_cases h0 : hashE col A = []
    · have h5 := build2_nil [115] [116, 48] col (1 : Nat) w A na hna fA.fit hfm (fA.posP (by decide)) (by omega) h0
      have h6 := build2_nil [115] [116, 48] col (1 : Nat) w (suppE A) na hnb fB.fit hfm (fB.posP (by decide)) (by omega) (by rw [he, h0])
      have h7 := rsame_t [] 0 rfl (by simp [maxLen])
      have h8 := valb_ok [115] [116, 48] col (1 : Nat) w [] 0 rfl (by simp [maxLen]) (by omega)
      have : ∀ i : Decidable (formP ⟨[115], [116, 48], col, 2, w, (1 : Nat)⟩ ∧ hashP w []), @decide _ i = true := fun i => @decide_eq_true _ i ⟨hfm, Nat.zero_le _, List.Pairwise.nil, fun x hx => by cases hx⟩
      rw [this] at h8
      clear hsk s1 s2 fa1 fa2 fa3 this fA fB hfm
      refine ac_enter tabOk (sz := 52) Try.func10 rfl (by rw [Try.ntmps10]; rfl) ?_
      repeat' (first
    | ((with_reducible refine aw_seqk ?_); intro K hK hX)
    | ((with_reducible refine isC_reg ?_); refine aw_prune [0, 2, 3, 4, 5, 6, 7, 8, 9] rfl rfl ?_; with_reducible refine aw_region ?_)
    | ((with_reducible refine isC_draw ?_); refine aw_prune [0, 2, 3, 4, 5, 6, 7, 8, 9] rfl rfl ?_; refine aw_drwF [18] ?_)
    | ((with_reducible refine isA_build ?_); refine awl_fzE (m' := n) (cs' := intc .i64 l) 5 rfl rfl zln (by omega) (by simp) ?_)
    | ((with_reducible refine isA_call ?_); refine awl_callT (h1) g_none rfl (by unfold Body; kernel_rfl) rfl rfl rfl rfl zcv rfl (by (try simp only [tpC, List.map_cons, List.map_nil]); exact rfl) ?_)
    | ((with_reducible refine isA_call ?_); refine awl_callT (h2) g_none rfl (by unfold Body; kernel_rfl) rfl rfl rfl rfl zcv rfl (by (try simp only [tpC, List.map_cons, List.map_nil]); exact rfl) ?_)
    | ((first | with_reducible refine isA_call ?_ | with_reducible refine isD_call ?_); (first | refine zA ?_ | refine zN ?_ | refine zD ?_); (first | refine c0 (h3) ?_ | refine c0 (h5) ?_ | refine c0 (h6) ?_ | refine c0 (h7) ?_ | refine c0 (h8) ?_ | refine c0 (haw) ?_))
    | ((first | with_reducible refine isA_call ?_ | with_reducible refine isA_callv ?_); refine awl_inl tabOk [0, 1, 2, 3, 4, 5, 6, 7, 8, 9, 10, 11, 12, 13, 14, 15, 16, 17, 18, 19, 20, 21, 22, 23, 24, 25, 26, 27, 28, 29, 30, 31, 32, 33, 34, 35, 36, 37, 38, 39, 40, 41, 42, 43, 44, 45, 46, 47, 48, 49, 50, 51] g_none rfl rfl (by unfold Body; kernel_rfl) Try.func18 rfl rfl rfl (szf := 8) (by rw [Try.ntmps18]; rfl) rfl ?_)
    | ((with_reducible refine isA_store ?_); refine awl_storeA tabOk g_none rfl rfl rfl (by first | exact Parts.mixed _ | exact Parts.closed _) (by rfl) (by rfl) rfl (Nat.le_of_ble_eq_true rfl) (by rfl) ?_)
    | refine stA ?_
    | refine stD ?_
    | (refine hK _ _ _ _ ?_; clear hK hX K)
    | (refine hX _ _ _ _ _ (by simp) ?_; clear hK hX K)
    | (first | refine inK_some (by first | exact .inl rfl | exact .inr rfl) (by exact trivial) rfl rfl (ResL.one (ResA.tmp rfl)) ?_ | refine inK_none (by first | exact .inl rfl | exact .inr rfl) (by exact trivial) rfl rfl (ResL.one (ResA.tmp rfl)) ?_))
      refine retK_mk (by first | exact .inl rfl | exact .inr rfl) (by exact trivial) rfl (ResL.one (ResA.tmp rfl)) (by first | exact out_c zfz | exact out_own rfl rfl)
    · obtain ⟨Q, hQ⟩ : ∃ Q, (smallI w (hashE col A)).length = Q := ⟨_, rfl⟩
      have h5 := build2_some [115] [116, 48] col (1 : Nat) w Q A na hna fA.fit hfm (fA.posP (by decide)) (by omega) h0 hQ
      have h6 := build2_some [115] [116, 48] col (1 : Nat) w Q (suppE A) na hnb fB.fit hfm (fB.posP (by decide)) (by omega) (by rw [he]; exact h0) (by rw [he]; exact hQ)
      rw [he] at h6
      have hP := smallI_P (w := w) (l := hashE col A) fun x hx => hashE_bd hx
      generalize smallI w (hashE col A) = S at *
      have hQw : Q ≤ w := by rw [← hQ]; exact hP.1
      have h7 := rsame_t S Q hQ (by simp only [maxLen]; omega)
      have h8 := valb_ok [115] [116, 48] col (1 : Nat) w S Q hQ (by simp only [maxLen]; omega) (by omega)
      have : ∀ i : Decidable (formP ⟨[115], [116, 48], col, 2, w, (1 : Nat)⟩ ∧ hashP w S), @decide _ i = true := fun i => @decide_eq_true _ i ⟨hfm, hP⟩
      rw [this] at h8
      have hSl : (intc .i64 S).length = Q := by rw [ic_len, hQ]
      clear hsk s1 s2 fa1 fa2 fa3 this fA fB hfm hP h0 he
      refine ac_enter tabOk (sz := 52) Try.func10 rfl (by rw [Try.ntmps10]; rfl) ?_
      repeat' (first
    | ((with_reducible refine aw_seqk ?_); intro K hK hX)
    | ((with_reducible refine isC_reg ?_); refine aw_prune [0, 2, 3, 4, 5, 6, 7, 8, 9] rfl rfl ?_; with_reducible refine aw_region ?_)
    | ((with_reducible refine isC_draw ?_); refine aw_prune [0, 2, 3, 4, 5, 6, 7, 8, 9] rfl rfl ?_; refine aw_drwF [18] ?_)
    | ((with_reducible refine isA_build ?_); refine awl_fzE (m' := n) (cs' := intc .i64 l) 5 rfl rfl zln (by omega) (by simp) ?_)
    | ((with_reducible refine isA_call ?_); refine awl_callT (h1) g_none rfl (by unfold Body; kernel_rfl) rfl rfl rfl rfl zcv rfl (by (try simp only [tpC, List.map_cons, List.map_nil]); exact rfl) ?_)
    | ((with_reducible refine isA_call ?_); refine awl_callT (h2) g_none rfl (by unfold Body; kernel_rfl) rfl rfl rfl rfl zcv rfl (by (try simp only [tpC, List.map_cons, List.map_nil]); exact rfl) ?_)
    | ((first | with_reducible refine isA_call ?_ | with_reducible refine isD_call ?_); (first | refine zA ?_ | refine zN ?_ | refine zD ?_); (first | refine c0 (h3) ?_ | refine c0 (h5) ?_ | refine c0 (h6) ?_ | refine c0 (h7) ?_ | refine c0 (h8) ?_ | refine c0 (haw) ?_))
    | ((first | with_reducible refine isA_call ?_ | with_reducible refine isA_callv ?_); refine awl_inl tabOk [0, 1, 2, 3, 4, 5, 6, 7, 8, 9, 10, 11, 12, 13, 14, 15, 16, 17, 18, 19, 20, 21, 22, 23, 24, 25, 26, 27, 28, 29, 30, 31, 32, 33, 34, 35, 36, 37, 38, 39, 40, 41, 42, 43, 44, 45, 46, 47, 48, 49, 50, 51] g_none rfl rfl (by unfold Body; kernel_rfl) Try.func18 rfl rfl rfl (szf := 8) (by rw [Try.ntmps18]; rfl) rfl ?_)
    | ((with_reducible refine isA_store ?_); refine awl_storeA tabOk g_none rfl rfl rfl (by first | exact Parts.mixed _ | exact Parts.closed _) (by rfl) (by rfl) rfl (Nat.le_of_ble_eq_true rfl) (by rfl) ?_)
    | refine stA ?_
    | refine stD ?_
    | (refine hK _ _ _ _ ?_; clear hK hX K)
    | (refine hX _ _ _ _ _ (by simp) ?_; clear hK hX K)
    | (first | refine inK_some (by first | exact .inl rfl | exact .inr rfl) (by exact trivial) rfl rfl (ResL.one (ResA.tmp rfl)) ?_ | refine inK_none (by first | exact .inl rfl | exact .inr rfl) (by exact trivial) rfl rfl (ResL.one (ResA.tmp rfl)) ?_))
      refine retK_mk (by first | exact .inl rfl | exact .inr rfl) (by exact trivial) rfl (ResL.one (ResA.tmp rfl)) (by first | exact out_c zfz | exact out_own rfl rfl)
  · obtain ⟨hfm, hwd, hwd0⟩ := form_of2 (nm := [115]) (sr := [116, 48]) (col := col) (kd := 1) w1 w2 d1 d2 (.inr (.inl rfl))
    have h5 := build_ok [115] [116, 48] col 1 w d N A na hna (by simp only [maxLen]; omega) fA.fit (by decide) hfm (fA.posP (by decide)) (by omega) hN
    have h6 := build_ok [115] [116, 48] col 1 w d N (suppE A) na hnb (by simp only [maxLen]; omega) fB.fit (by decide) hfm (fB.posP (by decide)) (by omega) hN
    rw [buildN_supp] at h6
    have hcl := buildN_length 1 w d col A na
    rw [hN] at hcl hwd
    have hc01 := buildN_01 w d col A na
    generalize buildN 1 w d col A na = B at *
    have h7 := rsame_t B N hcl (by simp only [maxLen]; omega)
    have h8 := valc_ok ⟨[115], [116, 48], col, 1, w, d⟩ B N hcl (by simp) (by simp only [maxLen]; omega)
    have : ∀ i : Decidable (valC ⟨[115], [116, 48], col, 1, w, d⟩ B), @decide _ i = true := fun i => @decide_eq_true _ i ⟨hfm, (show (1 : Int) ≠ 2 by decide), (by simp only; rw [hcl, ← hN]; simp), fun x hx => by
      unfold okX limZ
      rw [if_neg (show ¬ (1 : Int) = 0 by decide)]
      rcases hc01 x hx with h | h <;> omega⟩
    rw [this] at h8
    simp only [Sk.c] at h8
    have hBl2 : (intc .i64 B).length = N := by rw [ic_len, hcl]
    clear hsk s1 s2 fa1 fa2 fa3 this fA fB hfm hc01
    rcases (show kd = 0 ∨ kd = 1 by omega) with k | k
    · subst k
      refine ac_enter tabOk (sz := 52) Try.func10 rfl (by rw [Try.ntmps10]; rfl) ?_
      repeat' (first
    | ((with_reducible refine aw_seqk ?_); intro K hK hX)
    | ((with_reducible refine isC_reg ?_); refine aw_prune [0, 2, 3, 4, 5, 6, 7, 8, 9] rfl rfl ?_; with_reducible refine aw_region ?_)
    | ((with_reducible refine isC_draw ?_); refine aw_prune [0, 2, 3, 4, 5, 6, 7, 8, 9] rfl rfl ?_; refine aw_drwF [18] ?_)
    | ((with_reducible refine isA_build ?_); refine awl_fzE (m' := n) (cs' := intc .i64 l) 5 rfl rfl zln (by omega) (by simp) ?_)
    | ((with_reducible refine isA_call ?_); refine awl_callT (h1) g_none rfl (by unfold Body; kernel_rfl) rfl rfl rfl rfl zcv rfl (by (try simp only [tpC, List.map_cons, List.map_nil]); exact rfl) ?_)
    | ((with_reducible refine isA_call ?_); refine awl_callT (h2) g_none rfl (by unfold Body; kernel_rfl) rfl rfl rfl rfl zcv rfl (by (try simp only [tpC, List.map_cons, List.map_nil]); exact rfl) ?_)
    | ((first | with_reducible refine isA_call ?_ | with_reducible refine isD_call ?_); (first | refine zA ?_ | refine zN ?_ | refine zD ?_); (first | refine c0 (h3) ?_ | refine c0 (h5) ?_ | refine c0 (h6) ?_ | refine c0 (h7) ?_ | refine c0 (h8) ?_ | refine c0 (haw) ?_))
    | ((first | with_reducible refine isA_call ?_ | with_reducible refine isA_callv ?_); refine awl_inl tabOk [0, 1, 2, 3, 4, 5, 6, 7, 8, 9, 10, 11, 12, 13, 14, 15, 16, 17, 18, 19, 20, 21, 22, 23, 24, 25, 26, 27, 28, 29, 30, 31, 32, 33, 34, 35, 36, 37, 38, 39, 40, 41, 42, 43, 44, 45, 46, 47, 48, 49, 50, 51] g_none rfl rfl (by unfold Body; kernel_rfl) Try.func18 rfl rfl rfl (szf := 8) (by rw [Try.ntmps18]; rfl) rfl ?_)
    | ((with_reducible refine isA_store ?_); refine awl_storeA tabOk g_none rfl rfl rfl (by first | exact Parts.mixed _ | exact Parts.closed _) (by rfl) (by rfl) rfl (Nat.le_of_ble_eq_true rfl) (by rfl) ?_)
    | refine stA ?_
    | refine stD ?_
    | (refine hK _ _ _ _ ?_; clear hK hX K)
    | (refine hX _ _ _ _ _ (by simp) ?_; clear hK hX K)
    | (first | refine inK_some (by first | exact .inl rfl | exact .inr rfl) (by exact trivial) rfl rfl (ResL.one (ResA.tmp rfl)) ?_ | refine inK_none (by first | exact .inl rfl | exact .inr rfl) (by exact trivial) rfl rfl (ResL.one (ResA.tmp rfl)) ?_))
      refine retK_mk (by first | exact .inl rfl | exact .inr rfl) (by exact trivial) rfl (ResL.one (ResA.tmp rfl)) (by first | exact out_c zfz | exact out_own rfl rfl)
    · subst k
      refine ac_enter tabOk (sz := 52) Try.func10 rfl (by rw [Try.ntmps10]; rfl) ?_
      repeat' (first
    | ((with_reducible refine aw_seqk ?_); intro K hK hX)
    | ((with_reducible refine isC_reg ?_); refine aw_prune [0, 2, 3, 4, 5, 6, 7, 8, 9] rfl rfl ?_; with_reducible refine aw_region ?_)
    | ((with_reducible refine isC_draw ?_); refine aw_prune [0, 2, 3, 4, 5, 6, 7, 8, 9] rfl rfl ?_; refine aw_drwF [18] ?_)
    | ((with_reducible refine isA_build ?_); refine awl_fzE (m' := n) (cs' := intc .i64 l) 5 rfl rfl zln (by omega) (by simp) ?_)
    | ((with_reducible refine isA_call ?_); refine awl_callT (h1) g_none rfl (by unfold Body; kernel_rfl) rfl rfl rfl rfl zcv rfl (by (try simp only [tpC, List.map_cons, List.map_nil]); exact rfl) ?_)
    | ((with_reducible refine isA_call ?_); refine awl_callT (h2) g_none rfl (by unfold Body; kernel_rfl) rfl rfl rfl rfl zcv rfl (by (try simp only [tpC, List.map_cons, List.map_nil]); exact rfl) ?_)
    | ((first | with_reducible refine isA_call ?_ | with_reducible refine isD_call ?_); (first | refine zA ?_ | refine zN ?_ | refine zD ?_); (first | refine c0 (h3) ?_ | refine c0 (h5) ?_ | refine c0 (h6) ?_ | refine c0 (h7) ?_ | refine c0 (h8) ?_ | refine c0 (haw) ?_))
    | ((first | with_reducible refine isA_call ?_ | with_reducible refine isA_callv ?_); refine awl_inl tabOk [0, 1, 2, 3, 4, 5, 6, 7, 8, 9, 10, 11, 12, 13, 14, 15, 16, 17, 18, 19, 20, 21, 22, 23, 24, 25, 26, 27, 28, 29, 30, 31, 32, 33, 34, 35, 36, 37, 38, 39, 40, 41, 42, 43, 44, 45, 46, 47, 48, 49, 50, 51] g_none rfl rfl (by unfold Body; kernel_rfl) Try.func18 rfl rfl rfl (szf := 8) (by rw [Try.ntmps18]; rfl) rfl ?_)
    | ((with_reducible refine isA_store ?_); refine awl_storeA tabOk g_none rfl rfl rfl (by first | exact Parts.mixed _ | exact Parts.closed _) (by rfl) (by rfl) rfl (Nat.le_of_ble_eq_true rfl) (by rfl) ?_)
    | refine stA ?_
    | refine stD ?_
    | (refine hK _ _ _ _ ?_; clear hK hX K)
    | (refine hX _ _ _ _ _ (by simp) ?_; clear hK hX K)
    | (first | refine inK_some (by first | exact .inl rfl | exact .inr rfl) (by exact trivial) rfl rfl (ResL.one (ResA.tmp rfl)) ?_ | refine inK_none (by first | exact .inl rfl | exact .inr rfl) (by exact trivial) rfl rfl (ResL.one (ResA.tmp rfl)) ?_))
      refine retK_mk (by first | exact .inl rfl | exact .inr rfl) (by exact trivial) rfl (ResL.one (ResA.tmp rfl)) (by first | exact out_c zfz | exact out_own rfl rfl)
end Go.Proofs.Ytccnhpaldmjkbaa
