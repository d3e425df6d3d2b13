/-
  Joined texts: IS. Lemmas; no statement of a law.
-/
import Derived.Test.YtccnhpaldmjkbaaM21
import Derived.Test.YtccnhpaldmjkbaaM23
set_option linter.unusedSimpArgs false
set_option linter.unusedVariables false
namespace Go.Proofs.Ytccnhpaldmjkbaa
open Go Go.RowKit Go.Av
set_option maxRecDepth 100000
theorem wf_i64 {m : Int} (h : (Lit.int .i64 m).wf = true) : -9223372036854775808 ≤ m ∧ m ≤ 9223372036854775807 := by
  have := bounds_i64 h
  exact ⟨by omega, by omega⟩
theorem bagF_fitI (l : List Int) (n : Nat) (a m : Int) (sg : Bool) (hm : 2 ≤ m) (hm2 : m ≤ 20) : fitB (bagF l n a m sg) ∧ (bagF l n a m sg).length ≤ 20 := by
  obtain ⟨h1, h2⟩ := raw_facts l n a m hm (by omega)
  have h3 := fix_facts sg _ h2
  have h5 := sortE_facts ((rawF l n a m).map (fixE sg)).length _ (Nat.le_refl _)
  constructor
  · intro e he
    have := h5.2.2 (fun r => r.length = 2) (fun e he => (h3 e he).2.1) e he
    rw [show e.r.length = 2 from this]
    simp only [maxLen]; omega
  · have := h5.1
    rw [List.length_map] at this
    unfold bagF
    omega
attribute [local irreducible] Still Adds AWL AW Drw DrwE EStep AC AWR Weak Frz Src RetK Out InK ItK AsK RdK RetT OutT ACT
set_option maxHeartbeats 8000000 in
theorem ibuild_walk (l : List Int) (n : Nat) (hn : l.length = n) (hml : n ≤ maxLen) (hb : 8 * n ≤ 140737488355328) (col : Int) (a1 a2 a3 a4 x : Int) (A B C : List En) (na nb nc : Nat) (hna : A.length = na) (hnb : B.length = nb) (hnc : C.length = nc)
    (h1 : ACT Try.prog 19 83 (tpC l n 0) [iv 8] (tpC l n a1) (.sl 2 na (ec A)))
    (h2 : ACT Try.prog 21 83 (tpC l n a1) [iv 3] (tpC l n a2) (iv x))
    (h3 : ACT Try.prog 22 83 (tpC l n a2) [.sl 2 na (ec A)] (tpC l n a3) (.sl 2 nb (ec B)))
    (h4 : ACT Try.prog 23 83 (tpC l n a3) [iv 2, iv 5, bv true] (tpC l n a4) (.sl 2 nc (ec C)))
    (b1 : AC Try.prog 20 [.sl 2 na (ec A), iv x] (.c (bv true)) [] 0)
    (b2 : AC Try.prog 20 [.sl 2 na (ec A), iv col] (.c (bv true)) [] 0)
    (b3 : AC Try.prog 20 [.sl 2 nb (ec B), iv 0] (.c (bv true)) [] 0)
    (b4 : AC Try.prog 20 [.sl 2 nc (ec C), iv 0] (.c (bv true)) [] 0) :
    AC Try.prog 4 [.sl 1 n (intc .i64 l), iv col] (.c (bv true)) [] 0 := by
  have haw := awake13_ok
  have hil : (intc .i64 l).length = n := by rw [intc_length, hn]
  have hAl : (ec A).length = na * 2 := by rw [ec_length, hna]
  have hBl : (ec B).length = nb * 2 := by rw [ec_length, hnb]
  have hCl : (ec C).length = nc * 2 := by rw [ec_length, hnc]
  refine ac_enter tabOk (sz := 34) Try.func4 rfl (by rw [Try.ntmps4]; rfl) ?_
  repeat' (first | ((with_reducible refine aw_seqk ?_); intro K hK hX) | ((with_reducible refine isC_reg ?_); refine aw_prune [0, 1, 2, 4, 5, 6] rfl rfl ?_; with_reducible refine aw_region ?_) | ((with_reducible refine isA_build ?_); refine awl_fzE (m' := n) (cs' := intc .i64 l) 5 rfl rfl zln (by omega) (by simp) ?_) | ((with_reducible refine isA_call ?_); refine awl_callT (h1) (by first | exact g_none | exact (g_some rfl rfl zgb)) rfl zby rfl rfl rfl rfl zcv rfl ztp ?_) | ((with_reducible refine isA_call ?_); refine awl_callT (h2) (by first | exact g_none | exact (g_some rfl rfl zgb)) rfl zby rfl rfl rfl rfl zcv rfl ztp ?_) | ((with_reducible refine isA_call ?_); refine awl_callT (h3) (by first | exact g_none | exact (g_some rfl rfl zgb)) rfl zby rfl rfl rfl rfl zcv rfl ztp ?_) | ((with_reducible refine isA_call ?_); refine awl_callT (h4) (by first | exact g_none | exact (g_some rfl rfl zgb)) rfl zby rfl rfl rfl rfl zcv rfl ztp ?_) | ((with_reducible refine isA_call ?_); (first | refine zA ?_ | refine zN ?_); (first | refine c0 (b1) ?_ | refine c0 (b2) ?_ | refine c0 (b3) ?_ | refine c0 (b4) ?_ | refine c0 (haw) ?_)) | ((first | with_reducible refine isA_call ?_ | with_reducible refine isA_callv ?_); refine awl_inl tabOk [0, 1, 2, 3, 4, 5, 6, 7, 8, 9, 10, 11, 12, 13, 14, 15, 16, 17, 18, 19, 20, 21, 22, 23, 24, 25, 26, 27, 28, 29, 30, 31, 32, 33] g_none rfl rfl zby Try.func18 rfl rfl rfl (szf := 8) (by rw [Try.ntmps18]; rfl) rfl ?_) | ((with_reducible refine isA_store ?_); refine awl_storeA tabOk g_none rfl rfl rfl zpt (by rfl) (by rfl) rfl (Nat.le_of_ble_eq_true rfl) (by rfl) ?_) | refine stA ?_ | (refine hK _ _ _ _ ?_; clear hK hX K) | (refine hX _ _ _ _ _ (by simp) ?_; clear hK hX K) | (first | refine inK_some zio ztr rfl rfl (ResL.one (ResA.tmp rfl)) ?_ | refine inK_none zio ztr rfl rfl (ResL.one (ResA.tmp rfl)) ?_))
  refine retK_mk zio ztr rfl (ResL.one (ResA.tmp rfl)) zou
theorem law_ibuild (l : List Int) (n : Nat) (hn : l.length = n) (hb : 8 * n ≤ 140737488355328) (col : Int) (hc : col ≤ 9223372036854775807) : AC Try.prog 4 [.sl 1 n (intc .i64 l), iv col] (.c (bv true)) [] 0 := by
  have hml : n ≤ maxLen := by simp only [maxLen]; omega
  obtain ⟨fA, _, lA⟩ := txB_F l n 0 9 (by omega) (by omega) (by decide) (by decide)
  obtain ⟨na, hna⟩ : ∃ na, (txB l n 0 9).length = na := ⟨_, rfl⟩
  have h1 := ttxb_ok l n 0 8 9 na hn hml (by omega) (by omega) (by decide) (by decide) rfl hna
  obtain ⟨s1, s2⟩ := txA_bd l n 0 9 (by omega) (by omega)
  generalize txB l n 0 9 = A at *
  generalize txA l n 0 9 = a1 at *
  have h2 := next_ok l n a1 3 hn hml s1 s2 (by decide)
  obtain ⟨x1, x2⟩ := nextX_bd l n a1 3 (by decide) (by decide)
  obtain ⟨t1, t2⟩ := nextA_bd n a1 3 s1 s2
  generalize nextX l n a1 3 = x at *
  generalize nextA n a1 3 = a2 at *
  have hna20 : na ≤ 20 := by
    have : (9 - 1 : Int).toNat = 8 := rfl
    omega
  obtain ⟨B, nb, a3, hB, hBq, fB, p3, p4, h3⟩ := tspb_ok l n a2 A na hn hml t1 t2 hna (by omega) fA.fit
  obtain ⟨fC, lC⟩ := bagF_fitI l n a3 6 true (by decide) (by decide)
  obtain ⟨nc, hnc⟩ : ∃ nc, (bagF l n a3 6 true).length = nc := ⟨_, rfl⟩
  have h4 := tbag_ok l n a3 5 6 true nc hn hml p3 p4 (by decide) (by decide) rfl hnc
  generalize bagF l n a3 6 true = C at *
  generalize bagA l n a3 6 = a4 at *
  have hm1 : na ≤ maxLen := by simp only [maxLen]; omega
  have hm2 : nb ≤ maxLen := by simp only [maxLen]; omega
  have hm3 : nc ≤ maxLen := by simp only [maxLen]; omega
  exact ibuild_walk l n hn hml hb col a1 a2 a3 a4 x A B C na nb nc hna hB hnc h1 h2 h3 h4 (ibuilds_ok A na hna hm1 fA.fit x (by omega)) (ibuilds_ok A na hna hm1 fA.fit col hc) (ibuilds_ok B nb hB hm2 fB 0 (by omega)) (ibuilds_ok C nc hnc hm3 fC 0 (by omega))
end Go.Proofs.Ytccnhpaldmjkbaa
