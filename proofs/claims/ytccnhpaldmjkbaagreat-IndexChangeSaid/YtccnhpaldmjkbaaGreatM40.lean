/-
  Joined texts: JO. Lemmas; no statement of a law.
-/
import Derived.Test.YtccnhpaldmjkbaaGreatM39
set_option linter.unusedSimpArgs false
set_option linter.unusedVariables false
/-
  The law IndexChange (walk).
-/
namespace Go.Proofs.YtccnhpaldmjkbaaGreat
open Go Go.RowKit Go.Av
set_option maxRecDepth 100000
theorem wf_i64 {m : Int} (h : (Lit.int .i64 m).wf = true) : -9223372036854775808 ≤ m ∧ m ≤ 9223372036854775807 := by
  have := bounds_i64 h
  exact ⟨by omega, by omega⟩
theorem bagF_fitI (l : List Int) (n : Nat) (a m : Int) (sg : Bool) (hm : 2 ≤ m) (hm2 : m ≤ 20) : fitB (bagF l n a m sg) ∧ (bagF l n a m sg).length ≤ 20 := by
  obtain ⟨h1, h2⟩ := kX l n a m hm (by omega)
  have h3 := kQ sg _ h2
  have h5 := cT ((rawF l n a m).map (fixE sg)).length _ (Nat.le_refl _)
  constructor
  · intro e he
    have := h5.2.2 (fun r => r.length = 2) (fun e he => (h3 e he).2.1) e he
    rw [show e.r.length = 2 from this]
    simp only [maxLen]; omega
  · have := h5.1
    rw [List.length_map] at this
    unfold bagF
    omega
attribute [local irreducible] Still Adds AWL AW Drw DrwE EStep AC AWR Weak Frz Src RetK Out InK ItK AsK RdK RetT OutT ACT
set_option maxHeartbeats 8000000 in
theorem ichg_walk (l : List Int) (n : Nat) (hn : l.length = n) (hml : n ≤ maxLen) (hb : 8 * n ≤ 140737488355328) (col : Int) (a1 a2 a3 a4 a5 : Int) (A C D D' : List En) (P E : List Po) (na nc nd nd' M Q : Nat) (hna : A.length = na) (hnc : C.length = nc) (hnd : D.length = nd) (hnd' : D'.length = nd') (hM : P.length = M) (hQ : E.length = Q)
    (h1 : ACT Tryz.prog 10 72 (tpC l n 0) [iv 8] (tpC l n a1) (.sl 2 na (ec A)))
    (hb1 : AC Tryz.prog 11 [.sl 2 na (ec A), iv 0] (.tup [.c (.sl 3 M (pc P)), .c (iv 0)]) [] 0)
    (h2 : ACT Tryz.prog 12 72 (tpC l n a1) [.sl 2 na (ec A), iv 2] (tpC l n a2) (.sl 2 nd (ec D)))
    (h3 : ACT Tryz.prog 14 72 (tpC l n a2) [iv 2, iv 5, bv true] (tpC l n a3) (.sl 2 nc (ec C)))
    (h4 : ACT Tryz.prog 15 72 (tpC l n a3) [.sl 3 M (pc P)] (tpC l n a4) (.sl 3 Q (pc E)))
    (h5 : ACT Tryz.prog 16 72 (tpC l n a4) [.sl 2 nd (ec D)] (tpC l n a5) (.sl 2 nd' (ec D')))
    (b1 : AC Tryz.prog 13 [.sl 3 M (pc P), .sl 2 nd (ec D), iv 0] (.c (bv true)) [] 0)
    (b2 : AC Tryz.prog 13 [.sl 3 M (pc P), .sl 2 nd (ec D), iv col] (.c (bv true)) [] 0)
    (b3 : AC Tryz.prog 13 [.sl 3 M (pc P), .sl 2 nc (ec C), iv 0] (.c (bv true)) [] 0)
    (b4 : AC Tryz.prog 13 [.sl 3 Q (pc E), .sl 2 nd (ec D), iv 0] (.c (bv true)) [] 0)
    (b5 : AC Tryz.prog 13 [.sl 3 M (pc P), .sl 2 nd' (ec D'), iv 0] (.c (bv true)) [] 0) :
    AC Tryz.prog 3 [.sl 1 n (intc .i64 l), iv col] (.c (bv true)) [] 0 := by
  have haw := awake13_ok
  have hil : (intc .i64 l).length = n := by rw [oF, hn]
  have hAl : (ec A).length = na * 2 := by rw [bM, hna]
  have hCl : (ec C).length = nc * 2 := by rw [bM, hnc]
  have hDl : (ec D).length = nd * 2 := by rw [bM, hnd]
  have hDl' : (ec D').length = nd' * 2 := by rw [bM, hnd']
  have hPl : (pc P).length = M * 3 := by rw [bF, hM]
  have hEl : (pc E).length = Q * 3 := by rw [bF, hQ]
  refine aJ tabOk (sz := 54) Tryz.func3 rfl (by rw [Tryz.ntmps3]; rfl) ?_
  repeat' (first | ((with_reducible refine aD ?_); intro K hK hX) | ((with_reducible refine aE ?_); refine aA [0, 1, 2, 4, 5, 6, 7, 9] rfl rfl ?_; with_reducible refine aB ?_) | ((with_reducible refine nO ?_); refine awl_fzE (m' := n) (cs' := intc .i64 l) 5 rfl rfl zln (by omega) (by simp) ?_) | ((with_reducible refine aF ?_); refine aQ (h1) (by first | exact aH | exact (bT rfl rfl zgb)) rfl zby rfl rfl rfl rfl zcv rfl ztp ?_) | ((with_reducible refine aF ?_); refine aQ (h2) (by first | exact aH | exact (bT rfl rfl zgb)) rfl zby rfl rfl rfl rfl zcv rfl ztp ?_) | ((with_reducible refine aF ?_); refine aQ (h3) (by first | exact aH | exact (bT rfl rfl zgb)) rfl zby rfl rfl rfl rfl zcv rfl ztp ?_) | ((with_reducible refine aF ?_); refine aQ (h4) (by first | exact aH | exact (bT rfl rfl zgb)) rfl zby rfl rfl rfl rfl zcv rfl ztp ?_) | ((with_reducible refine aF ?_); refine aQ (h5) (by first | exact aH | exact (bT rfl rfl zgb)) rfl zby rfl rfl rfl rfl zcv rfl ztp ?_) | ((with_reducible refine aF ?_); (first | refine zA ?_ | refine zN ?_); (first | refine c0 (hb1) ?_ | refine c0 (b1) ?_ | refine c0 (b2) ?_ | refine c0 (b3) ?_ | refine c0 (b4) ?_ | refine c0 (b5) ?_ | refine c0 (haw) ?_)) | ((first | with_reducible refine aF ?_ | with_reducible refine aR ?_); refine aY tabOk [0, 1, 2, 3, 4, 5, 6, 7, 8, 9, 10, 11, 12, 13, 14, 15, 16, 17, 18, 19, 20, 21, 22, 23, 24, 25, 26, 27, 28, 29, 30, 31, 32, 33, 34, 35, 36, 37, 38, 39, 40, 41, 42, 43, 44, 45, 46, 47, 48, 49, 50, 51, 52, 53] aH rfl rfl zby Tryz.func9 rfl rfl rfl (szf := 8) (by rw [Tryz.ntmps9]; rfl) rfl ?_) | ((with_reducible refine dB ?_); refine eJ tabOk aH rfl rfl rfl zpt (by rfl) (by rfl) rfl (Nat.le_of_ble_eq_true rfl) (by rfl) ?_) | refine stA ?_ | ((first | refine hK _ _ _ _ ?_ | refine hX _ _ _ _ _ (by simp) ?_); clear hK hX K) | (first | refine bJ zio ztr rfl rfl (ResL.one (ResA.tmp rfl)) ?_ | refine bI zio ztr rfl rfl (ResL.one (ResA.tmp rfl)) ?_))
  refine aK zio ztr rfl (ResL.one (ResA.tmp rfl)) zou
theorem law_ichange (l : List Int) (n : Nat) (hn : l.length = n) (hb : 8 * n ≤ 140737488355328) (col : Int) (hc : col ≤ 9223372036854775807) : AC Tryz.prog 3 [.sl 1 n (intc .i64 l), iv col] (.c (bv true)) [] 0 := by
  have hml : n ≤ maxLen := by simp only [maxLen]; omega
  obtain ⟨fA, fA2, lA⟩ := txB_F l n 0 9 (by omega) (by omega) (by decide) (by decide)
  obtain ⟨na, hna⟩ : ∃ na, (txB l n 0 9).length = na := ⟨_, rfl⟩
  have h1 := ttxb_ok l n 0 8 9 na hn hml (by omega) (by omega) (by decide) (by decide) rfl hna
  obtain ⟨s1, s2⟩ := txA_bd l n 0 9 (by omega) (by omega)
  have fA : BagF 24 (txB l n 0 9) := fA
  generalize txB l n 0 9 = A at *
  generalize txA l n 0 9 = a1 at *
  have hna24 : na ≤ 24 := by rw [← hna]; exact fA.len
  obtain ⟨fB, _, _⟩ := bagF_F l n a1 5 (by decide) (by decide)
  have fB : BagF 12 (bagF l n a1 5 false) := fB
  have hbA := bagA_bd l n a1 5 s1 s2
  obtain ⟨dS, dF, dl, da, dr, t1, t2⟩ := fit_all l n (bagA l n a1 5) hbA fB fA (by decide)
  have hbr : ∀ e ∈ A, rowP e.r ∧ 1 ≤ e.n ∧ e.n ≤ 1000 := fun e he => by
    have h1 := fA.pos e he
    have h2 := eI he
    have h3 := fA.abs
    exact ⟨fA.row e he, by omega, by omega⟩
  have hfs := pO l n (bagF l n a1 5 false) A (bagA l n a1 5) hbA fB.row hbr
  obtain ⟨nd, hnd⟩ : ∃ nd, (sortE (fitS l n (bagF l n a1 5 false, bagA l n a1 5) A na).1).length = nd := ⟨_, rfl⟩
  have h2 := tfit_ok l n a1 A na _ nd hn hml s1 s2 hna (by omega) (fun e he => (hbr e he).2) rfl hnd (fun i hi => by
    obtain ⟨⟨x1, _⟩, x2, x3⟩ := hfs i (by omega)
    have := fB.len
    exact ⟨by omega, x2, x3⟩) (by rw [← hna]; exact ⟨by omega, dr⟩)
  rw [hna] at dS dF t1 t2
  generalize (fitS l n (bagF l n a1 5 false, bagA l n a1 5) A na).2 = a2 at *
  generalize sortE (fitS l n (bagF l n a1 5 false, bagA l n a1 5) A na).1 = d at *
  clear fB hbA dl da dr hbr hfs
  have hpA := fA.posP (by decide)
  have hvA := post_val hpA.1 hpA.2 0
  obtain ⟨M, hM⟩ : ∃ M, (postP (prs 0 A)).length = M := ⟨_, rfl⟩
  have hb1 := rbuild_ok A na hna fA.fit hpA 0 (by decide) M hM
  have hMA := cR (col := 0) fA.ok
  rw [← dD, hM, hna] at hMA
  have hfP : fitP (postP (prs 0 A)) := fun x hx => by
    obtain ⟨y1, y2, _⟩ := (dX hvA).2 x hx
    have := y1.2.1
    have := y2.1
    exact ⟨by omega, by omega⟩
  generalize postP (prs 0 A) = P at *
  obtain ⟨fC, lC⟩ := bagF_fitI l n a2 6 true (by decide) (by decide)
  obtain ⟨nc, hnc⟩ : ∃ nc, (bagF l n a2 6 true).length = nc := ⟨_, rfl⟩
  have h3 := tbag_ok l n a2 5 6 true nc hn hml t1 t2 (by decide) (by decide) rfl hnc
  obtain ⟨u1, u2⟩ := bagA_bd l n a2 6 t1 t2
  generalize bagF l n a2 6 true = C at *
  generalize bagA l n a2 6 = a3 at *
  obtain ⟨E, Q, a4, hE, hQ, fE, v1, v2, h4⟩ := tspp_ok l n a3 P M hn hml u1 u2 hM (by omega) hfP
  have hdl := dS.len
  obtain ⟨D', nd', a5, hD', hnd', fD', w1, w2, h5⟩ := tspb_ok l n a4 d nd hn hml v1 v2 hnd (by omega) dS.fit
  exact ichg_walk l n hn hml hb col a1 a2 a3 a4 a5 A C d D' P E na nc nd nd' M Q hna hnc hnd hD' hM hE h1 hb1 h2 h3 h4 h5 (gV P d M nd 0 hM hnd (by omega) (by omega) hfP dS.fit (by omega)) (gV P d M nd col hM hnd (by omega) (by omega) hfP dS.fit hc) (gV P C M nc 0 hM hnc (by omega) (by omega) hfP fC (by omega)) (gV E d Q nd 0 hE hnd (by omega) (by omega) fE dS.fit (by omega)) (gV P D' M nd' 0 hM hD' (by omega) (by omega) hfP fD' (by omega))
end Go.Proofs.YtccnhpaldmjkbaaGreat
