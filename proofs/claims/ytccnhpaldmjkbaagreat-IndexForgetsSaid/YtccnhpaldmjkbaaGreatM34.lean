/-
  Joined texts: JF. Lemmas; no statement of a law.
-/
import Derived.Test.YtccnhpaldmjkbaaGreatM29
import Derived.Test.YtccnhpaldmjkbaaGreatM30
import Derived.Test.YtccnhpaldmjkbaaGreatM33
set_option linter.unusedSimpArgs false
set_option linter.unusedVariables false
/-
  The law IndexForgets (walk).
-/
namespace Go.Proofs.YtccnhpaldmjkbaaGreat
open Go Go.RowKit Go.Av
set_option maxRecDepth 100000
theorem cut_all {M : Nat} {A : List En} {x : En} (hA : BagF M A) (hx : x ∈ A) : BagS M [⟨x.r, -x.n⟩] ∧ BagF (M + M) (mergeE A [⟨x.r, -x.n⟩]) ∧ ∀ e ∈ mergeE A [⟨x.r, -x.n⟩], e.r ≠ x.r := by
  have h0 := hA.pos x hx
  have h1 := absS_mem hx
  have h2 := hA.abs
  have hS : BagS M [⟨x.r, -x.n⟩] := by
    refine ⟨List.pairwise_singleton _ _, fun e he => ?_, fun e he => ?_, ?_, ?_⟩
    · rw [List.mem_singleton.1 he]; show -x.n ≠ 0; omega
    · rw [List.mem_singleton.1 he]; exact hA.row x hx
    · rw [absS_cons]; show (-x.n).natAbs + absS [] ≤ M; have : absS ([] : List En) = 0 := rfl; omega
    · simp only [List.length_singleton]; omega
  have hw : ∀ r, wsum (ind r) [⟨x.r, -x.n⟩] = -(x.n * ind r x.r) := fun r => by simp only [wsum_cons, wsum_nil, Int.neg_mul]; omega
  have hnn : ∀ r, 0 ≤ wsum (ind r) A + wsum (ind r) [⟨x.r, -x.n⟩] := fun r => by
    rw [hw]
    by_cases hr : r = x.r
    · subst hr
      rw [wsum_ind hA.srt hx]
      unfold ind
      rw [if_pos rfl]
      omega
    · have h3 := (wsum_bd (g := ind r) (D := 1) (ind_nn r) (b := A) hA.pos).1
      have h4 : ind r x.r = 0 := by unfold ind; rw [if_neg (fun e => hr e.symm)]
      rw [h4]
      omega
  have hF := fit_pos hA hS fun e _ => hnn e.r
  refine ⟨hS, hF, fun e he hr => ?_⟩
  have h5 := wsum_ind hF.srt he
  rw [mergeE_wsum _ _ _ hA.ok hS.good.ok, hw, hr, wsum_ind hA.srt hx] at h5
  have h6 : ind x.r x.r = 1 := by unfold ind; rw [if_pos rfl]
  rw [h6] at h5
  have := hF.pos e he
  omega
theorem post_rows {d : List En} {col : Nat} {x : Po} (h : x ∈ postP (prs col d)) : ∃ e ∈ d, e.r = x.r := by
  obtain ⟨q, hq, rfl⟩ := postP_mem h
  exact ⟨q.2, (prs_mem hq).1, rfl⟩
theorem cmpP_rows {q : List Po} {ws : List Wd} (hp : q.Pairwise fun x y => cmpP x y < 0) {e : En} (h : e ∈ srchP q ws) : ∃ x ∈ q, x.r = e.r := by
  obtain ⟨x, hx, _⟩ := ((srchP_mem hp e).1 h).some
  obtain ⟨x1, _, x3⟩ := mine_mem.1 hx
  exact ⟨x, x1, x3⟩
attribute [local irreducible] Still Adds AWL AW Drw DrwE EStep AC AWR Weak Frz Src RetK Out InK ItK AsK RdK RetT OutT ACT
open Classical in
set_option maxHeartbeats 8000000 in
theorem law_iforgets (l : List Int) (n : Nat) (hn : l.length = n) (hb : 8 * n ≤ 140737488355328) : AC Tryz.prog 8 [.sl 1 n (intc .i64 l)] (.c (bv true)) [] 0 := by
  have hml : n ≤ maxLen := by simp only [maxLen]; omega
  have haw := awake13_ok
  have hil : (intc .i64 l).length = n := by rw [intc_length, hn]
  obtain ⟨fA, fA2, lA⟩ := txB_F l n 0 9 (by omega) (by omega) (by decide) (by decide)
  obtain ⟨na, hna⟩ : ∃ na, (txB l n 0 9).length = na := ⟨_, rfl⟩
  have h1 := ttxb_ok l n 0 8 9 na hn hml (by omega) (by omega) (by decide) (by decide) rfl hna
  obtain ⟨s1, s2⟩ := txA_bd l n 0 9 (by omega) (by omega)
  have fA : BagF 24 (txB l n 0 9) := fA
  generalize txB l n 0 9 = A at *
  generalize txA l n 0 9 = a1 at *
  have hna24 : na ≤ 24 := by rw [← hna]; exact fA.len
  have hAl : (ec A).length = na * 2 := by rw [ec_length, hna]
  by_cases h0 : na = 0
  · rw [h0] at h1
    clear fA fA2 lA
    refine ac_enter tabOk (sz := 68) Tryz.func8 rfl (by rw [Tryz.ntmps8]; rfl) ?_
    repeat' (first | ((with_reducible refine aw_seqk ?_); intro K hK hX) | ((with_reducible refine isC_reg ?_); refine aw_prune [0, 2, 3, 4, 5, 6, 8, 9, 10, 11] rfl rfl ?_; with_reducible refine aw_region ?_) | ((with_reducible refine isC_draw ?_); refine aw_prune [0, 2, 3, 4, 5, 6, 8, 9, 10, 11] rfl rfl ?_; refine aw_drwF [9] ?_) | ((with_reducible refine isA_build ?_); refine awl_fzE (m' := n) (cs' := intc .i64 l) 5 rfl rfl zln (by omega) (by simp) ?_) | ((with_reducible refine isA_call ?_); refine awl_callT (h1) g_none rfl zby rfl rfl rfl rfl zcv rfl ztp ?_) | ((first | with_reducible refine isA_call ?_ | with_reducible refine isD_call ?_); (first | refine zA ?_ | refine zN ?_ | refine zD ?_); (first | refine c0 (haw) ?_)) | ((first | with_reducible refine isA_call ?_ | with_reducible refine isA_callv ?_); refine awl_inl tabOk [0, 1, 2, 3, 4, 5, 6, 7, 8, 9, 10, 11, 12, 13, 14, 15, 16, 17, 18, 19, 20, 21, 22, 23, 24, 25, 26, 27, 28, 29, 30, 31, 32, 33, 34, 35, 36, 37, 38, 39, 40, 41, 42, 43, 44, 45, 46, 47, 48, 49, 50, 51, 52, 53, 54, 55, 56, 57, 58, 59, 60, 61, 62, 63, 64, 65, 66, 67] g_none rfl rfl zby Tryz.func9 rfl rfl rfl (szf := 8) (by rw [Tryz.ntmps9]; rfl) rfl ?_) | ((with_reducible refine isA_store ?_); refine awl_storeA tabOk g_none rfl rfl rfl zpt (by rfl) (by rfl) rfl (Nat.le_of_ble_eq_true rfl) (by rfl) ?_) | refine stA ?_ | refine stD ?_ | (refine hK _ _ _ _ ?_; clear hK hX K) | (refine hX _ _ _ _ _ (by simp) ?_; clear hK hX K) | (first | refine inK_some zio ztr rfl rfl (ResL.one (ResA.tmp rfl)) ?_ | refine inK_none zio ztr rfl rfl (ResL.one (ResA.tmp rfl)) ?_))
    refine retK_mk zio ztr rfl (ResL.one (ResA.tmp rfl)) zou
  · have hx1 := next_ok l n a1 na hn hml s1 s2 (by omega)
    obtain ⟨x1, x2⟩ := nextX_one l n a1 na (by omega) (by omega)
    obtain ⟨t1, t2⟩ := nextA_bd n a1 na s1 s2
    obtain ⟨i, hi⟩ : ∃ i : Nat, nextX l n a1 na = i := ⟨(nextX l n a1 na).toNat, by omega⟩
    rw [hi] at hx1 x2
    generalize nextA n a1 na = a2 at *
    obtain ⟨x, hx⟩ : ∃ x, A[i]? = some x := ⟨_, List.getElem?_eq_getElem (by omega)⟩
    have hxm := List.mem_of_getElem? hx
    obtain ⟨cS, cF, cR⟩ := cut_all fA hxm
    have hat := ec_at hx
    have hx0 := fA.pos x hxm
    have hxa := absS_mem hxm
    have hxl := (fA.row x hxm).1
    have habs := fA.abs
    have hpA := fA.posP (by decide)
    have hpC := cF.posP (by decide)
    obtain ⟨M, hM⟩ : ∃ M, (postP (prs 0 A)).length = M := ⟨_, rfl⟩
    obtain ⟨Mc, hMc⟩ : ∃ Mc, (postP (prs 0 (mergeE A [⟨x.r, -x.n⟩]))).length = Mc := ⟨_, rfl⟩
    have h4 := ibuild_ok A na hna fA.fit hpA 0 (by decide) M hM
    have hvA := post_val hpA.1 hpA.2 0
    have hvC := post_val hpC.1 hpC.2 0
    obtain ⟨hpC2, hallC⟩ := valP_facts hvC
    have hpm := post_merge (col := 0) fA.toS.good cS.good
    have hMA := prs_length (col := 0) fA.ok
    rw [← postP_length, hM, hna] at hMA
    have hMC := prs_length (col := 0) cF.ok
    rw [← postP_length, hMc] at hMC
    have hncl := cF.len
    have h6 := ichange_ok (postP (prs 0 A)) [⟨x.r, -x.n⟩] M 1 0 Mc hM rfl (by omega) hvA (cS.bagP (by decide)) cS.fit (by decide) (by rw [hpm]; exact hMc) (fun y hy => by
      rw [hpm] at hy
      obtain ⟨_, _, y3, y4⟩ := hallC y hy
      exact ⟨by omega, y4⟩)
    rw [hpm] at h6
    have hno : ∀ y ∈ postP (prs 0 (mergeE A [⟨x.r, -x.n⟩])), y.r ≠ x.r ∧ y.r.length ≤ 1000000 := fun y hy => by
      obtain ⟨e, he, hr⟩ := post_rows hy
      have := (hallC y hy).2.1.1
      exact ⟨hr ▸ cR e he, by omega⟩
    have hfit : ∀ y ∈ postP (prs 0 (mergeE A [⟨x.r, -x.n⟩])), y.r.length ≤ maxLen ∧ y.w.length ≤ maxLen := fun y hy => by
      have := (hno y hy).2
      have := (hallC y hy).1.2.1
      simp only [maxLen]; omega
    obtain ⟨N1, hN1⟩ : ∃ N1, (srchP (postP (prs 0 (mergeE A [⟨x.r, -x.n⟩]))) []).length = N1 := ⟨_, rfl⟩
    have h7 := isearch_own (postP (prs 0 (mergeE A [⟨x.r, -x.n⟩]))) Mc [] 0 hMc (by omega) rfl (by omega) hvC N1 hN1
    have hw := tword_ok l n a2 hn hml t1 t2
    generalize wrdW (nextX l n a2 9) = w at *
    generalize nextA n a2 9 = a3 at *
    obtain ⟨N2, hN2⟩ : ∃ N2, (lkP (postP (prs 0 (mergeE A [⟨x.r, -x.n⟩]))) w).length = N2 := ⟨_, rfl⟩
    have h8 := ilook_ok (postP (prs 0 (mergeE A [⟨x.r, -x.n⟩]))) Mc w hMc (by omega) hfit hvC N2 hN2
    have hL1 : ∀ e ∈ srchP (postP (prs 0 (mergeE A [⟨x.r, -x.n⟩]))) [] ++ lkP (postP (prs 0 (mergeE A [⟨x.r, -x.n⟩]))) w, e.r ≠ x.r ∧ e.r.length ≤ 1000000 := fun e he => by
      rcases List.mem_append.1 he with he | he
      · obtain ⟨y, hy, hr⟩ := cmpP_rows hpC2 he
        exact hr ▸ hno y hy
      · obtain ⟨y, hy, _, hr, _⟩ := lk_mem.1 he
        exact hr ▸ hno y hy
    have hl1 : N1 ≤ 100000 := by
      have := selE_len (dedW ([] : List Wd)).length (fnd [] (postP (prs 0 (mergeE A [⟨x.r, -x.n⟩]))))
      have h9 := fnd_len [] (postP (prs 0 (mergeE A [⟨x.r, -x.n⟩])))
      have h10 := (srchP_perm (postP (prs 0 (mergeE A [⟨x.r, -x.n⟩]))) []).length_eq
      have h11 : (srchL (postP (prs 0 (mergeE A [⟨x.r, -x.n⟩]))) []).length = (selE (dedW ([] : List Wd)).length (fnd [] (postP (prs 0 (mergeE A [⟨x.r, -x.n⟩]))))).length := rfl
      omega
    have hl2 : N2 ≤ 100000 := by have := lkP_len (postP (prs 0 (mergeE A [⟨x.r, -x.n⟩]))) w; omega
    have hsl : (ec (srchP (postP (prs 0 (mergeE A [⟨x.r, -x.n⟩]))) [])).length = N1 * 2 := by rw [ec_length, hN1]
    have hll : (ec (lkP (postP (prs 0 (mergeE A [⟨x.r, -x.n⟩]))) w)).length = N2 * 2 := by rw [ec_length, hN2]
    have hec : ec [⟨x.r, -x.n⟩] = [.sl 3 x.r.length (rc x.r), iv (0 - x.n)] := by show [CV.sl 3 x.r.length (rc x.r), iv (-x.n)] = _; rw [Int.zero_sub]
    rw [hec] at h6
    clear cS cF cR fA fA2 lA hpA hpC hvA hvC hpC2 hallC hpm hno hfit hM hMc hi hec hMA hMC hncl
    generalize srchP (postP (prs 0 (mergeE A [⟨x.r, -x.n⟩]))) [] = L1 at *
    generalize lkP (postP (prs 0 (mergeE A [⟨x.r, -x.n⟩]))) w = L2 at *
    generalize pc (postP (prs 0 (mergeE A [⟨x.r, -x.n⟩]))) = RC at *
    generalize pc (postP (prs 0 A)) = RA at *
    obtain ⟨r, c⟩ := x
    simp only [En.c] at *
    refine ac_enter tabOk (sz := 68) Tryz.func8 rfl (by rw [Tryz.ntmps8]; rfl) ?_
    repeat' (first | ((with_reducible refine aw_seqk ?_); intro K hK hX) | ((with_reducible refine isC_reg ?_); refine aw_prune [0, 2, 3, 4, 5, 6, 8, 9, 10, 11] rfl rfl ?_; with_reducible refine aw_region ?_) | ((with_reducible refine isC_draw ?_); refine aw_prune [0, 2, 3, 4, 5, 6, 8, 9, 10, 11] rfl rfl ?_; refine aw_drwF [9] ?_) | ((with_reducible refine isA_build ?_); refine awl_fzE (m' := n) (cs' := intc .i64 l) 5 rfl rfl zln (by omega) (by simp) ?_) | ((with_reducible refine isA_call ?_); refine awl_fz 40 rfl rfl zln ?_) | ((with_reducible refine isA_call ?_); refine awl_callT (h1) g_none rfl zby rfl rfl rfl rfl zcv rfl ztp ?_) | ((with_reducible refine isA_call ?_); refine awl_callT (hx1) g_none rfl zby rfl rfl rfl rfl zcv rfl ztp ?_) | ((with_reducible refine isA_call ?_); refine awl_callT (hw) g_none rfl zby rfl rfl rfl rfl zcv rfl ztp ?_) | ((first | with_reducible refine isA_call ?_ | with_reducible refine isD_call ?_); (first | refine zA ?_ | refine zN ?_ | refine zD ?_); (first | refine c0 (h4) ?_ | refine c0 (h6) ?_ | refine c1 (h7) ?_ | refine c0 (h8) ?_)) | ((first | with_reducible refine isA_call ?_ | with_reducible refine isA_callv ?_); refine awl_inl tabOk [0, 1, 2, 3, 4, 5, 6, 7, 8, 9, 10, 11, 12, 13, 14, 15, 16, 17, 18, 19, 20, 21, 22, 23, 24, 25, 26, 27, 28, 29, 30, 31, 32, 33, 34, 35, 36, 37, 38, 39, 40, 41, 42, 43, 44, 45, 46, 47, 48, 49, 50, 51, 52, 53, 54, 55, 56, 57, 58, 59, 60, 61, 62, 63, 64, 65, 66, 67] g_none rfl rfl zby Tryz.func9 rfl rfl rfl (szf := 8) (by rw [Tryz.ntmps9]; rfl) rfl ?_) | ((first | ((with_reducible refine isA_any ?_); refine xA ?_) | ((with_reducible refine isDk_any ?_); refine xD ?_)); (first | ((with_reducible refine e_load ?_); (first | refine ex_i (s_loadAr tabOk rfl rfl rfl rfl (by first | exact hat | exact whole0 (by first | rfl | omega) | rfl) zln) ?_ | refine ex_i (s_loadAi tabOk rfl rfl rfl (by first | exact hat | exact whole0 (by first | rfl | omega) | rfl) zln) ?_)) | ((with_reducible refine e_slice ?_); (first | refine ex_i (s_slArri tabOk rfl rfl rfl rfl zbd zbd zle zle (by decide) (by first | exact hat | exact whole0 (by first | rfl | omega) | rfl) zln) ?_)))) | ((with_reducible refine isA_store ?_); refine awl_storeA tabOk g_none rfl rfl rfl zpt (by rfl) (by rfl) rfl (Nat.le_of_ble_eq_true rfl) (by rfl) ?_) | refine stA ?_ | refine stD ?_ | (refine hK _ _ _ _ ?_; clear hK hX K) | (refine hX _ _ _ _ _ (by simp) ?_; clear hK hX K) | (first | refine inK_some zio ztr rfl rfl (ResL.one (ResA.tmp rfl)) ?_ | refine inK_none zio ztr rfl rfl (ResL.one (ResA.tmp rfl)) ?_))
    refine aw_loopo [11] [] rfl rfl (fun i : Nat => [(11, .c (iv i))]) (fun i => []) (fun i => i ≤ N1 + N2) (fun i => N1 + N2 - i) 0 (Nat.zero_le _) weakA ?_
    intro j hj K hK hX
    by_cases hlt : j < N1 + N2
    · obtain ⟨e, he⟩ : ∃ e, (L1 ++ L2)[j]? = some e := ⟨_, List.getElem?_eq_getElem (by rw [List.length_append]; omega)⟩
      obtain ⟨hne, hel⟩ := hL1 e (List.mem_of_getElem? he)
      have hs := sameR2_ok e.r r e.r.length r.length rfl rfl hel (by omega)
      rw [decide_eq_false hne] at hs
      have her := ec_row he
      rw [ec_app] at her
      clear hL1 he h1 hx1 hw h4 h6 h7 h8 haw
      generalize e.r = er at *
      repeat' (first | ((with_reducible refine aw_seqk ?_); intro K hK hX) | ((with_reducible refine isC_reg ?_); refine aw_prune [0, 2, 3, 4, 5, 6, 8, 9, 10, 11] rfl rfl ?_; with_reducible refine aw_region ?_) | ((with_reducible refine isC_draw ?_); refine aw_prune [0, 2, 3, 4, 5, 6, 8, 9, 10, 11] rfl rfl ?_; refine aw_drwF [] ?_) | ((first | with_reducible refine isA_call ?_ | with_reducible refine isD_call ?_); (first | refine zA ?_ | refine zN ?_ | refine zD ?_); (first | refine c0 (hs) ?_)) | ((first | ((with_reducible refine isA_any ?_); refine xA ?_) | ((with_reducible refine isDk_any ?_); refine xD ?_)); (first | ((with_reducible refine e_load ?_); (first | refine ex_i (s_load1 tabOk rfl rfl rfl rfl (by first | exact her | (rw [Nat.zero_add]; exact her))) ?_ | refine ex_i (s_load1r tabOk rfl rfl rfl rfl (by first | exact her | (rw [Nat.zero_add]; exact her))) ?_ | refine ex_i (s_load1i tabOk rfl rfl rfl (by first | exact her | (rw [Nat.zero_add]; exact her))) ?_)) | ((with_reducible refine e_ix ?_); (first | refine ex_i (s_ixV1 tabOk rfl rfl zcj rfl rfl rfl rfl rfl zle (by first | exact her | (rw [Nat.zero_add]; exact her))) ?_ | refine ex_i (s_ixStr tabOk rfl rfl zcj rfl rfl (by first | exact her | (rw [Nat.zero_add]; exact her))) ?_)))) | refine stA ?_ | refine stD ?_ | (refine hK _ _ _ _ ?_; clear hK hX K) | (refine hX _ _ _ _ _ (by simp) ?_; clear hK hX K))
      exact ⟨j + 1, by omega, by omega, weakA⟩
    · clear hL1 h1 hx1 hw h4 h6 h7 h8
      repeat' (first | ((with_reducible refine aw_seqk ?_); intro K hK hX) | ((with_reducible refine isC_reg ?_); refine aw_prune [0, 2, 3, 4, 5, 6, 8, 9, 10, 11] rfl rfl ?_; with_reducible refine aw_region ?_) | ((with_reducible refine isC_draw ?_); refine aw_prune [0, 2, 3, 4, 5, 6, 8, 9, 10, 11] rfl rfl ?_; refine aw_drwF [] ?_) | ((first | with_reducible refine isA_call ?_ | with_reducible refine isD_call ?_); (first | refine zA ?_ | refine zN ?_ | refine zD ?_); (first | refine c0 (haw) ?_)) | refine stA ?_ | refine stD ?_ | (refine hK _ _ _ _ ?_; clear hK hX K) | (refine hX _ _ _ _ _ (by simp) ?_; clear hK hX K))
      refine retK_mk zio ztr rfl (ResL.one (ResA.tmp rfl)) zou
end Go.Proofs.YtccnhpaldmjkbaaGreat
