/-
  Joined texts: IW. Lemmas; no statement of a law.
-/
import Derived.Test.YtccnhpaldmjkbaaM21
import Derived.Test.YtccnhpaldmjkbaaM22
set_option linter.unusedSimpArgs false
set_option linter.unusedVariables false
namespace Go.Proofs.Ytccnhpaldmjkbaa
open Go Go.RowKit Go.Av
set_option maxRecDepth 100000
/-- The entries in whose rows the word stands. -/
def fndE (col : Nat) (w : Wd) (b : List En) : List En := b.filter fun e => decide (w ∈ wdsE col e.r)
theorem flat_one {α : Type} {w : Wd} {A : List α} : ∀ {l : List Wd}, l.Nodup → (l.flatMap fun v => if v = w then A else []) = if w ∈ l then A else []
  | [], _ => rfl
  | x :: l, h => by
    obtain ⟨h1, h2⟩ := List.nodup_cons.1 h
    rw [List.flatMap_cons, flat_one h2]
    by_cases e : x = w
    · subst e
      rw [if_pos rfl, if_neg h1, if_pos (by simp), List.append_nil]
    · rw [if_neg e, List.nil_append]
      by_cases hm : w ∈ l
      · rw [if_pos hm, if_pos (by simp [hm])]
      · rw [if_neg hm, if_neg (by rw [List.mem_cons]; exact fun h => h.elim (fun h => e h.symm) hm)]
theorem lk_post (col : Nat) (b : List En) (w : Wd) : lkP (postP (prs col b)) w = fndE col w b := by
  have hnd := ascW_nodup (setW_facts ((prs col b).map (·.1))).1
  have h1 : ((postP (prs col b)).filter fun x => decide (x.w = w)) = (ofW (prs col b) w).map mkPo := by
    unfold postP
    rw [List.filter_flatMap]
    have h2 : ∀ v, (((ofW (prs col b) v).map mkPo).filter fun x => decide (x.w = w)) = if v = w then (ofW (prs col b) w).map mkPo else [] := fun v => by
      by_cases e : v = w
      · subst e
        rw [if_pos rfl]
        refine List.filter_eq_self.2 fun x hx => ?_
        obtain ⟨p, hp, rfl⟩ := List.mem_map.1 hx
        exact (List.mem_filter.1 hp).2
      · rw [if_neg e]
        refine List.filter_eq_nil_iff.2 fun x hx hw => ?_
        obtain ⟨p, hp, rfl⟩ := List.mem_map.1 hx
        have h3 : p.1 = v := of_decide_eq_true (List.mem_filter.1 hp).2
        have h4 : p.1 = w := of_decide_eq_true hw
        exact e (h3.symm.trans h4)
    rw [show (fun v => ((ofW (prs col b) v).map mkPo).filter fun x => decide (x.w = w)) = fun v => if v = w then (ofW (prs col b) w).map mkPo else [] from funext h2, flat_one hnd]
    by_cases hm : w ∈ setW ((prs col b).map (·.1))
    · rw [if_pos hm]
    · rw [if_neg hm, ofW_none fun h => hm ((setW_facts _).2 w |>.2 h)]; rfl
  unfold lkP fndE
  rw [h1, ofW_prs, List.map_map, List.map_map]
  conv => rhs; rw [← List.map_id (b.filter fun e => decide (w ∈ wdsE col e.r))]
  exact List.map_congr_left fun e _ => rfl
theorem fndE_step {col : Nat} {w : Wd} {b : List En} {i : Nat} {e : En} (h : b[i]? = some e) : fndE col w (b.take (i + 1)) = if w ∈ wdsE col e.r then fndE col w (b.take i) ++ [e] else fndE col w (b.take i) := by
  unfold fndE
  rw [List.take_add_one, h, Option.toList_some, List.filter_append]
  by_cases hw : w ∈ wdsE col e.r
  · rw [if_pos hw, List.filter_cons, if_pos (decide_eq_true hw)]; rfl
  · rw [if_neg hw, List.filter_cons, if_neg (by simp [hw])]; simp
theorem runW_low (l : Wd) : (∀ w ∈ (runW l).1, ∀ b ∈ w, lowL b = true) ∧ ∀ b ∈ (runW l).2, lowL b = true := by
  refine snocI (p := fun l => (∀ w ∈ (runW l).1, ∀ b ∈ w, lowL b = true) ∧ ∀ b ∈ (runW l).2, lowL b = true) ?_ ?_ l
  · exact ⟨fun w hw => (by cases hw), fun b hb => (by cases hb)⟩
  · rintro l b ⟨h1, h2⟩
    have e : runW (l ++ [b]) = stW (runW l) b := by unfold runW; rw [List.foldl_append]; rfl
    rw [e]
    by_cases hu : upB b = true
    · rw [stW_up hu]
      refine ⟨h1, fun c hc => ?_⟩
      rcases List.mem_append.1 hc with hc | hc
      · exact h2 c hc
      · rw [List.mem_singleton.1 hc]
        have a1 := add32 hu
        have a2 := of_decide_eq_true hu
        exact decide_eq_true (by omega)
    · have hu : upB b = false := by simpa using hu
      by_cases hl : lowL b = true
      · rw [stW_low hu hl]
        refine ⟨h1, fun c hc => ?_⟩
        rcases List.mem_append.1 hc with hc | hc
        · exact h2 c hc
        · rw [List.mem_singleton.1 hc]; exact hl
      · rw [stW_end hu (by simpa using hl)]
        refine ⟨fun w hw c hc => ?_, fun c hc => by cases hc⟩
        rcases List.mem_append.1 hw with hw | hw
        · exact h1 w hw c hc
        · obtain ⟨e, _⟩ := flW_mem hw
          subst e
          exact h2 c hc
theorem wordsP_low {l : Wd} : ∀ w ∈ wordsP l, ∀ b ∈ w, lowL b = true := fun w hw c hc => by
  have h := ((setW_facts _).2 w).1 hw
  obtain ⟨h1, h2⟩ := runW_low l
  unfold rawW at h
  rcases List.mem_append.1 h with h | h
  · exact h1 w h c hc
  · obtain ⟨e, _⟩ := flW_mem h
    subst e
    exact h2 c hc
theorem wdsE_low {col : Nat} {r : List Vl} {w : Wd} (h : w ∈ wdsE col r) : ∀ b ∈ w, lowL b = true := by
  unfold wdsE at h
  split at h
  · split at h
    · exact wordsP_low w h
    · cases h
  · cases h
theorem post_val {b : List En} (hb : bagP b) (hp : ∀ e ∈ b, 0 ≤ e.n) (col : Nat) : valP (postP (prs col b)) := by
  have hg := posP_good hb
  have hgp := postP_good (col := col) hg
  have hall : ∀ e ∈ b, entP e ∧ e.n ≠ 0 := fun e he => by
    obtain ⟨i, hi⟩ := List.mem_iff_getElem?.1 he
    obtain ⟨a1, a2, _⟩ := hb.2 i (List.getElem?_eq_some_iff.1 hi).1 e hi
    exact ⟨a1, a2⟩
  intro i hi x hx
  obtain ⟨p, hp1, hpe⟩ := postP_mem (List.mem_of_getElem? hx)
  obtain ⟨h1, h2⟩ := prs_mem hp1
  obtain ⟨⟨c1, c2, c3⟩, c4⟩ := hall p.2 h1
  obtain ⟨d1, d2⟩ := (wdsE_len c3.2).2 _ h2
  have d0 := hp p.2 h1
  subst hpe
  refine ⟨⟨d2, d1, ?_⟩, c3, by show 1 ≤ p.2.n; omega, c2, fun y hi0 hy => ?_⟩
  · have hlow : ∀ w ∈ wdsE col p.2.r, ∀ b ∈ w, lowL b = true := fun w hw c hc => wdsE_low hw c hc
    exact hlow _ h2
  · have hw32 := postP_words (col := col) hg.ok
    rw [cmpP_e (hw32 y (List.mem_of_getElem? hy)) (hw32 _ (List.mem_of_getElem? hx))]
    obtain ⟨q1, q2⟩ := List.getElem?_eq_some_iff.1 hy
    obtain ⟨q3, q4⟩ := List.getElem?_eq_some_iff.1 hx
    have := List.pairwise_iff_getElem.1 hgp.srt (i - 1) i (by rw [List.length_map]; exact q1) (by rw [List.length_map]; exact q3) (by omega)
    rw [List.getElem_map, List.getElem_map, q2, q4] at this
    exact this
def wrdL : List Wd := [[111, 108, 100], [115, 116, 114, 101, 101, 116], [53], [97], [98], [79, 108, 100], [], [122, 255], [97, 32, 98]]
def wrdW (x : Int) : Wd := wrdL.getD x.toNat []
theorem wrc (x : Int) (h1 : 0 ≤ x) (h2 : x < 9) : (wrdL.map fun t => sv t)[x.toNat]? = some (sv (wrdW x)) := by
  rcases (show x = 0 ∨ x = 1 ∨ x = 2 ∨ x = 3 ∨ x = 4 ∨ x = 5 ∨ x = 6 ∨ x = 7 ∨ x = 8 by omega) with e | e | e | e | e | e | e | e | e <;> subst e <;> rfl
attribute [local irreducible] Still Adds AWL AW Drw DrwE EStep AC AWR Weak Frz Src RetK Out InK ItK AsK RdK RetT OutT ACT
set_option maxHeartbeats 4000000 in
theorem tword_ok (l : List Int) (n : Nat) (a : Int) (hn : l.length = n) (hnn : n ≤ maxLen) (ha0 : 0 ≤ a) (ha : a ≤ 9223372036854775807) : ACT Try.prog 25 83 (tpC l n a) [] (tpC l n (nextA n a 9)) (sv (wrdW (nextX l n a 9))) := by
  have h1 := next_ok l n a 9 hn hnn ha0 ha (by decide)
  obtain ⟨x1, x2⟩ := nextX_bd l n a 9 (by decide) (by decide)
  have hcx := wrc (nextX l n a 9) x1 x2
  simp only [wrdL, List.map_cons, List.map_nil] at hcx
  generalize wrdW (nextX l n a 9) = t at *
  generalize nextX l n a 9 = x at *
  generalize nextA n a 9 = a' at *
  refine act_enter tabOk (sz := 8) Try.func25 rfl (by rw [Try.ntmps25]; rfl) ?_
  repeat' (first | ((with_reducible refine aw_seqk ?_); intro K hK hX) | ((with_reducible refine isC_reg ?_); refine aw_prune [0, 2] rfl rfl ?_; with_reducible refine aw_region ?_) | ((with_reducible refine isA_bslice ?_); (refine wA ?_); (first | refine ew_i (adds_closed (b_bslice0 tabOk rfl rfl rfl rfl rfl) zln) ?_ | refine ew_i (adds_closed (b_bslice tabOk rfl rfl rfl rfl rfl rfl rfl rfl rfl rfl rfl rfl (flatLF_ok rfl) (by first | rfl | exact all1 (by assumption) | (simp <;> fail) | fail) (by rfl)) zln) ?_)) | ((with_reducible refine isA_call ?_); refine awl_callT (h1) g_none rfl zby rfl rfl rfl rfl zcv rfl ztp ?_) | (((with_reducible refine isA_any ?_); refine xA ?_); (first | ((with_reducible refine e_load ?_); (first | refine ex_i (s_load1 tabOk rfl rfl rfl rfl (by (rw [Nat.mul_one]; exact hcx))) ?_ | refine ex_i (s_load1r tabOk rfl rfl rfl rfl (by (rw [Nat.mul_one]; exact hcx))) ?_ | refine ex_i (s_load1i tabOk rfl rfl rfl (by (rw [Nat.mul_one]; exact hcx))) ?_)) | ((with_reducible refine e_ix ?_); (first | refine ex_i (s_ixV1 tabOk rfl rfl zcj rfl rfl rfl rfl rfl zle (by (rw [Nat.mul_one]; exact hcx))) ?_ | refine ex_i (s_ixStr tabOk rfl rfl zcj rfl rfl (by (rw [Nat.mul_one]; exact hcx))) ?_)))) | refine stA ?_ | (refine hK _ _ _ _ ?_; clear hK hX K) | (refine hX _ _ _ _ _ (by simp) ?_; clear hK hX K))
  refine retT_mk zio ztr rfl rfl (ResL.one (ResA.tmp rfl)) (outT_c zfz rfl rfl)
set_option maxHeartbeats 4000000 in
theorem same06_ok (p : List En) (n : Nat) (hn : p.length = n) (hm : n ≤ 1000000) (hR : ∀ x ∈ p, x.r.length ≤ 1000000) : AC Try.prog 26 [.sl 2 n (ec p), .sl 2 n (ec p)] (.c (bv true)) [] 0 := by
  have hcl : (ec p).length = n * 2 := by rw [ec_length, hn]
  refine ac_enter tabOk (sz := 42) Try.func26 rfl (by rw [Try.ntmps26]; rfl) ?_
  repeat' (first | ((with_reducible refine aw_seqk ?_); intro K hK hX) | ((with_reducible refine isC_reg ?_); refine aw_prune [0, 1, 4, 5] rfl rfl ?_; with_reducible refine aw_region ?_) | ((with_reducible refine isC_draw ?_); refine aw_prune [0, 1, 4, 5] rfl rfl ?_; refine aw_drwF [] ?_) | ((first | ((with_reducible refine isA_any ?_); refine xA ?_) | ((with_reducible refine isDk_any ?_); refine xD ?_)); (first | ((with_reducible refine e_bin ?_); (first | refine ex_i (s_cmp rfl rfl rfl (decide_eq_false (by omega))) ?_)))) | refine stA ?_ | refine stD ?_ | (refine hK _ _ _ _ ?_; clear hK hX K) | (refine hX _ _ _ _ _ (by simp) ?_; clear hK hX K))
  refine aw_loopo [5] [] rfl rfl (fun i : Nat => [(5, .c (iv i))]) (fun i => []) (fun i => i ≤ n) (fun i => n - i) 0 (Nat.zero_le _) weakA ?_
  intro i hi K hK hX
  by_cases hik : i < n
  · obtain ⟨x, hx⟩ : ∃ x, p[i]? = some x := ⟨_, List.getElem?_eq_getElem (by omega)⟩
    have a0 := ec_row hx
    have a1 := ec_n hx
    have hsr := sameR_ok x.r x.r.length rfl (hR x (List.mem_of_getElem? hx))
    obtain ⟨r, c⟩ := x
    simp only at *
    have hnn : decide (c ≠ c) = false := by simp
    repeat' (first | ((with_reducible refine aw_seqk ?_); intro K hK hX) | ((with_reducible refine isC_reg ?_); refine aw_prune [0, 1, 4, 5] rfl rfl ?_; with_reducible refine aw_region ?_) | ((with_reducible refine isC_draw ?_); refine aw_prune [0, 1, 4, 5] rfl rfl ?_; refine aw_drwF [] ?_) | ((first | with_reducible refine isA_call ?_ | with_reducible refine isD_call ?_); (first | refine zA ?_ | refine zN ?_ | refine zD ?_); (first | refine c0 (hsr) ?_)) | ((first | ((with_reducible refine isA_any ?_); refine xA ?_) | ((with_reducible refine isDk_any ?_); refine xD ?_)); (first | ((with_reducible refine e_bin ?_); (first | refine ex_i (s_cmp rfl rfl rfl hnn) ?_)) | ((with_reducible refine e_load ?_); (first | refine ex_i (s_load1 tabOk rfl rfl rfl rfl (by first | exact a0 | exact a1)) ?_ | refine ex_i (s_load1r tabOk rfl rfl rfl rfl (by first | exact a0 | exact a1)) ?_ | refine ex_i (s_load1i tabOk rfl rfl rfl (by first | exact a0 | exact a1)) ?_)) | ((with_reducible refine e_ix ?_); (first | refine ex_i (s_ixV1 tabOk rfl rfl zcj rfl rfl rfl rfl rfl zle (by first | exact a0 | exact a1)) ?_ | refine ex_i (s_ixStr tabOk rfl rfl zcj rfl rfl (by first | exact a0 | exact a1)) ?_)))) | refine stA ?_ | refine stD ?_ | (refine hK _ _ _ _ ?_; clear hK hX K) | (refine hX _ _ _ _ _ (by simp) ?_; clear hK hX K))
    exact ⟨i + 1, by omega, by omega, weakA⟩
  · have hie : i = n := by omega
    rw [hie]
    repeat' (first | ((with_reducible refine aw_seqk ?_); intro K hK hX) | ((with_reducible refine isC_reg ?_); refine aw_prune [0, 1, 4, 5] rfl rfl ?_; with_reducible refine aw_region ?_) | ((with_reducible refine isC_draw ?_); refine aw_prune [0, 1, 4, 5] rfl rfl ?_; refine aw_drwF [] ?_) | refine stA ?_ | refine stD ?_ | (refine hK _ _ _ _ ?_; clear hK hX K) | (refine hX _ _ _ _ _ (by simp) ?_; clear hK hX K))
    refine retK_mk zio ztr rfl (ResL.one (ResA.tmp rfl)) zou
set_option maxHeartbeats 8000000 in
theorem law_ifinds (l : List Int) (n : Nat) (hn : l.length = n) (hb : 8 * n ≤ 140737488355328) : AC Try.prog 5 [.sl 1 n (intc .i64 l)] (.c (bv true)) [] 0 := by
  have hml : n ≤ maxLen := by simp only [maxLen]; omega
  have haw := awake13_ok
  have hil : (intc .i64 l).length = n := by rw [intc_length, hn]
  obtain ⟨fA, fA2, lA⟩ := txB_F l n 0 9 (by omega) (by omega) (by decide) (by decide)
  obtain ⟨na, hna⟩ : ∃ na, (txB l n 0 9).length = na := ⟨_, rfl⟩
  have h1 := ttxb_ok l n 0 8 9 na hn hml (by omega) (by omega) (by decide) (by decide) rfl hna
  obtain ⟨s1, s2⟩ := txA_bd l n 0 9 (by omega) (by omega)
  generalize txB l n 0 9 = A at *
  generalize txA l n 0 9 = a1 at *
  have hna20 : na ≤ 20 := by
    have : (9 - 1 : Int).toNat = 8 := rfl
    omega
  have hpos := fA.posP (by decide)
  have hAl : (ec A).length = na * 2 := by rw [ec_length, hna]
  obtain ⟨M, hM⟩ : ∃ M, (postP (prs 0 A)).length = M := ⟨_, rfl⟩
  have hMl := post_len hpos.1 fA.ok 0
  rw [hM] at hMl
  have h2 := ibuild_ok A na hna fA.fit hpos 0 (by decide) M hM
  have hval := post_val hpos.1 hpos.2 0
  have hfit : ∀ x ∈ postP (prs 0 A), x.r.length ≤ maxLen ∧ x.w.length ≤ maxLen := fun x hx => by
    have k1 := post_fit fA.row 0 x hx
    have k2 := postP_words (col := 0) fA.ok x hx
    simp only [maxLen]
    omega
  have h3 := fun w => ilook_ok (postP (prs 0 A)) M w hM (by omega) hfit hval
  have h3' : ∀ w, AC Try.prog 27 [.sl 3 M (pc (postP (prs 0 A))), sv w] (.c (.sl 2 (fndE 0 w A).length (ec (fndE 0 w A)))) [] 0 := fun w => by
    have := h3 w _ rfl
    rw [lk_post] at this
    exact this
  have hfl : ∀ w, (fndE 0 w A).length ≤ 20 := fun w => Nat.le_trans (List.length_filter_le _ _) (by omega)
  have h4 : ∀ w, AC Try.prog 26 [.sl 2 (fndE 0 w A).length (ec (fndE 0 w A)), .sl 2 (fndE 0 w A).length (ec (fndE 0 w A))] (.c (bv true)) [] 0 := fun w => same06_ok _ _ rfl (by have := hfl w; omega) fun x hx => by
    have := (fA.row x (List.mem_filter.1 hx).1).1
    omega
  generalize pc (postP (prs 0 A)) = R at h2 h3'
  clear h3 hfit hval hMl hM
  refine ac_enter tabOk (sz := 83) Try.func5 rfl (by rw [Try.ntmps5]; rfl) ?_
  repeat' (first | ((with_reducible refine aw_seqk ?_); intro K hK hX) | ((with_reducible refine isC_reg ?_); refine aw_prune [0, 2, 3, 4, 5, 6, 7, 8, 9, 10, 11, 12] rfl rfl ?_; with_reducible refine aw_region ?_) | ((with_reducible refine isA_build ?_); refine awl_fzE (m' := n) (cs' := intc .i64 l) 5 rfl rfl zln (by omega) (by simp) ?_) | ((with_reducible refine isA_call ?_); refine awl_callT (h1) g_none rfl zby rfl rfl rfl rfl zcv rfl ztp ?_) | ((with_reducible refine isA_call ?_); (first | refine zA ?_ | refine zN ?_); (first | refine c0 (h2) ?_)) | ((first | with_reducible refine isA_call ?_ | with_reducible refine isA_callv ?_); refine awl_inl tabOk [0, 1, 2, 3, 4, 5, 6, 7, 8, 9, 10, 11, 12, 13, 14, 15, 16, 17, 18, 19, 20, 21, 22, 23, 24, 25, 26, 27, 28, 29, 30, 31, 32, 33, 34, 35, 36, 37, 38, 39, 40, 41, 42, 43, 44, 45, 46, 47, 48, 49, 50, 51, 52, 53, 54, 55, 56, 57, 58, 59, 60, 61, 62, 63, 64, 65, 66, 67, 68, 69, 70, 71, 72, 73, 74, 75, 76, 77, 78, 79, 80, 81, 82] g_none rfl rfl zby Try.func18 rfl rfl rfl (szf := 8) (by rw [Try.ntmps18]; rfl) rfl ?_) | ((with_reducible refine isA_store ?_); refine awl_storeA tabOk g_none rfl rfl rfl zpt (by rfl) (by rfl) rfl (Nat.le_of_ble_eq_true rfl) (by rfl) ?_) | refine stA ?_ | (refine hK _ _ _ _ ?_; clear hK hX K) | (refine hX _ _ _ _ _ (by simp) ?_; clear hK hX K) | (first | refine inK_some zio ztr rfl rfl (ResL.one (ResA.tmp rfl)) ?_ | refine inK_none zio ztr rfl rfl (ResL.one (ResA.tmp rfl)) ?_))
  refine aw_loopo [7, 8, 9, 10, 11, 12] [2] rfl rfl (fun p : Nat × Int => [(7, .c (iv p.1))]) (fun p => [(2, .blk 83 [.c (.sl 1 n (intc .i64 l)), .c (iv p.2)])]) (fun p => p.1 ≤ 4 ∧ 0 ≤ p.2 ∧ p.2 ≤ 9223372036854775807) (fun p => 4 - p.1) (0, a1) ⟨by omega, s1, s2⟩ weakA ?_
  rintro ⟨i, a⟩ ⟨hi, i1, i2⟩ K hK hX
  dsimp only at hi i1 i2 ⊢
  by_cases hi4 : i < 4
  · have hw := tword_ok l n a hn hml i1 i2
    obtain ⟨t1, t2⟩ := nextA_bd n a 9 i1 i2
    generalize wrdW (nextX l n a 9) = w at *
    generalize nextA n a 9 = a' at *
    have h3w := h3' w
    have h4w := h4 w
    obtain ⟨q, hq⟩ : ∃ q : Nat → Nat, ∀ j, (fndE 0 w (A.take j)).length = q j := ⟨_, fun _ => rfl⟩
    have hqn : (fndE 0 w A).length = q na := by rw [← hq, List.take_of_length_le (by omega)]
    have hqA : ec (fndE 0 w (A.take na)) = ec (fndE 0 w A) := by rw [List.take_of_length_le (by omega)]
    have hql : ∀ j, q j ≤ 20 := fun j => by
      rw [← hq]
      refine Nat.le_trans (List.length_filter_le _ _) ?_
      rw [List.length_take]; omega
    rw [hqn] at h3w h4w
    have hq0 : 0 = q 0 := by rw [← hq]; rfl
    clear h3' h4 hfl h1 h2
    repeat' (first | ((with_reducible refine aw_seqk ?_); intro K hK hX) | ((with_reducible refine isC_reg ?_); refine aw_prune [0, 2, 3, 4, 5, 6, 7, 8, 9, 10, 11, 12] rfl rfl ?_; with_reducible refine aw_region ?_) | ((with_reducible refine isA_call ?_); refine awl_callT (hw) g_none rfl zby rfl rfl rfl rfl zcv rfl ztp ?_) | ((with_reducible refine isA_store ?_); refine awl_storeA tabOk g_none rfl rfl rfl zpt (by rfl) (by rfl) rfl (Nat.le_of_ble_eq_true rfl) (by rfl) ?_) | refine stA ?_ | (refine hK _ _ _ _ ?_; clear hK hX K) | (refine hX _ _ _ _ _ (by simp) ?_; clear hK hX K))
    refine aw_loopo [9, 10, 11, 12, 8] [3] rfl rfl (fun j : Nat => [(9, .own 3 0 (q j) 2 true), (10, .c (iv j)), (8, .c (sv w))]) (fun j => [(3, .row 46 (ec (fndE 0 w (A.take j))))]) (fun j => j ≤ na) (fun j => na - j) 0 (Nat.zero_le _) (by refine weak_mk rfl ?_ ?_ rfl <;> (repeat' (first | exact weakE_nil | exact weakH_nil | refine weakE_cons rfl (by first | rfl | (first | exact congrArg (fun x => AV.own 3 0 x 2 true) hq0) | exact zeq) rfl ?_ | refine weakH_cons rfl (by first | rfl | (first | exact congrArg (fun x => AV.own 3 0 x 2 true) hq0) | exact zeq) rfl ?_))) ?_
    intro j hj K hK hX
    have hqj := hql j
    have hFl : (ec (fndE 0 w (A.take j))).length = q j * 2 := by rw [ec_length, hq]
    by_cases hjn : j < na
    · obtain ⟨e, he⟩ : ∃ e, A[j]? = some e := ⟨_, List.getElem?_eq_getElem (by omega)⟩
      have hem := List.mem_of_getElem? he
      have her := ec_row he
      have hat := ec_at he
      have hr2 := fA2 e hem
      have hst := fndE_step (col := 0) (w := w) he
      obtain ⟨v, hv⟩ : ∃ v, e.r[0]? = some v := ⟨_, List.getElem?_eq_getElem (by omega)⟩
      have hvk := rc_kI hv
      have hvt := rc_tI hv
      have hvok := (fA.row e hem).2 v (List.mem_of_getElem? hv)
      have hvl : v.t.length ≤ 32 := by
        rcases hvok with ⟨_, _, h3⟩ | ⟨_, _, _, h3⟩ | ⟨_, _, h3⟩
        · rw [h3]; decide
        · rw [h3]; decide
        · exact h3
      have hwk := words_ok v.t (by omega)
      obtain ⟨hwl, _⟩ := wordsP_facts v.t
      have hqs := hq (j + 1)
      by_cases hk : v.k = 2
      · have hwd : wdsE 0 e.r = wordsP v.t := by unfold wdsE; rw [hv]; simp only [hk, if_true]
        have hnd := ascW_nodup (wdsE_asc 0 e.r)
        rw [hwd] at hst hnd
        generalize wordsP v.t = W at *
        obtain ⟨m, hm⟩ : ∃ m, W.length = m := ⟨_, rfl⟩
        rw [hm] at hwk hwl
        have hWl : (strc W).length = m := by rw [strc_length, hm]
        obtain ⟨D, hD⟩ : ∃ D : Nat → List En, ∀ k, D k = if w ∈ W.take k then fndE 0 w (A.take j) ++ [e] else fndE 0 w (A.take j) := ⟨_, fun _ => rfl⟩
        obtain ⟨d, hd⟩ : ∃ d : Nat → Nat, ∀ k, (D k).length = d k := ⟨_, fun _ => rfl⟩
        have hD0 : fndE 0 w (A.take j) = D 0 := by rw [hD]; simp
        have hd0 : q j = d 0 := by rw [← hd, ← hD0, hq]
        have hDm : D m = fndE 0 w (A.take (j + 1)) := by rw [hD, List.take_of_length_le (by omega), hst]
        have hdm : d m = q (j + 1) := by rw [← hd, hDm, hq]
        have hdl : ∀ k, d k ≤ 21 := fun k => by
          rw [← hd, hD]
          split
          · rw [List.length_append, hq]; simp; omega
          · rw [hq]; omega
        have hDs : ∀ k u, W[k]? = some u → D (k + 1) = if u = w then D k ++ [e] else D k := fun k u hu => by
          rw [hD, hD, List.take_add_one, hu, Option.toList_some]
          by_cases hz : u = w
          · have hnot : ¬ w ∈ W.take k := fun hmem => by
              obtain ⟨c, hc⟩ := List.mem_iff_getElem?.1 hmem
              have hck : c < k := by
                have := (List.getElem?_eq_some_iff.1 hc).1
                rw [List.length_take] at this
                omega
              rw [List.getElem?_take_of_lt hck] at hc
              obtain ⟨q1, q2⟩ := List.getElem?_eq_some_iff.1 hc
              obtain ⟨q3, q4⟩ := List.getElem?_eq_some_iff.1 hu
              exact List.pairwise_iff_getElem.1 hnd c k q1 q3 hck (by rw [q2, q4, hz])
            rw [if_pos hz, if_pos (by simp [hz]), if_neg hnot]
          · rw [if_neg hz]
            have : (w ∈ W.take k ++ [u]) ↔ w ∈ W.take k := by
              rw [List.mem_append, List.mem_singleton]
              exact ⟨fun h => h.elim id fun h => absurd h.symm hz, .inl⟩
            simp only [this]
        have hec0 : ec (fndE 0 w (A.take j)) = ec (D 0) := by rw [← hD0]
        have hecm : ec (D m) = ec (fndE 0 w (A.take (j + 1))) := by rw [hDm]
        clear hst hnd hD hD0 hDm hq hqA hvok hwd hqs
        obtain ⟨vk, vn, vt⟩ := v
        obtain ⟨r, c⟩ := e
        simp only [En.c] at *
        subst hk
        repeat' (first | ((with_reducible refine aw_seqk ?_); intro K hK hX) | ((with_reducible refine isC_reg ?_); refine aw_prune [0, 2, 3, 4, 5, 6, 7, 8, 9, 10, 11, 12] rfl rfl ?_; with_reducible refine aw_region ?_) | ((with_reducible refine isA_call ?_); (first | refine zA ?_ | refine zN ?_); (first | refine c0 (hwk) ?_)) | (((with_reducible refine isA_any ?_); refine xA ?_); (first | ((with_reducible refine e_load ?_); (first | refine ex_i (s_load1 tabOk rfl rfl rfl rfl (by first | exact her | exact hvk | exact hvt)) ?_ | refine ex_i (s_load1r tabOk rfl rfl rfl rfl (by first | exact her | exact hvk | exact hvt)) ?_ | refine ex_i (s_load1i tabOk rfl rfl rfl (by first | exact her | exact hvk | exact hvt)) ?_)) | ((with_reducible refine e_ix ?_); (first | refine ex_i (s_ixV1 tabOk rfl rfl zcj rfl rfl rfl rfl rfl zle (by first | exact her | exact hvk | exact hvt)) ?_ | refine ex_i (s_ixStr tabOk rfl rfl zcj rfl rfl (by first | exact her | exact hvk | exact hvt)) ?_)))) | refine stA ?_ | (refine hK _ _ _ _ ?_; clear hK hX K) | (refine hX _ _ _ _ _ (by simp) ?_; clear hK hX K))
        refine aw_loopo [9, 12] [3] rfl rfl (fun k : Nat => [(9, .own 3 0 (d k) 2 true), (12, .c (iv k))]) (fun k => [(3, .row 46 (ec (D k)))]) (fun k => k ≤ m) (fun k => m - k) 0 (Nat.zero_le _) (by refine weak_mk rfl ?_ ?_ rfl <;> (repeat' (first | exact weakE_nil | exact weakH_nil | refine weakE_cons rfl (by first | rfl | (first | exact congrArg (fun x => AV.own 3 0 x 2 true) hd0 | exact congrArg (AObj.row 46) hec0) | exact zeq) rfl ?_ | refine weakH_cons rfl (by first | rfl | (first | exact congrArg (fun x => AV.own 3 0 x 2 true) hd0 | exact congrArg (AObj.row 46) hec0) | exact zeq) rfl ?_))) ?_
        intro k hk K hK hX
        have hdk := hdl k
        have hDl : (ec (D k)).length = d k * 2 := by rw [ec_length, hd]
        by_cases hkm : k < m
        · obtain ⟨u, hu⟩ : ∃ u, W[k]? = some u := ⟨_, List.getElem?_eq_getElem (by omega)⟩
          have hws := strc_at hu
          have hDn := hDs k u hu
          have hdn := hd (k + 1)
          by_cases hz : u = w
          · rw [if_pos hz] at hDn
            have heq := decide_eq_true hz
            rw [hDn, List.length_append, hd] at hdn
            have hde : d k + 1 = d (k + 1) := hdn
            have hnx : ec (D k) ++ [.sl 3 r.length (rc r), iv c] = ec (D (k + 1)) := by rw [hDn, ec_app]; rfl
            clear hDs hDn hd hec0 hecm hd0 hdm hz hdn
            generalize ec (D k) = L at *
            repeat' (first | ((with_reducible refine aw_seqk ?_); intro K hK hX) | ((with_reducible refine isC_reg ?_); refine aw_prune [0, 2, 3, 4, 5, 6, 7, 8, 9, 10, 11, 12] rfl rfl ?_; with_reducible refine aw_region ?_) | (((with_reducible refine isA_any ?_); refine xA ?_); (first | ((with_reducible refine e_bin ?_); (first | refine ex_i (s_eqlL rfl rfl heq) ?_)) | ((with_reducible refine e_load ?_); (first | refine ex_i (s_load1 tabOk rfl rfl rfl rfl (by first | (rw [Nat.mul_one]; exact hws) | exact her | exact hvk)) ?_ | refine ex_i (s_load1r tabOk rfl rfl rfl rfl (by first | (rw [Nat.mul_one]; exact hws) | exact her | exact hvk)) ?_ | refine ex_i (s_load1i tabOk rfl rfl rfl (by first | (rw [Nat.mul_one]; exact hws) | exact her | exact hvk)) ?_ | refine ex_i (s_loadAr tabOk rfl rfl rfl rfl (by first | exact hat | exact whole0 (by first | rfl | omega) | rfl) zln) ?_ | refine ex_i (s_loadAi tabOk rfl rfl rfl (by first | exact hat | exact whole0 (by first | rfl | omega) | rfl) zln) ?_)) | ((with_reducible refine e_ix ?_); (first | refine ex_i (s_ixV1 tabOk rfl rfl zcj rfl rfl rfl rfl rfl zle (by first | (rw [Nat.mul_one]; exact hws) | exact her | exact hvk)) ?_ | refine ex_i (s_ixStr tabOk rfl rfl zcj rfl rfl (by first | (rw [Nat.mul_one]; exact hws) | exact her | exact hvk)) ?_)) | ((with_reducible refine e_slice ?_); (first | refine ex_i (s_slArri tabOk rfl rfl rfl rfl zbd zbd zle zle (by decide) (by first | exact hat | exact whole0 (by first | rfl | omega) | rfl) zln) ?_)))) | refine stA ?_ | (refine hK _ _ _ _ ?_; clear hK hX K) | (refine hX _ _ _ _ _ (by simp) ?_; clear hK hX K))
            exact ⟨k + 1, by omega, by omega, (by refine weak_ren [0, 1, 2, 5] rfl rfl ?_ ?_ rfl rfl <;> (repeat' (first | exact weakER_nil | exact weakHR_nil | refine weakER_cons rfl (by first | rfl | (exact congrArg (AObj.row 46) hnx) | exact zeq) rfl ?_ | refine weakHR_cons rfl (by first | rfl | (exact congrArg (AObj.row 46) hnx) | exact zeq) rfl ?_)))⟩
          · rw [if_neg hz] at hDn
            have heq := decide_eq_false hz
            rw [hDn, hd] at hdn
            have hnx : ec (D k) = ec (D (k + 1)) := by rw [hDn]
            clear hDs hDn hd hec0 hecm hd0 hdm hz
            generalize ec (D k) = L at *
            repeat' (first | ((with_reducible refine aw_seqk ?_); intro K hK hX) | ((with_reducible refine isC_reg ?_); refine aw_prune [0, 2, 3, 4, 5, 6, 7, 8, 9, 10, 11, 12] rfl rfl ?_; with_reducible refine aw_region ?_) | (((with_reducible refine isA_any ?_); refine xA ?_); (first | ((with_reducible refine e_bin ?_); (first | refine ex_i (s_eqlL rfl rfl heq) ?_)) | ((with_reducible refine e_load ?_); (first | refine ex_i (s_load1 tabOk rfl rfl rfl rfl (by first | (rw [Nat.mul_one]; exact hws) | exact her | exact hvk)) ?_ | refine ex_i (s_load1r tabOk rfl rfl rfl rfl (by first | (rw [Nat.mul_one]; exact hws) | exact her | exact hvk)) ?_ | refine ex_i (s_load1i tabOk rfl rfl rfl (by first | (rw [Nat.mul_one]; exact hws) | exact her | exact hvk)) ?_)) | ((with_reducible refine e_ix ?_); (first | refine ex_i (s_ixV1 tabOk rfl rfl zcj rfl rfl rfl rfl rfl zle (by first | (rw [Nat.mul_one]; exact hws) | exact her | exact hvk)) ?_ | refine ex_i (s_ixStr tabOk rfl rfl zcj rfl rfl (by first | (rw [Nat.mul_one]; exact hws) | exact her | exact hvk)) ?_)))) | refine stA ?_ | (refine hK _ _ _ _ ?_; clear hK hX K) | (refine hX _ _ _ _ _ (by simp) ?_; clear hK hX K))
            exact ⟨k + 1, by omega, by omega, (by refine weak_mk rfl ?_ ?_ rfl <;> (repeat' (first | exact weakE_nil | exact weakH_nil | refine weakE_cons rfl (by first | rfl | (first | exact congrArg (fun x => AV.own 3 0 x 2 true) hdn | exact congrArg (AObj.row 46) hnx) | exact zeq) rfl ?_ | refine weakH_cons rfl (by first | rfl | (first | exact congrArg (fun x => AV.own 3 0 x 2 true) hdn | exact congrArg (AObj.row 46) hnx) | exact zeq) rfl ?_)))⟩
        · have hke : k = m := by omega
          rw [hke]
          clear hDs hd hec0 hd0
          repeat' (first | ((with_reducible refine aw_seqk ?_); intro K hK hX) | ((with_reducible refine isC_reg ?_); refine aw_prune [0, 2, 3, 4, 5, 6, 7, 8, 9, 10, 11, 12] rfl rfl ?_; with_reducible refine aw_region ?_) | refine stA ?_ | (refine hK _ _ _ _ ?_; clear hK hX K) | (refine hX _ _ _ _ _ (by simp) ?_; clear hK hX K))
          exact ⟨j + 1, by omega, by omega, (by refine weak_mk rfl ?_ ?_ rfl <;> (repeat' (first | exact weakE_nil | exact weakH_nil | refine weakE_cons rfl (by first | rfl | (first | exact congrArg (fun x => AV.own 3 0 x 2 true) hdm | exact congrArg (AObj.row 46) hecm) | exact zeq) rfl ?_ | refine weakH_cons rfl (by first | rfl | (first | exact congrArg (fun x => AV.own 3 0 x 2 true) hdm | exact congrArg (AObj.row 46) hecm) | exact zeq) rfl ?_)))⟩
      · have hwd : wdsE 0 e.r = [] := by unfold wdsE; rw [hv]; simp only [hk, if_false]
        rw [hwd, if_neg (by simp)] at hst
        rw [hst, hq] at hqs
        have hnx : ec (fndE 0 w (A.take j)) = ec (fndE 0 w (A.take (j + 1))) := by rw [hst]
        generalize wordsP v.t = W at *
        obtain ⟨m, hm⟩ : ∃ m, W.length = m := ⟨_, rfl⟩
        rw [hm] at hwk hwl
        have hvt0 : v.t.length = 0 := by
          rcases hvok with ⟨_, _, h3⟩ | ⟨_, _, _, h3⟩ | ⟨h3, _, _⟩
          · rw [h3]; rfl
          · rw [h3]; rfl
          · exact absurd h3 hk
        have hm0 : m = 0 := by omega
        rw [hm0] at hwk hm
        have hWl : (strc W).length = 0 := by rw [strc_length, hm]
        clear hm0 hvt0 hwl hq0
        clear hst hq hqA hvok hwd
        obtain ⟨vk, vn, vt⟩ := v
        obtain ⟨r, c⟩ := e
        simp only [En.c] at *
        repeat' (first | ((with_reducible refine aw_seqk ?_); intro K hK hX) | ((with_reducible refine isC_reg ?_); refine aw_prune [0, 2, 3, 4, 5, 6, 7, 8, 9, 10, 11, 12] rfl rfl ?_; with_reducible refine aw_region ?_) | ((with_reducible refine isC_loop ?_); refine aw_rounds 1 ?_) | (refine awr_k ?_; intro K hK hX) | ((with_reducible refine isA_call ?_); (first | refine zA ?_ | refine zN ?_); (first | refine c0 (hwk) ?_)) | (((with_reducible refine isA_any ?_); refine xA ?_); (first | ((with_reducible refine e_load ?_); (first | refine ex_i (s_load1 tabOk rfl rfl rfl rfl (by first | exact her | exact hvk | exact hvt)) ?_ | refine ex_i (s_load1r tabOk rfl rfl rfl rfl (by first | exact her | exact hvk | exact hvt)) ?_ | refine ex_i (s_load1i tabOk rfl rfl rfl (by first | exact her | exact hvk | exact hvt)) ?_)) | ((with_reducible refine e_ix ?_); (first | refine ex_i (s_ixV1 tabOk rfl rfl zcj rfl rfl rfl rfl rfl zle (by first | exact her | exact hvk | exact hvt)) ?_ | refine ex_i (s_ixStr tabOk rfl rfl zcj rfl rfl (by first | exact her | exact hvk | exact hvt)) ?_)))) | refine stA ?_ | (refine hK _ _ _ _ ?_; clear hK hX K) | (refine hX _ _ _ _ _ (by simp) ?_; clear hK hX K))
        exact ⟨j + 1, by omega, by omega, (by refine weak_mk rfl ?_ ?_ rfl <;> (repeat' (first | exact weakE_nil | exact weakH_nil | refine weakE_cons rfl (by first | rfl | (first | exact congrArg (fun x => AV.own 3 0 x 2 true) hqs | exact congrArg (AObj.row 46) hnx) | exact zeq) rfl ?_ | refine weakH_cons rfl (by first | rfl | (first | exact congrArg (fun x => AV.own 3 0 x 2 true) hqs | exact congrArg (AObj.row 46) hnx) | exact zeq) rfl ?_)))⟩
    · have hje : j = na := by omega
      rw [hje] at hFl ⊢
      rw [hqA] at hFl ⊢
      clear hq hqA hql
      generalize ec (fndE 0 w A) = E at *
      generalize q na = Q at *
      repeat' (first | ((with_reducible refine aw_seqk ?_); intro K hK hX) | ((with_reducible refine isC_reg ?_); refine aw_prune [0, 2, 3, 4, 5, 6, 7, 8, 9, 10, 11, 12] rfl rfl ?_; with_reducible refine aw_region ?_) | ((with_reducible refine isA_call ?_); refine awl_fz 79 rfl rfl zln ?_) | ((with_reducible refine isA_call ?_); (first | refine zA ?_ | refine zN ?_); (first | refine c0 (h3w) ?_ | refine c0 (h4w) ?_)) | refine stA ?_ | (refine hK _ _ _ _ ?_; clear hK hX K) | (refine hX _ _ _ _ _ (by simp) ?_; clear hK hX K))
      exact ⟨(i + 1, a'), ⟨by omega, t1, t2⟩, by simp only; omega, weakA⟩
  · have hie : i = 4 := by omega
    rw [hie]
    clear h3' h4 h1 h2
    repeat' (first | ((with_reducible refine aw_seqk ?_); intro K hK hX) | ((with_reducible refine isC_reg ?_); refine aw_prune [0, 2, 3, 4, 5, 6, 7, 8, 9, 10, 11, 12] rfl rfl ?_; with_reducible refine aw_region ?_) | ((with_reducible refine isA_call ?_); (first | refine zA ?_ | refine zN ?_); (first | refine c0 (haw) ?_)) | refine stA ?_ | (refine hK _ _ _ _ ?_; clear hK hX K) | (refine hX _ _ _ _ _ (by simp) ?_; clear hK hX K))
    refine retK_mk zio ztr rfl (ResL.one (ResA.tmp rfl)) zou
end Go.Proofs.Ytccnhpaldmjkbaa
