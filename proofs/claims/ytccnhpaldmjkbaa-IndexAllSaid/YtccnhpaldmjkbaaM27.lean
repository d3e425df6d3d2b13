/-
  Joined texts: J3. Lemmas; no statement of a law.
-/
import Derived.Test.YtccnhpaldmjkbaaM23
import Derived.Test.YtccnhpaldmjkbaaM26
set_option linter.unusedSimpArgs false
set_option linter.unusedVariables false
namespace Go.Proofs.Ytccnhpaldmjkbaa
open Go Go.RowKit Go.Av
set_option maxRecDepth 100000
attribute [local irreducible] Still Adds AWL AW Drw DrwE EStep AC AWR Weak Frz Src RetK Out InK ItK AsK RdK RetT OutT ACT
set_option maxHeartbeats 4000000 in
theorem sameR2_ok (r s : List Vl) (n m : Nat) (hn : r.length = n) (hm : s.length = m) (hn2 : n ≤ 1000000) (hm2 : m ≤ 1000000) : AC Try.prog 46 [.sl 3 n (rc r), .sl 3 m (rc s)] (.c (bv (decide (r = s)))) [] 0 := by
  have hcl : (rc r).length = n * 3 := by rw [rc_length, hn]
  have hcm : (rc s).length = m * 3 := by rw [rc_length, hm]
  by_cases hl : n = m
  · subst hl
    have hcond : decide ((n : Int) ≠ (n : Int)) = false := by simp
    refine ac_enter tabOk (sz := 26) Try.func46 rfl (by rw [Try.ntmps46]; rfl) ?_
    repeat' (first | ((with_reducible refine aw_seqk ?_); intro K hK hX) | ((with_reducible refine isC_reg ?_); refine aw_prune [0, 1, 4, 5] rfl rfl ?_; with_reducible refine aw_region ?_) | ((with_reducible refine isC_draw ?_); refine aw_prune [0, 1, 4, 5] rfl rfl ?_; refine aw_drwF [] ?_) | ((first | ((with_reducible refine isA_any ?_); refine xA ?_) | ((with_reducible refine isDk_any ?_); refine xD ?_)); (first | ((with_reducible refine e_bin ?_); (first | refine ex_i (s_cmp rfl rfl rfl hcond) ?_)))) | refine stA ?_ | refine stD ?_ | (refine hK _ _ _ _ ?_; clear hK hX K) | (refine hX _ _ _ _ _ (by simp) ?_; clear hK hX K))
    refine aw_loopo [5] [] rfl rfl (fun i : Nat => [(5, .c (iv i))]) (fun i => []) (fun i => i ≤ n ∧ r.take i = s.take i) (fun i => n - i) 0 ⟨Nat.zero_le _, rfl⟩ weakA ?_
    intro i hi K hK hX
    obtain ⟨hi, htk⟩ := hi
    by_cases hik : i < n
    · obtain ⟨v, hv⟩ : ∃ v, r[i]? = some v := ⟨_, List.getElem?_eq_getElem (by omega)⟩
      obtain ⟨w, hw⟩ : ∃ w, s[i]? = some w := ⟨_, List.getElem?_eq_getElem (by omega)⟩
      have hav := rc_at hv
      have haw := rc_at hw
      by_cases hvw : v = w
      · have hne : (!decide (v = w)) = false := by simp [hvw]
        have htk2 : r.take (i + 1) = s.take (i + 1) := by rw [List.take_add_one, List.take_add_one, htk, hv, hw, hvw]
        clear hv hw hvw htk
        repeat' (first | ((with_reducible refine aw_seqk ?_); intro K hK hX) | ((with_reducible refine isC_reg ?_); refine aw_prune [0, 1, 4, 5] rfl rfl ?_; with_reducible refine aw_region ?_) | ((with_reducible refine isC_draw ?_); refine aw_prune [0, 1, 4, 5] rfl rfl ?_; refine aw_drwF [] ?_) | ((first | ((with_reducible refine isA_any ?_); refine xA ?_) | ((with_reducible refine isDk_any ?_); refine xD ?_)); (first | ((with_reducible refine e_bin ?_); (first | refine ex_i (s_neqV (a := v) (b := w) rfl rfl hne) ?_)) | ((with_reducible refine e_load ?_); (first | refine ex_i (s_loadAr tabOk rfl rfl rfl rfl (by first | first | exact hav | exact haw | exact whole0 (by first | rfl | omega) | rfl) zln) ?_ | refine ex_i (s_loadAi tabOk rfl rfl rfl (by first | first | exact hav | exact haw | exact whole0 (by first | rfl | omega) | rfl) zln) ?_)) | ((with_reducible refine e_slice ?_); (first | refine ex_i (s_slArri tabOk rfl rfl rfl rfl zbd zbd zle zle (by decide) (by first | first | exact hav | exact haw | exact whole0 (by first | rfl | omega) | rfl) zln) ?_)))) | refine stA ?_ | refine stD ?_ | (refine hK _ _ _ _ ?_; clear hK hX K) | (refine hX _ _ _ _ _ (by simp) ?_; clear hK hX K))
        exact ⟨i + 1, ⟨by omega, htk2⟩, by omega, weakA⟩
      · have hne : (!decide (v = w)) = true := by simp [hvw]
        have hrs : r ≠ s := fun e => by
          rw [e] at hv
          exact hvw (by rw [hv] at hw; injection hw)
        have hbad : bv false = bv (decide (r = s)) := by rw [decide_eq_false hrs]
        clear hv hw hvw htk hrs
        repeat' (first | ((with_reducible refine aw_seqk ?_); intro K hK hX) | ((with_reducible refine isC_reg ?_); refine aw_prune [0, 1, 4, 5] rfl rfl ?_; with_reducible refine aw_region ?_) | ((with_reducible refine isC_draw ?_); refine aw_prune [0, 1, 4, 5] rfl rfl ?_; refine aw_drwF [] ?_) | ((first | ((with_reducible refine isA_any ?_); refine xA ?_) | ((with_reducible refine isDk_any ?_); refine xD ?_)); (first | ((with_reducible refine e_bin ?_); (first | refine ex_i (s_neqV (a := v) (b := w) rfl rfl hne) ?_)) | ((with_reducible refine e_load ?_); (first | refine ex_i (s_loadAr tabOk rfl rfl rfl rfl (by first | first | exact hav | exact haw | exact whole0 (by first | rfl | omega) | rfl) zln) ?_ | refine ex_i (s_loadAi tabOk rfl rfl rfl (by first | first | exact hav | exact haw | exact whole0 (by first | rfl | omega) | rfl) zln) ?_)) | ((with_reducible refine e_slice ?_); (first | refine ex_i (s_slArri tabOk rfl rfl rfl rfl zbd zbd zle zle (by decide) (by first | first | exact hav | exact haw | exact whole0 (by first | rfl | omega) | rfl) zln) ?_)))) | refine stA ?_ | refine stD ?_ | (refine hK _ _ _ _ ?_; clear hK hX K) | (refine hX _ _ _ _ _ (by simp) ?_; clear hK hX K))
        refine retK_mk zio ztr rfl (ResL.one (ResA.tmp rfl)) (out_c (frz_cv (frz_c cv_rfl) (cv_eq hbad)))
    · have hie : i = n := by omega
      have hrs : r = s := by
        rw [hie, List.take_of_length_le (by omega), List.take_of_length_le (by omega)] at htk
        exact htk
      have hbad : bv true = bv (decide (r = s)) := by rw [decide_eq_true hrs]
      rw [hie]
      clear htk hrs
      repeat' (first | ((with_reducible refine aw_seqk ?_); intro K hK hX) | ((with_reducible refine isC_reg ?_); refine aw_prune [0, 1, 4, 5] rfl rfl ?_; with_reducible refine aw_region ?_) | ((with_reducible refine isC_draw ?_); refine aw_prune [0, 1, 4, 5] rfl rfl ?_; refine aw_drwF [] ?_) | refine stA ?_ | refine stD ?_ | (refine hK _ _ _ _ ?_; clear hK hX K) | (refine hX _ _ _ _ _ (by simp) ?_; clear hK hX K))
      refine retK_mk zio ztr rfl (ResL.one (ResA.tmp rfl)) (out_c (frz_cv (frz_c cv_rfl) (cv_eq hbad)))
  · have hcond : decide ((n : Int) ≠ (m : Int)) = true := decide_eq_true (by omega)
    have hrs : r ≠ s := fun e => hl (by rw [← hn, ← hm, e])
    have hbad : bv false = bv (decide (r = s)) := by rw [decide_eq_false hrs]
    clear hrs
    refine ac_enter tabOk (sz := 26) Try.func46 rfl (by rw [Try.ntmps46]; rfl) ?_
    repeat' (first | ((with_reducible refine aw_seqk ?_); intro K hK hX) | ((with_reducible refine isC_reg ?_); refine aw_prune [0, 1, 4, 5] rfl rfl ?_; with_reducible refine aw_region ?_) | ((with_reducible refine isC_draw ?_); refine aw_prune [0, 1, 4, 5] rfl rfl ?_; refine aw_drwF [] ?_) | ((first | ((with_reducible refine isA_any ?_); refine xA ?_) | ((with_reducible refine isDk_any ?_); refine xD ?_)); (first | ((with_reducible refine e_bin ?_); (first | refine ex_i (s_cmp rfl rfl rfl hcond) ?_)))) | refine stA ?_ | refine stD ?_ | (refine hK _ _ _ _ ?_; clear hK hX K) | (refine hX _ _ _ _ _ (by simp) ?_; clear hK hX K))
    refine retK_mk zio ztr rfl (ResL.one (ResA.tmp rfl)) (out_c (frz_cv (frz_c cv_rfl) (cv_eq hbad)))
set_option maxHeartbeats 8000000 in
theorem law_iall (l : List Int) (n : Nat) (hn : l.length = n) (hb : 8 * n ≤ 140737488355328) : AC Try.prog 13 [.sl 1 n (intc .i64 l)] (.c (bv true)) [] 0 := by
  have hml : n ≤ maxLen := by simp only [maxLen]; omega
  have haw := awake13_ok
  have hil : (intc .i64 l).length = n := by rw [intc_length, hn]
  obtain ⟨fA, fA2, lA⟩ := txB_F l n 0 9 (by omega) (by omega) (by decide) (by decide)
  obtain ⟨na, hna⟩ : ∃ na, (txB l n 0 9).length = na := ⟨_, rfl⟩
  have h1 := ttxb_ok l n 0 8 9 na hn hml (by omega) (by omega) (by decide) (by decide) rfl hna
  obtain ⟨s1, s2⟩ := txA_bd l n 0 9 (by omega) (by omega)
  generalize txB l n 0 9 = A at *
  generalize txA l n 0 9 = a1 at *
  have hna20 : na ≤ 20 := by
    have : (9 - 1 : Int).toNat = 8 := rfl
    omega
  have hpos := fA.posP (by decide)
  obtain ⟨M, hM⟩ : ∃ M, (postP (prs 0 A)).length = M := ⟨_, rfl⟩
  have hMl := prs_length (col := 0) fA.ok
  rw [← postP_length, hM, hna] at hMl
  have h2 := ibuild_ok A na hna fA.fit hpos 0 (by decide) M hM
  have hval := post_val hpos.1 hpos.2 0
  have hfit : ∀ x ∈ postP (prs 0 A), x.r.length ≤ maxLen ∧ x.w.length ≤ maxLen := fun x hx => by
    have k1 := post_fit fA.row 0 x hx
    have k2 := postP_words (col := 0) fA.ok x hx
    simp only [maxLen]
    omega
  have h3 := fun w => ilook_ok (postP (prs 0 A)) M w hM (by omega) hfit hval
  have h4 := fun ws k (hk : ws.length = k) (hk2 : k ≤ 100000) => isearch_ok (postP (prs 0 A)) M ws k hM (by omega) hk hk2 hval _ rfl
  obtain ⟨hp, hall⟩ := valP_facts hval
  have ho : ∀ x ∈ postP (prs 0 A), ∀ v ∈ x.r, okP v := fun x hx => (hall x hx).2.1.2
  have hrl : ∀ x ∈ postP (prs 0 A), x.r.length ≤ 1000000 := fun x hx => by have := (hall x hx).2.1.1; omega
  have hw1 := tword_ok l n a1 hn hml s1 s2
  obtain ⟨t1, t2⟩ := nextA_bd n a1 9 s1 s2
  generalize wrdW (nextX l n a1 9) = v at *
  generalize nextA n a1 9 = a2 at *
  have hw2 := tword_ok l n a2 hn hml t1 t2
  generalize wrdW (nextX l n a2 9) = w at *
  generalize nextA n a2 9 = a3 at *
  have h3v := h3 v
  have h3w := h3 w
  have h4v := h4 [v, w] 2 rfl (by omega)
  have h4w := h4 [w, v] 2 rfl (by omega)
  rw [srchP_congr hp ho (us := [v, w]) (fun x => by simp only [List.mem_cons, List.not_mem_nil, or_false]; exact Or.comm)] at h4w
  have hbr := both_rows hp ho v w
  have hsb := lk_srt hp w
  have hav : ∀ u, ∀ e ∈ lkP (postP (prs 0 A)) u, e.r.length ≤ 1000000 := fun u e he => by
    obtain ⟨x, hx, _, hr, _⟩ := lk_mem.1 he
    exact hr ▸ hrl x hx
  have haB : ∀ e ∈ srchP (postP (prs 0 A)) [v, w], e.r.length ≤ 1000000 := fun e he => by
    obtain ⟨x, hx, _⟩ := ((srchP_mem hp e).1 he).some
    obtain ⟨x1, _, x3⟩ := mine_mem.1 hx
    exact x3 ▸ hrl x x1
  have hla := lkP_len (postP (prs 0 A)) v
  have hlb := lkP_len (postP (prs 0 A)) w
  rw [hM] at hla hlb
  clear h3 h4 hval hfit hall ho hrl
  have ha1 := hav v
  have hb1 := hav w
  clear hav
  generalize srchP (postP (prs 0 A)) [v, w] = B at *
  generalize lkP (postP (prs 0 A)) v = a at *
  generalize lkP (postP (prs 0 A)) w = b at *
  clear hp
  generalize pc (postP (prs 0 A)) = R at *
  obtain ⟨ka, hka⟩ : ∃ ka, a.length = ka := ⟨_, rfl⟩
  obtain ⟨kb, hkb⟩ : ∃ kb, b.length = kb := ⟨_, rfl⟩
  obtain ⟨kB, hkB⟩ : ∃ kB, B.length = kB := ⟨_, rfl⟩
  have h3v := h3v ka hka
  have h3w := h3w kb hkb
  rw [hkB] at h4v h4w
  obtain ⟨g, hg⟩ : ∃ g : Nat → Nat, ∀ i, (bothE (a.take i) b).length = g i := ⟨_, fun _ => rfl⟩
  have hg0 : g 0 = 0 := by rw [← hg]; rfl
  have hgka : g ka = kB := by
    have h9 := congrArg List.length hbr
    rw [List.length_map, List.length_map] at h9
    rw [← hg, List.take_of_length_le (by omega), ← hkB, h9]
  have hgl : ∀ i, g i ≤ 1000 := fun i => by
    rw [← hg]
    refine Nat.le_trans (List.length_filter_le _ _) ?_
    rw [List.length_take]; omega
  have hkB2 : kB ≤ 1000 := by rw [← hgka]; exact hgl ka
  have h5 := same06_ok B kB hkB (by omega) haB
  have hal : (ec a).length = ka * 2 := by rw [ec_length, hka]
  have hbl : (ec b).length = kb * 2 := by rw [ec_length, hkb]
  have hBl : (ec B).length = kB * 2 := by rw [ec_length, hkB]
  have hka2 : ka ≤ 1000 := by omega
  have hkb2 : kb ≤ 1000 := by omega
  clear hM hMl fA fA2 lA hpos hna
  refine ac_enter tabOk (sz := 96) Try.func13 rfl (by rw [Try.ntmps13]; rfl) ?_
  repeat' (first | ((with_reducible refine aw_seqk ?_); intro K hK hX) | ((with_reducible refine isC_reg ?_); refine aw_prune [0, 2, 3, 4, 6, 7, 8, 9, 10, 11, 12, 13] rfl rfl ?_; with_reducible refine aw_region ?_) | ((with_reducible refine isC_draw ?_); refine aw_prune [0, 2, 3, 4, 6, 7, 8, 9, 10, 11, 12, 13] rfl rfl ?_; refine aw_drwF [18] ?_) | ((with_reducible refine isA_build ?_); refine awl_fzE (m' := n) (cs' := intc .i64 l) 5 rfl rfl zln (by omega) (by simp) ?_) | ((with_reducible refine isA_call ?_); refine awl_fz 29 rfl rfl zln ?_) | ((with_reducible refine isA_call ?_); refine awl_callT (h1) g_none rfl zby rfl rfl rfl rfl zcv rfl ztp ?_) | ((with_reducible refine isA_call ?_); refine awl_callT (hw1) g_none rfl zby rfl rfl rfl rfl zcv rfl ztp ?_) | ((with_reducible refine isA_call ?_); refine awl_callT (hw2) g_none rfl zby rfl rfl rfl rfl zcv rfl ztp ?_) | ((first | with_reducible refine isA_call ?_ | with_reducible refine isD_call ?_); (first | refine zA ?_ | refine zN ?_ | refine zD ?_); (first | refine c0 (h2) ?_ | refine c0 (h3v) ?_ | refine c0 (h3w) ?_ | refine c0 (h4v) ?_)) | ((first | with_reducible refine isA_call ?_ | with_reducible refine isA_callv ?_); refine awl_inl tabOk [0, 1, 2, 3, 4, 5, 6, 7, 8, 9, 10, 11, 12, 13, 14, 15, 16, 17, 18, 19, 20, 21, 22, 23, 24, 25, 26, 27, 28, 29, 30, 31, 32, 33, 34, 35, 36, 37, 38, 39, 40, 41, 42, 43, 44, 45, 46, 47, 48, 49, 50, 51, 52, 53, 54, 55, 56, 57, 58, 59, 60, 61, 62, 63, 64, 65, 66, 67, 68, 69, 70, 71, 72, 73, 74, 75, 76, 77, 78, 79, 80, 81, 82, 83, 84, 85, 86, 87, 88, 89, 90, 91, 92, 93, 94, 95] g_none rfl rfl zby Try.func18 rfl rfl rfl (szf := 8) (by rw [Try.ntmps18]; rfl) rfl ?_) | ((with_reducible refine isA_store ?_); refine awl_storeA tabOk g_none rfl rfl rfl zpt (by rfl) (by rfl) rfl (Nat.le_of_ble_eq_true rfl) (by rfl) ?_) | refine stA ?_ | refine stD ?_ | (refine hK _ _ _ _ ?_; clear hK hX K) | (refine hX _ _ _ _ _ (by simp) ?_; clear hK hX K) | (first | refine inK_some zio ztr rfl rfl (ResL.one (ResA.tmp rfl)) ?_ | refine inK_none zio ztr rfl rfl (ResL.one (ResA.tmp rfl)) ?_))
  refine aw_loopo [12, 11, 13] [] rfl rfl (fun i : Nat => [(12, .c (iv i)), (11, .c (iv (g i)))]) (fun i => []) (fun i => i ≤ ka) (fun i => ka - i) 0 (Nat.zero_le _) (by (try dsimp only); rw [hg0]; exact weakA) ?_
  intro i hi K hK hX
  have hgi := hgl i
  by_cases hlt : i < ka
  · obtain ⟨e, he⟩ : ∃ e, a[i]? = some e := ⟨_, List.getElem?_eq_getElem (by omega)⟩
    have hae := ec_row he
    have her := ha1 e (List.mem_of_getElem? he)
    obtain ⟨c, hc⟩ : ∃ c : Nat → Nat, ∀ j, cntB a b i j e.r = c j := ⟨_, fun _ => rfl⟩
    have hc0 : g i = c 0 := by rw [← hc, cntB_zero, hg]
    have hcb : c kb = g (i + 1) := by rw [← hc, ← hkb, cntB_end he, hg]
    have hcl : ∀ j, c j ≤ 1001 := fun j => by
      rw [← hc]
      unfold cntB
      rw [hg]
      split <;> omega
    have hyes : ∀ (j : Nat) (f : En), b[j]? = some f → e.r = f.r → c j = g i ∧ c (j + 1) = g i + 1 := fun j f hf hr => by
      have := cntB_yes (a := a) (i := i) hsb hf
      rw [← hr, hc, hc, hg] at this
      exact this
    have hno : ∀ (j : Nat) (f : En), b[j]? = some f → ¬ e.r = f.r → c (j + 1) = c j := fun j f hf hr => by
      rw [← hc, ← hc]; exact cntB_no hf hr
    have hhit : ∀ (j : Nat) (f : En), b[j]? = some f → e.r = f.r → ∃ e' : En, B[g i]? = some e' ∧ e'.r = e.r := fun j f hf hr => by
      have h6 : e.r ∈ b.map (·.r) := by rw [hr]; exact List.mem_map.2 ⟨f, List.mem_of_getElem? hf, rfl⟩
      have h7 := bothE_at he h6
      rw [hg] at h7
      have h8 : (B.map (·.r))[g i]? = some e.r := by rw [hbr, List.getElem?_map, h7]; rfl
      rw [List.getElem?_map] at h8
      obtain ⟨e', h9, h10⟩ := Option.map_eq_some_iff.1 h8
      exact ⟨e', h9, h10⟩
    clear hc hbr hg hsb he hg0 hgka hgl h1 h2 h3v h3w h4v
    repeat' (first | ((with_reducible refine aw_seqk ?_); intro K hK hX) | ((with_reducible refine isC_reg ?_); refine aw_prune [0, 2, 3, 4, 6, 7, 8, 9, 10, 11, 12, 13] rfl rfl ?_; with_reducible refine aw_region ?_) | ((with_reducible refine isC_draw ?_); refine aw_prune [0, 2, 3, 4, 6, 7, 8, 9, 10, 11, 12, 13] rfl rfl ?_; refine aw_drwF [] ?_) | refine stA ?_ | refine stD ?_ | (refine hK _ _ _ _ ?_; clear hK hX K) | (refine hX _ _ _ _ _ (by simp) ?_; clear hK hX K))
    refine aw_loopo [13, 11] [] rfl rfl (fun j : Nat => [(13, .c (iv j)), (11, .c (iv (c j)))]) (fun j => []) (fun j => j ≤ kb) (fun j => kb - j) 0 (Nat.zero_le _) (by refine weak_mk rfl ?_ ?_ rfl <;> (repeat' (first | exact weakE_nil | exact weakH_nil | refine weakE_cons rfl (by first | rfl | (exact congrArg (fun x : Nat => AV.c (iv x)) hc0) | exact zeq) rfl ?_ | refine weakH_cons rfl (by first | rfl | (exact congrArg (fun x : Nat => AV.c (iv x)) hc0) | exact zeq) rfl ?_))) ?_
    intro j hj K hK hX
    have hcj := hcl j
    by_cases hjl : j < kb
    · obtain ⟨f, hf⟩ : ∃ f, b[j]? = some f := ⟨_, List.getElem?_eq_getElem (by omega)⟩
      have hbf := ec_row hf
      have hs := sameR2_ok e.r f.r e.r.length f.r.length rfl rfl her (hb1 f (List.mem_of_getElem? hf))
      by_cases hr : e.r = f.r
      · obtain ⟨y1, y2⟩ := hyes j f hf hr
        obtain ⟨e', he', hr'⟩ := hhit j f hf hr
        have hBe := ec_row he'
        have hgB : g i < kB := by rw [← hkB]; exact (List.getElem?_eq_some_iff.1 he').1
        have hs2 := sameR2_ok e'.r e.r e'.r.length e.r.length rfl rfl (haB e' (List.mem_of_getElem? he')) her
        rw [decide_eq_true hr] at hs
        rw [decide_eq_true hr'] at hs2
        rw [y1]
        clear hyes hno hhit hcl hc0 hcb he' hf ha1 hb1 haB hr hr' hcj y1
        generalize f.r = fr at *
        generalize e.r = er at *
        generalize e'.r = er' at *
        repeat' (first | ((with_reducible refine aw_seqk ?_); intro K hK hX) | ((with_reducible refine isC_reg ?_); refine aw_prune [0, 2, 3, 4, 6, 7, 8, 9, 10, 11, 12, 13] rfl rfl ?_; with_reducible refine aw_region ?_) | ((with_reducible refine isC_draw ?_); refine aw_prune [0, 2, 3, 4, 6, 7, 8, 9, 10, 11, 12, 13] rfl rfl ?_; refine aw_drwF [] ?_) | ((first | with_reducible refine isA_call ?_ | with_reducible refine isD_call ?_); (first | refine zA ?_ | refine zN ?_ | refine zD ?_); (first | refine c0 (hs) ?_ | refine c0 (hs2) ?_)) | ((first | ((with_reducible refine isA_any ?_); refine xA ?_) | ((with_reducible refine isDk_any ?_); refine xD ?_)); (first | ((with_reducible refine e_load ?_); (first | refine ex_i (s_load1 tabOk rfl rfl rfl rfl (by first | exact hae | exact hbf | exact hBe)) ?_ | refine ex_i (s_load1r tabOk rfl rfl rfl rfl (by first | exact hae | exact hbf | exact hBe)) ?_ | refine ex_i (s_load1i tabOk rfl rfl rfl (by first | exact hae | exact hbf | exact hBe)) ?_)) | ((with_reducible refine e_ix ?_); (first | refine ex_i (s_ixV1 tabOk rfl rfl zcj rfl rfl rfl rfl rfl zle (by first | exact hae | exact hbf | exact hBe)) ?_ | refine ex_i (s_ixStr tabOk rfl rfl zcj rfl rfl (by first | exact hae | exact hbf | exact hBe)) ?_)))) | refine stA ?_ | refine stD ?_ | (refine hK _ _ _ _ ?_; clear hK hX K) | (refine hX _ _ _ _ _ (by simp) ?_; clear hK hX K))
        exact ⟨j + 1, by omega, by omega, weakA⟩
      · have hn := hno j f hf hr
        rw [decide_eq_false hr] at hs
        clear hyes hno hhit hcl hc0 hcb hf ha1 hb1 haB hr
        generalize f.r = fr at *
        generalize e.r = er at *
        repeat' (first | ((with_reducible refine aw_seqk ?_); intro K hK hX) | ((with_reducible refine isC_reg ?_); refine aw_prune [0, 2, 3, 4, 6, 7, 8, 9, 10, 11, 12, 13] rfl rfl ?_; with_reducible refine aw_region ?_) | ((with_reducible refine isC_draw ?_); refine aw_prune [0, 2, 3, 4, 6, 7, 8, 9, 10, 11, 12, 13] rfl rfl ?_; refine aw_drwF [] ?_) | ((first | with_reducible refine isA_call ?_ | with_reducible refine isD_call ?_); (first | refine zA ?_ | refine zN ?_ | refine zD ?_); (first | refine c0 (hs) ?_)) | ((first | ((with_reducible refine isA_any ?_); refine xA ?_) | ((with_reducible refine isDk_any ?_); refine xD ?_)); (first | ((with_reducible refine e_load ?_); (first | refine ex_i (s_load1 tabOk rfl rfl rfl rfl (by first | exact hae | exact hbf)) ?_ | refine ex_i (s_load1r tabOk rfl rfl rfl rfl (by first | exact hae | exact hbf)) ?_ | refine ex_i (s_load1i tabOk rfl rfl rfl (by first | exact hae | exact hbf)) ?_)) | ((with_reducible refine e_ix ?_); (first | refine ex_i (s_ixV1 tabOk rfl rfl zcj rfl rfl rfl rfl rfl zle (by first | exact hae | exact hbf)) ?_ | refine ex_i (s_ixStr tabOk rfl rfl zcj rfl rfl (by first | exact hae | exact hbf)) ?_)))) | refine stA ?_ | refine stD ?_ | (refine hK _ _ _ _ ?_; clear hK hX K) | (refine hX _ _ _ _ _ (by simp) ?_; clear hK hX K))
        exact ⟨j + 1, by omega, by omega, weakA⟩
    · have hje : j = kb := by omega
      rw [hje, hcb]
      clear hyes hno hhit hcl hc0 hcb ha1 hb1 haB hcj
      repeat' (first | ((with_reducible refine aw_seqk ?_); intro K hK hX) | ((with_reducible refine isC_reg ?_); refine aw_prune [0, 2, 3, 4, 6, 7, 8, 9, 10, 11, 12, 13] rfl rfl ?_; with_reducible refine aw_region ?_) | ((with_reducible refine isC_draw ?_); refine aw_prune [0, 2, 3, 4, 6, 7, 8, 9, 10, 11, 12, 13] rfl rfl ?_; refine aw_drwF [] ?_) | refine stA ?_ | refine stD ?_ | (refine hK _ _ _ _ ?_; clear hK hX K) | (refine hX _ _ _ _ _ (by simp) ?_; clear hK hX K))
      exact ⟨i + 1, by omega, by omega, weakA⟩
  · have hie : i = ka := by omega
    rw [hie, hgka]
    clear hg hbr hsb hg0 hgka hgl h1 h2 h3v h3w h4v ha1 hb1 haB hgi
    repeat' (first | ((with_reducible refine aw_seqk ?_); intro K hK hX) | ((with_reducible refine isC_reg ?_); refine aw_prune [0, 2, 3, 4, 6, 7, 8, 9, 10, 11, 12, 13] rfl rfl ?_; with_reducible refine aw_region ?_) | ((with_reducible refine isC_draw ?_); refine aw_prune [0, 2, 3, 4, 6, 7, 8, 9, 10, 11, 12, 13] rfl rfl ?_; refine aw_drwF [] ?_) | ((with_reducible refine isA_call ?_); refine awl_fz 88 rfl rfl zln ?_) | ((first | with_reducible refine isA_call ?_ | with_reducible refine isD_call ?_); (first | refine zA ?_ | refine zN ?_ | refine zD ?_); (first | refine c0 (h4w) ?_ | refine c0 (h5) ?_ | refine c0 (haw) ?_)) | refine stA ?_ | refine stD ?_ | (refine hK _ _ _ _ ?_; clear hK hX K) | (refine hX _ _ _ _ _ (by simp) ?_; clear hK hX K))
    refine retK_mk zio ztr rfl (ResL.one (ResA.tmp rfl)) zou
end Go.Proofs.Ytccnhpaldmjkbaa
