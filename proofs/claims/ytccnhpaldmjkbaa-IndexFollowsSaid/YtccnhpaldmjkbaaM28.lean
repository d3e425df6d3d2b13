/-
  Joined texts: IZ. Lemmas; no statement of a law.
-/
import Derived.Test.YtccnhpaldmjkbaaM23
import Derived.Test.YtccnhpaldmjkbaaM25
import Derived.Test.YtccnhpaldmjkbaaM26
import Derived.Test.YtccnhpaldmjkbaaM27
set_option linter.unusedSimpArgs false
set_option linter.unusedVariables false
namespace Go.Proofs.Ytccnhpaldmjkbaa
open Go Go.RowKit Go.Av
set_option maxRecDepth 100000
theorem ic_idle : Idle Try.prog 68 0 := by
  intro us w hl
  obtain ⟨_, rfl⟩ : ∃ _ : Unit, us = [] := by
    match us, hl with | [], _ => exact ⟨(), rfl⟩
  refine callsD_of_wpS Try.func68 rfl fun c₀ cs hu => ?_
  apply wpS_region
  simp [wpOpsS, go_sem, recoverD, hu, Try.ntmps68, Exit.thenS]
  cases c₀
  simp_all [bodyPostS, results, Try.results68]
theorem ic_idle_b : Body Try.prog 68 := by unfold Body; kernel_rfl
attribute [local irreducible] Still Adds AWL AW Drw DrwE EStep AC AWR Weak Frz Src RetK Out InK ItK AsK RdK RetT OutT ACT
theorem valP_small {p : List Po} (h : valP p) : smallP p := fun x hx => by
  obtain ⟨_, h2⟩ := valP_facts h
  obtain ⟨_, a, b, c⟩ := h2 x hx
  have := a.1
  exact ⟨by omega, by omega, by omega, by omega⟩
theorem post_small {d : List En} (hd : bagP d) (col : Nat) : smallP (postP (prs col d)) := fun x hx => by
  obtain ⟨q, hq, rfl⟩ := postP_mem hx
  obtain ⟨h1, _⟩ := prs_mem hq
  obtain ⟨i, hi⟩ := List.mem_iff_getElem?.1 h1
  obtain ⟨⟨a1, a2, a3⟩, a4, _⟩ := hd.2 i (List.getElem?_eq_some_iff.1 hi).1 _ hi
  have := a3.1
  exact ⟨by show q.2.r.length ≤ 1000000; omega, a4, by show -1000000 ≤ q.2.n; omega, by show q.2.n ≤ 1000000; omega⟩
theorem bagP_rows {d : List En} (hd : bagP d) : ∀ e ∈ d, rowP e.r := fun e he => by
  obtain ⟨i, hi⟩ := List.mem_iff_getElem?.1 he
  exact (hd.2 i (List.getElem?_eq_some_iff.1 hi).1 e hi).1.2.2
open Classical in
set_option maxHeartbeats 8000000 in
theorem ichange_ok (p : List Po) (d : List En) (n m col M : Nat) (hn : p.length = n) (hm : d.length = m) (hn2 : n ≤ 300000) (hv : valP p) (hd : bagP d) (hfd : fitB d) (hc : (col : Int) ≤ 9223372036854775807) (hM : (mergeP p (postP (prs col d))).length = M) (hpos : ∀ x ∈ mergeP p (postP (prs col d)), 0 ≤ x.n ∧ x.n ≤ 262144) :
    AC Try.prog 30 [.sl 3 n (pc p), .sl 2 m (ec d), iv col] (.tup [.c (.sl 3 M (pc (mergeP p (postP (prs col d))))), .c (iv 0)]) [] 0 := by
  have hm2 : m ≤ 4096 := by rw [← hm]; exact hd.1
  have h1 := ival_ok p n hn (by simp only [maxLen]; omega) (fun x hx => by obtain ⟨a, b, _⟩ := (valP_facts hv).2 x hx; have := a.2.1; have := b.1; simp only [maxLen]; omega)
  rw [decide_eq_true hv] at h1
  have h2 := bag_ok d m hm (by simp only [maxLen]; omega) hfd
  rw [decide_eq_true hd] at h2
  obtain ⟨K1, hK1⟩ : ∃ K1, (postP (prs col d)).length = K1 := ⟨_, rfl⟩
  have hr := bagP_rows hd
  have h3 := postings_ok d m hm hm2 hr col hc K1 hK1
  have hKl := prs_length (col := col) (b := d) (fun e he v hv => (hr e he).2 v hv)
  rw [← postP_length, hK1, hm] at hKl
  have h4 := imerge_ok p (postP (prs col d)) n K1 M hn hK1 (by omega) (by omega) (valP_small hv) (post_small hd col) hM
  have hMl := mergeP_length p (postP (prs col d))
  rw [hM, hn, hK1] at hMl
  generalize mergeP p (postP (prs col d)) = S at *
  generalize pc (postP (prs col d)) = R at *
  generalize pc p = Q at *
  generalize ec d = E at *
  have hSl : (pc S).length = M * 3 := by rw [pc_length, hM]
  clear hv hd hfd hr hK1 hm hn
  refine ac_enter tabOk (sz := 31) Try.func30 rfl (by rw [Try.ntmps30]; rfl) ?_
  repeat' (first | ((with_reducible refine aw_seqk ?_); intro K hK hX) | ((with_reducible refine isC_reg ?_); refine aw_prune [0, 1, 2, 4, 5, 6, 7, 8] rfl rfl ?_; with_reducible refine aw_region ?_) | ((with_reducible refine isA_call ?_); (first | refine zA ?_ | refine zN ?_); (first | refine c0 (h1) ?_ | refine c0 (h2) ?_ | refine c0 (h3) ?_ | refine c0 (h4) ?_)) | ((first | with_reducible refine isA_call ?_ | with_reducible refine isA_callv ?_); refine awl_inl tabOk [0, 1, 2, 3, 4, 5, 6, 7, 8, 9, 10, 11, 12, 13, 14, 15, 16, 17, 18, 19, 20, 21, 22, 23, 24, 25, 26, 27, 28, 29, 30] g_none rfl rfl zby Try.func71 rfl rfl rfl (szf := 9) (by rw [Try.ntmps71]; rfl) rfl ?_) | ((first | with_reducible refine isA_call ?_ | with_reducible refine isA_callv ?_); refine awl_inl tabOk [0, 1, 2, 3, 4, 5, 6, 7, 8, 9, 10, 11, 12, 13, 14, 15, 16, 17, 18, 19, 20, 21, 22, 23, 24, 25, 26, 27, 28, 29, 30] g_none rfl rfl zby Try.func122 rfl rfl rfl (szf := 19) (by rw [Try.ntmps122]; rfl) rfl ?_) | ((first | with_reducible refine isA_call ?_ | with_reducible refine isA_callv ?_); refine awl_inl tabOk [0, 1, 2, 3, 4, 5, 6, 7, 8, 9, 10, 11, 12, 13, 14, 15, 16, 17, 18, 19, 20, 21, 22, 23, 24, 25, 26, 27, 28, 29, 30] g_none rfl rfl zby Try.func72 rfl rfl rfl (szf := 6) (by rw [Try.ntmps72]; rfl) rfl ?_) | refine stA ?_ | (refine hK _ _ _ _ ?_; clear hK hX K) | (refine hX _ _ _ _ _ (by simp) ?_; clear hK hX K) | (first | refine inK_some zio ztr rfl rfl (ResL.one (ResA.tmp rfl)) ?_ | refine inK_none zio ztr rfl rfl (ResL.one (ResA.tmp rfl)) ?_))
  refine aw_loopo [8, 5] [] rfl rfl (fun i : Nat => [(8, .c (iv i))]) (fun i => []) (fun i => i ≤ M) (fun i => M - i) 0 (Nat.zero_le _) weakA ?_
  intro i hi K hK hX
  by_cases hlt : i < M
  · obtain ⟨x, hx⟩ : ∃ x, S[i]? = some x := ⟨_, List.getElem?_eq_getElem (by omega)⟩
    have hat := pc_at hx
    have hxp := hpos x (List.mem_of_getElem? hx)
    clear hpos h1 h2 h3 h4
    obtain ⟨xw, xr, xn⟩ := x
    simp only [Po.c] at *
    repeat' (first | ((with_reducible refine aw_seqk ?_); intro K hK hX) | ((with_reducible refine isC_reg ?_); refine aw_prune [0, 1, 2, 4, 5, 6, 7, 8] rfl rfl ?_; with_reducible refine aw_region ?_) | ((first | with_reducible refine isA_call ?_ | with_reducible refine isA_callv ?_); refine awl_inl tabOk [0, 1, 2, 3, 4, 5, 6, 7, 8, 9, 10, 11, 12, 13, 14, 15, 16, 17, 18, 19, 20, 21, 22, 23, 24, 25, 26, 27, 28, 29, 30] g_none rfl rfl zby Try.func71 rfl rfl rfl (szf := 9) (by rw [Try.ntmps71]; rfl) rfl ?_) | ((first | with_reducible refine isA_call ?_ | with_reducible refine isA_callv ?_); refine awl_inl tabOk [0, 1, 2, 3, 4, 5, 6, 7, 8, 9, 10, 11, 12, 13, 14, 15, 16, 17, 18, 19, 20, 21, 22, 23, 24, 25, 26, 27, 28, 29, 30] g_none rfl rfl zby Try.func122 rfl rfl rfl (szf := 19) (by rw [Try.ntmps122]; rfl) rfl ?_) | ((first | with_reducible refine isA_call ?_ | with_reducible refine isA_callv ?_); refine awl_inl tabOk [0, 1, 2, 3, 4, 5, 6, 7, 8, 9, 10, 11, 12, 13, 14, 15, 16, 17, 18, 19, 20, 21, 22, 23, 24, 25, 26, 27, 28, 29, 30] g_none rfl rfl zby Try.func72 rfl rfl rfl (szf := 6) (by rw [Try.ntmps72]; rfl) rfl ?_) | (((with_reducible refine isA_any ?_); refine xA ?_); (first | ((with_reducible refine e_load ?_); (first | refine ex_i (s_loadAr tabOk rfl rfl rfl rfl (by first | exact hat | exact whole0 (by first | rfl | omega) | rfl) zln) ?_ | refine ex_i (s_loadAi tabOk rfl rfl rfl (by first | exact hat | exact whole0 (by first | rfl | omega) | rfl) zln) ?_)) | ((with_reducible refine e_slice ?_); (first | refine ex_i (s_slArri tabOk rfl rfl rfl rfl zbd zbd zle zle (by decide) (by first | exact hat | exact whole0 (by first | rfl | omega) | rfl) zln) ?_)))) | refine stA ?_ | (refine hK _ _ _ _ ?_; clear hK hX K) | (refine hX _ _ _ _ _ (by simp) ?_; clear hK hX K) | (first | refine inK_some zio ztr rfl rfl (ResL.one (ResA.tmp rfl)) ?_ | refine inK_none zio ztr rfl rfl (ResL.one (ResA.tmp rfl)) ?_))
    exact ⟨i + 1, by omega, by omega, weakA⟩
  · have hie : i = M := by omega
    rw [hie]
    clear h1 h2 h3 h4 hi hlt hie
    repeat' (first | ((with_reducible refine aw_seqk ?_); intro K hK hX) | ((with_reducible refine isC_reg ?_); refine aw_prune [0, 1, 2, 4, 5, 6, 7, 8] rfl rfl ?_; with_reducible refine aw_region ?_) | ((first | with_reducible refine isA_call ?_ | with_reducible refine isA_callv ?_); refine awl_inl tabOk [0, 1, 2, 3, 4, 5, 6, 7, 8, 9, 10, 11, 12, 13, 14, 15, 16, 17, 18, 19, 20, 21, 22, 23, 24, 25, 26, 27, 28, 29, 30] g_none rfl rfl zby Try.func71 rfl rfl rfl (szf := 9) (by rw [Try.ntmps71]; rfl) rfl ?_) | ((first | with_reducible refine isA_call ?_ | with_reducible refine isA_callv ?_); refine awl_inl tabOk [0, 1, 2, 3, 4, 5, 6, 7, 8, 9, 10, 11, 12, 13, 14, 15, 16, 17, 18, 19, 20, 21, 22, 23, 24, 25, 26, 27, 28, 29, 30] g_none rfl rfl zby Try.func122 rfl rfl rfl (szf := 19) (by rw [Try.ntmps122]; rfl) rfl ?_) | ((first | with_reducible refine isA_call ?_ | with_reducible refine isA_callv ?_); refine awl_inl tabOk [0, 1, 2, 3, 4, 5, 6, 7, 8, 9, 10, 11, 12, 13, 14, 15, 16, 17, 18, 19, 20, 21, 22, 23, 24, 25, 26, 27, 28, 29, 30] g_none rfl rfl zby Try.func72 rfl rfl rfl (szf := 6) (by rw [Try.ntmps72]; rfl) rfl ?_) | ((first | with_reducible refine isA_call ?_ | with_reducible refine isA_callv ?_); refine awl_inl tabOk [0, 1, 2, 3, 4, 5, 6, 7, 8, 9, 10, 11, 12, 13, 14, 15, 16, 17, 18, 19, 20, 21, 22, 23, 24, 25, 26, 27, 28, 29, 30] g_none rfl rfl zby Try.func73 rfl rfl rfl (szf := 6) (by rw [Try.ntmps73]; rfl) rfl ?_) | refine stA ?_ | (refine hK _ _ _ _ ?_; clear hK hX K) | (refine hX _ _ _ _ _ (by simp) ?_; clear hK hX K) | (first | refine inK_some zio ztr rfl rfl (ResL.one (ResA.tmp rfl)) ?_ | refine inK_none zio ztr rfl rfl (ResL.one (ResA.tmp rfl)) ?_))
    refine aw_loopo [8, 5] [] rfl rfl (fun i : Nat => [(8, .c (iv i))]) (fun i => []) (fun i => i ≤ M) (fun i => M - i) 0 (Nat.zero_le _) weakA ?_
    intro k hk K hK hX
    by_cases hlt : k < M
    · obtain ⟨x, hx⟩ : ∃ x, S[k]? = some x := ⟨_, List.getElem?_eq_getElem (by omega)⟩
      have hat := pc_at hx
      have hxp := hpos x (List.mem_of_getElem? hx)
      clear hpos
      obtain ⟨xw, xr, xn⟩ := x
      simp only [Po.c] at *
      repeat' (first | ((with_reducible refine aw_seqk ?_); intro K hK hX) | ((with_reducible refine isC_reg ?_); refine aw_prune [0, 1, 2, 4, 5, 6, 7, 8] rfl rfl ?_; with_reducible refine aw_region ?_) | ((first | with_reducible refine isA_call ?_ | with_reducible refine isA_callv ?_); refine awl_inl tabOk [0, 1, 2, 3, 4, 5, 6, 7, 8, 9, 10, 11, 12, 13, 14, 15, 16, 17, 18, 19, 20, 21, 22, 23, 24, 25, 26, 27, 28, 29, 30] g_none rfl rfl zby Try.func71 rfl rfl rfl (szf := 9) (by rw [Try.ntmps71]; rfl) rfl ?_) | ((first | with_reducible refine isA_call ?_ | with_reducible refine isA_callv ?_); refine awl_inl tabOk [0, 1, 2, 3, 4, 5, 6, 7, 8, 9, 10, 11, 12, 13, 14, 15, 16, 17, 18, 19, 20, 21, 22, 23, 24, 25, 26, 27, 28, 29, 30] g_none rfl rfl zby Try.func122 rfl rfl rfl (szf := 19) (by rw [Try.ntmps122]; rfl) rfl ?_) | ((first | with_reducible refine isA_call ?_ | with_reducible refine isA_callv ?_); refine awl_inl tabOk [0, 1, 2, 3, 4, 5, 6, 7, 8, 9, 10, 11, 12, 13, 14, 15, 16, 17, 18, 19, 20, 21, 22, 23, 24, 25, 26, 27, 28, 29, 30] g_none rfl rfl zby Try.func73 rfl rfl rfl (szf := 6) (by rw [Try.ntmps73]; rfl) rfl ?_) | (((with_reducible refine isA_any ?_); refine xA ?_); (first | ((with_reducible refine e_load ?_); (first | refine ex_i (s_loadAr tabOk rfl rfl rfl rfl (by first | exact hat | exact whole0 (by first | rfl | omega) | rfl) zln) ?_ | refine ex_i (s_loadAi tabOk rfl rfl rfl (by first | exact hat | exact whole0 (by first | rfl | omega) | rfl) zln) ?_)) | ((with_reducible refine e_slice ?_); (first | refine ex_i (s_slArri tabOk rfl rfl rfl rfl zbd zbd zle zle (by decide) (by first | exact hat | exact whole0 (by first | rfl | omega) | rfl) zln) ?_)))) | refine stA ?_ | (refine hK _ _ _ _ ?_; clear hK hX K) | (refine hX _ _ _ _ _ (by simp) ?_; clear hK hX K) | (first | refine inK_some zio ztr rfl rfl (ResL.one (ResA.tmp rfl)) ?_ | refine inK_none zio ztr rfl rfl (ResL.one (ResA.tmp rfl)) ?_))
      exact ⟨k + 1, by omega, by omega, weakA⟩
    · have hke : k = M := by omega
      rw [hke]
      clear hpos hM
      repeat' (first | ((with_reducible refine aw_seqk ?_); intro K hK hX) | ((with_reducible refine isC_reg ?_); refine aw_prune [0, 1, 2, 4, 5, 6, 7, 8] rfl rfl ?_; with_reducible refine aw_region ?_) | ((first | with_reducible refine isA_call ?_ | with_reducible refine isA_callv ?_); refine awl_inl tabOk [0, 1, 2, 3, 4, 5, 6, 7, 8, 9, 10, 11, 12, 13, 14, 15, 16, 17, 18, 19, 20, 21, 22, 23, 24, 25, 26, 27, 28, 29, 30] g_none rfl rfl zby Try.func71 rfl rfl rfl (szf := 9) (by rw [Try.ntmps71]; rfl) rfl ?_) | ((first | with_reducible refine isA_call ?_ | with_reducible refine isA_callv ?_); refine awl_inl tabOk [0, 1, 2, 3, 4, 5, 6, 7, 8, 9, 10, 11, 12, 13, 14, 15, 16, 17, 18, 19, 20, 21, 22, 23, 24, 25, 26, 27, 28, 29, 30] g_none rfl rfl zby Try.func122 rfl rfl rfl (szf := 19) (by rw [Try.ntmps122]; rfl) rfl ?_) | ((first | with_reducible refine isA_call ?_ | with_reducible refine isA_callv ?_); refine awl_inl tabOk [0, 1, 2, 3, 4, 5, 6, 7, 8, 9, 10, 11, 12, 13, 14, 15, 16, 17, 18, 19, 20, 21, 22, 23, 24, 25, 26, 27, 28, 29, 30] g_none rfl rfl zby Try.func73 rfl rfl rfl (szf := 6) (by rw [Try.ntmps73]; rfl) rfl ?_) | refine stA ?_ | (refine hK _ _ _ _ ?_; clear hK hX K) | (refine hX _ _ _ _ _ (by simp) ?_; clear hK hX K) | (first | refine inK_some zio ztr rfl rfl (ResL.one (ResA.tmp rfl)) ?_ | refine inK_none zio ztr rfl rfl (ResL.one (ResA.tmp rfl)) ?_))
      refine retK_mk zio (by exact ⟨ic_idle, ic_idle_b, trivial⟩) rfl (ResL.two (ResA.tmp rfl) (ResA.tmp rfl)) (out_t (frzl_cons zfz (frzl_cons zfz frzl_nil)))
set_option maxHeartbeats 4000000 in
theorem radd2_ok (a b : List En) (n m N : Nat) (hn : a.length = n) (hm : b.length = m) (ha : BagS 500 a) (hb : BagS 500 b) (hN : (mergeE a b).length = N) : AC Try.prog 29 [.sl 2 n (ec a), .sl 2 m (ec b)] (.tup [.c (.sl 2 N (ec (mergeE a b))), .c (iv 0)]) [] 0 := by
  have h1 := rbag_t hn ha.fit (ha.bagP (by omega))
  have h2 := rbag_t hm hb.fit (hb.bagP (by omega))
  have la := ha.len
  have lb := hb.len
  have h3 := merge_ok a b n m N hn hm (by omega) (by omega) ha.fit hb.fit (by have := ha.abs; omega) (by have := hb.abs; omega) hN
  have hMl := mergeE_length a b
  have hMa := mergeE_abs a b
  have h4 := fits_ok (mergeE a b) N hN (by omega) fun e he => by have := absS_mem he; have := ha.abs; have := hb.abs; omega
  generalize mergeE a b = S at h3 h4 ⊢
  have hal : (ec a).length = n * 2 := by rw [ec_length, hn]
  have hbl : (ec b).length = m * 2 := by rw [ec_length, hm]
  clear ha hb la lb hN hn hm hMl hMa
  refine ac_enter tabOk (sz := 20) Try.func29 rfl (by rw [Try.ntmps29]; rfl) ?_
  repeat' (first | ((with_reducible refine aw_seqk ?_); intro K hK hX) | ((with_reducible refine isC_reg ?_); refine aw_prune [0, 1, 4, 5] rfl rfl ?_; with_reducible refine aw_region ?_) | ((with_reducible refine isA_call ?_); (first | refine zA ?_ | refine zN ?_); (first | refine c0 (h1) ?_ | refine c0 (h2) ?_ | refine c0 (h3) ?_ | refine c0 (h4) ?_)) | refine stA ?_ | (refine hK _ _ _ _ ?_; clear hK hX K) | (refine hX _ _ _ _ _ (by simp) ?_; clear hK hX K))
  refine retK_mk zio ztr rfl (ResL.two (ResA.tmp rfl) (ResA.tmp rfl)) (out_t (frzl_cons zfz (frzl_cons zfz frzl_nil)))
open Classical in
set_option maxHeartbeats 8000000 in
theorem law_ifollows (l : List Int) (n : Nat) (hn : l.length = n) (hb : 8 * n ≤ 140737488355328) : AC Try.prog 6 [.sl 1 n (intc .i64 l)] (.c (bv true)) [] 0 := by
  have hml : n ≤ maxLen := by simp only [maxLen]; omega
  have haw := awake13_ok
  have hil : (intc .i64 l).length = n := by rw [intc_length, hn]
  obtain ⟨fA, fA2, lA⟩ := txB_F l n 0 9 (by omega) (by omega) (by decide) (by decide)
  obtain ⟨na, hna⟩ : ∃ na, (txB l n 0 9).length = na := ⟨_, rfl⟩
  have h1 := ttxb_ok l n 0 8 9 na hn hml (by omega) (by omega) (by decide) (by decide) rfl hna
  obtain ⟨s1, s2⟩ := txA_bd l n 0 9 (by omega) (by omega)
  have fA : BagF 24 (txB l n 0 9) := fA
  generalize txB l n 0 9 = A at *
  generalize txA l n 0 9 = a1 at *
  have hna24 : na ≤ 24 := by rw [← hna]; exact fA.len
  obtain ⟨fB, _, _⟩ := bagF_F l n a1 5 (by decide) (by decide)
  have fB : BagF 12 (bagF l n a1 5 false) := fB
  have hbA := bagA_bd l n a1 5 s1 s2
  obtain ⟨dS, dF, dl, da, dr, _, _⟩ := fit_all l n (bagA l n a1 5) hbA fB fA (by decide)
  have hbr : ∀ e ∈ A, rowP e.r ∧ 1 ≤ e.n ∧ e.n ≤ 1000 := fun e he => by
    have h1 := fA.pos e he
    have h2 := absS_mem he
    have h3 := fA.abs
    exact ⟨fA.row e he, by omega, by omega⟩
  have hfs := fitS_facts l n (bagF l n a1 5 false) A (bagA l n a1 5) hbA fB.row hbr
  obtain ⟨nd, hnd⟩ : ∃ nd, (sortE (fitS l n (bagF l n a1 5 false, bagA l n a1 5) A na).1).length = nd := ⟨_, rfl⟩
  have h2 := tfit_ok l n a1 A na _ nd hn hml s1 s2 hna (by omega) (fun e he => (hbr e he).2) rfl hnd (fun i hi => by
    obtain ⟨⟨x1, _⟩, x2, x3⟩ := hfs i (by omega)
    have := fB.len
    exact ⟨by omega, x2, x3⟩) (by rw [← hna]; exact ⟨by omega, dr⟩)
  rw [hna] at dS dF
  generalize (fitS l n (bagF l n a1 5 false, bagA l n a1 5) A na).2 = a2 at *
  generalize sortE (fitS l n (bagF l n a1 5 false, bagA l n a1 5) A na).1 = d at *
  clear fB hbA dl da dr hbr hfs
  obtain ⟨nc, hnc⟩ : ∃ nc, (mergeE A d).length = nc := ⟨_, rfl⟩
  have hSA := fA.toS
  have h3 := radd2_ok A d na nd nc hna hnd ⟨hSA.srt, hSA.nz, hSA.row, by have := hSA.abs; omega, by have := hSA.len; omega⟩ ⟨dS.srt, dS.nz, dS.row, by have := dS.abs; omega, by have := dS.len; omega⟩ hnc
  have hpA := fA.posP (by decide)
  have hpC := dF.posP (by decide)
  obtain ⟨M, hM⟩ : ∃ M, (postP (prs 0 A)).length = M := ⟨_, rfl⟩
  obtain ⟨Mc, hMc⟩ : ∃ Mc, (postP (prs 0 (mergeE A d))).length = Mc := ⟨_, rfl⟩
  have h4 := ibuild_ok A na hna fA.fit hpA 0 (by decide) M hM
  have h5 := ibuild_ok (mergeE A d) nc hnc dF.fit hpC 0 (by decide) Mc hMc
  have hvA := post_val hpA.1 hpA.2 0
  have hvC := post_val hpC.1 hpC.2 0
  have hpm := post_merge (col := 0) fA.toS.good dS.good
  have hMA := prs_length (col := 0) fA.ok
  rw [← postP_length, hM, hna] at hMA
  have hMC := prs_length (col := 0) dF.ok
  rw [← postP_length, hMc, hnc] at hMC
  have hncl : nc ≤ 60 := by rw [← hnc]; exact dF.len
  have h6 := ichange_ok (postP (prs 0 A)) d M nd 0 Mc hM hnd (by omega) hvA (dS.bagP (by decide)) dS.fit (by decide) (by rw [hpm]; exact hMc) (fun x hx => by
    rw [hpm] at hx
    obtain ⟨_, _, y3, y4⟩ := (valP_facts hvC).2 x hx
    exact ⟨by omega, y4⟩)
  rw [hpm] at h6
  have hrC : ∀ x ∈ postP (prs 0 (mergeE A d)), x.r.length ≤ 1000000 ∧ x.w.length ≤ 1000000 := fun x hx => by
    obtain ⟨y1, y2, _⟩ := (valP_facts hvC).2 x hx
    have := y1.2.1
    have := y2.1
    exact ⟨by omega, by omega⟩
  have h7 := sameP_ok (postP (prs 0 (mergeE A d))) Mc hMc (by omega) (fun x hx => (hrC x hx).1)
  have h8 := ival_ok (postP (prs 0 (mergeE A d))) Mc hMc (by simp only [maxLen]; omega) (fun x hx => by have := hrC x hx; simp only [maxLen]; omega)
  rw [decide_eq_true hvC] at h8
  generalize pc (postP (prs 0 A)) = RA at *
  generalize pc (postP (prs 0 (mergeE A d))) = RC at *
  generalize ec (mergeE A d) = EC at *
  generalize ec d = ED at *
  generalize ec A = EA at *
  clear fA fA2 lA hSA dS dF hpA hpC hvA hvC hpm hrC hna hnd hnc hM hMc
  refine ac_enter tabOk (sz := 65) Try.func6 rfl (by rw [Try.ntmps6]; rfl) ?_
  repeat' (first | ((with_reducible refine aw_seqk ?_); intro K hK hX) | ((with_reducible refine isC_reg ?_); refine aw_prune [0, 2, 3, 4, 5, 6, 8, 9, 10, 11, 12, 13] rfl rfl ?_; with_reducible refine aw_region ?_) | ((with_reducible refine isA_build ?_); refine awl_fzE (m' := n) (cs' := intc .i64 l) 5 rfl rfl zln (by omega) (by simp) ?_) | ((with_reducible refine isA_call ?_); refine awl_callT (h1) g_none rfl zby rfl rfl rfl rfl zcv rfl ztp ?_) | ((with_reducible refine isA_call ?_); refine awl_callT (h2) g_none rfl zby rfl rfl rfl rfl zcv rfl ztp ?_) | ((with_reducible refine isA_call ?_); (first | refine zA ?_ | refine zN ?_); (first | refine c0 (h3) ?_ | refine c0 (h4) ?_ | refine c0 (h5) ?_ | refine c0 (h6) ?_ | refine c0 (h7) ?_ | refine c0 (h8) ?_ | refine c0 (haw) ?_)) | ((first | with_reducible refine isA_call ?_ | with_reducible refine isA_callv ?_); refine awl_inl tabOk [0, 1, 2, 3, 4, 5, 6, 7, 8, 9, 10, 11, 12, 13, 14, 15, 16, 17, 18, 19, 20, 21, 22, 23, 24, 25, 26, 27, 28, 29, 30, 31, 32, 33, 34, 35, 36, 37, 38, 39, 40, 41, 42, 43, 44, 45, 46, 47, 48, 49, 50, 51, 52, 53, 54, 55, 56, 57, 58, 59, 60, 61, 62, 63, 64] g_none rfl rfl zby Try.func18 rfl rfl rfl (szf := 8) (by rw [Try.ntmps18]; rfl) rfl ?_) | ((with_reducible refine isA_store ?_); refine awl_storeA tabOk g_none rfl rfl rfl zpt (by rfl) (by rfl) rfl (Nat.le_of_ble_eq_true rfl) (by rfl) ?_) | refine stA ?_ | (refine hK _ _ _ _ ?_; clear hK hX K) | (refine hX _ _ _ _ _ (by simp) ?_; clear hK hX K) | (first | refine inK_some zio ztr rfl rfl (ResL.one (ResA.tmp rfl)) ?_ | refine inK_none zio ztr rfl rfl (ResL.one (ResA.tmp rfl)) ?_))
  refine retK_mk zio ztr rfl (ResL.one (ResA.tmp rfl)) zou
end Go.Proofs.Ytccnhpaldmjkbaa
