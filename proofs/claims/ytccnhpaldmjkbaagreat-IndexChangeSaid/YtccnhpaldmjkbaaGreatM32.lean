/-
  Joined texts: IZ. Lemmas; no statement of a law.
-/
import Derived.Test.YtccnhpaldmjkbaaGreatM29
import Derived.Test.YtccnhpaldmjkbaaGreatM30
import Derived.Test.YtccnhpaldmjkbaaGreatM31
set_option linter.unusedSimpArgs false
set_option linter.unusedVariables false
/-
  index.Change on a change that fits (walk), and the law IndexFollows.
-/
namespace Go.Proofs.YtccnhpaldmjkbaaGreat
open Go Go.RowKit Go.Av
set_option maxRecDepth 100000
theorem kU : Idle Tryz.prog 95 0 := by
  intro us w hl
  obtain ⟨_, rfl⟩ : ∃ _ : Unit, us = [] := by
    match us, hl with | [], _ => exact ⟨(), rfl⟩
  refine callsD_of_wpS Tryz.func95 rfl fun c₀ cs hu => ?_
  apply wpS_region
  simp [wpOpsS, go_sem, recoverD, hu, Tryz.ntmps95, Exit.thenS]
  cases c₀
  simp_all [bodyPostS, results, Tryz.results95]
theorem gP : Body Tryz.prog 95 := by unfold Body; kernel_rfl
attribute [local irreducible] Still Adds AWL AW Drw DrwE EStep AC AWR Weak Frz Src RetK Out InK ItK AsK RdK RetT OutT ACT
theorem jT {p : List Po} (h : valP p) : smallP p := fun x hx => by
  obtain ⟨_, h2⟩ := dX h
  obtain ⟨_, a, b, c⟩ := h2 x hx
  have := a.1
  exact ⟨by omega, by omega, by omega, by omega⟩
theorem jO {d : List En} (hd : bagP d) (col : Nat) : smallP (postP (prs col d)) := fun x hx => by
  obtain ⟨q, hq, rfl⟩ := kW hx
  obtain ⟨h1, _⟩ := fR hq
  obtain ⟨i, hi⟩ := List.mem_iff_getElem?.1 h1
  obtain ⟨⟨a1, a2, a3⟩, a4, _⟩ := hd.2 i (List.getElem?_eq_some_iff.1 hi).1 _ hi
  have := a3.1
  exact ⟨by show q.2.r.length ≤ 1000000; omega, a4, by show -1000000 ≤ q.2.n; omega, by show q.2.n ≤ 1000000; omega⟩
theorem eE {d : List En} (hd : bagP d) : ∀ e ∈ d, rowP e.r := fun e he => by
  obtain ⟨i, hi⟩ := List.mem_iff_getElem?.1 he
  exact (hd.2 i (List.getElem?_eq_some_iff.1 hi).1 e hi).1.2.2
open Classical in
set_option maxHeartbeats 8000000 in
theorem ichange_ok (p : List Po) (d : List En) (n m col M : Nat) (hn : p.length = n) (hm : d.length = m) (hn2 : n ≤ 300000) (hv : valP p) (hd : bagP d) (hfd : fitB d) (hc : (col : Int) ≤ 9223372036854775807) (hM : (mergeP p (postP (prs col d))).length = M) (hpos : ∀ x ∈ mergeP p (postP (prs col d)), 0 ≤ x.n ∧ x.n ≤ 262144) :
    AC Tryz.prog 41 [.sl 3 n (pc p), .sl 2 m (ec d), iv col] (.tup [.c (.sl 3 M (pc (mergeP p (postP (prs col d))))), .c (iv 0)]) [] 0 := by
  have hm2 : m ≤ 4096 := by rw [← hm]; exact hd.1
  have h1 := oR p n hn (by simp only [maxLen]; omega) (fun x hx => by obtain ⟨a, b, _⟩ := (dX hv).2 x hx; have := a.2.1; have := b.1; simp only [maxLen]; omega)
  rw [decide_eq_true hv] at h1
  have h2 := pG d m hm (by simp only [maxLen]; omega) hfd
  rw [decide_eq_true hd] at h2
  obtain ⟨K1, hK1⟩ : ∃ K1, (postP (prs col d)).length = K1 := ⟨_, rfl⟩
  have hr := eE hd
  have h3 := iN d m hm hm2 hr col hc K1 hK1
  have hKl := cR (col := col) (b := d) (fun e he v hv => (hr e he).2 v hv)
  rw [← dD, hK1, hm] at hKl
  have h4 := nN p (postP (prs col d)) n K1 M hn hK1 (by omega) (by omega) (jT hv) (jO hd col) hM
  have hMl := dH p (postP (prs col d))
  rw [hM, hn, hK1] at hMl
  generalize mergeP p (postP (prs col d)) = S at *
  generalize pc (postP (prs col d)) = R at *
  generalize pc p = Q at *
  generalize ec d = E at *
  have hSl : (pc S).length = M * 3 := by rw [bF, hM]
  clear hv hd hfd hr hK1 hm hn
  refine aJ tabOk (sz := 31) Tryz.func41 rfl (by rw [Tryz.ntmps41]; rfl) ?_
  repeat' (first | ((with_reducible refine aD ?_); intro K hK hX) | ((with_reducible refine aE ?_); refine aA [0, 1, 2, 4, 5, 6, 7, 8] rfl rfl ?_; with_reducible refine aB ?_) | ((with_reducible refine aF ?_); (first | refine zA ?_ | refine zN ?_); (first | refine c0 (h1) ?_ | refine c0 (h2) ?_ | refine c0 (h3) ?_ | refine c0 (h4) ?_)) | ((first | with_reducible refine aF ?_ | with_reducible refine aR ?_); refine aY tabOk [0, 1, 2, 3, 4, 5, 6, 7, 8, 9, 10, 11, 12, 13, 14, 15, 16, 17, 18, 19, 20, 21, 22, 23, 24, 25, 26, 27, 28, 29, 30] aH rfl rfl zby Tryz.func98 rfl rfl rfl (szf := 9) (by rw [Tryz.ntmps98]; rfl) rfl ?_) | ((first | with_reducible refine aF ?_ | with_reducible refine aR ?_); refine aY tabOk [0, 1, 2, 3, 4, 5, 6, 7, 8, 9, 10, 11, 12, 13, 14, 15, 16, 17, 18, 19, 20, 21, 22, 23, 24, 25, 26, 27, 28, 29, 30] aH rfl rfl zby Tryz.func149 rfl rfl rfl (szf := 19) (by rw [Tryz.ntmps149]; rfl) rfl ?_) | ((first | with_reducible refine aF ?_ | with_reducible refine aR ?_); refine aY tabOk [0, 1, 2, 3, 4, 5, 6, 7, 8, 9, 10, 11, 12, 13, 14, 15, 16, 17, 18, 19, 20, 21, 22, 23, 24, 25, 26, 27, 28, 29, 30] aH rfl rfl zby Tryz.func99 rfl rfl rfl (szf := 6) (by rw [Tryz.ntmps99]; rfl) rfl ?_) | refine stA ?_ | ((first | refine hK _ _ _ _ ?_ | refine hX _ _ _ _ _ (by simp) ?_); clear hK hX K) | (first | refine bJ zio ztr rfl rfl (ResL.one (ResA.tmp rfl)) ?_ | refine bI zio ztr rfl rfl (ResL.one (ResA.tmp rfl)) ?_))
  refine bD [8, 5] [] rfl rfl (fun i : Nat => [(8, .c (iv i))]) (fun i => []) (fun i => i ≤ M) (fun i => M - i) 0 (Nat.zero_le _) weakA ?_
  intro i hi K hK hX
  by_cases hlt : i < M
  · obtain ⟨x, hx⟩ : ∃ x, S[i]? = some x := ⟨_, List.getElem?_eq_getElem (by omega)⟩
    have hat := fF hx
    have hxp := hpos x (List.mem_of_getElem? hx)
    clear hpos h1 h2 h3 h4
    obtain ⟨xw, xr, xn⟩ := x
    simp only [Po.c] at *
    repeat' (first | ((with_reducible refine aD ?_); intro K hK hX) | ((with_reducible refine aE ?_); refine aA [0, 1, 2, 4, 5, 6, 7, 8] rfl rfl ?_; with_reducible refine aB ?_) | ((first | with_reducible refine aF ?_ | with_reducible refine aR ?_); refine aY tabOk [0, 1, 2, 3, 4, 5, 6, 7, 8, 9, 10, 11, 12, 13, 14, 15, 16, 17, 18, 19, 20, 21, 22, 23, 24, 25, 26, 27, 28, 29, 30] aH rfl rfl zby Tryz.func98 rfl rfl rfl (szf := 9) (by rw [Tryz.ntmps98]; rfl) rfl ?_) | ((first | with_reducible refine aF ?_ | with_reducible refine aR ?_); refine aY tabOk [0, 1, 2, 3, 4, 5, 6, 7, 8, 9, 10, 11, 12, 13, 14, 15, 16, 17, 18, 19, 20, 21, 22, 23, 24, 25, 26, 27, 28, 29, 30] aH rfl rfl zby Tryz.func149 rfl rfl rfl (szf := 19) (by rw [Tryz.ntmps149]; rfl) rfl ?_) | ((first | with_reducible refine aF ?_ | with_reducible refine aR ?_); refine aY tabOk [0, 1, 2, 3, 4, 5, 6, 7, 8, 9, 10, 11, 12, 13, 14, 15, 16, 17, 18, 19, 20, 21, 22, 23, 24, 25, 26, 27, 28, 29, 30] aH rfl rfl zby Tryz.func99 rfl rfl rfl (szf := 6) (by rw [Tryz.ntmps99]; rfl) rfl ?_) | (((with_reducible refine aI ?_); refine xA ?_); (first | ((with_reducible refine aO ?_); (first | refine aC (aW tabOk rfl rfl rfl rfl (by first | exact hat | exact whole0 (by first | rfl | omega) | rfl) zln) ?_ | refine aC (aV tabOk rfl rfl rfl (by first | exact hat | exact whole0 (by first | rfl | omega) | rfl) zln) ?_)) | ((with_reducible refine bB ?_); (first | refine aC (s_slArri tabOk rfl rfl rfl rfl zbd zbd zle zle (by decide) (by first | exact hat | exact whole0 (by first | rfl | omega) | rfl) zln) ?_)))) | refine stA ?_ | ((first | refine hK _ _ _ _ ?_ | refine hX _ _ _ _ _ (by simp) ?_); clear hK hX K) | (first | refine bJ zio ztr rfl rfl (ResL.one (ResA.tmp rfl)) ?_ | refine bI zio ztr rfl rfl (ResL.one (ResA.tmp rfl)) ?_))
    exact ⟨i + 1, by omega, by omega, weakA⟩
  · have hie : i = M := by omega
    rw [hie]
    clear h1 h2 h3 h4 hi hlt hie
    repeat' (first | ((with_reducible refine aD ?_); intro K hK hX) | ((with_reducible refine aE ?_); refine aA [0, 1, 2, 4, 5, 6, 7, 8] rfl rfl ?_; with_reducible refine aB ?_) | ((first | with_reducible refine aF ?_ | with_reducible refine aR ?_); refine aY tabOk [0, 1, 2, 3, 4, 5, 6, 7, 8, 9, 10, 11, 12, 13, 14, 15, 16, 17, 18, 19, 20, 21, 22, 23, 24, 25, 26, 27, 28, 29, 30] aH rfl rfl zby Tryz.func98 rfl rfl rfl (szf := 9) (by rw [Tryz.ntmps98]; rfl) rfl ?_) | ((first | with_reducible refine aF ?_ | with_reducible refine aR ?_); refine aY tabOk [0, 1, 2, 3, 4, 5, 6, 7, 8, 9, 10, 11, 12, 13, 14, 15, 16, 17, 18, 19, 20, 21, 22, 23, 24, 25, 26, 27, 28, 29, 30] aH rfl rfl zby Tryz.func149 rfl rfl rfl (szf := 19) (by rw [Tryz.ntmps149]; rfl) rfl ?_) | ((first | with_reducible refine aF ?_ | with_reducible refine aR ?_); refine aY tabOk [0, 1, 2, 3, 4, 5, 6, 7, 8, 9, 10, 11, 12, 13, 14, 15, 16, 17, 18, 19, 20, 21, 22, 23, 24, 25, 26, 27, 28, 29, 30] aH rfl rfl zby Tryz.func99 rfl rfl rfl (szf := 6) (by rw [Tryz.ntmps99]; rfl) rfl ?_) | ((first | with_reducible refine aF ?_ | with_reducible refine aR ?_); refine aY tabOk [0, 1, 2, 3, 4, 5, 6, 7, 8, 9, 10, 11, 12, 13, 14, 15, 16, 17, 18, 19, 20, 21, 22, 23, 24, 25, 26, 27, 28, 29, 30] aH rfl rfl zby Tryz.func100 rfl rfl rfl (szf := 6) (by rw [Tryz.ntmps100]; rfl) rfl ?_) | refine stA ?_ | ((first | refine hK _ _ _ _ ?_ | refine hX _ _ _ _ _ (by simp) ?_); clear hK hX K) | (first | refine bJ zio ztr rfl rfl (ResL.one (ResA.tmp rfl)) ?_ | refine bI zio ztr rfl rfl (ResL.one (ResA.tmp rfl)) ?_))
    refine bD [8, 5] [] rfl rfl (fun i : Nat => [(8, .c (iv i))]) (fun i => []) (fun i => i ≤ M) (fun i => M - i) 0 (Nat.zero_le _) weakA ?_
    intro k hk K hK hX
    by_cases hlt : k < M
    · obtain ⟨x, hx⟩ : ∃ x, S[k]? = some x := ⟨_, List.getElem?_eq_getElem (by omega)⟩
      have hat := fF hx
      have hxp := hpos x (List.mem_of_getElem? hx)
      clear hpos
      obtain ⟨xw, xr, xn⟩ := x
      simp only [Po.c] at *
      repeat' (first | ((with_reducible refine aD ?_); intro K hK hX) | ((with_reducible refine aE ?_); refine aA [0, 1, 2, 4, 5, 6, 7, 8] rfl rfl ?_; with_reducible refine aB ?_) | ((first | with_reducible refine aF ?_ | with_reducible refine aR ?_); refine aY tabOk [0, 1, 2, 3, 4, 5, 6, 7, 8, 9, 10, 11, 12, 13, 14, 15, 16, 17, 18, 19, 20, 21, 22, 23, 24, 25, 26, 27, 28, 29, 30] aH rfl rfl zby Tryz.func98 rfl rfl rfl (szf := 9) (by rw [Tryz.ntmps98]; rfl) rfl ?_) | ((first | with_reducible refine aF ?_ | with_reducible refine aR ?_); refine aY tabOk [0, 1, 2, 3, 4, 5, 6, 7, 8, 9, 10, 11, 12, 13, 14, 15, 16, 17, 18, 19, 20, 21, 22, 23, 24, 25, 26, 27, 28, 29, 30] aH rfl rfl zby Tryz.func149 rfl rfl rfl (szf := 19) (by rw [Tryz.ntmps149]; rfl) rfl ?_) | ((first | with_reducible refine aF ?_ | with_reducible refine aR ?_); refine aY tabOk [0, 1, 2, 3, 4, 5, 6, 7, 8, 9, 10, 11, 12, 13, 14, 15, 16, 17, 18, 19, 20, 21, 22, 23, 24, 25, 26, 27, 28, 29, 30] aH rfl rfl zby Tryz.func100 rfl rfl rfl (szf := 6) (by rw [Tryz.ntmps100]; rfl) rfl ?_) | (((with_reducible refine aI ?_); refine xA ?_); (first | ((with_reducible refine aO ?_); (first | refine aC (aW tabOk rfl rfl rfl rfl (by first | exact hat | exact whole0 (by first | rfl | omega) | rfl) zln) ?_ | refine aC (aV tabOk rfl rfl rfl (by first | exact hat | exact whole0 (by first | rfl | omega) | rfl) zln) ?_)) | ((with_reducible refine bB ?_); (first | refine aC (s_slArri tabOk rfl rfl rfl rfl zbd zbd zle zle (by decide) (by first | exact hat | exact whole0 (by first | rfl | omega) | rfl) zln) ?_)))) | refine stA ?_ | ((first | refine hK _ _ _ _ ?_ | refine hX _ _ _ _ _ (by simp) ?_); clear hK hX K) | (first | refine bJ zio ztr rfl rfl (ResL.one (ResA.tmp rfl)) ?_ | refine bI zio ztr rfl rfl (ResL.one (ResA.tmp rfl)) ?_))
      exact ⟨k + 1, by omega, by omega, weakA⟩
    · have hke : k = M := by omega
      rw [hke]
      clear hpos hM
      repeat' (first | ((with_reducible refine aD ?_); intro K hK hX) | ((with_reducible refine aE ?_); refine aA [0, 1, 2, 4, 5, 6, 7, 8] rfl rfl ?_; with_reducible refine aB ?_) | ((first | with_reducible refine aF ?_ | with_reducible refine aR ?_); refine aY tabOk [0, 1, 2, 3, 4, 5, 6, 7, 8, 9, 10, 11, 12, 13, 14, 15, 16, 17, 18, 19, 20, 21, 22, 23, 24, 25, 26, 27, 28, 29, 30] aH rfl rfl zby Tryz.func98 rfl rfl rfl (szf := 9) (by rw [Tryz.ntmps98]; rfl) rfl ?_) | ((first | with_reducible refine aF ?_ | with_reducible refine aR ?_); refine aY tabOk [0, 1, 2, 3, 4, 5, 6, 7, 8, 9, 10, 11, 12, 13, 14, 15, 16, 17, 18, 19, 20, 21, 22, 23, 24, 25, 26, 27, 28, 29, 30] aH rfl rfl zby Tryz.func149 rfl rfl rfl (szf := 19) (by rw [Tryz.ntmps149]; rfl) rfl ?_) | ((first | with_reducible refine aF ?_ | with_reducible refine aR ?_); refine aY tabOk [0, 1, 2, 3, 4, 5, 6, 7, 8, 9, 10, 11, 12, 13, 14, 15, 16, 17, 18, 19, 20, 21, 22, 23, 24, 25, 26, 27, 28, 29, 30] aH rfl rfl zby Tryz.func100 rfl rfl rfl (szf := 6) (by rw [Tryz.ntmps100]; rfl) rfl ?_) | refine stA ?_ | ((first | refine hK _ _ _ _ ?_ | refine hX _ _ _ _ _ (by simp) ?_); clear hK hX K) | (first | refine bJ zio ztr rfl rfl (ResL.one (ResA.tmp rfl)) ?_ | refine bI zio ztr rfl rfl (ResL.one (ResA.tmp rfl)) ?_))
      refine aK zio (by exact ⟨kU, gP, trivial⟩) rfl (ResL.two (ResA.tmp rfl) (ResA.tmp rfl)) (eG (aZ zfz (aZ zfz cH)))
end Go.Proofs.YtccnhpaldmjkbaaGreat
