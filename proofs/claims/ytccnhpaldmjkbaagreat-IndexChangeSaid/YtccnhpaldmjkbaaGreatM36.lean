/-
  Joined texts: JD. Lemmas; no statement of a law.
-/
import Derived.Test.YtccnhpaldmjkbaaGreatM32
set_option linter.unusedSimpArgs false
set_option linter.unusedVariables false
/-
  The program's index.Change in all cases (walk).
-/
namespace Go.Proofs.YtccnhpaldmjkbaaGreat
open Go Go.RowKit Go.Av
set_option maxRecDepth 100000
noncomputable def chgE (S : List Po) : Int := by
  classical
  exact if ∃ x ∈ S, x.n < 0 then 11 else if ∃ x ∈ S, 262144 < x.n then 9 else 0
noncomputable def chgR (S : List Po) : List Po := by
  classical
  exact if chgE S = 0 then S else []
theorem iF {S : List Po} {M : Nat} {q : Po → Prop} (hM : S.length = M) (h : ∀ j, j < M → ∀ x, S[j]? = some x → q x) : ∀ y ∈ S, q y := fun y hy => by
  obtain ⟨i, hi⟩ := List.mem_iff_getElem?.1 hy
  exact h i (by rw [← hM]; exact (List.getElem?_eq_some_iff.1 hi).1) y hi
attribute [local irreducible] Still Adds AWL AW Drw DrwE EStep AC AWR Weak Frz Src RetK Out InK ItK AsK RdK RetT OutT ACT
open Classical in
set_option maxHeartbeats 8000000 in
theorem ichange_bad (p : List Po) (d : List En) (n m col : Nat) (hn : p.length = n) (hm : d.length = m) (hn2 : n ≤ maxLen) (hm2 : m ≤ maxLen) (hfp : ∀ x ∈ p, x.r.length ≤ maxLen ∧ x.w.length ≤ maxLen) (hfd : fitB d) (hc : (col : Int) ≤ 9223372036854775807) (hv : ¬ (valP p ∧ bagP d)) :
    AC Tryz.prog 41 [.sl 3 n (pc p), .sl 2 m (ec d), iv col] (.tup [.c (.sl 3 0 []), .c (iv 1)]) [] 0 := by
  have h1 := oR p n hn hn2 hfp
  by_cases hp : valP p
  · have h2 := pG d m hm hm2 hfd
    rw [decide_eq_true hp] at h1
    rw [decide_eq_false (fun hd => hv ⟨hp, hd⟩)] at h2
    clear hv hp
    refine aJ tabOk (sz := 31) Tryz.func41 rfl (by rw [Tryz.ntmps41]; rfl) ?_
    repeat' (first | ((with_reducible refine aD ?_); intro K hK hX) | ((with_reducible refine aE ?_); refine aA [0, 1, 2, 6, 7, 8] rfl rfl ?_; with_reducible refine aB ?_) | ((with_reducible refine aF ?_); (first | refine zA ?_ | refine zN ?_); (first | refine c0 (h1) ?_ | refine c0 (h2) ?_)) | refine stA ?_ | ((first | refine hK _ _ _ _ ?_ | refine hX _ _ _ _ _ (by simp) ?_); clear hK hX K))
    refine aK zio (by exact ⟨kU, gP, trivial⟩) rfl (ResL.two (ResA.tmp rfl) (ResA.tmp rfl)) (eG (aZ zfz (aZ zfz cH)))
  · rw [decide_eq_false hp] at h1
    clear hv hp
    refine aJ tabOk (sz := 31) Tryz.func41 rfl (by rw [Tryz.ntmps41]; rfl) ?_
    repeat' (first | ((with_reducible refine aD ?_); intro K hK hX) | ((with_reducible refine aE ?_); refine aA [0, 1, 2, 6, 7, 8] rfl rfl ?_; with_reducible refine aB ?_) | ((with_reducible refine aF ?_); (first | refine zA ?_ | refine zN ?_); (first | refine c0 (h1) ?_)) | refine stA ?_ | ((first | refine hK _ _ _ _ ?_ | refine hX _ _ _ _ _ (by simp) ?_); clear hK hX K))
    refine aK zio (by exact ⟨kU, gP, trivial⟩) rfl (ResL.two (ResA.tmp rfl) (ResA.tmp rfl)) (eG (aZ zfz (aZ zfz cH)))
open Classical in
set_option maxHeartbeats 8000000 in
theorem ichange_neg (p : List Po) (d : List En) (n m col : Nat) (hn : p.length = n) (hm : d.length = m) (hn2 : n ≤ 300000) (hv : valP p) (hd : bagP d) (hfd : fitB d) (hc : (col : Int) ≤ 9223372036854775807) (hbS : ∀ x ∈ mergeP p (postP (prs col d)), -4000000000000000000 ≤ x.n ∧ x.n ≤ 4000000000000000000) (hneg : ∃ x ∈ mergeP p (postP (prs col d)), x.n < 0) :
    AC Tryz.prog 41 [.sl 3 n (pc p), .sl 2 m (ec d), iv col] (.tup [.c (.sl 3 0 []), .c (iv 11)]) [] 0 := by
  have hm2 : m ≤ 4096 := by rw [← hm]; exact hd.1
  have h1 := oR p n hn (by simp only [maxLen]; omega) (fun x hx => by obtain ⟨a, b, _⟩ := (dX hv).2 x hx; have := a.2.1; have := b.1; simp only [maxLen]; omega)
  rw [decide_eq_true hv] at h1
  have h2 := pG d m hm (by simp only [maxLen]; omega) hfd
  rw [decide_eq_true hd] at h2
  obtain ⟨K1, hK1⟩ : ∃ K1, (postP (prs col d)).length = K1 := ⟨_, rfl⟩
  obtain ⟨M, hM⟩ : ∃ M, (mergeP p (postP (prs col d))).length = M := ⟨_, rfl⟩
  have hr := eE hd
  have h3 := iN d m hm hm2 hr col hc K1 hK1
  have hKl := cR (col := col) (b := d) (fun e he v hv => (hr e he).2 v hv)
  rw [← dD, hK1, hm] at hKl
  have h4 := nN p (postP (prs col d)) n K1 M hn hK1 (by omega) (by omega) (jT hv) (jO hd col) hM
  have hMl := dH p (postP (prs col d))
  rw [hM, hn, hK1] at hMl
  generalize mergeP p (postP (prs col d)) = S at *
  generalize pc (postP (prs col d)) = R at *
  generalize pc p = Q at *
  generalize ec d = E at *
  have hSl : (pc S).length = M * 3 := by rw [bF, hM]
  clear hv hd hfd hr hK1 hm hn
  refine aJ tabOk (sz := 31) Tryz.func41 rfl (by rw [Tryz.ntmps41]; rfl) ?_
  repeat' (first | ((with_reducible refine aD ?_); intro K hK hX) | ((with_reducible refine aE ?_); refine aA [0, 1, 2, 4, 5, 6, 7, 8] rfl rfl ?_; with_reducible refine aB ?_) | ((with_reducible refine aF ?_); (first | refine zA ?_ | refine zN ?_); (first | refine c0 (h1) ?_ | refine c0 (h2) ?_ | refine c0 (h3) ?_ | refine c0 (h4) ?_)) | ((first | with_reducible refine aF ?_ | with_reducible refine aR ?_); refine aY tabOk [0, 1, 2, 3, 4, 5, 6, 7, 8, 9, 10, 11, 12, 13, 14, 15, 16, 17, 18, 19, 20, 21, 22, 23, 24, 25, 26, 27, 28, 29, 30] aH rfl rfl zby Tryz.func98 rfl rfl rfl (szf := 9) (by rw [Tryz.ntmps98]; rfl) rfl ?_) | ((first | with_reducible refine aF ?_ | with_reducible refine aR ?_); refine aY tabOk [0, 1, 2, 3, 4, 5, 6, 7, 8, 9, 10, 11, 12, 13, 14, 15, 16, 17, 18, 19, 20, 21, 22, 23, 24, 25, 26, 27, 28, 29, 30] aH rfl rfl zby Tryz.func149 rfl rfl rfl (szf := 19) (by rw [Tryz.ntmps149]; rfl) rfl ?_) | ((first | with_reducible refine aF ?_ | with_reducible refine aR ?_); refine aY tabOk [0, 1, 2, 3, 4, 5, 6, 7, 8, 9, 10, 11, 12, 13, 14, 15, 16, 17, 18, 19, 20, 21, 22, 23, 24, 25, 26, 27, 28, 29, 30] aH rfl rfl zby Tryz.func99 rfl rfl rfl (szf := 6) (by rw [Tryz.ntmps99]; rfl) rfl ?_) | refine stA ?_ | ((first | refine hK _ _ _ _ ?_ | refine hX _ _ _ _ _ (by simp) ?_); clear hK hX K) | (first | refine bJ zio ztr rfl rfl (ResL.one (ResA.tmp rfl)) ?_ | refine bI zio ztr rfl rfl (ResL.one (ResA.tmp rfl)) ?_))
  refine bD [8, 5] [] rfl rfl (fun i : Nat => [(8, .c (iv i))]) (fun i => []) (fun i => i ≤ M ∧ ∀ j, j < i → ∀ x, S[j]? = some x → 0 ≤ x.n) (fun i => M - i) 0 ⟨Nat.zero_le _, fun j hj => absurd hj (by omega)⟩ weakA ?_
  rintro i ⟨hi, hall⟩ K hK hX
  by_cases hlt : i < M
  · obtain ⟨x, hx⟩ : ∃ x, S[i]? = some x := ⟨_, List.getElem?_eq_getElem (by omega)⟩
    have hat := fF hx
    have hxb := hbS x (List.mem_of_getElem? hx)
    by_cases hxp : x.n < 0
    · clear hbS h1 h2 h3 h4 hall hx hneg
      obtain ⟨xw, xr, xn⟩ := x
      simp only [Po.c] at *
      repeat' (first | ((with_reducible refine aD ?_); intro K hK hX) | ((with_reducible refine aE ?_); refine aA [0, 1, 2, 4, 5, 6, 7, 8] rfl rfl ?_; with_reducible refine aB ?_) | ((first | with_reducible refine aF ?_ | with_reducible refine aR ?_); refine aY tabOk [0, 1, 2, 3, 4, 5, 6, 7, 8, 9, 10, 11, 12, 13, 14, 15, 16, 17, 18, 19, 20, 21, 22, 23, 24, 25, 26, 27, 28, 29, 30] aH rfl rfl zby Tryz.func98 rfl rfl rfl (szf := 9) (by rw [Tryz.ntmps98]; rfl) rfl ?_) | ((first | with_reducible refine aF ?_ | with_reducible refine aR ?_); refine aY tabOk [0, 1, 2, 3, 4, 5, 6, 7, 8, 9, 10, 11, 12, 13, 14, 15, 16, 17, 18, 19, 20, 21, 22, 23, 24, 25, 26, 27, 28, 29, 30] aH rfl rfl zby Tryz.func149 rfl rfl rfl (szf := 19) (by rw [Tryz.ntmps149]; rfl) rfl ?_) | ((first | with_reducible refine aF ?_ | with_reducible refine aR ?_); refine aY tabOk [0, 1, 2, 3, 4, 5, 6, 7, 8, 9, 10, 11, 12, 13, 14, 15, 16, 17, 18, 19, 20, 21, 22, 23, 24, 25, 26, 27, 28, 29, 30] aH rfl rfl zby Tryz.func99 rfl rfl rfl (szf := 6) (by rw [Tryz.ntmps99]; rfl) rfl ?_) | (((with_reducible refine aI ?_); refine xA ?_); (first | ((with_reducible refine aO ?_); (first | refine aC (aW tabOk rfl rfl rfl rfl (by first | exact hat | exact whole0 (by first | rfl | omega) | rfl) zln) ?_ | refine aC (aV tabOk rfl rfl rfl (by first | exact hat | exact whole0 (by first | rfl | omega) | rfl) zln) ?_)) | ((with_reducible refine bB ?_); (first | refine aC (s_slArri tabOk rfl rfl rfl rfl zbd zbd zle zle (by decide) (by first | exact hat | exact whole0 (by first | rfl | omega) | rfl) zln) ?_)))) | refine stA ?_ | ((first | refine hK _ _ _ _ ?_ | refine hX _ _ _ _ _ (by simp) ?_); clear hK hX K) | (first | refine bJ zio ztr rfl rfl (ResL.one (ResA.tmp rfl)) ?_ | refine bI zio ztr rfl rfl (ResL.one (ResA.tmp rfl)) ?_))
      refine aK zio (by exact ⟨kU, gP, trivial⟩) rfl (ResL.two (ResA.tmp rfl) (ResA.tmp rfl)) (eG (aZ zfz (aZ zfz cH)))
    · have hnx : ∀ j, j < i + 1 → ∀ x, S[j]? = some x → 0 ≤ x.n := fun j hj y hy => by
        rcases (show j < i ∨ j = i by omega) with h | h
        · exact hall j h y hy
        · subst h
          rw [hx] at hy
          injection hy with hy
          subst hy
          omega
      clear hbS h1 h2 h3 h4 hall hx hneg
      obtain ⟨xw, xr, xn⟩ := x
      simp only [Po.c] at *
      repeat' (first | ((with_reducible refine aD ?_); intro K hK hX) | ((with_reducible refine aE ?_); refine aA [0, 1, 2, 4, 5, 6, 7, 8] rfl rfl ?_; with_reducible refine aB ?_) | ((first | with_reducible refine aF ?_ | with_reducible refine aR ?_); refine aY tabOk [0, 1, 2, 3, 4, 5, 6, 7, 8, 9, 10, 11, 12, 13, 14, 15, 16, 17, 18, 19, 20, 21, 22, 23, 24, 25, 26, 27, 28, 29, 30] aH rfl rfl zby Tryz.func98 rfl rfl rfl (szf := 9) (by rw [Tryz.ntmps98]; rfl) rfl ?_) | ((first | with_reducible refine aF ?_ | with_reducible refine aR ?_); refine aY tabOk [0, 1, 2, 3, 4, 5, 6, 7, 8, 9, 10, 11, 12, 13, 14, 15, 16, 17, 18, 19, 20, 21, 22, 23, 24, 25, 26, 27, 28, 29, 30] aH rfl rfl zby Tryz.func149 rfl rfl rfl (szf := 19) (by rw [Tryz.ntmps149]; rfl) rfl ?_) | ((first | with_reducible refine aF ?_ | with_reducible refine aR ?_); refine aY tabOk [0, 1, 2, 3, 4, 5, 6, 7, 8, 9, 10, 11, 12, 13, 14, 15, 16, 17, 18, 19, 20, 21, 22, 23, 24, 25, 26, 27, 28, 29, 30] aH rfl rfl zby Tryz.func99 rfl rfl rfl (szf := 6) (by rw [Tryz.ntmps99]; rfl) rfl ?_) | (((with_reducible refine aI ?_); refine xA ?_); (first | ((with_reducible refine aO ?_); (first | refine aC (aW tabOk rfl rfl rfl rfl (by first | exact hat | exact whole0 (by first | rfl | omega) | rfl) zln) ?_ | refine aC (aV tabOk rfl rfl rfl (by first | exact hat | exact whole0 (by first | rfl | omega) | rfl) zln) ?_)) | ((with_reducible refine bB ?_); (first | refine aC (s_slArri tabOk rfl rfl rfl rfl zbd zbd zle zle (by decide) (by first | exact hat | exact whole0 (by first | rfl | omega) | rfl) zln) ?_)))) | refine stA ?_ | ((first | refine hK _ _ _ _ ?_ | refine hX _ _ _ _ _ (by simp) ?_); clear hK hX K) | (first | refine bJ zio ztr rfl rfl (ResL.one (ResA.tmp rfl)) ?_ | refine bI zio ztr rfl rfl (ResL.one (ResA.tmp rfl)) ?_))
      exact ⟨i + 1, ⟨by omega, hnx⟩, by omega, weakA⟩
  · exfalso
    obtain ⟨x, hx, hlt2⟩ := hneg
    have := iF (q := fun x => 0 ≤ x.n) hM (fun j hj => hall j (by omega)) x hx
    omega
open Classical in
set_option maxHeartbeats 8000000 in
theorem ichange_over (p : List Po) (d : List En) (n m col : Nat) (hn : p.length = n) (hm : d.length = m) (hn2 : n ≤ 300000) (hv : valP p) (hd : bagP d) (hfd : fitB d) (hc : (col : Int) ≤ 9223372036854775807) (hbS : ∀ x ∈ mergeP p (postP (prs col d)), -4000000000000000000 ≤ x.n ∧ x.n ≤ 4000000000000000000) (hnn : ∀ x ∈ mergeP p (postP (prs col d)), 0 ≤ x.n) (hover : ∃ x ∈ mergeP p (postP (prs col d)), 262144 < x.n) :
    AC Tryz.prog 41 [.sl 3 n (pc p), .sl 2 m (ec d), iv col] (.tup [.c (.sl 3 0 []), .c (iv 9)]) [] 0 := by
  have hm2 : m ≤ 4096 := by rw [← hm]; exact hd.1
  have h1 := oR p n hn (by simp only [maxLen]; omega) (fun x hx => by obtain ⟨a, b, _⟩ := (dX hv).2 x hx; have := a.2.1; have := b.1; simp only [maxLen]; omega)
  rw [decide_eq_true hv] at h1
  have h2 := pG d m hm (by simp only [maxLen]; omega) hfd
  rw [decide_eq_true hd] at h2
  obtain ⟨K1, hK1⟩ : ∃ K1, (postP (prs col d)).length = K1 := ⟨_, rfl⟩
  obtain ⟨M, hM⟩ : ∃ M, (mergeP p (postP (prs col d))).length = M := ⟨_, rfl⟩
  have hr := eE hd
  have h3 := iN d m hm hm2 hr col hc K1 hK1
  have hKl := cR (col := col) (b := d) (fun e he v hv => (hr e he).2 v hv)
  rw [← dD, hK1, hm] at hKl
  have h4 := nN p (postP (prs col d)) n K1 M hn hK1 (by omega) (by omega) (jT hv) (jO hd col) hM
  have hMl := dH p (postP (prs col d))
  rw [hM, hn, hK1] at hMl
  generalize mergeP p (postP (prs col d)) = S at *
  generalize pc (postP (prs col d)) = R at *
  generalize pc p = Q at *
  generalize ec d = E at *
  have hSl : (pc S).length = M * 3 := by rw [bF, hM]
  clear hv hd hfd hr hK1 hm hn
  refine aJ tabOk (sz := 31) Tryz.func41 rfl (by rw [Tryz.ntmps41]; rfl) ?_
  repeat' (first | ((with_reducible refine aD ?_); intro K hK hX) | ((with_reducible refine aE ?_); refine aA [0, 1, 2, 4, 5, 6, 7, 8] rfl rfl ?_; with_reducible refine aB ?_) | ((with_reducible refine aF ?_); (first | refine zA ?_ | refine zN ?_); (first | refine c0 (h1) ?_ | refine c0 (h2) ?_ | refine c0 (h3) ?_ | refine c0 (h4) ?_)) | ((first | with_reducible refine aF ?_ | with_reducible refine aR ?_); refine aY tabOk [0, 1, 2, 3, 4, 5, 6, 7, 8, 9, 10, 11, 12, 13, 14, 15, 16, 17, 18, 19, 20, 21, 22, 23, 24, 25, 26, 27, 28, 29, 30] aH rfl rfl zby Tryz.func98 rfl rfl rfl (szf := 9) (by rw [Tryz.ntmps98]; rfl) rfl ?_) | ((first | with_reducible refine aF ?_ | with_reducible refine aR ?_); refine aY tabOk [0, 1, 2, 3, 4, 5, 6, 7, 8, 9, 10, 11, 12, 13, 14, 15, 16, 17, 18, 19, 20, 21, 22, 23, 24, 25, 26, 27, 28, 29, 30] aH rfl rfl zby Tryz.func149 rfl rfl rfl (szf := 19) (by rw [Tryz.ntmps149]; rfl) rfl ?_) | ((first | with_reducible refine aF ?_ | with_reducible refine aR ?_); refine aY tabOk [0, 1, 2, 3, 4, 5, 6, 7, 8, 9, 10, 11, 12, 13, 14, 15, 16, 17, 18, 19, 20, 21, 22, 23, 24, 25, 26, 27, 28, 29, 30] aH rfl rfl zby Tryz.func99 rfl rfl rfl (szf := 6) (by rw [Tryz.ntmps99]; rfl) rfl ?_) | refine stA ?_ | ((first | refine hK _ _ _ _ ?_ | refine hX _ _ _ _ _ (by simp) ?_); clear hK hX K) | (first | refine bJ zio ztr rfl rfl (ResL.one (ResA.tmp rfl)) ?_ | refine bI zio ztr rfl rfl (ResL.one (ResA.tmp rfl)) ?_))
  refine bD [8, 5] [] rfl rfl (fun i : Nat => [(8, .c (iv i))]) (fun i => []) (fun i => i ≤ M) (fun i => M - i) 0 (Nat.zero_le _) weakA ?_
  intro i hi K hK hX
  by_cases hlt : i < M
  · obtain ⟨x, hx⟩ : ∃ x, S[i]? = some x := ⟨_, List.getElem?_eq_getElem (by omega)⟩
    have hat := fF hx
    have hxb := hbS x (List.mem_of_getElem? hx)
    have hxp := hnn x (List.mem_of_getElem? hx)
    clear hbS h1 h2 h3 h4 hx hover hnn
    obtain ⟨xw, xr, xn⟩ := x
    simp only [Po.c] at *
    repeat' (first | ((with_reducible refine aD ?_); intro K hK hX) | ((with_reducible refine aE ?_); refine aA [0, 1, 2, 4, 5, 6, 7, 8] rfl rfl ?_; with_reducible refine aB ?_) | ((first | with_reducible refine aF ?_ | with_reducible refine aR ?_); refine aY tabOk [0, 1, 2, 3, 4, 5, 6, 7, 8, 9, 10, 11, 12, 13, 14, 15, 16, 17, 18, 19, 20, 21, 22, 23, 24, 25, 26, 27, 28, 29, 30] aH rfl rfl zby Tryz.func98 rfl rfl rfl (szf := 9) (by rw [Tryz.ntmps98]; rfl) rfl ?_) | ((first | with_reducible refine aF ?_ | with_reducible refine aR ?_); refine aY tabOk [0, 1, 2, 3, 4, 5, 6, 7, 8, 9, 10, 11, 12, 13, 14, 15, 16, 17, 18, 19, 20, 21, 22, 23, 24, 25, 26, 27, 28, 29, 30] aH rfl rfl zby Tryz.func149 rfl rfl rfl (szf := 19) (by rw [Tryz.ntmps149]; rfl) rfl ?_) | ((first | with_reducible refine aF ?_ | with_reducible refine aR ?_); refine aY tabOk [0, 1, 2, 3, 4, 5, 6, 7, 8, 9, 10, 11, 12, 13, 14, 15, 16, 17, 18, 19, 20, 21, 22, 23, 24, 25, 26, 27, 28, 29, 30] aH rfl rfl zby Tryz.func99 rfl rfl rfl (szf := 6) (by rw [Tryz.ntmps99]; rfl) rfl ?_) | (((with_reducible refine aI ?_); refine xA ?_); (first | ((with_reducible refine aO ?_); (first | refine aC (aW tabOk rfl rfl rfl rfl (by first | exact hat | exact whole0 (by first | rfl | omega) | rfl) zln) ?_ | refine aC (aV tabOk rfl rfl rfl (by first | exact hat | exact whole0 (by first | rfl | omega) | rfl) zln) ?_)) | ((with_reducible refine bB ?_); (first | refine aC (s_slArri tabOk rfl rfl rfl rfl zbd zbd zle zle (by decide) (by first | exact hat | exact whole0 (by first | rfl | omega) | rfl) zln) ?_)))) | refine stA ?_ | ((first | refine hK _ _ _ _ ?_ | refine hX _ _ _ _ _ (by simp) ?_); clear hK hX K) | (first | refine bJ zio ztr rfl rfl (ResL.one (ResA.tmp rfl)) ?_ | refine bI zio ztr rfl rfl (ResL.one (ResA.tmp rfl)) ?_))
    exact ⟨i + 1, by omega, by omega, weakA⟩
  · have hie : i = M := by omega
    rw [hie]
    clear h1 h2 h3 h4 hi hlt hie
    repeat' (first | ((with_reducible refine aD ?_); intro K hK hX) | ((with_reducible refine aE ?_); refine aA [0, 1, 2, 4, 5, 6, 7, 8] rfl rfl ?_; with_reducible refine aB ?_) | ((first | with_reducible refine aF ?_ | with_reducible refine aR ?_); refine aY tabOk [0, 1, 2, 3, 4, 5, 6, 7, 8, 9, 10, 11, 12, 13, 14, 15, 16, 17, 18, 19, 20, 21, 22, 23, 24, 25, 26, 27, 28, 29, 30] aH rfl rfl zby Tryz.func98 rfl rfl rfl (szf := 9) (by rw [Tryz.ntmps98]; rfl) rfl ?_) | ((first | with_reducible refine aF ?_ | with_reducible refine aR ?_); refine aY tabOk [0, 1, 2, 3, 4, 5, 6, 7, 8, 9, 10, 11, 12, 13, 14, 15, 16, 17, 18, 19, 20, 21, 22, 23, 24, 25, 26, 27, 28, 29, 30] aH rfl rfl zby Tryz.func149 rfl rfl rfl (szf := 19) (by rw [Tryz.ntmps149]; rfl) rfl ?_) | ((first | with_reducible refine aF ?_ | with_reducible refine aR ?_); refine aY tabOk [0, 1, 2, 3, 4, 5, 6, 7, 8, 9, 10, 11, 12, 13, 14, 15, 16, 17, 18, 19, 20, 21, 22, 23, 24, 25, 26, 27, 28, 29, 30] aH rfl rfl zby Tryz.func99 rfl rfl rfl (szf := 6) (by rw [Tryz.ntmps99]; rfl) rfl ?_) | ((first | with_reducible refine aF ?_ | with_reducible refine aR ?_); refine aY tabOk [0, 1, 2, 3, 4, 5, 6, 7, 8, 9, 10, 11, 12, 13, 14, 15, 16, 17, 18, 19, 20, 21, 22, 23, 24, 25, 26, 27, 28, 29, 30] aH rfl rfl zby Tryz.func100 rfl rfl rfl (szf := 6) (by rw [Tryz.ntmps100]; rfl) rfl ?_) | refine stA ?_ | ((first | refine hK _ _ _ _ ?_ | refine hX _ _ _ _ _ (by simp) ?_); clear hK hX K) | (first | refine bJ zio ztr rfl rfl (ResL.one (ResA.tmp rfl)) ?_ | refine bI zio ztr rfl rfl (ResL.one (ResA.tmp rfl)) ?_))
    refine bD [8, 5] [] rfl rfl (fun i : Nat => [(8, .c (iv i))]) (fun i => []) (fun i => i ≤ M ∧ ∀ j, j < i → ∀ x, S[j]? = some x → x.n ≤ 262144) (fun i => M - i) 0 ⟨Nat.zero_le _, fun j hj => absurd hj (by omega)⟩ weakA ?_
    rintro k ⟨hk, hall⟩ K hK hX
    by_cases hlt : k < M
    · obtain ⟨x, hx⟩ : ∃ x, S[k]? = some x := ⟨_, List.getElem?_eq_getElem (by omega)⟩
      have hat := fF hx
      have hxb := hbS x (List.mem_of_getElem? hx)
      by_cases hxp : 262144 < x.n
      · clear hbS hall hx hnn hover
        obtain ⟨xw, xr, xn⟩ := x
        simp only [Po.c] at *
        repeat' (first | ((with_reducible refine aD ?_); intro K hK hX) | ((with_reducible refine aE ?_); refine aA [0, 1, 2, 4, 5, 6, 7, 8] rfl rfl ?_; with_reducible refine aB ?_) | ((first | with_reducible refine aF ?_ | with_reducible refine aR ?_); refine aY tabOk [0, 1, 2, 3, 4, 5, 6, 7, 8, 9, 10, 11, 12, 13, 14, 15, 16, 17, 18, 19, 20, 21, 22, 23, 24, 25, 26, 27, 28, 29, 30] aH rfl rfl zby Tryz.func98 rfl rfl rfl (szf := 9) (by rw [Tryz.ntmps98]; rfl) rfl ?_) | ((first | with_reducible refine aF ?_ | with_reducible refine aR ?_); refine aY tabOk [0, 1, 2, 3, 4, 5, 6, 7, 8, 9, 10, 11, 12, 13, 14, 15, 16, 17, 18, 19, 20, 21, 22, 23, 24, 25, 26, 27, 28, 29, 30] aH rfl rfl zby Tryz.func149 rfl rfl rfl (szf := 19) (by rw [Tryz.ntmps149]; rfl) rfl ?_) | ((first | with_reducible refine aF ?_ | with_reducible refine aR ?_); refine aY tabOk [0, 1, 2, 3, 4, 5, 6, 7, 8, 9, 10, 11, 12, 13, 14, 15, 16, 17, 18, 19, 20, 21, 22, 23, 24, 25, 26, 27, 28, 29, 30] aH rfl rfl zby Tryz.func100 rfl rfl rfl (szf := 6) (by rw [Tryz.ntmps100]; rfl) rfl ?_) | (((with_reducible refine aI ?_); refine xA ?_); (first | ((with_reducible refine aO ?_); (first | refine aC (aW tabOk rfl rfl rfl rfl (by first | exact hat | exact whole0 (by first | rfl | omega) | rfl) zln) ?_ | refine aC (aV tabOk rfl rfl rfl (by first | exact hat | exact whole0 (by first | rfl | omega) | rfl) zln) ?_)) | ((with_reducible refine bB ?_); (first | refine aC (s_slArri tabOk rfl rfl rfl rfl zbd zbd zle zle (by decide) (by first | exact hat | exact whole0 (by first | rfl | omega) | rfl) zln) ?_)))) | refine stA ?_ | ((first | refine hK _ _ _ _ ?_ | refine hX _ _ _ _ _ (by simp) ?_); clear hK hX K) | (first | refine bJ zio ztr rfl rfl (ResL.one (ResA.tmp rfl)) ?_ | refine bI zio ztr rfl rfl (ResL.one (ResA.tmp rfl)) ?_))
        refine aK zio (by exact ⟨kU, gP, trivial⟩) rfl (ResL.two (ResA.tmp rfl) (ResA.tmp rfl)) (eG (aZ zfz (aZ zfz cH)))
      · have hnx : ∀ j, j < k + 1 → ∀ x, S[j]? = some x → x.n ≤ 262144 := fun j hj y hy => by
          rcases (show j < k ∨ j = k by omega) with h | h
          · exact hall j h y hy
          · subst h
            rw [hx] at hy
            injection hy with hy
            subst hy
            omega
        clear hbS hall hx hnn hover
        obtain ⟨xw, xr, xn⟩ := x
        simp only [Po.c] at *
        repeat' (first | ((with_reducible refine aD ?_); intro K hK hX) | ((with_reducible refine aE ?_); refine aA [0, 1, 2, 4, 5, 6, 7, 8] rfl rfl ?_; with_reducible refine aB ?_) | ((first | with_reducible refine aF ?_ | with_reducible refine aR ?_); refine aY tabOk [0, 1, 2, 3, 4, 5, 6, 7, 8, 9, 10, 11, 12, 13, 14, 15, 16, 17, 18, 19, 20, 21, 22, 23, 24, 25, 26, 27, 28, 29, 30] aH rfl rfl zby Tryz.func98 rfl rfl rfl (szf := 9) (by rw [Tryz.ntmps98]; rfl) rfl ?_) | ((first | with_reducible refine aF ?_ | with_reducible refine aR ?_); refine aY tabOk [0, 1, 2, 3, 4, 5, 6, 7, 8, 9, 10, 11, 12, 13, 14, 15, 16, 17, 18, 19, 20, 21, 22, 23, 24, 25, 26, 27, 28, 29, 30] aH rfl rfl zby Tryz.func149 rfl rfl rfl (szf := 19) (by rw [Tryz.ntmps149]; rfl) rfl ?_) | ((first | with_reducible refine aF ?_ | with_reducible refine aR ?_); refine aY tabOk [0, 1, 2, 3, 4, 5, 6, 7, 8, 9, 10, 11, 12, 13, 14, 15, 16, 17, 18, 19, 20, 21, 22, 23, 24, 25, 26, 27, 28, 29, 30] aH rfl rfl zby Tryz.func100 rfl rfl rfl (szf := 6) (by rw [Tryz.ntmps100]; rfl) rfl ?_) | (((with_reducible refine aI ?_); refine xA ?_); (first | ((with_reducible refine aO ?_); (first | refine aC (aW tabOk rfl rfl rfl rfl (by first | exact hat | exact whole0 (by first | rfl | omega) | rfl) zln) ?_ | refine aC (aV tabOk rfl rfl rfl (by first | exact hat | exact whole0 (by first | rfl | omega) | rfl) zln) ?_)) | ((with_reducible refine bB ?_); (first | refine aC (s_slArri tabOk rfl rfl rfl rfl zbd zbd zle zle (by decide) (by first | exact hat | exact whole0 (by first | rfl | omega) | rfl) zln) ?_)))) | refine stA ?_ | ((first | refine hK _ _ _ _ ?_ | refine hX _ _ _ _ _ (by simp) ?_); clear hK hX K) | (first | refine bJ zio ztr rfl rfl (ResL.one (ResA.tmp rfl)) ?_ | refine bI zio ztr rfl rfl (ResL.one (ResA.tmp rfl)) ?_))
        exact ⟨k + 1, ⟨by omega, hnx⟩, by omega, weakA⟩
    · exfalso
      obtain ⟨x, hx, hlt2⟩ := hover
      have := iF (q := fun x => x.n ≤ 262144) hM (fun j hj => hall j (by omega)) x hx
      omega
end Go.Proofs.YtccnhpaldmjkbaaGreat
