/-
  Joined texts: JM. Lemmas; no statement of a law.
-/
import Derived.Test.YtccnhpaldmjkbaaGreatM34
import Derived.Test.YtccnhpaldmjkbaaGreatM35
import Derived.Test.YtccnhpaldmjkbaaGreatM36
set_option linter.unusedSimpArgs false
set_option linter.unusedVariables false
/-
  A change of an index, as the reference does it; both compared (walk).
-/
namespace Go.Proofs.YtccnhpaldmjkbaaGreat
open Go Go.RowKit Go.Av
set_option maxRecDepth 100000
attribute [local irreducible] Still Adds AWL AW Drw DrwE EStep AC AWR Weak Frz Src RetK Out InK ItK AsK RdK RetT OutT ACT
open Classical in
set_option maxHeartbeats 8000000 in
theorem rchange_bad (p : List Po) (d : List En) (n m : Nat) (col : Int) (hn : p.length = n) (hm : d.length = m) (hn2 : n ≤ maxLen) (hm2 : m ≤ maxLen) (hfp : ∀ x ∈ p, x.r.length ≤ maxLen ∧ x.w.length ≤ 1000000) (hfd : fitB d) (hv : ¬ (valP p ∧ bagP d) ∨ col < 0) :
    AC Tryz.prog 47 [.sl 3 n (pc p), .sl 2 m (ec d), iv col] (.tup [.c (.sl 3 0 []), .c (iv 1)]) [] 0 := by
  have h1 := mU p n hn hn2 hfp
  by_cases hp : valP p
  · rw [decide_eq_true hp] at h1
    have h2 := mS d m hm hm2 hfd
    by_cases hd : bagP d
    · rw [decide_eq_true hd] at h2
      have h0 : col < 0 := hv.elim (fun h => absurd ⟨hp, hd⟩ h) id
      clear hv hp hd
      refine aJ tabOk (sz := 52) Tryz.func47 rfl (by rw [Tryz.ntmps47]; rfl) ?_
      repeat' (first | ((with_reducible refine aD ?_); intro K hK hX) | ((with_reducible refine aE ?_); refine aA [0, 1, 2, 6, 7, 8, 9, 10] rfl rfl ?_; with_reducible refine aB ?_) | ((with_reducible refine aF ?_); (first | refine zA ?_ | refine zN ?_); (first | refine c0 (h1) ?_ | refine c0 (h2) ?_)) | refine stA ?_ | ((first | refine hK _ _ _ _ ?_ | refine hX _ _ _ _ _ (by simp) ?_); clear hK hX K))
      refine aK zio ztr rfl (ResL.two (ResA.tmp rfl) (ResA.tmp rfl)) (eG (aZ zfz (aZ zfz cH)))
    · rw [decide_eq_false hd] at h2
      clear hv hp hd
      refine aJ tabOk (sz := 52) Tryz.func47 rfl (by rw [Tryz.ntmps47]; rfl) ?_
      repeat' (first | ((with_reducible refine aD ?_); intro K hK hX) | ((with_reducible refine aE ?_); refine aA [0, 1, 2, 6, 7, 8, 9, 10] rfl rfl ?_; with_reducible refine aB ?_) | ((with_reducible refine aF ?_); (first | refine zA ?_ | refine zN ?_); (first | refine c0 (h1) ?_ | refine c0 (h2) ?_)) | refine stA ?_ | ((first | refine hK _ _ _ _ ?_ | refine hX _ _ _ _ _ (by simp) ?_); clear hK hX K))
      refine aK zio ztr rfl (ResL.two (ResA.tmp rfl) (ResA.tmp rfl)) (eG (aZ zfz (aZ zfz cH)))
  · rw [decide_eq_false hp] at h1
    clear hv hp
    refine aJ tabOk (sz := 52) Tryz.func47 rfl (by rw [Tryz.ntmps47]; rfl) ?_
    repeat' (first | ((with_reducible refine aD ?_); intro K hK hX) | ((with_reducible refine aE ?_); refine aA [0, 1, 2, 6, 7, 8, 9, 10] rfl rfl ?_; with_reducible refine aB ?_) | ((with_reducible refine aF ?_); (first | refine zA ?_ | refine zN ?_); (first | refine c0 (h1) ?_)) | refine stA ?_ | ((first | refine hK _ _ _ _ ?_ | refine hX _ _ _ _ _ (by simp) ?_); clear hK hX K))
    refine aK zio ztr rfl (ResL.two (ResA.tmp rfl) (ResA.tmp rfl)) (eG (aZ zfz (aZ zfz cH)))
set_option maxHeartbeats 8000000 in
theorem ichange_col (p : List Po) (d : List En) (n m : Nat) (col : Int) (hn : p.length = n) (hm : d.length = m) (hc : col < 0) :
    AC Tryz.prog 41 [.sl 3 n (pc p), .sl 2 m (ec d), iv col] (.tup [.c (.sl 3 0 []), .c (iv 1)]) [] 0 := by
  refine aJ tabOk (sz := 31) Tryz.func41 rfl (by rw [Tryz.ntmps41]; rfl) ?_
  repeat' (first | ((with_reducible refine aD ?_); intro K hK hX) | ((with_reducible refine aE ?_); refine aA [0, 1, 2, 6, 7, 8] rfl rfl ?_; with_reducible refine aB ?_) | refine stA ?_ | ((first | refine hK _ _ _ _ ?_ | refine hX _ _ _ _ _ (by simp) ?_); clear hK hX K))
  refine aK zio (by exact ⟨kU, gP, trivial⟩) rfl (ResL.two (ResA.tmp rfl) (ResA.tmp rfl)) (eG (aZ zfz (aZ zfz cH)))
open Classical in
set_option maxHeartbeats 8000000 in
theorem rchange_neg (p : List Po) (d : List En) (n m col : Nat) (hn : p.length = n) (hm : d.length = m) (hn2 : n ≤ 300000) (hv : valP p) (hd : bagP d) (hfd : fitB d) (hc : (col : Int) ≤ 9223372036854775807) (hneg : ∃ x ∈ mergeP p (postP (prs col d)), x.n < 0) :
    AC Tryz.prog 47 [.sl 3 n (pc p), .sl 2 m (ec d), iv col] (.tup [.c (.sl 3 0 []), .c (iv 11)]) [] 0 := by
  have hm2 : m ≤ 4096 := by rw [← hm]; exact hd.1
  have h1 := mU p n hn (by simp only [maxLen]; omega) (fun x hx => by obtain ⟨a, b, _⟩ := (dX hv).2 x hx; have := a.2.1; have := b.1; simp only [maxLen]; omega)
  rw [decide_eq_true hv] at h1
  have h2 := mS d m hm (by simp only [maxLen]; omega) hfd
  rw [decide_eq_true hd] at h2
  obtain ⟨M, hM⟩ : ∃ M, (mergeP p (postP (prs col d))).length = M := ⟨_, rfl⟩
  have h3 := mV p n hn (by omega) d m hm hm2 (eE hd) col hc M (by rw [fY hv hd]; exact hM) (add_all (by omega) hv hd)
  rw [fY hv hd] at h3
  have hMl := dH p (postP (prs col d))
  have hKl := cR (col := col) (b := d) (fun e he v hv => (eE hd e he).2 v hv)
  rw [← dD, hm] at hKl
  rw [hM, hn] at hMl
  generalize mergeP p (postP (prs col d)) = S at *
  generalize (postP (prs col d)).length = K1 at *
  generalize pc p = Q at *
  generalize ec d = E at *
  have hSl : (pc S).length = M * 3 := by rw [bF, hM]
  clear hv hd hfd hm hn
  refine aJ tabOk (sz := 52) Tryz.func47 rfl (by rw [Tryz.ntmps47]; rfl) ?_
  repeat' (first | ((with_reducible refine aD ?_); intro K hK hX) | ((with_reducible refine aE ?_); refine aA [0, 1, 2, 6, 7, 8, 9, 10] rfl rfl ?_; with_reducible refine aB ?_) | ((with_reducible refine aF ?_); (first | refine zA ?_ | refine zN ?_); (first | refine c0 (h1) ?_ | refine c0 (h2) ?_ | refine c0 (h3) ?_)) | refine stA ?_ | ((first | refine hK _ _ _ _ ?_ | refine hX _ _ _ _ _ (by simp) ?_); clear hK hX K))
  refine bD [9] [] rfl rfl (fun i : Nat => [(9, .c (iv i))]) (fun i => []) (fun i => i ≤ M ∧ ∀ j, j < i → ∀ x, S[j]? = some x → 0 ≤ x.n) (fun i => M - i) 0 ⟨Nat.zero_le _, fun j hj => absurd hj (by omega)⟩ weakA ?_
  rintro i ⟨hi, hall⟩ K hK hX
  by_cases hlt : i < M
  · obtain ⟨x, hx⟩ : ∃ x, S[i]? = some x := ⟨_, List.getElem?_eq_getElem (by omega)⟩
    have hat := pc_n hx
    by_cases hxp : x.n < 0
    · clear h1 h2 h3 hall hx hneg
      obtain ⟨xw, xr, xn⟩ := x
      simp only [Po.c] at *
      repeat' (first | ((with_reducible refine aD ?_); intro K hK hX) | ((with_reducible refine aE ?_); refine aA [0, 1, 2, 6, 7, 8, 9, 10] rfl rfl ?_; with_reducible refine aB ?_) | (((with_reducible refine aI ?_); refine xA ?_); (first | ((with_reducible refine aO ?_); (first | refine aC (aT tabOk rfl rfl rfl rfl (by exact hat)) ?_ | refine aC (aN tabOk rfl rfl rfl rfl (by exact hat)) ?_ | refine aC (aM tabOk rfl rfl rfl (by exact hat)) ?_)) | ((with_reducible refine bX ?_); (first | refine aC (s_ixV1 tabOk rfl rfl zcj rfl rfl rfl rfl rfl zle (by exact hat)) ?_ | refine aC (aS tabOk rfl rfl zcj rfl rfl (by exact hat)) ?_)))) | refine stA ?_ | ((first | refine hK _ _ _ _ ?_ | refine hX _ _ _ _ _ (by simp) ?_); clear hK hX K))
      refine aK zio ztr rfl (ResL.two (ResA.tmp rfl) (ResA.tmp rfl)) (eG (aZ zfz (aZ zfz cH)))
    · have hnx : ∀ j, j < i + 1 → ∀ x, S[j]? = some x → 0 ≤ x.n := fun j hj y hy => by
        rcases (show j < i ∨ j = i by omega) with h | h
        · exact hall j h y hy
        · subst h
          rw [hx] at hy
          injection hy with hy
          subst hy
          omega
      clear h1 h2 h3 hall hx hneg
      obtain ⟨xw, xr, xn⟩ := x
      simp only [Po.c] at *
      repeat' (first | ((with_reducible refine aD ?_); intro K hK hX) | ((with_reducible refine aE ?_); refine aA [0, 1, 2, 6, 7, 8, 9, 10] rfl rfl ?_; with_reducible refine aB ?_) | (((with_reducible refine aI ?_); refine xA ?_); (first | ((with_reducible refine aO ?_); (first | refine aC (aT tabOk rfl rfl rfl rfl (by exact hat)) ?_ | refine aC (aN tabOk rfl rfl rfl rfl (by exact hat)) ?_ | refine aC (aM tabOk rfl rfl rfl (by exact hat)) ?_)) | ((with_reducible refine bX ?_); (first | refine aC (s_ixV1 tabOk rfl rfl zcj rfl rfl rfl rfl rfl zle (by exact hat)) ?_ | refine aC (aS tabOk rfl rfl zcj rfl rfl (by exact hat)) ?_)))) | refine stA ?_ | ((first | refine hK _ _ _ _ ?_ | refine hX _ _ _ _ _ (by simp) ?_); clear hK hX K))
      exact ⟨i + 1, ⟨by omega, hnx⟩, by omega, weakA⟩
  · exfalso
    obtain ⟨x, hx, hlt2⟩ := hneg
    have := iF (q := fun x => 0 ≤ x.n) hM (fun j hj => hall j (by omega)) x hx
    omega
open Classical in
set_option maxHeartbeats 8000000 in
theorem rchange_over (p : List Po) (d : List En) (n m col : Nat) (hn : p.length = n) (hm : d.length = m) (hn2 : n ≤ 300000) (hv : valP p) (hd : bagP d) (hfd : fitB d) (hc : (col : Int) ≤ 9223372036854775807) (hnn : ∀ x ∈ mergeP p (postP (prs col d)), 0 ≤ x.n) (hover : ∃ x ∈ mergeP p (postP (prs col d)), 262144 < x.n) :
    AC Tryz.prog 47 [.sl 3 n (pc p), .sl 2 m (ec d), iv col] (.tup [.c (.sl 3 0 []), .c (iv 9)]) [] 0 := by
  have hm2 : m ≤ 4096 := by rw [← hm]; exact hd.1
  have h1 := mU p n hn (by simp only [maxLen]; omega) (fun x hx => by obtain ⟨a, b, _⟩ := (dX hv).2 x hx; have := a.2.1; have := b.1; simp only [maxLen]; omega)
  rw [decide_eq_true hv] at h1
  have h2 := mS d m hm (by simp only [maxLen]; omega) hfd
  rw [decide_eq_true hd] at h2
  obtain ⟨M, hM⟩ : ∃ M, (mergeP p (postP (prs col d))).length = M := ⟨_, rfl⟩
  have h3 := mV p n hn (by omega) d m hm hm2 (eE hd) col hc M (by rw [fY hv hd]; exact hM) (add_all (by omega) hv hd)
  rw [fY hv hd] at h3
  have hMl := dH p (postP (prs col d))
  have hKl := cR (col := col) (b := d) (fun e he v hv => (eE hd e he).2 v hv)
  rw [← dD, hm] at hKl
  rw [hM, hn] at hMl
  generalize mergeP p (postP (prs col d)) = S at *
  generalize (postP (prs col d)).length = K1 at *
  generalize pc p = Q at *
  generalize ec d = E at *
  have hSl : (pc S).length = M * 3 := by rw [bF, hM]
  clear hv hd hfd hm hn
  refine aJ tabOk (sz := 52) Tryz.func47 rfl (by rw [Tryz.ntmps47]; rfl) ?_
  repeat' (first | ((with_reducible refine aD ?_); intro K hK hX) | ((with_reducible refine aE ?_); refine aA [0, 1, 2, 6, 7, 8, 9, 10] rfl rfl ?_; with_reducible refine aB ?_) | ((with_reducible refine aF ?_); (first | refine zA ?_ | refine zN ?_); (first | refine c0 (h1) ?_ | refine c0 (h2) ?_ | refine c0 (h3) ?_)) | refine stA ?_ | ((first | refine hK _ _ _ _ ?_ | refine hX _ _ _ _ _ (by simp) ?_); clear hK hX K))
  refine bD [9] [] rfl rfl (fun i : Nat => [(9, .c (iv i))]) (fun i => []) (fun i => i ≤ M) (fun i => M - i) 0 (Nat.zero_le _) weakA ?_
  intro i hi K hK hX
  by_cases hlt : i < M
  · obtain ⟨x, hx⟩ : ∃ x, S[i]? = some x := ⟨_, List.getElem?_eq_getElem (by omega)⟩
    have hat := pc_n hx
    have hxp := hnn x (List.mem_of_getElem? hx)
    clear h1 h2 h3 hx hover hnn
    obtain ⟨xw, xr, xn⟩ := x
    simp only [Po.c] at *
    repeat' (first | ((with_reducible refine aD ?_); intro K hK hX) | ((with_reducible refine aE ?_); refine aA [0, 1, 2, 6, 7, 8, 9, 10] rfl rfl ?_; with_reducible refine aB ?_) | (((with_reducible refine aI ?_); refine xA ?_); (first | ((with_reducible refine aO ?_); (first | refine aC (aT tabOk rfl rfl rfl rfl (by exact hat)) ?_ | refine aC (aN tabOk rfl rfl rfl rfl (by exact hat)) ?_ | refine aC (aM tabOk rfl rfl rfl (by exact hat)) ?_)) | ((with_reducible refine bX ?_); (first | refine aC (s_ixV1 tabOk rfl rfl zcj rfl rfl rfl rfl rfl zle (by exact hat)) ?_ | refine aC (aS tabOk rfl rfl zcj rfl rfl (by exact hat)) ?_)))) | refine stA ?_ | ((first | refine hK _ _ _ _ ?_ | refine hX _ _ _ _ _ (by simp) ?_); clear hK hX K))
    exact ⟨i + 1, by omega, by omega, weakA⟩
  · have hie : i = M := by omega
    rw [hie]
    clear h1 h2 h3 hi hlt hie
    repeat' (first | ((with_reducible refine aD ?_); intro K hK hX) | ((with_reducible refine aE ?_); refine aA [0, 1, 2, 6, 7, 8, 9, 10] rfl rfl ?_; with_reducible refine aB ?_) | refine stA ?_ | ((first | refine hK _ _ _ _ ?_ | refine hX _ _ _ _ _ (by simp) ?_); clear hK hX K))
    refine bD [10] [] rfl rfl (fun i : Nat => [(10, .c (iv i))]) (fun i => []) (fun i => i ≤ M ∧ ∀ j, j < i → ∀ x, S[j]? = some x → x.n ≤ 262144) (fun i => M - i) 0 ⟨Nat.zero_le _, fun j hj => absurd hj (by omega)⟩ weakA ?_
    rintro k ⟨hk, hall⟩ K hK hX
    by_cases hlt : k < M
    · obtain ⟨x, hx⟩ : ∃ x, S[k]? = some x := ⟨_, List.getElem?_eq_getElem (by omega)⟩
      have hat := pc_n hx
      by_cases hxp : 262144 < x.n
      · clear hall hx hnn hover
        obtain ⟨xw, xr, xn⟩ := x
        simp only [Po.c] at *
        repeat' (first | ((with_reducible refine aD ?_); intro K hK hX) | ((with_reducible refine aE ?_); refine aA [0, 1, 2, 6, 7, 8, 9, 10] rfl rfl ?_; with_reducible refine aB ?_) | (((with_reducible refine aI ?_); refine xA ?_); (first | ((with_reducible refine aO ?_); (first | refine aC (aT tabOk rfl rfl rfl rfl (by exact hat)) ?_ | refine aC (aN tabOk rfl rfl rfl rfl (by exact hat)) ?_ | refine aC (aM tabOk rfl rfl rfl (by exact hat)) ?_)) | ((with_reducible refine bX ?_); (first | refine aC (s_ixV1 tabOk rfl rfl zcj rfl rfl rfl rfl rfl zle (by exact hat)) ?_ | refine aC (aS tabOk rfl rfl zcj rfl rfl (by exact hat)) ?_)))) | refine stA ?_ | ((first | refine hK _ _ _ _ ?_ | refine hX _ _ _ _ _ (by simp) ?_); clear hK hX K))
        refine aK zio ztr rfl (ResL.two (ResA.tmp rfl) (ResA.tmp rfl)) (eG (aZ zfz (aZ zfz cH)))
      · have hnx : ∀ j, j < k + 1 → ∀ x, S[j]? = some x → x.n ≤ 262144 := fun j hj y hy => by
          rcases (show j < k ∨ j = k by omega) with h | h
          · exact hall j h y hy
          · subst h
            rw [hx] at hy
            injection hy with hy
            subst hy
            omega
        clear hall hx hnn hover
        obtain ⟨xw, xr, xn⟩ := x
        simp only [Po.c] at *
        repeat' (first | ((with_reducible refine aD ?_); intro K hK hX) | ((with_reducible refine aE ?_); refine aA [0, 1, 2, 6, 7, 8, 9, 10] rfl rfl ?_; with_reducible refine aB ?_) | (((with_reducible refine aI ?_); refine xA ?_); (first | ((with_reducible refine aO ?_); (first | refine aC (aT tabOk rfl rfl rfl rfl (by exact hat)) ?_ | refine aC (aN tabOk rfl rfl rfl rfl (by exact hat)) ?_ | refine aC (aM tabOk rfl rfl rfl (by exact hat)) ?_)) | ((with_reducible refine bX ?_); (first | refine aC (s_ixV1 tabOk rfl rfl zcj rfl rfl rfl rfl rfl zle (by exact hat)) ?_ | refine aC (aS tabOk rfl rfl zcj rfl rfl (by exact hat)) ?_)))) | refine stA ?_ | ((first | refine hK _ _ _ _ ?_ | refine hX _ _ _ _ _ (by simp) ?_); clear hK hX K))
        exact ⟨k + 1, ⟨by omega, hnx⟩, by omega, weakA⟩
    · exfalso
      obtain ⟨x, hx, hlt2⟩ := hover
      have := iF (q := fun x => x.n ≤ 262144) hM (fun j hj => hall j (by omega)) x hx
      omega
open Classical in
set_option maxHeartbeats 8000000 in
theorem rchange_good (p : List Po) (d : List En) (n m col M : Nat) (hn : p.length = n) (hm : d.length = m) (hn2 : n ≤ 300000) (hv : valP p) (hd : bagP d) (hfd : fitB d) (hc : (col : Int) ≤ 9223372036854775807) (hM : (mergeP p (postP (prs col d))).length = M) (hpos : ∀ x ∈ mergeP p (postP (prs col d)), 0 ≤ x.n ∧ x.n ≤ 262144) :
    AC Tryz.prog 47 [.sl 3 n (pc p), .sl 2 m (ec d), iv col] (.tup [.c (.sl 3 M (pc (mergeP p (postP (prs col d))))), .c (iv 0)]) [] 0 := by
  have hm2 : m ≤ 4096 := by rw [← hm]; exact hd.1
  have h1 := mU p n hn (by simp only [maxLen]; omega) (fun x hx => by obtain ⟨a, b, _⟩ := (dX hv).2 x hx; have := a.2.1; have := b.1; simp only [maxLen]; omega)
  rw [decide_eq_true hv] at h1
  have h2 := mS d m hm (by simp only [maxLen]; omega) hfd
  rw [decide_eq_true hd] at h2
  have h3 := mV p n hn (by omega) d m hm hm2 (eE hd) col hc M (by rw [fY hv hd]; exact hM) (add_all (by omega) hv hd)
  rw [fY hv hd] at h3
  have hMl := dH p (postP (prs col d))
  have hKl := cR (col := col) (b := d) (fun e he v hv => (eE hd e he).2 v hv)
  rw [← dD, hm] at hKl
  rw [hM, hn] at hMl
  generalize mergeP p (postP (prs col d)) = S at *
  generalize (postP (prs col d)).length = K1 at *
  generalize pc p = Q at *
  generalize ec d = E at *
  have hSl : (pc S).length = M * 3 := by rw [bF, hM]
  clear hv hd hfd hm hn
  refine aJ tabOk (sz := 52) Tryz.func47 rfl (by rw [Tryz.ntmps47]; rfl) ?_
  repeat' (first | ((with_reducible refine aD ?_); intro K hK hX) | ((with_reducible refine aE ?_); refine aA [0, 1, 2, 6, 7, 8, 9, 10] rfl rfl ?_; with_reducible refine aB ?_) | ((with_reducible refine aF ?_); (first | refine zA ?_ | refine zN ?_); (first | refine c0 (h1) ?_ | refine c0 (h2) ?_ | refine c0 (h3) ?_)) | refine stA ?_ | ((first | refine hK _ _ _ _ ?_ | refine hX _ _ _ _ _ (by simp) ?_); clear hK hX K))
  refine bD [9] [] rfl rfl (fun i : Nat => [(9, .c (iv i))]) (fun i => []) (fun i => i ≤ M) (fun i => M - i) 0 (Nat.zero_le _) weakA ?_
  intro i hi K hK hX
  by_cases hlt : i < M
  · obtain ⟨x, hx⟩ : ∃ x, S[i]? = some x := ⟨_, List.getElem?_eq_getElem (by omega)⟩
    have hat := pc_n hx
    have hxp := hpos x (List.mem_of_getElem? hx)
    clear h1 h2 h3 hx hpos
    obtain ⟨xw, xr, xn⟩ := x
    simp only [Po.c] at *
    repeat' (first | ((with_reducible refine aD ?_); intro K hK hX) | ((with_reducible refine aE ?_); refine aA [0, 1, 2, 6, 7, 8, 9, 10] rfl rfl ?_; with_reducible refine aB ?_) | (((with_reducible refine aI ?_); refine xA ?_); (first | ((with_reducible refine aO ?_); (first | refine aC (aT tabOk rfl rfl rfl rfl (by exact hat)) ?_ | refine aC (aN tabOk rfl rfl rfl rfl (by exact hat)) ?_ | refine aC (aM tabOk rfl rfl rfl (by exact hat)) ?_)) | ((with_reducible refine bX ?_); (first | refine aC (s_ixV1 tabOk rfl rfl zcj rfl rfl rfl rfl rfl zle (by exact hat)) ?_ | refine aC (aS tabOk rfl rfl zcj rfl rfl (by exact hat)) ?_)))) | refine stA ?_ | ((first | refine hK _ _ _ _ ?_ | refine hX _ _ _ _ _ (by simp) ?_); clear hK hX K))
    exact ⟨i + 1, by omega, by omega, weakA⟩
  · have hie : i = M := by omega
    rw [hie]
    clear h1 h2 h3 hi hlt hie
    repeat' (first | ((with_reducible refine aD ?_); intro K hK hX) | ((with_reducible refine aE ?_); refine aA [0, 1, 2, 6, 7, 8, 9, 10] rfl rfl ?_; with_reducible refine aB ?_) | refine stA ?_ | ((first | refine hK _ _ _ _ ?_ | refine hX _ _ _ _ _ (by simp) ?_); clear hK hX K))
    refine bD [10] [] rfl rfl (fun i : Nat => [(10, .c (iv i))]) (fun i => []) (fun i => i ≤ M) (fun i => M - i) 0 (Nat.zero_le _) weakA ?_
    intro k hk K hK hX
    by_cases hlt : k < M
    · obtain ⟨x, hx⟩ : ∃ x, S[k]? = some x := ⟨_, List.getElem?_eq_getElem (by omega)⟩
      have hat := pc_n hx
      have hxp := hpos x (List.mem_of_getElem? hx)
      clear hx hpos
      obtain ⟨xw, xr, xn⟩ := x
      simp only [Po.c] at *
      repeat' (first | ((with_reducible refine aD ?_); intro K hK hX) | ((with_reducible refine aE ?_); refine aA [0, 1, 2, 6, 7, 8, 9, 10] rfl rfl ?_; with_reducible refine aB ?_) | (((with_reducible refine aI ?_); refine xA ?_); (first | ((with_reducible refine aO ?_); (first | refine aC (aT tabOk rfl rfl rfl rfl (by exact hat)) ?_ | refine aC (aN tabOk rfl rfl rfl rfl (by exact hat)) ?_ | refine aC (aM tabOk rfl rfl rfl (by exact hat)) ?_)) | ((with_reducible refine bX ?_); (first | refine aC (s_ixV1 tabOk rfl rfl zcj rfl rfl rfl rfl rfl zle (by exact hat)) ?_ | refine aC (aS tabOk rfl rfl zcj rfl rfl (by exact hat)) ?_)))) | refine stA ?_ | ((first | refine hK _ _ _ _ ?_ | refine hX _ _ _ _ _ (by simp) ?_); clear hK hX K))
      exact ⟨k + 1, by omega, by omega, weakA⟩
    · have hke : k = M := by omega
      rw [hke]
      clear hpos hk hlt hke
      repeat' (first | ((with_reducible refine aD ?_); intro K hK hX) | ((with_reducible refine aE ?_); refine aA [0, 1, 2, 6, 7, 8, 9, 10] rfl rfl ?_; with_reducible refine aB ?_) | refine stA ?_ | ((first | refine hK _ _ _ _ ?_ | refine hX _ _ _ _ _ (by simp) ?_); clear hK hX K))
      refine aK zio ztr rfl (ResL.two (ResA.tmp rfl) (ResA.tmp rfl)) (eG (aZ zfz (aZ zfz cH)))
end Go.Proofs.YtccnhpaldmjkbaaGreat
