/-
  Joined texts: JB. Lemmas; no statement of a law.
-/
import Derived.Test.YtccnhpaldmjkbaaGreatQ29
set_option maxHeartbeats 16000000
set_option linter.unusedSimpArgs false
set_option linter.unusedVariables false
namespace Go.Proofs.YtccnhpaldmjkbaaGreat
open Go Go.RowKit Go.Av
set_option maxRecDepth 100000
theorem lowL_up {b : UInt8} (h : lowL b = true) : upB b = false := by
  unfold lowL at h
  unfold upB
  have := of_decide_eq_true h
  exact decide_eq_false (by omega)
theorem runW_all (w : Wd) : (∀ b ∈ w, lowL b = true) → runW w = ([], w) := by
  refine snocI (p := fun w => (∀ b ∈ w, lowL b = true) → runW w = ([], w)) (fun _ => rfl) (fun l b ih h => ?_) w
  have hb := h b (by simp)
  have e : runW (l ++ [b]) = stW (runW l) b := by unfold runW; rw [List.foldl_append]; rfl
  rw [e, ih fun c hc => h c (by simp [hc]), oV (lowL_up hb) hb]
theorem words_one {w : Wd} (h : wordQ w) : wordsP w = [w] := by
  obtain ⟨h0, h1, h2⟩ := h
  have e : rawW w = [w] := by unfold rawW; rw [runW_all w h2]; simp [nB h0]
  unfold wordsP
  rw [e]
  exact qS (by unfold ascW; simp)
theorem words_iff (w : Wd) : wordQ w ↔ w.length ≤ 32 ∧ wordsP w = [w] := by
  refine ⟨fun h => ⟨h.2.1, words_one h⟩, fun ⟨h1, h2⟩ => ?_⟩
  have hm : w ∈ wordsP w := by rw [h2]; simp
  exact ⟨((eK w).2 w hm).2, h1, rA w hm⟩
attribute [local irreducible] Still Adds AWL AW Drw DrwE EStep AC AWR Weak Frz Src RetK Out InK ItK AsK RdK
theorem risw_ok (w : Wd) (hm : w.length ≤ 1000000) : AC Tryz.prog 80 [sv w] (.c (bv (decide (wordQ w)))) [] 0 := by
  have hw := sL w hm
  have hsz := kF w
  have hq := words_iff w
  have hwl := (eK w).1
  obtain ⟨n, hn⟩ : ∃ n, w.length = n := ⟨_, rfl⟩
  rw [hn] at hsz hwl hm hq
  obtain ⟨L, hL⟩ : ∃ L, wordsP w = L := ⟨_, rfl⟩
  rw [hL] at hw hq hwl
  obtain ⟨m, hmL⟩ : ∃ m, L.length = m := ⟨_, rfl⟩
  have hsl : (strc L).length = m := by rw [bU, hmL]
  rw [hmL] at hw hwl
  by_cases h2 : m = 1
  · obtain ⟨v, hv⟩ := List.length_eq_one_iff.1 (hmL.trans h2)
    have hat := eF (l := L) (i := 0) (x := v) (by rw [hv]; rfl)
    by_cases h3 : v = w
    · have he := decide_eq_true h3
      by_cases h1 : n ≤ 32
      · have hb := bvT (q := wordQ w) (hq.2 ⟨h1, by rw [hv, h3]⟩)
        clear hq hL hv h3
        refine aJ tabOk (sz := 21) Tryz.func80 rfl (by rw [Tryz.ntmps80]; rfl) ?_
        repeat' (first | ((with_reducible refine aB ?_); intro K hK hX) | ((with_reducible refine aC ?_); refine aD [0, 2, 3] rfl rfl ?_) | ((with_reducible refine aE ?_); (first | refine zA ?_ | refine zN ?_); (first | refine c0 hw ?_)) | (((with_reducible refine aH ?_); refine xA ?_); (first | ((with_reducible refine aU ?_); (first | refine aA (cC rfl rfl he) ?_)) | ((with_reducible refine aP ?_); (first | refine aA (aR tabOk rfl rfl rfl rfl (by (rw [Nat.mul_one]; exact hat))) ?_ | refine aA (aN tabOk rfl rfl rfl rfl (by (rw [Nat.mul_one]; exact hat))) ?_ | refine aA (aM tabOk rfl rfl rfl (by (rw [Nat.mul_one]; exact hat))) ?_)) | ((with_reducible refine bR ?_); (first | refine aA (s_ixV1 tabOk rfl rfl zcj rfl rfl rfl rfl rfl zle (by (rw [Nat.mul_one]; exact hat))) ?_ | refine aA (aQ tabOk rfl rfl zcj rfl rfl (by (rw [Nat.mul_one]; exact hat))) ?_)))) | refine stA ?_ | ((first | refine hK _ _ _ _ ?_ | refine hX _ _ _ _ _ (by simp) ?_); clear hK hX K))
        refine aK zio ztr rfl (ResL.one (ResA.tmp rfl)) (cE (bO (bY bL) (cV hb)))
      · have hb := bvF (q := wordQ w) fun h => h1 (hq.1 h).1
        clear hq hL hv h3
        refine aJ tabOk (sz := 21) Tryz.func80 rfl (by rw [Tryz.ntmps80]; rfl) ?_
        repeat' (first | ((with_reducible refine aB ?_); intro K hK hX) | ((with_reducible refine aC ?_); refine aD [0, 2, 3] rfl rfl ?_) | ((with_reducible refine aE ?_); (first | refine zA ?_ | refine zN ?_); (first | refine c0 hw ?_)) | (((with_reducible refine aH ?_); refine xA ?_); (first | ((with_reducible refine aU ?_); (first | refine aA (cC rfl rfl he) ?_)) | ((with_reducible refine aP ?_); (first | refine aA (aR tabOk rfl rfl rfl rfl (by (rw [Nat.mul_one]; exact hat))) ?_ | refine aA (aN tabOk rfl rfl rfl rfl (by (rw [Nat.mul_one]; exact hat))) ?_ | refine aA (aM tabOk rfl rfl rfl (by (rw [Nat.mul_one]; exact hat))) ?_)) | ((with_reducible refine bR ?_); (first | refine aA (s_ixV1 tabOk rfl rfl zcj rfl rfl rfl rfl rfl zle (by (rw [Nat.mul_one]; exact hat))) ?_ | refine aA (aQ tabOk rfl rfl zcj rfl rfl (by (rw [Nat.mul_one]; exact hat))) ?_)))) | refine stA ?_ | ((first | refine hK _ _ _ _ ?_ | refine hX _ _ _ _ _ (by simp) ?_); clear hK hX K))
        refine aK zio ztr rfl (ResL.one (ResA.tmp rfl)) (cE (bO (bY bL) (cV hb)))
    · have he := decide_eq_false h3
      have hb := bvF (q := wordQ w) fun h => h3 (by have := (hq.1 h).2; rw [hv] at this; injection this)
      by_cases h1 : n ≤ 32
      · clear hq hL hv h3
        refine aJ tabOk (sz := 21) Tryz.func80 rfl (by rw [Tryz.ntmps80]; rfl) ?_
        repeat' (first | ((with_reducible refine aB ?_); intro K hK hX) | ((with_reducible refine aC ?_); refine aD [0, 2, 3] rfl rfl ?_) | ((with_reducible refine aE ?_); (first | refine zA ?_ | refine zN ?_); (first | refine c0 hw ?_)) | (((with_reducible refine aH ?_); refine xA ?_); (first | ((with_reducible refine aU ?_); (first | refine aA (cC rfl rfl he) ?_)) | ((with_reducible refine aP ?_); (first | refine aA (aR tabOk rfl rfl rfl rfl (by (rw [Nat.mul_one]; exact hat))) ?_ | refine aA (aN tabOk rfl rfl rfl rfl (by (rw [Nat.mul_one]; exact hat))) ?_ | refine aA (aM tabOk rfl rfl rfl (by (rw [Nat.mul_one]; exact hat))) ?_)) | ((with_reducible refine bR ?_); (first | refine aA (s_ixV1 tabOk rfl rfl zcj rfl rfl rfl rfl rfl zle (by (rw [Nat.mul_one]; exact hat))) ?_ | refine aA (aQ tabOk rfl rfl zcj rfl rfl (by (rw [Nat.mul_one]; exact hat))) ?_)))) | refine stA ?_ | ((first | refine hK _ _ _ _ ?_ | refine hX _ _ _ _ _ (by simp) ?_); clear hK hX K))
        refine aK zio ztr rfl (ResL.one (ResA.tmp rfl)) (cE (bO (bY bL) (cV hb)))
      · clear hq hL hv h3
        refine aJ tabOk (sz := 21) Tryz.func80 rfl (by rw [Tryz.ntmps80]; rfl) ?_
        repeat' (first | ((with_reducible refine aB ?_); intro K hK hX) | ((with_reducible refine aC ?_); refine aD [0, 2, 3] rfl rfl ?_) | ((with_reducible refine aE ?_); (first | refine zA ?_ | refine zN ?_); (first | refine c0 hw ?_)) | (((with_reducible refine aH ?_); refine xA ?_); (first | ((with_reducible refine aU ?_); (first | refine aA (cC rfl rfl he) ?_)) | ((with_reducible refine aP ?_); (first | refine aA (aR tabOk rfl rfl rfl rfl (by (rw [Nat.mul_one]; exact hat))) ?_ | refine aA (aN tabOk rfl rfl rfl rfl (by (rw [Nat.mul_one]; exact hat))) ?_ | refine aA (aM tabOk rfl rfl rfl (by (rw [Nat.mul_one]; exact hat))) ?_)) | ((with_reducible refine bR ?_); (first | refine aA (s_ixV1 tabOk rfl rfl zcj rfl rfl rfl rfl rfl zle (by (rw [Nat.mul_one]; exact hat))) ?_ | refine aA (aQ tabOk rfl rfl zcj rfl rfl (by (rw [Nat.mul_one]; exact hat))) ?_)))) | refine stA ?_ | ((first | refine hK _ _ _ _ ?_ | refine hX _ _ _ _ _ (by simp) ?_); clear hK hX K))
        refine aK zio ztr rfl (ResL.one (ResA.tmp rfl)) (cE (bO (bY bL) (cV hb)))
  · have hb := bvF (q := wordQ w) fun h => h2 (by have := (hq.1 h).2; rw [← hmL, this]; rfl)
    by_cases h1 : n ≤ 32
    · clear hq hL
      refine aJ tabOk (sz := 21) Tryz.func80 rfl (by rw [Tryz.ntmps80]; rfl) ?_
      repeat' (first | ((with_reducible refine aB ?_); intro K hK hX) | ((with_reducible refine aC ?_); refine aD [0, 2, 3] rfl rfl ?_) | ((with_reducible refine aE ?_); (first | refine zA ?_ | refine zN ?_); (first | refine c0 hw ?_)) | refine stA ?_ | ((first | refine hK _ _ _ _ ?_ | refine hX _ _ _ _ _ (by simp) ?_); clear hK hX K))
      refine aK zio ztr rfl (ResL.one (ResA.tmp rfl)) (cE (bO (bY bL) (cV hb)))
    · clear hq hL
      refine aJ tabOk (sz := 21) Tryz.func80 rfl (by rw [Tryz.ntmps80]; rfl) ?_
      repeat' (first | ((with_reducible refine aB ?_); intro K hK hX) | ((with_reducible refine aC ?_); refine aD [0, 2, 3] rfl rfl ?_) | ((with_reducible refine aE ?_); (first | refine zA ?_ | refine zN ?_); (first | refine c0 hw ?_)) | refine stA ?_ | ((first | refine hK _ _ _ _ ?_ | refine hX _ _ _ _ _ (by simp) ?_); clear hK hX K))
      refine aK zio ztr rfl (ResL.one (ResA.tmp rfl)) (cE (bO (bY bL) (cV hb)))
open Classical in
theorem kA (p : List Po) (n : Nat) (hn : p.length = n) (hm : n ≤ maxLen) (hf : ∀ x ∈ p, x.r.length ≤ maxLen ∧ x.w.length ≤ 1000000) : AC Tryz.prog 33 [.sl 3 n (pc p)] (.c (bv (decide (valP p)))) [] 0 := by
  have hcl : (pc p).length = n * 3 := by rw [bQ, hn]
  have hm2 : n ≤ 9223372036854775807 := hm
  refine aJ tabOk (sz := 59) Tryz.func33 rfl (by rw [Tryz.ntmps33]; rfl) ?_
  repeat' (first | ((with_reducible refine aB ?_); intro K hK hX) | ((with_reducible refine aC ?_); refine aD [0, 2, 3] rfl rfl ?_) | ((with_reducible refine aF ?_); refine aG [0, 2, 3] rfl rfl ?_; refine aI [] ?_) | refine stA ?_ | refine stD ?_ | ((first | refine hK _ _ _ _ ?_ | refine hX _ _ _ _ _ (by simp) ?_); clear hK hX K))
  refine bC [3] [] rfl rfl (fun i : Nat => [(3, .c (iv i))]) (fun i => []) (fun i => i ≤ n ∧ ∀ j, j < i → goodP p j) (fun i => n - i) 0 ⟨Nat.zero_le _, fun j hj => absurd hj (by omega)⟩ weakA ?_
  rintro i ⟨hi, hall⟩ K hK hX
  by_cases hlt : i < n
  · obtain ⟨x, hx⟩ : ∃ x, p[i]? = some x := ⟨_, List.getElem?_eq_getElem (by omega)⟩
    have hat := iM hx
    have haw := pc_w hx
    have har := pc_r hx
    have han := pc_n hx
    obtain ⟨hfr, hfw⟩ := hf x (List.mem_of_getElem? hx)
    have hw1 := risw_ok x.w hfw
    have hr1 := kB x.r x.r.length rfl hfr
    have hbd : ¬ goodP p i → ¬ valP p := fun h hv => h (hv i (by omega))
    have hat1 := True.intro
    have hcm := True.intro
    have hsub := True.intro
    by_cases g1 : wordQ x.w
    · rw [decide_eq_true g1] at hw1
      by_cases g2 : rowP x.r
      · rw [decide_eq_true g2] at hr1
        by_cases g3 : x.n < 1
        · have hbad := bvF (hbd fun h => by have := (h x hx).2.2.1; omega)
          clear hall hbd hf hx g1 g2 hfr hfw
          obtain ⟨w, r, c⟩ := x
          simp only [Po.c] at *
          repeat' (first | ((with_reducible refine aB ?_); intro K hK hX) | ((with_reducible refine aC ?_); refine aD [0, 2, 3] rfl rfl ?_) | ((with_reducible refine aF ?_); refine aG [0, 2, 3] rfl rfl ?_; refine aI [] ?_) | ((first | with_reducible refine aE ?_ | with_reducible refine aT ?_); (first | refine zA ?_ | refine zN ?_ | refine zD ?_); (first | refine c0 hw1 ?_ | refine c0 hr1 ?_ | refine c0 hcm ?_)) | ((first | ((with_reducible refine aH ?_); refine xA ?_) | ((with_reducible refine aO ?_); refine xD ?_)); (first | ((with_reducible refine aU ?_); (first | refine aA (bT rfl rfl rfl hsub) ?_)) | ((with_reducible refine aP ?_); (first | refine aA (aR tabOk rfl rfl rfl rfl (by first | exact haw | exact har | exact han)) ?_ | refine aA (aN tabOk rfl rfl rfl rfl (by first | exact haw | exact har | exact han)) ?_ | refine aA (aM tabOk rfl rfl rfl (by first | exact haw | exact har | exact han)) ?_ | refine aA (aW tabOk rfl rfl rfl rfl (by first | first | exact hat | exact hat1 | exact whole0 (by first | rfl | omega) | rfl) zln) ?_ | refine aA (aV tabOk rfl rfl rfl (by first | first | exact hat | exact hat1 | exact whole0 (by first | rfl | omega) | rfl) zln) ?_)) | ((with_reducible refine bR ?_); (first | refine aA (s_ixV1 tabOk rfl rfl zcj rfl rfl rfl rfl rfl zle (by first | exact haw | exact har | exact han)) ?_ | refine aA (aQ tabOk rfl rfl zcj rfl rfl (by first | exact haw | exact har | exact han)) ?_)) | ((with_reducible refine bE ?_); (first | refine aA (s_slArri tabOk rfl rfl rfl rfl zbd zbd zle zle (by decide) (by first | first | exact hat | exact hat1 | exact whole0 (by first | rfl | omega) | rfl) zln) ?_)))) | refine stA ?_ | refine stD ?_ | ((first | refine hK _ _ _ _ ?_ | refine hX _ _ _ _ _ (by simp) ?_); clear hK hX K))
          refine aK zio ztr rfl (ResL.one (ResA.tmp rfl)) (cE (bO (bY bL) (cV hbad)))
        · by_cases g4 : 262144 < x.n
          · have hbad := bvF (hbd fun h => by have := (h x hx).2.2.2.1; omega)
            clear hall hbd hf hx g1 g2 hfr hfw
            obtain ⟨w, r, c⟩ := x
            simp only [Po.c] at *
            repeat' (first | ((with_reducible refine aB ?_); intro K hK hX) | ((with_reducible refine aC ?_); refine aD [0, 2, 3] rfl rfl ?_) | ((with_reducible refine aF ?_); refine aG [0, 2, 3] rfl rfl ?_; refine aI [] ?_) | ((first | with_reducible refine aE ?_ | with_reducible refine aT ?_); (first | refine zA ?_ | refine zN ?_ | refine zD ?_); (first | refine c0 hw1 ?_ | refine c0 hr1 ?_ | refine c0 hcm ?_)) | ((first | ((with_reducible refine aH ?_); refine xA ?_) | ((with_reducible refine aO ?_); refine xD ?_)); (first | ((with_reducible refine aU ?_); (first | refine aA (bT rfl rfl rfl hsub) ?_)) | ((with_reducible refine aP ?_); (first | refine aA (aR tabOk rfl rfl rfl rfl (by first | exact haw | exact har | exact han)) ?_ | refine aA (aN tabOk rfl rfl rfl rfl (by first | exact haw | exact har | exact han)) ?_ | refine aA (aM tabOk rfl rfl rfl (by first | exact haw | exact har | exact han)) ?_ | refine aA (aW tabOk rfl rfl rfl rfl (by first | first | exact hat | exact hat1 | exact whole0 (by first | rfl | omega) | rfl) zln) ?_ | refine aA (aV tabOk rfl rfl rfl (by first | first | exact hat | exact hat1 | exact whole0 (by first | rfl | omega) | rfl) zln) ?_)) | ((with_reducible refine bR ?_); (first | refine aA (s_ixV1 tabOk rfl rfl zcj rfl rfl rfl rfl rfl zle (by first | exact haw | exact har | exact han)) ?_ | refine aA (aQ tabOk rfl rfl zcj rfl rfl (by first | exact haw | exact har | exact han)) ?_)) | ((with_reducible refine bE ?_); (first | refine aA (s_slArri tabOk rfl rfl rfl rfl zbd zbd zle zle (by decide) (by first | first | exact hat | exact hat1 | exact whole0 (by first | rfl | omega) | rfl) zln) ?_)))) | refine stA ?_ | refine stD ?_ | ((first | refine hK _ _ _ _ ?_ | refine hX _ _ _ _ _ (by simp) ?_); clear hK hX K))
            refine aK zio ztr rfl (ResL.one (ResA.tmp rfl)) (cE (bO (bY bL) (cV hbad)))
          · by_cases hi0 : i = 0
            · have hnx : ∀ j, j < i + 1 → goodP p j := fun j hj => by
                have : j = i := by omega
                subst this
                intro x' hx'
                rw [hx] at hx'
                injection hx' with hx'
                subst hx'
                exact ⟨g1, g2, by omega, by omega, fun y h => by omega⟩
              clear hall hbd hf hx g1 g2 hfr hfw
              obtain ⟨w, r, c⟩ := x
              simp only [Po.c] at *
              repeat' (first | ((with_reducible refine aB ?_); intro K hK hX) | ((with_reducible refine aC ?_); refine aD [0, 2, 3] rfl rfl ?_) | ((with_reducible refine aF ?_); refine aG [0, 2, 3] rfl rfl ?_; refine aI [] ?_) | ((first | with_reducible refine aE ?_ | with_reducible refine aT ?_); (first | refine zA ?_ | refine zN ?_ | refine zD ?_); (first | refine c0 hw1 ?_ | refine c0 hr1 ?_)) | ((first | ((with_reducible refine aH ?_); refine xA ?_) | ((with_reducible refine aO ?_); refine xD ?_)); (first | ((with_reducible refine aP ?_); (first | refine aA (aR tabOk rfl rfl rfl rfl (by first | exact haw | exact har | exact han)) ?_ | refine aA (aN tabOk rfl rfl rfl rfl (by first | exact haw | exact har | exact han)) ?_ | refine aA (aM tabOk rfl rfl rfl (by first | exact haw | exact har | exact han)) ?_ | refine aA (aW tabOk rfl rfl rfl rfl (by first | exact hat | exact whole0 (by first | rfl | omega) | rfl) zln) ?_ | refine aA (aV tabOk rfl rfl rfl (by first | exact hat | exact whole0 (by first | rfl | omega) | rfl) zln) ?_)) | ((with_reducible refine bR ?_); (first | refine aA (s_ixV1 tabOk rfl rfl zcj rfl rfl rfl rfl rfl zle (by first | exact haw | exact har | exact han)) ?_ | refine aA (aQ tabOk rfl rfl zcj rfl rfl (by first | exact haw | exact har | exact han)) ?_)) | ((with_reducible refine bE ?_); (first | refine aA (s_slArri tabOk rfl rfl rfl rfl zbd zbd zle zle (by decide) (by first | exact hat | exact whole0 (by first | rfl | omega) | rfl) zln) ?_)))) | refine stA ?_ | refine stD ?_ | ((first | refine hK _ _ _ _ ?_ | refine hX _ _ _ _ _ (by simp) ?_); clear hK hX K))
              exact ⟨i + 1, ⟨by omega, hnx⟩, by omega, weakA⟩
            · obtain ⟨y, hy⟩ : ∃ y, p[i - 1]? = some y := ⟨_, List.getElem?_eq_getElem (by omega)⟩
              have hat1 := iM hy
              have hsub : IntKind.i64.wrap ((i : Int) - 1) = ((i - 1 : Nat) : Int) := by
                rw [show ((i : Int) - 1) = ((i - 1 : Nat) : Int) by omega]
                simp only [maxLen] at hm
                exact w64 (by omega) (by omega)
              have hcm := mH y x (hf y (List.mem_of_getElem? hy)).1 hfr
              by_cases g5 : cmpP y x < 0
              · have hnx : ∀ j, j < i + 1 → goodP p j := fun j hj => by
                  rcases (show j < i ∨ j = i by omega) with h | h
                  · exact hall j h
                  · subst h
                    intro x' hx'
                    rw [hx] at hx'
                    injection hx' with hx'
                    subst hx'
                    refine ⟨g1, g2, by omega, by omega, fun y' _ hy' => ?_⟩
                    rw [hy] at hy'
                    injection hy' with hy'
                    subst hy'
                    exact g5
                rw [decide_eq_true g5] at hcm
                clear hall hbd hf hx hy g1 g2 hfr hfw g5
                obtain ⟨w, r, c⟩ := x
                obtain ⟨w', r', c''⟩ := y
                simp only [Po.c] at *
                repeat' (first | ((with_reducible refine aB ?_); intro K hK hX) | ((with_reducible refine aC ?_); refine aD [0, 2, 3] rfl rfl ?_) | ((with_reducible refine aF ?_); refine aG [0, 2, 3] rfl rfl ?_; refine aI [] ?_) | ((first | with_reducible refine aE ?_ | with_reducible refine aT ?_); (first | refine zA ?_ | refine zN ?_ | refine zD ?_); (first | refine c0 hw1 ?_ | refine c0 hr1 ?_ | refine c0 hcm ?_)) | ((first | ((with_reducible refine aH ?_); refine xA ?_) | ((with_reducible refine aO ?_); refine xD ?_)); (first | ((with_reducible refine aU ?_); (first | refine aA (bT rfl rfl rfl hsub) ?_)) | ((with_reducible refine aP ?_); (first | refine aA (aR tabOk rfl rfl rfl rfl (by first | exact haw | exact har | exact han)) ?_ | refine aA (aN tabOk rfl rfl rfl rfl (by first | exact haw | exact har | exact han)) ?_ | refine aA (aM tabOk rfl rfl rfl (by first | exact haw | exact har | exact han)) ?_ | refine aA (aW tabOk rfl rfl rfl rfl (by first | first | exact hat | exact hat1 | exact whole0 (by first | rfl | omega) | rfl) zln) ?_ | refine aA (aV tabOk rfl rfl rfl (by first | first | exact hat | exact hat1 | exact whole0 (by first | rfl | omega) | rfl) zln) ?_)) | ((with_reducible refine bR ?_); (first | refine aA (s_ixV1 tabOk rfl rfl zcj rfl rfl rfl rfl rfl zle (by first | exact haw | exact har | exact han)) ?_ | refine aA (aQ tabOk rfl rfl zcj rfl rfl (by first | exact haw | exact har | exact han)) ?_)) | ((with_reducible refine bE ?_); (first | refine aA (s_slArri tabOk rfl rfl rfl rfl zbd zbd zle zle (by decide) (by first | first | exact hat | exact hat1 | exact whole0 (by first | rfl | omega) | rfl) zln) ?_)))) | refine stA ?_ | refine stD ?_ | ((first | refine hK _ _ _ _ ?_ | refine hX _ _ _ _ _ (by simp) ?_); clear hK hX K))
                exact ⟨i + 1, ⟨by omega, hnx⟩, by omega, weakA⟩
              · have hbad := bvF (hbd fun h => g5 ((h x hx).2.2.2.2 y (by omega) hy))
                rw [decide_eq_false g5] at hcm
                clear hall hbd hf hx hy g1 g2 hfr hfw g5
                obtain ⟨w, r, c⟩ := x
                obtain ⟨w', r', c''⟩ := y
                simp only [Po.c] at *
                repeat' (first | ((with_reducible refine aB ?_); intro K hK hX) | ((with_reducible refine aC ?_); refine aD [0, 2, 3] rfl rfl ?_) | ((with_reducible refine aF ?_); refine aG [0, 2, 3] rfl rfl ?_; refine aI [] ?_) | ((first | with_reducible refine aE ?_ | with_reducible refine aT ?_); (first | refine zA ?_ | refine zN ?_ | refine zD ?_); (first | refine c0 hw1 ?_ | refine c0 hr1 ?_ | refine c0 hcm ?_)) | ((first | ((with_reducible refine aH ?_); refine xA ?_) | ((with_reducible refine aO ?_); refine xD ?_)); (first | ((with_reducible refine aU ?_); (first | refine aA (bT rfl rfl rfl hsub) ?_)) | ((with_reducible refine aP ?_); (first | refine aA (aR tabOk rfl rfl rfl rfl (by first | exact haw | exact har | exact han)) ?_ | refine aA (aN tabOk rfl rfl rfl rfl (by first | exact haw | exact har | exact han)) ?_ | refine aA (aM tabOk rfl rfl rfl (by first | exact haw | exact har | exact han)) ?_ | refine aA (aW tabOk rfl rfl rfl rfl (by first | first | exact hat | exact hat1 | exact whole0 (by first | rfl | omega) | rfl) zln) ?_ | refine aA (aV tabOk rfl rfl rfl (by first | first | exact hat | exact hat1 | exact whole0 (by first | rfl | omega) | rfl) zln) ?_)) | ((with_reducible refine bR ?_); (first | refine aA (s_ixV1 tabOk rfl rfl zcj rfl rfl rfl rfl rfl zle (by first | exact haw | exact har | exact han)) ?_ | refine aA (aQ tabOk rfl rfl zcj rfl rfl (by first | exact haw | exact har | exact han)) ?_)) | ((with_reducible refine bE ?_); (first | refine aA (s_slArri tabOk rfl rfl rfl rfl zbd zbd zle zle (by decide) (by first | first | exact hat | exact hat1 | exact whole0 (by first | rfl | omega) | rfl) zln) ?_)))) | refine stA ?_ | refine stD ?_ | ((first | refine hK _ _ _ _ ?_ | refine hX _ _ _ _ _ (by simp) ?_); clear hK hX K))
                refine aK zio ztr rfl (ResL.one (ResA.tmp rfl)) (cE (bO (bY bL) (cV hbad)))
      · rw [decide_eq_false g2] at hr1
        have hbad := bvF (hbd fun h => g2 (h x hx).2.1)
        clear hall hbd hf hx g1 g2 hfr hfw
        obtain ⟨w, r, c⟩ := x
        simp only [Po.c] at *
        repeat' (first | ((with_reducible refine aB ?_); intro K hK hX) | ((with_reducible refine aC ?_); refine aD [0, 2, 3] rfl rfl ?_) | ((with_reducible refine aF ?_); refine aG [0, 2, 3] rfl rfl ?_; refine aI [] ?_) | ((first | with_reducible refine aE ?_ | with_reducible refine aT ?_); (first | refine zA ?_ | refine zN ?_ | refine zD ?_); (first | refine c0 hw1 ?_ | refine c0 hr1 ?_ | refine c0 hcm ?_)) | ((first | ((with_reducible refine aH ?_); refine xA ?_) | ((with_reducible refine aO ?_); refine xD ?_)); (first | ((with_reducible refine aU ?_); (first | refine aA (bT rfl rfl rfl hsub) ?_)) | ((with_reducible refine aP ?_); (first | refine aA (aR tabOk rfl rfl rfl rfl (by first | exact haw | exact har | exact han)) ?_ | refine aA (aN tabOk rfl rfl rfl rfl (by first | exact haw | exact har | exact han)) ?_ | refine aA (aM tabOk rfl rfl rfl (by first | exact haw | exact har | exact han)) ?_ | refine aA (aW tabOk rfl rfl rfl rfl (by first | first | exact hat | exact hat1 | exact whole0 (by first | rfl | omega) | rfl) zln) ?_ | refine aA (aV tabOk rfl rfl rfl (by first | first | exact hat | exact hat1 | exact whole0 (by first | rfl | omega) | rfl) zln) ?_)) | ((with_reducible refine bR ?_); (first | refine aA (s_ixV1 tabOk rfl rfl zcj rfl rfl rfl rfl rfl zle (by first | exact haw | exact har | exact han)) ?_ | refine aA (aQ tabOk rfl rfl zcj rfl rfl (by first | exact haw | exact har | exact han)) ?_)) | ((with_reducible refine bE ?_); (first | refine aA (s_slArri tabOk rfl rfl rfl rfl zbd zbd zle zle (by decide) (by first | first | exact hat | exact hat1 | exact whole0 (by first | rfl | omega) | rfl) zln) ?_)))) | refine stA ?_ | refine stD ?_ | ((first | refine hK _ _ _ _ ?_ | refine hX _ _ _ _ _ (by simp) ?_); clear hK hX K))
        refine aK zio ztr rfl (ResL.one (ResA.tmp rfl)) (cE (bO (bY bL) (cV hbad)))
    · rw [decide_eq_false g1] at hw1
      have hbad := bvF (hbd fun h => g1 (h x hx).1)
      clear hall hbd hf hx g1 hfr hfw
      obtain ⟨w, r, c⟩ := x
      simp only [Po.c] at *
      repeat' (first | ((with_reducible refine aB ?_); intro K hK hX) | ((with_reducible refine aC ?_); refine aD [0, 2, 3] rfl rfl ?_) | ((with_reducible refine aF ?_); refine aG [0, 2, 3] rfl rfl ?_; refine aI [] ?_) | ((first | with_reducible refine aE ?_ | with_reducible refine aT ?_); (first | refine zA ?_ | refine zN ?_ | refine zD ?_); (first | refine c0 hw1 ?_ | refine c0 hr1 ?_ | refine c0 hcm ?_)) | ((first | ((with_reducible refine aH ?_); refine xA ?_) | ((with_reducible refine aO ?_); refine xD ?_)); (first | ((with_reducible refine aU ?_); (first | refine aA (bT rfl rfl rfl hsub) ?_)) | ((with_reducible refine aP ?_); (first | refine aA (aR tabOk rfl rfl rfl rfl (by first | exact haw | exact har | exact han)) ?_ | refine aA (aN tabOk rfl rfl rfl rfl (by first | exact haw | exact har | exact han)) ?_ | refine aA (aM tabOk rfl rfl rfl (by first | exact haw | exact har | exact han)) ?_ | refine aA (aW tabOk rfl rfl rfl rfl (by first | first | exact hat | exact hat1 | exact whole0 (by first | rfl | omega) | rfl) zln) ?_ | refine aA (aV tabOk rfl rfl rfl (by first | first | exact hat | exact hat1 | exact whole0 (by first | rfl | omega) | rfl) zln) ?_)) | ((with_reducible refine bR ?_); (first | refine aA (s_ixV1 tabOk rfl rfl zcj rfl rfl rfl rfl rfl zle (by first | exact haw | exact har | exact han)) ?_ | refine aA (aQ tabOk rfl rfl zcj rfl rfl (by first | exact haw | exact har | exact han)) ?_)) | ((with_reducible refine bE ?_); (first | refine aA (s_slArri tabOk rfl rfl rfl rfl zbd zbd zle zle (by decide) (by first | first | exact hat | exact hat1 | exact whole0 (by first | rfl | omega) | rfl) zln) ?_)))) | refine stA ?_ | refine stD ?_ | ((first | refine hK _ _ _ _ ?_ | refine hX _ _ _ _ _ (by simp) ?_); clear hK hX K))
      refine aK zio ztr rfl (ResL.one (ResA.tmp rfl)) (cE (bO (bY bL) (cV hbad)))
  · have hie : i = n := by omega
    have hgood := bvT (q := valP p) fun j hj => hall j (by omega)
    rw [hie]
    clear hall hf
    repeat' (first | ((with_reducible refine aB ?_); intro K hK hX) | ((with_reducible refine aC ?_); refine aD [0, 2, 3] rfl rfl ?_) | ((with_reducible refine aF ?_); refine aG [0, 2, 3] rfl rfl ?_; refine aI [] ?_) | refine stA ?_ | refine stD ?_ | ((first | refine hK _ _ _ _ ?_ | refine hX _ _ _ _ _ (by simp) ?_); clear hK hX K))
    refine aK zio ztr rfl (ResL.one (ResA.tmp rfl)) (cE (bO (bY bL) (cV hgood)))
end Go.Proofs.YtccnhpaldmjkbaaGreat
