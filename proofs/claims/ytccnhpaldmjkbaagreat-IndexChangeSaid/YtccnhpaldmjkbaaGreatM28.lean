/-
  Joined texts: IV J0. Lemmas; no statement of a law.
-/
import Derived.Test.YtccnhpaldmjkbaaGreatM26
set_option linter.unusedSimpArgs false
set_option linter.unusedVariables false
/-
  Valid postings, and the rows of a word, as the program has them (walk).
-/
namespace Go.Proofs.YtccnhpaldmjkbaaGreat
open Go Go.RowKit Go.Av
set_option maxRecDepth 100000
theorem kV : Idle Tryz.prog 76 0 := by
  intro us w hl
  obtain ⟨_, rfl⟩ : ∃ _ : Unit, us = [] := by
    match us, hl with | [], _ => exact ⟨(), rfl⟩
  refine callsD_of_wpS Tryz.func76 rfl fun c₀ cs hu => ?_
  apply wpS_region
  simp [wpOpsS, go_sem, recoverD, hu, Tryz.ntmps76, Exit.thenS]
  cases c₀
  simp_all [bodyPostS, results, Tryz.results76]
theorem gQ : Body Tryz.prog 76 := by unfold Body; kernel_rfl
def wordQ (w : Wd) : Prop := w ≠ [] ∧ w.length ≤ 32 ∧ ∀ b ∈ w, lowL b = true
instance (w : Wd) : Decidable (wordQ w) := by unfold wordQ; infer_instance
def goodP (p : List Po) (i : Nat) : Prop := ∀ x, p[i]? = some x → wordQ x.w ∧ rowP x.r ∧ 1 ≤ x.n ∧ x.n ≤ 262144 ∧ ∀ y, 0 < i → p[i - 1]? = some y → cmpP y x < 0
def valP (p : List Po) : Prop := ∀ i, i < p.length → goodP p i
theorem bvF {q : Prop} [Decidable q] (h : ¬ q) : bv false = bv (decide q) := by rw [decide_eq_false h]
theorem bvT {q : Prop} [Decidable q] (h : q) : bv true = bv (decide q) := by rw [decide_eq_true h]
def lkP (p : List Po) (w : Wd) : List En := (p.filter fun x => decide (x.w = w)).map fun x => ⟨x.r, x.n⟩
attribute [local irreducible] Still Adds AWL AW Drw DrwE EStep AC AWR Weak Frz Src RetK Out InK ItK AsK RdK
set_option maxHeartbeats 4000000 in
theorem isWord_ok (w : Wd) (hm : w.length ≤ maxLen) : AC Tryz.prog 77 [sv w] (.c (bv (decide (wordQ w)))) [] 0 := by
  have hsz := qI w
  by_cases h0 : w = []
  · have hb := bvF (q := wordQ w) fun h => h.1 h0
    have he := decide_eq_true h0
    refine aJ tabOk (sz := 23) Tryz.func77 rfl (by rw [Tryz.ntmps77]; rfl) ?_
    repeat' (first | ((with_reducible refine aD ?_); intro K hK hX) | ((with_reducible refine aE ?_); refine aA [0, 2, 4, 13, 14, 15] rfl rfl ?_; with_reducible refine aB ?_) | (((with_reducible refine aI ?_); refine xA ?_); (first | ((with_reducible refine aX ?_); (first | refine aC (cN rfl rfl he) ?_)))) | refine stA ?_ | ((first | refine hK _ _ _ _ ?_ | refine hX _ _ _ _ _ (by simp) ?_); clear hK hX K))
    refine aK zio ztr rfl (ResL.one (ResA.tmp rfl)) (cX (bS (cI bW) (dY hb)))
  · have he := decide_eq_false h0
    by_cases h1 : 32 < w.length
    · have hb := bvF (q := wordQ w) fun h => by have := h.2.1; omega
      refine aJ tabOk (sz := 23) Tryz.func77 rfl (by rw [Tryz.ntmps77]; rfl) ?_
      repeat' (first | ((with_reducible refine aD ?_); intro K hK hX) | ((with_reducible refine aE ?_); refine aA [0, 2, 4, 13, 14, 15] rfl rfl ?_; with_reducible refine aB ?_) | (((with_reducible refine aI ?_); refine xA ?_); (first | ((with_reducible refine aX ?_); (first | refine aC (cN rfl rfl he) ?_)))) | refine stA ?_ | ((first | refine hK _ _ _ _ ?_ | refine hX _ _ _ _ _ (by simp) ?_); clear hK hX K))
      refine aK zio ztr rfl (ResL.one (ResA.tmp rfl)) (cX (bS (cI bW) (dY hb)))
    · obtain ⟨n, hn⟩ : ∃ n, w.length = n := ⟨_, rfl⟩
      rw [hn] at hsz h1
      have hul : (u8c w).length = n := by rw [eO, hn]
      refine aJ tabOk (sz := 23) Tryz.func77 rfl (by rw [Tryz.ntmps77]; rfl) ?_
      repeat' (first | ((with_reducible refine aD ?_); intro K hK hX) | ((with_reducible refine aE ?_); refine aA [0, 2, 4, 13, 14, 15] rfl rfl ?_; with_reducible refine aB ?_) | (((with_reducible refine aI ?_); refine xA ?_); (first | ((with_reducible refine aX ?_); (first | refine aC (cN rfl rfl he) ?_)))) | refine stA ?_ | ((first | refine hK _ _ _ _ ?_ | refine hX _ _ _ _ _ (by simp) ?_); clear hK hX K))
      refine bD [15, 4, 12] [] rfl rfl (fun i : Nat => [(15, .c (iv i))]) (fun i => []) (fun i => i ≤ n ∧ ∀ b ∈ w.take i, lowL b = true) (fun i => n - i) 0 ⟨Nat.zero_le _, by simp⟩ weakA ?_
      rintro i ⟨hi, hall⟩ K hK hX
      by_cases hlt : i < n
      · obtain ⟨b, hb⟩ : ∃ b, w[i]? = some b := ⟨_, List.getElem?_eq_getElem (by omega)⟩
        have hbu := u8c_get hb
        have hlo := isLow_ok b
        by_cases hl : lowL b = true
        · have hnx : ∀ b ∈ w.take (i + 1), lowL b = true := fun c hc => by
            rw [List.take_add_one, hb, Option.toList_some] at hc
            rcases List.mem_append.1 hc with hc | hc
            · exact hall c hc
            · rw [List.mem_singleton.1 hc]; exact hl
          rw [hl] at hlo
          clear hall
          repeat' (first | ((with_reducible refine aD ?_); intro K hK hX) | ((with_reducible refine aE ?_); refine aA [0, 2, 4, 13, 14, 15] rfl rfl ?_; with_reducible refine aB ?_) | ((with_reducible refine aF ?_); (first | refine zA ?_ | refine zN ?_); (first | refine c0 (hlo) ?_)) | (((with_reducible refine aI ?_); refine xA ?_); (first | ((with_reducible refine aO ?_); (first | refine aC (aT tabOk rfl rfl rfl rfl (by first | (rw [Nat.zero_add, Nat.mul_one]; exact hbu) | (rw [Nat.mul_one]; exact hbu))) ?_ | refine aC (aN tabOk rfl rfl rfl rfl (by first | (rw [Nat.zero_add, Nat.mul_one]; exact hbu) | (rw [Nat.mul_one]; exact hbu))) ?_ | refine aC (aM tabOk rfl rfl rfl (by first | (rw [Nat.zero_add, Nat.mul_one]; exact hbu) | (rw [Nat.mul_one]; exact hbu))) ?_)) | ((with_reducible refine bX ?_); (first | refine aC (s_ixV1 tabOk rfl rfl zcj rfl rfl rfl rfl rfl zle (by first | (rw [Nat.zero_add, Nat.mul_one]; exact hbu) | (rw [Nat.mul_one]; exact hbu))) ?_ | refine aC (aS tabOk rfl rfl zcj rfl rfl (by first | (rw [Nat.zero_add, Nat.mul_one]; exact hbu) | (rw [Nat.mul_one]; exact hbu))) ?_)))) | refine stA ?_ | ((first | refine hK _ _ _ _ ?_ | refine hX _ _ _ _ _ (by simp) ?_); clear hK hX K))
          exact ⟨i + 1, ⟨by omega, hnx⟩, by omega, weakA⟩
        · have hl2 : lowL b = false := by simpa using hl
          rw [hl2] at hlo
          have hbad := bvF (q := wordQ w) fun h => hl (h.2.2 b (List.mem_of_getElem? hb))
          clear hall
          repeat' (first | ((with_reducible refine aD ?_); intro K hK hX) | ((with_reducible refine aE ?_); refine aA [0, 2, 4, 13, 14, 15] rfl rfl ?_; with_reducible refine aB ?_) | ((with_reducible refine aF ?_); (first | refine zA ?_ | refine zN ?_); (first | refine c0 (hlo) ?_)) | (((with_reducible refine aI ?_); refine xA ?_); (first | ((with_reducible refine aO ?_); (first | refine aC (aT tabOk rfl rfl rfl rfl (by first | (rw [Nat.zero_add, Nat.mul_one]; exact hbu) | (rw [Nat.mul_one]; exact hbu))) ?_ | refine aC (aN tabOk rfl rfl rfl rfl (by first | (rw [Nat.zero_add, Nat.mul_one]; exact hbu) | (rw [Nat.mul_one]; exact hbu))) ?_ | refine aC (aM tabOk rfl rfl rfl (by first | (rw [Nat.zero_add, Nat.mul_one]; exact hbu) | (rw [Nat.mul_one]; exact hbu))) ?_)) | ((with_reducible refine bX ?_); (first | refine aC (s_ixV1 tabOk rfl rfl zcj rfl rfl rfl rfl rfl zle (by first | (rw [Nat.zero_add, Nat.mul_one]; exact hbu) | (rw [Nat.mul_one]; exact hbu))) ?_ | refine aC (aS tabOk rfl rfl zcj rfl rfl (by first | (rw [Nat.zero_add, Nat.mul_one]; exact hbu) | (rw [Nat.mul_one]; exact hbu))) ?_)))) | refine stA ?_ | ((first | refine hK _ _ _ _ ?_ | refine hX _ _ _ _ _ (by simp) ?_); clear hK hX K))
          refine aK zio ztr rfl (ResL.one (ResA.tmp rfl)) (cX (bS (cI bW) (dY hbad)))
      · have hie : i = n := by omega
        have hgood := bvT (q := wordQ w) ⟨h0, by omega, fun b hb => hall b (by rw [List.take_of_length_le (by omega)]; exact hb)⟩
        rw [hie]
        clear hall
        repeat' (first | ((with_reducible refine aD ?_); intro K hK hX) | ((with_reducible refine aE ?_); refine aA [0, 2, 4, 13, 14, 15] rfl rfl ?_; with_reducible refine aB ?_) | refine stA ?_ | ((first | refine hK _ _ _ _ ?_ | refine hX _ _ _ _ _ (by simp) ?_); clear hK hX K))
        refine aK zio ztr rfl (ResL.one (ResA.tmp rfl)) (cX (bS (cI bW) (dY hgood)))
set_option maxHeartbeats 4000000 in
theorem pcmp_ok (x y : Po) (hx : x.r.length ≤ maxLen) (hy : y.r.length ≤ maxLen) : AC Tryz.prog 79 [.agg x.c, .agg y.c] (.c (iv (cmpP x y))) [] 0 := by
  have h1 := scmp_ok x.w y.w
  have h2 := oV x.r y.r x.r.length y.r.length rfl rfl hx hy
  obtain ⟨xw, xr, xn⟩ := x
  obtain ⟨yw, yr, yn⟩ := y
  unfold cmpP
  simp only [Po.c] at *
  generalize Lib.compareBytes xw yw = c at *
  generalize cmpR xr yr = d at *
  by_cases h0 : c = 0
  · rw [if_neg (by omega)]
    refine aJ tabOk (sz := 19) Tryz.func79 rfl (by rw [Tryz.ntmps79]; rfl) ?_
    repeat' (first | ((with_reducible refine aD ?_); intro K hK hX) | ((with_reducible refine aE ?_); refine aA [0, 1, 2, 3, 4, 5] rfl rfl ?_; with_reducible refine aB ?_) | ((with_reducible refine aF ?_); (first | refine zA ?_ | refine zN ?_); (first | refine c0 (h1) ?_ | refine c0 (h2) ?_)) | refine stA ?_ | ((first | refine hK _ _ _ _ ?_ | refine hX _ _ _ _ _ (by simp) ?_); clear hK hX K))
    refine aK zio ztr rfl (ResL.one (ResA.tmp rfl)) zou
  · rw [if_pos h0]
    refine aJ tabOk (sz := 19) Tryz.func79 rfl (by rw [Tryz.ntmps79]; rfl) ?_
    repeat' (first | ((with_reducible refine aD ?_); intro K hK hX) | ((with_reducible refine aE ?_); refine aA [0, 1, 2, 3, 4, 5] rfl rfl ?_; with_reducible refine aB ?_) | ((with_reducible refine aF ?_); (first | refine zA ?_ | refine zN ?_); (first | refine c0 (h1) ?_ | refine c0 (h2) ?_)) | refine stA ?_ | ((first | refine hK _ _ _ _ ?_ | refine hX _ _ _ _ _ (by simp) ?_); clear hK hX K))
    refine aK zio ztr rfl (ResL.one (ResA.tmp rfl)) zou
open Classical in
set_option maxHeartbeats 8000000 in
theorem oR (p : List Po) (n : Nat) (hn : p.length = n) (hm : n ≤ maxLen) (hf : ∀ x ∈ p, x.r.length ≤ maxLen ∧ x.w.length ≤ maxLen) : AC Tryz.prog 32 [.sl 3 n (pc p)] (.c (bv (decide (valP p)))) [] 0 := by
  have hcl : (pc p).length = n * 3 := by rw [bF, hn]
  have hm2 : n ≤ 9223372036854775807 := hm
  refine aJ tabOk (sz := 45) Tryz.func32 rfl (by rw [Tryz.ntmps32]; rfl) ?_
  repeat' (first | ((with_reducible refine aD ?_); intro K hK hX) | ((with_reducible refine aE ?_); refine aA [0, 2, 3, 4, 5, 6, 7] rfl rfl ?_; with_reducible refine aB ?_) | ((with_reducible refine aG ?_); refine aA [0, 2, 3, 4, 5, 6, 7] rfl rfl ?_; refine aL [] ?_) | refine stA ?_ | refine stD ?_ | ((first | refine hK _ _ _ _ ?_ | refine hX _ _ _ _ _ (by simp) ?_); clear hK hX K))
  refine bD [7, 3, 4] [] rfl rfl (fun i : Nat => [(7, .c (iv i))]) (fun i => []) (fun i => i ≤ n ∧ ∀ j, j < i → goodP p j) (fun i => n - i) 0 ⟨Nat.zero_le _, fun j hj => absurd hj (by omega)⟩ weakA ?_
  rintro i ⟨hi, hall⟩ K hK hX
  by_cases hlt : i < n
  · obtain ⟨x, hx⟩ : ∃ x, p[i]? = some x := ⟨_, List.getElem?_eq_getElem (by omega)⟩
    have hat := fF hx
    obtain ⟨hfr, hfw⟩ := hf x (List.mem_of_getElem? hx)
    have hw1 := isWord_ok x.w hfw
    have hr1 := vrow_ok x.r x.r.length rfl hfr
    have hbd : ¬ goodP p i → ¬ valP p := fun h hv => h (hv i (by omega))
    have hat1 := True.intro
    have hcm := True.intro
    have hsub := True.intro
    by_cases g1 : wordQ x.w
    · rw [decide_eq_true g1] at hw1
      by_cases g2 : rowP x.r
      · rw [decide_eq_true g2] at hr1
        by_cases g3 : x.n < 1
        · have hbad := bvF (hbd fun h => by have := (h x hx).2.2.1; omega)
          clear hall hbd hf hx g1 g2 hfr hfw
          obtain ⟨w, r, c⟩ := x
          simp only [Po.c] at *
          repeat' (first | ((with_reducible refine aD ?_); intro K hK hX) | ((with_reducible refine aE ?_); refine aA [0, 2, 3, 4, 5, 6, 7] rfl rfl ?_; with_reducible refine aB ?_) | ((with_reducible refine aG ?_); refine aA [0, 2, 3, 4, 5, 6, 7] rfl rfl ?_; refine aL [] ?_) | ((first | with_reducible refine aF ?_ | with_reducible refine bC ?_); (first | refine zA ?_ | refine zN ?_ | refine zD ?_); (first | refine c0 (hw1) ?_ | refine c0 (hr1) ?_ | refine c0 (hcm) ?_)) | ((first | ((with_reducible refine aI ?_); refine xA ?_) | ((with_reducible refine aP ?_); refine xD ?_)); (first | ((with_reducible refine aX ?_); (first | refine aC (bV rfl rfl rfl hsub) ?_)) | ((with_reducible refine aO ?_); (first | refine aC (aT tabOk rfl rfl rfl rfl (by exact hat)) ?_ | refine aC (aN tabOk rfl rfl rfl rfl (by exact hat)) ?_ | refine aC (aM tabOk rfl rfl rfl (by exact hat)) ?_ | refine aC (aW tabOk rfl rfl rfl rfl (by first | first | exact hat | exact hat1 | exact whole0 (by first | rfl | omega) | rfl) zln) ?_ | refine aC (aV tabOk rfl rfl rfl (by first | first | exact hat | exact hat1 | exact whole0 (by first | rfl | omega) | rfl) zln) ?_)) | ((with_reducible refine bX ?_); (first | refine aC (s_ixV1 tabOk rfl rfl zcj rfl rfl rfl rfl rfl zle (by exact hat)) ?_ | refine aC (aS tabOk rfl rfl zcj rfl rfl (by exact hat)) ?_)) | ((with_reducible refine bB ?_); (first | refine aC (s_slArri tabOk rfl rfl rfl rfl zbd zbd zle zle (by decide) (by first | first | exact hat | exact hat1 | exact whole0 (by first | rfl | omega) | rfl) zln) ?_)))) | refine stA ?_ | refine stD ?_ | ((first | refine hK _ _ _ _ ?_ | refine hX _ _ _ _ _ (by simp) ?_); clear hK hX K))
          refine aK zio (by exact ⟨kV, gQ, trivial⟩) rfl (ResL.one (ResA.tmp rfl)) (cX (bS (cI bW) (dY hbad)))
        · by_cases g4 : 262144 < x.n
          · have hbad := bvF (hbd fun h => by have := (h x hx).2.2.2.1; omega)
            clear hall hbd hf hx g1 g2 hfr hfw
            obtain ⟨w, r, c⟩ := x
            simp only [Po.c] at *
            repeat' (first | ((with_reducible refine aD ?_); intro K hK hX) | ((with_reducible refine aE ?_); refine aA [0, 2, 3, 4, 5, 6, 7] rfl rfl ?_; with_reducible refine aB ?_) | ((with_reducible refine aG ?_); refine aA [0, 2, 3, 4, 5, 6, 7] rfl rfl ?_; refine aL [] ?_) | ((first | with_reducible refine aF ?_ | with_reducible refine bC ?_); (first | refine zA ?_ | refine zN ?_ | refine zD ?_); (first | refine c0 (hw1) ?_ | refine c0 (hr1) ?_ | refine c0 (hcm) ?_)) | ((first | ((with_reducible refine aI ?_); refine xA ?_) | ((with_reducible refine aP ?_); refine xD ?_)); (first | ((with_reducible refine aX ?_); (first | refine aC (bV rfl rfl rfl hsub) ?_)) | ((with_reducible refine aO ?_); (first | refine aC (aT tabOk rfl rfl rfl rfl (by exact hat)) ?_ | refine aC (aN tabOk rfl rfl rfl rfl (by exact hat)) ?_ | refine aC (aM tabOk rfl rfl rfl (by exact hat)) ?_ | refine aC (aW tabOk rfl rfl rfl rfl (by first | first | exact hat | exact hat1 | exact whole0 (by first | rfl | omega) | rfl) zln) ?_ | refine aC (aV tabOk rfl rfl rfl (by first | first | exact hat | exact hat1 | exact whole0 (by first | rfl | omega) | rfl) zln) ?_)) | ((with_reducible refine bX ?_); (first | refine aC (s_ixV1 tabOk rfl rfl zcj rfl rfl rfl rfl rfl zle (by exact hat)) ?_ | refine aC (aS tabOk rfl rfl zcj rfl rfl (by exact hat)) ?_)) | ((with_reducible refine bB ?_); (first | refine aC (s_slArri tabOk rfl rfl rfl rfl zbd zbd zle zle (by decide) (by first | first | exact hat | exact hat1 | exact whole0 (by first | rfl | omega) | rfl) zln) ?_)))) | refine stA ?_ | refine stD ?_ | ((first | refine hK _ _ _ _ ?_ | refine hX _ _ _ _ _ (by simp) ?_); clear hK hX K))
            refine aK zio (by exact ⟨kV, gQ, trivial⟩) rfl (ResL.one (ResA.tmp rfl)) (cX (bS (cI bW) (dY hbad)))
          · by_cases hi0 : i = 0
            · have hnx : ∀ j, j < i + 1 → goodP p j := fun j hj => by
                have : j = i := by omega
                subst this
                intro x' hx'
                rw [hx] at hx'
                injection hx' with hx'
                subst hx'
                exact ⟨g1, g2, by omega, by omega, fun y h => by omega⟩
              clear hall hbd hf hx g1 g2 hfr hfw
              obtain ⟨w, r, c⟩ := x
              simp only [Po.c] at *
              repeat' (first | ((with_reducible refine aD ?_); intro K hK hX) | ((with_reducible refine aE ?_); refine aA [0, 2, 3, 4, 5, 6, 7] rfl rfl ?_; with_reducible refine aB ?_) | ((with_reducible refine aG ?_); refine aA [0, 2, 3, 4, 5, 6, 7] rfl rfl ?_; refine aL [] ?_) | ((first | with_reducible refine aF ?_ | with_reducible refine bC ?_); (first | refine zA ?_ | refine zN ?_ | refine zD ?_); (first | refine c0 (hw1) ?_ | refine c0 (hr1) ?_)) | ((first | ((with_reducible refine aI ?_); refine xA ?_) | ((with_reducible refine aP ?_); refine xD ?_)); (first | ((with_reducible refine aO ?_); (first | refine aC (aW tabOk rfl rfl rfl rfl (by first | exact hat | exact whole0 (by first | rfl | omega) | rfl) zln) ?_ | refine aC (aV tabOk rfl rfl rfl (by first | exact hat | exact whole0 (by first | rfl | omega) | rfl) zln) ?_)) | ((with_reducible refine bB ?_); (first | refine aC (s_slArri tabOk rfl rfl rfl rfl zbd zbd zle zle (by decide) (by first | exact hat | exact whole0 (by first | rfl | omega) | rfl) zln) ?_)))) | refine stA ?_ | refine stD ?_ | ((first | refine hK _ _ _ _ ?_ | refine hX _ _ _ _ _ (by simp) ?_); clear hK hX K))
              exact ⟨i + 1, ⟨by omega, hnx⟩, by omega, weakA⟩
            · obtain ⟨y, hy⟩ : ∃ y, p[i - 1]? = some y := ⟨_, List.getElem?_eq_getElem (by omega)⟩
              have hat1 := fF hy
              have hsub : IntKind.i64.wrap ((i : Int) - 1) = ((i - 1 : Nat) : Int) := by
                rw [show ((i : Int) - 1) = ((i - 1 : Nat) : Int) by omega]
                simp only [maxLen] at hm
                exact w64 (by omega) (by omega)
              have hcm := pcmp_ok y x (hf y (List.mem_of_getElem? hy)).1 hfr
              by_cases g5 : cmpP y x < 0
              · have hnx : ∀ j, j < i + 1 → goodP p j := fun j hj => by
                  rcases (show j < i ∨ j = i by omega) with h | h
                  · exact hall j h
                  · subst h
                    intro x' hx'
                    rw [hx] at hx'
                    injection hx' with hx'
                    subst hx'
                    refine ⟨g1, g2, by omega, by omega, fun y' _ hy' => ?_⟩
                    rw [hy] at hy'
                    injection hy' with hy'
                    subst hy'
                    exact g5
                generalize cmpP y x = c' at hcm g5
                clear hall hbd hf hx hy g1 g2 hfr hfw
                obtain ⟨w, r, c⟩ := x
                obtain ⟨w', r', c''⟩ := y
                simp only [Po.c] at *
                repeat' (first | ((with_reducible refine aD ?_); intro K hK hX) | ((with_reducible refine aE ?_); refine aA [0, 2, 3, 4, 5, 6, 7] rfl rfl ?_; with_reducible refine aB ?_) | ((with_reducible refine aG ?_); refine aA [0, 2, 3, 4, 5, 6, 7] rfl rfl ?_; refine aL [] ?_) | ((first | with_reducible refine aF ?_ | with_reducible refine bC ?_); (first | refine zA ?_ | refine zN ?_ | refine zD ?_); (first | refine c0 (hw1) ?_ | refine c0 (hr1) ?_ | refine c0 (hcm) ?_)) | ((first | ((with_reducible refine aI ?_); refine xA ?_) | ((with_reducible refine aP ?_); refine xD ?_)); (first | ((with_reducible refine aX ?_); (first | refine aC (bV rfl rfl rfl hsub) ?_)) | ((with_reducible refine aO ?_); (first | refine aC (aW tabOk rfl rfl rfl rfl (by first | first | exact hat | exact hat1 | exact whole0 (by first | rfl | omega) | rfl) zln) ?_ | refine aC (aV tabOk rfl rfl rfl (by first | first | exact hat | exact hat1 | exact whole0 (by first | rfl | omega) | rfl) zln) ?_)) | ((with_reducible refine bB ?_); (first | refine aC (s_slArri tabOk rfl rfl rfl rfl zbd zbd zle zle (by decide) (by first | first | exact hat | exact hat1 | exact whole0 (by first | rfl | omega) | rfl) zln) ?_)))) | refine stA ?_ | refine stD ?_ | ((first | refine hK _ _ _ _ ?_ | refine hX _ _ _ _ _ (by simp) ?_); clear hK hX K))
                exact ⟨i + 1, ⟨by omega, hnx⟩, by omega, weakA⟩
              · have hbad := bvF (hbd fun h => g5 ((h x hx).2.2.2.2 y (by omega) hy))
                generalize cmpP y x = c' at hcm g5
                clear hall hbd hf hx hy g1 g2 hfr hfw
                obtain ⟨w, r, c⟩ := x
                obtain ⟨w', r', c''⟩ := y
                simp only [Po.c] at *
                repeat' (first | ((with_reducible refine aD ?_); intro K hK hX) | ((with_reducible refine aE ?_); refine aA [0, 2, 3, 4, 5, 6, 7] rfl rfl ?_; with_reducible refine aB ?_) | ((with_reducible refine aG ?_); refine aA [0, 2, 3, 4, 5, 6, 7] rfl rfl ?_; refine aL [] ?_) | ((first | with_reducible refine aF ?_ | with_reducible refine bC ?_); (first | refine zA ?_ | refine zN ?_ | refine zD ?_); (first | refine c0 (hw1) ?_ | refine c0 (hr1) ?_ | refine c0 (hcm) ?_)) | ((first | ((with_reducible refine aI ?_); refine xA ?_) | ((with_reducible refine aP ?_); refine xD ?_)); (first | ((with_reducible refine aX ?_); (first | refine aC (bV rfl rfl rfl hsub) ?_)) | ((with_reducible refine aO ?_); (first | refine aC (aT tabOk rfl rfl rfl rfl (by exact hat)) ?_ | refine aC (aN tabOk rfl rfl rfl rfl (by exact hat)) ?_ | refine aC (aM tabOk rfl rfl rfl (by exact hat)) ?_ | refine aC (aW tabOk rfl rfl rfl rfl (by first | first | exact hat | exact hat1 | exact whole0 (by first | rfl | omega) | rfl) zln) ?_ | refine aC (aV tabOk rfl rfl rfl (by first | first | exact hat | exact hat1 | exact whole0 (by first | rfl | omega) | rfl) zln) ?_)) | ((with_reducible refine bX ?_); (first | refine aC (s_ixV1 tabOk rfl rfl zcj rfl rfl rfl rfl rfl zle (by exact hat)) ?_ | refine aC (aS tabOk rfl rfl zcj rfl rfl (by exact hat)) ?_)) | ((with_reducible refine bB ?_); (first | refine aC (s_slArri tabOk rfl rfl rfl rfl zbd zbd zle zle (by decide) (by first | first | exact hat | exact hat1 | exact whole0 (by first | rfl | omega) | rfl) zln) ?_)))) | refine stA ?_ | refine stD ?_ | ((first | refine hK _ _ _ _ ?_ | refine hX _ _ _ _ _ (by simp) ?_); clear hK hX K))
                refine aK zio (by exact ⟨kV, gQ, trivial⟩) rfl (ResL.one (ResA.tmp rfl)) (cX (bS (cI bW) (dY hbad)))
      · rw [decide_eq_false g2] at hr1
        have hbad := bvF (hbd fun h => g2 (h x hx).2.1)
        clear hall hbd hf hx g1 g2 hfr hfw
        obtain ⟨w, r, c⟩ := x
        simp only [Po.c] at *
        repeat' (first | ((with_reducible refine aD ?_); intro K hK hX) | ((with_reducible refine aE ?_); refine aA [0, 2, 3, 4, 5, 6, 7] rfl rfl ?_; with_reducible refine aB ?_) | ((with_reducible refine aG ?_); refine aA [0, 2, 3, 4, 5, 6, 7] rfl rfl ?_; refine aL [] ?_) | ((first | with_reducible refine aF ?_ | with_reducible refine bC ?_); (first | refine zA ?_ | refine zN ?_ | refine zD ?_); (first | refine c0 (hw1) ?_ | refine c0 (hr1) ?_ | refine c0 (hcm) ?_)) | ((first | ((with_reducible refine aI ?_); refine xA ?_) | ((with_reducible refine aP ?_); refine xD ?_)); (first | ((with_reducible refine aX ?_); (first | refine aC (bV rfl rfl rfl hsub) ?_)) | ((with_reducible refine aO ?_); (first | refine aC (aT tabOk rfl rfl rfl rfl (by exact hat)) ?_ | refine aC (aN tabOk rfl rfl rfl rfl (by exact hat)) ?_ | refine aC (aM tabOk rfl rfl rfl (by exact hat)) ?_ | refine aC (aW tabOk rfl rfl rfl rfl (by first | first | exact hat | exact hat1 | exact whole0 (by first | rfl | omega) | rfl) zln) ?_ | refine aC (aV tabOk rfl rfl rfl (by first | first | exact hat | exact hat1 | exact whole0 (by first | rfl | omega) | rfl) zln) ?_)) | ((with_reducible refine bX ?_); (first | refine aC (s_ixV1 tabOk rfl rfl zcj rfl rfl rfl rfl rfl zle (by exact hat)) ?_ | refine aC (aS tabOk rfl rfl zcj rfl rfl (by exact hat)) ?_)) | ((with_reducible refine bB ?_); (first | refine aC (s_slArri tabOk rfl rfl rfl rfl zbd zbd zle zle (by decide) (by first | first | exact hat | exact hat1 | exact whole0 (by first | rfl | omega) | rfl) zln) ?_)))) | refine stA ?_ | refine stD ?_ | ((first | refine hK _ _ _ _ ?_ | refine hX _ _ _ _ _ (by simp) ?_); clear hK hX K))
        refine aK zio (by exact ⟨kV, gQ, trivial⟩) rfl (ResL.one (ResA.tmp rfl)) (cX (bS (cI bW) (dY hbad)))
    · rw [decide_eq_false g1] at hw1
      have hbad := bvF (hbd fun h => g1 (h x hx).1)
      clear hall hbd hf hx g1 hfr hfw
      obtain ⟨w, r, c⟩ := x
      simp only [Po.c] at *
      repeat' (first | ((with_reducible refine aD ?_); intro K hK hX) | ((with_reducible refine aE ?_); refine aA [0, 2, 3, 4, 5, 6, 7] rfl rfl ?_; with_reducible refine aB ?_) | ((with_reducible refine aG ?_); refine aA [0, 2, 3, 4, 5, 6, 7] rfl rfl ?_; refine aL [] ?_) | ((first | with_reducible refine aF ?_ | with_reducible refine bC ?_); (first | refine zA ?_ | refine zN ?_ | refine zD ?_); (first | refine c0 (hw1) ?_ | refine c0 (hr1) ?_ | refine c0 (hcm) ?_)) | ((first | ((with_reducible refine aI ?_); refine xA ?_) | ((with_reducible refine aP ?_); refine xD ?_)); (first | ((with_reducible refine aX ?_); (first | refine aC (bV rfl rfl rfl hsub) ?_)) | ((with_reducible refine aO ?_); (first | refine aC (aT tabOk rfl rfl rfl rfl (by exact hat)) ?_ | refine aC (aN tabOk rfl rfl rfl rfl (by exact hat)) ?_ | refine aC (aM tabOk rfl rfl rfl (by exact hat)) ?_ | refine aC (aW tabOk rfl rfl rfl rfl (by first | first | exact hat | exact hat1 | exact whole0 (by first | rfl | omega) | rfl) zln) ?_ | refine aC (aV tabOk rfl rfl rfl (by first | first | exact hat | exact hat1 | exact whole0 (by first | rfl | omega) | rfl) zln) ?_)) | ((with_reducible refine bX ?_); (first | refine aC (s_ixV1 tabOk rfl rfl zcj rfl rfl rfl rfl rfl zle (by exact hat)) ?_ | refine aC (aS tabOk rfl rfl zcj rfl rfl (by exact hat)) ?_)) | ((with_reducible refine bB ?_); (first | refine aC (s_slArri tabOk rfl rfl rfl rfl zbd zbd zle zle (by decide) (by first | first | exact hat | exact hat1 | exact whole0 (by first | rfl | omega) | rfl) zln) ?_)))) | refine stA ?_ | refine stD ?_ | ((first | refine hK _ _ _ _ ?_ | refine hX _ _ _ _ _ (by simp) ?_); clear hK hX K))
      refine aK zio (by exact ⟨kV, gQ, trivial⟩) rfl (ResL.one (ResA.tmp rfl)) (cX (bS (cI bW) (dY hbad)))
  · have hie : i = n := by omega
    have hgood := bvT (q := valP p) fun j hj => hall j (by omega)
    rw [hie]
    clear hall hf
    repeat' (first | ((with_reducible refine aD ?_); intro K hK hX) | ((with_reducible refine aE ?_); refine aA [0, 2, 3, 4, 5, 6, 7] rfl rfl ?_; with_reducible refine aB ?_) | ((with_reducible refine aG ?_); refine aA [0, 2, 3, 4, 5, 6, 7] rfl rfl ?_; refine aL [] ?_) | refine stA ?_ | refine stD ?_ | ((first | refine hK _ _ _ _ ?_ | refine hX _ _ _ _ _ (by simp) ?_); clear hK hX K))
    refine aK zio (by exact ⟨kV, gQ, trivial⟩) rfl (ResL.one (ResA.tmp rfl)) (cX (bS (cI bW) (dY hgood)))
end Go.Proofs.YtccnhpaldmjkbaaGreat
/-
  What valid postings are (plain).
-/
namespace Go.Proofs.YtccnhpaldmjkbaaGreat
open Go Go.RowKit Go.Av
set_option maxRecDepth 100000
theorem dX {p : List Po} (hv : valP p) : (p.Pairwise fun x y => cmpP x y < 0) ∧ ∀ x ∈ p, wordQ x.w ∧ rowP x.r ∧ 1 ≤ x.n ∧ x.n ≤ 262144 := by
  have h2 : ∀ x ∈ p, wordQ x.w ∧ rowP x.r ∧ 1 ≤ x.n ∧ x.n ≤ 262144 := fun x hx => by
    obtain ⟨i, hi⟩ := List.mem_iff_getElem?.1 hx
    obtain ⟨a, b, c, d, _⟩ := hv i (List.getElem?_eq_some_iff.1 hi).1 x hi
    exact ⟨a, b, c, d⟩
  refine ⟨?_, h2⟩
  have h3 : ∀ i, i < p.length → ∀ x y, 0 < i → p[i - 1]? = some y → p[i]? = some x → cmpP y x < 0 := fun i hi x y h0 hy hx => (hv i hi x hx).2.2.2.2 y h0 hy
  clear hv h2
  induction p with
  | nil => exact List.Pairwise.nil
  | cons e b ih =>
    have ih := ih fun i hi x y h0 hy hx => by
      obtain ⟨j, rfl⟩ : ∃ j, i = j + 1 := ⟨i - 1, by omega⟩
      exact h3 (j + 1 + 1) (by simpa using hi) x y (by omega) (by simpa using hy) (by simpa using hx)
    refine List.pairwise_cons.2 ⟨?_, ih⟩
    match b, ih with
    | [], _ => exact fun f hf => by cases hf
    | f :: b, ih =>
      have h4 : cmpP e f < 0 := h3 1 (by simp) f e (by omega) rfl rfl
      intro g hg
      rcases List.mem_cons.1 hg with rfl | hg
      · exact h4
      · exact gc_P.lt h4 ((List.pairwise_cons.1 ih).1 g hg)
end Go.Proofs.YtccnhpaldmjkbaaGreat
