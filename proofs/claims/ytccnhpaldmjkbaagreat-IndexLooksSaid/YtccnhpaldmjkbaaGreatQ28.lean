/-
  Joined texts: IV J0. Lemmas; no statement of a law.
-/
import Derived.Test.YtccnhpaldmjkbaaGreatQ26
set_option maxHeartbeats 16000000
set_option linter.unusedSimpArgs false
set_option linter.unusedVariables false
namespace Go.Proofs.YtccnhpaldmjkbaaGreat
open Go Go.RowKit Go.Av
set_option maxRecDepth 100000
theorem kN : Idle Tryz.prog 76 0 := by
  intro us w hl
  obtain ⟨_, rfl⟩ : ∃ _ : Unit, us = [] := by
    match us, hl with | [], _ => exact ⟨(), rfl⟩
  refine callsD_of_wpS Tryz.func76 rfl fun c₀ cs hu => ?_
  apply wpS_region
  simp [wpOpsS, go_sem, recoverD, hu, Tryz.ntmps76, Exit.thenS]
  cases c₀
  simp_all [bodyPostS, results, Tryz.results76]
theorem gF : Body Tryz.prog 76 := by unfold Body; kernel_rfl
theorem il_idle : Idle Tryz.prog 91 0 := by
  intro us w hl
  obtain ⟨_, rfl⟩ : ∃ _ : Unit, us = [] := by
    match us, hl with | [], _ => exact ⟨(), rfl⟩
  refine callsD_of_wpS Tryz.func91 rfl fun c₀ cs hu => ?_
  apply wpS_region
  simp [wpOpsS, go_sem, recoverD, hu, Tryz.ntmps91, Exit.thenS]
  cases c₀
  simp_all [bodyPostS, results, Tryz.results91]
theorem rX : Body Tryz.prog 91 := by unfold Body; kernel_rfl
def wordQ (w : Wd) : Prop := w ≠ [] ∧ w.length ≤ 32 ∧ ∀ b ∈ w, lowL b = true
instance (w : Wd) : Decidable (wordQ w) := by unfold wordQ; infer_instance
def goodP (p : List Po) (i : Nat) : Prop := ∀ x, p[i]? = some x → wordQ x.w ∧ rowP x.r ∧ 1 ≤ x.n ∧ x.n ≤ 262144 ∧ ∀ y, 0 < i → p[i - 1]? = some y → cmpP y x < 0
def valP (p : List Po) : Prop := ∀ i, i < p.length → goodP p i
theorem bvF {q : Prop} [Decidable q] (h : ¬ q) : bv false = bv (decide q) := by rw [decide_eq_false h]
theorem bvT {q : Prop} [Decidable q] (h : q) : bv true = bv (decide q) := by rw [decide_eq_true h]
def lkP (p : List Po) (w : Wd) : List En := (p.filter fun x => decide (x.w = w)).map fun x => ⟨x.r, x.n⟩
theorem vZ {p : List Po} {w : Wd} {i : Nat} {x : Po} (h : p[i]? = some x) : lkP (p.take (i + 1)) w = if x.w = w then lkP (p.take i) w ++ [⟨x.r, x.n⟩] else lkP (p.take i) w := by
  unfold lkP
  rw [List.take_add_one, h, Option.toList_some, List.filter_append]
  by_cases e : x.w = w
  · rw [if_pos e, List.map_append, List.filter_cons, if_pos (decide_eq_true e)]; rfl
  · rw [if_neg e, List.filter_cons, if_neg (by simp [e])]; simp
theorem oK (p : List Po) (w : Wd) : (lkP p w).length ≤ p.length := by unfold lkP; rw [List.length_map]; exact List.length_filter_le _ _
attribute [local irreducible] Still Adds AWL AW Drw DrwE EStep AC AWR Weak Frz Src RetK Out InK ItK AsK RdK
theorem isWord_ok (w : Wd) (hm : w.length ≤ maxLen) : AC Tryz.prog 77 [sv w] (.c (bv (decide (wordQ w)))) [] 0 := by
  have hsz := kF w
  by_cases h0 : w = []
  · have hb := bvF (q := wordQ w) fun h => h.1 h0
    have he := decide_eq_true h0
    refine aJ tabOk (sz := 23) Tryz.func77 rfl (by rw [Tryz.ntmps77]; rfl) ?_
    repeat' (first | ((with_reducible refine aB ?_); intro K hK hX) | ((with_reducible refine aC ?_); refine aD [0, 2, 4, 13, 14, 15] rfl rfl ?_) | (((with_reducible refine aH ?_); refine xA ?_); (first | ((with_reducible refine aU ?_); (first | refine aA (cC rfl rfl he) ?_)))) | refine stA ?_ | ((first | refine hK _ _ _ _ ?_ | refine hX _ _ _ _ _ (by simp) ?_); clear hK hX K))
    refine aK zio ztr rfl (ResL.one (ResA.tmp rfl)) (cE (bO (bY bL) (cV hb)))
  · have he := decide_eq_false h0
    by_cases h1 : 32 < w.length
    · have hb := bvF (q := wordQ w) fun h => by have := h.2.1; omega
      refine aJ tabOk (sz := 23) Tryz.func77 rfl (by rw [Tryz.ntmps77]; rfl) ?_
      repeat' (first | ((with_reducible refine aB ?_); intro K hK hX) | ((with_reducible refine aC ?_); refine aD [0, 2, 4, 13, 14, 15] rfl rfl ?_) | (((with_reducible refine aH ?_); refine xA ?_); (first | ((with_reducible refine aU ?_); (first | refine aA (cC rfl rfl he) ?_)))) | refine stA ?_ | ((first | refine hK _ _ _ _ ?_ | refine hX _ _ _ _ _ (by simp) ?_); clear hK hX K))
      refine aK zio ztr rfl (ResL.one (ResA.tmp rfl)) (cE (bO (bY bL) (cV hb)))
    · obtain ⟨n, hn⟩ : ∃ n, w.length = n := ⟨_, rfl⟩
      rw [hn] at hsz h1
      have hul : (u8c w).length = n := by rw [cZ, hn]
      refine aJ tabOk (sz := 23) Tryz.func77 rfl (by rw [Tryz.ntmps77]; rfl) ?_
      repeat' (first | ((with_reducible refine aB ?_); intro K hK hX) | ((with_reducible refine aC ?_); refine aD [0, 2, 4, 13, 14, 15] rfl rfl ?_) | (((with_reducible refine aH ?_); refine xA ?_); (first | ((with_reducible refine aU ?_); (first | refine aA (cC rfl rfl he) ?_)))) | refine stA ?_ | ((first | refine hK _ _ _ _ ?_ | refine hX _ _ _ _ _ (by simp) ?_); clear hK hX K))
      refine bC [15, 4, 12] [] rfl rfl (fun i : Nat => [(15, .c (iv i))]) (fun i => []) (fun i => i ≤ n ∧ ∀ b ∈ w.take i, lowL b = true) (fun i => n - i) 0 ⟨Nat.zero_le _, by simp⟩ weakA ?_
      rintro i ⟨hi, hall⟩ K hK hX
      by_cases hlt : i < n
      · obtain ⟨b, hb⟩ : ∃ b, w[i]? = some b := ⟨_, List.getElem?_eq_getElem (by omega)⟩
        have hbu := u8c_get hb
        have hlo := vW b
        by_cases hl : lowL b = true
        · have hnx : ∀ b ∈ w.take (i + 1), lowL b = true := fun c hc => by
            rw [List.take_add_one, hb, Option.toList_some] at hc
            rcases List.mem_append.1 hc with hc | hc
            · exact hall c hc
            · rw [List.mem_singleton.1 hc]; exact hl
          rw [hl] at hlo
          clear hall
          repeat' (first | ((with_reducible refine aB ?_); intro K hK hX) | ((with_reducible refine aC ?_); refine aD [0, 2, 4, 13, 14, 15] rfl rfl ?_) | ((with_reducible refine aE ?_); (first | refine zA ?_ | refine zN ?_); (first | refine c0 hlo ?_)) | (((with_reducible refine aH ?_); refine xA ?_); (first | ((with_reducible refine aP ?_); (first | refine aA (aR tabOk rfl rfl rfl rfl (by first | (rw [Nat.zero_add, Nat.mul_one]; exact hbu) | (rw [Nat.mul_one]; exact hbu))) ?_ | refine aA (aN tabOk rfl rfl rfl rfl (by first | (rw [Nat.zero_add, Nat.mul_one]; exact hbu) | (rw [Nat.mul_one]; exact hbu))) ?_ | refine aA (aM tabOk rfl rfl rfl (by first | (rw [Nat.zero_add, Nat.mul_one]; exact hbu) | (rw [Nat.mul_one]; exact hbu))) ?_)) | ((with_reducible refine bR ?_); (first | refine aA (s_ixV1 tabOk rfl rfl zcj rfl rfl rfl rfl rfl zle (by first | (rw [Nat.zero_add, Nat.mul_one]; exact hbu) | (rw [Nat.mul_one]; exact hbu))) ?_ | refine aA (aQ tabOk rfl rfl zcj rfl rfl (by first | (rw [Nat.zero_add, Nat.mul_one]; exact hbu) | (rw [Nat.mul_one]; exact hbu))) ?_)))) | refine stA ?_ | ((first | refine hK _ _ _ _ ?_ | refine hX _ _ _ _ _ (by simp) ?_); clear hK hX K))
          exact ⟨i + 1, ⟨by omega, hnx⟩, by omega, weakA⟩
        · have hl2 : lowL b = false := by simpa using hl
          rw [hl2] at hlo
          have hbad := bvF (q := wordQ w) fun h => hl (h.2.2 b (List.mem_of_getElem? hb))
          clear hall
          repeat' (first | ((with_reducible refine aB ?_); intro K hK hX) | ((with_reducible refine aC ?_); refine aD [0, 2, 4, 13, 14, 15] rfl rfl ?_) | ((with_reducible refine aE ?_); (first | refine zA ?_ | refine zN ?_); (first | refine c0 hlo ?_)) | (((with_reducible refine aH ?_); refine xA ?_); (first | ((with_reducible refine aP ?_); (first | refine aA (aR tabOk rfl rfl rfl rfl (by first | (rw [Nat.zero_add, Nat.mul_one]; exact hbu) | (rw [Nat.mul_one]; exact hbu))) ?_ | refine aA (aN tabOk rfl rfl rfl rfl (by first | (rw [Nat.zero_add, Nat.mul_one]; exact hbu) | (rw [Nat.mul_one]; exact hbu))) ?_ | refine aA (aM tabOk rfl rfl rfl (by first | (rw [Nat.zero_add, Nat.mul_one]; exact hbu) | (rw [Nat.mul_one]; exact hbu))) ?_)) | ((with_reducible refine bR ?_); (first | refine aA (s_ixV1 tabOk rfl rfl zcj rfl rfl rfl rfl rfl zle (by first | (rw [Nat.zero_add, Nat.mul_one]; exact hbu) | (rw [Nat.mul_one]; exact hbu))) ?_ | refine aA (aQ tabOk rfl rfl zcj rfl rfl (by first | (rw [Nat.zero_add, Nat.mul_one]; exact hbu) | (rw [Nat.mul_one]; exact hbu))) ?_)))) | refine stA ?_ | ((first | refine hK _ _ _ _ ?_ | refine hX _ _ _ _ _ (by simp) ?_); clear hK hX K))
          refine aK zio ztr rfl (ResL.one (ResA.tmp rfl)) (cE (bO (bY bL) (cV hbad)))
      · have hie : i = n := by omega
        have hgood := bvT (q := wordQ w) ⟨h0, by omega, fun b hb => hall b (by rw [List.take_of_length_le (by omega)]; exact hb)⟩
        rw [hie]
        clear hall
        repeat' (first | ((with_reducible refine aB ?_); intro K hK hX) | ((with_reducible refine aC ?_); refine aD [0, 2, 4, 13, 14, 15] rfl rfl ?_) | refine stA ?_ | ((first | refine hK _ _ _ _ ?_ | refine hX _ _ _ _ _ (by simp) ?_); clear hK hX K))
        refine aK zio ztr rfl (ResL.one (ResA.tmp rfl)) (cE (bO (bY bL) (cV hgood)))
theorem pcmp_ok (x y : Po) (hx : x.r.length ≤ maxLen) (hy : y.r.length ≤ maxLen) : AC Tryz.prog 79 [.agg x.c, .agg y.c] (.c (iv (cmpP x y))) [] 0 := by
  have h1 := scmp_ok x.w y.w
  have h2 := mF x.r y.r x.r.length y.r.length rfl rfl hx hy
  obtain ⟨xw, xr, xn⟩ := x
  obtain ⟨yw, yr, yn⟩ := y
  unfold cmpP
  simp only [Po.c] at *
  generalize Lib.compareBytes xw yw = c at *
  generalize cmpR xr yr = d at *
  by_cases h0 : c = 0
  · rw [if_neg (by omega)]
    refine aJ tabOk (sz := 19) Tryz.func79 rfl (by rw [Tryz.ntmps79]; rfl) ?_
    repeat' (first | ((with_reducible refine aB ?_); intro K hK hX) | ((with_reducible refine aC ?_); refine aD [0, 1, 2, 3, 4, 5] rfl rfl ?_) | ((with_reducible refine aE ?_); (first | refine zA ?_ | refine zN ?_); (first | refine c0 h1 ?_ | refine c0 h2 ?_)) | refine stA ?_ | ((first | refine hK _ _ _ _ ?_ | refine hX _ _ _ _ _ (by simp) ?_); clear hK hX K))
    refine aK zio ztr rfl (ResL.one (ResA.tmp rfl)) zou
  · rw [if_pos h0]
    refine aJ tabOk (sz := 19) Tryz.func79 rfl (by rw [Tryz.ntmps79]; rfl) ?_
    repeat' (first | ((with_reducible refine aB ?_); intro K hK hX) | ((with_reducible refine aC ?_); refine aD [0, 1, 2, 3, 4, 5] rfl rfl ?_) | ((with_reducible refine aE ?_); (first | refine zA ?_ | refine zN ?_); (first | refine c0 h1 ?_ | refine c0 h2 ?_)) | refine stA ?_ | ((first | refine hK _ _ _ _ ?_ | refine hX _ _ _ _ _ (by simp) ?_); clear hK hX K))
    refine aK zio ztr rfl (ResL.one (ResA.tmp rfl)) zou
open Classical in
theorem mB (p : List Po) (n : Nat) (hn : p.length = n) (hm : n ≤ maxLen) (hf : ∀ x ∈ p, x.r.length ≤ maxLen ∧ x.w.length ≤ maxLen) : AC Tryz.prog 32 [.sl 3 n (pc p)] (.c (bv (decide (valP p)))) [] 0 := by
  have hcl : (pc p).length = n * 3 := by rw [bQ, hn]
  have hm2 : n ≤ 9223372036854775807 := hm
  refine aJ tabOk (sz := 45) Tryz.func32 rfl (by rw [Tryz.ntmps32]; rfl) ?_
  repeat' (first | ((with_reducible refine aB ?_); intro K hK hX) | ((with_reducible refine aC ?_); refine aD [0, 2, 3, 4, 5, 6, 7] rfl rfl ?_) | ((with_reducible refine aF ?_); refine aG [0, 2, 3, 4, 5, 6, 7] rfl rfl ?_; refine aI [] ?_) | refine stA ?_ | refine stD ?_ | ((first | refine hK _ _ _ _ ?_ | refine hX _ _ _ _ _ (by simp) ?_); clear hK hX K))
  refine bC [7, 3, 4] [] rfl rfl (fun i : Nat => [(7, .c (iv i))]) (fun i => []) (fun i => i ≤ n ∧ ∀ j, j < i → goodP p j) (fun i => n - i) 0 ⟨Nat.zero_le _, fun j hj => absurd hj (by omega)⟩ weakA ?_
  rintro i ⟨hi, hall⟩ K hK hX
  by_cases hlt : i < n
  · obtain ⟨x, hx⟩ : ∃ x, p[i]? = some x := ⟨_, List.getElem?_eq_getElem (by omega)⟩
    have hat := iM hx
    obtain ⟨hfr, hfw⟩ := hf x (List.mem_of_getElem? hx)
    have hw1 := isWord_ok x.w hfw
    have hr1 := vrow_ok x.r x.r.length rfl hfr
    have hbd : ¬ goodP p i → ¬ valP p := fun h hv => h (hv i (by omega))
    have hat1 := True.intro
    have hcm := True.intro
    have hsub := True.intro
    by_cases g1 : wordQ x.w
    · rw [decide_eq_true g1] at hw1
      by_cases g2 : rowP x.r
      · rw [decide_eq_true g2] at hr1
        by_cases g3 : x.n < 1
        · have hbad := bvF (hbd fun h => by have := (h x hx).2.2.1; omega)
          clear hall hbd hf hx g1 g2 hfr hfw
          obtain ⟨w, r, c⟩ := x
          simp only [Po.c] at *
          repeat' (first | ((with_reducible refine aB ?_); intro K hK hX) | ((with_reducible refine aC ?_); refine aD [0, 2, 3, 4, 5, 6, 7] rfl rfl ?_) | ((with_reducible refine aF ?_); refine aG [0, 2, 3, 4, 5, 6, 7] rfl rfl ?_; refine aI [] ?_) | ((first | with_reducible refine aE ?_ | with_reducible refine aT ?_); (first | refine zA ?_ | refine zN ?_ | refine zD ?_); (first | refine c0 hw1 ?_ | refine c0 hr1 ?_ | refine c0 hcm ?_)) | ((first | ((with_reducible refine aH ?_); refine xA ?_) | ((with_reducible refine aO ?_); refine xD ?_)); (first | ((with_reducible refine aU ?_); (first | refine aA (bT rfl rfl rfl hsub) ?_)) | ((with_reducible refine aP ?_); (first | refine aA (aR tabOk rfl rfl rfl rfl (by exact hat)) ?_ | refine aA (aN tabOk rfl rfl rfl rfl (by exact hat)) ?_ | refine aA (aM tabOk rfl rfl rfl (by exact hat)) ?_ | refine aA (aW tabOk rfl rfl rfl rfl (by first | first | exact hat | exact hat1 | exact whole0 (by first | rfl | omega) | rfl) zln) ?_ | refine aA (aV tabOk rfl rfl rfl (by first | first | exact hat | exact hat1 | exact whole0 (by first | rfl | omega) | rfl) zln) ?_)) | ((with_reducible refine bR ?_); (first | refine aA (s_ixV1 tabOk rfl rfl zcj rfl rfl rfl rfl rfl zle (by exact hat)) ?_ | refine aA (aQ tabOk rfl rfl zcj rfl rfl (by exact hat)) ?_)) | ((with_reducible refine bE ?_); (first | refine aA (s_slArri tabOk rfl rfl rfl rfl zbd zbd zle zle (by decide) (by first | first | exact hat | exact hat1 | exact whole0 (by first | rfl | omega) | rfl) zln) ?_)))) | refine stA ?_ | refine stD ?_ | ((first | refine hK _ _ _ _ ?_ | refine hX _ _ _ _ _ (by simp) ?_); clear hK hX K))
          refine aK zio (by exact ⟨kN, gF, trivial⟩) rfl (ResL.one (ResA.tmp rfl)) (cE (bO (bY bL) (cV hbad)))
        · by_cases g4 : 262144 < x.n
          · have hbad := bvF (hbd fun h => by have := (h x hx).2.2.2.1; omega)
            clear hall hbd hf hx g1 g2 hfr hfw
            obtain ⟨w, r, c⟩ := x
            simp only [Po.c] at *
            repeat' (first | ((with_reducible refine aB ?_); intro K hK hX) | ((with_reducible refine aC ?_); refine aD [0, 2, 3, 4, 5, 6, 7] rfl rfl ?_) | ((with_reducible refine aF ?_); refine aG [0, 2, 3, 4, 5, 6, 7] rfl rfl ?_; refine aI [] ?_) | ((first | with_reducible refine aE ?_ | with_reducible refine aT ?_); (first | refine zA ?_ | refine zN ?_ | refine zD ?_); (first | refine c0 hw1 ?_ | refine c0 hr1 ?_ | refine c0 hcm ?_)) | ((first | ((with_reducible refine aH ?_); refine xA ?_) | ((with_reducible refine aO ?_); refine xD ?_)); (first | ((with_reducible refine aU ?_); (first | refine aA (bT rfl rfl rfl hsub) ?_)) | ((with_reducible refine aP ?_); (first | refine aA (aR tabOk rfl rfl rfl rfl (by exact hat)) ?_ | refine aA (aN tabOk rfl rfl rfl rfl (by exact hat)) ?_ | refine aA (aM tabOk rfl rfl rfl (by exact hat)) ?_ | refine aA (aW tabOk rfl rfl rfl rfl (by first | first | exact hat | exact hat1 | exact whole0 (by first | rfl | omega) | rfl) zln) ?_ | refine aA (aV tabOk rfl rfl rfl (by first | first | exact hat | exact hat1 | exact whole0 (by first | rfl | omega) | rfl) zln) ?_)) | ((with_reducible refine bR ?_); (first | refine aA (s_ixV1 tabOk rfl rfl zcj rfl rfl rfl rfl rfl zle (by exact hat)) ?_ | refine aA (aQ tabOk rfl rfl zcj rfl rfl (by exact hat)) ?_)) | ((with_reducible refine bE ?_); (first | refine aA (s_slArri tabOk rfl rfl rfl rfl zbd zbd zle zle (by decide) (by first | first | exact hat | exact hat1 | exact whole0 (by first | rfl | omega) | rfl) zln) ?_)))) | refine stA ?_ | refine stD ?_ | ((first | refine hK _ _ _ _ ?_ | refine hX _ _ _ _ _ (by simp) ?_); clear hK hX K))
            refine aK zio (by exact ⟨kN, gF, trivial⟩) rfl (ResL.one (ResA.tmp rfl)) (cE (bO (bY bL) (cV hbad)))
          · by_cases hi0 : i = 0
            · have hnx : ∀ j, j < i + 1 → goodP p j := fun j hj => by
                have : j = i := by omega
                subst this
                intro x' hx'
                rw [hx] at hx'
                injection hx' with hx'
                subst hx'
                exact ⟨g1, g2, by omega, by omega, fun y h => by omega⟩
              clear hall hbd hf hx g1 g2 hfr hfw
              obtain ⟨w, r, c⟩ := x
              simp only [Po.c] at *
              repeat' (first | ((with_reducible refine aB ?_); intro K hK hX) | ((with_reducible refine aC ?_); refine aD [0, 2, 3, 4, 5, 6, 7] rfl rfl ?_) | ((with_reducible refine aF ?_); refine aG [0, 2, 3, 4, 5, 6, 7] rfl rfl ?_; refine aI [] ?_) | ((first | with_reducible refine aE ?_ | with_reducible refine aT ?_); (first | refine zA ?_ | refine zN ?_ | refine zD ?_); (first | refine c0 hw1 ?_ | refine c0 hr1 ?_)) | ((first | ((with_reducible refine aH ?_); refine xA ?_) | ((with_reducible refine aO ?_); refine xD ?_)); (first | ((with_reducible refine aP ?_); (first | refine aA (aW tabOk rfl rfl rfl rfl (by first | exact hat | exact whole0 (by first | rfl | omega) | rfl) zln) ?_ | refine aA (aV tabOk rfl rfl rfl (by first | exact hat | exact whole0 (by first | rfl | omega) | rfl) zln) ?_)) | ((with_reducible refine bE ?_); (first | refine aA (s_slArri tabOk rfl rfl rfl rfl zbd zbd zle zle (by decide) (by first | exact hat | exact whole0 (by first | rfl | omega) | rfl) zln) ?_)))) | refine stA ?_ | refine stD ?_ | ((first | refine hK _ _ _ _ ?_ | refine hX _ _ _ _ _ (by simp) ?_); clear hK hX K))
              exact ⟨i + 1, ⟨by omega, hnx⟩, by omega, weakA⟩
            · obtain ⟨y, hy⟩ : ∃ y, p[i - 1]? = some y := ⟨_, List.getElem?_eq_getElem (by omega)⟩
              have hat1 := iM hy
              have hsub : IntKind.i64.wrap ((i : Int) - 1) = ((i - 1 : Nat) : Int) := by
                rw [show ((i : Int) - 1) = ((i - 1 : Nat) : Int) by omega]
                simp only [maxLen] at hm
                exact w64 (by omega) (by omega)
              have hcm := pcmp_ok y x (hf y (List.mem_of_getElem? hy)).1 hfr
              by_cases g5 : cmpP y x < 0
              · have hnx : ∀ j, j < i + 1 → goodP p j := fun j hj => by
                  rcases (show j < i ∨ j = i by omega) with h | h
                  · exact hall j h
                  · subst h
                    intro x' hx'
                    rw [hx] at hx'
                    injection hx' with hx'
                    subst hx'
                    refine ⟨g1, g2, by omega, by omega, fun y' _ hy' => ?_⟩
                    rw [hy] at hy'
                    injection hy' with hy'
                    subst hy'
                    exact g5
                generalize cmpP y x = c' at hcm g5
                clear hall hbd hf hx hy g1 g2 hfr hfw
                obtain ⟨w, r, c⟩ := x
                obtain ⟨w', r', c''⟩ := y
                simp only [Po.c] at *
                repeat' (first | ((with_reducible refine aB ?_); intro K hK hX) | ((with_reducible refine aC ?_); refine aD [0, 2, 3, 4, 5, 6, 7] rfl rfl ?_) | ((with_reducible refine aF ?_); refine aG [0, 2, 3, 4, 5, 6, 7] rfl rfl ?_; refine aI [] ?_) | ((first | with_reducible refine aE ?_ | with_reducible refine aT ?_); (first | refine zA ?_ | refine zN ?_ | refine zD ?_); (first | refine c0 hw1 ?_ | refine c0 hr1 ?_ | refine c0 hcm ?_)) | ((first | ((with_reducible refine aH ?_); refine xA ?_) | ((with_reducible refine aO ?_); refine xD ?_)); (first | ((with_reducible refine aU ?_); (first | refine aA (bT rfl rfl rfl hsub) ?_)) | ((with_reducible refine aP ?_); (first | refine aA (aW tabOk rfl rfl rfl rfl (by first | first | exact hat | exact hat1 | exact whole0 (by first | rfl | omega) | rfl) zln) ?_ | refine aA (aV tabOk rfl rfl rfl (by first | first | exact hat | exact hat1 | exact whole0 (by first | rfl | omega) | rfl) zln) ?_)) | ((with_reducible refine bE ?_); (first | refine aA (s_slArri tabOk rfl rfl rfl rfl zbd zbd zle zle (by decide) (by first | first | exact hat | exact hat1 | exact whole0 (by first | rfl | omega) | rfl) zln) ?_)))) | refine stA ?_ | refine stD ?_ | ((first | refine hK _ _ _ _ ?_ | refine hX _ _ _ _ _ (by simp) ?_); clear hK hX K))
                exact ⟨i + 1, ⟨by omega, hnx⟩, by omega, weakA⟩
              · have hbad := bvF (hbd fun h => g5 ((h x hx).2.2.2.2 y (by omega) hy))
                generalize cmpP y x = c' at hcm g5
                clear hall hbd hf hx hy g1 g2 hfr hfw
                obtain ⟨w, r, c⟩ := x
                obtain ⟨w', r', c''⟩ := y
                simp only [Po.c] at *
                repeat' (first | ((with_reducible refine aB ?_); intro K hK hX) | ((with_reducible refine aC ?_); refine aD [0, 2, 3, 4, 5, 6, 7] rfl rfl ?_) | ((with_reducible refine aF ?_); refine aG [0, 2, 3, 4, 5, 6, 7] rfl rfl ?_; refine aI [] ?_) | ((first | with_reducible refine aE ?_ | with_reducible refine aT ?_); (first | refine zA ?_ | refine zN ?_ | refine zD ?_); (first | refine c0 hw1 ?_ | refine c0 hr1 ?_ | refine c0 hcm ?_)) | ((first | ((with_reducible refine aH ?_); refine xA ?_) | ((with_reducible refine aO ?_); refine xD ?_)); (first | ((with_reducible refine aU ?_); (first | refine aA (bT rfl rfl rfl hsub) ?_)) | ((with_reducible refine aP ?_); (first | refine aA (aR tabOk rfl rfl rfl rfl (by exact hat)) ?_ | refine aA (aN tabOk rfl rfl rfl rfl (by exact hat)) ?_ | refine aA (aM tabOk rfl rfl rfl (by exact hat)) ?_ | refine aA (aW tabOk rfl rfl rfl rfl (by first | first | exact hat | exact hat1 | exact whole0 (by first | rfl | omega) | rfl) zln) ?_ | refine aA (aV tabOk rfl rfl rfl (by first | first | exact hat | exact hat1 | exact whole0 (by first | rfl | omega) | rfl) zln) ?_)) | ((with_reducible refine bR ?_); (first | refine aA (s_ixV1 tabOk rfl rfl zcj rfl rfl rfl rfl rfl zle (by exact hat)) ?_ | refine aA (aQ tabOk rfl rfl zcj rfl rfl (by exact hat)) ?_)) | ((with_reducible refine bE ?_); (first | refine aA (s_slArri tabOk rfl rfl rfl rfl zbd zbd zle zle (by decide) (by first | first | exact hat | exact hat1 | exact whole0 (by first | rfl | omega) | rfl) zln) ?_)))) | refine stA ?_ | refine stD ?_ | ((first | refine hK _ _ _ _ ?_ | refine hX _ _ _ _ _ (by simp) ?_); clear hK hX K))
                refine aK zio (by exact ⟨kN, gF, trivial⟩) rfl (ResL.one (ResA.tmp rfl)) (cE (bO (bY bL) (cV hbad)))
      · rw [decide_eq_false g2] at hr1
        have hbad := bvF (hbd fun h => g2 (h x hx).2.1)
        clear hall hbd hf hx g1 g2 hfr hfw
        obtain ⟨w, r, c⟩ := x
        simp only [Po.c] at *
        repeat' (first | ((with_reducible refine aB ?_); intro K hK hX) | ((with_reducible refine aC ?_); refine aD [0, 2, 3, 4, 5, 6, 7] rfl rfl ?_) | ((with_reducible refine aF ?_); refine aG [0, 2, 3, 4, 5, 6, 7] rfl rfl ?_; refine aI [] ?_) | ((first | with_reducible refine aE ?_ | with_reducible refine aT ?_); (first | refine zA ?_ | refine zN ?_ | refine zD ?_); (first | refine c0 hw1 ?_ | refine c0 hr1 ?_ | refine c0 hcm ?_)) | ((first | ((with_reducible refine aH ?_); refine xA ?_) | ((with_reducible refine aO ?_); refine xD ?_)); (first | ((with_reducible refine aU ?_); (first | refine aA (bT rfl rfl rfl hsub) ?_)) | ((with_reducible refine aP ?_); (first | refine aA (aR tabOk rfl rfl rfl rfl (by exact hat)) ?_ | refine aA (aN tabOk rfl rfl rfl rfl (by exact hat)) ?_ | refine aA (aM tabOk rfl rfl rfl (by exact hat)) ?_ | refine aA (aW tabOk rfl rfl rfl rfl (by first | first | exact hat | exact hat1 | exact whole0 (by first | rfl | omega) | rfl) zln) ?_ | refine aA (aV tabOk rfl rfl rfl (by first | first | exact hat | exact hat1 | exact whole0 (by first | rfl | omega) | rfl) zln) ?_)) | ((with_reducible refine bR ?_); (first | refine aA (s_ixV1 tabOk rfl rfl zcj rfl rfl rfl rfl rfl zle (by exact hat)) ?_ | refine aA (aQ tabOk rfl rfl zcj rfl rfl (by exact hat)) ?_)) | ((with_reducible refine bE ?_); (first | refine aA (s_slArri tabOk rfl rfl rfl rfl zbd zbd zle zle (by decide) (by first | first | exact hat | exact hat1 | exact whole0 (by first | rfl | omega) | rfl) zln) ?_)))) | refine stA ?_ | refine stD ?_ | ((first | refine hK _ _ _ _ ?_ | refine hX _ _ _ _ _ (by simp) ?_); clear hK hX K))
        refine aK zio (by exact ⟨kN, gF, trivial⟩) rfl (ResL.one (ResA.tmp rfl)) (cE (bO (bY bL) (cV hbad)))
    · rw [decide_eq_false g1] at hw1
      have hbad := bvF (hbd fun h => g1 (h x hx).1)
      clear hall hbd hf hx g1 hfr hfw
      obtain ⟨w, r, c⟩ := x
      simp only [Po.c] at *
      repeat' (first | ((with_reducible refine aB ?_); intro K hK hX) | ((with_reducible refine aC ?_); refine aD [0, 2, 3, 4, 5, 6, 7] rfl rfl ?_) | ((with_reducible refine aF ?_); refine aG [0, 2, 3, 4, 5, 6, 7] rfl rfl ?_; refine aI [] ?_) | ((first | with_reducible refine aE ?_ | with_reducible refine aT ?_); (first | refine zA ?_ | refine zN ?_ | refine zD ?_); (first | refine c0 hw1 ?_ | refine c0 hr1 ?_ | refine c0 hcm ?_)) | ((first | ((with_reducible refine aH ?_); refine xA ?_) | ((with_reducible refine aO ?_); refine xD ?_)); (first | ((with_reducible refine aU ?_); (first | refine aA (bT rfl rfl rfl hsub) ?_)) | ((with_reducible refine aP ?_); (first | refine aA (aR tabOk rfl rfl rfl rfl (by exact hat)) ?_ | refine aA (aN tabOk rfl rfl rfl rfl (by exact hat)) ?_ | refine aA (aM tabOk rfl rfl rfl (by exact hat)) ?_ | refine aA (aW tabOk rfl rfl rfl rfl (by first | first | exact hat | exact hat1 | exact whole0 (by first | rfl | omega) | rfl) zln) ?_ | refine aA (aV tabOk rfl rfl rfl (by first | first | exact hat | exact hat1 | exact whole0 (by first | rfl | omega) | rfl) zln) ?_)) | ((with_reducible refine bR ?_); (first | refine aA (s_ixV1 tabOk rfl rfl zcj rfl rfl rfl rfl rfl zle (by exact hat)) ?_ | refine aA (aQ tabOk rfl rfl zcj rfl rfl (by exact hat)) ?_)) | ((with_reducible refine bE ?_); (first | refine aA (s_slArri tabOk rfl rfl rfl rfl zbd zbd zle zle (by decide) (by first | first | exact hat | exact hat1 | exact whole0 (by first | rfl | omega) | rfl) zln) ?_)))) | refine stA ?_ | refine stD ?_ | ((first | refine hK _ _ _ _ ?_ | refine hX _ _ _ _ _ (by simp) ?_); clear hK hX K))
      refine aK zio (by exact ⟨kN, gF, trivial⟩) rfl (ResL.one (ResA.tmp rfl)) (cE (bO (bY bL) (cV hbad)))
  · have hie : i = n := by omega
    have hgood := bvT (q := valP p) fun j hj => hall j (by omega)
    rw [hie]
    clear hall hf
    repeat' (first | ((with_reducible refine aB ?_); intro K hK hX) | ((with_reducible refine aC ?_); refine aD [0, 2, 3, 4, 5, 6, 7] rfl rfl ?_) | ((with_reducible refine aF ?_); refine aG [0, 2, 3, 4, 5, 6, 7] rfl rfl ?_; refine aI [] ?_) | refine stA ?_ | refine stD ?_ | ((first | refine hK _ _ _ _ ?_ | refine hX _ _ _ _ _ (by simp) ?_); clear hK hX K))
    refine aK zio (by exact ⟨kN, gF, trivial⟩) rfl (ResL.one (ResA.tmp rfl)) (cE (bO (bY bL) (cV hgood)))
open Classical in
theorem ilook_bad (p : List Po) (n : Nat) (w : Wd) (hn : p.length = n) (hm : n ≤ maxLen) (hf : ∀ x ∈ p, x.r.length ≤ maxLen ∧ x.w.length ≤ maxLen) (hv : ¬ valP p) : AC Tryz.prog 38 [.sl 3 n (pc p), sv w] (.c (.sl 2 0 [])) [] 0 := by
  have h1 := mB p n hn hm hf
  rw [decide_eq_false hv] at h1
  refine aJ tabOk (sz := 32) Tryz.func38 rfl (by rw [Tryz.ntmps38]; rfl) ?_
  repeat' (first | ((with_reducible refine aB ?_); intro K hK hX) | ((with_reducible refine aC ?_); refine aD [0, 1, 4, 5, 7, 11, 12, 13] rfl rfl ?_) | ((with_reducible refine aF ?_); refine aG [0, 1, 4, 5, 7, 11, 12, 13] rfl rfl ?_; refine aI [] ?_) | ((first | with_reducible refine aE ?_ | with_reducible refine aT ?_); (first | refine zA ?_ | refine zN ?_ | refine zD ?_); (first | refine c0 h1 ?_)) | refine stA ?_ | refine stD ?_ | ((first | refine hK _ _ _ _ ?_ | refine hX _ _ _ _ _ (by simp) ?_); clear hK hX K))
  refine aK zio (by exact ⟨il_idle, rX, trivial⟩) rfl (ResL.one (ResA.tmp rfl)) zou
open Classical in
theorem ilook_ok (p : List Po) (n : Nat) (w : Wd) (hn : p.length = n) (hm : n ≤ 1000000) (hf : ∀ x ∈ p, x.r.length ≤ maxLen ∧ x.w.length ≤ maxLen) (hv : valP p) (M : Nat) (hM : (lkP p w).length = M) : AC Tryz.prog 38 [.sl 3 n (pc p), sv w] (.c (.sl 2 M (ec (lkP p w)))) [] 0 := by
  have h1 := mB p n hn (by simp only [maxLen]; omega) hf
  rw [decide_eq_true hv] at h1
  have hcl : (pc p).length = n * 3 := by rw [bQ, hn]
  have hrow : ∀ x ∈ p, x.r.length ≤ 16 := fun x hx => by
    obtain ⟨i, hi⟩ := List.mem_iff_getElem?.1 hx
    exact (hv i (List.getElem?_eq_some_iff.1 hi).1 x hi).2.1.1
  obtain ⟨q, hq⟩ : ∃ q : Nat → Nat, ∀ i, (lkP (p.take i) w).length = q i := ⟨_, fun _ => rfl⟩
  have hql : ∀ i, q i ≤ 1000000 := fun i => by
    have := oK (p.take i) w
    rw [hq, List.length_take] at this
    omega
  have hq0 : 0 = q 0 := by rw [← hq]; rfl
  have hqn : q n = M := by rw [← hq, List.take_of_length_le (by omega), hM]
  have hrn : ec (lkP (p.take n) w) = ec (lkP p w) := by rw [List.take_of_length_le (by omega)]
  generalize ec (lkP p w) = R at hrn ⊢
  clear hM hv hf
  refine aJ tabOk (sz := 32) Tryz.func38 rfl (by rw [Tryz.ntmps38]; rfl) ?_
  repeat' (first | ((with_reducible refine aB ?_); intro K hK hX) | ((with_reducible refine aC ?_); refine aD [0, 1, 4, 5, 7, 11, 12, 13] rfl rfl ?_) | ((with_reducible refine aF ?_); refine aG [0, 1, 4, 5, 7, 11, 12, 13] rfl rfl ?_; refine aI [] ?_) | ((first | with_reducible refine aE ?_ | with_reducible refine aT ?_); (first | refine zA ?_ | refine zN ?_ | refine zD ?_); (first | refine c0 h1 ?_)) | refine stA ?_ | refine stD ?_ | ((first | refine hK _ _ _ _ ?_ | refine hX _ _ _ _ _ (by simp) ?_); clear hK hX K))
  refine dK 5 68 2 rfl ?_
  refine bC [5, 13, 7] [0] rfl rfl (fun i : Nat => [(5, .own 0 0 (q i) 2 true), (13, .c (iv i))]) (fun i => [(0, .row 68 (ec (lkP (p.take i) w)))]) (fun i => i ≤ n) (fun i => n - i) 0 (Nat.zero_le _) (by refine bZ rfl ?_ ?_ rfl <;> (repeat' (first | exact bG | exact bM | refine aZ rfl (by first | rfl | (first | exact congrArg (fun x => AV.own 0 0 x 2 true) hq0) | exact zeq) rfl ?_ | refine aY rfl (by first | rfl | (first | exact congrArg (fun x => AV.own 0 0 x 2 true) hq0) | exact zeq) rfl ?_))) ?_
  intro i hi K hK hX
  have hqi := hql i
  have hLl : (ec (lkP (p.take i) w)).length = q i * 2 := by rw [bH, hq]
  by_cases hlt : i < n
  · obtain ⟨x, hx⟩ : ∃ x, p[i]? = some x := ⟨_, List.getElem?_eq_getElem (by omega)⟩
    have hat := iM hx
    have hst := vZ (w := w) hx
    have hqs := hq (i + 1)
    have hcl2 := mX x.r x.r.length rfl (by have := hrow x (List.mem_of_getElem? hx); omega)
    by_cases he : x.w = w
    · rw [if_pos he] at hst
      have heq := decide_eq_true he
      rw [hst, List.length_append, hq] at hqs
      have hqe : q i + 1 = q (i + 1) := hqs
      have hnx : ec (lkP (p.take i) w) ++ [.sl 3 x.r.length (rc x.r), iv x.n] = ec (lkP (p.take (i + 1)) w) := by rw [hst, iW]; rfl
      clear hst hqs hq hrow hx hrn hq0 he
      generalize ec (lkP (p.take i) w) = L at *
      obtain ⟨w', r, c⟩ := x
      simp only [Po.c] at *
      repeat' (first | ((with_reducible refine aB ?_); intro K hK hX) | ((with_reducible refine aC ?_); refine aD [0, 1, 4, 5, 7, 11, 12, 13] rfl rfl ?_) | ((with_reducible refine aF ?_); refine aG [0, 1, 4, 5, 7, 11, 12, 13] rfl rfl ?_; refine aI [] ?_) | ((first | with_reducible refine aE ?_ | with_reducible refine aT ?_); (first | refine zA ?_ | refine zN ?_ | refine zD ?_); (first | refine c0 hcl2 ?_)) | ((first | ((with_reducible refine aH ?_); refine xA ?_) | ((with_reducible refine aO ?_); refine xD ?_)); (first | ((with_reducible refine aU ?_); (first | refine aA (cC rfl rfl heq) ?_)) | ((with_reducible refine aP ?_); (first | refine aA (aW tabOk rfl rfl rfl rfl (by first | exact hat | exact whole0 (by first | rfl | omega) | rfl) zln) ?_ | refine aA (aV tabOk rfl rfl rfl (by first | exact hat | exact whole0 (by first | rfl | omega) | rfl) zln) ?_)) | ((with_reducible refine bE ?_); (first | refine aA (s_slArri tabOk rfl rfl rfl rfl zbd zbd zle zle (by decide) (by first | exact hat | exact whole0 (by first | rfl | omega) | rfl) zln) ?_)))) | refine stA ?_ | refine stD ?_ | ((first | refine hK _ _ _ _ ?_ | refine hX _ _ _ _ _ (by simp) ?_); clear hK hX K))
      exact ⟨i + 1, by omega, by omega, (by refine bS [3] rfl rfl ?_ ?_ rfl rfl <;> (repeat' (first | exact bI | exact bJ | refine bF rfl (by first | rfl | (exact congrArg (AObj.row 68) hnx) | exact zeq) rfl ?_ | refine bB rfl (by first | rfl | (exact congrArg (AObj.row 68) hnx) | exact zeq) rfl ?_)))⟩
    · rw [if_neg he] at hst
      have heq := decide_eq_false he
      rw [hst, hq] at hqs
      have hnx : ec (lkP (p.take i) w) = ec (lkP (p.take (i + 1)) w) := by rw [hst]
      clear hst hq hrow hx hrn hq0 he
      generalize ec (lkP (p.take i) w) = L at *
      obtain ⟨w', r, c⟩ := x
      simp only [Po.c] at *
      repeat' (first | ((with_reducible refine aB ?_); intro K hK hX) | ((with_reducible refine aC ?_); refine aD [0, 1, 4, 5, 7, 11, 12, 13] rfl rfl ?_) | ((with_reducible refine aF ?_); refine aG [0, 1, 4, 5, 7, 11, 12, 13] rfl rfl ?_; refine aI [] ?_) | ((first | ((with_reducible refine aH ?_); refine xA ?_) | ((with_reducible refine aO ?_); refine xD ?_)); (first | ((with_reducible refine aU ?_); (first | refine aA (cC rfl rfl heq) ?_)) | ((with_reducible refine aP ?_); (first | refine aA (aW tabOk rfl rfl rfl rfl (by first | exact hat | exact whole0 (by first | rfl | omega) | rfl) zln) ?_ | refine aA (aV tabOk rfl rfl rfl (by first | exact hat | exact whole0 (by first | rfl | omega) | rfl) zln) ?_)) | ((with_reducible refine bE ?_); (first | refine aA (s_slArri tabOk rfl rfl rfl rfl zbd zbd zle zle (by decide) (by first | exact hat | exact whole0 (by first | rfl | omega) | rfl) zln) ?_)))) | refine stA ?_ | refine stD ?_ | ((first | refine hK _ _ _ _ ?_ | refine hX _ _ _ _ _ (by simp) ?_); clear hK hX K))
      exact ⟨i + 1, by omega, by omega, (by refine bZ rfl ?_ ?_ rfl <;> (repeat' (first | exact bG | exact bM | refine aZ rfl (by first | rfl | (first | exact congrArg (fun x => AV.own 0 0 x 2 true) hqs | exact congrArg (AObj.row 68) hnx) | exact zeq) rfl ?_ | refine aY rfl (by first | rfl | (first | exact congrArg (fun x => AV.own 0 0 x 2 true) hqs | exact congrArg (AObj.row 68) hnx) | exact zeq) rfl ?_)))⟩
  · have hie : i = n := by omega
    rw [hie] at hLl ⊢
    clear hq hrow hq0
    repeat' (first | ((with_reducible refine aB ?_); intro K hK hX) | ((with_reducible refine aC ?_); refine aD [0, 1, 4, 5, 7, 11, 12, 13] rfl rfl ?_) | ((with_reducible refine aF ?_); refine aG [0, 1, 4, 5, 7, 11, 12, 13] rfl rfl ?_; refine aI [] ?_) | refine stA ?_ | refine stD ?_ | ((first | refine hK _ _ _ _ ?_ | refine hX _ _ _ _ _ (by simp) ?_); clear hK hX K))
    refine aK zio (by exact ⟨il_idle, rX, trivial⟩) rfl (ResL.one (ResA.tmp rfl)) (cE (bO (cD rfl rfl hLl) (dA hqn hrn)))
end Go.Proofs.YtccnhpaldmjkbaaGreat
namespace Go.Proofs.YtccnhpaldmjkbaaGreat
open Go Go.RowKit Go.Av
set_option maxRecDepth 100000
theorem gL {p : List Po} (hv : valP p) : (p.Pairwise fun x y => cmpP x y < 0) ∧ ∀ x ∈ p, wordQ x.w ∧ rowP x.r ∧ 1 ≤ x.n ∧ x.n ≤ 262144 := by
  have h2 : ∀ x ∈ p, wordQ x.w ∧ rowP x.r ∧ 1 ≤ x.n ∧ x.n ≤ 262144 := fun x hx => by
    obtain ⟨i, hi⟩ := List.mem_iff_getElem?.1 hx
    obtain ⟨a, b, c, d, _⟩ := hv i (List.getElem?_eq_some_iff.1 hi).1 x hi
    exact ⟨a, b, c, d⟩
  refine ⟨?_, h2⟩
  have h3 : ∀ i, i < p.length → ∀ x y, 0 < i → p[i - 1]? = some y → p[i]? = some x → cmpP y x < 0 := fun i hi x y h0 hy hx => (hv i hi x hx).2.2.2.2 y h0 hy
  clear hv h2
  induction p with
  | nil => exact List.Pairwise.nil
  | cons e b ih =>
    have ih := ih fun i hi x y h0 hy hx => by
      obtain ⟨j, rfl⟩ : ∃ j, i = j + 1 := ⟨i - 1, by omega⟩
      exact h3 (j + 1 + 1) (by simpa using hi) x y (by omega) (by simpa using hy) (by simpa using hx)
    refine List.pairwise_cons.2 ⟨?_, ih⟩
    match b, ih with
    | [], _ => exact fun f hf => by cases hf
    | f :: b, ih =>
      have h4 : cmpP e f < 0 := h3 1 (by simp) f e (by omega) rfl rfl
      intro g hg
      rcases List.mem_cons.1 hg with rfl | hg
      · exact h4
      · exact gc_P.lt h4 ((List.pairwise_cons.1 ih).1 g hg)
end Go.Proofs.YtccnhpaldmjkbaaGreat
