/-
  Joined texts: IV. Lemmas; no statement of a law.
-/
import Derived.Test.YtccnhpaldmjkbaaM17
set_option linter.unusedSimpArgs false
set_option linter.unusedVariables false
namespace Go.Proofs.Ytccnhpaldmjkbaa
open Go Go.RowKit Go.Av
set_option maxRecDepth 100000
theorem iv_idle : Idle Try.prog 74 0 := by
  intro us w hl
  obtain ⟨_, rfl⟩ : ∃ _ : Unit, us = [] := by
    match us, hl with | [], _ => exact ⟨(), rfl⟩
  refine callsD_of_wpS Try.func74 rfl fun c₀ cs hu => ?_
  apply wpS_region
  simp [wpOpsS, go_sem, recoverD, hu, Try.ntmps74, Exit.thenS]
  cases c₀
  simp_all [bodyPostS, results, Try.results74]
theorem iv_idle_b : Body Try.prog 74 := by unfold Body; kernel_rfl
/-- What a word is. -/
def wordQ (w : Wd) : Prop := w ≠ [] ∧ w.length ≤ 32 ∧ ∀ b ∈ w, lowL b = true
instance (w : Wd) : Decidable (wordQ w) := by unfold wordQ; infer_instance
def goodP (p : List Po) (i : Nat) : Prop := ∀ x, p[i]? = some x → wordQ x.w ∧ rowP x.r ∧ 1 ≤ x.n ∧ x.n ≤ 262144 ∧ ∀ y, 0 < i → p[i - 1]? = some y → cmpP y x < 0
def valP (p : List Po) : Prop := ∀ i, i < p.length → goodP p i
theorem bvF {q : Prop} [Decidable q] (h : ¬ q) : bv false = bv (decide q) := by rw [decide_eq_false h]
theorem bvT {q : Prop} [Decidable q] (h : q) : bv true = bv (decide q) := by rw [decide_eq_true h]
/-- The rows of a word. -/
def lkP (p : List Po) (w : Wd) : List En := (p.filter fun x => decide (x.w = w)).map fun x => ⟨x.r, x.n⟩
attribute [local irreducible] Still Adds AWL AW Drw DrwE EStep AC AWR Weak Frz Src RetK Out InK ItK AsK RdK
set_option maxHeartbeats 4000000 in
theorem isWord_ok (w : Wd) (hm : w.length ≤ maxLen) : AC Try.prog 75 [sv w] (.c (bv (decide (wordQ w)))) [] 0 := by
  have hsz := sv_len w
  by_cases h0 : w = []
  · have hb := bvF (q := wordQ w) fun h => h.1 h0
    have he := decide_eq_true h0
    refine ac_enter tabOk (sz := 23) Try.func75 rfl (by rw [Try.ntmps75]; rfl) ?_
    repeat' (first | ((with_reducible refine aw_seqk ?_); intro K hK hX) | ((with_reducible refine isC_reg ?_); refine aw_prune [0, 2, 4, 13, 14, 15] rfl rfl ?_; with_reducible refine aw_region ?_) | (((with_reducible refine isA_any ?_); refine xA ?_); (first | ((with_reducible refine e_bin ?_); (first | refine ex_i (s_eqlL rfl rfl he) ?_)))) | refine stA ?_ | (refine hK _ _ _ _ ?_; clear hK hX K) | (refine hX _ _ _ _ _ (by simp) ?_; clear hK hX K))
    refine retK_mk zio ztr rfl (ResL.one (ResA.tmp rfl)) (out_c (frz_cv (frz_c cv_rfl) (cv_eq hb)))
  · have he := decide_eq_false h0
    by_cases h1 : 32 < w.length
    · have hb := bvF (q := wordQ w) fun h => by have := h.2.1; omega
      refine ac_enter tabOk (sz := 23) Try.func75 rfl (by rw [Try.ntmps75]; rfl) ?_
      repeat' (first | ((with_reducible refine aw_seqk ?_); intro K hK hX) | ((with_reducible refine isC_reg ?_); refine aw_prune [0, 2, 4, 13, 14, 15] rfl rfl ?_; with_reducible refine aw_region ?_) | (((with_reducible refine isA_any ?_); refine xA ?_); (first | ((with_reducible refine e_bin ?_); (first | refine ex_i (s_eqlL rfl rfl he) ?_)))) | refine stA ?_ | (refine hK _ _ _ _ ?_; clear hK hX K) | (refine hX _ _ _ _ _ (by simp) ?_; clear hK hX K))
      refine retK_mk zio ztr rfl (ResL.one (ResA.tmp rfl)) (out_c (frz_cv (frz_c cv_rfl) (cv_eq hb)))
    · obtain ⟨n, hn⟩ : ∃ n, w.length = n := ⟨_, rfl⟩
      rw [hn] at hsz h1
      have hul : (u8c w).length = n := by rw [u8c_length, hn]
      refine ac_enter tabOk (sz := 23) Try.func75 rfl (by rw [Try.ntmps75]; rfl) ?_
      repeat' (first | ((with_reducible refine aw_seqk ?_); intro K hK hX) | ((with_reducible refine isC_reg ?_); refine aw_prune [0, 2, 4, 13, 14, 15] rfl rfl ?_; with_reducible refine aw_region ?_) | (((with_reducible refine isA_any ?_); refine xA ?_); (first | ((with_reducible refine e_bin ?_); (first | refine ex_i (s_eqlL rfl rfl he) ?_)))) | refine stA ?_ | (refine hK _ _ _ _ ?_; clear hK hX K) | (refine hX _ _ _ _ _ (by simp) ?_; clear hK hX K))
      refine aw_loopo [15, 4, 12] [] rfl rfl (fun i : Nat => [(15, .c (iv i))]) (fun i => []) (fun i => i ≤ n ∧ ∀ b ∈ w.take i, lowL b = true) (fun i => n - i) 0 ⟨Nat.zero_le _, by simp⟩ weakA ?_
      rintro i ⟨hi, hall⟩ K hK hX
      by_cases hlt : i < n
      · obtain ⟨b, hb⟩ : ∃ b, w[i]? = some b := ⟨_, List.getElem?_eq_getElem (by omega)⟩
        have hbu := u8c_get hb
        have hlo := isLow_ok b
        by_cases hl : lowL b = true
        · have hnx : ∀ b ∈ w.take (i + 1), lowL b = true := fun c hc => by
            rw [List.take_add_one, hb, Option.toList_some] at hc
            rcases List.mem_append.1 hc with hc | hc
            · exact hall c hc
            · rw [List.mem_singleton.1 hc]; exact hl
          rw [hl] at hlo
          clear hall
          repeat' (first | ((with_reducible refine aw_seqk ?_); intro K hK hX) | ((with_reducible refine isC_reg ?_); refine aw_prune [0, 2, 4, 13, 14, 15] rfl rfl ?_; with_reducible refine aw_region ?_) | ((with_reducible refine isA_call ?_); (first | refine zA ?_ | refine zN ?_); (first | refine c0 (hlo) ?_)) | (((with_reducible refine isA_any ?_); refine xA ?_); (first | ((with_reducible refine e_load ?_); (first | refine ex_i (s_load1 tabOk rfl rfl rfl rfl (by first | (rw [Nat.zero_add, Nat.mul_one]; exact hbu) | (rw [Nat.mul_one]; exact hbu))) ?_ | refine ex_i (s_load1r tabOk rfl rfl rfl rfl (by first | (rw [Nat.zero_add, Nat.mul_one]; exact hbu) | (rw [Nat.mul_one]; exact hbu))) ?_ | refine ex_i (s_load1i tabOk rfl rfl rfl (by first | (rw [Nat.zero_add, Nat.mul_one]; exact hbu) | (rw [Nat.mul_one]; exact hbu))) ?_)) | ((with_reducible refine e_ix ?_); (first | refine ex_i (s_ixV1 tabOk rfl rfl zcj rfl rfl rfl rfl rfl zle (by first | (rw [Nat.zero_add, Nat.mul_one]; exact hbu) | (rw [Nat.mul_one]; exact hbu))) ?_ | refine ex_i (s_ixStr tabOk rfl rfl zcj rfl rfl (by first | (rw [Nat.zero_add, Nat.mul_one]; exact hbu) | (rw [Nat.mul_one]; exact hbu))) ?_)))) | refine stA ?_ | (refine hK _ _ _ _ ?_; clear hK hX K) | (refine hX _ _ _ _ _ (by simp) ?_; clear hK hX K))
          exact ⟨i + 1, ⟨by omega, hnx⟩, by omega, weakA⟩
        · have hl2 : lowL b = false := by simpa using hl
          rw [hl2] at hlo
          have hbad := bvF (q := wordQ w) fun h => hl (h.2.2 b (List.mem_of_getElem? hb))
          clear hall
          repeat' (first | ((with_reducible refine aw_seqk ?_); intro K hK hX) | ((with_reducible refine isC_reg ?_); refine aw_prune [0, 2, 4, 13, 14, 15] rfl rfl ?_; with_reducible refine aw_region ?_) | ((with_reducible refine isA_call ?_); (first | refine zA ?_ | refine zN ?_); (first | refine c0 (hlo) ?_)) | (((with_reducible refine isA_any ?_); refine xA ?_); (first | ((with_reducible refine e_load ?_); (first | refine ex_i (s_load1 tabOk rfl rfl rfl rfl (by first | (rw [Nat.zero_add, Nat.mul_one]; exact hbu) | (rw [Nat.mul_one]; exact hbu))) ?_ | refine ex_i (s_load1r tabOk rfl rfl rfl rfl (by first | (rw [Nat.zero_add, Nat.mul_one]; exact hbu) | (rw [Nat.mul_one]; exact hbu))) ?_ | refine ex_i (s_load1i tabOk rfl rfl rfl (by first | (rw [Nat.zero_add, Nat.mul_one]; exact hbu) | (rw [Nat.mul_one]; exact hbu))) ?_)) | ((with_reducible refine e_ix ?_); (first | refine ex_i (s_ixV1 tabOk rfl rfl zcj rfl rfl rfl rfl rfl zle (by first | (rw [Nat.zero_add, Nat.mul_one]; exact hbu) | (rw [Nat.mul_one]; exact hbu))) ?_ | refine ex_i (s_ixStr tabOk rfl rfl zcj rfl rfl (by first | (rw [Nat.zero_add, Nat.mul_one]; exact hbu) | (rw [Nat.mul_one]; exact hbu))) ?_)))) | refine stA ?_ | (refine hK _ _ _ _ ?_; clear hK hX K) | (refine hX _ _ _ _ _ (by simp) ?_; clear hK hX K))
          refine retK_mk zio ztr rfl (ResL.one (ResA.tmp rfl)) (out_c (frz_cv (frz_c cv_rfl) (cv_eq hbad)))
      · have hie : i = n := by omega
        have hgood := bvT (q := wordQ w) ⟨h0, by omega, fun b hb => hall b (by rw [List.take_of_length_le (by omega)]; exact hb)⟩
        rw [hie]
        clear hall
        repeat' (first | ((with_reducible refine aw_seqk ?_); intro K hK hX) | ((with_reducible refine isC_reg ?_); refine aw_prune [0, 2, 4, 13, 14, 15] rfl rfl ?_; with_reducible refine aw_region ?_) | refine stA ?_ | (refine hK _ _ _ _ ?_; clear hK hX K) | (refine hX _ _ _ _ _ (by simp) ?_; clear hK hX K))
        refine retK_mk zio ztr rfl (ResL.one (ResA.tmp rfl)) (out_c (frz_cv (frz_c cv_rfl) (cv_eq hgood)))
set_option maxHeartbeats 4000000 in
theorem pcmp_ok (x y : Po) (hx : x.r.length ≤ maxLen) (hy : y.r.length ≤ maxLen) : AC Try.prog 77 [.agg x.c, .agg y.c] (.c (iv (cmpP x y))) [] 0 := by
  have h1 := scmp_ok x.w y.w
  have h2 := rcmp_ok x.r y.r x.r.length y.r.length rfl rfl hx hy
  obtain ⟨xw, xr, xn⟩ := x
  obtain ⟨yw, yr, yn⟩ := y
  unfold cmpP
  simp only [Po.c] at *
  generalize Lib.compareBytes xw yw = c at *
  generalize cmpR xr yr = d at *
  by_cases h0 : c = 0
  · rw [if_neg (by omega)]
    refine ac_enter tabOk (sz := 19) Try.func77 rfl (by rw [Try.ntmps77]; rfl) ?_
    repeat' (first | ((with_reducible refine aw_seqk ?_); intro K hK hX) | ((with_reducible refine isC_reg ?_); refine aw_prune [0, 1, 2, 3, 4, 5] rfl rfl ?_; with_reducible refine aw_region ?_) | ((with_reducible refine isA_call ?_); (first | refine zA ?_ | refine zN ?_); (first | refine c0 (h1) ?_ | refine c0 (h2) ?_)) | refine stA ?_ | (refine hK _ _ _ _ ?_; clear hK hX K) | (refine hX _ _ _ _ _ (by simp) ?_; clear hK hX K))
    refine retK_mk zio ztr rfl (ResL.one (ResA.tmp rfl)) zou
  · rw [if_pos h0]
    refine ac_enter tabOk (sz := 19) Try.func77 rfl (by rw [Try.ntmps77]; rfl) ?_
    repeat' (first | ((with_reducible refine aw_seqk ?_); intro K hK hX) | ((with_reducible refine isC_reg ?_); refine aw_prune [0, 1, 2, 3, 4, 5] rfl rfl ?_; with_reducible refine aw_region ?_) | ((with_reducible refine isA_call ?_); (first | refine zA ?_ | refine zN ?_); (first | refine c0 (h1) ?_ | refine c0 (h2) ?_)) | refine stA ?_ | (refine hK _ _ _ _ ?_; clear hK hX K) | (refine hX _ _ _ _ _ (by simp) ?_; clear hK hX K))
    refine retK_mk zio ztr rfl (ResL.one (ResA.tmp rfl)) zou
open Classical in
set_option maxHeartbeats 8000000 in
theorem ival_ok (p : List Po) (n : Nat) (hn : p.length = n) (hm : n ≤ maxLen) (hf : ∀ x ∈ p, x.r.length ≤ maxLen ∧ x.w.length ≤ maxLen) : AC Try.prog 32 [.sl 3 n (pc p)] (.c (bv (decide (valP p)))) [] 0 := by
  have hcl : (pc p).length = n * 3 := by rw [pc_length, hn]
  have hm2 : n ≤ 9223372036854775807 := hm
  refine ac_enter tabOk (sz := 45) Try.func32 rfl (by rw [Try.ntmps32]; rfl) ?_
  repeat' (first | ((with_reducible refine aw_seqk ?_); intro K hK hX) | ((with_reducible refine isC_reg ?_); refine aw_prune [0, 2, 3, 4, 5, 6, 7] rfl rfl ?_; with_reducible refine aw_region ?_) | ((with_reducible refine isC_draw ?_); refine aw_prune [0, 2, 3, 4, 5, 6, 7] rfl rfl ?_; refine aw_drwF [] ?_) | refine stA ?_ | refine stD ?_ | (refine hK _ _ _ _ ?_; clear hK hX K) | (refine hX _ _ _ _ _ (by simp) ?_; clear hK hX K))
  refine aw_loopo [7, 3, 4] [] rfl rfl (fun i : Nat => [(7, .c (iv i))]) (fun i => []) (fun i => i ≤ n ∧ ∀ j, j < i → goodP p j) (fun i => n - i) 0 ⟨Nat.zero_le _, fun j hj => absurd hj (by omega)⟩ weakA ?_
  rintro i ⟨hi, hall⟩ K hK hX
  by_cases hlt : i < n
  · obtain ⟨x, hx⟩ : ∃ x, p[i]? = some x := ⟨_, List.getElem?_eq_getElem (by omega)⟩
    have hat := pc_at hx
    obtain ⟨hfr, hfw⟩ := hf x (List.mem_of_getElem? hx)
    have hw1 := isWord_ok x.w hfw
    have hr1 := vrow_ok x.r x.r.length rfl hfr
    have hbd : ¬ goodP p i → ¬ valP p := fun h hv => h (hv i (by omega))
    have hat1 := True.intro
    have hcm := True.intro
    have hsub := True.intro
    by_cases g1 : wordQ x.w
    · rw [decide_eq_true g1] at hw1
      by_cases g2 : rowP x.r
      · rw [decide_eq_true g2] at hr1
        by_cases g3 : x.n < 1
        · have hbad := bvF (hbd fun h => by have := (h x hx).2.2.1; omega)
          clear hall hbd hf hx g1 g2 hfr hfw
          obtain ⟨w, r, c⟩ := x
          simp only [Po.c] at *
          repeat' (first | ((with_reducible refine aw_seqk ?_); intro K hK hX) | ((with_reducible refine isC_reg ?_); refine aw_prune [0, 2, 3, 4, 5, 6, 7] rfl rfl ?_; with_reducible refine aw_region ?_) | ((with_reducible refine isC_draw ?_); refine aw_prune [0, 2, 3, 4, 5, 6, 7] rfl rfl ?_; refine aw_drwF [] ?_) | ((first | with_reducible refine isA_call ?_ | with_reducible refine isD_call ?_); (first | refine zA ?_ | refine zN ?_ | refine zD ?_); (first | refine c0 (hw1) ?_ | refine c0 (hr1) ?_ | refine c0 (hcm) ?_)) | ((first | ((with_reducible refine isA_any ?_); refine xA ?_) | ((with_reducible refine isDk_any ?_); refine xD ?_)); (first | ((with_reducible refine e_bin ?_); (first | refine ex_i (s_arit64 rfl rfl rfl hsub) ?_)) | ((with_reducible refine e_load ?_); (first | refine ex_i (s_load1 tabOk rfl rfl rfl rfl (by exact hat)) ?_ | refine ex_i (s_load1r tabOk rfl rfl rfl rfl (by exact hat)) ?_ | refine ex_i (s_load1i tabOk rfl rfl rfl (by exact hat)) ?_ | refine ex_i (s_loadAr tabOk rfl rfl rfl rfl (by first | first | exact hat | exact hat1 | exact whole0 (by first | rfl | omega) | rfl) zln) ?_ | refine ex_i (s_loadAi tabOk rfl rfl rfl (by first | first | exact hat | exact hat1 | exact whole0 (by first | rfl | omega) | rfl) zln) ?_)) | ((with_reducible refine e_ix ?_); (first | refine ex_i (s_ixV1 tabOk rfl rfl zcj rfl rfl rfl rfl rfl zle (by exact hat)) ?_ | refine ex_i (s_ixStr tabOk rfl rfl zcj rfl rfl (by exact hat)) ?_)) | ((with_reducible refine e_slice ?_); (first | refine ex_i (s_slArri tabOk rfl rfl rfl rfl zbd zbd zle zle (by decide) (by first | first | exact hat | exact hat1 | exact whole0 (by first | rfl | omega) | rfl) zln) ?_)))) | refine stA ?_ | refine stD ?_ | (refine hK _ _ _ _ ?_; clear hK hX K) | (refine hX _ _ _ _ _ (by simp) ?_; clear hK hX K))
          refine retK_mk zio (by exact ⟨iv_idle, iv_idle_b, trivial⟩) rfl (ResL.one (ResA.tmp rfl)) (out_c (frz_cv (frz_c cv_rfl) (cv_eq hbad)))
        · by_cases g4 : 262144 < x.n
          · have hbad := bvF (hbd fun h => by have := (h x hx).2.2.2.1; omega)
            clear hall hbd hf hx g1 g2 hfr hfw
            obtain ⟨w, r, c⟩ := x
            simp only [Po.c] at *
            repeat' (first | ((with_reducible refine aw_seqk ?_); intro K hK hX) | ((with_reducible refine isC_reg ?_); refine aw_prune [0, 2, 3, 4, 5, 6, 7] rfl rfl ?_; with_reducible refine aw_region ?_) | ((with_reducible refine isC_draw ?_); refine aw_prune [0, 2, 3, 4, 5, 6, 7] rfl rfl ?_; refine aw_drwF [] ?_) | ((first | with_reducible refine isA_call ?_ | with_reducible refine isD_call ?_); (first | refine zA ?_ | refine zN ?_ | refine zD ?_); (first | refine c0 (hw1) ?_ | refine c0 (hr1) ?_ | refine c0 (hcm) ?_)) | ((first | ((with_reducible refine isA_any ?_); refine xA ?_) | ((with_reducible refine isDk_any ?_); refine xD ?_)); (first | ((with_reducible refine e_bin ?_); (first | refine ex_i (s_arit64 rfl rfl rfl hsub) ?_)) | ((with_reducible refine e_load ?_); (first | refine ex_i (s_load1 tabOk rfl rfl rfl rfl (by exact hat)) ?_ | refine ex_i (s_load1r tabOk rfl rfl rfl rfl (by exact hat)) ?_ | refine ex_i (s_load1i tabOk rfl rfl rfl (by exact hat)) ?_ | refine ex_i (s_loadAr tabOk rfl rfl rfl rfl (by first | first | exact hat | exact hat1 | exact whole0 (by first | rfl | omega) | rfl) zln) ?_ | refine ex_i (s_loadAi tabOk rfl rfl rfl (by first | first | exact hat | exact hat1 | exact whole0 (by first | rfl | omega) | rfl) zln) ?_)) | ((with_reducible refine e_ix ?_); (first | refine ex_i (s_ixV1 tabOk rfl rfl zcj rfl rfl rfl rfl rfl zle (by exact hat)) ?_ | refine ex_i (s_ixStr tabOk rfl rfl zcj rfl rfl (by exact hat)) ?_)) | ((with_reducible refine e_slice ?_); (first | refine ex_i (s_slArri tabOk rfl rfl rfl rfl zbd zbd zle zle (by decide) (by first | first | exact hat | exact hat1 | exact whole0 (by first | rfl | omega) | rfl) zln) ?_)))) | refine stA ?_ | refine stD ?_ | (refine hK _ _ _ _ ?_; clear hK hX K) | (refine hX _ _ _ _ _ (by simp) ?_; clear hK hX K))
            refine retK_mk zio (by exact ⟨iv_idle, iv_idle_b, trivial⟩) rfl (ResL.one (ResA.tmp rfl)) (out_c (frz_cv (frz_c cv_rfl) (cv_eq hbad)))
          · by_cases hi0 : i = 0
            · have hnx : ∀ j, j < i + 1 → goodP p j := fun j hj => by
                have : j = i := by omega
                subst this
                intro x' hx'
                rw [hx] at hx'
                injection hx' with hx'
                subst hx'
                exact ⟨g1, g2, by omega, by omega, fun y h => by omega⟩
              clear hall hbd hf hx g1 g2 hfr hfw
              obtain ⟨w, r, c⟩ := x
              simp only [Po.c] at *
              repeat' (first | ((with_reducible refine aw_seqk ?_); intro K hK hX) | ((with_reducible refine isC_reg ?_); refine aw_prune [0, 2, 3, 4, 5, 6, 7] rfl rfl ?_; with_reducible refine aw_region ?_) | ((with_reducible refine isC_draw ?_); refine aw_prune [0, 2, 3, 4, 5, 6, 7] rfl rfl ?_; refine aw_drwF [] ?_) | ((first | with_reducible refine isA_call ?_ | with_reducible refine isD_call ?_); (first | refine zA ?_ | refine zN ?_ | refine zD ?_); (first | refine c0 (hw1) ?_ | refine c0 (hr1) ?_)) | ((first | ((with_reducible refine isA_any ?_); refine xA ?_) | ((with_reducible refine isDk_any ?_); refine xD ?_)); (first | ((with_reducible refine e_load ?_); (first | refine ex_i (s_loadAr tabOk rfl rfl rfl rfl (by first | exact hat | exact whole0 (by first | rfl | omega) | rfl) zln) ?_ | refine ex_i (s_loadAi tabOk rfl rfl rfl (by first | exact hat | exact whole0 (by first | rfl | omega) | rfl) zln) ?_)) | ((with_reducible refine e_slice ?_); (first | refine ex_i (s_slArri tabOk rfl rfl rfl rfl zbd zbd zle zle (by decide) (by first | exact hat | exact whole0 (by first | rfl | omega) | rfl) zln) ?_)))) | refine stA ?_ | refine stD ?_ | (refine hK _ _ _ _ ?_; clear hK hX K) | (refine hX _ _ _ _ _ (by simp) ?_; clear hK hX K))
              exact ⟨i + 1, ⟨by omega, hnx⟩, by omega, weakA⟩
            · obtain ⟨y, hy⟩ : ∃ y, p[i - 1]? = some y := ⟨_, List.getElem?_eq_getElem (by omega)⟩
              have hat1 := pc_at hy
              have hsub : IntKind.i64.wrap ((i : Int) - 1) = ((i - 1 : Nat) : Int) := by
                rw [show ((i : Int) - 1) = ((i - 1 : Nat) : Int) by omega]
                simp only [maxLen] at hm
                exact w64 (by omega) (by omega)
              have hcm := pcmp_ok y x (hf y (List.mem_of_getElem? hy)).1 hfr
              by_cases g5 : cmpP y x < 0
              · have hnx : ∀ j, j < i + 1 → goodP p j := fun j hj => by
                  rcases (show j < i ∨ j = i by omega) with h | h
                  · exact hall j h
                  · subst h
                    intro x' hx'
                    rw [hx] at hx'
                    injection hx' with hx'
                    subst hx'
                    refine ⟨g1, g2, by omega, by omega, fun y' _ hy' => ?_⟩
                    rw [hy] at hy'
                    injection hy' with hy'
                    subst hy'
                    exact g5
                generalize cmpP y x = c' at hcm g5
                clear hall hbd hf hx hy g1 g2 hfr hfw
                obtain ⟨w, r, c⟩ := x
                obtain ⟨w', r', c''⟩ := y
                simp only [Po.c] at *
                repeat' (first | ((with_reducible refine aw_seqk ?_); intro K hK hX) | ((with_reducible refine isC_reg ?_); refine aw_prune [0, 2, 3, 4, 5, 6, 7] rfl rfl ?_; with_reducible refine aw_region ?_) | ((with_reducible refine isC_draw ?_); refine aw_prune [0, 2, 3, 4, 5, 6, 7] rfl rfl ?_; refine aw_drwF [] ?_) | ((first | with_reducible refine isA_call ?_ | with_reducible refine isD_call ?_); (first | refine zA ?_ | refine zN ?_ | refine zD ?_); (first | refine c0 (hw1) ?_ | refine c0 (hr1) ?_ | refine c0 (hcm) ?_)) | ((first | ((with_reducible refine isA_any ?_); refine xA ?_) | ((with_reducible refine isDk_any ?_); refine xD ?_)); (first | ((with_reducible refine e_bin ?_); (first | refine ex_i (s_arit64 rfl rfl rfl hsub) ?_)) | ((with_reducible refine e_load ?_); (first | refine ex_i (s_loadAr tabOk rfl rfl rfl rfl (by first | first | exact hat | exact hat1 | exact whole0 (by first | rfl | omega) | rfl) zln) ?_ | refine ex_i (s_loadAi tabOk rfl rfl rfl (by first | first | exact hat | exact hat1 | exact whole0 (by first | rfl | omega) | rfl) zln) ?_)) | ((with_reducible refine e_slice ?_); (first | refine ex_i (s_slArri tabOk rfl rfl rfl rfl zbd zbd zle zle (by decide) (by first | first | exact hat | exact hat1 | exact whole0 (by first | rfl | omega) | rfl) zln) ?_)))) | refine stA ?_ | refine stD ?_ | (refine hK _ _ _ _ ?_; clear hK hX K) | (refine hX _ _ _ _ _ (by simp) ?_; clear hK hX K))
                exact ⟨i + 1, ⟨by omega, hnx⟩, by omega, weakA⟩
              · have hbad := bvF (hbd fun h => g5 ((h x hx).2.2.2.2 y (by omega) hy))
                generalize cmpP y x = c' at hcm g5
                clear hall hbd hf hx hy g1 g2 hfr hfw
                obtain ⟨w, r, c⟩ := x
                obtain ⟨w', r', c''⟩ := y
                simp only [Po.c] at *
                repeat' (first | ((with_reducible refine aw_seqk ?_); intro K hK hX) | ((with_reducible refine isC_reg ?_); refine aw_prune [0, 2, 3, 4, 5, 6, 7] rfl rfl ?_; with_reducible refine aw_region ?_) | ((with_reducible refine isC_draw ?_); refine aw_prune [0, 2, 3, 4, 5, 6, 7] rfl rfl ?_; refine aw_drwF [] ?_) | ((first | with_reducible refine isA_call ?_ | with_reducible refine isD_call ?_); (first | refine zA ?_ | refine zN ?_ | refine zD ?_); (first | refine c0 (hw1) ?_ | refine c0 (hr1) ?_ | refine c0 (hcm) ?_)) | ((first | ((with_reducible refine isA_any ?_); refine xA ?_) | ((with_reducible refine isDk_any ?_); refine xD ?_)); (first | ((with_reducible refine e_bin ?_); (first | refine ex_i (s_arit64 rfl rfl rfl hsub) ?_)) | ((with_reducible refine e_load ?_); (first | refine ex_i (s_load1 tabOk rfl rfl rfl rfl (by exact hat)) ?_ | refine ex_i (s_load1r tabOk rfl rfl rfl rfl (by exact hat)) ?_ | refine ex_i (s_load1i tabOk rfl rfl rfl (by exact hat)) ?_ | refine ex_i (s_loadAr tabOk rfl rfl rfl rfl (by first | first | exact hat | exact hat1 | exact whole0 (by first | rfl | omega) | rfl) zln) ?_ | refine ex_i (s_loadAi tabOk rfl rfl rfl (by first | first | exact hat | exact hat1 | exact whole0 (by first | rfl | omega) | rfl) zln) ?_)) | ((with_reducible refine e_ix ?_); (first | refine ex_i (s_ixV1 tabOk rfl rfl zcj rfl rfl rfl rfl rfl zle (by exact hat)) ?_ | refine ex_i (s_ixStr tabOk rfl rfl zcj rfl rfl (by exact hat)) ?_)) | ((with_reducible refine e_slice ?_); (first | refine ex_i (s_slArri tabOk rfl rfl rfl rfl zbd zbd zle zle (by decide) (by first | first | exact hat | exact hat1 | exact whole0 (by first | rfl | omega) | rfl) zln) ?_)))) | refine stA ?_ | refine stD ?_ | (refine hK _ _ _ _ ?_; clear hK hX K) | (refine hX _ _ _ _ _ (by simp) ?_; clear hK hX K))
                refine retK_mk zio (by exact ⟨iv_idle, iv_idle_b, trivial⟩) rfl (ResL.one (ResA.tmp rfl)) (out_c (frz_cv (frz_c cv_rfl) (cv_eq hbad)))
      · rw [decide_eq_false g2] at hr1
        have hbad := bvF (hbd fun h => g2 (h x hx).2.1)
        clear hall hbd hf hx g1 g2 hfr hfw
        obtain ⟨w, r, c⟩ := x
        simp only [Po.c] at *
        repeat' (first | ((with_reducible refine aw_seqk ?_); intro K hK hX) | ((with_reducible refine isC_reg ?_); refine aw_prune [0, 2, 3, 4, 5, 6, 7] rfl rfl ?_; with_reducible refine aw_region ?_) | ((with_reducible refine isC_draw ?_); refine aw_prune [0, 2, 3, 4, 5, 6, 7] rfl rfl ?_; refine aw_drwF [] ?_) | ((first | with_reducible refine isA_call ?_ | with_reducible refine isD_call ?_); (first | refine zA ?_ | refine zN ?_ | refine zD ?_); (first | refine c0 (hw1) ?_ | refine c0 (hr1) ?_ | refine c0 (hcm) ?_)) | ((first | ((with_reducible refine isA_any ?_); refine xA ?_) | ((with_reducible refine isDk_any ?_); refine xD ?_)); (first | ((with_reducible refine e_bin ?_); (first | refine ex_i (s_arit64 rfl rfl rfl hsub) ?_)) | ((with_reducible refine e_load ?_); (first | refine ex_i (s_load1 tabOk rfl rfl rfl rfl (by exact hat)) ?_ | refine ex_i (s_load1r tabOk rfl rfl rfl rfl (by exact hat)) ?_ | refine ex_i (s_load1i tabOk rfl rfl rfl (by exact hat)) ?_ | refine ex_i (s_loadAr tabOk rfl rfl rfl rfl (by first | first | exact hat | exact hat1 | exact whole0 (by first | rfl | omega) | rfl) zln) ?_ | refine ex_i (s_loadAi tabOk rfl rfl rfl (by first | first | exact hat | exact hat1 | exact whole0 (by first | rfl | omega) | rfl) zln) ?_)) | ((with_reducible refine e_ix ?_); (first | refine ex_i (s_ixV1 tabOk rfl rfl zcj rfl rfl rfl rfl rfl zle (by exact hat)) ?_ | refine ex_i (s_ixStr tabOk rfl rfl zcj rfl rfl (by exact hat)) ?_)) | ((with_reducible refine e_slice ?_); (first | refine ex_i (s_slArri tabOk rfl rfl rfl rfl zbd zbd zle zle (by decide) (by first | first | exact hat | exact hat1 | exact whole0 (by first | rfl | omega) | rfl) zln) ?_)))) | refine stA ?_ | refine stD ?_ | (refine hK _ _ _ _ ?_; clear hK hX K) | (refine hX _ _ _ _ _ (by simp) ?_; clear hK hX K))
        refine retK_mk zio (by exact ⟨iv_idle, iv_idle_b, trivial⟩) rfl (ResL.one (ResA.tmp rfl)) (out_c (frz_cv (frz_c cv_rfl) (cv_eq hbad)))
    · rw [decide_eq_false g1] at hw1
      have hbad := bvF (hbd fun h => g1 (h x hx).1)
      clear hall hbd hf hx g1 hfr hfw
      obtain ⟨w, r, c⟩ := x
      simp only [Po.c] at *
      repeat' (first | ((with_reducible refine aw_seqk ?_); intro K hK hX) | ((with_reducible refine isC_reg ?_); refine aw_prune [0, 2, 3, 4, 5, 6, 7] rfl rfl ?_; with_reducible refine aw_region ?_) | ((with_reducible refine isC_draw ?_); refine aw_prune [0, 2, 3, 4, 5, 6, 7] rfl rfl ?_; refine aw_drwF [] ?_) | ((first | with_reducible refine isA_call ?_ | with_reducible refine isD_call ?_); (first | refine zA ?_ | refine zN ?_ | refine zD ?_); (first | refine c0 (hw1) ?_ | refine c0 (hr1) ?_ | refine c0 (hcm) ?_)) | ((first | ((with_reducible refine isA_any ?_); refine xA ?_) | ((with_reducible refine isDk_any ?_); refine xD ?_)); (first | ((with_reducible refine e_bin ?_); (first | refine ex_i (s_arit64 rfl rfl rfl hsub) ?_)) | ((with_reducible refine e_load ?_); (first | refine ex_i (s_load1 tabOk rfl rfl rfl rfl (by exact hat)) ?_ | refine ex_i (s_load1r tabOk rfl rfl rfl rfl (by exact hat)) ?_ | refine ex_i (s_load1i tabOk rfl rfl rfl (by exact hat)) ?_ | refine ex_i (s_loadAr tabOk rfl rfl rfl rfl (by first | first | exact hat | exact hat1 | exact whole0 (by first | rfl | omega) | rfl) zln) ?_ | refine ex_i (s_loadAi tabOk rfl rfl rfl (by first | first | exact hat | exact hat1 | exact whole0 (by first | rfl | omega) | rfl) zln) ?_)) | ((with_reducible refine e_ix ?_); (first | refine ex_i (s_ixV1 tabOk rfl rfl zcj rfl rfl rfl rfl rfl zle (by exact hat)) ?_ | refine ex_i (s_ixStr tabOk rfl rfl zcj rfl rfl (by exact hat)) ?_)) | ((with_reducible refine e_slice ?_); (first | refine ex_i (s_slArri tabOk rfl rfl rfl rfl zbd zbd zle zle (by decide) (by first | first | exact hat | exact hat1 | exact whole0 (by first | rfl | omega) | rfl) zln) ?_)))) | refine stA ?_ | refine stD ?_ | (refine hK _ _ _ _ ?_; clear hK hX K) | (refine hX _ _ _ _ _ (by simp) ?_; clear hK hX K))
      refine retK_mk zio (by exact ⟨iv_idle, iv_idle_b, trivial⟩) rfl (ResL.one (ResA.tmp rfl)) (out_c (frz_cv (frz_c cv_rfl) (cv_eq hbad)))
  · have hie : i = n := by omega
    have hgood := bvT (q := valP p) fun j hj => hall j (by omega)
    rw [hie]
    clear hall hf
    repeat' (first | ((with_reducible refine aw_seqk ?_); intro K hK hX) | ((with_reducible refine isC_reg ?_); refine aw_prune [0, 2, 3, 4, 5, 6, 7] rfl rfl ?_; with_reducible refine aw_region ?_) | ((with_reducible refine isC_draw ?_); refine aw_prune [0, 2, 3, 4, 5, 6, 7] rfl rfl ?_; refine aw_drwF [] ?_) | refine stA ?_ | refine stD ?_ | (refine hK _ _ _ _ ?_; clear hK hX K) | (refine hX _ _ _ _ _ (by simp) ?_; clear hK hX K))
    refine retK_mk zio (by exact ⟨iv_idle, iv_idle_b, trivial⟩) rfl (ResL.one (ResA.tmp rfl)) (out_c (frz_cv (frz_c cv_rfl) (cv_eq hgood)))
end Go.Proofs.Ytccnhpaldmjkbaa
