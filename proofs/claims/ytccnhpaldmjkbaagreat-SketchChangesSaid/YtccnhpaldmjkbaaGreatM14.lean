/-
  Joined texts: Z2 Z3 Z10. Lemmas; no statement of a law.
-/
import Derived.Test.YtccnhpaldmjkbaaGreatM8
set_option linter.unusedSimpArgs false
set_option linter.unusedVariables false
/-
  Valid cells (walk), as the reference has them.
-/
namespace Go.Proofs.YtccnhpaldmjkbaaGreat
open Go Go.RowKit Go.Av
set_option maxRecDepth 100000
attribute [local irreducible] Still Adds AWL AW Drw DrwE EStep AC AWR Weak Frz Src RetK Out InK ItK AsK RdK RetT OutT ACT ACS RetS ACP RetP
open Classical in
set_option maxHeartbeats 4000000 in
theorem rvalc_ok (s : Sk) (l : List Int) (n : Nat) (hn : l.length = n) (hk : s.kd ≠ 2) (hm : n ≤ maxLen) : AC Tryz.prog 23 [.agg s.c, .sl 1 n (intc .i64 l)] (.c (bv (decide (valC s l)))) [] 0 := by
  have hml : n ≤ 9223372036854775807 := hm
  clear hm
  have hil : (intc .i64 l).length = n := by rw [ic_len, hn]
  have hf := rform_ok s
  by_cases f1 : formP s
  · rw [form_t f1] at hf
    have f0 := f1
    obtain ⟨w1, w2, d1, d2, p1, p2⟩ := f0
    have p0 : 0 ≤ s.w * s.d := Int.mul_nonneg (by omega) (by omega)
    have hmul : IntKind.i64.wrap (s.w * s.d) = s.w * s.d := w64 (by omega) (by omega)
    have hk01 : s.kd = 0 ∨ s.kd = 1 := by omega
    by_cases hall : ∀ i, i < n → ∀ x, l[i]? = some x → okX (limZ s.kd) x
    · have hres : decide (valC s l) = decide ((n : Int) = s.w * s.d) := decide_eq_decide.2 ⟨fun h => by rw [← hn]; exact h.2.2.1, fun f2 => ⟨f1, hk, by rw [hn]; exact f2, fun x hx => by
          obtain ⟨i, hi⟩ := List.mem_iff_getElem?.1 hx
          have := (List.getElem?_eq_some_iff.1 hi).1
          exact hall i (by omega) x hi⟩⟩
      rw [hres]
      generalize hb : decide ((n : Int) = s.w * s.d) = b
      obtain ⟨nm, sr, col, kd, w, d⟩ := s
      simp only [Sk.c] at *
      clear f1 p2 hres
      refine ac_enter tabOk (sz := 95) Tryz.func23 rfl (by rw [Tryz.ntmps23]; rfl) ?_
      repeat' (first | ((with_reducible refine aw_seqk ?_); intro K hK hX) | ((with_reducible refine isC_reg ?_); refine aw_prune [0, 1, 2, 4, 5, 6] rfl rfl ?_; with_reducible refine aw_region ?_) | ((with_reducible refine isC_draw ?_); refine aw_prune [0, 1, 2, 4, 5, 6] rfl rfl ?_; refine aw_drwF [] ?_) | ((first | with_reducible refine isA_call ?_ | with_reducible refine isD_call ?_); (first | refine zA ?_ | refine zN ?_ | refine zD ?_); (first | refine c0 (hf) ?_)) | refine stA ?_ | refine stD ?_ | (refine hK _ _ _ _ ?_; clear hK hX K) | (refine hX _ _ _ _ _ (by simp) ?_; clear hK hX K))
      refine aw_loopo [6] [] rfl rfl (fun i : Nat => [(6, .c (iv i))]) (fun i => []) (fun i => i ≤ n) (fun i => n - i) 0 (by omega) weakA ?_
      intro i hi K hK hX
      by_cases hlt : i < n
      · obtain ⟨x, hx⟩ : ∃ x, l[i]? = some x := ⟨l[i]'(by omega), List.getElem?_eq_getElem _⟩
        obtain ⟨x1, x2⟩ := hall i hlt x hx
        have hxa := ic_at hx
        clear hf hall hmul hb p0 p1
        unfold limZ at x2
        by_cases k0 : kd = 0
        · rw [if_pos k0] at x2
          repeat' (first | ((with_reducible refine aw_seqk ?_); intro K hK hX) | ((with_reducible refine isC_reg ?_); refine aw_prune [0, 1, 2, 4, 5, 6] rfl rfl ?_; with_reducible refine aw_region ?_) | ((with_reducible refine isC_draw ?_); refine aw_prune [0, 1, 2, 4, 5, 6] rfl rfl ?_; refine aw_drwF [] ?_) | ((with_reducible refine isA_g ?_); refine a_skip2 rfl rfl rfl ?_) | ((with_reducible refine isA_g ?_); refine a_skipU (g_some rfl rfl zgd) rfl ?_) | ((first | ((with_reducible refine isA_any ?_); refine xA ?_) | ((with_reducible refine isDk_any ?_); refine xD ?_)); (first | ((with_reducible refine e_load ?_); (first | refine ex_i (s_load1 tabOk rfl rfl rfl rfl (by (rw [Nat.mul_one]; exact hxa))) ?_ | refine ex_i (s_load1r tabOk rfl rfl rfl rfl (by (rw [Nat.mul_one]; exact hxa))) ?_ | refine ex_i (s_load1i tabOk rfl rfl rfl (by (rw [Nat.mul_one]; exact hxa))) ?_)) | ((with_reducible refine e_ix ?_); (first | refine ex_i (s_ixV1 tabOk rfl rfl zcj rfl rfl rfl rfl rfl zle (by (rw [Nat.mul_one]; exact hxa))) ?_ | refine ex_i (s_ixStr tabOk rfl rfl zcj rfl rfl (by (rw [Nat.mul_one]; exact hxa))) ?_)))) | refine stA ?_ | refine stD ?_ | (refine hK _ _ _ _ ?_; clear hK hX K) | (refine hX _ _ _ _ _ (by simp) ?_; clear hK hX K))
          exact ⟨i + 1, by omega, by omega, weakA⟩
        · rw [if_neg k0] at x2
          repeat' (first | ((with_reducible refine aw_seqk ?_); intro K hK hX) | ((with_reducible refine isC_reg ?_); refine aw_prune [0, 1, 2, 4, 5, 6] rfl rfl ?_; with_reducible refine aw_region ?_) | ((with_reducible refine isC_draw ?_); refine aw_prune [0, 1, 2, 4, 5, 6] rfl rfl ?_; refine aw_drwF [] ?_) | ((with_reducible refine isA_g ?_); refine a_skip2 rfl rfl rfl ?_) | ((with_reducible refine isA_g ?_); refine a_skipU (g_some rfl rfl zgd) rfl ?_) | ((first | ((with_reducible refine isA_any ?_); refine xA ?_) | ((with_reducible refine isDk_any ?_); refine xD ?_)); (first | ((with_reducible refine e_load ?_); (first | refine ex_i (s_load1 tabOk rfl rfl rfl rfl (by (rw [Nat.mul_one]; exact hxa))) ?_ | refine ex_i (s_load1r tabOk rfl rfl rfl rfl (by (rw [Nat.mul_one]; exact hxa))) ?_ | refine ex_i (s_load1i tabOk rfl rfl rfl (by (rw [Nat.mul_one]; exact hxa))) ?_)) | ((with_reducible refine e_ix ?_); (first | refine ex_i (s_ixV1 tabOk rfl rfl zcj rfl rfl rfl rfl rfl zle (by (rw [Nat.mul_one]; exact hxa))) ?_ | refine ex_i (s_ixStr tabOk rfl rfl zcj rfl rfl (by (rw [Nat.mul_one]; exact hxa))) ?_)))) | refine stA ?_ | refine stD ?_ | (refine hK _ _ _ _ ?_; clear hK hX K) | (refine hX _ _ _ _ _ (by simp) ?_; clear hK hX K))
          exact ⟨i + 1, by omega, by omega, weakA⟩
      · clear hf hall
        have hin : i = n := by omega
        rw [hin]
        repeat' (first | ((with_reducible refine aw_seqk ?_); intro K hK hX) | ((with_reducible refine isC_reg ?_); refine aw_prune [0, 1, 2, 4, 5, 6] rfl rfl ?_; with_reducible refine aw_region ?_) | ((with_reducible refine isC_draw ?_); refine aw_prune [0, 1, 2, 4, 5, 6] rfl rfl ?_; refine aw_drwF [] ?_) | ((first | ((with_reducible refine isA_any ?_); refine xA ?_) | ((with_reducible refine isDk_any ?_); refine xD ?_)); (first | ((with_reducible refine e_bin ?_); (first | refine ex_i (s_arit64 rfl rfl rfl hmul) ?_ | refine ex_i (s_eql rfl rfl hb) ?_)))) | refine stA ?_ | refine stD ?_ | (refine hK _ _ _ _ ?_; clear hK hX K) | (refine hX _ _ _ _ _ (by simp) ?_; clear hK hX K))
        refine retK_mk zio ztr rfl (ResL.one (ResA.tmp rfl)) zou
    · obtain ⟨q, hq, hbad, hgood⟩ := first_bad hall
      rw [decide_eq_false (show ¬ valC s l from fun h => hbad fun x hx => h.2.2.2 x (List.mem_of_getElem? hx))]
      obtain ⟨nm, sr, col, kd, w, d⟩ := s
      simp only [Sk.c] at *
      clear f1 p2 hall
      refine ac_enter tabOk (sz := 95) Tryz.func23 rfl (by rw [Tryz.ntmps23]; rfl) ?_
      repeat' (first | ((with_reducible refine aw_seqk ?_); intro K hK hX) | ((with_reducible refine isC_reg ?_); refine aw_prune [0, 1, 2, 4, 5, 6] rfl rfl ?_; with_reducible refine aw_region ?_) | ((with_reducible refine isC_draw ?_); refine aw_prune [0, 1, 2, 4, 5, 6] rfl rfl ?_; refine aw_drwF [] ?_) | ((first | with_reducible refine isA_call ?_ | with_reducible refine isD_call ?_); (first | refine zA ?_ | refine zN ?_ | refine zD ?_); (first | refine c0 (hf) ?_)) | refine stA ?_ | refine stD ?_ | (refine hK _ _ _ _ ?_; clear hK hX K) | (refine hX _ _ _ _ _ (by simp) ?_; clear hK hX K))
      refine aw_loopo [6] [] rfl rfl (fun i : Nat => [(6, .c (iv i))]) (fun i => []) (fun i => i ≤ q) (fun i => q - i) 0 (by omega) weakA ?_
      intro i hi K hK hX
      have hin : i < n := by omega
      obtain ⟨x, hx⟩ : ∃ x, l[i]? = some x := ⟨l[i]'(by omega), List.getElem?_eq_getElem _⟩
      have hxa := ic_at hx
      by_cases hlt : i < q
      · obtain ⟨x1, x2⟩ := hgood i hlt x hx
        clear hf hbad hgood hmul p0 p1
        unfold limZ at x2
        by_cases k0 : kd = 0
        · rw [if_pos k0] at x2
          repeat' (first | ((with_reducible refine aw_seqk ?_); intro K hK hX) | ((with_reducible refine isC_reg ?_); refine aw_prune [0, 1, 2, 4, 5, 6] rfl rfl ?_; with_reducible refine aw_region ?_) | ((with_reducible refine isC_draw ?_); refine aw_prune [0, 1, 2, 4, 5, 6] rfl rfl ?_; refine aw_drwF [] ?_) | ((with_reducible refine isA_g ?_); refine a_skip2 rfl rfl rfl ?_) | ((with_reducible refine isA_g ?_); refine a_skipU (g_some rfl rfl zgd) rfl ?_) | ((first | ((with_reducible refine isA_any ?_); refine xA ?_) | ((with_reducible refine isDk_any ?_); refine xD ?_)); (first | ((with_reducible refine e_load ?_); (first | refine ex_i (s_load1 tabOk rfl rfl rfl rfl (by (rw [Nat.mul_one]; exact hxa))) ?_ | refine ex_i (s_load1r tabOk rfl rfl rfl rfl (by (rw [Nat.mul_one]; exact hxa))) ?_ | refine ex_i (s_load1i tabOk rfl rfl rfl (by (rw [Nat.mul_one]; exact hxa))) ?_)) | ((with_reducible refine e_ix ?_); (first | refine ex_i (s_ixV1 tabOk rfl rfl zcj rfl rfl rfl rfl rfl zle (by (rw [Nat.mul_one]; exact hxa))) ?_ | refine ex_i (s_ixStr tabOk rfl rfl zcj rfl rfl (by (rw [Nat.mul_one]; exact hxa))) ?_)))) | refine stA ?_ | refine stD ?_ | (refine hK _ _ _ _ ?_; clear hK hX K) | (refine hX _ _ _ _ _ (by simp) ?_; clear hK hX K))
          exact ⟨i + 1, by omega, by omega, weakA⟩
        · rw [if_neg k0] at x2
          repeat' (first | ((with_reducible refine aw_seqk ?_); intro K hK hX) | ((with_reducible refine isC_reg ?_); refine aw_prune [0, 1, 2, 4, 5, 6] rfl rfl ?_; with_reducible refine aw_region ?_) | ((with_reducible refine isC_draw ?_); refine aw_prune [0, 1, 2, 4, 5, 6] rfl rfl ?_; refine aw_drwF [] ?_) | ((with_reducible refine isA_g ?_); refine a_skip2 rfl rfl rfl ?_) | ((with_reducible refine isA_g ?_); refine a_skipU (g_some rfl rfl zgd) rfl ?_) | ((first | ((with_reducible refine isA_any ?_); refine xA ?_) | ((with_reducible refine isDk_any ?_); refine xD ?_)); (first | ((with_reducible refine e_load ?_); (first | refine ex_i (s_load1 tabOk rfl rfl rfl rfl (by (rw [Nat.mul_one]; exact hxa))) ?_ | refine ex_i (s_load1r tabOk rfl rfl rfl rfl (by (rw [Nat.mul_one]; exact hxa))) ?_ | refine ex_i (s_load1i tabOk rfl rfl rfl (by (rw [Nat.mul_one]; exact hxa))) ?_)) | ((with_reducible refine e_ix ?_); (first | refine ex_i (s_ixV1 tabOk rfl rfl zcj rfl rfl rfl rfl rfl zle (by (rw [Nat.mul_one]; exact hxa))) ?_ | refine ex_i (s_ixStr tabOk rfl rfl zcj rfl rfl (by (rw [Nat.mul_one]; exact hxa))) ?_)))) | refine stA ?_ | refine stD ?_ | (refine hK _ _ _ _ ?_; clear hK hX K) | (refine hX _ _ _ _ _ (by simp) ?_; clear hK hX K))
          exact ⟨i + 1, by omega, by omega, weakA⟩
      · have hiq : i = q := by omega
        have hnx : ¬ okX (limZ kd) x := fun h => hbad fun y hy => by
          rw [← hiq, hx] at hy; injection hy with hy; subst hy; exact h
        clear hf hbad hgood hmul p0 p1
        by_cases x1 : x < 0
        · repeat' (first | ((with_reducible refine aw_seqk ?_); intro K hK hX) | ((with_reducible refine isC_reg ?_); refine aw_prune [0, 1, 2, 4, 5, 6] rfl rfl ?_; with_reducible refine aw_region ?_) | ((with_reducible refine isC_draw ?_); refine aw_prune [0, 1, 2, 4, 5, 6] rfl rfl ?_; refine aw_drwF [] ?_) | ((with_reducible refine isA_g ?_); refine a_skip2 rfl rfl rfl ?_) | ((with_reducible refine isA_g ?_); refine a_skipU (g_some rfl rfl zgd) rfl ?_) | ((first | ((with_reducible refine isA_any ?_); refine xA ?_) | ((with_reducible refine isDk_any ?_); refine xD ?_)); (first | ((with_reducible refine e_load ?_); (first | refine ex_i (s_load1 tabOk rfl rfl rfl rfl (by (rw [Nat.mul_one]; exact hxa))) ?_ | refine ex_i (s_load1r tabOk rfl rfl rfl rfl (by (rw [Nat.mul_one]; exact hxa))) ?_ | refine ex_i (s_load1i tabOk rfl rfl rfl (by (rw [Nat.mul_one]; exact hxa))) ?_)) | ((with_reducible refine e_ix ?_); (first | refine ex_i (s_ixV1 tabOk rfl rfl zcj rfl rfl rfl rfl rfl zle (by (rw [Nat.mul_one]; exact hxa))) ?_ | refine ex_i (s_ixStr tabOk rfl rfl zcj rfl rfl (by (rw [Nat.mul_one]; exact hxa))) ?_)))) | refine stA ?_ | refine stD ?_ | (refine hK _ _ _ _ ?_; clear hK hX K) | (refine hX _ _ _ _ _ (by simp) ?_; clear hK hX K))
          refine retK_mk zio ztr rfl (ResL.one (ResA.tmp rfl)) zou
        · have x2 : limZ kd < x := Classical.byContradiction fun h => hnx ⟨by omega, by omega⟩
          clear hnx
          unfold limZ at x2
          by_cases k0 : kd = 0
          · rw [if_pos k0] at x2
            repeat' (first | ((with_reducible refine aw_seqk ?_); intro K hK hX) | ((with_reducible refine isC_reg ?_); refine aw_prune [0, 1, 2, 4, 5, 6] rfl rfl ?_; with_reducible refine aw_region ?_) | ((with_reducible refine isC_draw ?_); refine aw_prune [0, 1, 2, 4, 5, 6] rfl rfl ?_; refine aw_drwF [] ?_) | ((with_reducible refine isA_g ?_); refine a_skip2 rfl rfl rfl ?_) | ((with_reducible refine isA_g ?_); refine a_skipU (g_some rfl rfl zgd) rfl ?_) | ((first | ((with_reducible refine isA_any ?_); refine xA ?_) | ((with_reducible refine isDk_any ?_); refine xD ?_)); (first | ((with_reducible refine e_load ?_); (first | refine ex_i (s_load1 tabOk rfl rfl rfl rfl (by (rw [Nat.mul_one]; exact hxa))) ?_ | refine ex_i (s_load1r tabOk rfl rfl rfl rfl (by (rw [Nat.mul_one]; exact hxa))) ?_ | refine ex_i (s_load1i tabOk rfl rfl rfl (by (rw [Nat.mul_one]; exact hxa))) ?_)) | ((with_reducible refine e_ix ?_); (first | refine ex_i (s_ixV1 tabOk rfl rfl zcj rfl rfl rfl rfl rfl zle (by (rw [Nat.mul_one]; exact hxa))) ?_ | refine ex_i (s_ixStr tabOk rfl rfl zcj rfl rfl (by (rw [Nat.mul_one]; exact hxa))) ?_)))) | refine stA ?_ | refine stD ?_ | (refine hK _ _ _ _ ?_; clear hK hX K) | (refine hX _ _ _ _ _ (by simp) ?_; clear hK hX K))
            refine retK_mk zio ztr rfl (ResL.one (ResA.tmp rfl)) zou
          · rw [if_neg k0] at x2
            repeat' (first | ((with_reducible refine aw_seqk ?_); intro K hK hX) | ((with_reducible refine isC_reg ?_); refine aw_prune [0, 1, 2, 4, 5, 6] rfl rfl ?_; with_reducible refine aw_region ?_) | ((with_reducible refine isC_draw ?_); refine aw_prune [0, 1, 2, 4, 5, 6] rfl rfl ?_; refine aw_drwF [] ?_) | ((with_reducible refine isA_g ?_); refine a_skip2 rfl rfl rfl ?_) | ((with_reducible refine isA_g ?_); refine a_skipU (g_some rfl rfl zgd) rfl ?_) | ((first | ((with_reducible refine isA_any ?_); refine xA ?_) | ((with_reducible refine isDk_any ?_); refine xD ?_)); (first | ((with_reducible refine e_load ?_); (first | refine ex_i (s_load1 tabOk rfl rfl rfl rfl (by (rw [Nat.mul_one]; exact hxa))) ?_ | refine ex_i (s_load1r tabOk rfl rfl rfl rfl (by (rw [Nat.mul_one]; exact hxa))) ?_ | refine ex_i (s_load1i tabOk rfl rfl rfl (by (rw [Nat.mul_one]; exact hxa))) ?_)) | ((with_reducible refine e_ix ?_); (first | refine ex_i (s_ixV1 tabOk rfl rfl zcj rfl rfl rfl rfl rfl zle (by (rw [Nat.mul_one]; exact hxa))) ?_ | refine ex_i (s_ixStr tabOk rfl rfl zcj rfl rfl (by (rw [Nat.mul_one]; exact hxa))) ?_)))) | refine stA ?_ | refine stD ?_ | (refine hK _ _ _ _ ?_; clear hK hX K) | (refine hX _ _ _ _ _ (by simp) ?_; clear hK hX K))
            refine retK_mk zio ztr rfl (ResL.one (ResA.tmp rfl)) zou
  · rw [form_f f1] at hf
    rw [decide_eq_false (show ¬ valC s l from fun h => f1 h.1)]
    obtain ⟨nm, sr, col, kd, w, d⟩ := s
    simp only [Sk.c] at *
    refine ac_enter tabOk (sz := 95) Tryz.func23 rfl (by rw [Tryz.ntmps23]; rfl) ?_
    repeat' (first | ((with_reducible refine aw_seqk ?_); intro K hK hX) | ((with_reducible refine isC_reg ?_); refine aw_prune [0, 1, 2, 4, 5, 6] rfl rfl ?_; with_reducible refine aw_region ?_) | ((with_reducible refine isC_draw ?_); refine aw_prune [0, 1, 2, 4, 5, 6] rfl rfl ?_; refine aw_drwF [] ?_) | ((first | with_reducible refine isA_call ?_ | with_reducible refine isD_call ?_); (first | refine zA ?_ | refine zN ?_ | refine zD ?_); (first | refine c0 (hf) ?_)) | refine stA ?_ | refine stD ?_ | (refine hK _ _ _ _ ?_; clear hK hX K) | (refine hX _ _ _ _ _ (by simp) ?_; clear hK hX K))
    refine retK_mk zio ztr rfl (ResL.one (ResA.tmp rfl)) zou
end Go.Proofs.YtccnhpaldmjkbaaGreat
/-
  Valid cells of bottom-k sketches (walk), as the reference has them.
-/
namespace Go.Proofs.YtccnhpaldmjkbaaGreat
open Go Go.RowKit Go.Av
set_option maxRecDepth 100000
def goodH (l : List Int) (i : Nat) : Prop := ∀ x, l[i]? = some x → 0 ≤ x ∧ x < 4611686018427387904 ∧ (0 < i → l.getD (i - 1) 0 < x)
theorem hashP_good {w : Nat} {l : List Int} : hashP w l ↔ l.length ≤ w ∧ ∀ i, i < l.length → goodH l i := by
  rw [hashP_iff]
  constructor
  · intro h
    have h0 := hashP_iff.2 h
    refine ⟨h.1, fun i hi x hx => ⟨(h0.2.2 x (List.mem_of_getElem? hx)).1, (h.2 i hi x hx).2, fun h1 => ?_⟩⟩
    have h3 := (h.2 i hi x hx).1
    unfold prevI at h3
    rw [if_neg (by omega)] at h3
    exact h3
  · intro h
    refine ⟨h.1, fun i hi x hx => ⟨?_, (h.2 i hi x hx).2.1⟩⟩
    obtain ⟨h1, h2, h3⟩ := h.2 i hi x hx
    unfold prevI
    split
    · omega
    · exact h3 (by omega)
attribute [local irreducible] Still Adds AWL AW Drw DrwE EStep AC AWR Weak Frz Src RetK Out InK ItK AsK RdK RetT OutT ACT ACS RetS ACP RetP
open Classical in
set_option maxHeartbeats 8000000 in
theorem rvalb_ok (nm sr : List UInt8) (col d : Int) (w : Nat) (l : List Int) (n : Nat) (hn : l.length = n) (hm : n ≤ maxLen) (hw : (w : Int) ≤ 9223372036854775807) : AC Tryz.prog 23 [.agg [sv nm, sv sr, iv col, iv 2, iv w, iv d], .sl 1 n (intc .i64 l)] (.c (bv (decide (formP ⟨nm, sr, col, 2, w, d⟩ ∧ hashP w l)))) [] 0 := by
  have hml : n ≤ 9223372036854775807 := hm
  clear hm
  have hil : (intc .i64 l).length = n := by rw [ic_len, hn]
  have hf := rform_ok ⟨nm, sr, col, 2, w, d⟩
  simp only [Sk.c] at hf
  by_cases f1 : formP ⟨nm, sr, col, 2, w, d⟩
  · rw [form_t f1] at hf
    by_cases hall : ∀ i, i < n → goodH l i
    · have hres : decide (formP ⟨nm, sr, col, 2, w, d⟩ ∧ hashP w l) = decide ((n : Int) ≤ (w : Int)) := decide_eq_decide.2 ⟨fun h => by have := h.2.1; omega, fun h => ⟨f1, hashP_good.2 ⟨by omega, by rw [hn]; exact hall⟩⟩⟩
      rw [hres]
      generalize hb : decide ((n : Int) ≤ (w : Int)) = b
      clear hres f1
      refine ac_enter tabOk (sz := 95) Tryz.func23 rfl (by rw [Tryz.ntmps23]; rfl) ?_
      repeat' (first | ((with_reducible refine aw_seqk ?_); intro K hK hX) | ((with_reducible refine isC_reg ?_); refine aw_prune [0, 1, 2, 4, 5, 6] rfl rfl ?_; with_reducible refine aw_region ?_) | ((with_reducible refine isC_draw ?_); refine aw_prune [0, 1, 2, 4, 5, 6] rfl rfl ?_; refine aw_drwF [] ?_) | ((first | with_reducible refine isA_call ?_ | with_reducible refine isD_call ?_); (first | refine zA ?_ | refine zN ?_ | refine zD ?_); (first | refine c0 (hf) ?_)) | refine stA ?_ | refine stD ?_ | (refine hK _ _ _ _ ?_; clear hK hX K) | (refine hX _ _ _ _ _ (by simp) ?_; clear hK hX K))
      refine aw_loopo [5] [] rfl rfl (fun i : Nat => [(5, .c (iv i))]) (fun i => []) (fun i => i ≤ n) (fun i => n - i) 0 (by omega) weakA ?_
      intro i hi K hK hX
      by_cases hlt : i < n
      · obtain ⟨x, hx⟩ : ∃ x, l[i]? = some x := ⟨l[i]'(by omega), List.getElem?_eq_getElem _⟩
        obtain ⟨x1, x2, x3⟩ := hall i hlt x hx
        have hxa := ic_at hx
        clear hf hall hb
        by_cases i0 : 0 < i
        · have x4 := x3 i0
          have hy := gD_at (l := l) (i := i - 1) (by omega)
          have hya := ic_at hy
          generalize l.getD (i - 1) 0 = y at x4 hya
          obtain ⟨k, hk⟩ : ∃ k, i - 1 = k := ⟨_, rfl⟩
          rw [hk] at hya
          have hsub : IntKind.i64.wrap ((i : Int) - 1) = (k : Int) := by rw [w64 (by omega) (by omega)]; omega
          have hkn : k < n := by omega
          clear x3 hy
          repeat' (first | ((with_reducible refine aw_seqk ?_); intro K hK hX) | ((with_reducible refine isC_reg ?_); refine aw_prune [0, 1, 2, 4, 5, 6] rfl rfl ?_; with_reducible refine aw_region ?_) | ((with_reducible refine isC_draw ?_); refine aw_prune [0, 1, 2, 4, 5, 6] rfl rfl ?_; refine aw_drwF [] ?_) | ((first | ((with_reducible refine isA_any ?_); refine xA ?_) | ((with_reducible refine isDk_any ?_); refine xD ?_)); (first | ((with_reducible refine e_bin ?_); (first | refine ex_i (s_arit64 rfl rfl rfl hsub) ?_)) | ((with_reducible refine e_load ?_); (first | refine ex_i (s_load1 tabOk rfl rfl rfl rfl (by first | (rw [Nat.mul_one]; exact hxa) | (rw [Nat.mul_one]; exact hya))) ?_ | refine ex_i (s_load1r tabOk rfl rfl rfl rfl (by first | (rw [Nat.mul_one]; exact hxa) | (rw [Nat.mul_one]; exact hya))) ?_ | refine ex_i (s_load1i tabOk rfl rfl rfl (by first | (rw [Nat.mul_one]; exact hxa) | (rw [Nat.mul_one]; exact hya))) ?_)) | ((with_reducible refine e_ix ?_); (first | refine ex_i (s_ixV1 tabOk rfl rfl zcj rfl rfl rfl rfl rfl zle (by first | (rw [Nat.mul_one]; exact hxa) | (rw [Nat.mul_one]; exact hya))) ?_ | refine ex_i (s_ixStr tabOk rfl rfl zcj rfl rfl (by first | (rw [Nat.mul_one]; exact hxa) | (rw [Nat.mul_one]; exact hya))) ?_)))) | refine stA ?_ | refine stD ?_ | (refine hK _ _ _ _ ?_; clear hK hX K) | (refine hX _ _ _ _ _ (by simp) ?_; clear hK hX K))
          exact ⟨i + 1, by omega, by omega, weakA⟩
        · have hya := hxa
          have hsub := True.intro
          clear x3
          repeat' (first | ((with_reducible refine aw_seqk ?_); intro K hK hX) | ((with_reducible refine isC_reg ?_); refine aw_prune [0, 1, 2, 4, 5, 6] rfl rfl ?_; with_reducible refine aw_region ?_) | ((with_reducible refine isC_draw ?_); refine aw_prune [0, 1, 2, 4, 5, 6] rfl rfl ?_; refine aw_drwF [] ?_) | ((first | ((with_reducible refine isA_any ?_); refine xA ?_) | ((with_reducible refine isDk_any ?_); refine xD ?_)); (first | ((with_reducible refine e_bin ?_); (first | refine ex_i (s_arit64 rfl rfl rfl hsub) ?_)) | ((with_reducible refine e_load ?_); (first | refine ex_i (s_load1 tabOk rfl rfl rfl rfl (by first | (rw [Nat.mul_one]; exact hxa) | (rw [Nat.mul_one]; exact hya))) ?_ | refine ex_i (s_load1r tabOk rfl rfl rfl rfl (by first | (rw [Nat.mul_one]; exact hxa) | (rw [Nat.mul_one]; exact hya))) ?_ | refine ex_i (s_load1i tabOk rfl rfl rfl (by first | (rw [Nat.mul_one]; exact hxa) | (rw [Nat.mul_one]; exact hya))) ?_)) | ((with_reducible refine e_ix ?_); (first | refine ex_i (s_ixV1 tabOk rfl rfl zcj rfl rfl rfl rfl rfl zle (by first | (rw [Nat.mul_one]; exact hxa) | (rw [Nat.mul_one]; exact hya))) ?_ | refine ex_i (s_ixStr tabOk rfl rfl zcj rfl rfl (by first | (rw [Nat.mul_one]; exact hxa) | (rw [Nat.mul_one]; exact hya))) ?_)))) | refine stA ?_ | refine stD ?_ | (refine hK _ _ _ _ ?_; clear hK hX K) | (refine hX _ _ _ _ _ (by simp) ?_; clear hK hX K))
          exact ⟨i + 1, by omega, by omega, weakA⟩
      · clear hf hall
        have hin : i = n := by omega
        rw [hin]
        repeat' (first | ((with_reducible refine aw_seqk ?_); intro K hK hX) | ((with_reducible refine isC_reg ?_); refine aw_prune [0, 1, 2, 4, 5, 6] rfl rfl ?_; with_reducible refine aw_region ?_) | ((with_reducible refine isC_draw ?_); refine aw_prune [0, 1, 2, 4, 5, 6] rfl rfl ?_; refine aw_drwF [] ?_) | ((first | ((with_reducible refine isA_any ?_); refine xA ?_) | ((with_reducible refine isDk_any ?_); refine xD ?_)); (first | ((with_reducible refine e_bin ?_); (first | refine ex_i (s_cmp rfl rfl rfl hb) ?_)))) | refine stA ?_ | refine stD ?_ | (refine hK _ _ _ _ ?_; clear hK hX K) | (refine hX _ _ _ _ _ (by simp) ?_; clear hK hX K))
        refine retK_mk zio ztr rfl (ResL.one (ResA.tmp rfl)) zou
    · obtain ⟨q, hq, hbad, hgood⟩ := first_bad hall
      rw [decide_eq_false (fun h => hbad ((hashP_good.1 h.2).2 q (by omega)))]
      clear f1 hall
      refine ac_enter tabOk (sz := 95) Tryz.func23 rfl (by rw [Tryz.ntmps23]; rfl) ?_
      repeat' (first | ((with_reducible refine aw_seqk ?_); intro K hK hX) | ((with_reducible refine isC_reg ?_); refine aw_prune [0, 1, 2, 4, 5, 6] rfl rfl ?_; with_reducible refine aw_region ?_) | ((with_reducible refine isC_draw ?_); refine aw_prune [0, 1, 2, 4, 5, 6] rfl rfl ?_; refine aw_drwF [] ?_) | ((first | with_reducible refine isA_call ?_ | with_reducible refine isD_call ?_); (first | refine zA ?_ | refine zN ?_ | refine zD ?_); (first | refine c0 (hf) ?_)) | refine stA ?_ | refine stD ?_ | (refine hK _ _ _ _ ?_; clear hK hX K) | (refine hX _ _ _ _ _ (by simp) ?_; clear hK hX K))
      refine aw_loopo [5] [] rfl rfl (fun i : Nat => [(5, .c (iv i))]) (fun i => []) (fun i => i ≤ q) (fun i => q - i) 0 (by omega) weakA ?_
      intro i hi K hK hX
      have hin : i < n := by omega
      obtain ⟨x, hx⟩ : ∃ x, l[i]? = some x := ⟨l[i]'(by omega), List.getElem?_eq_getElem _⟩
      have hxa := ic_at hx
      by_cases hlt : i < q
      · obtain ⟨x1, x2, x3⟩ := hgood i hlt x hx
        clear hf hbad hgood
        by_cases i0 : 0 < i
        · have x4 := x3 i0
          have hy := gD_at (l := l) (i := i - 1) (by omega)
          have hya := ic_at hy
          generalize l.getD (i - 1) 0 = y at x4 hya
          obtain ⟨k, hk⟩ : ∃ k, i - 1 = k := ⟨_, rfl⟩
          rw [hk] at hya
          have hsub : IntKind.i64.wrap ((i : Int) - 1) = (k : Int) := by rw [w64 (by omega) (by omega)]; omega
          have hkn : k < n := by omega
          clear x3 hy
          repeat' (first | ((with_reducible refine aw_seqk ?_); intro K hK hX) | ((with_reducible refine isC_reg ?_); refine aw_prune [0, 1, 2, 4, 5, 6] rfl rfl ?_; with_reducible refine aw_region ?_) | ((with_reducible refine isC_draw ?_); refine aw_prune [0, 1, 2, 4, 5, 6] rfl rfl ?_; refine aw_drwF [] ?_) | ((first | ((with_reducible refine isA_any ?_); refine xA ?_) | ((with_reducible refine isDk_any ?_); refine xD ?_)); (first | ((with_reducible refine e_bin ?_); (first | refine ex_i (s_arit64 rfl rfl rfl hsub) ?_)) | ((with_reducible refine e_load ?_); (first | refine ex_i (s_load1 tabOk rfl rfl rfl rfl (by first | (rw [Nat.mul_one]; exact hxa) | (rw [Nat.mul_one]; exact hya))) ?_ | refine ex_i (s_load1r tabOk rfl rfl rfl rfl (by first | (rw [Nat.mul_one]; exact hxa) | (rw [Nat.mul_one]; exact hya))) ?_ | refine ex_i (s_load1i tabOk rfl rfl rfl (by first | (rw [Nat.mul_one]; exact hxa) | (rw [Nat.mul_one]; exact hya))) ?_)) | ((with_reducible refine e_ix ?_); (first | refine ex_i (s_ixV1 tabOk rfl rfl zcj rfl rfl rfl rfl rfl zle (by first | (rw [Nat.mul_one]; exact hxa) | (rw [Nat.mul_one]; exact hya))) ?_ | refine ex_i (s_ixStr tabOk rfl rfl zcj rfl rfl (by first | (rw [Nat.mul_one]; exact hxa) | (rw [Nat.mul_one]; exact hya))) ?_)))) | refine stA ?_ | refine stD ?_ | (refine hK _ _ _ _ ?_; clear hK hX K) | (refine hX _ _ _ _ _ (by simp) ?_; clear hK hX K))
          exact ⟨i + 1, by omega, by omega, weakA⟩
        · have hya := hxa
          have hsub := True.intro
          clear x3
          repeat' (first | ((with_reducible refine aw_seqk ?_); intro K hK hX) | ((with_reducible refine isC_reg ?_); refine aw_prune [0, 1, 2, 4, 5, 6] rfl rfl ?_; with_reducible refine aw_region ?_) | ((with_reducible refine isC_draw ?_); refine aw_prune [0, 1, 2, 4, 5, 6] rfl rfl ?_; refine aw_drwF [] ?_) | ((first | ((with_reducible refine isA_any ?_); refine xA ?_) | ((with_reducible refine isDk_any ?_); refine xD ?_)); (first | ((with_reducible refine e_bin ?_); (first | refine ex_i (s_arit64 rfl rfl rfl hsub) ?_)) | ((with_reducible refine e_load ?_); (first | refine ex_i (s_load1 tabOk rfl rfl rfl rfl (by first | (rw [Nat.mul_one]; exact hxa) | (rw [Nat.mul_one]; exact hya))) ?_ | refine ex_i (s_load1r tabOk rfl rfl rfl rfl (by first | (rw [Nat.mul_one]; exact hxa) | (rw [Nat.mul_one]; exact hya))) ?_ | refine ex_i (s_load1i tabOk rfl rfl rfl (by first | (rw [Nat.mul_one]; exact hxa) | (rw [Nat.mul_one]; exact hya))) ?_)) | ((with_reducible refine e_ix ?_); (first | refine ex_i (s_ixV1 tabOk rfl rfl zcj rfl rfl rfl rfl rfl zle (by first | (rw [Nat.mul_one]; exact hxa) | (rw [Nat.mul_one]; exact hya))) ?_ | refine ex_i (s_ixStr tabOk rfl rfl zcj rfl rfl (by first | (rw [Nat.mul_one]; exact hxa) | (rw [Nat.mul_one]; exact hya))) ?_)))) | refine stA ?_ | refine stD ?_ | (refine hK _ _ _ _ ?_; clear hK hX K) | (refine hX _ _ _ _ _ (by simp) ?_; clear hK hX K))
          exact ⟨i + 1, by omega, by omega, weakA⟩
      · have hiq : i = q := by omega
        have hnx : ¬ (0 ≤ x ∧ x < 4611686018427387904 ∧ (0 < i → l.getD (i - 1) 0 < x)) := fun h => hbad (by
          rw [← hiq]
          intro y hy
          rw [hx] at hy; injection hy with hy; subst hy; exact h)
        clear hf hbad hgood
        by_cases x1 : x < 0
        · have hya := hxa
          have hsub := True.intro
          clear hnx
          repeat' (first | ((with_reducible refine aw_seqk ?_); intro K hK hX) | ((with_reducible refine isC_reg ?_); refine aw_prune [0, 1, 2, 4, 5, 6] rfl rfl ?_; with_reducible refine aw_region ?_) | ((with_reducible refine isC_draw ?_); refine aw_prune [0, 1, 2, 4, 5, 6] rfl rfl ?_; refine aw_drwF [] ?_) | ((first | ((with_reducible refine isA_any ?_); refine xA ?_) | ((with_reducible refine isDk_any ?_); refine xD ?_)); (first | ((with_reducible refine e_bin ?_); (first | refine ex_i (s_arit64 rfl rfl rfl hsub) ?_)) | ((with_reducible refine e_load ?_); (first | refine ex_i (s_load1 tabOk rfl rfl rfl rfl (by first | (rw [Nat.mul_one]; exact hxa) | (rw [Nat.mul_one]; exact hya))) ?_ | refine ex_i (s_load1r tabOk rfl rfl rfl rfl (by first | (rw [Nat.mul_one]; exact hxa) | (rw [Nat.mul_one]; exact hya))) ?_ | refine ex_i (s_load1i tabOk rfl rfl rfl (by first | (rw [Nat.mul_one]; exact hxa) | (rw [Nat.mul_one]; exact hya))) ?_)) | ((with_reducible refine e_ix ?_); (first | refine ex_i (s_ixV1 tabOk rfl rfl zcj rfl rfl rfl rfl rfl zle (by first | (rw [Nat.mul_one]; exact hxa) | (rw [Nat.mul_one]; exact hya))) ?_ | refine ex_i (s_ixStr tabOk rfl rfl zcj rfl rfl (by first | (rw [Nat.mul_one]; exact hxa) | (rw [Nat.mul_one]; exact hya))) ?_)))) | refine stA ?_ | refine stD ?_ | (refine hK _ _ _ _ ?_; clear hK hX K) | (refine hX _ _ _ _ _ (by simp) ?_; clear hK hX K))
          refine retK_mk zio ztr rfl (ResL.one (ResA.tmp rfl)) zou
        · by_cases x2 : 4611686018427387904 ≤ x
          · have hya := hxa
            have hsub := True.intro
            clear hnx
            repeat' (first | ((with_reducible refine aw_seqk ?_); intro K hK hX) | ((with_reducible refine isC_reg ?_); refine aw_prune [0, 1, 2, 4, 5, 6] rfl rfl ?_; with_reducible refine aw_region ?_) | ((with_reducible refine isC_draw ?_); refine aw_prune [0, 1, 2, 4, 5, 6] rfl rfl ?_; refine aw_drwF [] ?_) | ((first | ((with_reducible refine isA_any ?_); refine xA ?_) | ((with_reducible refine isDk_any ?_); refine xD ?_)); (first | ((with_reducible refine e_bin ?_); (first | refine ex_i (s_arit64 rfl rfl rfl hsub) ?_)) | ((with_reducible refine e_load ?_); (first | refine ex_i (s_load1 tabOk rfl rfl rfl rfl (by first | (rw [Nat.mul_one]; exact hxa) | (rw [Nat.mul_one]; exact hya))) ?_ | refine ex_i (s_load1r tabOk rfl rfl rfl rfl (by first | (rw [Nat.mul_one]; exact hxa) | (rw [Nat.mul_one]; exact hya))) ?_ | refine ex_i (s_load1i tabOk rfl rfl rfl (by first | (rw [Nat.mul_one]; exact hxa) | (rw [Nat.mul_one]; exact hya))) ?_)) | ((with_reducible refine e_ix ?_); (first | refine ex_i (s_ixV1 tabOk rfl rfl zcj rfl rfl rfl rfl rfl zle (by first | (rw [Nat.mul_one]; exact hxa) | (rw [Nat.mul_one]; exact hya))) ?_ | refine ex_i (s_ixStr tabOk rfl rfl zcj rfl rfl (by first | (rw [Nat.mul_one]; exact hxa) | (rw [Nat.mul_one]; exact hya))) ?_)))) | refine stA ?_ | refine stD ?_ | (refine hK _ _ _ _ ?_; clear hK hX K) | (refine hX _ _ _ _ _ (by simp) ?_; clear hK hX K))
            refine retK_mk zio ztr rfl (ResL.one (ResA.tmp rfl)) zou
          · have i0 : 0 < i := Classical.byContradiction fun h => hnx ⟨by omega, by omega, fun h2 => absurd h2 h⟩
            have x4 : x ≤ l.getD (i - 1) 0 := Classical.byContradiction fun h => hnx ⟨by omega, by omega, fun _ => by omega⟩
            have hy := gD_at (l := l) (i := i - 1) (by omega)
            have hya := ic_at hy
            clear hnx
            generalize l.getD (i - 1) 0 = y at x4 hya
            obtain ⟨k, hk⟩ : ∃ k, i - 1 = k := ⟨_, rfl⟩
            rw [hk] at hya
            have hsub : IntKind.i64.wrap ((i : Int) - 1) = (k : Int) := by rw [w64 (by omega) (by omega)]; omega
            have hkn : k < n := by omega
            clear hy
            repeat' (first | ((with_reducible refine aw_seqk ?_); intro K hK hX) | ((with_reducible refine isC_reg ?_); refine aw_prune [0, 1, 2, 4, 5, 6] rfl rfl ?_; with_reducible refine aw_region ?_) | ((with_reducible refine isC_draw ?_); refine aw_prune [0, 1, 2, 4, 5, 6] rfl rfl ?_; refine aw_drwF [] ?_) | ((first | ((with_reducible refine isA_any ?_); refine xA ?_) | ((with_reducible refine isDk_any ?_); refine xD ?_)); (first | ((with_reducible refine e_bin ?_); (first | refine ex_i (s_arit64 rfl rfl rfl hsub) ?_)) | ((with_reducible refine e_load ?_); (first | refine ex_i (s_load1 tabOk rfl rfl rfl rfl (by first | (rw [Nat.mul_one]; exact hxa) | (rw [Nat.mul_one]; exact hya))) ?_ | refine ex_i (s_load1r tabOk rfl rfl rfl rfl (by first | (rw [Nat.mul_one]; exact hxa) | (rw [Nat.mul_one]; exact hya))) ?_ | refine ex_i (s_load1i tabOk rfl rfl rfl (by first | (rw [Nat.mul_one]; exact hxa) | (rw [Nat.mul_one]; exact hya))) ?_)) | ((with_reducible refine e_ix ?_); (first | refine ex_i (s_ixV1 tabOk rfl rfl zcj rfl rfl rfl rfl rfl zle (by first | (rw [Nat.mul_one]; exact hxa) | (rw [Nat.mul_one]; exact hya))) ?_ | refine ex_i (s_ixStr tabOk rfl rfl zcj rfl rfl (by first | (rw [Nat.mul_one]; exact hxa) | (rw [Nat.mul_one]; exact hya))) ?_)))) | refine stA ?_ | refine stD ?_ | (refine hK _ _ _ _ ?_; clear hK hX K) | (refine hX _ _ _ _ _ (by simp) ?_; clear hK hX K))
            refine retK_mk zio ztr rfl (ResL.one (ResA.tmp rfl)) zou
  · rw [form_f f1] at hf
    rw [decide_eq_false (fun h => f1 h.1)]
    refine ac_enter tabOk (sz := 95) Tryz.func23 rfl (by rw [Tryz.ntmps23]; rfl) ?_
    repeat' (first | ((with_reducible refine aw_seqk ?_); intro K hK hX) | ((with_reducible refine isC_reg ?_); refine aw_prune [0, 1, 2, 4, 5, 6] rfl rfl ?_; with_reducible refine aw_region ?_) | ((with_reducible refine isC_draw ?_); refine aw_prune [0, 1, 2, 4, 5, 6] rfl rfl ?_; refine aw_drwF [] ?_) | ((first | with_reducible refine isA_call ?_ | with_reducible refine isD_call ?_); (first | refine zA ?_ | refine zN ?_ | refine zD ?_); (first | refine c0 (hf) ?_)) | refine stA ?_ | refine stD ?_ | (refine hK _ _ _ _ ?_; clear hK hX K) | (refine hX _ _ _ _ _ (by simp) ?_; clear hK hX K))
    refine retK_mk zio ztr rfl (ResL.one (ResA.tmp rfl)) zou
end Go.Proofs.YtccnhpaldmjkbaaGreat
/-
  Valid of both packages, for every sketch and every cells (walk).
-/
namespace Go.Proofs.YtccnhpaldmjkbaaGreat
open Go Go.RowKit Go.Av
set_option maxRecDepth 100000
attribute [local irreducible] Still Adds AWL AW Drw DrwE EStep AC AWR Weak Frz Src RetK Out InK ItK AsK RdK RetT OutT ACT ACS RetS ACP RetP
theorem valf_ok (s : Sk) (X : CV) (h : ¬ formP s) : AC Tryz.prog 22 [.agg s.c, X] (.c (bv false)) [] 0 := by
  have hf := form_ok s
  rw [form_f h] at hf
  obtain ⟨nm, sr, col, kd, w, d⟩ := s
  simp only [Sk.c] at *
  refine ac_enter tabOk (sz := 31) Tryz.func22 rfl (by rw [Tryz.ntmps22]; rfl) ?_
  repeat' (first | ((with_reducible refine aw_seqk ?_); intro K hK hX) | ((with_reducible refine isC_reg ?_); refine aw_prune [0, 1, 2, 4, 5] rfl rfl ?_; with_reducible refine aw_region ?_) | ((with_reducible refine isA_call ?_); (first | refine zA ?_ | refine zN ?_); (first | refine c0 (hf) ?_)) | refine stA ?_ | (refine hK _ _ _ _ ?_; clear hK hX K) | (refine hX _ _ _ _ _ (by simp) ?_; clear hK hX K))
  refine retK_mk zio (by exact ⟨va_idle, va_idle_b, trivial⟩) rfl (ResL.one (ResA.tmp rfl)) zou
theorem rvalf_ok (s : Sk) (X : CV) (h : ¬ formP s) : AC Tryz.prog 23 [.agg s.c, X] (.c (bv false)) [] 0 := by
  have hf := rform_ok s
  rw [form_f h] at hf
  obtain ⟨nm, sr, col, kd, w, d⟩ := s
  simp only [Sk.c] at *
  refine ac_enter tabOk (sz := 95) Tryz.func23 rfl (by rw [Tryz.ntmps23]; rfl) ?_
  repeat' (first | ((with_reducible refine aw_seqk ?_); intro K hK hX) | ((with_reducible refine isC_reg ?_); refine aw_prune [0, 1, 2, 4, 5, 6] rfl rfl ?_; with_reducible refine aw_region ?_) | ((with_reducible refine isC_draw ?_); refine aw_prune [0, 1, 2, 4, 5, 6] rfl rfl ?_; refine aw_drwF [] ?_) | ((first | with_reducible refine isA_call ?_ | with_reducible refine isD_call ?_); (first | refine zA ?_ | refine zN ?_ | refine zD ?_); (first | refine c0 (hf) ?_)) | refine stA ?_ | refine stD ?_ | (refine hK _ _ _ _ ?_; clear hK hX K) | (refine hX _ _ _ _ _ (by simp) ?_; clear hK hX K))
  refine retK_mk zio ztr rfl (ResL.one (ResA.tmp rfl)) zou
end Go.Proofs.YtccnhpaldmjkbaaGreat
