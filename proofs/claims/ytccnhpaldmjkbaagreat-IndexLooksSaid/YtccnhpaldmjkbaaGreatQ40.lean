/-
  Joined texts: JU. Lemmas; no statement of a law.
-/
import Derived.Test.YtccnhpaldmjkbaaGreatQ12
import Derived.Test.YtccnhpaldmjkbaaGreatQ28
set_option maxHeartbeats 16000000
set_option linter.unusedSimpArgs false
set_option linter.unusedVariables false
namespace Go.Proofs.YtccnhpaldmjkbaaGreat
open Go Go.RowKit Go.Av
set_option maxRecDepth 100000
def smallR (r : List Vl) : Prop := r.length ≤ 20 ∧ ∀ v ∈ r, v.t.length ≤ 100
instance (r : List Vl) : Decidable (smallR r) := by unfold smallR; infer_instance
def smallPs (p : List Po) : Prop := p.length ≤ 30 ∧ ∀ x ∈ p, x.w.length ≤ 100 ∧ smallR x.r
instance (p : List Po) : Decidable (smallPs p) := by unfold smallPs; infer_instance
attribute [local irreducible] Still Adds AWL AW Drw DrwE EStep AC AWR Weak Frz Src RetK Out InK ItK AsK RdK
theorem smbag_ok (r : List Vl) (N : Nat) (hr : r.length = N) (hm : N ≤ maxLen) : AC Tryz.prog 75 [.sl 2 1 [.sl 3 N (rc r), iv 0]] (.c (bv (decide (smallR r)))) [] 0 := by
  have hcl : (rc r).length = N * 3 := by rw [dT, hr]
  have hm2 : N ≤ 9223372036854775807 := hm
  by_cases h1 : N ≤ 20
  · refine aJ tabOk (sz := 42) Tryz.func75 rfl (by rw [Tryz.ntmps75]; rfl) ?_
    repeat' (first | ((with_reducible refine aB ?_); intro K hK hX) | ((with_reducible refine aC ?_); refine aD [0, 2, 3, 4] rfl rfl ?_) | refine stA ?_ | ((first | refine hK _ _ _ _ ?_ | refine hX _ _ _ _ _ (by simp) ?_); clear hK hX K))
    refine bC [3, 4] [] rfl rfl (fun i : Nat => [(3, .c (iv i))]) (fun i => []) (fun i => i ≤ 1 ∧ (i = 1 → ∀ v ∈ r, v.t.length ≤ 100)) (fun i => 1 - i) 0 ⟨by omega, fun h => absurd h (by decide)⟩ weakA ?_
    rintro i ⟨hi, hall⟩ K hK hX
    by_cases hlt : i < 1
    · have hie : i = 0 := by omega
      rw [hie]
      clear hall
      repeat' (first | ((with_reducible refine aB ?_); intro K hK hX) | ((with_reducible refine aC ?_); refine aD [0, 2, 3, 4] rfl rfl ?_) | refine stA ?_ | ((first | refine hK _ _ _ _ ?_ | refine hX _ _ _ _ _ (by simp) ?_); clear hK hX K))
      refine bC [4] [] rfl rfl (fun j : Nat => [(4, .c (iv j))]) (fun j => []) (fun j => j ≤ N ∧ ∀ v ∈ r.take j, v.t.length ≤ 100) (fun j => N - j) 0 ⟨Nat.zero_le _, by simp⟩ weakA ?_
      rintro j ⟨hj, hbef⟩ K hK hX
      by_cases hjl : j < N
      · obtain ⟨v, hv⟩ : ∃ v, r[j]? = some v := ⟨_, List.getElem?_eq_getElem (by omega)⟩
        have hvt := rc_tI hv
        have hsz := kF v.t
        by_cases hs : v.t.length ≤ 100
        · have hnx : ∀ u ∈ r.take (j + 1), u.t.length ≤ 100 := fun u hu => by
            rw [List.take_add_one, hv, Option.toList_some] at hu
            rcases List.mem_append.1 hu with hu | hu
            · exact hbef u hu
            · rw [List.mem_singleton.1 hu]; exact hs
          clear hbef hv
          obtain ⟨vk, vn, vt⟩ := v
          simp only at *
          repeat' (first | ((with_reducible refine aB ?_); intro K hK hX) | ((with_reducible refine aC ?_); refine aD [0, 2, 3, 4] rfl rfl ?_) | (((with_reducible refine aH ?_); refine xA ?_); (first | ((with_reducible refine aP ?_); (first | refine aA (aR tabOk rfl rfl rfl rfl (by exact hvt)) ?_ | refine aA (aN tabOk rfl rfl rfl rfl (by exact hvt)) ?_ | refine aA (aM tabOk rfl rfl rfl (by exact hvt)) ?_)) | ((with_reducible refine bR ?_); (first | refine aA (s_ixV1 tabOk rfl rfl zcj rfl rfl rfl rfl rfl zle (by exact hvt)) ?_ | refine aA (aQ tabOk rfl rfl zcj rfl rfl (by exact hvt)) ?_)))) | refine stA ?_ | ((first | refine hK _ _ _ _ ?_ | refine hX _ _ _ _ _ (by simp) ?_); clear hK hX K))
          exact ⟨j + 1, ⟨by omega, hnx⟩, by omega, weakA⟩
        · have hbad := bvF (q := smallR r) fun h => hs (h.2 v (List.mem_of_getElem? hv))
          clear hbef hv
          obtain ⟨vk, vn, vt⟩ := v
          simp only at *
          repeat' (first | ((with_reducible refine aB ?_); intro K hK hX) | ((with_reducible refine aC ?_); refine aD [0, 2, 3, 4] rfl rfl ?_) | (((with_reducible refine aH ?_); refine xA ?_); (first | ((with_reducible refine aP ?_); (first | refine aA (aR tabOk rfl rfl rfl rfl (by exact hvt)) ?_ | refine aA (aN tabOk rfl rfl rfl rfl (by exact hvt)) ?_ | refine aA (aM tabOk rfl rfl rfl (by exact hvt)) ?_)) | ((with_reducible refine bR ?_); (first | refine aA (s_ixV1 tabOk rfl rfl zcj rfl rfl rfl rfl rfl zle (by exact hvt)) ?_ | refine aA (aQ tabOk rfl rfl zcj rfl rfl (by exact hvt)) ?_)))) | refine stA ?_ | ((first | refine hK _ _ _ _ ?_ | refine hX _ _ _ _ _ (by simp) ?_); clear hK hX K))
          refine aK zio ztr rfl (ResL.one (ResA.tmp rfl)) (cE (bO (bY bL) (cV hbad)))
      · have hje : j = N := by omega
        have hful : ∀ v ∈ r, v.t.length ≤ 100 := fun v hv => hbef v (by rw [List.take_of_length_le (by omega)]; exact hv)
        rw [hje]
        clear hbef
        repeat' (first | ((with_reducible refine aB ?_); intro K hK hX) | ((with_reducible refine aC ?_); refine aD [0, 2, 3, 4] rfl rfl ?_) | refine stA ?_ | ((first | refine hK _ _ _ _ ?_ | refine hX _ _ _ _ _ (by simp) ?_); clear hK hX K))
        exact ⟨1, ⟨by omega, fun _ => hful⟩, by omega, weakA⟩
    · have hie : i = 1 := by omega
      have hgood := bvT (q := smallR r) ⟨by omega, hall hie⟩
      rw [hie]
      clear hall
      repeat' (first | ((with_reducible refine aB ?_); intro K hK hX) | ((with_reducible refine aC ?_); refine aD [0, 2, 3, 4] rfl rfl ?_) | refine stA ?_ | ((first | refine hK _ _ _ _ ?_ | refine hX _ _ _ _ _ (by simp) ?_); clear hK hX K))
      refine aK zio ztr rfl (ResL.one (ResA.tmp rfl)) (cE (bO (bY bL) (cV hgood)))
  · have hbad := bvF (q := smallR r) fun h => h1 (by have := h.1; omega)
    refine aJ tabOk (sz := 42) Tryz.func75 rfl (by rw [Tryz.ntmps75]; rfl) ?_
    repeat' (first | ((with_reducible refine aB ?_); intro K hK hX) | ((with_reducible refine aC ?_); refine aD [0, 2, 3, 4] rfl rfl ?_) | refine stA ?_ | ((first | refine hK _ _ _ _ ?_ | refine hX _ _ _ _ _ (by simp) ?_); clear hK hX K))
    refine bC [3, 4] [] rfl rfl (fun i : Nat => [(3, .c (iv i))]) (fun i => []) (fun i => i = 0) (fun i => 1 - i) 0 rfl weakA ?_
    intro i hie K hK hX
    rw [hie]
    repeat' (first | ((with_reducible refine aB ?_); intro K hK hX) | ((with_reducible refine aC ?_); refine aD [0, 2, 3, 4] rfl rfl ?_) | refine stA ?_ | ((first | refine hK _ _ _ _ ?_ | refine hX _ _ _ _ _ (by simp) ?_); clear hK hX K))
    refine aK zio ztr rfl (ResL.one (ResA.tmp rfl)) (cE (bO (bY bL) (cV hbad)))
theorem smpost_ok (p : List Po) (n : Nat) (hn : p.length = n) (hm : n ≤ maxLen) (hf : ∀ x ∈ p, x.w.length ≤ maxLen ∧ x.r.length ≤ maxLen) : AC Tryz.prog 30 [.sl 3 n (pc p)] (.c (bv (decide (smallPs p)))) [] 0 := by
  have hcl : (pc p).length = n * 3 := by rw [bQ, hn]
  have hm2 : n ≤ 9223372036854775807 := hm
  refine aJ tabOk (sz := 35) Tryz.func30 rfl (by rw [Tryz.ntmps30]; rfl) ?_
  repeat' (first | ((with_reducible refine aB ?_); intro K hK hX) | ((with_reducible refine aC ?_); refine aD [0, 2, 3] rfl rfl ?_) | refine stA ?_ | ((first | refine hK _ _ _ _ ?_ | refine hX _ _ _ _ _ (by simp) ?_); clear hK hX K))
  refine bC [3] [] rfl rfl (fun i : Nat => [(3, .c (iv i))]) (fun i => []) (fun i => i ≤ n ∧ i ≤ 40 ∧ ∀ x ∈ p.take i, x.w.length ≤ 100 ∧ smallR x.r) (fun i => 40 - i) 0 ⟨by omega, by omega, by simp⟩ weakA ?_
  rintro i ⟨hi, hi4, hall⟩ K hK hX
  by_cases hlt : i < n ∧ i < 40
  · obtain ⟨hlt, hlt4⟩ := hlt
    obtain ⟨x, hx⟩ : ∃ x, p[i]? = some x := ⟨_, List.getElem?_eq_getElem (by omega)⟩
    have hxm := List.mem_of_getElem? hx
    have haw := pc_w hx
    have har := pc_r hx
    have hsz := kF x.w
    obtain ⟨f1, f2⟩ := hf x hxm
    have hsb := smbag_ok x.r x.r.length rfl f2
    simp only [maxLen] at f1 f2
    by_cases hs : x.w.length ≤ 100
    · by_cases hr : smallR x.r
      · have hnx : ∀ u ∈ p.take (i + 1), u.w.length ≤ 100 ∧ smallR u.r := fun u hu => by
          rw [List.take_add_one, hx, Option.toList_some] at hu
          rcases List.mem_append.1 hu with hu | hu
          · exact hall u hu
          · rw [List.mem_singleton.1 hu]; exact ⟨hs, hr⟩
        rw [decide_eq_true hr] at hsb
        clear hall hx hxm hf hr
        obtain ⟨xw, xr, xn⟩ := x
        simp only at *
        repeat' (first | ((with_reducible refine aB ?_); intro K hK hX) | ((with_reducible refine aC ?_); refine aD [0, 2, 3] rfl rfl ?_) | ((with_reducible refine cK ?_); (refine wA ?_); (first | refine eL (bK (cM tabOk rfl rfl rfl rfl rfl) zln) ?_ | refine eL (bK (cU tabOk rfl rfl rfl rfl rfl rfl rfl rfl rfl rfl rfl rfl (cI rfl) (by first | rfl | exact all1 (by assumption) | (simp <;> fail) | fail) (by rfl)) zln) ?_)) | ((with_reducible refine aE ?_); (first | refine zA ?_ | refine zN ?_); (first | refine c0 hsb ?_)) | (((with_reducible refine aH ?_); refine xA ?_); (first | ((with_reducible refine aP ?_); (first | refine aA (aR tabOk rfl rfl rfl rfl (by first | exact haw | exact har)) ?_ | refine aA (aN tabOk rfl rfl rfl rfl (by first | exact haw | exact har)) ?_ | refine aA (aM tabOk rfl rfl rfl (by first | exact haw | exact har)) ?_)) | ((with_reducible refine bR ?_); (first | refine aA (s_ixV1 tabOk rfl rfl zcj rfl rfl rfl rfl rfl zle (by first | exact haw | exact har)) ?_ | refine aA (aQ tabOk rfl rfl zcj rfl rfl (by first | exact haw | exact har)) ?_)))) | refine stA ?_ | ((first | refine hK _ _ _ _ ?_ | refine hX _ _ _ _ _ (by simp) ?_); clear hK hX K))
        exact ⟨i + 1, ⟨by omega, by omega, hnx⟩, by omega, weakA⟩
      · have hbad := bvF (q := smallPs p) fun h => hr (h.2 x hxm).2
        rw [decide_eq_false hr] at hsb
        clear hall hx hxm hf hr
        obtain ⟨xw, xr, xn⟩ := x
        simp only at *
        repeat' (first | ((with_reducible refine aB ?_); intro K hK hX) | ((with_reducible refine aC ?_); refine aD [0, 2, 3] rfl rfl ?_) | ((with_reducible refine cK ?_); (refine wA ?_); (first | refine eL (bK (cM tabOk rfl rfl rfl rfl rfl) zln) ?_ | refine eL (bK (cU tabOk rfl rfl rfl rfl rfl rfl rfl rfl rfl rfl rfl rfl (cI rfl) (by first | rfl | exact all1 (by assumption) | (simp <;> fail) | fail) (by rfl)) zln) ?_)) | ((with_reducible refine aE ?_); (first | refine zA ?_ | refine zN ?_); (first | refine c0 hsb ?_)) | (((with_reducible refine aH ?_); refine xA ?_); (first | ((with_reducible refine aP ?_); (first | refine aA (aR tabOk rfl rfl rfl rfl (by first | exact haw | exact har)) ?_ | refine aA (aN tabOk rfl rfl rfl rfl (by first | exact haw | exact har)) ?_ | refine aA (aM tabOk rfl rfl rfl (by first | exact haw | exact har)) ?_)) | ((with_reducible refine bR ?_); (first | refine aA (s_ixV1 tabOk rfl rfl zcj rfl rfl rfl rfl rfl zle (by first | exact haw | exact har)) ?_ | refine aA (aQ tabOk rfl rfl zcj rfl rfl (by first | exact haw | exact har)) ?_)))) | refine stA ?_ | ((first | refine hK _ _ _ _ ?_ | refine hX _ _ _ _ _ (by simp) ?_); clear hK hX K))
        refine aK zio ztr rfl (ResL.one (ResA.tmp rfl)) (cE (bO (bY bL) (cV hbad)))
    · have hbad := bvF (q := smallPs p) fun h => hs (h.2 x hxm).1
      clear hall hx hxm hf hsb
      obtain ⟨xw, xr, xn⟩ := x
      simp only at *
      repeat' (first | ((with_reducible refine aB ?_); intro K hK hX) | ((with_reducible refine aC ?_); refine aD [0, 2, 3] rfl rfl ?_) | (((with_reducible refine aH ?_); refine xA ?_); (first | ((with_reducible refine aP ?_); (first | refine aA (aR tabOk rfl rfl rfl rfl (by first | exact haw | exact har)) ?_ | refine aA (aN tabOk rfl rfl rfl rfl (by first | exact haw | exact har)) ?_ | refine aA (aM tabOk rfl rfl rfl (by first | exact haw | exact har)) ?_)) | ((with_reducible refine bR ?_); (first | refine aA (s_ixV1 tabOk rfl rfl zcj rfl rfl rfl rfl rfl zle (by first | exact haw | exact har)) ?_ | refine aA (aQ tabOk rfl rfl zcj rfl rfl (by first | exact haw | exact har)) ?_)))) | refine stA ?_ | ((first | refine hK _ _ _ _ ?_ | refine hX _ _ _ _ _ (by simp) ?_); clear hK hX K))
      refine aK zio ztr rfl (ResL.one (ResA.tmp rfl)) (cE (bO (bY bL) (cV hbad)))
  · by_cases h30 : n ≤ 30
    · have hie : i = n := by omega
      have hgood := bvT (q := smallPs p) ⟨by omega, fun x hx => hall x (by rw [List.take_of_length_le (by omega)]; exact hx)⟩
      have hgood2 : CV.v (Value.bool (decide ((n : Int) ≤ 30))) = bv (decide (smallPs p)) := by rw [decide_eq_true (show (n : Int) ≤ 30 by omega)]; exact hgood
      clear hall hf
      repeat' (first | ((with_reducible refine aB ?_); intro K hK hX) | ((with_reducible refine aC ?_); refine aD [0, 2, 3] rfl rfl ?_) | refine stA ?_ | ((first | refine hK _ _ _ _ ?_ | refine hX _ _ _ _ _ (by simp) ?_); clear hK hX K))
      refine aK zio ztr rfl (ResL.one (ResA.tmp rfl)) (cE (bO (bY bL) (cV hgood2)))
    · have hbad := bvF (q := smallPs p) fun h => h30 (by have := h.1; omega)
      have hbad2 : CV.v (Value.bool (decide ((n : Int) ≤ 30))) = bv (decide (smallPs p)) := by rw [decide_eq_false (show ¬ (n : Int) ≤ 30 by omega)]; exact hbad
      clear hall hf
      by_cases hin : i < n
      · have hi40 : ¬ i < 40 := fun h => hlt ⟨hin, h⟩
        clear hlt
        repeat' (first | ((with_reducible refine aB ?_); intro K hK hX) | ((with_reducible refine aC ?_); refine aD [0, 2, 3] rfl rfl ?_) | refine stA ?_ | ((first | refine hK _ _ _ _ ?_ | refine hX _ _ _ _ _ (by simp) ?_); clear hK hX K))
        refine aK zio ztr rfl (ResL.one (ResA.tmp rfl)) (cE (bO (bY bL) (cV hbad2)))
      · clear hlt
        repeat' (first | ((with_reducible refine aB ?_); intro K hK hX) | ((with_reducible refine aC ?_); refine aD [0, 2, 3] rfl rfl ?_) | refine stA ?_ | ((first | refine hK _ _ _ _ ?_ | refine hX _ _ _ _ _ (by simp) ?_); clear hK hX K))
        refine aK zio ztr rfl (ResL.one (ResA.tmp rfl)) (cE (bO (bY bL) (cV hbad2)))
end Go.Proofs.YtccnhpaldmjkbaaGreat
