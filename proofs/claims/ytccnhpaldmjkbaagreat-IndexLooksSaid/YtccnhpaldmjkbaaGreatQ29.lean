/-
  Joined texts: IW. Lemmas; no statement of a law.
-/
import Derived.Test.YtccnhpaldmjkbaaGreatQ27
import Derived.Test.YtccnhpaldmjkbaaGreatQ28
set_option maxHeartbeats 16000000
set_option linter.unusedSimpArgs false
set_option linter.unusedVariables false
namespace Go.Proofs.YtccnhpaldmjkbaaGreat
open Go Go.RowKit Go.Av
set_option maxRecDepth 100000
def fndE (col : Nat) (w : Wd) (b : List En) : List En := b.filter fun e => decide (w ∈ wdsE col e.r)
theorem runW_low (l : Wd) : (∀ w ∈ (runW l).1, ∀ b ∈ w, lowL b = true) ∧ ∀ b ∈ (runW l).2, lowL b = true := by
  refine snocI (p := fun l => (∀ w ∈ (runW l).1, ∀ b ∈ w, lowL b = true) ∧ ∀ b ∈ (runW l).2, lowL b = true) ?_ ?_ l
  · exact ⟨fun w hw => (by cases hw), fun b hb => (by cases hb)⟩
  · rintro l b ⟨h1, h2⟩
    have e : runW (l ++ [b]) = stW (runW l) b := by unfold runW; rw [List.foldl_append]; rfl
    rw [e]
    by_cases hu : upB b = true
    · rw [stW_up hu]
      refine ⟨h1, fun c hc => ?_⟩
      rcases List.mem_append.1 hc with hc | hc
      · exact h2 c hc
      · rw [List.mem_singleton.1 hc]
        have a1 := add32 hu
        have a2 := of_decide_eq_true hu
        exact decide_eq_true (by omega)
    · have hu : upB b = false := by simpa using hu
      by_cases hl : lowL b = true
      · rw [oV hu hl]
        refine ⟨h1, fun c hc => ?_⟩
        rcases List.mem_append.1 hc with hc | hc
        · exact h2 c hc
        · rw [List.mem_singleton.1 hc]; exact hl
      · rw [uG hu (by simpa using hl)]
        refine ⟨fun w hw c hc => ?_, fun c hc => by cases hc⟩
        rcases List.mem_append.1 hw with hw | hw
        · exact h1 w hw c hc
        · obtain ⟨e, _⟩ := tG hw
          subst e
          exact h2 c hc
theorem rA {l : Wd} : ∀ w ∈ wordsP l, ∀ b ∈ w, lowL b = true := fun w hw c hc => by
  have h := ((cL _).2 w).1 hw
  obtain ⟨h1, h2⟩ := runW_low l
  unfold rawW at h
  rcases List.mem_append.1 h with h | h
  · exact h1 w h c hc
  · obtain ⟨e, _⟩ := tG h
    subst e
    exact h2 c hc
theorem wdsE_low {col : Nat} {r : List Vl} {w : Wd} (h : w ∈ wdsE col r) : ∀ b ∈ w, lowL b = true := by
  unfold wdsE at h
  split at h
  · split at h
    · exact rA w h
    · cases h
  · cases h
theorem post_val {b : List En} (hb : bagP b) (hp : ∀ e ∈ b, 0 ≤ e.n) (col : Nat) : valP (postP (prs col b)) := by
  have hg := sE hb
  have hgp := qK (col := col) hg
  have hall : ∀ e ∈ b, entP e ∧ e.n ≠ 0 := fun e he => by
    obtain ⟨i, hi⟩ := List.mem_iff_getElem?.1 he
    obtain ⟨a1, a2, _⟩ := hb.2 i (List.getElem?_eq_some_iff.1 hi).1 e hi
    exact ⟨a1, a2⟩
  intro i hi x hx
  obtain ⟨p, hp1, hpe⟩ := nJ (List.mem_of_getElem? hx)
  obtain ⟨h1, h2⟩ := gC hp1
  obtain ⟨⟨c1, c2, c3⟩, c4⟩ := hall p.2 h1
  obtain ⟨d1, d2⟩ := (fF c3.2).2 _ h2
  have d0 := hp p.2 h1
  subst hpe
  refine ⟨⟨d2, d1, ?_⟩, c3, by show 1 ≤ p.2.n; omega, c2, fun y hi0 hy => ?_⟩
  · have hlow : ∀ w ∈ wdsE col p.2.r, ∀ b ∈ w, lowL b = true := fun w hw c hc => wdsE_low hw c hc
    exact hlow _ h2
  · have hw32 := jY (col := col) hg.ok
    rw [gH (hw32 y (List.mem_of_getElem? hy)) (hw32 _ (List.mem_of_getElem? hx))]
    obtain ⟨q1, q2⟩ := List.getElem?_eq_some_iff.1 hy
    obtain ⟨q3, q4⟩ := List.getElem?_eq_some_iff.1 hx
    have := List.pairwise_iff_getElem.1 hgp.srt (i - 1) i (by rw [List.length_map]; exact q1) (by rw [List.length_map]; exact q3) (by omega)
    rw [List.getElem_map, List.getElem_map, q2, q4] at this
    exact this
def wrdL : List Wd := [[111, 108, 100], [115, 116, 114, 101, 101, 116], [53], [97], [98], [79, 108, 100], [], [122, 255], [97, 32, 98]]
def wrdW (x : Int) : Wd := wrdL.getD x.toNat []
theorem wrc (x : Int) (h1 : 0 ≤ x) (h2 : x < 9) : (wrdL.map fun t => sv t)[x.toNat]? = some (sv (wrdW x)) := by
  rcases (show x = 0 ∨ x = 1 ∨ x = 2 ∨ x = 3 ∨ x = 4 ∨ x = 5 ∨ x = 6 ∨ x = 7 ∨ x = 8 by omega) with e | e | e | e | e | e | e | e | e <;> subst e <;> rfl
attribute [local irreducible] Still Adds AWL AW Drw DrwE EStep AC AWR Weak Frz Src RetK Out InK ItK AsK RdK RetT OutT ACT
theorem kH (l : List Int) (n : Nat) (a : Int) (hn : l.length = n) (hnn : n ≤ maxLen) (ha0 : 0 ≤ a) (ha : a ≤ 9223372036854775807) : ACT Tryz.prog 31 72 (tpC l n a) [] (tpC l n (nextA n a 9)) (sv (wrdW (nextX l n a 9))) := by
  have h1 := dZ l n a 9 hn hnn ha0 ha (by decide)
  obtain ⟨x1, x2⟩ := cX l n a 9 (by decide) (by decide)
  have hcx := wrc (nextX l n a 9) x1 x2
  simp only [wrdL, List.map_cons, List.map_nil] at hcx
  generalize wrdW (nextX l n a 9) = t at *
  generalize nextX l n a 9 = x at *
  generalize nextA n a 9 = a' at *
  refine bX tabOk (sz := 8) Tryz.func31 rfl (by rw [Tryz.ntmps31]; rfl) ?_
  repeat' (first | ((with_reducible refine aB ?_); intro K hK hX) | ((with_reducible refine aC ?_); refine aD [0, 2] rfl rfl ?_) | ((with_reducible refine cK ?_); (refine wA ?_); (first | refine eL (bK (cM tabOk rfl rfl rfl rfl rfl) zln) ?_ | refine eL (bK (cU tabOk rfl rfl rfl rfl rfl rfl rfl rfl rfl rfl rfl rfl (cI rfl) (by first | rfl | exact all1 (by assumption) | (simp <;> fail) | fail) (by rfl)) zln) ?_)) | ((with_reducible refine aE ?_); refine aX (h1) aL rfl zby rfl rfl rfl rfl zcv rfl ztp ?_) | (((with_reducible refine aH ?_); refine xA ?_); (first | ((with_reducible refine aP ?_); (first | refine aA (aR tabOk rfl rfl rfl rfl (by (rw [Nat.mul_one]; exact hcx))) ?_ | refine aA (aN tabOk rfl rfl rfl rfl (by (rw [Nat.mul_one]; exact hcx))) ?_ | refine aA (aM tabOk rfl rfl rfl (by (rw [Nat.mul_one]; exact hcx))) ?_)) | ((with_reducible refine bR ?_); (first | refine aA (s_ixV1 tabOk rfl rfl zcj rfl rfl rfl rfl rfl zle (by (rw [Nat.mul_one]; exact hcx))) ?_ | refine aA (aQ tabOk rfl rfl zcj rfl rfl (by (rw [Nat.mul_one]; exact hcx))) ?_)))) | refine stA ?_ | ((first | refine hK _ _ _ _ ?_ | refine hX _ _ _ _ _ (by simp) ?_); clear hK hX K))
  refine cH zio ztr rfl rfl (ResL.one (ResA.tmp rfl)) (cT zfz rfl rfl)
theorem kR (p : List En) (n : Nat) (hn : p.length = n) (hm : n ≤ 1000000) (hR : ∀ x ∈ p, x.r.length ≤ 1000000) : AC Tryz.prog 35 [.sl 2 n (ec p), .sl 2 n (ec p)] (.c (bv true)) [] 0 := by
  have hcl : (ec p).length = n * 2 := by rw [bH, hn]
  refine aJ tabOk (sz := 42) Tryz.func35 rfl (by rw [Tryz.ntmps35]; rfl) ?_
  repeat' (first | ((with_reducible refine aB ?_); intro K hK hX) | ((with_reducible refine aC ?_); refine aD [0, 1, 4, 5] rfl rfl ?_) | ((with_reducible refine aF ?_); refine aG [0, 1, 4, 5] rfl rfl ?_; refine aI [] ?_) | ((first | ((with_reducible refine aH ?_); refine xA ?_) | ((with_reducible refine aO ?_); refine xD ?_)); (first | ((with_reducible refine aU ?_); (first | refine aA (dV rfl rfl rfl (decide_eq_false (by omega))) ?_)))) | refine stA ?_ | refine stD ?_ | ((first | refine hK _ _ _ _ ?_ | refine hX _ _ _ _ _ (by simp) ?_); clear hK hX K))
  refine bC [5] [] rfl rfl (fun i : Nat => [(5, .c (iv i))]) (fun i => []) (fun i => i ≤ n) (fun i => n - i) 0 (Nat.zero_le _) weakA ?_
  intro i hi K hK hX
  by_cases hik : i < n
  · obtain ⟨x, hx⟩ : ∃ x, p[i]? = some x := ⟨_, List.getElem?_eq_getElem (by omega)⟩
    have a0 := dW hx
    have a1 := lB hx
    have hsr := wV x.r x.r.length rfl (hR x (List.mem_of_getElem? hx))
    obtain ⟨r, c⟩ := x
    simp only at *
    have hnn : decide (c ≠ c) = false := by simp
    repeat' (first | ((with_reducible refine aB ?_); intro K hK hX) | ((with_reducible refine aC ?_); refine aD [0, 1, 4, 5] rfl rfl ?_) | ((with_reducible refine aF ?_); refine aG [0, 1, 4, 5] rfl rfl ?_; refine aI [] ?_) | ((first | with_reducible refine aE ?_ | with_reducible refine aT ?_); (first | refine zA ?_ | refine zN ?_ | refine zD ?_); (first | refine c0 hsr ?_)) | ((first | ((with_reducible refine aH ?_); refine xA ?_) | ((with_reducible refine aO ?_); refine xD ?_)); (first | ((with_reducible refine aU ?_); (first | refine aA (dV rfl rfl rfl hnn) ?_)) | ((with_reducible refine aP ?_); (first | refine aA (aR tabOk rfl rfl rfl rfl (by first | exact a0 | exact a1)) ?_ | refine aA (aN tabOk rfl rfl rfl rfl (by first | exact a0 | exact a1)) ?_ | refine aA (aM tabOk rfl rfl rfl (by first | exact a0 | exact a1)) ?_)) | ((with_reducible refine bR ?_); (first | refine aA (s_ixV1 tabOk rfl rfl zcj rfl rfl rfl rfl rfl zle (by first | exact a0 | exact a1)) ?_ | refine aA (aQ tabOk rfl rfl zcj rfl rfl (by first | exact a0 | exact a1)) ?_)))) | refine stA ?_ | refine stD ?_ | ((first | refine hK _ _ _ _ ?_ | refine hX _ _ _ _ _ (by simp) ?_); clear hK hX K))
    exact ⟨i + 1, by omega, by omega, weakA⟩
  · have hie : i = n := by omega
    rw [hie]
    repeat' (first | ((with_reducible refine aB ?_); intro K hK hX) | ((with_reducible refine aC ?_); refine aD [0, 1, 4, 5] rfl rfl ?_) | ((with_reducible refine aF ?_); refine aG [0, 1, 4, 5] rfl rfl ?_; refine aI [] ?_) | refine stA ?_ | refine stD ?_ | ((first | refine hK _ _ _ _ ?_ | refine hX _ _ _ _ _ (by simp) ?_); clear hK hX K))
    refine aK zio ztr rfl (ResL.one (ResA.tmp rfl)) zou
end Go.Proofs.YtccnhpaldmjkbaaGreat
