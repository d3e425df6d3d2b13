/-
  Joined texts: IW. Lemmas; no statement of a law.
-/
import Derived.Test.YtccnhpaldmjkbaaGreatM27
import Derived.Test.YtccnhpaldmjkbaaGreatM28
set_option linter.unusedSimpArgs false
set_option linter.unusedVariables false
/-
  The law IndexFinds (walk).
-/
namespace Go.Proofs.YtccnhpaldmjkbaaGreat
open Go Go.RowKit Go.Av
set_option maxRecDepth 100000
def fndE (col : Nat) (w : Wd) (b : List En) : List En := b.filter fun e => decide (w ∈ wdsE col e.r)
theorem runW_low (l : Wd) : (∀ w ∈ (runW l).1, ∀ b ∈ w, lowL b = true) ∧ ∀ b ∈ (runW l).2, lowL b = true := by
  refine snocI (p := fun l => (∀ w ∈ (runW l).1, ∀ b ∈ w, lowL b = true) ∧ ∀ b ∈ (runW l).2, lowL b = true) ?_ ?_ l
  · exact ⟨fun w hw => (by cases hw), fun b hb => (by cases hb)⟩
  · rintro l b ⟨h1, h2⟩
    have e : runW (l ++ [b]) = stW (runW l) b := by unfold runW; rw [List.foldl_append]; rfl
    rw [e]
    by_cases hu : upB b = true
    · rw [stW_up hu]
      refine ⟨h1, fun c hc => ?_⟩
      rcases List.mem_append.1 hc with hc | hc
      · exact h2 c hc
      · rw [List.mem_singleton.1 hc]
        have a1 := add32 hu
        have a2 := of_decide_eq_true hu
        exact decide_eq_true (by omega)
    · have hu : upB b = false := by simpa using hu
      by_cases hl : lowL b = true
      · rw [oZ hu hl]
        refine ⟨h1, fun c hc => ?_⟩
        rcases List.mem_append.1 hc with hc | hc
        · exact h2 c hc
        · rw [List.mem_singleton.1 hc]; exact hl
      · rw [stW_end hu (by simpa using hl)]
        refine ⟨fun w hw c hc => ?_, fun c hc => by cases hc⟩
        rcases List.mem_append.1 hw with hw | hw
        · exact h1 w hw c hc
        · obtain ⟨e, _⟩ := flW_mem hw
          subst e
          exact h2 c hc
theorem qO {l : Wd} : ∀ w ∈ wordsP l, ∀ b ∈ w, lowL b = true := fun w hw c hc => by
  have h := ((cS _).2 w).1 hw
  obtain ⟨h1, h2⟩ := runW_low l
  unfold rawW at h
  rcases List.mem_append.1 h with h | h
  · exact h1 w h c hc
  · obtain ⟨e, _⟩ := flW_mem h
    subst e
    exact h2 c hc
theorem wdsE_low {col : Nat} {r : List Vl} {w : Wd} (h : w ∈ wdsE col r) : ∀ b ∈ w, lowL b = true := by
  unfold wdsE at h
  split at h
  · split at h
    · exact qO w h
    · cases h
  · cases h
theorem post_val {b : List En} (hb : bagP b) (hp : ∀ e ∈ b, 0 ≤ e.n) (col : Nat) : valP (postP (prs col b)) := by
  have hg := nS hb
  have hgp := pZ (col := col) hg
  have hall : ∀ e ∈ b, entP e ∧ e.n ≠ 0 := fun e he => by
    obtain ⟨i, hi⟩ := List.mem_iff_getElem?.1 he
    obtain ⟨a1, a2, _⟩ := hb.2 i (List.getElem?_eq_some_iff.1 hi).1 e hi
    exact ⟨a1, a2⟩
  intro i hi x hx
  obtain ⟨p, hp1, hpe⟩ := kW (List.mem_of_getElem? hx)
  obtain ⟨h1, h2⟩ := fR hp1
  obtain ⟨⟨c1, c2, c3⟩, c4⟩ := hall p.2 h1
  obtain ⟨d1, d2⟩ := (eD c3.2).2 _ h2
  have d0 := hp p.2 h1
  subst hpe
  refine ⟨⟨d2, d1, ?_⟩, c3, by show 1 ≤ p.2.n; omega, c2, fun y hi0 hy => ?_⟩
  · have hlow : ∀ w ∈ wdsE col p.2.r, ∀ b ∈ w, lowL b = true := fun w hw c hc => wdsE_low hw c hc
    exact hlow _ h2
  · have hw32 := kD (col := col) hg.ok
    rw [gI (hw32 y (List.mem_of_getElem? hy)) (hw32 _ (List.mem_of_getElem? hx))]
    obtain ⟨q1, q2⟩ := List.getElem?_eq_some_iff.1 hy
    obtain ⟨q3, q4⟩ := List.getElem?_eq_some_iff.1 hx
    have := List.pairwise_iff_getElem.1 hgp.srt (i - 1) i (by rw [List.length_map]; exact q1) (by rw [List.length_map]; exact q3) (by omega)
    rw [List.getElem_map, List.getElem_map, q2, q4] at this
    exact this
def wrdL : List Wd := [[111, 108, 100], [115, 116, 114, 101, 101, 116], [53], [97], [98], [79, 108, 100], [], [122, 255], [97, 32, 98]]
def wrdW (x : Int) : Wd := wrdL.getD x.toNat []
theorem wrc (x : Int) (h1 : 0 ≤ x) (h2 : x < 9) : (wrdL.map fun t => sv t)[x.toNat]? = some (sv (wrdW x)) := by
  rcases (show x = 0 ∨ x = 1 ∨ x = 2 ∨ x = 3 ∨ x = 4 ∨ x = 5 ∨ x = 6 ∨ x = 7 ∨ x = 8 by omega) with e | e | e | e | e | e | e | e | e <;> subst e <;> rfl
attribute [local irreducible] Still Adds AWL AW Drw DrwE EStep AC AWR Weak Frz Src RetK Out InK ItK AsK RdK RetT OutT ACT
set_option maxHeartbeats 4000000 in
theorem tword_ok (l : List Int) (n : Nat) (a : Int) (hn : l.length = n) (hnn : n ≤ maxLen) (ha0 : 0 ≤ a) (ha : a ≤ 9223372036854775807) : ACT Tryz.prog 31 72 (tpC l n a) [] (tpC l n (nextA n a 9)) (sv (wrdW (nextX l n a 9))) := by
  have h1 := cU l n a 9 hn hnn ha0 ha (by decide)
  obtain ⟨x1, x2⟩ := cJ l n a 9 (by decide) (by decide)
  have hcx := wrc (nextX l n a 9) x1 x2
  simp only [wrdL, List.map_cons, List.map_nil] at hcx
  generalize wrdW (nextX l n a 9) = t at *
  generalize nextX l n a 9 = x at *
  generalize nextA n a 9 = a' at *
  refine bN tabOk (sz := 8) Tryz.func31 rfl (by rw [Tryz.ntmps31]; rfl) ?_
  repeat' (first | ((with_reducible refine aD ?_); intro K hK hX) | ((with_reducible refine aE ?_); refine aA [0, 2] rfl rfl ?_; with_reducible refine aB ?_) | ((with_reducible refine dW ?_); (refine wA ?_); (first | refine iE (cG (dP tabOk rfl rfl rfl rfl rfl) zln) ?_ | refine iE (cG (eC tabOk rfl rfl rfl rfl rfl rfl rfl rfl rfl rfl rfl rfl (dI rfl) (by first | rfl | exact all1 (by assumption) | (simp <;> fail) | fail) (by rfl)) zln) ?_)) | ((with_reducible refine aF ?_); refine aQ (h1) aH rfl zby rfl rfl rfl rfl zcv rfl ztp ?_) | (((with_reducible refine aI ?_); refine xA ?_); (first | ((with_reducible refine aO ?_); (first | refine aC (aT tabOk rfl rfl rfl rfl (by (rw [Nat.mul_one]; exact hcx))) ?_ | refine aC (aN tabOk rfl rfl rfl rfl (by (rw [Nat.mul_one]; exact hcx))) ?_ | refine aC (aM tabOk rfl rfl rfl (by (rw [Nat.mul_one]; exact hcx))) ?_)) | ((with_reducible refine bX ?_); (first | refine aC (s_ixV1 tabOk rfl rfl zcj rfl rfl rfl rfl rfl zle (by (rw [Nat.mul_one]; exact hcx))) ?_ | refine aC (aS tabOk rfl rfl zcj rfl rfl (by (rw [Nat.mul_one]; exact hcx))) ?_)))) | refine stA ?_ | ((first | refine hK _ _ _ _ ?_ | refine hX _ _ _ _ _ (by simp) ?_); clear hK hX K))
  refine cC zio ztr rfl rfl (ResL.one (ResA.tmp rfl)) (cM zfz rfl rfl)
end Go.Proofs.YtccnhpaldmjkbaaGreat
