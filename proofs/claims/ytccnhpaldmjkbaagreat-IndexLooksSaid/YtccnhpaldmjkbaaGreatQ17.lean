/-
  Joined texts: AvEm. Lemmas; no statement of a law.
-/
import Derived.Test.YtccnhpaldmjkbaaGreatQ5
set_option linter.unusedSimpArgs false
set_option linter.unusedVariables false
namespace Go.Av
open Go Go.RowKit
theorem src_v0 {h : Heap} {size c : Nat} {A : Option Addr} : Src h (.c (.v (.slice A 0 c))) size 0 [] := by
  intro B dom M H w u hh hc hu
  simp only [Rep, RepC] at hu
  exact ⟨A, c, [], hu, by simp, by simp [RepCs], by simp, fun h => absurd h (by omega)⟩
theorem mG {ok : Nat → Prop} {w : World} {size : Nat} {ys : List CV} : ∀ (xs : List CV) (vs : List Value), RepCs ok w (xs ++ .sl size 0 [] :: ys) vs → ∃ A c, c ≤ maxLen ∧ RepCs ok w (xs ++ .v (.slice A 0 c) :: ys) vs
  | [], vs, h => by
    simp only [List.nil_append, RepCs] at h
    obtain ⟨u, us, rfl, h1, h2⟩ := h
    simp only [RepC] at h1
    obtain ⟨A, c, us', rfl, _, h3, _⟩ := h1
    refine ⟨A, c, h3, ?_⟩
    simp only [List.nil_append, RepCs, RepC]
    exact ⟨_, us, rfl, rfl, h2⟩
  | x :: xs, vs, h => by
    simp only [List.cons_append, RepCs] at h
    obtain ⟨u, us, rfl, h1, h2⟩ := h
    obtain ⟨A, c, h3, h4⟩ := mG xs us h2
    refine ⟨A, c, h3, ?_⟩
    simp only [List.cons_append, RepCs]
    exact ⟨u, us, rfl, h1, h4⟩
theorem AC.split0 {P : Program} {f : FuncId} {size : Nat} {xs ys : List CV} {r : AV} {hr : Heap} {nr : Nat} (h : ∀ A c, c ≤ maxLen → AC P f (xs ++ .v (.slice A 0 c) :: ys) r hr nr) : AC P f (xs ++ .sl size 0 [] :: ys) r hr nr := fun ok w vs hvs => by
  obtain ⟨A, c, hc, h1⟩ := mG xs vs hvs
  exact h A c hc ok w vs h1
end Go.Av
