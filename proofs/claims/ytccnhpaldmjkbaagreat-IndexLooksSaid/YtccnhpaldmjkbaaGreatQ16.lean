/-
  Joined texts: DJ. Lemmas; no statement of a law.
-/
import Derived.Test.YtccnhpaldmjkbaaGreatRows
import Derived.WalkKit
import Derived.ProofKit
import Derived.OpenShut
set_option linter.unusedSimpArgs false
set_option linter.unusedVariables false
namespace Go.Proofs.YtccnhpaldmjkbaaGreat
open Go Go.RowKit

theorem lT (a r : List Char) (h : ∀ c ∈ a, c ≠ Char.ofNat 32) : wordsSigns (a ++ Char.ofNat 32 :: r) = a :: wordsSigns r := by
  induction a with
  | nil => rfl
  | cons c a ih =>
    have ih := ih (fun d hd => h d (by simp [hd]))
    rw [List.cons_append]
    conv => lhs; unfold wordsSigns
    split
    · rename_i heq; cases heq
    · rename_i r' heq
      injection heq with h1 h2
      exact absurd h1 (h c (by simp))
    · rename_i c' r' hne heq
      injection heq with h1 h2
      subst h1 h2
      rw [ih]
def headB : String := "60250a256dd44db02f87b2b8dbaa8cfd7345c8b82b03c4de234567649efce83b"
def headC : String := "at erasure/erasurelaw13.IndexChange erasure/erasurelaw12.SketchValid erasure/erasurelaw12.SketchBuild erasure/erasurelaw12.SketchChanges erasure/erasurelaw13.IndexLooks erasure/erasurelaw13.IndexForgets"
theorem head_is : Tryz.prog.initOrder = "harness" ++ " " ++ headB ++ " " ++ "cut" ++ " " ++ headC := by decide +kernel
theorem blank : (" " : String).toList = [Char.ofNat 32] := by decide
theorem zG : wordsSigns Tryz.prog.initOrder.toList = "harness".toList :: headB.toList :: "cut".toList :: wordsSigns headC.toList := by
  rw [head_is]
  simp only [String.toList_append, blank, List.append_assoc, List.cons_append, List.nil_append]
  rw [lT _ _ (by decide), lT _ _ (by decide), lT _ _ (by decide)]
theorem jU : behindMainWord (wordsSigns Tryz.prog.initOrder.toList) = "cut".toList :: wordsSigns headC.toList := by
  rw [zG]
  generalize wordsSigns headC.toList = rest
  kernel_rfl
theorem j_laid : laidOutB Tryz.prog = true := by kernel_rfl
theorem j_maps : mapsRowed Tryz.prog = true := by kernel_rfl
theorem e_gc : ("cut".toList == "gc".toList) = false := by decide +kernel
theorem e_spec : ("cut".toList == "spec".toList) = false := by decide +kernel
theorem rQ : ("cut".toList == "carried".toList) = false := by decide +kernel
theorem e_cut : ("cut".toList == "cut".toList) = true := by decide +kernel
theorem sT (rest : List (List Char)) : ∀ os : List String, (∀ o ∈ os, ("cut".toList == o.toList) = false) → stripLifts os ("cut".toList :: rest) = ([], "cut".toList :: rest)
  | [], _ => rfl
  | o :: os, h => by
    unfold stripLifts
    rw [h o (by simp)]
    exact sT rest os (fun x hx => h x (by simp [hx]))
theorem j_strip (rest : List (List Char)) : stripLifts liftWords ("cut".toList :: rest) = ([], "cut".toList :: rest) := sT rest _ (by decide +kernel)
theorem j_later : Tryz.prog.laysLater = false := by kernel_rfl
theorem j_reflect : Tryz.prog.bearsReflect = false := by kernel_rfl
theorem j_door : Tryz.prog.doorFits [] = true := by kernel_rfl
theorem enter_of (P : Program) (rest : List (List Char)) (h : behindMainWord (wordsSigns P.initOrder.toList) = "cut".toList :: rest) (h1 : P.laysLater = false) (h2 : P.bearsReflect = false) (h3 : P.doorFits [] = true) : P.mayEnter = true := by
  unfold Program.mayEnter
  rw [h]
  simp only [j_strip, e_gc, e_spec, rQ, e_cut, h1, h2, h3, List.head?_cons, Bool.or_self, Bool.false_and, Bool.false_or, Bool.not_false, Bool.or_true, Bool.and_true, List.contains_nil, beq_self_eq_true]
theorem j_enter : Tryz.prog.mayEnter = true := enter_of _ _ jU j_later j_reflect j_door
theorem tK (P : Program) (rest : List (List Char)) (h : behindMainWord (wordsSigns P.initOrder.toList) = "cut".toList :: rest) : P.headLifts = [] := by
  unfold Program.headLifts
  rw [h]
  simp only [j_strip, ite_self]
theorem final_of (P : Program) (rest : List (List Char)) (h : behindMainWord (wordsSigns P.initOrder.toList) = "cut".toList :: rest) : P.liftsFinal = false := by
  unfold Program.liftsFinal
  rw [tK P rest h, h]
  have : (some "cut".toList == some "carried".toList) = false := rQ
  simp only [List.head?_cons, this, Bool.false_and, Bool.false_or]
  rfl
theorem make_of (P : Program) (rest : List (List Char)) (h : behindMainWord (wordsSigns P.initOrder.toList) = "cut".toList :: rest) : P.make = some .cut := by
  unfold Program.make
  rw [h]
  simp only [e_gc, e_spec, e_cut, Bool.or_self, Bool.true_or, Bool.false_eq_true, if_false, if_true]
theorem j_final : Tryz.prog.liftsFinal = false := final_of _ _ jU
theorem j_make : Tryz.prog.make = some .cut := make_of _ _ jU
theorem j_and {a b : Bool} (ha : a = true) (hb : b = true) : (a && b) = true := by rw [ha, hb]; rfl
end Go.Proofs.YtccnhpaldmjkbaaGreat
