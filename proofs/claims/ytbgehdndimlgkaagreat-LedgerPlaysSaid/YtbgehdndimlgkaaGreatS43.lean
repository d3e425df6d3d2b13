/- Lemmas for laws of the ledger. -/
import Derived.Test.YtbgehdndimlgkaaGreatRows
import Derived.WalkKit
import Derived.ProofKit
import Derived.OpenShut
set_option linter.all false
namespace Go.Proofs.YtbgehdndimlgkaaGreat
open Go Go.RowKit
theorem tM (a r:List Char) (h:∀c∈a,c≠Char.ofNat 32):wordsSigns (a++Char.ofNat 32::r)=a::wordsSigns r:=by
 induction a with
 | nil=>rfl
 | cons c a ih =>
  have ih:=ih (λd hd=>h d (by simp [hd]))
  rw [List.cons_append]
  conv=>lhs;unfold wordsSigns
  split
  ·rename_i heq;cases heq
  ·rename_i r' heq
   injection heq with h1 h2
   exact absurd h1 (h c (by simp))
  ·rename_i c' r' hne heq
   injection heq with h1 h2
   subst h1 h2
   rw [ih]
def headB : String := "9b917e1a4df9b95f88884a0318d1376e24a7a1cd76bd4d56d0a4f5af47314a70"
def headC : String := "at erasure/erasurelaw33.LedgerParses erasure/erasurelaw33.LedgerCuts erasure/erasurelaw33.LedgerReopens erasure/erasurelaw33.LedgerGrows erasure/erasurelaw33.LedgerPlays erasure/erasurelaw33.LedgerDurable erasure/erasurelaw33.LedgerOrder erasure/erasurelaw33.LedgerPlans erasure/erasurelaw33.LedgerFolds"
theorem dE2 : Tryz.prog.initOrder = "harness" ++ " " ++ headB ++ " " ++ "cut" ++ " " ++ headC := by decide +kernel
theorem eE9 : (" " : String).toList = [Char.ofNat 32] := by decide
theorem bF7 : wordsSigns Tryz.prog.initOrder.toList = "harness".toList :: headB.toList :: "cut".toList :: wordsSigns headC.toList := by
 rw [dE2]
 simp only [String.toList_append,eE9,List.append_assoc,List.cons_append,List.nil_append]
 rw [tM _ _ (by decide),tM _ _ (by decide),tM _ _ (by decide)]
theorem qY : behindMainWord (wordsSigns Tryz.prog.initOrder.toList) = "cut".toList :: wordsSigns headC.toList := by
 rw [bF7]
 generalize wordsSigns headC.toList=rest
 kernel_rfl
theorem j_laid:laidOutB Tryz.prog=true:=by kernel_rfl
theorem j_maps:mapsRowed Tryz.prog=true:=by kernel_rfl
theorem eG5 : ("cut".toList == "gc".toList) = false := by decide +kernel
theorem cJ6 : ("cut".toList == "spec".toList) = false := by decide +kernel
theorem aI5 : ("cut".toList == "carried".toList) = false := by decide +kernel
theorem dS4 : ("cut".toList == "cut".toList) = true := by decide +kernel
theorem aL2 (rest : List (List Char)) : ∀ os : List String, (∀ o ∈ os, ("cut".toList == o.toList) = false) → stripLifts os ("cut".toList :: rest) = ([], "cut".toList :: rest)
 | [],_=>rfl
 | o::os,h=>by
  unfold stripLifts
  rw [h o (by simp)]
  exact aL2 rest os (λx hx=>h x (by simp [hx]))
theorem bO5 (rest : List (List Char)) : stripLifts liftWords ("cut".toList :: rest) = ([], "cut".toList :: rest) := aL2 rest _ (by decide +kernel)
theorem dE8:Tryz.prog.laysLater=false:=by kernel_rfl
theorem bW1:Tryz.prog.bearsReflect=false:=by kernel_rfl
theorem dZ3:Tryz.prog.doorFits []=true:=by kernel_rfl
theorem cK4 (P : Program) (rest : List (List Char)) (h : behindMainWord (wordsSigns P.initOrder.toList) = "cut".toList :: rest) (h1 : P.laysLater = false) (h2 : P.bearsReflect = false) (h3 : P.doorFits [] = true) : P.mayEnter = true := by
 unfold Program.mayEnter
 rw [h]
 simp only [bO5,eG5,cJ6,aI5,dS4,h1,h2,h3,List.head?_cons,Bool.or_self,Bool.false_and,Bool.false_or,Bool.not_false,Bool.or_true,Bool.and_true,List.contains_nil,beq_self_eq_true]
theorem j_enter:Tryz.prog.mayEnter=true:=cK4 _ _ qY dE8 bW1 dZ3
section
variable (P : Program) (rest : List (List Char)) (h : behindMainWord (wordsSigns P.initOrder.toList) = "cut".toList :: rest)
include P rest h
theorem aO9 : P.headLifts = [] := by
 unfold Program.headLifts
 rw [h]
 simp only [bO5,ite_self]
theorem cK9 : P.liftsFinal = false := by
 unfold Program.liftsFinal
 rw [aO9 P rest h,h]
 have : (some "cut".toList == some "carried".toList) = false := aI5
 simp only [List.head?_cons,this,Bool.false_and,Bool.false_or]
 rfl
theorem dF4 : P.make = some .cut := by
 unfold Program.make
 rw [h]
 simp only [eG5,cJ6,dS4,Bool.or_self,Bool.true_or,Bool.false_eq_true,if_false,if_true]
end
theorem j_final:Tryz.prog.liftsFinal=false:=cK9 _ _ qY
theorem j_make:Tryz.prog.make=some .cut:=dF4 _ _ qY
theorem j_and {a b:Bool} (ha:a=true) (hb:b=true):(a&&b)=true:=by rw [ha,hb];rfl
end Go.Proofs.YtbgehdndimlgkaaGreat
