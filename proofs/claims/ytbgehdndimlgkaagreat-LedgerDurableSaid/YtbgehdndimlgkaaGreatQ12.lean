/-
  Lemmas for laws of the ledger; no statement of a law.
-/
import Derived.Test.YtbgehdndimlgkaaGreatQ10
import Derived.Test.YtbgehdndimlgkaaGreatQ11
set_option linter.unusedSimpArgs false
set_option linter.unusedVariables false
namespace Go.Proofs.YtbgehdndimlgkaaGreat
open Go Go.RowKit Go.Av
set_option maxRecDepth 100000
theorem dY {n:Int} (h:aQ n):(Lit.int .i64 n).wf=true:=by
 have e1:IntKind.i64.min = -9223372036854775808:=by decide
 have e2:IntKind.i64.max=9223372036854775807:=by decide
 unfold aQ at h
 simp only [Lit.wf,e1,e2,decide_eq_true_eq,Bool.and_eq_true]
 omega
def bP7 (v:Ver):Prop:=aQ v.t∧aQ v.c∧aQ v.s
def cZ2 (v:Src):Prop:=aQ v.t∧aQ v.s
def Ver.vl (v:Ver):List Value:=[.int .i64 v.t,.int .i64 v.c,.int .i64 v.s]
def Src.vl (v:Src):List Value:=[.int .i64 v.t,.int .i64 v.s]
theorem cG7 {v:Ver} (h:bP7 v):LfL [.i .i64,.i .i64,.i .i64] v.vl:=⟨⟨rfl,dY h.1⟩,⟨rfl,dY h.2.1⟩,⟨rfl,dY h.2.2⟩,trivial⟩
theorem eH2 {v:Src} (h:cZ2 v):LfL [.i .i64,.i .i64] v.vl:=⟨⟨rfl,dY h.1⟩,⟨rfl,dY h.2⟩,trivial⟩
theorem dW5 {a b:Ver} {r:Bool} (h:r=true↔a=b):r=true↔a.vl=b.vl:=by
 obtain ⟨a1,a2,a3⟩:=a
 obtain ⟨b1,b2,b3⟩:=b
 rw [h]
 simp [Ver.vl]
theorem aP6 {α:Type} {f:α→List CV} {k:Nat} (h:∀a,(f a).length=k):∀{l:List α} {i:Nat} (a:α),i<l.length→lay (l.flatMap f) (i*k) (f a)=(l.set i a).flatMap f
 | [],i,a,hi=>by simp at hi
 | b::l,0,a,_=>by
  unfold lay
  rw [Nat.zero_mul,List.take_zero,List.nil_append,Nat.zero_add,h,List.flatMap_cons,List.set_cons_zero,List.flatMap_cons,List.drop_append,h,List.drop_of_length_le (by rw [h];exact Nat.le_refl _),Nat.sub_self,List.drop_zero,List.nil_append]
 | b::l,i+1,a,hi=>by
  have ih:=aP6 h (l:=l) (i:=i) a uH
  unfold lay at ih ⊢
  have e1:(i+1)*k=k+i*k:=by rw [Nat.add_mul];omega
  have e2:(i+1)*k+(f a).length=k+(i*k+(f a).length):=by rw [e1];omega
  rw [e2,e1,List.flatMap_cons,List.set_cons_succ,List.flatMap_cons,← ih,List.take_append,List.drop_append,h,List.take_of_length_le (by rw [h];omega),List.drop_of_length_le (by rw [h];omega),show k+i*k-k=i*k by omega,show k+(i*k+(f a).length)-k=i*k+(f a).length by omega]
  simp only [List.nil_append,List.append_assoc]
attribute [local irreducible] Still Adds AWL AW Drw bT bW AC AWR cL Frz Go.Av.Src dC Out InK ItK AsK RdK eI eE ACT ACA eL
end Go.Proofs.YtbgehdndimlgkaaGreat
