/- Lemmas for laws of the ledger. -/
import Derived.Test.YtbgehdndimlgkaaGreatV10
import Derived.Test.YtbgehdndimlgkaaGreatV11
set_option linter.all false
namespace Go.Proofs.YtbgehdndimlgkaaGreat
open Go Go.RowKit Go.Av
set_option maxRecDepth 100000
theorem aC4 {n:Int} (h:aS n):(Lit.int .i64 n).wf=true:=by
 have e1:IntKind.i64.min = -9223372036854775808:=by decide
 have e2:IntKind.i64.max=9223372036854775807:=by decide
 unfold aS at h
 simp only [Lit.wf,e1,e2,Bp,Am]
 omega
def cM1 (v:Ver):Prop:=aS v.t/\aS v.c/\aS v.s
def dR8 (v:Src):Prop:=aS v.t/\aS v.s
def Ver.vl (v:Ver):Db:=[.int .i64 v.t,.int .i64 v.c,.int .i64 v.s]
def Src.vl (v:Src):Db:=[.int .i64 v.t,.int .i64 v.s]
theorem cL3 {v:Ver} (h:cM1 v):LfL [.i .i64,.i .i64,.i .i64] v.vl:=⟨⟨rfl,aC4 h.1⟩,⟨rfl,aC4 h.2.1⟩,⟨rfl,aC4 h.2.2⟩,trivial⟩
theorem dG8 {a b:Ver} {r:Bool} (h:r=true↔a=b):r=true↔a.vl=b.vl:=by
 obtain ⟨a1,a2,a3⟩:=a
 obtain ⟨b1,b2,b3⟩:=b
 rw [h]
 simp [Ver.vl]
theorem aH9 {α:Type} {f:α->Dp} {k:Nat} (h:∀a,(f a).length=k):∀{l:List α} {i:Nat} (a:α),i<l.length->lay (l.flatMap f) (i*k) (f a)=(l.set i a).flatMap f
 | [],i,a,hi=>by simp at hi
 | b::l,0,a,_=>by
  unfold lay
  rw [Ca,List.take_zero,At,Al,h,Aw,Cn,Aw,BG,h,AM (by rw [h];exact Ae _),CC,Bg,At]
 | b::l,i+1,a,hi=>by
  have ih:=aH9 h (l:=l) (i:=i) a sA
  unfold lay at ih ⊢
  have e1:(i+1)*k=k+i*k:=by rw [A9];omega
  have e2:(i+1)*k+(f a).length=k+(i*k+(f a).length):=by rw [e1];omega
  rw [e2,e1,Aw,List.set_cons_succ,Aw,<- ih,CK,BG,h,Ah (by rw [h];omega),AM (by rw [h];omega),show k+i*k-k=i*k by omega,show k+(i*k+(f a).length)-k=i*k+(f a).length by omega]
  simp only [At,Ar]
attribute [local irreducible] Still Adds AWL AW Drw bN bP AC AWR cM Frz Go.Av.Src dB Out InK ItK AsK RdK eA dZ ACT ACA eL
end Go.Proofs.YtbgehdndimlgkaaGreat
