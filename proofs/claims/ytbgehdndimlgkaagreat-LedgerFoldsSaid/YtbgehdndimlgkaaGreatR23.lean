/- Lemmas for laws of the ledger. -/
import Derived.Test.YtbgehdndimlgkaaGreatR17
import Derived.Test.YtbgehdndimlgkaaGreatR22
set_option linter.all false
namespace Go.Proofs.YtbgehdndimlgkaaGreat
open Go Go.RowKit Go.Av
set_option maxRecDepth 100000
section
attribute [local irreducible] Still Adds AWL AW Drw bQ bT AC AWR cO Frz Go.Av.Src dF Out InK ItK AsK RdK eI eG ACT ACA fD
attribute [local simp] bZ bY cI
structure RR {α:Type} (f:RS->α × RS) (N:Nat) (s0:RS) (i:Nat) (l:List α) (s:RS):Prop where
 le:i<=N
 len:l.length=i
 eq:qP f N s0=(l++(qP f (N-i) s).1,(qP f (N-i) s).2)
theorem RR.init {α:Type} (f:RS->α × RS) (N:Nat) (s0:RS):RR f N s0 0 [] s0:=⟨Ah _,rfl,by rw [B5,Aw]⟩
section
variable {α:Type} {f:RS->α × RS} {N:Nat} {s0:RS} {i:Nat} {l:List α} {s:RS} (h:RR f N s0 i l s)
include α f N s0 i l s h
theorem RR.next (hi:i<N) (h0:s.e=0) {x:α} {s':RS} (hx:f s=(x,s')):RR f N s0 (i+1) (l++[x]) s':=by
 refine ⟨hi,by rw [Ab,h.len];rfl,?_⟩
 rw [h.eq,show N-i=(N-(i+1))+1 by omega,qP,Ak (by rw [h0];simp),hx]
 simp
theorem RR.stop (he:i=N\/s.e≠0):qP f N s0=(l,s):=by
 have:qP f (N-i) s=([],s):=by
  cases hn:N-i with
  | zero=>rfl
  | succ k=>rw [qP,Al (he.resolve_left aA)]
 rw [h.eq,this,Ay]
end
attribute [local simp] aI1 aK
end
section
attribute [local irreducible] Still Adds AWL AW Drw bQ bT AC AWR cO Frz Go.Av.Src dF Out InK ItK AsK RdK eI eG ACT ACA fD
attribute [local simp] bZ bY cI
end
section
attribute [local irreducible] Still Adds AWL AW Drw bQ bT AC AWR cO Frz Go.Av.Src dF Out InK ItK AsK RdK eI eG ACT ACA fD
attribute [local simp] bZ bY cI
end
end Go.Proofs.YtbgehdndimlgkaaGreat
