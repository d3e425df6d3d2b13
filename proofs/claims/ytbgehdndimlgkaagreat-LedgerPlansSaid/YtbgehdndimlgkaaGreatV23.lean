/- Lemmas for laws of the ledger. -/
import Derived.Test.YtbgehdndimlgkaaGreatV17
import Derived.Test.YtbgehdndimlgkaaGreatV22
set_option linter.all false
namespace Go.Proofs.YtbgehdndimlgkaaGreat
open Go Go.RowKit Go.Av
set_option maxRecDepth 100000
section
attribute [local irreducible] Still Adds AWL AW Drw bN bP AC AWR cM Frz Go.Av.Src dB Out InK ItK AsK RdK eA dZ ACT ACA eL
attribute [local simp] bL bK bZ
structure RR {α:Type} (f:RS->α × RS) (N:Nat) (s0:RS) (i:Nat) (l:List α) (s:RS):Prop where
 le:i<=N
 len:l.length=i
 eq:pQ f N s0=(l++(pQ f (N-i) s).1,(pQ f (N-i) s).2)
theorem RR.init {α:Type} (f:RS->α × RS) (N:Nat) (s0:RS):RR f N s0 0 [] s0:=⟨An _,rfl,by rw [B1,At]⟩
section
variable {α:Type} {f:RS->α × RS} {N:Nat} {s0:RS} {i:Nat} {l:List α} {s:RS} (h:RR f N s0 i l s)
include α f N s0 i l s h
theorem RR.next (hi:i<N) (h0:s.e=0) {x:α} {s':RS} (hx:f s=(x,s')):RR f N s0 (i+1) (l++[x]) s':=by
 refine ⟨hi,by rw [Aa,h.len];rfl,?_⟩
 rw [h.eq,show N-i=(N-(i+1))+1 by omega,pQ,Af (by rw [h0];simp),hx]
 simp
theorem RR.stop (he:i=N\/s.e≠0):pQ f N s0=(l,s):=by
 have:pQ f (N-i) s=([],s):=by
  cases hn:N-i with
  | zero=>rfl
  | succ k=>rw [pQ,Aj (he.resolve_left aA)]
 rw [h.eq,this,A2]
end
attribute [local simp] aC2 aI
end
section
attribute [local irreducible] Still Adds AWL AW Drw bN bP AC AWR cM Frz Go.Av.Src dB Out InK ItK AsK RdK eA dZ ACT ACA eL
attribute [local simp] bL bK bZ
end
section
attribute [local irreducible] Still Adds AWL AW Drw bN bP AC AWR cM Frz Go.Av.Src dB Out InK ItK AsK RdK eA dZ ACT ACA eL
attribute [local simp] bL bK bZ
end
end Go.Proofs.YtbgehdndimlgkaaGreat
