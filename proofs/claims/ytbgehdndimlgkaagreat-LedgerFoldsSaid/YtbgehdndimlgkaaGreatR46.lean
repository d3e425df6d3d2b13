/- Lemmas for laws of the ledger. -/
import Derived.Test.YtbgehdndimlgkaaGreatR14
set_option linter.all false
set_option maxHeartbeats 16000000
namespace Go.Proofs.YtbgehdndimlgkaaGreat
open Go Go.RowKit Go.Av
set_option maxRecDepth 100000
structure okId (i:Idf):Prop where
 ns:i.ns.length<=1000000
 k:aS i.v.k
 n:aS i.v.n
 t:i.v.t.length<=1000000
structure LEn.lf (e:LEn):Prop where
 rq:okId e.rq.who
 la:okId e.lk.a
 lb:okId e.lk.b
 hd:okId e.hd.who
def LRq.vl (q:LRq):Dd:=[.int .i64 q.k,.string ⟨q.who.ns.toArray⟩,.int .i64 q.who.v.k,.int .i64 q.who.v.n,.string ⟨q.who.v.t.toArray⟩,.int .i64 q.s,.int .i64 q.d,.int .i64 q.dl]
def LLk.vl (l:LLk):Dd:=[.string ⟨l.a.ns.toArray⟩,.int .i64 l.a.v.k,.int .i64 l.a.v.n,.string ⟨l.a.v.t.toArray⟩,.string ⟨l.b.ns.toArray⟩,.int .i64 l.b.v.k,.int .i64 l.b.v.n,.string ⟨l.b.v.t.toArray⟩,.int .i64 l.s,.bool l.rv]
def LHd.vl (h:LHd):Dd:=[.int .i64 h.t,.int .i64 h.c,.string ⟨h.who.ns.toArray⟩,.int .i64 h.who.v.k,.int .i64 h.who.v.n,.string ⟨h.who.v.t.toArray⟩,.int .i64 h.s,.int .i64 h.fr,.int .i64 h.to]
def u8v (l:Db):Dd:=l.map fun b => .int .u8 b.toNat
theorem vJ {l:Db} (h:l.length<=1000000):dU3 .s (.string ⟨l.toArray⟩):=by
 show (ByteArray.mk l.toArray).size<=maxLen
 have:(ByteArray.mk l.toArray).size=l.length:=by simp [ByteArray.size]
 rw [this]
 exact Am h aP
theorem dU7 {q:LRq} (h:okId q.who) (h1:aS q.k) (h2:aS q.s) (h3:aS q.d) (h4:aS q.dl):LfL [.i .i64,.s,.i .i64,.i .i64,.s,.i .i64,.i .i64,.i .i64] q.vl:=⟨⟨rfl,dX h1⟩,vJ h.ns,⟨rfl,dX h.k⟩,⟨rfl,dX h.n⟩,vJ h.t,⟨rfl,dX h2⟩,⟨rfl,dX h3⟩,⟨rfl,dX h4⟩,trivial⟩
theorem dU5 {q:LLk} (h:okId q.a) (g:okId q.b) (h1:aS q.s):LfL [.s,.i .i64,.i .i64,.s,.s,.i .i64,.i .i64,.s,.i .i64,.b] q.vl:=⟨vJ h.ns,⟨rfl,dX h.k⟩,⟨rfl,dX h.n⟩,vJ h.t,vJ g.ns,⟨rfl,dX g.k⟩,⟨rfl,dX g.n⟩,vJ g.t,⟨rfl,dX h1⟩,trivial,trivial⟩
theorem dU4 {q:LHd} (h:okId q.who) (h1:aS q.t) (h2:aS q.c) (h3:aS q.s) (h4:aS q.fr) (h5:aS q.to):LfL [.i .i64,.i .i64,.s,.i .i64,.i .i64,.s,.i .i64,.i .i64,.i .i64] q.vl:=⟨⟨rfl,dX h1⟩,⟨rfl,dX h2⟩,vJ h.ns,⟨rfl,dX h.k⟩,⟨rfl,dX h.n⟩,vJ h.t,⟨rfl,dX h3⟩,⟨rfl,dX h4⟩,⟨rfl,dX h5⟩,trivial⟩
theorem wO {α:Type} {x:α}:(true:Bool)=true↔x=x:=⟨fun _=>rfl,fun _=>rfl⟩
attribute [local irreducible] Still Adds AWL AW Drw bQ bT AC AWR cO Frz Go.Av.Src dF Out InK ItK AsK RdK eI eG ACT ACA fD lec
theorem bO7 (l:List Ver) (n:Nat) (hn:l.length=n) (hb:n<=1000000) (hw:∀x∈l,vL x):qC' 113 [.sl 3 n (vrc l),.sl 3 n (vrc l)] (.c (bv true)) [] 0:=by
 have hcx:∀x:Ver,[iv x.t,iv x.c,iv x.s]=x.vl.map CV.v:=fun _=>rfl
 have hvl:(vrc l).length=n*3:=by rw [dL,hn]
 refine aG aB (sz:=26) Tryz.func113 rfl (by rw [Tryz.ntmps113];rfl) ?_
 repeat' (first|(refine aC ?_;intro K hK hX)|refine aA8 ?_|(refine aE hK hX ?_;clear hK hX K)|fail)
 refine aT [5] [] rfl rfl (fun i:Nat=>[(5,.c (iv i))]) (fun i=>[]) (fun i=>i<=n) (fun i=>n-i) 0 (Ah _) dP ?_
 intro i hi K hK hX
 by_cases hlt:i<n
 ·obtain ⟨x,hat⟩:∃x,l[i]? = some x:=⟨_,Aa aA⟩
  have hx:=fU hat
  have lx:=aP0 (hw x (Ac hat))
  repeat' (first|(refine aC ?_;intro K hK hX)|refine cZ3 ?_|(refine aE hK hX ?_;clear hK hX K)|fail)
  exact eQ
 ·repeat' (first|(refine aC ?_;intro K hK hX)|refine aA8 ?_|(refine aE hK hX ?_;clear hK hX K)|fail)
  exact bI
theorem bO6 (l:List Src) (n:Nat) (hn:l.length=n) (hb:n<=1000000) (hw:∀x∈l,yP x):qC' 115 [.sl 2 n (src l),.sl 2 n (src l)] (.c (bv true)) [] 0:=by
 have hcx:∀x:Src,[iv x.t,iv x.s]=x.vl.map CV.v:=fun _=>rfl
 have hvl:(src l).length=n*2:=by rw [dK,hn]
 refine aG aB (sz:=26) Tryz.func115 rfl (by rw [Tryz.ntmps115];rfl) ?_
 repeat' (first|(refine aC ?_;intro K hK hX)|refine aA8 ?_|(refine aE hK hX ?_;clear hK hX K)|fail)
 refine aT [5] [] rfl rfl (fun i:Nat=>[(5,.c (iv i))]) (fun i=>[]) (fun i=>i<=n) (fun i=>n-i) 0 (Ah _) dP ?_
 intro i hi K hK hX
 by_cases hlt:i<n
 ·obtain ⟨x,hat⟩:∃x,l[i]? = some x:=⟨_,Aa aA⟩
  have hx:=eY hat
  have lx:=aO9 (hw x (Ac hat))
  repeat' (first|(refine aC ?_;intro K hK hX)|refine cZ3 ?_|(refine aE hK hX ?_;clear hK hX K)|fail)
  exact eQ
 ·repeat' (first|(refine aC ?_;intro K hK hX)|refine aA8 ?_|(refine aE hK hX ?_;clear hK hX K)|fail)
  exact bI
theorem aQ7 (l:List Ver) (n:Nat) (hn:l.length=n) (hb:n<=1000000) (hw:∀x∈l,vL x):qC' 47 [.sl 3 n (vrc l),.sl 3 n (vrc l)] (.c (bv true)) [] 0:=by
 have h:=bO7 l n hn hb hw
 generalize vrc l=cs at *
 refine aG aB (sz:=8) Tryz.func47 rfl (by rw [Tryz.ntmps47];rfl) ?_
 repeat' (first|(refine aC ?_;intro K hK hX)|refine bU0 ?_|(refine aE hK hX ?_;clear hK hX K)|fail)
 exact bI
theorem cH0 (l:List Src) (n:Nat) (hn:l.length=n) (hb:n<=1000000) (hw:∀x∈l,yP x):qC' 49 [.sl 2 n (src l),.sl 2 n (src l)] (.c (bv true)) [] 0:=by
 have h:=bO6 l n hn hb hw
 generalize src l=cs at *
 refine aG aB (sz:=8) Tryz.func49 rfl (by rw [Tryz.ntmps49];rfl) ?_
 repeat' (first|(refine aC ?_;intro K hK hX)|refine bU0 ?_|(refine aE hK hX ?_;clear hK hX K)|fail)
 exact bI
def LfE (l:List LEn):Prop:=∀e∈l,e.lf
end Go.Proofs.YtbgehdndimlgkaaGreat
