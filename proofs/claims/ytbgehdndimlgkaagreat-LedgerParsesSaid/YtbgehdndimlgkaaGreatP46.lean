/- Lemmas for laws of the ledger. -/
import Derived.Test.YtbgehdndimlgkaaGreatP14
set_option linter.all false
set_option maxHeartbeats 16000000
namespace Go.Proofs.YtbgehdndimlgkaaGreat
open Go Go.RowKit Go.Av
set_option maxRecDepth 100000
structure okId (i:Idf):Prop where
 ns:i.ns.length<=1000000
 k:aS i.v.k
 n:aS i.v.n
 t:i.v.t.length<=1000000
structure LEn.lf (e:LEn):Prop where
 rq:okId e.rq.who
 la:okId e.lk.a
 lb:okId e.lk.b
 hd:okId e.hd.who
theorem mO {n:Int} (h1 : -1000000000000<=n) (h2:n<=1000000000000):aS n:=by unfold aS;omega
theorem aV3 {i:Idf} (h1:i.ns.length<=1000000) (h:okP i.v):okId i:=by
 obtain ⟨ns,k,n,t⟩:=i
 rcases h with ⟨a,b,c⟩|⟨a,b,c,d⟩|⟨a,b,c⟩<;>simp only at a b c h1
 ·subst a b c;exact ⟨h1,mO lZ lZ,mO lZ lZ,by simp⟩
 ·simp only at d;subst a d;exact ⟨h1,mO lZ lZ,mO lZ lZ,by simp⟩
 ·subst a b;exact ⟨h1,mO lZ lZ,mO lZ lZ,by simp only;omega⟩
theorem aA0 {i:Idf} (h:i.ns.length<=1000000):okId (clI i):=aV3 h (aO0 i.v)
theorem aG8:okId iT:=aV3 (by simp [iT]) bM2
theorem eB3 {e:LEn} (hz:e.sz):(clE e).lf:=by
 obtain ⟨h1,h2,h3,h4,h5,h6⟩:=hz
 unfold clE
 refine ⟨?_,?_,?_,?_⟩
 ·simp only;split
  ·exact aA0 aA
  ·exact aG8
 ·simp only;split
  ·exact aA0 aA
  ·exact aG8
 ·simp only;split
  ·exact aA0 aA
  ·exact aG8
 ·simp only;split
  ·exact aA0 aA
  ·exact aG8
theorem eU8 {b:Dr} {p:Vl × Dr} (h:pVl b=some p):okP p.1:=by
 unfold pVl at h
 obtain ⟨k,hk,h⟩:=Aj.1 h
 split at h
 ·obtain ⟨q,hq,rfl⟩:=Aq.1 h
  obtain ⟨_,h1,h2⟩:=bD9 hq
  exact .inr (.inl ⟨rfl,h1,h2,rfl⟩)
 ·split at h
  ·obtain ⟨q,hq,rfl⟩:=Aq.1 h
   unfold pTx at hq
   obtain ⟨n,hn,hq⟩:=Aj.1 hq
   obtain ⟨_,h1,h2⟩:=bD9 hn
   have:=cV2 hq
   exact .inr (.inr ⟨rfl,rfl,by simp only;omega⟩)
  ·injection h with h
   rw [<- h]
   exact bM2
theorem aV5 {b:Dr} {p:Idf × Dr} (h:pId b=some p):okId p.1:=by
 have h1:=bD8 h
 unfold pId at h
 obtain ⟨q,hq,h⟩:=Aj.1 h
 obtain ⟨v,hv,rfl⟩:=Aq.1 h
 exact aV3 aA (eU8 hv)
theorem eU6 {b:Dr} {p:LEn × Dr} (h:pEn b=some p):p.1.lf:=by
 have z:=aG8
 unfold pEn at h
 obtain ⟨k,hk,h⟩:=Aj.1 h
 obtain ⟨d,hd,h⟩:=Aj.1 h
 obtain ⟨pl,hp,h⟩:=Aj.1 h
 obtain ⟨st,hs,h⟩:=Aj.1 h
 unfold mD at h
 split at h
 ·obtain ⟨x,hx,rfl⟩:=Aq.1 h
  unfold pRq at hx
  obtain ⟨a1,h1,hx⟩:=Aj.1 hx
  obtain ⟨a2,h2,hx⟩:=Aj.1 hx
  obtain ⟨a3,h3,hx⟩:=Aj.1 hx
  obtain ⟨a4,h4,hx⟩:=Aj.1 hx
  obtain ⟨a5,h5,rfl⟩:=Aq.1 hx
  exact ⟨aV5 h2,z,z,z⟩
 ·split at h
  ·obtain ⟨v,hv,h⟩:=Aj.1 h
   obtain ⟨x,hx,rfl⟩:=Aq.1 h
   exact ⟨z,z,z,z⟩
  ·split at h
   ·obtain ⟨x,hx,rfl⟩:=Aq.1 h
    exact ⟨z,z,z,z⟩
   ·split at h
    ·obtain ⟨x,hx,rfl⟩:=Aq.1 h
     unfold pLk at hx
     obtain ⟨a1,h1,hx⟩:=Aj.1 hx
     obtain ⟨a2,h2,hx⟩:=Aj.1 hx
     obtain ⟨a3,h3,hx⟩:=Aj.1 hx
     obtain ⟨a4,h4,rfl⟩:=Aq.1 hx
     exact ⟨z,aV5 h1,aV5 h2,z⟩
    ·split at h
     ·obtain ⟨x,hx,rfl⟩:=Aq.1 h
      unfold pHd at hx
      obtain ⟨a1,h1,hx⟩:=Aj.1 hx
      obtain ⟨a2,h2,hx⟩:=Aj.1 hx
      obtain ⟨a3,h3,hx⟩:=Aj.1 hx
      obtain ⟨a4,h4,hx⟩:=Aj.1 hx
      obtain ⟨a5,h5,hx⟩:=Aj.1 hx
      obtain ⟨a6,h6,rfl⟩:=Aq.1 hx
      exact ⟨z,z,z,aV5 h3⟩
     ·injection h with h
      rw [<- h]
      exact ⟨z,z,z,z⟩
def LRq.vl (q:LRq):Dt:=[.int .i64 q.k,.string ⟨q.who.ns.toArray⟩,.int .i64 q.who.v.k,.int .i64 q.who.v.n,.string ⟨q.who.v.t.toArray⟩,.int .i64 q.s,.int .i64 q.d,.int .i64 q.dl]
def LLk.vl (l:LLk):Dt:=[.string ⟨l.a.ns.toArray⟩,.int .i64 l.a.v.k,.int .i64 l.a.v.n,.string ⟨l.a.v.t.toArray⟩,.string ⟨l.b.ns.toArray⟩,.int .i64 l.b.v.k,.int .i64 l.b.v.n,.string ⟨l.b.v.t.toArray⟩,.int .i64 l.s,.bool l.rv]
def LHd.vl (h:LHd):Dt:=[.int .i64 h.t,.int .i64 h.c,.string ⟨h.who.ns.toArray⟩,.int .i64 h.who.v.k,.int .i64 h.who.v.n,.string ⟨h.who.v.t.toArray⟩,.int .i64 h.s,.int .i64 h.fr,.int .i64 h.to]
def u8v (l:Dr):Dt:=l.map fun b => .int .u8 b.toNat
theorem zJ {l:Dr} (h:l.length<=1000000):eS6 .s (.string ⟨l.toArray⟩):=by
 show (ByteArray.mk l.toArray).size<=maxLen
 have:(ByteArray.mk l.toArray).size=l.length:=by simp [ByteArray.size]
 rw [this]
 exact At h aN
theorem eS9 {q:LRq} (h:okId q.who) (h1:aS q.k) (h2:aS q.s) (h3:aS q.d) (h4:aS q.dl):LfL [.i .i64,.s,.i .i64,.i .i64,.s,.i .i64,.i .i64,.i .i64] q.vl:=⟨⟨rfl,fA h1⟩,zJ h.ns,⟨rfl,fA h.k⟩,⟨rfl,fA h.n⟩,zJ h.t,⟨rfl,fA h2⟩,⟨rfl,fA h3⟩,⟨rfl,fA h4⟩,trivial⟩
theorem eS8 {q:LLk} (h:okId q.a) (g:okId q.b) (h1:aS q.s):LfL [.s,.i .i64,.i .i64,.s,.s,.i .i64,.i .i64,.s,.i .i64,.b] q.vl:=⟨zJ h.ns,⟨rfl,fA h.k⟩,⟨rfl,fA h.n⟩,zJ h.t,zJ g.ns,⟨rfl,fA g.k⟩,⟨rfl,fA g.n⟩,zJ g.t,⟨rfl,fA h1⟩,trivial,trivial⟩
theorem eS7 {q:LHd} (h:okId q.who) (h1:aS q.t) (h2:aS q.c) (h3:aS q.s) (h4:aS q.fr) (h5:aS q.to):LfL [.i .i64,.i .i64,.s,.i .i64,.i .i64,.s,.i .i64,.i .i64,.i .i64] q.vl:=⟨⟨rfl,fA h1⟩,⟨rfl,fA h2⟩,zJ h.ns,⟨rfl,fA h.k⟩,⟨rfl,fA h.n⟩,zJ h.t,⟨rfl,fA h3⟩,⟨rfl,fA h4⟩,⟨rfl,fA h5⟩,trivial⟩
theorem eI1 (b:UInt8):(Lit.int .u8 b.toNat).wf=true:=by
 have e1:IntKind.u8.min=0:=by decide
 have e2:IntKind.u8.max=255:=by decide
 have:=b.toNat_lt
 simp only [Lit.wf,e1,e2,Bv,Au]
 omega
theorem eB4:∀{n:Nat} {l:Dr},l.length=n->LfL (List.replicate n (.i .u8)) (u8v l)
 | 0,[],_=>trivial
 | n+1,b::l,h=>⟨⟨rfl,eI1 b⟩,eB4 pY⟩
 | 0,_::_,h=>by simp at h
 | _+1,[],h=>by simp at h
theorem eX6 (l:Dr):u8c l=(u8v l).map CV.v:=by unfold u8c u8v;rw [BY];rfl
theorem wB {α:Type} {x:α}:(true:Bool)=true↔x=x:=⟨fun _=>rfl,fun _=>rfl⟩
attribute [local irreducible] Still Adds AWL AW Drw bY bW AC AWR cR Frz Go.Av.Src cQ Out InK ItK AsK RdK eL eF ACT ACA eT lec
theorem cF3 (l:List Ver) (n:Nat) (hn:l.length=n) (hb:n<=1000000) (hw:∀x∈l,oL x):qC' 113 [.sl 3 n (vrc l),.sl 3 n (vrc l)] (.c (bv true)) [] 0:=by
 have hcx:∀x:Ver,[iv x.t,iv x.c,iv x.s]=x.vl.map CV.v:=fun _=>rfl
 have hvl:(vrc l).length=n*3:=by rw [dE,hn]
 refine aD aB (sz:=26) Tryz.func113 rfl (by rw [Tryz.ntmps113];rfl) ?_
 repeat' (first|(refine aC ?_;intro K hK hX)|refine aM0 ?_|(refine aE hK hX ?_;clear hK hX K)|fail)
 refine bF [5] [] rfl rfl (fun i:Nat=>[(5,.c (iv i))]) (fun i=>[]) (fun i=>i<=n) (fun i=>n-i) 0 (Al _) cS ?_
 intro i hi K hK hX
 by_cases hlt:i<n
 ·obtain ⟨x,hat⟩:∃x,l[i]? = some x:=⟨_,Ab aA⟩
  have hx:=eN hat
  have lx:=bD3 (hw x (Ad hat))
  repeat' (first|(refine aC ?_;intro K hK hX)|refine dT4 ?_|(refine aE hK hX ?_;clear hK hX K)|fail)
  exact dN
 ·repeat' (first|(refine aC ?_;intro K hK hX)|refine aM0 ?_|(refine aE hK hX ?_;clear hK hX K)|fail)
  exact aV
theorem cF2 (l:List Src) (n:Nat) (hn:l.length=n) (hb:n<=1000000) (hw:∀x∈l,qK x):qC' 115 [.sl 2 n (src l),.sl 2 n (src l)] (.c (bv true)) [] 0:=by
 have hcx:∀x:Src,[iv x.t,iv x.s]=x.vl.map CV.v:=fun _=>rfl
 have hvl:(src l).length=n*2:=by rw [dI,hn]
 refine aD aB (sz:=26) Tryz.func115 rfl (by rw [Tryz.ntmps115];rfl) ?_
 repeat' (first|(refine aC ?_;intro K hK hX)|refine aM0 ?_|(refine aE hK hX ?_;clear hK hX K)|fail)
 refine bF [5] [] rfl rfl (fun i:Nat=>[(5,.c (iv i))]) (fun i=>[]) (fun i=>i<=n) (fun i=>n-i) 0 (Al _) cS ?_
 intro i hi K hK hX
 by_cases hlt:i<n
 ·obtain ⟨x,hat⟩:∃x,l[i]? = some x:=⟨_,Ab aA⟩
  have hx:=eB hat
  have lx:=bD2 (hw x (Ad hat))
  repeat' (first|(refine aC ?_;intro K hK hX)|refine dT4 ?_|(refine aE hK hX ?_;clear hK hX K)|fail)
  exact dN
 ·repeat' (first|(refine aC ?_;intro K hK hX)|refine aM0 ?_|(refine aE hK hX ?_;clear hK hX K)|fail)
  exact aV
theorem cY9 (l:List Ver) (n:Nat) (hn:l.length=n) (hb:n<=1000000) (hw:∀x∈l,oL x):qC' 47 [.sl 3 n (vrc l),.sl 3 n (vrc l)] (.c (bv true)) [] 0:=by
 have h:=cF3 l n hn hb hw
 generalize vrc l=cs at *
 refine aD aB (sz:=8) Tryz.func47 rfl (by rw [Tryz.ntmps47];rfl) ?_
 repeat' (first|(refine aC ?_;intro K hK hX)|refine aL [0,1,4] ?_|(refine dL ?_;refine c0 h ?_)|refine stA ?_|(refine aE hK hX ?_;clear hK hX K)|fail)
 exact aV
theorem cY8 (l:List Src) (n:Nat) (hn:l.length=n) (hb:n<=1000000) (hw:∀x∈l,qK x):qC' 49 [.sl 2 n (src l),.sl 2 n (src l)] (.c (bv true)) [] 0:=by
 have h:=cF2 l n hn hb hw
 generalize src l=cs at *
 refine aD aB (sz:=8) Tryz.func49 rfl (by rw [Tryz.ntmps49];rfl) ?_
 repeat' (first|(refine aC ?_;intro K hK hX)|refine aL [0,1,4] ?_|(refine dL ?_;refine c0 h ?_)|refine stA ?_|(refine aE hK hX ?_;clear hK hX K)|fail)
 exact aV
theorem aP7 (e:LEn) (hw:e.wf) (hk:aS e.k) (hl:e.lf) (hz:e.sz) (nv ns:Nat) (hnv:e.vs.length=nv) (hns:e.ss.length=ns):qC' 20 [.agg (ecs e nv ns),.agg (ecs e nv ns)] (.c (bv true)) [] 0:=by
 have z1:=hz.vs
 have z2:=hz.ss
 have hv:=cY9 e.vs nv hnv aA hw.vs
 have hs:=cY8 e.ss ns hns aA hw.ss
 have l1:=eS9 (q:=e.rq) hl.rq hw.rq.1 hw.rq.2.1 hw.rq.2.2.1 hw.rq.2.2.2
 have l2:=eS8 (q:=e.lk) hl.la hl.lb hw.lk
 have l3:=eS7 (q:=e.hd) hl.hd hw.hd.1 hw.hd.2.1 hw.hd.2.2.1 hw.hd.2.2.2.1 hw.hd.2.2.2.2
 have l4:=eB4 hw.root
 have hel:=cI hw.root nv ns
 have hul:(u8c e.root).length=32:=by rw [aH,hw.root]
 have gc0:(ecs e nv ns)[0+0]? = some (iv e.k):=rfl
 have gc1:(ecs e nv ns)[0+1]? = some (iv e.day):=rfl
 have gc2:(ecs e nv ns)[0+2]? = some (iv e.plan):=rfl
 have gc3:(ecs e nv ns)[0+3]? = some (iv e.step):=rfl
 have w4:List.take 8 (List.drop (0+4) (ecs e nv ns))=e.rq.vl.map CV.v:=rfl
 have w5:List.take 10 (List.drop (0+12) (ecs e nv ns))=e.lk.vl.map CV.v:=rfl
 have w6:List.take 9 (List.drop (0+22) (ecs e nv ns))=e.hd.vl.map CV.v:=rfl
 have gc7:(ecs e nv ns)[0+31]? = some (.sl 3 nv (vrc e.vs)):=rfl
 have gc8:(ecs e nv ns)[0+32]? = some (.sl 2 ns (src e.ss)):=rfl
 have w9:List.take 32 (List.drop (0+33) (ecs e nv ns))=u8c e.root:=by
  show List.take 32 (u8c e.root)=u8c e.root
  rw [Ae (Cj hul)]
 have hcx:=eX6 e.root
 generalize ecs e nv ns=cs at *
 generalize e.rq.vl=q1 at *
 generalize e.lk.vl=q2 at *
 generalize e.hd.vl=q3 at *
 generalize vrc e.vs=q4 at *
 generalize src e.ss=q5 at *
 refine aD aB (sz:=73) Tryz.func20 rfl (by rw [Tryz.ntmps20];rfl) ?_
 repeat' (first|(refine aC ?_;intro K hK hX)|refine aL [0,1,2,3,4] ?_|((with_reducible refine bH ?_);refine yA ?_;refine bE (bJ (T:=49) rfl) rfl ?_)|refine stA ?_|(refine aE hK hX ?_;clear hK hX K)|fail)
 simp only [B6,AE,Aw]
 repeat' (first|(refine aC ?_;intro K hK hX)|refine aL [2,3,4] ?_|((with_reducible refine bH ?_);refine yA ?_;refine bE (bJ (T:=49) rfl) rfl ?_)|(refine dL ?_;first|refine c0 hv ?_|refine c0 hs ?_)|(((with_reducible refine bL ?_);refine xA ?_);(first|((with_reducible refine bQ ?_);(first|refine aJ (oN aO (m:=6) rfl aO aO aO aO aO rfl rfl w4 w4 l1 l1 wB) ?_|refine aJ (oN aO (m:=6) rfl aO aO aO aO aO rfl rfl w5 w5 l2 l2 wB) ?_|refine aJ (oN aO (m:=6) rfl aO aO aO aO aO rfl rfl w6 w6 l3 l3 wB) ?_|refine aJ (oN aO (m:=6) rfl aO aO aO aO aO rfl rfl (w9.trans hcx) (w9.trans hcx) l4 l4 wB) ?_))))|refine eW ?_|refine stA ?_|(refine aE hK hX ?_;clear hK hX K)|fail)
 exact aV
def LfE (l:List LEn):Prop:=∀e∈l,e.lf
theorem aH8 (l:List LEn) (n:Nat) (hn:l.length=n) (hb:n<=1000000) (ho:OkL l) (hl:LfE l):qC' 16 [.sl 65 n (lec l),.sl 65 n (lec l)] (.c (bv true)) [] 0:=by
 have hll:(lec l).length=n*65:=by rw [dZ ho,hn]
 refine aD aB (sz:=27) Tryz.func16 rfl (by rw [Tryz.ntmps16];rfl) ?_
 repeat' (first|(refine aC ?_;intro K hK hX)|refine aM0 ?_|(refine aE hK hX ?_;clear hK hX K)|fail)
 refine bF [5] [] rfl rfl (fun i:Nat=>[(5,.c (iv i))]) (fun i=>[]) (fun i=>i<=n) (fun i=>n-i) 0 (Al _) cS ?_
 intro i hi K hK hX
 by_cases hlt:i<n
 ·obtain ⟨e,hat⟩:∃e,l[i]? = some e:=⟨_,Ab aA⟩
  have hx:=lI ho hat
  have hm:=Ad hat
  obtain ⟨ow,ok,oz⟩:=ho e hm
  have h1:=aP7 e ow ok (hl e hm) oz _ _ rfl rfl
  have hel:=eY ow
  change AC _ _ [.agg (ecR e),.agg (ecR e)] _ _ _ at h1
  generalize ecR e=cs at *
  repeat' (first|(refine aC ?_;intro K hK hX)|refine aY [0,1,4,5] ?_|(refine bK ?_;refine c0 h1 ?_)|refine dY ?_|refine stA ?_|refine stD ?_|(refine aE hK hX ?_;clear hK hX K)|fail)
  exact dN
 ·repeat' (first|(refine aC ?_;intro K hK hX)|refine aM0 ?_|(refine aE hK hX ?_;clear hK hX K)|fail)
  exact aV
end Go.Proofs.YtbgehdndimlgkaaGreat
