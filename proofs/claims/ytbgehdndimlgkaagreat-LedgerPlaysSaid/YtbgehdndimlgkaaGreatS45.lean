/- Lemmas for laws of the ledger. -/
import Derived.Test.YtbgehdndimlgkaaGreatS14
set_option linter.all false
set_option maxHeartbeats 16000000
namespace Go.Proofs.YtbgehdndimlgkaaGreat
open Go Go.RowKit Go.Av
set_option maxRecDepth 100000
structure okId (i:Idf):Prop where
 ns:i.ns.length<=1000000
 k:aT i.v.k
 n:aT i.v.n
 t:i.v.t.length<=1000000
structure LEn.lf (e:LEn):Prop where
 rq:okId e.rq.who
 la:okId e.lk.a
 lb:okId e.lk.b
 hd:okId e.hd.who
theorem lX {n:Int} (h1 : -1000000000000<=n) (h2:n<=1000000000000):aT n:=by unfold aT;omega
theorem aP7 {i:Idf} (h1:i.ns.length<=1000000) (h:okP i.v):okId i:=by
 obtain ⟨ns,k,n,t⟩:=i
 rcases h with ⟨a,b,c⟩|⟨a,b,c,d⟩|⟨a,b,c⟩<;>simp only at a b c h1
 ·subst a b c;exact ⟨h1,lX lH lH,lX lH lH,by simp⟩
 ·simp only at d;subst a d;exact ⟨h1,lX lH lH,lX lH lH,by simp⟩
 ·subst a b;exact ⟨h1,lX lH lH,lX lH lH,by simp only;omega⟩
theorem yO {i:Idf} (h:i.ns.length<=1000000):okId (clI i):=aP7 h (aJ5 i.v)
theorem aD0:okId iE:=aP7 (by simp [iE]) bG2
theorem eJ7 {e:LEn} (hz:e.sz):(clE e).lf:=by
 obtain ⟨h1,h2,h3,h4,h5,h6⟩:=hz
 unfold clE
 refine ⟨?_,?_,?_,?_⟩
 ·simp only;split
  ·exact yO aA
  ·exact aD0
 ·simp only;split
  ·exact yO aA
  ·exact aD0
 ·simp only;split
  ·exact yO aA
  ·exact aD0
 ·simp only;split
  ·exact yO aA
  ·exact aD0
theorem eL9 {b:Dm} {p:Vl × Dm} (h:pVl b=some p):okP p.1:=by
 unfold pVl at h
 obtain ⟨k,hk,h⟩:=Ai.1 h
 split at h
 ·obtain ⟨q,hq,rfl⟩:=Ap.1 h
  obtain ⟨_,h1,h2⟩:=aX5 hq
  exact .inr (.inl ⟨rfl,h1,h2,rfl⟩)
 ·split at h
  ·obtain ⟨q,hq,rfl⟩:=Ap.1 h
   unfold pTx at hq
   obtain ⟨n,hn,hq⟩:=Ai.1 hq
   obtain ⟨_,h1,h2⟩:=aX5 hn
   have:=cN9 hq
   exact .inr (.inr ⟨rfl,rfl,by simp only;omega⟩)
  ·injection h with h
   rw [<- h]
   exact bG2
theorem aP9 {b:Dm} {p:Idf × Dm} (h:pId b=some p):okId p.1:=by
 have h1:=aX4 h
 unfold pId at h
 obtain ⟨q,hq,h⟩:=Ai.1 h
 obtain ⟨v,hv,rfl⟩:=Ap.1 h
 exact aP7 aA (eL9 hv)
theorem eL7 {b:Dm} {p:LEn × Dm} (h:pEn b=some p):p.1.lf:=by
 have z:=aD0
 unfold pEn at h
 obtain ⟨k,hk,h⟩:=Ai.1 h
 obtain ⟨d,hd,h⟩:=Ai.1 h
 obtain ⟨pl,hp,h⟩:=Ai.1 h
 obtain ⟨st,hs,h⟩:=Ai.1 h
 unfold lM at h
 split at h
 ·obtain ⟨x,hx,rfl⟩:=Ap.1 h
  unfold pRq at hx
  obtain ⟨a1,h1,hx⟩:=Ai.1 hx
  obtain ⟨a2,h2,hx⟩:=Ai.1 hx
  obtain ⟨a3,h3,hx⟩:=Ai.1 hx
  obtain ⟨a4,h4,hx⟩:=Ai.1 hx
  obtain ⟨a5,h5,rfl⟩:=Ap.1 hx
  exact ⟨aP9 h2,z,z,z⟩
 ·split at h
  ·obtain ⟨v,hv,h⟩:=Ai.1 h
   obtain ⟨x,hx,rfl⟩:=Ap.1 h
   exact ⟨z,z,z,z⟩
  ·split at h
   ·obtain ⟨x,hx,rfl⟩:=Ap.1 h
    exact ⟨z,z,z,z⟩
   ·split at h
    ·obtain ⟨x,hx,rfl⟩:=Ap.1 h
     unfold pLk at hx
     obtain ⟨a1,h1,hx⟩:=Ai.1 hx
     obtain ⟨a2,h2,hx⟩:=Ai.1 hx
     obtain ⟨a3,h3,hx⟩:=Ai.1 hx
     obtain ⟨a4,h4,rfl⟩:=Ap.1 hx
     exact ⟨z,aP9 h1,aP9 h2,z⟩
    ·split at h
     ·obtain ⟨x,hx,rfl⟩:=Ap.1 h
      unfold pHd at hx
      obtain ⟨a1,h1,hx⟩:=Ai.1 hx
      obtain ⟨a2,h2,hx⟩:=Ai.1 hx
      obtain ⟨a3,h3,hx⟩:=Ai.1 hx
      obtain ⟨a4,h4,hx⟩:=Ai.1 hx
      obtain ⟨a5,h5,hx⟩:=Ai.1 hx
      obtain ⟨a6,h6,rfl⟩:=Ap.1 hx
      exact ⟨z,z,z,aP9 h3⟩
     ·injection h with h
      rw [<- h]
      exact ⟨z,z,z,z⟩
def LRq.vl (q:LRq):Do:=[.int .i64 q.k,.string ⟨q.who.ns.toArray⟩,.int .i64 q.who.v.k,.int .i64 q.who.v.n,.string ⟨q.who.v.t.toArray⟩,.int .i64 q.s,.int .i64 q.d,.int .i64 q.dl]
def LLk.vl (l:LLk):Do:=[.string ⟨l.a.ns.toArray⟩,.int .i64 l.a.v.k,.int .i64 l.a.v.n,.string ⟨l.a.v.t.toArray⟩,.string ⟨l.b.ns.toArray⟩,.int .i64 l.b.v.k,.int .i64 l.b.v.n,.string ⟨l.b.v.t.toArray⟩,.int .i64 l.s,.bool l.rv]
def LHd.vl (h:LHd):Do:=[.int .i64 h.t,.int .i64 h.c,.string ⟨h.who.ns.toArray⟩,.int .i64 h.who.v.k,.int .i64 h.who.v.n,.string ⟨h.who.v.t.toArray⟩,.int .i64 h.s,.int .i64 h.fr,.int .i64 h.to]
def u8v (l:Dm):Do:=l.map fun b => .int .u8 b.toNat
theorem xX {l:Dm} (h:l.length<=1000000):eJ6 .s (.string ⟨l.toArray⟩):=by
 show (ByteArray.mk l.toArray).size<=maxLen
 have:(ByteArray.mk l.toArray).size=l.length:=by simp [ByteArray.size]
 rw [this]
 exact At h aN
theorem eK0 {q:LRq} (h:okId q.who) (h1:aT q.k) (h2:aT q.s) (h3:aT q.d) (h4:aT q.dl):LfL [.i .i64,.s,.i .i64,.i .i64,.s,.i .i64,.i .i64,.i .i64] q.vl:=⟨⟨rfl,eM h1⟩,xX h.ns,⟨rfl,eM h.k⟩,⟨rfl,eM h.n⟩,xX h.t,⟨rfl,eM h2⟩,⟨rfl,eM h3⟩,⟨rfl,eM h4⟩,trivial⟩
theorem eJ9 {q:LLk} (h:okId q.a) (g:okId q.b) (h1:aT q.s):LfL [.s,.i .i64,.i .i64,.s,.s,.i .i64,.i .i64,.s,.i .i64,.b] q.vl:=⟨xX h.ns,⟨rfl,eM h.k⟩,⟨rfl,eM h.n⟩,xX h.t,xX g.ns,⟨rfl,eM g.k⟩,⟨rfl,eM g.n⟩,xX g.t,⟨rfl,eM h1⟩,trivial,trivial⟩
theorem eJ8 {q:LHd} (h:okId q.who) (h1:aT q.t) (h2:aT q.c) (h3:aT q.s) (h4:aT q.fr) (h5:aT q.to):LfL [.i .i64,.i .i64,.s,.i .i64,.i .i64,.s,.i .i64,.i .i64,.i .i64] q.vl:=⟨⟨rfl,eM h1⟩,⟨rfl,eM h2⟩,xX h.ns,⟨rfl,eM h.k⟩,⟨rfl,eM h.n⟩,xX h.t,⟨rfl,eM h3⟩,⟨rfl,eM h4⟩,⟨rfl,eM h5⟩,trivial⟩
theorem dZ8 (b:UInt8):(Lit.int .u8 b.toNat).wf=true:=by
 have e1:IntKind.u8.min=0:=by decide
 have e2:IntKind.u8.max=255:=by decide
 have:=b.toNat_lt
 simp only [Lit.wf,e1,e2,Bq,Ar]
 omega
theorem dT1:∀{n:Nat} {l:Dm},l.length=n->LfL (List.replicate n (.i .u8)) (u8v l)
 | 0,[],_=>trivial
 | n+1,b::l,h=>⟨⟨rfl,dZ8 b⟩,dT1 oW⟩
 | 0,_::_,h=>by simp at h
 | _+1,[],h=>by simp at h
theorem eO7 (l:Dm):u8c l=(u8v l).map CV.v:=by unfold u8c u8v;rw [BT];rfl
theorem uQ {α:Type} {x:α}:(true:Bool)=true↔x=x:=⟨fun _=>rfl,fun _=>rfl⟩
attribute [local irreducible] Still Adds AWL AW Drw bX bY AC AWR cU Frz Go.Av.Src cQ Out InK ItK AsK RdK eP eI ACT ACA eW lec
theorem bY9 (l:List Ver) (n:Nat) (hn:l.length=n) (hb:n<=1000000) (hw:∀x∈l,oG x):qC' 113 [.sl 3 n (vrc l),.sl 3 n (vrc l)] (.c (bv true)) [] 0:=by
 have hcx:∀x:Ver,[iv x.t,iv x.c,iv x.s]=x.vl.map CV.v:=fun _=>rfl
 have hvl:(vrc l).length=n*3:=by rw [dC,hn]
 refine aD aB (sz:=26) Tryz.func113 rfl (by rw [Tryz.ntmps113];rfl) ?_
 repeat' (first|(refine aC ?_;intro K hK hX)|refine aH4 ?_|(refine aG hK hX ?_;clear hK hX K)|fail)
 refine bH [5] [] rfl rfl (fun i:Nat=>[(5,.c (iv i))]) (fun i=>[]) (fun i=>i<=n) (fun i=>n-i) 0 (Am _) dF ?_
 intro i hi K hK hX
 by_cases hlt:i<n
 ·obtain ⟨x,hat⟩:∃x,l[i]? = some x:=⟨_,Ab aA⟩
  have hx:=eG hat
  have lx:=aX2 (hw x (Af hat))
  repeat' (first|(refine aC ?_;intro K hK hX)|refine dL7 ?_|(refine aG hK hX ?_;clear hK hX K)|fail)
  exact dS
 ·repeat' (first|(refine aC ?_;intro K hK hX)|refine aH4 ?_|(refine aG hK hX ?_;clear hK hX K)|fail)
  exact aY
theorem bY8 (l:List Src) (n:Nat) (hn:l.length=n) (hb:n<=1000000) (hw:∀x∈l,sP x):qC' 115 [.sl 2 n (src l),.sl 2 n (src l)] (.c (bv true)) [] 0:=by
 have hcx:∀x:Src,[iv x.t,iv x.s]=x.vl.map CV.v:=fun _=>rfl
 have hvl:(src l).length=n*2:=by rw [dV,hn]
 refine aD aB (sz:=26) Tryz.func115 rfl (by rw [Tryz.ntmps115];rfl) ?_
 repeat' (first|(refine aC ?_;intro K hK hX)|refine aH4 ?_|(refine aG hK hX ?_;clear hK hX K)|fail)
 refine bH [5] [] rfl rfl (fun i:Nat=>[(5,.c (iv i))]) (fun i=>[]) (fun i=>i<=n) (fun i=>n-i) 0 (Am _) dF ?_
 intro i hi K hK hX
 by_cases hlt:i<n
 ·obtain ⟨x,hat⟩:∃x,l[i]? = some x:=⟨_,Ab aA⟩
  have hx:=eV hat
  have lx:=dF0 (hw x (Af hat))
  repeat' (first|(refine aC ?_;intro K hK hX)|refine dL7 ?_|(refine aG hK hX ?_;clear hK hX K)|fail)
  exact dS
 ·repeat' (first|(refine aC ?_;intro K hK hX)|refine aH4 ?_|(refine aG hK hX ?_;clear hK hX K)|fail)
  exact aY
theorem cR6 (l:List Ver) (n:Nat) (hn:l.length=n) (hb:n<=1000000) (hw:∀x∈l,oG x):qC' 47 [.sl 3 n (vrc l),.sl 3 n (vrc l)] (.c (bv true)) [] 0:=by
 have h:=bY9 l n hn hb hw
 generalize vrc l=cs at *
 refine aD aB (sz:=8) Tryz.func47 rfl (by rw [Tryz.ntmps47];rfl) ?_
 repeat' (first|(refine aC ?_;intro K hK hX)|refine aK [0,1,4] ?_|(refine dK ?_;refine c0 h ?_)|refine stA ?_|(refine aG hK hX ?_;clear hK hX K)|fail)
 exact aY
theorem cR5 (l:List Src) (n:Nat) (hn:l.length=n) (hb:n<=1000000) (hw:∀x∈l,sP x):qC' 49 [.sl 2 n (src l),.sl 2 n (src l)] (.c (bv true)) [] 0:=by
 have h:=bY8 l n hn hb hw
 generalize src l=cs at *
 refine aD aB (sz:=8) Tryz.func49 rfl (by rw [Tryz.ntmps49];rfl) ?_
 repeat' (first|(refine aC ?_;intro K hK hX)|refine aK [0,1,4] ?_|(refine dK ?_;refine c0 h ?_)|refine stA ?_|(refine aG hK hX ?_;clear hK hX K)|fail)
 exact aY
theorem bY6 (e:LEn) (hw:e.wf) (hk:aT e.k) (hl:e.lf) (hz:e.sz) (nv ns:Nat) (hnv:e.vs.length=nv) (hns:e.ss.length=ns):qC' 20 [.agg (ecs e nv ns),.agg (ecs e nv ns)] (.c (bv true)) [] 0:=by
 have z1:=hz.vs
 have z2:=hz.ss
 have hv:=cR6 e.vs nv hnv aA hw.vs
 have hs:=cR5 e.ss ns hns aA hw.ss
 have l1:=eK0 (q:=e.rq) hl.rq hw.rq.1 hw.rq.2.1 hw.rq.2.2.1 hw.rq.2.2.2
 have l2:=eJ9 (q:=e.lk) hl.la hl.lb hw.lk
 have l3:=eJ8 (q:=e.hd) hl.hd hw.hd.1 hw.hd.2.1 hw.hd.2.2.1 hw.hd.2.2.2.1 hw.hd.2.2.2.2
 have l4:=dT1 hw.root
 have hel:=cK hw.root nv ns
 have hul:(u8c e.root).length=32:=by rw [aH,hw.root]
 have gc0:(ecs e nv ns)[0+0]? = some (iv e.k):=rfl
 have gc1:(ecs e nv ns)[0+1]? = some (iv e.day):=rfl
 have gc2:(ecs e nv ns)[0+2]? = some (iv e.plan):=rfl
 have gc3:(ecs e nv ns)[0+3]? = some (iv e.step):=rfl
 have w4:List.take 8 (List.drop (0+4) (ecs e nv ns))=e.rq.vl.map CV.v:=rfl
 have w5:List.take 10 (List.drop (0+12) (ecs e nv ns))=e.lk.vl.map CV.v:=rfl
 have w6:List.take 9 (List.drop (0+22) (ecs e nv ns))=e.hd.vl.map CV.v:=rfl
 have gc7:(ecs e nv ns)[0+31]? = some (.sl 3 nv (vrc e.vs)):=rfl
 have gc8:(ecs e nv ns)[0+32]? = some (.sl 2 ns (src e.ss)):=rfl
 have w9:List.take 32 (List.drop (0+33) (ecs e nv ns))=u8c e.root:=by
  show List.take 32 (u8c e.root)=u8c e.root
  rw [Ad (Cd hul)]
 have hcx:=eO7 e.root
 generalize ecs e nv ns=cs at *
 generalize e.rq.vl=q1 at *
 generalize e.lk.vl=q2 at *
 generalize e.hd.vl=q3 at *
 generalize vrc e.vs=q4 at *
 generalize src e.ss=q5 at *
 refine aD aB (sz:=73) Tryz.func20 rfl (by rw [Tryz.ntmps20];rfl) ?_
 repeat' (first|(refine aC ?_;intro K hK hX)|refine aK [0,1,2,3,4] ?_|((with_reducible refine bM ?_);refine yA ?_;refine bC (bN (T:=49) rfl) rfl ?_)|refine stA ?_|(refine aG hK hX ?_;clear hK hX K)|fail)
 simp only [Bz,AF,Ay]
 repeat' (first|(refine aC ?_;intro K hK hX)|refine aK [2,3,4] ?_|((with_reducible refine bM ?_);refine yA ?_;refine bC (bN (T:=49) rfl) rfl ?_)|(refine dK ?_;first|refine c0 hv ?_|refine c0 hs ?_)|(((with_reducible refine bP ?_);refine xA ?_);(first|((with_reducible refine bU ?_);(first|refine aL (pM aV (m:=6) rfl aV aV aV aV aV rfl rfl w4 w4 l1 l1 uQ) ?_|refine aL (pM aV (m:=6) rfl aV aV aV aV aV rfl rfl w5 w5 l2 l2 uQ) ?_|refine aL (pM aV (m:=6) rfl aV aV aV aV aV rfl rfl w6 w6 l3 l3 uQ) ?_|refine aL (pM aV (m:=6) rfl aV aV aV aV aV rfl rfl (w9.trans hcx) (w9.trans hcx) l4 l4 uQ) ?_))))|refine eJ ?_|refine stA ?_|(refine aG hK hX ?_;clear hK hX K)|fail)
 exact aY
def LfE (l:List LEn):Prop:=∀e∈l,e.lf
theorem bH9 (l:List LEn) (n:Nat) (hn:l.length=n) (hb:n<=1000000) (ho:OkL l) (hl:LfE l):qC' 16 [.sl 65 n (lec l),.sl 65 n (lec l)] (.c (bv true)) [] 0:=by
 have hll:(lec l).length=n*65:=by rw [fX ho,hn]
 refine aD aB (sz:=27) Tryz.func16 rfl (by rw [Tryz.ntmps16];rfl) ?_
 repeat' (first|(refine aC ?_;intro K hK hX)|refine aH4 ?_|(refine aG hK hX ?_;clear hK hX K)|fail)
 refine bH [5] [] rfl rfl (fun i:Nat=>[(5,.c (iv i))]) (fun i=>[]) (fun i=>i<=n) (fun i=>n-i) 0 (Am _) dF ?_
 intro i hi K hK hX
 by_cases hlt:i<n
 ·obtain ⟨e,hat⟩:∃e,l[i]? = some e:=⟨_,Ab aA⟩
  have hx:=wH ho hat
  have hm:=Af hat
  obtain ⟨ow,ok,oz⟩:=ho e hm
  have h1:=bY6 e ow ok (hl e hm) oz _ _ rfl rfl
  have hel:=lQ ow
  change AC _ _ [.agg (ecR e),.agg (ecR e)] _ _ _ at h1
  generalize ecR e=cs at *
  repeat' (first|(refine aC ?_;intro K hK hX)|refine bE [0,1,4,5] ?_|(refine bZ ?_;refine c0 h1 ?_)|refine eE ?_|refine stA ?_|refine stD ?_|(refine aG hK hX ?_;clear hK hX K)|fail)
  exact dS
 ·repeat' (first|(refine aC ?_;intro K hK hX)|refine aH4 ?_|(refine aG hK hX ?_;clear hK hX K)|fail)
  exact aY
end Go.Proofs.YtbgehdndimlgkaaGreat
