/- Lemmas for laws of the ledger. -/
import Derived.Test.YtbgehdndimlgkaaGreatS51
import Derived.Test.YtbgehdndimlgkaaGreatS52
set_option linter.all false
namespace Go.Proofs.YtbgehdndimlgkaaGreat
open Go Go.RowKit Go.Av
set_option maxRecDepth 100000
def gC (s:Lg):D1:=lgV s.d.sy.length s.d.pe.length s.l.length s
theorem bF5 {s:Lg} (h:PyI s):(gC s).length=37:=by unfold gC lgV;rw [Aa,aH,h.c];rfl
structure PyC (f1 f2:FuncId) (xs:D1) (x:Lg) (e:Int):Prop where
 h1:qC' f1 xs (.tup [.c (.agg (gC x)),.c (iv e)]) [] 0
 h2:qC' f2 xs (.tup [.c (.agg (gC x)),.c (iv e)]) [] 0
theorem bP6 {s:Lg} (h:PyI s):qC' 25 [.agg (gC s),.agg (gC s)] (.c (bv true)) [] 0:=bY7 s _ _ _ rfl rfl rfl (by have:=h.len;omega) h.ok h.lf h.c
theorem pyA {s:Lg} (h:PyI s) {e:LEn} (hw:e.wf) (hk:aT e.k) (hs:smE e):PyC 24 34 [.agg (gC s),.agg (ecR e)] (opAd s e).1 (opAd s e).2 :=
 ⟨yW s _ _ _ rfl rfl rfl jD jD h.fu h.c h.ok (by have:=h.len;omega) e hw hk (aF2 hs) _ _ rfl rfl _ _ _ _ _ rfl rfl rfl rfl,bX4 s _ _ _ rfl rfl rfl jD jD h.fu h.c h.ok (by have:=h.len;omega) e hw hk hs _ _ rfl rfl _ _ _ _ _ rfl rfl rfl rfl⟩
theorem pyO {s:Lg} (h:PyI s):PyC 23 32 [dkV s.d.sy.length s.d.pe.length s.d] (opO s.d).1 (opO s.d).2 :=
 ⟨aP8 s.d _ _ rfl rfl jD jD _ _ _ _ _ rfl rfl rfl rfl,aY7 s.d _ _ rfl rfl jD jD _ _ _ _ _ rfl rfl rfl rfl⟩
theorem eS6 {s:Lg} (h:PyI s) {n:Int} (hn:aT n):PyC 37 38 [.agg (gC s),iv n] (opCr s n).1 (opCr s n).2 :=
 ⟨aA7 s _ _ _ rfl rfl jD jD h.c n hn _ _ _ _ _ rfl rfl rfl rfl,aY4 s _ _ _ rfl rfl jD jD h.c n hn _ _ _ _ _ rfl rfl rfl rfl⟩
theorem pyF {s:Lg} (h:PyI s) {n:Int} (hn:aT n):∃c1 c2 c3 c4:CV,lay (gC s) (0+0) [c1,c2,c3,c4]=gC ⟨(opF s.d n).1,s.l,s.c⟩/\qC' 35 [dkV s.d.sy.length s.d.pe.length s.d,iv n] (.tup [.c (.agg [c1,c2,c3,c4]),.c (iv (opF s.d n).2)]) [] 0/\qC' 36 [dkV s.d.sy.length s.d.pe.length s.d,iv n] (.tup [.c (.agg [c1,c2,c3,c4]),.c (iv (opF s.d n).2)]) [] 0 :=
 ⟨_,_,_,_,rfl,dB1 s.d.sy s.d.pe s.d.fu s.d.dn _ _ n rfl rfl jD jD hn.1 hn.2 _ _ _ _ rfl rfl rfl,cQ8 s.d.sy s.d.pe s.d.fu s.d.dn _ _ n rfl rfl jD jD hn.1 hn.2 _ _ _ _ rfl rfl rfl⟩
attribute [local irreducible] Still Adds AWL AW Drw bX bY AC AWR cU Frz Go.Av.Src cQ Out InK ItK AsK RdK eP eI ACT ACA eW ACG fL lec
theorem eL3 (l:List Pa) (n:Nat) (hn:l.length=n) (h16:16<n):qC' 7 [.sl 67 n (pas l)] (.c (bv true)) [] 0:=by
 generalize pas l=L at *
 refine aD aB (sz:=145) Tryz.func7 rfl aN7 ?_
 repeat' (first|(refine aC ?_;intro K hK hX)|refine dO3 ?_|(refine aG hK hX ?_;clear hK hX K)|fail)
 exact aY
set_option maxHeartbeats 16000000 in
theorem eL4 (l:List Pa) (n:Nat) (hn:l.length=n) (h16:n<=16) (hw:∀a∈l,(a.e.wf/\aT a.e.k)/\aT a.k/\aT a.n):qC' 7 [.sl 67 n (pas l)] (.c (bv true)) [] 0:=by
 have hww:∀a∈l,a.e.wf:=fun a ha=>(hw a ha).1.1
 have hll:(pas l).length=n*67:=by rw [dG8 hww,hn]
 have hA:PyC 23 32 [dkC 0 0 [] [] (-1) false] lgN 0:=by
  have:=pyO PyI.lgN
  rw [show opO lgN.d=(lgN,0) from dT3] at this
  exact this
 obtain ⟨a1,a2⟩:=hA
 have a3:=bP6 PyI.lgN
 have gl:=bF5 PyI.lgN
 have hr:=dH6
 obtain ⟨g0,hg0⟩:∃g,gC lgN=g:=⟨_,rfl⟩
 rw [hg0] at a1 a2 a3 gl
 refine aD aB (sz:=145) Tryz.func7 rfl aN7 ?_
 repeat' (first|(refine aC ?_;intro K hK hX)|refine bE [0,2,3,4,5,7,8,9,10,11,12,54] ?_|((with_reducible refine aW ?_);refine yA ?_;refine bC (aR (T:=61) aB rfl rfl rfl) rfl ?_)|(refine bZ ?_;first|refine c0 sX ?_|refine c0 cN3 ?_|refine c0 hr ?_|refine c0 a1 ?_|refine c0 a2 ?_|refine c0 a3 ?_)|refine stA ?_|refine stD ?_|(refine aG hK hX ?_;clear hK hX K)|fail)
 refine cL 2 (fun t:Nat × Lg=>lpE n (pas l) t.1) (fun t=>lpH (gC t.2)) [] (fun t=>t.1<=n/\PyI t.2) (fun t=>n-t.1) (0,lgN) ⟨Am _,PyI.lgN⟩ (by refine dW rfl ?_ ?_ rfl<;>(repeat' (first|exact cO|exact cP|refine cG rfl dP5 rfl ?_|refine bD rfl dP5 rfl ?_|refine bD rfl (by first|rfl|(first|rfl|exact congrArg (AObj.row _) hg0.symm|exact congrArg (AObj.row _) hg0)) dO ?_))) ?_
 rintro ⟨i,s⟩ ⟨hi,hP⟩ K hK hX
 dsimp only at hi hP hK ⊢
 clear a1 a2 a3 gl hr
 have gsl:=bF5 hP
 by_cases hlt:i<n
 rotate_left
 ·generalize gC s=gs at *
  repeat' (first|(refine aC ?_;intro K hK hX)|refine dO3 ?_|(refine aG hK hX ?_;clear hK hX K)|fail)
  exact aY
 obtain ⟨a,hat⟩:∃a,l[i]? = some a:=⟨_,Ab aA⟩
 have hx:=eB0 hww hat
 obtain ⟨⟨ow,ok⟩,okk,okn⟩:=hw a (Af hat)
 have hel:=aQ3 ow
 have hee:=lQ ow
 have y0:(paC a)[0+0]? = some (iv a.k):=rfl
 have y1:(paC a)[0+1]? = some (iv a.n):=rfl
 have y2:List.take 65 (List.drop (0+2) (paC a))=ecR a.e:=by
  show List.take 65 (ecR a.e)=ecR a.e
  rw [Ad (Cd hee)]
 by_cases hsm:smE a.e
 rotate_left
 ·have h1:=bB4 a.e ow.root _ _ rfl rfl false ⟨fun h=>eS,fun h=>absurd h hsm⟩
  change AC _ _ [.agg (ecR a.e)] _ _ _ at h1
  generalize paC a=ac at *
  generalize ecR a.e=ec at *
  generalize gC s=gs at *
  repeat' (first|(refine aC ?_;intro K hK hX)|refine bE [0,2,3,4,5,7,8,9,10,11,12,54] ?_|((with_reducible refine aW ?_);refine yA ?_;refine bC (aR (T:=79) aB rfl rfl rfl) rfl ?_)|(refine bZ ?_;first|refine c0 sX ?_|refine c0 h1 ?_)|refine eE ?_|refine stA ?_|refine stD ?_|(refine aG hK hX ?_;clear hK hX K)|fail)
  exact aY
 have h1:=bB4 a.e ow.root _ _ rfl rfl true ⟨fun _=>hsm,fun _=>rfl⟩
 change AC _ _ [.agg (ecR a.e)] _ _ _ at h1
 have hc:∀x j,PyI x->(BitVec.ofInt 64 a.k &&& BitVec.ofNat 64 3).toNat=j->LpC n (pas l) (gC s) (gC x) (paC a) (ecR a.e) i a.k a.n j:=fun x j hX hj=>⟨h16,hlt,hll,gsl,bF5 hX,hel,hee,hx,y0,y1,y2,hj,h1,bP6 hX⟩
 have fin:∀x,PyI x->LpK n (pas l) (i+1) (gC x) K:=fun x hX n' e' h' d' hw=>hK n' e' h' d' ⟨(i+1,x),⟨by simp only;omega,hX⟩,by simp only;omega,hw⟩
 obtain ⟨j,hj⟩:∃j,(BitVec.ofInt 64 a.k &&& BitVec.ofNat 64 3).toNat=j:=⟨_,rfl⟩
 have hj4:=cX5 a.k
 rw [hj] at hj4
 rcases (show j=0\/j=1\/j=2\/j=3 by omega) with h|h|h|h<;>rw [h] at hj
 ·have hX:=eB1 hP ow ok hsm
  obtain ⟨b1,b2⟩:=pyA hP ow ok hsm
  have hC:=hc _ 0 hX hj
  have hF:=fin _ hX
  have hS:=fin _ hP
  generalize (opAd s a.e).1=x at *
  generalize (opAd s a.e).2=f at *
  by_cases f0:f=0
  ·exact eK1 _ _ _ _ _ _ _ _ _ hC f f0 b1 b2 K hF
  by_cases f4:f=104
  ·exact eK2 _ _ _ _ _ _ _ _ _ hC f f0 f4 b1 b2 K hF
  exact eK3 _ _ _ _ _ _ _ _ _ hC f f0 f4 b1 b2 K hS
 ·have hX:=dG9 hP okn
  obtain ⟨c1',c2',c3',c4',hlay,b1,b2⟩:=pyF hP okn
  have hC:=hc _ 1 hX hj
  have hF:=fin _ hX
  have hS:=fin _ hP
  generalize gC ⟨(opF s.d a.n).1,s.l,s.c⟩=gx at *
  generalize (opF s.d a.n).2=f at *
  by_cases f0:f=0
  ·exact eK4 _ _ _ _ _ _ _ _ _ _ _ _ _ _ _ _ _ hC f f0 rfl hlay b1 b2 K hF
  by_cases f4:f=104
  ·exact eK5 _ _ _ _ _ _ _ _ _ _ _ _ _ _ _ _ _ hC f f0 f4 rfl hlay b1 b2 K hS
  exact eK6 _ _ _ _ _ _ _ _ _ _ _ _ _ _ _ _ _ hC f f0 f4 rfl hlay b1 b2 K hS
 ·have hX:=cP4 (s:=s) a.n
  obtain ⟨b1,b2⟩:=eS6 hP okn
  have hC:=hc _ 2 hX hj
  have hF:=fin _ hX
  have hS:=fin _ hP
  generalize (opCr s a.n).1=x at *
  generalize (opCr s a.n).2=f at *
  by_cases f0:f=0
  ·exact eK7 _ _ _ _ _ _ _ _ _ hC f f0 b1 b2 K hF
  by_cases f4:f=104
  ·exact eK8 _ _ _ _ _ _ _ _ _ hC f f0 f4 b1 b2 K hS
  exact eK9 _ _ _ _ _ _ _ _ _ hC f f0 f4 b1 b2 K hS
 ·have hX:=bP5 (s:=s.d) hP.fu
  obtain ⟨b1,b2⟩:=pyO hP
  have hC:=hc _ 3 hX hj
  have hF:=fin _ hX
  have hS:=fin _ hP
  generalize (opO s.d).1=x at *
  generalize (opO s.d).2=f at *
  by_cases f0:f=0
  ·exact eL0 _ _ _ _ _ _ _ _ _ _ _ _ _ hC f f0 rfl b1 b2 K hF
  by_cases f4:f=104
  ·exact eL1 _ _ _ _ _ _ _ _ _ _ _ _ _ hC f f0 f4 rfl b1 b2 K hS
  exact eL2 _ _ _ _ _ _ _ _ _ _ _ _ _ hC f f0 f4 rfl b1 b2 K hS
theorem law_lplays (l:List Pa) (n:Nat) (hn:l.length=n) (hw:∀a∈l,(a.e.wf/\aT a.e.k)/\aT a.k/\aT a.n):qC' 7 [.sl 67 n (pas l)] (.c (bv true)) [] 0:=by
 by_cases h:n<=16
 ·exact eL4 l n hn h hw
 ·exact eL3 l n hn aA
end Go.Proofs.YtbgehdndimlgkaaGreat
namespace Go.Proofs.YtbgehdndimlgkaaGreat
open Go Go.RowKit Go.Av
def qAc:=qC qI (qC qI (qC qEn qN))
theorem eM1 {l:D1} (h:qAc l):∃a:Pa,l=paC a/\(a.e.wf/\aT a.e.k)/\aT a.k/\aT a.n:=by
 obtain ⟨a,b,rfl,h1,a,b,rfl,h2,a,b,rfl,h3,rfl⟩:=h
 obtain ⟨k,rfl,k1⟩:=mT h1
 obtain ⟨n,rfl,k2⟩:=mT h2
 obtain ⟨e,rfl,k3,k4⟩:=eM2 h3
 exact ⟨⟨k,n,e⟩,by rw [A4];rfl,⟨k3,k4⟩,k1,k2⟩
theorem aY0:∀(ls:List (D1)),(∀l∈ls,qAc l/\l.length=67)->∃p:List Pa,ls.flatten=pas p/\p.length=ls.length/\∀a∈p,(a.e.wf/\aT a.e.k)/\aT a.k/\aT a.n
 | [],_=>⟨[],rfl,rfl,fun x hx=>(by cases hx)⟩
 | c::ls,h=>by
  obtain ⟨v,rfl,hv⟩:=eM1 (h c aU).1
  obtain ⟨r,h1,h2,h3⟩:=aY0 ls fun d hd=>h d (by simp [hd])
  exact ⟨v::r,by rw [Bo,h1];rfl,by simp [h2],fun x hx=>(A6.1 hx).elim (fun e=>e▸hv) (h3 x)⟩
theorem qd_acts {x:CV} (h:qL 67 qAc [x]):∃p:List Pa,x = .sl 67 p.length (pas p)/\p.length<=maxLen/\∀a∈p,(a.e.wf/\aT a.e.k)/\aT a.k/\aT a.n:=by
 obtain ⟨ls,h1,h2,h3⟩:=h
 obtain ⟨p,h4,h5,h6⟩:=aY0 ls h3
 exact ⟨p,by injection h1 with h1;rw [h1,h4,h5],by omega,h6⟩
end Go.Proofs.YtbgehdndimlgkaaGreat
