/- Lemmas for laws of the ledger. -/
import Derived.Test.YtbgehdndimlgkaaGreatP10
import Derived.Test.YtbgehdndimlgkaaGreatP11
set_option linter.all false
set_option maxHeartbeats 16000000
namespace Go.Proofs.YtbgehdndimlgkaaGreat
open Go Go.RowKit Go.Av
set_option maxRecDepth 100000
theorem fA {n:Int} (h:aS n):(Lit.int .i64 n).wf=true:=by
 have e1:IntKind.i64.min = -9223372036854775808:=by decide
 have e2:IntKind.i64.max=9223372036854775807:=by decide
 unfold aS at h
 simp only [Lit.wf,e1,e2,Bv,Au]
 omega
def oL (v:Ver):Prop:=aS v.t/\aS v.c/\aS v.s
def qK (v:Src):Prop:=aS v.t/\aS v.s
def Ver.vl (v:Ver):Dt:=[.int .i64 v.t,.int .i64 v.c,.int .i64 v.s]
def Src.vl (v:Src):Dt:=[.int .i64 v.t,.int .i64 v.s]
theorem bD3 {v:Ver} (h:oL v):LfL [.i .i64,.i .i64,.i .i64] v.vl:=⟨⟨rfl,fA h.1⟩,⟨rfl,fA h.2.1⟩,⟨rfl,fA h.2.2⟩,trivial⟩
theorem bD2 {v:Src} (h:qK v):LfL [.i .i64,.i .i64] v.vl:=⟨⟨rfl,fA h.1⟩,⟨rfl,fA h.2⟩,trivial⟩
theorem dD2 {a b:Ver} {r:Bool} (h:r=true↔a=b):r=true↔a.vl=b.vl:=by
 obtain ⟨a1,a2,a3⟩:=a
 obtain ⟨b1,b2,b3⟩:=b
 rw [h]
 simp [Ver.vl]
theorem dD1 {a b:Src} {r:Bool} (h:r=true↔a=b):r=true↔a.vl=b.vl:=by
 obtain ⟨a1,a2⟩:=a
 obtain ⟨b1,b2⟩:=b
 rw [h]
 simp [Src.vl]
theorem aW1 {α:Type} {lt:α->α->Prop} (h:SLO lt):∀{l:List α} {v:α},l.Pairwise lt->v∉l->∃m:Nat,m<=l.length/\(∀(j:Nat) (x:α),j<m->l[j]? = some x->lt x v)/\∀(j:Nat) (x:α),m<=j->l[j]? = some x->lt v x
 | [],v,_,_=>⟨0,Ah _,fun j x hj=>by omega,fun j x _ hx=>by simp at hx⟩
 | y::l,v,hl,hv=>by
  obtain ⟨l1,l2⟩:=Bu.1 hl
  rcases h.tri y v with e|e|e
  ·obtain ⟨m,m1,m2,m3⟩:=aW1 h l2 (v:=v) (fun hm=>hv (CS _ hm))
   refine ⟨m+1,by simp;omega,fun j x hj hx=>?_,fun j x hj hx=>?_⟩
   ·cases j with
    | zero=>simp at hx;rw [<- hx];exact e
    | succ j=>exact m2 j x aA uB
   ·cases j with
    | zero=>omega
    | succ j=>exact m3 j x aA uB
  ·exact absurd e (fun e=>hv (by simp [e]))
  ·refine ⟨0,Al _,fun j x hj=>by omega,fun j x _ hx=>?_⟩
   cases j with
   | zero=>simp at hx;rw [<- hx];exact e
   | succ j=>exact h.tr _ _ _ e (l1 x (Ad uB))
theorem aW2 {α:Type} {lt:α->α->Prop} (h:SLO lt) {l:List α} {v:α} {m:Nat} (hl:l.Pairwise lt) (h2:∀(j:Nat) (x:α),j<m->l[j]? = some x->lt x v) (h3:∀(j:Nat) (x:α),m<=j->l[j]? = some x->lt v x):insA lt v l=l.take m++v::l.drop m :=
 dM2 h hl (fun x hx=>by
  obtain ⟨j,hj⟩:=C3 hx
  have hjm:j<m:=by
   by_cases hc:j<m
   ·exact hc
   ·rw [AU,Ai hc] at hj;cases hj
  rw [AU,Ak hjm] at hj
  exact h2 j x hjm hj) (fun x hx=>by
  obtain ⟨j,hj⟩:=C3 hx
  rw [AT] at hj
  exact h3 _ x (CO _ _) hj)
theorem vE {α:Type} [DecidableEq α] {l:List α} {v:α} (h:v∈l):∃j:Nat,l[j]? = some v/\∀(q:Nat) (x:α),q<j->l[q]? = some x->x≠v:=by
 induction l with
 | nil=>simp at h
 | cons y l ih =>
  by_cases e:y=v
  ·exact ⟨0,by simp [e],fun q x hq=>by omega⟩
  ·obtain ⟨j,h1,h2⟩:=ih (by rcases A6.1 h with h|h;exact absurd h.symm e;exact h)
   refine ⟨j+1,by simpa using h1,fun q x hq hx=>?_⟩
   cases q with
   | zero=>simp at hx;rw [<- hx];exact e
   | succ q=>exact h2 q x aA uB
theorem nL {α:Type} {f:α->D8} {k:Nat} (h:∀a,(f a).length=k):∀{l:List α} {i:Nat} (a:α),i<l.length->lay (l.flatMap f) (i*k) (f a)=(l.set i a).flatMap f
 | [],i,a,hi=>by simp at hi
 | b::l,0,a,_=>by
  unfold lay
  rw [BA,Cb,Aw,Ap,h,A4,Cc,A4,Ca,h,AG (by rw [h];exact Ah _),BX,AN,Aw]
 | b::l,i+1,a,hi=>by
  have ih:=nL h (l:=l) (i:=i) a xB
  unfold lay at ih ⊢
  have e1:(i+1)*k=k+i*k:=by rw [AL];omega
  have e2:(i+1)*k+(f a).length=k+(i*k+(f a).length):=by rw [e1];omega
  rw [e2,e1,A4,List.set_cons_succ,A4,<- ih,Cn,Ca,h,Ae (by rw [h];omega),AG (by rw [h];omega),show k+i*k-k=i*k by omega,show k+(i*k+(f a).length)-k=i*k+(f a).length by omega]
  simp only [Aw,Ao]
theorem aK2 {α:Type} {l:List α} {v u:α} {k:Nat} (hk:0<k) (hkl:k<=l.length) (hu:l[k-1]? = some u):((l.take k++v::l.drop k).set (k-1) v).set k u=l.take (k-1)++v::l.drop (k-1):=by
 obtain ⟨j,rfl⟩:∃j,k=j+1:=⟨k-1,by omega⟩
 rw [Nat.add_sub_cancel] at hu ⊢
 have h1:l.take (j+1)=l.take j++[u]:=by rw [BD,hu];rfl
 have h2:l.drop j=u::l.drop (j+1):=by
  obtain ⟨h3,h4⟩:=Ag.1 hu
  rw [BB h3,h4]
 have hl:(l.take j).length=j:=by rw [Ar];omega
 rw [h1,h2,Ao]
 rw [BM _ _ aA,hl,BX,CL,Cc,BM _ _ aA,hl,show j+1-j=1 by omega,List.set_cons_succ,Cc]
attribute [local irreducible] Still Adds AWL AW Drw bY bW AC AWR cR Frz Go.Av.Src cQ Out InK ItK AsK RdK eL eF ACT ACA eT
theorem lK (a b:Ver) (r:Bool) (hr:r=true↔ltV a b):qC' 84 [.agg [iv a.t,iv a.c,iv a.s],.agg [iv b.t,iv b.c,iv b.s]] (.c (bv r)) [] 0:=by
 have no:¬ltV a b->r=false:=fun h=>by cases r;rfl;exact absurd (hr.1 rfl) h
 unfold ltV at hr no
 obtain ⟨a1,a2,a3⟩:=a
 obtain ⟨b1,b2,b3⟩:=b
 simp only at *
 by_cases h1:a1<b1
 ·skip
  obtain rfl:r=true:=hr.2 aA
  refine aD aB (sz:=30) Tryz.func84 rfl wT ?_
  repeat' (first|(refine aC ?_;intro K hK hX)|refine tR ?_|(refine aE hK hX ?_;clear hK hX K)|fail)
  exact aV
 by_cases h2:b1<a1
 ·skip
  obtain rfl:r=false:=no aA
  refine aD aB (sz:=30) Tryz.func84 rfl wT ?_
  repeat' (first|(refine aC ?_;intro K hK hX)|refine tR ?_|(refine aE hK hX ?_;clear hK hX K)|fail)
  exact aV
 by_cases h3:a3<b3
 ·skip
  obtain rfl:r=true:=hr.2 aA
  refine aD aB (sz:=30) Tryz.func84 rfl wT ?_
  repeat' (first|(refine aC ?_;intro K hK hX)|refine tR ?_|(refine aE hK hX ?_;clear hK hX K)|fail)
  exact aV
 by_cases h4:b3<a3
 ·skip
  obtain rfl:r=false:=no aA
  refine aD aB (sz:=30) Tryz.func84 rfl wT ?_
  repeat' (first|(refine aC ?_;intro K hK hX)|refine tR ?_|(refine aE hK hX ?_;clear hK hX K)|fail)
  exact aV
 by_cases h5:a2<b2
 ·skip
  obtain rfl:r=true:=hr.2 aA
  refine aD aB (sz:=30) Tryz.func84 rfl wT ?_
  repeat' (first|(refine aC ?_;intro K hK hX)|refine tR ?_|(refine aE hK hX ?_;clear hK hX K)|fail)
  exact aV
 ·skip
  obtain rfl:r=false:=no aA
  refine aD aB (sz:=30) Tryz.func84 rfl wT ?_
  repeat' (first|(refine aC ?_;intro K hK hX)|refine tR ?_|(refine aE hK hX ?_;clear hK hX K)|fail)
  exact aV
theorem aH6 (l:List Ver) (n:Nat) (hn:l.length=n) (hb:n<=1000000) (hw:∀x∈l,oL x) (v:Ver) (hv:oL v) (r:Bool) (hr:r=true↔v∈l):qC' 94 [.sl 3 n (vrc l),.agg [iv v.t,iv v.c,iv v.s]] (.c (bv r)) [] 0:=by
 have hvl:(vrc l).length=n*3:=by rw [dE,hn]
 have hcx:∀x:Ver,[iv x.t,iv x.c,iv x.s]=x.vl.map CV.v:=fun _=>rfl
 have lv:=bD3 hv
 by_cases hm:v∈l
 ·obtain rfl:r=true:=hr.2 hm
  obtain ⟨j0,hj,hne⟩:=vE hm
  have hjn:j0<n:=by rw [<- hn];exact (Ag.1 hj).1
  refine aD aB (sz:=18) Tryz.func94 rfl (by rw [Tryz.ntmps94];rfl) ?_
  repeat' (first|(refine aC ?_;intro K hK hX)|refine bQ9 ?_|(refine aE hK hX ?_;clear hK hX K)|fail)
  refine bF [5] [] rfl rfl (fun i:Nat=>[(5,.c (iv i))]) (fun i=>[]) (fun i=>i<=j0) (fun i=>j0-i) 0 (Al _) cS ?_
  intro i hi K hK hX
  by_cases hlt:i<j0
  ·obtain ⟨x,hat⟩:∃x,l[i]? = some x:=⟨_,Ab aA⟩
   have hx:=eN hat
   have lx:=bD3 (hw x (Ad hat))
   have heq:(false:Bool)=true↔x=v:=⟨fun h=>dS,fun h=>absurd h (hne i x hlt hat)⟩
   repeat' (first|(refine aC ?_;intro K hK hX)|refine dT2 ?_|(refine aE hK hX ?_;clear hK hX K)|fail)
   exact dN
  ·have hij:i=j0:=by omega
   rw [hij]
   have hx:=eN hj
   have heq:(true:Bool)=true↔v=v:=⟨fun h=>rfl,fun h=>rfl⟩
   repeat' (first|(refine aC ?_;intro K hK hX)|refine aY [0,1,3,4,5] ?_|((first|((with_reducible refine bL ?_);refine xA ?_)|((with_reducible refine cO ?_);refine xD ?_));(first|((with_reducible refine bQ ?_);(first|refine aJ (oN aO (m:=3) rfl aO aO aO aO aO rfl rfl (hcx v) (hcx v) lv lv (dD2 heq)) ?_))))|refine dY ?_|refine stA ?_|refine stD ?_|(refine aE hK hX ?_;clear hK hX K)|fail)
   exact aV
 ·obtain rfl:r=false:=by cases r;rfl;exact absurd (hr.1 rfl) hm
  refine aD aB (sz:=18) Tryz.func94 rfl (by rw [Tryz.ntmps94];rfl) ?_
  repeat' (first|(refine aC ?_;intro K hK hX)|refine bQ9 ?_|(refine aE hK hX ?_;clear hK hX K)|fail)
  refine bF [5] [] rfl rfl (fun i:Nat=>[(5,.c (iv i))]) (fun i=>[]) (fun i=>i<=n) (fun i=>n-i) 0 (Al _) cS ?_
  intro i hi K hK hX
  by_cases hlt:i<n
  ·obtain ⟨x,hat⟩:∃x,l[i]? = some x:=⟨_,Ab aA⟩
   have hx:=eN hat
   have lx:=bD3 (hw x (Ad hat))
   have heq:(false:Bool)=true↔x=v:=⟨fun h=>dS,fun h=>absurd (by rw [<- h];exact Ad hat) hm⟩
   repeat' (first|(refine aC ?_;intro K hK hX)|refine dT2 ?_|(refine aE hK hX ?_;clear hK hX K)|fail)
   exact dN
  ·repeat' (first|(refine aC ?_;intro K hK hX)|refine aY [0,1,3,4,5] ?_|refine stA ?_|refine stD ?_|(refine aE hK hX ?_;clear hK hX K)|fail)
   exact aV
theorem cY5 (l:List Ver) (n:Nat) (hn:l.length=n) (hb:n<=1000000) (hw:∀x∈l,oL x) (hs:l.Pairwise ltV) (v:Ver) (hv:oL v) (q:Nat) (hq:(insA ltV v l).length=q):qC' 114 [.sl 3 n (vrc l),.agg [iv v.t,iv v.c,iv v.s]] (.c (.sl 3 q (vrc (insA ltV v l)))) [] 0:=by
 have hvl:(vrc l).length=n*3:=by rw [dE,hn]
 by_cases hm:v∈l
 ·have hh:=aH6 l n hn hb hw v hv true ⟨fun _=>hm,fun _=>rfl⟩
  rw [aG0 slo_V hs hm] at hq ⊢
  obtain rfl:n=q:=by omega
  refine aD aB (sz:=53) Tryz.func114 rfl (by rw [Tryz.ntmps114];rfl) ?_
  repeat' (first|(refine aC ?_;intro K hK hX)|refine dV1 ?_|(refine aE hK hX ?_;clear hK hX K)|fail)
  exact aV
 ·have hh:=aH6 l n hn hb hw v hv false ⟨fun h=>dS,fun h=>absurd h hm⟩
  obtain ⟨m,m1,m2,m3⟩:=aW1 slo_V hs hm
  rw [hn] at m1
  rw [aW2 slo_V hs m2 m3] at hq ⊢
  obtain rfl:n+1=q:=by rw [<- hq,Aa,As,Ar,A0];omega
  have hL:vrc l++[iv v.t,iv v.c,iv v.s]=vrc (l.take n++v::l.drop n):=by
   rw [Ae aA,AG aA]
   simp [vrc]
  refine aD aB (sz:=53) Tryz.func114 rfl (by rw [Tryz.ntmps114];rfl) ?_
  repeat' (first|(refine aC ?_;intro K hK hX)|refine dT1 ?_|(refine aE hK hX ?_;clear hK hX K)|fail)
  refine bF [6,18,19,17] [4] rfl rfl (fun k:Nat=>[(6,.c (iv k))]) (fun k=>[(4,.row 76 (vrc (l.take k++v::l.drop k)))]) (fun k=>m<=k/\k<=n) (fun k=>k) n ⟨m1,Ah _⟩ eF3 ?_
  rintro k ⟨hk1,hk2⟩ K hK hX
  have hlen:(l.take k++v::l.drop k).length=n+1:=by rw [Aa,As,Ar,A0];omega
  have hrl:(vrc (l.take k++v::l.drop k)).length=(0+n+1)*3:=by rw [dE,hlen,Ap]
  have hk:(l.take k++v::l.drop k)[k]? = some v:=by rw [AY jE,Ar,Bp aA,BX];rfl
  have hx:=eN hk
  rw [<- Ap (k*3)] at hx
  by_cases h0:k=0
  ·have hRm:vrc (l.take k++v::l.drop k)=vrc (l.take m++v::l.drop m):=by rw [show k=m by omega]
   generalize hR:vrc (l.take k++v::l.drop k)=R at *
   rw [h0]
   repeat' (first|(refine aC ?_;intro K hK hX)|refine aY [0,1,3,4,5,6] ?_|refine stA ?_|refine stD ?_|(refine aE hK hX ?_;clear hK hX K)|fail)
   exact aM7
  ·obtain ⟨u,hat⟩:∃u,l[k-1]? = some u:=⟨_,Ab aA⟩
   have hk':(l.take k++v::l.drop k)[k-1]? = some u:=by rw [AO jE,AU,Ak aA];exact hat
   have hxu:=eN hk'
   rw [show k-1=((k:Int)-1).toNat from by omega,<- Ap (((k:Int)-1).toNat*3)] at hxu
   by_cases hlt:m<k
   ·have hle:=lK v u true ⟨fun _=>m3 (k-1) u aA hat,fun _=>rfl⟩
    have hs1:lay (vrc (l.take k++v::l.drop k)) (0+((k:Int)-1).toNat*3) [iv v.t,iv v.c,iv v.s]=vrc ((l.take k++v::l.drop k).set (k-1) v):=by
     rw [Ap,show ((k:Int)-1).toNat=k-1 from by omega]
     exact nL (f:=fun v:Ver=>[iv v.t,iv v.c,iv v.s]) (k:=3) (fun _=>rfl) v aA
    have hs2:lay (vrc ((l.take k++v::l.drop k).set (k-1) v)) (0+k*3) [iv u.t,iv u.c,iv u.s]=vrc (l.take (k-1)++v::l.drop (k-1)):=by
     rw [Ap,<- aK2 aA aA hat]
     exact nL (f:=fun v:Ver=>[iv v.t,iv v.c,iv v.s]) (k:=3) (fun _=>rfl) u (by rw [BV];omega)
    have hl1:(vrc ((l.take k++v::l.drop k).set (k-1) v)).length=(n+1)*3:=by rw [dE,BV,hlen]
    rw [<- hs1] at hs2 hl1
    clear hs1
    generalize hR:vrc (l.take k++v::l.drop k)=R at *
    repeat' (first|(refine aC ?_;intro K hK hX)|refine aL [0,1,3,4,5,6] ?_|((with_reducible refine lT ?_);refine fH aG (nT rfl) ?_)|((with_reducible refine aR (i:=7) ?_);refine aP [0,1,3,4,5,6] rfl rfl ?_;refine bZ [] ?_)|((with_reducible refine aR ?_);refine aP [0,1,3,4,5,6] rfl rfl ?_;refine cM [] ?_)|((with_reducible refine tE ?_);refine xF aB aG rfl rfl rfl rfl rfl fF rfl (by show 0+k*3+3<=_;rw [hl1];omega) fF rfl ?_)|(refine dP ?_;refine c0 hle ?_)|refine fX ?_|(refine xI aO aO aO aO rfl ?_)|refine stA ?_|refine stD ?_|refine stE ?_|(refine aE hK hX ?_;clear hK hX K)|fail)
    exact ⟨k-1,by omega,by omega,eF2⟩
   ·have hkm:k=m:=by omega
    have hle:=lK v u false ⟨fun h=>dS,fun h=>by
     have h2:=m2 (k-1) u aA hat
     exact absurd (slo_V.tr _ _ _ h h2) (slo_V.irr v)⟩
    have hRm:vrc (l.take k++v::l.drop k)=vrc (l.take m++v::l.drop m):=by rw [hkm]
    generalize hR:vrc (l.take k++v::l.drop k)=R at *
    repeat' (first|(refine aC ?_;intro K hK hX)|refine cK1 ?_|(refine aE hK hX ?_;clear hK hX K)|fail)
    exact aM7
theorem pK (a b:Src) (r:Bool) (hr:r=true↔ltS a b):qC' 85 [.agg [iv a.t,iv a.s],.agg [iv b.t,iv b.s]] (.c (bv r)) [] 0:=by
 have no:¬ltS a b->r=false:=fun h=>by cases r;rfl;exact absurd (hr.1 rfl) h
 unfold ltS at hr no
 obtain ⟨a1,a3⟩:=a
 obtain ⟨b1,b3⟩:=b
 simp only at *
 by_cases h1:a1<b1
 ·skip
  obtain rfl:r=true:=hr.2 aA
  refine aD aB (sz:=24) Tryz.func85 rfl aS4 ?_
  repeat' (first|(refine aC ?_;intro K hK hX)|refine tR ?_|(refine aE hK hX ?_;clear hK hX K)|fail)
  exact aV
 by_cases h2:b1<a1
 ·skip
  obtain rfl:r=false:=no aA
  refine aD aB (sz:=24) Tryz.func85 rfl aS4 ?_
  repeat' (first|(refine aC ?_;intro K hK hX)|refine tR ?_|(refine aE hK hX ?_;clear hK hX K)|fail)
  exact aV
 by_cases h3:a3<b3
 ·skip
  obtain rfl:r=true:=hr.2 aA
  refine aD aB (sz:=24) Tryz.func85 rfl aS4 ?_
  repeat' (first|(refine aC ?_;intro K hK hX)|refine tR ?_|(refine aE hK hX ?_;clear hK hX K)|fail)
  exact aV
 ·skip
  obtain rfl:r=false:=no aA
  refine aD aB (sz:=24) Tryz.func85 rfl aS4 ?_
  repeat' (first|(refine aC ?_;intro K hK hX)|refine tR ?_|(refine aE hK hX ?_;clear hK hX K)|fail)
  exact aV
theorem xV (l:List Src) (n:Nat) (hn:l.length=n) (hb:n<=1000000) (hw:∀x∈l,qK x) (v:Src) (hv:qK v) (r:Bool) (hr:r=true↔v∈l):qC' 90 [.sl 2 n (src l),.agg [iv v.t,iv v.s]] (.c (bv r)) [] 0:=by
 have hvl:(src l).length=n*2:=by rw [dI,hn]
 have hcx:∀x:Src,[iv x.t,iv x.s]=x.vl.map CV.v:=fun _=>rfl
 have lv:=bD2 hv
 by_cases hm:v∈l
 ·obtain rfl:r=true:=hr.2 hm
  obtain ⟨j0,hj,hne⟩:=vE hm
  have hjn:j0<n:=by rw [<- hn];exact (Ag.1 hj).1
  refine aD aB (sz:=18) Tryz.func90 rfl (by rw [Tryz.ntmps90];rfl) ?_
  repeat' (first|(refine aC ?_;intro K hK hX)|refine bQ9 ?_|(refine aE hK hX ?_;clear hK hX K)|fail)
  refine bF [5] [] rfl rfl (fun i:Nat=>[(5,.c (iv i))]) (fun i=>[]) (fun i=>i<=j0) (fun i=>j0-i) 0 (Al _) cS ?_
  intro i hi K hK hX
  by_cases hlt:i<j0
  ·obtain ⟨x,hat⟩:∃x,l[i]? = some x:=⟨_,Ab aA⟩
   have hx:=eB hat
   have lx:=bD2 (hw x (Ad hat))
   have heq:(false:Bool)=true↔x=v:=⟨fun h=>dS,fun h=>absurd h (hne i x hlt hat)⟩
   repeat' (first|(refine aC ?_;intro K hK hX)|refine dT3 ?_|(refine aE hK hX ?_;clear hK hX K)|fail)
   exact dN
  ·have hij:i=j0:=by omega
   rw [hij]
   have hx:=eB hj
   have heq:(true:Bool)=true↔v=v:=⟨fun h=>rfl,fun h=>rfl⟩
   repeat' (first|(refine aC ?_;intro K hK hX)|refine aY [0,1,3,4,5] ?_|((first|((with_reducible refine bL ?_);refine xA ?_)|((with_reducible refine cO ?_);refine xD ?_));(first|((with_reducible refine bQ ?_);(first|refine aJ (oN aO (m:=3) rfl aO aO aO aO aO rfl rfl (hcx v) (hcx v) lv lv (dD1 heq)) ?_))))|refine dY ?_|refine stA ?_|refine stD ?_|(refine aE hK hX ?_;clear hK hX K)|fail)
   exact aV
 ·obtain rfl:r=false:=by cases r;rfl;exact absurd (hr.1 rfl) hm
  refine aD aB (sz:=18) Tryz.func90 rfl (by rw [Tryz.ntmps90];rfl) ?_
  repeat' (first|(refine aC ?_;intro K hK hX)|refine bQ9 ?_|(refine aE hK hX ?_;clear hK hX K)|fail)
  refine bF [5] [] rfl rfl (fun i:Nat=>[(5,.c (iv i))]) (fun i=>[]) (fun i=>i<=n) (fun i=>n-i) 0 (Al _) cS ?_
  intro i hi K hK hX
  by_cases hlt:i<n
  ·obtain ⟨x,hat⟩:∃x,l[i]? = some x:=⟨_,Ab aA⟩
   have hx:=eB hat
   have lx:=bD2 (hw x (Ad hat))
   have heq:(false:Bool)=true↔x=v:=⟨fun h=>dS,fun h=>absurd (by rw [<- h];exact Ad hat) hm⟩
   repeat' (first|(refine aC ?_;intro K hK hX)|refine dT3 ?_|(refine aE hK hX ?_;clear hK hX K)|fail)
   exact dN
  ·repeat' (first|(refine aC ?_;intro K hK hX)|refine aY [0,1,3,4,5] ?_|refine stA ?_|refine stD ?_|(refine aE hK hX ?_;clear hK hX K)|fail)
   exact aV
theorem cY7 (l:List Src) (n:Nat) (hn:l.length=n) (hb:n<=1000000) (hw:∀x∈l,qK x) (hs:l.Pairwise ltS) (v:Src) (hv:qK v) (q:Nat) (hq:(insA ltS v l).length=q):qC' 116 [.sl 2 n (src l),.agg [iv v.t,iv v.s]] (.c (.sl 2 q (src (insA ltS v l)))) [] 0:=by
 have hvl:(src l).length=n*2:=by rw [dI,hn]
 by_cases hm:v∈l
 ·have hh:=xV l n hn hb hw v hv true ⟨fun _=>hm,fun _=>rfl⟩
  rw [aG0 slo_S hs hm] at hq ⊢
  obtain rfl:n=q:=by omega
  refine aD aB (sz:=53) Tryz.func116 rfl (by rw [Tryz.ntmps116];rfl) ?_
  repeat' (first|(refine aC ?_;intro K hK hX)|refine dV1 ?_|(refine aE hK hX ?_;clear hK hX K)|fail)
  exact aV
 ·have hh:=xV l n hn hb hw v hv false ⟨fun h=>dS,fun h=>absurd h hm⟩
  obtain ⟨m,m1,m2,m3⟩:=aW1 slo_S hs hm
  rw [hn] at m1
  rw [aW2 slo_S hs m2 m3] at hq ⊢
  obtain rfl:n+1=q:=by rw [<- hq,Aa,As,Ar,A0];omega
  have hL:src l++[iv v.t,iv v.s]=src (l.take n++v::l.drop n):=by
   rw [Ae aA,AG aA]
   simp [src]
  refine aD aB (sz:=53) Tryz.func116 rfl (by rw [Tryz.ntmps116];rfl) ?_
  repeat' (first|(refine aC ?_;intro K hK hX)|refine dT1 ?_|(refine aE hK hX ?_;clear hK hX K)|fail)
  refine bF [6,18,19,17] [4] rfl rfl (fun k:Nat=>[(6,.c (iv k))]) (fun k=>[(4,.row 72 (src (l.take k++v::l.drop k)))]) (fun k=>m<=k/\k<=n) (fun k=>k) n ⟨m1,Ah _⟩ eF3 ?_
  rintro k ⟨hk1,hk2⟩ K hK hX
  have hlen:(l.take k++v::l.drop k).length=n+1:=by rw [Aa,As,Ar,A0];omega
  have hrl:(src (l.take k++v::l.drop k)).length=(0+n+1)*2:=by rw [dI,hlen,Ap]
  have hk:(l.take k++v::l.drop k)[k]? = some v:=by rw [AY jE,Ar,Bp aA,BX];rfl
  have hx:=eB hk
  rw [<- Ap (k*2)] at hx
  by_cases h0:k=0
  ·have hRm:src (l.take k++v::l.drop k)=src (l.take m++v::l.drop m):=by rw [show k=m by omega]
   generalize hR:src (l.take k++v::l.drop k)=R at *
   rw [h0]
   repeat' (first|(refine aC ?_;intro K hK hX)|refine aY [0,1,3,4,5,6] ?_|refine stA ?_|refine stD ?_|(refine aE hK hX ?_;clear hK hX K)|fail)
   exact aM7
  ·obtain ⟨u,hat⟩:∃u,l[k-1]? = some u:=⟨_,Ab aA⟩
   have hk':(l.take k++v::l.drop k)[k-1]? = some u:=by rw [AO jE,AU,Ak aA];exact hat
   have hxu:=eB hk'
   rw [show k-1=((k:Int)-1).toNat from by omega,<- Ap (((k:Int)-1).toNat*2)] at hxu
   by_cases hlt:m<k
   ·have hle:=pK v u true ⟨fun _=>m3 (k-1) u aA hat,fun _=>rfl⟩
    have hs1:lay (src (l.take k++v::l.drop k)) (0+((k:Int)-1).toNat*2) [iv v.t,iv v.s]=src ((l.take k++v::l.drop k).set (k-1) v):=by
     rw [Ap,show ((k:Int)-1).toNat=k-1 from by omega]
     exact nL (f:=fun v:Src=>[iv v.t,iv v.s]) (k:=2) (fun _=>rfl) v aA
    have hs2:lay (src ((l.take k++v::l.drop k).set (k-1) v)) (0+k*2) [iv u.t,iv u.s]=src (l.take (k-1)++v::l.drop (k-1)):=by
     rw [Ap,<- aK2 aA aA hat]
     exact nL (f:=fun v:Src=>[iv v.t,iv v.s]) (k:=2) (fun _=>rfl) u (by rw [BV];omega)
    have hl1:(src ((l.take k++v::l.drop k).set (k-1) v)).length=(n+1)*2:=by rw [dI,BV,hlen]
    rw [<- hs1] at hs2 hl1
    clear hs1
    generalize hR:src (l.take k++v::l.drop k)=R at *
    repeat' (first|(refine aC ?_;intro K hK hX)|refine aL [0,1,3,4,5,6] ?_|((with_reducible refine lT ?_);refine fH aG (nT rfl) ?_)|((with_reducible refine aR (i:=7) ?_);refine aP [0,1,3,4,5,6] rfl rfl ?_;refine bZ [] ?_)|((with_reducible refine aR ?_);refine aP [0,1,3,4,5,6] rfl rfl ?_;refine cM [] ?_)|((with_reducible refine tE ?_);refine xF aB aG rfl rfl rfl rfl rfl fF rfl (by show 0+k*2+2<=_;rw [hl1];omega) fF rfl ?_)|(refine dP ?_;refine c0 hle ?_)|refine fX ?_|(refine xI aO aO aO aO rfl ?_)|refine stA ?_|refine stD ?_|refine stE ?_|(refine aE hK hX ?_;clear hK hX K)|fail)
    exact ⟨k-1,by omega,by omega,eF2⟩
   ·have hkm:k=m:=by omega
    have hle:=pK v u false ⟨fun h=>dS,fun h=>by
     have h2:=m2 (k-1) u aA hat
     exact absurd (slo_S.tr _ _ _ h h2) (slo_S.irr v)⟩
    have hRm:src (l.take k++v::l.drop k)=src (l.take m++v::l.drop m):=by rw [hkm]
    generalize hR:src (l.take k++v::l.drop k)=R at *
    repeat' (first|(refine aC ?_;intro K hK hX)|refine cK1 ?_|(refine aE hK hX ?_;clear hK hX K)|fail)
    exact aM7
end Go.Proofs.YtbgehdndimlgkaaGreat
