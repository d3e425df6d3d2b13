/- Lemmas for laws of the ledger. -/
import Derived.Test.YtbgehdndimlgkaaGreatS10
import Derived.Test.YtbgehdndimlgkaaGreatS11
set_option linter.all false
set_option maxHeartbeats 16000000
namespace Go.Proofs.YtbgehdndimlgkaaGreat
open Go Go.RowKit Go.Av
set_option maxRecDepth 100000
theorem eM {n:Int} (h:aT n):(Lit.int .i64 n).wf=true:=by
 have e1:IntKind.i64.min = -9223372036854775808:=by decide
 have e2:IntKind.i64.max=9223372036854775807:=by decide
 unfold aT at h
 simp only [Lit.wf,e1,e2,Bq,Ar]
 omega
def oG (v:Ver):Prop:=aT v.t/\aT v.c/\aT v.s
def sP (v:Src):Prop:=aT v.t/\aT v.s
def Ver.vl (v:Ver):Do:=[.int .i64 v.t,.int .i64 v.c,.int .i64 v.s]
def Src.vl (v:Src):Do:=[.int .i64 v.t,.int .i64 v.s]
theorem aX2 {v:Ver} (h:oG v):LfL [.i .i64,.i .i64,.i .i64] v.vl:=⟨⟨rfl,eM h.1⟩,⟨rfl,eM h.2.1⟩,⟨rfl,eM h.2.2⟩,trivial⟩
theorem dF0 {v:Src} (h:sP v):LfL [.i .i64,.i .i64] v.vl:=⟨⟨rfl,eM h.1⟩,⟨rfl,eM h.2⟩,trivial⟩
theorem cV8 {a b:Ver} {r:Bool} (h:r=true↔a=b):r=true↔a.vl=b.vl:=by
 obtain ⟨a1,a2,a3⟩:=a
 obtain ⟨b1,b2,b3⟩:=b
 rw [h]
 simp [Ver.vl]
theorem eO9 {a b:Src} {r:Bool} (h:r=true↔a=b):r=true↔a.vl=b.vl:=by
 obtain ⟨a1,a2⟩:=a
 obtain ⟨b1,b2⟩:=b
 rw [h]
 simp [Src.vl]
theorem aQ4 {α:Type} {lt:α->α->Prop} (h:SLO lt):∀{l:List α} {v:α},l.Pairwise lt->v∉l->∃m:Nat,m<=l.length/\(∀(j:Nat) (x:α),j<m->l[j]? = some x->lt x v)/\∀(j:Nat) (x:α),m<=j->l[j]? = some x->lt v x
 | [],v,_,_=>⟨0,Ah _,fun j x hj=>by omega,fun j x _ hx=>by simp at hx⟩
 | y::l,v,hl,hv=>by
  obtain ⟨l1,l2⟩:=Bp.1 hl
  rcases h.tri y v with e|e|e
  ·obtain ⟨m,m1,m2,m3⟩:=aQ4 h l2 (v:=v) (fun hm=>hv (CM _ hm))
   refine ⟨m+1,by simp;omega,fun j x hj hx=>?_,fun j x hj hx=>?_⟩
   ·cases j with
    | zero=>simp at hx;rw [<- hx];exact e
    | succ j=>exact m2 j x aA vP
   ·cases j with
    | zero=>omega
    | succ j=>exact m3 j x aA vP
  ·exact absurd e (fun e=>hv (by simp [e]))
  ·refine ⟨0,Am _,fun j x hj=>by omega,fun j x _ hx=>?_⟩
   cases j with
   | zero=>simp at hx;rw [<- hx];exact e
   | succ j=>exact h.tr _ _ _ e (l1 x (Af vP))
theorem aQ5 {α:Type} {lt:α->α->Prop} (h:SLO lt) {l:List α} {v:α} {m:Nat} (hl:l.Pairwise lt) (h2:∀(j:Nat) (x:α),j<m->l[j]? = some x->lt x v) (h3:∀(j:Nat) (x:α),m<=j->l[j]? = some x->lt v x):insA lt v l=l.take m++v::l.drop m :=
 dE5 h hl (fun x hx=>by
  obtain ⟨j,hj⟩:=CK hx
  have hjm:j<m:=by
   by_cases hc:j<m
   ·exact hc
   ·rw [AU,Aj hc] at hj;cases hj
  rw [AU,Ak hjm] at hj
  exact h2 j x hjm hj) (fun x hx=>by
  obtain ⟨j,hj⟩:=CK hx
  rw [AR] at hj
  exact h3 _ x (CG _ _) hj)
theorem tZ {α:Type} [DecidableEq α] {l:List α} {v:α} (h:v∈l):∃j:Nat,l[j]? = some v/\∀(q:Nat) (x:α),q<j->l[q]? = some x->x≠v:=by
 induction l with
 | nil=>simp at h
 | cons y l ih =>
  by_cases e:y=v
  ·exact ⟨0,by simp [e],fun q x hq=>by omega⟩
  ·obtain ⟨j,h1,h2⟩:=ih (by rcases A6.1 h with h|h;exact absurd h.symm e;exact h)
   refine ⟨j+1,by simpa using h1,fun q x hq hx=>?_⟩
   cases q with
   | zero=>simp at hx;rw [<- hx];exact e
   | succ q=>exact h2 q x aA vP
theorem oA {α:Type} {f:α->D1} {k:Nat} (h:∀a,(f a).length=k):∀{l:List α} {i:Nat} (a:α),i<l.length->lay (l.flatMap f) (i*k) (f a)=(l.set i a).flatMap f
 | [],i,a,hi=>by simp at hi
 | b::l,0,a,_=>by
  unfold lay
  rw [Cf,C9,Ay,Aq,h,A5,BY,A5,BW,h,AG (by rw [h];exact Ah _),BU,AY,Ay]
 | b::l,i+1,a,hi=>by
  have ih:=oA h (l:=l) (i:=i) a vM
  unfold lay at ih ⊢
  have e1:(i+1)*k=k+i*k:=by rw [AM];omega
  have e2:(i+1)*k+(f a).length=k+(i*k+(f a).length):=by rw [e1];omega
  rw [e2,e1,A5,List.set_cons_succ,A5,<- ih,Da,BW,h,Ad (by rw [h];omega),AG (by rw [h];omega),show k+i*k-k=i*k by omega,show k+(i*k+(f a).length)-k=i*k+(f a).length by omega]
  simp only [Ay,Ao]
theorem aF6 {α:Type} {l:List α} {v u:α} {k:Nat} (hk:0<k) (hkl:k<=l.length) (hu:l[k-1]? = some u):((l.take k++v::l.drop k).set (k-1) v).set k u=l.take (k-1)++v::l.drop (k-1):=by
 obtain ⟨j,rfl⟩:∃j,k=j+1:=⟨k-1,by omega⟩
 rw [Nat.add_sub_cancel] at hu ⊢
 have h1:l.take (j+1)=l.take j++[u]:=by rw [B8,hu];rfl
 have h2:l.drop j=u::l.drop (j+1):=by
  obtain ⟨h3,h4⟩:=Ag.1 hu
  rw [B6 h3,h4]
 have hl:(l.take j).length=j:=by rw [As];omega
 rw [h1,h2,Ao]
 rw [BM _ _ aA,hl,BU,List.singleton_append,BY,BM _ _ aA,hl,show j+1-j=1 by omega,List.set_cons_succ,BY]
attribute [local irreducible] Still Adds AWL AW Drw bX bY AC AWR cU Frz Go.Av.Src cQ Out InK ItK AsK RdK eP eI ACT ACA eW
theorem kQ (a b:Ver) (r:Bool) (hr:r=true↔ltV a b):qC' 84 [.agg [iv a.t,iv a.c,iv a.s],.agg [iv b.t,iv b.c,iv b.s]] (.c (bv r)) [] 0:=by
 have no:¬ltV a b->r=false:=fun h=>by cases r;rfl;exact absurd (hr.1 rfl) h
 unfold ltV at hr no
 obtain ⟨a1,a2,a3⟩:=a
 obtain ⟨b1,b2,b3⟩:=b
 simp only at *
 by_cases h1:a1<b1
 ·skip
  obtain rfl:r=true:=hr.2 aA
  refine aD aB (sz:=30) Tryz.func84 rfl vF ?_
  repeat' (first|(refine aC ?_;intro K hK hX)|refine sQ ?_|(refine aG hK hX ?_;clear hK hX K)|fail)
  exact aY
 by_cases h2:b1<a1
 ·skip
  obtain rfl:r=false:=no aA
  refine aD aB (sz:=30) Tryz.func84 rfl vF ?_
  repeat' (first|(refine aC ?_;intro K hK hX)|refine sQ ?_|(refine aG hK hX ?_;clear hK hX K)|fail)
  exact aY
 by_cases h3:a3<b3
 ·skip
  obtain rfl:r=true:=hr.2 aA
  refine aD aB (sz:=30) Tryz.func84 rfl vF ?_
  repeat' (first|(refine aC ?_;intro K hK hX)|refine sQ ?_|(refine aG hK hX ?_;clear hK hX K)|fail)
  exact aY
 by_cases h4:b3<a3
 ·skip
  obtain rfl:r=false:=no aA
  refine aD aB (sz:=30) Tryz.func84 rfl vF ?_
  repeat' (first|(refine aC ?_;intro K hK hX)|refine sQ ?_|(refine aG hK hX ?_;clear hK hX K)|fail)
  exact aY
 by_cases h5:a2<b2
 ·skip
  obtain rfl:r=true:=hr.2 aA
  refine aD aB (sz:=30) Tryz.func84 rfl vF ?_
  repeat' (first|(refine aC ?_;intro K hK hX)|refine sQ ?_|(refine aG hK hX ?_;clear hK hX K)|fail)
  exact aY
 ·skip
  obtain rfl:r=false:=no aA
  refine aD aB (sz:=30) Tryz.func84 rfl vF ?_
  repeat' (first|(refine aC ?_;intro K hK hX)|refine sQ ?_|(refine aG hK hX ?_;clear hK hX K)|fail)
  exact aY
theorem aD6 (l:List Ver) (n:Nat) (hn:l.length=n) (hb:n<=1000000) (hw:∀x∈l,oG x) (v:Ver) (hv:oG v) (r:Bool) (hr:r=true↔v∈l):qC' 94 [.sl 3 n (vrc l),.agg [iv v.t,iv v.c,iv v.s]] (.c (bv r)) [] 0:=by
 have hvl:(vrc l).length=n*3:=by rw [dC,hn]
 have hcx:∀x:Ver,[iv x.t,iv x.c,iv x.s]=x.vl.map CV.v:=fun _=>rfl
 have lv:=aX2 hv
 by_cases hm:v∈l
 ·obtain rfl:r=true:=hr.2 hm
  obtain ⟨j0,hj,hne⟩:=tZ hm
  have hjn:j0<n:=by rw [<- hn];exact (Ag.1 hj).1
  refine aD aB (sz:=18) Tryz.func94 rfl (by rw [Tryz.ntmps94];rfl) ?_
  repeat' (first|(refine aC ?_;intro K hK hX)|refine bL2 ?_|(refine aG hK hX ?_;clear hK hX K)|fail)
  refine bH [5] [] rfl rfl (fun i:Nat=>[(5,.c (iv i))]) (fun i=>[]) (fun i=>i<=j0) (fun i=>j0-i) 0 (Am _) dF ?_
  intro i hi K hK hX
  by_cases hlt:i<j0
  ·obtain ⟨x,hat⟩:∃x,l[i]? = some x:=⟨_,Ab aA⟩
   have hx:=eG hat
   have lx:=aX2 (hw x (Af hat))
   have heq:(false:Bool)=true↔x=v:=⟨fun h=>eS,fun h=>absurd h (hne i x hlt hat)⟩
   repeat' (first|(refine aC ?_;intro K hK hX)|refine dL5 ?_|(refine aG hK hX ?_;clear hK hX K)|fail)
   exact dS
  ·have hij:i=j0:=by omega
   rw [hij]
   have hx:=eG hj
   have heq:(true:Bool)=true↔v=v:=⟨fun h=>rfl,fun h=>rfl⟩
   repeat' (first|(refine aC ?_;intro K hK hX)|refine bE [0,1,3,4,5] ?_|((first|((with_reducible refine bP ?_);refine xA ?_)|((with_reducible refine cZ ?_);refine xD ?_));(first|((with_reducible refine bU ?_);(first|refine aL (pM aV (m:=3) rfl aV aV aV aV aV rfl rfl (hcx v) (hcx v) lv lv (cV8 heq)) ?_))))|refine eE ?_|refine stA ?_|refine stD ?_|(refine aG hK hX ?_;clear hK hX K)|fail)
   exact aY
 ·obtain rfl:r=false:=by cases r;rfl;exact absurd (hr.1 rfl) hm
  refine aD aB (sz:=18) Tryz.func94 rfl (by rw [Tryz.ntmps94];rfl) ?_
  repeat' (first|(refine aC ?_;intro K hK hX)|refine bL2 ?_|(refine aG hK hX ?_;clear hK hX K)|fail)
  refine bH [5] [] rfl rfl (fun i:Nat=>[(5,.c (iv i))]) (fun i=>[]) (fun i=>i<=n) (fun i=>n-i) 0 (Am _) dF ?_
  intro i hi K hK hX
  by_cases hlt:i<n
  ·obtain ⟨x,hat⟩:∃x,l[i]? = some x:=⟨_,Ab aA⟩
   have hx:=eG hat
   have lx:=aX2 (hw x (Af hat))
   have heq:(false:Bool)=true↔x=v:=⟨fun h=>eS,fun h=>absurd (by rw [<- h];exact Af hat) hm⟩
   repeat' (first|(refine aC ?_;intro K hK hX)|refine dL5 ?_|(refine aG hK hX ?_;clear hK hX K)|fail)
   exact dS
  ·repeat' (first|(refine aC ?_;intro K hK hX)|refine bE [0,1,3,4,5] ?_|refine stA ?_|refine stD ?_|(refine aG hK hX ?_;clear hK hX K)|fail)
   exact aY
theorem cR2 (l:List Ver) (n:Nat) (hn:l.length=n) (hb:n<=1000000) (hw:∀x∈l,oG x) (hs:l.Pairwise ltV) (v:Ver) (hv:oG v) (q:Nat) (hq:(insA ltV v l).length=q):qC' 114 [.sl 3 n (vrc l),.agg [iv v.t,iv v.c,iv v.s]] (.c (.sl 3 q (vrc (insA ltV v l)))) [] 0:=by
 have hvl:(vrc l).length=n*3:=by rw [dC,hn]
 by_cases hm:v∈l
 ·have hh:=aD6 l n hn hb hw v hv true ⟨fun _=>hm,fun _=>rfl⟩
  rw [aC2 slo_V hs hm] at hq ⊢
  obtain rfl:n=q:=by omega
  refine aD aB (sz:=53) Tryz.func114 rfl (by rw [Tryz.ntmps114];rfl) ?_
  repeat' (first|(refine aC ?_;intro K hK hX)|refine dN2 ?_|(refine aG hK hX ?_;clear hK hX K)|fail)
  exact aY
 ·have hh:=aD6 l n hn hb hw v hv false ⟨fun h=>eS,fun h=>absurd h hm⟩
  obtain ⟨m,m1,m2,m3⟩:=aQ4 slo_V hs hm
  rw [hn] at m1
  rw [aQ5 slo_V hs m2 m3] at hq ⊢
  obtain rfl:n+1=q:=by rw [<- hq,Aa,Au,As,A0];omega
  have hL:vrc l++[iv v.t,iv v.c,iv v.s]=vrc (l.take n++v::l.drop n):=by
   rw [Ad aA,AG aA]
   simp [vrc]
  refine aD aB (sz:=53) Tryz.func114 rfl (by rw [Tryz.ntmps114];rfl) ?_
  repeat' (first|(refine aC ?_;intro K hK hX)|refine dL4 ?_|(refine aG hK hX ?_;clear hK hX K)|fail)
  refine bH [6,18,19,17] [4] rfl rfl (fun k:Nat=>[(6,.c (iv k))]) (fun k=>[(4,.row 76 (vrc (l.take k++v::l.drop k)))]) (fun k=>m<=k/\k<=n) (fun k=>k) n ⟨m1,Ah _⟩ dX0 ?_
  rintro k ⟨hk1,hk2⟩ K hK hX
  have hlen:(l.take k++v::l.drop k).length=n+1:=by rw [Aa,Au,As,A0];omega
  have hrl:(vrc (l.take k++v::l.drop k)).length=(0+n+1)*3:=by rw [dC,hlen,Aq]
  have hk:(l.take k++v::l.drop k)[k]? = some v:=by rw [AT kE,As,B0 aA,BU];rfl
  have hx:=eG hk
  rw [<- Aq (k*3)] at hx
  by_cases h0:k=0
  ·have hRm:vrc (l.take k++v::l.drop k)=vrc (l.take m++v::l.drop m):=by rw [show k=m by omega]
   generalize hR:vrc (l.take k++v::l.drop k)=R at *
   rw [h0]
   repeat' (first|(refine aC ?_;intro K hK hX)|refine bE [0,1,3,4,5,6] ?_|refine stA ?_|refine stD ?_|(refine aG hK hX ?_;clear hK hX K)|fail)
   exact aI3
  ·obtain ⟨u,hat⟩:∃u,l[k-1]? = some u:=⟨_,Ab aA⟩
   have hk':(l.take k++v::l.drop k)[k-1]? = some u:=by rw [AL kE,AU,Ak aA];exact hat
   have hxu:=eG hk'
   rw [show k-1=((k:Int)-1).toNat from by omega,<- Aq (((k:Int)-1).toNat*3)] at hxu
   by_cases hlt:m<k
   ·have hle:=kQ v u true ⟨fun _=>m3 (k-1) u aA hat,fun _=>rfl⟩
    have hs1:lay (vrc (l.take k++v::l.drop k)) (0+((k:Int)-1).toNat*3) [iv v.t,iv v.c,iv v.s]=vrc ((l.take k++v::l.drop k).set (k-1) v):=by
     rw [Aq,show ((k:Int)-1).toNat=k-1 from by omega]
     exact oA (f:=fun v:Ver=>[iv v.t,iv v.c,iv v.s]) (k:=3) (fun _=>rfl) v aA
    have hs2:lay (vrc ((l.take k++v::l.drop k).set (k-1) v)) (0+k*3) [iv u.t,iv u.c,iv u.s]=vrc (l.take (k-1)++v::l.drop (k-1)):=by
     rw [Aq,<- aF6 aA aA hat]
     exact oA (f:=fun v:Ver=>[iv v.t,iv v.c,iv v.s]) (k:=3) (fun _=>rfl) u (by rw [Cl];omega)
    have hl1:(vrc ((l.take k++v::l.drop k).set (k-1) v)).length=(n+1)*3:=by rw [dC,Cl,hlen]
    rw [<- hs1] at hs2 hl1
    clear hs1
    generalize hR:vrc (l.take k++v::l.drop k)=R at *
    repeat' (first|(refine aC ?_;intro K hK hX)|refine aK [0,1,3,4,5,6] ?_|((with_reducible refine lA ?_);refine eY aE (mX rfl) ?_)|((with_reducible refine aQ (i:=7) ?_);refine aP [0,1,3,4,5,6] rfl rfl ?_;refine bW [] ?_)|((with_reducible refine aQ ?_);refine aP [0,1,3,4,5,6] rfl rfl ?_;refine cJ [] ?_)|((with_reducible refine sC ?_);refine vS aB aE rfl rfl rfl rfl rfl eT rfl (by show 0+k*3+3<=_;rw [hl1];omega) eT rfl ?_)|(refine dM ?_;refine c0 hle ?_)|refine fT ?_|(refine vV aV aV aV aV rfl ?_)|refine stA ?_|refine stD ?_|refine stE ?_|(refine aG hK hX ?_;clear hK hX K)|fail)
    exact ⟨k-1,by omega,by omega,dW9⟩
   ·have hkm:k=m:=by omega
    have hle:=kQ v u false ⟨fun h=>eS,fun h=>by
     have h2:=m2 (k-1) u aA hat
     exact absurd (slo_V.tr _ _ _ h h2) (slo_V.irr v)⟩
    have hRm:vrc (l.take k++v::l.drop k)=vrc (l.take m++v::l.drop m):=by rw [hkm]
    generalize hR:vrc (l.take k++v::l.drop k)=R at *
    repeat' (first|(refine aC ?_;intro K hK hX)|refine cD0 ?_|(refine aG hK hX ?_;clear hK hX K)|fail)
    exact aI3
theorem oL (a b:Src) (r:Bool) (hr:r=true↔ltS a b):qC' 85 [.agg [iv a.t,iv a.s],.agg [iv b.t,iv b.s]] (.c (bv r)) [] 0:=by
 have no:¬ltS a b->r=false:=fun h=>by cases r;rfl;exact absurd (hr.1 rfl) h
 unfold ltS at hr no
 obtain ⟨a1,a3⟩:=a
 obtain ⟨b1,b3⟩:=b
 simp only at *
 by_cases h1:a1<b1
 ·skip
  obtain rfl:r=true:=hr.2 aA
  refine aD aB (sz:=24) Tryz.func85 rfl aN4 ?_
  repeat' (first|(refine aC ?_;intro K hK hX)|refine sQ ?_|(refine aG hK hX ?_;clear hK hX K)|fail)
  exact aY
 by_cases h2:b1<a1
 ·skip
  obtain rfl:r=false:=no aA
  refine aD aB (sz:=24) Tryz.func85 rfl aN4 ?_
  repeat' (first|(refine aC ?_;intro K hK hX)|refine sQ ?_|(refine aG hK hX ?_;clear hK hX K)|fail)
  exact aY
 by_cases h3:a3<b3
 ·skip
  obtain rfl:r=true:=hr.2 aA
  refine aD aB (sz:=24) Tryz.func85 rfl aN4 ?_
  repeat' (first|(refine aC ?_;intro K hK hX)|refine sQ ?_|(refine aG hK hX ?_;clear hK hX K)|fail)
  exact aY
 ·skip
  obtain rfl:r=false:=no aA
  refine aD aB (sz:=24) Tryz.func85 rfl aN4 ?_
  repeat' (first|(refine aC ?_;intro K hK hX)|refine sQ ?_|(refine aG hK hX ?_;clear hK hX K)|fail)
  exact aY
theorem wP (l:List Src) (n:Nat) (hn:l.length=n) (hb:n<=1000000) (hw:∀x∈l,sP x) (v:Src) (hv:sP v) (r:Bool) (hr:r=true↔v∈l):qC' 90 [.sl 2 n (src l),.agg [iv v.t,iv v.s]] (.c (bv r)) [] 0:=by
 have hvl:(src l).length=n*2:=by rw [dV,hn]
 have hcx:∀x:Src,[iv x.t,iv x.s]=x.vl.map CV.v:=fun _=>rfl
 have lv:=dF0 hv
 by_cases hm:v∈l
 ·obtain rfl:r=true:=hr.2 hm
  obtain ⟨j0,hj,hne⟩:=tZ hm
  have hjn:j0<n:=by rw [<- hn];exact (Ag.1 hj).1
  refine aD aB (sz:=18) Tryz.func90 rfl (by rw [Tryz.ntmps90];rfl) ?_
  repeat' (first|(refine aC ?_;intro K hK hX)|refine bL2 ?_|(refine aG hK hX ?_;clear hK hX K)|fail)
  refine bH [5] [] rfl rfl (fun i:Nat=>[(5,.c (iv i))]) (fun i=>[]) (fun i=>i<=j0) (fun i=>j0-i) 0 (Am _) dF ?_
  intro i hi K hK hX
  by_cases hlt:i<j0
  ·obtain ⟨x,hat⟩:∃x,l[i]? = some x:=⟨_,Ab aA⟩
   have hx:=eV hat
   have lx:=dF0 (hw x (Af hat))
   have heq:(false:Bool)=true↔x=v:=⟨fun h=>eS,fun h=>absurd h (hne i x hlt hat)⟩
   repeat' (first|(refine aC ?_;intro K hK hX)|refine dL6 ?_|(refine aG hK hX ?_;clear hK hX K)|fail)
   exact dS
  ·have hij:i=j0:=by omega
   rw [hij]
   have hx:=eV hj
   have heq:(true:Bool)=true↔v=v:=⟨fun h=>rfl,fun h=>rfl⟩
   repeat' (first|(refine aC ?_;intro K hK hX)|refine bE [0,1,3,4,5] ?_|((first|((with_reducible refine bP ?_);refine xA ?_)|((with_reducible refine cZ ?_);refine xD ?_));(first|((with_reducible refine bU ?_);(first|refine aL (pM aV (m:=3) rfl aV aV aV aV aV rfl rfl (hcx v) (hcx v) lv lv (eO9 heq)) ?_))))|refine eE ?_|refine stA ?_|refine stD ?_|(refine aG hK hX ?_;clear hK hX K)|fail)
   exact aY
 ·obtain rfl:r=false:=by cases r;rfl;exact absurd (hr.1 rfl) hm
  refine aD aB (sz:=18) Tryz.func90 rfl (by rw [Tryz.ntmps90];rfl) ?_
  repeat' (first|(refine aC ?_;intro K hK hX)|refine bL2 ?_|(refine aG hK hX ?_;clear hK hX K)|fail)
  refine bH [5] [] rfl rfl (fun i:Nat=>[(5,.c (iv i))]) (fun i=>[]) (fun i=>i<=n) (fun i=>n-i) 0 (Am _) dF ?_
  intro i hi K hK hX
  by_cases hlt:i<n
  ·obtain ⟨x,hat⟩:∃x,l[i]? = some x:=⟨_,Ab aA⟩
   have hx:=eV hat
   have lx:=dF0 (hw x (Af hat))
   have heq:(false:Bool)=true↔x=v:=⟨fun h=>eS,fun h=>absurd (by rw [<- h];exact Af hat) hm⟩
   repeat' (first|(refine aC ?_;intro K hK hX)|refine dL6 ?_|(refine aG hK hX ?_;clear hK hX K)|fail)
   exact dS
  ·repeat' (first|(refine aC ?_;intro K hK hX)|refine bE [0,1,3,4,5] ?_|refine stA ?_|refine stD ?_|(refine aG hK hX ?_;clear hK hX K)|fail)
   exact aY
theorem cR4 (l:List Src) (n:Nat) (hn:l.length=n) (hb:n<=1000000) (hw:∀x∈l,sP x) (hs:l.Pairwise ltS) (v:Src) (hv:sP v) (q:Nat) (hq:(insA ltS v l).length=q):qC' 116 [.sl 2 n (src l),.agg [iv v.t,iv v.s]] (.c (.sl 2 q (src (insA ltS v l)))) [] 0:=by
 have hvl:(src l).length=n*2:=by rw [dV,hn]
 by_cases hm:v∈l
 ·have hh:=wP l n hn hb hw v hv true ⟨fun _=>hm,fun _=>rfl⟩
  rw [aC2 slo_S hs hm] at hq ⊢
  obtain rfl:n=q:=by omega
  refine aD aB (sz:=53) Tryz.func116 rfl (by rw [Tryz.ntmps116];rfl) ?_
  repeat' (first|(refine aC ?_;intro K hK hX)|refine dN2 ?_|(refine aG hK hX ?_;clear hK hX K)|fail)
  exact aY
 ·have hh:=wP l n hn hb hw v hv false ⟨fun h=>eS,fun h=>absurd h hm⟩
  obtain ⟨m,m1,m2,m3⟩:=aQ4 slo_S hs hm
  rw [hn] at m1
  rw [aQ5 slo_S hs m2 m3] at hq ⊢
  obtain rfl:n+1=q:=by rw [<- hq,Aa,Au,As,A0];omega
  have hL:src l++[iv v.t,iv v.s]=src (l.take n++v::l.drop n):=by
   rw [Ad aA,AG aA]
   simp [src]
  refine aD aB (sz:=53) Tryz.func116 rfl (by rw [Tryz.ntmps116];rfl) ?_
  repeat' (first|(refine aC ?_;intro K hK hX)|refine dL4 ?_|(refine aG hK hX ?_;clear hK hX K)|fail)
  refine bH [6,18,19,17] [4] rfl rfl (fun k:Nat=>[(6,.c (iv k))]) (fun k=>[(4,.row 72 (src (l.take k++v::l.drop k)))]) (fun k=>m<=k/\k<=n) (fun k=>k) n ⟨m1,Ah _⟩ dX0 ?_
  rintro k ⟨hk1,hk2⟩ K hK hX
  have hlen:(l.take k++v::l.drop k).length=n+1:=by rw [Aa,Au,As,A0];omega
  have hrl:(src (l.take k++v::l.drop k)).length=(0+n+1)*2:=by rw [dV,hlen,Aq]
  have hk:(l.take k++v::l.drop k)[k]? = some v:=by rw [AT kE,As,B0 aA,BU];rfl
  have hx:=eV hk
  rw [<- Aq (k*2)] at hx
  by_cases h0:k=0
  ·have hRm:src (l.take k++v::l.drop k)=src (l.take m++v::l.drop m):=by rw [show k=m by omega]
   generalize hR:src (l.take k++v::l.drop k)=R at *
   rw [h0]
   repeat' (first|(refine aC ?_;intro K hK hX)|refine bE [0,1,3,4,5,6] ?_|refine stA ?_|refine stD ?_|(refine aG hK hX ?_;clear hK hX K)|fail)
   exact aI3
  ·obtain ⟨u,hat⟩:∃u,l[k-1]? = some u:=⟨_,Ab aA⟩
   have hk':(l.take k++v::l.drop k)[k-1]? = some u:=by rw [AL kE,AU,Ak aA];exact hat
   have hxu:=eV hk'
   rw [show k-1=((k:Int)-1).toNat from by omega,<- Aq (((k:Int)-1).toNat*2)] at hxu
   by_cases hlt:m<k
   ·have hle:=oL v u true ⟨fun _=>m3 (k-1) u aA hat,fun _=>rfl⟩
    have hs1:lay (src (l.take k++v::l.drop k)) (0+((k:Int)-1).toNat*2) [iv v.t,iv v.s]=src ((l.take k++v::l.drop k).set (k-1) v):=by
     rw [Aq,show ((k:Int)-1).toNat=k-1 from by omega]
     exact oA (f:=fun v:Src=>[iv v.t,iv v.s]) (k:=2) (fun _=>rfl) v aA
    have hs2:lay (src ((l.take k++v::l.drop k).set (k-1) v)) (0+k*2) [iv u.t,iv u.s]=src (l.take (k-1)++v::l.drop (k-1)):=by
     rw [Aq,<- aF6 aA aA hat]
     exact oA (f:=fun v:Src=>[iv v.t,iv v.s]) (k:=2) (fun _=>rfl) u (by rw [Cl];omega)
    have hl1:(src ((l.take k++v::l.drop k).set (k-1) v)).length=(n+1)*2:=by rw [dV,Cl,hlen]
    rw [<- hs1] at hs2 hl1
    clear hs1
    generalize hR:src (l.take k++v::l.drop k)=R at *
    repeat' (first|(refine aC ?_;intro K hK hX)|refine aK [0,1,3,4,5,6] ?_|((with_reducible refine lA ?_);refine eY aE (mX rfl) ?_)|((with_reducible refine aQ (i:=7) ?_);refine aP [0,1,3,4,5,6] rfl rfl ?_;refine bW [] ?_)|((with_reducible refine aQ ?_);refine aP [0,1,3,4,5,6] rfl rfl ?_;refine cJ [] ?_)|((with_reducible refine sC ?_);refine vS aB aE rfl rfl rfl rfl rfl eT rfl (by show 0+k*2+2<=_;rw [hl1];omega) eT rfl ?_)|(refine dM ?_;refine c0 hle ?_)|refine fT ?_|(refine vV aV aV aV aV rfl ?_)|refine stA ?_|refine stD ?_|refine stE ?_|(refine aG hK hX ?_;clear hK hX K)|fail)
    exact ⟨k-1,by omega,by omega,dW9⟩
   ·have hkm:k=m:=by omega
    have hle:=oL v u false ⟨fun h=>eS,fun h=>by
     have h2:=m2 (k-1) u aA hat
     exact absurd (slo_S.tr _ _ _ h h2) (slo_S.irr v)⟩
    have hRm:src (l.take k++v::l.drop k)=src (l.take m++v::l.drop m):=by rw [hkm]
    generalize hR:src (l.take k++v::l.drop k)=R at *
    repeat' (first|(refine aC ?_;intro K hK hX)|refine cD0 ?_|(refine aG hK hX ?_;clear hK hX K)|fail)
    exact aI3
end Go.Proofs.YtbgehdndimlgkaaGreat
