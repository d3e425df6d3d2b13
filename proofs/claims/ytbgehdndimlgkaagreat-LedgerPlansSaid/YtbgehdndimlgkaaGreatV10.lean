/- Lemmas for laws of the ledger. -/
import Derived.DeepKeys3
import Derived.Test.YtbgehdndimlgkaaGreatV9
set_option linter.all false
set_option maxHeartbeats 16000000
namespace Go.Proofs.YtbgehdndimlgkaaGreat
open Go Go.RowKit Go.Av
set_option maxRecDepth 100000
section
def vrc (l:List Ver):Dp:=l.flatMap fun v=>[iv v.t,iv v.c,iv v.s]
def src (l:List Src):Dp:=l.flatMap fun v=>[iv v.t,iv v.s]
theorem wC {α:Type} {f:α->Dp} {k:Nat} (h:∀a,(f a).length=k):∀l:List α,(l.flatMap f).length=l.length*k
 | []=>by simp
 | a::l=>by rw [Aw,Aa,h,wC h l,Au,A9,CY,C9]
theorem aA9 {α:Type} {f:α->Dp} {k:Nat} (h:∀a,(f a).length=k):∀{l:List α} {i:Nat} {a:α},l[i]? = some a->((l.flatMap f).drop (i*k)).take k=f a
 | [],i,a,e=>by simp at e
 | b::l,0,a,e=>by
  simp only [BC,Option.some.injEq] at e
  subst e
  rw [Ca,Bg,Aw,A8 (by rw [h];exact Ae _),Ah (by rw [h];exact Ae _)]
 | b::l,i+1,a,e=>by
  rw [Aw,BG,h,AM (by rw [h,A9];omega),At,show (i+1)*k-k=i*k by rw [A9];omega]
  exact aA9 h (by simpa using e)
theorem dW (l:List Ver):(vrc l).length=l.length*3:=wC (f:=fun v:Ver=>[iv v.t,iv v.c,iv v.s]) (k:=3) (fun _=>rfl) l
theorem fT (l:List Src):(src l).length=l.length*2:=wC (f:=fun v:Src=>[iv v.t,iv v.s]) (k:=2) (fun _=>rfl) l
theorem iX {l:List Ver} {i:Nat} {v:Ver} (h:l[i]? = some v):((vrc l).drop (i*3)).take 3=[iv v.t,iv v.c,iv v.s]:=aA9 (f:=fun v:Ver=>[iv v.t,iv v.c,iv v.s]) (k:=3) (fun _=>rfl) h
theorem iW {l:List Src} {i:Nat} {v:Src} (h:l[i]? = some v):((src l).drop (i*2)).take 2=[iv v.t,iv v.s]:=aA9 (f:=fun v:Src=>[iv v.t,iv v.s]) (k:=2) (fun _=>rfl) h
attribute [local irreducible] Still Adds AWL AW Drw bN bP AC AWR cM Frz Go.Av.Src dB Out InK ItK AsK RdK eA dZ ACT ACA eL
attribute [local simp] bL bK bZ
theorem pC {α β:Type} {f:α->List β} {l:List α} {i:Nat} {a:α} (h:l[i]? = some a):(l.take (i+1)).flatMap f=(l.take i).flatMap f++f a:=by
 rw [BT,h,Bc];simp
theorem aY0 {α β:Type} {f:α->List β} (l:List α) (i:Nat):((l.take i).flatMap f).length<=(l.flatMap f).length:=by
 conv=>rhs;rw [<- B5 i l]
 rw [Bc,Aa]
 omega
theorem aB0 {α β:Type} {f:α->List β} (h:∀a,0<(f a).length):∀l:List α,l.length<=(l.flatMap f).length
 | []=>by simp
 | a::l=>by
  have:=aB0 h l
  have:=h a
  rw [Aw,Aa,Au]
  omega
theorem bF6 (v:Ver):0<(fI v).length:=by
 have:=mA (zz v.t)
 unfold fI bO
 simp only [Aa]
 omega
theorem bF5 (v:Src):0<(fW v).length:=by
 have:=mA (zz v.t)
 unfold fW bO
 simp only [Aa]
 omega
theorem aM3 (L:CZ) (m:Nat) (hL:L.length=m) (l:List Ver) (n:Nat) (hn:l.length=n) (hl:∀v∈l,aS v.t/\aS v.c/\aS v.s) (m':Nat) (hm':(L++jC fI l).length=m') (hb:m'<=1000000):ACA Tryz.prog 170 5 1 m (u8c L) [.sl 3 n (vrc l)] (u8c (L++jC fI l)) m':=by
 have hul:=u8l hL
 have hul3:=u8l hm'
 have hvl:(vrc l).length=n*3:=by rw [dW,hn]
 have hge:=aB0 bF6 l
 have hle:=aY0 (f:=fI) l
 obtain ⟨X,hX⟩:∃X,L++bO n=X:=⟨_,rfl⟩
 obtain ⟨j,hj⟩:∃j,X.length=j:=⟨_,rfl⟩
 have e:L++jC fI l=X++l.flatMap fI:=by rw [<- hX,jC,Ar,hn]
 have hjm:j+(l.flatMap fI).length=m':=by rw [<- hm',<- hj,e,Aa]
 have i1:=rG L m hL n ⟨by omega,by omega⟩ j lO aA
 rw [hX] at i1
 rw [e] at hm' hul3 ⊢
 have hulx:=u8l hj
 refine dA aB (sz:=29) Tryz.func170 rfl (by rw [Tryz.ntmps170];rfl) (bE _) ?_
 repeat' (first|(refine aC ?_;intro K hK hX)|refine cS4 ?_|(refine aH hK hX ?_;clear hK hX K)|fail)
 refine eV 2 (fun p:Nat × CZ × Nat=>[(0,.own 1 0 p.2.2 1 true),(12,.c (.sl 3 n (vrc l))),(13,.c (iv n)),(14,.c (iv p.1))]) (fun p=>[(1,.row 5 (u8c p.2.1))]) [(none,[.own 0 0 m 1 true])] (fun p=>p.1<=n/\p.2.1.length=p.2.2/\p.2.1=X++(l.take p.1).flatMap fI) (fun p=>n-p.1) (0,X,j) ⟨by omega,hj,by simp⟩ jY ?_
 rintro ⟨i,q,w⟩ ⟨hi,hql,hq⟩ K hK hX
 dsimp only at hi hql hq hK ⊢
 have hulq:=u8l hql
 by_cases hlt:i<n
 ·obtain ⟨v,hat⟩:∃v,l[i]? = some v:=⟨_,Ab aA⟩
  obtain ⟨v1,v2,v3⟩:=hl v (Ag hat)
  have hx:=iX hat
  have hst:q++fI v=X++(l.take (i+1)).flatMap fI:=by rw [hq,pC hat,Ar]
  have hmo:=hle (i+1)
  obtain ⟨t,c,s⟩:=v
  simp only at v1 v2 v3 hx
  have e3:fI ⟨t,c,s⟩=bO t++(bO s++bO c):=by rw [fI,Ar]
  obtain ⟨w',hw'⟩:∃w',(q++fI ⟨t,c,s⟩).length=w':=⟨_,rfl⟩
  have hwb:w'<=m':=by rw [<- hw',hst,Aa,hj];omega
  have i2:=bT7 q w hql t s c v1 v3 v2 w' (by rw [<- e3];exact hw') aA
  rw [<- e3,hst] at i2
  rw [hst] at hw'
  generalize X++(l.take (i+1)).flatMap fI=q' at i2 hw' hst
  repeat' (first|(refine aC ?_;intro K hK hX)|refine cS1 ?_|(refine aH hK hX ?_;clear hK hX K)|fail)
  exact ⟨(i+1,q',w'),⟨by omega,hw',by rw [<- hst,hq,pC hat,Ar]⟩,by simp only;omega,cT5⟩
 ·have hin:i=n:=by omega
  have hq':q=X++l.flatMap fI:=by rw [hq,Ah aA]
  have hwm:w=m':=by rw [<- hql,hq',hm']
  repeat' (first|(refine aC ?_;intro K hK hX)|refine aM [0,1,4,6,12,13,14] ?_|refine stA ?_|(refine aH hK hX ?_;clear hK hX K)|fail)
  rw [<- hq',<- hwm]
  exact jB
theorem aS9 (L:CZ) (m:Nat) (hL:L.length=m) (l:List Src) (n:Nat) (hn:l.length=n) (hl:∀v∈l,aS v.t/\aS v.s) (m':Nat) (hm':(L++jC fW l).length=m') (hb:m'<=1000000):ACA Tryz.prog 169 5 1 m (u8c L) [.sl 2 n (src l)] (u8c (L++jC fW l)) m':=by
 have hul:=u8l hL
 have hul3:=u8l hm'
 have hvl:(src l).length=n*2:=by rw [fT,hn]
 have hge:=aB0 bF5 l
 have hle:=aY0 (f:=fW) l
 obtain ⟨X,hX⟩:∃X,L++bO n=X:=⟨_,rfl⟩
 obtain ⟨j,hj⟩:∃j,X.length=j:=⟨_,rfl⟩
 have e:L++jC fW l=X++l.flatMap fW:=by rw [<- hX,jC,Ar,hn]
 have hjm:j+(l.flatMap fW).length=m':=by rw [<- hm',<- hj,e,Aa]
 have i1:=rG L m hL n ⟨by omega,by omega⟩ j lO aA
 rw [hX] at i1
 rw [e] at hm' hul3 ⊢
 have hulx:=u8l hj
 refine dA aB (sz:=27) Tryz.func169 rfl (by rw [Tryz.ntmps169];rfl) (bE _) ?_
 repeat' (first|(refine aC ?_;intro K hK hX)|refine cS4 ?_|(refine aH hK hX ?_;clear hK hX K)|fail)
 refine eV 2 (fun p:Nat × CZ × Nat=>[(0,.own 1 0 p.2.2 1 true),(12,.c (.sl 2 n (src l))),(13,.c (iv n)),(14,.c (iv p.1))]) (fun p=>[(1,.row 5 (u8c p.2.1))]) [(none,[.own 0 0 m 1 true])] (fun p=>p.1<=n/\p.2.1.length=p.2.2/\p.2.1=X++(l.take p.1).flatMap fW) (fun p=>n-p.1) (0,X,j) ⟨by omega,hj,by simp⟩ jY ?_
 rintro ⟨i,q,w⟩ ⟨hi,hql,hq⟩ K hK hX
 dsimp only at hi hql hq hK ⊢
 have hulq:=u8l hql
 by_cases hlt:i<n
 ·obtain ⟨v,hat⟩:∃v,l[i]? = some v:=⟨_,Ab aA⟩
  obtain ⟨v1,v3⟩:=hl v (Ag hat)
  have hx:=iW hat
  have hst:q++fW v=X++(l.take (i+1)).flatMap fW:=by rw [hq,pC hat,Ar]
  have hmo:=hle (i+1)
  obtain ⟨t,s⟩:=v
  simp only at v1 v3 hx
  have e3:fW ⟨t,s⟩=bO t++bO s:=rfl
  obtain ⟨w',hw'⟩:∃w',(q++fW ⟨t,s⟩).length=w':=⟨_,rfl⟩
  have hwb:w'<=m':=by rw [<- hw',hst,Aa,hj];omega
  have i2:=bT6 q w hql t s v1 v3 w' (by rw [<- e3];exact hw') aA
  rw [<- e3,hst] at i2
  rw [hst] at hw'
  generalize X++(l.take (i+1)).flatMap fW=q' at i2 hw' hst
  repeat' (first|(refine aC ?_;intro K hK hX)|refine cS1 ?_|(refine aH hK hX ?_;clear hK hX K)|fail)
  exact ⟨(i+1,q',w'),⟨by omega,hw',by rw [<- hst,hq,pC hat,Ar]⟩,by simp only;omega,cT5⟩
 ·have hin:i=n:=by omega
  have hq':q=X++l.flatMap fW:=by rw [hq,Ah aA]
  have hwm:w=m':=by rw [<- hql,hq',hm']
  repeat' (first|(refine aC ?_;intro K hK hX)|refine aM [0,1,4,6,12,13,14] ?_|refine stA ?_|(refine aH hK hX ?_;clear hK hX K)|fail)
  rw [<- hq',<- hwm]
  exact jB
end
section
def cmpZ (a b:Int):Int:=if a<b then -1 else if b<a then 1 else 0
def orZ:List Int->Int
 | []=>0
 | x::l=>if x=0 then orZ l else x
def aA5 (a b:Ver):Int:=orZ [cmpZ a.t b.t,cmpZ a.s b.s,cmpZ a.c b.c]
def xS (a b:Src):Int:=orZ [cmpZ a.t b.t,cmpZ a.s b.s]
theorem kQ (a b:Int):(cmpZ a b<0↔a<b)/\(cmpZ a b=0↔a=b) /\ -1<=cmpZ a b/\cmpZ a b<=1:=by
 unfold cmpZ
 by_cases h:a<b
 ·rw [Aj h];omega
 ·rw [Af h]
  by_cases h2:b<a
  ·rw [Aj h2];omega
  ·rw [Af h2];omega
theorem mN (a b:Ver):aA5 a b<0↔ltV a b:=by
 have h1:=kQ a.t b.t
 have h2:=kQ a.s b.s
 have h3:=kQ a.c b.c
 unfold aA5 orZ ltV
 by_cases e1:cmpZ a.t b.t=0
 ·rw [Aj e1]
  unfold orZ
  by_cases e2:cmpZ a.s b.s=0
  ·rw [Aj e2]
   unfold orZ
   by_cases e3:cmpZ a.c b.c=0
   ·rw [Aj e3];unfold orZ;omega
   ·rw [Af e3];omega
  ·rw [Af e2];omega
 ·rw [Af e1];omega
theorem oW (a b:Src):xS a b<0↔ltS a b:=by
 have h1:=kQ a.t b.t
 have h2:=kQ a.s b.s
 unfold xS orZ ltS
 by_cases e1:cmpZ a.t b.t=0
 ·rw [Aj e1]
  unfold orZ
  by_cases e2:cmpZ a.s b.s=0
  ·rw [Aj e2];unfold orZ;omega
  ·rw [Af e2];omega
 ·rw [Af e1];omega
attribute [local irreducible] Still Adds AWL AW Drw bN bP AC AWR cM Frz Go.Av.Src dB Out InK ItK AsK RdK eA dZ ACT ACA eL
theorem bU6 (a:Int):qC' 197 [iv a] (.c (bv false)) [] 0:=by
 refine aJ aB (sz:=6) Tryz.func197 rfl (by rw [Tryz.ntmps197];rfl) ?_
 repeat' (first|(refine aC ?_;intro K hK hX)|refine aM [0,2] ?_|(((with_reducible refine cG ?_);refine xA ?_);(first|((with_reducible refine bU ?_);(first|refine aG (iV rfl rfl rfl (Be (fun h=>h rfl))) ?_))))|refine stA ?_|(refine aH hK hX ?_;clear hK hX K)|fail)
 exact cJ
theorem qQ (a b:Int):qC' 157 [iv a,iv b] (.c (iv (cmpZ a b))) [] 0:=by
 have h1:=bU6 a
 have h2:=bU6 b
 unfold cmpZ
 by_cases d1:a<b
 ·rw [Aj d1]
  refine aJ aB (sz:=20) Tryz.func157 rfl (by rw [Tryz.ntmps157];rfl) ?_
  repeat' (first|(refine aC ?_;intro K hK hX)|refine bM6 ?_|(refine aH hK hX ?_;clear hK hX K)|fail)
  exact cJ
 ·rw [Af d1]
  by_cases d2:b<a
  ·rw [Aj d2]
   refine aJ aB (sz:=20) Tryz.func157 rfl (by rw [Tryz.ntmps157];rfl) ?_
   repeat' (first|(refine aC ?_;intro K hK hX)|refine bM6 ?_|(refine aH hK hX ?_;clear hK hX K)|fail)
   exact cJ
  ·rw [Af d2]
   refine aJ aB (sz:=20) Tryz.func157 rfl (by rw [Tryz.ntmps157];rfl) ?_
   repeat' (first|(refine aC ?_;intro K hK hX)|refine bM6 ?_|(refine aH hK hX ?_;clear hK hX K)|fail)
   exact cJ
theorem cX3 (l:List Int) (n:Nat) (hn:l.length=n) (hb:n<=1000):qC' 156 [.sl 1 n (cH .i64 l)] (.c (iv (orZ l))) [] 0:=by
 have hil:(cH .i64 l).length=n:=by rw [fJ,hn]
 refine aJ aB (sz:=18) Tryz.func156 rfl (by rw [Tryz.ntmps156];rfl) ?_
 repeat' (first|(refine aC ?_;intro K hK hX)|refine aM [0,2,3,5,6,7,8] ?_|refine stA ?_|(refine aH hK hX ?_;clear hK hX K)|fail)
 refine cA [8] [] rfl rfl (fun i:Nat=>[(8,.c (iv i))]) (fun i=>[]) (fun i=>i<=n/\orZ l=orZ (l.drop i)) (fun i=>n-i) 0 ⟨An _,rfl⟩ jY ?_
 rintro i ⟨hi,ho⟩ K hK hX
 by_cases hlt:i<n
 ·obtain ⟨x,hat⟩:∃x,l[i]? = some x:=⟨_,Ab aA⟩
  have hx:(cH .i64 l)[i]? = some (iv x):=by simp [cH,hat]
  have hdr:l.drop i=x::l.drop (i+1):=by
   obtain ⟨h1,h2⟩:=Ad.1 hat
   rw [B3 h1,h2]
  rw [hdr,orZ] at ho
  by_cases h0:x=0
  ·rw [Aj h0] at ho
   repeat' (first|(refine aC ?_;intro K hK hX)|refine aM [0,2,3,5,6,7,8] ?_|refine fN ?_|refine stA ?_|(refine aH hK hX ?_;clear hK hX K)|fail)
   exact ⟨i+1,⟨by omega,ho⟩,by omega,jY⟩
  ·rw [Af h0] at ho
   repeat' (first|(refine aC ?_;intro K hK hX)|refine aM [0,2,3,5,6,7,8] ?_|refine fN ?_|refine stA ?_|(refine aH hK hX ?_;clear hK hX K)|fail)
   rw [ho]
   exact cJ
 ·rw [AM aA] at ho
  repeat' (first|(refine aC ?_;intro K hK hX)|refine aM [0,2,3,5,6,7,8] ?_|refine stA ?_|(refine aH hK hX ?_;clear hK hX K)|fail)
  rw [ho]
  exact cJ
theorem dD7 (a b:Int):qC' 156 [.sl 1 2 [iv a,iv b]] (.c (iv (orZ [a,b]))) [] 0:=by
 have:=cX3 [a,b] 2 rfl aN
 simpa [cH] using this
theorem dD8 (a b c:Int):qC' 156 [.sl 1 3 [iv a,iv b,iv c]] (.c (iv (orZ [a,b,c]))) [] 0:=by
 have:=cX3 [a,b,c] 3 rfl aN
 simpa [cH] using this
theorem nP (a b:Ver):qC' 92 [.agg [iv a.t,iv a.c,iv a.s],.agg [iv b.t,iv b.c,iv b.s]] (.c (iv (aA5 a b))) [] 0:=by
 obtain ⟨t,c',s⟩:=a
 obtain ⟨t2,c2',s2⟩:=b
 have h1:=qQ t t2
 have h2:=qQ s s2
 have h3:=qQ c' c2'
 have h4:=dD8 (cmpZ t t2) (cmpZ s s2) (cmpZ c' c2')
 unfold aA5
 dsimp only
 generalize cmpZ t t2=x1 at *
 generalize cmpZ s s2=x2 at *
 generalize cmpZ c' c2'=x3 at *
 refine aJ aB (sz:=22) Tryz.func92 rfl (by rw [Tryz.ntmps92];rfl) ?_
 repeat' (first|(refine aC ?_;intro K hK hX)|refine gG [0,1,2,3,4] ?_|refine lD ?_|(refine oY ?_;first|refine c0 h1 ?_|refine c0 h2 ?_|refine c0 h3 ?_|refine c0 h4 ?_)|refine stA ?_|refine stE ?_|(refine aH hK hX ?_;clear hK hX K)|fail)
 exact cJ
theorem lW (a b:Src):qC' 88 [.agg [iv a.t,iv a.s],.agg [iv b.t,iv b.s]] (.c (iv (xS a b))) [] 0:=by
 obtain ⟨t,s⟩:=a
 obtain ⟨t2,s2⟩:=b
 have h1:=qQ t t2
 have h2:=qQ s s2
 have h4:=dD7 (cmpZ t t2) (cmpZ s s2)
 unfold xS
 dsimp only
 generalize cmpZ t t2=x1 at *
 generalize cmpZ s s2=x2 at *
 refine aJ aB (sz:=17) Tryz.func88 rfl (by rw [Tryz.ntmps88];rfl) ?_
 repeat' (first|(refine aC ?_;intro K hK hX)|refine gG [0,1,2,3,4] ?_|refine lD ?_|(refine oY ?_;first|refine c0 h1 ?_|refine c0 h2 ?_|refine c0 h4 ?_)|refine stA ?_|refine stE ?_|(refine aH hK hX ?_;clear hK hX K)|fail)
 exact cJ
end
section
section
variable {α:Type} {lt:α->α->Prop}
end
theorem FolL.init {l:List LEn} {e:LEn} (h:FolL (l++[e])):FolL l/\Fol l e:=by
 constructor
 ·intro i x hx
  have hi:=(Ad.1 hx).1
  have:=h i x (by rw [AE hi];exact hx)
  rw [A8 aA] at this
  exact this
 ·have:=h l.length e (by rw [AO (Ae _)];simp)
  rw [Cj] at this
  exact this
theorem FolL.snoc {l:List LEn} {e:LEn} (h:FolL l) (he:Fol l e):FolL (l++[e]):=fun i x hx=>by
 by_cases hi:i<l.length
 ·rw [AE hi] at hx
  rw [A8 aA]
  exact h i x hx
 ·have hi2:=(Ad.1 hx).1
  rw [Aa,BN] at hi2
  obtain rfl:i=l.length:=by omega
  rw [AO (Ae _)] at hx
  have:x=e:=by simpa using hx.symm
  subst this
  rw [Cj]
  exact he
theorem eI (l:List LEn) (e:LEn) (k:Int):iQ (l++[e]) k=iQ l k+if e.k=k then 1 else 0:=by
 unfold iQ
 rw [BK,Aa]
 congr 1
 by_cases h:e.k=k
 ·rw [Aj h,Bi,Aj (AU h)];rfl
 ·rw [Af h,Bi,Af (by simp [h])];rfl
theorem fE (l:List LEn) (e:LEn) (k p:Int):dV (l++[e]) k p↔dV l k p\/(e.k=k/\e.plan=p):=by
 unfold dV
 constructor
 ·rintro ⟨x,hx,h⟩
  rcases Az.1 hx with hx|hx
  ·exact .inl ⟨x,hx,h⟩
  ·rw [AP.1 hx] at h;exact .inr h
 ·rintro (⟨x,hx,h⟩|h)
  ·exact ⟨x,by simp [hx],h⟩
  ·exact ⟨e,by simp,h⟩
theorem tP (l:List LEn):FolL l->(∀p,dV l 2 p↔0<=p/\p<iQ l 2)/\∀p,dV l 4 p->dV l 2 p:=by
 refine jX (p:=fun l=>FolL l->(∀p,dV l 2 p↔0<=p/\p<iQ l 2)/\∀p,dV l 4 p->dV l 2 p) (fun _=>⟨fun p=>⟨fun ⟨x,hx,_⟩=>(by cases hx),fun h=>(by have:iQ [] 2=0:=rfl;omega)⟩,fun p ⟨x,hx,_⟩=>(by cases hx)⟩) (fun l e ih h=>?_) l
 obtain ⟨h1,h2⟩:=h.init
 obtain ⟨ih1,ih2⟩:=ih h1
 constructor
 ·intro p
  rw [fE,eI,ih1 p]
  by_cases hk:e.k=2
  ·rw [Aj hk]
   have:=(h2.er hk).1
   omega
  ·rw [Af hk]
   omega
 ·intro p hp
  rw [fE] at hp ⊢
  rcases hp with hp|⟨hk,hp⟩
  ·exact .inl (ih2 p hp)
  ·exact .inl (hp▸(h2.co hk).1)
theorem bE3 {l:List LEn} {e:LEn} (h:FolL (l++[e])) {p:Int} (hp:dV l 4 p) (hk:e.k=3\/e.k=4\/e.k=2):e.plan≠p:=fun ep=>by
 obtain ⟨h1,h2⟩:=h.init
 obtain ⟨b1,b2⟩:=tP l h1
 rcases hk with hk|hk|hk
 ·exact (h2.st hk).1.2 (ep▸hp)
 ·exact (h2.co hk).2 (ep▸hp)
 ·have:=(h2.er hk).1
  have:=(b1 p).1 (b2 p hp)
  omega
theorem bR9 (l:List LEn):FolL l->(erasV l).length=(l.map fun e=>if e.k=2 then e.vs.length else 0).sum:=by
 refine jX (p:=fun l=>FolL l->(erasV l).length=(l.map fun e=>if e.k=2 then e.vs.length else 0).sum) (fun _=>rfl) (fun l e ih h=>?_) l
 obtain ⟨h1,h2⟩:=h.init
 rw [h2.more,ih h1,BQ,List.sum_append]
 simp
theorem yH {α:Type} (p q:α->Bool):∀l:List α,(l.filter fun x=>p x && !q x).length+(l.filter fun x=>p x&&q x).length=(l.filter p).length
 | []=>rfl
 | x::l=>by
  have ih:=yH p q l
  by_cases hp:p x=true
  ·by_cases hq:q x=true
   ·simp [hp,hq];omega
   ·simp [hp,hq];omega
  ·simp [hp];exact ih
theorem aO1 (p:Int) (l:List LEn):FolL l->(l.filter fun e=>decide (e.k=2)&&decide (e.plan=p)).length=if 0<=p/\p<iQ l 2 then 1 else 0:=by
 refine jX (p:=fun l=>FolL l->(l.filter fun e=>decide (e.k=2)&&decide (e.plan=p)).length=if 0<=p/\p<iQ l 2 then 1 else 0) (fun _=>?_) (fun l e ih h=>?_) l
 ·have:iQ [] 2=0:=rfl
  rw [Af aA];rfl
 ·obtain ⟨h1,h2⟩:=h.init
  rw [BK,Aa,ih h1,eI]
  by_cases hk:e.k=2
  ·have hp:=(h2.er hk).1
   by_cases he:e.plan=p
   ·rw [Af aA,Aj hk,Aj aA]
    simp [hk,he]
   ·rw [Aj hk]
    simp only [Bi,hk,decide_true,Bool.true_and,Bp,he,AY,Cb,Bo,BU]
    congr 1
    simp only [Bu]
    omega
  ·rw [Af hk]
   simp [hk]
open Classical in
theorem aT3 (l : List LEn) : FolL l -> (l.filter fun e => decide (e.k = 2) && !decide (dV l 4 e.plan)).length + iQ l 4 = iQ l 2 := by
  refine jX (p := fun l => FolL l -> (l.filter fun e => decide (e.k = 2) && !decide (dV l 4 e.plan)).length + iQ l 4 = iQ l 2) (fun _ => rfl) (fun l e ih h => ?_) l
  obtain ⟨h1, h2⟩ := h.init
  have ih := ih h1
  obtain ⟨b1, b2⟩ := tP l h1
  rw [eI, eI, BK, Aa]
  by_cases h4 : e.k = 4
  · obtain ⟨c1, c2⟩ := h2.co h4
    have hs := yH (fun x : LEn => decide (x.k = 2) && !decide (dV l 4 x.plan)) (fun x => decide (x.plan = e.plan)) l
    have e1 : (l.filter fun x => decide (x.k = 2) && !decide (dV (l ++ [e]) 4 x.plan)) = l.filter fun x => (decide (x.k = 2) && !decide (dV l 4 x.plan)) && !decide (x.plan = e.plan) := by
      refine CH fun x _ => ?_
      have : dV (l ++ [e]) 4 x.plan ↔ dV l 4 x.plan \/ x.plan = e.plan := by
        rw [fE]
        exact or_congr Cs ⟨fun h => h.2.symm, fun h => ⟨h4, h.symm⟩⟩
      have hd : decide (dV (l ++ [e]) 4 x.plan) = (decide (dV l 4 x.plan) || decide (x.plan = e.plan)) := by
        rw [<- Bool.decide_or, CQ]
        exact this
      rw [hd]
      cases decide (x.k = 2) <;> cases decide (dV l 4 x.plan) <;> cases decide (x.plan = e.plan) <;> rfl
    have e2 : (l.filter fun x => (decide (x.k = 2) && !decide (dV l 4 x.plan)) && decide (x.plan = e.plan)) = l.filter fun x => decide (x.k = 2) && decide (x.plan = e.plan) := by
      refine CH fun x _ => ?_
      by_cases q2 : x.plan = e.plan
      · rw [q2]; simp [c2]
      · simp [q2]
    have e3 := aO1 e.plan l h1
    rw [Aj ((b1 _).1 c1)] at e3
    rw [e2, e3] at hs
    rw [e1, Aj h4, Af aA]
    simp only [Bi, h4, show ¬ ((4 : Int) = 2) by decide, decide_false, Bool.false_and, AB, AY, Cb, Bo]
    omega
  · have e1 : (l.filter fun x => decide (x.k = 2) && !decide (dV (l ++ [e]) 4 x.plan)) = l.filter fun x => decide (x.k = 2) && !decide (dV l 4 x.plan) := by
      refine CH fun x _ => ?_
      have : dV (l ++ [e]) 4 x.plan ↔ dV l 4 x.plan := by
        rw [fE]
        exact ⟨fun h => h.elim id fun h => absurd h.1 h4, .inl⟩
      simp only [this]
    rw [e1, Af h4]
    by_cases hk : e.k = 2
    · have hp := (h2.er hk).1
      have hn : ¬ dV (l ++ [e]) 4 e.plan := fun h => by
        rw [fE] at h
        rcases h with h | h
        · have := (b1 _).1 (b2 _ h); omega
        · exact h4 h.1
      rw [Aj hk]
      simp only [Bi, hk, hn, decide_true, decide_false, Bool.not_false, Bool.and_self, B9, Cb, Au, Bo]
      omega
    · rw [Af hk]
      simp only [Bi, hk, decide_false, Bool.false_and, AB, AY, Cb, Bo]
      omega
end
theorem yU:∀(k u:Nat),u<128 ^ (k+1)->(rA u).length<=k+1
 | 0,u,h=>by rw [pB nS];simp
 | k+1,u,h=>by
  by_cases h1:u<128
  ·rw [pB h1];simp
  ·rw [rB h1,Au]
   have:=yU k (u / 128) (by rw [CB] at h;omega)
   omega
theorem aX {n:Int} (h:aS n):(bO n).length<=10:=by
 have h1:=bC1 h.1 h.2
 have h2:zz n<128 ^ (9+1):=Nat.lt_trans h1 aN
 exact yU 9 _ h2
theorem iO {n:Nat} (h:n<=1000000):(bO (n:Int)).length<=10:=aX ⟨by omega,by omega⟩
theorem vW {s:CZ} (h:s.length<=1000000):(pM s).length<=10+s.length:=by
 have:=iO h
 unfold pM
 rw [Aa]
 omega
theorem aH3 {v:Vl} (h:okP v):(pL v).length<=60:=by
 obtain ⟨k,n,t⟩:=v
 unfold pL
 unfold okP at h
 simp only at h ⊢
 rw [Aa]
 have hk:(bO k).length<=10:=aX (by unfold aS;omega)
 split
 ·have:=aX (n:=n) (by unfold aS;omega)
  omega
 ·split
  ·have:=vW (s:=t) aA
   omega
  ·simp only [Bo];omega
theorem oZ {i:Idf} (h:i.ns.length<=1000):(gC i).length<=1070:=by
 have h1:=vW (s:=i.ns) aA
 have h2:=aH3 (aJ1 i.v)
 unfold gC
 rw [Aa]
 omega
theorem mC {α:Type} {e:α->CZ} {m:Nat}:∀{l:List α},(∀x∈l,(e x).length<=m)->(l.flatMap e).length<=l.length*m
 | [],_=>by simp
 | x::l,h=>by
  have h1:=h x aO
  have h2:=mC (l:=l) fun y hy=>h y (by simp [hy])
  rw [Aw,Aa,Au,A9,CY]
  omega
structure LEn.sz (e:LEn):Prop where
 vs:e.vs.length<=1000
 ss:e.ss.length<=1000
 rq:e.rq.who.ns.length<=1000
 la:e.lk.a.ns.length<=1000
 lb:e.lk.b.ns.length<=1000
 hd:e.hd.who.ns.length<=1000
theorem tZ {e:LEn} (hw:e.wf) (hk:aS e.k) (hs:e.sz):(cW e).length<=100000:=by
 obtain ⟨a1,a2,a3⟩:=hw.h1
 obtain ⟨b1,b2,b3,b4⟩:=hw.rq
 have c1:=hw.lk
 obtain ⟨d1,d2,d3,d4,d5⟩:=hw.hd
 have e1:=hw.vs
 have e2:=hw.ss
 have f1:=hw.root
 obtain ⟨s1,s2,s3,s4,s5,s6⟩:=hs
 unfold cW
 simp only [Aa]
 have k1:=aX hk
 have k2:=aX a1
 have k3:=aX a2
 have k4:=aX a3
 have k5:(dC e).length<=90000:=by
  unfold dC
  split
  ·unfold nH
   simp only [Aa]
   have:=aX b1
   have:=aX b2
   have:=aX b3
   have:=aX b4
   have:=oZ s3
   omega
  ·split
   ·unfold jC
    simp only [Aa]
    have:=iO (n:=e.vs.length) aA
    have:=iO (n:=e.ss.length) aA
    have:=mC (e:=fI) (m:=30) (l:=e.vs) fun x hx=>by
     obtain ⟨p1,p2,p3⟩:=e1 x hx
     have:=aX p1
     have:=aX p2
     have:=aX p3
     unfold fI
     simp only [Aa]
     omega
    have:=mC (e:=fW) (m:=20) (l:=e.ss) fun x hx=>by
     obtain ⟨p1,p2⟩:=e2 x hx
     have:=aX p1
     have:=aX p2
     unfold fW
     simp only [Aa]
     omega
    omega
   ·split
    ·omega
    ·split
     ·unfold nG
      simp only [Aa]
      have:=aX c1
      have:=oZ s4
      have:=oZ s5
      have:(bO (if e.lk.rv=true then 1 else 0)).length<=10:=aX (by unfold aS;split<;>omega)
      omega
     ·split
      ·unfold nF
       simp only [Aa]
       have:=aX d1
       have:=aX d2
       have:=aX d3
       have:=aX d4
       have:=aX d5
       have:=oZ s6
       omega
      ·simp
 omega
theorem aZ5 {e:LEn} (hk:aS e.k) (h:(pEn (cW e)).isSome=true):1<=e.k/\e.k<=7:=by
 unfold pEn cW pIn at h
 rw [cN hk,Ak] at h
 by_cases hc:1<=e.k/\e.k<=7
 ·exact hc
 ·simp only [Af hc,Option.bind_none,Option.isSome_none] at h
  cases h
theorem bW2:∀{b:CZ} {i x:Nat} {p:Nat × CZ},i<=9->x<128 ^ i->pU i x b=some p->p.1<18446744073709551616
 | [],i,x,p,_,_,h=>by rw [pU] at h;cases h
 | c::b,i,x,p,hi,hx,h=>by
  rw [pU] at h
  by_cases hn:(i=9/\1<c.toNat)\/(0<i/\c.toNat=0)
  ·rw [Aj hn] at h;cases h
  ·rw [Af hn] at h
   by_cases h9:i=9
   ·subst h9
    have hc:c.toNat<=1:=by omega
    rw [Aj aA] at h
    injection h with h
    rw [<- h]
    have:(128:Nat) ^ 9=9223372036854775808:=by decide
    rw [this] at hx ⊢
    simp only
    rcases (show c.toNat=0\/c.toNat=1 by omega) with e|e<;>rw [e]<;>omega
   ·have hp:(128:Nat) ^ (i+1)<=128 ^ 9:=BV aN aA
    have h9':(128:Nat) ^ 9=9223372036854775808:=by decide
    have hs:(128:Nat) ^ (i+1)=128 ^ i*128:=CB ..
    have hb:∀d:Nat,d<128->x+d*128 ^ i<128 ^ (i+1):=fun d hd=>by
     rw [hs]
     have:d*128 ^ i<=127*128 ^ i:=Ba _ aA
     omega
    by_cases hc:c.toNat<128
    ·rw [Aj hc] at h
     injection h with h
     rw [<- h]
     have:=hb _ hc
     simp only
     omega
    ·rw [Af hc] at h
     exact bW2 aA (hb _ (Nat.mod_lt _ aN)) h
theorem fR {b:CZ} {p:Int × CZ} (h:cQ b=some p):aS p.1:=by
 unfold cQ at h
 obtain ⟨q,hq,rfl⟩:=As.1 h
 have:=bW2 aN aN hq
 unfold aS uz
 simp only
 split<;>omega
theorem bV5 {lo hi:Int} {b:CZ} {p:Int × CZ} (h:pIn lo hi b=some p):aS p.1/\lo<=p.1/\p.1<=hi:=by
 unfold pIn at h
 obtain ⟨q,hq,h⟩:=Ap.1 h
 split at h
 ·rename_i hc
  injection h with h
  rw [<- h]
  exact ⟨fR hq,hc⟩
 ·cases h
theorem cX4 {n:Nat} {b:CZ} {p:CZ × CZ} (h:pBy n b=some p):p.1.length=n:=by
 unfold pBy at h
 split at h
 ·rename_i hc
  injection h with h
  rw [<- h]
  simp only [A1]
  omega
 ·cases h
theorem aZ2 {b:CZ} {p:Idf × CZ} (h:pId b=some p):p.1.ns.length<=16:=by
 unfold pId pTx at h
 obtain ⟨q,hq,h⟩:=Ap.1 h
 obtain ⟨n,hn,hq⟩:=Ap.1 hq
 obtain ⟨v,hv,rfl⟩:=As.1 h
 have:=cX4 hq
 have:=bV5 hn
 simp only
 omega
theorem dL1 {b:CZ} {p:Ver × CZ} (h:pVr b=some p):aS p.1.t/\aS p.1.c/\aS p.1.s:=by
 unfold pVr at h
 obtain ⟨q,hq,h⟩:=Ap.1 h
 obtain ⟨r,hr,h⟩:=Ap.1 h
 obtain ⟨s,hs,rfl⟩:=As.1 h
 exact ⟨fR hq,fR hs,fR hr⟩
theorem dL0 {b:CZ} {p:Src × CZ} (h:pSr b=some p):aS p.1.t/\aS p.1.s:=by
 unfold pSr at h
 obtain ⟨q,hq,h⟩:=Ap.1 h
 obtain ⟨s,hs,rfl⟩:=As.1 h
 exact ⟨fR hq,fR hs⟩
theorem bV6 {α:Type} {f:CZ->Option (α × CZ)} {Q:α->Prop} (hf:∀{b p},f b=some p->Q p.1):∀{n:Nat} {b:CZ} {p:List α × CZ},wS f n b=some p->p.1.length=n/\∀x∈p.1,Q x
 | 0,b,p,h=>by
  rw [wS] at h
  injection h with h
  rw [<- h]
  exact ⟨rfl,fun x hx=>by simp at hx⟩
 | n+1,b,p,h=>by
  rw [wS] at h
  obtain ⟨q,hq,h⟩:=Ap.1 h
  obtain ⟨s,hs,rfl⟩:=As.1 h
  obtain ⟨h1,h2⟩:=bV6 hf hs
  refine ⟨by simp only [Au,h1],fun x hx=>?_⟩
  rcases A3.1 hx with rfl|hx
  ·exact hf hq
  ·exact h2 x hx
theorem cX5 {α:Type} {f:CZ->Option (α × CZ)} {Q:α->Prop} (hf:∀{b p},f b=some p->Q p.1) {m:Int} {b:CZ} {p:List α × CZ} (h:pLs f m b=some p):(p.1.length:Int)<=m/\∀x∈p.1,Q x:=by
 unfold pLs at h
 obtain ⟨q,hq,h⟩:=Ap.1 h
 obtain ⟨h1,h2⟩:=bV6 hf h
 have:=bV5 hq
 exact ⟨by omega,h2⟩
theorem aI2:aS 0:=by unfold aS;omega
theorem bV4 {b:CZ} {p:LEn × CZ} (h:pEn b=some p):p.1.wf/\(1<=p.1.k/\p.1.k<=7)/\p.1.sz:=by
 unfold pEn at h
 obtain ⟨k,hk,h⟩:=Ap.1 h
 obtain ⟨d,hd,h⟩:=Ap.1 h
 obtain ⟨pl,hp,h⟩:=Ap.1 h
 obtain ⟨st,hs,h⟩:=Ap.1 h
 have hk:=(bV5 hk).2
 have hd:=fR hd
 have hp:=fR hp
 have hs:=fR hs
 have z:=aI2
 have zr:root0.length=32:=rfl
 unfold kY at h
 split at h
 ·obtain ⟨x,hx,rfl⟩:=As.1 h
  unfold pRq at hx
  obtain ⟨a1,h1,hx⟩:=Ap.1 hx
  obtain ⟨a2,h2,hx⟩:=Ap.1 hx
  obtain ⟨a3,h3,hx⟩:=Ap.1 hx
  obtain ⟨a4,h4,hx⟩:=Ap.1 hx
  obtain ⟨a5,h5,rfl⟩:=As.1 hx
  have:=aZ2 h2
  exact ⟨⟨⟨hd,hp,hs⟩,⟨fR h1,fR h3,fR h4,fR h5⟩,z,⟨z,z,z,z,z⟩,fun v hv=>by simp at hv,fun v hv=>by simp at hv,zr⟩,hk,⟨An _,An _,by simp only;omega,An _,An _,An _⟩⟩
 ·split at h
  ·obtain ⟨v,hv,h⟩:=Ap.1 h
   obtain ⟨x,hx,rfl⟩:=As.1 h
   obtain ⟨v1,v2⟩:=cX5 (Q:=fun p:Ver=>aS p.t/\aS p.c/\aS p.s) dL1 hv
   obtain ⟨x1,x2⟩:=cX5 (Q:=fun p:Src=>aS p.t/\aS p.s) dL0 hx
   exact ⟨⟨⟨hd,hp,hs⟩,⟨z,z,z,z⟩,z,⟨z,z,z,z,z⟩,v2,x2,zr⟩,hk,⟨by simp only;omega,by simp only;omega,An _,An _,An _,An _⟩⟩
  ·split at h
   ·obtain ⟨x,hx,rfl⟩:=As.1 h
    exact ⟨⟨⟨hd,hp,hs⟩,⟨z,z,z,z⟩,z,⟨z,z,z,z,z⟩,fun v hv=>by simp at hv,fun v hv=>by simp at hv,cX4 hx⟩,hk,⟨An _,An _,An _,An _,An _,An _⟩⟩
   ·split at h
    ·obtain ⟨x,hx,rfl⟩:=As.1 h
     unfold pLk at hx
     obtain ⟨a1,h1,hx⟩:=Ap.1 hx
     obtain ⟨a2,h2,hx⟩:=Ap.1 hx
     obtain ⟨a3,h3,hx⟩:=Ap.1 hx
     obtain ⟨a4,h4,rfl⟩:=As.1 hx
     have:=aZ2 h1
     have:=aZ2 h2
     exact ⟨⟨⟨hd,hp,hs⟩,⟨z,z,z,z⟩,fR h3,⟨z,z,z,z,z⟩,fun v hv=>by simp at hv,fun v hv=>by simp at hv,zr⟩,hk,⟨An _,An _,An _,by simp only;omega,by simp only;omega,An _⟩⟩
    ·split at h
     ·obtain ⟨x,hx,rfl⟩:=As.1 h
      unfold pHd at hx
      obtain ⟨a1,h1,hx⟩:=Ap.1 hx
      obtain ⟨a2,h2,hx⟩:=Ap.1 hx
      obtain ⟨a3,h3,hx⟩:=Ap.1 hx
      obtain ⟨a4,h4,hx⟩:=Ap.1 hx
      obtain ⟨a5,h5,hx⟩:=Ap.1 hx
      obtain ⟨a6,h6,rfl⟩:=As.1 hx
      have:=aZ2 h3
      exact ⟨⟨⟨hd,hp,hs⟩,⟨z,z,z,z⟩,z,⟨fR h1,fR h2,fR h4,fR h5,fR h6⟩,fun v hv=>by simp at hv,fun v hv=>by simp at hv,zr⟩,hk,⟨An _,An _,An _,An _,An _,by simp only;omega⟩⟩
     ·injection h with h
      rw [<- h]
      exact ⟨⟨⟨hd,hp,hs⟩,⟨z,z,z,z⟩,z,⟨z,z,z,z,z⟩,fun v hv=>by simp at hv,fun v hv=>by simp at hv,zr⟩,hk,⟨An _,An _,An _,An _,An _,An _⟩⟩
end Go.Proofs.YtbgehdndimlgkaaGreat
namespace Go.Av
open Go Go.RowKit Go.MapKept
def dC5:TK->Value->Prop
 | .bool,.bool _=>True
 | .int k,.int k' _=>k'=k
 | .str,.string _=>True
 | _,_=>False
def dO9 (t:TK) (es:List (CV × AV)):Prop:=∀p∈es,∃x,p.1 = .v x/\dC5 t x
def MAt (k:Value) (v:AV):List (CV × AV)->Nat->Prop
 | [],_=>False
 | e::_,0=>e.1 = .v k/\e.2=v
 | e::es,j+1=>e.1 ≠ .v k/\MAt k v es j
def MNo (k:Value) (es:List (CV × AV)):Prop:=∀p∈es,p.1 ≠ .v k
theorem RepM.length {C:Cx}:∀{es:List (CV × AV)} {ms:List MapEntry},RepM C es ms->ms.length=es.length
 | [],ms,h=>by
  have:ms=[]:=h
  subst this;rfl
 | e::es,ms,h=>by
  obtain ⟨m,ms',rfl,_,_,h3⟩:=h
  rw [Au,Au,RepM.length h3]
theorem RepM.push {C:Cx} {a:CV} {b:AV} {m:MapEntry} (ha:RepC C.ok C.w a m.key) (hb:Rep C b m.val):∀{es:List (CV × AV)} {ms:List MapEntry},RepM C es ms->RepM C (es++[(a,b)]) (ms++[m])
 | [],ms,h=>by
  have:ms=[]:=h
  subst this
  exact ⟨m,[],rfl,ha,hb,rfl⟩
 | e::es,ms,h=>by
  obtain ⟨m',ms',rfl,h1,h2,h3⟩:=h
  exact ⟨m',ms'++[m],rfl,h1,h2,RepM.push ha hb h3⟩
theorem RepM.set {C:Cx} {a:CV} {b:AV} {m:MapEntry} (ha:RepC C.ok C.w a m.key) (hb:Rep C b m.val):∀{es:List (CV × AV)} {ms:List MapEntry} (j:Nat),RepM C es ms->RepM C (es.set j (a,b)) (ms.set j m)
 | [],ms,j,h=>by
  have:ms=[]:=h
  subst this
  cases j<;>rfl
 | e::es,ms,0,h=>by
  obtain ⟨m',ms',rfl,h1,h2,h3⟩:=h
  exact ⟨m,ms',rfl,ha,hb,h3⟩
 | e::es,ms,j+1,h=>by
  obtain ⟨m',ms',rfl,h1,h2,h3⟩:=h
  exact ⟨m',ms'.set j m,rfl,h1,h2,RepM.set ha hb j h3⟩
theorem TyOk.mapK {P:Di} {t:Dh} {e:TyE} (h:TyOk P t e) {k x:Dh} (hk:e.kind = .map k x):P.underlying t=some (.map k x):=by
 obtain ⟨d,hd,hk'⟩:=h.und
 rw [hk] at hk'
 cases d<;>simp [xV] at hk'
 obtain ⟨rfl,rfl⟩:=hk';exact hd
section
variable {P:Di} {tab:Tab} {ev:Evl} {h:aL} {d:Dg} {T ty:Dh} {x y z:Operand} {pos:String} {aft:Df} {gd:Da} {i id:Nat} {es:List (CV × AV)}
theorem aC5 {B:Bs} {dom:Nat->Prop} {M:Nat->Dn} {H:Nat->Option AObj} {w:World} {g:Nat} (hh:∀id o,lk h id=some o->dom id->H id=some o) (hc:ConcH B dom M H w) (ho:lk h id=some (.tab es)) (hd:dom id) (hM:M id=some g):∃ms t,w.heap[g]? = some (.map ms t)/\Stamped ms t/\RepM ⟨dom,M,aU B dom M H,w⟩ es ms.toList:=by
 obtain ⟨k,ms,t,e1,hb,hs,hr⟩:=hc.obj id _ hd (hh id _ ho hd)
 rw [hM] at e1
 injection e1 with e1
 subst e1
 exact ⟨ms,t,hb,hs,hr⟩
theorem oR {r:Option Operand} (hr:r=none):Adds P ⟨d,.makeMap T r,ty,pos,aft,gd⟩ ev h (.mh i) [(i,.tab [])] i (i+1):=by
 subst hr
 refine gF rfl fun B dom M H w a hh hc he=>⟨.map (some w.heap.size),w.alloc (.map #[] 0),some w.heap.size,by simp [execOp,Instr.makeMap,newObj,Sem.run,Result.andThen],eG _ _,fun g hg=>by injection hg with hg;omega,fun C hext hw hd hM=>⟨⟨w.heap.size,#[],0,rfl,?_,stamped_empty 0,rfl⟩,hd,w.heap.size,hM,rfl⟩⟩
 rw [hw];exact heap_alloc_new w _
theorem dF1 {e:TyE} {K E:Dh} (tb:bF P tab) (hT:aP tab T=some e) (hk:e.kind = .map K E) (hx:ev x=some (.mh id)) (ho:lk h id=some (.tab es)):Still P ⟨d,.call ⟨.builtin .len,#[x],#[T]⟩,ty,pos,aft,gd⟩ ev h (.c (.v (.int .i64 es.length))):=by
 intro B dom M H w a hh hc he
 have h1:=he x _ hx
 simp only [Rep] at h1
 obtain ⟨hid,g,hM,hp⟩:=h1
 obtain ⟨ms,t,hb,hs,hr⟩:=aC5 hh hc ho hid hM
 refine ⟨.int .i64 es.length,?_,by simp only [Rep,RepC]⟩
 have hl:=hr.length
 rw [A6] at hl
 simp [execOp,resolve,invoke,builtin,Builtin.len_,hp,run_underlying ((aK tb hT).mapK hk),Go.MapKept.run_getObj_map hb,goInt,hl]
end
section
variable {P:Di} {tab:Tab} {sz n:Nat} {env:Env} {h:aL} {dfs:bM} {K:AK} {ops:Dd} {rest:Dc} {T ty:Dh} {x y z:Operand} {pos:String} {aft:Df} {gd:Da} {id:Nat} {es es':List (CV × AV)}
end
end Go.Av
namespace Go.Av
open Go Go.RowKit
def dU8 (l:List (CZ)):Dp:=l.map fun s => .v (.string ⟨s.toArray⟩)
end Go.Av
namespace Go.Av
open Go Go.RowKit Go.MapKept
section
mutual
theorem AV.mp_id {b:Nat} {σ:Nat->Nat} (h:∀i,i<b->σ i=i):∀x:AV,x.ltB b=true->x.mp σ=x
 | .c x,_=>rfl
 | .ip cs off,_=>rfl
 | .junk,_=>rfl
 | .ref id off,hl=>by simp only [AV.ltB,AH] at hl;simp only [AV.mp,h id hl]
 | .own id off n size full,hl=>by simp only [AV.ltB,AH] at hl;simp only [AV.mp,h id hl]
 | .agg xs,hl=>by simp only [AV.ltB] at hl;simp only [AV.mp,AV.mps_id h xs hl]
 | .tup xs,hl=>by simp only [AV.ltB] at hl;simp only [AV.mp,AV.mps_id h xs hl]
 | .fn f xs,hl=>by simp only [AV.ltB] at hl;simp only [AV.mp,AV.mps_id h xs hl]
 | .yld id,hl=>by simp only [AV.ltB,AH] at hl;simp only [AV.mp,h id hl]
 | .mh id,hl=>by simp only [AV.ltB,AH] at hl;simp only [AV.mp,h id hl]
 | .bm f id,hl=>by simp only [AV.ltB,AH] at hl;simp only [AV.mp,h id hl]
theorem AV.mps_id {b:Nat} {σ:Nat->Nat} (h:∀i,i<b->σ i=i):∀xs:Dq,AV.ltBs b xs=true->AV.mps σ xs=xs
 | [],_=>rfl
 | x::xs,hl=>by
  simp only [AV.ltBs,Am] at hl
  simp only [AV.mps,AV.mp_id h x hl.1,AV.mps_id h xs hl.2]
end
mutual
theorem AV.ltB_mono {b N:Nat} (h:b<=N):∀x:AV,x.ltB b=true->x.ltB N=true
 | .c x,_=>rfl
 | .ip cs off,_=>rfl
 | .junk,_=>rfl
 | .ref id off,hl=>by simp only [AV.ltB,AH] at hl ⊢;omega
 | .own id off n size full,hl=>by simp only [AV.ltB,AH] at hl ⊢;omega
 | .agg xs,hl=>by simp only [AV.ltB] at hl ⊢;exact AV.ltBs_mono h xs hl
 | .tup xs,hl=>by simp only [AV.ltB] at hl ⊢;exact AV.ltBs_mono h xs hl
 | .fn f xs,hl=>by simp only [AV.ltB] at hl ⊢;exact AV.ltBs_mono h xs hl
 | .yld id,hl=>by simp only [AV.ltB,AH] at hl ⊢;omega
 | .mh id,hl=>by simp only [AV.ltB,AH] at hl ⊢;omega
 | .bm f id,hl=>by simp only [AV.ltB,AH] at hl ⊢;omega
theorem AV.ltBs_mono {b N:Nat} (h:b<=N):∀xs:Dq,AV.ltBs b xs=true->AV.ltBs N xs=true
 | [],_=>rfl
 | x::xs,hl=>by
  simp only [AV.ltBs,Am] at hl ⊢
  exact ⟨AV.ltB_mono h x hl.1,AV.ltBs_mono h xs hl.2⟩
end
def one (q n0 id:Nat):Nat:=if id=q then n0 else id
theorem one_ne {q n0 id:Nat} (h:id≠q):one q n0 id=id:=by simp [one,h]
abbrev Sub:=Value × Nat × Dp
def dO2 (size b:Nat):Nat->List Sub->List (CV × AV)
 | _,[]=>[]
 | j,s::L=>(.v s.1,.own (j+b) 0 s.2.1 size true)::dO2 size b (j+1) L
def dO1 (T:Dh) (b:Nat):Nat->List Sub->aL
 | _,[]=>[]
 | j,s::L=>(j+b,.row T s.2.2)::dO1 T b (j+1) L
def dU9 (size:Nat) (L:List Sub):List (CV × AV):=L.map fun s=>(.v s.1,.c (.sl size s.2.1 s.2.2))
section
variable {T:Dh} {size b:Nat}
end
def dV1 (T:Dh) (size b m:Nat) (L:List Sub):aL:=(m,.tab (dO2 size b 0 L))::dO1 T b 0 L
section
variable {T:Dh} {size b m:Nat} {L:List Sub}
end
section
variable {P:Di} {tab:Tab} {ev:Evl} {h:aL} {d:Dg} {T ty:Dh} {x y z:Operand} {pos:String} {aft:Df} {gd:Da} {i id:Nat} {es:List (CV × AV)}
end
end
section
def dV0 (L:List (Value × CV)):List (CV × AV):=L.map fun s=>(.v s.1,.c s.2)
section
variable {P:Di} {tab:Tab} {ev:Evl} {h:aL} {d:Dg} {T ty:Dh} {x y z:Operand} {pos:String} {aft:Df} {gd:Da} {i id:Nat} {es:List (CV × AV)}
theorem dF0 {e:TyE} {K E:Dh} {m:Nat} (tb:bF P tab) (hT:aP tab T=some e) (hk:e.kind = .map K E) (hx:ev x=some (.mh id)) (ho:lk h id=some (.tab es)) (hm:es.length=m):Still P ⟨d,.call ⟨.builtin .len,#[x],#[T]⟩,ty,pos,aft,gd⟩ ev h (.c (.v (.int .i64 m))):=by
 subst hm
 exact dF1 tb hT hk hx ho
end
section
variable {P:Di} {sz n:Nat} {env:Env} {h:aL} {dfs:bM} {K:AK} {ops:Dd} {rest:Dc} {d:Dg} {T ty:Dh} {x y z:Operand} {pos:String} {aft:Df} {gd:Da} {b:Bool}
theorem fQ (hh:AWL P ops sz (⟨d,.lookup T x y b,ty,pos,aft,gd⟩::rest) K n env h dfs):AWL P ops sz (⟨d,.lookup T x y b,ty,pos,aft,gd⟩::rest) K n env h dfs:=hh
theorem wJ (hh:AWL P ops sz (⟨d,.mapUpdate T x y z,ty,pos,aft,gd⟩::rest) K n env h dfs):AWL P ops sz (⟨d,.mapUpdate T x y z,ty,pos,aft,gd⟩::rest) K n env h dfs:=hh
theorem aB8 {r:Option Operand} (hh:AWL P ops sz (⟨d,.makeMap T r,ty,pos,aft,gd⟩::rest) K n env h dfs):AWL P ops sz (⟨d,.makeMap T r,ty,pos,aft,gd⟩::rest) K n env h dfs:=hh
end
end
section
structure KeyT (P:Di) (K:Dh) (κ:Type) where
 kc:κ->CV
 kv:κ->Value
 ok:κ->Prop
 inj:∀a b,ok a->ok b->kv a=kv b->a=b
 rep:∀(ok':Nat->Prop) (w:World) (a:κ) (u:Value),RepC ok' w (kc a) u->u=kv a
 repv:∀(ok':Nat->Prop) (w:World) (a:κ),RepC ok' w (kc a) (kv a)
 check:∀(w:World) (em:Bool) (a:κ),ok a->(Instr.checkKey em 10000 K (kv a)).run P w = .ok () w
 find:∀(w:World) (a:κ),ok a->∀es:List MapEntry,(∀e∈es,∃b,ok b/\e.key=kv b)->((Instr.findKey K (kv a) es).run P w = .ok none w/\∀e∈es,e.key≠kv a)\/∃j e,(Instr.findKey K (kv a) es).run P w = .ok (some (j,e.val)) w/\es[j]? = some e/\e.key=kv a
 stays:∀(w:World) (a:κ),ok a->(Instr.keyThatStays (kv a) (kv a)).run P w = .ok (kv a) w
abbrev bP4:CV := .v (.bool true)
def aD {κ:Type} (kc:κ->CV) (ks:List κ):List (CV × AV):=ks.map fun k=>(kc k,.c bP4)
def lQ {κ:Type} [DecidableEq κ] (ks:List κ) (k:κ):List κ:=if k∈ks then ks else ks++[k]
theorem rF {κ:Type} [DecidableEq κ] {ks:List κ} {k x:κ}:x∈lQ ks k↔x∈ks\/x=k:=by
 unfold lQ
 split
 ·rename_i h
  exact ⟨.inl,fun h'=>h'.elim (fun h=>h) fun e=>e▸h⟩
 ·simp
theorem cD {κ:Type} {kc:κ->CV} {N:Nat} {L:List κ}:(AObj.tab (aD kc L)).ltB N=true:=by simp [AObj.ltB,aD,AV.ltB]
theorem setT_mp {κ:Type} {kc:κ->CV} {σ:Nat->Nat} {L:List κ}:AObj.tab (aD kc L)=(AObj.tab (aD kc L)).mp σ:=by
 simp only [AObj.mp,aD,B6]
 congr 1
theorem aL0 {κ:Type} (kc:κ->CV) (L:List κ):(aD kc L).length=L.length:=Bb _
section
variable {P:Di} {K:Dh} {κ:Type} {C:Cx}
theorem pI (kt:KeyT P K κ):∀{ks:List κ} {ms:List MapEntry},RepM C (aD kt.kc ks) ms->ms.map (fun m=>(m.key,m.val))=ks.map fun k=>(kt.kv k,Value.bool true)
 | [],ms,h=>by
  have:ms=[]:=h
  subst this;rfl
 | k::ks,ms,h=>by
  obtain ⟨m,ms',rfl,h1,h2,h3⟩:=h
  rw [AD,AD,pI kt h3,kt.rep _ _ _ _ h1]
  simp only [Rep,RepC] at h2
  rw [h2]
section
variable (kt:KeyT P K κ) {ks:List κ} {ms:List MapEntry} (h:RepM C (aD kt.kc ks) ms)
include kt ks ms h
theorem aL1 {m:MapEntry} (hm:m∈ms):∃k∈ks,m.key=kt.kv k/\m.val = .bool true:=by
 have e:=pI kt h
 have:(m.key,m.val)∈ks.map fun k=>(kt.kv k,Value.bool true):=e▸By.2 ⟨m,hm,rfl⟩
 obtain ⟨k,hk,he⟩:=By.1 this
 injection he with e1 e2
 exact ⟨k,hk,e1.symm,e2.symm⟩
theorem bB0 {j:Nat} {m:MapEntry} (hm:ms[j]? = some m):∃k,ks[j]? = some k/\m.key=kt.kv k/\m.val = .bool true:=by
 have e:=congrArg (fun l=>l[j]?) (pI kt h)
 simp only [BS,hm,AN] at e
 cases hk:ks[j]? with
 | none=>rw [hk] at e;cases e
 | some k =>
  rw [hk] at e
  injection e with e
  injection e with e1 e2
  exact ⟨k,rfl,e1,e2⟩
theorem zP {k:κ} (hk:k∈ks):∃m∈ms,m.key=kt.kv k:=by
 have e:=pI kt h
 have:(kt.kv k,Value.bool true)∈ms.map fun m=>(m.key,m.val):=e▸By.2 ⟨k,hk,rfl⟩
 obtain ⟨m,hm,he⟩:=By.1 this
 injection he with e1 e2
 exact ⟨m,hm,e1⟩
end
end
section
variable {P:Di} {tab:Tab} {ev:Evl} {h:aL} {d:Dg} {T ty:Dh} {x y z:Operand} {pos:String} {aft:Df} {gd:Da} {i id:Nat} {κ:Type} [DecidableEq κ] {K E:Dh} {ks:List κ} {k:κ} {e:TyE}
section
variable (kt : KeyT P K κ) (tb : bF P tab) (hT : aP tab T = some e) (hk : e.kind = .map K E) (hz : ∀ w, (zeroValue E).run P w = .ok (.bool false) w) (hx : ev x = some (.mh id)) (ho : lk h id = some (.tab (aD kt.kc ks))) (hy : ev y = some (.c (kt.kc k))) (hok : kt.ok k) (hoks : ∀ q ∈ ks, kt.ok q)
include kt tb hT hk hz hx ho hy hok hoks
theorem aK6 :
    Still P ⟨d, .lookup T x y false, ty, pos, aft, gd⟩ ev h (.c (.v (.bool (decide (k ∈ ks))))) := by
  intro B dom M H w a hh hc he
  have h1 := he x _ hx
  have h2 := he y _ hy
  have h2 := kt.rep _ _ _ _ h2
  simp only [Rep] at h1
  obtain ⟨hid, g, hM, hp⟩ := h1
  obtain ⟨ms, t, hb, hs, hr⟩ := aC5 hh hc ho hid hM
  have hck := kt.check w ms.isEmpty k hok
  have hzr := hz
  have hent : ∀ m ∈ ms.toList, ∃ b, kt.ok b /\ m.key = kt.kv b := fun m hm => by
    obtain ⟨b, hb1, hb2, _⟩ := aL1 kt hr hm
    exact ⟨b, hoks b hb1, hb2⟩
  refine ⟨.bool (decide (k ∈ ks)), ?_, by simp only [Rep, RepC]⟩
  rcases kt.find w k hok ms.toList hent with ⟨f1, f2⟩ | ⟨j, m, f1, f2, f3⟩
  · have hn : k ∉ ks := fun hin => by
      obtain ⟨m, hm, e⟩ := zP kt hr hin
      exact f2 m hm e
    simp [execOp, Instr.lookup, hp, h2, run_underlying ((aK tb hT).mapK hk), Go.MapKept.run_getObj_map hb, hck, f1, hzr, hn]
  · obtain ⟨b, hb1, hb2, hb3⟩ := bB0 kt hr f2
    have hbk : b ∈ ks := Ag hb1
    have : b = k := kt.inj _ _ (hoks b hbk) hok (hb2.symm.trans f3)
    subst this
    simp [execOp, Instr.lookup, hp, h2, run_underlying ((aK tb hT).mapK hk), Go.MapKept.run_getObj_map hb, hck, f1, hb3, hbk]
theorem mY (hm : k ∈ ks) :
    Still P ⟨d, .lookup T x y false, ty, pos, aft, gd⟩ ev h (.c (.v (.bool true))) := by
  have := aK6 (d := d) (ty := ty) (pos := pos) (aft := aft) (gd := gd) kt tb hT hk hz hx ho hy hok hoks
  rwa [AU hm] at this
theorem lS (hm : k ∉ ks) :
    Still P ⟨d, .lookup T x y false, ty, pos, aft, gd⟩ ev h (.c (.v (.bool false))) := by
  have := aK6 (d := d) (ty := ty) (pos := pos) (aft := aft) (gd := gd) kt tb hT hk hz hx ho hy hok hoks
  rwa [Be hm] at this
end
omit [DecidableEq κ] in
theorem aK7 {m:Nat} {kc:κ->CV} (tb:bF P tab) (hT:aP tab T=some e) (hk:e.kind = .map K E) (hx:ev x=some (.mh id)) (ho:lk h id=some (.tab (aD kc ks))) (hm:ks.length=m):Still P ⟨d,.call ⟨.builtin .len,#[x],#[T]⟩,ty,pos,aft,gd⟩ ev h (.c (.v (.int .i64 m))) :=
 dF0 tb hT hk hx ho (by rw [aL0,hm])
theorem bQ9 (kt : KeyT P K κ) (tb : bF P tab) (hT : aP tab T = some e) (hk : e.kind = .map K E) (hx : ev x = some (.mh id)) (ho : lk h id = some (.tab (aD kt.kc ks))) (hy : ev y = some (.c (kt.kc k))) (hz : ev z = some (.c bP4)) (hok : kt.ok k) (hoks : ∀ q ∈ ks, kt.ok q) :
    bP P ⟨none, .mapUpdate T x y z, ty, pos, aft, gd⟩ ev h .junk [] (some (id, some (.tab (aD kt.kc (lQ ks k))))) i i := by
  intro B dom M H w a K' Q hh hn c1 he hK'
  have h1 := he x _ hx
  have h2 := he y _ hy
  have h2 := kt.rep _ _ _ _ h2
  have h3 := he z _ hz
  simp only [Rep, RepC] at h1 h3
  obtain ⟨hid, g, hM, hp⟩ := h1
  obtain ⟨ms, t, hb, hs, hr⟩ := aC5 hh c1 ho hid hM
  have hck := kt.check w false k hok
  have hent : ∀ m ∈ ms.toList, ∃ b, kt.ok b /\ m.key = kt.kv b := fun m hm => by
    obtain ⟨b, hb1, hb2, _⟩ := aL1 kt hr hm
    exact ⟨b, hoks b hb1, hb2⟩
  have fin : ∀ (ms' : Array MapEntry) (t' : Nat), Stamped ms' t' -> (∀ C, RepM C (aD kt.kc ks) ms.toList -> RepM C (aD kt.kc (lQ ks k)) ms'.toList) ->
      (execOp a.eval ⟨none, .mapUpdate T x y z, ty, pos, aft, gd⟩).run P w = .ok .skip { w with heap := w.heap.setIfInBounds g (.map ms' t') } -> Oper.wp P ⟨none, .mapUpdate T x y z, ty, pos, aft, gd⟩ a w K' Q := by
    intro ms' t' hst hrm hrun
    obtain ⟨q1, q2⟩ := heap_set (o' := .map ms' t') hb
    unfold Oper.wp
    rw [hrun, Oper.upon_skip]
    obtain ⟨k1, k2⟩ := c1.turnE (o' := .tab (aD kt.kc (lQ ks k))) (w' := { w with heap := w.heap.setIfInBounds g (.map ms' t') }) hid (hh _ _ ho hid) hM rfl rfl rfl aO (fun k hk => q2 k hk) (by unfold World.shape?; simp only [q1, hb])
      (fun hext => ⟨g, _, _, rfl, q1, hst, hrm _ (RepM.ext hext _ _ hr)⟩)
    rw [dF] at hK'
    exact aX0
  rcases kt.find w k hok ms.toList hent with ⟨f1, f2⟩ | ⟨j, m, f1, f2, f3⟩
  · have hn : k ∉ ks := fun hin => by
      obtain ⟨m, hm, e⟩ := zP kt hr hin
      exact f2 m hm e
    have hset := Go.MapKept.run_setObj_map (P := P) (.map (ms.push { key := kt.kv k, val := .bool true, born := t }) (t + 1)) hb
    refine fin (ms.push { key := kt.kv k, val := .bool true, born := t }) (t + 1) (stamped_push hs f2) (fun C hC => ?_) ?_
    · rw [Array.toList_push, lQ, Af hn, aD, BQ]
      exact RepM.push (kt.repv _ _ k) (by simp only [Rep, RepC]) hC
    · simp [execOp, Instr.mapUpdate, hp, h2, h3, run_underlying ((aK tb hT).mapK hk), Go.MapKept.run_getObj_map hb, hck, f1, hset]
  · obtain ⟨b, hb1, hb2, hb3⟩ := bB0 kt hr f2
    have hbk : b ∈ ks := Ag hb1
    have : b = k := kt.inj _ _ (hoks b hbk) hok (hb2.symm.trans f3)
    subst this
    have f2' : ms[j]? = some m := by rw [<- BM]; exact f2
    have hst := kt.stays w b hok
    have hset := Go.MapKept.run_setObj_map (P := P) (.map (ms.modify j fun e => { e with key := kt.kv b, val := .bool true }) t) hb
    have hls : ms.modify j (fun e => { e with key := kt.kv b, val := .bool true }) = ms := by
      apply Array.ext'
      apply Cf
      intro q
      rw [BM, BL, BM]
      by_cases hq : j = q
      · subst hq
        rw [Aj rfl, f2']
        obtain ⟨mk, mv, mb⟩ := m
        simp only at f3 hb3
        subst f3 hb3
        rfl
      · rw [Af hq]
    refine fin ms t hs (fun C hC => by rw [lQ, Aj hbk]; exact hC) ?_
    rw [hls] at hset
    simp [execOp, Instr.mapUpdate, hp, h2, h3, run_underlying ((aK tb hT).mapK hk), Go.MapKept.run_getObj_map hb, hck, f1, f2', f3, hst, hls, hset]
end
section
variable {P:Di} {tab:Tab} {sz n i n0 m:Nat} {env env0:Env} {h h0 hr:aL} {dfs:bM} {K:AK} {ops:Dd} {l rest:Dc} {es:List Eat} {ids:De} {T ty:Dh} {x y z:Operand} {pos:String} {aft:Df} {gd:Da} {id:Nat} {κ:Type} [DecidableEq κ] {K1 E:Dh} {ks:List κ} {k:κ} {e:TyE}
theorem kP (kt : KeyT P K1 κ) (tb : bF P tab) (hg : guardA ops env ⟨none, .mapUpdate T x y z, ty, pos, aft, gd⟩ true) (hT : aP tab T = some e) (hk : e.kind = .map K1 E) (hx : evA env x = some (.mh id)) (ho : lk h id = some (.tab (aD kt.kc ks))) (hy : evA env y = some (.c (kt.kc k))) (hz : evA env z = some (.c bP4)) (hok : kt.ok k) (hoks : ∀ q ∈ ks, kt.ok q)
    (next : AWL P ops sz rest K n env ((id, .tab (aD kt.kc (lQ ks k))) :: h) dfs) : AWL P ops sz (⟨none, .mapUpdate T x y z, ty, pos, aft, gd⟩ :: rest) K n env h dfs :=
  jK (v := .junk) (c := some (id, some (AObj.tab (aD kt.kc (lQ ks k))))) (Δ := []) hg rfl (Ae _) rfl (bQ9 kt tb hT hk hx ho hy hz hok hoks) (fun id h1 h2 => by omega) aO next
end
end
def dD0 {P:Di} {K:Dh} (hd:P.underlying K=some (.int .i64)):KeyT P K Int where
 kc n := .v (.int .i64 n)
 kv n := .int .i64 n
 ok _:=True
 inj a b _ _ h:=by injection h
 rep ok' w a u h:=by simpa only [RepC] using h
 repv ok' w a:=by simp only [RepC]
 check w em a _:=run_checkKey hd (show IsKey (.int .i64) (.int .i64 a) from rfl) em 9999
 find w a _ es hes:=by
  rcases findNow_spec (d := .int .i64) (k := .int .i64 a) rfl es 0 (fun x hx=>by obtain ⟨b,_,hb⟩:=hes x hx;rw [hb];rfl) with ⟨h1,h2⟩|⟨j,e,h1,h2,h3⟩
  ·exact .inl ⟨run_findKey hd h1,h2⟩
  ·exact .inr ⟨j,e,by rw [Al] at h1;exact run_findKey hd h1,h2,h3⟩
 stays w a _:=run_keyThatStays (d := .int .i64) rfl
def sK (P:Di) (K I n:Nat):Bool:=match P.underlying K with
 | some (.struct fs) => fs.all fun f => f.name != "_" && (Nat.beq f.type I && Nat.blt f.offset n)
 | some (.array m e)=>Nat.beq e I&&Nat.beq m n
 | _=>false
theorem uF {α β:Type} {g:α->Option β}:∀{L:List α},(∀x∈L,∃y,g x=some y)->∃ys,L.mapM g=some ys
 | [],_=>⟨[],rfl⟩
 | x::L,h=>by
  obtain ⟨y,hy⟩:=h x aO
  obtain ⟨ys,hys⟩:=uF (L:=L) fun z hz=>h z (by simp [hz])
  exact ⟨y::ys,by simp [Ci,hy,hys]⟩
def cX8 (n:Int):Prop := -9223372036854775808<=n/\n<=9223372036854775807
theorem mS {P : Di} {K I n : Nat} (hs : sK P K I n = true) (hI : P.underlying I = some (.int .i64)) (hsI : P.cellsOf I = 1) (hsK : P.cellsOf K = n) (hk : P.keyType K = true) (hsz : 1 <= P.types.size) (vs : List Int) (hl : vs.length = n) (hv : ∀ v ∈ vs, cX8 v) :
    ∃ l, keyOf P K (.agg (vs.map fun v => Value.int .i64 v).toArray) = some l := by
  obtain ⟨d, hd⟩ : ∃ d, P.types.size = d + 1 := ⟨P.types.size - 1, by omega⟩
  have hcl : (vs.map fun v => Value.int .i64 v).length = n := by rw [Bb, hl]
  have hone : ∀ i, i < n -> ∃ l, P.keyLits (d + 1) I (((vs.map fun v => Value.int .i64 v).drop i).take 1) = some l := fun i hi => by
    obtain ⟨v, hv'⟩ : ∃ v, vs[i]? = some v := ⟨_, Ab aA⟩
    obtain ⟨b1, b2⟩ := hv v (Ag hv')
    have e : ((vs.map fun v => Value.int .i64 v).drop i).take 1 = [.int .i64 v] := by
      have h1 : (vs.map fun v => Value.int .i64 v)[i]? = some (.int .i64 v) := by rw [BS, hv']; rfl
      obtain ⟨h2, h3⟩ := Ad.1 h1
      rw [B3 h2, B2, List.take_zero, h3]
    rw [e]
    refine ⟨[.int .i64 v], ?_⟩
    have hw : (Lit.int .i64 v).wf = true := by
      have e1 : IntKind.i64.min = -9223372036854775808 := by decide
      have e2 : IntKind.i64.max = 9223372036854775807 := by decide
      simp only [Lit.wf, e1, e2, Bp, Am]
      omega
    simp [Program.keyLits, hI, hw]
  have key : ∀ L, (P.keyLits (P.types.size + 1) K (vs.map fun v => Value.int .i64 v)) = some L -> (Value.agg (vs.map fun v => Value.int .i64 v).toArray).formed P K = true -> (match P.underlying K with | some (.array _ _) | some (.struct _) => true | _ => false) = true -> ∃ l, keyOf P K (.agg (vs.map fun v => Value.int .i64 v).toArray) = some l := fun L h1 h2 h3 => by
    unfold keyOf
    split at h3
    · rename_i h; rw [h]; simp [hk, h2, Value.cells, h1]
    · rename_i h; rw [h]; simp [hk, h2, Value.cells, h1]
    · cases h3
  unfold sK at hs
  split at hs
  · rename_i fs hu
    rw [CD] at hs
    have hf : ∀ f ∈ fs, (f.name != "_") = true ∧ f.type = I ∧ f.offset < n := fun f hf => by
      have := hs f hf
      simp only [Am, AH] at this
      exact ⟨this.1, Ac this.2.1, this.2.2⟩
    obtain ⟨ys, hys⟩ := uF (L := fs.toList) (g := fun f => P.keyLits (d + 1) f.type (((vs.map fun v => Value.int .i64 v).drop f.offset).take (P.cellsOf f.type))) fun f hfm => by
      obtain ⟨_, h2, h3⟩ := hf f (Array.mem_def.2 hfm)
      rw [h2, hsI]
      exact hone _ h3
    refine key ys.flatten ?_ ?_ ?_
    · rw [hd]
      unfold Program.keyLits
      rw [hu]
      simp only
      rw [Aj ⟨by rw [hcl, hsK], by rw [CD]; exact fun f hfm => (hf f hfm).1⟩, hys]
      rfl
    · simp [Value.formed, hu, hsK, hl]
    · rw [hu]
  · rename_i m e hu
    simp only [Am] at hs
    have he := Ac hs.1
    have hm := Ac hs.2
    subst he hm
    obtain ⟨ys, hys⟩ := uF (L := List.range m) (g := fun i => P.keyLits (d + 1) e (((vs.map fun v => Value.int .i64 v).drop (i * P.cellsOf e)).take (P.cellsOf e))) fun i hi => by
      rw [hsI, A4]
      exact hone i (A5.1 hi)
    refine key ys.flatten ?_ ?_ ?_
    · rw [hd]
      unfold Program.keyLits
      rw [hu]
      simp only
      rw [Aj (by rw [hcl, hsK]), hys]
      rfl
    · simp [Value.formed, hu, hsK, hl]
    · rw [hu]
  · cases hs
def aC0 {P:Di} {K I n:Nat} {κ:Type} (law:WideMaps.KeyLaw P K) (hs:sK P K I n=true) (hI:P.underlying I=some (.int .i64)) (hsI:P.cellsOf I=1) (hsK:P.cellsOf K=n) (hk:P.keyType K=true) (hsz:Nat.ble 1 P.types.size=true) (ls:κ->List Int) (hl:∀a,(ls a).length=n) (hi:∀a b,ls a=ls b->a=b):KeyT P K κ where
 kc a := .agg ((ls a).map fun v => .v (.int .i64 v))
 kv a := .agg ((ls a).map fun v=>Value.int .i64 v).toArray
 ok a:=∀v∈ls a,cX8 v
 inj a b _ _ h:=by
  refine hi a b ?_
  injection h with h
  have h:=congrArg Array.toList h
  simp only [BX] at h
  exact List.map_inj_right (fun x y e=>by injection e) |>.1 h
 rep ok' w a u h:=by
  have h:∃us:Db,u = .agg us.toArray/\RepCs ok' w ((ls a).map fun v=>CV.v (.int .i64 v)) us/\∀x∈us,x.oneCell'=true:=by simpa only [RepC] using h
  obtain ⟨us,rfl,h,_⟩:=h
  congr 2
  have:∀(l:List Int) (us:Db),RepCs ok' w (l.map fun v=>CV.v (.int .i64 v)) us->us=l.map fun v=>Value.int .i64 v:=by
   intro l
   induction l with
   | nil=>intro us h;exact h
   | cons x l ih =>
    intro us h
    obtain ⟨u,us',rfl,h1,h2⟩:=h
    simp only [RepC] at h1
    rw [h1,ih us' h2]
    rfl
  exact this _ _ h
 repv ok' w a:=by
  have:RepC ok' w (.agg ((ls a).map fun v=>CV.v (.int .i64 v))) (.agg ((ls a).map fun v=>Value.int .i64 v).toArray)↔∃us:Db,Value.agg ((ls a).map fun v=>Value.int .i64 v).toArray = .agg us.toArray/\RepCs ok' w ((ls a).map fun v=>CV.v (.int .i64 v)) us/\∀x∈us,x.oneCell'=true:=by simp only [RepC]
  refine this.2 ⟨_,rfl,?_,fun x hx=>?_⟩
  ·generalize ls a=l
   induction l with
   | nil=>rfl
   | cons x l ih=>exact ⟨_,_,rfl,by simp only [RepC],ih⟩
  ·obtain ⟨v,_,rfl⟩:=By.1 hx
   rfl
 check w em a ha:=by
  obtain ⟨l,hl'⟩:=mS hs hI hsI hsK hk (AA hsz) (ls a) (hl a) ha
  exact law.check w em hl'
 find w a ha es hes:=by
  obtain ⟨l,hl'⟩:=mS hs hI hsI hsK hk (AA hsz) (ls a) (hl a) ha
  exact law.find w hl' es fun e he=>by
   obtain ⟨b,hb1,hb2⟩:=hes e he
   rw [hb2]
   exact mS hs hI hsI hsK hk (AA hsz) (ls b) (hl b) hb1
 stays w a ha:=by
  obtain ⟨l,hl'⟩:=mS hs hI hsI hsK hk (AA hsz) (ls a) (hl a) ha
  exact law.stays w hl'
end Go.Av
namespace Go.Av
open Go Go.RowKit
inductive LfK where
 | b
 | i (q:Dj)
 | s
def lH (P:Di):Nat->Dh->List LfK
 | 0,_=>[]
 | m+1,t=>match P.underlying t with
  | some .bool=>[.b]
  | some (.int q)=>[.i q]
  | some .string=>[.s]
  | some (.array n e)=>(List.range n).flatMap fun _=>lH P m e
  | some (.struct fs)=>fs.toList.flatMap fun f=>lH P m f.type
  | _=>[]
def dR7:LfK->Value->Prop
 | .b,.bool _=>True
 | .i q,.int q' n=>q'=q/\(Lit.int q n).wf=true
 | .s,.string s=>s.size<=maxLen
 | _,_=>False
def LfL:List LfK->Db->Prop
 | [],[]=>True
 | k::ks,v::vs=>dR7 k v/\LfL ks vs
 | _,_=>False
theorem LfL.length:∀{ks:List LfK} {vs:Db},LfL ks vs->ks.length=vs.length
 | [],[],_=>rfl
 | k::ks,v::vs,h=>by simp [LfL.length h.2]
 | [],_::_,h=>h.elim
 | _::_,[],h=>h.elim
theorem LfL.split:∀{p q:List LfK} {vs:Db},LfL (p++q) vs->LfL p (vs.take p.length)/\LfL q (vs.drop p.length)
 | [],q,vs,h=>by simpa [LfL] using h
 | a::p,q,[],h=>h.elim
 | a::p,q,v::vs,h=>by
  obtain ⟨h1,h2⟩:=LfL.split (p:=p) h.2
  exact ⟨⟨h.1,h1⟩,h2⟩
variable {P:Di}
theorem aK2:∀(fs:List Field) (off tot:Nat),P.runs off fs=some tot->off+(fs.map fun f=>P.cellsOf f.type).sum=tot
 | [],off,tot,h=>by simpa [Program.runs] using h
 | f::r,off,tot,h=>by
  simp only [Program.runs] at h
  split at h
  ·have:=aK2 r _ _ h
   simp only [AD,C3]
   omega
  ·cases h
theorem wF {α:Type} {f:α->List LfK}:∀l:List α,(l.flatMap f).length=(l.map fun x=>(f x).length).sum
 | []=>rfl
 | x::l=>by rw [Aw,Aa,wF l,AD,C3]
theorem zU {c:Nat}:∀l:De,(l.map fun _=>c).sum=l.length*c
 | []=>by simp
 | x::l=>by rw [AD,C3,zU l,Au,A9,CY,C9]
def xU (P:Di):Nat->Dh->Bool
 | 0,_=>true
 | m+1,t=>match P.underlying t with
  | some .bool|some (.int _)|some .string=>Nat.beq (P.cellsOf t) 1
  | some (.array _ e)=>xU P m e
  | some (.struct fs)=>fs.all fun f=>xU P m f.type
  | _=>true
theorem kM:∀(m:Nat) (t:Dh),P.tiled m t=true->xU P m t=true->(lH P m t).length=P.cellsOf t
 | 0,t,h,_=>by simp [Program.tiled] at h
 | m+1,t,h,ho=>by
  unfold Program.tiled at h
  unfold xU at ho
  unfold lH
  cases hu:P.underlying t with
  | none=>simp [hu] at h
  | some kd =>
   cases kd
   case bool=>simp only [hu] at ho;exact (Ac ho).symm
   case int q=>simp only [hu] at ho;exact (Ac ho).symm
   case string=>simp only [hu] at ho;exact (Ac ho).symm
   case array n e =>
    simp only [hu,Am,CT] at h ho
    simp only
    rw [wF,kM m e h.2 ho,zU,Cu,h.1]
   case struct fs =>
    simp only [hu,Am,CT] at h ho
    simp only
    rw [wF]
    have h1:=aK2 _ _ _ h.1
    rw [Al] at h1
    rw [<- h1]
    congr 1
    refine List.map_congr_left fun f hf=>?_
    exact kM m f.type (Bf.1 h.2 f (BA.1 hf)) (Bf.1 ho f (BA.1 hf))
   all_goals (simp [hu] at h;done)
theorem tG {g:Field->List LfK} {D:Nat} (cs:Db):∀(fs:List Field) (off tot:Nat),P.runs off fs=some tot->(∀f∈fs,(g f).length=P.cellsOf f.type)->(∀f∈fs,∀vs,LfL (g f) vs->∃l,P.keyLits D f.type vs=some l)->LfL (fs.flatMap g) (cs.drop off)->∃ys,fs.mapM (fun f=>P.keyLits D f.type ((cs.drop f.offset).take (P.cellsOf f.type)))=some ys
 | [],off,tot,_,_,_,_=>⟨[],rfl⟩
 | f::r,off,tot,h,hl,hk,hL=>by
  simp only [Program.runs] at h
  split at h
  ·rename_i ho
   rw [Aw] at hL
   obtain ⟨h1,h2⟩:=hL.split
   rw [hl f aO] at h1 h2
   rw [BJ] at h2
   obtain ⟨y,hy⟩:=hk f aO _ h1
   obtain ⟨ys,hys⟩:=tG cs r _ tot h (fun f hf=>hl f (by simp [hf])) (fun f hf=>hk f (by simp [hf])) h2
   exact ⟨y::ys,by rw [Ci,ho,hy,hys];rfl⟩
  ·cases h
theorem wL {ks:List LfK} {D c:Nat} {e:Dh} (hc:ks.length=c) (hk:∀vs,LfL ks vs->∃l,P.keyLits D e vs=some l) (cs:Db):∀(n j:Nat),LfL ((List.range n).flatMap fun _=>ks) (cs.drop (j*c))->∀i,i<n->∃l,P.keyLits D e ((cs.drop ((j+i)*c)).take c)=some l
 | 0,j,_,i,hi=>by omega
 | n+1,j,hL,i,hi=>by
  rw [List.range_succ_eq_map,Aw,List.flatMap_map] at hL
  obtain ⟨h1,h2⟩:=hL.split
  rw [hc] at h1 h2
  cases i with
  | zero=>rw [BU];exact hk _ h1
  | succ i =>
   rw [BJ,show j*c+c=(j+1)*c by rw [A9,CY]] at h2
   rw [show j+(i+1)=j+1+i by omega]
   exact wL hc hk cs n (j+1) h2 i aA
theorem kH:∀(m:Nat) (t:Dh),P.tiled m t=true->P.keyTypeAt m t=true->xU P m t=true->∀vs,LfL (lH P m t) vs->∃l,P.keyLits m t vs=some l
 | 0,t,h,_,_,_,_=>by simp [Program.tiled] at h
 | m+1,t,h,hk,ho,vs,hL=>by
  have hlen:=kM (m+1) t h ho
  have hvl:=hL.length
  unfold Program.tiled at h
  unfold Program.keyTypeAt at hk
  unfold xU at ho
  unfold lH at hL hlen hvl
  unfold Program.keyLits
  cases hu:P.underlying t with
  | none=>simp [hu] at h
  | some kd =>
   cases kd
   case bool =>
    simp only [hu] at hL
    match vs,hL with
    | [.bool b],_=>exact ⟨_,rfl⟩
   case int q =>
    simp only [hu] at hL
    match vs,hL with
    | [.int q' n],hL=>exact ⟨_,Aj hL.1⟩
   case string =>
    simp only [hu] at hL
    match vs,hL with
    | [.string s],hL=>exact ⟨_,Aj hL.1⟩
   case array n e =>
    simp only [hu,Am,CT] at h hk ho hL hlen hvl
    obtain ⟨ys,hys⟩:=uF (L:=List.range n) (g:=fun i=>P.keyLits m e ((vs.drop (i*P.cellsOf e)).take (P.cellsOf e))) fun i hi=>by
     have:=wL (kM m e h.2 ho) (fun vs hv=>kH m e h.2 hk ho vs hv) vs n 0 (by simpa using hL) i (A5.1 hi)
     rwa [Al] at this
    simp only
    rw [Aj aA,hys]
    exact ⟨_,rfl⟩
   case struct fs =>
    simp only [hu,Am,CT] at h hk ho hL hlen hvl
    have ht:=fun f (hf:f∈fs.toList)=>Bf.1 h.2 f (BA.1 hf)
    have hof:=fun f (hf:f∈fs.toList)=>Bf.1 ho f (BA.1 hf)
    have hkf:=fun f (hf:f∈fs.toList)=>by
     have:=Bf.1 hk.1.1 f (BA.1 hf)
     exact C4.1 this
    obtain ⟨ys,hys⟩:=tG (D:=m) vs fs.toList 0 _ h.1 (fun f hf=>kM m f.type (ht f hf) (hof f hf)) (fun f hf vs hv=>kH m f.type (ht f hf) (hkf f hf).2 (hof f hf) vs hv) (by simpa using hL)
    simp only
    rw [Aj ⟨by omega,Bf.2 fun f hf=>(hkf f (BA.2 hf)).1⟩,hys]
    exact ⟨_,rfl⟩
   all_goals (simp [hu] at h;done)
def aM5 (P:Di) (t:Dh):Bool:=match P.underlying t with
 | some (.array _ _)|some (.struct _)=>true
 | _=>false
section
variable {m:Nat} {t:Dh} (hm:Nat.ble m 10000=true) (ht:P.tiled m t=true) (hk:P.keyTypeAt m t=true) (ho:xU P m t=true) (hw:aM5 P t=true) {xs ys:Db} (hx:LfL (lH P m t) xs) (hy:LfL (lH P m t) ys) (w:World) {r:Bool} (hr:r=true↔xs=ys)
include m t hm ht hk ho hw xs ys hx hy w r hr
theorem wX:(Op.equalIn 10000 t (.agg xs.toArray) (.agg ys.toArray)).run P w = .ok r w:=by
 have hm:m<=10000:=by simpa using hm
 obtain ⟨lx,h1⟩:=kH m t ht hk ho xs hx
 obtain ⟨ly,h2⟩:=kH m t ht hk ho ys hy
 have fm:∀vs:Db,LfL (lH P m t) vs->(Value.agg vs.toArray).formed P t=true:=fun vs hv=>by
  have hl:=hv.length
  rw [kM m t ht ho] at hl
  unfold aM5 at hw
  unfold Value.formed
  split at hw
  ·rename_i hu;simp [hu,hl]
  ·rename_i hu;simp [hu,hl]
  ·cases hw
 obtain ⟨r',hr',hiff⟩:=run_equalIn_deep (10000-m) m t hk w m m (.agg xs.toArray) (.agg ys.toArray) lx ly (fm xs hx) (fm ys hy) (by simpa [Value.cells] using h1) (by simpa [Value.cells] using h2)
 rw [show 10000-m+m=10000 by omega] at hr'
 rw [hr']
 have e1:=cells_of_lits m t ht m _ _ h1
 have e2:=cells_of_lits m t ht m _ _ h2
 have h3:lx=ly↔xs=ys:=⟨fun h=>by rw [e1,e2,h],fun h=>by rw [h,h2] at h1;injection h1 with h1;exact h1.symm⟩
 have:r'=r:=CU.2 (hiff.trans (h3.trans hr.symm))
 rw [this]
theorem bY0:(binOp .eql t (.agg xs.toArray) (.agg ys.toArray)).run P w = .ok (.bool r) w:=by
 rw [run_eql_struct,wX hm ht hk ho hw hx hy w hr];rfl
theorem bY2:(binOp .neq t (.agg xs.toArray) (.agg ys.toArray)).run P w = .ok (.bool (!r)) w:=by
 rw [run_neq_struct,wX hm ht hk ho hw hx hy w hr];rfl
end
section
variable {ev:Evl} {h:aL} {d:Dg} {T ty:Dh} {x y:Operand} {pos:String} {aft:Df} {gd:Da} {ks:List LfK} {m:Nat} {xs ys:Db} {cs cs':Dp} {b:Bool} {T':Dh} (hg:P.eqGuardType P.depth T=false) (hm:Nat.ble m 10000=true) (ht:P.tiled m T=true) (hk:P.keyTypeAt m T=true) (ho:xU P m T=true) (hw:aM5 P T=true) (hL:lH P m T=ks) (hx:ev x=some (.c (.agg cs))) (hy:ev y=some (.c (.agg cs'))) (hcx:cs=xs.map CV.v) (hcy:cs'=ys.map CV.v) (hlx:LfL ks xs) (hly:LfL ks ys)
include hg hm ht hk ho hw hL hx hy hcx hcy hlx hly
theorem dE8 (hb:b=true↔xs=ys):Still P ⟨d,.binOp .eql T x y T',ty,pos,aft,gd⟩ ev h (.c (.v (.bool b))):=by
 intro B dom M H w a hh hc he
 have h1:=he x _ hx
 have h2:=he y _ hy
 subst hcx hcy hL
 simp only [Rep,RepC] at h1 h2
 obtain ⟨us,h1,h3,_⟩:=h1
 obtain ⟨vs,h2,h4,_⟩:=h2
 have h3:=RepCs.of_plain h3
 have h4:=RepCs.of_plain h4
 subst h3 h4
 refine ⟨_,?_,rfl⟩
 have:=bY0 hm ht hk ho hw hlx hly w hb
 simp only [execOp,h1,h2,Sem.run_bind,sJ (P:=P) w hg,Result.andThen_ok,this]
 rfl
theorem bZ4 (hb:b=true↔xs=ys):Still P ⟨d,.binOp .neq T x y T',ty,pos,aft,gd⟩ ev h (.c (.v (.bool (!b)))):=by
 intro B dom M H w a hh hc he
 have h1:=he x _ hx
 have h2:=he y _ hy
 subst hcx hcy hL
 simp only [Rep,RepC] at h1 h2
 obtain ⟨us,h1,h3,_⟩:=h1
 obtain ⟨vs,h2,h4,_⟩:=h2
 have h3:=RepCs.of_plain h3
 have h4:=RepCs.of_plain h4
 subst h3 h4
 refine ⟨_,?_,rfl⟩
 have:=bY2 hm ht hk ho hw hlx hly w hb
 simp only [execOp,h1,h2,Sem.run_bind,sJ (P:=P) w hg,Result.andThen_ok,this]
 rfl
end
end Go.Av
