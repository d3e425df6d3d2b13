/- Lemmas for laws of the ledger. -/
import Derived.DeepKeys3
import Derived.Test.YtbgehdndimlgkaaGreatR9
set_option linter.all false
set_option maxHeartbeats 16000000
namespace Go.Proofs.YtbgehdndimlgkaaGreat
open Go Go.RowKit Go.Av
set_option maxRecDepth 100000
section
def vrc (l:List Ver):Dr:=l.flatMap fun v=>[iv v.t,iv v.c,iv v.s]
def src (l:List Src):Dr:=l.flatMap fun v=>[iv v.t,iv v.s]
theorem yC {α:Type} {f:α->Dr} {k:Nat} (h:∀a,(f a).length=k):∀l:List α,(l.flatMap f).length=l.length*k
 | []=>by simp
 | a::l=>by rw [A1,Ab,h,yC h l,At,AJ,Da,CE]
theorem aH0 {α:Type} {f:α->Dr} {k:Nat} (h:∀a,(f a).length=k):∀{l:List α} {i:Nat} {a:α},l[i]? = some a->((l.flatMap f).drop (i*k)).take k=f a
 | [],i,a,e=>by simp at e
 | b::l,0,a,e=>by
  simp only [BH,Option.some.injEq] at e
  subst e
  rw [Cc,Bj,A1,AB (by rw [h];exact Ag _),Af (by rw [h];exact Ag _)]
 | b::l,i+1,a,e=>by
  rw [A1,BL,h,AD (by rw [h,AJ];omega),Aw,show (i+1)*k-k=i*k by rw [AJ];omega]
  exact aH0 h (by simpa using e)
theorem dL (l:List Ver):(vrc l).length=l.length*3:=yC (f:=fun v:Ver=>[iv v.t,iv v.c,iv v.s]) (k:=3) (fun _=>rfl) l
theorem dK (l:List Src):(src l).length=l.length*2:=yC (f:=fun v:Src=>[iv v.t,iv v.s]) (k:=2) (fun _=>rfl) l
theorem fU {l:List Ver} {i:Nat} {v:Ver} (h:l[i]? = some v):((vrc l).drop (i*3)).take 3=[iv v.t,iv v.c,iv v.s]:=aH0 (f:=fun v:Ver=>[iv v.t,iv v.c,iv v.s]) (k:=3) (fun _=>rfl) h
theorem eY {l:List Src} {i:Nat} {v:Src} (h:l[i]? = some v):((src l).drop (i*2)).take 2=[iv v.t,iv v.s]:=aH0 (f:=fun v:Src=>[iv v.t,iv v.s]) (k:=2) (fun _=>rfl) h
attribute [local irreducible] Still Adds AWL AW Drw bQ bT AC AWR cO Frz Go.Av.Src dF Out InK ItK AsK RdK eI eG ACT ACA fD
attribute [local simp] bZ bY cI
theorem pR {α β:Type} {f:α->List β} {l:List α} {i:Nat} {a:α} (h:l[i]? = some a):(l.take (i+1)).flatMap f=(l.take i).flatMap f++f a:=by
 rw [BE,h,AH];simp
theorem bE7 {α β:Type} {f:α->List β} (l:List α) (i:Nat):((l.take i).flatMap f).length<=(l.flatMap f).length:=by
 conv=>rhs;rw [<- Br i l]
 rw [AH,Ab]
 omega
theorem aH1 {α β:Type} {f:α->List β} (h:∀a,0<(f a).length):∀l:List α,l.length<=(l.flatMap f).length
 | []=>by simp
 | a::l=>by
  have:=aH1 h l
  have:=h a
  rw [A1,Ab,At]
  omega
theorem bM0 (v:Ver):0<(gX v).length:=by
 have:=mX (zz v.t)
 unfold gX cC
 simp only [Ab]
 omega
theorem bL9 (v:Src):0<(iC v).length:=by
 have:=mX (zz v.t)
 unfold iC cC
 simp only [Ab]
 omega
theorem aT2 (L:Db) (m:Nat) (hL:L.length=m) (l:List Ver) (n:Nat) (hn:l.length=n) (hl:∀v∈l,aS v.t/\aS v.c/\aS v.s) (m':Nat) (hm':(L++kD gX l).length=m') (hb:m'<=1000000):ACA Tryz.prog 170 5 1 m (u8c L) [.sl 3 n (vrc l)] (u8c (L++kD gX l)) m':=by
 have hul:=u8l hL
 have hul3:=u8l hm'
 have hvl:(vrc l).length=n*3:=by rw [dL,hn]
 have hge:=aH1 bM0 l
 have hle:=bE7 (f:=gX) l
 obtain ⟨X,hX⟩:∃X,L++cC n=X:=⟨_,rfl⟩
 obtain ⟨j,hj⟩:∃j,X.length=j:=⟨_,rfl⟩
 have e:L++kD gX l=X++l.flatMap gX:=by rw [<- hX,kD,Ar,hn]
 have hjm:j+(l.flatMap gX).length=m':=by rw [<- hm',<- hj,e,Ab]
 have i1:=sI L m hL n ⟨by omega,by omega⟩ j mH aA
 rw [hX] at i1
 rw [e] at hm' hul3 ⊢
 have hulx:=u8l hj
 refine dM aB (sz:=29) Tryz.func170 rfl (by rw [Tryz.ntmps170];rfl) (bH _) ?_
 repeat' (first|(refine aC ?_;intro K hK hX)|refine dA9 ?_|(refine aE hK hX ?_;clear hK hX K)|fail)
 refine fN 2 (fun p:Nat × Db × Nat=>[(0,.own 1 0 p.2.2 1 true),(12,.c (.sl 3 n (vrc l))),(13,.c (iv n)),(14,.c (iv p.1))]) (fun p=>[(1,.row 5 (u8c p.2.1))]) [(none,[.own 0 0 m 1 true])] (fun p=>p.1<=n/\p.2.1.length=p.2.2/\p.2.1=X++(l.take p.1).flatMap gX) (fun p=>n-p.1) (0,X,j) ⟨by omega,hj,by simp⟩ kI ?_
 rintro ⟨i,q,w⟩ ⟨hi,hql,hq⟩ K hK hX
 dsimp only at hi hql hq hK ⊢
 have hulq:=u8l hql
 by_cases hlt:i<n
 ·obtain ⟨v,hat⟩:∃v,l[i]? = some v:=⟨_,Aa aA⟩
  obtain ⟨v1,v2,v3⟩:=hl v (Ac hat)
  have hx:=fU hat
  have hst:q++gX v=X++(l.take (i+1)).flatMap gX:=by rw [hq,pR hat,Ar]
  have hmo:=hle (i+1)
  obtain ⟨t,c,s⟩:=v
  simp only at v1 v2 v3 hx
  have e3:gX ⟨t,c,s⟩=cC t++(cC s++cC c):=by rw [gX,Ar]
  obtain ⟨w',hw'⟩:∃w',(q++gX ⟨t,c,s⟩).length=w':=⟨_,rfl⟩
  have hwb:w'<=m':=by rw [<- hw',hst,Ab,hj];omega
  have i2:=cC5 q w hql t s c v1 v3 v2 w' (by rw [<- e3];exact hw') aA
  rw [<- e3,hst] at i2
  rw [hst] at hw'
  generalize X++(l.take (i+1)).flatMap gX=q' at i2 hw' hst
  repeat' (first|(refine aC ?_;intro K hK hX)|refine dA5 ?_|(refine aE hK hX ?_;clear hK hX K)|fail)
  exact ⟨(i+1,q',w'),⟨by omega,hw',by rw [<- hst,hq,pR hat,Ar]⟩,by simp only;omega,dC5⟩
 ·have hin:i=n:=by omega
  have hq':q=X++l.flatMap gX:=by rw [hq,Af aA]
  have hwm:w=m':=by rw [<- hql,hq',hm']
  repeat' (first|(refine aC ?_;intro K hK hX)|refine aJ [0,1,4,6,12,13,14] ?_|refine stA ?_|(refine aE hK hX ?_;clear hK hX K)|fail)
  rw [<- hq',<- hwm]
  exact jS
theorem bA0 (L:Db) (m:Nat) (hL:L.length=m) (l:List Src) (n:Nat) (hn:l.length=n) (hl:∀v∈l,aS v.t/\aS v.s) (m':Nat) (hm':(L++kD iC l).length=m') (hb:m'<=1000000):ACA Tryz.prog 169 5 1 m (u8c L) [.sl 2 n (src l)] (u8c (L++kD iC l)) m':=by
 have hul:=u8l hL
 have hul3:=u8l hm'
 have hvl:(src l).length=n*2:=by rw [dK,hn]
 have hge:=aH1 bL9 l
 have hle:=bE7 (f:=iC) l
 obtain ⟨X,hX⟩:∃X,L++cC n=X:=⟨_,rfl⟩
 obtain ⟨j,hj⟩:∃j,X.length=j:=⟨_,rfl⟩
 have e:L++kD iC l=X++l.flatMap iC:=by rw [<- hX,kD,Ar,hn]
 have hjm:j+(l.flatMap iC).length=m':=by rw [<- hm',<- hj,e,Ab]
 have i1:=sI L m hL n ⟨by omega,by omega⟩ j mH aA
 rw [hX] at i1
 rw [e] at hm' hul3 ⊢
 have hulx:=u8l hj
 refine dM aB (sz:=27) Tryz.func169 rfl (by rw [Tryz.ntmps169];rfl) (bH _) ?_
 repeat' (first|(refine aC ?_;intro K hK hX)|refine dA9 ?_|(refine aE hK hX ?_;clear hK hX K)|fail)
 refine fN 2 (fun p:Nat × Db × Nat=>[(0,.own 1 0 p.2.2 1 true),(12,.c (.sl 2 n (src l))),(13,.c (iv n)),(14,.c (iv p.1))]) (fun p=>[(1,.row 5 (u8c p.2.1))]) [(none,[.own 0 0 m 1 true])] (fun p=>p.1<=n/\p.2.1.length=p.2.2/\p.2.1=X++(l.take p.1).flatMap iC) (fun p=>n-p.1) (0,X,j) ⟨by omega,hj,by simp⟩ kI ?_
 rintro ⟨i,q,w⟩ ⟨hi,hql,hq⟩ K hK hX
 dsimp only at hi hql hq hK ⊢
 have hulq:=u8l hql
 by_cases hlt:i<n
 ·obtain ⟨v,hat⟩:∃v,l[i]? = some v:=⟨_,Aa aA⟩
  obtain ⟨v1,v3⟩:=hl v (Ac hat)
  have hx:=eY hat
  have hst:q++iC v=X++(l.take (i+1)).flatMap iC:=by rw [hq,pR hat,Ar]
  have hmo:=hle (i+1)
  obtain ⟨t,s⟩:=v
  simp only at v1 v3 hx
  have e3:iC ⟨t,s⟩=cC t++cC s:=rfl
  obtain ⟨w',hw'⟩:∃w',(q++iC ⟨t,s⟩).length=w':=⟨_,rfl⟩
  have hwb:w'<=m':=by rw [<- hw',hst,Ab,hj];omega
  have i2:=cC4 q w hql t s v1 v3 w' (by rw [<- e3];exact hw') aA
  rw [<- e3,hst] at i2
  rw [hst] at hw'
  generalize X++(l.take (i+1)).flatMap iC=q' at i2 hw' hst
  repeat' (first|(refine aC ?_;intro K hK hX)|refine dA5 ?_|(refine aE hK hX ?_;clear hK hX K)|fail)
  exact ⟨(i+1,q',w'),⟨by omega,hw',by rw [<- hst,hq,pR hat,Ar]⟩,by simp only;omega,dC5⟩
 ·have hin:i=n:=by omega
  have hq':q=X++l.flatMap iC:=by rw [hq,Af aA]
  have hwm:w=m':=by rw [<- hql,hq',hm']
  repeat' (first|(refine aC ?_;intro K hK hX)|refine aJ [0,1,4,6,12,13,14] ?_|refine stA ?_|(refine aE hK hX ?_;clear hK hX K)|fail)
  rw [<- hq',<- hwm]
  exact jS
end
section
def cmpZ (a b:Int):Int:=if a<b then -1 else if b<a then 1 else 0
def orZ:List Int->Int
 | []=>0
 | x::l=>if x=0 then orZ l else x
def aF4 (a b:Ver):Int:=orZ [cmpZ a.t b.t,cmpZ a.s b.s,cmpZ a.c b.c]
def xJ (a b:Src):Int:=orZ [cmpZ a.t b.t,cmpZ a.s b.s]
theorem lH (a b:Int):(cmpZ a b<0↔a<b)/\(cmpZ a b=0↔a=b) /\ -1<=cmpZ a b/\cmpZ a b<=1:=by
 unfold cmpZ
 by_cases h:a<b
 ·rw [Al h];omega
 ·rw [Ak h]
  by_cases h2:b<a
  ·rw [Al h2];omega
  ·rw [Ak h2];omega
theorem nK (a b:Ver):aF4 a b<0↔ltV a b:=by
 have h1:=lH a.t b.t
 have h2:=lH a.s b.s
 have h3:=lH a.c b.c
 unfold aF4 orZ ltV
 by_cases e1:cmpZ a.t b.t=0
 ·rw [Al e1]
  unfold orZ
  by_cases e2:cmpZ a.s b.s=0
  ·rw [Al e2]
   unfold orZ
   by_cases e3:cmpZ a.c b.c=0
   ·rw [Al e3];unfold orZ;omega
   ·rw [Ak e3];omega
  ·rw [Ak e2];omega
 ·rw [Ak e1];omega
theorem kT (a b:Src):xJ a b<0↔ltS a b:=by
 have h1:=lH a.t b.t
 have h2:=lH a.s b.s
 unfold xJ orZ ltS
 by_cases e1:cmpZ a.t b.t=0
 ·rw [Al e1]
  unfold orZ
  by_cases e2:cmpZ a.s b.s=0
  ·rw [Al e2];unfold orZ;omega
  ·rw [Ak e2];omega
 ·rw [Ak e1];omega
attribute [local irreducible] Still Adds AWL AW Drw bQ bT AC AWR cO Frz Go.Av.Src dF Out InK ItK AsK RdK eI eG ACT ACA fD
theorem cD7 (a:Int):qC' 197 [iv a] (.c (bv false)) [] 0:=by
 refine aG aB (sz:=6) Tryz.func197 rfl (by rw [Tryz.ntmps197];rfl) ?_
 repeat' (first|(refine aC ?_;intro K hK hX)|refine aJ [0,2] ?_|(((with_reducible refine bU ?_);refine xA ?_);(first|((with_reducible refine bR ?_);(first|refine aI (jO rfl rfl rfl (Bg (fun h=>h rfl))) ?_))))|refine stA ?_|(refine aE hK hX ?_;clear hK hX K)|fail)
 exact bI
theorem rP (a b:Int):qC' 157 [iv a,iv b] (.c (iv (cmpZ a b))) [] 0:=by
 have h1:=cD7 a
 have h2:=cD7 b
 unfold cmpZ
 by_cases d1:a<b
 ·rw [Al d1]
  refine aG aB (sz:=20) Tryz.func157 rfl (by rw [Tryz.ntmps157];rfl) ?_
  repeat' (first|(refine aC ?_;intro K hK hX)|refine bT6 ?_|(refine aE hK hX ?_;clear hK hX K)|fail)
  exact bI
 ·rw [Ak d1]
  by_cases d2:b<a
  ·rw [Al d2]
   refine aG aB (sz:=20) Tryz.func157 rfl (by rw [Tryz.ntmps157];rfl) ?_
   repeat' (first|(refine aC ?_;intro K hK hX)|refine bT6 ?_|(refine aE hK hX ?_;clear hK hX K)|fail)
   exact bI
  ·rw [Ak d2]
   refine aG aB (sz:=20) Tryz.func157 rfl (by rw [Tryz.ntmps157];rfl) ?_
   repeat' (first|(refine aC ?_;intro K hK hX)|refine bT6 ?_|(refine aE hK hX ?_;clear hK hX K)|fail)
   exact bI
theorem dH3 (l:List Int) (n:Nat) (hn:l.length=n) (hb:n<=1000):qC' 156 [.sl 1 n (bO .i64 l)] (.c (iv (orZ l))) [] 0:=by
 have hil:(bO .i64 l).length=n:=by rw [dJ,hn]
 refine aG aB (sz:=18) Tryz.func156 rfl (by rw [Tryz.ntmps156];rfl) ?_
 repeat' (first|(refine aC ?_;intro K hK hX)|refine aA9 ?_|(refine aE hK hX ?_;clear hK hX K)|fail)
 refine aT [8] [] rfl rfl (fun i:Nat=>[(8,.c (iv i))]) (fun i=>[]) (fun i=>i<=n/\orZ l=orZ (l.drop i)) (fun i=>n-i) 0 ⟨Ah _,rfl⟩ kI ?_
 rintro i ⟨hi,ho⟩ K hK hX
 by_cases hlt:i<n
 ·obtain ⟨x,hat⟩:∃x,l[i]? = some x:=⟨_,Aa aA⟩
  have hx:(bO .i64 l)[i]? = some (iv x):=by simp [bO,hat]
  have hdr:l.drop i=x::l.drop (i+1):=by
   obtain ⟨h1,h2⟩:=Ad.1 hat
   rw [Bp h1,h2]
  rw [hdr,orZ] at ho
  by_cases h0:x=0
  ·rw [Al h0] at ho
   repeat' (first|(refine aC ?_;intro K hK hX)|refine aJ [0,2,3,5,6,7,8] ?_|refine cV ?_|refine stA ?_|(refine aE hK hX ?_;clear hK hX K)|fail)
   exact ⟨i+1,⟨by omega,ho⟩,by omega,kI⟩
  ·rw [Ak h0] at ho
   repeat' (first|(refine aC ?_;intro K hK hX)|refine aJ [0,2,3,5,6,7,8] ?_|refine cV ?_|refine stA ?_|(refine aE hK hX ?_;clear hK hX K)|fail)
   rw [ho]
   exact bI
 ·rw [AD aA] at ho
  repeat' (first|(refine aC ?_;intro K hK hX)|refine aA9 ?_|(refine aE hK hX ?_;clear hK hX K)|fail)
  rw [ho]
  exact bI
theorem dN6 (a b:Int):qC' 156 [.sl 1 2 [iv a,iv b]] (.c (iv (orZ [a,b]))) [] 0:=by
 have:=dH3 [a,b] 2 rfl aP
 simpa [bO] using this
theorem dN7 (a b c:Int):qC' 156 [.sl 1 3 [iv a,iv b,iv c]] (.c (iv (orZ [a,b,c]))) [] 0:=by
 have:=dH3 [a,b,c] 3 rfl aP
 simpa [bO] using this
theorem oI (a b:Ver):qC' 92 [.agg [iv a.t,iv a.c,iv a.s],.agg [iv b.t,iv b.c,iv b.s]] (.c (iv (aF4 a b))) [] 0:=by
 obtain ⟨t,c',s⟩:=a
 obtain ⟨t2,c2',s2⟩:=b
 have h1:=rP t t2
 have h2:=rP s s2
 have h3:=rP c' c2'
 have h4:=dN7 (cmpZ t t2) (cmpZ s s2) (cmpZ c' c2')
 unfold aF4
 dsimp only
 generalize cmpZ t t2=x1 at *
 generalize cmpZ s s2=x2 at *
 generalize cmpZ c' c2'=x3 at *
 refine aG aB (sz:=22) Tryz.func92 rfl (by rw [Tryz.ntmps92];rfl) ?_
 repeat' (first|(refine aC ?_;intro K hK hX)|refine iA [0,1,2,3,4] ?_|refine lY ?_|(refine pO ?_;first|refine c0 h1 ?_|refine c0 h2 ?_|refine c0 h3 ?_|refine c0 h4 ?_)|refine stA ?_|refine stE ?_|(refine aE hK hX ?_;clear hK hX K)|fail)
 exact bI
theorem lG (a b:Src):qC' 88 [.agg [iv a.t,iv a.s],.agg [iv b.t,iv b.s]] (.c (iv (xJ a b))) [] 0:=by
 obtain ⟨t,s⟩:=a
 obtain ⟨t2,s2⟩:=b
 have h1:=rP t t2
 have h2:=rP s s2
 have h4:=dN6 (cmpZ t t2) (cmpZ s s2)
 unfold xJ
 dsimp only
 generalize cmpZ t t2=x1 at *
 generalize cmpZ s s2=x2 at *
 refine aG aB (sz:=17) Tryz.func88 rfl (by rw [Tryz.ntmps88];rfl) ?_
 repeat' (first|(refine aC ?_;intro K hK hX)|refine iA [0,1,2,3,4] ?_|refine lY ?_|(refine pO ?_;first|refine c0 h1 ?_|refine c0 h2 ?_|refine c0 h4 ?_)|refine stA ?_|refine stE ?_|(refine aE hK hX ?_;clear hK hX K)|fail)
 exact bI
end
section
section
variable {α:Type} {lt:α->α->Prop}
theorem cT1 (h:SLO lt) {l:List α} (hl:l.Pairwise lt) {v:α} {m:Nat} (h1:∀x∈l.take m,lt x v) (h2:∀x∈l.drop m,lt v x):insA lt v l=l.take m++v::l.drop m:=by
 refine vR h (sG h v hl) ?_ fun x=>?_
 ·rw [List.pairwise_append]
  refine ⟨hl.sublist (List.take_sublist m l),Bk.2 ⟨h2,hl.sublist (List.drop_sublist m l)⟩,fun a ha b hb=>?_⟩
  rcases A3.1 hb with rfl|hb
  ·exact h1 a ha
  ·exact h.tr _ _ _ (h1 a ha) (h2 b hb)
 ·rw [oX,A0,A3]
  have e:x∈l↔x∈l.take m\/x∈l.drop m:=by rw [<- A0,Br]
  rw [e]
  constructor
  ·rintro (e|e|e)
   ·exact .inr (.inl e)
   ·exact .inl e
   ·exact .inr (.inr e)
  ·rintro (e|e|e)
   ·exact .inr (.inl e)
   ·exact .inl e
   ·exact .inr (.inr e)
theorem yI (h:SLO lt) {l:List α} (hl:l.Pairwise lt) {v:α} (hv:v∈l):insA lt v l=l :=
 vR h (sG h v hl) hl fun x=>by
  rw [oX]
  exact ⟨fun e=>e.elim (fun e=>e▸hv) id,.inr⟩
end
theorem FolL.init {l:List LEn} {e:LEn} (h:FolL (l++[e])):FolL l/\Fol l e:=by
 constructor
 ·intro i x hx
  have hi:=(Ad.1 hx).1
  have:=h i x (by rw [A8 hi];exact hx)
  rw [AB aA] at this
  exact this
 ·have:=h l.length e (by rw [AE (Ag _)];simp)
  rw [Cl] at this
  exact this
theorem FolL.snoc {l:List LEn} {e:LEn} (h:FolL l) (he:Fol l e):FolL (l++[e]):=fun i x hx=>by
 by_cases hi:i<l.length
 ·rw [A8 hi] at hx
  rw [AB aA]
  exact h i x hx
 ·have hi2:=(Ad.1 hx).1
  rw [Ab,Cg] at hi2
  obtain rfl:i=l.length:=by omega
  rw [AE (Ag _)] at hx
  have:x=e:=by simpa using hx.symm
  subst this
  rw [Cl]
  exact he
theorem iM (l:List LEn) (e:LEn) (k:Int):oB (l++[e]) k=oB l k+if e.k=k then 1 else 0:=by
 unfold oB
 rw [BN,Ab]
 congr 1
 by_cases h:e.k=k
 ·rw [Al h,Bl,Al (AT h)];rfl
 ·rw [Ak h,Bl,Ak (by simp [h])];rfl
theorem kZ (l:List LEn) (e:LEn) (k p:Int):jK (l++[e]) k p↔jK l k p\/(e.k=k/\e.plan=p):=by
 unfold jK
 constructor
 ·rintro ⟨x,hx,h⟩
  rcases A0.1 hx with hx|hx
  ·exact .inl ⟨x,hx,h⟩
  ·rw [AY.1 hx] at h;exact .inr h
 ·rintro (⟨x,hx,h⟩|h)
  ·exact ⟨x,by simp [hx],h⟩
  ·exact ⟨e,by simp,h⟩
end
theorem aC3:∀(k u:Nat),u<128 ^ (k+1)->(sA u).length<=k+1
 | 0,u,h=>by rw [pQ lO];simp
 | k+1,u,h=>by
  by_cases h1:u<128
  ·rw [pQ h1];simp
  ·rw [sB h1,At]
   have:=aC3 k (u / 128) (by rw [CB] at h;omega)
   omega
theorem cQ {n:Int} (h:aS n):(cC n).length<=10:=by
 have h1:=bI8 h.1 h.2
 have h2:zz n<128 ^ (9+1):=Nat.lt_trans h1 aP
 exact aC3 9 _ h2
theorem mW {n:Nat} (h:n<=1000000):(cC (n:Int)).length<=10:=cQ ⟨by omega,by omega⟩
theorem aN6 {s:Db} (h:s.length<=1000000):(rZ s).length<=10+s.length:=by
 have:=mW h
 unfold rZ
 rw [Ab]
 omega
theorem cA1 {v:Vl} (h:okP v):(qF v).length<=60:=by
 obtain ⟨k,n,t⟩:=v
 unfold qF
 unfold okP at h
 simp only at h ⊢
 rw [Ab]
 have hk:(cC k).length<=10:=cQ (by unfold aS;omega)
 split
 ·have:=cQ (n:=n) (by unfold aS;omega)
  omega
 ·split
  ·have:=aN6 (s:=t) aA
   omega
  ·simp only [BI];omega
theorem pP {i:Idf} (h:i.ns.length<=1000):(kC i).length<=1070:=by
 have h1:=aN6 (s:=i.ns) aA
 have h2:=cA1 (cE2 i.v)
 unfold kC
 rw [Ab]
 omega
theorem tW {α:Type} {e:α->Db} {m:Nat}:∀{l:List α},(∀x∈l,(e x).length<=m)->(l.flatMap e).length<=l.length*m
 | [],_=>by simp
 | x::l,h=>by
  have h1:=h x aR
  have h2:=tW (l:=l) fun y hy=>h y (by simp [hy])
  rw [A1,Ab,At,AJ,Da]
  omega
structure LEn.sz (e:LEn):Prop where
 vs:e.vs.length<=1000
 ss:e.ss.length<=1000
 rq:e.rq.who.ns.length<=1000
 la:e.lk.a.ns.length<=1000
 lb:e.lk.b.ns.length<=1000
 hd:e.hd.who.ns.length<=1000
theorem vT {e:LEn} (hw:e.wf) (hk:aS e.k) (hs:e.sz):(eA e).length<=100000:=by
 obtain ⟨a1,a2,a3⟩:=hw.h1
 obtain ⟨b1,b2,b3,b4⟩:=hw.rq
 have c1:=hw.lk
 obtain ⟨d1,d2,d3,d4,d5⟩:=hw.hd
 have e1:=hw.vs
 have e2:=hw.ss
 have f1:=hw.root
 obtain ⟨s1,s2,s3,s4,s5,s6⟩:=hs
 unfold eA
 simp only [Ab]
 have k1:=cQ hk
 have k2:=cQ a1
 have k3:=cQ a2
 have k4:=cQ a3
 have k5:(fI e).length<=90000:=by
  unfold fI
  split
  ·unfold rY
   simp only [Ab]
   have:=cQ b1
   have:=cQ b2
   have:=cQ b3
   have:=cQ b4
   have:=pP s3
   omega
  ·split
   ·unfold kD
    simp only [Ab]
    have:=mW (n:=e.vs.length) aA
    have:=mW (n:=e.ss.length) aA
    have:=tW (e:=gX) (m:=30) (l:=e.vs) fun x hx=>by
     obtain ⟨p1,p2,p3⟩:=e1 x hx
     have:=cQ p1
     have:=cQ p2
     have:=cQ p3
     unfold gX
     simp only [Ab]
     omega
    have:=tW (e:=iC) (m:=20) (l:=e.ss) fun x hx=>by
     obtain ⟨p1,p2⟩:=e2 x hx
     have:=cQ p1
     have:=cQ p2
     unfold iC
     simp only [Ab]
     omega
    omega
   ·split
    ·omega
    ·split
     ·unfold rX
      simp only [Ab]
      have:=cQ c1
      have:=pP s4
      have:=pP s5
      have:(cC (if e.lk.rv=true then 1 else 0)).length<=10:=cQ (by unfold aS;split<;>omega)
      omega
     ·split
      ·unfold rW
       simp only [Ab]
       have:=cQ d1
       have:=cQ d2
       have:=cQ d3
       have:=cQ d4
       have:=cQ d5
       have:=pP s6
       omega
      ·simp
 omega
theorem dH7 {e:LEn} (hk:aS e.k) (h:(pEn (eA e)).isSome=true):1<=e.k/\e.k<=7:=by
 unfold pEn eA pIn at h
 rw [dY hk,Ap] at h
 by_cases hc:1<=e.k/\e.k<=7
 ·exact hc
 ·simp only [Ak hc,Option.bind_none,Option.isSome_none] at h
  cases h
theorem cF2:∀{b:Db} {i x:Nat} {p:Nat × Db},i<=9->x<128 ^ i->pU i x b=some p->p.1<18446744073709551616
 | [],i,x,p,_,_,h=>by rw [pU] at h;cases h
 | c::b,i,x,p,hi,hx,h=>by
  rw [pU] at h
  by_cases hn:(i=9/\1<c.toNat)\/(0<i/\c.toNat=0)
  ·rw [Al hn] at h;cases h
  ·rw [Ak hn] at h
   by_cases h9:i=9
   ·subst h9
    have hc:c.toNat<=1:=by omega
    rw [Al aA] at h
    injection h with h
    rw [<- h]
    have:(128:Nat) ^ 9=9223372036854775808:=by decide
    rw [this] at hx ⊢
    simp only
    rcases (show c.toNat=0\/c.toNat=1 by omega) with e|e<;>rw [e]<;>omega
   ·have hp:(128:Nat) ^ (i+1)<=128 ^ 9:=BY aP aA
    have h9':(128:Nat) ^ 9=9223372036854775808:=by decide
    have hs:(128:Nat) ^ (i+1)=128 ^ i*128:=CB ..
    have hb:∀d:Nat,d<128->x+d*128 ^ i<128 ^ (i+1):=fun d hd=>by
     rw [hs]
     have:d*128 ^ i<=127*128 ^ i:=Bc _ aA
     omega
    by_cases hc:c.toNat<128
    ·rw [Al hc] at h
     injection h with h
     rw [<- h]
     have:=hb _ hc
     simp only
     omega
    ·rw [Ak hc] at h
     exact cF2 aA (hb _ (Nat.mod_lt _ aP)) h
theorem gO {b:Db} {p:Int × Db} (h:cX b=some p):aS p.1:=by
 unfold cX at h
 obtain ⟨q,hq,rfl⟩:=Au.1 h
 have:=cF2 aP aP hq
 unfold aS uz
 simp only
 split<;>omega
theorem cE6 {lo hi:Int} {b:Db} {p:Int × Db} (h:pIn lo hi b=some p):aS p.1/\lo<=p.1/\p.1<=hi:=by
 unfold pIn at h
 obtain ⟨q,hq,h⟩:=Aq.1 h
 split at h
 ·rename_i hc
  injection h with h
  rw [<- h]
  exact ⟨gO hq,hc⟩
 ·cases h
theorem dH4 {n:Nat} {b:Db} {p:Db × Db} (h:pBy n b=some p):p.1.length=n:=by
 unfold pBy at h
 split at h
 ·rename_i hc
  injection h with h
  rw [<- h]
  simp only [Ao]
  omega
 ·cases h
theorem bG1 {b:Db} {p:Idf × Db} (h:pId b=some p):p.1.ns.length<=16:=by
 unfold pId pTx at h
 obtain ⟨q,hq,h⟩:=Aq.1 h
 obtain ⟨n,hn,hq⟩:=Aq.1 hq
 obtain ⟨v,hv,rfl⟩:=Au.1 h
 have:=dH4 hq
 have:=cE6 hn
 simp only
 omega
theorem dV3 {b:Db} {p:Ver × Db} (h:pVr b=some p):aS p.1.t/\aS p.1.c/\aS p.1.s:=by
 unfold pVr at h
 obtain ⟨q,hq,h⟩:=Aq.1 h
 obtain ⟨r,hr,h⟩:=Aq.1 h
 obtain ⟨s,hs,rfl⟩:=Au.1 h
 exact ⟨gO hq,gO hs,gO hr⟩
theorem dV2 {b:Db} {p:Src × Db} (h:pSr b=some p):aS p.1.t/\aS p.1.s:=by
 unfold pSr at h
 obtain ⟨q,hq,h⟩:=Aq.1 h
 obtain ⟨s,hs,rfl⟩:=Au.1 h
 exact ⟨gO hq,gO hs⟩
theorem cE7 {α:Type} {f:Db->Option (α × Db)} {Q:α->Prop} (hf:∀{b p},f b=some p->Q p.1):∀{n:Nat} {b:Db} {p:List α × Db},yS f n b=some p->p.1.length=n/\∀x∈p.1,Q x
 | 0,b,p,h=>by
  rw [yS] at h
  injection h with h
  rw [<- h]
  exact ⟨rfl,fun x hx=>by simp at hx⟩
 | n+1,b,p,h=>by
  rw [yS] at h
  obtain ⟨q,hq,h⟩:=Aq.1 h
  obtain ⟨s,hs,rfl⟩:=Au.1 h
  obtain ⟨h1,h2⟩:=cE7 hf hs
  refine ⟨by simp only [At,h1],fun x hx=>?_⟩
  rcases A3.1 hx with rfl|hx
  ·exact hf hq
  ·exact h2 x hx
theorem dH6 {α:Type} {f:Db->Option (α × Db)} {Q:α->Prop} (hf:∀{b p},f b=some p->Q p.1) {m:Int} {b:Db} {p:List α × Db} (h:pLs f m b=some p):(p.1.length:Int)<=m/\∀x∈p.1,Q x:=by
 unfold pLs at h
 obtain ⟨q,hq,h⟩:=Aq.1 h
 obtain ⟨h1,h2⟩:=cE7 hf h
 have:=cE6 hq
 exact ⟨by omega,h2⟩
theorem aO3:aS 0:=by unfold aS;omega
theorem dH5 {b:Db} {p:LEn × Db} (h:pEn b=some p):p.1.wf/\(1<=p.1.k/\p.1.k<=7)/\p.1.sz:=by
 unfold pEn at h
 obtain ⟨k,hk,h⟩:=Aq.1 h
 obtain ⟨d,hd,h⟩:=Aq.1 h
 obtain ⟨pl,hp,h⟩:=Aq.1 h
 obtain ⟨st,hs,h⟩:=Aq.1 h
 have hk:=(cE6 hk).2
 have hd:=gO hd
 have hp:=gO hp
 have hs:=gO hs
 have z:=aO3
 have zr:root0.length=32:=rfl
 unfold pF at h
 split at h
 ·obtain ⟨x,hx,rfl⟩:=Au.1 h
  unfold pRq at hx
  obtain ⟨a1,h1,hx⟩:=Aq.1 hx
  obtain ⟨a2,h2,hx⟩:=Aq.1 hx
  obtain ⟨a3,h3,hx⟩:=Aq.1 hx
  obtain ⟨a4,h4,hx⟩:=Aq.1 hx
  obtain ⟨a5,h5,rfl⟩:=Au.1 hx
  have:=bG1 h2
  exact ⟨⟨⟨hd,hp,hs⟩,⟨gO h1,gO h3,gO h4,gO h5⟩,z,⟨z,z,z,z,z⟩,fun v hv=>by simp at hv,fun v hv=>by simp at hv,zr⟩,hk,⟨Ah _,Ah _,by simp only;omega,Ah _,Ah _,Ah _⟩⟩
 ·split at h
  ·obtain ⟨v,hv,h⟩:=Aq.1 h
   obtain ⟨x,hx,rfl⟩:=Au.1 h
   obtain ⟨v1,v2⟩:=dH6 (Q:=fun p:Ver=>aS p.t/\aS p.c/\aS p.s) dV3 hv
   obtain ⟨x1,x2⟩:=dH6 (Q:=fun p:Src=>aS p.t/\aS p.s) dV2 hx
   exact ⟨⟨⟨hd,hp,hs⟩,⟨z,z,z,z⟩,z,⟨z,z,z,z,z⟩,v2,x2,zr⟩,hk,⟨by simp only;omega,by simp only;omega,Ah _,Ah _,Ah _,Ah _⟩⟩
  ·split at h
   ·obtain ⟨x,hx,rfl⟩:=Au.1 h
    exact ⟨⟨⟨hd,hp,hs⟩,⟨z,z,z,z⟩,z,⟨z,z,z,z,z⟩,fun v hv=>by simp at hv,fun v hv=>by simp at hv,dH4 hx⟩,hk,⟨Ah _,Ah _,Ah _,Ah _,Ah _,Ah _⟩⟩
   ·split at h
    ·obtain ⟨x,hx,rfl⟩:=Au.1 h
     unfold pLk at hx
     obtain ⟨a1,h1,hx⟩:=Aq.1 hx
     obtain ⟨a2,h2,hx⟩:=Aq.1 hx
     obtain ⟨a3,h3,hx⟩:=Aq.1 hx
     obtain ⟨a4,h4,rfl⟩:=Au.1 hx
     have:=bG1 h1
     have:=bG1 h2
     exact ⟨⟨⟨hd,hp,hs⟩,⟨z,z,z,z⟩,gO h3,⟨z,z,z,z,z⟩,fun v hv=>by simp at hv,fun v hv=>by simp at hv,zr⟩,hk,⟨Ah _,Ah _,Ah _,by simp only;omega,by simp only;omega,Ah _⟩⟩
    ·split at h
     ·obtain ⟨x,hx,rfl⟩:=Au.1 h
      unfold pHd at hx
      obtain ⟨a1,h1,hx⟩:=Aq.1 hx
      obtain ⟨a2,h2,hx⟩:=Aq.1 hx
      obtain ⟨a3,h3,hx⟩:=Aq.1 hx
      obtain ⟨a4,h4,hx⟩:=Aq.1 hx
      obtain ⟨a5,h5,hx⟩:=Aq.1 hx
      obtain ⟨a6,h6,rfl⟩:=Au.1 hx
      have:=bG1 h3
      exact ⟨⟨⟨hd,hp,hs⟩,⟨z,z,z,z⟩,z,⟨gO h1,gO h2,gO h4,gO h5,gO h6⟩,fun v hv=>by simp at hv,fun v hv=>by simp at hv,zr⟩,hk,⟨Ah _,Ah _,Ah _,Ah _,Ah _,by simp only;omega⟩⟩
     ·injection h with h
      rw [<- h]
      exact ⟨⟨⟨hd,hp,hs⟩,⟨z,z,z,z⟩,z,⟨z,z,z,z,z⟩,fun v hv=>by simp at hv,fun v hv=>by simp at hv,zr⟩,hk,⟨Ah _,Ah _,Ah _,Ah _,Ah _,Ah _⟩⟩
end Go.Proofs.YtbgehdndimlgkaaGreat
namespace Go.Av
open Go Go.RowKit Go.MapKept
def dM4:TK->Value->Prop
 | .bool,.bool _=>True
 | .int k,.int k' _=>k'=k
 | .str,.string _=>True
 | _,_=>False
def dZ7 (t:TK) (es:List (CV × AV)):Prop:=∀p∈es,∃x,p.1 = .v x/\dM4 t x
def MAt (k:Value) (v:AV):List (CV × AV)->Nat->Prop
 | [],_=>False
 | e::_,0=>e.1 = .v k/\e.2=v
 | e::es,j+1=>e.1 ≠ .v k/\MAt k v es j
def MNo (k:Value) (es:List (CV × AV)):Prop:=∀p∈es,p.1 ≠ .v k
theorem RepM.length {C:Cx}:∀{es:List (CV × AV)} {ms:List MapEntry},RepM C es ms->ms.length=es.length
 | [],ms,h=>by
  have:ms=[]:=h
  subst this;rfl
 | e::es,ms,h=>by
  obtain ⟨m,ms',rfl,_,_,h3⟩:=h
  rw [At,At,RepM.length h3]
theorem RepM.push {C:Cx} {a:CV} {b:AV} {m:MapEntry} (ha:RepC C.ok C.w a m.key) (hb:Rep C b m.val):∀{es:List (CV × AV)} {ms:List MapEntry},RepM C es ms->RepM C (es++[(a,b)]) (ms++[m])
 | [],ms,h=>by
  have:ms=[]:=h
  subst this
  exact ⟨m,[],rfl,ha,hb,rfl⟩
 | e::es,ms,h=>by
  obtain ⟨m',ms',rfl,h1,h2,h3⟩:=h
  exact ⟨m',ms'++[m],rfl,h1,h2,RepM.push ha hb h3⟩
theorem RepM.set {C:Cx} {a:CV} {b:AV} {m:MapEntry} (ha:RepC C.ok C.w a m.key) (hb:Rep C b m.val):∀{es:List (CV × AV)} {ms:List MapEntry} (j:Nat),RepM C es ms->RepM C (es.set j (a,b)) (ms.set j m)
 | [],ms,j,h=>by
  have:ms=[]:=h
  subst this
  cases j<;>rfl
 | e::es,ms,0,h=>by
  obtain ⟨m',ms',rfl,h1,h2,h3⟩:=h
  exact ⟨m,ms',rfl,ha,hb,h3⟩
 | e::es,ms,j+1,h=>by
  obtain ⟨m',ms',rfl,h1,h2,h3⟩:=h
  exact ⟨m',ms'.set j m,rfl,h1,h2,RepM.set ha hb j h3⟩
theorem TyOk.mapK {P:Dl} {t:Dj} {e:TyE} (h:TyOk P t e) {k x:Dj} (hk:e.kind = .map k x):P.underlying t=some (.map k x):=by
 obtain ⟨d,hd,hk'⟩:=h.und
 rw [hk] at hk'
 cases d<;>simp [aA0] at hk'
 obtain ⟨rfl,rfl⟩:=hk';exact hd
section
variable {P:Dl} {tab:Tab} {ev:Evl} {h:aO} {d:Di} {T ty:Dj} {x y z:Operand} {pos:String} {aft:Dh} {gd:Dc} {i id:Nat} {es:List (CV × AV)}
theorem aI4 {B:Bs} {dom:Nat->Prop} {M:Nat->Dp} {H:Nat->Option AObj} {w:World} {g:Nat} (hh:∀id o,lk h id=some o->dom id->H id=some o) (hc:ConcH B dom M H w) (ho:lk h id=some (.tab es)) (hd:dom id) (hM:M id=some g):∃ms t,w.heap[g]? = some (.map ms t)/\Stamped ms t/\RepM ⟨dom,M,aZ B dom M H,w⟩ es ms.toList:=by
 obtain ⟨k,ms,t,e1,hb,hs,hr⟩:=hc.obj id _ hd (hh id _ ho hd)
 rw [hM] at e1
 injection e1 with e1
 subst e1
 exact ⟨ms,t,hb,hs,hr⟩
theorem sW {r:Option Operand} (hr:r=none):Adds P ⟨d,.makeMap T r,ty,pos,aft,gd⟩ ev h (.mh i) [(i,.tab [])] i (i+1):=by
 subst hr
 refine hU rfl fun B dom M H w a hh hc he=>⟨.map (some w.heap.size),w.alloc (.map #[] 0),some w.heap.size,by simp [execOp,Instr.makeMap,newObj,Sem.run,Result.andThen],fB _ _,fun g hg=>by injection hg with hg;omega,fun C hext hw hd hM=>⟨⟨w.heap.size,#[],0,rfl,?_,stamped_empty 0,rfl⟩,hd,w.heap.size,hM,rfl⟩⟩
 rw [hw];exact heap_alloc_new w _
theorem dO6 {e:TyE} {K E:Dj} (tb:bN P tab) (hT:aQ tab T=some e) (hk:e.kind = .map K E) (hx:ev x=some (.mh id)) (ho:lk h id=some (.tab es)):Still P ⟨d,.call ⟨.builtin .len,#[x],#[T]⟩,ty,pos,aft,gd⟩ ev h (.c (.v (.int .i64 es.length))):=by
 intro B dom M H w a hh hc he
 have h1:=he x _ hx
 simp only [Rep] at h1
 obtain ⟨hid,g,hM,hp⟩:=h1
 obtain ⟨ms,t,hb,hs,hr⟩:=aI4 hh hc ho hid hM
 refine ⟨.int .i64 es.length,?_,by simp only [Rep,RepC]⟩
 have hl:=hr.length
 rw [A6] at hl
 simp [execOp,resolve,invoke,builtin,Builtin.len_,hp,run_underlying ((aL tb hT).mapK hk),Go.MapKept.run_getObj_map hb,goInt,hl]
end
section
variable {P:Dl} {tab:Tab} {sz n:Nat} {env:Env} {h:aO} {dfs:cA} {K:AK} {ops:Df} {rest:De} {T ty:Dj} {x y z:Operand} {pos:String} {aft:Dh} {gd:Dc} {id:Nat} {es es':List (CV × AV)}
end
end Go.Av
namespace Go.Av
open Go Go.RowKit
def eF7 (l:List (Db)):Dr:=l.map fun s => .v (.string ⟨s.toArray⟩)
end Go.Av
namespace Go.Av
open Go Go.RowKit Go.MapKept
section
mutual
theorem AV.mp_id {b:Nat} {σ:Nat->Nat} (h:∀i,i<b->σ i=i):∀x:AV,x.ltB b=true->x.mp σ=x
 | .c x,_=>rfl
 | .ip cs off,_=>rfl
 | .junk,_=>rfl
 | .ref id off,hl=>by simp only [AV.ltB,AI] at hl;simp only [AV.mp,h id hl]
 | .own id off n size full,hl=>by simp only [AV.ltB,AI] at hl;simp only [AV.mp,h id hl]
 | .agg xs,hl=>by simp only [AV.ltB] at hl;simp only [AV.mp,AV.mps_id h xs hl]
 | .tup xs,hl=>by simp only [AV.ltB] at hl;simp only [AV.mp,AV.mps_id h xs hl]
 | .fn f xs,hl=>by simp only [AV.ltB] at hl;simp only [AV.mp,AV.mps_id h xs hl]
 | .yld id,hl=>by simp only [AV.ltB,AI] at hl;simp only [AV.mp,h id hl]
 | .mh id,hl=>by simp only [AV.ltB,AI] at hl;simp only [AV.mp,h id hl]
 | .bm f id,hl=>by simp only [AV.ltB,AI] at hl;simp only [AV.mp,h id hl]
theorem AV.mps_id {b:Nat} {σ:Nat->Nat} (h:∀i,i<b->σ i=i):∀xs:Ds,AV.ltBs b xs=true->AV.mps σ xs=xs
 | [],_=>rfl
 | x::xs,hl=>by
  simp only [AV.ltBs,An] at hl
  simp only [AV.mps,AV.mp_id h x hl.1,AV.mps_id h xs hl.2]
end
mutual
theorem AV.ltB_mono {b N:Nat} (h:b<=N):∀x:AV,x.ltB b=true->x.ltB N=true
 | .c x,_=>rfl
 | .ip cs off,_=>rfl
 | .junk,_=>rfl
 | .ref id off,hl=>by simp only [AV.ltB,AI] at hl ⊢;omega
 | .own id off n size full,hl=>by simp only [AV.ltB,AI] at hl ⊢;omega
 | .agg xs,hl=>by simp only [AV.ltB] at hl ⊢;exact AV.ltBs_mono h xs hl
 | .tup xs,hl=>by simp only [AV.ltB] at hl ⊢;exact AV.ltBs_mono h xs hl
 | .fn f xs,hl=>by simp only [AV.ltB] at hl ⊢;exact AV.ltBs_mono h xs hl
 | .yld id,hl=>by simp only [AV.ltB,AI] at hl ⊢;omega
 | .mh id,hl=>by simp only [AV.ltB,AI] at hl ⊢;omega
 | .bm f id,hl=>by simp only [AV.ltB,AI] at hl ⊢;omega
theorem AV.ltBs_mono {b N:Nat} (h:b<=N):∀xs:Ds,AV.ltBs b xs=true->AV.ltBs N xs=true
 | [],_=>rfl
 | x::xs,hl=>by
  simp only [AV.ltBs,An] at hl ⊢
  exact ⟨AV.ltB_mono h x hl.1,AV.ltBs_mono h xs hl.2⟩
end
def one (q n0 id:Nat):Nat:=if id=q then n0 else id
theorem one_ne {q n0 id:Nat} (h:id≠q):one q n0 id=id:=by simp [one,h]
abbrev Sub:=Value × Nat × Dr
def dY2 (size b:Nat):Nat->List Sub->List (CV × AV)
 | _,[]=>[]
 | j,s::L=>(.v s.1,.own (j+b) 0 s.2.1 size true)::dY2 size b (j+1) L
def dY1 (T:Dj) (b:Nat):Nat->List Sub->aO
 | _,[]=>[]
 | j,s::L=>(j+b,.row T s.2.2)::dY1 T b (j+1) L
def eF8 (size:Nat) (L:List Sub):List (CV × AV):=L.map fun s=>(.v s.1,.c (.sl size s.2.1 s.2.2))
section
variable {T:Dj} {size b:Nat}
end
def eG0 (T:Dj) (size b m:Nat) (L:List Sub):aO:=(m,.tab (dY2 size b 0 L))::dY1 T b 0 L
section
variable {T:Dj} {size b m:Nat} {L:List Sub}
end
section
variable {P:Dl} {tab:Tab} {ev:Evl} {h:aO} {d:Di} {T ty:Dj} {x y z:Operand} {pos:String} {aft:Dh} {gd:Dc} {i id:Nat} {es:List (CV × AV)}
end
end
section
def eF9 (L:List (Value × CV)):List (CV × AV):=L.map fun s=>(.v s.1,.c s.2)
section
variable {P:Dl} {tab:Tab} {ev:Evl} {h:aO} {d:Di} {T ty:Dj} {x y z:Operand} {pos:String} {aft:Dh} {gd:Dc} {i id:Nat} {es:List (CV × AV)}
theorem dO5 {e:TyE} {K E:Dj} {m:Nat} (tb:bN P tab) (hT:aQ tab T=some e) (hk:e.kind = .map K E) (hx:ev x=some (.mh id)) (ho:lk h id=some (.tab es)) (hm:es.length=m):Still P ⟨d,.call ⟨.builtin .len,#[x],#[T]⟩,ty,pos,aft,gd⟩ ev h (.c (.v (.int .i64 m))):=by
 subst hm
 exact dO6 tb hT hk hx ho
end
section
variable {P:Dl} {sz n:Nat} {env:Env} {h:aO} {dfs:cA} {K:AK} {ops:Df} {rest:De} {d:Di} {T ty:Dj} {x y z:Operand} {pos:String} {aft:Dh} {gd:Dc} {b:Bool}
theorem gM (hh:AWL P ops sz (⟨d,.lookup T x y b,ty,pos,aft,gd⟩::rest) K n env h dfs):AWL P ops sz (⟨d,.lookup T x y b,ty,pos,aft,gd⟩::rest) K n env h dfs:=hh
theorem yJ (hh:AWL P ops sz (⟨d,.mapUpdate T x y z,ty,pos,aft,gd⟩::rest) K n env h dfs):AWL P ops sz (⟨d,.mapUpdate T x y z,ty,pos,aft,gd⟩::rest) K n env h dfs:=hh
theorem aX1 {r:Option Operand} (hh:AWL P ops sz (⟨d,.makeMap T r,ty,pos,aft,gd⟩::rest) K n env h dfs):AWL P ops sz (⟨d,.makeMap T r,ty,pos,aft,gd⟩::rest) K n env h dfs:=hh
end
end
section
structure KeyT (P:Dl) (K:Dj) (κ:Type) where
 kc:κ->CV
 kv:κ->Value
 ok:κ->Prop
 inj:∀a b,ok a->ok b->kv a=kv b->a=b
 rep:∀(ok':Nat->Prop) (w:World) (a:κ) (u:Value),RepC ok' w (kc a) u->u=kv a
 repv:∀(ok':Nat->Prop) (w:World) (a:κ),RepC ok' w (kc a) (kv a)
 check:∀(w:World) (em:Bool) (a:κ),ok a->(Instr.checkKey em 10000 K (kv a)).run P w = .ok () w
 find:∀(w:World) (a:κ),ok a->∀es:List MapEntry,(∀e∈es,∃b,ok b/\e.key=kv b)->((Instr.findKey K (kv a) es).run P w = .ok none w/\∀e∈es,e.key≠kv a)\/∃j e,(Instr.findKey K (kv a) es).run P w = .ok (some (j,e.val)) w/\es[j]? = some e/\e.key=kv a
 stays:∀(w:World) (a:κ),ok a->(Instr.keyThatStays (kv a) (kv a)).run P w = .ok (kv a) w
abbrev bX8:CV := .v (.bool true)
def aF {κ:Type} (kc:κ->CV) (ks:List κ):List (CV × AV):=ks.map fun k=>(kc k,.c bX8)
def mJ {κ:Type} [DecidableEq κ] (ks:List κ) (k:κ):List κ:=if k∈ks then ks else ks++[k]
theorem sH {κ:Type} [DecidableEq κ] {ks:List κ} {k x:κ}:x∈mJ ks k↔x∈ks\/x=k:=by
 unfold mJ
 split
 ·rename_i h
  exact ⟨.inl,fun h'=>h'.elim (fun h=>h) fun e=>e▸h⟩
 ·simp
theorem bM {κ:Type} {kc:κ->CV} {N:Nat} {L:List κ}:(AObj.tab (aF kc L)).ltB N=true:=by simp [AObj.ltB,aF,AV.ltB]
theorem setT_mp {κ:Type} {kc:κ->CV} {σ:Nat->Nat} {L:List κ}:AObj.tab (aF kc L)=(AObj.tab (aF kc L)).mp σ:=by
 simp only [AObj.mp,aF,BA]
 congr 1
theorem aR6 {κ:Type} (kc:κ->CV) (L:List κ):(aF kc L).length=L.length:=AS _
section
variable {P:Dl} {K:Dj} {κ:Type} {C:Cx}
theorem qD (kt:KeyT P K κ):∀{ks:List κ} {ms:List MapEntry},RepM C (aF kt.kc ks) ms->ms.map (fun m=>(m.key,m.val))=ks.map fun k=>(kt.kv k,Value.bool true)
 | [],ms,h=>by
  have:ms=[]:=h
  subst this;rfl
 | k::ks,ms,h=>by
  obtain ⟨m,ms',rfl,h1,h2,h3⟩:=h
  rw [AF,AF,qD kt h3,kt.rep _ _ _ _ h1]
  simp only [Rep,RepC] at h2
  rw [h2]
section
variable (kt:KeyT P K κ) {ks:List κ} {ms:List MapEntry} (h:RepM C (aF kt.kc ks) ms)
include kt ks ms h
theorem aR7 {m:MapEntry} (hm:m∈ms):∃k∈ks,m.key=kt.kv k/\m.val = .bool true:=by
 have e:=qD kt h
 have:(m.key,m.val)∈ks.map fun k=>(kt.kv k,Value.bool true):=e▸Bz.2 ⟨m,hm,rfl⟩
 obtain ⟨k,hk,he⟩:=Bz.1 this
 injection he with e1 e2
 exact ⟨k,hk,e1.symm,e2.symm⟩
theorem bH7 {j:Nat} {m:MapEntry} (hm:ms[j]? = some m):∃k,ks[j]? = some k/\m.key=kt.kv k/\m.val = .bool true:=by
 have e:=congrArg (fun l=>l[j]?) (qD kt h)
 simp only [BG,hm,AR] at e
 cases hk:ks[j]? with
 | none=>rw [hk] at e;cases e
 | some k =>
  rw [hk] at e
  injection e with e
  injection e with e1 e2
  exact ⟨k,rfl,e1,e2⟩
theorem aE1 {k:κ} (hk:k∈ks):∃m∈ms,m.key=kt.kv k:=by
 have e:=qD kt h
 have:(kt.kv k,Value.bool true)∈ms.map fun m=>(m.key,m.val):=e▸Bz.2 ⟨k,hk,rfl⟩
 obtain ⟨m,hm,he⟩:=Bz.1 this
 injection he with e1 e2
 exact ⟨m,hm,e1⟩
end
end
section
variable {P:Dl} {tab:Tab} {ev:Evl} {h:aO} {d:Di} {T ty:Dj} {x y z:Operand} {pos:String} {aft:Dh} {gd:Dc} {i id:Nat} {κ:Type} [DecidableEq κ] {K E:Dj} {ks:List κ} {k:κ} {e:TyE}
section
variable (kt : KeyT P K κ) (tb : bN P tab) (hT : aQ tab T = some e) (hk : e.kind = .map K E) (hz : ∀ w, (zeroValue E).run P w = .ok (.bool false) w) (hx : ev x = some (.mh id)) (ho : lk h id = some (.tab (aF kt.kc ks))) (hy : ev y = some (.c (kt.kc k))) (hok : kt.ok k) (hoks : ∀ q ∈ ks, kt.ok q)
include kt tb hT hk hz hx ho hy hok hoks
theorem aR2 :
    Still P ⟨d, .lookup T x y false, ty, pos, aft, gd⟩ ev h (.c (.v (.bool (decide (k ∈ ks))))) := by
  intro B dom M H w a hh hc he
  have h1 := he x _ hx
  have h2 := he y _ hy
  have h2 := kt.rep _ _ _ _ h2
  simp only [Rep] at h1
  obtain ⟨hid, g, hM, hp⟩ := h1
  obtain ⟨ms, t, hb, hs, hr⟩ := aI4 hh hc ho hid hM
  have hck := kt.check w ms.isEmpty k hok
  have hzr := hz
  have hent : ∀ m ∈ ms.toList, ∃ b, kt.ok b /\ m.key = kt.kv b := fun m hm => by
    obtain ⟨b, hb1, hb2, _⟩ := aR7 kt hr hm
    exact ⟨b, hoks b hb1, hb2⟩
  refine ⟨.bool (decide (k ∈ ks)), ?_, by simp only [Rep, RepC]⟩
  rcases kt.find w k hok ms.toList hent with ⟨f1, f2⟩ | ⟨j, m, f1, f2, f3⟩
  · have hn : k ∉ ks := fun hin => by
      obtain ⟨m, hm, e⟩ := aE1 kt hr hin
      exact f2 m hm e
    simp [execOp, Instr.lookup, hp, h2, run_underlying ((aL tb hT).mapK hk), Go.MapKept.run_getObj_map hb, hck, f1, hzr, hn]
  · obtain ⟨b, hb1, hb2, hb3⟩ := bH7 kt hr f2
    have hbk : b ∈ ks := Ac hb1
    have : b = k := kt.inj _ _ (hoks b hbk) hok (hb2.symm.trans f3)
    subst this
    simp [execOp, Instr.lookup, hp, h2, run_underlying ((aL tb hT).mapK hk), Go.MapKept.run_getObj_map hb, hck, f1, hb3, hbk]
theorem nT (hm : k ∈ ks) :
    Still P ⟨d, .lookup T x y false, ty, pos, aft, gd⟩ ev h (.c (.v (.bool true))) := by
  have := aR2 (d := d) (ty := ty) (pos := pos) (aft := aft) (gd := gd) kt tb hT hk hz hx ho hy hok hoks
  rwa [AT hm] at this
theorem mL (hm : k ∉ ks) :
    Still P ⟨d, .lookup T x y false, ty, pos, aft, gd⟩ ev h (.c (.v (.bool false))) := by
  have := aR2 (d := d) (ty := ty) (pos := pos) (aft := aft) (gd := gd) kt tb hT hk hz hx ho hy hok hoks
  rwa [Bg hm] at this
end
omit [DecidableEq κ] in
theorem aR3 {m:Nat} {kc:κ->CV} (tb:bN P tab) (hT:aQ tab T=some e) (hk:e.kind = .map K E) (hx:ev x=some (.mh id)) (ho:lk h id=some (.tab (aF kc ks))) (hm:ks.length=m):Still P ⟨d,.call ⟨.builtin .len,#[x],#[T]⟩,ty,pos,aft,gd⟩ ev h (.c (.v (.int .i64 m))) :=
 dO5 tb hT hk hx ho (by rw [aR6,hm])
theorem bZ5 (kt : KeyT P K κ) (tb : bN P tab) (hT : aQ tab T = some e) (hk : e.kind = .map K E) (hx : ev x = some (.mh id)) (ho : lk h id = some (.tab (aF kt.kc ks))) (hy : ev y = some (.c (kt.kc k))) (hz : ev z = some (.c bX8)) (hok : kt.ok k) (hoks : ∀ q ∈ ks, kt.ok q) :
    bT P ⟨none, .mapUpdate T x y z, ty, pos, aft, gd⟩ ev h .junk [] (some (id, some (.tab (aF kt.kc (mJ ks k))))) i i := by
  intro B dom M H w a K' Q hh hn c1 he hK'
  have h1 := he x _ hx
  have h2 := he y _ hy
  have h2 := kt.rep _ _ _ _ h2
  have h3 := he z _ hz
  simp only [Rep, RepC] at h1 h3
  obtain ⟨hid, g, hM, hp⟩ := h1
  obtain ⟨ms, t, hb, hs, hr⟩ := aI4 hh c1 ho hid hM
  have hck := kt.check w false k hok
  have hent : ∀ m ∈ ms.toList, ∃ b, kt.ok b /\ m.key = kt.kv b := fun m hm => by
    obtain ⟨b, hb1, hb2, _⟩ := aR7 kt hr hm
    exact ⟨b, hoks b hb1, hb2⟩
  have fin : ∀ (ms' : Array MapEntry) (t' : Nat), Stamped ms' t' -> (∀ C, RepM C (aF kt.kc ks) ms.toList -> RepM C (aF kt.kc (mJ ks k)) ms'.toList) ->
      (execOp a.eval ⟨none, .mapUpdate T x y z, ty, pos, aft, gd⟩).run P w = .ok .skip { w with heap := w.heap.setIfInBounds g (.map ms' t') } -> Oper.wp P ⟨none, .mapUpdate T x y z, ty, pos, aft, gd⟩ a w K' Q := by
    intro ms' t' hst hrm hrun
    obtain ⟨q1, q2⟩ := heap_set (o' := .map ms' t') hb
    unfold Oper.wp
    rw [hrun, Oper.upon_skip]
    obtain ⟨k1, k2⟩ := c1.turnE (o' := .tab (aF kt.kc (mJ ks k))) (w' := { w with heap := w.heap.setIfInBounds g (.map ms' t') }) hid (hh _ _ ho hid) hM rfl rfl rfl aR (fun k hk => q2 k hk) (by unfold World.shape?; simp only [q1, hb])
      (fun hext => ⟨g, _, _, rfl, q1, hst, hrm _ (RepM.ext hext _ _ hr)⟩)
    rw [dN] at hK'
    exact aM7
  rcases kt.find w k hok ms.toList hent with ⟨f1, f2⟩ | ⟨j, m, f1, f2, f3⟩
  · have hn : k ∉ ks := fun hin => by
      obtain ⟨m, hm, e⟩ := aE1 kt hr hin
      exact f2 m hm e
    have hset := Go.MapKept.run_setObj_map (P := P) (.map (ms.push { key := kt.kv k, val := .bool true, born := t }) (t + 1)) hb
    refine fin (ms.push { key := kt.kv k, val := .bool true, born := t }) (t + 1) (stamped_push hs f2) (fun C hC => ?_) ?_
    · rw [Array.toList_push, mJ, Ak hn, aF, BU]
      exact RepM.push (kt.repv _ _ k) (by simp only [Rep, RepC]) hC
    · simp [execOp, Instr.mapUpdate, hp, h2, h3, run_underlying ((aL tb hT).mapK hk), Go.MapKept.run_getObj_map hb, hck, f1, hset]
  · obtain ⟨b, hb1, hb2, hb3⟩ := bH7 kt hr f2
    have hbk : b ∈ ks := Ac hb1
    have : b = k := kt.inj _ _ (hoks b hbk) hok (hb2.symm.trans f3)
    subst this
    have f2' : ms[j]? = some m := by rw [<- BS]; exact f2
    have hst := kt.stays w b hok
    have hset := Go.MapKept.run_setObj_map (P := P) (.map (ms.modify j fun e => { e with key := kt.kv b, val := .bool true }) t) hb
    have hls : ms.modify j (fun e => { e with key := kt.kv b, val := .bool true }) = ms := by
      apply Array.ext'
      apply Cj
      intro q
      rw [BS, BQ, BS]
      by_cases hq : j = q
      · subst hq
        rw [Al rfl, f2']
        obtain ⟨mk, mv, mb⟩ := m
        simp only at f3 hb3
        subst f3 hb3
        rfl
      · rw [Ak hq]
    refine fin ms t hs (fun C hC => by rw [mJ, Al hbk]; exact hC) ?_
    rw [hls] at hset
    simp [execOp, Instr.mapUpdate, hp, h2, h3, run_underlying ((aL tb hT).mapK hk), Go.MapKept.run_getObj_map hb, hck, f1, f2', f3, hst, hls, hset]
end
section
variable {P:Dl} {tab:Tab} {sz n i n0 m:Nat} {env env0:Env} {h h0 hr:aO} {dfs:cA} {K:AK} {ops:Df} {l rest:De} {es:List Eat} {ids:Dg} {T ty:Dj} {x y z:Operand} {pos:String} {aft:Dh} {gd:Dc} {id:Nat} {κ:Type} [DecidableEq κ] {K1 E:Dj} {ks:List κ} {k:κ} {e:TyE}
theorem lF (kt : KeyT P K1 κ) (tb : bN P tab) (hg : guardA ops env ⟨none, .mapUpdate T x y z, ty, pos, aft, gd⟩ true) (hT : aQ tab T = some e) (hk : e.kind = .map K1 E) (hx : evA env x = some (.mh id)) (ho : lk h id = some (.tab (aF kt.kc ks))) (hy : evA env y = some (.c (kt.kc k))) (hz : evA env z = some (.c bX8)) (hok : kt.ok k) (hoks : ∀ q ∈ ks, kt.ok q)
    (next : AWL P ops sz rest K n env ((id, .tab (aF kt.kc (mJ ks k))) :: h) dfs) : AWL P ops sz (⟨none, .mapUpdate T x y z, ty, pos, aft, gd⟩ :: rest) K n env h dfs :=
  jX (v := .junk) (c := some (id, some (AObj.tab (aF kt.kc (mJ ks k))))) (Δ := []) hg rfl (Ag _) rfl (bZ5 kt tb hT hk hx ho hy hz hok hoks) (fun id h1 h2 => by omega) aR next
end
end
def dM9 {P:Dl} {K:Dj} (hd:P.underlying K=some (.int .i64)):KeyT P K Int where
 kc n := .v (.int .i64 n)
 kv n := .int .i64 n
 ok _:=True
 inj a b _ _ h:=by injection h
 rep ok' w a u h:=by simpa only [RepC] using h
 repv ok' w a:=by simp only [RepC]
 check w em a _:=run_checkKey hd (show IsKey (.int .i64) (.int .i64 a) from rfl) em 9999
 find w a _ es hes:=by
  rcases findNow_spec (d := .int .i64) (k := .int .i64 a) rfl es 0 (fun x hx=>by obtain ⟨b,_,hb⟩:=hes x hx;rw [hb];rfl) with ⟨h1,h2⟩|⟨j,e,h1,h2,h3⟩
  ·exact .inl ⟨run_findKey hd h1,h2⟩
  ·exact .inr ⟨j,e,by rw [Ai] at h1;exact run_findKey hd h1,h2,h3⟩
 stays w a _:=run_keyThatStays (d := .int .i64) rfl
def tY (P:Dl) (K I n:Nat):Bool:=match P.underlying K with
 | some (.struct fs) => fs.all fun f => f.name != "_" && (Nat.beq f.type I && Nat.blt f.offset n)
 | some (.array m e)=>Nat.beq e I&&Nat.beq m n
 | _=>false
theorem wC {α β:Type} {g:α->Option β}:∀{L:List α},(∀x∈L,∃y,g x=some y)->∃ys,L.mapM g=some ys
 | [],_=>⟨[],rfl⟩
 | x::L,h=>by
  obtain ⟨y,hy⟩:=h x aR
  obtain ⟨ys,hys⟩:=wC (L:=L) fun z hz=>h z (by simp [hz])
  exact ⟨y::ys,by simp [Cn,hy,hys]⟩
def dI0 (n:Int):Prop := -9223372036854775808<=n/\n<=9223372036854775807
theorem nP {P : Dl} {K I n : Nat} (hs : tY P K I n = true) (hI : P.underlying I = some (.int .i64)) (hsI : P.cellsOf I = 1) (hsK : P.cellsOf K = n) (hk : P.keyType K = true) (hsz : 1 <= P.types.size) (vs : List Int) (hl : vs.length = n) (hv : ∀ v ∈ vs, dI0 v) :
    ∃ l, keyOf P K (.agg (vs.map fun v => Value.int .i64 v).toArray) = some l := by
  obtain ⟨d, hd⟩ : ∃ d, P.types.size = d + 1 := ⟨P.types.size - 1, by omega⟩
  have hcl : (vs.map fun v => Value.int .i64 v).length = n := by rw [AS, hl]
  have hone : ∀ i, i < n -> ∃ l, P.keyLits (d + 1) I (((vs.map fun v => Value.int .i64 v).drop i).take 1) = some l := fun i hi => by
    obtain ⟨v, hv'⟩ : ∃ v, vs[i]? = some v := ⟨_, Aa aA⟩
    obtain ⟨b1, b2⟩ := hv v (Ac hv')
    have e : ((vs.map fun v => Value.int .i64 v).drop i).take 1 = [.int .i64 v] := by
      have h1 : (vs.map fun v => Value.int .i64 v)[i]? = some (.int .i64 v) := by rw [BG, hv']; rfl
      obtain ⟨h2, h3⟩ := Ad.1 h1
      rw [Bp h2, B6, Cy, h3]
    rw [e]
    refine ⟨[.int .i64 v], ?_⟩
    have hw : (Lit.int .i64 v).wf = true := by
      have e1 : IntKind.i64.min = -9223372036854775808 := by decide
      have e2 : IntKind.i64.max = 9223372036854775807 := by decide
      simp only [Lit.wf, e1, e2, Bv, An]
      omega
    simp [Program.keyLits, hI, hw]
  have key : ∀ L, (P.keyLits (P.types.size + 1) K (vs.map fun v => Value.int .i64 v)) = some L -> (Value.agg (vs.map fun v => Value.int .i64 v).toArray).formed P K = true -> (match P.underlying K with | some (.array _ _) | some (.struct _) => true | _ => false) = true -> ∃ l, keyOf P K (.agg (vs.map fun v => Value.int .i64 v).toArray) = some l := fun L h1 h2 h3 => by
    unfold keyOf
    split at h3
    · rename_i h; rw [h]; simp [hk, h2, Value.cells, h1]
    · rename_i h; rw [h]; simp [hk, h2, Value.cells, h1]
    · cases h3
  unfold tY at hs
  split at hs
  · rename_i fs hu
    rw [CI] at hs
    have hf : ∀ f ∈ fs, (f.name != "_") = true ∧ f.type = I ∧ f.offset < n := fun f hf => by
      have := hs f hf
      simp only [An, AI] at this
      exact ⟨this.1, Ae this.2.1, this.2.2⟩
    obtain ⟨ys, hys⟩ := wC (L := fs.toList) (g := fun f => P.keyLits (d + 1) f.type (((vs.map fun v => Value.int .i64 v).drop f.offset).take (P.cellsOf f.type))) fun f hfm => by
      obtain ⟨_, h2, h3⟩ := hf f (Array.mem_def.2 hfm)
      rw [h2, hsI]
      exact hone _ h3
    refine key ys.flatten ?_ ?_ ?_
    · rw [hd]
      unfold Program.keyLits
      rw [hu]
      simp only
      rw [Al ⟨by rw [hcl, hsK], by rw [CI]; exact fun f hfm => (hf f hfm).1⟩, hys]
      rfl
    · simp [Value.formed, hu, hsK, hl]
    · rw [hu]
  · rename_i m e hu
    simp only [An] at hs
    have he := Ae hs.1
    have hm := Ae hs.2
    subst he hm
    obtain ⟨ys, hys⟩ := wC (L := List.range m) (g := fun i => P.keyLits (d + 1) e (((vs.map fun v => Value.int .i64 v).drop (i * P.cellsOf e)).take (P.cellsOf e))) fun i hi => by
      rw [hsI, A5]
      exact hone i (A7.1 hi)
    refine key ys.flatten ?_ ?_ ?_
    · rw [hd]
      unfold Program.keyLits
      rw [hu]
      simp only
      rw [Al (by rw [hcl, hsK]), hys]
      rfl
    · simp [Value.formed, hu, hsK, hl]
    · rw [hu]
  · cases hs
def aH9 {P:Dl} {K I n:Nat} {κ:Type} (law:WideMaps.KeyLaw P K) (hs:tY P K I n=true) (hI:P.underlying I=some (.int .i64)) (hsI:P.cellsOf I=1) (hsK:P.cellsOf K=n) (hk:P.keyType K=true) (hsz:Nat.ble 1 P.types.size=true) (ls:κ->List Int) (hl:∀a,(ls a).length=n) (hi:∀a b,ls a=ls b->a=b):KeyT P K κ where
 kc a := .agg ((ls a).map fun v => .v (.int .i64 v))
 kv a := .agg ((ls a).map fun v=>Value.int .i64 v).toArray
 ok a:=∀v∈ls a,dI0 v
 inj a b _ _ h:=by
  refine hi a b ?_
  injection h with h
  have h:=congrArg Array.toList h
  simp only [Ca] at h
  exact List.map_inj_right (fun x y e=>by injection e) |>.1 h
 rep ok' w a u h:=by
  have h:∃us:Dd,u = .agg us.toArray/\RepCs ok' w ((ls a).map fun v=>CV.v (.int .i64 v)) us/\∀x∈us,x.oneCell'=true:=by simpa only [RepC] using h
  obtain ⟨us,rfl,h,_⟩:=h
  congr 2
  have:∀(l:List Int) (us:Dd),RepCs ok' w (l.map fun v=>CV.v (.int .i64 v)) us->us=l.map fun v=>Value.int .i64 v:=by
   intro l
   induction l with
   | nil=>intro us h;exact h
   | cons x l ih =>
    intro us h
    obtain ⟨u,us',rfl,h1,h2⟩:=h
    simp only [RepC] at h1
    rw [h1,ih us' h2]
    rfl
  exact this _ _ h
 repv ok' w a:=by
  have:RepC ok' w (.agg ((ls a).map fun v=>CV.v (.int .i64 v))) (.agg ((ls a).map fun v=>Value.int .i64 v).toArray)↔∃us:Dd,Value.agg ((ls a).map fun v=>Value.int .i64 v).toArray = .agg us.toArray/\RepCs ok' w ((ls a).map fun v=>CV.v (.int .i64 v)) us/\∀x∈us,x.oneCell'=true:=by simp only [RepC]
  refine this.2 ⟨_,rfl,?_,fun x hx=>?_⟩
  ·generalize ls a=l
   induction l with
   | nil=>rfl
   | cons x l ih=>exact ⟨_,_,rfl,by simp only [RepC],ih⟩
  ·obtain ⟨v,_,rfl⟩:=Bz.1 hx
   rfl
 check w em a ha:=by
  obtain ⟨l,hl'⟩:=nP hs hI hsI hsK hk (A9 hsz) (ls a) (hl a) ha
  exact law.check w em hl'
 find w a ha es hes:=by
  obtain ⟨l,hl'⟩:=nP hs hI hsI hsK hk (A9 hsz) (ls a) (hl a) ha
  exact law.find w hl' es fun e he=>by
   obtain ⟨b,hb1,hb2⟩:=hes e he
   rw [hb2]
   exact nP hs hI hsI hsK hk (A9 hsz) (ls b) (hl b) hb1
 stays w a ha:=by
  obtain ⟨l,hl'⟩:=nP hs hI hsI hsK hk (A9 hsz) (ls a) (hl a) ha
  exact law.stays w hl'
end Go.Av
namespace Go.Av
open Go Go.RowKit
inductive LfK where
 | b
 | i (q:Dm)
 | s
def mB (P:Dl):Nat->Dj->List LfK
 | 0,_=>[]
 | m+1,t=>match P.underlying t with
  | some .bool=>[.b]
  | some (.int q)=>[.i q]
  | some .string=>[.s]
  | some (.array n e)=>(List.range n).flatMap fun _=>mB P m e
  | some (.struct fs)=>fs.toList.flatMap fun f=>mB P m f.type
  | _=>[]
def dU3:LfK->Value->Prop
 | .b,.bool _=>True
 | .i q,.int q' n=>q'=q/\(Lit.int q n).wf=true
 | .s,.string s=>s.size<=maxLen
 | _,_=>False
def LfL:List LfK->Dd->Prop
 | [],[]=>True
 | k::ks,v::vs=>dU3 k v/\LfL ks vs
 | _,_=>False
theorem LfL.length:∀{ks:List LfK} {vs:Dd},LfL ks vs->ks.length=vs.length
 | [],[],_=>rfl
 | k::ks,v::vs,h=>by simp [LfL.length h.2]
 | [],_::_,h=>h.elim
 | _::_,[],h=>h.elim
theorem LfL.split:∀{p q:List LfK} {vs:Dd},LfL (p++q) vs->LfL p (vs.take p.length)/\LfL q (vs.drop p.length)
 | [],q,vs,h=>by simpa [LfL] using h
 | a::p,q,[],h=>h.elim
 | a::p,q,v::vs,h=>by
  obtain ⟨h1,h2⟩:=LfL.split (p:=p) h.2
  exact ⟨⟨h.1,h1⟩,h2⟩
variable {P:Dl}
theorem aQ9:∀(fs:List Field) (off tot:Nat),P.runs off fs=some tot->off+(fs.map fun f=>P.cellsOf f.type).sum=tot
 | [],off,tot,h=>by simpa [Program.runs] using h
 | f::r,off,tot,h=>by
  simp only [Program.runs] at h
  split at h
  ·have:=aQ9 r _ _ h
   simp only [AF,CM]
   omega
  ·cases h
theorem yF {α:Type} {f:α->List LfK}:∀l:List α,(l.flatMap f).length=(l.map fun x=>(f x).length).sum
 | []=>rfl
 | x::l=>by rw [A1,Ab,yF l,AF,CM]
theorem aE5 {c:Nat}:∀l:Dg,(l.map fun _=>c).sum=l.length*c
 | []=>by simp
 | x::l=>by rw [AF,CM,aE5 l,At,AJ,Da,CE]
def zZ (P:Dl):Nat->Dj->Bool
 | 0,_=>true
 | m+1,t=>match P.underlying t with
  | some .bool|some (.int _)|some .string=>Nat.beq (P.cellsOf t) 1
  | some (.array _ e)=>zZ P m e
  | some (.struct fs)=>fs.all fun f=>zZ P m f.type
  | _=>true
theorem lA:∀(m:Nat) (t:Dj),P.tiled m t=true->zZ P m t=true->(mB P m t).length=P.cellsOf t
 | 0,t,h,_=>by simp [Program.tiled] at h
 | m+1,t,h,ho=>by
  unfold Program.tiled at h
  unfold zZ at ho
  unfold mB
  cases hu:P.underlying t with
  | none=>simp [hu] at h
  | some kd =>
   cases kd
   case bool=>simp only [hu] at ho;exact (Ae ho).symm
   case int q=>simp only [hu] at ho;exact (Ae ho).symm
   case string=>simp only [hu] at ho;exact (Ae ho).symm
   case array n e =>
    simp only [hu,An,CT] at h ho
    simp only
    rw [yF,lA m e h.2 ho,aE5,Cz,h.1]
   case struct fs =>
    simp only [hu,An,CT] at h ho
    simp only
    rw [yF]
    have h1:=aQ9 _ _ _ h.1
    rw [Ai] at h1
    rw [<- h1]
    congr 1
    refine List.map_congr_left fun f hf=>?_
    exact lA m f.type (Bh.1 h.2 f (BD.1 hf)) (Bh.1 ho f (BD.1 hf))
   all_goals (simp [hu] at h;done)
theorem uV {g:Field->List LfK} {D:Nat} (cs:Dd):∀(fs:List Field) (off tot:Nat),P.runs off fs=some tot->(∀f∈fs,(g f).length=P.cellsOf f.type)->(∀f∈fs,∀vs,LfL (g f) vs->∃l,P.keyLits D f.type vs=some l)->LfL (fs.flatMap g) (cs.drop off)->∃ys,fs.mapM (fun f=>P.keyLits D f.type ((cs.drop f.offset).take (P.cellsOf f.type)))=some ys
 | [],off,tot,_,_,_,_=>⟨[],rfl⟩
 | f::r,off,tot,h,hl,hk,hL=>by
  simp only [Program.runs] at h
  split at h
  ·rename_i ho
   rw [A1] at hL
   obtain ⟨h1,h2⟩:=hL.split
   rw [hl f aR] at h1 h2
   rw [BC] at h2
   obtain ⟨y,hy⟩:=hk f aR _ h1
   obtain ⟨ys,hys⟩:=uV cs r _ tot h (fun f hf=>hl f (by simp [hf])) (fun f hf=>hk f (by simp [hf])) h2
   exact ⟨y::ys,by rw [Cn,ho,hy,hys];rfl⟩
  ·cases h
theorem yL {ks:List LfK} {D c:Nat} {e:Dj} (hc:ks.length=c) (hk:∀vs,LfL ks vs->∃l,P.keyLits D e vs=some l) (cs:Dd):∀(n j:Nat),LfL ((List.range n).flatMap fun _=>ks) (cs.drop (j*c))->∀i,i<n->∃l,P.keyLits D e ((cs.drop ((j+i)*c)).take c)=some l
 | 0,j,_,i,hi=>by omega
 | n+1,j,hL,i,hi=>by
  rw [List.range_succ_eq_map,A1,List.flatMap_map] at hL
  obtain ⟨h1,h2⟩:=hL.split
  rw [hc] at h1 h2
  cases i with
  | zero=>rw [Cq];exact hk _ h1
  | succ i =>
   rw [BC,show j*c+c=(j+1)*c by rw [AJ,Da]] at h2
   rw [show j+(i+1)=j+1+i by omega]
   exact yL hc hk cs n (j+1) h2 i aA
theorem kU:∀(m:Nat) (t:Dj),P.tiled m t=true->P.keyTypeAt m t=true->zZ P m t=true->∀vs,LfL (mB P m t) vs->∃l,P.keyLits m t vs=some l
 | 0,t,h,_,_,_,_=>by simp [Program.tiled] at h
 | m+1,t,h,hk,ho,vs,hL=>by
  have hlen:=lA (m+1) t h ho
  have hvl:=hL.length
  unfold Program.tiled at h
  unfold Program.keyTypeAt at hk
  unfold zZ at ho
  unfold mB at hL hlen hvl
  unfold Program.keyLits
  cases hu:P.underlying t with
  | none=>simp [hu] at h
  | some kd =>
   cases kd
   case bool =>
    simp only [hu] at hL
    match vs,hL with
    | [.bool b],_=>exact ⟨_,rfl⟩
   case int q =>
    simp only [hu] at hL
    match vs,hL with
    | [.int q' n],hL=>exact ⟨_,Al hL.1⟩
   case string =>
    simp only [hu] at hL
    match vs,hL with
    | [.string s],hL=>exact ⟨_,Al hL.1⟩
   case array n e =>
    simp only [hu,An,CT] at h hk ho hL hlen hvl
    obtain ⟨ys,hys⟩:=wC (L:=List.range n) (g:=fun i=>P.keyLits m e ((vs.drop (i*P.cellsOf e)).take (P.cellsOf e))) fun i hi=>by
     have:=yL (lA m e h.2 ho) (fun vs hv=>kU m e h.2 hk ho vs hv) vs n 0 (by simpa using hL) i (A7.1 hi)
     rwa [Ai] at this
    simp only
    rw [Al aA,hys]
    exact ⟨_,rfl⟩
   case struct fs =>
    simp only [hu,An,CT] at h hk ho hL hlen hvl
    have ht:=fun f (hf:f∈fs.toList)=>Bh.1 h.2 f (BD.1 hf)
    have hof:=fun f (hf:f∈fs.toList)=>Bh.1 ho f (BD.1 hf)
    have hkf:=fun f (hf:f∈fs.toList)=>by
     have:=Bh.1 hk.1.1 f (BD.1 hf)
     exact C6.1 this
    obtain ⟨ys,hys⟩:=uV (D:=m) vs fs.toList 0 _ h.1 (fun f hf=>lA m f.type (ht f hf) (hof f hf)) (fun f hf vs hv=>kU m f.type (ht f hf) (hkf f hf).2 (hof f hf) vs hv) (by simpa using hL)
    simp only
    rw [Al ⟨by omega,Bh.2 fun f hf=>(hkf f (BD.2 hf)).1⟩,hys]
    exact ⟨_,rfl⟩
   all_goals (simp [hu] at h;done)
def aT4 (P:Dl) (t:Dj):Bool:=match P.underlying t with
 | some (.array _ _)|some (.struct _)=>true
 | _=>false
section
variable {m:Nat} {t:Dj} (hm:Nat.ble m 10000=true) (ht:P.tiled m t=true) (hk:P.keyTypeAt m t=true) (ho:zZ P m t=true) (hw:aT4 P t=true) {xs ys:Dd} (hx:LfL (mB P m t) xs) (hy:LfL (mB P m t) ys) (w:World) {r:Bool} (hr:r=true↔xs=ys)
include m t hm ht hk ho hw xs ys hx hy w r hr
theorem yX:(Op.equalIn 10000 t (.agg xs.toArray) (.agg ys.toArray)).run P w = .ok r w:=by
 have hm:m<=10000:=by simpa using hm
 obtain ⟨lx,h1⟩:=kU m t ht hk ho xs hx
 obtain ⟨ly,h2⟩:=kU m t ht hk ho ys hy
 have fm:∀vs:Dd,LfL (mB P m t) vs->(Value.agg vs.toArray).formed P t=true:=fun vs hv=>by
  have hl:=hv.length
  rw [lA m t ht ho] at hl
  unfold aT4 at hw
  unfold Value.formed
  split at hw
  ·rename_i hu;simp [hu,hl]
  ·rename_i hu;simp [hu,hl]
  ·cases hw
 obtain ⟨r',hr',hiff⟩:=run_equalIn_deep (10000-m) m t hk w m m (.agg xs.toArray) (.agg ys.toArray) lx ly (fm xs hx) (fm ys hy) (by simpa [Value.cells] using h1) (by simpa [Value.cells] using h2)
 rw [show 10000-m+m=10000 by omega] at hr'
 rw [hr']
 have e1:=cells_of_lits m t ht m _ _ h1
 have e2:=cells_of_lits m t ht m _ _ h2
 have h3:lx=ly↔xs=ys:=⟨fun h=>by rw [e1,e2,h],fun h=>by rw [h,h2] at h1;injection h1 with h1;exact h1.symm⟩
 have:r'=r:=CZ.2 (hiff.trans (h3.trans hr.symm))
 rw [this]
theorem cH3:(binOp .eql t (.agg xs.toArray) (.agg ys.toArray)).run P w = .ok (.bool r) w:=by
 rw [run_eql_struct,yX hm ht hk ho hw hx hy w hr];rfl
theorem cH5:(binOp .neq t (.agg xs.toArray) (.agg ys.toArray)).run P w = .ok (.bool (!r)) w:=by
 rw [run_neq_struct,yX hm ht hk ho hw hx hy w hr];rfl
end
section
variable {ev:Evl} {h:aO} {d:Di} {T ty:Dj} {x y:Operand} {pos:String} {aft:Dh} {gd:Dc} {ks:List LfK} {m:Nat} {xs ys:Dd} {cs cs':Dr} {b:Bool} {T':Dj} (hg:P.eqGuardType P.depth T=false) (hm:Nat.ble m 10000=true) (ht:P.tiled m T=true) (hk:P.keyTypeAt m T=true) (ho:zZ P m T=true) (hw:aT4 P T=true) (hL:mB P m T=ks) (hx:ev x=some (.c (.agg cs))) (hy:ev y=some (.c (.agg cs'))) (hcx:cs=xs.map CV.v) (hcy:cs'=ys.map CV.v) (hlx:LfL ks xs) (hly:LfL ks ys)
include hg hm ht hk ho hw hL hx hy hcx hcy hlx hly
theorem uG (hb:b=true↔xs=ys):Still P ⟨d,.binOp .eql T x y T',ty,pos,aft,gd⟩ ev h (.c (.v (.bool b))):=by
 intro B dom M H w a hh hc he
 have h1:=he x _ hx
 have h2:=he y _ hy
 subst hcx hcy hL
 simp only [Rep,RepC] at h1 h2
 obtain ⟨us,h1,h3,_⟩:=h1
 obtain ⟨vs,h2,h4,_⟩:=h2
 have h3:=RepCs.of_plain h3
 have h4:=RepCs.of_plain h4
 subst h3 h4
 refine ⟨_,?_,rfl⟩
 have:=cH3 hm ht hk ho hw hlx hly w hb
 simp only [execOp,h1,h2,Sem.run_bind,tX (P:=P) w hg,Result.andThen_ok,this]
 rfl
theorem pJ (hb:b=true↔xs=ys):Still P ⟨d,.binOp .neq T x y T',ty,pos,aft,gd⟩ ev h (.c (.v (.bool (!b)))):=by
 intro B dom M H w a hh hc he
 have h1:=he x _ hx
 have h2:=he y _ hy
 subst hcx hcy hL
 simp only [Rep,RepC] at h1 h2
 obtain ⟨us,h1,h3,_⟩:=h1
 obtain ⟨vs,h2,h4,_⟩:=h2
 have h3:=RepCs.of_plain h3
 have h4:=RepCs.of_plain h4
 subst h3 h4
 refine ⟨_,?_,rfl⟩
 have:=cH5 hm ht hk ho hw hlx hly w hb
 simp only [execOp,h1,h2,Sem.run_bind,tX (P:=P) w hg,Result.andThen_ok,this]
 rfl
end
end Go.Av
