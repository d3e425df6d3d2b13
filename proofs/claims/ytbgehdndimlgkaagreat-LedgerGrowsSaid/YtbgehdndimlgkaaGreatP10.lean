/- Lemmas for laws of the ledger. -/
import Derived.DeepKeys3
import Derived.Test.YtbgehdndimlgkaaGreatP9
set_option linter.all false
set_option maxHeartbeats 16000000
namespace Go.Proofs.YtbgehdndimlgkaaGreat
open Go Go.RowKit Go.Av
set_option maxRecDepth 100000
section
def vrc (l:List Ver):D8:=l.flatMap fun v=>[iv v.t,iv v.c,iv v.s]
def src (l:List Src):D8:=l.flatMap fun v=>[iv v.t,iv v.s]
theorem aF5 {α:Type} {f:α->D8} {k:Nat} (h:∀a,(f a).length=k):∀l:List α,(l.flatMap f).length=l.length*k
 | []=>by simp
 | a::l=>by rw [A4,Aa,h,aF5 h l,As,AL,Dq,CX]
theorem aT6 {α:Type} {f:α->D8} {k:Nat} (h:∀a,(f a).length=k):∀{l:List α} {i:Nat} {a:α},l[i]? = some a->((l.flatMap f).drop (i*k)).take k=f a
 | [],i,a,e=>by simp at e
 | b::l,0,a,e=>by
  simp only [B5,Option.some.injEq] at e
  subst e
  rw [BA,AN,A4,A8 (by rw [h];exact Ah _),Ae (by rw [h];exact Ah _)]
 | b::l,i+1,a,e=>by
  rw [A4,Ca,h,AG (by rw [h,AL];omega),Aw,show (i+1)*k-k=i*k by rw [AL];omega]
  exact aT6 h (by simpa using e)
theorem dE (l:List Ver):(vrc l).length=l.length*3:=aF5 (f:=fun v:Ver=>[iv v.t,iv v.c,iv v.s]) (k:=3) (fun _=>rfl) l
theorem dI (l:List Src):(src l).length=l.length*2:=aF5 (f:=fun v:Src=>[iv v.t,iv v.s]) (k:=2) (fun _=>rfl) l
theorem eN {l:List Ver} {i:Nat} {v:Ver} (h:l[i]? = some v):((vrc l).drop (i*3)).take 3=[iv v.t,iv v.c,iv v.s]:=aT6 (f:=fun v:Ver=>[iv v.t,iv v.c,iv v.s]) (k:=3) (fun _=>rfl) h
theorem eB {l:List Src} {i:Nat} {v:Src} (h:l[i]? = some v):((src l).drop (i*2)).take 2=[iv v.t,iv v.s]:=aT6 (f:=fun v:Src=>[iv v.t,iv v.s]) (k:=2) (fun _=>rfl) h
attribute [local irreducible] Still Adds AWL AW Drw bY bW AC AWR cR Frz Go.Av.Src cQ Out InK ItK AsK RdK eL eF ACT ACA eT
attribute [local simp] bV bU bM
theorem lG {α β:Type} {f:α->List β} {l:List α} {i:Nat} {a:α} (h:l[i]? = some a):(l.take (i+1)).flatMap f=(l.take i).flatMap f++f a:=by
 rw [BD,h,Bb];simp
theorem vG {α β:Type} {f:α->List β} (l:List α) (i:Nat):((l.take i).flatMap f).length<=(l.flatMap f).length:=by
 conv=>rhs;rw [<- Bz i l]
 rw [Bb,Aa]
 omega
theorem tB {α β:Type} {f:α->List β} (h:∀a,0<(f a).length):∀l:List α,l.length<=(l.flatMap f).length
 | []=>by simp
 | a::l=>by
  have:=tB h l
  have:=h a
  rw [A4,Aa,As]
  omega
theorem aN2 (v:Ver):0<(eK v).length:=by
 have:=lR (zz v.t)
 unfold eK bA
 simp only [Aa]
 omega
theorem aN0 (v:Src):0<(eZ v).length:=by
 have:=lR (zz v.t)
 unfold eZ bA
 simp only [Aa]
 omega
theorem bI4 (L:Dr) (m:Nat) (hL:L.length=m) (l:List Ver) (n:Nat) (hn:l.length=n) (hl:∀v∈l,aS v.t/\aS v.c/\aS v.s) (m':Nat) (hm':(L++gE eK l).length=m') (hb:m'<=1000000):ACA Tryz.prog 170 5 1 m (u8c L) [.sl 3 n (vrc l)] (u8c (L++gE eK l)) m':=by
 have hul:=u8l hL
 have hul3:=u8l hm'
 have hvl:(vrc l).length=n*3:=by rw [dE,hn]
 have hge:=tB aN2 l
 have hle:=vG (f:=eK) l
 obtain ⟨X,hX⟩:∃X,L++bA n=X:=⟨_,rfl⟩
 obtain ⟨j,hj⟩:∃j,X.length=j:=⟨_,rfl⟩
 have e:L++gE eK l=X++l.flatMap eK:=by rw [<- hX,gE,Ao,hn]
 have hjm:j+(l.flatMap eK).length=m':=by rw [<- hm',<- hj,e,Aa]
 have i1:=vQ L m hL n ⟨by omega,by omega⟩ j lB aA
 rw [hX] at i1
 rw [e] at hm' hul3 ⊢
 have hulx:=u8l hj
 refine eD aB (sz:=29) Tryz.func170 rfl (by rw [Tryz.ntmps170];rfl) (bR _) ?_
 repeat' (first|(refine aC ?_;intro K hK hX)|refine dV2 ?_|(refine aE hK hX ?_;clear hK hX K)|fail)
 refine cN 2 (fun p:Nat × Dr × Nat=>[(0,.own 1 0 p.2.2 1 true),(12,.c (.sl 3 n (vrc l))),(13,.c (iv n)),(14,.c (iv p.1))]) (fun p=>[(1,.row 5 (u8c p.2.1))]) [(none,[.own 0 0 m 1 true])] (fun p=>p.1<=n/\p.2.1.length=p.2.2/\p.2.1=X++(l.take p.1).flatMap eK) (fun p=>n-p.1) (0,X,j) ⟨by omega,hj,by simp⟩ eS ?_
 rintro ⟨i,q,w⟩ ⟨hi,hql,hq⟩ K hK hX
 dsimp only at hi hql hq hK ⊢
 have hulq:=u8l hql
 by_cases hlt:i<n
 ·obtain ⟨v,hat⟩:∃v,l[i]? = some v:=⟨_,Ab aA⟩
  obtain ⟨v1,v2,v3⟩:=hl v (Ad hat)
  have hx:=eN hat
  have hst:q++eK v=X++(l.take (i+1)).flatMap eK:=by rw [hq,lG hat,Ao]
  have hmo:=hle (i+1)
  obtain ⟨t,c,s⟩:=v
  simp only at v1 v2 v3 hx
  have e3:eK ⟨t,c,s⟩=bA t++(bA s++bA c):=by rw [eK,Ao]
  obtain ⟨w',hw'⟩:∃w',(q++eK ⟨t,c,s⟩).length=w':=⟨_,rfl⟩
  have hwb:w'<=m':=by rw [<- hw',hst,Aa,hj];omega
  have i2:=cT5 q w hql t s c v1 v3 v2 w' aT0 aA
  rw [<- e3,hst] at i2
  rw [hst] at hw'
  generalize X++(l.take (i+1)).flatMap eK=q' at i2 hw' hst
  repeat' (first|(refine aC ?_;intro K hK hX)|refine dU9 ?_|(refine aE hK hX ?_;clear hK hX K)|fail)
  exact ⟨(i+1,q',w'),⟨by omega,hw',by rw [<- hst,hq,lG hat,Ao]⟩,by simp only;omega,dW2⟩
 ·have hin:i=n:=by omega
  have hq':q=X++l.flatMap eK:=by rw [hq,Ae aA]
  have hwm:w=m':=by rw [<- hql,hq',hm']
  repeat' (first|(refine aC ?_;intro K hK hX)|refine aL [0,1,4,6,12,13,14] ?_|refine stA ?_|(refine aE hK hX ?_;clear hK hX K)|fail)
  rw [<- hq',<- hwm]
  exact kV
theorem bO9 (L:Dr) (m:Nat) (hL:L.length=m) (l:List Src) (n:Nat) (hn:l.length=n) (hl:∀v∈l,aS v.t/\aS v.s) (m':Nat) (hm':(L++gE eZ l).length=m') (hb:m'<=1000000):ACA Tryz.prog 169 5 1 m (u8c L) [.sl 2 n (src l)] (u8c (L++gE eZ l)) m':=by
 have hul:=u8l hL
 have hul3:=u8l hm'
 have hvl:(src l).length=n*2:=by rw [dI,hn]
 have hge:=tB aN0 l
 have hle:=vG (f:=eZ) l
 obtain ⟨X,hX⟩:∃X,L++bA n=X:=⟨_,rfl⟩
 obtain ⟨j,hj⟩:∃j,X.length=j:=⟨_,rfl⟩
 have e:L++gE eZ l=X++l.flatMap eZ:=by rw [<- hX,gE,Ao,hn]
 have hjm:j+(l.flatMap eZ).length=m':=by rw [<- hm',<- hj,e,Aa]
 have i1:=vQ L m hL n ⟨by omega,by omega⟩ j lB aA
 rw [hX] at i1
 rw [e] at hm' hul3 ⊢
 have hulx:=u8l hj
 refine eD aB (sz:=27) Tryz.func169 rfl (by rw [Tryz.ntmps169];rfl) (bR _) ?_
 repeat' (first|(refine aC ?_;intro K hK hX)|refine dV2 ?_|(refine aE hK hX ?_;clear hK hX K)|fail)
 refine cN 2 (fun p:Nat × Dr × Nat=>[(0,.own 1 0 p.2.2 1 true),(12,.c (.sl 2 n (src l))),(13,.c (iv n)),(14,.c (iv p.1))]) (fun p=>[(1,.row 5 (u8c p.2.1))]) [(none,[.own 0 0 m 1 true])] (fun p=>p.1<=n/\p.2.1.length=p.2.2/\p.2.1=X++(l.take p.1).flatMap eZ) (fun p=>n-p.1) (0,X,j) ⟨by omega,hj,by simp⟩ eS ?_
 rintro ⟨i,q,w⟩ ⟨hi,hql,hq⟩ K hK hX
 dsimp only at hi hql hq hK ⊢
 have hulq:=u8l hql
 by_cases hlt:i<n
 ·obtain ⟨v,hat⟩:∃v,l[i]? = some v:=⟨_,Ab aA⟩
  obtain ⟨v1,v3⟩:=hl v (Ad hat)
  have hx:=eB hat
  have hst:q++eZ v=X++(l.take (i+1)).flatMap eZ:=by rw [hq,lG hat,Ao]
  have hmo:=hle (i+1)
  obtain ⟨t,s⟩:=v
  simp only at v1 v3 hx
  have e3:eZ ⟨t,s⟩=bA t++bA s:=rfl
  obtain ⟨w',hw'⟩:∃w',(q++eZ ⟨t,s⟩).length=w':=⟨_,rfl⟩
  have hwb:w'<=m':=by rw [<- hw',hst,Aa,hj];omega
  have i2:=cT4 q w hql t s v1 v3 w' aT0 aA
  rw [<- e3,hst] at i2
  rw [hst] at hw'
  generalize X++(l.take (i+1)).flatMap eZ=q' at i2 hw' hst
  repeat' (first|(refine aC ?_;intro K hK hX)|refine dU9 ?_|(refine aE hK hX ?_;clear hK hX K)|fail)
  exact ⟨(i+1,q',w'),⟨by omega,hw',by rw [<- hst,hq,lG hat,Ao]⟩,by simp only;omega,dW2⟩
 ·have hin:i=n:=by omega
  have hq':q=X++l.flatMap eZ:=by rw [hq,Ae aA]
  have hwm:w=m':=by rw [<- hql,hq',hm']
  repeat' (first|(refine aC ?_;intro K hK hX)|refine aL [0,1,4,6,12,13,14] ?_|refine stA ?_|(refine aE hK hX ?_;clear hK hX K)|fail)
  rw [<- hq',<- hwm]
  exact kV
end
section
def cmpZ (a b:Int):Int:=if a<b then -1 else if b<a then 1 else 0
def orZ:List Int->Int
 | []=>0
 | x::l=>if x=0 then orZ l else x
def aR4 (a b:Ver):Int:=orZ [cmpZ a.t b.t,cmpZ a.s b.s,cmpZ a.c b.c]
def aC8 (a b:Src):Int:=orZ [cmpZ a.t b.t,cmpZ a.s b.s]
theorem mX (a b:Int):(cmpZ a b<0↔a<b)/\(cmpZ a b=0↔a=b) /\ -1<=cmpZ a b/\cmpZ a b<=1:=by
 unfold cmpZ
 by_cases h:a<b
 ·rw [Ak h];omega
 ·rw [Ai h]
  by_cases h2:b<a
  ·rw [Ak h2];omega
  ·rw [Ai h2];omega
theorem pW (a b:Ver):aR4 a b<0↔ltV a b:=by
 have h1:=mX a.t b.t
 have h2:=mX a.s b.s
 have h3:=mX a.c b.c
 unfold aR4 orZ ltV
 by_cases e1:cmpZ a.t b.t=0
 ·rw [Ak e1]
  unfold orZ
  by_cases e2:cmpZ a.s b.s=0
  ·rw [Ak e2]
   unfold orZ
   by_cases e3:cmpZ a.c b.c=0
   ·rw [Ak e3];unfold orZ;omega
   ·rw [Ai e3];omega
  ·rw [Ai e2];omega
 ·rw [Ai e1];omega
theorem mF (a b:Src):aC8 a b<0↔ltS a b:=by
 have h1:=mX a.t b.t
 have h2:=mX a.s b.s
 unfold aC8 orZ ltS
 by_cases e1:cmpZ a.t b.t=0
 ·rw [Ak e1]
  unfold orZ
  by_cases e2:cmpZ a.s b.s=0
  ·rw [Ak e2];unfold orZ;omega
  ·rw [Ai e2];omega
 ·rw [Ai e1];omega
attribute [local irreducible] Still Adds AWL AW Drw bY bW AC AWR cR Frz Go.Av.Src cQ Out InK ItK AsK RdK eL eF ACT ACA eT
theorem cU5 (a:Int):qC' 197 [iv a] (.c (bv false)) [] 0:=by
 refine aD aB (sz:=6) Tryz.func197 rfl (by rw [Tryz.ntmps197];rfl) ?_
 repeat' (first|(refine aC ?_;intro K hK hX)|refine aL [0,2] ?_|(((with_reducible refine bL ?_);refine xA ?_);(first|((with_reducible refine bQ ?_);(first|refine aJ (kM rfl rfl rfl (Bj (fun h=>h rfl))) ?_))))|refine stA ?_|(refine aE hK hX ?_;clear hK hX K)|fail)
 exact aV
theorem uU (a b:Int):qC' 157 [iv a,iv b] (.c (iv (cmpZ a b))) [] 0:=by
 have h1:=cU5 a
 have h2:=cU5 b
 unfold cmpZ
 by_cases d1:a<b
 ·rw [Ak d1]
  refine aD aB (sz:=20) Tryz.func157 rfl (by rw [Tryz.ntmps157];rfl) ?_
  repeat' (first|(refine aC ?_;intro K hK hX)|refine cL7 ?_|(refine aE hK hX ?_;clear hK hX K)|fail)
  exact aV
 ·rw [Ai d1]
  by_cases d2:b<a
  ·rw [Ak d2]
   refine aD aB (sz:=20) Tryz.func157 rfl (by rw [Tryz.ntmps157];rfl) ?_
   repeat' (first|(refine aC ?_;intro K hK hX)|refine cL7 ?_|(refine aE hK hX ?_;clear hK hX K)|fail)
   exact aV
  ·rw [Ai d2]
   refine aD aB (sz:=20) Tryz.func157 rfl (by rw [Tryz.ntmps157];rfl) ?_
   repeat' (first|(refine aC ?_;intro K hK hX)|refine cL7 ?_|(refine aE hK hX ?_;clear hK hX K)|fail)
   exact aV
theorem eB7 (l:List Int) (n:Nat) (hn:l.length=n) (hb:n<=1000):qC' 156 [.sl 1 n (dO .i64 l)] (.c (iv (orZ l))) [] 0:=by
 have hil:(dO .i64 l).length=n:=by rw [fQ,hn]
 refine aD aB (sz:=18) Tryz.func156 rfl (by rw [Tryz.ntmps156];rfl) ?_
 repeat' (first|(refine aC ?_;intro K hK hX)|refine aR2 ?_|(refine aE hK hX ?_;clear hK hX K)|fail)
 refine bF [8] [] rfl rfl (fun i:Nat=>[(8,.c (iv i))]) (fun i=>[]) (fun i=>i<=n/\orZ l=orZ (l.drop i)) (fun i=>n-i) 0 ⟨Al _,rfl⟩ eS ?_
 rintro i ⟨hi,ho⟩ K hK hX
 by_cases hlt:i<n
 ·obtain ⟨x,hat⟩:∃x,l[i]? = some x:=⟨_,Ab aA⟩
  have hx:(dO .i64 l)[i]? = some (iv x):=by simp [dO,hat]
  have hdr:l.drop i=x::l.drop (i+1):=by
   obtain ⟨h1,h2⟩:=Ag.1 hat
   rw [BB h1,h2]
  rw [hdr,orZ] at ho
  by_cases h0:x=0
  ·rw [Ak h0] at ho
   repeat' (first|(refine aC ?_;intro K hK hX)|refine aL [0,2,3,5,6,7,8] ?_|refine eW ?_|refine stA ?_|(refine aE hK hX ?_;clear hK hX K)|fail)
   exact ⟨i+1,⟨by omega,ho⟩,by omega,eS⟩
  ·rw [Ai h0] at ho
   repeat' (first|(refine aC ?_;intro K hK hX)|refine aL [0,2,3,5,6,7,8] ?_|refine eW ?_|refine stA ?_|(refine aE hK hX ?_;clear hK hX K)|fail)
   rw [ho]
   exact aV
 ·rw [AG aA] at ho
  repeat' (first|(refine aC ?_;intro K hK hX)|refine aR2 ?_|(refine aE hK hX ?_;clear hK hX K)|fail)
  rw [ho]
  exact aV
theorem eI7 (a b:Int):qC' 156 [.sl 1 2 [iv a,iv b]] (.c (iv (orZ [a,b]))) [] 0:=by
 have:=eB7 [a,b] 2 rfl aN
 simpa [dO] using this
theorem eI8 (a b c:Int):qC' 156 [.sl 1 3 [iv a,iv b,iv c]] (.c (iv (orZ [a,b,c]))) [] 0:=by
 have:=eB7 [a,b,c] 3 rfl aN
 simpa [dO] using this
theorem rO (a b:Ver):qC' 92 [.agg [iv a.t,iv a.c,iv a.s],.agg [iv b.t,iv b.c,iv b.s]] (.c (iv (aR4 a b))) [] 0:=by
 obtain ⟨t,c',s⟩:=a
 obtain ⟨t2,c2',s2⟩:=b
 have h1:=uU t t2
 have h2:=uU s s2
 have h3:=uU c' c2'
 have h4:=eI8 (cmpZ t t2) (cmpZ s s2) (cmpZ c' c2')
 unfold aR4
 dsimp only
 generalize cmpZ t t2=x1 at *
 generalize cmpZ s s2=x2 at *
 generalize cmpZ c' c2'=x3 at *
 refine aD aB (sz:=22) Tryz.func92 rfl (by rw [Tryz.ntmps92];rfl) ?_
 repeat' (first|(refine aC ?_;intro K hK hX)|refine fL [0,1,2,3,4] ?_|refine iJ ?_|(refine iY ?_;first|refine c0 h1 ?_|refine c0 h2 ?_|refine c0 h3 ?_|refine c0 h4 ?_)|refine stA ?_|refine stE ?_|(refine aE hK hX ?_;clear hK hX K)|fail)
 exact aV
theorem mW (a b:Src):qC' 88 [.agg [iv a.t,iv a.s],.agg [iv b.t,iv b.s]] (.c (iv (aC8 a b))) [] 0:=by
 obtain ⟨t,s⟩:=a
 obtain ⟨t2,s2⟩:=b
 have h1:=uU t t2
 have h2:=uU s s2
 have h4:=eI7 (cmpZ t t2) (cmpZ s s2)
 unfold aC8
 dsimp only
 generalize cmpZ t t2=x1 at *
 generalize cmpZ s s2=x2 at *
 refine aD aB (sz:=17) Tryz.func88 rfl (by rw [Tryz.ntmps88];rfl) ?_
 repeat' (first|(refine aC ?_;intro K hK hX)|refine fL [0,1,2,3,4] ?_|refine iJ ?_|(refine iY ?_;first|refine c0 h1 ?_|refine c0 h2 ?_|refine c0 h4 ?_)|refine stA ?_|refine stE ?_|(refine aE hK hX ?_;clear hK hX K)|fail)
 exact aV
end
section
section
variable {α:Type} {lt:α->α->Prop}
theorem dM2 (h:SLO lt) {l:List α} (hl:l.Pairwise lt) {v:α} {m:Nat} (h1:∀x∈l.take m,lt x v) (h2:∀x∈l.drop m,lt v x):insA lt v l=l.take m++v::l.drop m:=by
 refine zP h (vO h v hl) ?_ fun x=>?_
 ·rw [List.pairwise_append]
  refine ⟨hl.sublist (List.take_sublist m l),Bu.2 ⟨h2,hl.sublist (List.drop_sublist m l)⟩,fun a ha b hb=>?_⟩
  rcases A6.1 hb with rfl|hb
  ·exact h1 a ha
  ·exact h.tr _ _ _ (h1 a ha) (h2 b hb)
 ·rw [sB,Az,A6]
  have e:x∈l↔x∈l.take m\/x∈l.drop m:=by rw [<- Az,Bz]
  rw [e]
  constructor
  ·rintro (e|e|e)
   ·exact .inr (.inl e)
   ·exact .inl e
   ·exact .inr (.inr e)
  ·rintro (e|e|e)
   ·exact .inr (.inl e)
   ·exact .inl e
   ·exact .inr (.inr e)
theorem aG0 (h:SLO lt) {l:List α} (hl:l.Pairwise lt) {v:α} (hv:v∈l):insA lt v l=l :=
 zP h (vO h v hl) hl fun x=>by
  rw [sB]
  exact ⟨fun e=>e.elim (fun e=>e▸hv) id,.inr⟩
end
theorem FolL.init {l:List LEn} {e:LEn} (h:FolL (l++[e])):FolL l/\Fol l e:=by
 constructor
 ·intro i x hx
  have hi:=(Ag.1 hx).1
  have:=h i x (by rw [AO hi];exact hx)
  rw [A8 aA] at this
  exact this
 ·have:=h l.length e (by rw [AY (Ah _)];simp)
  rw [C5] at this
  exact this
theorem FolL.snoc {l:List LEn} {e:LEn} (h:FolL l) (he:Fol l e):FolL (l++[e]):=fun i x hx=>by
 by_cases hi:i<l.length
 ·rw [AO hi] at hx
  rw [A8 aA]
  exact h i x hx
 ·have hi2:=(Ag.1 hx).1
  rw [Aa,BO] at hi2
  obtain rfl:i=l.length:=by omega
  rw [AY (Ah _)] at hx
  have:x=e:=by simpa using hx.symm
  subst this
  rw [C5]
  exact he
theorem kJ (l:List LEn) (e:LEn) (k:Int):mY (l++[e]) k=mY l k+if e.k=k then 1 else 0:=by
 unfold mY
 rw [List.filter_append,Aa]
 congr 1
 by_cases h:e.k=k
 ·rw [Ak h,CN,Ak (AH h)];rfl
 ·rw [Ai h,CN,Ai (by simp [h])];rfl
theorem mN (l:List LEn) (e:LEn) (k p:Int):jX (l++[e]) k p↔jX l k p\/(e.k=k/\e.plan=p):=by
 unfold jX
 constructor
 ·rintro ⟨x,hx,h⟩
  rcases Az.1 hx with hx|hx
  ·exact .inl ⟨x,hx,h⟩
  ·rw [AZ.1 hx] at h;exact .inr h
 ·rintro (⟨x,hx,h⟩|h)
  ·exact ⟨x,by simp [hx],h⟩
  ·exact ⟨e,by simp,h⟩
end
theorem aN1:∀(k u:Nat),u<128 ^ (k+1)->(mH u).length<=k+1
 | 0,u,h=>by rw [kP pY];simp
 | k+1,u,h=>by
  by_cases h1:u<128
  ·rw [kP h1];simp
  ·rw [mI h1,As]
   have:=aN1 k (u / 128) (by rw [CG] at h;omega)
   omega
theorem dG {n:Int} (h:aS n):(bA n).length<=10:=by
 have h1:=aK6 h.1 h.2
 have h2:zz n<128 ^ (9+1):=Nat.lt_trans h1 aN
 exact aN1 9 _ h2
theorem kK {n:Nat} (h:n<=1000000):(bA (n:Int)).length<=10:=dG ⟨by omega,by omega⟩
theorem bB5 {s:Dr} (h:s.length<=1000000):(nJ s).length<=10+s.length:=by
 have:=kK h
 unfold nJ
 rw [Aa]
 omega
theorem cR5 {v:Vl} (h:okP v):(mA v).length<=60:=by
 obtain ⟨k,n,t⟩:=v
 unfold mA
 unfold okP at h
 simp only at h ⊢
 rw [Aa]
 have hk:(bA k).length<=10:=dG (by unfold aS;omega)
 split
 ·have:=dG (n:=n) (by unfold aS;omega)
  omega
 ·split
  ·have:=bB5 (s:=t) aA
   omega
  ·simp only [Bq];omega
theorem sY {i:Idf} (h:i.ns.length<=1000):(eI i).length<=1070:=by
 have h1:=bB5 (s:=i.ns) aA
 have h2:=cR5 (aO0 i.v)
 unfold eI
 rw [Aa]
 omega
theorem xO {α:Type} {e:α->Dr} {m:Nat}:∀{l:List α},(∀x∈l,(e x).length<=m)->(l.flatMap e).length<=l.length*m
 | [],_=>by simp
 | x::l,h=>by
  have h1:=h x aT
  have h2:=xO (l:=l) fun y hy=>h y (by simp [hy])
  rw [A4,Aa,As,AL,Dq]
  omega
structure LEn.sz (e:LEn):Prop where
 vs:e.vs.length<=1000
 ss:e.ss.length<=1000
 rq:e.rq.who.ns.length<=1000
 la:e.lk.a.ns.length<=1000
 lb:e.lk.b.ns.length<=1000
 hd:e.hd.who.ns.length<=1000
theorem mG {e:LEn} (hw:e.wf) (hk:aS e.k) (hs:e.sz):(cC e).length<=100000:=by
 obtain ⟨a1,a2,a3⟩:=hw.h1
 obtain ⟨b1,b2,b3,b4⟩:=hw.rq
 have c1:=hw.lk
 obtain ⟨d1,d2,d3,d4,d5⟩:=hw.hd
 have e1:=hw.vs
 have e2:=hw.ss
 have f1:=hw.root
 obtain ⟨s1,s2,s3,s4,s5,s6⟩:=hs
 unfold cC
 simp only [Aa]
 have k1:=dG hk
 have k2:=dG a1
 have k3:=dG a2
 have k4:=dG a3
 have k5:(cU e).length<=90000:=by
  unfold cU
  split
  ·unfold kY
   simp only [Aa]
   have:=dG b1
   have:=dG b2
   have:=dG b3
   have:=dG b4
   have:=sY s3
   omega
  ·split
   ·unfold gE
    simp only [Aa]
    have:=kK (n:=e.vs.length) aA
    have:=kK (n:=e.ss.length) aA
    have:=xO (e:=eK) (m:=30) (l:=e.vs) fun x hx=>by
     obtain ⟨p1,p2,p3⟩:=e1 x hx
     have:=dG p1
     have:=dG p2
     have:=dG p3
     unfold eK
     simp only [Aa]
     omega
    have:=xO (e:=eZ) (m:=20) (l:=e.ss) fun x hx=>by
     obtain ⟨p1,p2⟩:=e2 x hx
     have:=dG p1
     have:=dG p2
     unfold eZ
     simp only [Aa]
     omega
    omega
   ·split
    ·omega
    ·split
     ·unfold kX
      simp only [Aa]
      have:=dG c1
      have:=sY s4
      have:=sY s5
      have:(bA (if e.lk.rv=true then 1 else 0)).length<=10:=dG (by unfold aS;split<;>omega)
      omega
     ·split
      ·unfold kW
       simp only [Aa]
       have:=dG d1
       have:=dG d2
       have:=dG d3
       have:=dG d4
       have:=dG d5
       have:=sY s6
       omega
      ·simp
 omega
theorem bE1 {e:LEn} (hk:aS e.k) (h:(pEn (cC e)).isSome=true):1<=e.k/\e.k<=7:=by
 unfold pEn cC pIn at h
 rw [dJ hk,Am] at h
 by_cases hc:1<=e.k/\e.k<=7
 ·exact hc
 ·simp only [Ai hc,Option.bind_none,Option.isSome_none] at h
  cases h
theorem cW2:∀{b:Dr} {i x:Nat} {p:Nat × Dr},i<=9->x<128 ^ i->pU i x b=some p->p.1<18446744073709551616
 | [],i,x,p,_,_,h=>by rw [pU] at h;cases h
 | c::b,i,x,p,hi,hx,h=>by
  rw [pU] at h
  by_cases hn:(i=9/\1<c.toNat)\/(0<i/\c.toNat=0)
  ·rw [Ak hn] at h;cases h
  ·rw [Ai hn] at h
   by_cases h9:i=9
   ·subst h9
    have hc:c.toNat<=1:=by omega
    rw [Ak aA] at h
    injection h with h
    rw [<- h]
    have:(128:Nat) ^ 9=9223372036854775808:=by decide
    rw [this] at hx ⊢
    simp only
    rcases (show c.toNat=0\/c.toNat=1 by omega) with e|e<;>rw [e]<;>omega
   ·have hp:(128:Nat) ^ (i+1)<=128 ^ 9:=Ci aN aA
    have h9':(128:Nat) ^ 9=9223372036854775808:=by decide
    have hs:(128:Nat) ^ (i+1)=128 ^ i*128:=CG ..
    have hb:∀d:Nat,d<128->x+d*128 ^ i<128 ^ (i+1):=fun d hd=>by
     rw [hs]
     have:d*128 ^ i<=127*128 ^ i:=Bl _ aA
     omega
    by_cases hc:c.toNat<128
    ·rw [Ak hc] at h
     injection h with h
     rw [<- h]
     have:=hb _ hc
     simp only
     omega
    ·rw [Ai hc] at h
     exact cW2 aA (hb _ (Cz _ aN)) h
theorem iO {b:Dr} {p:Int × Dr} (h:dM b=some p):aS p.1:=by
 unfold dM at h
 obtain ⟨q,hq,rfl⟩:=Aq.1 h
 have:=cW2 aN aN hq
 unfold aS uz
 simp only
 split<;>omega
theorem bD9 {lo hi:Int} {b:Dr} {p:Int × Dr} (h:pIn lo hi b=some p):aS p.1/\lo<=p.1/\p.1<=hi:=by
 unfold pIn at h
 obtain ⟨q,hq,h⟩:=Aj.1 h
 split at h
 ·rename_i hc
  injection h with h
  rw [<- h]
  exact ⟨iO hq,hc⟩
 ·cases h
theorem cV2 {n:Nat} {b:Dr} {p:Dr × Dr} (h:pBy n b=some p):p.1.length=n:=by
 unfold pBy at h
 split at h
 ·rename_i hc
  injection h with h
  rw [<- h]
  simp only [Ar]
  omega
 ·cases h
theorem bD8 {b:Dr} {p:Idf × Dr} (h:pId b=some p):p.1.ns.length<=16:=by
 unfold pId pTx at h
 obtain ⟨q,hq,h⟩:=Aj.1 h
 obtain ⟨n,hn,hq⟩:=Aj.1 hq
 obtain ⟨v,hv,rfl⟩:=Aq.1 h
 have:=cV2 hq
 have:=bD9 hn
 simp only
 omega
theorem eU9 {b:Dr} {p:Ver × Dr} (h:pVr b=some p):aS p.1.t/\aS p.1.c/\aS p.1.s:=by
 unfold pVr at h
 obtain ⟨q,hq,h⟩:=Aj.1 h
 obtain ⟨r,hr,h⟩:=Aj.1 h
 obtain ⟨s,hs,rfl⟩:=Aq.1 h
 exact ⟨iO hq,iO hs,iO hr⟩
theorem eU7 {b:Dr} {p:Src × Dr} (h:pSr b=some p):aS p.1.t/\aS p.1.s:=by
 unfold pSr at h
 obtain ⟨q,hq,h⟩:=Aj.1 h
 obtain ⟨s,hs,rfl⟩:=Aq.1 h
 exact ⟨iO hq,iO hs⟩
theorem cV4 {α:Type} {f:Dr->Option (α × Dr)} {Q:α->Prop} (hf:∀{b p},f b=some p->Q p.1):∀{n:Nat} {b:Dr} {p:List α × Dr},uG f n b=some p->p.1.length=n/\∀x∈p.1,Q x
 | 0,b,p,h=>by
  rw [uG] at h
  injection h with h
  rw [<- h]
  exact ⟨rfl,fun x hx=>by simp at hx⟩
 | n+1,b,p,h=>by
  rw [uG] at h
  obtain ⟨q,hq,h⟩:=Aj.1 h
  obtain ⟨s,hs,rfl⟩:=Aq.1 h
  obtain ⟨h1,h2⟩:=cV4 hf hs
  refine ⟨by simp only [As,h1],fun x hx=>?_⟩
  rcases A6.1 hx with rfl|hx
  ·exact hf hq
  ·exact h2 x hx
theorem eB8 {α:Type} {f:Dr->Option (α × Dr)} {Q:α->Prop} (hf:∀{b p},f b=some p->Q p.1) {m:Int} {b:Dr} {p:List α × Dr} (h:pLs f m b=some p):(p.1.length:Int)<=m/\∀x∈p.1,Q x:=by
 unfold pLs at h
 obtain ⟨q,hq,h⟩:=Aj.1 h
 obtain ⟨h1,h2⟩:=cV4 hf h
 have:=bD9 hq
 exact ⟨by omega,h2⟩
theorem bC8:aS 0:=by unfold aS;omega
theorem cV3 {b:Dr} {p:LEn × Dr} (h:pEn b=some p):p.1.wf/\(1<=p.1.k/\p.1.k<=7)/\p.1.sz:=by
 unfold pEn at h
 obtain ⟨k,hk,h⟩:=Aj.1 h
 obtain ⟨d,hd,h⟩:=Aj.1 h
 obtain ⟨pl,hp,h⟩:=Aj.1 h
 obtain ⟨st,hs,h⟩:=Aj.1 h
 have hk:=(bD9 hk).2
 have hd:=iO hd
 have hp:=iO hp
 have hs:=iO hs
 have z:=bC8
 have zr:root0.length=32:=rfl
 unfold mD at h
 split at h
 ·obtain ⟨x,hx,rfl⟩:=Aq.1 h
  unfold pRq at hx
  obtain ⟨a1,h1,hx⟩:=Aj.1 hx
  obtain ⟨a2,h2,hx⟩:=Aj.1 hx
  obtain ⟨a3,h3,hx⟩:=Aj.1 hx
  obtain ⟨a4,h4,hx⟩:=Aj.1 hx
  obtain ⟨a5,h5,rfl⟩:=Aq.1 hx
  have:=bD8 h2
  exact ⟨⟨⟨hd,hp,hs⟩,⟨iO h1,iO h3,iO h4,iO h5⟩,z,⟨z,z,z,z,z⟩,fun v hv=>by simp at hv,fun v hv=>by simp at hv,zr⟩,hk,⟨Al _,Al _,by simp only;omega,Al _,Al _,Al _⟩⟩
 ·split at h
  ·obtain ⟨v,hv,h⟩:=Aj.1 h
   obtain ⟨x,hx,rfl⟩:=Aq.1 h
   obtain ⟨v1,v2⟩:=eB8 (Q:=fun p:Ver=>aS p.t/\aS p.c/\aS p.s) eU9 hv
   obtain ⟨x1,x2⟩:=eB8 (Q:=fun p:Src=>aS p.t/\aS p.s) eU7 hx
   exact ⟨⟨⟨hd,hp,hs⟩,⟨z,z,z,z⟩,z,⟨z,z,z,z,z⟩,v2,x2,zr⟩,hk,⟨by simp only;omega,by simp only;omega,Al _,Al _,Al _,Al _⟩⟩
  ·split at h
   ·obtain ⟨x,hx,rfl⟩:=Aq.1 h
    exact ⟨⟨⟨hd,hp,hs⟩,⟨z,z,z,z⟩,z,⟨z,z,z,z,z⟩,fun v hv=>by simp at hv,fun v hv=>by simp at hv,cV2 hx⟩,hk,⟨Al _,Al _,Al _,Al _,Al _,Al _⟩⟩
   ·split at h
    ·obtain ⟨x,hx,rfl⟩:=Aq.1 h
     unfold pLk at hx
     obtain ⟨a1,h1,hx⟩:=Aj.1 hx
     obtain ⟨a2,h2,hx⟩:=Aj.1 hx
     obtain ⟨a3,h3,hx⟩:=Aj.1 hx
     obtain ⟨a4,h4,rfl⟩:=Aq.1 hx
     have:=bD8 h1
     have:=bD8 h2
     exact ⟨⟨⟨hd,hp,hs⟩,⟨z,z,z,z⟩,iO h3,⟨z,z,z,z,z⟩,fun v hv=>by simp at hv,fun v hv=>by simp at hv,zr⟩,hk,⟨Al _,Al _,Al _,by simp only;omega,by simp only;omega,Al _⟩⟩
    ·split at h
     ·obtain ⟨x,hx,rfl⟩:=Aq.1 h
      unfold pHd at hx
      obtain ⟨a1,h1,hx⟩:=Aj.1 hx
      obtain ⟨a2,h2,hx⟩:=Aj.1 hx
      obtain ⟨a3,h3,hx⟩:=Aj.1 hx
      obtain ⟨a4,h4,hx⟩:=Aj.1 hx
      obtain ⟨a5,h5,hx⟩:=Aj.1 hx
      obtain ⟨a6,h6,rfl⟩:=Aq.1 hx
      have:=bD8 h3
      exact ⟨⟨⟨hd,hp,hs⟩,⟨z,z,z,z⟩,z,⟨iO h1,iO h2,iO h4,iO h5,iO h6⟩,fun v hv=>by simp at hv,fun v hv=>by simp at hv,zr⟩,hk,⟨Al _,Al _,Al _,Al _,Al _,by simp only;omega⟩⟩
     ·injection h with h
      rw [<- h]
      exact ⟨⟨⟨hd,hp,hs⟩,⟨z,z,z,z⟩,z,⟨z,z,z,z,z⟩,fun v hv=>by simp at hv,fun v hv=>by simp at hv,zr⟩,hk,⟨Al _,Al _,Al _,Al _,Al _,Al _⟩⟩
end Go.Proofs.YtbgehdndimlgkaaGreat
namespace Go.Av
open Go Go.RowKit Go.MapKept
def eH5:TK->Value->Prop
 | .bool,.bool _=>True
 | .int k,.int k' _=>k'=k
 | .str,.string _=>True
 | _,_=>False
def eY0 (t:TK) (es:List (CV × AV)):Prop:=∀p∈es,∃x,p.1 = .v x/\eH5 t x
def MAt (k:Value) (v:AV):List (CV × AV)->Nat->Prop
 | [],_=>False
 | e::_,0=>e.1 = .v k/\e.2=v
 | e::es,j+1=>e.1 ≠ .v k/\MAt k v es j
def MNo (k:Value) (es:List (CV × AV)):Prop:=∀p∈es,p.1 ≠ .v k
theorem RepM.length {C:Cx}:∀{es:List (CV × AV)} {ms:List MapEntry},RepM C es ms->ms.length=es.length
 | [],ms,h=>by
  have:ms=[]:=h
  subst this;rfl
 | e::es,ms,h=>by
  obtain ⟨m,ms',rfl,_,_,h3⟩:=h
  rw [As,As,RepM.length h3]
theorem RepM.push {C:Cx} {a:CV} {b:AV} {m:MapEntry} (ha:RepC C.ok C.w a m.key) (hb:Rep C b m.val):∀{es:List (CV × AV)} {ms:List MapEntry},RepM C es ms->RepM C (es++[(a,b)]) (ms++[m])
 | [],ms,h=>by
  have:ms=[]:=h
  subst this
  exact ⟨m,[],rfl,ha,hb,rfl⟩
 | e::es,ms,h=>by
  obtain ⟨m',ms',rfl,h1,h2,h3⟩:=h
  exact ⟨m',ms'++[m],rfl,h1,h2,RepM.push ha hb h3⟩
theorem RepM.set {C:Cx} {a:CV} {b:AV} {m:MapEntry} (ha:RepC C.ok C.w a m.key) (hb:Rep C b m.val):∀{es:List (CV × AV)} {ms:List MapEntry} (j:Nat),RepM C es ms->RepM C (es.set j (a,b)) (ms.set j m)
 | [],ms,j,h=>by
  have:ms=[]:=h
  subst this
  cases j<;>rfl
 | e::es,ms,0,h=>by
  obtain ⟨m',ms',rfl,h1,h2,h3⟩:=h
  exact ⟨m,ms',rfl,ha,hb,h3⟩
 | e::es,ms,j+1,h=>by
  obtain ⟨m',ms',rfl,h1,h2,h3⟩:=h
  exact ⟨m',ms'.set j m,rfl,h1,h2,RepM.set ha hb j h3⟩
theorem TyOk.mapK {P:D0} {t:Dz} {e:TyE} (h:TyOk P t e) {k x:Dz} (hk:e.kind = .map k x):P.underlying t=some (.map k x):=by
 obtain ⟨d,hd,hk'⟩:=h.und
 rw [hk] at hk'
 cases d<;>simp [aL0] at hk'
 obtain ⟨rfl,rfl⟩:=hk';exact hd
section
variable {P:D0} {tab:Tab} {ev:Evl} {h:aQ} {d:Dy} {T ty:Dz} {x y z:Operand} {pos:String} {aft:Dx} {gd:Ds} {i id:Nat} {es:List (CV × AV)}
theorem aV2 {B:Bs} {dom:Nat->Prop} {M:Nat->D6} {H:Nat->Option AObj} {w:World} {g:Nat} (hh:∀id o,lk h id=some o->dom id->H id=some o) (hc:ConcH B dom M H w) (ho:lk h id=some (.tab es)) (hd:dom id) (hM:M id=some g):∃ms t,w.heap[g]? = some (.map ms t)/\Stamped ms t/\RepM ⟨dom,M,bG B dom M H,w⟩ es ms.toList:=by
 obtain ⟨k,ms,t,e1,hb,hs,hr⟩:=hc.obj id _ hd (hh id _ ho hd)
 rw [hM] at e1
 injection e1 with e1
 subst e1
 exact ⟨ms,t,hb,hs,hr⟩
theorem aL2 {r:Option Operand} (hr:r=none):Adds P ⟨d,.makeMap T r,ty,pos,aft,gd⟩ ev h (.mh i) [(i,.tab [])] i (i+1):=by
 subst hr
 refine jD rfl fun B dom M H w a hh hc he=>⟨.map (some w.heap.size),w.alloc (.map #[] 0),some w.heap.size,by simp [execOp,Instr.makeMap,newObj,Sem.run,Result.andThen],gD _ _,fun g hg=>by injection hg with hg;omega,fun C hext hw hd hM=>⟨⟨w.heap.size,#[],0,rfl,?_,stamped_empty 0,rfl⟩,hd,w.heap.size,hM,rfl⟩⟩
 rw [hw];exact heap_alloc_new w _
theorem eL0 {e:TyE} {K E:Dz} (tb:bT P tab) (hT:aX tab T=some e) (hk:e.kind = .map K E) (hx:ev x=some (.mh id)) (ho:lk h id=some (.tab es)):Still P ⟨d,.call ⟨.builtin .len,#[x],#[T]⟩,ty,pos,aft,gd⟩ ev h (.c (.v (.int .i64 es.length))):=by
 intro B dom M H w a hh hc he
 have h1:=he x _ hx
 simp only [Rep] at h1
 obtain ⟨hid,g,hM,hp⟩:=h1
 obtain ⟨ms,t,hb,hs,hr⟩:=aV2 hh hc ho hid hM
 refine ⟨.int .i64 es.length,?_,by simp only [Rep,RepC]⟩
 have hl:=hr.length
 rw [AA] at hl
 simp [execOp,resolve,invoke,builtin,Builtin.len_,hp,run_underlying ((aM tb hT).mapK hk),Go.MapKept.run_getObj_map hb,goInt,hl]
end
section
variable {P:D0} {tab:Tab} {sz n:Nat} {env:Env} {h:aQ} {dfs:cK} {K:AK} {ops:Dv} {rest:Du} {T ty:Dz} {x y z:Operand} {pos:String} {aft:Dx} {gd:Ds} {id:Nat} {es es':List (CV × AV)}
end
end Go.Av
namespace Go.Av
open Go Go.RowKit
def fF6 (l:List (Dr)):D8:=l.map fun s => .v (.string ⟨s.toArray⟩)
end Go.Av
namespace Go.Av
open Go Go.RowKit Go.MapKept
section
mutual
theorem AV.mp_id {b:Nat} {σ:Nat->Nat} (h:∀i,i<b->σ i=i):∀x:AV,x.ltB b=true->x.mp σ=x
 | .c x,_=>rfl
 | .ip cs off,_=>rfl
 | .junk,_=>rfl
 | .ref id off,hl=>by simp only [AV.ltB,AM] at hl;simp only [AV.mp,h id hl]
 | .own id off n size full,hl=>by simp only [AV.ltB,AM] at hl;simp only [AV.mp,h id hl]
 | .agg xs,hl=>by simp only [AV.ltB] at hl;simp only [AV.mp,AV.mps_id h xs hl]
 | .tup xs,hl=>by simp only [AV.ltB] at hl;simp only [AV.mp,AV.mps_id h xs hl]
 | .fn f xs,hl=>by simp only [AV.ltB] at hl;simp only [AV.mp,AV.mps_id h xs hl]
 | .yld id,hl=>by simp only [AV.ltB,AM] at hl;simp only [AV.mp,h id hl]
 | .mh id,hl=>by simp only [AV.ltB,AM] at hl;simp only [AV.mp,h id hl]
 | .bm f id,hl=>by simp only [AV.ltB,AM] at hl;simp only [AV.mp,h id hl]
theorem AV.mps_id {b:Nat} {σ:Nat->Nat} (h:∀i,i<b->σ i=i):∀xs:D9,AV.ltBs b xs=true->AV.mps σ xs=xs
 | [],_=>rfl
 | x::xs,hl=>by
  simp only [AV.ltBs,Au] at hl
  simp only [AV.mps,AV.mp_id h x hl.1,AV.mps_id h xs hl.2]
end
mutual
theorem AV.ltB_mono {b N:Nat} (h:b<=N):∀x:AV,x.ltB b=true->x.ltB N=true
 | .c x,_=>rfl
 | .ip cs off,_=>rfl
 | .junk,_=>rfl
 | .ref id off,hl=>by simp only [AV.ltB,AM] at hl ⊢;omega
 | .own id off n size full,hl=>by simp only [AV.ltB,AM] at hl ⊢;omega
 | .agg xs,hl=>by simp only [AV.ltB] at hl ⊢;exact AV.ltBs_mono h xs hl
 | .tup xs,hl=>by simp only [AV.ltB] at hl ⊢;exact AV.ltBs_mono h xs hl
 | .fn f xs,hl=>by simp only [AV.ltB] at hl ⊢;exact AV.ltBs_mono h xs hl
 | .yld id,hl=>by simp only [AV.ltB,AM] at hl ⊢;omega
 | .mh id,hl=>by simp only [AV.ltB,AM] at hl ⊢;omega
 | .bm f id,hl=>by simp only [AV.ltB,AM] at hl ⊢;omega
theorem AV.ltBs_mono {b N:Nat} (h:b<=N):∀xs:D9,AV.ltBs b xs=true->AV.ltBs N xs=true
 | [],_=>rfl
 | x::xs,hl=>by
  simp only [AV.ltBs,Au] at hl ⊢
  exact ⟨AV.ltB_mono h x hl.1,AV.ltBs_mono h xs hl.2⟩
end
def one (q n0 id:Nat):Nat:=if id=q then n0 else id
theorem one_ne {q n0 id:Nat} (h:id≠q):one q n0 id=id:=by simp [one,h]
abbrev Sub:=Value × Nat × D8
def eX5 (size b:Nat):Nat->List Sub->List (CV × AV)
 | _,[]=>[]
 | j,s::L=>(.v s.1,.own (j+b) 0 s.2.1 size true)::eX5 size b (j+1) L
def eX4 (T:Dz) (b:Nat):Nat->List Sub->aQ
 | _,[]=>[]
 | j,s::L=>(j+b,.row T s.2.2)::eX4 T b (j+1) L
def fF7 (size:Nat) (L:List Sub):List (CV × AV):=L.map fun s=>(.v s.1,.c (.sl size s.2.1 s.2.2))
section
variable {T:Dz} {size b:Nat}
end
def fF9 (T:Dz) (size b m:Nat) (L:List Sub):aQ:=(m,.tab (eX5 size b 0 L))::eX4 T b 0 L
section
variable {T:Dz} {size b m:Nat} {L:List Sub}
end
section
variable {P:D0} {tab:Tab} {ev:Evl} {h:aQ} {d:Dy} {T ty:Dz} {x y z:Operand} {pos:String} {aft:Dx} {gd:Ds} {i id:Nat} {es:List (CV × AV)}
end
end
section
def fF8 (L:List (Value × CV)):List (CV × AV):=L.map fun s=>(.v s.1,.c s.2)
section
variable {P:D0} {tab:Tab} {ev:Evl} {h:aQ} {d:Dy} {T ty:Dz} {x y z:Operand} {pos:String} {aft:Dx} {gd:Ds} {i id:Nat} {es:List (CV × AV)}
theorem eK9 {e:TyE} {K E:Dz} {m:Nat} (tb:bT P tab) (hT:aX tab T=some e) (hk:e.kind = .map K E) (hx:ev x=some (.mh id)) (ho:lk h id=some (.tab es)) (hm:es.length=m):Still P ⟨d,.call ⟨.builtin .len,#[x],#[T]⟩,ty,pos,aft,gd⟩ ev h (.c (.v (.int .i64 m))):=by
 subst hm
 exact eL0 tb hT hk hx ho
end
section
variable {P:D0} {sz n:Nat} {env:Env} {h:aQ} {dfs:cK} {K:AK} {ops:Dv} {rest:Du} {d:Dy} {T ty:Dz} {x y z:Operand} {pos:String} {aft:Dx} {gd:Ds} {b:Bool}
theorem aU5 (hh:AWL P ops sz (⟨d,.mapUpdate T x y z,ty,pos,aft,gd⟩::rest) K n env h dfs):AWL P ops sz (⟨d,.mapUpdate T x y z,ty,pos,aft,gd⟩::rest) K n env h dfs:=hh
theorem cT9 {r:Option Operand} (hh:AWL P ops sz (⟨d,.makeMap T r,ty,pos,aft,gd⟩::rest) K n env h dfs):AWL P ops sz (⟨d,.makeMap T r,ty,pos,aft,gd⟩::rest) K n env h dfs:=hh
end
end
section
structure KeyT (P:D0) (K:Dz) (κ:Type) where
 kc:κ->CV
 kv:κ->Value
 ok:κ->Prop
 inj:∀a b,ok a->ok b->kv a=kv b->a=b
 rep:∀(ok':Nat->Prop) (w:World) (a:κ) (u:Value),RepC ok' w (kc a) u->u=kv a
 repv:∀(ok':Nat->Prop) (w:World) (a:κ),RepC ok' w (kc a) (kv a)
 check:∀(w:World) (em:Bool) (a:κ),ok a->(Instr.checkKey em 10000 K (kv a)).run P w = .ok () w
 find:∀(w:World) (a:κ),ok a->∀es:List MapEntry,(∀e∈es,∃b,ok b/\e.key=kv b)->((Instr.findKey K (kv a) es).run P w = .ok none w/\∀e∈es,e.key≠kv a)\/∃j e,(Instr.findKey K (kv a) es).run P w = .ok (some (j,e.val)) w/\es[j]? = some e/\e.key=kv a
 stays:∀(w:World) (a:κ),ok a->(Instr.keyThatStays (kv a) (kv a)).run P w = .ok (kv a) w
abbrev cP2:CV := .v (.bool true)
def aI {κ:Type} (kc:κ->CV) (ks:List κ):List (CV × AV):=ks.map fun k=>(kc k,.c cP2)
def qF {κ:Type} [DecidableEq κ] (ks:List κ) (k:κ):List κ:=if k∈ks then ks else ks++[k]
theorem vP {κ:Type} [DecidableEq κ] {ks:List κ} {k x:κ}:x∈qF ks k↔x∈ks\/x=k:=by
 unfold qF
 split
 ·rename_i h
  exact ⟨.inl,fun h'=>h'.elim (fun h=>h) fun e=>e▸h⟩
 ·simp
theorem cT {κ:Type} {kc:κ->CV} {N:Nat} {L:List κ}:(AObj.tab (aI kc L)).ltB N=true:=by simp [AObj.ltB,aI,AV.ltB]
theorem setT_mp {κ:Type} {kc:κ->CV} {σ:Nat->Nat} {L:List κ}:AObj.tab (aI kc L)=(AObj.tab (aI kc L)).mp σ:=by
 simp only [AObj.mp,aI,BY]
 congr 1
theorem bH1 {κ:Type} (kc:κ->CV) (L:List κ):(aI kc L).length=L.length:=Bf _
section
variable {P:D0} {K:Dz} {κ:Type} {C:Cx}
theorem tO (kt:KeyT P K κ):∀{ks:List κ} {ms:List MapEntry},RepM C (aI kt.kc ks) ms->ms.map (fun m=>(m.key,m.val))=ks.map fun k=>(kt.kv k,Value.bool true)
 | [],ms,h=>by
  have:ms=[]:=h
  subst this;rfl
 | k::ks,ms,h=>by
  obtain ⟨m,ms',rfl,h1,h2,h3⟩:=h
  rw [AI,AI,tO kt h3,kt.rep _ _ _ _ h1]
  simp only [Rep,RepC] at h2
  rw [h2]
section
variable (kt:KeyT P K κ) {ks:List κ} {ms:List MapEntry} (h:RepM C (aI kt.kc ks) ms)
include kt ks ms h
theorem bH2 {m:MapEntry} (hm:m∈ms):∃k∈ks,m.key=kt.kv k/\m.val = .bool true:=by
 have e:=tO kt h
 have:(m.key,m.val)∈ks.map fun k=>(kt.kv k,Value.bool true):=e▸B8.2 ⟨m,hm,rfl⟩
 obtain ⟨k,hk,he⟩:=B8.1 this
 injection he with e1 e2
 exact ⟨k,hk,e1.symm,e2.symm⟩
theorem bX6 {j:Nat} {m:MapEntry} (hm:ms[j]? = some m):∃k,ks[j]? = some k/\m.key=kt.kv k/\m.val = .bool true:=by
 have e:=congrArg (fun l=>l[j]?) (tO kt h)
 simp only [Bw,hm,Bi] at e
 cases hk:ks[j]? with
 | none=>rw [hk] at e;cases e
 | some k =>
  rw [hk] at e
  injection e with e
  injection e with e1 e2
  exact ⟨k,rfl,e1,e2⟩
theorem aP8 {k:κ} (hk:k∈ks):∃m∈ms,m.key=kt.kv k:=by
 have e:=tO kt h
 have:(kt.kv k,Value.bool true)∈ms.map fun m=>(m.key,m.val):=e▸B8.2 ⟨k,hk,rfl⟩
 obtain ⟨m,hm,he⟩:=B8.1 this
 injection he with e1 e2
 exact ⟨m,hm,e1⟩
end
end
section
variable {P:D0} {tab:Tab} {ev:Evl} {h:aQ} {d:Dy} {T ty:Dz} {x y z:Operand} {pos:String} {aft:Dx} {gd:Ds} {i id:Nat} {κ:Type} [DecidableEq κ] {K E:Dz} {ks:List κ} {k:κ} {e:TyE}
section
variable (kt : KeyT P K κ) (tb : bT P tab) (hT : aX tab T = some e) (hk : e.kind = .map K E) (hz : ∀ w, (zeroValue E).run P w = .ok (.bool false) w) (hx : ev x = some (.mh id)) (ho : lk h id = some (.tab (aI kt.kc ks))) (hy : ev y = some (.c (kt.kc k))) (hok : kt.ok k) (hoks : ∀ q ∈ ks, kt.ok q)
include kt tb hT hk hz hx ho hy hok hoks
theorem bG6 :
    Still P ⟨d, .lookup T x y false, ty, pos, aft, gd⟩ ev h (.c (.v (.bool (decide (k ∈ ks))))) := by
  intro B dom M H w a hh hc he
  have h1 := he x _ hx
  have h2 := he y _ hy
  have h2 := kt.rep _ _ _ _ h2
  simp only [Rep] at h1
  obtain ⟨hid, g, hM, hp⟩ := h1
  obtain ⟨ms, t, hb, hs, hr⟩ := aV2 hh hc ho hid hM
  have hck := kt.check w ms.isEmpty k hok
  have hzr := hz
  have hent : ∀ m ∈ ms.toList, ∃ b, kt.ok b /\ m.key = kt.kv b := fun m hm => by
    obtain ⟨b, hb1, hb2, _⟩ := bH2 kt hr hm
    exact ⟨b, hoks b hb1, hb2⟩
  refine ⟨.bool (decide (k ∈ ks)), ?_, by simp only [Rep, RepC]⟩
  rcases kt.find w k hok ms.toList hent with ⟨f1, f2⟩ | ⟨j, m, f1, f2, f3⟩
  · have hn : k ∉ ks := fun hin => by
      obtain ⟨m, hm, e⟩ := aP8 kt hr hin
      exact f2 m hm e
    simp [execOp, Instr.lookup, hp, h2, run_underlying ((aM tb hT).mapK hk), Go.MapKept.run_getObj_map hb, hck, f1, hzr, hn]
  · obtain ⟨b, hb1, hb2, hb3⟩ := bX6 kt hr f2
    have hbk : b ∈ ks := Ad hb1
    have : b = k := kt.inj _ _ (hoks b hbk) hok (hb2.symm.trans f3)
    subst this
    simp [execOp, Instr.lookup, hp, h2, run_underlying ((aM tb hT).mapK hk), Go.MapKept.run_getObj_map hb, hck, f1, hb3, hbk]
theorem sQ (hm : k ∈ ks) :
    Still P ⟨d, .lookup T x y false, ty, pos, aft, gd⟩ ev h (.c (.v (.bool true))) := by
  have := bG6 (d := d) (ty := ty) (pos := pos) (aft := aft) (gd := gd) kt tb hT hk hz hx ho hy hok hoks
  rwa [AH hm] at this
theorem qX (hm : k ∉ ks) :
    Still P ⟨d, .lookup T x y false, ty, pos, aft, gd⟩ ev h (.c (.v (.bool false))) := by
  have := bG6 (d := d) (ty := ty) (pos := pos) (aft := aft) (gd := gd) kt tb hT hk hz hx ho hy hok hoks
  rwa [Bj hm] at this
end
omit [DecidableEq κ] in
theorem bG7 {m:Nat} {kc:κ->CV} (tb:bT P tab) (hT:aX tab T=some e) (hk:e.kind = .map K E) (hx:ev x=some (.mh id)) (ho:lk h id=some (.tab (aI kc ks))) (hm:ks.length=m):Still P ⟨d,.call ⟨.builtin .len,#[x],#[T]⟩,ty,pos,aft,gd⟩ ev h (.c (.v (.int .i64 m))) :=
 eK9 tb hT hk hx ho (by rw [bH1,hm])
theorem cQ8 (kt : KeyT P K κ) (tb : bT P tab) (hT : aX tab T = some e) (hk : e.kind = .map K E) (hx : ev x = some (.mh id)) (ho : lk h id = some (.tab (aI kt.kc ks))) (hy : ev y = some (.c (kt.kc k))) (hz : ev z = some (.c cP2)) (hok : kt.ok k) (hoks : ∀ q ∈ ks, kt.ok q) :
    bW P ⟨none, .mapUpdate T x y z, ty, pos, aft, gd⟩ ev h .junk [] (some (id, some (.tab (aI kt.kc (qF ks k))))) i i := by
  intro B dom M H w a K' Q hh hn c1 he hK'
  have h1 := he x _ hx
  have h2 := he y _ hy
  have h2 := kt.rep _ _ _ _ h2
  have h3 := he z _ hz
  simp only [Rep, RepC] at h1 h3
  obtain ⟨hid, g, hM, hp⟩ := h1
  obtain ⟨ms, t, hb, hs, hr⟩ := aV2 hh c1 ho hid hM
  have hck := kt.check w false k hok
  have hent : ∀ m ∈ ms.toList, ∃ b, kt.ok b /\ m.key = kt.kv b := fun m hm => by
    obtain ⟨b, hb1, hb2, _⟩ := bH2 kt hr hm
    exact ⟨b, hoks b hb1, hb2⟩
  have fin : ∀ (ms' : Array MapEntry) (t' : Nat), Stamped ms' t' -> (∀ C, RepM C (aI kt.kc ks) ms.toList -> RepM C (aI kt.kc (qF ks k)) ms'.toList) ->
      (execOp a.eval ⟨none, .mapUpdate T x y z, ty, pos, aft, gd⟩).run P w = .ok .skip { w with heap := w.heap.setIfInBounds g (.map ms' t') } -> Oper.wp P ⟨none, .mapUpdate T x y z, ty, pos, aft, gd⟩ a w K' Q := by
    intro ms' t' hst hrm hrun
    obtain ⟨q1, q2⟩ := heap_set (o' := .map ms' t') hb
    unfold Oper.wp
    rw [hrun, Oper.upon_skip]
    obtain ⟨k1, k2⟩ := c1.turnE (o' := .tab (aI kt.kc (qF ks k))) (w' := { w with heap := w.heap.setIfInBounds g (.map ms' t') }) hid (hh _ _ ho hid) hM rfl rfl rfl aT (fun k hk => q2 k hk) (by unfold World.shape?; simp only [q1, hb])
      (fun hext => ⟨g, _, _, rfl, q1, hst, hrm _ (RepM.ext hext _ _ hr)⟩)
    rw [eG] at hK'
    exact bA1
  rcases kt.find w k hok ms.toList hent with ⟨f1, f2⟩ | ⟨j, m, f1, f2, f3⟩
  · have hn : k ∉ ks := fun hin => by
      obtain ⟨m, hm, e⟩ := aP8 kt hr hin
      exact f2 m hm e
    have hset := Go.MapKept.run_setObj_map (P := P) (.map (ms.push { key := kt.kv k, val := .bool true, born := t }) (t + 1)) hb
    refine fin (ms.push { key := kt.kv k, val := .bool true, born := t }) (t + 1) (stamped_push hs f2) (fun C hC => ?_) ?_
    · rw [Array.toList_push, qF, Ai hn, aI, Dp]
      exact RepM.push (kt.repv _ _ k) (by simp only [Rep, RepC]) hC
    · simp [execOp, Instr.mapUpdate, hp, h2, h3, run_underlying ((aM tb hT).mapK hk), Go.MapKept.run_getObj_map hb, hck, f1, hset]
  · obtain ⟨b, hb1, hb2, hb3⟩ := bX6 kt hr f2
    have hbk : b ∈ ks := Ad hb1
    have : b = k := kt.inj _ _ (hoks b hbk) hok (hb2.symm.trans f3)
    subst this
    have f2' : ms[j]? = some m := by rw [<- Ce]; exact f2
    have hst := kt.stays w b hok
    have hset := Go.MapKept.run_setObj_map (P := P) (.map (ms.modify j fun e => { e with key := kt.kv b, val := .bool true }) t) hb
    have hls : ms.modify j (fun e => { e with key := kt.kv b, val := .bool true }) = ms := by
      apply Array.ext'
      apply Ct
      intro q
      rw [Ce, CM, Ce]
      by_cases hq : j = q
      · subst hq
        rw [Ak rfl, f2']
        obtain ⟨mk, mv, mb⟩ := m
        simp only at f3 hb3
        subst f3 hb3
        rfl
      · rw [Ai hq]
    refine fin ms t hs (fun C hC => by rw [qF, Ak hbk]; exact hC) ?_
    rw [hls] at hset
    simp [execOp, Instr.mapUpdate, hp, h2, h3, run_underlying ((aM tb hT).mapK hk), Go.MapKept.run_getObj_map hb, hck, f1, f2', f3, hst, hls, hset]
end
section
variable {P:D0} {tab:Tab} {sz n i n0 m:Nat} {env env0:Env} {h h0 hr:aQ} {dfs:cK} {K:AK} {ops:Dv} {l rest:Du} {es:List Eat} {ids:Dw} {T ty:Dz} {x y z:Operand} {pos:String} {aft:Dx} {gd:Ds} {id:Nat} {κ:Type} [DecidableEq κ] {K1 E:Dz} {ks:List κ} {k:κ} {e:TyE}
theorem pV (kt : KeyT P K1 κ) (tb : bT P tab) (hg : guardA ops env ⟨none, .mapUpdate T x y z, ty, pos, aft, gd⟩ true) (hT : aX tab T = some e) (hk : e.kind = .map K1 E) (hx : evA env x = some (.mh id)) (ho : lk h id = some (.tab (aI kt.kc ks))) (hy : evA env y = some (.c (kt.kc k))) (hz : evA env z = some (.c cP2)) (hok : kt.ok k) (hoks : ∀ q ∈ ks, kt.ok q)
    (next : AWL P ops sz rest K n env ((id, .tab (aI kt.kc (qF ks k))) :: h) dfs) : AWL P ops sz (⟨none, .mapUpdate T x y z, ty, pos, aft, gd⟩ :: rest) K n env h dfs :=
  mE (v := .junk) (c := some (id, some (AObj.tab (aI kt.kc (qF ks k))))) (Δ := []) hg rfl (Ah _) rfl (cQ8 kt tb hT hk hx ho hy hz hok hoks) (fun id h1 h2 => by omega) aT next
end
end
def eI0 {P:D0} {K:Dz} (hd:P.underlying K=some (.int .i64)):KeyT P K Int where
 kc n := .v (.int .i64 n)
 kv n := .int .i64 n
 ok _:=True
 inj a b _ _ h:=by injection h
 rep ok' w a u h:=by simpa only [RepC] using h
 repv ok' w a:=by simp only [RepC]
 check w em a _:=run_checkKey hd (show IsKey (.int .i64) (.int .i64 a) from rfl) em 9999
 find w a _ es hes:=by
  rcases findNow_spec (d := .int .i64) (k := .int .i64 a) rfl es 0 (fun x hx=>by obtain ⟨b,_,hb⟩:=hes x hx;rw [hb];rfl) with ⟨h1,h2⟩|⟨j,e,h1,h2,h3⟩
  ·exact .inl ⟨run_findKey hd h1,h2⟩
  ·exact .inr ⟨j,e,by rw [Ap] at h1;exact run_findKey hd h1,h2,h3⟩
 stays w a _:=run_keyThatStays (d := .int .i64) rfl
def xP (P:D0) (K I n:Nat):Bool:=match P.underlying K with
 | some (.struct fs) => fs.all fun f => f.name != "_" && (Nat.beq f.type I && Nat.blt f.offset n)
 | some (.array m e)=>Nat.beq e I&&Nat.beq m n
 | _=>false
theorem zX {α β:Type} {g:α->Option β}:∀{L:List α},(∀x∈L,∃y,g x=some y)->∃ys,L.mapM g=some ys
 | [],_=>⟨[],rfl⟩
 | x::L,h=>by
  obtain ⟨y,hy⟩:=h x aT
  obtain ⟨ys,hys⟩:=zX (L:=L) fun z hz=>h z (by simp [hz])
  exact ⟨y::ys,by simp [Cy,hy,hys]⟩
def eC6 (n:Int):Prop := -9223372036854775808<=n/\n<=9223372036854775807
theorem qJ {P : D0} {K I n : Nat} (hs : xP P K I n = true) (hI : P.underlying I = some (.int .i64)) (hsI : P.cellsOf I = 1) (hsK : P.cellsOf K = n) (hk : P.keyType K = true) (hsz : 1 <= P.types.size) (vs : List Int) (hl : vs.length = n) (hv : ∀ v ∈ vs, eC6 v) :
    ∃ l, keyOf P K (.agg (vs.map fun v => Value.int .i64 v).toArray) = some l := by
  obtain ⟨d, hd⟩ : ∃ d, P.types.size = d + 1 := ⟨P.types.size - 1, by omega⟩
  have hcl : (vs.map fun v => Value.int .i64 v).length = n := by rw [Bf, hl]
  have hone : ∀ i, i < n -> ∃ l, P.keyLits (d + 1) I (((vs.map fun v => Value.int .i64 v).drop i).take 1) = some l := fun i hi => by
    obtain ⟨v, hv'⟩ : ∃ v, vs[i]? = some v := ⟨_, Ab aA⟩
    obtain ⟨b1, b2⟩ := hv v (Ad hv')
    have e : ((vs.map fun v => Value.int .i64 v).drop i).take 1 = [.int .i64 v] := by
      have h1 : (vs.map fun v => Value.int .i64 v)[i]? = some (.int .i64 v) := by rw [Bw, hv']; rfl
      obtain ⟨h2, h3⟩ := Ag.1 h1
      rw [BB h2, Ba, Cb, h3]
    rw [e]
    refine ⟨[.int .i64 v], ?_⟩
    have hw : (Lit.int .i64 v).wf = true := by
      have e1 : IntKind.i64.min = -9223372036854775808 := by decide
      have e2 : IntKind.i64.max = 9223372036854775807 := by decide
      simp only [Lit.wf, e1, e2, Bv, Au]
      omega
    simp [Program.keyLits, hI, hw]
  have key : ∀ L, (P.keyLits (P.types.size + 1) K (vs.map fun v => Value.int .i64 v)) = some L -> (Value.agg (vs.map fun v => Value.int .i64 v).toArray).formed P K = true -> (match P.underlying K with | some (.array _ _) | some (.struct _) => true | _ => false) = true -> ∃ l, keyOf P K (.agg (vs.map fun v => Value.int .i64 v).toArray) = some l := fun L h1 h2 h3 => by
    unfold keyOf
    split at h3
    · rename_i h; rw [h]; simp [hk, h2, Value.cells, h1]
    · rename_i h; rw [h]; simp [hk, h2, Value.cells, h1]
    · cases h3
  unfold xP at hs
  split at hs
  · rename_i fs hu
    rw [Db] at hs
    have hf : ∀ f ∈ fs, (f.name != "_") = true ∧ f.type = I ∧ f.offset < n := fun f hf => by
      have := hs f hf
      simp only [Au, AM] at this
      exact ⟨this.1, Af this.2.1, this.2.2⟩
    obtain ⟨ys, hys⟩ := zX (L := fs.toList) (g := fun f => P.keyLits (d + 1) f.type (((vs.map fun v => Value.int .i64 v).drop f.offset).take (P.cellsOf f.type))) fun f hfm => by
      obtain ⟨_, h2, h3⟩ := hf f (Array.mem_def.2 hfm)
      rw [h2, hsI]
      exact hone _ h3
    refine key ys.flatten ?_ ?_ ?_
    · rw [hd]
      unfold Program.keyLits
      rw [hu]
      simp only
      rw [Ak ⟨by rw [hcl, hsK], by rw [Db]; exact fun f hfm => (hf f hfm).1⟩, hys]
      rfl
    · simp [Value.formed, hu, hsK, hl]
    · rw [hu]
  · rename_i m e hu
    simp only [Au] at hs
    have he := Af hs.1
    have hm := Af hs.2
    subst he hm
    obtain ⟨ys, hys⟩ := zX (L := List.range m) (g := fun i => P.keyLits (d + 1) e (((vs.map fun v => Value.int .i64 v).drop (i * P.cellsOf e)).take (P.cellsOf e))) fun i hi => by
      rw [hsI, A9]
      exact hone i (AB.1 hi)
    refine key ys.flatten ?_ ?_ ?_
    · rw [hd]
      unfold Program.keyLits
      rw [hu]
      simp only
      rw [Ak (by rw [hcl, hsK]), hys]
      rfl
    · simp [Value.formed, hu, hsK, hl]
    · rw [hu]
  · cases hs
def aU7 {P:D0} {K I n:Nat} {κ:Type} (law:WideMaps.KeyLaw P K) (hs:xP P K I n=true) (hI:P.underlying I=some (.int .i64)) (hsI:P.cellsOf I=1) (hsK:P.cellsOf K=n) (hk:P.keyType K=true) (hsz:Nat.ble 1 P.types.size=true) (ls:κ->List Int) (hl:∀a,(ls a).length=n) (hi:∀a b,ls a=ls b->a=b):KeyT P K κ where
 kc a := .agg ((ls a).map fun v => .v (.int .i64 v))
 kv a := .agg ((ls a).map fun v=>Value.int .i64 v).toArray
 ok a:=∀v∈ls a,eC6 v
 inj a b _ _ h:=by
  refine hi a b ?_
  injection h with h
  have h:=congrArg Array.toList h
  simp only [Cl] at h
  exact List.map_inj_right (fun x y e=>by injection e) |>.1 h
 rep ok' w a u h:=by
  have h:∃us:Dt,u = .agg us.toArray/\RepCs ok' w ((ls a).map fun v=>CV.v (.int .i64 v)) us/\∀x∈us,x.oneCell'=true:=by simpa only [RepC] using h
  obtain ⟨us,rfl,h,_⟩:=h
  congr 2
  have:∀(l:List Int) (us:Dt),RepCs ok' w (l.map fun v=>CV.v (.int .i64 v)) us->us=l.map fun v=>Value.int .i64 v:=by
   intro l
   induction l with
   | nil=>intro us h;exact h
   | cons x l ih =>
    intro us h
    obtain ⟨u,us',rfl,h1,h2⟩:=h
    simp only [RepC] at h1
    rw [h1,ih us' h2]
    rfl
  exact this _ _ h
 repv ok' w a:=by
  have:RepC ok' w (.agg ((ls a).map fun v=>CV.v (.int .i64 v))) (.agg ((ls a).map fun v=>Value.int .i64 v).toArray)↔∃us:Dt,Value.agg ((ls a).map fun v=>Value.int .i64 v).toArray = .agg us.toArray/\RepCs ok' w ((ls a).map fun v=>CV.v (.int .i64 v)) us/\∀x∈us,x.oneCell'=true:=by simp only [RepC]
  refine this.2 ⟨_,rfl,?_,fun x hx=>?_⟩
  ·generalize ls a=l
   induction l with
   | nil=>rfl
   | cons x l ih=>exact ⟨_,_,rfl,by simp only [RepC],ih⟩
  ·obtain ⟨v,_,rfl⟩:=B8.1 hx
   rfl
 check w em a ha:=by
  obtain ⟨l,hl'⟩:=qJ hs hI hsI hsK hk (A7 hsz) (ls a) (hl a) ha
  exact law.check w em hl'
 find w a ha es hes:=by
  obtain ⟨l,hl'⟩:=qJ hs hI hsI hsK hk (A7 hsz) (ls a) (hl a) ha
  exact law.find w hl' es fun e he=>by
   obtain ⟨b,hb1,hb2⟩:=hes e he
   rw [hb2]
   exact qJ hs hI hsI hsK hk (A7 hsz) (ls b) (hl b) hb1
 stays w a ha:=by
  obtain ⟨l,hl'⟩:=qJ hs hI hsI hsK hk (A7 hsz) (ls a) (hl a) ha
  exact law.stays w hl'
end Go.Av
namespace Go.Av
open Go Go.RowKit
inductive LfK where
 | b
 | i (q:D3)
 | s
def oA (P:D0):Nat->Dz->List LfK
 | 0,_=>[]
 | m+1,t=>match P.underlying t with
  | some .bool=>[.b]
  | some (.int q)=>[.i q]
  | some .string=>[.s]
  | some (.array n e)=>(List.range n).flatMap fun _=>oA P m e
  | some (.struct fs)=>fs.toList.flatMap fun f=>oA P m f.type
  | _=>[]
def eS6:LfK->Value->Prop
 | .b,.bool _=>True
 | .i q,.int q' n=>q'=q/\(Lit.int q n).wf=true
 | .s,.string s=>s.size<=maxLen
 | _,_=>False
def LfL:List LfK->Dt->Prop
 | [],[]=>True
 | k::ks,v::vs=>eS6 k v/\LfL ks vs
 | _,_=>False
theorem LfL.length:∀{ks:List LfK} {vs:Dt},LfL ks vs->ks.length=vs.length
 | [],[],_=>rfl
 | k::ks,v::vs,h=>by simp [LfL.length h.2]
 | [],_::_,h=>h.elim
 | _::_,[],h=>h.elim
theorem LfL.split:∀{p q:List LfK} {vs:Dt},LfL (p++q) vs->LfL p (vs.take p.length)/\LfL q (vs.drop p.length)
 | [],q,vs,h=>by simpa [LfL] using h
 | a::p,q,[],h=>h.elim
 | a::p,q,v::vs,h=>by
  obtain ⟨h1,h2⟩:=LfL.split (p:=p) h.2
  exact ⟨⟨h.1,h1⟩,h2⟩
variable {P:D0}
theorem bG0:∀(fs:List Field) (off tot:Nat),P.runs off fs=some tot->off+(fs.map fun f=>P.cellsOf f.type).sum=tot
 | [],off,tot,h=>by simpa [Program.runs] using h
 | f::r,off,tot,h=>by
  simp only [Program.runs] at h
  split at h
  ·have:=bG0 r _ _ h
   simp only [AI,De]
   omega
  ·cases h
theorem aF6 {α:Type} {f:α->List LfK}:∀l:List α,(l.flatMap f).length=(l.map fun x=>(f x).length).sum
 | []=>rfl
 | x::l=>by rw [A4,Aa,aF6 l,AI,De]
theorem aQ2 {c:Nat}:∀l:Dw,(l.map fun _=>c).sum=l.length*c
 | []=>by simp
 | x::l=>by rw [AI,De,aQ2 l,As,AL,Dq,CX]
def aK8 (P:D0):Nat->Dz->Bool
 | 0,_=>true
 | m+1,t=>match P.underlying t with
  | some .bool|some (.int _)|some .string=>Nat.beq (P.cellsOf t) 1
  | some (.array _ e)=>aK8 P m e
  | some (.struct fs)=>fs.all fun f=>aK8 P m f.type
  | _=>true
theorem mP:∀(m:Nat) (t:Dz),P.tiled m t=true->aK8 P m t=true->(oA P m t).length=P.cellsOf t
 | 0,t,h,_=>by simp [Program.tiled] at h
 | m+1,t,h,ho=>by
  unfold Program.tiled at h
  unfold aK8 at ho
  unfold oA
  cases hu:P.underlying t with
  | none=>simp [hu] at h
  | some kd =>
   cases kd
   case bool=>simp only [hu] at ho;exact (Af ho).symm
   case int q=>simp only [hu] at ho;exact (Af ho).symm
   case string=>simp only [hu] at ho;exact (Af ho).symm
   case array n e =>
    simp only [hu,Au,Dm] at h ho
    simp only
    rw [aF6,mP m e h.2 ho,aQ2,CF,h.1]
   case struct fs =>
    simp only [hu,Au,Dm] at h ho
    simp only
    rw [aF6]
    have h1:=bG0 _ _ _ h.1
    rw [Ap] at h1
    rw [<- h1]
    congr 1
    refine List.map_congr_left fun f hf=>?_
    exact mP m f.type (Bt.1 h.2 f (BT.1 hf)) (Bt.1 ho f (BT.1 hf))
   all_goals (simp [hu] at h;done)
theorem yT {g:Field->List LfK} {D:Nat} (cs:Dt):∀(fs:List Field) (off tot:Nat),P.runs off fs=some tot->(∀f∈fs,(g f).length=P.cellsOf f.type)->(∀f∈fs,∀vs,LfL (g f) vs->∃l,P.keyLits D f.type vs=some l)->LfL (fs.flatMap g) (cs.drop off)->∃ys,fs.mapM (fun f=>P.keyLits D f.type ((cs.drop f.offset).take (P.cellsOf f.type)))=some ys
 | [],off,tot,_,_,_,_=>⟨[],rfl⟩
 | f::r,off,tot,h,hl,hk,hL=>by
  simp only [Program.runs] at h
  split at h
  ·rename_i ho
   rw [A4] at hL
   obtain ⟨h1,h2⟩:=hL.split
   rw [hl f aT] at h1 h2
   rw [BU] at h2
   obtain ⟨y,hy⟩:=hk f aT _ h1
   obtain ⟨ys,hys⟩:=yT cs r _ tot h (fun f hf=>hl f (by simp [hf])) (fun f hf=>hk f (by simp [hf])) h2
   exact ⟨y::ys,by rw [Cy,ho,hy,hys];rfl⟩
  ·cases h
theorem aG3 {ks:List LfK} {D c:Nat} {e:Dz} (hc:ks.length=c) (hk:∀vs,LfL ks vs->∃l,P.keyLits D e vs=some l) (cs:Dt):∀(n j:Nat),LfL ((List.range n).flatMap fun _=>ks) (cs.drop (j*c))->∀i,i<n->∃l,P.keyLits D e ((cs.drop ((j+i)*c)).take c)=some l
 | 0,j,_,i,hi=>by omega
 | n+1,j,hL,i,hi=>by
  rw [List.range_succ_eq_map,A4,Di] at hL
  obtain ⟨h1,h2⟩:=hL.split
  rw [hc] at h1 h2
  cases i with
  | zero=>rw [Cp];exact hk _ h1
  | succ i =>
   rw [BU,show j*c+c=(j+1)*c by rw [AL,Dq]] at h2
   rw [show j+(i+1)=j+1+i by omega]
   exact aG3 hc hk cs n (j+1) h2 i aA
theorem mJ:∀(m:Nat) (t:Dz),P.tiled m t=true->P.keyTypeAt m t=true->aK8 P m t=true->∀vs,LfL (oA P m t) vs->∃l,P.keyLits m t vs=some l
 | 0,t,h,_,_,_,_=>by simp [Program.tiled] at h
 | m+1,t,h,hk,ho,vs,hL=>by
  have hlen:=mP (m+1) t h ho
  have hvl:=hL.length
  unfold Program.tiled at h
  unfold Program.keyTypeAt at hk
  unfold aK8 at ho
  unfold oA at hL hlen hvl
  unfold Program.keyLits
  cases hu:P.underlying t with
  | none=>simp [hu] at h
  | some kd =>
   cases kd
   case bool =>
    simp only [hu] at hL
    match vs,hL with
    | [.bool b],_=>exact ⟨_,rfl⟩
   case int q =>
    simp only [hu] at hL
    match vs,hL with
    | [.int q' n],hL=>exact ⟨_,Ak hL.1⟩
   case string =>
    simp only [hu] at hL
    match vs,hL with
    | [.string s],hL=>exact ⟨_,Ak hL.1⟩
   case array n e =>
    simp only [hu,Au,Dm] at h hk ho hL hlen hvl
    obtain ⟨ys,hys⟩:=zX (L:=List.range n) (g:=fun i=>P.keyLits m e ((vs.drop (i*P.cellsOf e)).take (P.cellsOf e))) fun i hi=>by
     have:=aG3 (mP m e h.2 ho) (fun vs hv=>mJ m e h.2 hk ho vs hv) vs n 0 (by simpa using hL) i (AB.1 hi)
     rwa [Ap] at this
    simp only
    rw [Ak aA,hys]
    exact ⟨_,rfl⟩
   case struct fs =>
    simp only [hu,Au,Dm] at h hk ho hL hlen hvl
    have ht:=fun f (hf:f∈fs.toList)=>Bt.1 h.2 f (BT.1 hf)
    have hof:=fun f (hf:f∈fs.toList)=>Bt.1 ho f (BT.1 hf)
    have hkf:=fun f (hf:f∈fs.toList)=>by
     have:=Bt.1 hk.1.1 f (BT.1 hf)
     exact CR.1 this
    obtain ⟨ys,hys⟩:=yT (D:=m) vs fs.toList 0 _ h.1 (fun f hf=>mP m f.type (ht f hf) (hof f hf)) (fun f hf vs hv=>mJ m f.type (ht f hf) (hkf f hf).2 (hof f hf) vs hv) (by simpa using hL)
    simp only
    rw [Ak ⟨by omega,Bt.2 fun f hf=>(hkf f (BT.2 hf)).1⟩,hys]
    exact ⟨_,rfl⟩
   all_goals (simp [hu] at h;done)
def bI7 (P:D0) (t:Dz):Bool:=match P.underlying t with
 | some (.array _ _)|some (.struct _)=>true
 | _=>false
section
variable {m:Nat} {t:Dz} (hm:Nat.ble m 10000=true) (ht:P.tiled m t=true) (hk:P.keyTypeAt m t=true) (ho:aK8 P m t=true) (hw:bI7 P t=true) {xs ys:Dt} (hx:LfL (oA P m t) xs) (hy:LfL (oA P m t) ys) (w:World) {r:Bool} (hr:r=true↔xs=ys)
include m t hm ht hk ho hw xs ys hx hy w r hr
theorem aI0:(Op.equalIn 10000 t (.agg xs.toArray) (.agg ys.toArray)).run P w = .ok r w:=by
 have hm:m<=10000:=by simpa using hm
 obtain ⟨lx,h1⟩:=mJ m t ht hk ho xs hx
 obtain ⟨ly,h2⟩:=mJ m t ht hk ho ys hy
 have fm:∀vs:Dt,LfL (oA P m t) vs->(Value.agg vs.toArray).formed P t=true:=fun vs hv=>by
  have hl:=hv.length
  rw [mP m t ht ho] at hl
  unfold bI7 at hw
  unfold Value.formed
  split at hw
  ·rename_i hu;simp [hu,hl]
  ·rename_i hu;simp [hu,hl]
  ·cases hw
 obtain ⟨r',hr',hiff⟩:=run_equalIn_deep (10000-m) m t hk w m m (.agg xs.toArray) (.agg ys.toArray) lx ly (fm xs hx) (fm ys hy) (by simpa [Value.cells] using h1) (by simpa [Value.cells] using h2)
 rw [show 10000-m+m=10000 by omega] at hr'
 rw [hr']
 have e1:=cells_of_lits m t ht m _ _ h1
 have e2:=cells_of_lits m t ht m _ _ h2
 have h3:lx=ly↔xs=ys:=⟨fun h=>by rw [e1,e2,h],fun h=>by rw [h,h2] at h1;injection h1 with h1;exact h1.symm⟩
 have:r'=r:=Do.2 (hiff.trans (h3.trans hr.symm))
 rw [this]
theorem cZ4:(binOp .eql t (.agg xs.toArray) (.agg ys.toArray)).run P w = .ok (.bool r) w:=by
 rw [run_eql_struct,aI0 hm ht hk ho hw hx hy w hr];rfl
theorem cZ6:(binOp .neq t (.agg xs.toArray) (.agg ys.toArray)).run P w = .ok (.bool (!r)) w:=by
 rw [run_neq_struct,aI0 hm ht hk ho hw hx hy w hr];rfl
end
section
variable {ev:Evl} {h:aQ} {d:Dy} {T ty:Dz} {x y:Operand} {pos:String} {aft:Dx} {gd:Ds} {ks:List LfK} {m:Nat} {xs ys:Dt} {cs cs':D8} {b:Bool} {T':Dz} (hg:P.eqGuardType P.depth T=false) (hm:Nat.ble m 10000=true) (ht:P.tiled m T=true) (hk:P.keyTypeAt m T=true) (ho:aK8 P m T=true) (hw:bI7 P T=true) (hL:oA P m T=ks) (hx:ev x=some (.c (.agg cs))) (hy:ev y=some (.c (.agg cs'))) (hcx:cs=xs.map CV.v) (hcy:cs'=ys.map CV.v) (hlx:LfL ks xs) (hly:LfL ks ys)
include hg hm ht hk ho hw hL hx hy hcx hcy hlx hly
theorem oN (hb:b=true↔xs=ys):Still P ⟨d,.binOp .eql T x y T',ty,pos,aft,gd⟩ ev h (.c (.v (.bool b))):=by
 intro B dom M H w a hh hc he
 have h1:=he x _ hx
 have h2:=he y _ hy
 subst hcx hcy hL
 simp only [Rep,RepC] at h1 h2
 obtain ⟨us,h1,h3,_⟩:=h1
 obtain ⟨vs,h2,h4,_⟩:=h2
 have h3:=RepCs.of_plain h3
 have h4:=RepCs.of_plain h4
 subst h3 h4
 refine ⟨_,?_,rfl⟩
 have:=cZ4 hm ht hk ho hw hlx hly w hb
 simp only [execOp,h1,h2,Sem.run_bind,tD (P:=P) w hg,Result.andThen_ok,this]
 rfl
theorem aJ2 (hb:b=true↔xs=ys):Still P ⟨d,.binOp .neq T x y T',ty,pos,aft,gd⟩ ev h (.c (.v (.bool (!b)))):=by
 intro B dom M H w a hh hc he
 have h1:=he x _ hx
 have h2:=he y _ hy
 subst hcx hcy hL
 simp only [Rep,RepC] at h1 h2
 obtain ⟨us,h1,h3,_⟩:=h1
 obtain ⟨vs,h2,h4,_⟩:=h2
 have h3:=RepCs.of_plain h3
 have h4:=RepCs.of_plain h4
 subst h3 h4
 refine ⟨_,?_,rfl⟩
 have:=cZ6 hm ht hk ho hw hlx hly w hb
 simp only [execOp,h1,h2,Sem.run_bind,tD (P:=P) w hg,Result.andThen_ok,this]
 rfl
end
end Go.Av
