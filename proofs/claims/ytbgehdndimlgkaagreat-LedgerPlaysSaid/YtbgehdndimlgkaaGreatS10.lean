/- Lemmas for laws of the ledger. -/
import Derived.DeepKeys3
import Derived.Test.YtbgehdndimlgkaaGreatS9
set_option linter.all false
set_option maxHeartbeats 16000000
namespace Go.Proofs.YtbgehdndimlgkaaGreat
open Go Go.RowKit Go.Av
set_option maxRecDepth 100000
section
def vrc (l:List Ver):D1:=l.flatMap fun v=>[iv v.t,iv v.c,iv v.s]
def src (l:List Src):D1:=l.flatMap fun v=>[iv v.t,iv v.s]
theorem aB8 {α:Type} {f:α->D1} {k:Nat} (h:∀a,(f a).length=k):∀l:List α,(l.flatMap f).length=l.length*k
 | []=>by simp
 | a::l=>by rw [A5,Aa,h,aB8 h l,Au,AM,Dl,CP]
theorem aO2 {α:Type} {f:α->D1} {k:Nat} (h:∀a,(f a).length=k):∀{l:List α} {i:Nat} {a:α},l[i]? = some a->((l.flatMap f).drop (i*k)).take k=f a
 | [],i,a,e=>by simp at e
 | b::l,0,a,e=>by
  simp only [Bx,Option.some.injEq] at e
  subst e
  rw [Cf,AY,A5,AD (by rw [h];exact Ah _),Ad (by rw [h];exact Ah _)]
 | b::l,i+1,a,e=>by
  rw [A5,BW,h,AG (by rw [h,AM];omega),Ay,show (i+1)*k-k=i*k by rw [AM];omega]
  exact aO2 h (by simpa using e)
theorem dC (l:List Ver):(vrc l).length=l.length*3:=aB8 (f:=fun v:Ver=>[iv v.t,iv v.c,iv v.s]) (k:=3) (fun _=>rfl) l
theorem dV (l:List Src):(src l).length=l.length*2:=aB8 (f:=fun v:Src=>[iv v.t,iv v.s]) (k:=2) (fun _=>rfl) l
theorem eG {l:List Ver} {i:Nat} {v:Ver} (h:l[i]? = some v):((vrc l).drop (i*3)).take 3=[iv v.t,iv v.c,iv v.s]:=aO2 (f:=fun v:Ver=>[iv v.t,iv v.c,iv v.s]) (k:=3) (fun _=>rfl) h
theorem eV {l:List Src} {i:Nat} {v:Src} (h:l[i]? = some v):((src l).drop (i*2)).take 2=[iv v.t,iv v.s]:=aO2 (f:=fun v:Src=>[iv v.t,iv v.s]) (k:=2) (fun _=>rfl) h
attribute [local irreducible] Still Adds AWL AW Drw bX bY AC AWR cU Frz Go.Av.Src cQ Out InK ItK AsK RdK eP eI ACT ACA eW
attribute [local simp] bS bR bI
theorem kP {α β:Type} {f:α->List β} {l:List α} {i:Nat} {a:α} (h:l[i]? = some a):(l.take (i+1)).flatMap f=(l.take i).flatMap f++f a:=by
 rw [B8,h,Bc];simp
theorem uA {α β:Type} {f:α->List β} (l:List α) (i:Nat):((l.take i).flatMap f).length<=(l.flatMap f).length:=by
 conv=>rhs;rw [<- B9 i l]
 rw [Bc,Aa]
 omega
theorem sA {α β:Type} {f:α->List β} (h:∀a,0<(f a).length):∀l:List α,l.length<=(l.flatMap f).length
 | []=>by simp
 | a::l=>by
  have:=sA h l
  have:=h a
  rw [A5,Aa,Au]
  omega
theorem aI8 (v:Ver):0<(eB v).length:=by
 have:=kY (zz v.t)
 unfold eB bA
 simp only [Aa]
 omega
theorem aI6 (v:Src):0<(eL v).length:=by
 have:=kY (zz v.t)
 unfold eL bA
 simp only [Aa]
 omega
theorem bC3 (L:Dm) (m:Nat) (hL:L.length=m) (l:List Ver) (n:Nat) (hn:l.length=n) (hl:∀v∈l,aT v.t/\aT v.c/\aT v.s) (m':Nat) (hm':(L++fQ eB l).length=m') (hb:m'<=1000000):ACA Tryz.prog 170 5 1 m (u8c L) [.sl 3 n (vrc l)] (u8c (L++fQ eB l)) m':=by
 have hul:=u8l hL
 have hul3:=u8l hm'
 have hvl:(vrc l).length=n*3:=by rw [dC,hn]
 have hge:=sA aI8 l
 have hle:=uA (f:=eB) l
 obtain ⟨X,hX⟩:∃X,L++bA n=X:=⟨_,rfl⟩
 obtain ⟨j,hj⟩:∃j,X.length=j:=⟨_,rfl⟩
 have e:L++fQ eB l=X++l.flatMap eB:=by rw [<- hX,fQ,Ao,hn]
 have hjm:j+(l.flatMap eB).length=m':=by rw [<- hm',<- hj,e,Aa]
 have i1:=uI L m hL n ⟨by omega,by omega⟩ j kL aA
 rw [hX] at i1
 rw [e] at hm' hul3 ⊢
 have hulx:=u8l hj
 refine dX aB (sz:=29) Tryz.func170 rfl (by rw [Tryz.ntmps170];rfl) (bO _) ?_
 repeat' (first|(refine aC ?_;intro K hK hX)|refine dN3 ?_|(refine aG hK hX ?_;clear hK hX K)|fail)
 refine cL 2 (fun p:Nat × Dm × Nat=>[(0,.own 1 0 p.2.2 1 true),(12,.c (.sl 3 n (vrc l))),(13,.c (iv n)),(14,.c (iv p.1))]) (fun p=>[(1,.row 5 (u8c p.2.1))]) [(none,[.own 0 0 m 1 true])] (fun p=>p.1<=n/\p.2.1.length=p.2.2/\p.2.1=X++(l.take p.1).flatMap eB) (fun p=>n-p.1) (0,X,j) ⟨by omega,hj,by simp⟩ eH ?_
 rintro ⟨i,q,w⟩ ⟨hi,hql,hq⟩ K hK hX
 dsimp only at hi hql hq hK ⊢
 have hulq:=u8l hql
 by_cases hlt:i<n
 ·obtain ⟨v,hat⟩:∃v,l[i]? = some v:=⟨_,Ab aA⟩
  obtain ⟨v1,v2,v3⟩:=hl v (Af hat)
  have hx:=eG hat
  have hst:q++eB v=X++(l.take (i+1)).flatMap eB:=by rw [hq,kP hat,Ao]
  have hmo:=hle (i+1)
  obtain ⟨t,c,s⟩:=v
  simp only at v1 v2 v3 hx
  have e3:eB ⟨t,c,s⟩=bA t++(bA s++bA c):=by rw [eB,Ao]
  obtain ⟨w',hw'⟩:∃w',(q++eB ⟨t,c,s⟩).length=w':=⟨_,rfl⟩
  have hwb:w'<=m':=by rw [<- hw',hst,Aa,hj];omega
  have i2:=cM3 q w hql t s c v1 v3 v2 w' aN8 aA
  rw [<- e3,hst] at i2
  rw [hst] at hw'
  generalize X++(l.take (i+1)).flatMap eB=q' at i2 hw' hst
  repeat' (first|(refine aC ?_;intro K hK hX)|refine dM9 ?_|(refine aG hK hX ?_;clear hK hX K)|fail)
  exact ⟨(i+1,q',w'),⟨by omega,hw',by rw [<- hst,hq,kP hat,Ao]⟩,by simp only;omega,dO8⟩
 ·have hin:i=n:=by omega
  have hq':q=X++l.flatMap eB:=by rw [hq,Ad aA]
  have hwm:w=m':=by rw [<- hql,hq',hm']
  repeat' (first|(refine aC ?_;intro K hK hX)|refine aK [0,1,4,6,12,13,14] ?_|refine stA ?_|(refine aG hK hX ?_;clear hK hX K)|fail)
  rw [<- hq',<- hwm]
  exact kF
theorem bJ3 (L:Dm) (m:Nat) (hL:L.length=m) (l:List Src) (n:Nat) (hn:l.length=n) (hl:∀v∈l,aT v.t/\aT v.s) (m':Nat) (hm':(L++fQ eL l).length=m') (hb:m'<=1000000):ACA Tryz.prog 169 5 1 m (u8c L) [.sl 2 n (src l)] (u8c (L++fQ eL l)) m':=by
 have hul:=u8l hL
 have hul3:=u8l hm'
 have hvl:(src l).length=n*2:=by rw [dV,hn]
 have hge:=sA aI6 l
 have hle:=uA (f:=eL) l
 obtain ⟨X,hX⟩:∃X,L++bA n=X:=⟨_,rfl⟩
 obtain ⟨j,hj⟩:∃j,X.length=j:=⟨_,rfl⟩
 have e:L++fQ eL l=X++l.flatMap eL:=by rw [<- hX,fQ,Ao,hn]
 have hjm:j+(l.flatMap eL).length=m':=by rw [<- hm',<- hj,e,Aa]
 have i1:=uI L m hL n ⟨by omega,by omega⟩ j kL aA
 rw [hX] at i1
 rw [e] at hm' hul3 ⊢
 have hulx:=u8l hj
 refine dX aB (sz:=27) Tryz.func169 rfl (by rw [Tryz.ntmps169];rfl) (bO _) ?_
 repeat' (first|(refine aC ?_;intro K hK hX)|refine dN3 ?_|(refine aG hK hX ?_;clear hK hX K)|fail)
 refine cL 2 (fun p:Nat × Dm × Nat=>[(0,.own 1 0 p.2.2 1 true),(12,.c (.sl 2 n (src l))),(13,.c (iv n)),(14,.c (iv p.1))]) (fun p=>[(1,.row 5 (u8c p.2.1))]) [(none,[.own 0 0 m 1 true])] (fun p=>p.1<=n/\p.2.1.length=p.2.2/\p.2.1=X++(l.take p.1).flatMap eL) (fun p=>n-p.1) (0,X,j) ⟨by omega,hj,by simp⟩ eH ?_
 rintro ⟨i,q,w⟩ ⟨hi,hql,hq⟩ K hK hX
 dsimp only at hi hql hq hK ⊢
 have hulq:=u8l hql
 by_cases hlt:i<n
 ·obtain ⟨v,hat⟩:∃v,l[i]? = some v:=⟨_,Ab aA⟩
  obtain ⟨v1,v3⟩:=hl v (Af hat)
  have hx:=eV hat
  have hst:q++eL v=X++(l.take (i+1)).flatMap eL:=by rw [hq,kP hat,Ao]
  have hmo:=hle (i+1)
  obtain ⟨t,s⟩:=v
  simp only at v1 v3 hx
  have e3:eL ⟨t,s⟩=bA t++bA s:=rfl
  obtain ⟨w',hw'⟩:∃w',(q++eL ⟨t,s⟩).length=w':=⟨_,rfl⟩
  have hwb:w'<=m':=by rw [<- hw',hst,Aa,hj];omega
  have i2:=cM2 q w hql t s v1 v3 w' aN8 aA
  rw [<- e3,hst] at i2
  rw [hst] at hw'
  generalize X++(l.take (i+1)).flatMap eL=q' at i2 hw' hst
  repeat' (first|(refine aC ?_;intro K hK hX)|refine dM9 ?_|(refine aG hK hX ?_;clear hK hX K)|fail)
  exact ⟨(i+1,q',w'),⟨by omega,hw',by rw [<- hst,hq,kP hat,Ao]⟩,by simp only;omega,dO8⟩
 ·have hin:i=n:=by omega
  have hq':q=X++l.flatMap eL:=by rw [hq,Ad aA]
  have hwm:w=m':=by rw [<- hql,hq',hm']
  repeat' (first|(refine aC ?_;intro K hK hX)|refine aK [0,1,4,6,12,13,14] ?_|refine stA ?_|(refine aG hK hX ?_;clear hK hX K)|fail)
  rw [<- hq',<- hwm]
  exact kF
end
section
def cmpZ (a b:Int):Int:=if a<b then -1 else if b<a then 1 else 0
def orZ:List Int->Int
 | []=>0
 | x::l=>if x=0 then orZ l else x
def aM8 (a b:Ver):Int:=orZ [cmpZ a.t b.t,cmpZ a.s b.s,cmpZ a.c b.c]
def aG0 (a b:Src):Int:=orZ [cmpZ a.t b.t,cmpZ a.s b.s]
theorem mE (a b:Int):(cmpZ a b<0↔a<b)/\(cmpZ a b=0↔a=b) /\ -1<=cmpZ a b/\cmpZ a b<=1:=by
 unfold cmpZ
 by_cases h:a<b
 ·rw [Ak h];omega
 ·rw [Aj h]
  by_cases h2:b<a
  ·rw [Ak h2];omega
  ·rw [Aj h2];omega
theorem oV (a b:Ver):aM8 a b<0↔ltV a b:=by
 have h1:=mE a.t b.t
 have h2:=mE a.s b.s
 have h3:=mE a.c b.c
 unfold aM8 orZ ltV
 by_cases e1:cmpZ a.t b.t=0
 ·rw [Ak e1]
  unfold orZ
  by_cases e2:cmpZ a.s b.s=0
  ·rw [Ak e2]
   unfold orZ
   by_cases e3:cmpZ a.c b.c=0
   ·rw [Ak e3];unfold orZ;omega
   ·rw [Aj e3];omega
  ·rw [Aj e2];omega
 ·rw [Aj e1];omega
theorem rT (a b:Src):aG0 a b<0↔ltS a b:=by
 have h1:=mE a.t b.t
 have h2:=mE a.s b.s
 unfold aG0 orZ ltS
 by_cases e1:cmpZ a.t b.t=0
 ·rw [Ak e1]
  unfold orZ
  by_cases e2:cmpZ a.s b.s=0
  ·rw [Ak e2];unfold orZ;omega
  ·rw [Aj e2];omega
 ·rw [Aj e1];omega
attribute [local irreducible] Still Adds AWL AW Drw bX bY AC AWR cU Frz Go.Av.Src cQ Out InK ItK AsK RdK eP eI ACT ACA eW
theorem cN2 (a:Int):qC' 197 [iv a] (.c (bv false)) [] 0:=by
 refine aD aB (sz:=6) Tryz.func197 rfl (by rw [Tryz.ntmps197];rfl) ?_
 repeat' (first|(refine aC ?_;intro K hK hX)|refine aK [0,2] ?_|(((with_reducible refine bP ?_);refine xA ?_);(first|((with_reducible refine bU ?_);(first|refine aL (jV rfl rfl rfl (Bi (fun h=>h rfl))) ?_))))|refine stA ?_|(refine aG hK hX ?_;clear hK hX K)|fail)
 exact aY
theorem tS (a b:Int):qC' 157 [iv a,iv b] (.c (iv (cmpZ a b))) [] 0:=by
 have h1:=cN2 a
 have h2:=cN2 b
 unfold cmpZ
 by_cases d1:a<b
 ·rw [Ak d1]
  refine aD aB (sz:=20) Tryz.func157 rfl (by rw [Tryz.ntmps157];rfl) ?_
  repeat' (first|(refine aC ?_;intro K hK hX)|refine cE5 ?_|(refine aG hK hX ?_;clear hK hX K)|fail)
  exact aY
 ·rw [Aj d1]
  by_cases d2:b<a
  ·rw [Ak d2]
   refine aD aB (sz:=20) Tryz.func157 rfl (by rw [Tryz.ntmps157];rfl) ?_
   repeat' (first|(refine aC ?_;intro K hK hX)|refine cE5 ?_|(refine aG hK hX ?_;clear hK hX K)|fail)
   exact aY
  ·rw [Aj d2]
   refine aD aB (sz:=20) Tryz.func157 rfl (by rw [Tryz.ntmps157];rfl) ?_
   repeat' (first|(refine aC ?_;intro K hK hX)|refine cE5 ?_|(refine aG hK hX ?_;clear hK hX K)|fail)
   exact aY
theorem dT4 (l:List Int) (n:Nat) (hn:l.length=n) (hb:n<=1000):qC' 156 [.sl 1 n (dE .i64 l)] (.c (iv (orZ l))) [] 0:=by
 have hil:(dE .i64 l).length=n:=by rw [fF,hn]
 refine aD aB (sz:=18) Tryz.func156 rfl (by rw [Tryz.ntmps156];rfl) ?_
 repeat' (first|(refine aC ?_;intro K hK hX)|refine aK [0,2,3,5,6,7,8] ?_|refine stA ?_|(refine aG hK hX ?_;clear hK hX K)|fail)
 refine bH [8] [] rfl rfl (fun i:Nat=>[(8,.c (iv i))]) (fun i=>[]) (fun i=>i<=n/\orZ l=orZ (l.drop i)) (fun i=>n-i) 0 ⟨Am _,rfl⟩ eH ?_
 rintro i ⟨hi,ho⟩ K hK hX
 by_cases hlt:i<n
 ·obtain ⟨x,hat⟩:∃x,l[i]? = some x:=⟨_,Ab aA⟩
  have hx:(dE .i64 l)[i]? = some (iv x):=by simp [dE,hat]
  have hdr:l.drop i=x::l.drop (i+1):=by
   obtain ⟨h1,h2⟩:=Ag.1 hat
   rw [B6 h1,h2]
  rw [hdr,orZ] at ho
  by_cases h0:x=0
  ·rw [Ak h0] at ho
   repeat' (first|(refine aC ?_;intro K hK hX)|refine aK [0,2,3,5,6,7,8] ?_|refine eJ ?_|refine stA ?_|(refine aG hK hX ?_;clear hK hX K)|fail)
   exact ⟨i+1,⟨by omega,ho⟩,by omega,eH⟩
  ·rw [Aj h0] at ho
   repeat' (first|(refine aC ?_;intro K hK hX)|refine aK [0,2,3,5,6,7,8] ?_|refine eJ ?_|refine stA ?_|(refine aG hK hX ?_;clear hK hX K)|fail)
   rw [ho]
   exact aY
 ·rw [AG aA] at ho
  repeat' (first|(refine aC ?_;intro K hK hX)|refine aK [0,2,3,5,6,7,8] ?_|refine stA ?_|(refine aG hK hX ?_;clear hK hX K)|fail)
  rw [ho]
  exact aY
theorem eA4 (a b:Int):qC' 156 [.sl 1 2 [iv a,iv b]] (.c (iv (orZ [a,b]))) [] 0:=by
 have:=dT4 [a,b] 2 rfl aN
 simpa [dE] using this
theorem eA5 (a b c:Int):qC' 156 [.sl 1 3 [iv a,iv b,iv c]] (.c (iv (orZ [a,b,c]))) [] 0:=by
 have:=dT4 [a,b,c] 3 rfl aN
 simpa [dE] using this
theorem qG (a b:Ver):qC' 92 [.agg [iv a.t,iv a.c,iv a.s],.agg [iv b.t,iv b.c,iv b.s]] (.c (iv (aM8 a b))) [] 0:=by
 obtain ⟨t,c',s⟩:=a
 obtain ⟨t2,c2',s2⟩:=b
 have h1:=tS t t2
 have h2:=tS s s2
 have h3:=tS c' c2'
 have h4:=eA5 (cmpZ t t2) (cmpZ s s2) (cmpZ c' c2')
 unfold aM8
 dsimp only
 generalize cmpZ t t2=x1 at *
 generalize cmpZ s s2=x2 at *
 generalize cmpZ c' c2'=x3 at *
 refine aD aB (sz:=22) Tryz.func92 rfl (by rw [Tryz.ntmps92];rfl) ?_
 repeat' (first|(refine aC ?_;intro K hK hX)|refine fB [0,1,2,3,4] ?_|refine gX ?_|(refine iK ?_;first|refine c0 h1 ?_|refine c0 h2 ?_|refine c0 h3 ?_|refine c0 h4 ?_)|refine stA ?_|refine stE ?_|(refine aG hK hX ?_;clear hK hX K)|fail)
 exact aY
theorem nU (a b:Src):qC' 88 [.agg [iv a.t,iv a.s],.agg [iv b.t,iv b.s]] (.c (iv (aG0 a b))) [] 0:=by
 obtain ⟨t,s⟩:=a
 obtain ⟨t2,s2⟩:=b
 have h1:=tS t t2
 have h2:=tS s s2
 have h4:=eA4 (cmpZ t t2) (cmpZ s s2)
 unfold aG0
 dsimp only
 generalize cmpZ t t2=x1 at *
 generalize cmpZ s s2=x2 at *
 refine aD aB (sz:=17) Tryz.func88 rfl (by rw [Tryz.ntmps88];rfl) ?_
 repeat' (first|(refine aC ?_;intro K hK hX)|refine fB [0,1,2,3,4] ?_|refine gX ?_|(refine iK ?_;first|refine c0 h1 ?_|refine c0 h2 ?_|refine c0 h4 ?_)|refine stA ?_|refine stE ?_|(refine aG hK hX ?_;clear hK hX K)|fail)
 exact aY
end
section
section
variable {α:Type} {lt:α->α->Prop}
theorem dE5 (h:SLO lt) {l:List α} (hl:l.Pairwise lt) {v:α} {m:Nat} (h1:∀x∈l.take m,lt x v) (h2:∀x∈l.drop m,lt v x):insA lt v l=l.take m++v::l.drop m:=by
 refine yG h (uG h v hl) ?_ fun x=>?_
 ·rw [List.pairwise_append]
  refine ⟨hl.sublist (List.take_sublist m l),Bp.2 ⟨h2,hl.sublist (List.drop_sublist m l)⟩,fun a ha b hb=>?_⟩
  rcases A6.1 hb with rfl|hb
  ·exact h1 a ha
  ·exact h.tr _ _ _ (h1 a ha) (h2 b hb)
 ·rw [qZ,Az,A6]
  have e:x∈l↔x∈l.take m\/x∈l.drop m:=by rw [<- Az,B9]
  rw [e]
  constructor
  ·rintro (e|e|e)
   ·exact .inr (.inl e)
   ·exact .inl e
   ·exact .inr (.inr e)
  ·rintro (e|e|e)
   ·exact .inr (.inl e)
   ·exact .inl e
   ·exact .inr (.inr e)
theorem aC2 (h:SLO lt) {l:List α} (hl:l.Pairwise lt) {v:α} (hv:v∈l):insA lt v l=l :=
 yG h (uG h v hl) hl fun x=>by
  rw [qZ]
  exact ⟨fun e=>e.elim (fun e=>e▸hv) id,.inr⟩
end
theorem FolL.init {l:List LEn} {e:LEn} (h:FolL (l++[e])):FolL l/\Fol l e:=by
 constructor
 ·intro i x hx
  have hi:=(Ag.1 hx).1
  have:=h i x (by rw [AL hi];exact hx)
  rw [AD aA] at this
  exact this
 ·have:=h l.length e (by rw [AT (Ah _)];simp)
  rw [Cu] at this
  exact this
theorem FolL.snoc {l:List LEn} {e:LEn} (h:FolL l) (he:Fol l e):FolL (l++[e]):=fun i x hx=>by
 by_cases hi:i<l.length
 ·rw [AL hi] at hx
  rw [AD aA]
  exact h i x hx
 ·have hi2:=(Ag.1 hx).1
  rw [Aa,Ca] at hi2
  obtain rfl:i=l.length:=by omega
  rw [AT (Ah _)] at hx
  have:x=e:=by simpa using hx.symm
  subst this
  rw [Cu]
  exact he
theorem jT (l:List LEn) (e:LEn) (k:Int):nV (l++[e]) k=nV l k+if e.k=k then 1 else 0:=by
 unfold nV
 rw [List.filter_append,Aa]
 congr 1
 by_cases h:e.k=k
 ·rw [Ak h,CF,Ak (AP h)];rfl
 ·rw [Aj h,CF,Aj (by simp [h])];rfl
theorem lW (l:List LEn) (e:LEn) (k p:Int):jZ (l++[e]) k p↔jZ l k p\/(e.k=k/\e.plan=p):=by
 unfold jZ
 constructor
 ·rintro ⟨x,hx,h⟩
  rcases Az.1 hx with hx|hx
  ·exact .inl ⟨x,hx,h⟩
  ·rw [AX.1 hx] at h;exact .inr h
 ·rintro (⟨x,hx,h⟩|h)
  ·exact ⟨x,by simp [hx],h⟩
  ·exact ⟨e,by simp,h⟩
end
theorem aI7:∀(k u:Nat),u<128 ^ (k+1)->(mZ u).length<=k+1
 | 0,u,h=>by rw [kS oW];simp
 | k+1,u,h=>by
  by_cases h1:u<128
  ·rw [kS h1];simp
  ·rw [nC h1,Au]
   have:=aI7 k (u / 128) (by rw [CA] at h;omega)
   omega
theorem cX {n:Int} (h:aT n):(bA n).length<=10:=by
 have h1:=aF9 h.1 h.2
 have h2:zz n<128 ^ (9+1):=Nat.lt_trans h1 aN
 exact aI7 9 _ h2
theorem kM {n:Nat} (h:n<=1000000):(bA (n:Int)).length<=10:=cX ⟨by omega,by omega⟩
theorem aV9 {s:Dm} (h:s.length<=1000000):(mO s).length<=10+s.length:=by
 have:=kM h
 unfold mO
 rw [Aa]
 omega
theorem cK2 {v:Vl} (h:okP v):(lI v).length<=60:=by
 obtain ⟨k,n,t⟩:=v
 unfold lI
 unfold okP at h
 simp only at h ⊢
 rw [Aa]
 have hk:(bA k).length<=10:=cX (by unfold aT;omega)
 split
 ·have:=cX (n:=n) (by unfold aT;omega)
  omega
 ·split
  ·have:=aV9 (s:=t) aA
   omega
  ·simp only [Bt];omega
theorem rW {i:Idf} (h:i.ns.length<=1000):(eA i).length<=1070:=by
 have h1:=aV9 (s:=i.ns) aA
 have h2:=cK2 (aJ5 i.v)
 unfold eA
 rw [Aa]
 omega
theorem wC {α:Type} {e:α->Dm} {m:Nat}:∀{l:List α},(∀x∈l,(e x).length<=m)->(l.flatMap e).length<=l.length*m
 | [],_=>by simp
 | x::l,h=>by
  have h1:=h x aU
  have h2:=wC (l:=l) fun y hy=>h y (by simp [hy])
  rw [A5,Aa,Au,AM,Dl]
  omega
structure LEn.sz (e:LEn):Prop where
 vs:e.vs.length<=1000
 ss:e.ss.length<=1000
 rq:e.rq.who.ns.length<=1000
 la:e.lk.a.ns.length<=1000
 lb:e.lk.b.ns.length<=1000
 hd:e.hd.who.ns.length<=1000
theorem oY {e:LEn} (hw:e.wf) (hk:aT e.k) (hs:e.sz):(cM e).length<=100000:=by
 obtain ⟨a1,a2,a3⟩:=hw.h1
 obtain ⟨b1,b2,b3,b4⟩:=hw.rq
 have c1:=hw.lk
 obtain ⟨d1,d2,d3,d4,d5⟩:=hw.hd
 have e1:=hw.vs
 have e2:=hw.ss
 have f1:=hw.root
 obtain ⟨s1,s2,s3,s4,s5,s6⟩:=hs
 unfold cM
 simp only [Aa]
 have k1:=cX hk
 have k2:=cX a1
 have k3:=cX a2
 have k4:=cX a3
 have k5:(cN e).length<=90000:=by
  unfold cN
  split
  ·unfold kI
   simp only [Aa]
   have:=cX b1
   have:=cX b2
   have:=cX b3
   have:=cX b4
   have:=rW s3
   omega
  ·split
   ·unfold fQ
    simp only [Aa]
    have:=kM (n:=e.vs.length) aA
    have:=kM (n:=e.ss.length) aA
    have:=wC (e:=eB) (m:=30) (l:=e.vs) fun x hx=>by
     obtain ⟨p1,p2,p3⟩:=e1 x hx
     have:=cX p1
     have:=cX p2
     have:=cX p3
     unfold eB
     simp only [Aa]
     omega
    have:=wC (e:=eL) (m:=20) (l:=e.ss) fun x hx=>by
     obtain ⟨p1,p2⟩:=e2 x hx
     have:=cX p1
     have:=cX p2
     unfold eL
     simp only [Aa]
     omega
    omega
   ·split
    ·omega
    ·split
     ·unfold kH
      simp only [Aa]
      have:=cX c1
      have:=rW s4
      have:=rW s5
      have:(bA (if e.lk.rv=true then 1 else 0)).length<=10:=cX (by unfold aT;split<;>omega)
      omega
     ·split
      ·unfold kG
       simp only [Aa]
       have:=cX d1
       have:=cX d2
       have:=cX d3
       have:=cX d4
       have:=cX d5
       have:=rW s6
       omega
      ·simp
 omega
theorem aX7 {e:LEn} (hk:aT e.k) (h:(pEn (cM e)).isSome=true):1<=e.k/\e.k<=7:=by
 unfold pEn cM pIn at h
 rw [dA hk,Al] at h
 by_cases hc:1<=e.k/\e.k<=7
 ·exact hc
 ·simp only [Aj hc,Option.bind_none,Option.isSome_none] at h
  cases h
theorem cO8:∀{b:Dm} {i x:Nat} {p:Nat × Dm},i<=9->x<128 ^ i->pU i x b=some p->p.1<18446744073709551616
 | [],i,x,p,_,_,h=>by rw [pU] at h;cases h
 | c::b,i,x,p,hi,hx,h=>by
  rw [pU] at h
  by_cases hn:(i=9/\1<c.toNat)\/(0<i/\c.toNat=0)
  ·rw [Ak hn] at h;cases h
  ·rw [Aj hn] at h
   by_cases h9:i=9
   ·subst h9
    have hc:c.toNat<=1:=by omega
    rw [Ak aA] at h
    injection h with h
    rw [<- h]
    have:(128:Nat) ^ 9=9223372036854775808:=by decide
    rw [this] at hx ⊢
    simp only
    rcases (show c.toNat=0\/c.toNat=1 by omega) with e|e<;>rw [e]<;>omega
   ·have hp:(128:Nat) ^ (i+1)<=128 ^ 9:=Ce aN aA
    have h9':(128:Nat) ^ 9=9223372036854775808:=by decide
    have hs:(128:Nat) ^ (i+1)=128 ^ i*128:=CA ..
    have hb:∀d:Nat,d<128->x+d*128 ^ i<128 ^ (i+1):=fun d hd=>by
     rw [hs]
     have:d*128 ^ i<=127*128 ^ i:=Bj _ aA
     omega
    by_cases hc:c.toNat<128
    ·rw [Ak hc] at h
     injection h with h
     rw [<- h]
     have:=hb _ hc
     simp only
     omega
    ·rw [Aj hc] at h
     exact cO8 aA (hb _ (CI _ aN)) h
theorem iA {b:Dm} {p:Int × Dm} (h:dH b=some p):aT p.1:=by
 unfold dH at h
 obtain ⟨q,hq,rfl⟩:=Ap.1 h
 have:=cO8 aN aN hq
 unfold aT uz
 simp only
 split<;>omega
theorem aX5 {lo hi:Int} {b:Dm} {p:Int × Dm} (h:pIn lo hi b=some p):aT p.1/\lo<=p.1/\p.1<=hi:=by
 unfold pIn at h
 obtain ⟨q,hq,h⟩:=Ai.1 h
 split at h
 ·rename_i hc
  injection h with h
  rw [<- h]
  exact ⟨iA hq,hc⟩
 ·cases h
theorem cN9 {n:Nat} {b:Dm} {p:Dm × Dm} (h:pBy n b=some p):p.1.length=n:=by
 unfold pBy at h
 split at h
 ·rename_i hc
  injection h with h
  rw [<- h]
  simp only [As]
  omega
 ·cases h
theorem aX4 {b:Dm} {p:Idf × Dm} (h:pId b=some p):p.1.ns.length<=16:=by
 unfold pId pTx at h
 obtain ⟨q,hq,h⟩:=Ai.1 h
 obtain ⟨n,hn,hq⟩:=Ai.1 hq
 obtain ⟨v,hv,rfl⟩:=Ap.1 h
 have:=cN9 hq
 have:=aX5 hn
 simp only
 omega
theorem eM0 {b:Dm} {p:Ver × Dm} (h:pVr b=some p):aT p.1.t/\aT p.1.c/\aT p.1.s:=by
 unfold pVr at h
 obtain ⟨q,hq,h⟩:=Ai.1 h
 obtain ⟨r,hr,h⟩:=Ai.1 h
 obtain ⟨s,hs,rfl⟩:=Ap.1 h
 exact ⟨iA hq,iA hs,iA hr⟩
theorem eL8 {b:Dm} {p:Src × Dm} (h:pSr b=some p):aT p.1.t/\aT p.1.s:=by
 unfold pSr at h
 obtain ⟨q,hq,h⟩:=Ai.1 h
 obtain ⟨s,hs,rfl⟩:=Ap.1 h
 exact ⟨iA hq,iA hs⟩
theorem cO1 {α:Type} {f:Dm->Option (α × Dm)} {Q:α->Prop} (hf:∀{b p},f b=some p->Q p.1):∀{n:Nat} {b:Dm} {p:List α × Dm},tE f n b=some p->p.1.length=n/\∀x∈p.1,Q x
 | 0,b,p,h=>by
  rw [tE] at h
  injection h with h
  rw [<- h]
  exact ⟨rfl,fun x hx=>by simp at hx⟩
 | n+1,b,p,h=>by
  rw [tE] at h
  obtain ⟨q,hq,h⟩:=Ai.1 h
  obtain ⟨s,hs,rfl⟩:=Ap.1 h
  obtain ⟨h1,h2⟩:=cO1 hf hs
  refine ⟨by simp only [Au,h1],fun x hx=>?_⟩
  rcases A6.1 hx with rfl|hx
  ·exact hf hq
  ·exact h2 x hx
theorem dT5 {α:Type} {f:Dm->Option (α × Dm)} {Q:α->Prop} (hf:∀{b p},f b=some p->Q p.1) {m:Int} {b:Dm} {p:List α × Dm} (h:pLs f m b=some p):(p.1.length:Int)<=m/\∀x∈p.1,Q x:=by
 unfold pLs at h
 obtain ⟨q,hq,h⟩:=Ai.1 h
 obtain ⟨h1,h2⟩:=cO1 hf h
 have:=aX5 hq
 exact ⟨by omega,h2⟩
theorem aW8:aT 0:=by unfold aT;omega
theorem cO0 {b:Dm} {p:LEn × Dm} (h:pEn b=some p):p.1.wf/\(1<=p.1.k/\p.1.k<=7)/\p.1.sz:=by
 unfold pEn at h
 obtain ⟨k,hk,h⟩:=Ai.1 h
 obtain ⟨d,hd,h⟩:=Ai.1 h
 obtain ⟨pl,hp,h⟩:=Ai.1 h
 obtain ⟨st,hs,h⟩:=Ai.1 h
 have hk:=(aX5 hk).2
 have hd:=iA hd
 have hp:=iA hp
 have hs:=iA hs
 have z:=aW8
 have zr:root0.length=32:=rfl
 unfold lM at h
 split at h
 ·obtain ⟨x,hx,rfl⟩:=Ap.1 h
  unfold pRq at hx
  obtain ⟨a1,h1,hx⟩:=Ai.1 hx
  obtain ⟨a2,h2,hx⟩:=Ai.1 hx
  obtain ⟨a3,h3,hx⟩:=Ai.1 hx
  obtain ⟨a4,h4,hx⟩:=Ai.1 hx
  obtain ⟨a5,h5,rfl⟩:=Ap.1 hx
  have:=aX4 h2
  exact ⟨⟨⟨hd,hp,hs⟩,⟨iA h1,iA h3,iA h4,iA h5⟩,z,⟨z,z,z,z,z⟩,fun v hv=>by simp at hv,fun v hv=>by simp at hv,zr⟩,hk,⟨Am _,Am _,by simp only;omega,Am _,Am _,Am _⟩⟩
 ·split at h
  ·obtain ⟨v,hv,h⟩:=Ai.1 h
   obtain ⟨x,hx,rfl⟩:=Ap.1 h
   obtain ⟨v1,v2⟩:=dT5 (Q:=fun p:Ver=>aT p.t/\aT p.c/\aT p.s) eM0 hv
   obtain ⟨x1,x2⟩:=dT5 (Q:=fun p:Src=>aT p.t/\aT p.s) eL8 hx
   exact ⟨⟨⟨hd,hp,hs⟩,⟨z,z,z,z⟩,z,⟨z,z,z,z,z⟩,v2,x2,zr⟩,hk,⟨by simp only;omega,by simp only;omega,Am _,Am _,Am _,Am _⟩⟩
  ·split at h
   ·obtain ⟨x,hx,rfl⟩:=Ap.1 h
    exact ⟨⟨⟨hd,hp,hs⟩,⟨z,z,z,z⟩,z,⟨z,z,z,z,z⟩,fun v hv=>by simp at hv,fun v hv=>by simp at hv,cN9 hx⟩,hk,⟨Am _,Am _,Am _,Am _,Am _,Am _⟩⟩
   ·split at h
    ·obtain ⟨x,hx,rfl⟩:=Ap.1 h
     unfold pLk at hx
     obtain ⟨a1,h1,hx⟩:=Ai.1 hx
     obtain ⟨a2,h2,hx⟩:=Ai.1 hx
     obtain ⟨a3,h3,hx⟩:=Ai.1 hx
     obtain ⟨a4,h4,rfl⟩:=Ap.1 hx
     have:=aX4 h1
     have:=aX4 h2
     exact ⟨⟨⟨hd,hp,hs⟩,⟨z,z,z,z⟩,iA h3,⟨z,z,z,z,z⟩,fun v hv=>by simp at hv,fun v hv=>by simp at hv,zr⟩,hk,⟨Am _,Am _,Am _,by simp only;omega,by simp only;omega,Am _⟩⟩
    ·split at h
     ·obtain ⟨x,hx,rfl⟩:=Ap.1 h
      unfold pHd at hx
      obtain ⟨a1,h1,hx⟩:=Ai.1 hx
      obtain ⟨a2,h2,hx⟩:=Ai.1 hx
      obtain ⟨a3,h3,hx⟩:=Ai.1 hx
      obtain ⟨a4,h4,hx⟩:=Ai.1 hx
      obtain ⟨a5,h5,hx⟩:=Ai.1 hx
      obtain ⟨a6,h6,rfl⟩:=Ap.1 hx
      have:=aX4 h3
      exact ⟨⟨⟨hd,hp,hs⟩,⟨z,z,z,z⟩,z,⟨iA h1,iA h2,iA h4,iA h5,iA h6⟩,fun v hv=>by simp at hv,fun v hv=>by simp at hv,zr⟩,hk,⟨Am _,Am _,Am _,Am _,Am _,by simp only;omega⟩⟩
     ·injection h with h
      rw [<- h]
      exact ⟨⟨⟨hd,hp,hs⟩,⟨z,z,z,z⟩,z,⟨z,z,z,z,z⟩,fun v hv=>by simp at hv,fun v hv=>by simp at hv,zr⟩,hk,⟨Am _,Am _,Am _,Am _,Am _,Am _⟩⟩
end Go.Proofs.YtbgehdndimlgkaaGreat
namespace Go.Av
open Go Go.RowKit Go.MapKept
def dZ2:TK->Value->Prop
 | .bool,.bool _=>True
 | .int k,.int k' _=>k'=k
 | .str,.string _=>True
 | _,_=>False
def eP3 (t:TK) (es:List (CV × AV)):Prop:=∀p∈es,∃x,p.1 = .v x/\dZ2 t x
def MAt (k:Value) (v:AV):List (CV × AV)->Nat->Prop
 | [],_=>False
 | e::_,0=>e.1 = .v k/\e.2=v
 | e::es,j+1=>e.1 ≠ .v k/\MAt k v es j
def MNo (k:Value) (es:List (CV × AV)):Prop:=∀p∈es,p.1 ≠ .v k
theorem RepM.length {C:Cx}:∀{es:List (CV × AV)} {ms:List MapEntry},RepM C es ms->ms.length=es.length
 | [],ms,h=>by
  have:ms=[]:=h
  subst this;rfl
 | e::es,ms,h=>by
  obtain ⟨m,ms',rfl,_,_,h3⟩:=h
  rw [Au,Au,RepM.length h3]
theorem RepM.push {C:Cx} {a:CV} {b:AV} {m:MapEntry} (ha:RepC C.ok C.w a m.key) (hb:Rep C b m.val):∀{es:List (CV × AV)} {ms:List MapEntry},RepM C es ms->RepM C (es++[(a,b)]) (ms++[m])
 | [],ms,h=>by
  have:ms=[]:=h
  subst this
  exact ⟨m,[],rfl,ha,hb,rfl⟩
 | e::es,ms,h=>by
  obtain ⟨m',ms',rfl,h1,h2,h3⟩:=h
  exact ⟨m',ms'++[m],rfl,h1,h2,RepM.push ha hb h3⟩
theorem RepM.set {C:Cx} {a:CV} {b:AV} {m:MapEntry} (ha:RepC C.ok C.w a m.key) (hb:Rep C b m.val):∀{es:List (CV × AV)} {ms:List MapEntry} (j:Nat),RepM C es ms->RepM C (es.set j (a,b)) (ms.set j m)
 | [],ms,j,h=>by
  have:ms=[]:=h
  subst this
  cases j<;>rfl
 | e::es,ms,0,h=>by
  obtain ⟨m',ms',rfl,h1,h2,h3⟩:=h
  exact ⟨m,ms',rfl,ha,hb,h3⟩
 | e::es,ms,j+1,h=>by
  obtain ⟨m',ms',rfl,h1,h2,h3⟩:=h
  exact ⟨m',ms'.set j m,rfl,h1,h2,RepM.set ha hb j h3⟩
theorem TyOk.mapK {P:Dv} {t:Du} {e:TyE} (h:TyOk P t e) {k x:Du} (hk:e.kind = .map k x):P.underlying t=some (.map k x):=by
 obtain ⟨d,hd,hk'⟩:=h.und
 rw [hk] at hk'
 cases d<;>simp [aG4] at hk'
 obtain ⟨rfl,rfl⟩:=hk';exact hd
section
variable {P:Dv} {tab:Tab} {ev:Evl} {h:aO} {d:Dt} {T ty:Du} {x y z:Operand} {pos:String} {aft:Ds} {gd:Dn} {i id:Nat} {es:List (CV × AV)}
theorem aP6 {B:Bs} {dom:Nat->Prop} {M:Nat->Dz} {H:Nat->Option AObj} {w:World} {g:Nat} (hh:∀id o,lk h id=some o->dom id->H id=some o) (hc:ConcH B dom M H w) (ho:lk h id=some (.tab es)) (hd:dom id) (hM:M id=some g):∃ms t,w.heap[g]? = some (.map ms t)/\Stamped ms t/\RepM ⟨dom,M,bF B dom M H,w⟩ es ms.toList:=by
 obtain ⟨k,ms,t,e1,hb,hs,hr⟩:=hc.obj id _ hd (hh id _ ho hd)
 rw [hM] at e1
 injection e1 with e1
 subst e1
 exact ⟨ms,t,hb,hs,hr⟩
theorem aG6 {r:Option Operand} (hr:r=none):Adds P ⟨d,.makeMap T r,ty,pos,aft,gd⟩ ev h (.mh i) [(i,.tab [])] i (i+1):=by
 subst hr
 refine iO rfl fun B dom M H w a hh hc he=>⟨.map (some w.heap.size),w.alloc (.map #[] 0),some w.heap.size,by simp [execOp,Instr.makeMap,newObj,Sem.run,Result.andThen],fP _ _,fun g hg=>by injection hg with hg;omega,fun C hext hw hd hM=>⟨⟨w.heap.size,#[],0,rfl,?_,stamped_empty 0,rfl⟩,hd,w.heap.size,hM,rfl⟩⟩
 rw [hw];exact heap_alloc_new w _
theorem eC7 {e:TyE} {K E:Du} (tb:bQ P tab) (hT:aS tab T=some e) (hk:e.kind = .map K E) (hx:ev x=some (.mh id)) (ho:lk h id=some (.tab es)):Still P ⟨d,.call ⟨.builtin .len,#[x],#[T]⟩,ty,pos,aft,gd⟩ ev h (.c (.v (.int .i64 es.length))):=by
 intro B dom M H w a hh hc he
 have h1:=he x _ hx
 simp only [Rep] at h1
 obtain ⟨hid,g,hM,hp⟩:=h1
 obtain ⟨ms,t,hb,hs,hr⟩:=aP6 hh hc ho hid hM
 refine ⟨.int .i64 es.length,?_,by simp only [Rep,RepC]⟩
 have hl:=hr.length
 rw [A9] at hl
 simp [execOp,resolve,invoke,builtin,Builtin.len_,hp,run_underlying ((aM tb hT).mapK hk),Go.MapKept.run_getObj_map hb,goInt,hl]
end
section
variable {P:Dv} {tab:Tab} {sz n:Nat} {env:Env} {h:aO} {dfs:cD} {K:AK} {ops:Dq} {rest:Dp} {T ty:Du} {x y z:Operand} {pos:String} {aft:Ds} {gd:Dn} {id:Nat} {es es':List (CV × AV)}
end
end Go.Av
namespace Go.Av
open Go Go.RowKit
def eW5 (l:List (Dm)):D1:=l.map fun s => .v (.string ⟨s.toArray⟩)
end Go.Av
namespace Go.Av
open Go Go.RowKit Go.MapKept
section
mutual
theorem AV.mp_id {b:Nat} {σ:Nat->Nat} (h:∀i,i<b->σ i=i):∀x:AV,x.ltB b=true->x.mp σ=x
 | .c x,_=>rfl
 | .ip cs off,_=>rfl
 | .junk,_=>rfl
 | .ref id off,hl=>by simp only [AV.ltB,AJ] at hl;simp only [AV.mp,h id hl]
 | .own id off n size full,hl=>by simp only [AV.ltB,AJ] at hl;simp only [AV.mp,h id hl]
 | .agg xs,hl=>by simp only [AV.ltB] at hl;simp only [AV.mp,AV.mps_id h xs hl]
 | .tup xs,hl=>by simp only [AV.ltB] at hl;simp only [AV.mp,AV.mps_id h xs hl]
 | .fn f xs,hl=>by simp only [AV.ltB] at hl;simp only [AV.mp,AV.mps_id h xs hl]
 | .yld id,hl=>by simp only [AV.ltB,AJ] at hl;simp only [AV.mp,h id hl]
 | .mh id,hl=>by simp only [AV.ltB,AJ] at hl;simp only [AV.mp,h id hl]
 | .bm f id,hl=>by simp only [AV.ltB,AJ] at hl;simp only [AV.mp,h id hl]
theorem AV.mps_id {b:Nat} {σ:Nat->Nat} (h:∀i,i<b->σ i=i):∀xs:D2,AV.ltBs b xs=true->AV.mps σ xs=xs
 | [],_=>rfl
 | x::xs,hl=>by
  simp only [AV.ltBs,Ar] at hl
  simp only [AV.mps,AV.mp_id h x hl.1,AV.mps_id h xs hl.2]
end
mutual
theorem AV.ltB_mono {b N:Nat} (h:b<=N):∀x:AV,x.ltB b=true->x.ltB N=true
 | .c x,_=>rfl
 | .ip cs off,_=>rfl
 | .junk,_=>rfl
 | .ref id off,hl=>by simp only [AV.ltB,AJ] at hl ⊢;omega
 | .own id off n size full,hl=>by simp only [AV.ltB,AJ] at hl ⊢;omega
 | .agg xs,hl=>by simp only [AV.ltB] at hl ⊢;exact AV.ltBs_mono h xs hl
 | .tup xs,hl=>by simp only [AV.ltB] at hl ⊢;exact AV.ltBs_mono h xs hl
 | .fn f xs,hl=>by simp only [AV.ltB] at hl ⊢;exact AV.ltBs_mono h xs hl
 | .yld id,hl=>by simp only [AV.ltB,AJ] at hl ⊢;omega
 | .mh id,hl=>by simp only [AV.ltB,AJ] at hl ⊢;omega
 | .bm f id,hl=>by simp only [AV.ltB,AJ] at hl ⊢;omega
theorem AV.ltBs_mono {b N:Nat} (h:b<=N):∀xs:D2,AV.ltBs b xs=true->AV.ltBs N xs=true
 | [],_=>rfl
 | x::xs,hl=>by
  simp only [AV.ltBs,Ar] at hl ⊢
  exact ⟨AV.ltB_mono h x hl.1,AV.ltBs_mono h xs hl.2⟩
end
def one (q n0 id:Nat):Nat:=if id=q then n0 else id
theorem one_ne {q n0 id:Nat} (h:id≠q):one q n0 id=id:=by simp [one,h]
abbrev Sub:=Value × Nat × D1
def eO5 (size b:Nat):Nat->List Sub->List (CV × AV)
 | _,[]=>[]
 | j,s::L=>(.v s.1,.own (j+b) 0 s.2.1 size true)::eO5 size b (j+1) L
def eO4 (T:Du) (b:Nat):Nat->List Sub->aO
 | _,[]=>[]
 | j,s::L=>(j+b,.row T s.2.2)::eO4 T b (j+1) L
def eW6 (size:Nat) (L:List Sub):List (CV × AV):=L.map fun s=>(.v s.1,.c (.sl size s.2.1 s.2.2))
section
variable {T:Du} {size b:Nat}
end
def eW8 (T:Du) (size b m:Nat) (L:List Sub):aO:=(m,.tab (eO5 size b 0 L))::eO4 T b 0 L
section
variable {T:Du} {size b m:Nat} {L:List Sub}
end
section
variable {P:Dv} {tab:Tab} {ev:Evl} {h:aO} {d:Dt} {T ty:Du} {x y z:Operand} {pos:String} {aft:Ds} {gd:Dn} {i id:Nat} {es:List (CV × AV)}
end
end
section
def eW7 (L:List (Value × CV)):List (CV × AV):=L.map fun s=>(.v s.1,.c s.2)
section
variable {P:Dv} {tab:Tab} {ev:Evl} {h:aO} {d:Dt} {T ty:Du} {x y z:Operand} {pos:String} {aft:Ds} {gd:Dn} {i id:Nat} {es:List (CV × AV)}
theorem eC6 {e:TyE} {K E:Du} {m:Nat} (tb:bQ P tab) (hT:aS tab T=some e) (hk:e.kind = .map K E) (hx:ev x=some (.mh id)) (ho:lk h id=some (.tab es)) (hm:es.length=m):Still P ⟨d,.call ⟨.builtin .len,#[x],#[T]⟩,ty,pos,aft,gd⟩ ev h (.c (.v (.int .i64 m))):=by
 subst hm
 exact eC7 tb hT hk hx ho
end
section
variable {P:Dv} {sz n:Nat} {env:Env} {h:aO} {dfs:cD} {K:AK} {ops:Dq} {rest:Dp} {d:Dt} {T ty:Du} {x y z:Operand} {pos:String} {aft:Ds} {gd:Dn} {b:Bool}
theorem aP0 (hh:AWL P ops sz (⟨d,.mapUpdate T x y z,ty,pos,aft,gd⟩::rest) K n env h dfs):AWL P ops sz (⟨d,.mapUpdate T x y z,ty,pos,aft,gd⟩::rest) K n env h dfs:=hh
theorem cM7 {r:Option Operand} (hh:AWL P ops sz (⟨d,.makeMap T r,ty,pos,aft,gd⟩::rest) K n env h dfs):AWL P ops sz (⟨d,.makeMap T r,ty,pos,aft,gd⟩::rest) K n env h dfs:=hh
end
end
section
structure KeyT (P:Dv) (K:Du) (κ:Type) where
 kc:κ->CV
 kv:κ->Value
 ok:κ->Prop
 inj:∀a b,ok a->ok b->kv a=kv b->a=b
 rep:∀(ok':Nat->Prop) (w:World) (a:κ) (u:Value),RepC ok' w (kc a) u->u=kv a
 repv:∀(ok':Nat->Prop) (w:World) (a:κ),RepC ok' w (kc a) (kv a)
 check:∀(w:World) (em:Bool) (a:κ),ok a->(Instr.checkKey em 10000 K (kv a)).run P w = .ok () w
 find:∀(w:World) (a:κ),ok a->∀es:List MapEntry,(∀e∈es,∃b,ok b/\e.key=kv b)->((Instr.findKey K (kv a) es).run P w = .ok none w/\∀e∈es,e.key≠kv a)\/∃j e,(Instr.findKey K (kv a) es).run P w = .ok (some (j,e.val)) w/\es[j]? = some e/\e.key=kv a
 stays:∀(w:World) (a:κ),ok a->(Instr.keyThatStays (kv a) (kv a)).run P w = .ok (kv a) w
abbrev cI0:CV := .v (.bool true)
def aI {κ:Type} (kc:κ->CV) (ks:List κ):List (CV × AV):=ks.map fun k=>(kc k,.c cI0)
def pC {κ:Type} [DecidableEq κ] (ks:List κ) (k:κ):List κ:=if k∈ks then ks else ks++[k]
theorem uH {κ:Type} [DecidableEq κ] {ks:List κ} {k x:κ}:x∈pC ks k↔x∈ks\/x=k:=by
 unfold pC
 split
 ·rename_i h
  exact ⟨.inl,fun h'=>h'.elim (fun h=>h) fun e=>e▸h⟩
 ·simp
theorem dO {κ:Type} {kc:κ->CV} {N:Nat} {L:List κ}:(AObj.tab (aI kc L)).ltB N=true:=by simp [AObj.ltB,aI,AV.ltB]
theorem setT_mp {κ:Type} {kc:κ->CV} {σ:Nat->Nat} {L:List κ}:AObj.tab (aI kc L)=(AObj.tab (aI kc L)).mp σ:=by
 simp only [AObj.mp,aI,BT]
 congr 1
theorem bA7 {κ:Type} (kc:κ->CV) (L:List κ):(aI kc L).length=L.length:=Bm _
section
variable {P:Dv} {K:Du} {κ:Type} {C:Cx}
theorem sL (kt:KeyT P K κ):∀{ks:List κ} {ms:List MapEntry},RepM C (aI kt.kc ks) ms->ms.map (fun m=>(m.key,m.val))=ks.map fun k=>(kt.kv k,Value.bool true)
 | [],ms,h=>by
  have:ms=[]:=h
  subst this;rfl
 | k::ks,ms,h=>by
  obtain ⟨m,ms',rfl,h1,h2,h3⟩:=h
  rw [AH,AH,sL kt h3,kt.rep _ _ _ _ h1]
  simp only [Rep,RepC] at h2
  rw [h2]
section
variable (kt:KeyT P K κ) {ks:List κ} {ms:List MapEntry} (h:RepM C (aI kt.kc ks) ms)
include kt ks ms h
theorem bA8 {m:MapEntry} (hm:m∈ms):∃k∈ks,m.key=kt.kv k/\m.val = .bool true:=by
 have e:=sL kt h
 have:(m.key,m.val)∈ks.map fun k=>(kt.kv k,Value.bool true):=e▸BG.2 ⟨m,hm,rfl⟩
 obtain ⟨k,hk,he⟩:=BG.1 this
 injection he with e1 e2
 exact ⟨k,hk,e1.symm,e2.symm⟩
theorem bR4 {j:Nat} {m:MapEntry} (hm:ms[j]? = some m):∃k,ks[j]? = some k/\m.key=kt.kv k/\m.val = .bool true:=by
 have e:=congrArg (fun l=>l[j]?) (sL kt h)
 simp only [Bv,hm,Bh] at e
 cases hk:ks[j]? with
 | none=>rw [hk] at e;cases e
 | some k =>
  rw [hk] at e
  injection e with e
  injection e with e1 e2
  exact ⟨k,rfl,e1,e2⟩
theorem aK9 {k:κ} (hk:k∈ks):∃m∈ms,m.key=kt.kv k:=by
 have e:=sL kt h
 have:(kt.kv k,Value.bool true)∈ms.map fun m=>(m.key,m.val):=e▸BG.2 ⟨k,hk,rfl⟩
 obtain ⟨m,hm,he⟩:=BG.1 this
 injection he with e1 e2
 exact ⟨m,hm,e1⟩
end
end
section
variable {P:Dv} {tab:Tab} {ev:Evl} {h:aO} {d:Dt} {T ty:Du} {x y z:Operand} {pos:String} {aft:Ds} {gd:Dn} {i id:Nat} {κ:Type} [DecidableEq κ] {K E:Du} {ks:List κ} {k:κ} {e:TyE}
section
variable (kt : KeyT P K κ) (tb : bQ P tab) (hT : aS tab T = some e) (hk : e.kind = .map K E) (hz : ∀ w, (zeroValue E).run P w = .ok (.bool false) w) (hx : ev x = some (.mh id)) (ho : lk h id = some (.tab (aI kt.kc ks))) (hy : ev y = some (.c (kt.kc k))) (hok : kt.ok k) (hoks : ∀ q ∈ ks, kt.ok q)
include kt tb hT hk hz hx ho hy hok hoks
theorem bA3 :
    Still P ⟨d, .lookup T x y false, ty, pos, aft, gd⟩ ev h (.c (.v (.bool (decide (k ∈ ks))))) := by
  intro B dom M H w a hh hc he
  have h1 := he x _ hx
  have h2 := he y _ hy
  have h2 := kt.rep _ _ _ _ h2
  simp only [Rep] at h1
  obtain ⟨hid, g, hM, hp⟩ := h1
  obtain ⟨ms, t, hb, hs, hr⟩ := aP6 hh hc ho hid hM
  have hck := kt.check w ms.isEmpty k hok
  have hzr := hz
  have hent : ∀ m ∈ ms.toList, ∃ b, kt.ok b /\ m.key = kt.kv b := fun m hm => by
    obtain ⟨b, hb1, hb2, _⟩ := bA8 kt hr hm
    exact ⟨b, hoks b hb1, hb2⟩
  refine ⟨.bool (decide (k ∈ ks)), ?_, by simp only [Rep, RepC]⟩
  rcases kt.find w k hok ms.toList hent with ⟨f1, f2⟩ | ⟨j, m, f1, f2, f3⟩
  · have hn : k ∉ ks := fun hin => by
      obtain ⟨m, hm, e⟩ := aK9 kt hr hin
      exact f2 m hm e
    simp [execOp, Instr.lookup, hp, h2, run_underlying ((aM tb hT).mapK hk), Go.MapKept.run_getObj_map hb, hck, f1, hzr, hn]
  · obtain ⟨b, hb1, hb2, hb3⟩ := bR4 kt hr f2
    have hbk : b ∈ ks := Af hb1
    have : b = k := kt.inj _ _ (hoks b hbk) hok (hb2.symm.trans f3)
    subst this
    simp [execOp, Instr.lookup, hp, h2, run_underlying ((aM tb hT).mapK hk), Go.MapKept.run_getObj_map hb, hck, f1, hb3, hbk]
theorem rP (hm : k ∈ ks) :
    Still P ⟨d, .lookup T x y false, ty, pos, aft, gd⟩ ev h (.c (.v (.bool true))) := by
  have := bA3 (d := d) (ty := ty) (pos := pos) (aft := aft) (gd := gd) kt tb hT hk hz hx ho hy hok hoks
  rwa [AP hm] at this
theorem pO (hm : k ∉ ks) :
    Still P ⟨d, .lookup T x y false, ty, pos, aft, gd⟩ ev h (.c (.v (.bool false))) := by
  have := bA3 (d := d) (ty := ty) (pos := pos) (aft := aft) (gd := gd) kt tb hT hk hz hx ho hy hok hoks
  rwa [Bi hm] at this
end
omit [DecidableEq κ] in
theorem bA4 {m:Nat} {kc:κ->CV} (tb:bQ P tab) (hT:aS tab T=some e) (hk:e.kind = .map K E) (hx:ev x=some (.mh id)) (ho:lk h id=some (.tab (aI kc ks))) (hm:ks.length=m):Still P ⟨d,.call ⟨.builtin .len,#[x],#[T]⟩,ty,pos,aft,gd⟩ ev h (.c (.v (.int .i64 m))) :=
 eC6 tb hT hk hx ho (by rw [bA7,hm])
theorem cJ5 (kt : KeyT P K κ) (tb : bQ P tab) (hT : aS tab T = some e) (hk : e.kind = .map K E) (hx : ev x = some (.mh id)) (ho : lk h id = some (.tab (aI kt.kc ks))) (hy : ev y = some (.c (kt.kc k))) (hz : ev z = some (.c cI0)) (hok : kt.ok k) (hoks : ∀ q ∈ ks, kt.ok q) :
    bY P ⟨none, .mapUpdate T x y z, ty, pos, aft, gd⟩ ev h .junk [] (some (id, some (.tab (aI kt.kc (pC ks k))))) i i := by
  intro B dom M H w a K' Q hh hn c1 he hK'
  have h1 := he x _ hx
  have h2 := he y _ hy
  have h2 := kt.rep _ _ _ _ h2
  have h3 := he z _ hz
  simp only [Rep, RepC] at h1 h3
  obtain ⟨hid, g, hM, hp⟩ := h1
  obtain ⟨ms, t, hb, hs, hr⟩ := aP6 hh c1 ho hid hM
  have hck := kt.check w false k hok
  have hent : ∀ m ∈ ms.toList, ∃ b, kt.ok b /\ m.key = kt.kv b := fun m hm => by
    obtain ⟨b, hb1, hb2, _⟩ := bA8 kt hr hm
    exact ⟨b, hoks b hb1, hb2⟩
  have fin : ∀ (ms' : Array MapEntry) (t' : Nat), Stamped ms' t' -> (∀ C, RepM C (aI kt.kc ks) ms.toList -> RepM C (aI kt.kc (pC ks k)) ms'.toList) ->
      (execOp a.eval ⟨none, .mapUpdate T x y z, ty, pos, aft, gd⟩).run P w = .ok .skip { w with heap := w.heap.setIfInBounds g (.map ms' t') } -> Oper.wp P ⟨none, .mapUpdate T x y z, ty, pos, aft, gd⟩ a w K' Q := by
    intro ms' t' hst hrm hrun
    obtain ⟨q1, q2⟩ := heap_set (o' := .map ms' t') hb
    unfold Oper.wp
    rw [hrun, Oper.upon_skip]
    obtain ⟨k1, k2⟩ := c1.turnE (o' := .tab (aI kt.kc (pC ks k))) (w' := { w with heap := w.heap.setIfInBounds g (.map ms' t') }) hid (hh _ _ ho hid) hM rfl rfl rfl aU (fun k hk => q2 k hk) (by unfold World.shape?; simp only [q1, hb])
      (fun hext => ⟨g, _, _, rfl, q1, hst, hrm _ (RepM.ext hext _ _ hr)⟩)
    rw [dY] at hK'
    exact aU5
  rcases kt.find w k hok ms.toList hent with ⟨f1, f2⟩ | ⟨j, m, f1, f2, f3⟩
  · have hn : k ∉ ks := fun hin => by
      obtain ⟨m, hm, e⟩ := aK9 kt hr hin
      exact f2 m hm e
    have hset := Go.MapKept.run_setObj_map (P := P) (.map (ms.push { key := kt.kv k, val := .bool true, born := t }) (t + 1)) hb
    refine fin (ms.push { key := kt.kv k, val := .bool true, born := t }) (t + 1) (stamped_push hs f2) (fun C hC => ?_) ?_
    · rw [Array.toList_push, pC, Aj hn, aI, Dj]
      exact RepM.push (kt.repv _ _ k) (by simp only [Rep, RepC]) hC
    · simp [execOp, Instr.mapUpdate, hp, h2, h3, run_underlying ((aM tb hT).mapK hk), Go.MapKept.run_getObj_map hb, hck, f1, hset]
  · obtain ⟨b, hb1, hb2, hb3⟩ := bR4 kt hr f2
    have hbk : b ∈ ks := Af hb1
    have : b = k := kt.inj _ _ (hoks b hbk) hok (hb2.symm.trans f3)
    subst this
    have f2' : ms[j]? = some m := by rw [<- BZ]; exact f2
    have hst := kt.stays w b hok
    have hset := Go.MapKept.run_setObj_map (P := P) (.map (ms.modify j fun e => { e with key := kt.kv b, val := .bool true }) t) hb
    have hls : ms.modify j (fun e => { e with key := kt.kv b, val := .bool true }) = ms := by
      apply Array.ext'
      apply Cp
      intro q
      rw [BZ, CC, BZ]
      by_cases hq : j = q
      · subst hq
        rw [Ak rfl, f2']
        obtain ⟨mk, mv, mb⟩ := m
        simp only at f3 hb3
        subst f3 hb3
        rfl
      · rw [Aj hq]
    refine fin ms t hs (fun C hC => by rw [pC, Ak hbk]; exact hC) ?_
    rw [hls] at hset
    simp [execOp, Instr.mapUpdate, hp, h2, h3, run_underlying ((aM tb hT).mapK hk), Go.MapKept.run_getObj_map hb, hck, f1, f2', f3, hst, hls, hset]
end
section
variable {P:Dv} {tab:Tab} {sz n i n0 m:Nat} {env env0:Env} {h h0 hr:aO} {dfs:cD} {K:AK} {ops:Dq} {l rest:Dp} {es:List Eat} {ids:Dr} {T ty:Du} {x y z:Operand} {pos:String} {aft:Ds} {gd:Dn} {id:Nat} {κ:Type} [DecidableEq κ] {K1 E:Du} {ks:List κ} {k:κ} {e:TyE}
theorem oU (kt : KeyT P K1 κ) (tb : bQ P tab) (hg : guardA ops env ⟨none, .mapUpdate T x y z, ty, pos, aft, gd⟩ true) (hT : aS tab T = some e) (hk : e.kind = .map K1 E) (hx : evA env x = some (.mh id)) (ho : lk h id = some (.tab (aI kt.kc ks))) (hy : evA env y = some (.c (kt.kc k))) (hz : evA env z = some (.c cI0)) (hok : kt.ok k) (hoks : ∀ q ∈ ks, kt.ok q)
    (next : AWL P ops sz rest K n env ((id, .tab (aI kt.kc (pC ks k))) :: h) dfs) : AWL P ops sz (⟨none, .mapUpdate T x y z, ty, pos, aft, gd⟩ :: rest) K n env h dfs :=
  lP (v := .junk) (c := some (id, some (AObj.tab (aI kt.kc (pC ks k))))) (Δ := []) hg rfl (Ah _) rfl (cJ5 kt tb hT hk hx ho hy hz hok hoks) (fun id h1 h2 => by omega) aU next
end
end
def dZ7 {P:Dv} {K:Du} (hd:P.underlying K=some (.int .i64)):KeyT P K Int where
 kc n := .v (.int .i64 n)
 kv n := .int .i64 n
 ok _:=True
 inj a b _ _ h:=by injection h
 rep ok' w a u h:=by simpa only [RepC] using h
 repv ok' w a:=by simp only [RepC]
 check w em a _:=run_checkKey hd (show IsKey (.int .i64) (.int .i64 a) from rfl) em 9999
 find w a _ es hes:=by
  rcases findNow_spec (d := .int .i64) (k := .int .i64 a) rfl es 0 (fun x hx=>by obtain ⟨b,_,hb⟩:=hes x hx;rw [hb];rfl) with ⟨h1,h2⟩|⟨j,e,h1,h2,h3⟩
  ·exact .inl ⟨run_findKey hd h1,h2⟩
  ·exact .inr ⟨j,e,by rw [Aq] at h1;exact run_findKey hd h1,h2,h3⟩
 stays w a _:=run_keyThatStays (d := .int .i64) rfl
def wF (P:Dv) (K I n:Nat):Bool:=match P.underlying K with
 | some (.struct fs) => fs.all fun f => f.name != "_" && (Nat.beq f.type I && Nat.blt f.offset n)
 | some (.array m e)=>Nat.beq e I&&Nat.beq m n
 | _=>false
theorem yL {α β:Type} {g:α->Option β}:∀{L:List α},(∀x∈L,∃y,g x=some y)->∃ys,L.mapM g=some ys
 | [],_=>⟨[],rfl⟩
 | x::L,h=>by
  obtain ⟨y,hy⟩:=h x aU
  obtain ⟨ys,hys⟩:=yL (L:=L) fun z hz=>h z (by simp [hz])
  exact ⟨y::ys,by simp [Ct,hy,hys]⟩
def dU4 (n:Int):Prop := -9223372036854775808<=n/\n<=9223372036854775807
theorem pF {P : Dv} {K I n : Nat} (hs : wF P K I n = true) (hI : P.underlying I = some (.int .i64)) (hsI : P.cellsOf I = 1) (hsK : P.cellsOf K = n) (hk : P.keyType K = true) (hsz : 1 <= P.types.size) (vs : List Int) (hl : vs.length = n) (hv : ∀ v ∈ vs, dU4 v) :
    ∃ l, keyOf P K (.agg (vs.map fun v => Value.int .i64 v).toArray) = some l := by
  obtain ⟨d, hd⟩ : ∃ d, P.types.size = d + 1 := ⟨P.types.size - 1, by omega⟩
  have hcl : (vs.map fun v => Value.int .i64 v).length = n := by rw [Bm, hl]
  have hone : ∀ i, i < n -> ∃ l, P.keyLits (d + 1) I (((vs.map fun v => Value.int .i64 v).drop i).take 1) = some l := fun i hi => by
    obtain ⟨v, hv'⟩ : ∃ v, vs[i]? = some v := ⟨_, Ab aA⟩
    obtain ⟨b1, b2⟩ := hv v (Af hv')
    have e : ((vs.map fun v => Value.int .i64 v).drop i).take 1 = [.int .i64 v] := by
      have h1 : (vs.map fun v => Value.int .i64 v)[i]? = some (.int .i64 v) := by rw [Bv, hv']; rfl
      obtain ⟨h2, h3⟩ := Ag.1 h1
      rw [B6 h2, BH, C9, h3]
    rw [e]
    refine ⟨[.int .i64 v], ?_⟩
    have hw : (Lit.int .i64 v).wf = true := by
      have e1 : IntKind.i64.min = -9223372036854775808 := by decide
      have e2 : IntKind.i64.max = 9223372036854775807 := by decide
      simp only [Lit.wf, e1, e2, Bq, Ar]
      omega
    simp [Program.keyLits, hI, hw]
  have key : ∀ L, (P.keyLits (P.types.size + 1) K (vs.map fun v => Value.int .i64 v)) = some L -> (Value.agg (vs.map fun v => Value.int .i64 v).toArray).formed P K = true -> (match P.underlying K with | some (.array _ _) | some (.struct _) => true | _ => false) = true -> ∃ l, keyOf P K (.agg (vs.map fun v => Value.int .i64 v).toArray) = some l := fun L h1 h2 h3 => by
    unfold keyOf
    split at h3
    · rename_i h; rw [h]; simp [hk, h2, Value.cells, h1]
    · rename_i h; rw [h]; simp [hk, h2, Value.cells, h1]
    · cases h3
  unfold wF at hs
  split at hs
  · rename_i fs hu
    rw [CQ] at hs
    have hf : ∀ f ∈ fs, (f.name != "_") = true ∧ f.type = I ∧ f.offset < n := fun f hf => by
      have := hs f hf
      simp only [Ar, AJ] at this
      exact ⟨this.1, Ae this.2.1, this.2.2⟩
    obtain ⟨ys, hys⟩ := yL (L := fs.toList) (g := fun f => P.keyLits (d + 1) f.type (((vs.map fun v => Value.int .i64 v).drop f.offset).take (P.cellsOf f.type))) fun f hfm => by
      obtain ⟨_, h2, h3⟩ := hf f (Array.mem_def.2 hfm)
      rw [h2, hsI]
      exact hone _ h3
    refine key ys.flatten ?_ ?_ ?_
    · rw [hd]
      unfold Program.keyLits
      rw [hu]
      simp only
      rw [Ak ⟨by rw [hcl, hsK], by rw [CQ]; exact fun f hfm => (hf f hfm).1⟩, hys]
      rfl
    · simp [Value.formed, hu, hsK, hl]
    · rw [hu]
  · rename_i m e hu
    simp only [Ar] at hs
    have he := Ae hs.1
    have hm := Ae hs.2
    subst he hm
    obtain ⟨ys, hys⟩ := yL (L := List.range m) (g := fun i => P.keyLits (d + 1) e (((vs.map fun v => Value.int .i64 v).drop (i * P.cellsOf e)).take (P.cellsOf e))) fun i hi => by
      rw [hsI, A8]
      exact hone i (AA.1 hi)
    refine key ys.flatten ?_ ?_ ?_
    · rw [hd]
      unfold Program.keyLits
      rw [hu]
      simp only
      rw [Ak (by rw [hcl, hsK]), hys]
      rfl
    · simp [Value.formed, hu, hsK, hl]
    · rw [hu]
  · cases hs
def aP2 {P:Dv} {K I n:Nat} {κ:Type} (law:WideMaps.KeyLaw P K) (hs:wF P K I n=true) (hI:P.underlying I=some (.int .i64)) (hsI:P.cellsOf I=1) (hsK:P.cellsOf K=n) (hk:P.keyType K=true) (hsz:Nat.ble 1 P.types.size=true) (ls:κ->List Int) (hl:∀a,(ls a).length=n) (hi:∀a b,ls a=ls b->a=b):KeyT P K κ where
 kc a := .agg ((ls a).map fun v => .v (.int .i64 v))
 kv a := .agg ((ls a).map fun v=>Value.int .i64 v).toArray
 ok a:=∀v∈ls a,dU4 v
 inj a b _ _ h:=by
  refine hi a b ?_
  injection h with h
  have h:=congrArg Array.toList h
  simp only [Ci] at h
  exact List.map_inj_right (fun x y e=>by injection e) |>.1 h
 rep ok' w a u h:=by
  have h:∃us:Do,u = .agg us.toArray/\RepCs ok' w ((ls a).map fun v=>CV.v (.int .i64 v)) us/\∀x∈us,x.oneCell'=true:=by simpa only [RepC] using h
  obtain ⟨us,rfl,h,_⟩:=h
  congr 2
  have:∀(l:List Int) (us:Do),RepCs ok' w (l.map fun v=>CV.v (.int .i64 v)) us->us=l.map fun v=>Value.int .i64 v:=by
   intro l
   induction l with
   | nil=>intro us h;exact h
   | cons x l ih =>
    intro us h
    obtain ⟨u,us',rfl,h1,h2⟩:=h
    simp only [RepC] at h1
    rw [h1,ih us' h2]
    rfl
  exact this _ _ h
 repv ok' w a:=by
  have:RepC ok' w (.agg ((ls a).map fun v=>CV.v (.int .i64 v))) (.agg ((ls a).map fun v=>Value.int .i64 v).toArray)↔∃us:Do,Value.agg ((ls a).map fun v=>Value.int .i64 v).toArray = .agg us.toArray/\RepCs ok' w ((ls a).map fun v=>CV.v (.int .i64 v)) us/\∀x∈us,x.oneCell'=true:=by simp only [RepC]
  refine this.2 ⟨_,rfl,?_,fun x hx=>?_⟩
  ·generalize ls a=l
   induction l with
   | nil=>rfl
   | cons x l ih=>exact ⟨_,_,rfl,by simp only [RepC],ih⟩
  ·obtain ⟨v,_,rfl⟩:=BG.1 hx
   rfl
 check w em a ha:=by
  obtain ⟨l,hl'⟩:=pF hs hI hsI hsK hk (A7 hsz) (ls a) (hl a) ha
  exact law.check w em hl'
 find w a ha es hes:=by
  obtain ⟨l,hl'⟩:=pF hs hI hsI hsK hk (A7 hsz) (ls a) (hl a) ha
  exact law.find w hl' es fun e he=>by
   obtain ⟨b,hb1,hb2⟩:=hes e he
   rw [hb2]
   exact pF hs hI hsI hsK hk (A7 hsz) (ls b) (hl b) hb1
 stays w a ha:=by
  obtain ⟨l,hl'⟩:=pF hs hI hsI hsK hk (A7 hsz) (ls a) (hl a) ha
  exact law.stays w hl'
end Go.Av
namespace Go.Av
open Go Go.RowKit
inductive LfK where
 | b
 | i (q:Dw)
 | s
def nE (P:Dv):Nat->Du->List LfK
 | 0,_=>[]
 | m+1,t=>match P.underlying t with
  | some .bool=>[.b]
  | some (.int q)=>[.i q]
  | some .string=>[.s]
  | some (.array n e)=>(List.range n).flatMap fun _=>nE P m e
  | some (.struct fs)=>fs.toList.flatMap fun f=>nE P m f.type
  | _=>[]
def eJ6:LfK->Value->Prop
 | .b,.bool _=>True
 | .i q,.int q' n=>q'=q/\(Lit.int q n).wf=true
 | .s,.string s=>s.size<=maxLen
 | _,_=>False
def LfL:List LfK->Do->Prop
 | [],[]=>True
 | k::ks,v::vs=>eJ6 k v/\LfL ks vs
 | _,_=>False
theorem LfL.length:∀{ks:List LfK} {vs:Do},LfL ks vs->ks.length=vs.length
 | [],[],_=>rfl
 | k::ks,v::vs,h=>by simp [LfL.length h.2]
 | [],_::_,h=>h.elim
 | _::_,[],h=>h.elim
theorem LfL.split:∀{p q:List LfK} {vs:Do},LfL (p++q) vs->LfL p (vs.take p.length)/\LfL q (vs.drop p.length)
 | [],q,vs,h=>by simpa [LfL] using h
 | a::p,q,[],h=>h.elim
 | a::p,q,v::vs,h=>by
  obtain ⟨h1,h2⟩:=LfL.split (p:=p) h.2
  exact ⟨⟨h.1,h1⟩,h2⟩
variable {P:Dv}
theorem aZ5:∀(fs:List Field) (off tot:Nat),P.runs off fs=some tot->off+(fs.map fun f=>P.cellsOf f.type).sum=tot
 | [],off,tot,h=>by simpa [Program.runs] using h
 | f::r,off,tot,h=>by
  simp only [Program.runs] at h
  split at h
  ·have:=aZ5 r _ _ h
   simp only [AH,CX]
   omega
  ·cases h
theorem aB9 {α:Type} {f:α->List LfK}:∀l:List α,(l.flatMap f).length=(l.map fun x=>(f x).length).sum
 | []=>rfl
 | x::l=>by rw [A5,Aa,aB9 l,AH,CX]
theorem aL3 {c:Nat}:∀l:Dr,(l.map fun _=>c).sum=l.length*c
 | []=>by simp
 | x::l=>by rw [AH,CX,aL3 l,Au,AM,Dl,CP]
def aG2 (P:Dv):Nat->Du->Bool
 | 0,_=>true
 | m+1,t=>match P.underlying t with
  | some .bool|some (.int _)|some .string=>Nat.beq (P.cellsOf t) 1
  | some (.array _ e)=>aG2 P m e
  | some (.struct fs)=>fs.all fun f=>aG2 P m f.type
  | _=>true
theorem lY:∀(m:Nat) (t:Du),P.tiled m t=true->aG2 P m t=true->(nE P m t).length=P.cellsOf t
 | 0,t,h,_=>by simp [Program.tiled] at h
 | m+1,t,h,ho=>by
  unfold Program.tiled at h
  unfold aG2 at ho
  unfold nE
  cases hu:P.underlying t with
  | none=>simp [hu] at h
  | some kd =>
   cases kd
   case bool=>simp only [hu] at ho;exact (Ae ho).symm
   case int q=>simp only [hu] at ho;exact (Ae ho).symm
   case string=>simp only [hu] at ho;exact (Ae ho).symm
   case array n e =>
    simp only [hu,Ar,Df] at h ho
    simp only
    rw [aB9,lY m e h.2 ho,aL3,C6,h.1]
   case struct fs =>
    simp only [hu,Ar,Df] at h ho
    simp only
    rw [aB9]
    have h1:=aZ5 _ _ _ h.1
    rw [Aq] at h1
    rw [<- h1]
    congr 1
    refine List.map_congr_left fun f hf=>?_
    exact lY m f.type (Bn.1 h.2 f (BQ.1 hf)) (Bn.1 ho f (BQ.1 hf))
   all_goals (simp [hu] at h;done)
theorem xK {g:Field->List LfK} {D:Nat} (cs:Do):∀(fs:List Field) (off tot:Nat),P.runs off fs=some tot->(∀f∈fs,(g f).length=P.cellsOf f.type)->(∀f∈fs,∀vs,LfL (g f) vs->∃l,P.keyLits D f.type vs=some l)->LfL (fs.flatMap g) (cs.drop off)->∃ys,fs.mapM (fun f=>P.keyLits D f.type ((cs.drop f.offset).take (P.cellsOf f.type)))=some ys
 | [],off,tot,_,_,_,_=>⟨[],rfl⟩
 | f::r,off,tot,h,hl,hk,hL=>by
  simp only [Program.runs] at h
  split at h
  ·rename_i ho
   rw [A5] at hL
   obtain ⟨h1,h2⟩:=hL.split
   rw [hl f aU] at h1 h2
   rw [BR] at h2
   obtain ⟨y,hy⟩:=hk f aU _ h1
   obtain ⟨ys,hys⟩:=xK cs r _ tot h (fun f hf=>hl f (by simp [hf])) (fun f hf=>hk f (by simp [hf])) h2
   exact ⟨y::ys,by rw [Ct,ho,hy,hys];rfl⟩
  ·cases h
theorem aC5 {ks:List LfK} {D c:Nat} {e:Du} (hc:ks.length=c) (hk:∀vs,LfL ks vs->∃l,P.keyLits D e vs=some l) (cs:Do):∀(n j:Nat),LfL ((List.range n).flatMap fun _=>ks) (cs.drop (j*c))->∀i,i<n->∃l,P.keyLits D e ((cs.drop ((j+i)*c)).take c)=some l
 | 0,j,_,i,hi=>by omega
 | n+1,j,hL,i,hi=>by
  rw [List.range_succ_eq_map,A5,List.flatMap_map] at hL
  obtain ⟨h1,h2⟩:=hL.split
  rw [hc] at h1 h2
  cases i with
  | zero=>rw [Ck];exact hk _ h1
  | succ i =>
   rw [BR,show j*c+c=(j+1)*c by rw [AM,Dl]] at h2
   rw [show j+(i+1)=j+1+i by omega]
   exact aC5 hc hk cs n (j+1) h2 i aA
theorem lR:∀(m:Nat) (t:Du),P.tiled m t=true->P.keyTypeAt m t=true->aG2 P m t=true->∀vs,LfL (nE P m t) vs->∃l,P.keyLits m t vs=some l
 | 0,t,h,_,_,_,_=>by simp [Program.tiled] at h
 | m+1,t,h,hk,ho,vs,hL=>by
  have hlen:=lY (m+1) t h ho
  have hvl:=hL.length
  unfold Program.tiled at h
  unfold Program.keyTypeAt at hk
  unfold aG2 at ho
  unfold nE at hL hlen hvl
  unfold Program.keyLits
  cases hu:P.underlying t with
  | none=>simp [hu] at h
  | some kd =>
   cases kd
   case bool =>
    simp only [hu] at hL
    match vs,hL with
    | [.bool b],_=>exact ⟨_,rfl⟩
   case int q =>
    simp only [hu] at hL
    match vs,hL with
    | [.int q' n],hL=>exact ⟨_,Ak hL.1⟩
   case string =>
    simp only [hu] at hL
    match vs,hL with
    | [.string s],hL=>exact ⟨_,Ak hL.1⟩
   case array n e =>
    simp only [hu,Ar,Df] at h hk ho hL hlen hvl
    obtain ⟨ys,hys⟩:=yL (L:=List.range n) (g:=fun i=>P.keyLits m e ((vs.drop (i*P.cellsOf e)).take (P.cellsOf e))) fun i hi=>by
     have:=aC5 (lY m e h.2 ho) (fun vs hv=>lR m e h.2 hk ho vs hv) vs n 0 (by simpa using hL) i (AA.1 hi)
     rwa [Aq] at this
    simp only
    rw [Ak aA,hys]
    exact ⟨_,rfl⟩
   case struct fs =>
    simp only [hu,Ar,Df] at h hk ho hL hlen hvl
    have ht:=fun f (hf:f∈fs.toList)=>Bn.1 h.2 f (BQ.1 hf)
    have hof:=fun f (hf:f∈fs.toList)=>Bn.1 ho f (BQ.1 hf)
    have hkf:=fun f (hf:f∈fs.toList)=>by
     have:=Bn.1 hk.1.1 f (BQ.1 hf)
     exact CJ.1 this
    obtain ⟨ys,hys⟩:=xK (D:=m) vs fs.toList 0 _ h.1 (fun f hf=>lY m f.type (ht f hf) (hof f hf)) (fun f hf vs hv=>lR m f.type (ht f hf) (hkf f hf).2 (hof f hf) vs hv) (by simpa using hL)
    simp only
    rw [Ak ⟨by omega,Bn.2 fun f hf=>(hkf f (BQ.2 hf)).1⟩,hys]
    exact ⟨_,rfl⟩
   all_goals (simp [hu] at h;done)
def bC6 (P:Dv) (t:Du):Bool:=match P.underlying t with
 | some (.array _ _)|some (.struct _)=>true
 | _=>false
section
variable {m:Nat} {t:Du} (hm:Nat.ble m 10000=true) (ht:P.tiled m t=true) (hk:P.keyTypeAt m t=true) (ho:aG2 P m t=true) (hw:bC6 P t=true) {xs ys:Do} (hx:LfL (nE P m t) xs) (hy:LfL (nE P m t) ys) (w:World) {r:Bool} (hr:r=true↔xs=ys)
include m t hm ht hk ho hw xs ys hx hy w r hr
theorem aD8:(Op.equalIn 10000 t (.agg xs.toArray) (.agg ys.toArray)).run P w = .ok r w:=by
 have hm:m<=10000:=by simpa using hm
 obtain ⟨lx,h1⟩:=lR m t ht hk ho xs hx
 obtain ⟨ly,h2⟩:=lR m t ht hk ho ys hy
 have fm:∀vs:Do,LfL (nE P m t) vs->(Value.agg vs.toArray).formed P t=true:=fun vs hv=>by
  have hl:=hv.length
  rw [lY m t ht ho] at hl
  unfold bC6 at hw
  unfold Value.formed
  split at hw
  ·rename_i hu;simp [hu,hl]
  ·rename_i hu;simp [hu,hl]
  ·cases hw
 obtain ⟨r',hr',hiff⟩:=run_equalIn_deep (10000-m) m t hk w m m (.agg xs.toArray) (.agg ys.toArray) lx ly (fm xs hx) (fm ys hy) (by simpa [Value.cells] using h1) (by simpa [Value.cells] using h2)
 rw [show 10000-m+m=10000 by omega] at hr'
 rw [hr']
 have e1:=cells_of_lits m t ht m _ _ h1
 have e2:=cells_of_lits m t ht m _ _ h2
 have h3:lx=ly↔xs=ys:=⟨fun h=>by rw [e1,e2,h],fun h=>by rw [h,h2] at h1;injection h1 with h1;exact h1.symm⟩
 have:r'=r:=Dg.2 (hiff.trans (h3.trans hr.symm))
 rw [this]
theorem cS1:(binOp .eql t (.agg xs.toArray) (.agg ys.toArray)).run P w = .ok (.bool r) w:=by
 rw [run_eql_struct,aD8 hm ht hk ho hw hx hy w hr];rfl
theorem cS3:(binOp .neq t (.agg xs.toArray) (.agg ys.toArray)).run P w = .ok (.bool (!r)) w:=by
 rw [run_neq_struct,aD8 hm ht hk ho hw hx hy w hr];rfl
end
section
variable {ev:Evl} {h:aO} {d:Dt} {T ty:Du} {x y:Operand} {pos:String} {aft:Ds} {gd:Dn} {ks:List LfK} {m:Nat} {xs ys:Do} {cs cs':D1} {b:Bool} {T':Du} (hg:P.eqGuardType P.depth T=false) (hm:Nat.ble m 10000=true) (ht:P.tiled m T=true) (hk:P.keyTypeAt m T=true) (ho:aG2 P m T=true) (hw:bC6 P T=true) (hL:nE P m T=ks) (hx:ev x=some (.c (.agg cs))) (hy:ev y=some (.c (.agg cs'))) (hcx:cs=xs.map CV.v) (hcy:cs'=ys.map CV.v) (hlx:LfL ks xs) (hly:LfL ks ys)
include hg hm ht hk ho hw hL hx hy hcx hcy hlx hly
theorem pM (hb:b=true↔xs=ys):Still P ⟨d,.binOp .eql T x y T',ty,pos,aft,gd⟩ ev h (.c (.v (.bool b))):=by
 intro B dom M H w a hh hc he
 have h1:=he x _ hx
 have h2:=he y _ hy
 subst hcx hcy hL
 simp only [Rep,RepC] at h1 h2
 obtain ⟨us,h1,h3,_⟩:=h1
 obtain ⟨vs,h2,h4,_⟩:=h2
 have h3:=RepCs.of_plain h3
 have h4:=RepCs.of_plain h4
 subst h3 h4
 refine ⟨_,?_,rfl⟩
 have:=cS1 hm ht hk ho hw hlx hly w hb
 simp only [execOp,h1,h2,Sem.run_bind,sB (P:=P) w hg,Result.andThen_ok,this]
 rfl
theorem bI6 (hb:b=true↔xs=ys):Still P ⟨d,.binOp .neq T x y T',ty,pos,aft,gd⟩ ev h (.c (.v (.bool (!b)))):=by
 intro B dom M H w a hh hc he
 have h1:=he x _ hx
 have h2:=he y _ hy
 subst hcx hcy hL
 simp only [Rep,RepC] at h1 h2
 obtain ⟨us,h1,h3,_⟩:=h1
 obtain ⟨vs,h2,h4,_⟩:=h2
 have h3:=RepCs.of_plain h3
 have h4:=RepCs.of_plain h4
 subst h3 h4
 refine ⟨_,?_,rfl⟩
 have:=cS3 hm ht hk ho hw hlx hly w hb
 simp only [execOp,h1,h2,Sem.run_bind,sB (P:=P) w hg,Result.andThen_ok,this]
 rfl
end
end Go.Av
