/-
  Lemmas for laws of the ledger; no statement of a law.
-/
import Derived.MapKept
import Derived.DeepKeys3
import Derived.Test.YtbgehdndimlgkaaGreatQ9
set_option maxHeartbeats 16000000
set_option linter.unusedSimpArgs false
set_option linter.unusedVariables false
namespace Go.Proofs.YtbgehdndimlgkaaGreat
open Go Go.RowKit Go.Av
set_option maxRecDepth 100000
def vrc (l:List Ver):List CV:=l.flatMap fun v=>[iv v.t,iv v.c,iv v.s]
def src (l:List Src):List CV:=l.flatMap fun v=>[iv v.t,iv v.s]
theorem yP {α:Type} {f:α→List CV} {k:Nat} (h:∀a,(f a).length=k):∀l:List α,(l.flatMap f).length=l.length*k
 | []=>by simp
 | a::l=>by rw [List.flatMap_cons,List.length_append,h,yP h l,List.length_cons,Nat.add_mul,Nat.one_mul,Nat.add_comm]
theorem aH9 {α:Type} {f:α→List CV} {k:Nat} (h:∀a,(f a).length=k):∀{l:List α} {i:Nat} {a:α},l[i]? = some a→((l.flatMap f).drop (i*k)).take k=f a
 | [],i,a,e=>by simp at e
 | b::l,0,a,e=>by
  simp only [List.getElem?_cons_zero,Option.some.injEq] at e
  subst e
  rw [Nat.zero_mul,List.drop_zero,List.flatMap_cons,List.take_append_of_le_length (by rw [h];exact Nat.le_refl _),List.take_of_length_le (by rw [h];exact Nat.le_refl _)]
 | b::l,i+1,a,e=>by
  rw [List.flatMap_cons,List.drop_append,h,List.drop_of_length_le (by rw [h,Nat.add_mul];omega),List.nil_append,show (i+1)*k-k=i*k by rw [Nat.add_mul];omega]
  exact aH9 h (by simpa using e)
theorem eA (l:List Ver):(vrc l).length=l.length*3:=yP (f:=fun v:Ver=>[iv v.t,iv v.c,iv v.s]) (k:=3) (fun _=>rfl) l
theorem fH (l:List Src):(src l).length=l.length*2:=yP (f:=fun v:Src=>[iv v.t,iv v.s]) (k:=2) (fun _=>rfl) l
theorem iP {l:List Ver} {i:Nat} {v:Ver} (h:l[i]? = some v):((vrc l).drop (i*3)).take 3=[iv v.t,iv v.c,iv v.s]:=aH9 (f:=fun v:Ver=>[iv v.t,iv v.c,iv v.s]) (k:=3) (fun _=>rfl) h
theorem iO {l:List Src} {i:Nat} {v:Src} (h:l[i]? = some v):((src l).drop (i*2)).take 2=[iv v.t,iv v.s]:=aH9 (f:=fun v:Src=>[iv v.t,iv v.s]) (k:=2) (fun _=>rfl) h
attribute [local irreducible] Still Adds AWL AW Drw bT bW AC AWR cL Frz Go.Av.Src dC Out InK ItK AsK RdK eI eE ACT ACA eL
attribute [local simp] bQ bL bD
theorem kI {α β:Type} {f:α→List β} {l:List α} {i:Nat} {a:α} (h:l[i]? = some a):(l.take (i+1)).flatMap f=(l.take i).flatMap f++f a:=by
 rw [List.take_add_one,h,List.flatMap_append];simp
theorem tA {α β:Type} {f:α→List β} (l:List α) (i:Nat):((l.take i).flatMap f).length≤(l.flatMap f).length:=by
 conv=>rhs;rw [← List.take_append_drop i l]
 rw [List.flatMap_append,List.length_append]
 omega
theorem rA {α β:Type} {f:α→List β} (h:∀a,0<(f a).length):∀l:List α,l.length≤(l.flatMap f).length
 | []=>by simp
 | a::l=>by
  have:=rA h l
  have:=h a
  rw [List.flatMap_cons,List.length_append,List.length_cons]
  omega
theorem aD5 (v:Ver):0<(dM v).length:=by
 have:=kP (zz v.t)
 unfold dM aS
 simp only [List.length_append]
 omega
theorem aD3 (v:Src):0<(dQ v).length:=by
 have:=kP (zz v.t)
 unfold dQ aS
 simp only [List.length_append]
 omega
theorem aV0 (L:List UInt8) (m:Nat) (hL:L.length=m) (l:List Ver) (n:Nat) (hn:l.length=n) (hl:∀v∈l,aQ v.t∧aQ v.c∧aQ v.s) (m':Nat) (hm':(L++eW dM l).length=m') (hb:m'≤1000000):ACA Tryz.prog 170 5 1 m (u8c L) [.sl 3 n (vrc l)] (u8c (L++eW dM l)) m':=by
 have hul:=u8l hL
 have hul3:=u8l hm'
 have hvl:(vrc l).length=n*3:=by rw [eA,hn]
 have hge:=rA aD5 l
 have hle:=tA (f:=dM) l
 obtain ⟨X,hX⟩:∃X,L++aS n=X:=⟨_,rfl⟩
 obtain ⟨j,hj⟩:∃j,X.length=j:=⟨_,rfl⟩
 have e:L++eW dM l=X++l.flatMap dM:=by rw [← hX,eW,List.append_assoc,hn]
 have hjm:j+(l.flatMap dM).length=m':=by rw [← hm',← hj,e,List.length_append]
 have i1:=tG L m hL n ⟨by omega,by omega⟩ j kF aA
 rw [hX] at i1
 rw [e] at hm' hul3 ⊢
 have hulx:=u8l hj
 refine dN aB (sz:=29) Tryz.func170 rfl (by rw [Tryz.ntmps170];rfl) (bI _) ?_
 repeat' (first|(refine aC ?_;intro K hK hX)|refine dF8 ?_|(refine aH hK hX ?_;clear hK hX K)|fail)
 refine cD 2 (fun p:Nat × List UInt8 × Nat=>[(0,.own 1 0 p.2.2 1 true),(12,.c (.sl 3 n (vrc l))),(13,.c (iv n)),(14,.c (iv p.1))]) (fun p=>[(1,.row 5 (u8c p.2.1))]) [(none,[.own 0 0 m 1 true])] (fun p=>p.1≤n∧p.2.1.length=p.2.2∧p.2.1=X++(l.take p.1).flatMap dM) (fun p=>n-p.1) (0,X,j) ⟨by omega,hj,by simp⟩ dU ?_
 rintro ⟨i,q,w⟩ ⟨hi,hql,hq⟩ K hK hX
 dsimp only at hi hql hq hK ⊢
 have hulq:=u8l hql
 by_cases hlt:i<n
 ·obtain ⟨v,hat⟩:∃v,l[i]? = some v:=⟨_,List.getElem?_eq_getElem aA⟩
  obtain ⟨v1,v2,v3⟩:=hl v (List.mem_of_getElem? hat)
  have hx:=iP hat
  have hst:q++dM v=X++(l.take (i+1)).flatMap dM:=by rw [hq,kI hat,List.append_assoc]
  have hmo:=hle (i+1)
  obtain ⟨t,c,s⟩:=v
  simp only at v1 v2 v3 hx
  have e3:dM ⟨t,c,s⟩=aS t++(aS s++aS c):=by rw [dM,List.append_assoc]
  obtain ⟨w',hw'⟩:∃w',(q++dM ⟨t,c,s⟩).length=w':=⟨_,rfl⟩
  have hwb:w'≤m':=by rw [← hw',hst,List.length_append,hj];omega
  have i2:=cF9 q w hql t s c v1 v3 v2 w' aH5 aA
  rw [← e3,hst] at i2
  rw [hst] at hw'
  generalize X++(l.take (i+1)).flatMap dM=q' at i2 hw' hst
  repeat' (first|(refine aC ?_;intro K hK hX)|refine dF5 ?_|(refine aH hK hX ?_;clear hK hX K)|fail)
  exact ⟨(i+1,q',w'),⟨by omega,hw',by rw [← hst,hq,kI hat,List.append_assoc]⟩,by simp only;omega,dH0⟩
 ·have hin:i=n:=by omega
  have hq':q=X++l.flatMap dM:=by rw [hq,List.take_of_length_le aA]
  have hwm:w=m':=by rw [← hql,hq',hm']
  repeat' (first|(refine aC ?_;intro K hK hX)|refine aL [0,1,4,6,12,13,14] ?_|refine stA ?_|(refine aH hK hX ?_;clear hK hX K)|fail)
  rw [← hq',← hwm]
  exact jZ
theorem bC1 (L:List UInt8) (m:Nat) (hL:L.length=m) (l:List Src) (n:Nat) (hn:l.length=n) (hl:∀v∈l,aQ v.t∧aQ v.s) (m':Nat) (hm':(L++eW dQ l).length=m') (hb:m'≤1000000):ACA Tryz.prog 169 5 1 m (u8c L) [.sl 2 n (src l)] (u8c (L++eW dQ l)) m':=by
 have hul:=u8l hL
 have hul3:=u8l hm'
 have hvl:(src l).length=n*2:=by rw [fH,hn]
 have hge:=rA aD3 l
 have hle:=tA (f:=dQ) l
 obtain ⟨X,hX⟩:∃X,L++aS n=X:=⟨_,rfl⟩
 obtain ⟨j,hj⟩:∃j,X.length=j:=⟨_,rfl⟩
 have e:L++eW dQ l=X++l.flatMap dQ:=by rw [← hX,eW,List.append_assoc,hn]
 have hjm:j+(l.flatMap dQ).length=m':=by rw [← hm',← hj,e,List.length_append]
 have i1:=tG L m hL n ⟨by omega,by omega⟩ j kF aA
 rw [hX] at i1
 rw [e] at hm' hul3 ⊢
 have hulx:=u8l hj
 refine dN aB (sz:=27) Tryz.func169 rfl (by rw [Tryz.ntmps169];rfl) (bI _) ?_
 repeat' (first|(refine aC ?_;intro K hK hX)|refine dF8 ?_|(refine aH hK hX ?_;clear hK hX K)|fail)
 refine cD 2 (fun p:Nat × List UInt8 × Nat=>[(0,.own 1 0 p.2.2 1 true),(12,.c (.sl 2 n (src l))),(13,.c (iv n)),(14,.c (iv p.1))]) (fun p=>[(1,.row 5 (u8c p.2.1))]) [(none,[.own 0 0 m 1 true])] (fun p=>p.1≤n∧p.2.1.length=p.2.2∧p.2.1=X++(l.take p.1).flatMap dQ) (fun p=>n-p.1) (0,X,j) ⟨by omega,hj,by simp⟩ dU ?_
 rintro ⟨i,q,w⟩ ⟨hi,hql,hq⟩ K hK hX
 dsimp only at hi hql hq hK ⊢
 have hulq:=u8l hql
 by_cases hlt:i<n
 ·obtain ⟨v,hat⟩:∃v,l[i]? = some v:=⟨_,List.getElem?_eq_getElem aA⟩
  obtain ⟨v1,v3⟩:=hl v (List.mem_of_getElem? hat)
  have hx:=iO hat
  have hst:q++dQ v=X++(l.take (i+1)).flatMap dQ:=by rw [hq,kI hat,List.append_assoc]
  have hmo:=hle (i+1)
  obtain ⟨t,s⟩:=v
  simp only at v1 v3 hx
  have e3:dQ ⟨t,s⟩=aS t++aS s:=rfl
  obtain ⟨w',hw'⟩:∃w',(q++dQ ⟨t,s⟩).length=w':=⟨_,rfl⟩
  have hwb:w'≤m':=by rw [← hw',hst,List.length_append,hj];omega
  have i2:=cF8 q w hql t s v1 v3 w' aH5 aA
  rw [← e3,hst] at i2
  rw [hst] at hw'
  generalize X++(l.take (i+1)).flatMap dQ=q' at i2 hw' hst
  repeat' (first|(refine aC ?_;intro K hK hX)|refine dF5 ?_|(refine aH hK hX ?_;clear hK hX K)|fail)
  exact ⟨(i+1,q',w'),⟨by omega,hw',by rw [← hst,hq,kI hat,List.append_assoc]⟩,by simp only;omega,dH0⟩
 ·have hin:i=n:=by omega
  have hq':q=X++l.flatMap dQ:=by rw [hq,List.take_of_length_le aA]
  have hwm:w=m':=by rw [← hql,hq',hm']
  repeat' (first|(refine aC ?_;intro K hK hX)|refine aL [0,1,4,6,12,13,14] ?_|refine stA ?_|(refine aH hK hX ?_;clear hK hX K)|fail)
  rw [← hq',← hwm]
  exact jZ
end Go.Proofs.YtbgehdndimlgkaaGreat
namespace Go.Proofs.YtbgehdndimlgkaaGreat
open Go Go.RowKit Go.Av
set_option maxRecDepth 100000
def cmpZ (a b:Int):Int:=if a<b then -1 else if b<a then 1 else 0
def orZ:List Int→Int
 | []=>0
 | x::l=>if x=0 then orZ l else x
def aG9 (a b:Ver):Int:=orZ [cmpZ a.t b.t,cmpZ a.s b.s,cmpZ a.c b.c]
def aA6 (a b:Src):Int:=orZ [cmpZ a.t b.t,cmpZ a.s b.s]
theorem lR (a b:Int):(cmpZ a b<0↔a<b)∧(cmpZ a b=0↔a=b) ∧ -1≤cmpZ a b∧cmpZ a b≤1:=by
 unfold cmpZ
 by_cases h:a<b
 ·rw [if_pos h];omega
 ·rw [if_neg h]
  by_cases h2:b<a
  ·rw [if_pos h2];omega
  ·rw [if_neg h2];omega
theorem nU (a b:Ver):aG9 a b<0↔ltV a b:=by
 have h1:=lR a.t b.t
 have h2:=lR a.s b.s
 have h3:=lR a.c b.c
 unfold aG9 orZ ltV
 by_cases e1:cmpZ a.t b.t=0
 ·rw [if_pos e1]
  unfold orZ
  by_cases e2:cmpZ a.s b.s=0
  ·rw [if_pos e2]
   unfold orZ
   by_cases e3:cmpZ a.c b.c=0
   ·rw [if_pos e3];unfold orZ;omega
   ·rw [if_neg e3];omega
  ·rw [if_neg e2];omega
 ·rw [if_neg e1];omega
theorem qT (a b:Src):aA6 a b<0↔ltS a b:=by
 have h1:=lR a.t b.t
 have h2:=lR a.s b.s
 unfold aA6 orZ ltS
 by_cases e1:cmpZ a.t b.t=0
 ·rw [if_pos e1]
  unfold orZ
  by_cases e2:cmpZ a.s b.s=0
  ·rw [if_pos e2];unfold orZ;omega
  ·rw [if_neg e2];omega
 ·rw [if_neg e1];omega
attribute [local irreducible] Still Adds AWL AW Drw bT bW AC AWR cL Frz Go.Av.Src dC Out InK ItK AsK RdK eI eE ACT ACA eL
theorem cH0 (a:Int):AC Tryz.prog 197 [iv a] (.c (bv false)) [] 0:=by
 refine aF aB (sz:=6) Tryz.func197 rfl (by rw [Tryz.ntmps197];rfl) ?_
 repeat' (first|(refine aC ?_;intro K hK hX)|refine aL [0,2] ?_|(((with_reducible refine bP ?_);refine xA ?_);(first|((with_reducible refine bS ?_);(first|refine aJ (jL rfl rfl rfl (decide_eq_false (fun h=>h rfl))) ?_))))|refine stA ?_|(refine aH hK hX ?_;clear hK hX K)|fail)
 exact bB
theorem sS (a b:Int):AC Tryz.prog 157 [iv a,iv b] (.c (iv (cmpZ a b))) [] 0:=by
 have h1:=cH0 a
 have h2:=cH0 b
 unfold cmpZ
 by_cases d1:a<b
 ·rw [if_pos d1]
  refine aF aB (sz:=20) Tryz.func157 rfl (by rw [Tryz.ntmps157];rfl) ?_
  repeat' (first|(refine aC ?_;intro K hK hX)|refine bX9 ?_|(refine aH hK hX ?_;clear hK hX K)|fail)
  exact bB
 ·rw [if_neg d1]
  by_cases d2:b<a
  ·rw [if_pos d2]
   refine aF aB (sz:=20) Tryz.func157 rfl (by rw [Tryz.ntmps157];rfl) ?_
   repeat' (first|(refine aC ?_;intro K hK hX)|refine bX9 ?_|(refine aH hK hX ?_;clear hK hX K)|fail)
   exact bB
  ·rw [if_neg d2]
   refine aF aB (sz:=20) Tryz.func157 rfl (by rw [Tryz.ntmps157];rfl) ?_
   repeat' (first|(refine aC ?_;intro K hK hX)|refine bX9 ?_|(refine aH hK hX ?_;clear hK hX K)|fail)
   exact bB
theorem dL7 (l:List Int) (n:Nat) (hn:l.length=n) (hb:n≤1000):AC Tryz.prog 156 [.sl 1 n (jU .i64 l)] (.c (iv (orZ l))) [] 0:=by
 have hil:(jU .i64 l).length=n:=by rw [pO,hn]
 refine aF aB (sz:=18) Tryz.func156 rfl (by rw [Tryz.ntmps156];rfl) ?_
 repeat' (first|(refine aC ?_;intro K hK hX)|refine aL [0,2,3,5,6,7,8] ?_|refine stA ?_|(refine aH hK hX ?_;clear hK hX K)|fail)
 refine cN [8] [] rfl rfl (fun i:Nat=>[(8,.c (iv i))]) (fun i=>[]) (fun i=>i≤n∧orZ l=orZ (l.drop i)) (fun i=>n-i) 0 ⟨Nat.zero_le _,rfl⟩ dU ?_
 rintro i ⟨hi,ho⟩ K hK hX
 by_cases hlt:i<n
 ·obtain ⟨x,hat⟩:∃x,l[i]? = some x:=⟨_,List.getElem?_eq_getElem aA⟩
  have hx:(jU .i64 l)[i]? = some (iv x):=by simp [jU,hat]
  have hdr:l.drop i=x::l.drop (i+1):=by
   obtain ⟨h1,h2⟩:=List.getElem?_eq_some_iff.1 hat
   rw [List.drop_eq_getElem_cons h1,h2]
  rw [hdr,orZ] at ho
  by_cases h0:x=0
  ·rw [if_pos h0] at ho
   repeat' (first|(refine aC ?_;intro K hK hX)|refine aL [0,2,3,5,6,7,8] ?_|refine eS ?_|refine stA ?_|(refine aH hK hX ?_;clear hK hX K)|fail)
   exact ⟨i+1,⟨by omega,ho⟩,by omega,dU⟩
  ·rw [if_neg h0] at ho
   repeat' (first|(refine aC ?_;intro K hK hX)|refine aL [0,2,3,5,6,7,8] ?_|refine eS ?_|refine stA ?_|(refine aH hK hX ?_;clear hK hX K)|fail)
   rw [ho]
   exact bB
 ·rw [List.drop_of_length_le aA] at ho
  repeat' (first|(refine aC ?_;intro K hK hX)|refine aL [0,2,3,5,6,7,8] ?_|refine stA ?_|(refine aH hK hX ?_;clear hK hX K)|fail)
  rw [ho]
  exact bB
theorem dS5 (a b:Int):AC Tryz.prog 156 [.sl 1 2 [iv a,iv b]] (.c (iv (orZ [a,b]))) [] 0:=by
 have:=dL7 [a,b] 2 rfl aN
 simpa [jU] using this
theorem dS6 (a b c:Int):AC Tryz.prog 156 [.sl 1 3 [iv a,iv b,iv c]] (.c (iv (orZ [a,b,c]))) [] 0:=by
 have:=dL7 [a,b,c] 3 rfl aN
 simpa [jU] using this
theorem oV (a b:Ver):AC Tryz.prog 92 [.agg [iv a.t,iv a.c,iv a.s],.agg [iv b.t,iv b.c,iv b.s]] (.c (iv (aG9 a b))) [] 0:=by
 obtain ⟨t,c',s⟩:=a
 obtain ⟨t2,c2',s2⟩:=b
 have h1:=sS t t2
 have h2:=sS s s2
 have h3:=sS c' c2'
 have h4:=dS6 (cmpZ t t2) (cmpZ s s2) (cmpZ c' c2')
 unfold aG9
 dsimp only
 generalize cmpZ t t2=x1 at *
 generalize cmpZ s s2=x2 at *
 generalize cmpZ c' c2'=x3 at *
 refine aF aB (sz:=22) Tryz.func92 rfl (by rw [Tryz.ntmps92];rfl) ?_
 repeat' (first|(refine aC ?_;intro K hK hX)|refine eJ [0,1,2,3,4] ?_|refine gE ?_|(refine gW ?_;first|refine c0 h1 ?_|refine c0 h2 ?_|refine c0 h3 ?_|refine c0 h4 ?_)|refine stA ?_|refine stE ?_|(refine aH hK hX ?_;clear hK hX K)|fail)
 exact bB
theorem mZ (a b:Src):AC Tryz.prog 88 [.agg [iv a.t,iv a.s],.agg [iv b.t,iv b.s]] (.c (iv (aA6 a b))) [] 0:=by
 obtain ⟨t,s⟩:=a
 obtain ⟨t2,s2⟩:=b
 have h1:=sS t t2
 have h2:=sS s s2
 have h4:=dS5 (cmpZ t t2) (cmpZ s s2)
 unfold aA6
 dsimp only
 generalize cmpZ t t2=x1 at *
 generalize cmpZ s s2=x2 at *
 refine aF aB (sz:=17) Tryz.func88 rfl (by rw [Tryz.ntmps88];rfl) ?_
 repeat' (first|(refine aC ?_;intro K hK hX)|refine eJ [0,1,2,3,4] ?_|refine gE ?_|(refine gW ?_;first|refine c0 h1 ?_|refine c0 h2 ?_|refine c0 h4 ?_)|refine stA ?_|refine stE ?_|(refine aH hK hX ?_;clear hK hX K)|fail)
 exact bB
end Go.Proofs.YtbgehdndimlgkaaGreat
namespace Go.Proofs.YtbgehdndimlgkaaGreat
open Go Go.RowKit Go.Av
set_option maxRecDepth 100000
section
variable {α:Type} {lt:α→α→Prop}
end
theorem FolL.init {l:List LEn} {e:LEn} (h:FolL (l++[e])):FolL l∧Fol l e:=by
 constructor
 ·intro i x hx
  have hi:=(List.getElem?_eq_some_iff.1 hx).1
  have:=h i x (by rw [List.getElem?_append_left hi];exact hx)
  rw [List.take_append_of_le_length aA] at this
  exact this
 ·have:=h l.length e (by rw [List.getElem?_append_right (Nat.le_refl _)];simp)
  rw [List.take_left] at this
  exact this
theorem FolL.snoc {l:List LEn} {e:LEn} (h:FolL l) (he:Fol l e):FolL (l++[e]):=fun i x hx=>by
 by_cases hi:i<l.length
 ·rw [List.getElem?_append_left hi] at hx
  rw [List.take_append_of_le_length aA]
  exact h i x hx
 ·have hi2:=(List.getElem?_eq_some_iff.1 hx).1
  rw [List.length_append,List.length_singleton] at hi2
  obtain rfl:i=l.length:=by omega
  rw [List.getElem?_append_right (Nat.le_refl _)] at hx
  have:x=e:=by simpa using hx.symm
  subst this
  rw [List.take_left]
  exact he
theorem kE (l:List LEn) (e:LEn) (k:Int):aA7 (l++[e]) k=aA7 l k+if e.k=k then 1 else 0:=by
 unfold aA7
 rw [List.filter_append,List.length_append]
 congr 1
 by_cases h:e.k=k
 ·rw [if_pos h,List.filter_cons,if_pos (decide_eq_true h)];rfl
 ·rw [if_neg h,List.filter_cons,if_neg (by simp [h])];rfl
theorem lL (l:List LEn) (e:LEn) (k p:Int):rN (l++[e]) k p↔rN l k p∨(e.k=k∧e.plan=p):=by
 unfold rN
 constructor
 ·rintro ⟨x,hx,h⟩
  rcases List.mem_append.1 hx with hx|hx
  ·exact .inl ⟨x,hx,h⟩
  ·rw [List.mem_singleton.1 hx] at h;exact .inr h
 ·rintro (⟨x,hx,h⟩|h)
  ·exact ⟨x,by simp [hx],h⟩
  ·exact ⟨e,by simp,h⟩
end Go.Proofs.YtbgehdndimlgkaaGreat
namespace Go.Proofs.YtbgehdndimlgkaaGreat
open Go Go.RowKit Go.Av
set_option maxRecDepth 100000
theorem aD4:∀(k u:Nat),u<128 ^ (k+1)→(lD u).length≤k+1
 | 0,u,h=>by rw [jS oZ];simp
 | k+1,u,h=>by
  by_cases h1:u<128
  ·rw [jS h1];simp
  ·rw [lE h1,List.length_cons]
   have:=aD4 k (u / 128) (by rw [Nat.pow_succ] at h;omega)
   omega
theorem bG {n:Int} (h:aQ n):(aS n).length≤10:=by
 have h1:=aA5 h.1 h.2
 have h2:zz n<128 ^ (9+1):=Nat.lt_trans h1 aN
 exact aD4 9 _ h2
theorem gP {n:Nat} (h:n≤1000000):(aS (n:Int)).length≤10:=bG ⟨by omega,by omega⟩
theorem yJ {s:List UInt8} (h:s.length≤1000000):(lW s).length≤10+s.length:=by
 have:=gP h
 unfold lW
 rw [List.length_append]
 omega
theorem aO8 {v:Vl} (h:okP v):(kV v).length≤60:=by
 obtain ⟨k,n,t⟩:=v
 unfold kV
 unfold okP at h
 simp only at h ⊢
 rw [List.length_append]
 have hk:(aS k).length≤10:=bG (by unfold aQ;omega)
 split
 ·have:=bG (n:=n) (by unfold aQ;omega)
  omega
 ·split
  ·have:=yJ (s:=t) aA
   omega
  ·simp only [List.length_nil];omega
theorem qX {i:Idf} (h:i.ns.length≤1000):(dL i).length≤1070:=by
 have h1:=yJ (s:=i.ns) aA
 have h2:=aO8 (aE4 i.v)
 unfold dL
 rw [List.length_append]
 omega
theorem nE {α:Type} {e:α→List UInt8} {m:Nat}:∀{l:List α},(∀x∈l,(e x).length≤m)→(l.flatMap e).length≤l.length*m
 | [],_=>by simp
 | x::l,h=>by
  have h1:=h x aP
  have h2:=nE (l:=l) fun y hy=>h y (by simp [hy])
  rw [List.flatMap_cons,List.length_append,List.length_cons,Nat.add_mul,Nat.one_mul]
  omega
structure LEn.sz (e:LEn):Prop where
 vs:e.vs.length≤1000
 ss:e.ss.length≤1000
 rq:e.rq.who.ns.length≤1000
 la:e.lk.a.ns.length≤1000
 lb:e.lk.b.ns.length≤1000
 hd:e.hd.who.ns.length≤1000
theorem lC {e:LEn} (hw:e.wf) (hk:aQ e.k) (hs:e.sz):(bO e).length≤100000:=by
 obtain ⟨a1,a2,a3⟩:=hw.h1
 obtain ⟨b1,b2,b3,b4⟩:=hw.rq
 have c1:=hw.lk
 obtain ⟨d1,d2,d3,d4,d5⟩:=hw.hd
 have e1:=hw.vs
 have e2:=hw.ss
 have f1:=hw.root
 obtain ⟨s1,s2,s3,s4,s5,s6⟩:=hs
 unfold bO
 simp only [List.length_append]
 have k1:=bG hk
 have k2:=bG a1
 have k3:=bG a2
 have k4:=bG a3
 have k5:(cG e).length≤90000:=by
  unfold cG
  split
  ·unfold jR
   simp only [List.length_append]
   have:=bG b1
   have:=bG b2
   have:=bG b3
   have:=bG b4
   have:=qX s3
   omega
  ·split
   ·unfold eW
    simp only [List.length_append]
    have:=gP (n:=e.vs.length) aA
    have:=gP (n:=e.ss.length) aA
    have:=nE (e:=dM) (m:=30) (l:=e.vs) fun x hx=>by
     obtain ⟨p1,p2,p3⟩:=e1 x hx
     have:=bG p1
     have:=bG p2
     have:=bG p3
     unfold dM
     simp only [List.length_append]
     omega
    have:=nE (e:=dQ) (m:=20) (l:=e.ss) fun x hx=>by
     obtain ⟨p1,p2⟩:=e2 x hx
     have:=bG p1
     have:=bG p2
     unfold dQ
     simp only [List.length_append]
     omega
    omega
   ·split
    ·omega
    ·split
     ·unfold jQ
      simp only [List.length_append]
      have:=bG c1
      have:=qX s4
      have:=qX s5
      have:(aS (if e.lk.rv=true then 1 else 0)).length≤10:=bG (by unfold aQ;split<;>omega)
      omega
     ·split
      ·unfold jP
       simp only [List.length_append]
       have:=bG d1
       have:=bG d2
       have:=bG d3
       have:=bG d4
       have:=bG d5
       have:=qX s6
       omega
      ·simp
 omega
theorem bI5 {e:LEn} (hk:aQ e.k) (h:(pEn (bO e)).isSome=true):1≤e.k∧e.k≤7:=by
 unfold pEn bO pIn at h
 rw [cS hk,Option.bind_some] at h
 by_cases hc:1≤e.k∧e.k≤7
 ·exact hc
 ·simp only [if_neg hc,Option.bind_none,Option.isSome_none] at h
  cases h
theorem cI7:∀{b:List UInt8} {i x:Nat} {p:Nat × List UInt8},i≤9→x<128 ^ i→pU i x b=some p→p.1<18446744073709551616
 | [],i,x,p,_,_,h=>by rw [pU] at h;cases h
 | c::b,i,x,p,hi,hx,h=>by
  rw [pU] at h
  by_cases hn:(i=9∧1<c.toNat)∨(0<i∧c.toNat=0)
  ·rw [if_pos hn] at h;cases h
  ·rw [if_neg hn] at h
   by_cases h9:i=9
   ·subst h9
    have hc:c.toNat≤1:=by omega
    rw [if_pos aA] at h
    injection h with h
    rw [← h]
    have:(128:Nat) ^ 9=9223372036854775808:=by decide
    rw [this] at hx ⊢
    simp only
    rcases (show c.toNat=0∨c.toNat=1 by omega) with e|e<;>rw [e]<;>omega
   ·have hp:(128:Nat) ^ (i+1)≤128 ^ 9:=Nat.pow_le_pow_right aN aA
    have h9':(128:Nat) ^ 9=9223372036854775808:=by decide
    have hs:(128:Nat) ^ (i+1)=128 ^ i*128:=Nat.pow_succ ..
    have hb:∀d:Nat,d<128→x+d*128 ^ i<128 ^ (i+1):=fun d hd=>by
     rw [hs]
     have:d*128 ^ i≤127*128 ^ i:=Nat.mul_le_mul_right _ aA
     omega
    by_cases hc:c.toNat<128
    ·rw [if_pos hc] at h
     injection h with h
     rw [← h]
     have:=hb _ hc
     simp only
     omega
    ·rw [if_neg hc] at h
     exact cI7 aA (hb _ (Nat.mod_lt _ aN)) h
theorem gJ {b:List UInt8} {p:Int × List UInt8} (h:cP b=some p):aQ p.1:=by
 unfold cP at h
 obtain ⟨q,hq,rfl⟩:=Option.map_eq_some_iff.1 h
 have:=cI7 aN aN hq
 unfold aQ uz
 simp only
 split<;>omega
theorem aR0 {lo hi:Int} {b:List UInt8} {p:Int × List UInt8} (h:pIn lo hi b=some p):aQ p.1∧lo≤p.1∧p.1≤hi:=by
 unfold pIn at h
 obtain ⟨q,hq,h⟩:=Option.bind_eq_some_iff.1 h
 split at h
 ·rename_i hc
  injection h with h
  rw [← h]
  exact ⟨gJ hq,hc⟩
 ·cases h
theorem cH6 {n:Nat} {b:List UInt8} {p:List UInt8 × List UInt8} (h:pBy n b=some p):p.1.length=n:=by
 unfold pBy at h
 split at h
 ·rename_i hc
  injection h with h
  rw [← h]
  simp only [List.length_take]
  omega
 ·cases h
theorem aQ9 {b:List UInt8} {p:Idf × List UInt8} (h:pId b=some p):p.1.ns.length≤16:=by
 unfold pId pTx at h
 obtain ⟨q,hq,h⟩:=Option.bind_eq_some_iff.1 h
 obtain ⟨n,hn,hq⟩:=Option.bind_eq_some_iff.1 hq
 obtain ⟨v,hv,rfl⟩:=Option.map_eq_some_iff.1 h
 have:=cH6 hq
 have:=aR0 hn
 simp only
 omega
theorem eB4 {b:List UInt8} {p:Ver × List UInt8} (h:pVr b=some p):aQ p.1.t∧aQ p.1.c∧aQ p.1.s:=by
 unfold pVr at h
 obtain ⟨q,hq,h⟩:=Option.bind_eq_some_iff.1 h
 obtain ⟨r,hr,h⟩:=Option.bind_eq_some_iff.1 h
 obtain ⟨s,hs,rfl⟩:=Option.map_eq_some_iff.1 h
 exact ⟨gJ hq,gJ hs,gJ hr⟩
theorem eB2 {b:List UInt8} {p:Src × List UInt8} (h:pSr b=some p):aQ p.1.t∧aQ p.1.s:=by
 unfold pSr at h
 obtain ⟨q,hq,h⟩:=Option.bind_eq_some_iff.1 h
 obtain ⟨s,hs,rfl⟩:=Option.map_eq_some_iff.1 h
 exact ⟨gJ hq,gJ hs⟩
theorem cH8 {α:Type} {f:List UInt8→Option (α × List UInt8)} {Q:α→Prop} (hf:∀{b p},f b=some p→Q p.1):∀{n:Nat} {b:List UInt8} {p:List α × List UInt8},sE f n b=some p→p.1.length=n∧∀x∈p.1,Q x
 | 0,b,p,h=>by
  rw [sE] at h
  injection h with h
  rw [← h]
  exact ⟨rfl,fun x hx=>by simp at hx⟩
 | n+1,b,p,h=>by
  rw [sE] at h
  obtain ⟨q,hq,h⟩:=Option.bind_eq_some_iff.1 h
  obtain ⟨s,hs,rfl⟩:=Option.map_eq_some_iff.1 h
  obtain ⟨h1,h2⟩:=cH8 hf hs
  refine ⟨by simp only [List.length_cons,h1],fun x hx=>?_⟩
  rcases List.mem_cons.1 hx with rfl|hx
  ·exact hf hq
  ·exact h2 x hx
theorem dL8 {α:Type} {f:List UInt8→Option (α × List UInt8)} {Q:α→Prop} (hf:∀{b p},f b=some p→Q p.1) {m:Int} {b:List UInt8} {p:List α × List UInt8} (h:pLs f m b=some p):(p.1.length:Int)≤m∧∀x∈p.1,Q x:=by
 unfold pLs at h
 obtain ⟨q,hq,h⟩:=Option.bind_eq_some_iff.1 h
 obtain ⟨h1,h2⟩:=cH8 hf h
 have:=aR0 hq
 exact ⟨by omega,h2⟩
theorem aQ2:aQ 0:=by unfold aQ;omega
theorem cH7 {b:List UInt8} {p:LEn × List UInt8} (h:pEn b=some p):p.1.wf∧(1≤p.1.k∧p.1.k≤7)∧p.1.sz:=by
 unfold pEn at h
 obtain ⟨k,hk,h⟩:=Option.bind_eq_some_iff.1 h
 obtain ⟨d,hd,h⟩:=Option.bind_eq_some_iff.1 h
 obtain ⟨pl,hp,h⟩:=Option.bind_eq_some_iff.1 h
 obtain ⟨st,hs,h⟩:=Option.bind_eq_some_iff.1 h
 have hk:=(aR0 hk).2
 have hd:=gJ hd
 have hp:=gJ hp
 have hs:=gJ hs
 have z:=aQ2
 have zr:root0.length=32:=rfl
 unfold kZ at h
 split at h
 ·obtain ⟨x,hx,rfl⟩:=Option.map_eq_some_iff.1 h
  unfold pRq at hx
  obtain ⟨a1,h1,hx⟩:=Option.bind_eq_some_iff.1 hx
  obtain ⟨a2,h2,hx⟩:=Option.bind_eq_some_iff.1 hx
  obtain ⟨a3,h3,hx⟩:=Option.bind_eq_some_iff.1 hx
  obtain ⟨a4,h4,hx⟩:=Option.bind_eq_some_iff.1 hx
  obtain ⟨a5,h5,rfl⟩:=Option.map_eq_some_iff.1 hx
  have:=aQ9 h2
  exact ⟨⟨⟨hd,hp,hs⟩,⟨gJ h1,gJ h3,gJ h4,gJ h5⟩,z,⟨z,z,z,z,z⟩,fun v hv=>by simp at hv,fun v hv=>by simp at hv,zr⟩,hk,⟨Nat.zero_le _,Nat.zero_le _,by simp only;omega,Nat.zero_le _,Nat.zero_le _,Nat.zero_le _⟩⟩
 ·split at h
  ·obtain ⟨v,hv,h⟩:=Option.bind_eq_some_iff.1 h
   obtain ⟨x,hx,rfl⟩:=Option.map_eq_some_iff.1 h
   obtain ⟨v1,v2⟩:=dL8 (Q:=fun p:Ver=>aQ p.t∧aQ p.c∧aQ p.s) eB4 hv
   obtain ⟨x1,x2⟩:=dL8 (Q:=fun p:Src=>aQ p.t∧aQ p.s) eB2 hx
   exact ⟨⟨⟨hd,hp,hs⟩,⟨z,z,z,z⟩,z,⟨z,z,z,z,z⟩,v2,x2,zr⟩,hk,⟨by simp only;omega,by simp only;omega,Nat.zero_le _,Nat.zero_le _,Nat.zero_le _,Nat.zero_le _⟩⟩
  ·split at h
   ·obtain ⟨x,hx,rfl⟩:=Option.map_eq_some_iff.1 h
    exact ⟨⟨⟨hd,hp,hs⟩,⟨z,z,z,z⟩,z,⟨z,z,z,z,z⟩,fun v hv=>by simp at hv,fun v hv=>by simp at hv,cH6 hx⟩,hk,⟨Nat.zero_le _,Nat.zero_le _,Nat.zero_le _,Nat.zero_le _,Nat.zero_le _,Nat.zero_le _⟩⟩
   ·split at h
    ·obtain ⟨x,hx,rfl⟩:=Option.map_eq_some_iff.1 h
     unfold pLk at hx
     obtain ⟨a1,h1,hx⟩:=Option.bind_eq_some_iff.1 hx
     obtain ⟨a2,h2,hx⟩:=Option.bind_eq_some_iff.1 hx
     obtain ⟨a3,h3,hx⟩:=Option.bind_eq_some_iff.1 hx
     obtain ⟨a4,h4,rfl⟩:=Option.map_eq_some_iff.1 hx
     have:=aQ9 h1
     have:=aQ9 h2
     exact ⟨⟨⟨hd,hp,hs⟩,⟨z,z,z,z⟩,gJ h3,⟨z,z,z,z,z⟩,fun v hv=>by simp at hv,fun v hv=>by simp at hv,zr⟩,hk,⟨Nat.zero_le _,Nat.zero_le _,Nat.zero_le _,by simp only;omega,by simp only;omega,Nat.zero_le _⟩⟩
    ·split at h
     ·obtain ⟨x,hx,rfl⟩:=Option.map_eq_some_iff.1 h
      unfold pHd at hx
      obtain ⟨a1,h1,hx⟩:=Option.bind_eq_some_iff.1 hx
      obtain ⟨a2,h2,hx⟩:=Option.bind_eq_some_iff.1 hx
      obtain ⟨a3,h3,hx⟩:=Option.bind_eq_some_iff.1 hx
      obtain ⟨a4,h4,hx⟩:=Option.bind_eq_some_iff.1 hx
      obtain ⟨a5,h5,hx⟩:=Option.bind_eq_some_iff.1 hx
      obtain ⟨a6,h6,rfl⟩:=Option.map_eq_some_iff.1 hx
      have:=aQ9 h3
      exact ⟨⟨⟨hd,hp,hs⟩,⟨z,z,z,z⟩,z,⟨gJ h1,gJ h2,gJ h4,gJ h5,gJ h6⟩,fun v hv=>by simp at hv,fun v hv=>by simp at hv,zr⟩,hk,⟨Nat.zero_le _,Nat.zero_le _,Nat.zero_le _,Nat.zero_le _,Nat.zero_le _,by simp only;omega⟩⟩
     ·injection h with h
      rw [← h]
      exact ⟨⟨⟨hd,hp,hs⟩,⟨z,z,z,z⟩,z,⟨z,z,z,z,z⟩,fun v hv=>by simp at hv,fun v hv=>by simp at hv,zr⟩,hk,⟨Nat.zero_le _,Nat.zero_le _,Nat.zero_le _,Nat.zero_le _,Nat.zero_le _,Nat.zero_le _⟩⟩
end Go.Proofs.YtbgehdndimlgkaaGreat
namespace Go.Av
open Go Go.RowKit Go.MapKept
def dR2:TK→Value→Prop
 | .bool,.bool _=>True
 | .int k,.int k' _=>k'=k
 | .str,.string _=>True
 | _,_=>False
def eE5 (t:TK) (es:List (CV × AV)):Prop:=∀p∈es,∃x,p.1 = .v x∧dR2 t x
def MAt (k:Value) (v:AV):List (CV × AV)→Nat→Prop
 | [],_=>False
 | e::_,0=>e.1 = .v k∧e.2=v
 | e::es,j+1=>e.1 ≠ .v k∧MAt k v es j
def MNo (k:Value) (es:List (CV × AV)):Prop:=∀p∈es,p.1 ≠ .v k
theorem RepM.length {C:Cx}:∀{es:List (CV × AV)} {ms:List MapEntry},RepM C es ms→ms.length=es.length
 | [],ms,h=>by
  have:ms=[]:=h
  subst this;rfl
 | e::es,ms,h=>by
  obtain ⟨m,ms',rfl,_,_,h3⟩:=h
  rw [List.length_cons,List.length_cons,RepM.length h3]
theorem RepM.push {C:Cx} {a:CV} {b:AV} {m:MapEntry} (ha:RepC C.ok C.w a m.key) (hb:Rep C b m.val):∀{es:List (CV × AV)} {ms:List MapEntry},RepM C es ms→RepM C (es++[(a,b)]) (ms++[m])
 | [],ms,h=>by
  have:ms=[]:=h
  subst this
  exact ⟨m,[],rfl,ha,hb,rfl⟩
 | e::es,ms,h=>by
  obtain ⟨m',ms',rfl,h1,h2,h3⟩:=h
  exact ⟨m',ms'++[m],rfl,h1,h2,RepM.push ha hb h3⟩
theorem RepM.set {C:Cx} {a:CV} {b:AV} {m:MapEntry} (ha:RepC C.ok C.w a m.key) (hb:Rep C b m.val):∀{es:List (CV × AV)} {ms:List MapEntry} (j:Nat),RepM C es ms→RepM C (es.set j (a,b)) (ms.set j m)
 | [],ms,j,h=>by
  have:ms=[]:=h
  subst this
  cases j<;>rfl
 | e::es,ms,0,h=>by
  obtain ⟨m',ms',rfl,h1,h2,h3⟩:=h
  exact ⟨m,ms',rfl,ha,hb,h3⟩
 | e::es,ms,j+1,h=>by
  obtain ⟨m',ms',rfl,h1,h2,h3⟩:=h
  exact ⟨m',ms'.set j m,rfl,h1,h2,RepM.set ha hb j h3⟩
theorem TyOk.mapK {P:Program} {t:TypeId} {e:TyE} (h:TyOk P t e) {k x:TypeId} (hk:e.kind = .map k x):P.underlying t=some (.map k x):=by
 obtain ⟨d,hd,hk'⟩:=h.und
 rw [hk] at hk'
 cases d<;>simp [aB1] at hk'
 obtain ⟨rfl,rfl⟩:=hk';exact hd
section
variable {P:Program} {tab:Tab} {ev:Evl} {h:aO} {d:Option Tmp} {T ty:TypeId} {x y z:Operand} {pos:String} {aft:Array Edge} {gd:Option (Nat × Bool)} {i id:Nat} {es:List (CV × AV)}
theorem aJ3 {B:Bs} {dom:Nat→Prop} {M:Nat→Option Nat} {H:Nat→Option AObj} {w:World} {g:Nat} (hh:∀id o,lk h id=some o→dom id→H id=some o) (hc:ConcH B dom M H w) (ho:lk h id=some (.tab es)) (hd:dom id) (hM:M id=some g):∃ms t,w.heap[g]? = some (.map ms t)∧Stamped ms t∧RepM ⟨dom,M,aY B dom M H,w⟩ es ms.toList:=by
 obtain ⟨k,ms,t,e1,hb,hs,hr⟩:=hc.obj id _ hd (hh id _ ho hd)
 rw [hM] at e1
 injection e1 with e1
 subst e1
 exact ⟨ms,t,hb,hs,hr⟩
theorem aB3 {r:Option Operand} (hr:r=none):Adds P ⟨d,.makeMap T r,ty,pos,aft,gd⟩ ev h (.mh i) [(i,.tab [])] i (i+1):=by
 subst hr
 refine hQ rfl fun B dom M H w a hh hc he=>⟨.map (some w.heap.size),w.alloc (.map #[] 0),some w.heap.size,by simp [execOp,Instr.makeMap,newObj,Sem.run,Result.andThen],fC _ _,fun g hg=>by injection hg with hg;omega,fun C hext hw hd hM=>⟨⟨w.heap.size,#[],0,rfl,?_,stamped_empty 0,rfl⟩,hd,w.heap.size,hM,rfl⟩⟩
 rw [hw];exact heap_alloc_new w _
theorem dU7 {e:TyE} {K E:TypeId} (tb:bK P tab) (hT:aR tab T=some e) (hk:e.kind = .map K E) (hx:ev x=some (.mh id)) (ho:lk h id=some (.tab es)):Still P ⟨d,.call ⟨.builtin .len,#[x],#[T]⟩,ty,pos,aft,gd⟩ ev h (.c (.v (.int .i64 es.length))):=by
 intro B dom M H w a hh hc he
 have h1:=he x _ hx
 simp only [Rep] at h1
 obtain ⟨hid,g,hM,hp⟩:=h1
 obtain ⟨ms,t,hb,hs,hr⟩:=aJ3 hh hc ho hid hM
 refine ⟨.int .i64 es.length,?_,by simp only [Rep,RepC]⟩
 have hl:=hr.length
 rw [Array.length_toList] at hl
 simp [execOp,resolve,invoke,builtin,Builtin.len_,hp,run_underlying ((aM tb hT).mapK hk),Go.MapKept.run_getObj_map hb,goInt,hl]
end
section
variable {P:Program} {tab:Tab} {sz n:Nat} {env:Env} {h:aO} {dfs:bZ} {K:AK} {ops:Array Oper} {rest:List Oper} {T ty:TypeId} {x y z:Operand} {pos:String} {aft:Array Edge} {gd:Option (Nat × Bool)} {id:Nat} {es es':List (CV × AV)}
end
end Go.Av
namespace Go.Av
open Go Go.RowKit
def eK0 (l:List (List UInt8)):List CV:=l.map fun s => .v (.string ⟨s.toArray⟩)
end Go.Av
namespace Go.Av
open Go Go.RowKit Go.MapKept
mutual
theorem AV.mp_id {b:Nat} {σ:Nat→Nat} (h:∀i,i<b→σ i=i):∀x:AV,x.ltB b=true→x.mp σ=x
 | .c x,_=>rfl
 | .ip cs off,_=>rfl
 | .junk,_=>rfl
 | .ref id off,hl=>by simp only [AV.ltB,Nat.blt_eq] at hl;simp only [AV.mp,h id hl]
 | .own id off n size full,hl=>by simp only [AV.ltB,Nat.blt_eq] at hl;simp only [AV.mp,h id hl]
 | .agg xs,hl=>by simp only [AV.ltB] at hl;simp only [AV.mp,AV.mps_id h xs hl]
 | .tup xs,hl=>by simp only [AV.ltB] at hl;simp only [AV.mp,AV.mps_id h xs hl]
 | .fn f xs,hl=>by simp only [AV.ltB] at hl;simp only [AV.mp,AV.mps_id h xs hl]
 | .yld id,hl=>by simp only [AV.ltB,Nat.blt_eq] at hl;simp only [AV.mp,h id hl]
 | .mh id,hl=>by simp only [AV.ltB,Nat.blt_eq] at hl;simp only [AV.mp,h id hl]
 | .bm f id,hl=>by simp only [AV.ltB,Nat.blt_eq] at hl;simp only [AV.mp,h id hl]
theorem AV.mps_id {b:Nat} {σ:Nat→Nat} (h:∀i,i<b→σ i=i):∀xs:List AV,AV.ltBs b xs=true→AV.mps σ xs=xs
 | [],_=>rfl
 | x::xs,hl=>by
  simp only [AV.ltBs,Bool.and_eq_true] at hl
  simp only [AV.mps,AV.mp_id h x hl.1,AV.mps_id h xs hl.2]
end
mutual
theorem AV.ltB_mono {b N:Nat} (h:b≤N):∀x:AV,x.ltB b=true→x.ltB N=true
 | .c x,_=>rfl
 | .ip cs off,_=>rfl
 | .junk,_=>rfl
 | .ref id off,hl=>by simp only [AV.ltB,Nat.blt_eq] at hl ⊢;omega
 | .own id off n size full,hl=>by simp only [AV.ltB,Nat.blt_eq] at hl ⊢;omega
 | .agg xs,hl=>by simp only [AV.ltB] at hl ⊢;exact AV.ltBs_mono h xs hl
 | .tup xs,hl=>by simp only [AV.ltB] at hl ⊢;exact AV.ltBs_mono h xs hl
 | .fn f xs,hl=>by simp only [AV.ltB] at hl ⊢;exact AV.ltBs_mono h xs hl
 | .yld id,hl=>by simp only [AV.ltB,Nat.blt_eq] at hl ⊢;omega
 | .mh id,hl=>by simp only [AV.ltB,Nat.blt_eq] at hl ⊢;omega
 | .bm f id,hl=>by simp only [AV.ltB,Nat.blt_eq] at hl ⊢;omega
theorem AV.ltBs_mono {b N:Nat} (h:b≤N):∀xs:List AV,AV.ltBs b xs=true→AV.ltBs N xs=true
 | [],_=>rfl
 | x::xs,hl=>by
  simp only [AV.ltBs,Bool.and_eq_true] at hl ⊢
  exact ⟨AV.ltB_mono h x hl.1,AV.ltBs_mono h xs hl.2⟩
end
def one (q n0 id:Nat):Nat:=if id=q then n0 else id
theorem one_ne {q n0 id:Nat} (h:id≠q):one q n0 id=id:=by simp [one,h]
abbrev Sub:=Value × Nat × List CV
def eD8 (size b:Nat):Nat→List Sub→List (CV × AV)
 | _,[]=>[]
 | j,s::L=>(.v s.1,.own (j+b) 0 s.2.1 size true)::eD8 size b (j+1) L
def eD7 (T:TypeId) (b:Nat):Nat→List Sub→aO
 | _,[]=>[]
 | j,s::L=>(j+b,.row T s.2.2)::eD7 T b (j+1) L
def eK1 (size:Nat) (L:List Sub):List (CV × AV):=L.map fun s=>(.v s.1,.c (.sl size s.2.1 s.2.2))
section
variable {T:TypeId} {size b:Nat}
end
def eK3 (T:TypeId) (size b m:Nat) (L:List Sub):aO:=(m,.tab (eD8 size b 0 L))::eD7 T b 0 L
section
variable {T:TypeId} {size b m:Nat} {L:List Sub}
end
section
variable {P:Program} {tab:Tab} {ev:Evl} {h:aO} {d:Option Tmp} {T ty:TypeId} {x y z:Operand} {pos:String} {aft:Array Edge} {gd:Option (Nat × Bool)} {i id:Nat} {es:List (CV × AV)}
end
end Go.Av
namespace Go.Av
open Go Go.RowKit Go.MapKept
def eK2 (L:List (Value × CV)):List (CV × AV):=L.map fun s=>(.v s.1,.c s.2)
section
variable {P:Program} {tab:Tab} {ev:Evl} {h:aO} {d:Option Tmp} {T ty:TypeId} {x y z:Operand} {pos:String} {aft:Array Edge} {gd:Option (Nat × Bool)} {i id:Nat} {es:List (CV × AV)}
theorem dU6 {e:TyE} {K E:TypeId} {m:Nat} (tb:bK P tab) (hT:aR tab T=some e) (hk:e.kind = .map K E) (hx:ev x=some (.mh id)) (ho:lk h id=some (.tab es)) (hm:es.length=m):Still P ⟨d,.call ⟨.builtin .len,#[x],#[T]⟩,ty,pos,aft,gd⟩ ev h (.c (.v (.int .i64 m))):=by
 subst hm
 exact dU7 tb hT hk hx ho
end
section
variable {P:Program} {sz n:Nat} {env:Env} {h:aO} {dfs:bZ} {K:AK} {ops:Array Oper} {rest:List Oper} {d:Option Tmp} {T ty:TypeId} {x y z:Operand} {pos:String} {aft:Array Edge} {gd:Option (Nat × Bool)} {b:Bool}
theorem aI8 (hh:AWL P ops sz (⟨d,.mapUpdate T x y z,ty,pos,aft,gd⟩::rest) K n env h dfs):AWL P ops sz (⟨d,.mapUpdate T x y z,ty,pos,aft,gd⟩::rest) K n env h dfs:=hh
theorem cG3 {r:Option Operand} (hh:AWL P ops sz (⟨d,.makeMap T r,ty,pos,aft,gd⟩::rest) K n env h dfs):AWL P ops sz (⟨d,.makeMap T r,ty,pos,aft,gd⟩::rest) K n env h dfs:=hh
end
end Go.Av
namespace Go.Av
open Go Go.RowKit Go.MapKept
structure KeyT (P:Program) (K:TypeId) (κ:Type) where
 kc:κ→CV
 kv:κ→Value
 ok:κ→Prop
 inj:∀a b,ok a→ok b→kv a=kv b→a=b
 rep:∀(ok':Nat→Prop) (w:World) (a:κ) (u:Value),RepC ok' w (kc a) u→u=kv a
 repv:∀(ok':Nat→Prop) (w:World) (a:κ),RepC ok' w (kc a) (kv a)
 check:∀(w:World) (em:Bool) (a:κ),ok a→(Instr.checkKey em 10000 K (kv a)).run P w = .ok () w
 find:∀(w:World) (a:κ),ok a→∀es:List MapEntry,(∀e∈es,∃b,ok b∧e.key=kv b)→((Instr.findKey K (kv a) es).run P w = .ok none w∧∀e∈es,e.key≠kv a)∨∃j e,(Instr.findKey K (kv a) es).run P w = .ok (some (j,e.val)) w∧es[j]? = some e∧e.key=kv a
 stays:∀(w:World) (a:κ),ok a→(Instr.keyThatStays (kv a) (kv a)).run P w = .ok (kv a) w
abbrev cB1:CV := .v (.bool true)
def aI {κ:Type} (kc:κ→CV) (ks:List κ):List (CV × AV):=ks.map fun k=>(kc k,.c cB1)
def nY {κ:Type} [DecidableEq κ] (ks:List κ) (k:κ):List κ:=if k∈ks then ks else ks++[k]
theorem tF {κ:Type} [DecidableEq κ] {ks:List κ} {k x:κ}:x∈nY ks k↔x∈ks∨x=k:=by
 unfold nY
 split
 ·rename_i h
  exact ⟨.inl,fun h'=>h'.elim (fun h=>h) fun e=>e▸h⟩
 ·simp
theorem dZ {κ:Type} {kc:κ→CV} {N:Nat} {L:List κ}:(AObj.tab (aI kc L)).ltB N=true:=by simp [AObj.ltB,aI,AV.ltB]
theorem setT_mp {κ:Type} {kc:κ→CV} {σ:Nat→Nat} {L:List κ}:AObj.tab (aI kc L)=(AObj.tab (aI kc L)).mp σ:=by
 simp only [AObj.mp,aI,List.map_map]
 congr 1
theorem aT7 {κ:Type} (kc:κ→CV) (L:List κ):(aI kc L).length=L.length:=List.length_map _
section
variable {P:Program} {K:TypeId} {κ:Type} {C:Cx}
theorem rJ (kt:KeyT P K κ):∀{ks:List κ} {ms:List MapEntry},RepM C (aI kt.kc ks) ms→ms.map (fun m=>(m.key,m.val))=ks.map fun k=>(kt.kv k,Value.bool true)
 | [],ms,h=>by
  have:ms=[]:=h
  subst this;rfl
 | k::ks,ms,h=>by
  obtain ⟨m,ms',rfl,h1,h2,h3⟩:=h
  rw [List.map_cons,List.map_cons,rJ kt h3,kt.rep _ _ _ _ h1]
  simp only [Rep,RepC] at h2
  rw [h2]
theorem aT8 (kt:KeyT P K κ) {ks:List κ} {ms:List MapEntry} (h:RepM C (aI kt.kc ks) ms) {m:MapEntry} (hm:m∈ms):∃k∈ks,m.key=kt.kv k∧m.val = .bool true:=by
 have e:=rJ kt h
 have:(m.key,m.val)∈ks.map fun k=>(kt.kv k,Value.bool true):=e▸List.mem_map.2 ⟨m,hm,rfl⟩
 obtain ⟨k,hk,he⟩:=List.mem_map.1 this
 injection he with e1 e2
 exact ⟨k,hk,e1.symm,e2.symm⟩
theorem bK5 (kt:KeyT P K κ) {ks:List κ} {ms:List MapEntry} (h:RepM C (aI kt.kc ks) ms) {j:Nat} {m:MapEntry} (hm:ms[j]? = some m):∃k,ks[j]? = some k∧m.key=kt.kv k∧m.val = .bool true:=by
 have e:=congrArg (fun l=>l[j]?) (rJ kt h)
 simp only [List.getElem?_map,hm,Option.map_some] at e
 cases hk:ks[j]? with
 | none=>rw [hk] at e;cases e
 | some k =>
  rw [hk] at e
  injection e with e
  injection e with e1 e2
  exact ⟨k,rfl,e1,e2⟩
theorem aF6 (kt:KeyT P K κ) {ks:List κ} {ms:List MapEntry} (h:RepM C (aI kt.kc ks) ms) {k:κ} (hk:k∈ks):∃m∈ms,m.key=kt.kv k:=by
 have e:=rJ kt h
 have:(kt.kv k,Value.bool true)∈ms.map fun m=>(m.key,m.val):=e▸List.mem_map.2 ⟨k,hk,rfl⟩
 obtain ⟨m,hm,he⟩:=List.mem_map.1 this
 injection he with e1 e2
 exact ⟨m,hm,e1⟩
end
section
variable {P:Program} {tab:Tab} {ev:Evl} {h:aO} {d:Option Tmp} {T ty:TypeId} {x y z:Operand} {pos:String} {aft:Array Edge} {gd:Option (Nat × Bool)} {i id:Nat} {κ:Type} [DecidableEq κ] {K E:TypeId} {ks:List κ} {k:κ} {e:TyE}
theorem aT3 (kt : KeyT P K κ) (tb : bK P tab) (hT : aR tab T = some e) (hk : e.kind = .map K E) (hz : ∀ w, (zeroValue E).run P w = .ok (.bool false) w) (hx : ev x = some (.mh id)) (ho : lk h id = some (.tab (aI kt.kc ks))) (hy : ev y = some (.c (kt.kc k))) (hok : kt.ok k) (hoks : ∀ q ∈ ks, kt.ok q) :
    Still P ⟨d, .lookup T x y false, ty, pos, aft, gd⟩ ev h (.c (.v (.bool (decide (k ∈ ks))))) := by
  intro B dom M H w a hh hc he
  have h1 := he x _ hx
  have h2 := he y _ hy
  have h2 := kt.rep _ _ _ _ h2
  simp only [Rep] at h1
  obtain ⟨hid, g, hM, hp⟩ := h1
  obtain ⟨ms, t, hb, hs, hr⟩ := aJ3 hh hc ho hid hM
  have hck := kt.check w ms.isEmpty k hok
  have hzr := hz
  have hent : ∀ m ∈ ms.toList, ∃ b, kt.ok b ∧ m.key = kt.kv b := fun m hm => by
    obtain ⟨b, hb1, hb2, _⟩ := aT8 kt hr hm
    exact ⟨b, hoks b hb1, hb2⟩
  refine ⟨.bool (decide (k ∈ ks)), ?_, by simp only [Rep, RepC]⟩
  rcases kt.find w k hok ms.toList hent with ⟨f1, f2⟩ | ⟨j, m, f1, f2, f3⟩
  · have hn : k ∉ ks := fun hin => by
      obtain ⟨m, hm, e⟩ := aF6 kt hr hin
      exact f2 m hm e
    simp [execOp, Instr.lookup, hp, h2, run_underlying ((aM tb hT).mapK hk), Go.MapKept.run_getObj_map hb, hck, f1, hzr, hn]
  · obtain ⟨b, hb1, hb2, hb3⟩ := bK5 kt hr f2
    have hbk : b ∈ ks := List.mem_of_getElem? hb1
    have : b = k := kt.inj _ _ (hoks b hbk) hok (hb2.symm.trans f3)
    subst this
    simp [execOp, Instr.lookup, hp, h2, run_underlying ((aM tb hT).mapK hk), Go.MapKept.run_getObj_map hb, hck, f1, hb3, hbk]
theorem qK (kt : KeyT P K κ) (tb : bK P tab) (hT : aR tab T = some e) (hk : e.kind = .map K E) (hz : ∀ w, (zeroValue E).run P w = .ok (.bool false) w) (hx : ev x = some (.mh id)) (ho : lk h id = some (.tab (aI kt.kc ks))) (hy : ev y = some (.c (kt.kc k))) (hok : kt.ok k) (hoks : ∀ q ∈ ks, kt.ok q) (hm : k ∈ ks) :
    Still P ⟨d, .lookup T x y false, ty, pos, aft, gd⟩ ev h (.c (.v (.bool true))) := by
  have := aT3 (d := d) (ty := ty) (pos := pos) (aft := aft) (gd := gd) kt tb hT hk hz hx ho hy hok hoks
  rwa [decide_eq_true hm] at this
theorem oJ (kt : KeyT P K κ) (tb : bK P tab) (hT : aR tab T = some e) (hk : e.kind = .map K E) (hz : ∀ w, (zeroValue E).run P w = .ok (.bool false) w) (hx : ev x = some (.mh id)) (ho : lk h id = some (.tab (aI kt.kc ks))) (hy : ev y = some (.c (kt.kc k))) (hok : kt.ok k) (hoks : ∀ q ∈ ks, kt.ok q) (hm : k ∉ ks) :
    Still P ⟨d, .lookup T x y false, ty, pos, aft, gd⟩ ev h (.c (.v (.bool false))) := by
  have := aT3 (d := d) (ty := ty) (pos := pos) (aft := aft) (gd := gd) kt tb hT hk hz hx ho hy hok hoks
  rwa [decide_eq_false hm] at this
omit [DecidableEq κ] in
theorem aT4 {m:Nat} {kc:κ→CV} (tb:bK P tab) (hT:aR tab T=some e) (hk:e.kind = .map K E) (hx:ev x=some (.mh id)) (ho:lk h id=some (.tab (aI kc ks))) (hm:ks.length=m):Still P ⟨d,.call ⟨.builtin .len,#[x],#[T]⟩,ty,pos,aft,gd⟩ ev h (.c (.v (.int .i64 m))) :=
 dU6 tb hT hk hx ho (by rw [aT7,hm])
theorem cD0 (kt : KeyT P K κ) (tb : bK P tab) (hT : aR tab T = some e) (hk : e.kind = .map K E) (hx : ev x = some (.mh id)) (ho : lk h id = some (.tab (aI kt.kc ks))) (hy : ev y = some (.c (kt.kc k))) (hz : ev z = some (.c cB1)) (hok : kt.ok k) (hoks : ∀ q ∈ ks, kt.ok q) :
    bW P ⟨none, .mapUpdate T x y z, ty, pos, aft, gd⟩ ev h .junk [] (some (id, some (.tab (aI kt.kc (nY ks k))))) i i := by
  intro B dom M H w a K' Q hh hn c1 he hK'
  have h1 := he x _ hx
  have h2 := he y _ hy
  have h2 := kt.rep _ _ _ _ h2
  have h3 := he z _ hz
  simp only [Rep, RepC] at h1 h3
  obtain ⟨hid, g, hM, hp⟩ := h1
  obtain ⟨ms, t, hb, hs, hr⟩ := aJ3 hh c1 ho hid hM
  have hck := kt.check w false k hok
  have hent : ∀ m ∈ ms.toList, ∃ b, kt.ok b ∧ m.key = kt.kv b := fun m hm => by
    obtain ⟨b, hb1, hb2, _⟩ := aT8 kt hr hm
    exact ⟨b, hoks b hb1, hb2⟩
  have fin : ∀ (ms' : Array MapEntry) (t' : Nat), Stamped ms' t' → (∀ C, RepM C (aI kt.kc ks) ms.toList → RepM C (aI kt.kc (nY ks k)) ms'.toList) →
      (execOp a.eval ⟨none, .mapUpdate T x y z, ty, pos, aft, gd⟩).run P w = .ok .skip { w with heap := w.heap.setIfInBounds g (.map ms' t') } → Oper.wp P ⟨none, .mapUpdate T x y z, ty, pos, aft, gd⟩ a w K' Q := by
    intro ms' t' hst hrm hrun
    obtain ⟨q1, q2⟩ := heap_set (o' := .map ms' t') hb
    unfold Oper.wp
    rw [hrun, Oper.upon_skip]
    obtain ⟨k1, k2⟩ := c1.turnE (o' := .tab (aI kt.kc (nY ks k))) (w' := { w with heap := w.heap.setIfInBounds g (.map ms' t') }) hid (hh _ _ ho hid) hM rfl rfl rfl aP (fun k hk => q2 k hk) (by unfold World.shape?; simp only [q1, hb])
      (fun hext => ⟨g, _, _, rfl, q1, hst, hrm _ (RepM.ext hext _ _ hr)⟩)
    rw [dS] at hK'
    exact bG0
  rcases kt.find w k hok ms.toList hent with ⟨f1, f2⟩ | ⟨j, m, f1, f2, f3⟩
  · have hn : k ∉ ks := fun hin => by
      obtain ⟨m, hm, e⟩ := aF6 kt hr hin
      exact f2 m hm e
    have hset := Go.MapKept.run_setObj_map (P := P) (.map (ms.push { key := kt.kv k, val := .bool true, born := t }) (t + 1)) hb
    refine fin (ms.push { key := kt.kv k, val := .bool true, born := t }) (t + 1) (stamped_push hs f2) (fun C hC => ?_) ?_
    · rw [Array.toList_push, nY, if_neg hn, aI, List.map_append]
      exact RepM.push (kt.repv _ _ k) (by simp only [Rep, RepC]) hC
    · simp [execOp, Instr.mapUpdate, hp, h2, h3, run_underlying ((aM tb hT).mapK hk), Go.MapKept.run_getObj_map hb, hck, f1, hset]
  · obtain ⟨b, hb1, hb2, hb3⟩ := bK5 kt hr f2
    have hbk : b ∈ ks := List.mem_of_getElem? hb1
    have : b = k := kt.inj _ _ (hoks b hbk) hok (hb2.symm.trans f3)
    subst this
    have f2' : ms[j]? = some m := by rw [← Array.getElem?_toList]; exact f2
    have hst := kt.stays w b hok
    have hset := Go.MapKept.run_setObj_map (P := P) (.map (ms.modify j fun e => { e with key := kt.kv b, val := .bool true }) t) hb
    have hls : ms.modify j (fun e => { e with key := kt.kv b, val := .bool true }) = ms := by
      apply Array.ext'
      apply List.ext_getElem?
      intro q
      rw [Array.getElem?_toList, Array.getElem?_modify, Array.getElem?_toList]
      by_cases hq : j = q
      · subst hq
        rw [if_pos rfl, f2']
        obtain ⟨mk, mv, mb⟩ := m
        simp only at f3 hb3
        subst f3 hb3
        rfl
      · rw [if_neg hq]
    refine fin ms t hs (fun C hC => by rw [nY, if_pos hbk]; exact hC) ?_
    rw [hls] at hset
    simp [execOp, Instr.mapUpdate, hp, h2, h3, run_underlying ((aM tb hT).mapK hk), Go.MapKept.run_getObj_map hb, hck, f1, f2', f3, hst, hls, hset]
end
section
variable {P:Program} {tab:Tab} {sz n i n0 m:Nat} {env env0:Env} {h h0 hr:aO} {dfs:bZ} {K:AK} {ops:Array Oper} {l rest:List Oper} {es:List Eat} {ids:List Nat} {T ty:TypeId} {x y z:Operand} {pos:String} {aft:Array Edge} {gd:Option (Nat × Bool)} {id:Nat} {κ:Type} [DecidableEq κ] {K1 E:TypeId} {ks:List κ} {k:κ} {e:TyE}
theorem nT (kt : KeyT P K1 κ) (tb : bK P tab) (hg : guardA ops env ⟨none, .mapUpdate T x y z, ty, pos, aft, gd⟩ true) (hT : aR tab T = some e) (hk : e.kind = .map K1 E) (hx : evA env x = some (.mh id)) (ho : lk h id = some (.tab (aI kt.kc ks))) (hy : evA env y = some (.c (kt.kc k))) (hz : evA env z = some (.c cB1)) (hok : kt.ok k) (hoks : ∀ q ∈ ks, kt.ok q)
    (next : AWL P ops sz rest K n env ((id, .tab (aI kt.kc (nY ks k))) :: h) dfs) : AWL P ops sz (⟨none, .mapUpdate T x y z, ty, pos, aft, gd⟩ :: rest) K n env h dfs :=
  lB (v := .junk) (c := some (id, some (AObj.tab (aI kt.kc (nY ks k))))) (Δ := []) hg rfl (Nat.le_refl _) rfl (cD0 kt tb hT hk hx ho hy hz hok hoks) (fun id h1 h2 => by omega) aP next
end
end Go.Av
namespace Go.Av
open Go Go.RowKit Go.MapKept
def dR7 {P:Program} {K:TypeId} (hd:P.underlying K=some (.int .i64)):KeyT P K Int where
 kc n := .v (.int .i64 n)
 kv n := .int .i64 n
 ok _:=True
 inj a b _ _ h:=by injection h
 rep ok' w a u h:=by simpa only [RepC] using h
 repv ok' w a:=by simp only [RepC]
 check w em a _:=run_checkKey hd (show IsKey (.int .i64) (.int .i64 a) from rfl) em 9999
 find w a _ es hes:=by
  rcases findNow_spec (d := .int .i64) (k := .int .i64 a) rfl es 0 (fun x hx=>by obtain ⟨b,_,hb⟩:=hes x hx;rw [hb];rfl) with ⟨h1,h2⟩|⟨j,e,h1,h2,h3⟩
  ·exact .inl ⟨run_findKey hd h1,h2⟩
  ·exact .inr ⟨j,e,by rw [Nat.zero_add] at h1;exact run_findKey hd h1,h2,h3⟩
 stays w a _:=run_keyThatStays (d := .int .i64) rfl
def uS (P:Program) (K I n:Nat):Bool:=match P.underlying K with
 | some (.struct fs) => fs.all fun f => f.name != "_" && (Nat.beq f.type I && Nat.blt f.offset n)
 | some (.array m e)=>Nat.beq e I&&Nat.beq m n
 | _=>false
theorem wQ {α β:Type} {g:α→Option β}:∀{L:List α},(∀x∈L,∃y,g x=some y)→∃ys,L.mapM g=some ys
 | [],_=>⟨[],rfl⟩
 | x::L,h=>by
  obtain ⟨y,hy⟩:=h x aP
  obtain ⟨ys,hys⟩:=wQ (L:=L) fun z hz=>h z (by simp [hz])
  exact ⟨y::ys,by simp [List.mapM_cons,hy,hys]⟩
def dM7 (n:Int):Prop := -9223372036854775808≤n∧n≤9223372036854775807
theorem oB {P : Program} {K I n : Nat} (hs : uS P K I n = true) (hI : P.underlying I = some (.int .i64)) (hsI : P.cellsOf I = 1) (hsK : P.cellsOf K = n) (hk : P.keyType K = true) (hsz : 1 ≤ P.types.size) (vs : List Int) (hl : vs.length = n) (hv : ∀ v ∈ vs, dM7 v) :
    ∃ l, keyOf P K (.agg (vs.map fun v => Value.int .i64 v).toArray) = some l := by
  obtain ⟨d, hd⟩ : ∃ d, P.types.size = d + 1 := ⟨P.types.size - 1, by omega⟩
  have hcl : (vs.map fun v => Value.int .i64 v).length = n := by rw [List.length_map, hl]
  have hone : ∀ i, i < n → ∃ l, P.keyLits (d + 1) I (((vs.map fun v => Value.int .i64 v).drop i).take 1) = some l := fun i hi => by
    obtain ⟨v, hv'⟩ : ∃ v, vs[i]? = some v := ⟨_, List.getElem?_eq_getElem aA⟩
    obtain ⟨b1, b2⟩ := hv v (List.mem_of_getElem? hv')
    have e : ((vs.map fun v => Value.int .i64 v).drop i).take 1 = [.int .i64 v] := by
      have h1 : (vs.map fun v => Value.int .i64 v)[i]? = some (.int .i64 v) := by rw [List.getElem?_map, hv']; rfl
      obtain ⟨h2, h3⟩ := List.getElem?_eq_some_iff.1 h1
      rw [List.drop_eq_getElem_cons h2, List.take_succ_cons, List.take_zero, h3]
    rw [e]
    refine ⟨[.int .i64 v], ?_⟩
    have hw : (Lit.int .i64 v).wf = true := by
      have e1 : IntKind.i64.min = -9223372036854775808 := by decide
      have e2 : IntKind.i64.max = 9223372036854775807 := by decide
      simp only [Lit.wf, e1, e2, decide_eq_true_eq, Bool.and_eq_true]
      omega
    simp [Program.keyLits, hI, hw]
  have key : ∀ L, (P.keyLits (P.types.size + 1) K (vs.map fun v => Value.int .i64 v)) = some L → (Value.agg (vs.map fun v => Value.int .i64 v).toArray).formed P K = true → (match P.underlying K with | some (.array _ _) | some (.struct _) => true | _ => false) = true → ∃ l, keyOf P K (.agg (vs.map fun v => Value.int .i64 v).toArray) = some l := fun L h1 h2 h3 => by
    unfold keyOf
    split at h3
    · rename_i h; rw [h]; simp [hk, h2, Value.cells, h1]
    · rename_i h; rw [h]; simp [hk, h2, Value.cells, h1]
    · cases h3
  unfold uS at hs
  split at hs
  · rename_i fs hu
    rw [Array.all_eq_true'] at hs
    have hf : ∀ f ∈ fs, (f.name != "_") = true ∧ f.type = I ∧ f.offset < n := fun f hf => by
      have := hs f hf
      simp only [Bool.and_eq_true, Nat.blt_eq] at this
      exact ⟨this.1, Nat.eq_of_beq_eq_true this.2.1, this.2.2⟩
    obtain ⟨ys, hys⟩ := wQ (L := fs.toList) (g := fun f => P.keyLits (d + 1) f.type (((vs.map fun v => Value.int .i64 v).drop f.offset).take (P.cellsOf f.type))) fun f hfm => by
      obtain ⟨_, h2, h3⟩ := hf f (Array.mem_def.2 hfm)
      rw [h2, hsI]
      exact hone _ h3
    refine key ys.flatten ?_ ?_ ?_
    · rw [hd]
      unfold Program.keyLits
      rw [hu]
      simp only
      rw [if_pos ⟨by rw [hcl, hsK], by rw [Array.all_eq_true']; exact fun f hfm => (hf f hfm).1⟩, hys]
      rfl
    · simp [Value.formed, hu, hsK, hl]
    · rw [hu]
  · rename_i m e hu
    simp only [Bool.and_eq_true] at hs
    have he := Nat.eq_of_beq_eq_true hs.1
    have hm := Nat.eq_of_beq_eq_true hs.2
    subst he hm
    obtain ⟨ys, hys⟩ := wQ (L := List.range m) (g := fun i => P.keyLits (d + 1) e (((vs.map fun v => Value.int .i64 v).drop (i * P.cellsOf e)).take (P.cellsOf e))) fun i hi => by
      rw [hsI, Nat.mul_one]
      exact hone i (List.mem_range.1 hi)
    refine key ys.flatten ?_ ?_ ?_
    · rw [hd]
      unfold Program.keyLits
      rw [hu]
      simp only
      rw [if_pos (by rw [hcl, hsK]), hys]
      rfl
    · simp [Value.formed, hu, hsK, hl]
    · rw [hu]
  · cases hs
def aJ0 {P:Program} {K I n:Nat} {κ:Type} (law:WideMaps.KeyLaw P K) (hs:uS P K I n=true) (hI:P.underlying I=some (.int .i64)) (hsI:P.cellsOf I=1) (hsK:P.cellsOf K=n) (hk:P.keyType K=true) (hsz:Nat.ble 1 P.types.size=true) (ls:κ→List Int) (hl:∀a,(ls a).length=n) (hi:∀a b,ls a=ls b→a=b):KeyT P K κ where
 kc a := .agg ((ls a).map fun v => .v (.int .i64 v))
 kv a := .agg ((ls a).map fun v=>Value.int .i64 v).toArray
 ok a:=∀v∈ls a,dM7 v
 inj a b _ _ h:=by
  refine hi a b ?_
  injection h with h
  have h:=congrArg Array.toList h
  simp only [List.toList_toArray] at h
  exact List.map_inj_right (fun x y e=>by injection e) |>.1 h
 rep ok' w a u h:=by
  have h:∃us:List Value,u = .agg us.toArray∧RepCs ok' w ((ls a).map fun v=>CV.v (.int .i64 v)) us∧∀x∈us,x.oneCell'=true:=by simpa only [RepC] using h
  obtain ⟨us,rfl,h,_⟩:=h
  congr 2
  have:∀(l:List Int) (us:List Value),RepCs ok' w (l.map fun v=>CV.v (.int .i64 v)) us→us=l.map fun v=>Value.int .i64 v:=by
   intro l
   induction l with
   | nil=>intro us h;exact h
   | cons x l ih =>
    intro us h
    obtain ⟨u,us',rfl,h1,h2⟩:=h
    simp only [RepC] at h1
    rw [h1,ih us' h2]
    rfl
  exact this _ _ h
 repv ok' w a:=by
  have:RepC ok' w (.agg ((ls a).map fun v=>CV.v (.int .i64 v))) (.agg ((ls a).map fun v=>Value.int .i64 v).toArray)↔∃us:List Value,Value.agg ((ls a).map fun v=>Value.int .i64 v).toArray = .agg us.toArray∧RepCs ok' w ((ls a).map fun v=>CV.v (.int .i64 v)) us∧∀x∈us,x.oneCell'=true:=by simp only [RepC]
  refine this.2 ⟨_,rfl,?_,fun x hx=>?_⟩
  ·generalize ls a=l
   induction l with
   | nil=>rfl
   | cons x l ih=>exact ⟨_,_,rfl,by simp only [RepC],ih⟩
  ·obtain ⟨v,_,rfl⟩:=List.mem_map.1 hx
   rfl
 check w em a ha:=by
  obtain ⟨l,hl'⟩:=oB hs hI hsI hsK hk (Nat.le_of_ble_eq_true hsz) (ls a) (hl a) ha
  exact law.check w em hl'
 find w a ha es hes:=by
  obtain ⟨l,hl'⟩:=oB hs hI hsI hsK hk (Nat.le_of_ble_eq_true hsz) (ls a) (hl a) ha
  exact law.find w hl' es fun e he=>by
   obtain ⟨b,hb1,hb2⟩:=hes e he
   rw [hb2]
   exact oB hs hI hsI hsK hk (Nat.le_of_ble_eq_true hsz) (ls b) (hl b) hb1
 stays w a ha:=by
  obtain ⟨l,hl'⟩:=oB hs hI hsI hsK hk (Nat.le_of_ble_eq_true hsz) (ls a) (hl a) ha
  exact law.stays w hl'
end Go.Av
namespace Go.Av
open Go Go.RowKit
inductive LfK where
 | b
 | i (q:IntKind)
 | s
def mM (P:Program):Nat→TypeId→List LfK
 | 0,_=>[]
 | m+1,t=>match P.underlying t with
  | some .bool=>[.b]
  | some (.int q)=>[.i q]
  | some .string=>[.s]
  | some (.array n e)=>(List.range n).flatMap fun _=>mM P m e
  | some (.struct fs)=>fs.toList.flatMap fun f=>mM P m f.type
  | _=>[]
def eA1:LfK→Value→Prop
 | .b,.bool _=>True
 | .i q,.int q' n=>q'=q∧(Lit.int q n).wf=true
 | .s,.string s=>s.size≤maxLen
 | _,_=>False
def LfL:List LfK→List Value→Prop
 | [],[]=>True
 | k::ks,v::vs=>eA1 k v∧LfL ks vs
 | _,_=>False
theorem LfL.length:∀{ks:List LfK} {vs:List Value},LfL ks vs→ks.length=vs.length
 | [],[],_=>rfl
 | k::ks,v::vs,h=>by simp [LfL.length h.2]
 | [],_::_,h=>h.elim
 | _::_,[],h=>h.elim
theorem LfL.split:∀{p q:List LfK} {vs:List Value},LfL (p++q) vs→LfL p (vs.take p.length)∧LfL q (vs.drop p.length)
 | [],q,vs,h=>by simpa [LfL] using h
 | a::p,q,[],h=>h.elim
 | a::p,q,v::vs,h=>by
  obtain ⟨h1,h2⟩:=LfL.split (p:=p) h.2
  exact ⟨⟨h.1,h1⟩,h2⟩
variable {P:Program}
theorem aS5:∀(fs:List Field) (off tot:Nat),P.runs off fs=some tot→off+(fs.map fun f=>P.cellsOf f.type).sum=tot
 | [],off,tot,h=>by simpa [Program.runs] using h
 | f::r,off,tot,h=>by
  simp only [Program.runs] at h
  split at h
  ·have:=aS5 r _ _ h
   simp only [List.map_cons,List.sum_cons]
   omega
  ·cases h
theorem yQ {α:Type} {f:α→List LfK}:∀l:List α,(l.flatMap f).length=(l.map fun x=>(f x).length).sum
 | []=>rfl
 | x::l=>by rw [List.flatMap_cons,List.length_append,yQ l,List.map_cons,List.sum_cons]
theorem aG0 {c:Nat}:∀l:List Nat,(l.map fun _=>c).sum=l.length*c
 | []=>by simp
 | x::l=>by rw [List.map_cons,List.sum_cons,aG0 l,List.length_cons,Nat.add_mul,Nat.one_mul,Nat.add_comm]
def aA9 (P:Program):Nat→TypeId→Bool
 | 0,_=>true
 | m+1,t=>match P.underlying t with
  | some .bool|some (.int _)|some .string=>Nat.beq (P.cellsOf t) 1
  | some (.array _ e)=>aA9 P m e
  | some (.struct fs)=>fs.all fun f=>aA9 P m f.type
  | _=>true
theorem lN:∀(m:Nat) (t:TypeId),P.tiled m t=true→aA9 P m t=true→(mM P m t).length=P.cellsOf t
 | 0,t,h,_=>by simp [Program.tiled] at h
 | m+1,t,h,ho=>by
  unfold Program.tiled at h
  unfold aA9 at ho
  unfold mM
  cases hu:P.underlying t with
  | none=>simp [hu] at h
  | some kd =>
   cases kd
   case bool=>simp only [hu] at ho;exact (Nat.eq_of_beq_eq_true ho).symm
   case int q=>simp only [hu] at ho;exact (Nat.eq_of_beq_eq_true ho).symm
   case string=>simp only [hu] at ho;exact (Nat.eq_of_beq_eq_true ho).symm
   case array n e =>
    simp only [hu,Bool.and_eq_true,beq_iff_eq] at h ho
    simp only
    rw [yQ,lN m e h.2 ho,aG0,List.length_range,h.1]
   case struct fs =>
    simp only [hu,Bool.and_eq_true,beq_iff_eq] at h ho
    simp only
    rw [yQ]
    have h1:=aS5 _ _ _ h.1
    rw [Nat.zero_add] at h1
    rw [← h1]
    congr 1
    refine List.map_congr_left fun f hf=>?_
    exact lN m f.type (Array.all_eq_true_iff_forall_mem.1 h.2 f (Array.mem_toList_iff.1 hf)) (Array.all_eq_true_iff_forall_mem.1 ho f (Array.mem_toList_iff.1 hf))
   all_goals (simp [hu] at h;done)
theorem vO {g:Field→List LfK} {D:Nat} (cs:List Value):∀(fs:List Field) (off tot:Nat),P.runs off fs=some tot→(∀f∈fs,(g f).length=P.cellsOf f.type)→(∀f∈fs,∀vs,LfL (g f) vs→∃l,P.keyLits D f.type vs=some l)→LfL (fs.flatMap g) (cs.drop off)→∃ys,fs.mapM (fun f=>P.keyLits D f.type ((cs.drop f.offset).take (P.cellsOf f.type)))=some ys
 | [],off,tot,_,_,_,_=>⟨[],rfl⟩
 | f::r,off,tot,h,hl,hk,hL=>by
  simp only [Program.runs] at h
  split at h
  ·rename_i ho
   rw [List.flatMap_cons] at hL
   obtain ⟨h1,h2⟩:=hL.split
   rw [hl f aP] at h1 h2
   rw [List.drop_drop] at h2
   obtain ⟨y,hy⟩:=hk f aP _ h1
   obtain ⟨ys,hys⟩:=vO cs r _ tot h (fun f hf=>hl f (by simp [hf])) (fun f hf=>hk f (by simp [hf])) h2
   exact ⟨y::ys,by rw [List.mapM_cons,ho,hy,hys];rfl⟩
  ·cases h
theorem yW {ks:List LfK} {D c:Nat} {e:TypeId} (hc:ks.length=c) (hk:∀vs,LfL ks vs→∃l,P.keyLits D e vs=some l) (cs:List Value):∀(n j:Nat),LfL ((List.range n).flatMap fun _=>ks) (cs.drop (j*c))→∀i,i<n→∃l,P.keyLits D e ((cs.drop ((j+i)*c)).take c)=some l
 | 0,j,_,i,hi=>by omega
 | n+1,j,hL,i,hi=>by
  rw [List.range_succ_eq_map,List.flatMap_cons,List.flatMap_map] at hL
  obtain ⟨h1,h2⟩:=hL.split
  rw [hc] at h1 h2
  cases i with
  | zero=>rw [Nat.add_zero];exact hk _ h1
  | succ i =>
   rw [List.drop_drop,show j*c+c=(j+1)*c by rw [Nat.add_mul,Nat.one_mul]] at h2
   rw [show j+(i+1)=j+1+i by omega]
   exact yW hc hk cs n (j+1) h2 i aA
theorem lF:∀(m:Nat) (t:TypeId),P.tiled m t=true→P.keyTypeAt m t=true→aA9 P m t=true→∀vs,LfL (mM P m t) vs→∃l,P.keyLits m t vs=some l
 | 0,t,h,_,_,_,_=>by simp [Program.tiled] at h
 | m+1,t,h,hk,ho,vs,hL=>by
  have hlen:=lN (m+1) t h ho
  have hvl:=hL.length
  unfold Program.tiled at h
  unfold Program.keyTypeAt at hk
  unfold aA9 at ho
  unfold mM at hL hlen hvl
  unfold Program.keyLits
  cases hu:P.underlying t with
  | none=>simp [hu] at h
  | some kd =>
   cases kd
   case bool =>
    simp only [hu] at hL
    match vs,hL with
    | [.bool b],_=>exact ⟨_,rfl⟩
   case int q =>
    simp only [hu] at hL
    match vs,hL with
    | [.int q' n],hL=>exact ⟨_,if_pos hL.1⟩
   case string =>
    simp only [hu] at hL
    match vs,hL with
    | [.string s],hL=>exact ⟨_,if_pos hL.1⟩
   case array n e =>
    simp only [hu,Bool.and_eq_true,beq_iff_eq] at h hk ho hL hlen hvl
    obtain ⟨ys,hys⟩:=wQ (L:=List.range n) (g:=fun i=>P.keyLits m e ((vs.drop (i*P.cellsOf e)).take (P.cellsOf e))) fun i hi=>by
     have:=yW (lN m e h.2 ho) (fun vs hv=>lF m e h.2 hk ho vs hv) vs n 0 (by simpa using hL) i (List.mem_range.1 hi)
     rwa [Nat.zero_add] at this
    simp only
    rw [if_pos aA,hys]
    exact ⟨_,rfl⟩
   case struct fs =>
    simp only [hu,Bool.and_eq_true,beq_iff_eq] at h hk ho hL hlen hvl
    have ht:=fun f (hf:f∈fs.toList)=>Array.all_eq_true_iff_forall_mem.1 h.2 f (Array.mem_toList_iff.1 hf)
    have hof:=fun f (hf:f∈fs.toList)=>Array.all_eq_true_iff_forall_mem.1 ho f (Array.mem_toList_iff.1 hf)
    have hkf:=fun f (hf:f∈fs.toList)=>by
     have:=Array.all_eq_true_iff_forall_mem.1 hk.1.1 f (Array.mem_toList_iff.1 hf)
     exact Bool.and_eq_true_iff.1 this
    obtain ⟨ys,hys⟩:=vO (D:=m) vs fs.toList 0 _ h.1 (fun f hf=>lN m f.type (ht f hf) (hof f hf)) (fun f hf vs hv=>lF m f.type (ht f hf) (hkf f hf).2 (hof f hf) vs hv) (by simpa using hL)
    simp only
    rw [if_pos ⟨by omega,Array.all_eq_true_iff_forall_mem.2 fun f hf=>(hkf f (Array.mem_toList_iff.2 hf)).1⟩,hys]
    exact ⟨_,rfl⟩
   all_goals (simp [hu] at h;done)
def aV3 (P:Program) (t:TypeId):Bool:=match P.underlying t with
 | some (.array _ _)|some (.struct _)=>true
 | _=>false
theorem zK {m:Nat} {t:TypeId} (hm:Nat.ble m 10000=true) (ht:P.tiled m t=true) (hk:P.keyTypeAt m t=true) (ho:aA9 P m t=true) (hw:aV3 P t=true) {xs ys:List Value} (hx:LfL (mM P m t) xs) (hy:LfL (mM P m t) ys) (w:World) {r:Bool} (hr:r=true↔xs=ys):(Op.equalIn 10000 t (.agg xs.toArray) (.agg ys.toArray)).run P w = .ok r w:=by
 have hm:m≤10000:=by simpa using hm
 obtain ⟨lx,h1⟩:=lF m t ht hk ho xs hx
 obtain ⟨ly,h2⟩:=lF m t ht hk ho ys hy
 have fm:∀vs:List Value,LfL (mM P m t) vs→(Value.agg vs.toArray).formed P t=true:=fun vs hv=>by
  have hl:=hv.length
  rw [lN m t ht ho] at hl
  unfold aV3 at hw
  unfold Value.formed
  split at hw
  ·rename_i hu;simp [hu,hl]
  ·rename_i hu;simp [hu,hl]
  ·cases hw
 obtain ⟨r',hr',hiff⟩:=run_equalIn_deep (10000-m) m t hk w m m (.agg xs.toArray) (.agg ys.toArray) lx ly (fm xs hx) (fm ys hy) (by simpa [Value.cells] using h1) (by simpa [Value.cells] using h2)
 rw [show 10000-m+m=10000 by omega] at hr'
 rw [hr']
 have e1:=cells_of_lits m t ht m _ _ h1
 have e2:=cells_of_lits m t ht m _ _ h2
 have h3:lx=ly↔xs=ys:=⟨fun h=>by rw [e1,e2,h],fun h=>by rw [h,h2] at h1;injection h1 with h1;exact h1.symm⟩
 have:r'=r:=Bool.eq_iff_iff.2 (hiff.trans (h3.trans hr.symm))
 rw [this]
theorem cL4 {m:Nat} {t:TypeId} (hm:Nat.ble m 10000=true) (ht:P.tiled m t=true) (hk:P.keyTypeAt m t=true) (ho:aA9 P m t=true) (hw:aV3 P t=true) {xs ys:List Value} (hx:LfL (mM P m t) xs) (hy:LfL (mM P m t) ys) (w:World) {r:Bool} (hr:r=true↔xs=ys):(binOp .eql t (.agg xs.toArray) (.agg ys.toArray)).run P w = .ok (.bool r) w:=by
 rw [run_eql_struct,zK hm ht hk ho hw hx hy w hr];rfl
theorem cL6 {m:Nat} {t:TypeId} (hm:Nat.ble m 10000=true) (ht:P.tiled m t=true) (hk:P.keyTypeAt m t=true) (ho:aA9 P m t=true) (hw:aV3 P t=true) {xs ys:List Value} (hx:LfL (mM P m t) xs) (hy:LfL (mM P m t) ys) (w:World) {r:Bool} (hr:r=true↔xs=ys):(binOp .neq t (.agg xs.toArray) (.agg ys.toArray)).run P w = .ok (.bool (!r)) w:=by
 rw [run_neq_struct,zK hm ht hk ho hw hx hy w hr];rfl
section
variable {ev:Evl} {h:aO} {d:Option Tmp} {T ty:TypeId} {x y:Operand} {pos:String} {aft:Array Edge} {gd:Option (Nat × Bool)} {ks:List LfK} {m:Nat} {xs ys:List Value} {cs cs':List CV} {b:Bool} {T':TypeId} (hg:P.eqGuardType P.depth T=false) (hm:Nat.ble m 10000=true) (ht:P.tiled m T=true) (hk:P.keyTypeAt m T=true) (ho:aA9 P m T=true) (hw:aV3 P T=true) (hL:mM P m T=ks) (hx:ev x=some (.c (.agg cs))) (hy:ev y=some (.c (.agg cs'))) (hcx:cs=xs.map CV.v) (hcy:cs'=ys.map CV.v) (hlx:LfL ks xs) (hly:LfL ks ys)
include hg hm ht hk ho hw hL hx hy hcx hcy hlx hly
theorem zS (hb:b=true↔xs=ys):Still P ⟨d,.binOp .eql T x y T',ty,pos,aft,gd⟩ ev h (.c (.v (.bool b))):=by
 intro B dom M H w a hh hc he
 have h1:=he x _ hx
 have h2:=he y _ hy
 subst hcx hcy hL
 simp only [Rep,RepC] at h1 h2
 obtain ⟨us,h1,h3,_⟩:=h1
 obtain ⟨vs,h2,h4,_⟩:=h2
 have h3:=RepCs.of_plain h3
 have h4:=RepCs.of_plain h4
 subst h3 h4
 refine ⟨_,?_,rfl⟩
 have:=cL4 hm ht hk ho hw hlx hly w hb
 simp only [execOp,h1,h2,Sem.run_bind,rB (P:=P) w hg,Result.andThen_ok,this]
 rfl
theorem bB4 (hb:b=true↔xs=ys):Still P ⟨d,.binOp .neq T x y T',ty,pos,aft,gd⟩ ev h (.c (.v (.bool (!b)))):=by
 intro B dom M H w a hh hc he
 have h1:=he x _ hx
 have h2:=he y _ hy
 subst hcx hcy hL
 simp only [Rep,RepC] at h1 h2
 obtain ⟨us,h1,h3,_⟩:=h1
 obtain ⟨vs,h2,h4,_⟩:=h2
 have h3:=RepCs.of_plain h3
 have h4:=RepCs.of_plain h4
 subst h3 h4
 refine ⟨_,?_,rfl⟩
 have:=cL6 hm ht hk ho hw hlx hly w hb
 simp only [execOp,h1,h2,Sem.run_bind,rB (P:=P) w hg,Result.andThen_ok,this]
 rfl
end
end Go.Av
