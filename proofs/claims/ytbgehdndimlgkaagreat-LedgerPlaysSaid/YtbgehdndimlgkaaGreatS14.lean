/- Lemmas for laws of the ledger. -/
import Derived.Test.YtbgehdndimlgkaaGreatS12
import Derived.Test.YtbgehdndimlgkaaGreatS13
set_option linter.all false
set_option maxHeartbeats 16000000
namespace Go.Proofs.YtbgehdndimlgkaaGreat
open Go Go.RowKit Go.Av
set_option maxRecDepth 100000
def ecR (e:LEn):D1:=ecs e e.vs.length e.ss.length
def lec (l:List LEn):D1:=l.flatMap ecR
def OkL (l:List LEn):Prop:=∀e∈l,e.wf/\aT e.k/\e.sz
theorem lQ {e:LEn} (h:e.wf):(ecR e).length=65:=cK h.root _ _
theorem aB7 {α:Type} {f:α->D1} {k:Nat}:∀{l:List α} {i:Nat} {a:α},(∀a∈l,(f a).length=k)->l[i]? = some a->((l.flatMap f).drop (i*k)).take k=f a
 | [],i,a,_,e=>by simp at e
 | b::l,0,a,h,e=>by
  simp only [Bx,Option.some.injEq] at e
  subst e
  rw [Cf,AY,A5,AD (by rw [h b aU];exact Ah _),Ad (by rw [h b aU];exact Ah _)]
 | b::l,i+1,a,h,e=>by
  have hb:=h b aU
  rw [A5,BW,hb,AG (by rw [hb,AM];omega),Ay,show (i+1)*k-k=i*k by rw [AM];omega]
  exact aB7 (fun a ha=>h a (by simp [ha])) (by simpa using e)
theorem wB {α:Type} {f:α->D1} {k:Nat}:∀{l:List α},(∀a∈l,(f a).length=k)->(l.flatMap f).length=l.length*k
 | [],_=>by simp
 | b::l,h=>by rw [A5,Aa,h b aU,wB fun a ha=>h a (by simp [ha]),Au,AM];omega
section
variable {l:List LEn} (h:OkL l)
include l h
theorem fX:(lec l).length=l.length*65:=wB fun e he=>lQ (h e he).1
theorem wH {i:Nat} {e:LEn} (he:l[i]? = some e):((lec l).drop (i*65)).take 65=ecR e:=aB7 (fun e he=>lQ (h e he).1) he
theorem fN {i:Nat} {e:LEn} (he:l[i]? = some e) (j:Nat) (hj:j<65):(lec l)[i*65+j]? = (ecR e)[j]? := by
 rw [<- wH h he,AU,Ak hj,AR]
theorem OkL.take (i:Nat):OkL (l.take i):=fun e he=>h e (AI he)
end
theorem aJ1 {α : Type} {p : α -> Prop} : ∀ {l : List α}, (∃ x ∈ l, p x) -> ∃ (j : Nat) (x : α), l[j]? = some x /\ p x /\ ∀ (q : Nat) (y : α), q < j -> l[q]? = some y -> ¬ p y
  | [], h => by obtain ⟨x, hx, _⟩ := h; simp at hx
  | y :: l, h => by
    by_cases e : p y
    · exact ⟨0, y, rfl, e, fun q x hq => by omega⟩
    · obtain ⟨j, x, h1, h2, h3⟩ := aJ1 (l := l) (by
        obtain ⟨x, hx, hp⟩ := h
        rcases A6.1 hx with rfl | hx
        · exact absurd hp e
        · exact ⟨x, hx, hp⟩)
      refine ⟨j + 1, x, by simpa using h1, h2, fun q z hq hz => ?_⟩
      cases q with
      | zero => simp at hz; rw [<- hz]; exact e
      | succ q => exact h3 q z aA (by simpa using hz)
theorem iF {α:Type} {l:List α} {i:Nat} {x:α} (h:l[i]? = some x):l.take (i+1)=l.take i++[x]:=by rw [B8,h];rfl
theorem aW9 {α:Type} {lt:α->α->Prop} (v:α):∀l:List α,(insA lt v l).length<=l.length+1
 | []=>by simp [insA]
 | y::l=>by
  have:=aW9 (lt:=lt) v l
  rw [insA]
  split
  ·simp
  ·split
   ·simp
   ·simp only [Au];omega
theorem kX {α:Type} {lt:α->α->Prop} (l:List α):(ascL lt l).length<=l.length:=by
 refine aF3 (p:=fun l=>(ascL lt l).length<=l.length) (by simp [ascL]) (fun l v ih=>?_) l
 have:=aW9 (lt:=lt) v (ascL lt l)
 rw [nP,Aa,Ca]
 omega
section
variable {l:List LEn} (h:OkL l)
include l h
theorem tP:(iY l).length<=l.length*1000:=by
 induction l with
 | nil=>simp [iY]
 | cons e l ih =>
  have:=ih fun x hx=>h x (by simp [hx])
  have hs:=(h e aU).2.2.vs
  unfold iY at *
  rw [A5,Aa,Au,AM]
  split
  ·omega
  ·rw [Bt];omega
theorem aL8:(lO l).length<=l.length*1000:=by
 induction l with
 | nil=>simp [lO]
 | cons e l ih =>
  have:=ih fun x hx=>h x (by simp [hx])
  have hs:=(h e aU).2.2.ss
  unfold lO at *
  rw [A5,Aa,Au,AM]
  split
  ·omega
  ·rw [Bt];omega
theorem yF:∀v∈iY l,oG v:=fun v hv=>by
 unfold iY at hv
 obtain ⟨e,he,hv⟩:=List.mem_flatMap.1 hv
 split at hv
 ·exact (h e he).1.vs v hv
 ·simp at hv
theorem aL9:∀v∈lO l,sP v:=fun v hv=>by
 unfold lO at hv
 obtain ⟨e,he,hv⟩:=List.mem_flatMap.1 hv
 split at hv
 ·exact (h e he).1.ss v hv
 ·simp at hv
end
theorem bE6 (l:List LEn) (e:LEn) (p:Int):doneS (l++[e]) p=if e.k=3/\e.plan=p then insA (fun a b:Int=>a<b) e.step (doneS l p) else doneS l p:=by
 unfold doneS
 rw [List.filter_append,Dj]
 by_cases h:e.k=3/\e.plan=p
 ·rw [Ak h,CF,Ak (AP h),List.filter_nil,List.map_singleton,nP]
 ·rw [Aj h,CF,Aj oW,List.filter_nil,C7,A4]
theorem cB9 {P:Dv} {sz n:Nat} {c:Code} {K:AK} {env:Env} {h:aO} {dfs:cD} (t:Nat) {x:CV} (y:CV) (hx:lkE env t=some (.c x)) (hc:Cv x y) (next:AW P sz c K n ((t,.c y)::env) h dfs):AW P sz c K n env h dfs:=by
 intro B a w hcn
 obtain ⟨M,c1,c2,c3,c4⟩:=hcn
 refine next B a w ⟨M,c1,c2,fun t' av ht=>?_,c4⟩
 rw [eZ] at ht
 split at ht
 ·rename_i e
  subst e
  injection ht with ht
  subst ht
  have:=c3 _ _ hx
  simp only [Rep] at this ⊢
  exact hc _ _ _ this
 ·exact c3 t' av ht
attribute [local irreducible] Still Adds AWL AW Drw bX bY AC AWR cU Frz Go.Av.Src cQ Out InK ItK AsK RdK eP eI ACT ACA eW lec
section
variable (l:List LEn) (n:Nat) (hn:l.length=n)
include l n hn
theorem aK2 (hb:n<=1000000) (hw:OkL l) (k:Int) (r:Nat) (hr:nV l k=r):qC' 86 [.sl 65 n (lec l),iv k] (.c (iv r)) [] 0:=by
 have hll:(lec l).length=n*65:=by rw [fX hw,hn]
 obtain ⟨D,hD⟩:∃D:Nat->Nat,∀i,nV (l.take i) k=D i:=⟨_,fun _=>rfl⟩
 have hDn:D n=r:=by rw [<- hD,Ad aA,hr]
 have hD0:D 0=0:=by rw [<- hD];rfl
 have hDb:∀i,D i<=n:=fun i=>by
  rw [<- hD]
  unfold nV
  have h1:=BK (fun e:LEn=>decide (e.k=k)) (l.take i)
  rw [As] at h1
  omega
 refine aD aB (sz:=23) Tryz.func86 rfl (by rw [Tryz.ntmps86];rfl) ?_
 repeat' (first|(refine aC ?_;intro K hK hX)|refine zM ?_|(refine aG hK hX ?_;clear hK hX K)|fail)
 refine bH [6,5] [] rfl rfl (fun i:Nat=>[(6,.c (iv i)),(5,.c (iv (D i)))]) (fun i=>[]) (fun i=>i<=n) (fun i=>n-i) 0 (Am _) (by refine dW rfl ?_ ?_ rfl<;>(repeat' (first|exact cO|exact cP|refine cG rfl dP6 rfl ?_|refine bD rfl dP6 rfl ?_|refine bD rfl (by first|rfl|(first|rfl|exact congrArg (fun x:Nat=>AV.c (iv x)) hD0.symm)) dO ?_))) ?_
 intro i hi K hK hX
 by_cases hlt:i<n
 ·obtain ⟨e,hat⟩:∃e,l[i]? = some e:=⟨_,Ab aA⟩
  have hk0:=fN hw hat 0 aN
  rw [show (ecR e)[0]? = some (iv e.k) from rfl] at hk0
  have hs:D (i+1)=D i+if e.k=k then 1 else 0:=by rw [<- hD,<- hD,iF hat,jT]
  have hdi:=hDb i
  by_cases hkk:e.k=k
  ·rw [Ak hkk] at hs
   repeat' (first|(refine aC ?_;intro K hK hX)|refine aM3 ?_|(refine aG hK hX ?_;clear hK hX K)|fail)
   exact ⟨i+1,by omega,by omega,dX1⟩
  ·rw [Aj hkk] at hs
   repeat' (first|(refine aC ?_;intro K hK hX)|refine aM3 ?_|(refine aG hK hX ?_;clear hK hX K)|fail)
   exact ⟨i+1,by omega,by omega,dX1⟩
 ·obtain hin:i=n:=by omega
  rw [hin,hDn] at *
  repeat' (first|(refine aC ?_;intro K hK hX)|refine zM ?_|(refine aG hK hX ?_;clear hK hX K)|fail)
  exact aY
theorem cQ9 (hb:n<=1000000) (hw:OkL l) (k p:Int) (r:Bool) (hr:r=true↔jZ l k p):qC' 83 [.sl 65 n (lec l),iv k,iv p] (.c (bv r)) [] 0:=by
 have hll:(lec l).length=n*65:=by rw [fX hw,hn]
 by_cases hm:jZ l k p
 ·obtain rfl:r=true:=hr.2 hm
  obtain ⟨j0,x0,hj,⟨hp1,hp2⟩,hne⟩:=aJ1 hm
  have hjn:j0<n:=by rw [<- hn];exact (Ag.1 hj).1
  refine aD aB (sz:=30) Tryz.func83 rfl (by rw [Tryz.ntmps83];rfl) ?_
  repeat' (first|(refine aC ?_;intro K hK hX)|refine aK [0,1,2,6,7] ?_|refine stA ?_|(refine aG hK hX ?_;clear hK hX K)|fail)
  refine bH [7] [] rfl rfl (fun i:Nat=>[(7,.c (iv i))]) (fun i=>[]) (fun i=>i<=j0) (fun i=>j0-i) 0 (Am _) dF ?_
  intro i hi K hK hX
  by_cases hlt:i<j0
  ·obtain ⟨e,hat⟩:∃e,l[i]? = some e:=⟨_,Ab aA⟩
   have hk0:=fN hw hat 0 aN
   rw [show (ecR e)[0]? = some (iv e.k) from rfl] at hk0
   have hk2:=fN hw hat 2 aN
   rw [show (ecR e)[2]? = some (iv e.plan) from rfl] at hk2
   have hno:=hne i e hlt hat
   by_cases hkk:e.k=k
   ·have hpp:¬e.plan=p:=fun h=>hno ⟨hkk,h⟩
    repeat' (first|(refine aC ?_;intro K hK hX)|refine aT6 ?_|(refine aG hK hX ?_;clear hK hX K)|fail)
    exact dS
   ·repeat' (first|(refine aC ?_;intro K hK hX)|refine aT6 ?_|(refine aG hK hX ?_;clear hK hX K)|fail)
    exact dS
  ·have hij:i=j0:=by omega
   rw [hij]
   have hk0:=fN hw hj 0 aN
   rw [show (ecR x0)[0]? = some (iv x0.k) from rfl,hp1] at hk0
   have hk2:=fN hw hj 2 aN
   rw [show (ecR x0)[2]? = some (iv x0.plan) from rfl,hp2] at hk2
   repeat' (first|(refine aC ?_;intro K hK hX)|refine aT6 ?_|(refine aG hK hX ?_;clear hK hX K)|fail)
   exact aY
 ·obtain rfl:r=false:=by cases r;rfl;exact absurd (hr.1 rfl) hm
  refine aD aB (sz:=30) Tryz.func83 rfl (by rw [Tryz.ntmps83];rfl) ?_
  repeat' (first|(refine aC ?_;intro K hK hX)|refine aK [0,1,2,6,7] ?_|refine stA ?_|(refine aG hK hX ?_;clear hK hX K)|fail)
  refine bH [7] [] rfl rfl (fun i:Nat=>[(7,.c (iv i))]) (fun i=>[]) (fun i=>i<=n) (fun i=>n-i) 0 (Am _) dF ?_
  intro i hi K hK hX
  by_cases hlt:i<n
  ·obtain ⟨e,hat⟩:∃e,l[i]? = some e:=⟨_,Ab aA⟩
   have hk0:=fN hw hat 0 aN
   rw [show (ecR e)[0]? = some (iv e.k) from rfl] at hk0
   have hk2:=fN hw hat 2 aN
   rw [show (ecR e)[2]? = some (iv e.plan) from rfl] at hk2
   by_cases hkk:e.k=k
   ·have hpp:¬e.plan=p:=fun h=>hm ⟨e,Af hat,hkk,h⟩
    repeat' (first|(refine aC ?_;intro K hK hX)|refine aT6 ?_|(refine aG hK hX ?_;clear hK hX K)|fail)
    exact dS
   ·repeat' (first|(refine aC ?_;intro K hK hX)|refine aT6 ?_|(refine aG hK hX ?_;clear hK hX K)|fail)
    exact dS
  ·repeat' (first|(refine aC ?_;intro K hK hX)|refine aK [0,1,2,6,7] ?_|refine stA ?_|(refine aG hK hX ?_;clear hK hX K)|fail)
   exact aY
theorem bH4 (hb:n<=1000) (hw:OkL l) (q:Nat) (hq:(erasV l).length=q):qC' 48 [.sl 65 n (lec l)] (.c (.sl 3 q (vrc (erasV l)))) [] 0:=by
 have hll:(lec l).length=n*65:=by rw [fX hw,hn]
 obtain ⟨D,hD⟩:∃D:Nat->List Ver,∀i,ascL ltV (iY (l.take i))=D i:=⟨_,fun _=>rfl⟩
 obtain ⟨o,ho⟩:∃o:Nat->Nat,∀i,(D i).length=o i:=⟨_,fun _=>rfl⟩
 have hDn:D n=erasV l:=by rw [<- hD,Ad aA];rfl
 have hon:o n=q:=by rw [<- ho,hDn,hq]
 have hD0:D 0=[]:=by rw [<- hD];rfl
 have ho0:o 0=0:=by rw [<- ho,hD0];rfl
 refine aD aB (sz:=41) Tryz.func48 rfl (by rw [Tryz.ntmps48];rfl) ?_
 repeat' (first|(refine aC ?_;intro K hK hX)|refine sS ?_|(refine aG hK hX ?_;clear hK hX K)|fail)
 refine cB9 3 (.sl 3 0 []) rfl gM ?_
 refine bH [4,3] [] rfl rfl (fun i:Nat=>[(4,.c (iv i)),(3,.c (.sl 3 (o i) (vrc (D i))))]) (fun i=>[]) (fun i=>i<=n) (fun i=>n-i) 0 (Am _) dX2 ?_
 intro i hi K hK hX
 by_cases hlt:i<n
 ·obtain ⟨e,hat⟩:∃e,l[i]? = some e:=⟨_,Ab aA⟩
  have hk0:=fN hw hat 0 aN
  rw [show (ecR e)[0]? = some (iv e.k) from rfl] at hk0
  have hk1:=fN hw hat 31 aN
  rw [show (ecR e)[31]? = some (.sl 3 e.vs.length (vrc e.vs)) from rfl] at hk1
  have hs:D (i+1)=ascL ltV (iY (l.take i)++if e.k=2 then e.vs else []):=by rw [<- hD,iF hat,nO]
  have hbd:(iY (l.take i)).length<=i*1000:=At (tP (hw.take i)) kE
  have hvok:=yF (hw.take i)
  have hev:=(hw e (Af hat)).1.vs
  have hes:=(hw e (Af hat)).2.2.vs
  by_cases h2:e.k=2
  ·rw [Ak h2] at hs
   generalize e.vs=vs at *
   obtain ⟨m,hm⟩:∃m,vs.length=m:=⟨_,rfl⟩
   have hvl:(vrc vs).length=m*3:=by rw [dC,hm]
   rw [hm] at hk1 hes
   rw [h2] at hk0
   obtain ⟨F,hF⟩:∃F:Nat->List Ver,∀k,ascL ltV (iY (l.take i)++vs.take k)=F k:=⟨_,fun _=>rfl⟩
   obtain ⟨f,hf⟩:∃f:Nat->Nat,∀k,(F k).length=f k:=⟨_,fun _=>rfl⟩
   have hF0:F 0=D i:=by rw [<- hF,<- hD,C9,A4]
   have hf0:f 0=o i:=by rw [<- hf,<- ho,hF0]
   have hFm:F m=D (i+1):=by rw [<- hF,hs,Ad (l:=vs) aA]
   have hfm:f m=o (i+1):=by rw [<- hf,<- ho,hFm]
   repeat' (first|(refine aC ?_;intro K hK hX)|refine sS ?_|(refine aG hK hX ?_;clear hK hX K)|fail)
   refine bH [5,3] [] rfl rfl (fun k:Nat=>[(5,.c (iv k)),(3,.c (.sl 3 (f k) (vrc (F k))))]) (fun k=>[]) (fun k=>k<=m) (fun k=>m-k) 0 (Am _) eF5 ?_
   intro k hk K hK hX
   by_cases hkm:k<m
   ·obtain ⟨v,hvt⟩:∃v,vs[k]? = some v:=⟨_,Ab aA⟩
    have hx:=eG hvt
    have hfs:F (k+1)=insA ltV v (F k):=by rw [<- hF,<- hF,iF hvt,<- Ao,nP]
    have hfl:f k<=1000000:=by
     have:=kX (lt:=ltV) (iY (l.take i)++vs.take k)
     rw [hF,hf,Aa,As] at this
     have:i*1000<=999000:=by omega
     omega
    have hins:=cR2 (F k) (f k) (hf k) hfl (fun x hx=>by
     rw [<- hF] at hx
     rcases Az.1 (((dQ slo_V _).2 x).1 hx) with h|h
     ·exact hvok x h
     ·exact hev x (AI h)) (by rw [<- hF];exact (dQ slo_V _).1) v (hev v (Af hvt)) (f (k+1)) (by rw [<- hfs,hf])
    rw [<- hfs] at hins
    clear hF hD hs hvok hev
    repeat' (first|(refine aC ?_;intro K hK hX)|refine cD1 ?_|(refine aG hK hX ?_;clear hK hX K)|fail)
    exact ⟨k+1,by omega,by omega,dF⟩
   ·have hkk:k=m:=by omega
    rw [hkk]
    clear hF hD hs hvok hev
    rw [hfm,hFm]
    repeat' (first|(refine aC ?_;intro K hK hX)|refine aM4 ?_|(refine aG hK hX ?_;clear hK hX K)|fail)
    exact dS
  ·rw [Aj h2,A4,hD] at hs
   have hos:o (i+1)=o i:=by rw [<- ho,<- ho,hs]
   repeat' (first|(refine aC ?_;intro K hK hX)|refine sS ?_|(refine aG hK hX ?_;clear hK hX K)|fail)
   refine bH [5] [] rfl rfl (fun k:Nat=>[(5,.c (iv k))]) (fun k=>[]) (fun k=>k=0) (fun k=>0) 0 rfl dF ?_
   intro k hk K hK hX
   rw [hk]
   repeat' (first|(refine aC ?_;intro K hK hX)|refine aM4 ?_|(refine aG hK hX ?_;clear hK hX K)|fail)
   exact bN3
 ·obtain hin:i=n:=by omega
  rw [hin,hon,hDn] at *
  repeat' (first|(refine aC ?_;intro K hK hX)|refine sS ?_|(refine aG hK hX ?_;clear hK hX K)|fail)
  exact aY
theorem aZ0 (hb:n<=1000) (hw:OkL l) (q:Nat) (hq:(erasS l).length=q):qC' 50 [.sl 65 n (lec l)] (.c (.sl 2 q (src (erasS l)))) [] 0:=by
 have hll:(lec l).length=n*65:=by rw [fX hw,hn]
 obtain ⟨D,hD⟩:∃D:Nat->List Src,∀i,ascL ltS (lO (l.take i))=D i:=⟨_,fun _=>rfl⟩
 obtain ⟨o,ho⟩:∃o:Nat->Nat,∀i,(D i).length=o i:=⟨_,fun _=>rfl⟩
 have hDn:D n=erasS l:=by rw [<- hD,Ad aA];rfl
 have hon:o n=q:=by rw [<- ho,hDn,hq]
 have hD0:D 0=[]:=by rw [<- hD];rfl
 have ho0:o 0=0:=by rw [<- ho,hD0];rfl
 refine aD aB (sz:=41) Tryz.func50 rfl (by rw [Tryz.ntmps50];rfl) ?_
 repeat' (first|(refine aC ?_;intro K hK hX)|refine sS ?_|(refine aG hK hX ?_;clear hK hX K)|fail)
 refine cB9 3 (.sl 2 0 []) rfl gM ?_
 refine bH [4,3] [] rfl rfl (fun i:Nat=>[(4,.c (iv i)),(3,.c (.sl 2 (o i) (src (D i))))]) (fun i=>[]) (fun i=>i<=n) (fun i=>n-i) 0 (Am _) dX2 ?_
 intro i hi K hK hX
 by_cases hlt:i<n
 ·obtain ⟨e,hat⟩:∃e,l[i]? = some e:=⟨_,Ab aA⟩
  have hk0:=fN hw hat 0 aN
  rw [show (ecR e)[0]? = some (iv e.k) from rfl] at hk0
  have hk1:=fN hw hat 32 aN
  rw [show (ecR e)[32]? = some (.sl 2 e.ss.length (src e.ss)) from rfl] at hk1
  have hs:D (i+1)=ascL ltS (lO (l.take i)++if e.k=2 then e.ss else []):=by rw [<- hD,iF hat,uV]
  have hbd:(lO (l.take i)).length<=i*1000:=At (aL8 (hw.take i)) kE
  have hvok:=aL9 (hw.take i)
  have hev:=(hw e (Af hat)).1.ss
  have hes:=(hw e (Af hat)).2.2.ss
  by_cases h2:e.k=2
  ·rw [Ak h2] at hs
   generalize e.ss=vs at *
   obtain ⟨m,hm⟩:∃m,vs.length=m:=⟨_,rfl⟩
   have hvl:(src vs).length=m*2:=by rw [dV,hm]
   rw [hm] at hk1 hes
   rw [h2] at hk0
   obtain ⟨F,hF⟩:∃F:Nat->List Src,∀k,ascL ltS (lO (l.take i)++vs.take k)=F k:=⟨_,fun _=>rfl⟩
   obtain ⟨f,hf⟩:∃f:Nat->Nat,∀k,(F k).length=f k:=⟨_,fun _=>rfl⟩
   have hF0:F 0=D i:=by rw [<- hF,<- hD,C9,A4]
   have hf0:f 0=o i:=by rw [<- hf,<- ho,hF0]
   have hFm:F m=D (i+1):=by rw [<- hF,hs,Ad (l:=vs) aA]
   have hfm:f m=o (i+1):=by rw [<- hf,<- ho,hFm]
   repeat' (first|(refine aC ?_;intro K hK hX)|refine sS ?_|(refine aG hK hX ?_;clear hK hX K)|fail)
   refine bH [5,3] [] rfl rfl (fun k:Nat=>[(5,.c (iv k)),(3,.c (.sl 2 (f k) (src (F k))))]) (fun k=>[]) (fun k=>k<=m) (fun k=>m-k) 0 (Am _) eF5 ?_
   intro k hk K hK hX
   by_cases hkm:k<m
   ·obtain ⟨v,hvt⟩:∃v,vs[k]? = some v:=⟨_,Ab aA⟩
    have hx:=eV hvt
    have hfs:F (k+1)=insA ltS v (F k):=by rw [<- hF,<- hF,iF hvt,<- Ao,nP]
    have hfl:f k<=1000000:=by
     have:=kX (lt:=ltS) (lO (l.take i)++vs.take k)
     rw [hF,hf,Aa,As] at this
     have:i*1000<=999000:=by omega
     omega
    have hins:=cR4 (F k) (f k) (hf k) hfl (fun x hx=>by
     rw [<- hF] at hx
     rcases Az.1 (((dQ slo_S _).2 x).1 hx) with h|h
     ·exact hvok x h
     ·exact hev x (AI h)) (by rw [<- hF];exact (dQ slo_S _).1) v (hev v (Af hvt)) (f (k+1)) (by rw [<- hfs,hf])
    rw [<- hfs] at hins
    clear hF hD hs hvok hev
    repeat' (first|(refine aC ?_;intro K hK hX)|refine cD1 ?_|(refine aG hK hX ?_;clear hK hX K)|fail)
    exact ⟨k+1,by omega,by omega,dF⟩
   ·have hkk:k=m:=by omega
    rw [hkk]
    clear hF hD hs hvok hev
    rw [hfm,hFm]
    repeat' (first|(refine aC ?_;intro K hK hX)|refine aM4 ?_|(refine aG hK hX ?_;clear hK hX K)|fail)
    exact dS
  ·rw [Aj h2,A4,hD] at hs
   have hos:o (i+1)=o i:=by rw [<- ho,<- ho,hs]
   repeat' (first|(refine aC ?_;intro K hK hX)|refine sS ?_|(refine aG hK hX ?_;clear hK hX K)|fail)
   refine bH [5] [] rfl rfl (fun k:Nat=>[(5,.c (iv k))]) (fun k=>[]) (fun k=>k=0) (fun k=>0) 0 rfl dF ?_
   intro k hk K hK hX
   rw [hk]
   repeat' (first|(refine aC ?_;intro K hK hX)|refine aM4 ?_|(refine aG hK hX ?_;clear hK hX K)|fail)
   exact bN3
 ·obtain hin:i=n:=by omega
  rw [hin,hon,hDn] at *
  repeat' (first|(refine aC ?_;intro K hK hX)|refine sS ?_|(refine aG hK hX ?_;clear hK hX K)|fail)
  exact aY
end
theorem cR1 (l:List Int) (n:Nat) (hn:l.length=n) (hb:n<=1000000) (hs:l.Pairwise fun a b:Int=>a<b) (v:Int) (q:Nat) (hq:(insA (fun a b:Int=>a<b) v l).length=q):qC' 118 [.sl 1 n (dE .i64 l),iv v] (.c (.sl 1 q (dE .i64 (insA (fun a b:Int=>a<b) v l)))) [] 0:=by
 have hil:(dE .i64 l).length=n:=by rw [fF,hn]
 have hat:∀{l:List Int} {i:Nat} {x:Int},l[i]? = some x->(dE .i64 l)[i]? = some (iv x):=fun h=>by unfold dE;rw [Bv,h];rfl
 have hset:∀(l:List Int) (i:Nat) (x:Int),(dE .i64 l).set i (iv x)=dE .i64 (l.set i x):=fun l i x=>by unfold dE;rw [List.map_set]
 by_cases hm:v∈l
 ·rw [aC2 bB3 hs hm] at hq ⊢
  obtain rfl:n=q:=by omega
  obtain ⟨j0,hj,hne⟩:=tZ hm
  have hjn:j0<n:=by rw [<- hn];exact (Ag.1 hj).1
  refine aD aB (sz:=63) Tryz.func118 rfl (by rw [Tryz.ntmps118];rfl) ?_
  repeat' (first|(refine aC ?_;intro K hK hX)|refine aH3 ?_|(refine aG hK hX ?_;clear hK hX K)|fail)
  refine bH [5] [] rfl rfl (fun i:Nat=>[(5,.c (iv i))]) (fun i=>[]) (fun i=>i<=j0) (fun i=>j0-i) 0 (Am _) dF ?_
  intro i hi K hK hX
  by_cases hlt:i<j0
  ·obtain ⟨x,hxt⟩:∃x,l[i]? = some x:=⟨_,Ab aA⟩
   have hx:=hat hxt
   have hno:=hne i x hlt hxt
   repeat' (first|(refine aC ?_;intro K hK hX)|refine bL9 ?_|(refine aG hK hX ?_;clear hK hX K)|fail)
   exact dS
  ·have hij:i=j0:=by omega
   rw [hij]
   have hx:=hat hj
   repeat' (first|(refine aC ?_;intro K hK hX)|refine bL9 ?_|(refine aG hK hX ?_;clear hK hX K)|fail)
   exact aY
 ·obtain ⟨m,m1,m2,m3⟩:=aQ4 bB3 hs hm
  rw [hn] at m1
  rw [aQ5 bB3 hs m2 m3] at hq ⊢
  obtain rfl:n+1=q:=by rw [<- hq,Aa,Au,As,A0];omega
  have hL:dE .i64 l++[iv v]=dE .i64 (l.take n++v::l.drop n):=by
   rw [Ad aA,AG aA]
   simp [dE]
  refine aD aB (sz:=63) Tryz.func118 rfl (by rw [Tryz.ntmps118];rfl) ?_
  repeat' (first|(refine aC ?_;intro K hK hX)|refine aH3 ?_|(refine aG hK hX ?_;clear hK hX K)|fail)
  refine bH [5] [] rfl rfl (fun i:Nat=>[(5,.c (iv i))]) (fun i=>[]) (fun i=>i<=n) (fun i=>n-i) 0 (Am _) dF ?_
  intro i hi K hK hX
  by_cases hlt:i<n
  ·obtain ⟨x,hxt⟩:∃x,l[i]? = some x:=⟨_,Ab aA⟩
   have hx:=hat hxt
   have hno:¬x=v:=fun h=>hm aU1
   repeat' (first|(refine aC ?_;intro K hK hX)|refine bL9 ?_|(refine aG hK hX ?_;clear hK hX K)|fail)
   exact dS
  ·repeat' (first|(refine aC ?_;intro K hK hX)|refine aK [0,1,4,5,6,7] ?_|((with_reducible refine aQ (i:=6) ?_);refine aP [0,1,4,5,6,7] rfl rfl ?_;refine bW [] ?_)|((with_reducible refine aQ ?_);refine aP [0,1,4,5,6,7] rfl rfl ?_;refine cJ [] ?_)|refine stA ?_|refine stD ?_|refine stE ?_|(refine aG hK hX ?_;clear hK hX K)|fail)
   refine bH [7,29,28,27] [3] rfl rfl (fun k:Nat=>[(7,.c (iv k))]) (fun k=>[(3,.row 3 (dE .i64 (l.take k++v::l.drop k)))]) (fun k=>m<=k/\k<=n) (fun k=>k) n ⟨m1,Ah _⟩ dX0 ?_
   rintro k ⟨hk1,hk2⟩ K hK hX
   have hlen:(l.take k++v::l.drop k).length=n+1:=by rw [Aa,Au,As,A0];omega
   have hrl:(dE .i64 (l.take k++v::l.drop k)).length=(0+n+1)*1:=by rw [fF,hlen];omega
   have hk:(l.take k++v::l.drop k)[k]? = some v:=by rw [AT kE,As,B0 aA,BU];rfl
   have hx:=hat hk
   by_cases h0:k=0
   ·have hRm:dE .i64 (l.take k++v::l.drop k)=dE .i64 (l.take m++v::l.drop m):=by rw [show k=m by omega]
    generalize hR:dE .i64 (l.take k++v::l.drop k)=R at *
    rw [h0]
    repeat' (first|(refine aC ?_;intro K hK hX)|refine aH3 ?_|(refine aG hK hX ?_;clear hK hX K)|fail)
    exact aI3
   ·obtain ⟨u,hut⟩:∃u,l[k-1]? = some u:=⟨_,Ab aA⟩
    have hk':(l.take k++v::l.drop k)[k-1]? = some u:=by rw [AL kE,AU,Ak aA];exact hut
    have hxu:=hat hk'
    have hxu:(dE .i64 (l.take k++v::l.drop k))[0+((k:Int)-1).toNat*1]? = some (iv u):=by rw [show 0+((k:Int)-1).toNat*1=k-1 from by omega];exact hxu
    have hx:(dE .i64 (l.take k++v::l.drop k))[0+k*1]? = some (iv v):=by rw [Aq,A8];exact hx
    by_cases hlt:m<k
    ·have hvu:v<u:=m3 (k-1) u aA hut
     have hs1:(dE .i64 (l.take k++v::l.drop k)).set (0+((k:Int)-1).toNat*1) (iv v)=dE .i64 ((l.take k++v::l.drop k).set (k-1) v):=by
      rw [show 0+((k:Int)-1).toNat*1=k-1 from by omega,hset]
     have hs2:(dE .i64 ((l.take k++v::l.drop k).set (k-1) v)).set (0+k*1) (iv u)=dE .i64 (l.take (k-1)++v::l.drop (k-1)):=by
      rw [show 0+k*1=k from by omega,<- aF6 aA aA hut,hset]
     have hl1:(dE .i64 ((l.take k++v::l.drop k).set (k-1) v)).length=(0+n+1)*1:=by rw [fF,Cl,hlen];omega
     rw [<- hs1] at hs2 hl1
     clear hs1
     generalize hR:dE .i64 (l.take k++v::l.drop k)=R at *
     repeat' (first|(refine aC ?_;intro K hK hX)|refine aK [0,1,4,5,6,7] ?_|((with_reducible refine lA ?_);refine eY aE (mX rfl) ?_)|((with_reducible refine aQ (i:=10) ?_);refine aP [0,1,4,5,6,7] rfl rfl ?_;refine bW [] ?_)|((with_reducible refine aQ ?_);refine aP [0,1,4,5,6,7] rfl rfl ?_;refine cJ [] ?_)|refine iB ?_|((with_reducible refine fS ?_);(refine eQ aB aE rfl rfl rfl rfl rfl rfl (by first|first|omega|(rw [hl1];omega)|exact A7 rfl|omega|(simp<;>omega)) ?_))|(refine vV aV aV aV aV rfl ?_)|refine stA ?_|refine stD ?_|refine stE ?_|(refine aG hK hX ?_;clear hK hX K)|fail)
     exact ⟨k-1,by omega,by omega,dW9⟩
    ·have hkm:k=m:=by omega
     have hvu:¬v<u:=fun h=>by
      have h2:=m2 (k-1) u aA hut
      omega
     have hRm:dE .i64 (l.take k++v::l.drop k)=dE .i64 (l.take m++v::l.drop m):=by rw [hkm]
     generalize hR:dE .i64 (l.take k++v::l.drop k)=R at *
     repeat' (first|(refine aC ?_;intro K hK hX)|refine bL9 ?_|(refine aG hK hX ?_;clear hK hX K)|fail)
     exact aI3
end Go.Proofs.YtbgehdndimlgkaaGreat
