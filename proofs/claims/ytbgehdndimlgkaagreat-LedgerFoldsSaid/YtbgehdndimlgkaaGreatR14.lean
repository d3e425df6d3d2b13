/- Lemmas for laws of the ledger. -/
import Derived.Test.YtbgehdndimlgkaaGreatR12
import Derived.Test.YtbgehdndimlgkaaGreatR13
set_option linter.all false
set_option maxHeartbeats 16000000
namespace Go.Proofs.YtbgehdndimlgkaaGreat
open Go Go.RowKit Go.Av
set_option maxRecDepth 100000
def ecR (e:LEn):Dr:=ecs e e.vs.length e.ss.length
def lec (l:List LEn):Dr:=l.flatMap ecR
def OkL (l:List LEn):Prop:=∀e∈l,e.wf/\aS e.k/\e.sz
theorem eR {e:LEn} (h:e.wf):(ecR e).length=65:=dB h.root _ _
theorem mZ {α:Type} {f:α->Dr} {k:Nat}:∀{l:List α} {i:Nat} {a:α},(∀a∈l,(f a).length=k)->l[i]? = some a->((l.flatMap f).drop (i*k)).take k=f a
 | [],i,a,_,e=>by simp at e
 | b::l,0,a,h,e=>by
  simp only [BH,Option.some.injEq] at e
  subst e
  rw [Cc,Bj,A1,AB (by rw [h b aR];exact Ag _),Af (by rw [h b aR];exact Ag _)]
 | b::l,i+1,a,h,e=>by
  have hb:=h b aR
  rw [A1,BL,hb,AD (by rw [hb,AJ];omega),Aw,show (i+1)*k-k=i*k by rw [AJ];omega]
  exact mZ (fun a ha=>h a (by simp [ha])) (by simpa using e)
theorem fM {α:Type} {f:α->Dr} {k:Nat}:∀{l:List α},(∀a∈l,(f a).length=k)->(l.flatMap f).length=l.length*k
 | [],_=>by simp
 | b::l,h=>by rw [A1,Ab,h b aR,fM fun a ha=>h a (by simp [ha]),At,AJ];omega
section
variable {l:List LEn} (h:OkL l)
include l h
theorem dH:(lec l).length=l.length*65:=fM fun e he=>eR (h e he).1
theorem jA {i:Nat} {e:LEn} (he:l[i]? = some e):((lec l).drop (i*65)).take 65=ecR e:=mZ (fun e he=>eR (h e he).1) he
theorem dI {i:Nat} {e:LEn} (he:l[i]? = some e) (j:Nat) (hj:j<65):(lec l)[i*65+j]? = (ecR e)[j]? := by
 rw [<- jA h he,AQ,Al hj,AP]
theorem OkL.take (i:Nat):OkL (l.take i):=fun e he=>h e (AG he)
end
theorem tV {α : Type} {p : α -> Prop} : ∀ {l : List α}, (∃ x ∈ l, p x) -> ∃ (j : Nat) (x : α), l[j]? = some x /\ p x /\ ∀ (q : Nat) (y : α), q < j -> l[q]? = some y -> ¬ p y
  | [], h => by obtain ⟨x, hx, _⟩ := h; simp at hx
  | y :: l, h => by
    by_cases e : p y
    · exact ⟨0, y, rfl, e, fun q x hq => by omega⟩
    · obtain ⟨j, x, h1, h2, h3⟩ := tV (l := l) (by
        obtain ⟨x, hx, hp⟩ := h
        rcases A3.1 hx with rfl | hx
        · exact absurd hp e
        · exact ⟨x, hx, hp⟩)
      refine ⟨j + 1, x, by simpa using h1, h2, fun q z hq hz => ?_⟩
      cases q with
      | zero => simp at hz; rw [<- hz]; exact e
      | succ q => exact h3 q z aA (by simpa using hz)
theorem cT {α:Type} {l:List α} {i:Nat} {x:α} (h:l[i]? = some x):l.take (i+1)=l.take i++[x]:=by rw [BE,h];rfl
theorem aO4 {α:Type} {lt:α->α->Prop} (v:α):∀l:List α,(insA lt v l).length<=l.length+1
 | []=>by simp [insA]
 | y::l=>by
  have:=aO4 (lt:=lt) v l
  rw [insA]
  split
  ·simp
  ·split
   ·simp
   ·simp only [At];omega
theorem kB {α:Type} {lt:α->α->Prop} (l:List α):(ascL lt l).length<=l.length:=by
 refine zO (p:=fun l=>(ascL lt l).length<=l.length) (by simp [ascL]) (fun l v ih=>?_) l
 have:=aO4 (lt:=lt) v (ascL lt l)
 rw [mO,Ab,Cg]
 omega
section
variable {l:List LEn} (h:OkL l)
include l h
theorem rM:(iL l).length<=l.length*1000:=by
 induction l with
 | nil=>simp [iL]
 | cons e l ih =>
  have:=ih fun x hx=>h x (by simp [hx])
  have hs:=(h e aR).2.2.vs
  unfold iL at *
  rw [A1,Ab,At,AJ]
  split
  ·omega
  ·rw [BI];omega
theorem rL:(iP l).length<=l.length*1000:=by
 induction l with
 | nil=>simp [iP]
 | cons e l ih =>
  have:=ih fun x hx=>h x (by simp [hx])
  have hs:=(h e aR).2.2.ss
  unfold iP at *
  rw [A1,Ab,At,AJ]
  split
  ·omega
  ·rw [BI];omega
theorem vQ:∀v∈iL l,vL v:=fun v hv=>by
 unfold iL at hv
 obtain ⟨e,he,hv⟩:=List.mem_flatMap.1 hv
 split at hv
 ·exact (h e he).1.vs v hv
 ·simp at hv
theorem vP:∀v∈iP l,yP v:=fun v hv=>by
 unfold iP at hv
 obtain ⟨e,he,hv⟩:=List.mem_flatMap.1 hv
 split at hv
 ·exact (h e he).1.ss v hv
 ·simp at hv
end
theorem aV8 (l:List LEn) (e:LEn) (p:Int):doneS (l++[e]) p=if e.k=3/\e.plan=p then insA (fun a b:Int=>a<b) e.step (doneS l p) else doneS l p:=by
 unfold doneS
 rw [BN,BU]
 by_cases h:e.k=3/\e.plan=p
 ·rw [Al h,Bl,Al (AT h),CY,List.map_singleton,mO]
 ·rw [Ak h,Bl,Ak lO,CY,Cp,Ay]
theorem bB3 {P:Dl} {sz n:Nat} {c:Code} {K:AK} {env:Env} {h:aO} {dfs:cA} (t:Nat) {x:CV} (y:CV) (hx:lkE env t=some (.c x)) (hc:Cv x y) (next:AW P sz c K n ((t,.c y)::env) h dfs):AW P sz c K n env h dfs:=by
 intro B a w hcn
 obtain ⟨M,c1,c2,c3,c4⟩:=hcn
 refine next B a w ⟨M,c1,c2,fun t' av ht=>?_,c4⟩
 rw [eL] at ht
 split at ht
 ·rename_i e
  subst e
  injection ht with ht
  subst ht
  have:=c3 _ _ hx
  simp only [Rep] at this ⊢
  exact hc _ _ _ this
 ·exact c3 t' av ht
attribute [local irreducible] Still Adds AWL AW Drw bQ bT AC AWR cO Frz Go.Av.Src dF Out InK ItK AsK RdK eI eG ACT ACA fD lec
section
variable (l:List LEn) (n:Nat) (hn:l.length=n)
include l n hn
theorem bO1 (hb:n<=1000000) (hw:OkL l) (k:Int) (r:Nat) (hr:oB l k=r):qC' 86 [.sl 65 n (lec l),iv k] (.c (iv r)) [] 0:=by
 have hll:(lec l).length=n*65:=by rw [dH hw,hn]
 obtain ⟨D,hD⟩:∃D:Nat->Nat,∀i,oB (l.take i) k=D i:=⟨_,fun _=>rfl⟩
 have hDn:D n=r:=by rw [<- hD,Af aA,hr]
 have hD0:D 0=0:=by rw [<- hD];rfl
 have hDb:∀i,D i<=n:=fun i=>by
  rw [<- hD]
  unfold oB
  have h1:=Bf (fun e:LEn=>decide (e.k=k)) (l.take i)
  rw [Ao] at h1
  omega
 refine aG aB (sz:=23) Tryz.func86 rfl (by rw [Tryz.ntmps86];rfl) ?_
 repeat' (first|(refine aC ?_;intro K hK hX)|refine aM2 ?_|(refine aE hK hX ?_;clear hK hX K)|fail)
 refine aT [6,5] [] rfl rfl (fun i:Nat=>[(6,.c (iv i)),(5,.c (iv (D i)))]) (fun i=>[]) (fun i=>i<=n) (fun i=>n-i) 0 (Ah _) (by refine cE rfl ?_ ?_ rfl<;>(repeat' (first|exact bF|exact bG|refine bC rfl dE7 rfl ?_|refine aN rfl dE7 rfl ?_|refine aN rfl (by first|rfl|(first|rfl|exact congrArg (fun x:Nat=>AV.c (iv x)) hD0.symm)) bM ?_))) ?_
 intro i hi K hK hX
 by_cases hlt:i<n
 ·obtain ⟨e,hat⟩:∃e,l[i]? = some e:=⟨_,Aa aA⟩
  have hk0:=dI hw hat 0 aP
  rw [show (ecR e)[0]? = some (iv e.k) from rfl] at hk0
  have hs:D (i+1)=D i+if e.k=k then 1 else 0:=by rw [<- hD,<- hD,cT hat,iM]
  have hdi:=hDb i
  by_cases hkk:e.k=k
  ·rw [Al hkk] at hs
   repeat' (first|(refine aC ?_;intro K hK hX)|refine bC2 ?_|(refine aE hK hX ?_;clear hK hX K)|fail)
   exact ⟨i+1,by omega,by omega,bU8⟩
  ·rw [Ak hkk] at hs
   repeat' (first|(refine aC ?_;intro K hK hX)|refine bC2 ?_|(refine aE hK hX ?_;clear hK hX K)|fail)
   exact ⟨i+1,by omega,by omega,bU8⟩
 ·obtain hin:i=n:=by omega
  rw [hin,hDn] at *
  repeat' (first|(refine aC ?_;intro K hK hX)|refine aM2 ?_|(refine aE hK hX ?_;clear hK hX K)|fail)
  exact bI
theorem aQ2 (hb:n<=1000000) (hw:OkL l) (k p:Int) (r:Bool) (hr:r=true↔jK l k p):qC' 83 [.sl 65 n (lec l),iv k,iv p] (.c (bv r)) [] 0:=by
 have hll:(lec l).length=n*65:=by rw [dH hw,hn]
 by_cases hm:jK l k p
 ·obtain rfl:r=true:=hr.2 hm
  obtain ⟨j0,x0,hj,⟨hp1,hp2⟩,hne⟩:=tV hm
  have hjn:j0<n:=by rw [<- hn];exact (Ad.1 hj).1
  refine aG aB (sz:=30) Tryz.func83 rfl (by rw [Tryz.ntmps83];rfl) ?_
  repeat' (first|(refine aC ?_;intro K hK hX)|refine aJ [0,1,2,6,7] ?_|refine stA ?_|(refine aE hK hX ?_;clear hK hX K)|fail)
  refine aT [7] [] rfl rfl (fun i:Nat=>[(7,.c (iv i))]) (fun i=>[]) (fun i=>i<=j0) (fun i=>j0-i) 0 (Ah _) dP ?_
  intro i hi K hK hX
  by_cases hlt:i<j0
  ·obtain ⟨e,hat⟩:∃e,l[i]? = some e:=⟨_,Aa aA⟩
   have hk0:=dI hw hat 0 aP
   rw [show (ecR e)[0]? = some (iv e.k) from rfl] at hk0
   have hk2:=dI hw hat 2 aP
   rw [show (ecR e)[2]? = some (iv e.plan) from rfl] at hk2
   have hno:=hne i e hlt hat
   by_cases hkk:e.k=k
   ·have hpp:¬e.plan=p:=fun h=>hno ⟨hkk,h⟩
    repeat' (first|(refine aC ?_;intro K hK hX)|refine aM1 ?_|(refine aE hK hX ?_;clear hK hX K)|fail)
    exact eQ
   ·repeat' (first|(refine aC ?_;intro K hK hX)|refine aM1 ?_|(refine aE hK hX ?_;clear hK hX K)|fail)
    exact eQ
  ·have hij:i=j0:=by omega
   rw [hij]
   have hk0:=dI hw hj 0 aP
   rw [show (ecR x0)[0]? = some (iv x0.k) from rfl,hp1] at hk0
   have hk2:=dI hw hj 2 aP
   rw [show (ecR x0)[2]? = some (iv x0.plan) from rfl,hp2] at hk2
   repeat' (first|(refine aC ?_;intro K hK hX)|refine aM1 ?_|(refine aE hK hX ?_;clear hK hX K)|fail)
   exact bI
 ·obtain rfl:r=false:=by cases r;rfl;exact absurd (hr.1 rfl) hm
  refine aG aB (sz:=30) Tryz.func83 rfl (by rw [Tryz.ntmps83];rfl) ?_
  repeat' (first|(refine aC ?_;intro K hK hX)|refine aJ [0,1,2,6,7] ?_|refine stA ?_|(refine aE hK hX ?_;clear hK hX K)|fail)
  refine aT [7] [] rfl rfl (fun i:Nat=>[(7,.c (iv i))]) (fun i=>[]) (fun i=>i<=n) (fun i=>n-i) 0 (Ah _) dP ?_
  intro i hi K hK hX
  by_cases hlt:i<n
  ·obtain ⟨e,hat⟩:∃e,l[i]? = some e:=⟨_,Aa aA⟩
   have hk0:=dI hw hat 0 aP
   rw [show (ecR e)[0]? = some (iv e.k) from rfl] at hk0
   have hk2:=dI hw hat 2 aP
   rw [show (ecR e)[2]? = some (iv e.plan) from rfl] at hk2
   by_cases hkk:e.k=k
   ·have hpp:¬e.plan=p:=fun h=>hm ⟨e,Ac hat,hkk,h⟩
    repeat' (first|(refine aC ?_;intro K hK hX)|refine aM1 ?_|(refine aE hK hX ?_;clear hK hX K)|fail)
    exact eQ
   ·repeat' (first|(refine aC ?_;intro K hK hX)|refine aM1 ?_|(refine aE hK hX ?_;clear hK hX K)|fail)
    exact eQ
  ·repeat' (first|(refine aC ?_;intro K hK hX)|refine aJ [0,1,2,6,7] ?_|refine stA ?_|(refine aE hK hX ?_;clear hK hX K)|fail)
   exact bI
theorem aY4 (hb:n<=1000) (hw:OkL l) (q:Nat) (hq:(erasV l).length=q):qC' 48 [.sl 65 n (lec l)] (.c (.sl 3 q (vrc (erasV l)))) [] 0:=by
 have hll:(lec l).length=n*65:=by rw [dH hw,hn]
 obtain ⟨D,hD⟩:∃D:Nat->List Ver,∀i,ascL ltV (iL (l.take i))=D i:=⟨_,fun _=>rfl⟩
 obtain ⟨o,ho⟩:∃o:Nat->Nat,∀i,(D i).length=o i:=⟨_,fun _=>rfl⟩
 have hDn:D n=erasV l:=by rw [<- hD,Af aA];rfl
 have hon:o n=q:=by rw [<- ho,hDn,hq]
 have hD0:D 0=[]:=by rw [<- hD];rfl
 have ho0:o 0=0:=by rw [<- ho,hD0];rfl
 refine aG aB (sz:=41) Tryz.func48 rfl (by rw [Tryz.ntmps48];rfl) ?_
 repeat' (first|(refine aC ?_;intro K hK hX)|refine uL ?_|(refine aE hK hX ?_;clear hK hX K)|fail)
 refine bB3 3 (.sl 3 0 []) rfl fT ?_
 refine aT [4,3] [] rfl rfl (fun i:Nat=>[(4,.c (iv i)),(3,.c (.sl 3 (o i) (vrc (D i))))]) (fun i=>[]) (fun i=>i<=n) (fun i=>n-i) 0 (Ah _) bC9 ?_
 intro i hi K hK hX
 by_cases hlt:i<n
 ·obtain ⟨e,hat⟩:∃e,l[i]? = some e:=⟨_,Aa aA⟩
  have hk0:=dI hw hat 0 aP
  rw [show (ecR e)[0]? = some (iv e.k) from rfl] at hk0
  have hk1:=dI hw hat 31 aP
  rw [show (ecR e)[31]? = some (.sl 3 e.vs.length (vrc e.vs)) from rfl] at hk1
  have hs:D (i+1)=ascL ltV (iL (l.take i)++if e.k=2 then e.vs else []):=by rw [<- hD,cT hat,mN]
  have hbd:(iL (l.take i)).length<=i*1000:=Am (rM (hw.take i)) gS
  have hvok:=vQ (hw.take i)
  have hev:=(hw e (Ac hat)).1.vs
  have hes:=(hw e (Ac hat)).2.2.vs
  by_cases h2:e.k=2
  ·rw [Al h2] at hs
   generalize e.vs=vs at *
   obtain ⟨m,hm⟩:∃m,vs.length=m:=⟨_,rfl⟩
   have hvl:(vrc vs).length=m*3:=by rw [dL,hm]
   rw [hm] at hk1 hes
   rw [h2] at hk0
   obtain ⟨F,hF⟩:∃F:Nat->List Ver,∀k,ascL ltV (iL (l.take i)++vs.take k)=F k:=⟨_,fun _=>rfl⟩
   obtain ⟨f,hf⟩:∃f:Nat->Nat,∀k,(F k).length=f k:=⟨_,fun _=>rfl⟩
   have hF0:F 0=D i:=by rw [<- hF,<- hD,Cy,Ay]
   have hf0:f 0=o i:=by rw [<- hf,<- ho,hF0]
   have hFm:F m=D (i+1):=by rw [<- hF,hs,Af (l:=vs) aA]
   have hfm:f m=o (i+1):=by rw [<- hf,<- ho,hFm]
   repeat' (first|(refine aC ?_;intro K hK hX)|refine uL ?_|(refine aE hK hX ?_;clear hK hX K)|fail)
   refine aT [5,3] [] rfl rfl (fun k:Nat=>[(5,.c (iv k)),(3,.c (.sl 3 (f k) (vrc (F k))))]) (fun k=>[]) (fun k=>k<=m) (fun k=>m-k) 0 (Ah _) dB7 ?_
   intro k hk K hK hX
   by_cases hkm:k<m
   ·obtain ⟨v,hvt⟩:∃v,vs[k]? = some v:=⟨_,Aa aA⟩
    have hx:=fU hvt
    have hfs:F (k+1)=insA ltV v (F k):=by rw [<- hF,<- hF,cT hvt,<- Ar,mO]
    have hfl:f k<=1000000:=by
     have:=kB (lt:=ltV) (iL (l.take i)++vs.take k)
     rw [hF,hf,Ab,Ao] at this
     have:i*1000<=999000:=by omega
     omega
    have hins:=cG7 (F k) (f k) (hf k) hfl (fun x hx=>by
     rw [<- hF] at hx
     rcases A0.1 (((dQ slo_V _).2 x).1 hx) with h|h
     ·exact hvok x h
     ·exact hev x (AG h)) (by rw [<- hF];exact (dQ slo_V _).1) v (hev v (Ac hvt)) (f (k+1)) (by rw [<- hfs,hf])
    rw [<- hfs] at hins
    clear hF hD hs hvok hev
    repeat' (first|(refine aC ?_;intro K hK hX)|refine dB4 ?_|(refine aE hK hX ?_;clear hK hX K)|fail)
    exact ⟨k+1,by omega,by omega,dP⟩
   ·have hkk:k=m:=by omega
    rw [hkk]
    clear hF hD hs hvok hev
    rw [hfm,hFm]
    repeat' (first|(refine aC ?_;intro K hK hX)|refine bC3 ?_|(refine aE hK hX ?_;clear hK hX K)|fail)
    exact eQ
  ·rw [Ak h2,Ay,hD] at hs
   have hos:o (i+1)=o i:=by rw [<- ho,<- ho,hs]
   repeat' (first|(refine aC ?_;intro K hK hX)|refine uL ?_|(refine aE hK hX ?_;clear hK hX K)|fail)
   refine aT [5] [] rfl rfl (fun k:Nat=>[(5,.c (iv k))]) (fun k=>[]) (fun k=>k=0) (fun k=>0) 0 rfl dP ?_
   intro k hk K hK hX
   rw [hk]
   repeat' (first|(refine aC ?_;intro K hK hX)|refine bC3 ?_|(refine aE hK hX ?_;clear hK hX K)|fail)
   exact aB7
 ·obtain hin:i=n:=by omega
  rw [hin,hon,hDn] at *
  repeat' (first|(refine aC ?_;intro K hK hX)|refine uL ?_|(refine aE hK hX ?_;clear hK hX K)|fail)
  exact bI
theorem aQ5 (hb:n<=1000) (hw:OkL l) (q:Nat) (hq:(erasS l).length=q):qC' 50 [.sl 65 n (lec l)] (.c (.sl 2 q (src (erasS l)))) [] 0:=by
 have hll:(lec l).length=n*65:=by rw [dH hw,hn]
 obtain ⟨D,hD⟩:∃D:Nat->List Src,∀i,ascL ltS (iP (l.take i))=D i:=⟨_,fun _=>rfl⟩
 obtain ⟨o,ho⟩:∃o:Nat->Nat,∀i,(D i).length=o i:=⟨_,fun _=>rfl⟩
 have hDn:D n=erasS l:=by rw [<- hD,Af aA];rfl
 have hon:o n=q:=by rw [<- ho,hDn,hq]
 have hD0:D 0=[]:=by rw [<- hD];rfl
 have ho0:o 0=0:=by rw [<- ho,hD0];rfl
 refine aG aB (sz:=41) Tryz.func50 rfl (by rw [Tryz.ntmps50];rfl) ?_
 repeat' (first|(refine aC ?_;intro K hK hX)|refine uL ?_|(refine aE hK hX ?_;clear hK hX K)|fail)
 refine bB3 3 (.sl 2 0 []) rfl fT ?_
 refine aT [4,3] [] rfl rfl (fun i:Nat=>[(4,.c (iv i)),(3,.c (.sl 2 (o i) (src (D i))))]) (fun i=>[]) (fun i=>i<=n) (fun i=>n-i) 0 (Ah _) bC9 ?_
 intro i hi K hK hX
 by_cases hlt:i<n
 ·obtain ⟨e,hat⟩:∃e,l[i]? = some e:=⟨_,Aa aA⟩
  have hk0:=dI hw hat 0 aP
  rw [show (ecR e)[0]? = some (iv e.k) from rfl] at hk0
  have hk1:=dI hw hat 32 aP
  rw [show (ecR e)[32]? = some (.sl 2 e.ss.length (src e.ss)) from rfl] at hk1
  have hs:D (i+1)=ascL ltS (iP (l.take i)++if e.k=2 then e.ss else []):=by rw [<- hD,cT hat,pK]
  have hbd:(iP (l.take i)).length<=i*1000:=Am (rL (hw.take i)) gS
  have hvok:=vP (hw.take i)
  have hev:=(hw e (Ac hat)).1.ss
  have hes:=(hw e (Ac hat)).2.2.ss
  by_cases h2:e.k=2
  ·rw [Al h2] at hs
   generalize e.ss=vs at *
   obtain ⟨m,hm⟩:∃m,vs.length=m:=⟨_,rfl⟩
   have hvl:(src vs).length=m*2:=by rw [dK,hm]
   rw [hm] at hk1 hes
   rw [h2] at hk0
   obtain ⟨F,hF⟩:∃F:Nat->List Src,∀k,ascL ltS (iP (l.take i)++vs.take k)=F k:=⟨_,fun _=>rfl⟩
   obtain ⟨f,hf⟩:∃f:Nat->Nat,∀k,(F k).length=f k:=⟨_,fun _=>rfl⟩
   have hF0:F 0=D i:=by rw [<- hF,<- hD,Cy,Ay]
   have hf0:f 0=o i:=by rw [<- hf,<- ho,hF0]
   have hFm:F m=D (i+1):=by rw [<- hF,hs,Af (l:=vs) aA]
   have hfm:f m=o (i+1):=by rw [<- hf,<- ho,hFm]
   repeat' (first|(refine aC ?_;intro K hK hX)|refine uL ?_|(refine aE hK hX ?_;clear hK hX K)|fail)
   refine aT [5,3] [] rfl rfl (fun k:Nat=>[(5,.c (iv k)),(3,.c (.sl 2 (f k) (src (F k))))]) (fun k=>[]) (fun k=>k<=m) (fun k=>m-k) 0 (Ah _) dB7 ?_
   intro k hk K hK hX
   by_cases hkm:k<m
   ·obtain ⟨v,hvt⟩:∃v,vs[k]? = some v:=⟨_,Aa aA⟩
    have hx:=eY hvt
    have hfs:F (k+1)=insA ltS v (F k):=by rw [<- hF,<- hF,cT hvt,<- Ar,mO]
    have hfl:f k<=1000000:=by
     have:=kB (lt:=ltS) (iP (l.take i)++vs.take k)
     rw [hF,hf,Ab,Ao] at this
     have:i*1000<=999000:=by omega
     omega
    have hins:=cG8 (F k) (f k) (hf k) hfl (fun x hx=>by
     rw [<- hF] at hx
     rcases A0.1 (((dQ slo_S _).2 x).1 hx) with h|h
     ·exact hvok x h
     ·exact hev x (AG h)) (by rw [<- hF];exact (dQ slo_S _).1) v (hev v (Ac hvt)) (f (k+1)) (by rw [<- hfs,hf])
    rw [<- hfs] at hins
    clear hF hD hs hvok hev
    repeat' (first|(refine aC ?_;intro K hK hX)|refine dB4 ?_|(refine aE hK hX ?_;clear hK hX K)|fail)
    exact ⟨k+1,by omega,by omega,dP⟩
   ·have hkk:k=m:=by omega
    rw [hkk]
    clear hF hD hs hvok hev
    rw [hfm,hFm]
    repeat' (first|(refine aC ?_;intro K hK hX)|refine bC3 ?_|(refine aE hK hX ?_;clear hK hX K)|fail)
    exact eQ
  ·rw [Ak h2,Ay,hD] at hs
   have hos:o (i+1)=o i:=by rw [<- ho,<- ho,hs]
   repeat' (first|(refine aC ?_;intro K hK hX)|refine uL ?_|(refine aE hK hX ?_;clear hK hX K)|fail)
   refine aT [5] [] rfl rfl (fun k:Nat=>[(5,.c (iv k))]) (fun k=>[]) (fun k=>k=0) (fun k=>0) 0 rfl dP ?_
   intro k hk K hK hX
   rw [hk]
   repeat' (first|(refine aC ?_;intro K hK hX)|refine bC3 ?_|(refine aE hK hX ?_;clear hK hX K)|fail)
   exact aB7
 ·obtain hin:i=n:=by omega
  rw [hin,hon,hDn] at *
  repeat' (first|(refine aC ?_;intro K hK hX)|refine uL ?_|(refine aE hK hX ?_;clear hK hX K)|fail)
  exact bI
end
theorem aQ4 (l:List Int) (n:Nat) (hn:l.length=n) (hb:n<=1000000) (hs:l.Pairwise fun a b:Int=>a<b) (v:Int) (q:Nat) (hq:(insA (fun a b:Int=>a<b) v l).length=q):qC' 118 [.sl 1 n (bO .i64 l),iv v] (.c (.sl 1 q (bO .i64 (insA (fun a b:Int=>a<b) v l)))) [] 0:=by
 have hil:(bO .i64 l).length=n:=by rw [dJ,hn]
 have hat:∀{l:List Int} {i:Nat} {x:Int},l[i]? = some x->(bO .i64 l)[i]? = some (iv x):=fun h=>by unfold bO;rw [BG,h];rfl
 have hset:∀(l:List Int) (i:Nat) (x:Int),(bO .i64 l).set i (iv x)=bO .i64 (l.set i x):=fun l i x=>by unfold bO;rw [CU]
 by_cases hm:v∈l
 ·rw [yI zM hs hm] at hq ⊢
  obtain rfl:n=q:=by omega
  obtain ⟨j0,hj,hne⟩:=yB hm
  have hjn:j0<n:=by rw [<- hn];exact (Ad.1 hj).1
  refine aG aB (sz:=63) Tryz.func118 rfl (by rw [Tryz.ntmps118];rfl) ?_
  repeat' (first|(refine aC ?_;intro K hK hX)|refine bU1 ?_|(refine aE hK hX ?_;clear hK hX K)|fail)
  refine aT [5] [] rfl rfl (fun i:Nat=>[(5,.c (iv i))]) (fun i=>[]) (fun i=>i<=j0) (fun i=>j0-i) 0 (Ah _) dP ?_
  intro i hi K hK hX
  by_cases hlt:i<j0
  ·obtain ⟨x,hxt⟩:∃x,l[i]? = some x:=⟨_,Aa aA⟩
   have hx:=hat hxt
   have hno:=hne i x hlt hxt
   repeat' (first|(refine aC ?_;intro K hK hX)|refine bC1 ?_|(refine aE hK hX ?_;clear hK hX K)|fail)
   exact eQ
  ·have hij:i=j0:=by omega
   rw [hij]
   have hx:=hat hj
   repeat' (first|(refine aC ?_;intro K hK hX)|refine bC1 ?_|(refine aE hK hX ?_;clear hK hX K)|fail)
   exact bI
 ·obtain ⟨m,m1,m2,m3⟩:=aI9 zM hs hm
  rw [hn] at m1
  rw [aJ0 zM hs m2 m3] at hq ⊢
  obtain rfl:n+1=q:=by rw [<- hq,Ab,At,Ao,A4];omega
  have hL:bO .i64 l++[iv v]=bO .i64 (l.take n++v::l.drop n):=by
   rw [Af aA,AD aA]
   simp [bO]
  refine aG aB (sz:=63) Tryz.func118 rfl (by rw [Tryz.ntmps118];rfl) ?_
  repeat' (first|(refine aC ?_;intro K hK hX)|refine bU1 ?_|(refine aE hK hX ?_;clear hK hX K)|fail)
  refine aT [5] [] rfl rfl (fun i:Nat=>[(5,.c (iv i))]) (fun i=>[]) (fun i=>i<=n) (fun i=>n-i) 0 (Ah _) dP ?_
  intro i hi K hK hX
  by_cases hlt:i<n
  ·obtain ⟨x,hxt⟩:∃x,l[i]? = some x:=⟨_,Aa aA⟩
   have hx:=hat hxt
   have hno:¬x=v:=fun h=>hm (by rw [<- h];exact Ac hxt)
   repeat' (first|(refine aC ?_;intro K hK hX)|refine bC1 ?_|(refine aE hK hX ?_;clear hK hX K)|fail)
   exact eQ
  ·repeat' (first|(refine aC ?_;intro K hK hX)|refine aJ [0,1,4,5,6,7] ?_|((with_reducible refine bB (i:=6) ?_);refine aY [0,1,4,5,6,7] rfl rfl ?_;refine dG [] ?_)|((with_reducible refine bB ?_);refine aY [0,1,4,5,6,7] rfl rfl ?_;refine dE [] ?_)|refine stA ?_|refine stD ?_|refine stE ?_|(refine aE hK hX ?_;clear hK hX K)|fail)
   refine aT [7,29,28,27] [3] rfl rfl (fun k:Nat=>[(7,.c (iv k))]) (fun k=>[(3,.row 3 (bO .i64 (l.take k++v::l.drop k)))]) (fun k=>m<=k/\k<=n) (fun k=>k) n ⟨m1,Ag _⟩ bU7 ?_
   rintro k ⟨hk1,hk2⟩ K hK hX
   have hlen:(l.take k++v::l.drop k).length=n+1:=by rw [Ab,At,Ao,A4];omega
   have hrl:(bO .i64 (l.take k++v::l.drop k)).length=(0+n+1)*1:=by rw [dJ,hlen];omega
   have hk:(l.take k++v::l.drop k)[k]? = some v:=by rw [AE gS,Ao,B0 aA,BW];rfl
   have hx:=hat hk
   by_cases h0:k=0
   ·have hRm:bO .i64 (l.take k++v::l.drop k)=bO .i64 (l.take m++v::l.drop m):=by rw [show k=m by omega]
    generalize hR:bO .i64 (l.take k++v::l.drop k)=R at *
    rw [h0]
    repeat' (first|(refine aC ?_;intro K hK hX)|refine bU1 ?_|(refine aE hK hX ?_;clear hK hX K)|fail)
    exact aB6
   ·obtain ⟨u,hut⟩:∃u,l[k-1]? = some u:=⟨_,Aa aA⟩
    have hk':(l.take k++v::l.drop k)[k-1]? = some u:=by rw [A8 gS,AQ,Al aA];exact hut
    have hxu:=hat hk'
    have hxu:(bO .i64 (l.take k++v::l.drop k))[0+((k:Int)-1).toNat*1]? = some (iv u):=by rw [show 0+((k:Int)-1).toNat*1=k-1 from by omega];exact hxu
    have hx:(bO .i64 (l.take k++v::l.drop k))[0+k*1]? = some (iv v):=by rw [Ai,A5];exact hx
    by_cases hlt:m<k
    ·have hvu:v<u:=m3 (k-1) u aA hut
     have hs1:(bO .i64 (l.take k++v::l.drop k)).set (0+((k:Int)-1).toNat*1) (iv v)=bO .i64 ((l.take k++v::l.drop k).set (k-1) v):=by
      rw [show 0+((k:Int)-1).toNat*1=k-1 from by omega,hset]
     have hs2:(bO .i64 ((l.take k++v::l.drop k).set (k-1) v)).set (0+k*1) (iv u)=bO .i64 (l.take (k-1)++v::l.drop (k-1)):=by
      rw [show 0+k*1=k from by omega,<- zU aA aA hut,hset]
     have hl1:(bO .i64 ((l.take k++v::l.drop k).set (k-1) v)).length=(0+n+1)*1:=by rw [dJ,Ce,hlen];omega
     rw [<- hs1] at hs2 hl1
     clear hs1
     generalize hR:bO .i64 (l.take k++v::l.drop k)=R at *
     repeat' (first|(refine aC ?_;intro K hK hX)|refine aJ [0,1,4,5,6,7] ?_|((with_reducible refine kE ?_);refine eK aD (lX rfl) ?_)|((with_reducible refine bB (i:=10) ?_);refine aY [0,1,4,5,6,7] rfl rfl ?_;refine dG [] ?_)|((with_reducible refine bB ?_);refine aY [0,1,4,5,6,7] rfl rfl ?_;refine dE [] ?_)|refine jG ?_|((with_reducible refine iN ?_);(refine fA aB aD rfl rfl rfl rfl rfl rfl (by first|first|omega|(rw [hl1];omega)|exact A9 rfl|omega|(simp<;>omega)) ?_))|(refine tQ aM aM aM aM rfl ?_)|refine stA ?_|refine stD ?_|refine stE ?_|(refine aE hK hX ?_;clear hK hX K)|fail)
     exact ⟨k-1,by omega,by omega,bU5⟩
    ·have hkm:k=m:=by omega
     have hvu:¬v<u:=fun h=>by
      have h2:=m2 (k-1) u aA hut
      omega
     have hRm:bO .i64 (l.take k++v::l.drop k)=bO .i64 (l.take m++v::l.drop m):=by rw [hkm]
     generalize hR:bO .i64 (l.take k++v::l.drop k)=R at *
     repeat' (first|(refine aC ?_;intro K hK hX)|refine bC1 ?_|(refine aE hK hX ?_;clear hK hX K)|fail)
     exact aB6
end Go.Proofs.YtbgehdndimlgkaaGreat
