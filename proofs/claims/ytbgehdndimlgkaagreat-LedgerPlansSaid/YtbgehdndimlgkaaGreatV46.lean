/- Lemmas for laws of the ledger. -/
import Derived.Test.YtbgehdndimlgkaaGreatV44
import Derived.Test.YtbgehdndimlgkaaGreatV45
set_option linter.all false
namespace Go.Av
open Go Go.RowKit
section
variable {P:Di} {sz n t:Nat} {env:Env} {h:aL} {dfs:bM} {K:AK} {ops:Dd} {rest:Dc} {op:Op} {ty:Dh} {pos:String} {aft:Df} {gd:Da}
end
end Go.Av
namespace Go.Proofs.YtbgehdndimlgkaaGreat
open Go Go.RowKit Go.Av
set_option maxRecDepth 100000
structure PlI (s:Lg) (i:Nat):Prop where
 pe:s.d.pe=[]
 fu:s.d.fu = -1
 dn:s.d.dn=false
 sy:s.d.sy.length<=i*4042
 c:s.c.length=32
 ok:OkL s.l
 fol:FolL s.l
 len:s.l.length<=i
theorem PlI.more {s:Lg} {i:Nat} (h:PlI s i):PlI s (i+1):=⟨h.pe,h.fu,h.dn,by have:=h.sy;rw [A9];omega,h.c,h.ok,h.fol,by have:=h.len;omega⟩
theorem PlI.init:PlI lgN 0:=⟨rfl,rfl,rfl,Ae _,rfl,fun e he=>by simp [lgN] at he,fun i e he=>by simp [lgN] at he,Ae _⟩
theorem aZ8 {s:Lg} {i:Nat} (h:PlI s i) (hi:i<16) {e:LEn} (hw:e.wf) (hk:aS e.k) (hs:smE e):opAd s e=(lgZ,11)\/∃r,opAd s e=(r,0)/\PlI r (i+1):=by
 obtain ⟨⟨sy,pe,fu,dn⟩,L,c⟩:=s
 obtain ⟨h1,h2,h3,h4,h5,h6,h7,h8⟩:=h
 simp only at h1 h2 h3 h4 h5 h6 h7 h8
 subst h1 h2 h3
 by_cases hF:Fol L e
 rotate_left
 ·exact .inl (bV1 (s:=⟨⟨sy,[],-1,false⟩,L,c⟩) hF)
 have hfr:=cK1 hw hk hs c
 have hrd:=dM7 hw hk hs hF.rd
 refine .inr ⟨_,cM3 (sy:=sy) (c:=c) hF aA aA,rfl,rfl,rfl,by simp only [Aa];rw [A9];omega,mR _ _,cM2 h6 hw hrd,?_,by simp only [Aa,BN];omega⟩
 simp only
 rw [bX0 hw hrd]
 exact h7.snoc (cC8 hF)
noncomputable def plS (l:List LEn):Lg:=l.foldl (fun s e=>if (opAd s e).2=0 then (opAd s e).1 else s) lgN
theorem aJ8 (l:List LEn) (e:LEn):plS (l++[e])=if (opAd (plS l) e).2=0 then (opAd (plS l) e).1 else plS l:=by unfold plS;rw [Ct];rfl
theorem dL2 {l:List LEn} (hw:∀e∈l,e.wf/\aS e.k/\smE e) (hl:l.length<=16):∀i,i<=l.length->PlI (plS (l.take i)) i:=fun i=>by
 induction i with
 | zero=>intro _;exact PlI.init
 | succ i ih =>
  intro hi
  obtain ⟨e,hat⟩:∃e,l[i]? = some e:=⟨_,Ab aA⟩
  obtain ⟨w1,w2,w3⟩:=hw e (Ag hat)
  have h:=ih aA
  rw [eK hat,aJ8]
  rcases aZ8 h aA w1 w2 w3 with h1|⟨r,h1,h2⟩
  ·rw [h1,Af aN];exact h.more
  ·rw [h1,Aj rfl];exact h2
theorem dE2 (l:List LEn):FolL l->((l.filter fun e=>decide (e.k=2)).map (·.plan)).Pairwise (fun a b:Int=>a<b)/\∀p:Int,p∈(l.filter fun e=>decide (e.k=2)).map (·.plan)->p<(iQ l 2:Int):=by
 refine jX (p:=fun l=>FolL l->((l.filter fun e=>decide (e.k=2)).map (·.plan)).Pairwise (fun a b:Int=>a<b)/\∀p:Int,p∈(l.filter fun e=>decide (e.k=2)).map (·.plan)->p<(iQ l 2:Int)) (fun _=>⟨List.Pairwise.nil,fun p hp=>by simp at hp⟩) (fun l e ih h=>?_) l
 obtain ⟨h1,h2⟩:=h.init
 obtain ⟨i1,i2⟩:=ih h1
 rw [BK,BQ,eI]
 by_cases h3:e.k=2
 ·have hp:=(h2.er h3).1
  rw [Aj h3,Bi,Aj (AU h3),Cb,List.map_singleton]
  refine ⟨List.pairwise_append.2 ⟨i1,by simp,fun a ha b hb=>?_⟩,fun p hp'=>?_⟩
  ·rw [AP.1 hb,hp];exact i2 a ha
  ·rcases Az.1 hp' with h|h
   ·have:=i2 p h;omega
   ·rw [AP.1 h,hp];omega
 ·rw [Af h3,Bi,Af (by simpa using h3),Cb,Cw,A2]
  exact ⟨i1,fun p hp=>by have:=i2 p hp;omega⟩
open Classical in
theorem cB7 {l:List LEn} (h:FolL l):(unfi l).length+iQ l 4=iQ l 2:=by
 have h1:=aT3 l h
 have hs:(l.filter fun e=>decide (e.k=2/\¬dV l 4 e.plan))=(l.filter fun e=>decide (e.k=2) && !decide (dV l 4 e.plan)):=by
  congr 1
  funext e
  by_cases a:e.k=2<;>by_cases b:dV l 4 e.plan<;>simp [a,b]
 have hsub:(l.filter fun e=>decide (e.k=2/\¬dV l 4 e.plan)).Sublist (l.filter fun e=>decide (e.k=2)):=by
  have:(l.filter fun e=>decide (e.k=2/\¬dV l 4 e.plan))=(l.filter fun e=>decide (e.k=2)).filter fun e => !decide (dV l 4 e.plan):=by
   rw [hs,List.filter_filter]
   congr 1
   funext e
   exact Bool.and_comm _ _
  rw [this]
  exact List.filter_sublist
 have hpw:=((dE2 l h).1).sublist (hsub.map (·.plan))
 have hu:=xZ (l:=((l.filter fun e=>decide (e.k=2/\¬dV l 4 e.plan)).map (·.plan))) cY4 hpw (fun x=>Cs)
 have:unfi l=(l.filter fun e=>decide (e.k=2/\¬dV l 4 e.plan)).map (·.plan):=hu.symm
 rw [this,Bb,hs]
 rw [<- h1]
def tot (l:List LEn):Nat:=(l.map fun e=>if e.k=2 then e.vs.length else 0).sum
def clo (l:List LEn):List Int:=(l.filter fun e=>decide (e.k=4)).map (·.plan)
theorem cB3 (l:List LEn) (e:LEn):tot (l++[e])=tot l+if e.k=2 then e.vs.length else 0:=by unfold tot;rw [BQ,List.sum_append];simp
theorem bL6 (l:List LEn) (e:LEn):clo (l++[e])=clo l++if e.k=4 then [e.plan] else []:=by
 unfold clo
 rw [BK,BQ]
 by_cases h:e.k=4
 ·rw [Aj h,Bi,Aj (AU h)];rfl
 ·rw [Af h,Bi,Af nS];rfl
theorem aU6 (l:List LEn):(clo l).length=iQ l 4:=by unfold clo iQ;rw [Bb]
theorem cF0 {l:List LEn} {p:Int} (h:p∈clo l):dV l 4 p:=by
 unfold clo at h
 obtain ⟨e,he,rfl⟩:=By.1 h
 obtain ⟨h1,h2⟩:=List.mem_filter.1 he
 exact ⟨e,h1,Cy h2,rfl⟩
theorem cB2 {l:List LEn} (h:OkL l):tot l<=l.length*1000:=by
 induction l with
 | nil=>simp [tot]
 | cons e l ih =>
  have:=ih fun x hx=>h x (by simp [hx])
  have hs:=(h e aO).2.2.vs
  unfold tot at *
  rw [AD,C3,Au,A9]
  split<;>omega
theorem bC2 {l:List LEn} (h:FolL l) (j:Nat):FolL (l.take j):=fun i e he=>by
 rw [Bh] at he
 split at he
 ·rename_i hi
  rw [Ck,BR aA]
  exact h i e he
 ·cases he
theorem tY (l:List LEn) (k:Int):iQ l k<=l.length:=C0 _ _
attribute [local irreducible] Still Adds AWL AW Drw bN bP AC AWR cM Frz Go.Av.Src dB Out InK ItK AsK RdK eA dZ ACT ACA eL ACG eR lec
theorem dK7 (l:List LEn) (n:Nat) (hn:l.length=n) (hb:n<=maxLen) (hw:∀e∈l,e.wf/\aS e.k) (hf:¬bS1 l):qC' 10 [.sl 65 n (lec l)] (.c (bv true)) [] 0:=by
 have h1:=bS2 l n hn hb (fun e he=>(hw e he).1) false ⟨fun h=>kB,fun h=>absurd h hf⟩
 generalize lec l=L at *
 refine aJ aB (sz:=136) Tryz.func10 rfl (by rw [Tryz.ntmps10];rfl) ?_
 repeat' (first|(refine aC ?_;intro K hK hX)|refine bS [0,2,3,4,5,6,7,8,9,10,11,12,13] ?_|(refine dJ ?_;first|refine c0 pS ?_|refine c0 h1 ?_)|refine stA ?_|refine stD ?_|(refine aH hK hX ?_;clear hK hX K)|fail)
 exact cJ
set_option maxHeartbeats 64000000 in
section
variable (l:List LEn) (n:Nat) (hn:l.length=n) (hb:n<=maxLen) (hw:∀e∈l,e.wf/\aS e.k)
include l n hn hb hw
theorem dK8 (hf:bS1 l):qC' 10 [.sl 65 n (lec l)] (.c (bv true)) [] 0:=by
 have h1:=bS2 l n hn hb (fun e he=>(hw e he).1) true ⟨fun _=>hf,fun _=>rfl⟩
 have ho:=cH4 hf hw
 have hn16:n<=16:=by have:=hf.1;omega
 have hll:(lec l).length=n*65:=by rw [gT ho,hn]
 have hPI:=dL2 (l:=l) (fun e he=>⟨(hw e he).1,(hw e he).2,hf.2 e he⟩) hf.1
 obtain ⟨S,hS⟩:∃S:Nat->Lg,∀i,plS (l.take i)=S i:=⟨_,fun _=>rfl⟩
 have hS0:S 0=lgN:=by rw [<- hS];rfl
 have hPI:∀i,i<=n->PlI (S i) i:=fun i hi=>by rw [<- hS];exact hPI i aA
 obtain ⟨G,hG⟩:∃G:Nat->Dp,∀i,lgV (S i).d.sy.length (S i).d.pe.length (S i).l.length (S i)=G i:=⟨_,fun _=>rfl⟩
 have hG0:lgV 0 0 0 lgN=G 0:=by rw [<- hG,hS0];rfl
 have h2:=aC6 dkN 0 0 rfl rfl aN aN lgN 0 0 0 0 cX2 rfl rfl rfl
 have gN:(lgV 0 0 0 lgN).length=37:=rfl
 generalize lgV 0 0 0 lgN=g0 at *
 refine aJ aB (sz:=136) Tryz.func10 rfl (by rw [Tryz.ntmps10];rfl) ?_
 repeat' (first|(refine aC ?_;intro K hK hX)|refine bS [0,2,3,4,5,6,7,8,9,10,11,12,13] ?_|((with_reducible refine bA ?_);refine yA ?_;refine bG (aW (T:=61) aB rfl rfl rfl) rfl ?_)|(refine dJ ?_;first|refine c0 pS ?_|refine c0 h1 ?_|refine c0 bU7 ?_|refine c0 h2 ?_)|refine stA ?_|refine stD ?_|(refine aH hK hX ?_;clear hK hX K)|fail)
 refine cA [5] [0] rfl rfl (fun i:Nat=>[(5,.c (iv i))]) (fun i=>[(0,.row 61 (G i))]) (fun i=>i<=n) (fun i=>n-i) 0 (An _) (by refine cZ rfl ?_ ?_ rfl<;>(repeat' (first|exact cB|exact cC|refine bQ rfl cV0 rfl ?_|refine aQ rfl cV0 rfl ?_|refine aQ rfl (by first|rfl|(first|rfl|exact congrArg (AObj.row _) hG0)) cD ?_))) ?_
 intro i hi K hK hX
 have hP:=hPI i hi
 obtain ⟨p1,p2,p3,p4,p5,p6,p7,p8⟩:=hP
 have hGl:(G i).length=37:=by rw [<- hG];unfold lgV;rw [Aa,aI,p5];rfl
 by_cases hlt:i<n
 ·obtain ⟨e,hat⟩:∃e,l[i]? = some e:=⟨_,Ab aA⟩
  have hx:=mT ho hat
  obtain ⟨ow,ok,oz⟩:=ho e (Ag hat)
  have osm:=hf.2 e (Ag hat)
  have hel:=eX ow
  have hs:S (i+1)=if (opAd (S i) e).2=0 then (opAd (S i) e).1 else S i:=by rw [<- hS,<- hS,eK hat,aJ8]
  have hadd:=fun r err m' k' q' hr hm' hk' hq'=>uP (S i) _ _ _ rfl rfl rfl aA (by rw [p1];decide) (by rw [p2];decide) p5 p6 aA e ow ok oz _ _ rfl rfl r err m' k' q' hr hm' hk' hq'
  rw [hG] at hadd
  change ∀r err m' k' q',_->_->_->_->AC _ _ [_,.agg (ecR e)] _ _ _ at hadd
  rcases aZ8 (hPI i hi) aA ow ok osm with h4|⟨r,h4,h5⟩
  ·have hadd:=hadd lgZ 11 0 0 0 h4 rfl rfl rfl
   have gZ:(lgV 0 0 0 lgZ).length=37:=rfl
   rw [h4,Af aN] at hs
   have hGs:G (i+1)=G i:=by rw [<- hG,<- hG,hs]
   generalize ecR e=cs at *
   generalize lgV 0 0 0 lgZ=gz at *
   repeat' (first|(refine aC ?_;intro K hK hX)|refine cQ8 ?_|(refine aH hK hX ?_;clear hK hX K)|fail)
   exact ⟨i+1,by omega,by omega,(by refine cZ rfl ?_ ?_ rfl<;>(repeat' (first|exact cB|exact cC|refine bQ rfl cU5 rfl ?_|refine aQ rfl cU5 rfl ?_|refine aQ rfl (by first|rfl|(first|rfl|exact congrArg (AObj.row _) hGs.symm|exact congrArg (AObj.row _) hGs)) cD ?_)))⟩
  ·have hadd:=hadd r 0 _ _ _ h4 rfl rfl rfl
   rw [h4,Aj rfl] at hs
   have hGs:lgV r.d.sy.length r.d.pe.length r.l.length r=G (i+1):=by rw [<- hG,hs]
   rw [hGs] at hadd
   have gZ:(G (i+1)).length=37:=by rw [<- hGs];unfold lgV;rw [Aa,aI,h5.c];rfl
   generalize ecR e=cs at *
   repeat' (first|(refine aC ?_;intro K hK hX)|refine cQ8 ?_|(refine aH hK hX ?_;clear hK hX K)|fail)
   exact iN
 have hin:i=n:=by omega
 obtain ⟨L,hL⟩:∃L,(S i).l=L:=⟨_,rfl⟩
 rw [hL] at p6 p7 p8
 obtain ⟨q,hq⟩:∃q,L.length=q:=⟨_,rfl⟩
 rw [hq] at p8
 have hg4:(G i)[0+4]? = some (.sl 65 q (lec L)):=by rw [<- hG,hL,hq];unfold lgV;rw [hL];rfl
 have hck:=bH3 L q hq aA p6 (fun j hj e he=>p7 j e he)
 have her:=yX L q hq aA p6 _ rfl
 have hun:=cP7 L q hq aA p6 _ rfl
 have hsum:(erasV L).length=tot L:=bR9 L p7
 have hul:=cB7 p7
 have hLl:(lec L).length=q*65:=by rw [gT p6,hq]
 have hvl:(vrc (erasV L)).length=(erasV L).length*3:=dW _
 have hil:(cH .i64 (unfi L)).length=(unfi L).length:=fJ _ _
 have htl:=cB2 p6
 rw [hq] at htl
 have hc2:=tY L 2
 have hc4:=tY L 4
 rw [hq] at hc2 hc4
 rw [hsum] at her hvl
 generalize vrc (erasV L)=VL at *
 generalize cH .i64 (unfi L)=UL at *
 obtain ⟨u,hu⟩:∃u,(unfi L).length=u:=⟨_,rfl⟩
 rw [hu] at hun hul hil
 obtain ⟨N,hN⟩:∃N:Nat->Nat,∀j,iQ (L.take j) 2=N j:=⟨_,fun _=>rfl⟩
 obtain ⟨T,hT⟩:∃T:Nat->Nat,∀j,tot (L.take j)=T j:=⟨_,fun _=>rfl⟩
 obtain ⟨C,hC⟩:∃C:Nat->List Int,∀j,clo (L.take j)=C j:=⟨_,fun _=>rfl⟩
 obtain ⟨c,hc⟩:∃c:Nat->Nat,∀j,(C j).length=c j:=⟨_,fun _=>rfl⟩
 have hNb:∀j,N j<=16:=fun j=>by rw [<- hN];have:=tY (L.take j) 2;rw [A1] at this;omega
 have hTb:∀j,T j<=16000:=fun j=>by rw [<- hT];have:=cB2 (p6.take j);rw [A1] at this;omega
 have hcb:∀j,c j<=16:=fun j=>by rw [<- hc,<- hC,aU6];have:=tY (L.take j) 4;rw [A1] at this;omega
 have hN0:N 0=0:=by rw [<- hN];rfl
 have hT0:T 0=0:=by rw [<- hT];rfl
 have hC0:C 0=[]:=by rw [<- hC];rfl
 have hc0:c 0=0:=by rw [<- hc,hC0];rfl
 rw [hin] at *
 generalize G n=g at *
 clear hPI hG hG0 hS hS0 hin hi hlt hL p1 p2 p3 p4 p5 h1 h2 hll hw hf ho
 repeat' (first|(refine aC ?_;intro K hK hX)|refine bS [0,2,3,4,5,6,7,8,9,10,11,12,13] ?_|(refine dJ ?_;refine c0 hck ?_)|refine cY ?_|refine stA ?_|refine stD ?_|(refine aH hK hX ?_;clear hK hX K)|fail)
 refine cA [11,8,9,10] [1] rfl rfl (fun j:Nat=>[(11,.c (iv j)),(8,.c (iv (N j))),(9,.c (iv (T j))),(10,.own 1 0 (c j) 1 true)]) (fun j=>[(1,.row 3 (cH .i64 (C j)))]) (fun j=>j<=q) (fun j=>q-j) 0 (An _) (by refine cZ rfl ?_ ?_ rfl<;>(repeat' (first|exact cB|exact cC|refine bQ rfl cT3 rfl ?_|refine aQ rfl cT3 rfl ?_|refine aQ rfl (by first|rfl|(first|rfl|exact congrArg (fun x:Nat=>AV.c (iv x)) hN0.symm|exact congrArg (fun x:Nat=>AV.c (iv x)) hT0.symm|exact congrArg (fun x=>AV.own 1 0 x 1 true) hc0.symm|exact congrArg (fun x=>AObj.row _ (cH .i64 x)) hC0.symm)) cD ?_))) ?_
 intro j hj K hK hX
 have hcl:(cH .i64 (C j)).length=c j:=by rw [fJ,hc]
 have hcj:=hcb j
 have hNj:=hNb j
 have hTj:=hTb j
 by_cases hlt:j<q
 ·obtain ⟨e,hat⟩:∃e,L[j]? = some e:=⟨_,Ab aA⟩
  have hx:=mT p6 hat
  obtain ⟨ow,ok,oz⟩:=p6 e (Ag hat)
  have hel:=eX ow
  have hFj:=bC2 p7 (j+1)
  rw [eK hat] at hFj
  have hFe:=p7 j e hat
  have hNs:N (j+1)=N j+if e.k=2 then 1 else 0:=by rw [<- hN,<- hN,eK hat,eI]
  have hTs:T (j+1)=T j+if e.k=2 then e.vs.length else 0:=by rw [<- hT,<- hT,eK hat,cB3]
  have hCs:C (j+1)=C j++if e.k=4 then [e.plan] else []:=by rw [<- hC,<- hC,eK hat,bL6]
  have hcs:c (j+1)=(C (j+1)).length:=(hc _).symm
  have hno:∀p,p∈C j->e.plan=p->¬(e.k=3\/e.k=4\/e.k=2):=fun p hp he hk=>by
   rw [<- hC] at hp
   exact bE3 hFj (cF0 hp) hk he
  have hpl:e.k=2->e.plan=(N j:Int):=fun h=>by rw [(hFe.er h).1,<- hN]
  have y0:(ecR e)[0+0]? = some (iv e.k):=rfl
  have y2:(ecR e)[0+2]? = some (iv e.plan):=rfl
  have y7:(ecR e)[0+31]? = some (.sl 3 e.vs.length (vrc e.vs)):=rfl
  have hvs:=oz.vs
  generalize hkk:e.k=kd at *
  generalize e.plan=pl at *
  generalize vrc e.vs=vc at *
  generalize e.vs.length=nv at *
  generalize ecR e=cs at *
  clear hFj hFe ow ok oz hat
  repeat' (first|(refine aC ?_;intro K hK hX)|refine bS [0,2,3,4,5,6,7,8,9,10,11,12,13] ?_|((with_reducible refine bA ?_);refine yA ?_;refine bG (aW (T:=49) aB rfl rfl rfl) rfl ?_)|refine cY ?_|refine jL ?_|refine stA ?_|refine stD ?_|(refine aH hK hX ?_;clear hK hX K)|fail)
  refine cA [13] [] rfl rfl (fun k:Nat=>[(13,.c (iv k))]) (fun k=>[]) (fun k=>k<=c j) (fun k=>c j-k) 0 (An _) gV ?_
  intro k hk K hK hX
  by_cases hkl:k<c j
  ·obtain ⟨p,hp⟩:∃p,(C j)[k]? = some p:=⟨_,Ab (by rw [hc];exact hkl)⟩
   have hno:=hno p (Ag hp)
   have hpc:(cH .i64 (C j))[0+k*1]? = some (iv p):=by rw [Al,A4];exact aI3 hp
   by_cases hpp:p=pl
   ·have hno:=hno hpp.symm
    have n3:¬kd=3:=fun h=>hno (.inl h)
    have n4:¬kd=4:=fun h=>hno (.inr (.inl h))
    have n2:¬kd=2:=fun h=>hno (.inr (.inr h))
    clear hno
    repeat' (first|(refine aC ?_;intro K hK hX)|refine aF9 ?_|(refine aH hK hX ?_;clear hK hX K)|fail)
    exact ⟨k+1,by omega,by omega,gV⟩
   ·clear hno
    repeat' (first|(refine aC ?_;intro K hK hX)|refine aF9 ?_|(refine aH hK hX ?_;clear hK hX K)|fail)
    exact ⟨k+1,by omega,by omega,gV⟩
  have hke:k=c j:=by omega
  rw [hke]
  clear hno hkl hk
  by_cases h2:kd=2
  ·have h4:¬kd=4:=by omega
   have hpl:=hpl h2
   rw [Aj h2] at hNs hTs
   rw [Af h4,A2] at hCs
   have hcs:c (j+1)=c j:=by rw [hcs,hCs,hc]
   have hN1:(N j:Int)+1=(N (j+1):Int):=by omega
   have hT1:(T j:Int)+(nv:Int)=(T (j+1):Int):=by omega
   rw [hpl] at y2
   rw [h2] at y0
   repeat' (first|(refine aC ?_;intro K hK hX)|refine aF9 ?_|(refine aH hK hX ?_;clear hK hX K)|fail)
   exact ⟨j+1,by omega,by omega,(by refine cZ rfl ?_ ?_ rfl<;>(repeat' (first|exact cB|exact cC|refine bQ rfl dI2 rfl ?_|refine aQ rfl dI2 rfl ?_|refine aQ rfl (by first|rfl|(first|rfl|exact congrArg (fun x:Int=>AV.c (iv x)) hN1.symm|exact congrArg (fun x:Int=>AV.c (iv x)) hT1.symm|exact congrArg (fun x=>AV.own 1 0 x 1 true) hcs|exact congrArg (fun x=>AObj.row _ (cH .i64 x)) hCs|exact congrArg (fun x=>AV.own 1 0 x 1 true) hcs.symm|exact congrArg (fun x=>AObj.row _ (cH .i64 x)) hCs.symm)) cD ?_)))⟩
  ·rw [Af h2,BU] at hNs hTs
   by_cases h4:kd=4
   ·rw [Aj h4] at hCs
    have hcs:c (j+1)=c j+1:=by rw [hcs,hCs,Aa,hc];rfl
    have hsc:cH .i64 (C j)++[iv pl]=cH .i64 (C (j+1)):=by rw [hCs,aY5]
    rw [h4] at y0
    repeat' (first|(refine aC ?_;intro K hK hX)|refine aF9 ?_|(refine aH hK hX ?_;clear hK hX K)|fail)
    exact ⟨j+1,by omega,by omega,(by refine iG [0,4] rfl rfl ?_ ?_ rfl rfl<;>(repeat' (first|exact eO|exact dL|refine dY rfl cT6 rfl ?_|refine bY rfl setT_mp cD ?_|refine bY rfl cT6 rfl ?_)))⟩
   ·rw [Af h4,A2] at hCs
    have hcs:c (j+1)=c j:=by rw [hcs,hCs,hc]
    repeat' (first|(refine aC ?_;intro K hK hX)|refine aF9 ?_|(refine aH hK hX ?_;clear hK hX K)|fail)
    exact ⟨j+1,by omega,by omega,(by refine cZ rfl ?_ ?_ rfl<;>(repeat' (first|exact cB|exact cC|refine bQ rfl dI4 rfl ?_|refine aQ rfl dI4 rfl ?_|refine aQ rfl (by first|rfl|(first|rfl|exact congrArg (fun x:Nat=>AV.c (iv x)) hNs|exact congrArg (fun x:Nat=>AV.c (iv x)) hTs|exact congrArg (fun x=>AV.own 1 0 x 1 true) hcs|exact congrArg (fun x=>AObj.row _ (cH .i64 x)) hCs|exact congrArg (fun x=>AV.own 1 0 x 1 true) hcs.symm|exact congrArg (fun x=>AObj.row _ (cH .i64 x)) hCs.symm)) cD ?_)))⟩
 ·have hjq:j=q:=by omega
  have hNq:N q=iQ L 2:=by rw [<- hN,Ah aA]
  have hTq:T q=tot L:=by rw [<- hT,Ah aA]
  have hcq:c q=iQ L 4:=by rw [<- hc,<- hC,Ah aA,aU6]
  rw [hjq] at hcl hcj hNj hTj ⊢
  rw [<- hTq] at her hvl
  rw [<- hNq,<- hcq] at hul
  repeat' (first|(refine aC ?_;intro K hK hX)|refine bS [0,2,3,4,5,6,7,8,9,10,11,12,13] ?_|(refine dJ ?_;first|refine c0 pS ?_|refine c0 her ?_|refine c0 hun ?_)|refine cY ?_|refine stA ?_|refine stD ?_|(refine aH hK hX ?_;clear hK hX K)|fail)
  exact cJ
theorem law_lplans:qC' 10 [.sl 65 n (lec l)] (.c (bv true)) [] 0:=by
 by_cases hf:bS1 l
 ·exact dK8 l n hn hb hw hf
 ·exact dK7 l n hn hb hw hf
end
end Go.Proofs.YtbgehdndimlgkaaGreat
