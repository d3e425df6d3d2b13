/- Lemmas for laws of the ledger. -/
import Derived.Test.YtbgehdndimlgkaaGreatV24
set_option linter.all false
namespace Go.Proofs.YtbgehdndimlgkaaGreat
open Go Go.RowKit Go.Av
set_option maxRecDepth 100000
noncomputable def ktI:KeyT Tryz.prog 3 Int:=dD0 aT
noncomputable def ktP:KeyT Tryz.prog 24 (Int × Int):=aC0 (I:=3) (n:=2) (Go.deep_law (m:=3) aN aT aT aT) aT aT aT aT aT aT (fun p=>[p.1,p.2]) (fun _=>rfl) (fun a b h=>by injection h with h1 h2;injection h2 with h2 _;exact Prod.ext h1 h2)
noncomputable def ktV:KeyT Tryz.prog 76 Ver:=aC0 (I:=3) (n:=3) (Go.deep_law (m:=3) aN aT aT aT) aT aT aT aT aT aT (fun v=>[v.t,v.c,v.s]) (fun _=>rfl) (fun a b h=>by
 obtain ⟨a1,a2,a3⟩:=a;obtain ⟨b1,b2,b3⟩:=b
 simp only [List.cons.injEq,and_true] at h
 obtain ⟨rfl,rfl,rfl⟩:=h;rfl)
noncomputable def ktS:KeyT Tryz.prog 72 Src:=aC0 (I:=3) (n:=2) (Go.deep_law (m:=3) aN aT aT aT) aT aT aT aT aT aT (fun v=>[v.t,v.s]) (fun _=>rfl) (fun a b h=>by
 obtain ⟨a1,a2⟩:=a;obtain ⟨b1,b2⟩:=b
 simp only [List.cons.injEq,and_true] at h
 obtain ⟨rfl,rfl⟩:=h;rfl)
abbrev tTl:Dh:=150
noncomputable def tlH (t:Tl):aL:=[(0,.blk tTl [.c (bv t.so),.c (iv t.day),.c (iv t.er),.c (iv t.sg),.mh 1,.mh 2,.mh 3,.mh 4,.mh 5]),(1,.tab (aD ktI.kc t.bg)),(2,.tab (aD ktI.kc t.co)),(3,.tab (aD ktP.kc t.st)),(4,.tab (aD ktV.kc t.vs)),(5,.tab (aD ktS.kc t.ss))]
structure Tl.wf (t:Tl):Prop where
 day:aS t.day
 er:t.er<=1000000
 sg:t.sg<=1000000
 st:∀p∈t.st,aS p.1/\aS p.2
 vs:∀v∈t.vs,aS v.t/\aS v.c/\aS v.s
 ss:∀v∈t.ss,aS v.t/\aS v.s
theorem gQ (t:Tl):∀i,([.ref 0 0,.mh 1,.mh 2,.mh 3,.mh 4,.mh 5]:Dq)[i]? = some (.mh i)->∃es,lk (tlH t) i=some (.tab es)
 | 0,h=>by cases h
 | 1,_=>⟨_,rfl⟩
 | 2,_=>⟨_,rfl⟩
 | 3,_=>⟨_,rfl⟩
 | 4,_=>⟨_,rfl⟩
 | 5,_=>⟨_,rfl⟩
 | n+6,h=>by simp at h
theorem gR (t:Tl):∀i,([.ref 0 0,.mh 1,.mh 2,.mh 3,.mh 4,.mh 5]:Dq)[i]? = some (.ref i 0)->∃T cs,lk (tlH t) i=some (.blk T cs)
 | 0,_=>⟨_,_,rfl⟩
 | 1,h=>by cases h
 | 2,h=>by cases h
 | 3,h=>by cases h
 | 4,h=>by cases h
 | 5,h=>by cases h
 | n+6,h=>by simp at h
theorem bS9 {keep:De} {h:aL}:Frz keep h (.tup []) (.v (.tuple #[])):=by
 intro B dom M H w u hh hk hc hu
 simp only [Rep,RepL] at hu
 obtain ⟨us,rfl,rfl⟩:=hu
 simp only [RepC]
section
variable {P:Di} {sz n i n0 m:Nat} {env env0:Env} {h h0:aL} {dfs:bM} {K:AK} {l rest:Dc} {es:List Eat} {T ty:Dh} {x y z:Operand} {pos:String} {aft:Df} {gd:Da} {d:Dg}
end
attribute [local irreducible] Still Adds AWL AW Drw bN bP AC AWR cM Frz Go.Av.Src dB Out InK ItK AsK RdK eA dZ ACT ACA eL ACG eR
attribute [local simp] bL bK bZ
theorem bU9 {p:Int × Int} (h1:aS p.1) (h2:aS p.2):ktP.ok p:=by
 intro v hv
 rcases A3.1 hv with rfl|hv
 ·exact h1
 ·rw [AP.1 hv];exact h2
theorem nI {p:Ver} (h:aS p.t/\aS p.c/\aS p.s):ktV.ok p:=by
 intro v hv
 rcases A3.1 hv with rfl|hv
 ·exact h.1
 ·rcases A3.1 hv with rfl|hv
  ·exact h.2.1
  ·rw [AP.1 hv];exact h.2.2
theorem mH {p:Src} (h:aS p.t/\aS p.s):ktS.ok p:=by
 intro v hv
 rcases A3.1 hv with rfl|hv
 ·exact h.1
 ·rw [AP.1 hv];exact h.2
set_option maxHeartbeats 16000000 in
theorem aN3 (t:Tl) (ht:t.wf) (e:LEn) (hw:e.wf) (nv ns:Nat) (hnv:e.vs.length=nv) (hns:e.ss.length=ns) (hb1:nv<=1000000) (hb2:ns<=1000000):ACG Tryz.prog 63 6 (tlH t) [.agg (ecs e nv ns)] (tlH (t.add e)) (.v (.tuple #[])):=by
 have hel:=cS hw.root nv ns
 obtain ⟨t1,t2,t3,t4,t5,t6⟩:=ht
 have w1:=hw.h1
 have w2:=hw.vs
 have w3:=hw.ss
 clear hw
 unfold Tl.add
 by_cases k2:e.k=2
 ·rw [Aj k2]
  have hvl:(vrc e.vs).length=nv*3:=by rw [dW,hnv]
  have hsl:(src e.ss).length=ns*2:=by rw [fT,hns]
  obtain ⟨so,day,er,sg,bg,co,st,vs,ss⟩:=t
  obtain ⟨k,eday,plan,step,rq,lk',hd,evs,ess,root⟩:=e
  dsimp only [ecs,tlH] at *
  subst k2
  refine cI aB [.ref 0 0,.mh 1,.mh 2,.mh 3,.mh 4,.mh 5] (sz:=87) Tryz.func63 rfl vH rfl rfl rfl rfl (gQ ⟨so,day,er,sg,bg,co,st,vs,ss⟩) (gR ⟨so,day,er,sg,bg,co,st,vs,ss⟩) ?_
  repeat' (first|(refine aC ?_;intro K hK hX)|refine cQ7 ?_|(refine aH hK hX ?_;clear hK hX K)|fail)
  refine cA [36,33] [4] rfl rfl (fun i:Nat=>[(36,.c (iv i))]) (fun i=>[(4,.tab (aD ktV.kc (fY vs (evs.take i))))]) (fun i=>i<=nv) (fun i=>nv-i) 0 (An _) gV ?_
  intro i hi K hK hX
  by_cases hlt:i<nv
  ·obtain ⟨v,hat⟩:∃v,evs[i]? = some v:=⟨_,Ab aA⟩
   have hx:=iX hat
   have hok:ktV.ok v:=nI (w2 v (Ag hat))
   have hoks:∀q∈fY vs (evs.take i),ktV.ok q:=fun q hq=>by
    rcases (kU _ _ _).1 hq with h|h
    ·exact nI (t5 q h)
    ·exact nI (w2 q (AL h))
   have hst:lQ (fY vs (evs.take i)) v=fY vs (evs.take (i+1)):=by rw [<- tJ,BT,hat];rfl
   obtain ⟨vt,vc,vs'⟩:=v
   simp only at hx
   repeat' (first|(refine aC ?_;intro K hK hX)|refine gG [0,1,3,5,7,17,34,35,36,47,48,49] ?_|((with_reducible refine oH ?_);refine eM qT (fK aB rfl rfl rfl rfl rfl rfl) ?_)|((with_reducible refine rH ?_);refine eM qT (gP rfl) ?_)|((with_reducible refine oI ?_);refine eM qT (oQ rfl) ?_)|((with_reducible refine cV ?_);refine yA ?_;refine bG (cU rfl) rfl ?_)|((with_reducible refine wJ ?_);refine kP (k:=(⟨vt,vc,vs'⟩:Ver)) ktV aB aE rfl rfl rfl rfl rfl rfl hok hoks ?_)|refine aV5 ?_|refine stA ?_|refine stE ?_|(refine aH hK hX ?_;clear hK hX K)|fail)
   exact ⟨i+1,by omega,by omega,(by refine cZ rfl ?_ ?_ rfl<;>(repeat' (first|exact cB|exact cC|refine bQ rfl cU7 rfl ?_|refine aQ rfl cU7 rfl ?_|refine aQ rfl (by first|rfl|(exact congrArg (fun l=>AObj.tab (aD ktV.kc l)) hst)) cD ?_)))⟩
  ·have hin:evs.take i=evs:=Ah aA
   rw [hin]
   clear hin
   repeat' (first|(refine aC ?_;intro K hK hX)|refine cF2 ?_|(refine aH hK hX ?_;clear hK hX K)|fail)
   refine cA [49,46] [5] rfl rfl (fun j:Nat=>[(49,.c (iv j))]) (fun j=>[(5,.tab (aD ktS.kc (fY ss (ess.take j))))]) (fun j=>j<=ns) (fun j=>ns-j) 0 (An _) gV ?_
   intro j hj K hK hX
   by_cases hlt:j<ns
   ·obtain ⟨v,hat⟩:∃v,ess[j]? = some v:=⟨_,Ab aA⟩
    have hx:=iW hat
    have hok:ktS.ok v:=mH (w3 v (Ag hat))
    have hoks:∀q∈fY ss (ess.take j),ktS.ok q:=fun q hq=>by
     rcases (kU _ _ _).1 hq with h|h
     ·exact mH (t6 q h)
     ·exact mH (w3 q (AL h))
    have hst:lQ (fY ss (ess.take j)) v=fY ss (ess.take (j+1)):=by rw [<- tJ,BT,hat];rfl
    obtain ⟨vt,vs'⟩:=v
    simp only at hx
    repeat' (first|(refine aC ?_;intro K hK hX)|refine gG [0,1,3,5,7,17,34,35,36,47,48,49] ?_|((with_reducible refine oH ?_);refine eM qT (fK aB rfl rfl rfl rfl rfl rfl) ?_)|((with_reducible refine rH ?_);refine eM qT (gP rfl) ?_)|((with_reducible refine oI ?_);refine eM qT (oQ rfl) ?_)|((with_reducible refine cV ?_);refine yA ?_;refine bG (cU rfl) rfl ?_)|((with_reducible refine wJ ?_);refine kP (k:=(⟨vt,vs'⟩:Src)) ktS aB aE rfl rfl rfl rfl rfl rfl hok hoks ?_)|refine aV5 ?_|refine stA ?_|refine stE ?_|(refine aH hK hX ?_;clear hK hX K)|fail)
    exact ⟨j+1,by omega,by omega,(by refine cZ rfl ?_ ?_ rfl<;>(repeat' (first|exact cB|exact cC|refine bQ rfl cU8 rfl ?_|refine aQ rfl cU8 rfl ?_|refine aQ rfl (by first|rfl|(exact congrArg (fun l=>AObj.tab (aD ktS.kc l)) hst)) cD ?_)))⟩
   ·have hin:ess.take j=ess:=Ah aA
    rw [hin]
    clear hin
    repeat' (first|(refine aC ?_;intro K hK hX)|refine cF2 ?_|(refine aH hK hX ?_;clear hK hX K)|fail)
    exact aG8
 ·rw [Af k2]
  by_cases k3:e.k=3
  ·rw [Aj k3]
   have hok:ktP.ok (e.plan,e.step):=bU9 w1.2.1 w1.2.2
   have hoks:∀q∈t.st,ktP.ok q:=fun q hq=>bU9 (t4 q hq).1 (t4 q hq).2
   obtain ⟨so,day,er,sg,bg,co,st,vs,ss⟩:=t
   obtain ⟨k,eday,plan,step,rq,lk',hd,evs,ess,root⟩:=e
   dsimp only [ecs,tlH] at *
   subst k3
   refine cI aB [.ref 0 0,.mh 1,.mh 2,.mh 3,.mh 4,.mh 5] (sz:=87) Tryz.func63 rfl vH rfl rfl rfl rfl (gQ ⟨so,day,er,sg,bg,co,st,vs,ss⟩) (gR ⟨so,day,er,sg,bg,co,st,vs,ss⟩) ?_
   repeat' (first|(refine aC ?_;intro K hK hX)|refine gG [0,1,3,5,7,17,34,35,36,47,48,49] ?_|((with_reducible refine oH ?_);refine eM qT (fK aB rfl rfl rfl rfl rfl rfl) ?_)|((with_reducible refine rH ?_);refine eM qT (gP rfl) ?_)|((with_reducible refine oI ?_);refine eM qT (oQ rfl) ?_)|((with_reducible refine cV ?_);refine yA ?_;refine bG (cU rfl) rfl ?_)|((with_reducible refine wJ ?_);refine kP (k:=(plan,step)) ktP aB aE rfl rfl rfl rfl rfl rfl hok hoks ?_)|refine stA ?_|refine stE ?_|(refine aH hK hX ?_;clear hK hX K)|fail)
   exact aG8
  ·rw [Af k3]
   by_cases k4:e.k=4
   ·rw [Aj k4]
    obtain ⟨so,day,er,sg,bg,co,st,vs,ss⟩:=t
    obtain ⟨k,eday,plan,step,rq,lk',hd,evs,ess,root⟩:=e
    dsimp only [ecs,tlH] at *
    subst k4
    refine cI aB [.ref 0 0,.mh 1,.mh 2,.mh 3,.mh 4,.mh 5] (sz:=87) Tryz.func63 rfl vH rfl rfl rfl rfl (gQ ⟨so,day,er,sg,bg,co,st,vs,ss⟩) (gR ⟨so,day,er,sg,bg,co,st,vs,ss⟩) ?_
    repeat' (first|(refine aC ?_;intro K hK hX)|refine cQ7 ?_|(refine aH hK hX ?_;clear hK hX K)|fail)
    exact aG8
   ·rw [Af k4]
    by_cases k5:e.k=5
    ·rw [Aj k5]
     obtain ⟨so,day,er,sg,bg,co,st,vs,ss⟩:=t
     obtain ⟨k,eday,plan,step,rq,lk',hd,evs,ess,root⟩:=e
     dsimp only [ecs,tlH] at *
     subst k5
     refine cI aB [.ref 0 0,.mh 1,.mh 2,.mh 3,.mh 4,.mh 5] (sz:=87) Tryz.func63 rfl vH rfl rfl rfl rfl (gQ ⟨so,day,er,sg,bg,co,st,vs,ss⟩) (gR ⟨so,day,er,sg,bg,co,st,vs,ss⟩) ?_
     repeat' (first|(refine aC ?_;intro K hK hX)|refine cF2 ?_|(refine aH hK hX ?_;clear hK hX K)|fail)
     exact aG8
    ·rw [Af k5]
     obtain ⟨so,day,er,sg,bg,co,st,vs,ss⟩:=t
     obtain ⟨k,eday,plan,step,rq,lk',hd,evs,ess,root⟩:=e
     dsimp only [ecs,tlH] at *
     refine cI aB [.ref 0 0,.mh 1,.mh 2,.mh 3,.mh 4,.mh 5] (sz:=87) Tryz.func63 rfl vH rfl rfl rfl rfl (gQ ⟨so,day,er,sg,bg,co,st,vs,ss⟩) (gR ⟨so,day,er,sg,bg,co,st,vs,ss⟩) ?_
     repeat' (first|(refine aC ?_;intro K hK hX)|refine cF2 ?_|(refine aH hK hX ?_;clear hK hX K)|fail)
     exact aG8
end Go.Proofs.YtbgehdndimlgkaaGreat
