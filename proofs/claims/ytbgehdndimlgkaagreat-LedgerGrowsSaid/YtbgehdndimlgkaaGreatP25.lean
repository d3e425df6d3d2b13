/- Lemmas for laws of the ledger. -/
import Derived.Test.YtbgehdndimlgkaaGreatP24
set_option linter.all false
namespace Go.Proofs.YtbgehdndimlgkaaGreat
open Go Go.RowKit Go.Av
set_option maxRecDepth 100000
noncomputable def ktI:KeyT Tryz.prog 3 Int:=eI0 aO
noncomputable def ktP:KeyT Tryz.prog 24 (Int × Int):=aU7 (I:=3) (n:=2) (Go.deep_law (m:=3) aN aO aO aO) aO aO aO aO aO aO (fun p=>[p.1,p.2]) (fun _=>rfl) (fun a b h=>by injection h with h1 h2;injection h2 with h2 _;exact Prod.ext h1 h2)
noncomputable def ktV:KeyT Tryz.prog 76 Ver:=aU7 (I:=3) (n:=3) (Go.deep_law (m:=3) aN aO aO aO) aO aO aO aO aO aO (fun v=>[v.t,v.c,v.s]) (fun _=>rfl) (fun a b h=>by
 obtain ⟨a1,a2,a3⟩:=a;obtain ⟨b1,b2,b3⟩:=b
 simp only [List.cons.injEq,and_true] at h
 obtain ⟨rfl,rfl,rfl⟩:=h;rfl)
noncomputable def ktS:KeyT Tryz.prog 72 Src:=aU7 (I:=3) (n:=2) (Go.deep_law (m:=3) aN aO aO aO) aO aO aO aO aO aO (fun v=>[v.t,v.s]) (fun _=>rfl) (fun a b h=>by
 obtain ⟨a1,a2⟩:=a;obtain ⟨b1,b2⟩:=b
 simp only [List.cons.injEq,and_true] at h
 obtain ⟨rfl,rfl⟩:=h;rfl)
abbrev tTl:Dz:=150
noncomputable def tlH (t:Tl):aQ:=[(0,.blk tTl [.c (bv t.so),.c (iv t.day),.c (iv t.er),.c (iv t.sg),.mh 1,.mh 2,.mh 3,.mh 4,.mh 5]),(1,.tab (aI ktI.kc t.bg)),(2,.tab (aI ktI.kc t.co)),(3,.tab (aI ktP.kc t.st)),(4,.tab (aI ktV.kc t.vs)),(5,.tab (aI ktS.kc t.ss))]
structure Tl.wf (t:Tl):Prop where
 day:aS t.day
 er:t.er<=1000000
 sg:t.sg<=1000000
 st:∀p∈t.st,aS p.1/\aS p.2
 vs:∀v∈t.vs,aS v.t/\aS v.c/\aS v.s
 ss:∀v∈t.ss,aS v.t/\aS v.s
theorem jJ (t:Tl):∀i,([.ref 0 0,.mh 1,.mh 2,.mh 3,.mh 4,.mh 5]:D9)[i]? = some (.mh i)->∃es,lk (tlH t) i=some (.tab es)
 | 0,h=>by cases h
 | 1,_=>⟨_,rfl⟩
 | 2,_=>⟨_,rfl⟩
 | 3,_=>⟨_,rfl⟩
 | 4,_=>⟨_,rfl⟩
 | 5,_=>⟨_,rfl⟩
 | n+6,h=>by simp at h
theorem jK (t:Tl):∀i,([.ref 0 0,.mh 1,.mh 2,.mh 3,.mh 4,.mh 5]:D9)[i]? = some (.ref i 0)->∃T cs,lk (tlH t) i=some (.blk T cs)
 | 0,_=>⟨_,_,rfl⟩
 | 1,h=>by cases h
 | 2,h=>by cases h
 | 3,h=>by cases h
 | 4,h=>by cases h
 | 5,h=>by cases h
 | n+6,h=>by simp at h
theorem cS8 {keep:Dw} {h:aQ}:Frz keep h (.tup []) (.v (.tuple #[])):=by
 intro B dom M H w u hh hk hc hu
 simp only [Rep,RepL] at hu
 obtain ⟨us,rfl,rfl⟩:=hu
 simp only [RepC]
section
variable {P:D0} {sz n i n0 m:Nat} {env env0:Env} {h h0:aQ} {dfs:cK} {K:AK} {l rest:Du} {es:List Eat} {T ty:Dz} {x y z:Operand} {pos:String} {aft:Dx} {gd:Ds} {d:Dy}
end
attribute [local irreducible] Still Adds AWL AW Drw bY bW AC AWR cR Frz Go.Av.Src cQ Out InK ItK AsK RdK eL eF ACT ACA eT ACG fP
attribute [local simp] bV bU bM
theorem cU6 {p:Int × Int} (h1:aS p.1) (h2:aS p.2):ktP.ok p:=by
 intro v hv
 rcases A6.1 hv with rfl|hv
 ·exact h1
 ·rw [AZ.1 hv];exact h2
theorem rG {p:Ver} (h:aS p.t/\aS p.c/\aS p.s):ktV.ok p:=by
 intro v hv
 rcases A6.1 hv with rfl|hv
 ·exact h.1
 ·rcases A6.1 hv with rfl|hv
  ·exact h.2.1
  ·rw [AZ.1 hv];exact h.2.2
theorem pG {p:Src} (h:aS p.t/\aS p.s):ktS.ok p:=by
 intro v hv
 rcases A6.1 hv with rfl|hv
 ·exact h.1
 ·rw [AZ.1 hv];exact h.2
set_option maxHeartbeats 16000000 in
theorem cH6 (t:Tl) (ht:t.wf) (e:LEn) (hw:e.wf) (nv ns:Nat) (hnv:e.vs.length=nv) (hns:e.ss.length=ns) (hb1:nv<=1000000) (hb2:ns<=1000000):ACG Tryz.prog 63 6 (tlH t) [.agg (ecs e nv ns)] (tlH (t.add e)) (.v (.tuple #[])):=by
 have hel:=cI hw.root nv ns
 obtain ⟨t1,t2,t3,t4,t5,t6⟩:=ht
 have w1:=hw.h1
 have w2:=hw.vs
 have w3:=hw.ss
 clear hw
 unfold Tl.add
 by_cases k2:e.k=2
 ·rw [Ak k2]
  have hvl:(vrc e.vs).length=nv*3:=by rw [dE,hnv]
  have hsl:(src e.ss).length=ns*2:=by rw [dI,hns]
  obtain ⟨so,day,er,sg,bg,co,st,vs,ss⟩:=t
  obtain ⟨k,eday,plan,step,rq,lk',hd,evs,ess,root⟩:=e
  dsimp only [ecs,tlH] at *
  subst k2
  refine dC aB [.ref 0 0,.mh 1,.mh 2,.mh 3,.mh 4,.mh 5] (sz:=87) Tryz.func63 rfl aD6 rfl rfl rfl rfl (jJ ⟨so,day,er,sg,bg,co,st,vs,ss⟩) (jK ⟨so,day,er,sg,bg,co,st,vs,ss⟩) ?_
  repeat' (first|(refine aC ?_;intro K hK hX)|refine dS4 ?_|(refine aE hK hX ?_;clear hK hX K)|fail)
  refine bF [36,33] [4] rfl rfl (fun i:Nat=>[(36,.c (iv i))]) (fun i=>[(4,.tab (aI ktV.kc (iV vs (evs.take i))))]) (fun i=>i<=nv) (fun i=>nv-i) 0 (Al _) cS ?_
  intro i hi K hK hX
  by_cases hlt:i<nv
  ·obtain ⟨v,hat⟩:∃v,evs[i]? = some v:=⟨_,Ab aA⟩
   have hx:=eN hat
   have hok:ktV.ok v:=rG (w2 v (Ad hat))
   have hoks:∀q∈iV vs (evs.take i),ktV.ok q:=fun q hq=>by
    rcases (nN _ _ _).1 hq with h|h
    ·exact rG (t5 q h)
    ·exact rG (w2 q (AJ h))
   have hst:qF (iV vs (evs.take i)) v=iV vs (evs.take (i+1)):=by rw [<- yW,BD,hat];rfl
   obtain ⟨vt,vc,vs'⟩:=v
   simp only at hx
   repeat' (first|(refine aC ?_;intro K hK hX)|refine fL [0,1,3,5,7,17,34,35,36,47,48,49] ?_|((with_reducible refine sC ?_);refine fH uW (iH aB rfl rfl rfl rfl rfl rfl) ?_)|((with_reducible refine vS ?_);refine fH uW (jI rfl) ?_)|((with_reducible refine lT ?_);refine fH uW (nT rfl) ?_)|((with_reducible refine bH ?_);refine yA ?_;refine bE (bJ rfl) rfl ?_)|((with_reducible refine aU5 ?_);refine pV (k:=(⟨vt,vc,vs'⟩:Ver)) ktV aB aG rfl rfl rfl rfl rfl rfl hok hoks ?_)|refine aR5 ?_|refine stA ?_|refine stE ?_|(refine aE hK hX ?_;clear hK hX K)|fail)
   exact ⟨i+1,by omega,by omega,(by refine dF rfl ?_ ?_ rfl<;>(repeat' (first|exact cE|exact cG|refine bS rfl dX6 rfl ?_|refine aZ rfl dX6 rfl ?_|refine aZ rfl (by first|rfl|(exact congrArg (fun l=>AObj.tab (aI ktV.kc l)) hst)) cT ?_)))⟩
  ·have hin:evs.take i=evs:=Ae aA
   rw [hin]
   clear hin
   repeat' (first|(refine aC ?_;intro K hK hX)|refine bQ3 ?_|(refine aE hK hX ?_;clear hK hX K)|fail)
   refine bF [49,46] [5] rfl rfl (fun j:Nat=>[(49,.c (iv j))]) (fun j=>[(5,.tab (aI ktS.kc (iV ss (ess.take j))))]) (fun j=>j<=ns) (fun j=>ns-j) 0 (Al _) cS ?_
   intro j hj K hK hX
   by_cases hlt:j<ns
   ·obtain ⟨v,hat⟩:∃v,ess[j]? = some v:=⟨_,Ab aA⟩
    have hx:=eB hat
    have hok:ktS.ok v:=pG (w3 v (Ad hat))
    have hoks:∀q∈iV ss (ess.take j),ktS.ok q:=fun q hq=>by
     rcases (nN _ _ _).1 hq with h|h
     ·exact pG (t6 q h)
     ·exact pG (w3 q (AJ h))
    have hst:qF (iV ss (ess.take j)) v=iV ss (ess.take (j+1)):=by rw [<- yW,BD,hat];rfl
    obtain ⟨vt,vs'⟩:=v
    simp only at hx
    repeat' (first|(refine aC ?_;intro K hK hX)|refine fL [0,1,3,5,7,17,34,35,36,47,48,49] ?_|((with_reducible refine sC ?_);refine fH uW (iH aB rfl rfl rfl rfl rfl rfl) ?_)|((with_reducible refine vS ?_);refine fH uW (jI rfl) ?_)|((with_reducible refine lT ?_);refine fH uW (nT rfl) ?_)|((with_reducible refine bH ?_);refine yA ?_;refine bE (bJ rfl) rfl ?_)|((with_reducible refine aU5 ?_);refine pV (k:=(⟨vt,vs'⟩:Src)) ktS aB aG rfl rfl rfl rfl rfl rfl hok hoks ?_)|refine aR5 ?_|refine stA ?_|refine stE ?_|(refine aE hK hX ?_;clear hK hX K)|fail)
    exact ⟨j+1,by omega,by omega,(by refine dF rfl ?_ ?_ rfl<;>(repeat' (first|exact cE|exact cG|refine bS rfl dX7 rfl ?_|refine aZ rfl dX7 rfl ?_|refine aZ rfl (by first|rfl|(exact congrArg (fun l=>AObj.tab (aI ktS.kc l)) hst)) cT ?_)))⟩
   ·have hin:ess.take j=ess:=Ae aA
    rw [hin]
    clear hin
    repeat' (first|(refine aC ?_;intro K hK hX)|refine bQ3 ?_|(refine aE hK hX ?_;clear hK hX K)|fail)
    exact bA3
 ·rw [Ai k2]
  by_cases k3:e.k=3
  ·rw [Ak k3]
   have hok:ktP.ok (e.plan,e.step):=cU6 w1.2.1 w1.2.2
   have hoks:∀q∈t.st,ktP.ok q:=fun q hq=>cU6 (t4 q hq).1 (t4 q hq).2
   obtain ⟨so,day,er,sg,bg,co,st,vs,ss⟩:=t
   obtain ⟨k,eday,plan,step,rq,lk',hd,evs,ess,root⟩:=e
   dsimp only [ecs,tlH] at *
   subst k3
   refine dC aB [.ref 0 0,.mh 1,.mh 2,.mh 3,.mh 4,.mh 5] (sz:=87) Tryz.func63 rfl aD6 rfl rfl rfl rfl (jJ ⟨so,day,er,sg,bg,co,st,vs,ss⟩) (jK ⟨so,day,er,sg,bg,co,st,vs,ss⟩) ?_
   repeat' (first|(refine aC ?_;intro K hK hX)|refine fL [0,1,3,5,7,17,34,35,36,47,48,49] ?_|((with_reducible refine sC ?_);refine fH uW (iH aB rfl rfl rfl rfl rfl rfl) ?_)|((with_reducible refine vS ?_);refine fH uW (jI rfl) ?_)|((with_reducible refine lT ?_);refine fH uW (nT rfl) ?_)|((with_reducible refine bH ?_);refine yA ?_;refine bE (bJ rfl) rfl ?_)|((with_reducible refine aU5 ?_);refine pV (k:=(plan,step)) ktP aB aG rfl rfl rfl rfl rfl rfl hok hoks ?_)|refine stA ?_|refine stE ?_|(refine aE hK hX ?_;clear hK hX K)|fail)
   exact bA3
  ·rw [Ai k3]
   by_cases k4:e.k=4
   ·rw [Ak k4]
    obtain ⟨so,day,er,sg,bg,co,st,vs,ss⟩:=t
    obtain ⟨k,eday,plan,step,rq,lk',hd,evs,ess,root⟩:=e
    dsimp only [ecs,tlH] at *
    subst k4
    refine dC aB [.ref 0 0,.mh 1,.mh 2,.mh 3,.mh 4,.mh 5] (sz:=87) Tryz.func63 rfl aD6 rfl rfl rfl rfl (jJ ⟨so,day,er,sg,bg,co,st,vs,ss⟩) (jK ⟨so,day,er,sg,bg,co,st,vs,ss⟩) ?_
    repeat' (first|(refine aC ?_;intro K hK hX)|refine dS4 ?_|(refine aE hK hX ?_;clear hK hX K)|fail)
    exact bA3
   ·rw [Ai k4]
    by_cases k5:e.k=5
    ·rw [Ak k5]
     obtain ⟨so,day,er,sg,bg,co,st,vs,ss⟩:=t
     obtain ⟨k,eday,plan,step,rq,lk',hd,evs,ess,root⟩:=e
     dsimp only [ecs,tlH] at *
     subst k5
     refine dC aB [.ref 0 0,.mh 1,.mh 2,.mh 3,.mh 4,.mh 5] (sz:=87) Tryz.func63 rfl aD6 rfl rfl rfl rfl (jJ ⟨so,day,er,sg,bg,co,st,vs,ss⟩) (jK ⟨so,day,er,sg,bg,co,st,vs,ss⟩) ?_
     repeat' (first|(refine aC ?_;intro K hK hX)|refine bQ3 ?_|(refine aE hK hX ?_;clear hK hX K)|fail)
     exact bA3
    ·rw [Ai k5]
     obtain ⟨so,day,er,sg,bg,co,st,vs,ss⟩:=t
     obtain ⟨k,eday,plan,step,rq,lk',hd,evs,ess,root⟩:=e
     dsimp only [ecs,tlH] at *
     refine dC aB [.ref 0 0,.mh 1,.mh 2,.mh 3,.mh 4,.mh 5] (sz:=87) Tryz.func63 rfl aD6 rfl rfl rfl rfl (jJ ⟨so,day,er,sg,bg,co,st,vs,ss⟩) (jK ⟨so,day,er,sg,bg,co,st,vs,ss⟩) ?_
     repeat' (first|(refine aC ?_;intro K hK hX)|refine bQ3 ?_|(refine aE hK hX ?_;clear hK hX K)|fail)
     exact bA3
end Go.Proofs.YtbgehdndimlgkaaGreat
