/- Lemmas for laws of the ledger. -/
import Derived.Test.YtbgehdndimlgkaaGreatR24
set_option linter.all false
namespace Go.Proofs.YtbgehdndimlgkaaGreat
open Go Go.RowKit Go.Av
set_option maxRecDepth 100000
noncomputable def ktI:KeyT Tryz.prog 3 Int:=dM9 aM
noncomputable def ktP:KeyT Tryz.prog 24 (Int × Int):=aH9 (I:=3) (n:=2) (Go.deep_law (m:=3) aP aM aM aM) aM aM aM aM aM aM (fun p=>[p.1,p.2]) (fun _=>rfl) (fun a b h=>by injection h with h1 h2;injection h2 with h2 _;exact Prod.ext h1 h2)
noncomputable def ktV:KeyT Tryz.prog 76 Ver:=aH9 (I:=3) (n:=3) (Go.deep_law (m:=3) aP aM aM aM) aM aM aM aM aM aM (fun v=>[v.t,v.c,v.s]) (fun _=>rfl) (fun a b h=>by
 obtain ⟨a1,a2,a3⟩:=a;obtain ⟨b1,b2,b3⟩:=b
 simp only [List.cons.injEq,and_true] at h
 obtain ⟨rfl,rfl,rfl⟩:=h;rfl)
noncomputable def ktS:KeyT Tryz.prog 72 Src:=aH9 (I:=3) (n:=2) (Go.deep_law (m:=3) aP aM aM aM) aM aM aM aM aM aM (fun v=>[v.t,v.s]) (fun _=>rfl) (fun a b h=>by
 obtain ⟨a1,a2⟩:=a;obtain ⟨b1,b2⟩:=b
 simp only [List.cons.injEq,and_true] at h
 obtain ⟨rfl,rfl⟩:=h;rfl)
abbrev tTl:Dj:=150
noncomputable def tlH (t:Tl):aO:=[(0,.blk tTl [.c (bv t.so),.c (iv t.day),.c (iv t.er),.c (iv t.sg),.mh 1,.mh 2,.mh 3,.mh 4,.mh 5]),(1,.tab (aF ktI.kc t.bg)),(2,.tab (aF ktI.kc t.co)),(3,.tab (aF ktP.kc t.st)),(4,.tab (aF ktV.kc t.vs)),(5,.tab (aF ktS.kc t.ss))]
structure Tl.wf (t:Tl):Prop where
 day:aS t.day
 er:t.er<=1000000
 sg:t.sg<=1000000
 st:∀p∈t.st,aS p.1/\aS p.2
 vs:∀v∈t.vs,aS v.t/\aS v.c/\aS v.s
 ss:∀v∈t.ss,aS v.t/\aS v.s
theorem iI (t:Tl):∀i,([.ref 0 0,.mh 1,.mh 2,.mh 3,.mh 4,.mh 5]:Ds)[i]? = some (.mh i)->∃es,lk (tlH t) i=some (.tab es)
 | 0,h=>by cases h
 | 1,_=>⟨_,rfl⟩
 | 2,_=>⟨_,rfl⟩
 | 3,_=>⟨_,rfl⟩
 | 4,_=>⟨_,rfl⟩
 | 5,_=>⟨_,rfl⟩
 | n+6,h=>by simp at h
theorem iJ (t:Tl):∀i,([.ref 0 0,.mh 1,.mh 2,.mh 3,.mh 4,.mh 5]:Ds)[i]? = some (.ref i 0)->∃T cs,lk (tlH t) i=some (.blk T cs)
 | 0,_=>⟨_,_,rfl⟩
 | 1,h=>by cases h
 | 2,h=>by cases h
 | 3,h=>by cases h
 | 4,h=>by cases h
 | 5,h=>by cases h
 | n+6,h=>by simp at h
theorem cB7 {keep:Dg} {h:aO}:Frz keep h (.tup []) (.v (.tuple #[])):=by
 intro B dom M H w u hh hk hc hu
 simp only [Rep,RepL] at hu
 obtain ⟨us,rfl,rfl⟩:=hu
 simp only [RepC]
section
variable {P:Dl} {sz n i n0 m:Nat} {env env0:Env} {h h0:aO} {dfs:cA} {K:AK} {l rest:De} {es:List Eat} {T ty:Dj} {x y z:Operand} {pos:String} {aft:Dh} {gd:Dc} {d:Di}
end
attribute [local irreducible] Still Adds AWL AW Drw bQ bT AC AWR cO Frz Go.Av.Src dF Out InK ItK AsK RdK eI eG ACT ACA fD ACG fJ
attribute [local simp] bZ bY cI
theorem cE1 {p:Int × Int} (h1:aS p.1) (h2:aS p.2):ktP.ok p:=by
 intro v hv
 rcases A3.1 hv with rfl|hv
 ·exact h1
 ·rw [AY.1 hv];exact h2
theorem oC {p:Ver} (h:aS p.t/\aS p.c/\aS p.s):ktV.ok p:=by
 intro v hv
 rcases A3.1 hv with rfl|hv
 ·exact h.1
 ·rcases A3.1 hv with rfl|hv
  ·exact h.2.1
  ·rw [AY.1 hv];exact h.2.2
theorem nD {p:Src} (h:aS p.t/\aS p.s):ktS.ok p:=by
 intro v hv
 rcases A3.1 hv with rfl|hv
 ·exact h.1
 ·rw [AY.1 hv];exact h.2
set_option maxHeartbeats 16000000 in
theorem bR1 (t:Tl) (ht:t.wf) (e:LEn) (hw:e.wf) (nv ns:Nat) (hnv:e.vs.length=nv) (hns:e.ss.length=ns) (hb1:nv<=1000000) (hb2:ns<=1000000):ACG Tryz.prog 63 6 (tlH t) [.agg (ecs e nv ns)] (tlH (t.add e)) (.v (.tuple #[])):=by
 have hel:=dB hw.root nv ns
 obtain ⟨t1,t2,t3,t4,t5,t6⟩:=ht
 have w1:=hw.h1
 have w2:=hw.vs
 have w3:=hw.ss
 clear hw
 unfold Tl.add
 by_cases k2:e.k=2
 ·rw [Al k2]
  have hvl:(vrc e.vs).length=nv*3:=by rw [dL,hnv]
  have hsl:(src e.ss).length=ns*2:=by rw [dK,hns]
  obtain ⟨so,day,er,sg,bg,co,st,vs,ss⟩:=t
  obtain ⟨k,eday,plan,step,rq,lk',hd,evs,ess,root⟩:=e
  dsimp only [ecs,tlH] at *
  subst k2
  refine cN aB [.ref 0 0,.mh 1,.mh 2,.mh 3,.mh 4,.mh 5] (sz:=87) Tryz.func63 rfl xO rfl rfl rfl rfl (iI ⟨so,day,er,sg,bg,co,st,vs,ss⟩) (iJ ⟨so,day,er,sg,bg,co,st,vs,ss⟩) ?_
  repeat' (first|(refine aC ?_;intro K hK hX)|refine cY7 ?_|(refine aE hK hX ?_;clear hK hX K)|fail)
  refine aT [36,33] [4] rfl rfl (fun i:Nat=>[(36,.c (iv i))]) (fun i=>[(4,.tab (aF ktV.kc (gT vs (evs.take i))))]) (fun i=>i<=nv) (fun i=>nv-i) 0 (Ah _) dP ?_
  intro i hi K hK hX
  by_cases hlt:i<nv
  ·obtain ⟨v,hat⟩:∃v,evs[i]? = some v:=⟨_,Aa aA⟩
   have hx:=fU hat
   have hok:ktV.ok v:=oC (w2 v (Ac hat))
   have hoks:∀q∈gT vs (evs.take i),ktV.ok q:=fun q hq=>by
    rcases (lS _ _ _).1 hq with h|h
    ·exact oC (t5 q h)
    ·exact oC (w2 q (AG h))
   have hst:mJ (gT vs (evs.take i)) v=gT vs (evs.take (i+1)):=by rw [<- uY,BE,hat];rfl
   obtain ⟨vt,vc,vs'⟩:=v
   simp only at hx
   repeat' (first|(refine aC ?_;intro K hK hX)|refine iA [0,1,3,5,7,17,34,35,36,47,48,49] ?_|((with_reducible refine oY ?_);refine eK rR (gH aB rfl rfl rfl rfl rfl rfl) ?_)|((with_reducible refine sJ ?_);refine eK rR (iH rfl) ?_)|((with_reducible refine kE ?_);refine eK rR (lX rfl) ?_)|((with_reducible refine cK ?_);refine yA ?_;refine bL (cL rfl) rfl ?_)|((with_reducible refine yJ ?_);refine lF (k:=(⟨vt,vc,vs'⟩:Ver)) ktV aB aD rfl rfl rfl rfl rfl rfl hok hoks ?_)|refine bC8 ?_|refine stA ?_|refine stE ?_|(refine aE hK hX ?_;clear hK hX K)|fail)
   exact ⟨i+1,by omega,by omega,(by refine cE rfl ?_ ?_ rfl<;>(repeat' (first|exact bF|exact bG|refine bC rfl dE8 rfl ?_|refine aN rfl dE8 rfl ?_|refine aN rfl (by first|rfl|(exact congrArg (fun l=>AObj.tab (aF ktV.kc l)) hst)) bM ?_)))⟩
  ·have hin:evs.take i=evs:=Af aA
   rw [hin]
   clear hin
   repeat' (first|(refine aC ?_;intro K hK hX)|refine bB5 ?_|(refine aE hK hX ?_;clear hK hX K)|fail)
   refine aT [49,46] [5] rfl rfl (fun j:Nat=>[(49,.c (iv j))]) (fun j=>[(5,.tab (aF ktS.kc (gT ss (ess.take j))))]) (fun j=>j<=ns) (fun j=>ns-j) 0 (Ah _) dP ?_
   intro j hj K hK hX
   by_cases hlt:j<ns
   ·obtain ⟨v,hat⟩:∃v,ess[j]? = some v:=⟨_,Aa aA⟩
    have hx:=eY hat
    have hok:ktS.ok v:=nD (w3 v (Ac hat))
    have hoks:∀q∈gT ss (ess.take j),ktS.ok q:=fun q hq=>by
     rcases (lS _ _ _).1 hq with h|h
     ·exact nD (t6 q h)
     ·exact nD (w3 q (AG h))
    have hst:mJ (gT ss (ess.take j)) v=gT ss (ess.take (j+1)):=by rw [<- uY,BE,hat];rfl
    obtain ⟨vt,vs'⟩:=v
    simp only at hx
    repeat' (first|(refine aC ?_;intro K hK hX)|refine iA [0,1,3,5,7,17,34,35,36,47,48,49] ?_|((with_reducible refine oY ?_);refine eK rR (gH aB rfl rfl rfl rfl rfl rfl) ?_)|((with_reducible refine sJ ?_);refine eK rR (iH rfl) ?_)|((with_reducible refine kE ?_);refine eK rR (lX rfl) ?_)|((with_reducible refine cK ?_);refine yA ?_;refine bL (cL rfl) rfl ?_)|((with_reducible refine yJ ?_);refine lF (k:=(⟨vt,vs'⟩:Src)) ktS aB aD rfl rfl rfl rfl rfl rfl hok hoks ?_)|refine bC8 ?_|refine stA ?_|refine stE ?_|(refine aE hK hX ?_;clear hK hX K)|fail)
    exact ⟨j+1,by omega,by omega,(by refine cE rfl ?_ ?_ rfl<;>(repeat' (first|exact bF|exact bG|refine bC rfl dE9 rfl ?_|refine aN rfl dE9 rfl ?_|refine aN rfl (by first|rfl|(exact congrArg (fun l=>AObj.tab (aF ktS.kc l)) hst)) bM ?_)))⟩
   ·have hin:ess.take j=ess:=Af aA
    rw [hin]
    clear hin
    repeat' (first|(refine aC ?_;intro K hK hX)|refine bB5 ?_|(refine aE hK hX ?_;clear hK hX K)|fail)
    exact aM9
 ·rw [Ak k2]
  by_cases k3:e.k=3
  ·rw [Al k3]
   have hok:ktP.ok (e.plan,e.step):=cE1 w1.2.1 w1.2.2
   have hoks:∀q∈t.st,ktP.ok q:=fun q hq=>cE1 (t4 q hq).1 (t4 q hq).2
   obtain ⟨so,day,er,sg,bg,co,st,vs,ss⟩:=t
   obtain ⟨k,eday,plan,step,rq,lk',hd,evs,ess,root⟩:=e
   dsimp only [ecs,tlH] at *
   subst k3
   refine cN aB [.ref 0 0,.mh 1,.mh 2,.mh 3,.mh 4,.mh 5] (sz:=87) Tryz.func63 rfl xO rfl rfl rfl rfl (iI ⟨so,day,er,sg,bg,co,st,vs,ss⟩) (iJ ⟨so,day,er,sg,bg,co,st,vs,ss⟩) ?_
   repeat' (first|(refine aC ?_;intro K hK hX)|refine iA [0,1,3,5,7,17,34,35,36,47,48,49] ?_|((with_reducible refine oY ?_);refine eK rR (gH aB rfl rfl rfl rfl rfl rfl) ?_)|((with_reducible refine sJ ?_);refine eK rR (iH rfl) ?_)|((with_reducible refine kE ?_);refine eK rR (lX rfl) ?_)|((with_reducible refine cK ?_);refine yA ?_;refine bL (cL rfl) rfl ?_)|((with_reducible refine yJ ?_);refine lF (k:=(plan,step)) ktP aB aD rfl rfl rfl rfl rfl rfl hok hoks ?_)|refine stA ?_|refine stE ?_|(refine aE hK hX ?_;clear hK hX K)|fail)
   exact aM9
  ·rw [Ak k3]
   by_cases k4:e.k=4
   ·rw [Al k4]
    obtain ⟨so,day,er,sg,bg,co,st,vs,ss⟩:=t
    obtain ⟨k,eday,plan,step,rq,lk',hd,evs,ess,root⟩:=e
    dsimp only [ecs,tlH] at *
    subst k4
    refine cN aB [.ref 0 0,.mh 1,.mh 2,.mh 3,.mh 4,.mh 5] (sz:=87) Tryz.func63 rfl xO rfl rfl rfl rfl (iI ⟨so,day,er,sg,bg,co,st,vs,ss⟩) (iJ ⟨so,day,er,sg,bg,co,st,vs,ss⟩) ?_
    repeat' (first|(refine aC ?_;intro K hK hX)|refine cY7 ?_|(refine aE hK hX ?_;clear hK hX K)|fail)
    exact aM9
   ·rw [Ak k4]
    by_cases k5:e.k=5
    ·rw [Al k5]
     obtain ⟨so,day,er,sg,bg,co,st,vs,ss⟩:=t
     obtain ⟨k,eday,plan,step,rq,lk',hd,evs,ess,root⟩:=e
     dsimp only [ecs,tlH] at *
     subst k5
     refine cN aB [.ref 0 0,.mh 1,.mh 2,.mh 3,.mh 4,.mh 5] (sz:=87) Tryz.func63 rfl xO rfl rfl rfl rfl (iI ⟨so,day,er,sg,bg,co,st,vs,ss⟩) (iJ ⟨so,day,er,sg,bg,co,st,vs,ss⟩) ?_
     repeat' (first|(refine aC ?_;intro K hK hX)|refine bB5 ?_|(refine aE hK hX ?_;clear hK hX K)|fail)
     exact aM9
    ·rw [Ak k5]
     obtain ⟨so,day,er,sg,bg,co,st,vs,ss⟩:=t
     obtain ⟨k,eday,plan,step,rq,lk',hd,evs,ess,root⟩:=e
     dsimp only [ecs,tlH] at *
     refine cN aB [.ref 0 0,.mh 1,.mh 2,.mh 3,.mh 4,.mh 5] (sz:=87) Tryz.func63 rfl xO rfl rfl rfl rfl (iI ⟨so,day,er,sg,bg,co,st,vs,ss⟩) (iJ ⟨so,day,er,sg,bg,co,st,vs,ss⟩) ?_
     repeat' (first|(refine aC ?_;intro K hK hX)|refine bB5 ?_|(refine aE hK hX ?_;clear hK hX K)|fail)
     exact aM9
end Go.Proofs.YtbgehdndimlgkaaGreat
