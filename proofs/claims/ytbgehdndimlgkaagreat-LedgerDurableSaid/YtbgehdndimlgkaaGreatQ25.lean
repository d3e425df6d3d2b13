/-
  Lemmas for laws of the ledger; no statement of a law.
-/
import Derived.Test.YtbgehdndimlgkaaGreatQ24
set_option linter.unusedSimpArgs false
set_option linter.unusedVariables false
namespace Go.Proofs.YtbgehdndimlgkaaGreat
open Go Go.RowKit Go.Av
set_option maxRecDepth 100000
noncomputable def ktI:KeyT Tryz.prog 3 Int:=dR7 aW
noncomputable def ktP:KeyT Tryz.prog 24 (Int × Int):=aJ0 (I:=3) (n:=2) (Go.deep_law (m:=3) aN aW aW aW) aW aW aW aW aW aW (fun p=>[p.1,p.2]) (fun _=>rfl) (fun a b h=>by injection h with h1 h2;injection h2 with h2 _;exact Prod.ext h1 h2)
noncomputable def ktV:KeyT Tryz.prog 76 Ver:=aJ0 (I:=3) (n:=3) (Go.deep_law (m:=3) aN aW aW aW) aW aW aW aW aW aW (fun v=>[v.t,v.c,v.s]) (fun _=>rfl) (fun a b h=>by
 obtain ⟨a1,a2,a3⟩:=a;obtain ⟨b1,b2,b3⟩:=b
 simp only [List.cons.injEq,and_true] at h
 obtain ⟨rfl,rfl,rfl⟩:=h;rfl)
noncomputable def ktS:KeyT Tryz.prog 72 Src:=aJ0 (I:=3) (n:=2) (Go.deep_law (m:=3) aN aW aW aW) aW aW aW aW aW aW (fun v=>[v.t,v.s]) (fun _=>rfl) (fun a b h=>by
 obtain ⟨a1,a2⟩:=a;obtain ⟨b1,b2⟩:=b
 simp only [List.cons.injEq,and_true] at h
 obtain ⟨rfl,rfl⟩:=h;rfl)
abbrev tTl:TypeId:=150
noncomputable def tlH (t:Tl):aO:=[(0,.blk tTl [.c (bv t.so),.c (iv t.day),.c (iv t.er),.c (iv t.sg),.mh 1,.mh 2,.mh 3,.mh 4,.mh 5]),(1,.tab (aI ktI.kc t.bg)),(2,.tab (aI ktI.kc t.co)),(3,.tab (aI ktP.kc t.st)),(4,.tab (aI ktV.kc t.vs)),(5,.tab (aI ktS.kc t.ss))]
structure Tl.wf (t:Tl):Prop where
 day:aQ t.day
 er:t.er≤1000000
 sg:t.sg≤1000000
 st:∀p∈t.st,aQ p.1∧aQ p.2
 vs:∀v∈t.vs,aQ v.t∧aQ v.c∧aQ v.s
 ss:∀v∈t.ss,aQ v.t∧aQ v.s
theorem iE (t:Tl):∀i,([.ref 0 0,.mh 1,.mh 2,.mh 3,.mh 4,.mh 5]:List AV)[i]? = some (.mh i)→∃es,lk (tlH t) i=some (.tab es)
 | 0,h=>by cases h
 | 1,_=>⟨_,rfl⟩
 | 2,_=>⟨_,rfl⟩
 | 3,_=>⟨_,rfl⟩
 | 4,_=>⟨_,rfl⟩
 | 5,_=>⟨_,rfl⟩
 | n+6,h=>by simp at h
theorem iF (t:Tl):∀i,([.ref 0 0,.mh 1,.mh 2,.mh 3,.mh 4,.mh 5]:List AV)[i]? = some (.ref i 0)→∃T cs,lk (tlH t) i=some (.blk T cs)
 | 0,_=>⟨_,_,rfl⟩
 | 1,h=>by cases h
 | 2,h=>by cases h
 | 3,h=>by cases h
 | 4,h=>by cases h
 | 5,h=>by cases h
 | n+6,h=>by simp at h
theorem cF0 {keep:List Nat} {h:aO}:Frz keep h (.tup []) (.v (.tuple #[])):=by
 intro B dom M H w u hh hk hc hu
 simp only [Rep,RepL] at hu
 obtain ⟨us,rfl,rfl⟩:=hu
 simp only [RepC]
section
variable {P:Program} {sz n i n0 m:Nat} {env env0:Env} {h h0:aO} {dfs:bZ} {K:AK} {l rest:List Oper} {es:List Eat} {T ty:TypeId} {x y z:Operand} {pos:String} {aft:Array Edge} {gd:Option (Nat × Bool)} {d:Option Tmp}
end
attribute [local irreducible] Still Adds AWL AW Drw bT bW AC AWR cL Frz Go.Av.Src dC Out InK ItK AsK RdK eI eE ACT ACA eL ACG fE
attribute [local simp] bQ bL bD
theorem cH1 {p:Int × Int} (h1:aQ p.1) (h2:aQ p.2):ktP.ok p:=by
 intro v hv
 rcases List.mem_cons.1 hv with rfl|hv
 ·exact h1
 ·rw [List.mem_singleton.1 hv];exact h2
theorem oO {p:Ver} (h:aQ p.t∧aQ p.c∧aQ p.s):ktV.ok p:=by
 intro v hv
 rcases List.mem_cons.1 hv with rfl|hv
 ·exact h.1
 ·rcases List.mem_cons.1 hv with rfl|hv
  ·exact h.2.1
  ·rw [List.mem_singleton.1 hv];exact h.2.2
theorem nH {p:Src} (h:aQ p.t∧aQ p.s):ktS.ok p:=by
 intro v hv
 rcases List.mem_cons.1 hv with rfl|hv
 ·exact h.1
 ·rw [List.mem_singleton.1 hv];exact h.2
set_option maxHeartbeats 16000000 in
theorem bV0 (t:Tl) (ht:t.wf) (e:LEn) (hw:e.wf) (nv ns:Nat) (hnv:e.vs.length=nv) (hns:e.ss.length=ns) (hb1:nv≤1000000) (hb2:ns≤1000000):ACG Tryz.prog 63 6 (tlH t) [.agg (ecs e nv ns)] (tlH (t.add e)) (.v (.tuple #[])):=by
 have hel:=cJ hw.root nv ns
 obtain ⟨t1,t2,t3,t4,t5,t6⟩:=ht
 have w1:=hw.h1
 have w2:=hw.vs
 have w3:=hw.ss
 clear hw
 unfold Tl.add
 by_cases k2:e.k=2
 ·rw [if_pos k2]
  have hvl:(vrc e.vs).length=nv*3:=by rw [eA,hnv]
  have hsl:(src e.ss).length=ns*2:=by rw [fH,hns]
  obtain ⟨so,day,er,sg,bg,co,st,vs,ss⟩:=t
  obtain ⟨k,eday,plan,step,rq,lk',hd,evs,ess,root⟩:=e
  dsimp only [ecs,tlH] at *
  subst k2
  refine cM aB [.ref 0 0,.mh 1,.mh 2,.mh 3,.mh 4,.mh 5] (sz:=87) Tryz.func63 rfl xT rfl rfl rfl rfl (iE ⟨so,day,er,sg,bg,co,st,vs,ss⟩) (iF ⟨so,day,er,sg,bg,co,st,vs,ss⟩) ?_
  repeat' (first|(refine aC ?_;intro K hK hX)|refine dD6 ?_|(refine aH hK hX ?_;clear hK hX K)|fail)
  refine cN [36,33] [4] rfl rfl (fun i:Nat=>[(36,.c (iv i))]) (fun i=>[(4,.tab (aI ktV.kc (gT vs (evs.take i))))]) (fun i=>i≤nv) (fun i=>nv-i) 0 (Nat.zero_le _) iR ?_
  intro i hi K hK hX
  by_cases hlt:i<nv
  ·obtain ⟨v,hat⟩:∃v,evs[i]? = some v:=⟨_,List.getElem?_eq_getElem aA⟩
   have hx:=iP hat
   have hok:ktV.ok v:=oO (w2 v (List.mem_of_getElem? hat))
   have hoks:∀q∈gT vs (evs.take i),ktV.ok q:=fun q hq=>by
    rcases (lY _ _ _).1 hq with h|h
    ·exact oO (t5 q h)
    ·exact oO (w2 q (List.mem_of_mem_take h))
   have hst:nY (gT vs (evs.take i)) v=gT vs (evs.take (i+1)):=by rw [← vR,List.take_add_one,hat];rfl
   obtain ⟨vt,vc,vs'⟩:=v
   simp only at hx
   repeat' (first|(refine aC ?_;intro K hK hX)|refine eJ [0,1,3,5,7,17,34,35,36,47,48,49] ?_|((with_reducible refine pP ?_);refine fF sU (gB aB rfl rfl rfl rfl rfl rfl) ?_)|((with_reducible refine tI ?_);refine fF sU (iD rfl) ?_)|((with_reducible refine pQ ?_);refine fF sU (qJ rfl) ?_)|((with_reducible refine cC ?_);refine yA ?_;refine bH (cE rfl) rfl ?_)|((with_reducible refine aI8 ?_);refine nT (k:=(⟨vt,vc,vs'⟩:Ver)) ktV aB aE rfl rfl rfl rfl rfl rfl hok hoks ?_)|refine aH0 ?_|refine stA ?_|refine stE ?_|(refine aH hK hX ?_;clear hK hX K)|fail)
   exact ⟨i+1,by omega,by omega,(by refine fB rfl ?_ ?_ rfl<;>(repeat' (first|exact dH|exact dI|refine cU rfl dI1 rfl ?_|refine bR rfl dI1 rfl ?_|refine bR rfl (by first|rfl|(exact congrArg (fun l=>AObj.tab (aI ktV.kc l)) hst)) dZ ?_)))⟩
  ·have hin:evs.take i=evs:=List.take_of_length_le aA
   rw [hin]
   clear hin
   repeat' (first|(refine aC ?_;intro K hK hX)|refine bD8 ?_|(refine aH hK hX ?_;clear hK hX K)|fail)
   refine cN [49,46] [5] rfl rfl (fun j:Nat=>[(49,.c (iv j))]) (fun j=>[(5,.tab (aI ktS.kc (gT ss (ess.take j))))]) (fun j=>j≤ns) (fun j=>ns-j) 0 (Nat.zero_le _) iR ?_
   intro j hj K hK hX
   by_cases hlt:j<ns
   ·obtain ⟨v,hat⟩:∃v,ess[j]? = some v:=⟨_,List.getElem?_eq_getElem aA⟩
    have hx:=iO hat
    have hok:ktS.ok v:=nH (w3 v (List.mem_of_getElem? hat))
    have hoks:∀q∈gT ss (ess.take j),ktS.ok q:=fun q hq=>by
     rcases (lY _ _ _).1 hq with h|h
     ·exact nH (t6 q h)
     ·exact nH (w3 q (List.mem_of_mem_take h))
    have hst:nY (gT ss (ess.take j)) v=gT ss (ess.take (j+1)):=by rw [← vR,List.take_add_one,hat];rfl
    obtain ⟨vt,vs'⟩:=v
    simp only at hx
    repeat' (first|(refine aC ?_;intro K hK hX)|refine eJ [0,1,3,5,7,17,34,35,36,47,48,49] ?_|((with_reducible refine pP ?_);refine fF sU (gB aB rfl rfl rfl rfl rfl rfl) ?_)|((with_reducible refine tI ?_);refine fF sU (iD rfl) ?_)|((with_reducible refine pQ ?_);refine fF sU (qJ rfl) ?_)|((with_reducible refine cC ?_);refine yA ?_;refine bH (cE rfl) rfl ?_)|((with_reducible refine aI8 ?_);refine nT (k:=(⟨vt,vs'⟩:Src)) ktS aB aE rfl rfl rfl rfl rfl rfl hok hoks ?_)|refine aH0 ?_|refine stA ?_|refine stE ?_|(refine aH hK hX ?_;clear hK hX K)|fail)
    exact ⟨j+1,by omega,by omega,(by refine fB rfl ?_ ?_ rfl<;>(repeat' (first|exact dH|exact dI|refine cU rfl dI2 rfl ?_|refine bR rfl dI2 rfl ?_|refine bR rfl (by first|rfl|(exact congrArg (fun l=>AObj.tab (aI ktS.kc l)) hst)) dZ ?_)))⟩
   ·have hin:ess.take j=ess:=List.take_of_length_le aA
    rw [hin]
    clear hin
    repeat' (first|(refine aC ?_;intro K hK hX)|refine bD8 ?_|(refine aH hK hX ?_;clear hK hX K)|fail)
    exact aO1
 ·rw [if_neg k2]
  by_cases k3:e.k=3
  ·rw [if_pos k3]
   have hok:ktP.ok (e.plan,e.step):=cH1 w1.2.1 w1.2.2
   have hoks:∀q∈t.st,ktP.ok q:=fun q hq=>cH1 (t4 q hq).1 (t4 q hq).2
   obtain ⟨so,day,er,sg,bg,co,st,vs,ss⟩:=t
   obtain ⟨k,eday,plan,step,rq,lk',hd,evs,ess,root⟩:=e
   dsimp only [ecs,tlH] at *
   subst k3
   refine cM aB [.ref 0 0,.mh 1,.mh 2,.mh 3,.mh 4,.mh 5] (sz:=87) Tryz.func63 rfl xT rfl rfl rfl rfl (iE ⟨so,day,er,sg,bg,co,st,vs,ss⟩) (iF ⟨so,day,er,sg,bg,co,st,vs,ss⟩) ?_
   repeat' (first|(refine aC ?_;intro K hK hX)|refine eJ [0,1,3,5,7,17,34,35,36,47,48,49] ?_|((with_reducible refine pP ?_);refine fF sU (gB aB rfl rfl rfl rfl rfl rfl) ?_)|((with_reducible refine tI ?_);refine fF sU (iD rfl) ?_)|((with_reducible refine pQ ?_);refine fF sU (qJ rfl) ?_)|((with_reducible refine cC ?_);refine yA ?_;refine bH (cE rfl) rfl ?_)|((with_reducible refine aI8 ?_);refine nT (k:=(plan,step)) ktP aB aE rfl rfl rfl rfl rfl rfl hok hoks ?_)|refine stA ?_|refine stE ?_|(refine aH hK hX ?_;clear hK hX K)|fail)
   exact aO1
  ·rw [if_neg k3]
   by_cases k4:e.k=4
   ·rw [if_pos k4]
    obtain ⟨so,day,er,sg,bg,co,st,vs,ss⟩:=t
    obtain ⟨k,eday,plan,step,rq,lk',hd,evs,ess,root⟩:=e
    dsimp only [ecs,tlH] at *
    subst k4
    refine cM aB [.ref 0 0,.mh 1,.mh 2,.mh 3,.mh 4,.mh 5] (sz:=87) Tryz.func63 rfl xT rfl rfl rfl rfl (iE ⟨so,day,er,sg,bg,co,st,vs,ss⟩) (iF ⟨so,day,er,sg,bg,co,st,vs,ss⟩) ?_
    repeat' (first|(refine aC ?_;intro K hK hX)|refine dD6 ?_|(refine aH hK hX ?_;clear hK hX K)|fail)
    exact aO1
   ·rw [if_neg k4]
    by_cases k5:e.k=5
    ·rw [if_pos k5]
     obtain ⟨so,day,er,sg,bg,co,st,vs,ss⟩:=t
     obtain ⟨k,eday,plan,step,rq,lk',hd,evs,ess,root⟩:=e
     dsimp only [ecs,tlH] at *
     subst k5
     refine cM aB [.ref 0 0,.mh 1,.mh 2,.mh 3,.mh 4,.mh 5] (sz:=87) Tryz.func63 rfl xT rfl rfl rfl rfl (iE ⟨so,day,er,sg,bg,co,st,vs,ss⟩) (iF ⟨so,day,er,sg,bg,co,st,vs,ss⟩) ?_
     repeat' (first|(refine aC ?_;intro K hK hX)|refine bD8 ?_|(refine aH hK hX ?_;clear hK hX K)|fail)
     exact aO1
    ·rw [if_neg k5]
     obtain ⟨so,day,er,sg,bg,co,st,vs,ss⟩:=t
     obtain ⟨k,eday,plan,step,rq,lk',hd,evs,ess,root⟩:=e
     dsimp only [ecs,tlH] at *
     refine cM aB [.ref 0 0,.mh 1,.mh 2,.mh 3,.mh 4,.mh 5] (sz:=87) Tryz.func63 rfl xT rfl rfl rfl rfl (iE ⟨so,day,er,sg,bg,co,st,vs,ss⟩) (iF ⟨so,day,er,sg,bg,co,st,vs,ss⟩) ?_
     repeat' (first|(refine aC ?_;intro K hK hX)|refine bD8 ?_|(refine aH hK hX ?_;clear hK hX K)|fail)
     exact aO1
end Go.Proofs.YtbgehdndimlgkaaGreat
