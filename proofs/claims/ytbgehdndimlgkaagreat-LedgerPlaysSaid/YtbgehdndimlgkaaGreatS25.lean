/- Lemmas for laws of the ledger. -/
import Derived.Test.YtbgehdndimlgkaaGreatS24
set_option linter.all false
namespace Go.Proofs.YtbgehdndimlgkaaGreat
open Go Go.RowKit Go.Av
set_option maxRecDepth 100000
noncomputable def ktI:KeyT Tryz.prog 3 Int:=dZ7 aV
noncomputable def ktP:KeyT Tryz.prog 24 (Int × Int):=aP2 (I:=3) (n:=2) (Go.deep_law (m:=3) aN aV aV aV) aV aV aV aV aV aV (fun p=>[p.1,p.2]) (fun _=>rfl) (fun a b h=>by injection h with h1 h2;injection h2 with h2 _;exact Prod.ext h1 h2)
noncomputable def ktV:KeyT Tryz.prog 76 Ver:=aP2 (I:=3) (n:=3) (Go.deep_law (m:=3) aN aV aV aV) aV aV aV aV aV aV (fun v=>[v.t,v.c,v.s]) (fun _=>rfl) (fun a b h=>by
 obtain ⟨a1,a2,a3⟩:=a;obtain ⟨b1,b2,b3⟩:=b
 simp only [List.cons.injEq,and_true] at h
 obtain ⟨rfl,rfl,rfl⟩:=h;rfl)
noncomputable def ktS:KeyT Tryz.prog 72 Src:=aP2 (I:=3) (n:=2) (Go.deep_law (m:=3) aN aV aV aV) aV aV aV aV aV aV (fun v=>[v.t,v.s]) (fun _=>rfl) (fun a b h=>by
 obtain ⟨a1,a2⟩:=a;obtain ⟨b1,b2⟩:=b
 simp only [List.cons.injEq,and_true] at h
 obtain ⟨rfl,rfl⟩:=h;rfl)
abbrev tTl:Du:=150
noncomputable def tlH (t:Tl):aO:=[(0,.blk tTl [.c (bv t.so),.c (iv t.day),.c (iv t.er),.c (iv t.sg),.mh 1,.mh 2,.mh 3,.mh 4,.mh 5]),(1,.tab (aI ktI.kc t.bg)),(2,.tab (aI ktI.kc t.co)),(3,.tab (aI ktP.kc t.st)),(4,.tab (aI ktV.kc t.vs)),(5,.tab (aI ktS.kc t.ss))]
structure Tl.wf (t:Tl):Prop where
 day:aT t.day
 er:t.er<=1000000
 sg:t.sg<=1000000
 st:∀p∈t.st,aT p.1/\aT p.2
 vs:∀v∈t.vs,aT v.t/\aT v.c/\aT v.s
 ss:∀v∈t.ss,aT v.t/\aT v.s
theorem iU (t:Tl):∀i,([.ref 0 0,.mh 1,.mh 2,.mh 3,.mh 4,.mh 5]:D2)[i]? = some (.mh i)->∃es,lk (tlH t) i=some (.tab es)
 | 0,h=>by cases h
 | 1,_=>⟨_,rfl⟩
 | 2,_=>⟨_,rfl⟩
 | 3,_=>⟨_,rfl⟩
 | 4,_=>⟨_,rfl⟩
 | 5,_=>⟨_,rfl⟩
 | n+6,h=>by simp at h
theorem iV (t:Tl):∀i,([.ref 0 0,.mh 1,.mh 2,.mh 3,.mh 4,.mh 5]:D2)[i]? = some (.ref i 0)->∃T cs,lk (tlH t) i=some (.blk T cs)
 | 0,_=>⟨_,_,rfl⟩
 | 1,h=>by cases h
 | 2,h=>by cases h
 | 3,h=>by cases h
 | 4,h=>by cases h
 | 5,h=>by cases h
 | n+6,h=>by simp at h
theorem cL6 {keep:Dr} {h:aO}:Frz keep h (.tup []) (.v (.tuple #[])):=by
 intro B dom M H w u hh hk hc hu
 simp only [Rep,RepL] at hu
 obtain ⟨us,rfl,rfl⟩:=hu
 simp only [RepC]
section
variable {P:Dv} {sz n i n0 m:Nat} {env env0:Env} {h h0:aO} {dfs:cD} {K:AK} {l rest:Dp} {es:List Eat} {T ty:Du} {x y z:Operand} {pos:String} {aft:Ds} {gd:Dn} {d:Dt}
end
attribute [local irreducible] Still Adds AWL AW Drw bX bY AC AWR cU Frz Go.Av.Src cQ Out InK ItK AsK RdK eP eI ACT ACA eW ACG fL
attribute [local simp] bS bR bI
theorem cN4 {p:Int × Int} (h1:aT p.1) (h2:aT p.2):ktP.ok p:=by
 intro v hv
 rcases A6.1 hv with rfl|hv
 ·exact h1
 ·rw [AX.1 hv];exact h2
theorem pV {p:Ver} (h:aT p.t/\aT p.c/\aT p.s):ktV.ok p:=by
 intro v hv
 rcases A6.1 hv with rfl|hv
 ·exact h.1
 ·rcases A6.1 hv with rfl|hv
  ·exact h.2.1
  ·rw [AX.1 hv];exact h.2.2
theorem oH {p:Src} (h:aT p.t/\aT p.s):ktS.ok p:=by
 intro v hv
 rcases A6.1 hv with rfl|hv
 ·exact h.1
 ·rw [AX.1 hv];exact h.2
set_option maxHeartbeats 16000000 in
theorem cB3 (t:Tl) (ht:t.wf) (e:LEn) (hw:e.wf) (nv ns:Nat) (hnv:e.vs.length=nv) (hns:e.ss.length=ns) (hb1:nv<=1000000) (hb2:ns<=1000000):ACG Tryz.prog 63 6 (tlH t) [.agg (ecs e nv ns)] (tlH (t.add e)) (.v (.tuple #[])):=by
 have hel:=cK hw.root nv ns
 obtain ⟨t1,t2,t3,t4,t5,t6⟩:=ht
 have w1:=hw.h1
 have w2:=hw.vs
 have w3:=hw.ss
 clear hw
 unfold Tl.add
 by_cases k2:e.k=2
 ·rw [Ak k2]
  have hvl:(vrc e.vs).length=nv*3:=by rw [dC,hnv]
  have hsl:(src e.ss).length=ns*2:=by rw [dV,hns]
  obtain ⟨so,day,er,sg,bg,co,st,vs,ss⟩:=t
  obtain ⟨k,eday,plan,step,rq,lk',hd,evs,ess,root⟩:=e
  dsimp only [ecs,tlH] at *
  subst k2
  refine cW aB [.ref 0 0,.mh 1,.mh 2,.mh 3,.mh 4,.mh 5] (sz:=87) Tryz.func63 rfl zX rfl rfl rfl rfl (iU ⟨so,day,er,sg,bg,co,st,vs,ss⟩) (iV ⟨so,day,er,sg,bg,co,st,vs,ss⟩) ?_
  repeat' (first|(refine aC ?_;intro K hK hX)|refine dK7 ?_|(refine aG hK hX ?_;clear hK hX K)|fail)
  refine bH [36,33] [4] rfl rfl (fun i:Nat=>[(36,.c (iv i))]) (fun i=>[(4,.tab (aI ktV.kc (iH vs (evs.take i))))]) (fun i=>i<=nv) (fun i=>nv-i) 0 (Am _) dF ?_
  intro i hi K hK hX
  by_cases hlt:i<nv
  ·obtain ⟨v,hat⟩:∃v,evs[i]? = some v:=⟨_,Ab aA⟩
   have hx:=eG hat
   have hok:ktV.ok v:=pV (w2 v (Af hat))
   have hoks:∀q∈iH vs (evs.take i),ktV.ok q:=fun q hq=>by
    rcases (mQ _ _ _).1 hq with h|h
    ·exact pV (t5 q h)
    ·exact pV (w2 q (AI h))
   have hst:pC (iH vs (evs.take i)) v=iH vs (evs.take (i+1)):=by rw [<- xN,B8,hat];rfl
   obtain ⟨vt,vc,vs'⟩:=v
   simp only at hx
   repeat' (first|(refine aC ?_;intro K hK hX)|refine fB [0,1,3,5,7,17,34,35,36,47,48,49] ?_|((with_reducible refine rA ?_);refine eY tU (gV aB rfl rfl rfl rfl rfl rfl) ?_)|((with_reducible refine uK ?_);refine eY tU (iT rfl) ?_)|((with_reducible refine lA ?_);refine eY tU (mX rfl) ?_)|((with_reducible refine bM ?_);refine yA ?_;refine bC (bN rfl) rfl ?_)|((with_reducible refine aP0 ?_);refine oU (k:=(⟨vt,vc,vs'⟩:Ver)) ktV aB aE rfl rfl rfl rfl rfl rfl hok hoks ?_)|refine aM9 ?_|refine stA ?_|refine stE ?_|(refine aG hK hX ?_;clear hK hX K)|fail)
   exact ⟨i+1,by omega,by omega,(by refine dW rfl ?_ ?_ rfl<;>(repeat' (first|exact cO|exact cP|refine cG rfl dP8 rfl ?_|refine bD rfl dP8 rfl ?_|refine bD rfl (by first|rfl|(exact congrArg (fun l=>AObj.tab (aI ktV.kc l)) hst)) dO ?_)))⟩
  ·have hin:evs.take i=evs:=Ad aA
   rw [hin]
   clear hin
   repeat' (first|(refine aC ?_;intro K hK hX)|refine bK7 ?_|(refine aG hK hX ?_;clear hK hX K)|fail)
   refine bH [49,46] [5] rfl rfl (fun j:Nat=>[(49,.c (iv j))]) (fun j=>[(5,.tab (aI ktS.kc (iH ss (ess.take j))))]) (fun j=>j<=ns) (fun j=>ns-j) 0 (Am _) dF ?_
   intro j hj K hK hX
   by_cases hlt:j<ns
   ·obtain ⟨v,hat⟩:∃v,ess[j]? = some v:=⟨_,Ab aA⟩
    have hx:=eV hat
    have hok:ktS.ok v:=oH (w3 v (Af hat))
    have hoks:∀q∈iH ss (ess.take j),ktS.ok q:=fun q hq=>by
     rcases (mQ _ _ _).1 hq with h|h
     ·exact oH (t6 q h)
     ·exact oH (w3 q (AI h))
    have hst:pC (iH ss (ess.take j)) v=iH ss (ess.take (j+1)):=by rw [<- xN,B8,hat];rfl
    obtain ⟨vt,vs'⟩:=v
    simp only at hx
    repeat' (first|(refine aC ?_;intro K hK hX)|refine fB [0,1,3,5,7,17,34,35,36,47,48,49] ?_|((with_reducible refine rA ?_);refine eY tU (gV aB rfl rfl rfl rfl rfl rfl) ?_)|((with_reducible refine uK ?_);refine eY tU (iT rfl) ?_)|((with_reducible refine lA ?_);refine eY tU (mX rfl) ?_)|((with_reducible refine bM ?_);refine yA ?_;refine bC (bN rfl) rfl ?_)|((with_reducible refine aP0 ?_);refine oU (k:=(⟨vt,vs'⟩:Src)) ktS aB aE rfl rfl rfl rfl rfl rfl hok hoks ?_)|refine aM9 ?_|refine stA ?_|refine stE ?_|(refine aG hK hX ?_;clear hK hX K)|fail)
    exact ⟨j+1,by omega,by omega,(by refine dW rfl ?_ ?_ rfl<;>(repeat' (first|exact cO|exact cP|refine cG rfl dP9 rfl ?_|refine bD rfl dP9 rfl ?_|refine bD rfl (by first|rfl|(exact congrArg (fun l=>AObj.tab (aI ktS.kc l)) hst)) dO ?_)))⟩
   ·have hin:ess.take j=ess:=Ad aA
    rw [hin]
    clear hin
    repeat' (first|(refine aC ?_;intro K hK hX)|refine bK7 ?_|(refine aG hK hX ?_;clear hK hX K)|fail)
    exact aU7
 ·rw [Aj k2]
  by_cases k3:e.k=3
  ·rw [Ak k3]
   have hok:ktP.ok (e.plan,e.step):=cN4 w1.2.1 w1.2.2
   have hoks:∀q∈t.st,ktP.ok q:=fun q hq=>cN4 (t4 q hq).1 (t4 q hq).2
   obtain ⟨so,day,er,sg,bg,co,st,vs,ss⟩:=t
   obtain ⟨k,eday,plan,step,rq,lk',hd,evs,ess,root⟩:=e
   dsimp only [ecs,tlH] at *
   subst k3
   refine cW aB [.ref 0 0,.mh 1,.mh 2,.mh 3,.mh 4,.mh 5] (sz:=87) Tryz.func63 rfl zX rfl rfl rfl rfl (iU ⟨so,day,er,sg,bg,co,st,vs,ss⟩) (iV ⟨so,day,er,sg,bg,co,st,vs,ss⟩) ?_
   repeat' (first|(refine aC ?_;intro K hK hX)|refine fB [0,1,3,5,7,17,34,35,36,47,48,49] ?_|((with_reducible refine rA ?_);refine eY tU (gV aB rfl rfl rfl rfl rfl rfl) ?_)|((with_reducible refine uK ?_);refine eY tU (iT rfl) ?_)|((with_reducible refine lA ?_);refine eY tU (mX rfl) ?_)|((with_reducible refine bM ?_);refine yA ?_;refine bC (bN rfl) rfl ?_)|((with_reducible refine aP0 ?_);refine oU (k:=(plan,step)) ktP aB aE rfl rfl rfl rfl rfl rfl hok hoks ?_)|refine stA ?_|refine stE ?_|(refine aG hK hX ?_;clear hK hX K)|fail)
   exact aU7
  ·rw [Aj k3]
   by_cases k4:e.k=4
   ·rw [Ak k4]
    obtain ⟨so,day,er,sg,bg,co,st,vs,ss⟩:=t
    obtain ⟨k,eday,plan,step,rq,lk',hd,evs,ess,root⟩:=e
    dsimp only [ecs,tlH] at *
    subst k4
    refine cW aB [.ref 0 0,.mh 1,.mh 2,.mh 3,.mh 4,.mh 5] (sz:=87) Tryz.func63 rfl zX rfl rfl rfl rfl (iU ⟨so,day,er,sg,bg,co,st,vs,ss⟩) (iV ⟨so,day,er,sg,bg,co,st,vs,ss⟩) ?_
    repeat' (first|(refine aC ?_;intro K hK hX)|refine dK7 ?_|(refine aG hK hX ?_;clear hK hX K)|fail)
    exact aU7
   ·rw [Aj k4]
    by_cases k5:e.k=5
    ·rw [Ak k5]
     obtain ⟨so,day,er,sg,bg,co,st,vs,ss⟩:=t
     obtain ⟨k,eday,plan,step,rq,lk',hd,evs,ess,root⟩:=e
     dsimp only [ecs,tlH] at *
     subst k5
     refine cW aB [.ref 0 0,.mh 1,.mh 2,.mh 3,.mh 4,.mh 5] (sz:=87) Tryz.func63 rfl zX rfl rfl rfl rfl (iU ⟨so,day,er,sg,bg,co,st,vs,ss⟩) (iV ⟨so,day,er,sg,bg,co,st,vs,ss⟩) ?_
     repeat' (first|(refine aC ?_;intro K hK hX)|refine bK7 ?_|(refine aG hK hX ?_;clear hK hX K)|fail)
     exact aU7
    ·rw [Aj k5]
     obtain ⟨so,day,er,sg,bg,co,st,vs,ss⟩:=t
     obtain ⟨k,eday,plan,step,rq,lk',hd,evs,ess,root⟩:=e
     dsimp only [ecs,tlH] at *
     refine cW aB [.ref 0 0,.mh 1,.mh 2,.mh 3,.mh 4,.mh 5] (sz:=87) Tryz.func63 rfl zX rfl rfl rfl rfl (iU ⟨so,day,er,sg,bg,co,st,vs,ss⟩) (iV ⟨so,day,er,sg,bg,co,st,vs,ss⟩) ?_
     repeat' (first|(refine aC ?_;intro K hK hX)|refine bK7 ?_|(refine aG hK hX ?_;clear hK hX K)|fail)
     exact aU7
end Go.Proofs.YtbgehdndimlgkaaGreat
