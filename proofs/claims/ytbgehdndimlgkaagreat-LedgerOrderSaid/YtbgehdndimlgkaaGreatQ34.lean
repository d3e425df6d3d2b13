import Derived.Scope
import Derived.Control
import Derived.Test.YtbgehdndimlgkaaGreatQ20
import Derived.Test.YtbgehdndimlgkaaGreatQ32
import Derived.Test.YtbgehdndimlgkaaGreatQ33
set_option maxHeartbeats 16000000
set_option linter.unusedSimpArgs false
set_option linter.unusedVariables false
namespace Go.Proofs.YtbgehdndimlgkaaGreat
open Go Go.RowKit Go.Av
set_option maxRecDepth 100000
attribute [local irreducible] Still Adds AWL AW Drw bS bY AC AWR cQ Frz Go.Av.Src cM Out InK ItK AsK RdK fC eZ ACT ACA fJ ACG fM lec
def wR (l:List LEn) (q:Nat):Prop:=∀e,l[q]? = some e→Fol (l.take q) e
theorem aE4 {l:List LEn} (hl:l.length≤1000) (h:OkL l):(Tl.of l).wf∧(Tl.of l).vs.length≤1000000∧(Tl.of l).ss.length≤1000000:=by
 have R:=uV l
 have hc:∀k,mW l k≤1000:=fun k=>by
  unfold mW
  have:=List.length_filter_le (fun e:LEn=>decide (e.k=k)) l
  omega
 refine ⟨⟨?_,?_,?_,fun p hp=>?_,fun v hv=>vX h v ((R.vs.2 v).1 hv),fun v hv=>aF3 h v ((R.ss.2 v).1 hv)⟩,?_,?_⟩
 ·by_cases hn:l=[]
  ·subst hn
   exact aO8
  ·obtain ⟨x,hx⟩:∃x,l.getLast? = some x:=⟨_,List.getLast?_eq_some_getLast hn⟩
   rw [R.day x hx]
   exact (h x (List.mem_of_getLast? hx)).1.h1.1
 ·have:=hc 2
  rw [R.er];omega
 ·have:=hc 5
  rw [R.sg];omega
 ·obtain ⟨p1,p2⟩:=p
  obtain ⟨x,hx,_,e1,e2⟩:=(R.st p1 p2).1 hp
  have:=(h x hx).1.h1
  simp only
  rw [← e1,← e2]
  exact this.2
 ·have h1:=lH slo_V R.vs.1 R.vs.2
  have h2:=kE (lt:=ltV) (iI l)
  have h3:=sA h
  omega
 ·have h1:=lH slo_S R.ss.1 R.ss.2
  have h2:=kE (lt:=ltS) (kX l)
  have h3:=aF2 h
  omega
theorem bU3:oJ Tryz.prog 104 1:=by
 intro us w hl
 obtain ⟨u0,rfl⟩:∃u0,us=[u0]:=by
  match us,hl with | [u0],_=>exact ⟨u0,rfl⟩
 refine callsD_of_wpS Tryz.func104 rfl fun c₀ cs hu=>?_
 apply wpS_seq
 apply wpS_region
 simp [wpOpsS,go_sem,recoverD,hu,Tryz.ntmps104,Exit.thenS]
 refine wpS_cond (t:=false) oG ?_
 simp only [Bool.false_eq_true,if_false]
 refine wpS_of_wp (wp_skip ?_)
 cases c₀
 simp_all [bodyPostS,results,Tryz.results104]
theorem aV6:Body Tryz.prog 104:=by unfold Body;kernel_rfl
theorem bP2 (l:List LEn) (n:Nat) (hln:l.length=n) (hnb:n≤1000) (hwl:OkL l) (hall:∀q,q<n→wR l q):AC Tryz.prog 39 [.sl 65 n (lec l)] (.c (iv (-1))) [] 0:=by
 have hll:(lec l).length=n*65:=by rw [fE hwl,hln]
 obtain ⟨T,hT⟩:∃T:Nat→Tl,∀i,Tl.of (l.take i)=T i:=⟨_,fun _=>rfl⟩
 have hT0:T 0=Tl.new:=by rw [← hT];rfl
 refine aG aB (sz:=24) Tryz.func39 rfl (by rw [Tryz.ntmps39];rfl) ?_
 repeat' (first|(refine aC ?_;intro K hK hX)|refine aI [0,2,3,4,5,8,9,10,13,14,15] ?_|((with_reducible refine aH3 ?_);refine yA ?_;refine bJ (qE rfl) rfl ?_)|((first|with_reducible refine aD ?_|with_reducible refine aS ?_);refine bL aB [0,1,2,3,4,5,6,7,8,9,10,11,12,13,14,15,16,17,18,19,20,21,22,23] aE rfl rfl zby Tryz.func60 rfl rfl rfl (szf:=24) rN rfl ?_)|refine stA ?_|(refine aF hK hX ?_;clear hK hX K)|fail|(first|refine bF zio ztr rfl rfl (ResL.one (ResA.tmp rfl)) ?_|refine bE zio ztr rfl rfl (ResL.one (ResA.tmp rfl)) ?_))
 refine bA [15,14,13] [] rfl rfl (fun i:Nat=>[(15,.c (iv 0)),(14,.c (iv 0))]) (fun i=>[]) (fun i=>i=0) (fun _=>0) 0 rfl dL ?_
 intro i0 hi0 K hK hX
 repeat' (first|(refine aC ?_;intro K hK hX)|refine aI [0,2,3,4,5,8,9,10,13,14,15] ?_|((first|with_reducible refine aD ?_|with_reducible refine aS ?_);refine bL aB [0,1,2,3,4,5,6,7,8,9,10,11,12,13,14,15,16,17,18,19,20,21,22,23] aE rfl rfl zby Tryz.func60 rfl rfl rfl (szf:=24) rN rfl ?_)|refine stA ?_|(refine aF hK hX ?_;clear hK hX K)|fail|(first|refine bF zio ztr rfl rfl (ResL.one (ResA.tmp rfl)) ?_|refine bE zio ztr rfl rfl (ResL.one (ResA.tmp rfl)) ?_))
 refine bA [10] [6,1,2,3,4,5] rfl rfl (fun i:Nat=>[(10,.c (iv i))]) (fun i=>[(6,.blk tTl [.c (bv (T i).so),.c (iv (T i).day),.c (iv (T i).er),.c (iv (T i).sg),.mh 1,.mh 2,.mh 3,.mh 4,.mh 5]),(1,.tab (aH ktI.kc (T i).bg)),(2,.tab (aH ktI.kc (T i).co)),(3,.tab (aH ktP.kc (T i).st)),(4,.tab (aH ktV.kc (T i).vs)),(5,.tab (aH ktS.kc (T i).ss))]) (fun i=>i≤n) (fun i=>n-i) 0 (Nat.zero_le _) dK9 ?_
 intro i hi K hK hX
 by_cases hlt:i<n
 ·obtain ⟨e,hat⟩:∃e,l[i]? = some e:=⟨_,List.getElem?_eq_getElem aA⟩
  have hx:=lR hwl hat
  obtain ⟨ow,ok,oz⟩:=hwl e (List.mem_of_getElem? hat)
  have hel:=fD ow
  obtain ⟨t1,t2,t3⟩:=aE4 (l:=l.take i) gU (hwl.take i)
  have hrel:=(uV (l.take i)).fol e
  have hs:(T i).add e=T (i+1):=by rw [← hT,← hT,fI hat,Tl.of_snoc]
  rw [hT] at t1 t2 t3 hrel
  have hf:ACG Tryz.prog 62 6 [(0,.blk tTl [.c (bv (T i).so),.c (iv (T i).day),.c (iv (T i).er),.c (iv (T i).sg),.mh 1,.mh 2,.mh 3,.mh 4,.mh 5]),(1,.tab (aH ktI.kc (T i).bg)),(2,.tab (aH ktI.kc (T i).co)),(3,.tab (aH ktP.kc (T i).st)),(4,.tab (aH ktV.kc (T i).vs)),(5,.tab (aH ktS.kc (T i).ss))] [.agg (ecR e)] [(0,.blk tTl [.c (bv (T i).so),.c (iv (T i).day),.c (iv (T i).er),.c (iv (T i).sg),.mh 1,.mh 2,.mh 3,.mh 4,.mh 5]),(1,.tab (aH ktI.kc (T i).bg)),(2,.tab (aH ktI.kc (T i).co)),(3,.tab (aH ktP.kc (T i).st)),(4,.tab (aH ktV.kc (T i).vs)),(5,.tab (aH ktS.kc (T i).ss))] (bv true):=yK (T i) t1 t2 t3 e ow ok oz _ _ rfl rfl true ⟨fun _=>hrel.2 (hall i hlt e hat),fun _=>rfl⟩
  have ha:ACG Tryz.prog 63 6 [(0,.blk tTl [.c (bv (T i).so),.c (iv (T i).day),.c (iv (T i).er),.c (iv (T i).sg),.mh 1,.mh 2,.mh 3,.mh 4,.mh 5]),(1,.tab (aH ktI.kc (T i).bg)),(2,.tab (aH ktI.kc (T i).co)),(3,.tab (aH ktP.kc (T i).st)),(4,.tab (aH ktV.kc (T i).vs)),(5,.tab (aH ktS.kc (T i).ss))] [.agg (ecR e)] [(0,.blk tTl [.c (bv (T (i+1)).so),.c (iv (T (i+1)).day),.c (iv (T (i+1)).er),.c (iv (T (i+1)).sg),.mh 1,.mh 2,.mh 3,.mh 4,.mh 5]),(1,.tab (aH ktI.kc (T (i+1)).bg)),(2,.tab (aH ktI.kc (T (i+1)).co)),(3,.tab (aH ktP.kc (T (i+1)).st)),(4,.tab (aH ktV.kc (T (i+1)).vs)),(5,.tab (aH ktS.kc (T (i+1)).ss))] (.v (.tuple #[])):=by
   have:=aF1 (T i) t1 e ow _ _ rfl rfl (Nat.le_trans oz.vs aN) (Nat.le_trans oz.ss aN)
   rw [hs] at this
   exact this
  clear hT hs hrel t1 t2 t3 ow oz
  generalize ecR e=cs at *
  repeat' (first|(refine aC ?_;intro K hK hX)|refine cY9 ?_|(refine aF hK hX ?_;clear hK hX K)|fail)
  exact cY
 ·repeat' (first|(refine aC ?_;intro K hK hX)|refine aI [0,2,3,4,5,8,9,10] ?_|refine stA ?_|(refine aF hK hX ?_;clear hK hX K)|fail)
  exact dG0
theorem bP1 (l:List LEn) (n:Nat) (hln:l.length=n) (hnb:n≤1000) (hwl:OkL l) (j0:Nat) (hj:j0<n) (hbad:¬wR l j0) (hall:∀q,q<j0→wR l q):AC Tryz.prog 39 [.sl 65 n (lec l)] (.c (iv j0)) [] 0:=by
 have hll:(lec l).length=n*65:=by rw [fE hwl,hln]
 obtain ⟨T,hT⟩:∃T:Nat→Tl,∀i,Tl.of (l.take i)=T i:=⟨_,fun _=>rfl⟩
 have hT0:T 0=Tl.new:=by rw [← hT];rfl
 refine aG aB (sz:=24) Tryz.func39 rfl (by rw [Tryz.ntmps39];rfl) ?_
 repeat' (first|(refine aC ?_;intro K hK hX)|refine aI [0,2,3,4,5,8,9,10,13,14,15] ?_|((with_reducible refine aH3 ?_);refine yA ?_;refine bJ (qE rfl) rfl ?_)|((first|with_reducible refine aD ?_|with_reducible refine aS ?_);refine bL aB [0,1,2,3,4,5,6,7,8,9,10,11,12,13,14,15,16,17,18,19,20,21,22,23] aE rfl rfl zby Tryz.func60 rfl rfl rfl (szf:=24) rN rfl ?_)|refine stA ?_|(refine aF hK hX ?_;clear hK hX K)|fail|(first|refine bF zio ztr rfl rfl (ResL.one (ResA.tmp rfl)) ?_|refine bE zio ztr rfl rfl (ResL.one (ResA.tmp rfl)) ?_))
 refine bA [15,14,13] [] rfl rfl (fun i:Nat=>[(15,.c (iv 0)),(14,.c (iv 0))]) (fun i=>[]) (fun i=>i=0) (fun _=>0) 0 rfl dL ?_
 intro i0 hi0 K hK hX
 repeat' (first|(refine aC ?_;intro K hK hX)|refine aI [0,2,3,4,5,8,9,10,13,14,15] ?_|((first|with_reducible refine aD ?_|with_reducible refine aS ?_);refine bL aB [0,1,2,3,4,5,6,7,8,9,10,11,12,13,14,15,16,17,18,19,20,21,22,23] aE rfl rfl zby Tryz.func60 rfl rfl rfl (szf:=24) rN rfl ?_)|refine stA ?_|(refine aF hK hX ?_;clear hK hX K)|fail|(first|refine bF zio ztr rfl rfl (ResL.one (ResA.tmp rfl)) ?_|refine bE zio ztr rfl rfl (ResL.one (ResA.tmp rfl)) ?_))
 refine bA [10] [6,1,2,3,4,5] rfl rfl (fun i:Nat=>[(10,.c (iv i))]) (fun i=>[(6,.blk tTl [.c (bv (T i).so),.c (iv (T i).day),.c (iv (T i).er),.c (iv (T i).sg),.mh 1,.mh 2,.mh 3,.mh 4,.mh 5]),(1,.tab (aH ktI.kc (T i).bg)),(2,.tab (aH ktI.kc (T i).co)),(3,.tab (aH ktP.kc (T i).st)),(4,.tab (aH ktV.kc (T i).vs)),(5,.tab (aH ktS.kc (T i).ss))]) (fun i=>i≤j0) (fun i=>j0-i) 0 (Nat.zero_le _) dK9 ?_
 intro i hi K hK hX
 by_cases hlt:i<j0
 ·obtain ⟨e,hat⟩:∃e,l[i]? = some e:=⟨_,List.getElem?_eq_getElem aA⟩
  have hx:=lR hwl hat
  obtain ⟨ow,ok,oz⟩:=hwl e (List.mem_of_getElem? hat)
  have hel:=fD ow
  obtain ⟨t1,t2,t3⟩:=aE4 (l:=l.take i) gU (hwl.take i)
  have hrel:=(uV (l.take i)).fol e
  have hs:(T i).add e=T (i+1):=by rw [← hT,← hT,fI hat,Tl.of_snoc]
  rw [hT] at t1 t2 t3 hrel
  have hf:ACG Tryz.prog 62 6 [(0,.blk tTl [.c (bv (T i).so),.c (iv (T i).day),.c (iv (T i).er),.c (iv (T i).sg),.mh 1,.mh 2,.mh 3,.mh 4,.mh 5]),(1,.tab (aH ktI.kc (T i).bg)),(2,.tab (aH ktI.kc (T i).co)),(3,.tab (aH ktP.kc (T i).st)),(4,.tab (aH ktV.kc (T i).vs)),(5,.tab (aH ktS.kc (T i).ss))] [.agg (ecR e)] [(0,.blk tTl [.c (bv (T i).so),.c (iv (T i).day),.c (iv (T i).er),.c (iv (T i).sg),.mh 1,.mh 2,.mh 3,.mh 4,.mh 5]),(1,.tab (aH ktI.kc (T i).bg)),(2,.tab (aH ktI.kc (T i).co)),(3,.tab (aH ktP.kc (T i).st)),(4,.tab (aH ktV.kc (T i).vs)),(5,.tab (aH ktS.kc (T i).ss))] (bv true):=yK (T i) t1 t2 t3 e ow ok oz _ _ rfl rfl true ⟨fun _=>hrel.2 (hall i hlt e hat),fun _=>rfl⟩
  have ha:ACG Tryz.prog 63 6 [(0,.blk tTl [.c (bv (T i).so),.c (iv (T i).day),.c (iv (T i).er),.c (iv (T i).sg),.mh 1,.mh 2,.mh 3,.mh 4,.mh 5]),(1,.tab (aH ktI.kc (T i).bg)),(2,.tab (aH ktI.kc (T i).co)),(3,.tab (aH ktP.kc (T i).st)),(4,.tab (aH ktV.kc (T i).vs)),(5,.tab (aH ktS.kc (T i).ss))] [.agg (ecR e)] [(0,.blk tTl [.c (bv (T (i+1)).so),.c (iv (T (i+1)).day),.c (iv (T (i+1)).er),.c (iv (T (i+1)).sg),.mh 1,.mh 2,.mh 3,.mh 4,.mh 5]),(1,.tab (aH ktI.kc (T (i+1)).bg)),(2,.tab (aH ktI.kc (T (i+1)).co)),(3,.tab (aH ktP.kc (T (i+1)).st)),(4,.tab (aH ktV.kc (T (i+1)).vs)),(5,.tab (aH ktS.kc (T (i+1)).ss))] (.v (.tuple #[])):=by
   have:=aF1 (T i) t1 e ow _ _ rfl rfl (Nat.le_trans oz.vs aN) (Nat.le_trans oz.ss aN)
   rw [hs] at this
   exact this
  clear hT hs hrel t1 t2 t3 ow oz
  generalize ecR e=cs at *
  repeat' (first|(refine aC ?_;intro K hK hX)|refine cY9 ?_|(refine aF hK hX ?_;clear hK hX K)|fail)
  exact cY
 ·have hij:i=j0:=by omega
  rw [hij]
  obtain ⟨e,hat⟩:∃e,l[j0]? = some e:=⟨_,List.getElem?_eq_getElem aA⟩
  have hx:=lR hwl hat
  obtain ⟨ow,ok,oz⟩:=hwl e (List.mem_of_getElem? hat)
  have hel:=fD ow
  obtain ⟨t1,t2,t3⟩:=aE4 (l:=l.take j0) gU (hwl.take j0)
  have hrel:=(uV (l.take j0)).fol e
  have hs:(T j0).add e=T (j0+1):=by rw [← hT,← hT,fI hat,Tl.of_snoc]
  rw [hT] at t1 t2 t3 hrel
  have hf:ACG Tryz.prog 62 6 [(0,.blk tTl [.c (bv (T j0).so),.c (iv (T j0).day),.c (iv (T j0).er),.c (iv (T j0).sg),.mh 1,.mh 2,.mh 3,.mh 4,.mh 5]),(1,.tab (aH ktI.kc (T j0).bg)),(2,.tab (aH ktI.kc (T j0).co)),(3,.tab (aH ktP.kc (T j0).st)),(4,.tab (aH ktV.kc (T j0).vs)),(5,.tab (aH ktS.kc (T j0).ss))] [.agg (ecR e)] [(0,.blk tTl [.c (bv (T j0).so),.c (iv (T j0).day),.c (iv (T j0).er),.c (iv (T j0).sg),.mh 1,.mh 2,.mh 3,.mh 4,.mh 5]),(1,.tab (aH ktI.kc (T j0).bg)),(2,.tab (aH ktI.kc (T j0).co)),(3,.tab (aH ktP.kc (T j0).st)),(4,.tab (aH ktV.kc (T j0).vs)),(5,.tab (aH ktS.kc (T j0).ss))] (bv false):=yK (T j0) t1 t2 t3 e ow ok oz _ _ rfl rfl false ⟨fun h=>dW,fun h=>absurd (fun e' he'=>by rw [hat] at he';injection he' with he';rw [← he'];exact hrel.1 h) hbad⟩
  clear hT hs hrel t1 t2 t3 ow oz
  generalize ecR e=cs at *
  repeat' (first|(refine aC ?_;intro K hK hX)|refine aI [0,2,3,4,5,8,9,10] ?_|((with_reducible refine aY ?_);refine yA ?_;refine bJ (aX (T:=49) aB rfl rfl rfl) rfl ?_)|((with_reducible refine aD ?_);refine jA [6,1,2,3,4,5] hf aE rfl zby rfl rfl rfl rfl oU rfl rfl rfl mY (bD rfl rfl (bD rfl setT_mp.symm (bD rfl setT_mp.symm (bD rfl setT_mp.symm (bD rfl setT_mp.symm (bD rfl setT_mp.symm kJ)))))) ?_)|refine iV ?_|refine stA ?_|(refine aF hK hX ?_;clear hK hX K)|fail)
  exact dG0
end Go.Proofs.YtbgehdndimlgkaaGreat
namespace Go.Proofs.YtbgehdndimlgkaaGreat
open Go Go.RowKit Go.Av
set_option maxRecDepth 100000
theorem bH6:∀{b:List UInt8} {i x:Nat} {p:Nat × List UInt8},i≤9→pU i x b=some p→∃j,j≤10-i∧j≤b.length∧0<j∧p.2=b.drop j
 | [],i,x,p,_,h=>by rw [pU] at h;cases h
 | c::b,i,x,p,hi,h=>by
  rw [pU] at h
  by_cases hn:(i=9∧1<c.toNat)∨(0<i∧c.toNat=0)
  ·rw [if_pos hn] at h;cases h
  ·rw [if_neg hn] at h
   by_cases hc:c.toNat<128
   ·rw [if_pos hc] at h
    injection h with h
    exact ⟨1,by omega,by simp,by decide,by rw [← h];rfl⟩
   ·rw [if_neg hc] at h
    obtain ⟨j,j1,j2,j3,j4⟩:=bH6 aA h
    exact ⟨j+1,by omega,by simp;omega,by omega,by rw [j4];rfl⟩
theorem bP0 {b:List UInt8} {p:Int × List UInt8} (h:cS b=some p):∃j,j≤10∧j≤b.length∧0<j∧p.2=b.drop j:=by
 unfold cS at h
 obtain ⟨q,hq,rfl⟩:=Option.map_eq_some_iff.1 h
 exact bH6 aN hq
theorem cF3 (b:List UInt8):cS (b.take 10)=(cS b).map fun p=>(p.1,p.2.take (10-(b.length-p.2.length))):=by
 unfold cS
 rw [cF6 b 0 0 10 rfl aN,Option.map_map,Option.map_map]
 rfl
theorem sV (ch b:List UInt8):(kdL ch b).length=32:=by unfold kdL;exact zV _ _
theorem aO7 (b:List UInt8) (m:Nat) (hm:b.length=m) (hb:m≤100000000) (ch:List UInt8) (hch:ch.length=32):(pQ kdL ch b=none∧AC Tryz.prog 61 [.sl 1 m (u8c b),.agg (u8c ch)] (.tup [.c (.agg (ecs en0 0 0)),.c (.agg (u8c root0)),.c (iv 0),.c (bv false)]) [] 0)∨∃(x:LEn) (d:List UInt8) (k nv ns:Nat),pQ kdL ch b=some (x,d,k)∧x.vs.length=nv∧x.ss.length=ns∧(x.wf∧aV x.k∧x.sz)∧d.length=32∧0<k∧k≤m∧AC Tryz.prog 61 [.sl 1 m (u8c b),.agg (u8c ch)] (.tup [.c (.agg (ecs x nv ns)),.c (.agg (u8c d)),.c (iv k),.c (bv true)]) [] 0:=by
 obtain ⟨h,hh⟩:∃h,min m 10=h:=⟨_,rfl⟩
 have ht:b.take h=b.take 10:=by
  by_cases hc:m≤10
  ·rw [List.take_of_length_le aA,List.take_of_length_le aA]
  ·rw [show h=10 by omega]
 have hhl:(b.take h).length=h:=by rw [List.length_take];omega
 obtain ⟨n,s',q1,q2,b',e',m',rfl,q3,q4,q5,q6⟩:=cH1 (b.take h) h hhl aA
 have hof:=rd_int.of (b.take h)
 rw [ht,cF3,← ht,q1] at hof
 cases hp:cS b with
 | none =>
  rw [hp] at hof
  rcases hof with ⟨x,r,h1,h2⟩|⟨h1,h2⟩
  ·cases h1
  ·exact .inl ⟨by unfold pQ;rw [hp];rfl,eC5 b m h hm hb hh ch hch e' h2 (q6 h2)⟩
 | some p =>
  obtain ⟨n0,rest⟩:=p
  obtain ⟨j,j1,j2,j3,j4⟩:=bP0 hp
  simp only at j4
  subst j4
  have hrl:(b.drop j).length=m-j:=by rw [List.length_drop,hm]
  rw [hp] at hof
  rcases hof with ⟨x,r,h1,h2⟩|⟨h1,h2⟩
  rotate_left
  ·cases h1
  rw [Option.map_some] at h1
  injection h1 with h1
  injection h1 with h1 h1'
  injection h2 with h2 h2'
  injection h2' with h2' h2''
  subst h1 h1' h2 h2' h2''
  have q5:=q5 rfl
  rw [hm,hrl] at q3 q5
  have hq:m'=min (10-j) (m-j):=by rw [← q3,List.length_take,hrl];omega
  have hj:h-m'=j:=by omega
  by_cases n1:n<0
  ·refine .inl ⟨?_,eC6 b m h hm hb hh ch hch n q2 _ m' q3 j hj q4 q5 n1⟩
   unfold pQ
   rw [hp,Option.bind_some]
   simp only
   rw [if_neg aA]
  by_cases n2:(m:Int)<j+n+32
  ·refine .inl ⟨?_,eC7 b m h hm hb hh ch hch n q2 _ m' q3 j hj q4 q5 aA aA⟩
   unfold pQ
   rw [hp,Option.bind_some]
   simp only
   rw [if_neg (by rw [hrl];omega)]
  obtain ⟨nn,hnn⟩:∃nn:Nat,n=nn:=⟨n.toNat,by omega⟩
  have hone:pQ kdL ch b=(pEn ((b.drop j).take nn)).bind fun e=>if e.2=[]∧kdL ch ((b.drop j).take nn)=(b.drop (j+nn)).take 32 then some (e.1,kdL ch ((b.drop j).take nn),j+nn+32) else none:=by
   unfold pQ
   rw [hp,Option.bind_some]
   simp only
   rw [if_pos (by rw [hrl];omega),show n.toNat=nn by omega,hm,hrl,List.drop_drop,show m-(m-j)=j by omega]
  have hel:((b.drop j).take nn).length=nn:=by rw [List.length_take,hrl];omega
  obtain ⟨x,s',nv,ns,r1,hv,hs,hrt,b2,e2,m2,rfl,r3,r4,r5,r6⟩:=yY ((b.drop j).take nn) nn hel aA
  rcases rd_enP.of ((b.drop j).take nn) with ⟨y,rr,h1,h2⟩|⟨h1,h2⟩
  ·rw [r1] at h2
   injection h2 with h2 h2'
   injection h2' with h2' h2''
   subst h2 h2' h2''
   have r5:=r5 rfl
   rw [hone,h1,Option.bind_some]
   simp only
   by_cases hr:b2=[]
   ·have hm2:m2=0:=by rw [← r3,hr];rfl
    rw [hm2] at r5
    have hky:=aP0 330#64 ch ((b.drop j).take nn) nn hch hel aA
    have hkd:sum 330#64 (ch++(b.drop j).take nn)=kdL ch ((b.drop j).take nn):=rfl
    rw [hkd] at hky
    have hkl:=sV ch ((b.drop j).take nn)
    generalize kdL ch ((b.drop j).take nn)=d at *
    by_cases hd:d=(b.drop (j+nn)).take 32
    ·rw [if_pos ⟨hr,hd⟩]
     obtain ⟨w1,w2,w3⟩:=dH6 h1
     exact .inr ⟨x,d,j+nn+32,nv,ns,rfl,hv,hs,⟨w1,⟨by have:(1:Int)≤x.k:=w2.1;omega,by have:x.k≤7:=w2.2;omega⟩,w3⟩,hkl,by omega,by omega,eD1 b m h hm hb hh ch hch n q2 _ m' q3 j hj q4 q5 nn hnn aA _ (cK hrt nv ns) _ r5 d hkl hky _ rfl hd⟩
    ·rw [if_neg (fun h=>hd h.2)]
     exact .inl ⟨rfl,eD0 b m h hm hb hh ch hch n q2 _ m' q3 j hj q4 q5 nn hnn aA _ (cK hrt nv ns) _ r5 d hkl hky hd⟩
   ·rw [if_neg (fun h=>hr h.1)]
    exact .inl ⟨rfl,eC9 b m h hm hb hh ch hch n q2 _ m' q3 j hj q4 q5 nn hnn aA _ (cK hrt nv ns) m2 (by rw [← r3];exact List.length_pos_iff.2 hr) _ r5⟩
  ·rw [r1] at h2
   refine .inl ⟨by rw [hone,h1];rfl,eC8 b m h hm hb hh ch hch n q2 _ m' q3 j hj q4 q5 nn hnn aA e2 h2 (r6 h2)⟩
attribute [local irreducible] Still Adds AWL AW Drw bS bY AC AWR cQ Frz Go.Av.Src cM Out InK ItK AsK RdK fC eZ ACT ACA fJ bK3 lec
theorem yS {l:List LEn} (h:OkL l) (i:Nat):List.take (i*65) (lec l)=lec (l.take i):=by
 unfold lec
 induction i generalizing l with
 | zero=>simp
 | succ i ih =>
  cases l with
  | nil=>simp
  | cons e l =>
   have he:=fD (h e aQ).1
   rw [List.flatMap_cons,List.take_succ_cons,List.flatMap_cons,← ih (fun x hx=>h x (by simp [hx])),List.take_append,he,List.take_of_length_le (by rw [he];omega),show (i+1)*65-65=i*65 by omega]
theorem bP7 (l:List LEn) (n:Nat) (hln:l.length=n) (hnb:n≤1000) (hwl:OkL l) (hall:∀q,q<n→wR l q):AC Tryz.prog 18 [.sl 65 n (lec l)] (.c (iv (-1))) [] 0:=by
 have hll:(lec l).length=n*65:=by rw [fE hwl,hln]
 refine aG aB (sz:=20) Tryz.func18 rfl (by rw [Tryz.ntmps18];rfl) ?_
 repeat' (first|(refine aC ?_;intro K hK hX)|refine bI [0,2,3] ?_|refine stA ?_|refine stD ?_|(refine aF hK hX ?_;clear hK hX K)|fail)
 refine bA [3] [] rfl rfl (fun i:Nat=>[(3,.c (iv i))]) (fun i=>[]) (fun i=>i≤n) (fun i=>n-i) 0 (Nat.zero_le _) dL ?_
 intro i hi K hK hX
 by_cases hlt:i<n
 ·obtain ⟨e,hat⟩:∃e,l[i]? = some e:=⟨_,List.getElem?_eq_getElem aA⟩
  have hx:=lR hwl hat
  obtain ⟨ow,ok,oz⟩:=hwl e (List.mem_of_getElem? hat)
  have hf:=aI7 (l.take i) i gU aA (hwl.take i) e ow ok oz _ _ rfl rfl true ⟨fun _=>hall i hlt e hat,fun _=>rfl⟩
  have hY:List.take ((i-0)*65) (List.drop (0*65) (lec l))=lec (l.take i):=by rw [Nat.zero_mul,List.drop_zero,Nat.sub_zero,yS hwl]
  rw [← hY] at hf
  have hel:=fD ow
  change AC _ _ [_,.agg (ecR e)] _ _ _ at hf
  generalize ecR e=cs at *
  repeat' (first|(refine aC ?_;intro K hK hX)|refine bV8 ?_|(refine aF hK hX ?_;clear hK hX K)|fail)
  exact cY
 ·repeat' (first|(refine aC ?_;intro K hK hX)|refine bI [0,2,3] ?_|refine stA ?_|refine stD ?_|(refine aF hK hX ?_;clear hK hX K)|fail)
  exact aU
theorem bP6 (l:List LEn) (n:Nat) (hln:l.length=n) (hnb:n≤1000) (hwl:OkL l) (j0:Nat) (hj:j0<n) (hbad:¬wR l j0) (hall:∀q,q<j0→wR l q):AC Tryz.prog 18 [.sl 65 n (lec l)] (.c (iv j0)) [] 0:=by
 have hll:(lec l).length=n*65:=by rw [fE hwl,hln]
 refine aG aB (sz:=20) Tryz.func18 rfl (by rw [Tryz.ntmps18];rfl) ?_
 repeat' (first|(refine aC ?_;intro K hK hX)|refine bI [0,2,3] ?_|refine stA ?_|refine stD ?_|(refine aF hK hX ?_;clear hK hX K)|fail)
 refine bA [3] [] rfl rfl (fun i:Nat=>[(3,.c (iv i))]) (fun i=>[]) (fun i=>i≤j0) (fun i=>j0-i) 0 (Nat.zero_le _) dL ?_
 intro i hi K hK hX
 by_cases hlt:i<j0
 ·obtain ⟨e,hat⟩:∃e,l[i]? = some e:=⟨_,List.getElem?_eq_getElem aA⟩
  have hx:=lR hwl hat
  obtain ⟨ow,ok,oz⟩:=hwl e (List.mem_of_getElem? hat)
  have hf:=aI7 (l.take i) i gU aA (hwl.take i) e ow ok oz _ _ rfl rfl true ⟨fun _=>hall i hlt e hat,fun _=>rfl⟩
  have hY:List.take ((i-0)*65) (List.drop (0*65) (lec l))=lec (l.take i):=by rw [Nat.zero_mul,List.drop_zero,Nat.sub_zero,yS hwl]
  rw [← hY] at hf
  have hel:=fD ow
  change AC _ _ [_,.agg (ecR e)] _ _ _ at hf
  generalize ecR e=cs at *
  repeat' (first|(refine aC ?_;intro K hK hX)|refine bV8 ?_|(refine aF hK hX ?_;clear hK hX K)|fail)
  exact cY
 ·have hij:i=j0:=by omega
  rw [hij]
  obtain ⟨e,hat⟩:∃e,l[j0]? = some e:=⟨_,List.getElem?_eq_getElem aA⟩
  have hx:=lR hwl hat
  obtain ⟨ow,ok,oz⟩:=hwl e (List.mem_of_getElem? hat)
  have hf:=aI7 (l.take j0) j0 gU aA (hwl.take j0) e ow ok oz _ _ rfl rfl false ⟨fun h=>dW,fun h=>absurd (fun e' he'=>by rw [hat] at he';injection he' with he';rw [← he'];exact h) hbad⟩
  have hY:List.take ((j0-0)*65) (List.drop (0*65) (lec l))=lec (l.take j0):=by rw [Nat.zero_mul,List.drop_zero,Nat.sub_zero,yS hwl]
  rw [← hY] at hf
  have hel:=fD ow
  change AC _ _ [_,.agg (ecR e)] _ _ _ at hf
  generalize ecR e=cs at *
  repeat' (first|(refine aC ?_;intro K hK hX)|refine bV8 ?_|(refine aF hK hX ?_;clear hK hX K)|fail)
  exact aU
end Go.Proofs.YtbgehdndimlgkaaGreat
namespace Go.Av
open Go Go.RowKit
variable {P:Program} {sz n:Nat} {env:Env} {h:aO} {dfs:bX} {K:AK}
theorem bS0 {P:Program} {Q:Exit→Act→World→Prop} {a:Act} {w:World} {c:Code} (h:wpG P c (Exit.noGoto Q) a w):wpG P (.scope c) Q a w:=fun rd hr=>by
 rcases hr with rfl|hr
 ·exact wpIn_wide.2 (wp_scope_straight (wpIn_wide.1 (h none (.inl rfl))))
 ·cases hr
theorem bR9 {P:Program} {Q:Exit→Act→World→Prop} {a:Act} {w:World} {l:Nat} (h:Q .normal a w):wpG P (.label l) Q a w:=fun rd hr=>by
 rcases hr with rfl|hr
 ·exact wpIn_wide.2 (wp_label h)
 ·cases hr
theorem oM {l:Nat} (hk:K .normal n env h dfs):AW P sz (.label l) K n env h dfs:=fun B a w hc=>bR9 ⟨n,env,h,dfs,hk,hc⟩
theorem mS {c:Code} (hx:∀K':AK,(∀n env h dfs,K .normal n env h dfs→K' .normal n env h dfs)→(∀e n env h dfs,(e ≠ .normal∧∀l,e ≠ .goto l)→K e n env h dfs→K' e n env h dfs)→AW P sz c K' n env h dfs):AW P sz (.scope c) K n env h dfs:=by
 intro B a w hc
 refine bS0 (nL (hx (fun e n env h dfs=>(∀l,e ≠ .goto l)∧K e n env h dfs) (fun n env h dfs hk=>⟨fun l hl=>(by cases hl),hk⟩) (fun e n env h dfs he hk=>⟨he.2,hk⟩) B a w hc) fun e a w hq=>?_)
 obtain ⟨n',env',h',d',⟨hg,hk⟩,hc'⟩:=hq
 cases e with
 | goto l=>exact absurd rfl (hg l)
 | normal=>exact ⟨n',env',h',d',hk,hc'⟩
 | exit id=>exact ⟨n',env',h',d',hk,hc'⟩
 | ret=>exact ⟨n',env',h',d',hk,hc'⟩
 | panic ch=>exact ⟨n',env',h',d',hk,hc'⟩
 | outgrown=>exact ⟨n',env',h',d',hk,hc'⟩
end Go.Av
