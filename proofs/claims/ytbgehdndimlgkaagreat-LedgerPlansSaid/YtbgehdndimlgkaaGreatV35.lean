/- Lemmas for laws of the ledger. -/
import Derived.Test.YtbgehdndimlgkaaGreatV34
set_option linter.all false
namespace Go.Proofs.YtbgehdndimlgkaaGreat
open Go Go.RowKit Go.Av
set_option maxRecDepth 100000
section
variable {kd:CZ->CZ->CZ}
theorem sN {f:Nat} {l:List LEn} {ch b:CZ} (h:oM kd ch b=none):parF kd f l ch b=(l,0,ch):=by
 cases f with
 | zero=>rfl
 | succ f=>rw [parF,h]
section
variable {f:Nat} {l:List LEn} {ch b c:CZ} {e:LEn} {n:Nat} (h:oM kd ch b=some (e,c,n))
include f l ch b c e n h
theorem wT (hn:¬(Fol l e/\l.length<512)):parF kd f l ch b=(l,0,ch):=by
 cases f with
 | zero=>rfl
 | succ f=>rw [parF,h];simp only;rw [Af hn]
theorem zI (hn:Fol l e/\l.length<512):parF kd (f+1) l ch b=((parF kd f (l++[e]) c (b.drop n)).1,n+(parF kd f (l++[e]) c (b.drop n)).2.1,(parF kd f (l++[e]) c (b.drop n)).2.2):=by
 rw [parF,h];simp only;rw [Aj hn]
end
end
theorem bG5 {ch b:CZ} {e:LEn} {d:CZ} {k:Nat} (hb:b.length<=100000000) (hch:ch.length=32) (h:oM kdL ch b=some (e,d,k)):(e.wf/\aS e.k/\e.sz)/\d.length=32/\0<k/\k<=b.length:=by
 rcases aI1 b _ rfl hb ch hch with ⟨h1,_⟩|⟨x,d',k',nv,ns,h1,_,_,h2,h3,h4,h5,_⟩
 ·rw [h1] at h;cases h
 ·rw [h1] at h
  injection h with h
  injection h with e1 h
  injection h with e2 e3
  subst e1 e2 e3
  exact ⟨h2,h3,h4,h5⟩
theorem qF:∀(f:Nat) {l:List LEn} {ch b:CZ},b.length<=100000000->ch.length=32->OkL l->l.length<=512->OkL (parF kdL f l ch b).1/\(parF kdL f l ch b).1.length<=512/\(parF kdL f l ch b).2.1<=b.length/\(parF kdL f l ch b).2.2.length=32/\(FolL l->FolL (parF kdL f l ch b).1)
 | 0,l,ch,b,_,hc,ho,hl=>⟨ho,hl,An _,hc,id⟩
 | f+1,l,ch,b,hb,hc,ho,hl=>by
  cases h:oM kdL ch b with
  | none=>rw [sN h];exact ⟨ho,hl,An _,hc,id⟩
  | some p =>
   obtain ⟨e,d,k⟩:=p
   by_cases hn:Fol l e/\l.length<512
   ·obtain ⟨h1,h2,h3,h4⟩:=bG5 hb hc h
    have ih:=qF f (l:=l++[e]) (ch:=d) (b:=b.drop k) (by rw [AG];omega) h2 (fun x hx=>by
     rcases Az.1 hx with hx|hx
     ·exact ho x hx
     ·rw [AP.1 hx];exact h1) (by rw [Aa,BN];omega)
    rw [zI h hn]
    obtain ⟨i1,i2,i3,i4,i5⟩:=ih
    rw [AG] at i3
    exact ⟨i1,i2,by simp only;omega,i4,fun hF=>i5 (hF.snoc hn.1)⟩
   ·rw [wT h hn];exact ⟨ho,hl,An _,hc,id⟩
theorem aC3:([]:Dp)=lec []:=rfl
attribute [local irreducible] Still Adds AWL AW Drw bN bP AC AWR cM Frz Go.Av.Src dB Out InK ItK AsK RdK eA dZ ACT ACA eL ACG eR bC3 lec
theorem bW6:nJ Tryz.prog 59 3:=by
 intro us w hl
 obtain ⟨u0,u1,u2,rfl⟩:∃u0 u1 u2,us=[u0,u1,u2]:=by
  match us,hl with | [u0,u1,u2],_=>exact ⟨u0,u1,u2,rfl⟩
 refine callsD_of_wpS Tryz.func59 rfl fun c₀ cs hu=>?_
 apply wpS_seq
 apply wpS_region
 simp [wpOpsS,go_sem,recoverD,hu,Tryz.ntmps59,Exit.thenS]
 refine wpS_cond (t:=false) nD ?_
 simp only [AB,AY]
 refine wpS_of_wp (wp_skip ?_)
 cases c₀
 simp_all [bodyPostS,results,Tryz.results59]
theorem aQ9:Body Tryz.prog 59:=by unfold Body;kernel_rfl
structure PSt where
 l:List LEn
 a:Nat
 c:CZ
 q:Nat
structure PInv (b:CZ) (m:Nat) (R:List LEn × Nat × CZ) (s:PSt):Prop where
 hl:s.l.length=s.q
 hq:s.q<=512
 ha:s.a<=m
 hc:s.c.length=32
 ho:OkL s.l
 hR:∃f,s.q+f=513/\R=((parF kdL f s.l s.c (b.drop s.a)).1,s.a+(parF kdL f s.l s.c (b.drop s.a)).2.1,(parF kdL f s.l s.c (b.drop s.a)).2.2)
set_option maxHeartbeats 64000000 in
theorem bW5 (b:CZ) (m:Nat) (hm:b.length=m) (hb:m<=100000000) (L:List LEn) (q:Nat) (hq:L.length=q) (at':Nat) (d:CZ) (hR:parF kdL 513 [] root0 b=(L,at',d)):qC' 14 [.sl 1 m (u8c b)] (.tup [.c (.sl 65 q (lec L)),.c (iv at'),.c (.agg (u8c d))]) [] 0:=by
 refine aJ aB (sz:=50) Tryz.func14 rfl (by rw [Tryz.ntmps14];rfl) ?_
 repeat' (first|(refine aC ?_;intro K hK hX)|refine aM [0,2,3,4,5,6,7,8,9,13,14,15,26] ?_|((with_reducible refine bC ?_);refine aY [0,2,3,4,5,6,7,8,9,13,14,15,26] rfl rfl ?_;refine dG [60] ?_)|((with_reducible refine lT ?_);intro K hK hX)|(with_reducible refine nM ?_)|((with_reducible refine aB8 ?_);refine yA ?_;refine bG (oR rfl) rfl ?_)|((first|with_reducible refine aF ?_|with_reducible refine bD ?_);refine cK aB (List.range 50) aE rfl rfl zby Tryz.func60 rfl rfl rfl (szf:=24) vI rfl ?_)|refine stA ?_|refine stD ?_|(refine aH hK hX ?_;clear hK hX K)|fail|(first|refine bW zio ztr rfl rfl (ResL.one (ResA.tmp rfl)) ?_|refine bV zio ztr rfl rfl (ResL.one (ResA.tmp rfl)) ?_))
 refine cA [15,14,13] [] rfl rfl (fun i:Nat=>[(15,.c (iv 0)),(14,.c (iv 0))]) (fun i=>[]) (fun i=>i=0) (fun _=>0) 0 rfl gV ?_
 intro i0 hi0 K hK hX
 repeat' (first|(refine aC ?_;intro K hK hX)|refine aM [0,2,3,4,5,6,7,8,9,13,14,15,26] ?_|((with_reducible refine bC ?_);refine aY [0,2,3,4,5,6,7,8,9,13,14,15,26] rfl rfl ?_;refine dG [60] ?_)|((with_reducible refine lT ?_);intro K hK hX)|(with_reducible refine nM ?_)|((first|with_reducible refine aF ?_|with_reducible refine bD ?_);refine cK aB (List.range 50) aE rfl rfl zby Tryz.func60 rfl rfl rfl (szf:=24) vI rfl ?_)|refine stA ?_|refine stD ?_|(refine aH hK hX ?_;clear hK hX K)|fail|(first|refine bW zio ztr rfl rfl (ResL.one (ResA.tmp rfl)) ?_|refine bV zio ztr rfl rfl (ResL.one (ResA.tmp rfl)) ?_))
 refine aN5 0 0 49 65 rfl rfl rfl rfl ?_
 refine eV 10 (fun s:PSt=>[(5,.ref 8 0),(0,.c (.sl 1 m (u8c b))),(2,.ref 0 0),(3,.ref 1 0),(4,.ref 2 0)]) (fun s=>(9,.row 49 (lec s.l))::(0,.blk 23 [.own 9 0 s.q 65 true])::(1,.blk 3 [.c (iv s.a)])::(2,.row 28 (u8c s.c))::[(8,.blk tTl [.c (bv (Tl.of s.l).so),.c (iv (Tl.of s.l).day),.c (iv (Tl.of s.l).er),.c (iv (Tl.of s.l).sg),.mh 3,.mh 4,.mh 5,.mh 6,.mh 7]),(3,.tab (aD ktI.kc (Tl.of s.l).bg)),(4,.tab (aD ktI.kc (Tl.of s.l).co)),(5,.tab (aD ktP.kc (Tl.of s.l).st)),(6,.tab (aD ktV.kc (Tl.of s.l).vs)),(7,.tab (aD ktS.kc (Tl.of s.l).ss))]) [(some 59,[.ref 0 0,.ref 1 0,.ref 2 0])] (PInv b m (L,at',d)) (fun s=>513-s.q) ⟨[],0,root0,0⟩ ⟨rfl,by decide,An _,rfl,fun e he=>by simp at he,513,rfl,by rw [Bg,Al,hR]⟩ dA5 ?_
 intro s hs K hK hX
 obtain ⟨sl,sa,sc,sq⟩:=s
 obtain ⟨hl,hqb,ha,hc,ho,f,hf,hRe⟩:=hs
 simp only at hl hqb ha hc ho hf hRe ⊢
 have hul:(u8c sc).length=32:=by rw [aI,hc]
 have hdl:(b.drop sa).length=m-sa:=by rw [AG,hm]
 have hfr:=aI1 (b.drop sa) (m-sa) hdl aA sc hc
 have hZ:List.take ((m-sa)*1) (List.drop (sa*1) (u8c b))=u8c (b.drop sa):=by
  rw [A4,A4,bK,bL,Ah (by rw [hdl];exact Ae _)]
 rw [<- hZ] at hfr
 have ex:parF kdL f sl sc (b.drop sa)=(sl,0,sc)->sq=q/\lec sl=lec L/\iv (sa:Int)=iv (at':Int)/\CV.agg (u8c sc)=CV.agg (u8c d):=fun h=>by
  rw [h] at hRe
  injection hRe with e1 e2
  injection e2 with e2 e3
  simp only at e1 e2 e3
  exact ⟨by rw [<- hl,<- hq,e1],by rw [e1],by rw [e2];rfl,by rw [e3]⟩
 have hll:(lec sl).length=sq*65:=by rw [gT ho,hl]
 by_cases hlt:sa<m
 rotate_left
 ·obtain ⟨e4,e5,e6,e7⟩:=ex (sN (by rw [AM aA];rfl))
  clear hfr hRe ex ho
  repeat' (first|(refine aC ?_;intro K hK hX)|refine aM [0,2,3,4,5,6,7,8,9,26] ?_|((with_reducible refine bC (i:=12) ?_);refine aY [0,2,3,4,5,6,7,8,9,26] rfl rfl ?_;refine dI [] ?_)|((with_reducible refine bC ?_);refine aY [0,2,3,4,5,6,7,8,9,26] rfl rfl ?_;refine dG [] ?_)|((with_reducible refine lT ?_);intro K hK hX)|(with_reducible refine nM ?_)|refine stA ?_|refine stD ?_|refine stE ?_|(refine aH hK hX ?_;clear hK hX K)|fail)
  exact aX1
 rcases hfr with ⟨h1,hac⟩|⟨x,dd,k,nv,ns,h1,hnv,hns,⟨xw,xk,xz⟩,hdd,hk0,hk1,hac⟩
 ·obtain ⟨e4,e5,e6,e7⟩:=ex (sN h1)
  clear hRe ex ho h1
  generalize hcs0:ecs en0 0 0=cs0 at hac
  have hel:cs0.length=65:=by rw [<- hcs0];rfl
  have hdl2:(u8c root0).length=32:=rfl
  generalize root0=dd at *
  repeat' (first|(refine aC ?_;intro K hK hX)|refine aM [0,2,3,4,5,6,7,8,9,26] ?_|((with_reducible refine bC (i:=4) ?_);refine aY [0,2,3,4,5,6,7,8,9,26] rfl rfl ?_;refine dI [] ?_)|((with_reducible refine bC (i:=12) ?_);refine aY [0,2,3,4,5,6,7,8,9,26] rfl rfl ?_;refine dI [] ?_)|((with_reducible refine bC ?_);refine aY [0,2,3,4,5,6,7,8,9,26] rfl rfl ?_;refine dG [] ?_)|((with_reducible refine mF ?_);refine yE ?_;refine bG (aW (T:=49) aB rfl rfl rfl) rfl ?_)|((with_reducible refine bA ?_);refine yA ?_;refine bG (aW (T:=49) aB rfl rfl rfl) rfl ?_)|((with_reducible refine lT ?_);intro K hK hX)|(with_reducible refine nM ?_)|(refine eW ?_;refine c0 hac ?_)|refine stA ?_|refine stD ?_|refine stE ?_|(refine aH hK hX ?_;clear hK hX K)|fail)
  exact aX1
 have hel:=cS xw.root nv ns
 have hdl2:(u8c dd).length=32:=by rw [aI,hdd]
 obtain ⟨t1,t2,t3⟩:=bB5 (l:=sl) aA ho
 have hrel:=(xP sl).fol x
 have hsa:(Tl.of sl).add x=Tl.of (sl++[x]):=(Tl.of_snoc sl x).symm
 have hsn:lec sl++ecs x nv ns=lec (sl++[x]):=by rw [<- hnv,<- hns];unfold lec;rw [Bc];simp [ecR]
 have hoN:OkL (sl++[x]):=fun y hy=>by
  rcases Az.1 hy with hy|hy
  ·exact ho y hy
  ·rw [AP.1 hy];exact ⟨xw,xk,xz⟩
 have hln:(sl++[x]).length=sq+1:=by rw [Aa,hl];rfl
 have hfT:∀r:Bool,(r=true↔FolT (Tl.of sl) x)->ACG Tryz.prog 62 6 [(0,.blk tTl [.c (bv (Tl.of sl).so),.c (iv (Tl.of sl).day),.c (iv (Tl.of sl).er),.c (iv (Tl.of sl).sg),.mh 1,.mh 2,.mh 3,.mh 4,.mh 5]),(1,.tab (aD ktI.kc (Tl.of sl).bg)),(2,.tab (aD ktI.kc (Tl.of sl).co)),(3,.tab (aD ktP.kc (Tl.of sl).st)),(4,.tab (aD ktV.kc (Tl.of sl).vs)),(5,.tab (aD ktS.kc (Tl.of sl).ss))] [.agg (ecs x nv ns)] [(0,.blk tTl [.c (bv (Tl.of sl).so),.c (iv (Tl.of sl).day),.c (iv (Tl.of sl).er),.c (iv (Tl.of sl).sg),.mh 1,.mh 2,.mh 3,.mh 4,.mh 5]),(1,.tab (aD ktI.kc (Tl.of sl).bg)),(2,.tab (aD ktI.kc (Tl.of sl).co)),(3,.tab (aD ktP.kc (Tl.of sl).st)),(4,.tab (aD ktV.kc (Tl.of sl).vs)),(5,.tab (aD ktS.kc (Tl.of sl).ss))] (bv r):=fun r hr=>aQ0 (Tl.of sl) t1 t2 t3 x xw xk xz nv ns hnv hns r hr
 have haT:ACG Tryz.prog 63 6 [(0,.blk tTl [.c (bv (Tl.of sl).so),.c (iv (Tl.of sl).day),.c (iv (Tl.of sl).er),.c (iv (Tl.of sl).sg),.mh 1,.mh 2,.mh 3,.mh 4,.mh 5]),(1,.tab (aD ktI.kc (Tl.of sl).bg)),(2,.tab (aD ktI.kc (Tl.of sl).co)),(3,.tab (aD ktP.kc (Tl.of sl).st)),(4,.tab (aD ktV.kc (Tl.of sl).vs)),(5,.tab (aD ktS.kc (Tl.of sl).ss))] [.agg (ecs x nv ns)] [(0,.blk tTl [.c (bv (Tl.of (sl++[x])).so),.c (iv (Tl.of (sl++[x])).day),.c (iv (Tl.of (sl++[x])).er),.c (iv (Tl.of (sl++[x])).sg),.mh 1,.mh 2,.mh 3,.mh 4,.mh 5]),(1,.tab (aD ktI.kc (Tl.of (sl++[x])).bg)),(2,.tab (aD ktI.kc (Tl.of (sl++[x])).co)),(3,.tab (aD ktP.kc (Tl.of (sl++[x])).st)),(4,.tab (aD ktV.kc (Tl.of (sl++[x])).vs)),(5,.tab (aD ktS.kc (Tl.of (sl++[x])).ss))] (.v (.tuple #[])):=by
  have:=aN3 (Tl.of sl) t1 x xw nv ns hnv hns (by have:=xz.vs;omega) (by have:=xz.ss;omega)
  rw [hsa] at this
  exact this
 by_cases hF:Fol sl x
 rotate_left
 ·have hf:=hfT false ⟨fun h=>kB,fun h=>absurd (hrel.1 h) hF⟩
  obtain ⟨e4,e5,e6,e7⟩:=ex (wT h1 (fun h=>hF h.1))
  clear hfT haT hrel t1 t2 t3 hsa hRe ex ho h1 hsn hoN
  generalize ecs x nv ns=cs at *
  repeat' (first|(refine aC ?_;intro K hK hX)|refine dH7 ?_|(refine aH hK hX ?_;clear hK hX K)|fail)
  exact aX1
 have hf:=hfT true ⟨fun _=>hrel.2 hF,fun _=>rfl⟩
 by_cases h512:sq=512
 ·obtain ⟨e4,e5,e6,e7⟩:=ex (wT h1 (fun h=>by omega))
  clear hfT haT hrel t1 t2 t3 hsa hRe ex ho h1 hsn hoN
  generalize ecs x nv ns=cs at *
  repeat' (first|(refine aC ?_;intro K hK hX)|refine dH7 ?_|(refine aH hK hX ?_;clear hK hX K)|fail)
  exact aX1
 obtain ⟨f',rfl⟩:∃f',f=f'+1:=⟨f-1,by omega⟩
 rw [zI h1 ⟨hF,by omega⟩,BJ] at hRe
 have hNx:PInv b m (L,at',d) ⟨sl++[x],sa+k,dd,sq+1⟩:=⟨hln,by simp only;omega,by simp only;omega,hdd,hoN,f',by simp only;omega,by rw [hRe,BW]⟩
 clear hfT hrel t1 t2 t3 hsa hRe ex ho h1 hoN hF
 generalize ecs x nv ns=cs at *
 repeat' (first|(refine aC ?_;intro K hK hX)|refine aM [0,2,3,4,5,6,7,8,9,26] ?_|((with_reducible refine bC (i:=4) ?_);refine aY [0,2,3,4,5,6,7,8,9,26] rfl rfl ?_;refine dI [] ?_)|((with_reducible refine bC ?_);refine aY [0,2,3,4,5,6,7,8,9,26] rfl rfl ?_;refine dG [] ?_)|((with_reducible refine mF ?_);refine yE ?_;refine bG (aW (T:=49) aB rfl rfl rfl) rfl ?_)|((with_reducible refine bA ?_);refine yA ?_;refine bG (aW (T:=49) aB rfl rfl rfl) rfl ?_)|((with_reducible refine aF ?_);refine jE [8,3,4,5,6,7] hf aE rfl zby rfl rfl rfl rfl nC rfl rfl rfl lE (bB rfl rfl (bB rfl setT_mp.symm (bB rfl setT_mp.symm (bB rfl setT_mp.symm (bB rfl setT_mp.symm (bB rfl setT_mp.symm kX)))))) ?_)|((with_reducible refine aF ?_);refine jE [8,3,4,5,6,7] haT aE rfl zby rfl rfl rfl rfl nC rfl rfl rfl lE (bB rfl rfl (bB rfl setT_mp.symm (bB rfl setT_mp.symm (bB rfl setT_mp.symm (bB rfl setT_mp.symm (bB rfl setT_mp.symm kX)))))) ?_)|(refine eW ?_;refine c0 hac ?_)|refine stA ?_|refine stD ?_|refine stE ?_|(refine aH hK hX ?_;clear hK hX K)|fail)
 exact ⟨⟨sl++[x],sa+k,dd,sq+1⟩,hNx,by simp only;omega,(by refine iG [0,1,2,3,4,5,6,7,8,13] rfl rfl ?_ ?_ rfl rfl<;>(repeat' (first|exact eO|exact dL|refine dY rfl aV7 rfl ?_|refine bY rfl setT_mp cD ?_|refine bY rfl aV7 rfl ?_)))⟩
end Go.Proofs.YtbgehdndimlgkaaGreat
