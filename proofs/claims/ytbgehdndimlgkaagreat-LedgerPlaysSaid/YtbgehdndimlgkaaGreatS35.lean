/- Lemmas for laws of the ledger. -/
import Derived.Test.YtbgehdndimlgkaaGreatS34
set_option linter.all false
namespace Go.Proofs.YtbgehdndimlgkaaGreat
open Go Go.RowKit Go.Av
set_option maxRecDepth 100000
section
variable {kd:Dm->Dm->Dm}
theorem lZ {f:Nat} {l:List LEn} {ch b:Dm} (h:kD kd ch b=none):parF kd f l ch b=(l,0,ch):=by
 cases f with
 | zero=>rfl
 | succ f=>rw [parF,h]
section
variable {f:Nat} {l:List LEn} {ch b c:Dm} {e:LEn} {n:Nat} (h:kD kd ch b=some (e,c,n))
include f l ch b c e n h
theorem oJ (hn:¬(Fol l e/\l.length<512)):parF kd f l ch b=(l,0,ch):=by
 cases f with
 | zero=>rfl
 | succ f=>rw [parF,h];simp only;rw [Aj hn]
theorem sF (hn:Fol l e/\l.length<512):parF kd (f+1) l ch b=((parF kd f (l++[e]) c (b.drop n)).1,n+(parF kd f (l++[e]) c (b.drop n)).2.1,(parF kd f (l++[e]) c (b.drop n)).2.2):=by
 rw [parF,h];simp only;rw [Ak hn]
end
end
theorem aJ6 {ch b:Dm} {e:LEn} {d:Dm} {k:Nat} (hb:b.length<=100000000) (hch:ch.length=32) (h:kD kdL ch b=some (e,d,k)):(e.wf/\aT e.k/\e.sz)/\d.length=32/\0<k/\k<=b.length:=by
 rcases aW7 b _ rfl hb ch hch with ⟨h1,_⟩|⟨x,d',k',nv,ns,h1,_,_,h2,h3,h4,h5,_⟩
 ·rw [h1] at h;cases h
 ·rw [h1] at h
  injection h with h
  injection h with e1 h
  injection h with e2 e3
  subst e1 e2 e3
  exact ⟨h2,h3,h4,h5⟩
theorem pG:∀(f:Nat) {l:List LEn} {ch b:Dm},b.length<=100000000->ch.length=32->OkL l->l.length<=512->OkL (parF kdL f l ch b).1/\(parF kdL f l ch b).1.length<=512/\(parF kdL f l ch b).2.1<=b.length/\(parF kdL f l ch b).2.2.length=32/\(FolL l->FolL (parF kdL f l ch b).1)
 | 0,l,ch,b,_,hc,ho,hl=>⟨ho,hl,Am _,hc,id⟩
 | f+1,l,ch,b,hb,hc,ho,hl=>by
  cases h:kD kdL ch b with
  | none=>rw [lZ h];exact ⟨ho,hl,Am _,hc,id⟩
  | some p =>
   obtain ⟨e,d,k⟩:=p
   by_cases hn:Fol l e/\l.length<512
   ·obtain ⟨h1,h2,h3,h4⟩:=aJ6 hb hc h
    have ih:=pG f (l:=l++[e]) (ch:=d) (b:=b.drop k) aI1 h2 (fun x hx=>by
     rcases Az.1 hx with hx|hx
     ·exact ho x hx
     ·rw [AX.1 hx];exact h1) (by rw [Aa,Ca];omega)
    rw [sF h hn]
    obtain ⟨i1,i2,i3,i4,i5⟩:=ih
    rw [A0] at i3
    exact ⟨i1,i2,by simp only;omega,i4,fun hF=>i5 (hF.snoc hn.1)⟩
   ·rw [oJ h hn];exact ⟨ho,hl,Am _,hc,id⟩
theorem aP4:([]:D1)=lec []:=rfl
attribute [local irreducible] Still Adds AWL AW Drw bX bY AC AWR cU Frz Go.Av.Src cQ Out InK ItK AsK RdK eP eI ACT ACA eW ACG fL aS3 lec
theorem cP3:pW Tryz.prog 59 3:=by
 intro us w hl
 obtain ⟨u0,u1,u2,rfl⟩:∃u0 u1 u2,us=[u0,u1,u2]:=by
  match us,hl with | [u0,u1,u2],_=>exact ⟨u0,u1,u2,rfl⟩
 refine callsD_of_wpS Tryz.func59 rfl fun c₀ cs hu=>?_
 apply wpS_seq
 apply wpS_region
 simp [wpOpsS,go_sem,recoverD,hu,Tryz.ntmps59,Exit.thenS]
 refine wpS_cond (t:=false) pS ?_
 simp only [AB,AQ]
 refine wpS_of_wp (wp_skip ?_)
 cases c₀
 simp_all [bodyPostS,results,Tryz.results59]
theorem bG4:Body Tryz.prog 59:=by unfold Body;kernel_rfl
structure PSt where
 l:List LEn
 a:Nat
 c:Dm
 q:Nat
structure PInv (b:Dm) (m:Nat) (R:List LEn × Nat × Dm) (s:PSt):Prop where
 hl:s.l.length=s.q
 hq:s.q<=512
 ha:s.a<=m
 hc:s.c.length=32
 ho:OkL s.l
 hR:∃f,s.q+f=513/\R=((parF kdL f s.l s.c (b.drop s.a)).1,s.a+(parF kdL f s.l s.c (b.drop s.a)).2.1,(parF kdL f s.l s.c (b.drop s.a)).2.2)
set_option maxHeartbeats 64000000 in
theorem cP2 (b:Dm) (m:Nat) (hm:b.length=m) (hb:m<=100000000) (L:List LEn) (q:Nat) (hq:L.length=q) (at':Nat) (d:Dm) (hR:parF kdL 513 [] root0 b=(L,at',d)):qC' 14 [.sl 1 m (u8c b)] (.tup [.c (.sl 65 q (lec L)),.c (iv at'),.c (.agg (u8c d))]) [] 0:=by
 refine aD aB (sz:=50) Tryz.func14 rfl (by rw [Tryz.ntmps14];rfl) ?_
 repeat' (first|(refine aC ?_;intro K hK hX)|refine aK [0,2,3,4,5,6,7,8,9,13,14,15,26] ?_|((with_reducible refine aQ ?_);refine aP [0,2,3,4,5,6,7,8,9,13,14,15,26] rfl rfl ?_;refine cJ [60] ?_)|((with_reducible refine nQ ?_);intro K hK hX)|(with_reducible refine qD ?_)|((with_reducible refine cM7 ?_);refine yA ?_;refine bC (aG6 rfl) rfl ?_)|((first|with_reducible refine aF ?_|with_reducible refine bB ?_);refine bV aB (List.range 50) aE rfl rfl zby Tryz.func60 rfl rfl rfl (szf:=24) (by rw [Tryz.ntmps60];rfl) rfl ?_)|refine stA ?_|refine stD ?_|(refine aG hK hX ?_;clear hK hX K)|fail|(first|refine bK zio ztr rfl rfl (ResL.one (ResA.tmp rfl)) ?_|refine bJ zio ztr rfl rfl (ResL.one (ResA.tmp rfl)) ?_))
 refine bH [15,14,13] [] rfl rfl (fun i:Nat=>[(15,.c (iv 0)),(14,.c (iv 0))]) (fun i=>[]) (fun i=>i=0) (fun _=>0) 0 rfl dF ?_
 intro i0 hi0 K hK hX
 repeat' (first|(refine aC ?_;intro K hK hX)|refine aK [0,2,3,4,5,6,7,8,9,13,14,15,26] ?_|((with_reducible refine aQ ?_);refine aP [0,2,3,4,5,6,7,8,9,13,14,15,26] rfl rfl ?_;refine cJ [60] ?_)|((with_reducible refine nQ ?_);intro K hK hX)|(with_reducible refine qD ?_)|((first|with_reducible refine aF ?_|with_reducible refine bB ?_);refine bV aB (List.range 50) aE rfl rfl zby Tryz.func60 rfl rfl rfl (szf:=24) (by rw [Tryz.ntmps60];rfl) rfl ?_)|refine stA ?_|refine stD ?_|(refine aG hK hX ?_;clear hK hX K)|fail|(first|refine bK zio ztr rfl rfl (ResL.one (ResA.tmp rfl)) ?_|refine bJ zio ztr rfl rfl (ResL.one (ResA.tmp rfl)) ?_))
 refine bD4 0 0 49 65 rfl rfl rfl rfl ?_
 refine cL 10 (fun s:PSt=>[(5,.ref 8 0),(0,.c (.sl 1 m (u8c b))),(2,.ref 0 0),(3,.ref 1 0),(4,.ref 2 0)]) (fun s=>(9,.row 49 (lec s.l))::(0,.blk 23 [.own 9 0 s.q 65 true])::(1,.blk 3 [.c (iv s.a)])::(2,.row 28 (u8c s.c))::[(8,.blk tTl [.c (bv (Tl.of s.l).so),.c (iv (Tl.of s.l).day),.c (iv (Tl.of s.l).er),.c (iv (Tl.of s.l).sg),.mh 3,.mh 4,.mh 5,.mh 6,.mh 7]),(3,.tab (aI ktI.kc (Tl.of s.l).bg)),(4,.tab (aI ktI.kc (Tl.of s.l).co)),(5,.tab (aI ktP.kc (Tl.of s.l).st)),(6,.tab (aI ktV.kc (Tl.of s.l).vs)),(7,.tab (aI ktS.kc (Tl.of s.l).ss))]) [(some 59,[.ref 0 0,.ref 1 0,.ref 2 0])] (PInv b m (L,at',d)) (fun s=>513-s.q) ⟨[],0,root0,0⟩ ⟨rfl,by decide,Am _,rfl,fun e he=>by simp at he,513,rfl,by rw [AY,Aq,hR]⟩ cZ4 ?_
 intro s hs K hK hX
 obtain ⟨sl,sa,sc,sq⟩:=s
 obtain ⟨hl,hqb,ha,hc,ho,f,hf,hRe⟩:=hs
 simp only at hl hqb ha hc ho hf hRe ⊢
 have hul:(u8c sc).length=32:=by rw [aH,hc]
 have hdl:(b.drop sa).length=m-sa:=by rw [A0,hm]
 have hfr:=aW7 (b.drop sa) (m-sa) hdl aA sc hc
 have hZ:List.take ((m-sa)*1) (List.drop (sa*1) (u8c b))=u8c (b.drop sa):=by
  rw [A8,A8,bR,bS,Ad (by rw [hdl];exact Ah _)]
 rw [<- hZ] at hfr
 have ex:parF kdL f sl sc (b.drop sa)=(sl,0,sc)->sq=q/\lec sl=lec L/\iv (sa:Int)=iv (at':Int)/\CV.agg (u8c sc)=CV.agg (u8c d):=fun h=>by
  rw [h] at hRe
  injection hRe with e1 e2
  injection e2 with e2 e3
  simp only at e1 e2 e3
  exact ⟨by rw [<- hl,<- hq,e1],by rw [e1],by rw [e2];rfl,by rw [e3]⟩
 have hll:(lec sl).length=sq*65:=by rw [fX ho,hl]
 by_cases hlt:sa<m
 rotate_left
 ·obtain ⟨e4,e5,e6,e7⟩:=ex (lZ (by rw [AG aA];rfl))
  clear hfr hRe ex ho
  repeat' (first|(refine aC ?_;intro K hK hX)|refine aK [0,2,3,4,5,6,7,8,9,26] ?_|((with_reducible refine aQ (i:=12) ?_);refine aP [0,2,3,4,5,6,7,8,9,26] rfl rfl ?_;refine bW [] ?_)|((with_reducible refine aQ ?_);refine aP [0,2,3,4,5,6,7,8,9,26] rfl rfl ?_;refine cJ [] ?_)|((with_reducible refine nQ ?_);intro K hK hX)|(with_reducible refine qD ?_)|refine stA ?_|refine stD ?_|refine stE ?_|(refine aG hK hX ?_;clear hK hX K)|fail)
  exact bN4
 rcases hfr with ⟨h1,hac⟩|⟨x,dd,k,nv,ns,h1,hnv,hns,⟨xw,xk,xz⟩,hdd,hk0,hk1,hac⟩
 ·obtain ⟨e4,e5,e6,e7⟩:=ex (lZ h1)
  clear hRe ex ho h1
  generalize hcs0:ecs en0 0 0=cs0 at hac
  have hel:cs0.length=65:=by rw [<- hcs0];rfl
  have hdl2:(u8c root0).length=32:=rfl
  generalize root0=dd at *
  repeat' (first|(refine aC ?_;intro K hK hX)|refine aK [0,2,3,4,5,6,7,8,9,26] ?_|((with_reducible refine aQ (i:=4) ?_);refine aP [0,2,3,4,5,6,7,8,9,26] rfl rfl ?_;refine bW [] ?_)|((with_reducible refine aQ (i:=12) ?_);refine aP [0,2,3,4,5,6,7,8,9,26] rfl rfl ?_;refine bW [] ?_)|((with_reducible refine aQ ?_);refine aP [0,2,3,4,5,6,7,8,9,26] rfl rfl ?_;refine cJ [] ?_)|((with_reducible refine iZ ?_);refine yE ?_;refine bC (aR (T:=49) aB rfl rfl rfl) rfl ?_)|((with_reducible refine aW ?_);refine yA ?_;refine bC (aR (T:=49) aB rfl rfl rfl) rfl ?_)|((with_reducible refine nQ ?_);intro K hK hX)|(with_reducible refine qD ?_)|(refine dM ?_;refine c0 hac ?_)|refine stA ?_|refine stD ?_|refine stE ?_|(refine aG hK hX ?_;clear hK hX K)|fail)
  exact bN4
 have hel:=cK xw.root nv ns
 have hdl2:(u8c dd).length=32:=by rw [aH,hdd]
 obtain ⟨t1,t2,t3⟩:=cV0 (l:=sl) aA ho
 have hrel:=(bJ6 sl).fol x
 have hsa:(Tl.of sl).add x=Tl.of (sl++[x]):=(Tl.of_snoc sl x).symm
 have hsn:lec sl++ecs x nv ns=lec (sl++[x]):=by rw [<- hnv,<- hns];unfold lec;rw [Bc];simp [ecR]
 have hoN:OkL (sl++[x]):=fun y hy=>by
  rcases Az.1 hy with hy|hy
  ·exact ho y hy
  ·rw [AX.1 hy];exact ⟨xw,xk,xz⟩
 have hln:(sl++[x]).length=sq+1:=by rw [Aa,hl];rfl
 have hfT:∀r:Bool,(r=true↔FolT (Tl.of sl) x)->ACG Tryz.prog 62 6 [(0,.blk tTl [.c (bv (Tl.of sl).so),.c (iv (Tl.of sl).day),.c (iv (Tl.of sl).er),.c (iv (Tl.of sl).sg),.mh 1,.mh 2,.mh 3,.mh 4,.mh 5]),(1,.tab (aI ktI.kc (Tl.of sl).bg)),(2,.tab (aI ktI.kc (Tl.of sl).co)),(3,.tab (aI ktP.kc (Tl.of sl).st)),(4,.tab (aI ktV.kc (Tl.of sl).vs)),(5,.tab (aI ktS.kc (Tl.of sl).ss))] [.agg (ecs x nv ns)] [(0,.blk tTl [.c (bv (Tl.of sl).so),.c (iv (Tl.of sl).day),.c (iv (Tl.of sl).er),.c (iv (Tl.of sl).sg),.mh 1,.mh 2,.mh 3,.mh 4,.mh 5]),(1,.tab (aI ktI.kc (Tl.of sl).bg)),(2,.tab (aI ktI.kc (Tl.of sl).co)),(3,.tab (aI ktP.kc (Tl.of sl).st)),(4,.tab (aI ktV.kc (Tl.of sl).vs)),(5,.tab (aI ktS.kc (Tl.of sl).ss))] (bv r):=fun r hr=>cL3 (Tl.of sl) t1 t2 t3 x xw xk xz nv ns hnv hns r hr
 have haT:ACG Tryz.prog 63 6 [(0,.blk tTl [.c (bv (Tl.of sl).so),.c (iv (Tl.of sl).day),.c (iv (Tl.of sl).er),.c (iv (Tl.of sl).sg),.mh 1,.mh 2,.mh 3,.mh 4,.mh 5]),(1,.tab (aI ktI.kc (Tl.of sl).bg)),(2,.tab (aI ktI.kc (Tl.of sl).co)),(3,.tab (aI ktP.kc (Tl.of sl).st)),(4,.tab (aI ktV.kc (Tl.of sl).vs)),(5,.tab (aI ktS.kc (Tl.of sl).ss))] [.agg (ecs x nv ns)] [(0,.blk tTl [.c (bv (Tl.of (sl++[x])).so),.c (iv (Tl.of (sl++[x])).day),.c (iv (Tl.of (sl++[x])).er),.c (iv (Tl.of (sl++[x])).sg),.mh 1,.mh 2,.mh 3,.mh 4,.mh 5]),(1,.tab (aI ktI.kc (Tl.of (sl++[x])).bg)),(2,.tab (aI ktI.kc (Tl.of (sl++[x])).co)),(3,.tab (aI ktP.kc (Tl.of (sl++[x])).st)),(4,.tab (aI ktV.kc (Tl.of (sl++[x])).vs)),(5,.tab (aI ktS.kc (Tl.of (sl++[x])).ss))] (.v (.tuple #[])):=by
  have:=cB3 (Tl.of sl) t1 x xw nv ns hnv hns (by have:=xz.vs;omega) (by have:=xz.ss;omega)
  rw [hsa] at this
  exact this
 by_cases hF:Fol sl x
 rotate_left
 ·have hf:=hfT false ⟨fun h=>eS,fun h=>absurd (hrel.1 h) hF⟩
  obtain ⟨e4,e5,e6,e7⟩:=ex (oJ h1 (fun h=>hF h.1))
  clear hfT haT hrel t1 t2 t3 hsa hRe ex ho h1 hsn hoN
  generalize ecs x nv ns=cs at *
  repeat' (first|(refine aC ?_;intro K hK hX)|refine dK1 ?_|(refine aG hK hX ?_;clear hK hX K)|fail)
  exact bN4
 have hf:=hfT true ⟨fun _=>hrel.2 hF,fun _=>rfl⟩
 by_cases h512:sq=512
 ·obtain ⟨e4,e5,e6,e7⟩:=ex (oJ h1 (fun h=>by omega))
  clear hfT haT hrel t1 t2 t3 hsa hRe ex ho h1 hsn hoN
  generalize ecs x nv ns=cs at *
  repeat' (first|(refine aC ?_;intro K hK hX)|refine dK1 ?_|(refine aG hK hX ?_;clear hK hX K)|fail)
  exact bN4
 obtain ⟨f',rfl⟩:∃f',f=f'+1:=⟨f-1,by omega⟩
 rw [sF h1 ⟨hF,by omega⟩,BR] at hRe
 have hNx:PInv b m (L,at',d) ⟨sl++[x],sa+k,dd,sq+1⟩:=⟨hln,by simp only;omega,by simp only;omega,hdd,hoN,f',by simp only;omega,by rw [hRe,BO]⟩
 clear hfT hrel t1 t2 t3 hsa hRe ex ho h1 hoN hF
 generalize ecs x nv ns=cs at *
 repeat' (first|(refine aC ?_;intro K hK hX)|refine aK [0,2,3,4,5,6,7,8,9,26] ?_|((with_reducible refine aQ (i:=4) ?_);refine aP [0,2,3,4,5,6,7,8,9,26] rfl rfl ?_;refine bW [] ?_)|((with_reducible refine aQ ?_);refine aP [0,2,3,4,5,6,7,8,9,26] rfl rfl ?_;refine cJ [] ?_)|((with_reducible refine iZ ?_);refine yE ?_;refine bC (aR (T:=49) aB rfl rfl rfl) rfl ?_)|((with_reducible refine aW ?_);refine yA ?_;refine bC (aR (T:=49) aB rfl rfl rfl) rfl ?_)|((with_reducible refine aF ?_);refine nR [8,3,4,5,6,7] hf aE rfl zby rfl rfl rfl rfl sT rfl rfl rfl pR (cE rfl rfl (cE rfl setT_mp.symm (cE rfl setT_mp.symm (cE rfl setT_mp.symm (cE rfl setT_mp.symm (cE rfl setT_mp.symm rC)))))) ?_)|((with_reducible refine aF ?_);refine nR [8,3,4,5,6,7] haT aE rfl zby rfl rfl rfl rfl sT rfl rfl rfl pR (cE rfl rfl (cE rfl setT_mp.symm (cE rfl setT_mp.symm (cE rfl setT_mp.symm (cE rfl setT_mp.symm (cE rfl setT_mp.symm rC)))))) ?_)|(refine dM ?_;refine c0 hac ?_)|refine stA ?_|refine stD ?_|refine stE ?_|(refine aG hK hX ?_;clear hK hX K)|fail)
 exact ⟨⟨sl++[x],sa+k,dd,sq+1⟩,hNx,by simp only;omega,(by refine fW [0,1,2,3,4,5,6,7,8,13] rfl rfl ?_ ?_ rfl rfl<;>(repeat' (first|exact dT|exact dD|refine dJ rfl aH8 rfl ?_|refine cB rfl setT_mp dO ?_|refine cB rfl aH8 rfl ?_)))⟩
end Go.Proofs.YtbgehdndimlgkaaGreat
