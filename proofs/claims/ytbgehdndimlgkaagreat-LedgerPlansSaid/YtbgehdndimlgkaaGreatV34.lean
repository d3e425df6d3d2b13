/- Lemmas for laws of the ledger. -/
import Derived.Scope
import Derived.Control
import Derived.Test.YtbgehdndimlgkaaGreatV20
import Derived.Test.YtbgehdndimlgkaaGreatV32
import Derived.Test.YtbgehdndimlgkaaGreatV33
set_option linter.all false
namespace Go.Proofs.YtbgehdndimlgkaaGreat
open Go Go.RowKit Go.Av
set_option maxRecDepth 100000
section
attribute [local irreducible] Still Adds AWL AW Drw bN bP AC AWR cM Frz Go.Av.Src dB Out InK ItK AsK RdK eA dZ ACT ACA eL ACG eR lec
def dH2 (l:List LEn) (q:Nat):Prop:=∀e,l[q]? = some e->Fol (l.take q) e
theorem bB5 {l:List LEn} (hl:l.length<=1000) (h:OkL l):(Tl.of l).wf/\(Tl.of l).vs.length<=1000000/\(Tl.of l).ss.length<=1000000:=by
 have R:=xP l
 have hc:∀k,iQ l k<=1000:=fun k=>by
  unfold iQ
  have:=C0 (fun e:LEn=>decide (e.k=k)) l
  omega
 refine ⟨⟨?_,?_,?_,fun p hp=>?_,fun v hv=>aU1 h v ((R.vs.2 v).1 hv),fun v hv=>cD7 h v ((R.ss.2 v).1 hv)⟩,?_,?_⟩
 ·by_cases hn:l=[]
  ·subst hn
   exact aI2
  ·obtain ⟨x,hx⟩:∃x,l.getLast? = some x:=⟨_,C5 hn⟩
   rw [R.day x hx]
   exact (h x (List.mem_of_getLast? hx)).1.h1.1
 ·have:=hc 2
  rw [R.er];omega
 ·have:=hc 5
  rw [R.sg];omega
 ·obtain ⟨p1,p2⟩:=p
  obtain ⟨x,hx,_,e1,e2⟩:=(R.st p1 p2).1 hp
  have:=(h x hx).1.h1
  simp only
  rw [<- e1,<- e2]
  exact this.2
 ·have h1:=kO slo_V R.vs.1 R.vs.2
  have h2:=aF1 (lt:=ltV) (jP l)
  have h3:=aA1 h
  omega
 ·have h1:=kO cA3 R.ss.1 R.ss.2
  have h2:=aF1 (lt:=ltS) (pK l)
  have h3:=cD6 h
  omega
theorem bL3:nJ Tryz.prog 104 1:=by
 intro us w hl
 obtain ⟨u0,rfl⟩:∃u0,us=[u0]:=by
  match us,hl with | [u0],_=>exact ⟨u0,rfl⟩
 refine callsD_of_wpS Tryz.func104 rfl fun c₀ cs hu=>?_
 apply wpS_seq
 apply wpS_region
 simp [wpOpsS,go_sem,recoverD,hu,Tryz.ntmps104,Exit.thenS]
 refine wpS_cond (t:=false) nD ?_
 simp only [AB,AY]
 refine wpS_of_wp (wp_skip ?_)
 cases c₀
 simp_all [bodyPostS,results,Tryz.results104]
theorem aO4:Body Tryz.prog 104:=by unfold Body;kernel_rfl
set_option maxHeartbeats 32000000 in
theorem bH3 (l:List LEn) (n:Nat) (hln:l.length=n) (hnb:n<=1000) (hwl:OkL l) (hall:∀q,q<n->dH2 l q):qC' 39 [.sl 65 n (lec l)] (.c (iv (-1))) [] 0:=by
 have hll:(lec l).length=n*65:=by rw [gT hwl,hln]
 obtain ⟨T,hT⟩:∃T:Nat->Tl,∀i,Tl.of (l.take i)=T i:=⟨_,fun _=>rfl⟩
 have hT0:T 0=Tl.new:=by rw [<- hT];rfl
 refine aJ aB (sz:=24) Tryz.func39 rfl (by rw [Tryz.ntmps39];rfl) ?_
 repeat' (first|(refine aC ?_;intro K hK hX)|refine aM [0,2,3,4,5,8,9,10,13,14,15] ?_|((with_reducible refine aB8 ?_);refine yA ?_;refine bG (oR rfl) rfl ?_)|((first|with_reducible refine aF ?_|with_reducible refine bD ?_);refine cK aB (List.range 24) aE rfl rfl zby Tryz.func60 rfl rfl rfl (szf:=24) vI rfl ?_)|refine stA ?_|(refine aH hK hX ?_;clear hK hX K)|fail|(first|refine bW zio ztr rfl rfl (ResL.one (ResA.tmp rfl)) ?_|refine bV zio ztr rfl rfl (ResL.one (ResA.tmp rfl)) ?_))
 refine cA [15,14,13] [] rfl rfl (fun i:Nat=>[(15,.c (iv 0)),(14,.c (iv 0))]) (fun i=>[]) (fun i=>i=0) (fun _=>0) 0 rfl gV ?_
 intro i0 hi0 K hK hX
 repeat' (first|(refine aC ?_;intro K hK hX)|refine aM [0,2,3,4,5,8,9,10,13,14,15] ?_|((first|with_reducible refine aF ?_|with_reducible refine bD ?_);refine cK aB (List.range 24) aE rfl rfl zby Tryz.func60 rfl rfl rfl (szf:=24) vI rfl ?_)|refine stA ?_|(refine aH hK hX ?_;clear hK hX K)|fail|(first|refine bW zio ztr rfl rfl (ResL.one (ResA.tmp rfl)) ?_|refine bV zio ztr rfl rfl (ResL.one (ResA.tmp rfl)) ?_))
 refine cA [10] [6,1,2,3,4,5] rfl rfl (fun i:Nat=>[(10,.c (iv i))]) (fun i=>[(6,.blk tTl [.c (bv (T i).so),.c (iv (T i).day),.c (iv (T i).er),.c (iv (T i).sg),.mh 1,.mh 2,.mh 3,.mh 4,.mh 5]),(1,.tab (aD ktI.kc (T i).bg)),(2,.tab (aD ktI.kc (T i).co)),(3,.tab (aD ktP.kc (T i).st)),(4,.tab (aD ktV.kc (T i).vs)),(5,.tab (aD ktS.kc (T i).ss))]) (fun i=>i<=n) (fun i=>n-i) 0 (An _) dJ0 ?_
 intro i hi K hK hX
 by_cases hlt:i<n
 ·obtain ⟨e,hat⟩:∃e,l[i]? = some e:=⟨_,Ab aA⟩
  have hx:=mT hwl hat
  obtain ⟨ow,ok,oz⟩:=hwl e (Ag hat)
  have hel:=eX ow
  obtain ⟨t1,t2,t3⟩:=bB5 (l:=l.take i) nU (hwl.take i)
  have hrel:=(xP (l.take i)).fol e
  have hs:(T i).add e=T (i+1):=by rw [<- hT,<- hT,eK hat,Tl.of_snoc]
  rw [hT] at t1 t2 t3 hrel
  have hf:ACG Tryz.prog 62 6 [(0,.blk tTl [.c (bv (T i).so),.c (iv (T i).day),.c (iv (T i).er),.c (iv (T i).sg),.mh 1,.mh 2,.mh 3,.mh 4,.mh 5]),(1,.tab (aD ktI.kc (T i).bg)),(2,.tab (aD ktI.kc (T i).co)),(3,.tab (aD ktP.kc (T i).st)),(4,.tab (aD ktV.kc (T i).vs)),(5,.tab (aD ktS.kc (T i).ss))] [.agg (ecR e)] [(0,.blk tTl [.c (bv (T i).so),.c (iv (T i).day),.c (iv (T i).er),.c (iv (T i).sg),.mh 1,.mh 2,.mh 3,.mh 4,.mh 5]),(1,.tab (aD ktI.kc (T i).bg)),(2,.tab (aD ktI.kc (T i).co)),(3,.tab (aD ktP.kc (T i).st)),(4,.tab (aD ktV.kc (T i).vs)),(5,.tab (aD ktS.kc (T i).ss))] (bv true):=aQ0 (T i) t1 t2 t3 e ow ok oz _ _ rfl rfl true ⟨fun _=>hrel.2 (hall i hlt e hat),fun _=>rfl⟩
  have ha:ACG Tryz.prog 63 6 [(0,.blk tTl [.c (bv (T i).so),.c (iv (T i).day),.c (iv (T i).er),.c (iv (T i).sg),.mh 1,.mh 2,.mh 3,.mh 4,.mh 5]),(1,.tab (aD ktI.kc (T i).bg)),(2,.tab (aD ktI.kc (T i).co)),(3,.tab (aD ktP.kc (T i).st)),(4,.tab (aD ktV.kc (T i).vs)),(5,.tab (aD ktS.kc (T i).ss))] [.agg (ecR e)] [(0,.blk tTl [.c (bv (T (i+1)).so),.c (iv (T (i+1)).day),.c (iv (T (i+1)).er),.c (iv (T (i+1)).sg),.mh 1,.mh 2,.mh 3,.mh 4,.mh 5]),(1,.tab (aD ktI.kc (T (i+1)).bg)),(2,.tab (aD ktI.kc (T (i+1)).co)),(3,.tab (aD ktP.kc (T (i+1)).st)),(4,.tab (aD ktV.kc (T (i+1)).vs)),(5,.tab (aD ktS.kc (T (i+1)).ss))] (.v (.tuple #[])):=by
   have:=aN3 (T i) t1 e ow _ _ rfl rfl (Ao oz.vs aN) (Ao oz.ss aN)
   rw [hs] at this
   exact this
  clear hT hs hrel t1 t2 t3 ow oz
  generalize ecR e=cs at *
  repeat' (first|(refine aC ?_;intro K hK hX)|refine aM [0,2,3,4,5,8,9,10] ?_|((with_reducible refine bA ?_);refine yA ?_;refine bG (aW (T:=49) aB rfl rfl rfl) rfl ?_)|((with_reducible refine aF ?_);refine jE [6,1,2,3,4,5] hf aE rfl zby rfl rfl rfl rfl nC rfl rfl rfl lE (bB rfl rfl (bB rfl setT_mp.symm (bB rfl setT_mp.symm (bB rfl setT_mp.symm (bB rfl setT_mp.symm (bB rfl setT_mp.symm kX)))))) ?_)|((with_reducible refine aF ?_);refine jE [6,1,2,3,4,5] ha aE rfl zby rfl rfl rfl rfl nC rfl rfl rfl lE (bB rfl rfl (bB rfl setT_mp.symm (bB rfl setT_mp.symm (bB rfl setT_mp.symm (bB rfl setT_mp.symm (bB rfl setT_mp.symm kX)))))) ?_)|refine gW ?_|refine stA ?_|(refine aH hK hX ?_;clear hK hX K)|fail)
  exact iN
 ·repeat' (first|(refine aC ?_;intro K hK hX)|refine aM [0,2,3,4,5,8,9,10] ?_|refine stA ?_|(refine aH hK hX ?_;clear hK hX K)|fail)
  refine cX zio (by exact ⟨bL3,aO4,trivial⟩) rfl (ResL.one zrs) zou
end
section
theorem aZ7:∀{b:CZ} {i x:Nat} {p:Nat × CZ},i<=9->pU i x b=some p->∃j,j<=10-i/\j<=b.length/\0<j/\p.2=b.drop j
 | [],i,x,p,_,h=>by rw [pU] at h;cases h
 | c::b,i,x,p,hi,h=>by
  rw [pU] at h
  by_cases hn:(i=9/\1<c.toNat)\/(0<i/\c.toNat=0)
  ·rw [Aj hn] at h;cases h
  ·rw [Af hn] at h
   by_cases hc:c.toNat<128
   ·rw [Aj hc] at h
    injection h with h
    exact ⟨1,by omega,by simp,by decide,by rw [<- h];rfl⟩
   ·rw [Af hc] at h
    obtain ⟨j,j1,j2,j3,j4⟩:=aZ7 aA h
    exact ⟨j+1,by omega,by simp;omega,by omega,by rw [j4];rfl⟩
theorem bH2 {b:CZ} {p:Int × CZ} (h:cQ b=some p):∃j,j<=10/\j<=b.length/\0<j/\p.2=b.drop j:=by
 unfold cQ at h
 obtain ⟨q,hq,rfl⟩:=As.1 h
 exact aZ7 aN hq
theorem bW0 (b:CZ):cQ (b.take 10)=(cQ b).map fun p=>(p.1,p.2.take (10-(b.length-p.2.length))):=by
 unfold cQ
 rw [bW3 b 0 0 10 rfl aN,Option.map_map,Option.map_map]
 rfl
theorem mR (ch b:CZ):(kdL ch b).length=32:=by unfold kdL;exact xO _ _
theorem aI1 (b:CZ) (m:Nat) (hm:b.length=m) (hb:m<=100000000) (ch:CZ) (hch:ch.length=32):(oM kdL ch b=none/\qC' 61 [.sl 1 m (u8c b),.agg (u8c ch)] (.tup [.c (.agg (ecs en0 0 0)),.c (.agg (u8c root0)),.c (iv 0),.c (bv false)]) [] 0)\/∃(x:LEn) (d:CZ) (k nv ns:Nat),oM kdL ch b=some (x,d,k)/\x.vs.length=nv/\x.ss.length=ns/\(x.wf/\aS x.k/\x.sz)/\d.length=32/\0<k/\k<=m/\qC' 61 [.sl 1 m (u8c b),.agg (u8c ch)] (.tup [.c (.agg (ecs x nv ns)),.c (.agg (u8c d)),.c (iv k),.c (bv true)]) [] 0:=by
 obtain ⟨h,hh⟩:∃h,min m 10=h:=⟨_,rfl⟩
 have ht:b.take h=b.take 10:=by
  by_cases hc:m<=10
  ·rw [Ah aA,Ah aA]
  ·rw [show h=10 by omega]
 have hhl:(b.take h).length=h:=by rw [A1];omega
 obtain ⟨n,s',q1,q2,b',e',m',rfl,q3,q4,q5,q6⟩:=bX4 (b.take h) h hhl aA
 have hof:=rd_int.of (b.take h)
 rw [ht,bW0,<- ht,q1] at hof
 cases hp:cQ b with
 | none =>
  rw [hp] at hof
  rcases hof with ⟨x,r,h1,h2⟩|⟨h1,h2⟩
  ·cases h1
  ·exact .inl ⟨by unfold oM;rw [hp];rfl,dQ8 b m h hm hb hh ch hch e' h2 (q6 h2)⟩
 | some p =>
  obtain ⟨n0,rest⟩:=p
  obtain ⟨j,j1,j2,j3,j4⟩:=bH2 hp
  simp only at j4
  subst j4
  have hrl:(b.drop j).length=m-j:=by rw [AG,hm]
  rw [hp] at hof
  rcases hof with ⟨x,r,h1,h2⟩|⟨h1,h2⟩
  rotate_left
  ·cases h1
  rw [AN] at h1
  injection h1 with h1
  injection h1 with h1 h1'
  injection h2 with h2 h2'
  injection h2' with h2' h2''
  subst h1 h1' h2 h2' h2''
  have q5:=q5 rfl
  rw [hm,hrl] at q3 q5
  have hq:m'=min (10-j) (m-j):=by rw [<- q3,A1,hrl];omega
  have hj:h-m'=j:=by omega
  by_cases n1:n<0
  ·refine .inl ⟨?_,dQ9 b m h hm hb hh ch hch n q2 _ m' q3 j hj q4 q5 n1⟩
   unfold oM
   rw [hp,Ak]
   simp only
   rw [Af aA]
  by_cases n2:(m:Int)<j+n+32
  ·refine .inl ⟨?_,dR0 b m h hm hb hh ch hch n q2 _ m' q3 j hj q4 q5 aA aA⟩
   unfold oM
   rw [hp,Ak]
   simp only
   rw [Af (by rw [hrl];omega)]
  obtain ⟨nn,hnn⟩:∃nn:Nat,n=nn:=⟨n.toNat,by omega⟩
  have hone:oM kdL ch b=(pEn ((b.drop j).take nn)).bind fun e=>if e.2=[]/\kdL ch ((b.drop j).take nn)=(b.drop (j+nn)).take 32 then some (e.1,kdL ch ((b.drop j).take nn),j+nn+32) else none:=by
   unfold oM
   rw [hp,Ak]
   simp only
   rw [Aj (by rw [hrl];omega),show n.toNat=nn by omega,hm,hrl,BJ,show m-(m-j)=j by omega]
  have hel:((b.drop j).take nn).length=nn:=by rw [A1,hrl];omega
  obtain ⟨x,s',nv,ns,r1,hv,hs,hrt,b2,e2,m2,rfl,r3,r4,r5,r6⟩:=wV ((b.drop j).take nn) nn hel aA
  rcases rd_enP.of ((b.drop j).take nn) with ⟨y,rr,h1,h2⟩|⟨h1,h2⟩
  ·rw [r1] at h2
   injection h2 with h2 h2'
   injection h2' with h2' h2''
   subst h2 h2' h2''
   have r5:=r5 rfl
   rw [hone,h1,Ak]
   simp only
   by_cases hr:b2=[]
   ·have hm2:m2=0:=by rw [<- r3,hr];rfl
    rw [hm2] at r5
    have hky:=aI7 330#64 ch ((b.drop j).take nn) nn hch hel aA
    have hkd:sum 330#64 (ch++(b.drop j).take nn)=kdL ch ((b.drop j).take nn):=rfl
    rw [hkd] at hky
    have hkl:=mR ch ((b.drop j).take nn)
    generalize kdL ch ((b.drop j).take nn)=d at *
    by_cases hd:d=(b.drop (j+nn)).take 32
    ·rw [Aj ⟨hr,hd⟩]
     obtain ⟨w1,w2,w3⟩:=bV4 h1
     exact .inr ⟨x,d,j+nn+32,nv,ns,rfl,hv,hs,⟨w1,⟨by have:(1:Int)<=x.k:=w2.1;omega,by have:x.k<=7:=w2.2;omega⟩,w3⟩,hkl,by omega,by omega,dR4 b m h hm hb hh ch hch n q2 _ m' q3 j hj q4 q5 nn hnn aA _ (cS hrt nv ns) _ r5 d hkl hky _ rfl hd⟩
    ·rw [Af (fun h=>hd h.2)]
     exact .inl ⟨rfl,dR3 b m h hm hb hh ch hch n q2 _ m' q3 j hj q4 q5 nn hnn aA _ (cS hrt nv ns) _ r5 d hkl hky hd⟩
   ·rw [Af (fun h=>hr h.1)]
    exact .inl ⟨rfl,dR2 b m h hm hb hh ch hch n q2 _ m' q3 j hj q4 q5 nn hnn aA _ (cS hrt nv ns) m2 (by rw [<- r3];exact List.length_pos_iff.2 hr) _ r5⟩
  ·rw [r1] at h2
   refine .inl ⟨by rw [hone,h1];rfl,dR1 b m h hm hb hh ch hch n q2 _ m' q3 j hj q4 q5 nn hnn aA e2 h2 (r6 h2)⟩
attribute [local irreducible] Still Adds AWL AW Drw bN bP AC AWR cM Frz Go.Av.Src dB Out InK ItK AsK RdK eA dZ ACT ACA eL bC3 lec
end
end Go.Proofs.YtbgehdndimlgkaaGreat
namespace Go.Av
open Go Go.RowKit
variable {P:Di} {sz n:Nat} {env:Env} {h:aL} {dfs:bM} {K:AK}
theorem bJ1 {P:Di} {Q:Exit->Act->World->Prop} {a:Act} {w:World} {c:Code} (h:wpG P c (Exit.noGoto Q) a w):wpG P (.scope c) Q a w:=fun rd hr=>by
 rcases hr with rfl|hr
 ·exact wpIn_wide.2 (wp_scope_straight (wpIn_wide.1 (h none (.inl rfl))))
 ·cases hr
theorem bJ0 {P:Di} {Q:Exit->Act->World->Prop} {a:Act} {w:World} {l:Nat} (h:Q .normal a w):wpG P (.label l) Q a w:=fun rd hr=>by
 rcases hr with rfl|hr
 ·exact wpIn_wide.2 (wp_label h)
 ·cases hr
theorem nM {l:Nat} (hk:K .normal n env h dfs):AW P sz (.label l) K n env h dfs:=fun B a w hc=>bJ0 ⟨n,env,h,dfs,hk,hc⟩
theorem lT {c:Code} (hx:∀K':AK,(∀n env h dfs,K .normal n env h dfs->K' .normal n env h dfs)->(∀e n env h dfs,(e ≠ .normal/\∀l,e ≠ .goto l)->K e n env h dfs->K' e n env h dfs)->AW P sz c K' n env h dfs):AW P sz (.scope c) K n env h dfs:=by
 intro B a w hc
 refine bJ1 (mK (hx (fun e n env h dfs=>(∀l,e ≠ .goto l)/\K e n env h dfs) (fun n env h dfs hk=>⟨fun l hl=>(by cases hl),hk⟩) (fun e n env h dfs he hk=>⟨he.2,hk⟩) B a w hc) fun e a w hq=>?_)
 obtain ⟨n',env',h',d',⟨hg,hk⟩,hc'⟩:=hq
 cases e with
 | goto l=>exact absurd rfl (hg l)
 | normal=>exact ⟨n',env',h',d',hk,hc'⟩
 | exit id=>exact ⟨n',env',h',d',hk,hc'⟩
 | ret=>exact ⟨n',env',h',d',hk,hc'⟩
 | panic ch=>exact ⟨n',env',h',d',hk,hc'⟩
 | outgrown=>exact ⟨n',env',h',d',hk,hc'⟩
end Go.Av
