/- Lemmas for laws of the ledger. -/
import Derived.Scope
import Derived.Control
import Derived.Test.YtbgehdndimlgkaaGreatR20
import Derived.Test.YtbgehdndimlgkaaGreatR32
import Derived.Test.YtbgehdndimlgkaaGreatR33
set_option linter.all false
namespace Go.Proofs.YtbgehdndimlgkaaGreat
open Go Go.RowKit Go.Av
set_option maxRecDepth 100000
section
attribute [local irreducible] Still Adds AWL AW Drw bQ bT AC AWR cO Frz Go.Av.Src dF Out InK ItK AsK RdK eI eG ACT ACA fD ACG fJ lec
def eF1 (l:List LEn) (q:Nat):Prop:=∀e,l[q]? = some e->Fol (l.take q) e
theorem cK3 {l:List LEn} (hl:l.length<=1000) (h:OkL l):(Tl.of l).wf/\(Tl.of l).vs.length<=1000000/\(Tl.of l).ss.length<=1000000:=by
 have R:=aK2 l
 have hc:∀k,oB l k<=1000:=fun k=>by
  unfold oB
  have:=Bf (fun e:LEn=>decide (e.k=k)) l
  omega
 refine ⟨⟨?_,?_,?_,fun p hp=>?_,fun v hv=>vQ h v ((R.vs.2 v).1 hv),fun v hv=>vP h v ((R.ss.2 v).1 hv)⟩,?_,?_⟩
 ·by_cases hn:l=[]
  ·subst hn
   exact aO3
  ·obtain ⟨x,hx⟩:∃x,l.getLast? = some x:=⟨_,C7 hn⟩
   rw [R.day x hx]
   exact (h x (List.mem_of_getLast? hx)).1.h1.1
 ·have:=hc 2
  rw [R.er];omega
 ·have:=hc 5
  rw [R.sg];omega
 ·obtain ⟨p1,p2⟩:=p
  obtain ⟨x,hx,_,e1,e2⟩:=(R.st p1 p2).1 hp
  have:=(h x hx).1.h1
  simp only
  rw [<- e1,<- e2]
  exact this.2
 ·have h1:=lE slo_V R.vs.1 R.vs.2
  have h2:=kB (lt:=ltV) (iL l)
  have h3:=rM h
  omega
 ·have h1:=lE slo_S R.ss.1 R.ss.2
  have h2:=kB (lt:=ltS) (iP l)
  have h3:=rL h
  omega
end
section
theorem bG5:∀{b:Db} {i x:Nat} {p:Nat × Db},i<=9->pU i x b=some p->∃j,j<=10-i/\j<=b.length/\0<j/\p.2=b.drop j
 | [],i,x,p,_,h=>by rw [pU] at h;cases h
 | c::b,i,x,p,hi,h=>by
  rw [pU] at h
  by_cases hn:(i=9/\1<c.toNat)\/(0<i/\c.toNat=0)
  ·rw [Al hn] at h;cases h
  ·rw [Ak hn] at h
   by_cases hc:c.toNat<128
   ·rw [Al hc] at h
    injection h with h
    exact ⟨1,by omega,by simp,by decide,by rw [<- h];rfl⟩
   ·rw [Ak hc] at h
    obtain ⟨j,j1,j2,j3,j4⟩:=bG5 aA h
    exact ⟨j+1,by omega,by simp;omega,by omega,by rw [j4];rfl⟩
theorem bN7 {b:Db} {p:Int × Db} (h:cX b=some p):∃j,j<=10/\j<=b.length/\0<j/\p.2=b.drop j:=by
 unfold cX at h
 obtain ⟨q,hq,rfl⟩:=Au.1 h
 exact bG5 aP hq
theorem cE9 (b:Db):cX (b.take 10)=(cX b).map fun p=>(p.1,p.2.take (10-(b.length-p.2.length))):=by
 unfold cX
 rw [cF3 b 0 0 10 rfl aP,Option.map_map,Option.map_map]
 rfl
theorem sL (ch b:Db):(kdL ch b).length=32:=by unfold kdL;exact zT _ _
theorem aO2 (b:Db) (m:Nat) (hm:b.length=m) (hb:m<=100000000) (ch:Db) (hch:ch.length=32):(pE kdL ch b=none/\qC' 61 [.sl 1 m (u8c b),.agg (u8c ch)] (.tup [.c (.agg (ecs en0 0 0)),.c (.agg (u8c root0)),.c (iv 0),.c (bv false)]) [] 0)\/∃(x:LEn) (d:Db) (k nv ns:Nat),pE kdL ch b=some (x,d,k)/\x.vs.length=nv/\x.ss.length=ns/\(x.wf/\aS x.k/\x.sz)/\d.length=32/\0<k/\k<=m/\qC' 61 [.sl 1 m (u8c b),.agg (u8c ch)] (.tup [.c (.agg (ecs x nv ns)),.c (.agg (u8c d)),.c (iv k),.c (bv true)]) [] 0:=by
 obtain ⟨h,hh⟩:∃h,min m 10=h:=⟨_,rfl⟩
 have ht:b.take h=b.take 10:=by
  by_cases hc:m<=10
  ·rw [Af aA,Af aA]
  ·rw [show h=10 by omega]
 have hhl:(b.take h).length=h:=by rw [Ao];omega
 obtain ⟨n,s',q1,q2,b',e',m',rfl,q3,q4,q5,q6⟩:=cG4 (b.take h) h hhl aA
 have hof:=rd_int.of (b.take h)
 rw [ht,cE9,<- ht,q1] at hof
 cases hp:cX b with
 | none =>
  rw [hp] at hof
  rcases hof with ⟨x,r,h1,h2⟩|⟨h1,h2⟩
  ·cases h1
  ·exact .inl ⟨by unfold pE;rw [hp];rfl,eB7 b m h hm hb hh ch hch e' h2 (q6 h2)⟩
 | some p =>
  obtain ⟨n0,rest⟩:=p
  obtain ⟨j,j1,j2,j3,j4⟩:=bN7 hp
  simp only at j4
  subst j4
  have hrl:(b.drop j).length=m-j:=by rw [A4,hm]
  rw [hp] at hof
  rcases hof with ⟨x,r,h1,h2⟩|⟨h1,h2⟩
  rotate_left
  ·cases h1
  rw [AR] at h1
  injection h1 with h1
  injection h1 with h1 h1'
  injection h2 with h2 h2'
  injection h2' with h2' h2''
  subst h1 h1' h2 h2' h2''
  have q5:=q5 rfl
  rw [hm,hrl] at q3 q5
  have hq:m'=min (10-j) (m-j):=by rw [<- q3,Ao,hrl];omega
  have hj:h-m'=j:=by omega
  by_cases n1:n<0
  ·refine .inl ⟨?_,eB8 b m h hm hb hh ch hch n q2 _ m' q3 j hj q4 q5 n1⟩
   unfold pE
   rw [hp,Ap]
   simp only
   rw [Ak aA]
  by_cases n2:(m:Int)<j+n+32
  ·refine .inl ⟨?_,eB9 b m h hm hb hh ch hch n q2 _ m' q3 j hj q4 q5 aA aA⟩
   unfold pE
   rw [hp,Ap]
   simp only
   rw [Ak (by rw [hrl];omega)]
  obtain ⟨nn,hnn⟩:∃nn:Nat,n=nn:=⟨n.toNat,by omega⟩
  have hone:pE kdL ch b=(pEn ((b.drop j).take nn)).bind fun e=>if e.2=[]/\kdL ch ((b.drop j).take nn)=(b.drop (j+nn)).take 32 then some (e.1,kdL ch ((b.drop j).take nn),j+nn+32) else none:=by
   unfold pE
   rw [hp,Ap]
   simp only
   rw [Al (by rw [hrl];omega),show n.toNat=nn by omega,hm,hrl,BC,show m-(m-j)=j by omega]
  have hel:((b.drop j).take nn).length=nn:=by rw [Ao,hrl];omega
  obtain ⟨x,s',nv,ns,r1,hv,hs,hrt,b2,e2,m2,rfl,r3,r4,r5,r6⟩:=yV ((b.drop j).take nn) nn hel aA
  rcases rd_enP.of ((b.drop j).take nn) with ⟨y,rr,h1,h2⟩|⟨h1,h2⟩
  ·rw [r1] at h2
   injection h2 with h2 h2'
   injection h2' with h2' h2''
   subst h2 h2' h2''
   have r5:=r5 rfl
   rw [hone,h1,Ap]
   simp only
   by_cases hr:b2=[]
   ·have hm2:m2=0:=by rw [<- r3,hr];rfl
    rw [hm2] at r5
    have hky:=aO6 330#64 ch ((b.drop j).take nn) nn hch hel aA
    have hkd:sum 330#64 (ch++(b.drop j).take nn)=kdL ch ((b.drop j).take nn):=rfl
    rw [hkd] at hky
    have hkl:=sL ch ((b.drop j).take nn)
    generalize kdL ch ((b.drop j).take nn)=d at *
    by_cases hd:d=(b.drop (j+nn)).take 32
    ·rw [Al ⟨hr,hd⟩]
     obtain ⟨w1,w2,w3⟩:=dH5 h1
     exact .inr ⟨x,d,j+nn+32,nv,ns,rfl,hv,hs,⟨w1,⟨by have:(1:Int)<=x.k:=w2.1;omega,by have:x.k<=7:=w2.2;omega⟩,w3⟩,hkl,by omega,by omega,eC3 b m h hm hb hh ch hch n q2 _ m' q3 j hj q4 q5 nn hnn aA _ (dB hrt nv ns) _ r5 d hkl hky _ rfl hd⟩
    ·rw [Ak (fun h=>hd h.2)]
     exact .inl ⟨rfl,eC2 b m h hm hb hh ch hch n q2 _ m' q3 j hj q4 q5 nn hnn aA _ (dB hrt nv ns) _ r5 d hkl hky hd⟩
   ·rw [Ak (fun h=>hr h.1)]
    exact .inl ⟨rfl,eC1 b m h hm hb hh ch hch n q2 _ m' q3 j hj q4 q5 nn hnn aA _ (dB hrt nv ns) m2 (by rw [<- r3];exact List.length_pos_iff.2 hr) _ r5⟩
  ·rw [r1] at h2
   refine .inl ⟨by rw [hone,h1];rfl,eC0 b m h hm hb hh ch hch n q2 _ m' q3 j hj q4 q5 nn hnn aA e2 h2 (r6 h2)⟩
attribute [local irreducible] Still Adds AWL AW Drw bQ bT AC AWR cO Frz Go.Av.Src dF Out InK ItK AsK RdK eI eG ACT ACA fD bI9 lec
end
end Go.Proofs.YtbgehdndimlgkaaGreat
namespace Go.Av
open Go Go.RowKit
variable {P:Dl} {sz n:Nat} {env:Env} {h:aO} {dfs:cA} {K:AK}
theorem bQ2 {P:Dl} {Q:Exit->Act->World->Prop} {a:Act} {w:World} {c:Code} (h:wpG P c (Exit.noGoto Q) a w):wpG P (.scope c) Q a w:=fun rd hr=>by
 rcases hr with rfl|hr
 ·exact wpIn_wide.2 (wp_scope_straight (wpIn_wide.1 (h none (.inl rfl))))
 ·cases hr
theorem bQ1 {P:Dl} {Q:Exit->Act->World->Prop} {a:Act} {w:World} {l:Nat} (h:Q .normal a w):wpG P (.label l) Q a w:=fun rd hr=>by
 rcases hr with rfl|hr
 ·exact wpIn_wide.2 (wp_label h)
 ·cases hr
theorem oF {l:Nat} (hk:K .normal n env h dfs):AW P sz (.label l) K n env h dfs:=fun B a w hc=>bQ1 ⟨n,env,h,dfs,hk,hc⟩
theorem mP {c:Code} (hx:∀K':AK,(∀n env h dfs,K .normal n env h dfs->K' .normal n env h dfs)->(∀e n env h dfs,(e ≠ .normal/\∀l,e ≠ .goto l)->K e n env h dfs->K' e n env h dfs)->AW P sz c K' n env h dfs):AW P sz (.scope c) K n env h dfs:=by
 intro B a w hc
 refine bQ2 (nH (hx (fun e n env h dfs=>(∀l,e ≠ .goto l)/\K e n env h dfs) (fun n env h dfs hk=>⟨fun l hl=>(by cases hl),hk⟩) (fun e n env h dfs he hk=>⟨he.2,hk⟩) B a w hc) fun e a w hq=>?_)
 obtain ⟨n',env',h',d',⟨hg,hk⟩,hc'⟩:=hq
 cases e with
 | goto l=>exact absurd rfl (hg l)
 | normal=>exact ⟨n',env',h',d',hk,hc'⟩
 | exit id=>exact ⟨n',env',h',d',hk,hc'⟩
 | ret=>exact ⟨n',env',h',d',hk,hc'⟩
 | panic ch=>exact ⟨n',env',h',d',hk,hc'⟩
 | outgrown=>exact ⟨n',env',h',d',hk,hc'⟩
end Go.Av
