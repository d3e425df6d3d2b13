/- Lemmas for laws of the ledger. -/
import Derived.Scope
import Derived.Control
import Derived.Test.YtbgehdndimlgkaaGreatS20
import Derived.Test.YtbgehdndimlgkaaGreatS32
import Derived.Test.YtbgehdndimlgkaaGreatS33
set_option linter.all false
namespace Go.Proofs.YtbgehdndimlgkaaGreat
open Go Go.RowKit Go.Av
set_option maxRecDepth 100000
section
attribute [local irreducible] Still Adds AWL AW Drw bX bY AC AWR cU Frz Go.Av.Src cQ Out InK ItK AsK RdK eP eI ACT ACA eW ACG fL lec
def eW0 (l:List LEn) (q:Nat):Prop:=∀e,l[q]? = some e->Fol (l.take q) e
theorem cV0 {l:List LEn} (hl:l.length<=1000) (h:OkL l):(Tl.of l).wf/\(Tl.of l).vs.length<=1000000/\(Tl.of l).ss.length<=1000000:=by
 have R:=bJ6 l
 have hc:∀k,nV l k<=1000:=fun k=>by
  unfold nV
  have:=BK (fun e:LEn=>decide (e.k=k)) l
  omega
 refine ⟨⟨?_,?_,?_,fun p hp=>?_,fun v hv=>yF h v ((R.vs.2 v).1 hv),fun v hv=>aL9 h v ((R.ss.2 v).1 hv)⟩,?_,?_⟩
 ·by_cases hn:l=[]
  ·subst hn
   exact aW8
  ·obtain ⟨x,hx⟩:∃x,l.getLast? = some x:=⟨_,CL hn⟩
   rw [R.day x hx]
   exact (h x (List.mem_of_getLast? hx)).1.h1.1
 ·have:=hc 2
  rw [R.er];omega
 ·have:=hc 5
  rw [R.sg];omega
 ·obtain ⟨p1,p2⟩:=p
  obtain ⟨x,hx,_,e1,e2⟩:=(R.st p1 p2).1 hp
  have:=(h x hx).1.h1
  simp only
  rw [<- e1,<- e2]
  exact this.2
 ·have h1:=mC slo_V R.vs.1 R.vs.2
  have h2:=kX (lt:=ltV) (iY l)
  have h3:=tP h
  omega
 ·have h1:=mC slo_S R.ss.1 R.ss.2
  have h2:=kX (lt:=ltS) (lO l)
  have h3:=aL8 h
  omega
end
section
theorem bP3:∀{b:Dm} {i x:Nat} {p:Nat × Dm},i<=9->pU i x b=some p->∃j,j<=10-i/\j<=b.length/\0<j/\p.2=b.drop j
 | [],i,x,p,_,h=>by rw [pU] at h;cases h
 | c::b,i,x,p,hi,h=>by
  rw [pU] at h
  by_cases hn:(i=9/\1<c.toNat)\/(0<i/\c.toNat=0)
  ·rw [Ak hn] at h;cases h
  ·rw [Aj hn] at h
   by_cases hc:c.toNat<128
   ·rw [Ak hc] at h
    injection h with h
    exact ⟨1,by omega,by simp,by decide,by rw [<- h];rfl⟩
   ·rw [Aj hc] at h
    obtain ⟨j,j1,j2,j3,j4⟩:=bP3 aA h
    exact ⟨j+1,by omega,by simp;omega,by omega,by rw [j4];rfl⟩
theorem bW8 {b:Dm} {p:Int × Dm} (h:dH b=some p):∃j,j<=10/\j<=b.length/\0<j/\p.2=b.drop j:=by
 unfold dH at h
 obtain ⟨q,hq,rfl⟩:=Ap.1 h
 exact bP3 aN hq
theorem cO6 (b:Dm):dH (b.take 10)=(dH b).map fun p=>(p.1,p.2.take (10-(b.length-p.2.length))):=by
 unfold dH
 rw [cO9 b 0 0 10 rfl aN,Option.map_map,Option.map_map]
 rfl
theorem kU (ch b:Dm):(kdL ch b).length=32:=by unfold kdL;exact tK _ _
theorem aW7 (b:Dm) (m:Nat) (hm:b.length=m) (hb:m<=100000000) (ch:Dm) (hch:ch.length=32):(kD kdL ch b=none/\qC' 61 [.sl 1 m (u8c b),.agg (u8c ch)] (.tup [.c (.agg (ecs en0 0 0)),.c (.agg (u8c root0)),.c (iv 0),.c (bv false)]) [] 0)\/∃(x:LEn) (d:Dm) (k nv ns:Nat),kD kdL ch b=some (x,d,k)/\x.vs.length=nv/\x.ss.length=ns/\(x.wf/\aT x.k/\x.sz)/\d.length=32/\0<k/\k<=m/\qC' 61 [.sl 1 m (u8c b),.agg (u8c ch)] (.tup [.c (.agg (ecs x nv ns)),.c (.agg (u8c d)),.c (iv k),.c (bv true)]) [] 0:=by
 obtain ⟨h,hh⟩:∃h,min m 10=h:=⟨_,rfl⟩
 have ht:b.take h=b.take 10:=by
  by_cases hc:m<=10
  ·rw [Ad aA,Ad aA]
  ·rw [show h=10 by omega]
 have hhl:(b.take h).length=h:=by rw [As];omega
 obtain ⟨n,s',q1,q2,b',e',m',rfl,q3,q4,q5,q6⟩:=cQ5 (b.take h) h hhl aA
 have hof:=rd_int.of (b.take h)
 rw [ht,cO6,<- ht,q1] at hof
 cases hp:dH b with
 | none =>
  rw [hp] at hof
  rcases hof with ⟨x,r,h1,h2⟩|⟨h1,h2⟩
  ·cases h1
  ·exact .inl ⟨by unfold kD;rw [hp];rfl,eR7 b m h hm hb hh ch hch e' h2 (q6 h2)⟩
 | some p =>
  obtain ⟨n0,rest⟩:=p
  obtain ⟨j,j1,j2,j3,j4⟩:=bW8 hp
  simp only at j4
  subst j4
  have hrl:(b.drop j).length=m-j:=by rw [A0,hm]
  rw [hp] at hof
  rcases hof with ⟨x,r,h1,h2⟩|⟨h1,h2⟩
  rotate_left
  ·cases h1
  rw [Bh] at h1
  injection h1 with h1
  injection h1 with h1 h1'
  injection h2 with h2 h2'
  injection h2' with h2' h2''
  subst h1 h1' h2 h2' h2''
  have q5:=q5 rfl
  rw [hm,hrl] at q3 q5
  have hq:m'=min (10-j) (m-j):=by rw [<- q3,As,hrl];omega
  have hj:h-m'=j:=by omega
  by_cases n1:n<0
  ·refine .inl ⟨?_,eR8 b m h hm hb hh ch hch n q2 _ m' q3 j hj q4 q5 n1⟩
   unfold kD
   rw [hp,Al]
   simp only
   rw [Aj aA]
  by_cases n2:(m:Int)<j+n+32
  ·refine .inl ⟨?_,eR9 b m h hm hb hh ch hch n q2 _ m' q3 j hj q4 q5 aA aA⟩
   unfold kD
   rw [hp,Al]
   simp only
   rw [Aj (by rw [hrl];omega)]
  obtain ⟨nn,hnn⟩:∃nn:Nat,n=nn:=⟨n.toNat,by omega⟩
  have hone:kD kdL ch b=(pEn ((b.drop j).take nn)).bind fun e=>if e.2=[]/\kdL ch ((b.drop j).take nn)=(b.drop (j+nn)).take 32 then some (e.1,kdL ch ((b.drop j).take nn),j+nn+32) else none:=by
   unfold kD
   rw [hp,Al]
   simp only
   rw [Ak (by rw [hrl];omega),show n.toNat=nn by omega,hm,hrl,BR,show m-(m-j)=j by omega]
  have hel:((b.drop j).take nn).length=nn:=by rw [As,hrl];omega
  obtain ⟨x,s',nv,ns,r1,hv,hs,hrt,b2,e2,m2,rfl,r3,r4,r5,r6⟩:=aD4 ((b.drop j).take nn) nn hel aA
  rcases rd_enP.of ((b.drop j).take nn) with ⟨y,rr,h1,h2⟩|⟨h1,h2⟩
  ·rw [r1] at h2
   injection h2 with h2 h2'
   injection h2' with h2' h2''
   subst h2 h2' h2''
   have r5:=r5 rfl
   rw [hone,h1,Al]
   simp only
   by_cases hr:b2=[]
   ·have hm2:m2=0:=by rw [<- r3,hr];rfl
    rw [hm2] at r5
    have hky:=aX0 330#64 ch ((b.drop j).take nn) nn hch hel aA
    have hkd:sum 330#64 (ch++(b.drop j).take nn)=kdL ch ((b.drop j).take nn):=rfl
    rw [hkd] at hky
    have hkl:=kU ch ((b.drop j).take nn)
    generalize kdL ch ((b.drop j).take nn)=d at *
    by_cases hd:d=(b.drop (j+nn)).take 32
    ·rw [Ak ⟨hr,hd⟩]
     obtain ⟨w1,w2,w3⟩:=cO0 h1
     exact .inr ⟨x,d,j+nn+32,nv,ns,rfl,hv,hs,⟨w1,⟨by have:(1:Int)<=x.k:=w2.1;omega,by have:x.k<=7:=w2.2;omega⟩,w3⟩,hkl,by omega,by omega,eS3 b m h hm hb hh ch hch n q2 _ m' q3 j hj q4 q5 nn hnn aA _ (cK hrt nv ns) _ r5 d hkl hky _ rfl hd⟩
    ·rw [Aj (fun h=>hd h.2)]
     exact .inl ⟨rfl,eS2 b m h hm hb hh ch hch n q2 _ m' q3 j hj q4 q5 nn hnn aA _ (cK hrt nv ns) _ r5 d hkl hky hd⟩
   ·rw [Aj (fun h=>hr h.1)]
    exact .inl ⟨rfl,eS1 b m h hm hb hh ch hch n q2 _ m' q3 j hj q4 q5 nn hnn aA _ (cK hrt nv ns) m2 (by rw [<- r3];exact List.length_pos_iff.2 hr) _ r5⟩
  ·rw [r1] at h2
   refine .inl ⟨by rw [hone,h1];rfl,eS0 b m h hm hb hh ch hch n q2 _ m' q3 j hj q4 q5 nn hnn aA e2 h2 (r6 h2)⟩
attribute [local irreducible] Still Adds AWL AW Drw bX bY AC AWR cU Frz Go.Av.Src cQ Out InK ItK AsK RdK eP eI ACT ACA eW aS3 lec
end
end Go.Proofs.YtbgehdndimlgkaaGreat
namespace Go.Av
open Go Go.RowKit
variable {P:Dv} {sz n:Nat} {env:Env} {h:aO} {dfs:cD} {K:AK}
theorem cA5 {P:Dv} {Q:Exit->Act->World->Prop} {a:Act} {w:World} {c:Code} (h:wpG P c (Exit.noGoto Q) a w):wpG P (.scope c) Q a w:=fun rd hr=>by
 rcases hr with rfl|hr
 ·exact wpIn_wide.2 (wp_scope_straight (wpIn_wide.1 (h none (.inl rfl))))
 ·cases hr
theorem cA4 {P:Dv} {Q:Exit->Act->World->Prop} {a:Act} {w:World} {l:Nat} (h:Q .normal a w):wpG P (.label l) Q a w:=fun rd hr=>by
 rcases hr with rfl|hr
 ·exact wpIn_wide.2 (wp_label h)
 ·cases hr
theorem qD {l:Nat} (hk:K .normal n env h dfs):AW P sz (.label l) K n env h dfs:=fun B a w hc=>cA4 ⟨n,env,h,dfs,hk,hc⟩
theorem nQ {c:Code} (hx:∀K':AK,(∀n env h dfs,K .normal n env h dfs->K' .normal n env h dfs)->(∀e n env h dfs,(e ≠ .normal/\∀l,e ≠ .goto l)->K e n env h dfs->K' e n env h dfs)->AW P sz c K' n env h dfs):AW P sz (.scope c) K n env h dfs:=by
 intro B a w hc
 refine cA5 (oP (hx (fun e n env h dfs=>(∀l,e ≠ .goto l)/\K e n env h dfs) (fun n env h dfs hk=>⟨fun l hl=>(by cases hl),hk⟩) (fun e n env h dfs he hk=>⟨he.2,hk⟩) B a w hc) fun e a w hq=>?_)
 obtain ⟨n',env',h',d',⟨hg,hk⟩,hc'⟩:=hq
 cases e with
 | goto l=>exact absurd rfl (hg l)
 | normal=>exact ⟨n',env',h',d',hk,hc'⟩
 | exit id=>exact ⟨n',env',h',d',hk,hc'⟩
 | ret=>exact ⟨n',env',h',d',hk,hc'⟩
 | panic ch=>exact ⟨n',env',h',d',hk,hc'⟩
 | outgrown=>exact ⟨n',env',h',d',hk,hc'⟩
end Go.Av
