/-
  Lemmas for laws of the ledger; no statement of a law.
-/
import Derived.Scope
import Derived.Control
import Derived.Test.YtbgehdndimlgkaaGreatQ20
import Derived.Test.YtbgehdndimlgkaaGreatQ32
import Derived.Test.YtbgehdndimlgkaaGreatQ33
set_option linter.unusedSimpArgs false
set_option linter.unusedVariables false
namespace Go.Proofs.YtbgehdndimlgkaaGreat
open Go Go.RowKit Go.Av
set_option maxRecDepth 100000
attribute [local irreducible] Still Adds AWL AW Drw bT bW AC AWR cL Frz Go.Av.Src dC Out InK ItK AsK RdK eI eE ACT ACA eL ACG fE lec
def eJ5 (l:List LEn) (q:Nat):Prop:=∀e,l[q]? = some e→Fol (l.take q) e
theorem cO3 {l:List LEn} (hl:l.length≤1000) (h:OkL l):(Tl.of l).wf∧(Tl.of l).vs.length≤1000000∧(Tl.of l).ss.length≤1000000:=by
 have R:=bC4 l
 have hc:∀k,aA7 l k≤1000:=fun k=>by
  unfold aA7
  have:=List.length_filter_le (fun e:LEn=>decide (e.k=k)) l
  omega
 refine ⟨⟨?_,?_,?_,fun p hp=>?_,fun v hv=>bD2 h v ((R.vs.2 v).1 hv),fun v hv=>cQ9 h v ((R.ss.2 v).1 hv)⟩,?_,?_⟩
 ·by_cases hn:l=[]
  ·subst hn
   exact aQ2
  ·obtain ⟨x,hx⟩:∃x,l.getLast? = some x:=⟨_,List.getLast?_eq_some_getLast hn⟩
   rw [R.day x hx]
   exact (h x (List.mem_of_getLast? hx)).1.h1.1
 ·have:=hc 2
  rw [R.er];omega
 ·have:=hc 5
  rw [R.sg];omega
 ·obtain ⟨p1,p2⟩:=p
  obtain ⟨x,hx,_,e1,e2⟩:=(R.st p1 p2).1 hp
  have:=(h x hx).1.h1
  simp only
  rw [← e1,← e2]
  exact this.2
 ·have h1:=lQ slo_V R.vs.1 R.vs.2
  have h2:=aM3 (lt:=ltV) (kN l)
  have h3:=aG5 h
  omega
 ·have h1:=lQ cN7 R.ss.1 R.ss.2
  have h2:=aM3 (lt:=ltS) (rM l)
  have h3:=cQ8 h
  omega
end Go.Proofs.YtbgehdndimlgkaaGreat
namespace Go.Proofs.YtbgehdndimlgkaaGreat
open Go Go.RowKit Go.Av
set_option maxRecDepth 100000
theorem bI7:∀{b:List UInt8} {i x:Nat} {p:Nat × List UInt8},i≤9→pU i x b=some p→∃j,j≤10-i∧j≤b.length∧0<j∧p.2=b.drop j
 | [],i,x,p,_,h=>by rw [pU] at h;cases h
 | c::b,i,x,p,hi,h=>by
  rw [pU] at h
  by_cases hn:(i=9∧1<c.toNat)∨(0<i∧c.toNat=0)
  ·rw [if_pos hn] at h;cases h
  ·rw [if_neg hn] at h
   by_cases hc:c.toNat<128
   ·rw [if_pos hc] at h
    injection h with h
    exact ⟨1,by omega,by simp,by decide,by rw [← h];rfl⟩
   ·rw [if_neg hc] at h
    obtain ⟨j,j1,j2,j3,j4⟩:=bI7 aA h
    exact ⟨j+1,by omega,by simp;omega,by omega,by rw [j4];rfl⟩
theorem bQ7 {b:List UInt8} {p:Int × List UInt8} (h:cP b=some p):∃j,j≤10∧j≤b.length∧0<j∧p.2=b.drop j:=by
 unfold cP at h
 obtain ⟨q,hq,rfl⟩:=Option.map_eq_some_iff.1 h
 exact bI7 aN hq
theorem cI5 (b:List UInt8):cP (b.take 10)=(cP b).map fun p=>(p.1,p.2.take (10-(b.length-p.2.length))):=by
 unfold cP
 rw [cI8 b 0 0 10 rfl aN,Option.map_map,Option.map_map]
 rfl
theorem gI (ch b:List UInt8):(kdL ch b).length=32:=by unfold kdL;exact sL _ _
theorem aP8 (b:List UInt8) (m:Nat) (hm:b.length=m) (hb:m≤100000000) (ch:List UInt8) (hch:ch.length=32):(iB kdL ch b=none∧AC Tryz.prog 61 [.sl 1 m (u8c b),.agg (u8c ch)] (.tup [.c (.agg (ecs en0 0 0)),.c (.agg (u8c root0)),.c (iv 0),.c (bv false)]) [] 0)∨∃(x:LEn) (d:List UInt8) (k nv ns:Nat),iB kdL ch b=some (x,d,k)∧x.vs.length=nv∧x.ss.length=ns∧(x.wf∧aQ x.k∧x.sz)∧d.length=32∧0<k∧k≤m∧AC Tryz.prog 61 [.sl 1 m (u8c b),.agg (u8c ch)] (.tup [.c (.agg (ecs x nv ns)),.c (.agg (u8c d)),.c (iv k),.c (bv true)]) [] 0:=by
 obtain ⟨h,hh⟩:∃h,min m 10=h:=⟨_,rfl⟩
 have ht:b.take h=b.take 10:=by
  by_cases hc:m≤10
  ·rw [List.take_of_length_le aA,List.take_of_length_le aA]
  ·rw [show h=10 by omega]
 have hhl:(b.take h).length=h:=by rw [List.length_take];omega
 obtain ⟨n,s',q1,q2,b',e',m',rfl,q3,q4,q5,q6⟩:=cK3 (b.take h) h hhl aA
 have hof:=rd_int.of (b.take h)
 rw [ht,cI5,← ht,q1] at hof
 cases hp:cP b with
 | none =>
  rw [hp] at hof
  rcases hof with ⟨x,r,h1,h2⟩|⟨h1,h2⟩
  ·cases h1
  ·exact .inl ⟨by unfold iB;rw [hp];rfl,eG4 b m h hm hb hh ch hch e' h2 (q6 h2)⟩
 | some p =>
  obtain ⟨n0,rest⟩:=p
  obtain ⟨j,j1,j2,j3,j4⟩:=bQ7 hp
  simp only at j4
  subst j4
  have hrl:(b.drop j).length=m-j:=by rw [List.length_drop,hm]
  rw [hp] at hof
  rcases hof with ⟨x,r,h1,h2⟩|⟨h1,h2⟩
  rotate_left
  ·cases h1
  rw [Option.map_some] at h1
  injection h1 with h1
  injection h1 with h1 h1'
  injection h2 with h2 h2'
  injection h2' with h2' h2''
  subst h1 h1' h2 h2' h2''
  have q5:=q5 rfl
  rw [hm,hrl] at q3 q5
  have hq:m'=min (10-j) (m-j):=by rw [← q3,List.length_take,hrl];omega
  have hj:h-m'=j:=by omega
  by_cases n1:n<0
  ·refine .inl ⟨?_,eG5 b m h hm hb hh ch hch n q2 _ m' q3 j hj q4 q5 n1⟩
   unfold iB
   rw [hp,Option.bind_some]
   simp only
   rw [if_neg aA]
  by_cases n2:(m:Int)<j+n+32
  ·refine .inl ⟨?_,eG6 b m h hm hb hh ch hch n q2 _ m' q3 j hj q4 q5 aA aA⟩
   unfold iB
   rw [hp,Option.bind_some]
   simp only
   rw [if_neg (by rw [hrl];omega)]
  obtain ⟨nn,hnn⟩:∃nn:Nat,n=nn:=⟨n.toNat,by omega⟩
  have hone:iB kdL ch b=(pEn ((b.drop j).take nn)).bind fun e=>if e.2=[]∧kdL ch ((b.drop j).take nn)=(b.drop (j+nn)).take 32 then some (e.1,kdL ch ((b.drop j).take nn),j+nn+32) else none:=by
   unfold iB
   rw [hp,Option.bind_some]
   simp only
   rw [if_pos (by rw [hrl];omega),show n.toNat=nn by omega,hm,hrl,List.drop_drop,show m-(m-j)=j by omega]
  have hel:((b.drop j).take nn).length=nn:=by rw [List.length_take,hrl];omega
  obtain ⟨x,s',nv,ns,r1,hv,hs,hrt,b2,e2,m2,rfl,r3,r4,r5,r6⟩:=zH ((b.drop j).take nn) nn hel aA
  rcases rd_enP.of ((b.drop j).take nn) with ⟨y,rr,h1,h2⟩|⟨h1,h2⟩
  ·rw [r1] at h2
   injection h2 with h2 h2'
   injection h2' with h2' h2''
   subst h2 h2' h2''
   have r5:=r5 rfl
   rw [hone,h1,Option.bind_some]
   simp only
   by_cases hr:b2=[]
   ·have hm2:m2=0:=by rw [← r3,hr];rfl
    rw [hm2] at r5
    have hky:=aQ5 330#64 ch ((b.drop j).take nn) nn hch hel aA
    have hkd:sum 330#64 (ch++(b.drop j).take nn)=kdL ch ((b.drop j).take nn):=rfl
    rw [hkd] at hky
    have hkl:=gI ch ((b.drop j).take nn)
    generalize kdL ch ((b.drop j).take nn)=d at *
    by_cases hd:d=(b.drop (j+nn)).take 32
    ·rw [if_pos ⟨hr,hd⟩]
     obtain ⟨w1,w2,w3⟩:=cH7 h1
     exact .inr ⟨x,d,j+nn+32,nv,ns,rfl,hv,hs,⟨w1,⟨by have:(1:Int)≤x.k:=w2.1;omega,by have:x.k≤7:=w2.2;omega⟩,w3⟩,hkl,by omega,by omega,eH0 b m h hm hb hh ch hch n q2 _ m' q3 j hj q4 q5 nn hnn aA _ (cJ hrt nv ns) _ r5 d hkl hky _ rfl hd⟩
    ·rw [if_neg (fun h=>hd h.2)]
     exact .inl ⟨rfl,eG9 b m h hm hb hh ch hch n q2 _ m' q3 j hj q4 q5 nn hnn aA _ (cJ hrt nv ns) _ r5 d hkl hky hd⟩
   ·rw [if_neg (fun h=>hr h.1)]
    exact .inl ⟨rfl,eG8 b m h hm hb hh ch hch n q2 _ m' q3 j hj q4 q5 nn hnn aA _ (cJ hrt nv ns) m2 (by rw [← r3];exact List.length_pos_iff.2 hr) _ r5⟩
  ·rw [r1] at h2
   refine .inl ⟨by rw [hone,h1];rfl,eG7 b m h hm hb hh ch hch n q2 _ m' q3 j hj q4 q5 nn hnn aA e2 h2 (r6 h2)⟩
attribute [local irreducible] Still Adds AWL AW Drw bT bW AC AWR cL Frz Go.Av.Src dC Out InK ItK AsK RdK eI eE ACT ACA eL aL6 lec
end Go.Proofs.YtbgehdndimlgkaaGreat
namespace Go.Av
open Go Go.RowKit
variable {P:Program} {sz n:Nat} {env:Env} {h:aO} {dfs:bZ} {K:AK}
theorem bU2 {P:Program} {Q:Exit→Act→World→Prop} {a:Act} {w:World} {c:Code} (h:wpG P c (Exit.noGoto Q) a w):wpG P (.scope c) Q a w:=fun rd hr=>by
 rcases hr with rfl|hr
 ·exact wpIn_wide.2 (wp_scope_straight (wpIn_wide.1 (h none (.inl rfl))))
 ·cases hr
theorem bU1 {P:Program} {Q:Exit→Act→World→Prop} {a:Act} {w:World} {l:Nat} (h:Q .normal a w):wpG P (.label l) Q a w:=fun rd hr=>by
 rcases hr with rfl|hr
 ·exact wpIn_wide.2 (wp_label h)
 ·cases hr
theorem oS {l:Nat} (hk:K .normal n env h dfs):AW P sz (.label l) K n env h dfs:=fun B a w hc=>bU1 ⟨n,env,h,dfs,hk,hc⟩
theorem mV {c:Code} (hx:∀K':AK,(∀n env h dfs,K .normal n env h dfs→K' .normal n env h dfs)→(∀e n env h dfs,(e ≠ .normal∧∀l,e ≠ .goto l)→K e n env h dfs→K' e n env h dfs)→AW P sz c K' n env h dfs):AW P sz (.scope c) K n env h dfs:=by
 intro B a w hc
 refine bU2 (nO (hx (fun e n env h dfs=>(∀l,e ≠ .goto l)∧K e n env h dfs) (fun n env h dfs hk=>⟨fun l hl=>(by cases hl),hk⟩) (fun e n env h dfs he hk=>⟨he.2,hk⟩) B a w hc) fun e a w hq=>?_)
 obtain ⟨n',env',h',d',⟨hg,hk⟩,hc'⟩:=hq
 cases e with
 | goto l=>exact absurd rfl (hg l)
 | normal=>exact ⟨n',env',h',d',hk,hc'⟩
 | exit id=>exact ⟨n',env',h',d',hk,hc'⟩
 | ret=>exact ⟨n',env',h',d',hk,hc'⟩
 | panic ch=>exact ⟨n',env',h',d',hk,hc'⟩
 | outgrown=>exact ⟨n',env',h',d',hk,hc'⟩
end Go.Av
