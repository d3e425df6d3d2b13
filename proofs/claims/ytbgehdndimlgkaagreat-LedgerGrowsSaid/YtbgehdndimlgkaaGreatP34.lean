/- Lemmas for laws of the ledger. -/
import Derived.Scope
import Derived.Control
import Derived.Test.YtbgehdndimlgkaaGreatP20
import Derived.Test.YtbgehdndimlgkaaGreatP32
import Derived.Test.YtbgehdndimlgkaaGreatP33
set_option linter.all false
set_option maxHeartbeats 16000000
namespace Go.Proofs.YtbgehdndimlgkaaGreat
open Go Go.RowKit Go.Av
set_option maxRecDepth 100000
section
attribute [local irreducible] Still Adds AWL AW Drw bY bW AC AWR cR Frz Go.Av.Src cQ Out InK ItK AsK RdK eL eF ACT ACA eT ACG fP lec
def aA5 (l:List LEn) (q:Nat):Prop:=∀e,l[q]? = some e->Fol (l.take q) e
theorem dC3 {l:List LEn} (hl:l.length<=1000) (h:OkL l):(Tl.of l).wf/\(Tl.of l).vs.length<=1000000/\(Tl.of l).ss.length<=1000000:=by
 have R:=bP2 l
 have hc:∀k,mY l k<=1000:=fun k=>by
  unfold mY
  have:=BL (fun e:LEn=>decide (e.k=k)) l
  omega
 refine ⟨⟨?_,?_,?_,fun p hp=>?_,fun v hv=>uQ h v ((R.vs.2 v).1 hv),fun v hv=>uP h v ((R.ss.2 v).1 hv)⟩,?_,?_⟩
 ·by_cases hn:l=[]
  ·subst hn
   exact bC8
  ·obtain ⟨x,hx⟩:∃x,l.getLast? = some x:=⟨_,CQ hn⟩
   rw [R.day x hx]
   exact (h x (List.mem_of_getLast? hx)).1.h1.1
 ·have:=hc 2
  rw [R.er];omega
 ·have:=hc 5
  rw [R.sg];omega
 ·obtain ⟨p1,p2⟩:=p
  obtain ⟨x,hx,_,e1,e2⟩:=(R.st p1 p2).1 hp
  have:=(h x hx).1.h1
  simp only
  rw [<- e1,<- e2]
  exact this.2
 ·have h1:=mU slo_V R.vs.1 R.vs.2
  have h2:=lQ (lt:=ltV) (gW l)
  have h3:=sT h
  omega
 ·have h1:=mU slo_S R.ss.1 R.ss.2
  have h2:=lQ (lt:=ltS) (iP l)
  have h3:=sS h
  omega
end
section
theorem bV4:∀{b:Dr} {i x:Nat} {p:Nat × Dr},i<=9->pU i x b=some p->∃j,j<=10-i/\j<=b.length/\0<j/\p.2=b.drop j
 | [],i,x,p,_,h=>by rw [pU] at h;cases h
 | c::b,i,x,p,hi,h=>by
  rw [pU] at h
  by_cases hn:(i=9/\1<c.toNat)\/(0<i/\c.toNat=0)
  ·rw [Ak hn] at h;cases h
  ·rw [Ai hn] at h
   by_cases hc:c.toNat<128
   ·rw [Ak hc] at h
    injection h with h
    exact ⟨1,by omega,by simp,by decide,by rw [<- h];rfl⟩
   ·rw [Ai hc] at h
    obtain ⟨j,j1,j2,j3,j4⟩:=bV4 aA h
    exact ⟨j+1,by omega,by simp;omega,by omega,by rw [j4];rfl⟩
theorem cD2 {b:Dr} {p:Int × Dr} (h:dM b=some p):∃j,j<=10/\j<=b.length/\0<j/\p.2=b.drop j:=by
 unfold dM at h
 obtain ⟨q,hq,rfl⟩:=Aq.1 h
 exact bV4 aN hq
theorem cW0 (b:Dr):dM (b.take 10)=(dM b).map fun p=>(p.1,p.2.take (10-(b.length-p.2.length))):=by
 unfold dM
 rw [cW3 b 0 0 10 rfl aN,Option.map_map,Option.map_map]
 rfl
theorem iN (ch b:Dr):(kdL ch b).length=32:=by unfold kdL;exact uM _ _
theorem bC6 (b:Dr) (m:Nat) (hm:b.length=m) (hb:m<=100000000) (ch:Dr) (hch:ch.length=32):(kN kdL ch b=none/\qC' 61 [.sl 1 m (u8c b),.agg (u8c ch)] (.tup [.c (.agg (ecs en0 0 0)),.c (.agg (u8c root0)),.c (iv 0),.c (bv false)]) [] 0)\/∃(x:LEn) (d:Dr) (k nv ns:Nat),kN kdL ch b=some (x,d,k)/\x.vs.length=nv/\x.ss.length=ns/\(x.wf/\aS x.k/\x.sz)/\d.length=32/\0<k/\k<=m/\qC' 61 [.sl 1 m (u8c b),.agg (u8c ch)] (.tup [.c (.agg (ecs x nv ns)),.c (.agg (u8c d)),.c (iv k),.c (bv true)]) [] 0:=by
 obtain ⟨h,hh⟩:∃h,min m 10=h:=⟨_,rfl⟩
 have ht:b.take h=b.take 10:=by
  by_cases hc:m<=10
  ·rw [Ae aA,Ae aA]
  ·rw [show h=10 by omega]
 have hhl:(b.take h).length=h:=by rw [Ar];omega
 obtain ⟨n,s',q1,q2,b',e',m',rfl,q3,q4,q5,q6⟩:=cX8 (b.take h) h hhl aA
 have hof:=rd_int.of (b.take h)
 rw [ht,cW0,<- ht,q1] at hof
 cases hp:dM b with
 | none =>
  rw [hp] at hof
  rcases hof with ⟨x,r,h1,h2⟩|⟨h1,h2⟩
  ·cases h1
  ·exact .inl ⟨by unfold kN;rw [hp];rfl,fA3 b m h hm hb hh ch hch e' h2 (q6 h2)⟩
 | some p =>
  obtain ⟨n0,rest⟩:=p
  obtain ⟨j,j1,j2,j3,j4⟩:=cD2 hp
  simp only at j4
  subst j4
  have hrl:(b.drop j).length=m-j:=by rw [A0,hm]
  rw [hp] at hof
  rcases hof with ⟨x,r,h1,h2⟩|⟨h1,h2⟩
  rotate_left
  ·cases h1
  rw [Bi] at h1
  injection h1 with h1
  injection h1 with h1 h1'
  injection h2 with h2 h2'
  injection h2' with h2' h2''
  subst h1 h1' h2 h2' h2''
  have q5:=q5 rfl
  rw [hm,hrl] at q3 q5
  have hq:m'=min (10-j) (m-j):=by rw [<- q3,Ar,hrl];omega
  have hj:h-m'=j:=by omega
  by_cases n1:n<0
  ·refine .inl ⟨?_,fA4 b m h hm hb hh ch hch n q2 _ m' q3 j hj q4 q5 n1⟩
   unfold kN
   rw [hp,Am]
   simp only
   rw [Ai aA]
  by_cases n2:(m:Int)<j+n+32
  ·refine .inl ⟨?_,fA5 b m h hm hb hh ch hch n q2 _ m' q3 j hj q4 q5 aA aA⟩
   unfold kN
   rw [hp,Am]
   simp only
   rw [Ai (by rw [hrl];omega)]
  obtain ⟨nn,hnn⟩:∃nn:Nat,n=nn:=⟨n.toNat,by omega⟩
  have hone:kN kdL ch b=(pEn ((b.drop j).take nn)).bind fun e=>if e.2=[]/\kdL ch ((b.drop j).take nn)=(b.drop (j+nn)).take 32 then some (e.1,kdL ch ((b.drop j).take nn),j+nn+32) else none:=by
   unfold kN
   rw [hp,Am]
   simp only
   rw [Ak (by rw [hrl];omega),show n.toNat=nn by omega,hm,hrl,BU,show m-(m-j)=j by omega]
  have hel:((b.drop j).take nn).length=nn:=by rw [Ar,hrl];omega
  obtain ⟨x,s',nv,ns,r1,hv,hs,hrt,b2,e2,m2,rfl,r3,r4,r5,r6⟩:=aH3 ((b.drop j).take nn) nn hel aA
  rcases rd_enP.of ((b.drop j).take nn) with ⟨y,rr,h1,h2⟩|⟨h1,h2⟩
  ·rw [r1] at h2
   injection h2 with h2 h2'
   injection h2' with h2' h2''
   subst h2 h2' h2''
   have r5:=r5 rfl
   rw [hone,h1,Am]
   simp only
   by_cases hr:b2=[]
   ·have hm2:m2=0:=by rw [<- r3,hr];rfl
    rw [hm2] at r5
    have hky:=bD0 330#64 ch ((b.drop j).take nn) nn hch hel aA
    have hkd:sum 330#64 (ch++(b.drop j).take nn)=kdL ch ((b.drop j).take nn):=rfl
    rw [hkd] at hky
    have hkl:=iN ch ((b.drop j).take nn)
    generalize kdL ch ((b.drop j).take nn)=d at *
    by_cases hd:d=(b.drop (j+nn)).take 32
    ·rw [Ak ⟨hr,hd⟩]
     obtain ⟨w1,w2,w3⟩:=cV3 h1
     exact .inr ⟨x,d,j+nn+32,nv,ns,rfl,hv,hs,⟨w1,⟨by have:(1:Int)<=x.k:=w2.1;omega,by have:x.k<=7:=w2.2;omega⟩,w3⟩,hkl,by omega,by omega,fA9 b m h hm hb hh ch hch n q2 _ m' q3 j hj q4 q5 nn hnn aA _ (cI hrt nv ns) _ r5 d hkl hky _ rfl hd⟩
    ·rw [Ai (fun h=>hd h.2)]
     exact .inl ⟨rfl,fA8 b m h hm hb hh ch hch n q2 _ m' q3 j hj q4 q5 nn hnn aA _ (cI hrt nv ns) _ r5 d hkl hky hd⟩
   ·rw [Ai (fun h=>hr h.1)]
    exact .inl ⟨rfl,fA7 b m h hm hb hh ch hch n q2 _ m' q3 j hj q4 q5 nn hnn aA _ (cI hrt nv ns) m2 (by rw [<- r3];exact List.length_pos_iff.2 hr) _ r5⟩
  ·rw [r1] at h2
   refine .inl ⟨by rw [hone,h1];rfl,fA6 b m h hm hb hh ch hch n q2 _ m' q3 j hj q4 q5 nn hnn aA e2 h2 (r6 h2)⟩
attribute [local irreducible] Still Adds AWL AW Drw bY bW AC AWR cR Frz Go.Av.Src cQ Out InK ItK AsK RdK eL eF ACT ACA eT aY1 lec
theorem vU {l:List LEn} (h:OkL l) (i:Nat):List.take (i*65) (lec l)=lec (l.take i):=by
 unfold lec
 induction i generalizing l with
 | zero=>simp
 | succ i ih =>
  cases l with
  | nil=>simp
  | cons e l =>
   have he:=eY (h e aT).1
   rw [A4,Ba,A4,<- ih (fun x hx=>h x (by simp [hx])),Cn,he,Ae (by rw [he];omega),show (i+1)*65-65=i*65 by omega]
theorem cE0 (l:List LEn) (n:Nat) (hln:l.length=n) (hnb:n<=1000) (hwl:OkL l) (hall:∀q,q<n->aA5 l q):qC' 18 [.sl 65 n (lec l)] (.c (iv (-1))) [] 0:=by
 have hll:(lec l).length=n*65:=by rw [dZ hwl,hln]
 refine aD aB (sz:=20) Tryz.func18 rfl (by rw [Tryz.ntmps18];rfl) ?_
 repeat' (first|(refine aC ?_;intro K hK hX)|refine aY [0,2,3] ?_|refine stA ?_|refine stD ?_|(refine aE hK hX ?_;clear hK hX K)|fail)
 refine bF [3] [] rfl rfl (fun i:Nat=>[(3,.c (iv i))]) (fun i=>[]) (fun i=>i<=n) (fun i=>n-i) 0 (Al _) cS ?_
 intro i hi K hK hX
 by_cases hlt:i<n
 ·obtain ⟨e,hat⟩:∃e,l[i]? = some e:=⟨_,Ab aA⟩
  have hx:=lI hwl hat
  obtain ⟨ow,ok,oz⟩:=hwl e (Ad hat)
  have hf:=qV (l.take i) i jE aA (hwl.take i) e ow ok oz _ _ rfl rfl true ⟨fun _=>hall i hlt e hat,fun _=>rfl⟩
  have hY:List.take ((i-0)*65) (List.drop (0*65) (lec l))=lec (l.take i):=by rw [BA,AN,Br,vU hwl]
  rw [<- hY] at hf
  have hel:=eY ow
  change AC _ _ [_,.agg (ecR e)] _ _ _ at hf
  generalize ecR e=cs at *
  repeat' (first|(refine aC ?_;intro K hK hX)|refine cL6 ?_|(refine aE hK hX ?_;clear hK hX K)|fail)
  exact dN
 ·repeat' (first|(refine aC ?_;intro K hK hX)|refine aY [0,2,3] ?_|refine stA ?_|refine stD ?_|(refine aE hK hX ?_;clear hK hX K)|fail)
  exact aV
theorem cD9 (l:List LEn) (n:Nat) (hln:l.length=n) (hnb:n<=1000) (hwl:OkL l) (j0:Nat) (hj:j0<n) (hbad:¬aA5 l j0) (hall:∀q,q<j0->aA5 l q):qC' 18 [.sl 65 n (lec l)] (.c (iv j0)) [] 0:=by
 have hll:(lec l).length=n*65:=by rw [dZ hwl,hln]
 refine aD aB (sz:=20) Tryz.func18 rfl (by rw [Tryz.ntmps18];rfl) ?_
 repeat' (first|(refine aC ?_;intro K hK hX)|refine aY [0,2,3] ?_|refine stA ?_|refine stD ?_|(refine aE hK hX ?_;clear hK hX K)|fail)
 refine bF [3] [] rfl rfl (fun i:Nat=>[(3,.c (iv i))]) (fun i=>[]) (fun i=>i<=j0) (fun i=>j0-i) 0 (Al _) cS ?_
 intro i hi K hK hX
 by_cases hlt:i<j0
 ·obtain ⟨e,hat⟩:∃e,l[i]? = some e:=⟨_,Ab aA⟩
  have hx:=lI hwl hat
  obtain ⟨ow,ok,oz⟩:=hwl e (Ad hat)
  have hf:=qV (l.take i) i jE aA (hwl.take i) e ow ok oz _ _ rfl rfl true ⟨fun _=>hall i hlt e hat,fun _=>rfl⟩
  have hY:List.take ((i-0)*65) (List.drop (0*65) (lec l))=lec (l.take i):=by rw [BA,AN,Br,vU hwl]
  rw [<- hY] at hf
  have hel:=eY ow
  change AC _ _ [_,.agg (ecR e)] _ _ _ at hf
  generalize ecR e=cs at *
  repeat' (first|(refine aC ?_;intro K hK hX)|refine cL6 ?_|(refine aE hK hX ?_;clear hK hX K)|fail)
  exact dN
 ·have hij:i=j0:=by omega
  rw [hij]
  obtain ⟨e,hat⟩:∃e,l[j0]? = some e:=⟨_,Ab aA⟩
  have hx:=lI hwl hat
  obtain ⟨ow,ok,oz⟩:=hwl e (Ad hat)
  have hf:=qV (l.take j0) j0 jE aA (hwl.take j0) e ow ok oz _ _ rfl rfl false ⟨fun h=>dS,fun h=>absurd (fun e' he'=>by rw [hat] at he';injection he' with he';rw [<- he'];exact h) hbad⟩
  have hY:List.take ((j0-0)*65) (List.drop (0*65) (lec l))=lec (l.take j0):=by rw [BA,AN,Br,vU hwl]
  rw [<- hY] at hf
  have hel:=eY ow
  change AC _ _ [_,.agg (ecR e)] _ _ _ at hf
  generalize ecR e=cs at *
  repeat' (first|(refine aC ?_;intro K hK hX)|refine cL6 ?_|(refine aE hK hX ?_;clear hK hX K)|fail)
  exact aV
end
end Go.Proofs.YtbgehdndimlgkaaGreat
namespace Go.Av
open Go Go.RowKit
variable {P:D0} {sz n:Nat} {env:Env} {h:aQ} {dfs:cK} {K:AK}
theorem cG9 {P:D0} {Q:Exit->Act->World->Prop} {a:Act} {w:World} {c:Code} (h:wpG P c (Exit.noGoto Q) a w):wpG P (.scope c) Q a w:=fun rd hr=>by
 rcases hr with rfl|hr
 ·exact wpIn_wide.2 (wp_scope_straight (wpIn_wide.1 (h none (.inl rfl))))
 ·cases hr
theorem cG8 {P:D0} {Q:Exit->Act->World->Prop} {a:Act} {w:World} {l:Nat} (h:Q .normal a w):wpG P (.label l) Q a w:=fun rd hr=>by
 rcases hr with rfl|hr
 ·exact wpIn_wide.2 (wp_label h)
 ·cases hr
theorem rL {l:Nat} (hk:K .normal n env h dfs):AW P sz (.label l) K n env h dfs:=fun B a w hc=>cG8 ⟨n,env,h,dfs,hk,hc⟩
theorem oR {c:Code} (hx:∀K':AK,(∀n env h dfs,K .normal n env h dfs->K' .normal n env h dfs)->(∀e n env h dfs,(e ≠ .normal/\∀l,e ≠ .goto l)->K e n env h dfs->K' e n env h dfs)->AW P sz c K' n env h dfs):AW P sz (.scope c) K n env h dfs:=by
 intro B a w hc
 refine cG9 (pP (hx (fun e n env h dfs=>(∀l,e ≠ .goto l)/\K e n env h dfs) (fun n env h dfs hk=>⟨fun l hl=>(by cases hl),hk⟩) (fun e n env h dfs he hk=>⟨he.2,hk⟩) B a w hc) fun e a w hq=>?_)
 obtain ⟨n',env',h',d',⟨hg,hk⟩,hc'⟩:=hq
 cases e with
 | goto l=>exact absurd rfl (hg l)
 | normal=>exact ⟨n',env',h',d',hk,hc'⟩
 | exit id=>exact ⟨n',env',h',d',hk,hc'⟩
 | ret=>exact ⟨n',env',h',d',hk,hc'⟩
 | panic ch=>exact ⟨n',env',h',d',hk,hc'⟩
 | outgrown=>exact ⟨n',env',h',d',hk,hc'⟩
end Go.Av
