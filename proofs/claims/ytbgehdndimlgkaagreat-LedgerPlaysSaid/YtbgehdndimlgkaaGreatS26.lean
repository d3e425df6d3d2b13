/- Lemmas for laws of the ledger. -/
import Derived.Test.YtbgehdndimlgkaaGreatS25
set_option linter.all false
set_option maxHeartbeats 16000000
namespace Go.Proofs.YtbgehdndimlgkaaGreat
open Go Go.RowKit Go.Av
set_option maxRecDepth 100000
def cK7 (t:Tl) (e:LEn):Prop:=e.plan=t.er/\(e.vs≠[]\/e.ss≠[])/\t.vs.length+e.vs.length<=512/\t.ss.length+e.ss.length<=512/\(e.vs.Pairwise ltV/\∀v∈e.vs,v∉t.vs)/\e.ss.Pairwise ltS/\∀v∈e.ss,v∉t.ss
def kZ {α:Type} (lt:α->α->Prop) (had l:List α) (j:Nat):Prop:=∀v,l[j]? = some v->v∉had/\∀u,0<j->l[j-1]? = some u->lt u v
theorem aS6 {α:Type} {lt:α->α->Prop} (h:SLO lt):∀{l:List α},(∀j u v,l[j]? = some u->l[j+1]? = some v->lt u v)->l.Pairwise lt
 | [],_=>List.Pairwise.nil
 | [a],_=>C3 _ _
 | a::b::l,hj=>by
  have ih:=aS6 h (l:=b::l) fun j u v h1 h2=>hj (j+1) u v (by simpa using h1) (by simpa using h2)
  refine Bp.2 ⟨fun x hx=>?_,ih⟩
  have hab:=hj 0 a b rfl rfl
  rcases A6.1 hx with rfl|hx
  ·exact hab
  ·exact h.tr _ _ _ hab ((Bp.1 ih).1 x hx)
theorem aO8 {α:Type} {lt:α->α->Prop} (h:SLO lt) {had l:List α}:(∀j,j<l.length->kZ lt had l j)↔l.Pairwise lt/\∀v∈l,v∉had:=by
 constructor
 ·intro hg
  refine ⟨aS6 h fun j u v h1 h2=>?_,fun v hv=>?_⟩
  ·have hl:=(Ag.1 h2).1
   exact (hg (j+1) hl v h2).2 u aA h1
  ·obtain ⟨j,hj⟩:=CK hv
   exact (hg j (Ag.1 hj).1 v hj).1
 ·rintro ⟨hp,hn⟩ j hj v hv
  refine ⟨hn v (Af hv),fun u h0 hu=>?_⟩
  obtain ⟨h1,h2⟩:=Ag.1 hu
  obtain ⟨h3,h4⟩:=Ag.1 hv
  have:=Cc.1 hp (j-1) j h1 h3 aA
  rwa [h2,h4] at this
section
variable {P:Dv} {sz n i n0 m:Nat} {env env0:Env} {h h0:aO} {dfs:cD} {K:AK} {l rest:Dp} {T ty:Du} {x y:Operand} {pos:String} {aft:Ds} {gd:Dn} {d:Dt} {b:Bool} {ev:Evl} {N:AV->Prop}
theorem iQ (hh:Drw P l sz K dfs i n0 env0 h0 m (⟨d,.lookup T x y b,ty,pos,aft,gd⟩::rest) n env h):Drw P l sz K dfs i n0 env0 h0 m (⟨d,.lookup T x y b,ty,pos,aft,gd⟩::rest) n env h:=hh
end
theorem iW:∀w,(zeroValue 4).run Tryz.prog w = .ok (.bool false) w:=fun w=>by kernel_rfl
attribute [local irreducible] Still Adds AWL AW Drw bX bY AC AWR cU Frz Go.Av.Src cQ Out InK ItK AsK RdK eP eI ACT ACA eW ACG fL
attribute [local simp] bS bR bI
section
variable (t:Tl) (ht:t.wf) (e:LEn) (hw:e.wf) (nv ns:Nat) (hnv:e.vs.length=nv) (hns:e.ss.length=ns) (hb1:nv<=1000000) (hb2:ns<=1000000) (a1 a2:Nat) (ha1:t.vs.length=a1) (ha2:t.ss.length=a2) (hb3:a1<=1000000) (hb4:a2<=1000000)
include t ht e hw nv ns hnv hns hb1 hb2 a1 a2 ha1 ha2 hb3 hb4
theorem dY0 (p1:¬e.plan=(t.er:Int)):ACG Tryz.prog 121 6 (tlH t) [.agg (ecs e nv ns)] (tlH t) (bv false):=by
 have hel:=cK hw.root nv ns
 obtain ⟨t1,t2,t3,t4,t5,t6⟩:=ht
 have w2:=hw.vs
 have w3:=hw.ss
 clear hw
 have hvl:(vrc e.vs).length=nv*3:=by rw [dC,hnv]
 have hsl:(src e.ss).length=ns*2:=by rw [dV,hns]
 have hoV:∀q∈t.vs,ktV.ok q:=fun q hq=>pV (t5 q hq)
 have hoS:∀q∈t.ss,ktS.ok q:=fun q hq=>oH (t6 q hq)
 have hc2:(ecs e nv ns)[2]? = some (iv e.plan):=rfl
 have hc31:(ecs e nv ns)[31]? = some (.sl 3 nv (vrc e.vs)):=rfl
 have hc32:(ecs e nv ns)[32]? = some (.sl 2 ns (src e.ss)):=rfl
 generalize ecs e nv ns=cs at *
 obtain ⟨so,day,er,sg,bg,co,st,vs,ss⟩:=t
 obtain ⟨k,eday,plan,step,rq,lk',hd,evs,ess,root⟩:=e
 dsimp only [tlH] at *
 clear hel
 refine cW aB [.ref 0 0,.mh 1,.mh 2,.mh 3,.mh 4,.mh 5] (sz:=110) Tryz.func121 rfl mJ rfl rfl rfl rfl (iU ⟨so,day,er,sg,bg,co,st,vs,ss⟩) (iV ⟨so,day,er,sg,bg,co,st,vs,ss⟩) ?_
 repeat' (first|(refine aC ?_;intro K hK hX)|refine dN1 ?_|(refine aG hK hX ?_;clear hK hX K)|fail)
 exact eR
theorem dY1 (p1:e.plan=(t.er:Int)) (p2:nv=0) (p2':ns=0):ACG Tryz.prog 121 6 (tlH t) [.agg (ecs e nv ns)] (tlH t) (bv false):=by
 have hel:=cK hw.root nv ns
 obtain ⟨t1,t2,t3,t4,t5,t6⟩:=ht
 have w2:=hw.vs
 have w3:=hw.ss
 clear hw
 have hvl:(vrc e.vs).length=nv*3:=by rw [dC,hnv]
 have hsl:(src e.ss).length=ns*2:=by rw [dV,hns]
 have hoV:∀q∈t.vs,ktV.ok q:=fun q hq=>pV (t5 q hq)
 have hoS:∀q∈t.ss,ktS.ok q:=fun q hq=>oH (t6 q hq)
 have hc2:(ecs e nv ns)[2]? = some (iv e.plan):=rfl
 have hc31:(ecs e nv ns)[31]? = some (.sl 3 nv (vrc e.vs)):=rfl
 have hc32:(ecs e nv ns)[32]? = some (.sl 2 ns (src e.ss)):=rfl
 generalize ecs e nv ns=cs at *
 obtain ⟨so,day,er,sg,bg,co,st,vs,ss⟩:=t
 obtain ⟨k,eday,plan,step,rq,lk',hd,evs,ess,root⟩:=e
 dsimp only [tlH] at *
 clear hel
 refine cW aB [.ref 0 0,.mh 1,.mh 2,.mh 3,.mh 4,.mh 5] (sz:=110) Tryz.func121 rfl mJ rfl rfl rfl rfl (iU ⟨so,day,er,sg,bg,co,st,vs,ss⟩) (iV ⟨so,day,er,sg,bg,co,st,vs,ss⟩) ?_
 repeat' (first|(refine aC ?_;intro K hK hX)|refine dN1 ?_|(refine aG hK hX ?_;clear hK hX K)|fail)
 exact eR
theorem dC8 (p1:e.plan=(t.er:Int)) (p2:nv=0) (p2':¬ns=0) (p3:512<a1+nv):ACG Tryz.prog 121 6 (tlH t) [.agg (ecs e nv ns)] (tlH t) (bv false):=by
 have hel:=cK hw.root nv ns
 obtain ⟨t1,t2,t3,t4,t5,t6⟩:=ht
 have w2:=hw.vs
 have w3:=hw.ss
 clear hw
 have hvl:(vrc e.vs).length=nv*3:=by rw [dC,hnv]
 have hsl:(src e.ss).length=ns*2:=by rw [dV,hns]
 have hoV:∀q∈t.vs,ktV.ok q:=fun q hq=>pV (t5 q hq)
 have hoS:∀q∈t.ss,ktS.ok q:=fun q hq=>oH (t6 q hq)
 have hc2:(ecs e nv ns)[2]? = some (iv e.plan):=rfl
 have hc31:(ecs e nv ns)[31]? = some (.sl 3 nv (vrc e.vs)):=rfl
 have hc32:(ecs e nv ns)[32]? = some (.sl 2 ns (src e.ss)):=rfl
 generalize ecs e nv ns=cs at *
 obtain ⟨so,day,er,sg,bg,co,st,vs,ss⟩:=t
 obtain ⟨k,eday,plan,step,rq,lk',hd,evs,ess,root⟩:=e
 dsimp only [tlH] at *
 clear hel
 refine cW aB [.ref 0 0,.mh 1,.mh 2,.mh 3,.mh 4,.mh 5] (sz:=110) Tryz.func121 rfl mJ rfl rfl rfl rfl (iU ⟨so,day,er,sg,bg,co,st,vs,ss⟩) (iV ⟨so,day,er,sg,bg,co,st,vs,ss⟩) ?_
 repeat' (first|(refine aC ?_;intro K hK hX)|refine aM7 ?_|(refine aG hK hX ?_;clear hK hX K)|fail)
 exact eR
theorem dD0 (p1:e.plan=(t.er:Int)) (p2:nv=0) (p2':¬ns=0) (p3:¬512<a1+nv) (p4:512<a2+ns):ACG Tryz.prog 121 6 (tlH t) [.agg (ecs e nv ns)] (tlH t) (bv false):=by
 have hel:=cK hw.root nv ns
 obtain ⟨t1,t2,t3,t4,t5,t6⟩:=ht
 have w2:=hw.vs
 have w3:=hw.ss
 clear hw
 have hvl:(vrc e.vs).length=nv*3:=by rw [dC,hnv]
 have hsl:(src e.ss).length=ns*2:=by rw [dV,hns]
 have hoV:∀q∈t.vs,ktV.ok q:=fun q hq=>pV (t5 q hq)
 have hoS:∀q∈t.ss,ktS.ok q:=fun q hq=>oH (t6 q hq)
 have hc2:(ecs e nv ns)[2]? = some (iv e.plan):=rfl
 have hc31:(ecs e nv ns)[31]? = some (.sl 3 nv (vrc e.vs)):=rfl
 have hc32:(ecs e nv ns)[32]? = some (.sl 2 ns (src e.ss)):=rfl
 generalize ecs e nv ns=cs at *
 obtain ⟨so,day,er,sg,bg,co,st,vs,ss⟩:=t
 obtain ⟨k,eday,plan,step,rq,lk',hd,evs,ess,root⟩:=e
 dsimp only [tlH] at *
 clear hel
 refine cW aB [.ref 0 0,.mh 1,.mh 2,.mh 3,.mh 4,.mh 5] (sz:=110) Tryz.func121 rfl mJ rfl rfl rfl rfl (iU ⟨so,day,er,sg,bg,co,st,vs,ss⟩) (iV ⟨so,day,er,sg,bg,co,st,vs,ss⟩) ?_
 repeat' (first|(refine aC ?_;intro K hK hX)|refine aM7 ?_|(refine aG hK hX ?_;clear hK hX K)|fail)
 exact eR
theorem dC9 (p1:e.plan=(t.er:Int)) (p2:¬nv=0) (p3:512<a1+nv):ACG Tryz.prog 121 6 (tlH t) [.agg (ecs e nv ns)] (tlH t) (bv false):=by
 have hel:=cK hw.root nv ns
 obtain ⟨t1,t2,t3,t4,t5,t6⟩:=ht
 have w2:=hw.vs
 have w3:=hw.ss
 clear hw
 have hvl:(vrc e.vs).length=nv*3:=by rw [dC,hnv]
 have hsl:(src e.ss).length=ns*2:=by rw [dV,hns]
 have hoV:∀q∈t.vs,ktV.ok q:=fun q hq=>pV (t5 q hq)
 have hoS:∀q∈t.ss,ktS.ok q:=fun q hq=>oH (t6 q hq)
 have hc2:(ecs e nv ns)[2]? = some (iv e.plan):=rfl
 have hc31:(ecs e nv ns)[31]? = some (.sl 3 nv (vrc e.vs)):=rfl
 have hc32:(ecs e nv ns)[32]? = some (.sl 2 ns (src e.ss)):=rfl
 generalize ecs e nv ns=cs at *
 obtain ⟨so,day,er,sg,bg,co,st,vs,ss⟩:=t
 obtain ⟨k,eday,plan,step,rq,lk',hd,evs,ess,root⟩:=e
 dsimp only [tlH] at *
 clear hel
 refine cW aB [.ref 0 0,.mh 1,.mh 2,.mh 3,.mh 4,.mh 5] (sz:=110) Tryz.func121 rfl mJ rfl rfl rfl rfl (iU ⟨so,day,er,sg,bg,co,st,vs,ss⟩) (iV ⟨so,day,er,sg,bg,co,st,vs,ss⟩) ?_
 repeat' (first|(refine aC ?_;intro K hK hX)|refine aM7 ?_|(refine aG hK hX ?_;clear hK hX K)|fail)
 exact eR
theorem dD1 (p1:e.plan=(t.er:Int)) (p2:¬nv=0) (p3:¬512<a1+nv) (p4:512<a2+ns):ACG Tryz.prog 121 6 (tlH t) [.agg (ecs e nv ns)] (tlH t) (bv false):=by
 have hel:=cK hw.root nv ns
 obtain ⟨t1,t2,t3,t4,t5,t6⟩:=ht
 have w2:=hw.vs
 have w3:=hw.ss
 clear hw
 have hvl:(vrc e.vs).length=nv*3:=by rw [dC,hnv]
 have hsl:(src e.ss).length=ns*2:=by rw [dV,hns]
 have hoV:∀q∈t.vs,ktV.ok q:=fun q hq=>pV (t5 q hq)
 have hoS:∀q∈t.ss,ktS.ok q:=fun q hq=>oH (t6 q hq)
 have hc2:(ecs e nv ns)[2]? = some (iv e.plan):=rfl
 have hc31:(ecs e nv ns)[31]? = some (.sl 3 nv (vrc e.vs)):=rfl
 have hc32:(ecs e nv ns)[32]? = some (.sl 2 ns (src e.ss)):=rfl
 generalize ecs e nv ns=cs at *
 obtain ⟨so,day,er,sg,bg,co,st,vs,ss⟩:=t
 obtain ⟨k,eday,plan,step,rq,lk',hd,evs,ess,root⟩:=e
 dsimp only [tlH] at *
 clear hel
 refine cW aB [.ref 0 0,.mh 1,.mh 2,.mh 3,.mh 4,.mh 5] (sz:=110) Tryz.func121 rfl mJ rfl rfl rfl rfl (iU ⟨so,day,er,sg,bg,co,st,vs,ss⟩) (iV ⟨so,day,er,sg,bg,co,st,vs,ss⟩) ?_
 repeat' (first|(refine aC ?_;intro K hK hX)|refine aM7 ?_|(refine aG hK hX ?_;clear hK hX K)|fail)
 exact eR
theorem dD2 (p1:e.plan=(t.er:Int)) (p2:¬nv=0) (p3:¬512<a1+nv) (p4:¬512<a2+ns) (j0:Nat) (hj:j0<nv) (hbad:¬kZ ltV t.vs e.vs j0) (hallVer:∀q,q<j0->kZ ltV t.vs e.vs q):ACG Tryz.prog 121 6 (tlH t) [.agg (ecs e nv ns)] (tlH t) (bv false):=by
 have hel:=cK hw.root nv ns
 obtain ⟨t1,t2,t3,t4,t5,t6⟩:=ht
 have w2:=hw.vs
 have w3:=hw.ss
 clear hw
 have hvl:(vrc e.vs).length=nv*3:=by rw [dC,hnv]
 have hsl:(src e.ss).length=ns*2:=by rw [dV,hns]
 have hoV:∀q∈t.vs,ktV.ok q:=fun q hq=>pV (t5 q hq)
 have hoS:∀q∈t.ss,ktS.ok q:=fun q hq=>oH (t6 q hq)
 have hc2:(ecs e nv ns)[2]? = some (iv e.plan):=rfl
 have hc31:(ecs e nv ns)[31]? = some (.sl 3 nv (vrc e.vs)):=rfl
 have hc32:(ecs e nv ns)[32]? = some (.sl 2 ns (src e.ss)):=rfl
 generalize ecs e nv ns=cs at *
 obtain ⟨so,day,er,sg,bg,co,st,vs,ss⟩:=t
 obtain ⟨k,eday,plan,step,rq,lk',hd,evs,ess,root⟩:=e
 dsimp only [tlH] at *
 clear hel
 refine cW aB [.ref 0 0,.mh 1,.mh 2,.mh 3,.mh 4,.mh 5] (sz:=110) Tryz.func121 rfl mJ rfl rfl rfl rfl (iU ⟨so,day,er,sg,bg,co,st,vs,ss⟩) (iV ⟨so,day,er,sg,bg,co,st,vs,ss⟩) ?_
 repeat' (first|(refine aC ?_;intro K hK hX)|refine aM7 ?_|(refine aG hK hX ?_;clear hK hX K)|fail)
 refine bH [53,50] [] rfl rfl (fun i:Nat=>[(53,.c (iv i))]) (fun i=>[]) (fun i=>i<=j0) (fun i=>nv-i) 0 (Am _) dF ?_
 intro i hi K hK hX
 by_cases hlt:i<j0
 ·have hg:=hallVer i hlt
  obtain ⟨v,hat⟩:∃v,evs[i]? = some v:=⟨_,Ab aA⟩
  have hx:=eG hat
  have hok:ktV.ok v:=pV (w2 v (Af hat))
  have hm:=(hg v hat).1
  by_cases h0:i=0
  ·clear hg
   obtain ⟨vt,vc,vs'⟩:=v
   simp only at hx
   repeat' (first|(refine aC ?_;intro K hK hX)|refine cD8 ?_|(refine aG hK hX ?_;clear hK hX K)|fail)
   exact dS
  ·obtain ⟨u,hau⟩:∃u,evs[i-1]? = some u:=⟨_,Ab aA⟩
   have hxu:=eG hau
   rw [show i-1=((i:Int)-1).toNat from by omega] at hxu
   have hcm:=qG u v
   have hclt:=oV u v
   obtain ⟨z,hz⟩:∃z,aM8 u v=z:=⟨_,rfl⟩
   rw [hz] at hcm hclt
   have hge:z<0:=hclt.2 ((hg v hat).2 u aA hau)
   clear hg hclt hz
   obtain ⟨vt,vc,vs'⟩:=v
   obtain ⟨ut,uc,us'⟩:=u
   simp only at hx hxu
   repeat' (first|(refine aC ?_;intro K hK hX)|refine bK8 ?_|(refine aG hK hX ?_;clear hK hX K)|fail)
   exact dS
 ·obtain hij:j0=i:=by omega
  rw [hij] at hbad hj
  obtain ⟨v,hat⟩:∃v,evs[i]? = some v:=⟨_,Ab aA⟩
  have hx:=eG hat
  have hok:ktV.ok v:=pV (w2 v (Af hat))
  by_cases hm:v∈vs
  ·obtain ⟨vt,vc,vs'⟩:=v
   simp only at hx
   repeat' (first|(refine aC ?_;intro K hK hX)|refine bE [0,1,3,4,5,6,7,8,51,52,53,81,82,83] ?_|((first|((with_reducible refine isA_lk ?_);refine xA ?_)|((with_reducible refine iQ ?_);refine xD ?_));refine aL (rP (k:=(⟨vt,vc,vs'⟩:Ver)) ktV aB rfl rfl iW rfl rfl rfl hok hoV hm) ?_)|refine cH ?_|refine eE ?_|refine stA ?_|refine stD ?_|(refine aG hK hX ?_;clear hK hX K)|fail)
   exact eR
  ·by_cases h0:i=0
   ·refine absurd (fun v' hv'=>?_) hbad
    rw [hat] at hv'
    injection hv' with hv'
    subst hv'
    exact aU8
   ·obtain ⟨u,hau⟩:∃u,evs[i-1]? = some u:=⟨_,Ab aA⟩
    have hxu:=eG hau
    rw [show i-1=((i:Int)-1).toNat from by omega] at hxu
    have hcm:=qG u v
    have hclt:=oV u v
    obtain ⟨z,hz⟩:∃z,aM8 u v=z:=⟨_,rfl⟩
    rw [hz] at hcm hclt
    have hge:¬z<0:=fun hz0=>hbad fun v' hv'=>by
     rw [hat] at hv'
     injection hv' with hv'
     subst hv'
     refine ⟨hm,fun u' _ hu'=>?_⟩
     rw [hau] at hu'
     injection hu' with hu'
     subst hu'
     exact hclt.1 hz0
    clear hclt hz
    obtain ⟨vt,vc,vs'⟩:=v
    obtain ⟨ut,uc,us'⟩:=u
    simp only at hx hxu
    repeat' (first|(refine aC ?_;intro K hK hX)|refine bK8 ?_|(refine aG hK hX ?_;clear hK hX K)|fail)
    exact eR
theorem dD3 (p1:e.plan=(t.er:Int)) (p2:nv=0) (p2':¬ns=0) (p3:¬512<a1+nv) (p4:¬512<a2+ns) (j0:Nat) (hj:j0<ns) (hbad:¬kZ ltS t.ss e.ss j0) (hallSrc:∀q,q<j0->kZ ltS t.ss e.ss q):ACG Tryz.prog 121 6 (tlH t) [.agg (ecs e nv ns)] (tlH t) (bv false):=by
 have hel:=cK hw.root nv ns
 obtain ⟨t1,t2,t3,t4,t5,t6⟩:=ht
 have w2:=hw.vs
 have w3:=hw.ss
 clear hw
 have hvl:(vrc e.vs).length=nv*3:=by rw [dC,hnv]
 have hsl:(src e.ss).length=ns*2:=by rw [dV,hns]
 have hoV:∀q∈t.vs,ktV.ok q:=fun q hq=>pV (t5 q hq)
 have hoS:∀q∈t.ss,ktS.ok q:=fun q hq=>oH (t6 q hq)
 have hc2:(ecs e nv ns)[2]? = some (iv e.plan):=rfl
 have hc31:(ecs e nv ns)[31]? = some (.sl 3 nv (vrc e.vs)):=rfl
 have hc32:(ecs e nv ns)[32]? = some (.sl 2 ns (src e.ss)):=rfl
 generalize ecs e nv ns=cs at *
 obtain ⟨so,day,er,sg,bg,co,st,vs,ss⟩:=t
 obtain ⟨k,eday,plan,step,rq,lk',hd,evs,ess,root⟩:=e
 dsimp only [tlH] at *
 clear hel
 refine cW aB [.ref 0 0,.mh 1,.mh 2,.mh 3,.mh 4,.mh 5] (sz:=110) Tryz.func121 rfl mJ rfl rfl rfl rfl (iU ⟨so,day,er,sg,bg,co,st,vs,ss⟩) (iV ⟨so,day,er,sg,bg,co,st,vs,ss⟩) ?_
 repeat' (first|(refine aC ?_;intro K hK hX)|refine aM7 ?_|(refine aG hK hX ?_;clear hK hX K)|fail)
 refine bH [53,50] [] rfl rfl (fun i:Nat=>[(53,.c (iv i))]) (fun i=>[]) (fun i=>i<=nv) (fun i=>nv-i) 0 (Am _) dF ?_
 intro i hi K hK hX
 repeat' (first|(refine aC ?_;intro K hK hX)|refine bL6 ?_|(refine aG hK hX ?_;clear hK hX K)|fail)
 refine bH [83,80] [] rfl rfl (fun i:Nat=>[(83,.c (iv i))]) (fun i=>[]) (fun i=>i<=j0) (fun i=>ns-i) 0 (Am _) dF ?_
 intro i hi K hK hX
 by_cases hlt:i<j0
 ·have hg:=hallSrc i hlt
  obtain ⟨v,hat⟩:∃v,ess[i]? = some v:=⟨_,Ab aA⟩
  have hx:=eV hat
  have hok:ktS.ok v:=oH (w3 v (Af hat))
  have hm:=(hg v hat).1
  by_cases h0:i=0
  ·clear hg
   obtain ⟨vt,vs'⟩:=v
   simp only at hx
   repeat' (first|(refine aC ?_;intro K hK hX)|refine bL0 ?_|(refine aG hK hX ?_;clear hK hX K)|fail)
   exact dS
  ·obtain ⟨u,hau⟩:∃u,ess[i-1]? = some u:=⟨_,Ab aA⟩
   have hxu:=eV hau
   rw [show i-1=((i:Int)-1).toNat from by omega] at hxu
   have hcm:=nU u v
   have hclt:=rT u v
   obtain ⟨z,hz⟩:∃z,aG0 u v=z:=⟨_,rfl⟩
   rw [hz] at hcm hclt
   have hge:z<0:=hclt.2 ((hg v hat).2 u aA hau)
   clear hg hclt hz
   obtain ⟨vt,vs'⟩:=v
   obtain ⟨ut,us'⟩:=u
   simp only at hx hxu
   repeat' (first|(refine aC ?_;intro K hK hX)|refine aH0 ?_|(refine aG hK hX ?_;clear hK hX K)|fail)
   exact dS
 ·obtain hij:j0=i:=by omega
  rw [hij] at hbad hj
  obtain ⟨v,hat⟩:∃v,ess[i]? = some v:=⟨_,Ab aA⟩
  have hx:=eV hat
  have hok:ktS.ok v:=oH (w3 v (Af hat))
  by_cases hm:v∈ss
  ·obtain ⟨vt,vs'⟩:=v
   simp only at hx
   repeat' (first|(refine aC ?_;intro K hK hX)|refine dL9 ?_|(refine aG hK hX ?_;clear hK hX K)|fail)
   exact eR
  ·by_cases h0:i=0
   ·refine absurd (fun v' hv'=>?_) hbad
    rw [hat] at hv'
    injection hv' with hv'
    subst hv'
    exact aU8
   ·obtain ⟨u,hau⟩:∃u,ess[i-1]? = some u:=⟨_,Ab aA⟩
    have hxu:=eV hau
    rw [show i-1=((i:Int)-1).toNat from by omega] at hxu
    have hcm:=nU u v
    have hclt:=rT u v
    obtain ⟨z,hz⟩:∃z,aG0 u v=z:=⟨_,rfl⟩
    rw [hz] at hcm hclt
    have hge:¬z<0:=fun hz0=>hbad fun v' hv'=>by
     rw [hat] at hv'
     injection hv' with hv'
     subst hv'
     refine ⟨hm,fun u' _ hu'=>?_⟩
     rw [hau] at hu'
     injection hu' with hu'
     subst hu'
     exact hclt.1 hz0
    clear hclt hz
    obtain ⟨vt,vs'⟩:=v
    obtain ⟨ut,us'⟩:=u
    simp only at hx hxu
    repeat' (first|(refine aC ?_;intro K hK hX)|refine aH0 ?_|(refine aG hK hX ?_;clear hK hX K)|fail)
    exact eR
theorem dD4 (p1:e.plan=(t.er:Int)) (p2:¬nv=0) (p3:¬512<a1+nv) (p4:¬512<a2+ns) (hallVer:∀q,q<nv->kZ ltV t.vs e.vs q) (j0:Nat) (hj:j0<ns) (hbad:¬kZ ltS t.ss e.ss j0) (hallSrc:∀q,q<j0->kZ ltS t.ss e.ss q):ACG Tryz.prog 121 6 (tlH t) [.agg (ecs e nv ns)] (tlH t) (bv false):=by
 have hel:=cK hw.root nv ns
 obtain ⟨t1,t2,t3,t4,t5,t6⟩:=ht
 have w2:=hw.vs
 have w3:=hw.ss
 clear hw
 have hvl:(vrc e.vs).length=nv*3:=by rw [dC,hnv]
 have hsl:(src e.ss).length=ns*2:=by rw [dV,hns]
 have hoV:∀q∈t.vs,ktV.ok q:=fun q hq=>pV (t5 q hq)
 have hoS:∀q∈t.ss,ktS.ok q:=fun q hq=>oH (t6 q hq)
 have hc2:(ecs e nv ns)[2]? = some (iv e.plan):=rfl
 have hc31:(ecs e nv ns)[31]? = some (.sl 3 nv (vrc e.vs)):=rfl
 have hc32:(ecs e nv ns)[32]? = some (.sl 2 ns (src e.ss)):=rfl
 generalize ecs e nv ns=cs at *
 obtain ⟨so,day,er,sg,bg,co,st,vs,ss⟩:=t
 obtain ⟨k,eday,plan,step,rq,lk',hd,evs,ess,root⟩:=e
 dsimp only [tlH] at *
 clear hel
 refine cW aB [.ref 0 0,.mh 1,.mh 2,.mh 3,.mh 4,.mh 5] (sz:=110) Tryz.func121 rfl mJ rfl rfl rfl rfl (iU ⟨so,day,er,sg,bg,co,st,vs,ss⟩) (iV ⟨so,day,er,sg,bg,co,st,vs,ss⟩) ?_
 repeat' (first|(refine aC ?_;intro K hK hX)|refine aM7 ?_|(refine aG hK hX ?_;clear hK hX K)|fail)
 refine bH [53,50] [] rfl rfl (fun i:Nat=>[(53,.c (iv i))]) (fun i=>[]) (fun i=>i<=nv) (fun i=>nv-i) 0 (Am _) dF ?_
 intro i hi K hK hX
 by_cases hlt:i<nv
 ·have hg:=hallVer i hlt
  obtain ⟨v,hat⟩:∃v,evs[i]? = some v:=⟨_,Ab aA⟩
  have hx:=eG hat
  have hok:ktV.ok v:=pV (w2 v (Af hat))
  have hm:=(hg v hat).1
  by_cases h0:i=0
  ·clear hg
   obtain ⟨vt,vc,vs'⟩:=v
   simp only at hx
   repeat' (first|(refine aC ?_;intro K hK hX)|refine cD8 ?_|(refine aG hK hX ?_;clear hK hX K)|fail)
   exact dS
  ·obtain ⟨u,hau⟩:∃u,evs[i-1]? = some u:=⟨_,Ab aA⟩
   have hxu:=eG hau
   rw [show i-1=((i:Int)-1).toNat from by omega] at hxu
   have hcm:=qG u v
   have hclt:=oV u v
   obtain ⟨z,hz⟩:∃z,aM8 u v=z:=⟨_,rfl⟩
   rw [hz] at hcm hclt
   have hge:z<0:=hclt.2 ((hg v hat).2 u aA hau)
   clear hg hclt hz
   obtain ⟨vt,vc,vs'⟩:=v
   obtain ⟨ut,uc,us'⟩:=u
   simp only at hx hxu
   repeat' (first|(refine aC ?_;intro K hK hX)|refine bK8 ?_|(refine aG hK hX ?_;clear hK hX K)|fail)
   exact dS
 ·repeat' (first|(refine aC ?_;intro K hK hX)|refine bL6 ?_|(refine aG hK hX ?_;clear hK hX K)|fail)
  refine bH [83,80] [] rfl rfl (fun i:Nat=>[(83,.c (iv i))]) (fun i=>[]) (fun i=>i<=j0) (fun i=>ns-i) 0 (Am _) dF ?_
  intro i hi K hK hX
  by_cases hlt:i<j0
  ·have hg:=hallSrc i hlt
   obtain ⟨v,hat⟩:∃v,ess[i]? = some v:=⟨_,Ab aA⟩
   have hx:=eV hat
   have hok:ktS.ok v:=oH (w3 v (Af hat))
   have hm:=(hg v hat).1
   by_cases h0:i=0
   ·clear hg
    obtain ⟨vt,vs'⟩:=v
    simp only at hx
    repeat' (first|(refine aC ?_;intro K hK hX)|refine bL0 ?_|(refine aG hK hX ?_;clear hK hX K)|fail)
    exact dS
   ·obtain ⟨u,hau⟩:∃u,ess[i-1]? = some u:=⟨_,Ab aA⟩
    have hxu:=eV hau
    rw [show i-1=((i:Int)-1).toNat from by omega] at hxu
    have hcm:=nU u v
    have hclt:=rT u v
    obtain ⟨z,hz⟩:∃z,aG0 u v=z:=⟨_,rfl⟩
    rw [hz] at hcm hclt
    have hge:z<0:=hclt.2 ((hg v hat).2 u aA hau)
    clear hg hclt hz
    obtain ⟨vt,vs'⟩:=v
    obtain ⟨ut,us'⟩:=u
    simp only at hx hxu
    repeat' (first|(refine aC ?_;intro K hK hX)|refine aH0 ?_|(refine aG hK hX ?_;clear hK hX K)|fail)
    exact dS
  ·obtain hij:j0=i:=by omega
   rw [hij] at hbad hj
   obtain ⟨v,hat⟩:∃v,ess[i]? = some v:=⟨_,Ab aA⟩
   have hx:=eV hat
   have hok:ktS.ok v:=oH (w3 v (Af hat))
   by_cases hm:v∈ss
   ·obtain ⟨vt,vs'⟩:=v
    simp only at hx
    repeat' (first|(refine aC ?_;intro K hK hX)|refine dL9 ?_|(refine aG hK hX ?_;clear hK hX K)|fail)
    exact eR
   ·by_cases h0:i=0
    ·refine absurd (fun v' hv'=>?_) hbad
     rw [hat] at hv'
     injection hv' with hv'
     subst hv'
     exact aU8
    ·obtain ⟨u,hau⟩:∃u,ess[i-1]? = some u:=⟨_,Ab aA⟩
     have hxu:=eV hau
     rw [show i-1=((i:Int)-1).toNat from by omega] at hxu
     have hcm:=nU u v
     have hclt:=rT u v
     obtain ⟨z,hz⟩:∃z,aG0 u v=z:=⟨_,rfl⟩
     rw [hz] at hcm hclt
     have hge:¬z<0:=fun hz0=>hbad fun v' hv'=>by
      rw [hat] at hv'
      injection hv' with hv'
      subst hv'
      refine ⟨hm,fun u' _ hu'=>?_⟩
      rw [hau] at hu'
      injection hu' with hu'
      subst hu'
      exact hclt.1 hz0
     clear hclt hz
     obtain ⟨vt,vs'⟩:=v
     obtain ⟨ut,us'⟩:=u
     simp only at hx hxu
     repeat' (first|(refine aC ?_;intro K hK hX)|refine aH0 ?_|(refine aG hK hX ?_;clear hK hX K)|fail)
     exact eR
theorem dD5 (p1:e.plan=(t.er:Int)) (p2:nv=0) (p2':¬ns=0) (p3:¬512<a1+nv) (p4:¬512<a2+ns) (hallSrc:∀q,q<ns->kZ ltS t.ss e.ss q):ACG Tryz.prog 121 6 (tlH t) [.agg (ecs e nv ns)] (tlH t) (bv true):=by
 have hel:=cK hw.root nv ns
 obtain ⟨t1,t2,t3,t4,t5,t6⟩:=ht
 have w2:=hw.vs
 have w3:=hw.ss
 clear hw
 have hvl:(vrc e.vs).length=nv*3:=by rw [dC,hnv]
 have hsl:(src e.ss).length=ns*2:=by rw [dV,hns]
 have hoV:∀q∈t.vs,ktV.ok q:=fun q hq=>pV (t5 q hq)
 have hoS:∀q∈t.ss,ktS.ok q:=fun q hq=>oH (t6 q hq)
 have hc2:(ecs e nv ns)[2]? = some (iv e.plan):=rfl
 have hc31:(ecs e nv ns)[31]? = some (.sl 3 nv (vrc e.vs)):=rfl
 have hc32:(ecs e nv ns)[32]? = some (.sl 2 ns (src e.ss)):=rfl
 generalize ecs e nv ns=cs at *
 obtain ⟨so,day,er,sg,bg,co,st,vs,ss⟩:=t
 obtain ⟨k,eday,plan,step,rq,lk',hd,evs,ess,root⟩:=e
 dsimp only [tlH] at *
 clear hel
 refine cW aB [.ref 0 0,.mh 1,.mh 2,.mh 3,.mh 4,.mh 5] (sz:=110) Tryz.func121 rfl mJ rfl rfl rfl rfl (iU ⟨so,day,er,sg,bg,co,st,vs,ss⟩) (iV ⟨so,day,er,sg,bg,co,st,vs,ss⟩) ?_
 repeat' (first|(refine aC ?_;intro K hK hX)|refine aM7 ?_|(refine aG hK hX ?_;clear hK hX K)|fail)
 refine bH [53,50] [] rfl rfl (fun i:Nat=>[(53,.c (iv i))]) (fun i=>[]) (fun i=>i<=nv) (fun i=>nv-i) 0 (Am _) dF ?_
 intro i hi K hK hX
 repeat' (first|(refine aC ?_;intro K hK hX)|refine bL6 ?_|(refine aG hK hX ?_;clear hK hX K)|fail)
 refine bH [83,80] [] rfl rfl (fun i:Nat=>[(83,.c (iv i))]) (fun i=>[]) (fun i=>i<=ns) (fun i=>ns-i) 0 (Am _) dF ?_
 intro i hi K hK hX
 by_cases hlt:i<ns
 ·have hg:=hallSrc i hlt
  obtain ⟨v,hat⟩:∃v,ess[i]? = some v:=⟨_,Ab aA⟩
  have hx:=eV hat
  have hok:ktS.ok v:=oH (w3 v (Af hat))
  have hm:=(hg v hat).1
  by_cases h0:i=0
  ·clear hg
   obtain ⟨vt,vs'⟩:=v
   simp only at hx
   repeat' (first|(refine aC ?_;intro K hK hX)|refine bL0 ?_|(refine aG hK hX ?_;clear hK hX K)|fail)
   exact dS
  ·obtain ⟨u,hau⟩:∃u,ess[i-1]? = some u:=⟨_,Ab aA⟩
   have hxu:=eV hau
   rw [show i-1=((i:Int)-1).toNat from by omega] at hxu
   have hcm:=nU u v
   have hclt:=rT u v
   obtain ⟨z,hz⟩:∃z,aG0 u v=z:=⟨_,rfl⟩
   rw [hz] at hcm hclt
   have hge:z<0:=hclt.2 ((hg v hat).2 u aA hau)
   clear hg hclt hz
   obtain ⟨vt,vs'⟩:=v
   obtain ⟨ut,us'⟩:=u
   simp only at hx hxu
   repeat' (first|(refine aC ?_;intro K hK hX)|refine aH0 ?_|(refine aG hK hX ?_;clear hK hX K)|fail)
   exact dS
 ·repeat' (first|(refine aC ?_;intro K hK hX)|refine bE [0,1,3,4,5,6,7,8,51,52,53,81,82,83] ?_|refine stA ?_|refine stD ?_|(refine aG hK hX ?_;clear hK hX K)|fail)
  exact eR
theorem dD6 (p1:e.plan=(t.er:Int)) (p2:¬nv=0) (p3:¬512<a1+nv) (p4:¬512<a2+ns) (hallVer:∀q,q<nv->kZ ltV t.vs e.vs q) (hallSrc:∀q,q<ns->kZ ltS t.ss e.ss q):ACG Tryz.prog 121 6 (tlH t) [.agg (ecs e nv ns)] (tlH t) (bv true):=by
 have hel:=cK hw.root nv ns
 obtain ⟨t1,t2,t3,t4,t5,t6⟩:=ht
 have w2:=hw.vs
 have w3:=hw.ss
 clear hw
 have hvl:(vrc e.vs).length=nv*3:=by rw [dC,hnv]
 have hsl:(src e.ss).length=ns*2:=by rw [dV,hns]
 have hoV:∀q∈t.vs,ktV.ok q:=fun q hq=>pV (t5 q hq)
 have hoS:∀q∈t.ss,ktS.ok q:=fun q hq=>oH (t6 q hq)
 have hc2:(ecs e nv ns)[2]? = some (iv e.plan):=rfl
 have hc31:(ecs e nv ns)[31]? = some (.sl 3 nv (vrc e.vs)):=rfl
 have hc32:(ecs e nv ns)[32]? = some (.sl 2 ns (src e.ss)):=rfl
 generalize ecs e nv ns=cs at *
 obtain ⟨so,day,er,sg,bg,co,st,vs,ss⟩:=t
 obtain ⟨k,eday,plan,step,rq,lk',hd,evs,ess,root⟩:=e
 dsimp only [tlH] at *
 clear hel
 refine cW aB [.ref 0 0,.mh 1,.mh 2,.mh 3,.mh 4,.mh 5] (sz:=110) Tryz.func121 rfl mJ rfl rfl rfl rfl (iU ⟨so,day,er,sg,bg,co,st,vs,ss⟩) (iV ⟨so,day,er,sg,bg,co,st,vs,ss⟩) ?_
 repeat' (first|(refine aC ?_;intro K hK hX)|refine aM7 ?_|(refine aG hK hX ?_;clear hK hX K)|fail)
 refine bH [53,50] [] rfl rfl (fun i:Nat=>[(53,.c (iv i))]) (fun i=>[]) (fun i=>i<=nv) (fun i=>nv-i) 0 (Am _) dF ?_
 intro i hi K hK hX
 by_cases hlt:i<nv
 ·have hg:=hallVer i hlt
  obtain ⟨v,hat⟩:∃v,evs[i]? = some v:=⟨_,Ab aA⟩
  have hx:=eG hat
  have hok:ktV.ok v:=pV (w2 v (Af hat))
  have hm:=(hg v hat).1
  by_cases h0:i=0
  ·clear hg
   obtain ⟨vt,vc,vs'⟩:=v
   simp only at hx
   repeat' (first|(refine aC ?_;intro K hK hX)|refine cD8 ?_|(refine aG hK hX ?_;clear hK hX K)|fail)
   exact dS
  ·obtain ⟨u,hau⟩:∃u,evs[i-1]? = some u:=⟨_,Ab aA⟩
   have hxu:=eG hau
   rw [show i-1=((i:Int)-1).toNat from by omega] at hxu
   have hcm:=qG u v
   have hclt:=oV u v
   obtain ⟨z,hz⟩:∃z,aM8 u v=z:=⟨_,rfl⟩
   rw [hz] at hcm hclt
   have hge:z<0:=hclt.2 ((hg v hat).2 u aA hau)
   clear hg hclt hz
   obtain ⟨vt,vc,vs'⟩:=v
   obtain ⟨ut,uc,us'⟩:=u
   simp only at hx hxu
   repeat' (first|(refine aC ?_;intro K hK hX)|refine bK8 ?_|(refine aG hK hX ?_;clear hK hX K)|fail)
   exact dS
 ·repeat' (first|(refine aC ?_;intro K hK hX)|refine bL6 ?_|(refine aG hK hX ?_;clear hK hX K)|fail)
  refine bH [83,80] [] rfl rfl (fun i:Nat=>[(83,.c (iv i))]) (fun i=>[]) (fun i=>i<=ns) (fun i=>ns-i) 0 (Am _) dF ?_
  intro i hi K hK hX
  by_cases hlt:i<ns
  ·have hg:=hallSrc i hlt
   obtain ⟨v,hat⟩:∃v,ess[i]? = some v:=⟨_,Ab aA⟩
   have hx:=eV hat
   have hok:ktS.ok v:=oH (w3 v (Af hat))
   have hm:=(hg v hat).1
   by_cases h0:i=0
   ·clear hg
    obtain ⟨vt,vs'⟩:=v
    simp only at hx
    repeat' (first|(refine aC ?_;intro K hK hX)|refine bL0 ?_|(refine aG hK hX ?_;clear hK hX K)|fail)
    exact dS
   ·obtain ⟨u,hau⟩:∃u,ess[i-1]? = some u:=⟨_,Ab aA⟩
    have hxu:=eV hau
    rw [show i-1=((i:Int)-1).toNat from by omega] at hxu
    have hcm:=nU u v
    have hclt:=rT u v
    obtain ⟨z,hz⟩:∃z,aG0 u v=z:=⟨_,rfl⟩
    rw [hz] at hcm hclt
    have hge:z<0:=hclt.2 ((hg v hat).2 u aA hau)
    clear hg hclt hz
    obtain ⟨vt,vs'⟩:=v
    obtain ⟨ut,us'⟩:=u
    simp only at hx hxu
    repeat' (first|(refine aC ?_;intro K hK hX)|refine aH0 ?_|(refine aG hK hX ?_;clear hK hX K)|fail)
    exact dS
  ·repeat' (first|(refine aC ?_;intro K hK hX)|refine bE [0,1,3,4,5,6,7,8,51,52,53,81,82,83] ?_|refine stA ?_|refine stD ?_|(refine aG hK hX ?_;clear hK hX K)|fail)
   exact eR
end
theorem rZ {p:Nat->Prop} {n:Nat} (h:¬∀q,q<n->p q):∃j,j<n/\¬p j/\∀q,q<j->p q:=by
 refine Bb fun hne=>h fun q=>?_
 induction q using Nat.strongRecOn with
 | ind q ih =>
  intro hq
  exact Bb fun hn=>hne ⟨q,hq,hn,fun q' hq'=>ih q' hq' aA⟩
theorem dD7 (t:Tl) (ht:t.wf) (e:LEn) (hw:e.wf) (nv ns:Nat) (hnv:e.vs.length=nv) (hns:e.ss.length=ns) (hb1:nv<=1000000) (hb2:ns<=1000000) (a1 a2:Nat) (ha1:t.vs.length=a1) (ha2:t.ss.length=a2) (hb3:a1<=1000000) (hb4:a2<=1000000) (r:Bool) (hr:r=true↔cK7 t e):ACG Tryz.prog 121 6 (tlH t) [.agg (ecs e nv ns)] (tlH t) (bv r):=by
 unfold cK7 at hr
 rw [ha1,ha2,hnv,hns] at hr
 have hv0:e.vs≠[]↔nv≠0:=by rw [<- hnv];exact Cz Cj.symm
 have hs0:e.ss≠[]↔ns≠0:=by rw [<- hns];exact Cz Cj.symm
 rw [hv0,hs0,<- aO8 slo_V,<- aO8 slo_S,hnv,hns] at hr
 have key:∀b:Bool,(b=true↔r=true)->ACG Tryz.prog 121 6 (tlH t) [.agg (ecs e nv ns)] (tlH t) (bv b)->ACG Tryz.prog 121 6 (tlH t) [.agg (ecs e nv ns)] (tlH t) (bv r):=fun b hb h=>by
  have:b=r:=by cases b<;>cases r<;>simp_all
  rwa [this] at h
 have no:¬(e.plan = ↑t.er/\(nv≠0\/ns≠0)/\a1+nv<=512/\a2+ns<=512/\(∀j,j<nv->kZ ltV t.vs e.vs j)/\∀j,j<ns->kZ ltS t.ss e.ss j)->(false=true↔r=true):=fun hn=>⟨fun h=>absurd h aN,fun h=>absurd (hr.1 h) hn⟩
 by_cases p1:e.plan=(t.er:Int)
 ·by_cases p00:nv=0/\ns=0
  ·exact key false (no fun h=>by omega) (dY1 t ht e hw nv ns hnv hns hb1 hb2 a1 a2 ha1 ha2 hb3 hb4 p1 p00.1 p00.2)
  ·by_cases p3:512<a1+nv
   ·refine key false (no fun h=>by omega) ?_
    by_cases p2:nv=0
    ·exact dC8 t ht e hw nv ns hnv hns hb1 hb2 a1 a2 ha1 ha2 hb3 hb4 p1 p2 aA p3
    ·exact dC9 t ht e hw nv ns hnv hns hb1 hb2 a1 a2 ha1 ha2 hb3 hb4 p1 p2 p3
   ·by_cases p4:512<a2+ns
    ·refine key false (no fun h=>by omega) ?_
     by_cases p2:nv=0
     ·exact dD0 t ht e hw nv ns hnv hns hb1 hb2 a1 a2 ha1 ha2 hb3 hb4 p1 p2 aA p3 p4
     ·exact dD1 t ht e hw nv ns hnv hns hb1 hb2 a1 a2 ha1 ha2 hb3 hb4 p1 p2 p3 p4
    ·by_cases g1:∀q,q<nv->kZ ltV t.vs e.vs q
     ·by_cases g2:∀q,q<ns->kZ ltS t.ss e.ss q
      ·refine key true ⟨fun _=>hr.2 ⟨p1,by omega,by omega,by omega,g1,g2⟩,fun _=>rfl⟩ ?_
       by_cases p2:nv=0
       ·exact dD5 t ht e hw nv ns hnv hns hb1 hb2 a1 a2 ha1 ha2 hb3 hb4 p1 p2 aA p3 p4 g2
       ·exact dD6 t ht e hw nv ns hnv hns hb1 hb2 a1 a2 ha1 ha2 hb3 hb4 p1 p2 p3 p4 g1 g2
      ·refine key false (no fun h=>g2 h.2.2.2.2.2) ?_
       obtain ⟨j0,hj,hbad,hgd⟩:=rZ g2
       by_cases p2:nv=0
       ·exact dD3 t ht e hw nv ns hnv hns hb1 hb2 a1 a2 ha1 ha2 hb3 hb4 p1 p2 aA p3 p4 j0 hj hbad hgd
       ·exact dD4 t ht e hw nv ns hnv hns hb1 hb2 a1 a2 ha1 ha2 hb3 hb4 p1 p2 p3 p4 g1 j0 hj hbad hgd
     ·refine key false (no fun h=>g1 h.2.2.2.2.1) ?_
      obtain ⟨j0,hj,hbad,hgd⟩:=rZ g1
      by_cases p2:nv=0
      ·omega
      ·exact dD2 t ht e hw nv ns hnv hns hb1 hb2 a1 a2 ha1 ha2 hb3 hb4 p1 p2 p3 p4 j0 hj hbad hgd
 ·exact key false (no fun h=>p1 h.1) (dY0 t ht e hw nv ns hnv hns hb1 hb2 a1 a2 ha1 ha2 hb3 hb4 p1)
end Go.Proofs.YtbgehdndimlgkaaGreat
