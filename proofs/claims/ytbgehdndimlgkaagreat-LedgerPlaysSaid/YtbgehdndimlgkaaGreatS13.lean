/- Lemmas for laws of the ledger. -/
import Derived.Test.YtbgehdndimlgkaaGreatS10
set_option linter.all false
set_option maxHeartbeats 16000000
namespace Go.Proofs.YtbgehdndimlgkaaGreat
open Go Go.RowKit Go.Av
set_option maxRecDepth 100000
section
def ecs (e:LEn) (nv ns:Nat):D1 :=
 iv e.k::iv e.day::iv e.plan::iv e.step ::
 iv e.rq.k::sv e.rq.who.ns::iv e.rq.who.v.k::iv e.rq.who.v.n::sv e.rq.who.v.t::iv e.rq.s::iv e.rq.d::iv e.rq.dl ::
 sv e.lk.a.ns::iv e.lk.a.v.k::iv e.lk.a.v.n::sv e.lk.a.v.t::sv e.lk.b.ns::iv e.lk.b.v.k::iv e.lk.b.v.n::sv e.lk.b.v.t::iv e.lk.s::bv e.lk.rv ::
 iv e.hd.t::iv e.hd.c::sv e.hd.who.ns::iv e.hd.who.v.k::iv e.hd.who.v.n::sv e.hd.who.v.t::iv e.hd.s::iv e.hd.fr::iv e.hd.to ::
 .sl 3 nv (vrc e.vs) :: .sl 2 ns (src e.ss)::u8c e.root
theorem cK {e:LEn} (hr:e.root.length=32) (nv ns:Nat):(ecs e nv ns).length=65:=by
 simp only [ecs,Au,aH,hr]
theorem cU5 {h:aO} {id off k:Nat} {full:Bool} {T:Du} {cs:D1} {l:Dm} (ho:lk h id=some (.blk T (cs.map AV.c))) (hy:(cs.drop off).take k=u8c l) (hl:l.length=k):Go.Av.Src h (.own id off k 1 full) 1 k (u8c l):=by
 intro B dom M H w u hh hc hu
 simp only [Rep] at hu
 obtain ⟨hd,hu⟩:=hu
 have hyl:(u8c l).length=k*1:=by rw [aH,hl,A8]
 have hz:k=0->u8c l=[]:=fun h0=>An (by rw [hyl,h0])
 rcases hu with ⟨h1,h2,h3,h4⟩|⟨g,cp,h1,h2,h3,h4,h5⟩|⟨h1,h2,A,cp,h3,h4⟩
 ·rw [hz h1] at hyl ⊢
  exact ⟨none,0,[],by rw [h4,h1],hyl,by simp [RepCs],by simp,fun hn=>absurd hn aA⟩
 ·obtain ⟨us,hb,hr⟩:=iL hh hc ho hd h1
  have h6:=((RepL.toC hr).drop off).take k
  rw [hy] at h6
  have hus:(us.drop off).take k=zG l:=by
   have key:∀(l:Dm) (vs:Do),RepCs (bF B dom M H) w (u8c l) vs->vs=zG l:=by
    intro l
    induction l with
    | nil=>intro vs h;exact h
    | cons b l ih =>
     intro vs h
     obtain ⟨u,vs',rfl,h1,h2⟩:=h
     rw [ih vs' h2]
     simp only [RepC] at h1
     rw [h1];rfl
   exact key l _ h6
  refine ⟨_,cp,(us.drop off).take k,h2,hyl,h6,fun u hu=>by rw [hus] at hu;exact zH l u hu,fun hn=>⟨g,off,rfl,fun j x hj=>?_⟩⟩
  have hjk:j<k:=by
   rcases AE j k with h1|h1
   ·exact h1
   ·rw [AO kE] at hj;cases hj
  rw [Be hjk,AR] at hj
  exact jE (vs:=[]) (by rw [A4];exact hb) hj
 ·rw [hz h1] at hyl ⊢
  exact ⟨A,cp,[],by rw [h3,h1],hyl,by simp [RepCs],by simp,fun hn=>absurd hn aA⟩
attribute [local irreducible] Still Adds AWL AW Drw bX bY AC AWR cU Frz Go.Av.Src cQ Out InK ItK AsK RdK eP eI ACT ACA eW
attribute [local simp] bS bR bI
theorem cK6 (L:Dm) (m:Nat) (hL:L.length=m) (e:LEn) (hw:e.wf) (hk:aT e.k) (nv ns:Nat) (hnv:e.vs.length=nv) (hns:e.ss.length=ns) (m':Nat) (hm':(L++cM e).length=m') (hb:m'<=1000000):ACA Tryz.prog 144 5 1 m (u8c L) [.agg (ecs e nv ns)] (u8c (L++cM e)) m':=by
 have hul:=u8l hL
 have hul3:=u8l hm'
 have hel:=cK hw.root nv ns
 obtain ⟨X,hX⟩:∃X,L++(bA e.k++(bA e.day++(bA e.plan++bA e.step)))=X:=⟨_,rfl⟩
 obtain ⟨j,hj⟩:∃j,X.length=j:=⟨_,rfl⟩
 have ee:L++cM e=X++cN e:=by rw [<- hX,cM];simp only [Ao]
 have hjm:j+(cN e).length=m':=by rw [<- hm',<- hj,ee,Aa]
 obtain ⟨a1,a2,a3⟩:=hw.h1
 obtain ⟨b1,b2,b3,b4⟩:=hw.rq
 have c1':=hw.lk
 obtain ⟨d1,d2,d3,d4,d5⟩:=hw.hd
 have e1:=hw.vs
 have e2:=hw.ss
 have f1:=hw.root
 have i1:=eJ4 L m hL e.k e.day e.plan e.step hk a1 a2 a3 j kL aA
 rw [hX] at i1
 rw [ee] at hm' hul3 ⊢
 have hulx:=u8l hj
 clear hw a1 a2 a3 hX ee hk
 obtain ⟨k,day,plan,step,⟨rk,⟨rns,rvk,rvn,rvt⟩,rs,rd,rdl⟩,⟨⟨lns,lvk,lvn,lvt⟩,⟨mns,mvk,mvn,mvt⟩,ls,lrv⟩,⟨ht,hc,⟨hns',hvk,hvn,hvt⟩,hs,hfr,hto⟩,vs,ss,root⟩:=e
 dsimp only [ecs] at *
 have hur:=u8l f1
 by_cases k1:k=1
 ·subst k1
  have hbd:cN ⟨1,day,plan,step,⟨rk,⟨rns,rvk,rvn,rvt⟩,rs,rd,rdl⟩,⟨⟨lns,lvk,lvn,lvt⟩,⟨mns,mvk,mvn,mvt⟩,ls,lrv⟩,⟨ht,hc,⟨hns',hvk,hvn,hvt⟩,hs,hfr,hto⟩,vs,ss,root⟩=kI ⟨rk,⟨rns,rvk,rvn,rvt⟩,rs,rd,rdl⟩:=by simp [cN]
  rw [hbd] at hm' hul3 hjm ⊢
  clear hbd
  have i2:=bH3 X j hj ⟨rk,⟨rns,rvk,rvn,rvt⟩,rs,rd,rdl⟩ b1 b2 b3 b4 m' hm' hb
  dsimp only [LRq.cs] at i2
  refine dX aB (sz:=52) Tryz.func144 rfl vC (bO _) ?_
  repeat' (first|(refine aC ?_;intro K hK hX)|refine cD5 ?_|(refine aG hK hX ?_;clear hK hX K)|fail)
  exact kF
 by_cases k2:k=2
 ·subst k2
  have hbd:cN ⟨2,day,plan,step,⟨rk,⟨rns,rvk,rvn,rvt⟩,rs,rd,rdl⟩,⟨⟨lns,lvk,lvn,lvt⟩,⟨mns,mvk,mvn,mvt⟩,ls,lrv⟩,⟨ht,hc,⟨hns',hvk,hvn,hvt⟩,hs,hfr,hto⟩,vs,ss,root⟩=fQ eB vs++fQ eL ss:=by simp [cN]
  rw [hbd] at hm' hul3 hjm ⊢
  clear hbd
  obtain ⟨Y,hY⟩:∃Y,X++fQ eB vs=Y:=⟨_,rfl⟩
  obtain ⟨w,hw⟩:∃w,Y.length=w:=⟨_,rfl⟩
  rw [<- Ao,hY] at hm' hul3 ⊢
  have hwm:w<=m':=by rw [<- hm',<- hw,Aa];omega
  have i2:=bC3 X j hj vs nv hnv e1 w (by rw [hY,hw]) aA
  rw [hY] at i2
  have huly:=u8l hw
  have i3:=bJ3 Y w hw ss ns hns e2 m' hm' hb
  refine dX aB (sz:=52) Tryz.func144 rfl vC (bO _) ?_
  repeat' (first|(refine aC ?_;intro K hK hX)|refine fB [0,1,3,4,17] ?_|((with_reducible refine aF ?_);refine dI (i1) aE rfl zby rfl rfl zln rfl zcv (bO _) ?_)|((with_reducible refine bL ?_);refine gY (i1) aE rfl rfl zby rfl rfl zln rfl zcv (bO _) rfl ?_)|((with_reducible refine aF ?_);refine dI (i2) aE rfl zby rfl rfl zln rfl zcv (bO _) ?_)|((with_reducible refine bL ?_);refine gY (i2) aE rfl rfl zby rfl rfl zln rfl zcv (bO _) rfl ?_)|((with_reducible refine aF ?_);refine dI (i3) aE rfl zby rfl rfl zln rfl zcv (bO _) ?_)|((with_reducible refine bL ?_);refine gY (i3) aE rfl rfl zby rfl rfl zln rfl zcv (bO _) rfl ?_)|refine gX ?_|refine stA ?_|refine stE ?_|(refine aG hK hX ?_;clear hK hX K)|fail)
  exact kF
 by_cases k4:k=4
 ·subst k4
  have hbd:cN ⟨4,day,plan,step,⟨rk,⟨rns,rvk,rvn,rvt⟩,rs,rd,rdl⟩,⟨⟨lns,lvk,lvn,lvt⟩,⟨mns,mvk,mvn,mvt⟩,ls,lrv⟩,⟨ht,hc,⟨hns',hvk,hvn,hvt⟩,hs,hfr,hto⟩,vs,ss,root⟩=root:=by simp [cN]
  rw [hbd] at hm' hul3 hjm ⊢
  clear hbd
  have hj32:j+32=m':=by omega
  have hrt:((iv 4::iv day::iv plan::iv step::iv rk::sv rns::iv rvk::iv rvn::sv rvt::iv rs::iv rd::iv rdl::sv lns::iv lvk::iv lvn::sv lvt::sv mns::iv mvk::iv mvn::sv mvt::iv ls::bv lrv::iv ht::iv hc::sv hns'::iv hvk::iv hvn::sv hvt::iv hs::iv hfr::iv hto :: .sl 3 nv (vrc vs) :: .sl 2 ns (src ss)::u8c root:D1).drop (0+33+0*1)).take (32-0)=u8c root:=by
   show (u8c root).take 32=u8c root
   rw [Ad aA]
  refine dX aB (sz:=52) Tryz.func144 rfl vC (bO _) ?_
  repeat' (first|(refine aC ?_;intro K hK hX)|refine fB [0,1,3,4,17] ?_|((with_reducible refine aF ?_);refine dI (i1) aE rfl zby rfl rfl zln rfl zcv (bO _) ?_)|((with_reducible refine bL ?_);refine gY (i1) aE rfl rfl zby rfl rfl zln rfl zcv (bO _) rfl ?_)|((with_reducible refine wG ?_);refine yV aB aE rfl rfl rfl rfl rfl rfl rfl rfl aA rfl (cU5 rfl hrt f1) aA4 fU ?_)|refine gX ?_|refine stA ?_|refine stE ?_|(refine aG hK hX ?_;clear hK hX K)|fail)
  rw [show u8c X++u8c root=u8c (X++root) from (bI _ _).symm,show j+(32-0)=m' by omega]
  exact kF
 by_cases k6:k=6
 ·subst k6
  have hbd:cN ⟨6,day,plan,step,⟨rk,⟨rns,rvk,rvn,rvt⟩,rs,rd,rdl⟩,⟨⟨lns,lvk,lvn,lvt⟩,⟨mns,mvk,mvn,mvt⟩,ls,lrv⟩,⟨ht,hc,⟨hns',hvk,hvn,hvt⟩,hs,hfr,hto⟩,vs,ss,root⟩=kH ⟨⟨lns,lvk,lvn,lvt⟩,⟨mns,mvk,mvn,mvt⟩,ls,lrv⟩:=by simp [cN]
  rw [hbd] at hm' hul3 hjm ⊢
  clear hbd
  have i2:=dF2 X j hj ⟨⟨lns,lvk,lvn,lvt⟩,⟨mns,mvk,mvn,mvt⟩,ls,lrv⟩ c1' m' hm' hb
  dsimp only [LLk.cs] at i2
  refine dX aB (sz:=52) Tryz.func144 rfl vC (bO _) ?_
  repeat' (first|(refine aC ?_;intro K hK hX)|refine cD5 ?_|(refine aG hK hX ?_;clear hK hX K)|fail)
  exact kF
 by_cases k7:k=7
 ·subst k7
  have hbd:cN ⟨7,day,plan,step,⟨rk,⟨rns,rvk,rvn,rvt⟩,rs,rd,rdl⟩,⟨⟨lns,lvk,lvn,lvt⟩,⟨mns,mvk,mvn,mvt⟩,ls,lrv⟩,⟨ht,hc,⟨hns',hvk,hvn,hvt⟩,hs,hfr,hto⟩,vs,ss,root⟩=kG ⟨ht,hc,⟨hns',hvk,hvn,hvt⟩,hs,hfr,hto⟩:=by simp [cN]
  rw [hbd] at hm' hul3 hjm ⊢
  clear hbd
  have i2:=dE4 X j hj ⟨ht,hc,⟨hns',hvk,hvn,hvt⟩,hs,hfr,hto⟩ d1 d2 d3 d4 d5 m' hm' hb
  dsimp only [LHd.cs] at i2
  refine dX aB (sz:=52) Tryz.func144 rfl vC (bO _) ?_
  repeat' (first|(refine aC ?_;intro K hK hX)|refine cD5 ?_|(refine aG hK hX ?_;clear hK hX K)|fail)
  exact kF
 have hbd:cN ⟨k,day,plan,step,⟨rk,⟨rns,rvk,rvn,rvt⟩,rs,rd,rdl⟩,⟨⟨lns,lvk,lvn,lvt⟩,⟨mns,mvk,mvn,mvt⟩,ls,lrv⟩,⟨ht,hc,⟨hns',hvk,hvn,hvt⟩,hs,hfr,hto⟩,vs,ss,root⟩=[]:=by simp [cN,k1,k2,k4,k6,k7]
 rw [hbd,A4] at hm' hul3 ⊢
 have hjm2:j=m':=by omega
 clear hbd hjm
 refine dX aB (sz:=52) Tryz.func144 rfl vC (bO _) ?_
 repeat' (first|(refine aC ?_;intro K hK hX)|refine fB [0,1,3,4,17] ?_|((with_reducible refine aF ?_);refine dI (i1) aE rfl zby rfl rfl zln rfl zcv (bO _) ?_)|((with_reducible refine bL ?_);refine gY (i1) aE rfl rfl zby rfl rfl zln rfl zcv (bO _) rfl ?_)|refine gX ?_|refine stA ?_|refine stE ?_|(refine aG hK hX ?_;clear hK hX K)|fail)
 rw [hjm2]
 exact kF
end
section
theorem bS8:pW Tryz.prog 142 0:=by
 intro us w hl
 obtain ⟨_,rfl⟩:∃_:Unit,us=[]:=by
  match us,hl with | [],_=>exact ⟨(),rfl⟩
 refine callsD_of_wpS Tryz.func142 rfl fun c₀ cs hu=>?_
 apply wpS_region
 simp [wpOpsS,go_sem,recoverD,hu,Tryz.ntmps142,Exit.thenS]
 cases c₀
 simp_all [bodyPostS,results,Tryz.results142]
theorem aS8:Body Tryz.prog 142:=by unfold Body;kernel_rfl
theorem bT0:pW Tryz.prog 150 0:=by
 intro us w hl
 obtain ⟨_,rfl⟩:∃_:Unit,us=[]:=by
  match us,hl with | [],_=>exact ⟨(),rfl⟩
 refine callsD_of_wpS Tryz.func150 rfl fun c₀ cs hu=>?_
 apply wpS_region
 simp [wpOpsS,go_sem,recoverD,hu,Tryz.ntmps150,Exit.thenS]
 cases c₀
 simp_all [bodyPostS,results,Tryz.results150]
theorem aS9:Body Tryz.prog 150:=by unfold Body;kernel_rfl
section
variable {P:Dv} {tab:Tab} {ev:Evl} {h:aO} {d:Dt} {T ty:Du} {x:Operand} {pos:String} {aft:Ds} {gd:Dn} {i:Nat}
theorem bN {cs:D1} (hx:ev x=some (.c (.agg cs))):Adds P ⟨d,.box T x,ty,pos,aft,gd⟩ ev h (.ref i 0) [(i,.row T cs)] i (i+1):=by
 refine iO rfl fun B dom M H w a hh hc he=>?_
 obtain ⟨us,hu,hr,hon⟩:=he x _ hx
 refine ⟨_,_,some w.heap.size,aQ8 a.eval,fP _ _,fun g hg=>by injection hg with hg;omega,fun C hext hw hd hM=>⟨.inr ⟨w.heap.size,us,[],rfl,?_,RepCs.mono hext.ok _ _ hr,hon⟩,hd,w.heap.size,hM,rfl⟩⟩
 rw [hw,A4,hu];exact heap_alloc_new w _
end
attribute [local irreducible] Still Adds AWL AW Drw bX bY AC AWR cU Frz Go.Av.Src cQ Out InK ItK AsK RdK eP eI ACT ACA eW
attribute [local simp] bS bR bI
theorem aJ0 (a b:Dm) (m k q:Nat) (ha:a.length=m) (hb:b.length=k) (hk:0<k) (hm:m<=1000000) (hk2:k<=1000000) (hq:m+k=q):qC' 143 [.sl 1 m (u8c a),.sl 1 k (u8c b)] (.own 0 0 q 1 true) [(0,.row 5 (u8c (a++b)))] 1:=by
 subst hq
 refine aD aB (sz:=13) Tryz.func143 rfl (by rw [Tryz.ntmps143];rfl) ?_
 repeat' (first|(refine aC ?_;intro K hK hX)|refine aK [0,1,4] ?_|(refine cC2 aB rfl rfl rfl rfl rfl rfl rfl rfl rfl rfl rfl rfl rfl rfl rfl dU9 hk aA4 (by show (m+k)*1<=_;omega) ?_)|refine stA ?_|(refine aG hK hX ?_;clear hK hX K)|fail)
 rw [<- bI]
 exact aY
theorem aV8 (n:Int):0<(bA n).length:=kY _
theorem cK1 (e:LEn):0<(cM e).length:=by
 have:=aV8 e.k
 rw [cM,Aa]
 omega
theorem bK3 (a:Dm) (m:Nat) (ha:a.length=m) (hm:m<=1000000) (e:LEn) (hw:e.wf) (hk:aT e.k) (nv ns:Nat) (hnv:e.vs.length=nv) (hns:e.ss.length=ns) (n q:Nat) (hn:(cM e).length=n) (hb:n<=1000000) (hq:m+n=q):qC' 76 [.sl 1 m (u8c a),.agg (ecs e nv ns)] (.own 0 0 q 1 true) [(0,.row 5 (u8c (a++cM e)))] 1:=by
 have hel:=cK hw.root nv ns
 have i1:=ACA.nil (cK6 [] 0 rfl e hw hk nv ns hnv hns n (by simpa using hn) hb) (bO _)
 rw [Ay] at i1
 have hp:=cK1 e
 have i2:=aJ0 a (cM e) m n q ha hn aA hm hb hq
 have hul:=u8l hn
 have hfl:=yI (cM e)
 generalize hcs:ecs e nv ns=cs at *
 refine aD aB (sz:=9) Tryz.func76 rfl (by rw [Tryz.ntmps76];rfl) ?_
 repeat' (first|(refine aC ?_;intro K hK hX)|refine aK [0,1,3,4] ?_|((with_reducible refine bM ?_);refine yA ?_;refine bC (bN rfl) rfl ?_)|((with_reducible refine aF ?_);(refine yA ?_);(first|refine cF1 i1 ?_|refine cF1 i2 ?_))|refine stA ?_|(refine aG hK hX ?_;clear hK hX K)|fail)
 refine cV zio (by exact ⟨bS8,aS8,trivial⟩) rfl (ResL.one (ResA.tmp rfl)) zou
theorem cX7 (a:Dm) (m:Nat) (ha:a.length=m) (hm:m<=1000000) (x:Int) (hx:aT x) (n q:Nat) (hn:(bA x).length=n) (hb:n<=1000000) (hq:m+n=q):qC' 79 [.sl 1 m (u8c a),iv x] (.own 0 0 q 1 true) [(0,.row 5 (u8c (a++bA x)))] 1:=by
 have i1:=ACA.nil (uI [] 0 rfl x hx n (by simpa using hn) hb) (bO _)
 rw [Ay] at i1
 have hp:=aV8 x
 have i2:=aJ0 a (bA x) m n q ha hn aA hm hb hq
 have hul:=u8l hn
 have hfl:=yI (bA x)
 refine aD aB (sz:=10) Tryz.func79 rfl (by rw [Tryz.ntmps79];rfl) ?_
 repeat' (first|(refine aC ?_;intro K hK hX)|refine aK [0,1,4] ?_|((with_reducible refine aF ?_);(refine yA ?_);(first|refine cF1 i1 ?_|refine cF1 i2 ?_))|refine stA ?_|(refine aG hK hX ?_;clear hK hX K)|fail)
 refine cV zio (by exact ⟨bT0,aS9,trivial⟩) rfl (ResL.one (ResA.tmp rfl)) zou
end
end Go.Proofs.YtbgehdndimlgkaaGreat
