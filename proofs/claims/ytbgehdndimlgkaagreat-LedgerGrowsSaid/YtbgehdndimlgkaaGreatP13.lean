/- Lemmas for laws of the ledger. -/
import Derived.Test.YtbgehdndimlgkaaGreatP10
set_option linter.all false
set_option maxHeartbeats 16000000
namespace Go.Proofs.YtbgehdndimlgkaaGreat
open Go Go.RowKit Go.Av
set_option maxRecDepth 100000
section
def ecs (e:LEn) (nv ns:Nat):D8 :=
 iv e.k::iv e.day::iv e.plan::iv e.step ::
 iv e.rq.k::sv e.rq.who.ns::iv e.rq.who.v.k::iv e.rq.who.v.n::sv e.rq.who.v.t::iv e.rq.s::iv e.rq.d::iv e.rq.dl ::
 sv e.lk.a.ns::iv e.lk.a.v.k::iv e.lk.a.v.n::sv e.lk.a.v.t::sv e.lk.b.ns::iv e.lk.b.v.k::iv e.lk.b.v.n::sv e.lk.b.v.t::iv e.lk.s::bv e.lk.rv ::
 iv e.hd.t::iv e.hd.c::sv e.hd.who.ns::iv e.hd.who.v.k::iv e.hd.who.v.n::sv e.hd.who.v.t::iv e.hd.s::iv e.hd.fr::iv e.hd.to ::
 .sl 3 nv (vrc e.vs) :: .sl 2 ns (src e.ss)::u8c e.root
theorem cI {e:LEn} (hr:e.root.length=32) (nv ns:Nat):(ecs e nv ns).length=65:=by
 simp only [ecs,As,aH,hr]
theorem dB7 {h:aQ} {id off k:Nat} {full:Bool} {T:Dz} {cs:D8} {l:Dr} (ho:lk h id=some (.blk T (cs.map AV.c))) (hy:(cs.drop off).take k=u8c l) (hl:l.length=k):Go.Av.Src h (.own id off k 1 full) 1 k (u8c l):=by
 intro B dom M H w u hh hc hu
 simp only [Rep] at hu
 obtain ⟨hd,hu⟩:=hu
 have hyl:(u8c l).length=k*1:=by rw [aH,hl,A9]
 have hz:k=0->u8c l=[]:=fun h0=>An (by rw [hyl,h0])
 rcases hu with ⟨h1,h2,h3,h4⟩|⟨g,cp,h1,h2,h3,h4,h5⟩|⟨h1,h2,A,cp,h3,h4⟩
 ·rw [hz h1] at hyl ⊢
  exact ⟨none,0,[],by rw [h4,h1],hyl,by simp [RepCs],by simp,fun hn=>absurd hn aA⟩
 ·obtain ⟨us,hb,hr⟩:=jA hh hc ho hd h1
  have h6:=((RepL.toC hr).drop off).take k
  rw [hy] at h6
  have hus:(us.drop off).take k=aB6 l:=by
   have key:∀(l:Dr) (vs:Dt),RepCs (bG B dom M H) w (u8c l) vs->vs=aB6 l:=by
    intro l
    induction l with
    | nil=>intro vs h;exact h
    | cons b l ih =>
     intro vs h
     obtain ⟨u,vs',rfl,h1,h2⟩:=h
     rw [ih vs' h2]
     simp only [RepC] at h1
     rw [h1];rfl
   exact key l _ h6
  refine ⟨_,cp,(us.drop off).take k,h2,hyl,h6,fun u hu=>by rw [hus] at hu;exact aB7 l u hu,fun hn=>⟨g,off,rfl,fun j x hj=>?_⟩⟩
  have hjk:j<k:=by
   rcases AF j k with h1|h1
   ·exact h1
   ·rw [AR jE] at hj;cases hj
  rw [Bg hjk,AT] at hj
  exact jT (vs:=[]) (by rw [A1];exact hb) hj
 ·rw [hz h1] at hyl ⊢
  exact ⟨A,cp,[],by rw [h3,h1],hyl,by simp [RepCs],by simp,fun hn=>absurd hn aA⟩
attribute [local irreducible] Still Adds AWL AW Drw bY bW AC AWR cR Frz Go.Av.Src cQ Out InK ItK AsK RdK eL eF ACT ACA eT
attribute [local simp] bV bU bM
theorem cR9 (L:Dr) (m:Nat) (hL:L.length=m) (e:LEn) (hw:e.wf) (hk:aS e.k) (nv ns:Nat) (hnv:e.vs.length=nv) (hns:e.ss.length=ns) (m':Nat) (hm':(L++cC e).length=m') (hb:m'<=1000000):ACA Tryz.prog 144 5 1 m (u8c L) [.agg (ecs e nv ns)] (u8c (L++cC e)) m':=by
 have hul:=u8l hL
 have hul3:=u8l hm'
 have hel:=cI hw.root nv ns
 obtain ⟨X,hX⟩:∃X,L++(bA e.k++(bA e.day++(bA e.plan++bA e.step)))=X:=⟨_,rfl⟩
 obtain ⟨j,hj⟩:∃j,X.length=j:=⟨_,rfl⟩
 have ee:L++cC e=X++cU e:=by rw [<- hX,cC];simp only [Ao]
 have hjm:j+(cU e).length=m':=by rw [<- hm',<- hj,ee,Aa]
 obtain ⟨a1,a2,a3⟩:=hw.h1
 obtain ⟨b1,b2,b3,b4⟩:=hw.rq
 have c1':=hw.lk
 obtain ⟨d1,d2,d3,d4,d5⟩:=hw.hd
 have e1:=hw.vs
 have e2:=hw.ss
 have f1:=hw.root
 have i1:=eS1 L m hL e.k e.day e.plan e.step hk a1 a2 a3 j lB aA
 rw [hX] at i1
 rw [ee] at hm' hul3 ⊢
 have hulx:=u8l hj
 clear hw a1 a2 a3 hX ee hk
 obtain ⟨k,day,plan,step,⟨rk,⟨rns,rvk,rvn,rvt⟩,rs,rd,rdl⟩,⟨⟨lns,lvk,lvn,lvt⟩,⟨mns,mvk,mvn,mvt⟩,ls,lrv⟩,⟨ht,hc,⟨hns',hvk,hvn,hvt⟩,hs,hfr,hto⟩,vs,ss,root⟩:=e
 dsimp only [ecs] at *
 have hur:=u8l f1
 by_cases k1:k=1
 ·subst k1
  have hbd:cU ⟨1,day,plan,step,⟨rk,⟨rns,rvk,rvn,rvt⟩,rs,rd,rdl⟩,⟨⟨lns,lvk,lvn,lvt⟩,⟨mns,mvk,mvn,mvt⟩,ls,lrv⟩,⟨ht,hc,⟨hns',hvk,hvn,hvt⟩,hs,hfr,hto⟩,vs,ss,root⟩=kY ⟨rk,⟨rns,rvk,rvn,rvt⟩,rs,rd,rdl⟩:=by simp [cU]
  rw [hbd] at hm' hul3 hjm ⊢
  clear hbd
  have i2:=bN3 X j hj ⟨rk,⟨rns,rvk,rvn,rvt⟩,rs,rd,rdl⟩ b1 b2 b3 b4 m' hm' hb
  dsimp only [LRq.cs] at i2
  refine eD aB (sz:=52) Tryz.func144 rfl wQ (bR _) ?_
  repeat' (first|(refine aC ?_;intro K hK hX)|refine cK6 ?_|(refine aE hK hX ?_;clear hK hX K)|fail)
  exact kV
 by_cases k2:k=2
 ·subst k2
  have hbd:cU ⟨2,day,plan,step,⟨rk,⟨rns,rvk,rvn,rvt⟩,rs,rd,rdl⟩,⟨⟨lns,lvk,lvn,lvt⟩,⟨mns,mvk,mvn,mvt⟩,ls,lrv⟩,⟨ht,hc,⟨hns',hvk,hvn,hvt⟩,hs,hfr,hto⟩,vs,ss,root⟩=gE eK vs++gE eZ ss:=by simp [cU]
  rw [hbd] at hm' hul3 hjm ⊢
  clear hbd
  obtain ⟨Y,hY⟩:∃Y,X++gE eK vs=Y:=⟨_,rfl⟩
  obtain ⟨w,hw⟩:∃w,Y.length=w:=⟨_,rfl⟩
  rw [<- Ao,hY] at hm' hul3 ⊢
  have hwm:w<=m':=by rw [<- hm',<- hw,Aa];omega
  have i2:=bI4 X j hj vs nv hnv e1 w (by rw [hY,hw]) aA
  rw [hY] at i2
  have huly:=u8l hw
  have i3:=bO9 Y w hw ss ns hns e2 m' hm' hb
  refine eD aB (sz:=52) Tryz.func144 rfl wQ (bR _) ?_
  repeat' (first|(refine aC ?_;intro K hK hX)|refine fL [0,1,3,4,17] ?_|((with_reducible refine aF ?_);refine dR (i1) aG rfl zby rfl rfl zln rfl zcv (bR _) ?_)|((with_reducible refine bP ?_);refine iK (i1) aG rfl rfl zby rfl rfl zln rfl zcv (bR _) rfl ?_)|((with_reducible refine aF ?_);refine dR (i2) aG rfl zby rfl rfl zln rfl zcv (bR _) ?_)|((with_reducible refine bP ?_);refine iK (i2) aG rfl rfl zby rfl rfl zln rfl zcv (bR _) rfl ?_)|((with_reducible refine aF ?_);refine dR (i3) aG rfl zby rfl rfl zln rfl zcv (bR _) ?_)|((with_reducible refine bP ?_);refine iK (i3) aG rfl rfl zby rfl rfl zln rfl zcv (bR _) rfl ?_)|refine iJ ?_|refine stA ?_|refine stE ?_|(refine aE hK hX ?_;clear hK hX K)|fail)
  exact kV
 by_cases k4:k=4
 ·subst k4
  have hbd:cU ⟨4,day,plan,step,⟨rk,⟨rns,rvk,rvn,rvt⟩,rs,rd,rdl⟩,⟨⟨lns,lvk,lvn,lvt⟩,⟨mns,mvk,mvn,mvt⟩,ls,lrv⟩,⟨ht,hc,⟨hns',hvk,hvn,hvt⟩,hs,hfr,hto⟩,vs,ss,root⟩=root:=by simp [cU]
  rw [hbd] at hm' hul3 hjm ⊢
  clear hbd
  have hj32:j+32=m':=by omega
  have hrt:((iv 4::iv day::iv plan::iv step::iv rk::sv rns::iv rvk::iv rvn::sv rvt::iv rs::iv rd::iv rdl::sv lns::iv lvk::iv lvn::sv lvt::sv mns::iv mvk::iv mvn::sv mvt::iv ls::bv lrv::iv ht::iv hc::sv hns'::iv hvk::iv hvn::sv hvt::iv hs::iv hfr::iv hto :: .sl 3 nv (vrc vs) :: .sl 2 ns (src ss)::u8c root:D8).drop (0+33+0*1)).take (32-0)=u8c root:=by
   show (u8c root).take 32=u8c root
   rw [Ae aA]
  refine eD aB (sz:=52) Tryz.func144 rfl wQ (bR _) ?_
  repeat' (first|(refine aC ?_;intro K hK hX)|refine fL [0,1,3,4,17] ?_|((with_reducible refine aF ?_);refine dR (i1) aG rfl zby rfl rfl zln rfl zcv (bR _) ?_)|((with_reducible refine bP ?_);refine iK (i1) aG rfl rfl zby rfl rfl zln rfl zcv (bR _) rfl ?_)|((with_reducible refine uE ?_);refine aA8 aB aG rfl rfl rfl rfl rfl rfl rfl rfl aA rfl (dB7 rfl hrt f1) tZ fZ ?_)|refine iJ ?_|refine stA ?_|refine stE ?_|(refine aE hK hX ?_;clear hK hX K)|fail)
  rw [show u8c X++u8c root=u8c (X++root) from (bM _ _).symm,show j+(32-0)=m' by omega]
  exact kV
 by_cases k6:k=6
 ·subst k6
  have hbd:cU ⟨6,day,plan,step,⟨rk,⟨rns,rvk,rvn,rvt⟩,rs,rd,rdl⟩,⟨⟨lns,lvk,lvn,lvt⟩,⟨mns,mvk,mvn,mvt⟩,ls,lrv⟩,⟨ht,hc,⟨hns',hvk,hvn,hvt⟩,hs,hfr,hto⟩,vs,ss,root⟩=kX ⟨⟨lns,lvk,lvn,lvt⟩,⟨mns,mvk,mvn,mvt⟩,ls,lrv⟩:=by simp [cU]
  rw [hbd] at hm' hul3 hjm ⊢
  clear hbd
  have i2:=dM9 X j hj ⟨⟨lns,lvk,lvn,lvt⟩,⟨mns,mvk,mvn,mvt⟩,ls,lrv⟩ c1' m' hm' hb
  dsimp only [LLk.cs] at i2
  refine eD aB (sz:=52) Tryz.func144 rfl wQ (bR _) ?_
  repeat' (first|(refine aC ?_;intro K hK hX)|refine cK6 ?_|(refine aE hK hX ?_;clear hK hX K)|fail)
  exact kV
 by_cases k7:k=7
 ·subst k7
  have hbd:cU ⟨7,day,plan,step,⟨rk,⟨rns,rvk,rvn,rvt⟩,rs,rd,rdl⟩,⟨⟨lns,lvk,lvn,lvt⟩,⟨mns,mvk,mvn,mvt⟩,ls,lrv⟩,⟨ht,hc,⟨hns',hvk,hvn,hvt⟩,hs,hfr,hto⟩,vs,ss,root⟩=kW ⟨ht,hc,⟨hns',hvk,hvn,hvt⟩,hs,hfr,hto⟩:=by simp [cU]
  rw [hbd] at hm' hul3 hjm ⊢
  clear hbd
  have i2:=dM1 X j hj ⟨ht,hc,⟨hns',hvk,hvn,hvt⟩,hs,hfr,hto⟩ d1 d2 d3 d4 d5 m' hm' hb
  dsimp only [LHd.cs] at i2
  refine eD aB (sz:=52) Tryz.func144 rfl wQ (bR _) ?_
  repeat' (first|(refine aC ?_;intro K hK hX)|refine cK6 ?_|(refine aE hK hX ?_;clear hK hX K)|fail)
  exact kV
 have hbd:cU ⟨k,day,plan,step,⟨rk,⟨rns,rvk,rvn,rvt⟩,rs,rd,rdl⟩,⟨⟨lns,lvk,lvn,lvt⟩,⟨mns,mvk,mvn,mvt⟩,ls,lrv⟩,⟨ht,hc,⟨hns',hvk,hvn,hvt⟩,hs,hfr,hto⟩,vs,ss,root⟩=[]:=by simp [cU,k1,k2,k4,k6,k7]
 rw [hbd,A1] at hm' hul3 ⊢
 have hjm2:j=m':=by omega
 clear hbd hjm
 refine eD aB (sz:=52) Tryz.func144 rfl wQ (bR _) ?_
 repeat' (first|(refine aC ?_;intro K hK hX)|refine fL [0,1,3,4,17] ?_|((with_reducible refine aF ?_);refine dR (i1) aG rfl zby rfl rfl zln rfl zcv (bR _) ?_)|((with_reducible refine bP ?_);refine iK (i1) aG rfl rfl zby rfl rfl zln rfl zcv (bR _) rfl ?_)|refine iJ ?_|refine stA ?_|refine stE ?_|(refine aE hK hX ?_;clear hK hX K)|fail)
 rw [hjm2]
 exact kV
end
section
theorem bZ1:rH Tryz.prog 142 0:=by
 intro us w hl
 obtain ⟨_,rfl⟩:∃_:Unit,us=[]:=by
  match us,hl with | [],_=>exact ⟨(),rfl⟩
 refine callsD_of_wpS Tryz.func142 rfl fun c₀ cs hu=>?_
 apply wpS_region
 simp [wpOpsS,go_sem,recoverD,hu,Tryz.ntmps142,Exit.thenS]
 cases c₀
 simp_all [bodyPostS,results,Tryz.results142]
theorem aY6:Body Tryz.prog 142:=by unfold Body;kernel_rfl
theorem bZ3:rH Tryz.prog 150 0:=by
 intro us w hl
 obtain ⟨_,rfl⟩:∃_:Unit,us=[]:=by
  match us,hl with | [],_=>exact ⟨(),rfl⟩
 refine callsD_of_wpS Tryz.func150 rfl fun c₀ cs hu=>?_
 apply wpS_region
 simp [wpOpsS,go_sem,recoverD,hu,Tryz.ntmps150,Exit.thenS]
 cases c₀
 simp_all [bodyPostS,results,Tryz.results150]
theorem aY7:Body Tryz.prog 150:=by unfold Body;kernel_rfl
section
variable {P:D0} {tab:Tab} {ev:Evl} {h:aQ} {d:Dy} {T ty:Dz} {x:Operand} {pos:String} {aft:Dx} {gd:Ds} {i:Nat}
theorem bJ {cs:D8} (hx:ev x=some (.c (.agg cs))):Adds P ⟨d,.box T x,ty,pos,aft,gd⟩ ev h (.ref i 0) [(i,.row T cs)] i (i+1):=by
 refine jD rfl fun B dom M H w a hh hc he=>?_
 obtain ⟨us,hu,hr,hon⟩:=he x _ hx
 refine ⟨_,_,some w.heap.size,aW5 a.eval,gD _ _,fun g hg=>by injection hg with hg;omega,fun C hext hw hd hM=>⟨.inr ⟨w.heap.size,us,[],rfl,?_,RepCs.mono hext.ok _ _ hr,hon⟩,hd,w.heap.size,hM,rfl⟩⟩
 rw [hw,A1,hu];exact heap_alloc_new w _
end
attribute [local irreducible] Still Adds AWL AW Drw bY bW AC AWR cR Frz Go.Av.Src cQ Out InK ItK AsK RdK eL eF ACT ACA eT
attribute [local simp] bV bU bM
theorem aN4 (a b:Dr) (m k q:Nat) (ha:a.length=m) (hb:b.length=k) (hk:0<k) (hm:m<=1000000) (hk2:k<=1000000) (hq:m+k=q):qC' 143 [.sl 1 m (u8c a),.sl 1 k (u8c b)] (.own 0 0 q 1 true) [(0,.row 5 (u8c (a++b)))] 1:=by
 subst hq
 refine aD aB (sz:=13) Tryz.func143 rfl (by rw [Tryz.ntmps143];rfl) ?_
 repeat' (first|(refine aC ?_;intro K hK hX)|refine aL [0,1,4] ?_|(refine cI5 aB rfl rfl rfl rfl rfl rfl rfl rfl rfl rfl rfl rfl rfl rfl rfl eD1 hk tZ (by show (m+k)*1<=_;omega) ?_)|refine stA ?_|(refine aE hK hX ?_;clear hK hX K)|fail)
 rw [<- bM]
 exact aV
theorem bB4 (n:Int):0<(bA n).length:=lR _
theorem cR4 (e:LEn):0<(cC e).length:=by
 have:=bB4 e.k
 rw [cC,Aa]
 omega
theorem bP9 (a:Dr) (m:Nat) (ha:a.length=m) (hm:m<=1000000) (e:LEn) (hw:e.wf) (hk:aS e.k) (nv ns:Nat) (hnv:e.vs.length=nv) (hns:e.ss.length=ns) (n q:Nat) (hn:(cC e).length=n) (hb:n<=1000000) (hq:m+n=q):qC' 76 [.sl 1 m (u8c a),.agg (ecs e nv ns)] (.own 0 0 q 1 true) [(0,.row 5 (u8c (a++cC e)))] 1:=by
 have hel:=cI hw.root nv ns
 have i1:=ACA.nil (cR9 [] 0 rfl e hw hk nv ns hnv hns n (by simpa using hn) hb) (bR _)
 rw [Aw] at i1
 have hp:=cR4 e
 have i2:=aN4 a (cC e) m n q ha hn aA hm hb hq
 have hul:=u8l hn
 have hfl:=zS (cC e)
 generalize hcs:ecs e nv ns=cs at *
 refine aD aB (sz:=9) Tryz.func76 rfl (by rw [Tryz.ntmps76];rfl) ?_
 repeat' (first|(refine aC ?_;intro K hK hX)|refine aL [0,1,3,4] ?_|((with_reducible refine bH ?_);refine yA ?_;refine bE (bJ rfl) rfl ?_)|((with_reducible refine aF ?_);(refine yA ?_);(first|refine cF1 i1 ?_|refine cF1 i2 ?_))|refine stA ?_|(refine aE hK hX ?_;clear hK hX K)|fail)
 refine cZ zio (by exact ⟨bZ1,aY6,trivial⟩) rfl (ResL.one (ResA.tmp rfl)) zou
theorem dF4 (a:Dr) (m:Nat) (ha:a.length=m) (hm:m<=1000000) (x:Int) (hx:aS x) (n q:Nat) (hn:(bA x).length=n) (hb:n<=1000000) (hq:m+n=q):qC' 79 [.sl 1 m (u8c a),iv x] (.own 0 0 q 1 true) [(0,.row 5 (u8c (a++bA x)))] 1:=by
 have i1:=ACA.nil (vQ [] 0 rfl x hx n (by simpa using hn) hb) (bR _)
 rw [Aw] at i1
 have hp:=bB4 x
 have i2:=aN4 a (bA x) m n q ha hn aA hm hb hq
 have hul:=u8l hn
 have hfl:=zS (bA x)
 refine aD aB (sz:=10) Tryz.func79 rfl (by rw [Tryz.ntmps79];rfl) ?_
 repeat' (first|(refine aC ?_;intro K hK hX)|refine aL [0,1,4] ?_|((with_reducible refine aF ?_);(refine yA ?_);(first|refine cF1 i1 ?_|refine cF1 i2 ?_))|refine stA ?_|(refine aE hK hX ?_;clear hK hX K)|fail)
 refine cZ zio (by exact ⟨bZ3,aY7,trivial⟩) rfl (ResL.one (ResA.tmp rfl)) zou
end
end Go.Proofs.YtbgehdndimlgkaaGreat
