/- Lemmas for laws of the ledger. -/
import Derived.Test.YtbgehdndimlgkaaGreatS14
import Derived.Test.YtbgehdndimlgkaaGreatS19
import Derived.Test.YtbgehdndimlgkaaGreatS23
set_option linter.all false
set_option maxHeartbeats 16000000
namespace Go.Proofs.YtbgehdndimlgkaaGreat
open Go Go.RowKit Go.Av
set_option maxRecDepth 100000
section
attribute [local irreducible] Still Adds AWL AW Drw bX bY AC AWR cU Frz Go.Av.Src cQ Out InK ItK AsK RdK eP eI ACT ACA eW
attribute [local simp] bS bR bI
theorem rF {α:Type} {L c:List α} {o k:Nat} (h:(L.drop o).take k=c) (j:Nat) (hj:j<k):L[o+j]? = c[j]? := by
 rw [<- h,Be hj,AR]
theorem aZ1 (q:LRq) (h1:aT q.k) (h2:aT q.s) (h3:aT q.d) (h4:aT q.dl) (m':Nat) (hm':(kI q).length=m') (hb:m'<=1000000):qC' 129 [.agg q.cs] (.own 0 0 m' 1 true) [(0,.row 5 (u8c (kI q)))] 1:=by
 obtain ⟨j,hj⟩:∃j,(bA q.k).length=j:=⟨_,rfl⟩
 obtain ⟨w,hw⟩:∃w,(eA q.who).length=w:=⟨_,rfl⟩
 obtain ⟨x,hx⟩:∃x,(bA q.s++(bA q.d++bA q.dl)).length=x:=⟨_,rfl⟩
 have e:kI q=(bA q.k++eA q.who)++(bA q.s++(bA q.d++bA q.dl)):=by rw [kI];simp only [Ao]
 have hjm:j+w+x=m':=by rw [<- hm',e,Aa,Aa,hj,hw,hx]
 have i1:=eB8 q.k h1 j hj aA
 have i2:=sG q.who w hw aA
 have i3:=bH6 q.s q.d q.dl h2 h3 h4 x hx aA
 have hulj:=u8l hj
 have hulw:=u8l hw
 have hulx:=u8l hx
 have hulc:(u8c (bA q.k)++u8c (eA q.who)).length=j+w:=by rw [Aa,hulj,hulw]
 rw [e,bI,bI]
 obtain ⟨k,⟨ns,vk,vn,vt⟩,s,d,dl⟩:=q
 dsimp only [Idf.cs,LRq.cs,Vl.c] at *
 generalize u8c (bA k)=c1' at *
 generalize u8c (eA ⟨ns,⟨vk,vn,vt⟩⟩)=c2' at *
 generalize u8c (bA s++(bA d++bA dl))=c3' at *
 refine aD aB (sz:=20) Tryz.func129 rfl (by rw [Tryz.ntmps129];rfl) ?_
 repeat' (first|(refine aC ?_;intro K hK hX)|refine dN7 ?_|(refine aG hK hX ?_;clear hK hX K)|fail)
 rw [hjm]
 exact aY
theorem cR0 (q:LHd) (h1:aT q.t) (h2:aT q.c) (h3:aT q.s) (h4:aT q.fr) (h5:aT q.to) (m':Nat) (hm':(kG q).length=m') (hb:m'<=1000000):qC' 133 [.agg q.cs] (.own 0 0 m' 1 true) [(0,.row 5 (u8c (kG q)))] 1:=by
 obtain ⟨j,hj⟩:∃j,(bA q.t++bA q.c).length=j:=⟨_,rfl⟩
 obtain ⟨w,hw⟩:∃w,(eA q.who).length=w:=⟨_,rfl⟩
 obtain ⟨x,hx⟩:∃x,(bA q.s++(bA q.fr++bA q.to)).length=x:=⟨_,rfl⟩
 have e:kG q=((bA q.t++bA q.c)++eA q.who)++(bA q.s++(bA q.fr++bA q.to)):=by rw [kG];simp only [Ao]
 have hjm:j+w+x=m':=by rw [<- hm',e,Aa,Aa,hj,hw,hx]
 have i1:=bH5 q.t q.c h1 h2 j hj aA
 have i2:=sG q.who w hw aA
 have i3:=bH6 q.s q.fr q.to h3 h4 h5 x hx aA
 have hulj:=u8l hj
 have hulw:=u8l hw
 have hulx:=u8l hx
 have hulc:(u8c (bA q.t++bA q.c)++u8c (eA q.who)).length=j+w:=by rw [Aa,hulj,hulw]
 rw [e,bI,bI]
 obtain ⟨t,c,⟨ns,vk,vn,vt⟩,s,fr,to⟩:=q
 dsimp only [Idf.cs,LHd.cs,Vl.c] at *
 generalize u8c (bA t++bA c)=c1' at *
 generalize u8c (eA ⟨ns,⟨vk,vn,vt⟩⟩)=c2' at *
 generalize u8c (bA s++(bA fr++bA to))=c3' at *
 refine aD aB (sz:=22) Tryz.func133 rfl (by rw [Tryz.ntmps133];rfl) ?_
 repeat' (first|(refine aC ?_;intro K hK hX)|refine dN7 ?_|(refine aG hK hX ?_;clear hK hX K)|fail)
 rw [hjm]
 exact aY
theorem cR3 (q:LLk) (h1:aT q.s) (m':Nat) (hm':(kH q).length=m') (hb:m'<=1000000):qC' 132 [.agg q.cs] (.own 0 0 m' 1 true) [(0,.row 5 (u8c (kH q)))] 1:=by
 obtain ⟨j,hj⟩:∃j,(eA q.a).length=j:=⟨_,rfl⟩
 obtain ⟨w,hw⟩:∃w,(eA q.b).length=w:=⟨_,rfl⟩
 obtain ⟨r,hr⟩:∃r:Int,(if q.rv then (1:Int) else 0)=r:=⟨_,rfl⟩
 have hr64:aT r:=by rw [<- hr];split<;>exact ⟨by decide,by decide⟩
 obtain ⟨x,hx⟩:∃x,(bA q.s++bA r).length=x:=⟨_,rfl⟩
 have e:kH q=(eA q.a++eA q.b)++(bA q.s++bA r):=by rw [kH,hr];simp only [Ao]
 have hjm:j+w+x=m':=by rw [<- hm',e,Aa,Aa,hj,hw,hx]
 have i1:=sG q.a j hj aA
 have i2:=sG q.b w hw aA
 have i3:=bH5 q.s r h1 hr64 x hx aA
 have hulj:=u8l hj
 have hulw:=u8l hw
 have hulx:=u8l hx
 have hulc:(u8c (eA q.a)++u8c (eA q.b)).length=j+w:=by rw [Aa,hulj,hulw]
 rw [e,bI,bI]
 obtain ⟨⟨ns,vk,vn,vt⟩,⟨ns2,vk2,vn2,vt2⟩,s,rv⟩:=q
 dsimp only [Idf.cs,LLk.cs,Vl.c] at *
 generalize u8c (eA ⟨ns,⟨vk,vn,vt⟩⟩)=c1' at *
 generalize u8c (eA ⟨ns2,⟨vk2,vn2,vt2⟩⟩)=c2' at *
 generalize u8c (bA s++bA r)=c3' at *
 cases rv<;>simp only [AB,AQ,Bu] at hr<;>subst hr
 ·refine aD aB (sz:=19) Tryz.func132 rfl (by rw [Tryz.ntmps132];rfl) ?_
  repeat' (first|(refine aC ?_;intro K hK hX)|refine dN6 ?_|(refine aG hK hX ?_;clear hK hX K)|fail)
  rw [hjm]
  exact aY
 ·refine aD aB (sz:=19) Tryz.func132 rfl (by rw [Tryz.ntmps132];rfl) ?_
  repeat' (first|(refine aC ?_;intro K hK hX)|refine dN6 ?_|(refine aG hK hX ?_;clear hK hX K)|fail)
  rw [hjm]
  exact aY
theorem aQ9 (l:List Ver) (n:Nat) (hn:l.length=n) (hl:∀v∈l,aT v.t/\aT v.c/\aT v.s) (m':Nat) (hm':(fQ eB l).length=m') (hb:m'<=1000000):qC' 130 [.sl 3 n (vrc l)] (.own 0 0 m' 1 true) [(0,.row 5 (u8c (fQ eB l)))] 1:=by
 have hvl:(vrc l).length=n*3:=by rw [dC,hn]
 have hge:=sA aI8 l
 have hle:=uA (f:=eB) l
 obtain ⟨X,hX⟩:∃X,bA (n:Int)=X:=⟨_,rfl⟩
 obtain ⟨j,hj⟩:∃j,X.length=j:=⟨_,rfl⟩
 have e:fQ eB l=X++l.flatMap eB:=by rw [<- hX,fQ,hn]
 have hjm:j+(l.flatMap eB).length=m':=by rw [<- hm',<- hj,e,Aa]
 have i1:=jA (n:Int) ⟨by omega,by omega⟩ j kL
 rw [hX] at i1
 rw [e] at hm' ⊢
 have hulx:=u8l hj
 refine aD aB (sz:=34) Tryz.func130 rfl (by rw [Tryz.ntmps130];rfl) ?_
 repeat' (first|(refine aC ?_;intro K hK hX)|refine bE [0,2,3,4] ?_|(refine bZ ?_;refine c1 i1 ?_)|refine stA ?_|refine stD ?_|(refine aG hK hX ?_;clear hK hX K)|fail)
 refine cL 1 (fun p:Nat × Dm × Nat=>[(0,.c (.sl 3 n (vrc l))),(3,.own 0 0 p.2.2 1 true),(4,.c (iv p.1))]) (fun p=>[(0,.row 5 (u8c p.2.1))]) [] (fun p=>p.1<=n/\p.2.1.length=p.2.2/\p.2.1=X++(l.take p.1).flatMap eB) (fun p=>n-p.1) (0,X,j) ⟨by omega,hj,by simp⟩ eH ?_
 rintro ⟨i,q,w⟩ ⟨hi,hql,hq⟩ K hK hX
 dsimp only at hi hql hq hK ⊢
 have hulq:=u8l hql
 by_cases hlt:i<n
 ·obtain ⟨v,hat⟩:∃v,l[i]? = some v:=⟨_,Ab aA⟩
  have hlv:=hl v (Af hat)
  have hx:=eG hat
  have hst:q++eB v=X++(l.take (i+1)).flatMap eB:=by rw [hq,kP hat,Ao]
  have hmo:=hle (i+1)
  have hst2:=congrArg List.length hst
  rw [Aa,Aa] at hst2
  obtain ⟨w',hw'⟩:∃w',(eB v).length=w':=⟨_,rfl⟩
  have hulw:=u8l hw'
  obtain ⟨t,c,s⟩:=v
  have hx0:=rF hx 0 aN
  have hx1:=rF hx 1 aN
  have hx2:=rF hx 2 aN
  simp only [Bx,List.getElem?_cons_succ] at hx0 hx1 hx2
  have e3:eB ⟨t,c,s⟩=bA t++(bA s++bA c):=by rw [eB,Ao]
  have i2:=bH6 t s c hlv.1 hlv.2.2 hlv.2.1 w' aN8 aA
  rw [<- e3] at i2
  have hqw:=hw'
  generalize eB _=q' at i2 hw' hst hulw hqw hst2
  repeat' (first|(refine aC ?_;intro K hK hX)|refine dO1 ?_|(refine aG hK hX ?_;clear hK hX K)|fail)
  exact ⟨(i+1,q++q',w+w'),⟨by omega,by rw [Aa,hql,hqw],hst⟩,by simp only;omega,cE7⟩
 ·have hin:i=n:=by omega
  have hq':q=X++l.flatMap eB:=by rw [hq,Ad aA]
  have hwm:w=m':=by rw [<- hql,hq',hm']
  repeat' (first|(refine aC ?_;intro K hK hX)|refine fB [0,2,3,4] ?_|refine stA ?_|refine stE ?_|(refine aG hK hX ?_;clear hK hX K)|fail)
  rw [<- hq',<- hwm]
  exact aY
theorem aZ2 (l:List Src) (n:Nat) (hn:l.length=n) (hl:∀v∈l,aT v.t/\aT v.s) (m':Nat) (hm':(fQ eL l).length=m') (hb:m'<=1000000):qC' 131 [.sl 2 n (src l)] (.own 0 0 m' 1 true) [(0,.row 5 (u8c (fQ eL l)))] 1:=by
 have hvl:(src l).length=n*2:=by rw [dV,hn]
 have hge:=sA aI6 l
 have hle:=uA (f:=eL) l
 obtain ⟨X,hX⟩:∃X,bA (n:Int)=X:=⟨_,rfl⟩
 obtain ⟨j,hj⟩:∃j,X.length=j:=⟨_,rfl⟩
 have e:fQ eL l=X++l.flatMap eL:=by rw [<- hX,fQ,hn]
 have hjm:j+(l.flatMap eL).length=m':=by rw [<- hm',<- hj,e,Aa]
 have i1:=jA (n:Int) ⟨by omega,by omega⟩ j kL
 rw [hX] at i1
 rw [e] at hm' ⊢
 have hulx:=u8l hj
 refine aD aB (sz:=29) Tryz.func131 rfl (by rw [Tryz.ntmps131];rfl) ?_
 repeat' (first|(refine aC ?_;intro K hK hX)|refine bE [0,2,3,4] ?_|(refine bZ ?_;refine c1 i1 ?_)|refine stA ?_|refine stD ?_|(refine aG hK hX ?_;clear hK hX K)|fail)
 refine cL 1 (fun p:Nat × Dm × Nat=>[(0,.c (.sl 2 n (src l))),(3,.own 0 0 p.2.2 1 true),(4,.c (iv p.1))]) (fun p=>[(0,.row 5 (u8c p.2.1))]) [] (fun p=>p.1<=n/\p.2.1.length=p.2.2/\p.2.1=X++(l.take p.1).flatMap eL) (fun p=>n-p.1) (0,X,j) ⟨by omega,hj,by simp⟩ eH ?_
 rintro ⟨i,q,w⟩ ⟨hi,hql,hq⟩ K hK hX
 dsimp only at hi hql hq hK ⊢
 have hulq:=u8l hql
 by_cases hlt:i<n
 ·obtain ⟨v,hat⟩:∃v,l[i]? = some v:=⟨_,Ab aA⟩
  have hlv:=hl v (Af hat)
  have hx:=eV hat
  have hst:q++eL v=X++(l.take (i+1)).flatMap eL:=by rw [hq,kP hat,Ao]
  have hmo:=hle (i+1)
  have hst2:=congrArg List.length hst
  rw [Aa,Aa] at hst2
  obtain ⟨w',hw'⟩:∃w',(eL v).length=w':=⟨_,rfl⟩
  have hulw:=u8l hw'
  obtain ⟨t,s⟩:=v
  have hx0:=rF hx 0 aN
  have hx1:=rF hx 1 aN
  simp only [Bx,List.getElem?_cons_succ] at hx0 hx1
  have hx2:=hx1
  have e3:eL ⟨t,s⟩=bA t++bA s:=rfl
  have i2:=bH5 t s hlv.1 hlv.2 w' aN8 aA
  rw [<- e3] at i2
  have hqw:=hw'
  generalize eL _=q' at i2 hw' hst hulw hqw hst2
  repeat' (first|(refine aC ?_;intro K hK hX)|refine dO1 ?_|(refine aG hK hX ?_;clear hK hX K)|fail)
  exact ⟨(i+1,q++q',w+w'),⟨by omega,by rw [Aa,hql,hqw],hst⟩,by simp only;omega,cE7⟩
 ·have hin:i=n:=by omega
  have hq':q=X++l.flatMap eL:=by rw [hq,Ad aA]
  have hwm:w=m':=by rw [<- hql,hq',hm']
  repeat' (first|(refine aC ?_;intro K hK hX)|refine fB [0,2,3,4] ?_|refine stA ?_|refine stE ?_|(refine aG hK hX ?_;clear hK hX K)|fail)
  rw [<- hq',<- hwm]
  exact aY
end
section
attribute [local irreducible] Still Adds AWL AW Drw bX bY AC AWR cU Frz Go.Av.Src cQ Out InK ItK AsK RdK eP eI ACT ACA eW
attribute [local simp] bS bR bI
theorem aK5 (e:LEn) (hw:e.wf) (hk:aT e.k) (nv ns:Nat) (hnv:e.vs.length=nv) (hns:e.ss.length=ns) (m':Nat) (hm':(cM e).length=m') (hb:m'<=1000000):qC' 66 [.agg (ecs e nv ns)] (.own 0 0 m' 1 true) [(0,.row 5 (u8c (cM e)))] 1:=by
 have hel:=cK hw.root nv ns
 obtain ⟨X,hX⟩:∃X,bA e.k++(bA e.day++(bA e.plan++bA e.step))=X:=⟨_,rfl⟩
 obtain ⟨j,hj⟩:∃j,X.length=j:=⟨_,rfl⟩
 have ee:cM e=X++cN e:=by rw [<- hX,cM];simp only [Ao]
 have hjm:j+(cN e).length=m':=by rw [<- hm',<- hj,ee,Aa]
 obtain ⟨a1,a2,a3⟩:=hw.h1
 obtain ⟨b1,b2,b3,b4⟩:=hw.rq
 have c1':=hw.lk
 obtain ⟨d1,d2,d3,d4,d5⟩:=hw.hd
 have e1:=hw.vs
 have e2:=hw.ss
 have f1:=hw.root
 have i1:=eB9 e.k e.day e.plan e.step hk a1 a2 a3 j kL aA
 rw [hX] at i1
 rw [ee,bI]
 have hulx:=u8l hj
 clear hw a1 a2 a3 hX ee hk hm'
 obtain ⟨k,day,plan,step,⟨rk,⟨rns,rvk,rvn,rvt⟩,rs,rd,rdl⟩,⟨⟨lns,lvk,lvn,lvt⟩,⟨mns,mvk,mvn,mvt⟩,ls,lrv⟩,⟨ht,hc,⟨hns',hvk,hvn,hvt⟩,hs,hfr,hto⟩,vs,ss,root⟩:=e
 dsimp only [ecs] at *
 have hur:=u8l f1
 by_cases k1:k=1
 ·subst k1
  have hbd:cN ⟨1,day,plan,step,⟨rk,⟨rns,rvk,rvn,rvt⟩,rs,rd,rdl⟩,⟨⟨lns,lvk,lvn,lvt⟩,⟨mns,mvk,mvn,mvt⟩,ls,lrv⟩,⟨ht,hc,⟨hns',hvk,hvn,hvt⟩,hs,hfr,hto⟩,vs,ss,root⟩=kI ⟨rk,⟨rns,rvk,rvn,rvt⟩,rs,rd,rdl⟩:=by simp [cN]
  rw [hbd] at hjm ⊢
  clear hbd
  obtain ⟨w,hw⟩:∃w,(kI ⟨rk,⟨rns,rvk,rvn,rvt⟩,rs,rd,rdl⟩).length=w:=⟨_,rfl⟩
  rw [hw] at hjm
  have i2:=aZ1 ⟨rk,⟨rns,rvk,rvn,rvt⟩,rs,rd,rdl⟩ b1 b2 b3 b4 w hw aA
  have hulw:=u8l hw
  dsimp only [LRq.cs,LLk.cs,LHd.cs] at i2
  generalize u8c (kI ⟨rk,⟨rns,rvk,rvn,rvt⟩,rs,rd,rdl⟩)=c2' at *
  refine aD aB (sz:=56) Tryz.func66 rfl vG ?_
  repeat' (first|(refine aC ?_;intro K hK hX)|refine cE1 ?_|(refine aG hK hX ?_;clear hK hX K)|fail)
  rw [hjm]
  exact aY
 by_cases k2:k=2
 ·subst k2
  have hbd:cN ⟨2,day,plan,step,⟨rk,⟨rns,rvk,rvn,rvt⟩,rs,rd,rdl⟩,⟨⟨lns,lvk,lvn,lvt⟩,⟨mns,mvk,mvn,mvt⟩,ls,lrv⟩,⟨ht,hc,⟨hns',hvk,hvn,hvt⟩,hs,hfr,hto⟩,vs,ss,root⟩=fQ eB vs++fQ eL ss:=by simp [cN]
  rw [hbd] at hjm ⊢
  clear hbd
  obtain ⟨w,hw⟩:∃w,(fQ eB vs).length=w:=⟨_,rfl⟩
  obtain ⟨q,hq⟩:∃q,(fQ eL ss).length=q:=⟨_,rfl⟩
  rw [Aa,hw,hq] at hjm
  have i2:=aQ9 vs nv hnv e1 w hw aA
  have i3:=aZ2 ss ns hns e2 q hq aA
  have hulw:=u8l hw
  have hulq:=u8l hq
  have hulc:(u8c X++u8c (fQ eB vs)).length=j+w:=by rw [Aa,hulx,hulw]
  rw [bI,<- Ao]
  generalize u8c (fQ eB vs)=c2' at *
  generalize u8c (fQ eL ss)=c3' at *
  refine aD aB (sz:=56) Tryz.func66 rfl vG ?_
  repeat' (first|(refine aC ?_;intro K hK hX)|refine fB [0,1,2,3,15] ?_|((with_reducible refine bM ?_);refine yA ?_;refine bC (bN rfl) rfl ?_)|refine gX ?_|(refine iK ?_;first|refine c1 i1 ?_|refine c1 i2 ?_|refine c1 i3 ?_)|refine stA ?_|refine stE ?_|(refine aG hK hX ?_;clear hK hX K)|fail)
  rw [show j+w+q=m' by omega]
  exact aY
 by_cases k4:k=4
 ·subst k4
  have hbd:cN ⟨4,day,plan,step,⟨rk,⟨rns,rvk,rvn,rvt⟩,rs,rd,rdl⟩,⟨⟨lns,lvk,lvn,lvt⟩,⟨mns,mvk,mvn,mvt⟩,ls,lrv⟩,⟨ht,hc,⟨hns',hvk,hvn,hvt⟩,hs,hfr,hto⟩,vs,ss,root⟩=root:=by simp [cN]
  rw [hbd] at hjm ⊢
  clear hbd
  rw [f1] at hjm
  have i2:=zJ root f1
  have hrt:((iv 4::iv day::iv plan::iv step::iv rk::sv rns::iv rvk::iv rvn::sv rvt::iv rs::iv rd::iv rdl::sv lns::iv lvk::iv lvn::sv lvt::sv mns::iv mvk::iv mvn::sv mvt::iv ls::bv lrv::iv ht::iv hc::sv hns'::iv hvk::iv hvn::sv hvt::iv hs::iv hfr::iv hto :: .sl 3 nv (vrc vs) :: .sl 2 ns (src ss)::u8c root:D1).drop (0+33)).take 32=u8c root:=by
   show (u8c root).take 32=u8c root
   rw [Ad aA]
  refine aD aB (sz:=56) Tryz.func66 rfl vG ?_
  repeat' (first|(refine aC ?_;intro K hK hX)|refine fB [0,1,2,3,15] ?_|((with_reducible refine bM ?_);refine yA ?_;refine bC (bN rfl) rfl ?_)|refine gX ?_|(refine iK ?_;first|refine c1 i1 ?_|refine c1 i2 ?_)|refine aM9 ?_|refine stA ?_|refine stE ?_|(refine aG hK hX ?_;clear hK hX K)|fail)
  rw [hjm]
  exact aY
 by_cases k6:k=6
 ·subst k6
  have hbd:cN ⟨6,day,plan,step,⟨rk,⟨rns,rvk,rvn,rvt⟩,rs,rd,rdl⟩,⟨⟨lns,lvk,lvn,lvt⟩,⟨mns,mvk,mvn,mvt⟩,ls,lrv⟩,⟨ht,hc,⟨hns',hvk,hvn,hvt⟩,hs,hfr,hto⟩,vs,ss,root⟩=kH ⟨⟨lns,lvk,lvn,lvt⟩,⟨mns,mvk,mvn,mvt⟩,ls,lrv⟩:=by simp [cN]
  rw [hbd] at hjm ⊢
  clear hbd
  obtain ⟨w,hw⟩:∃w,(kH ⟨⟨lns,lvk,lvn,lvt⟩,⟨mns,mvk,mvn,mvt⟩,ls,lrv⟩).length=w:=⟨_,rfl⟩
  rw [hw] at hjm
  have i2:=cR3 ⟨⟨lns,lvk,lvn,lvt⟩,⟨mns,mvk,mvn,mvt⟩,ls,lrv⟩ c1' w hw aA
  have hulw:=u8l hw
  dsimp only [LRq.cs,LLk.cs,LHd.cs] at i2
  generalize u8c (kH ⟨⟨lns,lvk,lvn,lvt⟩,⟨mns,mvk,mvn,mvt⟩,ls,lrv⟩)=c2' at *
  refine aD aB (sz:=56) Tryz.func66 rfl vG ?_
  repeat' (first|(refine aC ?_;intro K hK hX)|refine cE1 ?_|(refine aG hK hX ?_;clear hK hX K)|fail)
  rw [hjm]
  exact aY
 by_cases k7:k=7
 ·subst k7
  have hbd:cN ⟨7,day,plan,step,⟨rk,⟨rns,rvk,rvn,rvt⟩,rs,rd,rdl⟩,⟨⟨lns,lvk,lvn,lvt⟩,⟨mns,mvk,mvn,mvt⟩,ls,lrv⟩,⟨ht,hc,⟨hns',hvk,hvn,hvt⟩,hs,hfr,hto⟩,vs,ss,root⟩=kG ⟨ht,hc,⟨hns',hvk,hvn,hvt⟩,hs,hfr,hto⟩:=by simp [cN]
  rw [hbd] at hjm ⊢
  clear hbd
  obtain ⟨w,hw⟩:∃w,(kG ⟨ht,hc,⟨hns',hvk,hvn,hvt⟩,hs,hfr,hto⟩).length=w:=⟨_,rfl⟩
  rw [hw] at hjm
  have i2:=cR0 ⟨ht,hc,⟨hns',hvk,hvn,hvt⟩,hs,hfr,hto⟩ d1 d2 d3 d4 d5 w hw aA
  have hulw:=u8l hw
  dsimp only [LRq.cs,LLk.cs,LHd.cs] at i2
  generalize u8c (kG ⟨ht,hc,⟨hns',hvk,hvn,hvt⟩,hs,hfr,hto⟩)=c2' at *
  refine aD aB (sz:=56) Tryz.func66 rfl vG ?_
  repeat' (first|(refine aC ?_;intro K hK hX)|refine cE1 ?_|(refine aG hK hX ?_;clear hK hX K)|fail)
  rw [hjm]
  exact aY
 have hbd:cN ⟨k,day,plan,step,⟨rk,⟨rns,rvk,rvn,rvt⟩,rs,rd,rdl⟩,⟨⟨lns,lvk,lvn,lvt⟩,⟨mns,mvk,mvn,mvt⟩,ls,lrv⟩,⟨ht,hc,⟨hns',hvk,hvn,hvt⟩,hs,hfr,hto⟩,vs,ss,root⟩=[]:=by simp [cN,k1,k2,k4,k6,k7]
 rw [hbd] at hjm ⊢
 rw [show u8c []=[] from rfl,A4]
 simp only [Bt,Ck] at hjm
 clear hbd
 refine aD aB (sz:=56) Tryz.func66 rfl vG ?_
 repeat' (first|(refine aC ?_;intro K hK hX)|refine fB [0,1,2,3,15] ?_|((with_reducible refine bM ?_);refine yA ?_;refine bC (bN rfl) rfl ?_)|refine gX ?_|(refine iK ?_;refine c1 i1 ?_)|refine stA ?_|refine stE ?_|(refine aG hK hX ?_;clear hK hX K)|fail)
 rw [hjm]
 exact aY
end
section
attribute [local irreducible] Still Adds AWL AW Drw bX bY AC AWR cU Frz Go.Av.Src cQ Out InK ItK AsK RdK eP eI ACT ACA eW
attribute [local simp] bS bR bI
theorem aY9 (e:LEn) (hw:e.wf) (hk:aT e.k) (hz:e.sz) (nv ns:Nat) (hnv:e.vs.length=nv) (hns:e.ss.length=ns):∃(x:LEn) (nv' ns':Nat) (r:Bool),x.vs.length=nv'/\x.ss.length=ns'/\x.root.length=32/\(r=true↔(pEn (cM e)).isSome=true)/\(r=true->∃t,pEn (cM e)=some (x,t))/\qC' 19 [.agg (ecs e nv ns)] (.tup [.c (.agg (ecs x nv' ns')),.c (bv r)]) [] 0:=by
 have hlen:=oY hw hk hz
 obtain ⟨n,hn⟩:∃n,(cM e).length=n:=⟨_,rfl⟩
 rw [hn] at hlen
 have hap:=aK5 e hw hk nv ns hnv hns n hn aA
 obtain ⟨x,s',nv',ns',q1,hv',hs',hrt,b',e',m',rfl,hac,q3,q4,q5⟩:=aD3 (cM e) 0 n hn aA
 have hel:=cK hw.root nv ns
 have hel':=cK hrt nv' ns'
 have hbl:(u8c (cM e)).length=n:=by rw [aH,hn]
 have hif:(decide (e'=0)=true↔(pEn (cM e)).isSome=true)/\(decide (e'=0)=true->∃t,pEn (cM e)=some (x,t)):=by
  rw [Bq]
  rcases rd_enR.of (cM e) with ⟨y,rr,h1,h2⟩|⟨h1,h2⟩
  ·rw [q1] at h2
   injection h2 with e1 h2
   injection h2 with _ h2
   rw [h1,e1]
   exact ⟨⟨fun _=>rfl,fun _=>h2⟩,fun _=>⟨rr,rfl⟩⟩
  ·rw [q1] at h2
   rw [h1]
   exact ⟨⟨fun h=>absurd h h2,fun h=>eS⟩,fun h=>absurd h h2⟩
 refine ⟨x,nv',ns',decide (e'=0),hv',hs',hrt,hif.1,hif.2,?_⟩
 generalize ecs e nv ns=cs at *
 generalize ecs x nv' ns'=cs' at *
 clear hif q1
 refine aD aB (sz:=18) Tryz.func19 rfl (by rw [Tryz.ntmps19];rfl) ?_
 repeat' (first|(refine aC ?_;intro K hK hX)|refine aK [0,1,2,3,4,5] ?_|((with_reducible refine aQ (i:=3) ?_);refine aP [0,1,2,3,4,5] rfl rfl ?_;refine bW [] ?_)|((with_reducible refine aQ ?_);refine aP [0,1,2,3,4,5] rfl rfl ?_;refine cJ [] ?_)|((with_reducible refine bM ?_);refine yA ?_;refine bC (bN (T:=49) rfl) rfl ?_)|((with_reducible refine aW ?_);refine yA ?_;refine bC (aR (T:=49) aB rfl rfl rfl) rfl ?_)|((first|with_reducible refine aF ?_|with_reducible refine gG ?_|with_reducible refine bL ?_);(first|refine wA ?_|refine wD ?_|refine wE ?_);refine oZ (dP (fG zby rfl (hap) zcv rfl) zln) ?_)|((with_reducible refine aF ?_);refine aJ (hac) aE rfl zby rfl rfl rfl rfl zcv rfl ztp ?_)|((with_reducible refine bL ?_);refine hQ (hac) aE rfl rfl zby rfl rfl rfl rfl zcv rfl ztp rfl ?_)|refine stA ?_|refine stD ?_|refine stE ?_|(refine aG hK hX ?_;clear hK hX K)|fail)
 exact gT
theorem rO (l:List Ver) (n:Nat) (hn:l.length=n) (hb:n<=1000000) (hw:∀x∈l,oG x) (v:Ver) (hv:oG v) (r:Bool) (hr:r=true↔v∈l):qC' 31 [.sl 3 n (vrc l),.agg [iv v.t,iv v.c,iv v.s]] (.c (bv r)) [] 0:=by
 have hh:=aD6 l n hn hb hw v hv r hr
 refine aD aB (sz:=8) Tryz.func31 rfl (by rw [Tryz.ntmps31];rfl) ?_
 repeat' (first|(refine aC ?_;intro K hK hX)|refine dN5 ?_|(refine aG hK hX ?_;clear hK hX K)|fail)
 exact aY
theorem sJ (l:List Src) (n:Nat) (hn:l.length=n) (hb:n<=1000000) (hw:∀x∈l,sP x) (v:Src) (hv:sP v) (r:Bool) (hr:r=true↔v∈l):qC' 29 [.sl 2 n (src l),.agg [iv v.t,iv v.s]] (.c (bv r)) [] 0:=by
 have hh:=wP l n hn hb hw v hv r hr
 refine aD aB (sz:=8) Tryz.func29 rfl (by rw [Tryz.ntmps29];rfl) ?_
 repeat' (first|(refine aC ?_;intro K hK hX)|refine dN5 ?_|(refine aG hK hX ?_;clear hK hX K)|fail)
 exact aY
end
structure Tl where
 so:Bool
 day:Int
 er:Nat
 sg:Nat
 bg:List Int
 co:List Int
 st:List (Int × Int)
 vs:List Ver
 ss:List Src
def Tl.new:Tl:=⟨false,0,0,0,[],[],[],[],[]⟩
def iH {κ:Type} [DecidableEq κ] (ks l:List κ):List κ:=l.foldl pC ks
def Tl.add (t:Tl) (e:LEn):Tl :=
 if e.k=2 then ⟨true,e.day,t.er+1,t.sg,pC t.bg e.plan,t.co,t.st,iH t.vs e.vs,iH t.ss e.ss⟩
 else if e.k=3 then ⟨true,e.day,t.er,t.sg,t.bg,t.co,pC t.st (e.plan,e.step),t.vs,t.ss⟩
 else if e.k=4 then ⟨true,e.day,t.er,t.sg,t.bg,pC t.co e.plan,t.st,t.vs,t.ss⟩
 else if e.k=5 then ⟨true,e.day,t.er,t.sg+1,t.bg,t.co,t.st,t.vs,t.ss⟩
 else ⟨true,e.day,t.er,t.sg,t.bg,t.co,t.st,t.vs,t.ss⟩
def Tl.of (l:List LEn):Tl:=l.foldl Tl.add Tl.new
theorem Tl.of_snoc (l:List LEn) (e:LEn):Tl.of (l++[e])=(Tl.of l).add e:=by unfold Tl.of;rw [CU];rfl
theorem bF8 {κ:Type} [DecidableEq κ] {ks:List κ} {k:κ} (h:ks.Nodup):(pC ks k).Nodup:=by
 unfold pC
 split
 ·exact h
 ·rename_i hn
  rw [List.nodup_append]
  refine ⟨h,by simp,fun a ha b hb e=>?_⟩
  rw [AX] at hb
  subst hb e
  exact hn ha
theorem mQ {κ:Type} [DecidableEq κ]:∀(l ks:List κ) (x:κ),x∈iH ks l↔x∈ks\/x∈l
 | [],ks,x=>by simp [iH]
 | k::l,ks,x=>by
  have:=mQ l (pC ks k) x
  unfold iH at *
  rw [Di,this,uH,A6,or_assoc]
theorem pB {κ:Type} [DecidableEq κ]:∀{l ks:List κ},ks.Nodup->(iH ks l).Nodup
 | [],ks,h=>h
 | k::l,ks,h=>by
  unfold iH
  rw [Di]
  exact pB (l:=l) (bF8 h)
theorem xN {κ:Type} [DecidableEq κ] (ks l:List κ) (k:κ):iH ks (l++[k])=pC (iH ks l) k:=by unfold iH;rw [CU];rfl
structure TlR (l:List LEn) (t:Tl):Prop where
 so:t.so=true↔l≠[]
 day:∀x,l.getLast? = some x->t.day=x.day
 er:t.er=nV l 2
 sg:t.sg=nV l 5
 bg:∀p,p∈t.bg↔jZ l 2 p
 co:∀p,p∈t.co↔jZ l 4 p
 st:∀p s,(p,s)∈t.st↔∃x∈l,x.k=3/\x.plan=p/\x.step=s
 vs:t.vs.Nodup/\∀v,v∈t.vs↔v∈iY l
 ss:t.ss.Nodup/\∀v,v∈t.ss↔v∈lO l
theorem wU (l:List LEn) (e:LEn) (p s:Int):(∃x∈l++[e],x.k=3/\x.plan=p/\x.step=s)↔(∃x∈l,x.k=3/\x.plan=p/\x.step=s)\/(e.k=3/\e.plan=p/\e.step=s):=by
 constructor
 ·rintro ⟨x,hx,h⟩
  rcases Az.1 hx with hx|hx
  ·exact .inl ⟨x,hx,h⟩
  ·rw [AX] at hx
   subst hx
   exact .inr h
 ·rintro (⟨x,hx,h⟩|h)
  ·exact ⟨x,Az.2 (.inl hx),h⟩
  ·exact ⟨e,by simp,h⟩
theorem bJ6 (l:List LEn):TlR l (Tl.of l):=by
 refine aF3 (p:=fun l=>TlR l (Tl.of l)) ?_ (fun l e ih=>?_) l
 ·exact ⟨by simp [Tl.of,Tl.new],fun x h=>by simp at h,rfl,rfl,fun p=>by simp [Tl.of,Tl.new,jZ],fun p=>by simp [Tl.of,Tl.new,jZ],fun p s=>by simp [Tl.of,Tl.new],⟨by simp [Tl.of,Tl.new],fun v=>by simp [Tl.of,Tl.new,iY]⟩,by simp [Tl.of,Tl.new],fun v=>by simp [Tl.of,Tl.new,lO]⟩
 ·rw [Tl.of_snoc]
  generalize Tl.of l=t at ih
  obtain ⟨h1,h2,h3,h4,h5,h6,h7,⟨h8,h9⟩,h10,h11⟩:=ih
  have hso:∀t':Tl,t'.so=true->(t'.so=true↔l++[e]≠[]):=fun t' h=>⟨fun _=>by simp,fun _=>h⟩
  have hday:∀t':Tl,t'.day=e.day->∀x,(l++[e]).getLast? = some x->t'.day=x.day:=fun t' h x hx=>by
   rw [List.getLast?_append] at hx
   simp at hx
   rw [h,hx]
  unfold Tl.add
  by_cases k2:e.k=2
  ·rw [Ak k2]
   refine ⟨hso _ rfl,hday _ rfl,?_,?_,fun p=>?_,fun p=>?_,fun p s=>?_,⟨pB h8,fun v=>?_⟩,pB h10,fun v=>?_⟩
   ·simp only;rw [jT,Ak k2,h3]
   ·simp only;rw [jT,Aj aA,h4];rfl
   ·simp only;rw [uH,lW,h5];exact or_congr C5 ⟨fun h=>⟨k2,h.symm⟩,fun h=>h.2.symm⟩
   ·simp only;rw [lW,h6];exact ⟨.inl,fun h=>h.elim id fun h=>by omega⟩
   ·simp only;rw [wU,h7];exact ⟨.inl,fun h=>h.elim id fun h=>by omega⟩
   ·simp only;rw [mQ,h9,nO,Ak k2,Az]
   ·simp only;rw [mQ,h11,uV,Ak k2,Az]
  ·rw [Aj k2]
   have hv:∀v,v∈t.vs↔v∈iY (l++[e]):=fun v=>by rw [h9,nO,Aj k2,A4]
   have hs:∀v,v∈t.ss↔v∈lO (l++[e]):=fun v=>by rw [h11,uV,Aj k2,A4]
   have he:t.er=nV (l++[e]) 2:=by rw [jT,Aj k2,h3];rfl
   have hb:∀p,p∈t.bg↔jZ (l++[e]) 2 p:=fun p=>by rw [lW,h5];exact ⟨.inl,fun h=>h.elim id fun h=>absurd h.1 k2⟩
   by_cases k3:e.k=3
   ·rw [Ak k3]
    refine ⟨hso _ rfl,hday _ rfl,he,?_,hb,fun p=>?_,fun p s=>?_,⟨h8,hv⟩,h10,hs⟩
    ·simp only;rw [jT,Aj aA,h4];rfl
    ·simp only;rw [lW,h6];exact ⟨.inl,fun h=>h.elim id fun h=>by omega⟩
    ·simp only
     rw [uH,wU,h7]
     refine or_congr C5 ⟨fun h=>?_,fun h=>?_⟩
     ·injection h with e1 e2;exact ⟨k3,e1.symm,e2.symm⟩
     ·rw [h.2.1,h.2.2]
   ·rw [Aj k3]
    have hst:∀p s,(p,s)∈t.st↔∃x∈l++[e],x.k=3/\x.plan=p/\x.step=s:=fun p s=>by rw [wU,h7];exact ⟨.inl,fun h=>h.elim id fun h=>absurd h.1 k3⟩
    by_cases k4:e.k=4
    ·rw [Ak k4]
     refine ⟨hso _ rfl,hday _ rfl,he,?_,hb,fun p=>?_,hst,⟨h8,hv⟩,h10,hs⟩
     ·simp only;rw [jT,Aj aA,h4];rfl
     ·simp only;rw [uH,lW,h6];exact or_congr C5 ⟨fun h=>⟨k4,h.symm⟩,fun h=>h.2.symm⟩
    ·rw [Aj k4]
     have hc:∀p,p∈t.co↔jZ (l++[e]) 4 p:=fun p=>by rw [lW,h6];exact ⟨.inl,fun h=>h.elim id fun h=>absurd h.1 k4⟩
     by_cases k5:e.k=5
     ·rw [Ak k5]
      refine ⟨hso _ rfl,hday _ rfl,he,?_,hb,hc,hst,⟨h8,hv⟩,h10,hs⟩
      simp only;rw [jT,Ak k5,h4]
     ·rw [Aj k5]
      refine ⟨hso _ rfl,hday _ rfl,he,?_,hb,hc,hst,⟨h8,hv⟩,h10,hs⟩
      simp only;rw [jT,Aj k5,h4];rfl
structure FolT (t:Tl) (e:LEn):Prop where
 rd:(pEn (cM e)).isSome=true
 day:0<=e.day/\e.day<=1048576/\(t.so=true->t.day<=e.day)
 rq:e.k=1->1<=e.rq.k/\e.rq.k<=3
 er:e.k=2->e.plan=t.er/\(e.vs≠[]\/e.ss≠[])/\t.vs.length+e.vs.length<=512/\t.ss.length+e.ss.length<=512/\(e.vs.Pairwise ltV/\∀v∈e.vs,v∉t.vs)/\e.ss.Pairwise ltS/\∀v∈e.ss,v∉t.ss
 st:e.k=3->(e.plan∈t.bg/\e.plan∉t.co)/\(0<=e.step/\e.step<128)/\(e.plan,e.step)∉t.st
 co:e.k=4->e.plan∈t.bg/\e.plan∉t.co
 sg:e.k=5->e.step=t.sg/\e.step<4
theorem TlR.fol {l:List LEn} {t:Tl} (h:TlR l t) (e:LEn):FolT t e↔Fol l e:=by
 obtain ⟨h1,h2,h3,h4,h5,h6,h7,⟨h8,h9⟩,h10,h11⟩:=h
 have hvl:t.vs.length=(erasV l).length:=mC slo_V h8 h9
 have hsl:t.ss.length=(erasS l).length:=mC slo_S h10 h11
 have hday:(t.so=true->t.day<=e.day)↔∀x,l.getLast? = some x->x.day<=e.day:=by
  constructor
  ·intro h x hx
   rw [<- h2 x hx]
   exact h (h1.2 fun e=>by subst e;simp at hx)
  ·intro h hs
   have hne:=h1.1 hs
   obtain ⟨x,hx⟩:∃x,l.getLast? = some x:=⟨_,CL hne⟩
   rw [h2 x hx]
   exact h x hx
 have hvm:(∀v∈e.vs,v∉t.vs)↔∀v∈e.vs,v∉iY l:=Ch fun v=>Ch fun _=>Cz (h9 v)
 have hsm:(∀v∈e.ss,v∉t.ss)↔∀v∈e.ss,v∉lO l:=Ch fun v=>Ch fun _=>Cz (h11 v)
 have hno:((e.plan,e.step)∉t.st)↔¬∃x∈l,x.k=3/\x.plan=e.plan/\x.step=e.step:=Cz (h7 _ _)
 have hbc:(e.plan∈t.bg/\e.plan∉t.co)↔jZ l 2 e.plan/\¬jZ l 4 e.plan:=Cy (h5 _) (Cz (h6 _))
 constructor
 ·rintro ⟨a1,a2,a3,a4,a5,a6,a7⟩
  exact ⟨a1,⟨a2.1,a2.2.1,hday.1 a2.2.2⟩,a3,fun k=>by
   obtain ⟨p1,p2,p3,p4,⟨p5,p6⟩,p7,p8⟩:=a4 k
   exact ⟨by rw [p1,h3],p2,by omega,by omega,⟨p5,hvm.1 p6⟩,p7,hsm.1 p8⟩,fun k=>⟨hbc.1 (a5 k).1,(a5 k).2.1,hno.1 (a5 k).2.2⟩,fun k=>hbc.1 (a6 k),fun k=>by rw [<- h4];exact a7 k⟩
 ·rintro ⟨a1,a2,a3,a4,a5,a6,a7⟩
  exact ⟨a1,⟨a2.1,a2.2.1,hday.2 a2.2.2⟩,a3,fun k=>by
   obtain ⟨p1,p2,p3,p4,⟨p5,p6⟩,p7,p8⟩:=a4 k
   exact ⟨by rw [p1,h3],p2,by omega,by omega,⟨p5,hvm.2 p6⟩,p7,hsm.2 p8⟩,fun k=>⟨hbc.2 (a5 k).1,(a5 k).2.1,hno.2 (a5 k).2.2⟩,fun k=>hbc.2 (a6 k),fun k=>by rw [h4];exact a7 k⟩
end Go.Proofs.YtbgehdndimlgkaaGreat
namespace Go.Av
open Go Go.RowKit
structure MoreR (σ:Nat->Nat) (C C':Cx):Prop where
 dom:∀id,C.dom id->C'.dom (σ id)/\C'.M (σ id)=C.M id
 ok:kW C.ok C'.ok C.w C'.w
 shape:∀b x,C.w.shape? b=some x->C'.w.shape? b=some x
mutual
theorem Rep.moreR {σ:Nat->Nat} {C C':Cx} (h:MoreR σ C C'):∀(x:AV) (u:Value),Rep C x u->Rep C' (x.mp σ) u
 | .c x,u,hu=>by simp only [Rep,AV.mp] at hu ⊢;exact RepC.mono h.ok x u hu
 | .ref id off,u,hu=>by
  simp only [Rep,AV.mp] at hu ⊢
  obtain ⟨hd,g,hg,hu⟩:=hu
  obtain ⟨k1,k2⟩:=h.dom id hd
  exact nX
 | .own id off n size full,u,hu=>by
  simp only [Rep,AV.mp] at hu ⊢
  obtain ⟨hd,hu⟩:=hu
  obtain ⟨k1,k2⟩:=h.dom id hd
  refine ⟨k1,?_⟩
  rcases hu with ⟨h1,h2,h3,h4⟩|⟨g,cp,h1,h2,h3,h4,h5⟩|h6
  ·exact cG9
  ·exact .inr (.inl ⟨g,cp,k2.trans h1,h2,h3,h4,fun hf=>let ⟨e,he⟩:=h5 hf;⟨e,h.shape _ _ he⟩⟩)
  ·exact .inr (.inr h6)
 | .ip cs off,u,hu=>by
  simp only [Rep,AV.mp] at hu ⊢
  obtain ⟨b,o,us,h1,h2,h3,h4,h6,h5⟩:=hu
  obtain ⟨k1,k2,k3⟩:=h.ok b h2 h3
  exact ⟨b,o,us,h1,k1,k2,RepCs.mono h.ok cs us h4,h6,fun j x hx=>by rw [World.cell?_of_block (w:=C.w) k3];exact h5 j x hx⟩
 | .agg xs,u,hu=>by
  simp only [Rep,AV.mp] at hu ⊢
  obtain ⟨us,h1,h2⟩:=hu
  exact ⟨us,h1,RepL.moreR h xs us h2⟩
 | .tup xs,u,hu=>by
  simp only [Rep,AV.mp] at hu ⊢
  obtain ⟨us,h1,h2⟩:=hu
  exact ⟨us,h1,RepL.moreR h xs us h2⟩
 | .fn f caps,u,hu=>by
  simp only [Rep,AV.mp] at hu ⊢
  obtain ⟨us,h1,h2⟩:=hu
  exact ⟨us,h1,RepL.moreR h caps us h2⟩
 | .yld id,u,hu=>by
  simp only [Rep,AV.mp] at hu ⊢
  obtain ⟨hd,g,hg,hu⟩:=hu
  obtain ⟨k1,k2⟩:=h.dom id hd
  exact nX
 | .mh id,u,hu=>by
  simp only [Rep,AV.mp] at hu ⊢
  obtain ⟨hd,g,hg,hu⟩:=hu
  obtain ⟨k1,k2⟩:=h.dom id hd
  exact nX
 | .bm f id,u,hu=>by
  simp only [Rep,AV.mp] at hu ⊢
  obtain ⟨hd,g,hg,hu⟩:=hu
  obtain ⟨k1,k2⟩:=h.dom id hd
  exact nX
 | .junk,u,hu=>by simp only [Rep,AV.mp]
theorem RepL.moreR {σ:Nat->Nat} {C C':Cx} (h:MoreR σ C C'):∀(xs:D2) (us:Do),RepL C xs us->RepL C' (AV.mps σ xs) us
 | [],us,hu=>by simpa [RepL,AV.mps] using hu
 | c::cs,us,hu=>by
  simp only [RepL,AV.mps] at hu ⊢
  obtain ⟨u,us',h1,h2,h3⟩:=hu
  exact ⟨u,us',h1,Rep.moreR h c u h2,RepL.moreR h cs us' h3⟩
end
theorem RepM.moreR {σ:Nat->Nat} {C C':Cx} (h:MoreR σ C C'):∀(es:List (CV × AV)) (ms:List MapEntry),RepM C es ms->RepM C' (es.map fun p=>(p.1,p.2.mp σ)) ms
 | [],ms,hu=>hu
 | e::es,ms,hu=>by
  obtain ⟨m,ms',h1,h2,h3,h4⟩:=hu
  exact ⟨m,ms',h1,RepC.mono h.ok _ _ h2,Rep.moreR h _ _ h3,RepM.moreR h es ms' h4⟩
theorem ObjRep.moreR {σ:Nat->Nat} {C C':Cx} (h:MoreR σ C C') {g:Dz} {o:AObj} (hw:C'.w=C.w) (ho:ObjRep C g o):ObjRep C' g (o.mp σ):=by
 cases o with
 | blk T cs =>
  obtain ⟨k,us,rfl,h2,h3⟩:=ho
  exact ⟨k,us,rfl,by rw [hw];exact h2,RepL.moreR h cs us h3⟩
 | row T cs =>
  rcases ho with h1|⟨k,us,vs,rfl,h2,h3,h4⟩
  ·exact .inl h1
  ·exact .inr ⟨k,us,vs,rfl,by rw [hw];exact h2,RepCs.mono h.ok cs us h3,h4⟩
 | lp b sz L sl xs =>
  obtain ⟨k,r,rfl,h2,h3,h4,h5,h6,h7,h8,h9⟩:=ho
  exact ⟨k,r,rfl,by rw [hw];exact h2,h3,h4,h5,h6,h7,h8,RepL.moreR h xs _ h9⟩
 | dfr b =>
  obtain ⟨k,rfl,h2⟩:=ho
  exact ⟨k,rfl,by rw [hw];exact h2⟩
 | tab es =>
  obtain ⟨k,ms,t,rfl,h2,h3⟩:=ho
  exact ⟨k,ms,t,rfl,by rw [hw];exact h2,h3.1,RepM.moreR h es _ h3.2⟩
 | dead=>exact ho.elim
def shB:Option AObj->Option AObj->Bool
 | some (.blk _ c),some (.blk _ c')=>Nat.beq c.length c'.length
 | some (.tab _),some (.tab _)=>true
 | _,_=>false
theorem bB0 {a b:Option AObj} (h:shB a b=true):∃x y,a=some x/\b=some y:=by
 unfold shB at h
 split at h<;>first|exact ⟨_,_,rfl,rfl⟩|cases h
def ACG (P:Dv) (f:FuncId) (k:Nat) (h0:aO) (args:D1) (h1:aO) (r:CV):Prop :=
 ∀(ok:Nat->Prop) (w:World) (M:Nat->Dz) (g:Nat) (vs:Do),ConcH ⟨w,(List.range k).filterMap M,ok,[]⟩ (lt k) M (lk h0) w->M 0=some g->(∀b,ok b->∀id,id<k->M id≠some b)->RepCs ok w args vs ->
  Calls P f (Value.pointer (some ⟨g,0,none⟩)::vs).toArray w fun e w'=>∃v,e = .returned v/\ConcH ⟨w,(List.range k).filterMap M,ok,[]⟩ (lt k) M (lk h1) w'/\RepC (bF ⟨w,(List.range k).filterMap M,ok,[]⟩ (lt k) M (lk h1)) w' r v
theorem ACG.eq {P:Dv} {f:FuncId} {k:Nat} {h0 h1 h1':aO} {args:D1} {r r':CV} (h:ACG P f k h0 args h1 r) (e1:h1=h1') (e2:r=r'):ACG P f k h0 args h1' r':=e1▸e2▸h
theorem xO {σ:Nat->Nat} {F:AObj->AObj} {h:aO} {q:Nat}:∀{h1:aO},(∀p∈h1,σ p.1≠q)->lk (h1.map (fun p=>(σ p.1,F p.2))++h) q=lk h q
 | [],_=>rfl
 | p::h1,hn=>by
  rw [AH,AF,cA,Aj (hn p aU)]
  exact xO fun p hp=>hn p (by simp [hp])
theorem xP {σ:Nat->Nat} {h:aO} {k:Nat} (hi:∀i j,i<k->j<k->σ i=σ j->i=j) {id:Nat} (hid:id<k) {o:AObj}:∀{h1:aO},(∀p∈h1,p.1<k)->lk h1 id=some o->lk (h1.map (fun p=>(σ p.1,p.2.mp σ))++h) (σ id)=some (o.mp σ)
 | [],_,e=>by cases e
 | p::h1,hk,e=>by
  rw [AH,AF,cA]
  rw [cA] at e
  by_cases hp:p.1=id
  ·rw [Ak hp] at e
   rw [Ak (by rw [hp]),sD e]
   cases o<;>first|rfl|(have:=sD e;rw [this] at e;cases e)
  ·rw [Aj hp] at e
   rw [Aj (fun he=>hp (hi _ _ (hk p aU) hid he))]
   exact xP hi hid (fun p hp=>hk p (by simp [hp])) e
section call
variable {P:Dv} {sz n k:Nat} {env:Env} {h h0 h1 hm:aO} {dfs:cD} {K:AK} {ops:Dq} {rest:Dp} {d:Dt} {ty:Du} {pos:String} {aft:Ds} {gd:Dn} {f:FuncId} {x0:Operand} {xs:Dy} {ats:Dx} {cs cs':D1} {r:CV}
theorem nR (l : Dr) (hac : ACG P f k h0 cs' h1 r) (hg : guardA ops env ⟨d, .call ⟨.value (.func f), (x0 :: xs).toArray, ats⟩, ty, pos, aft, gd⟩ true) (hd : iD d sz = true) (hb : Body P f) (hk0 : Nat.blt 0 k = true) (hN : (List.range k).all (fun i => Nat.blt (sg l i) n) = true)
    (hinj : (List.range k).all (fun i => (List.range k).all fun j => Nat.beq i j || !Nat.beq (sg l i) (sg l j)) = true) (hx0 : evA env x0 = some (.ref (sg l 0) 0)) (hh : nK (sg l) h k h0) (hsh : (List.range k).all (fun i => shB (lk h0 i) (lk h1 i)) = true) (hkeys : h1.all (fun p => Nat.blt p.1 k) = true)
    (hx : eX (evA env) xs = some cs) (hcv : CvL cs cs') (hhm : h1.map (fun p => (sg l p.1, p.2.mp (sg l))) = hm)
    (next : AWL P ops sz rest K n (gJ env d (.c r)) (hm ++ h) dfs) : AWL P ops sz (⟨d, .call ⟨.value (.func f), (x0 :: xs).toArray, ats⟩, ty, pos, aft, gd⟩ :: rest) K n env h dfs := by
  subst hhm
  have hk0 : 0 < k := by simpa using hk0
  have hn' : ∀ i, i < k -> sg l i < n := fun i hi => by
    have := Aw.1 hN i (AA.2 hi)
    simpa using this
  have hi' : ∀ i j, i < k -> j < k -> sg l i = sg l j -> i = j := fun i j hi hj e => by
    have := Aw.1 (Aw.1 hinj i (AA.2 hi)) j (AA.2 hj)
    simp only [Br, Co] at this
    rcases this with h | h
    · exact Ae h
    · rw [e, BP] at h; cases h
  have hsh' : ∀ i, i < k -> shB (lk h0 i) (lk h1 i) = true := fun i hi => Aw.1 hsh i (AA.2 hi)
  have hkeys' : ∀ p ∈ h1, p.1 < k := fun p hp => by have := Aw.1 hkeys p hp; simpa using this
  generalize sg l = σ at *
  clear hN hinj hsh hkeys
  intro B a w hc
  obtain ⟨M, g1, g2, g3, g4⟩ := hc
  refine eO fun K' hK' => ?_
  rw [Ak (hg.wanted g3)]
  have he := dN g3
  let M' : Nat -> Dz := fun i => M (σ i)
  let ok := bF B (lt n) M (lk h)
  let B' : Bs := ⟨w, (List.range k).filterMap M', ok, []⟩
  have hl0 : ∀ i, i < k -> ∃ o0 o1, lk h0 i = some o0 /\ lk h1 i = some o1 /\ lk h (σ i) = some (o0.mp σ) /\ lk (h1.map (fun p => (σ p.1, p.2.mp σ)) ++ h) (σ i) = some (o1.mp σ) := fun i hi => by
    obtain ⟨x, y, e1, e2⟩ := bB0 (hsh' i hi)
    exact ⟨x, y, e1, e2, (hh i x e1).1, xP hi' hi hkeys' e2⟩
  have hout : ∀ q, (∀ i, i < k -> σ i ≠ q) -> lk (h1.map (fun p => (σ p.1, p.2.mp σ)) ++ h) q = lk h q := fun q hq => xO fun p hp => hq p.1 (hkeys' p hp)
  have hnk : ∀ b, ok b -> ∀ id, id < k -> M' id ≠ some b := fun b hb id hid he => by
    obtain ⟨o0, o1, e1, e2, e3, e4⟩ := hl0 id hid
    exact hb.2 (σ id) _ (hn' id hid) e3 he
  have hmemG : ∀ b, b ∈ (List.range k).filterMap M' ↔ ∃ i, i < k /\ M' i = some b := fun b => by simp [CS]
  have hless : LessR k σ (cx B n M h w) ⟨lt k, M', bF B' (lt k) M' (lk h0), w⟩ := ⟨fun id hid _ => ⟨hid, rfl⟩, fun b hb hl => ⟨⟨.inl hb, fun id o hid hH he => hnk b hb id hid he⟩, hl, rfl⟩, fun _ _ h => h⟩
  have hcon : ConcH B' (lt k) M' (lk h0) w := by
    refine ⟨FrB.refl _ _, fun id o hid hH => ?_, fun id id' o o' g k1 k2 k3 k4 k5 k6 => ?_, fun id o g k1 k2 k3 => .inr ((hmemG g).2 ⟨id, k1, k3⟩)⟩
    · exact (g1.obj _ _ (hn' id hid) (hh id o hH).1).lessR hless rfl (hh id o hH).2
    · exact hi' id id' k1 k2 (g1.inj _ _ _ _ g (hn' id k1) (hn' id' k2) (hh id o k3).1 (hh id' o' k4).1 k5 k6)
  have hargs : RepCs ok w cs (xs.map a.eval) := RepL.toC (C := cx B n M h w) (gD he tV)
  have hp := he x0 _ hx0
  simp only [Rep] at hp
  obtain ⟨hid, g, hM, hp⟩ := hp
  unfold Oper.wp execOp
  simp only [resolve, Deferred.ofValue, Act.eval, invoke, Sem.run_bind, Sem.run_pure, Result.andThen_ok, AZ, Bg, Body.run hb, Oper.upon]
  rw [show (#[] ++ (List.map a.eval (x0 :: xs)).toArray : D0) = (Value.pointer (some ⟨g, 0, none⟩) :: List.map a.eval xs).toArray by simp [hp]]
  refine (hac ok w M' g _ hcon hM hnk (hcv _ _ _ hargs)).mono ?_
  rintro e w' ⟨v, rfl, hc1, hv⟩
  simp only
  generalize hHm : h1.map (fun p => (σ p.1, p.2.mp σ)) ++ h = Hm at *
  have hlive : ∀ q, (lk Hm q).isSome = (lk h q).isSome := fun q => by
    by_cases hq : ∃ i, i < k /\ σ i = q
    · obtain ⟨i, hi, rfl⟩ := hq
      obtain ⟨o0, o1, e1, e2, e3, e4⟩ := hl0 i hi
      rw [e3, e4]; rfl
    · rw [hout q fun i hi e => hq ⟨i, hi, e⟩]
  have hliveS : ∀ q o, lk Hm q = some o -> ∃ o', lk h q = some o' := fun q o hq => by
    have := hlive q
    rw [hq] at this
    exact AN.1 this.symm
  have hliveS' : ∀ q o, lk h q = some o -> ∃ o', lk Hm q = some o' := fun q o hq => by
    have := hlive q
    rw [hq] at this
    exact AN.1 this
  have hfr := hc1.fr
  have hGb : ∀ b, b < w.heap.size -> (∀ i, i < k -> M' i ≠ some b) -> w'.heap[b]? = w.heap[b]? := fun b hb hn => hfr.block b hb (fun hm => by obtain ⟨i, hi, e⟩ := (hmemG b).1 hm; exact hn i hi e)
  have hokE : bF B (lt n) M (lk Hm) = ok := by
    funext b
    simp only [ok, bF, BD]
    refine Cy C5 ⟨fun hk q o hq hH => ?_, fun hk q o hq hH => ?_⟩
    · obtain ⟨o', ho'⟩ := hliveS' q o hH; exact hk q o' hq ho'
    · obtain ⟨o', ho'⟩ := hliveS q o hH; exact hk q o' hq ho'
  have hkeep : kW ok (bF B (lt n) M (lk Hm)) w w' := fun b hb hl => ⟨by rw [hokE]; exact hb, A3 hl hfr.size, hGb b hl (fun i hi => hnk b hb i hi)⟩
  have hshape : ∀ b e s, w.shape? b = some (e, s) -> ∃ e', w'.shape? b = some (e', s) := fun b e s hs => by
    by_cases hq : ∃ i, i < k /\ M' i = some b
    · obtain ⟨i, hi, hMi⟩ := hq
      obtain ⟨o0, o1, e1, e2, e3, e4⟩ := hl0 i hi
      have p0 := hcon.obj i o0 hi e1
      have p1 := hc1.obj i o1 hi e2
      have ps := hsh' i hi
      rw [e1, e2] at ps
      cases o0 <;> cases o1 <;> simp only [shB] at ps <;> try cases ps
      · obtain ⟨b0, us0, q1, q2, q3⟩ := p0
        obtain ⟨b1, us1, r1, r2, r3⟩ := p1
        rw [hMi] at q1 r1
        injection q1 with q1
        injection r1 with r1
        subst q1 r1
        rename_i T0 c0 T1 c1
        refine ⟨T1, ?_⟩
        have ps := Ae ps
        have l0 := q3.length
        have l1 := r3.length
        unfold World.shape? at hs ⊢
        simp only at q2 r2
        rw [q2] at hs
        rw [r2]
        simp only [Option.some.injEq, Prod.mk.injEq, A1] at hs ⊢
        exact ⟨trivial, by omega⟩
      · obtain ⟨b0, ms, t, q1, q2, q3⟩ := p0
        rw [hMi] at q1
        injection q1 with q1
        subst q1
        unfold World.shape? at hs
        simp only at q2
        rw [q2] at hs
        cases hs
    · refine ⟨e, ?_⟩
      rw [eC (hGb b (jM hs) fun i hi e => hq ⟨i, hi, e⟩)]
      exact hs
  have hext : Ext (cx B n M h w) (cx B n M Hm w') := ⟨fun id hid => ⟨hid, rfl⟩, hkeep, hshape⟩
  have hnewok : ∀ b, bF B' (lt k) M' (lk h1) b -> b < w'.heap.size -> bF B (lt n) M (lk Hm) b := fun b hb hl => by
    rw [hokE]
    rcases hb.1 with h5 | h5 | h5
    · exact h5
    · refine ⟨.inr (.inl (At g1.fr.size h5)), fun q o hq hH he => ?_⟩
      have := (g1.obj q o hq hH).lt b he
      simp only [B', cx] at h5 this
      omega
    · obtain ⟨i, hi, e⟩ := (hmemG b).1 h5
      obtain ⟨o0, o1, e1, e2, e3, e4⟩ := hl0 i hi
      exact absurd e (hb.2 i o1 hi e2)
  have hmore : MoreR σ ⟨lt k, M', bF B' (lt k) M' (lk h1), w'⟩ (cx B n M Hm w') := ⟨fun id hid => ⟨hn' id hid, rfl⟩, fun b hb hl => ⟨hnewok b hb hl, hl, rfl⟩, fun _ _ h => h⟩
  have hcc : ConcH B (lt n) M (lk Hm) w' := by
    refine ⟨⟨hfr.os.trans g1.fr.os, hfr.tape.trans g1.fr.tape, hfr.output.trans g1.fr.output, At g1.fr.size hfr.size, fun b hb hnG => ?_⟩, fun q o hq hH => ?_, fun q q' o o' g k1 k2 k3 k4 => ?_, fun q o g k1 k2 => ?_⟩
    · rw [hGb b (A3 hb g1.fr.size) (fun i hi e => ?_)]
      · exact g1.fr.block b hb hnG
      · obtain ⟨o0, o1, e1, e2, e3, e4⟩ := hl0 i hi
        rcases g1.lo _ _ b (hn' i hi) e3 e with h5 | h5
        · omega
        · exact hnG h5
    · by_cases hqi : ∃ i, i < k /\ σ i = q
      · obtain ⟨i, hi, rfl⟩ := hqi
        obtain ⟨o0, o1, e1, e2, e3, e4⟩ := hl0 i hi
        rw [e4] at hH
        injection hH with hH
        subst hH
        exact (hc1.obj i o1 hi e2).moreR hmore rfl
      · have hH' : lk h q = some o := by rw [<- hout q fun i hi e => hqi ⟨i, hi, e⟩]; exact hH
        have ho := g1.obj q o hq hH'
        refine ho.ext hext fun b hb => hGb b (ho.lt b hb) fun i hi e => ?_
        obtain ⟨o0, o1, e1, e2, e3, e4⟩ := hl0 i hi
        exact hqi ⟨i, hi, g1.inj _ _ _ _ b (hn' i hi) hq e3 hH' e hb⟩
    · obtain ⟨x, hx⟩ := hliveS q o k3
      obtain ⟨y, hy⟩ := hliveS q' o' k4
      exact g1.inj q q' x y g k1 k2 hx hy
    · obtain ⟨x, hx⟩ := hliveS q o k2
      exact g1.lo q x g k1 hx
  have hvr : Rep (cx B n M Hm w') (.c r) v := RepC.mono (fun b hb hl => ⟨hnewok b hb hl, hl, rfl⟩) _ _ hv
  obtain ⟨p1, p2, p3⟩ := kV (h' := Hm) (M' := M) g2 g3 hext (fD hd) hvr
  exact hK' _ _ (next B _ _ ⟨M, hcc, p1, p2, by rw [p3]; exact g4.ext hext⟩)
end call
section enter
def frG:Nat->D2->Bool
 | _,[]=>true
 | i,.ref j 0::r=>Nat.beq i j&&frG (i+1) r
 | i,.mh j::r=>Nat.beq i j&&frG (i+1) r
 | _,_=>false
theorem bO2 {i0 i:Nat}:∀{l:D2} {v:AV},frG i0 l=true->l[i]? = some v->v = .ref (i0+i) 0\/v = .mh (i0+i):=by
 induction i generalizing i0 with
 | zero =>
  intro l v h hv
  match l,h,hv with
  | .ref j 0::r,h,hv =>
   simp only [frG,Ar] at h
   simp only [Au,Bx,Option.some.injEq] at hv
   rw [<- hv,Ae h.1]
   exact .inl rfl
  | .mh j::r,h,hv =>
   simp only [frG,Ar] at h
   simp only [Au,Bx,Option.some.injEq] at hv
   rw [<- hv,Ae h.1]
   exact .inr rfl
 | succ i ih =>
  intro l v h hv
  match l,h,hv with
  | .ref j 0::r,h,hv =>
   simp only [frG,Ar] at h
   have:=ih h.2 (by simpa using hv)
   rw [show i0+1+i=i0+(i+1) by omega] at this
   exact this
  | .mh j::r,h,hv =>
   simp only [frG,Ar] at h
   have:=ih h.2 (by simpa using hv)
   rw [show i0+1+i=i0+(i+1) by omega] at this
   exact this
def fL (P:Dv) (tab:Tab) (rs:List ResultVar) (k:Nat) (F:D2) (h1:aO) (r:CV):AK :=
 fun e n env h dfs=>(e = .normal\/e = .ret)/\iJ P h dfs/\jH dfs=some F/\k<=n/\nK id (gK h dfs) k h1/\(∀i,i<k->(lk (gK h dfs) i).isSome=true/\(lk h1 i).isSome=true)/\∃v,ResL tab env (gK h dfs) rs v/\Frz (List.range k) (gK h dfs) v r
theorem bQ7 {P:Dv} {tab:Tab} {rs:List ResultVar} {k:Nat} {F:D2} {h1 h h':aO} {r:CV} {v:AV} {n:Nat} {e:Exit} {env:Env} {dfs:cD} (he:e = .normal\/e = .ret) (hd:iJ P h dfs) (hm:jH dfs=some F) (hh:gK h dfs=h') (hn:Nat.ble k n=true) (hw:nK id h' k h1) (hl:(List.range k).all (fun i=>(lk h' i).isSome&&(lk h1 i).isSome)=true) (hv:ResL tab env h' rs v) (ho:Frz (List.range k) h' v r):fL P tab rs k F h1 r e n env h dfs:=by
 subst hh
 refine ⟨he,hd,hm,A7 hn,hw,fun i hi=>?_,v,hv,ho⟩
 have:=Aw.1 hl i (AA.2 hi)
 simpa using this
theorem mp_id:∀x:AV,x.mp id=x:=by
 intro x
 have:(∀x:AV,x.mp id=x)/\(∀xs:D2,AV.mps id xs=xs):=by
  refine ⟨fun x=>?_,fun xs=>?_⟩
  ·induction x using AV.rec (motive_2:=fun xs=>AV.mps id xs=xs)<;>simp_all [AV.mp,AV.mps]
  ·induction xs using AV.rec_1 (motive_1:=fun x=>x.mp id=x)<;>simp_all [AV.mp,AV.mps]
 exact this.1 x
theorem cW {P : Dv} {tab : Tab} (tb : bQ P tab) (F : D2) {f : FuncId} {fn : Func} {c : Code} {k : Nat} {h0 h1 : aO} {args : D1} {r : CV} {sz : Nat} (hf : P.funcs[f]? = some fn) (hb : fn.body = some c) (hsz : max fn.ntmps (args.length + 1) = sz) (hF : frG 0 F = true) (hFl : Nat.beq F.length k = true) (hlv : (List.range k).all (fun i => (lk h0 i).isSome) = true) (hF0 : F[0]? = some (.ref 0 0))
    (hmh : ∀ i, F[i]? = some (.mh i) -> ∃ es, lk h0 i = some (.tab es)) (hrf : ∀ i, F[i]? = some (.ref i 0) -> ∃ T cs, lk h0 i = some (.blk T cs))
    (hx : AW P sz c (fL P tab fn.results.toList k F h1 r) k (xJ 0 (.ref 0 0 :: args.map AV.c)) h0 [(none, F)]) : ACG P f k h0 args h1 r := by
  intro ok w M g vs hcon hM0 hnk hvs
  have hlen := hvs.length
  have hFl := Ae hFl
  have hk0 : 0 < k := by
    rw [<- hFl]
    have := (Ag.1 hF0).1
    omega
  have hfv : ∃ fr : Do, ∀ (ok' : Nat -> Prop) (w' : World), RepL ⟨lt k, M, ok', w'⟩ F fr := by
    have key : ∀ (l : D2) (i0 : Nat), frG i0 l = true -> i0 + l.length <= k -> (∀ i v, l[i]? = some v -> F[i0 + i]? = some v) -> ∃ fr : Do, ∀ (ok' : Nat -> Prop) (w' : World), RepL ⟨lt k, M, ok', w'⟩ l fr := by
      intro l
      induction l with
      | nil => intro i0 _ _ _; exact ⟨[], fun _ _ => rfl⟩
      | cons v l ih =>
        intro i0 h1 h2 h3
        have hv := bO2 (i := 0) h1 rfl
        have hF' := h3 0 v rfl
        obtain ⟨fr, hfr⟩ := ih (i0 + 1) (by
          match v, h1 with
          | .ref j 0, h1 => simp only [frG, Ar] at h1; exact h1.2
          | .mh j, h1 => simp only [frG, Ar] at h1; exact h1.2) (by simp only [Au] at h2; omega) (fun i x hx => by
            have := h3 (i + 1) x vP
            rw [show i0 + 1 + i = i0 + (i + 1) by omega]
            exact this)
        have hi0 : i0 < k := by simp only [Au] at h2; omega
        rw [Ck] at hv hF'
        rcases hv with rfl | rfl
        · obtain ⟨T, cs, ho⟩ := hrf i0 hF'
          obtain ⟨b, us, e1, _⟩ := hcon.obj i0 _ hi0 ho
          exact ⟨.pointer (some ⟨b, 0, none⟩) :: fr, fun ok' w' => ⟨_, _, rfl, ⟨hi0, b, e1, rfl⟩, hfr ok' w'⟩⟩
        · obtain ⟨es, ho⟩ := hmh i0 hF'
          obtain ⟨b, ms, t, e1, _⟩ := hcon.obj i0 _ hi0 ho
          exact ⟨.map (some b) :: fr, fun ok' w' => ⟨_, _, rfl, ⟨hi0, b, e1, rfl⟩, hfr ok' w'⟩⟩
    exact key F 0 hF aA (fun i v hv => by rw [Aq]; exact hv)
  obtain ⟨fr, hfr⟩ := hfv
  have hcon' : ConcH ⟨w, (List.range k).filterMap M, ok, fr⟩ (lt k) M (lk h0) w := ⟨hcon.fr, hcon.obj, hcon.inj, hcon.lo⟩
  have hok : ∀ b, ok b -> bF ⟨w, (List.range k).filterMap M, ok, fr⟩ (lt k) M (lk h0) b := fun b hk => ⟨.inl hk, fun id o hid hH he => hnk b hk id hid he⟩
  have hall : RepL (cx ⟨w, (List.range k).filterMap M, ok, fr⟩ k M h0 w) (.ref 0 0 :: args.map AV.c) (.pointer (some ⟨g, 0, none⟩) :: vs) :=
    ⟨_, _, rfl, ⟨hk0, g, hM0, rfl⟩, RepL.ofC (RepCs.mono (fun b hb hl => ⟨hok b hb, hl, rfl⟩) _ _ hvs)⟩
  refine gW hf hb (wp_mono (kR (hx ⟨w, (List.range k).filterMap M, ok, fr⟩ _ w ⟨M, hcon', ?_, ?_, ?_⟩)) ?_)
  · simp; omega
  · intro t av ht
    obtain ⟨e1, e2⟩ := lU ht
    rw [BB] at e2
    obtain ⟨u, hu, hru⟩ := hall.get e2
    have : ((Value.pointer (some ⟨g, 0, none⟩) :: vs).toArray ++ Array.replicate (fn.ntmps - (Value.pointer (some ⟨g, 0, none⟩) :: vs).toArray.size) undef).getD t undef = u := by
      have hlt := (Ag.1 hu).1
      rw [BE, By aA3]
      rw [BJ, hu]
      rfl
    rw [this]
    exact hru
  · exact ⟨hfr _ _, rfl⟩
  · intro e a w' hq
    obtain ⟨n, env, h, dfs, ⟨j1, j2, j3, j4, j5, j6, v, j7, j8⟩, M', d1, d2, d3, d4⟩ := hq
    have : iX P fn a.tmps (fun e w' => ∃ v, e = .returned v /\ ConcH ⟨w, (List.range k).filterMap M, ok, []⟩ (lt k) M (lk h1) w' /\ RepC (bF ⟨w, (List.range k).filterMap M, ok, []⟩ (lt k) M (lk h1)) w' r v) a.defers w' := by
      refine fR j2 d1 d4 fun w2 g1 g2 => ?_
      obtain ⟨u, k1, k2⟩ := j7.run tb g1 (fun t av ht => Rep.ext g2 _ _ (d3 t av ht))
      have hfr2 := RepL.ext g2 _ _ (lV j3 d4)
      have hMM : ∀ i, i < k -> M' i = M i := fun i hi => by
        obtain ⟨x, hx⟩ : ∃ x, F[i]? = some x := ⟨F[i]'(by omega), Ab aA⟩
        have hxx := bO2 hF hx
        rw [Aq] at hxx
        obtain ⟨u1, q1, q2⟩ := (hfr ok w).get hx
        obtain ⟨u2, q3, q4⟩ := hfr2.get hx
        rw [q1] at q3
        injection q3 with q3
        subst q3
        rcases hxx with rfl | rfl
        · simp only [Rep, cx] at q2 q4
          obtain ⟨_, b1, e1, e2⟩ := q2
          obtain ⟨_, b2, e3, e4⟩ := q4
          rw [e2] at e4
          injection e4 with e4; injection e4 with e4; injection e4 with e4
          rw [e1, e3, e4]
        · simp only [Rep, cx] at q2 q4
          obtain ⟨_, b1, e1, e2⟩ := q2
          obtain ⟨_, b2, e3, e4⟩ := q4
          rw [e2] at e4
          injection e4 with e4; injection e4 with e4
          rw [e1, e3, e4]
      have hsome : ∀ i, i < k -> ∃ o, lk (gK h dfs) i = some o := fun i hi => AN.1 (j6 i hi).1
      have hokd : ∀ b, bF ⟨w, (List.range k).filterMap M, ok, fr⟩ (lt n) M' (lk (gK h dfs)) b -> bF ⟨w, (List.range k).filterMap M, ok, []⟩ (lt k) M (lk h1) b := fun b hb => ⟨hb.1, fun id o hid hH he => by
        obtain ⟨o', ho'⟩ := hsome id hid
        exact hb.2 id o' (A3 hid j4) ho' ((hMM id hid).trans he)⟩
      have hls : LessR k id (cx ⟨w, (List.range k).filterMap M, ok, fr⟩ n M' (gK h dfs) w2) ⟨lt k, M, bF ⟨w, (List.range k).filterMap M, ok, []⟩ (lt k) M (lk h1), w2⟩ := ⟨fun q hq _ => ⟨hq, (hMM q hq).symm⟩, fun b hb hl => ⟨hokd b hb, hl, rfl⟩, fun _ _ h => h⟩
      refine ⟨u, k2, u, rfl, ⟨g1.fr, fun q o hq hH => ?_, fun q q' o o' b q1 q2 q3 q4 q5 q6 => ?_, fun q o b q1 q2 q3 => .inr (by simp only [CS, AA]; exact ⟨q, q1, q3⟩)⟩, ?_⟩
      · rw [<- hMM q hq]
        exact (g1.obj q _ (A3 hq j4) (j5 q o hH).1).lessR hls rfl (j5 q o hH).2
      · exact g1.inj q q' _ _ b (A3 q1 j4) (A3 q2 j4) (j5 q o q3).1 (j5 q' o' q4).1 ((hMM q q1).trans q5) ((hMM q' q2).trans q6)
      · have hz := j8 _ (lt n) M' (lk (gK h dfs)) w2 u (fun id o h _ => h) (fun q hq => ⟨A3 (AA.1 hq) j4, hsome q (AA.1 hq)⟩) g1 k1
        refine RepC.mono (fun b hb hl => ⟨⟨hb.1, fun id o hid hH he => ?_⟩, hl, rfl⟩) _ _ hz
        exact hb.2 id (AA.2 hid) ((hMM id hid).trans he)
    rcases j1 with rfl | rfl <;> exact this
end enter
end Go.Av
