/-
  Lemmas for laws of the ledger; no statement of a law.
-/
import Derived.Test.YtbgehdndimlgkaaGreatQ14
import Derived.Test.YtbgehdndimlgkaaGreatQ19
import Derived.Test.YtbgehdndimlgkaaGreatQ23
set_option maxHeartbeats 16000000
set_option linter.unusedSimpArgs false
set_option linter.unusedVariables false
namespace Go.Proofs.YtbgehdndimlgkaaGreat
open Go Go.RowKit Go.Av
set_option maxRecDepth 100000
attribute [local irreducible] Still Adds AWL AW Drw bT bW AC AWR cL Frz Go.Av.Src dC Out InK ItK AsK RdK eI eE ACT ACA eL
attribute [local simp] bQ bL bD
theorem pW {α:Type} {L c:List α} {o k:Nat} (h:(L.drop o).take k=c) (j:Nat) (hj:j<k):L[o+j]? = c[j]? := by
 rw [← h,List.getElem?_take_of_lt hj,List.getElem?_drop]
theorem aS1 (q:LRq) (h1:aQ q.k) (h2:aQ q.s) (h3:aQ q.d) (h4:aQ q.dl) (m':Nat) (hm':(jR q).length=m') (hb:m'≤1000000):AC Tryz.prog 129 [.agg q.cs] (.own 0 0 m' 1 true) [(0,.row 5 (u8c (jR q)))] 1:=by
 obtain ⟨j,hj⟩:∃j,(aS q.k).length=j:=⟨_,rfl⟩
 obtain ⟨w,hw⟩:∃w,(dL q.who).length=w:=⟨_,rfl⟩
 obtain ⟨x,hx⟩:∃x,(aS q.s++(aS q.d++aS q.dl)).length=x:=⟨_,rfl⟩
 have e:jR q=(aS q.k++dL q.who)++(aS q.s++(aS q.d++aS q.dl)):=by rw [jR];simp only [List.append_assoc]
 have hjm:j+w+x=m':=by rw [← hm',e,List.length_append,List.length_append,hj,hw,hx]
 have i1:=dT8 q.k h1 j hj aA
 have i2:=rF q.who w hw aA
 have i3:=bA6 q.s q.d q.dl h2 h3 h4 x hx aA
 have hulj:=u8l hj
 have hulw:=u8l hw
 have hulx:=u8l hx
 have hulc:(u8c (aS q.k)++u8c (dL q.who)).length=j+w:=by rw [List.length_append,hulj,hulw]
 rw [e,bD,bD]
 obtain ⟨k,⟨ns,vk,vn,vt⟩,s,d,dl⟩:=q
 dsimp only [Idf.cs,LRq.cs,Vl.c] at *
 generalize u8c (aS k)=c1' at *
 generalize u8c (dL ⟨ns,⟨vk,vn,vt⟩⟩)=c2' at *
 generalize u8c (aS s++(aS d++aS dl))=c3' at *
 refine aF aB (sz:=20) Tryz.func129 rfl (by rw [Tryz.ntmps129];rfl) ?_
 repeat' (first|(refine aC ?_;intro K hK hX)|refine dG0 ?_|(refine aH hK hX ?_;clear hK hX K)|fail)
 rw [hjm]
 exact bB
theorem cK6 (q:LHd) (h1:aQ q.t) (h2:aQ q.c) (h3:aQ q.s) (h4:aQ q.fr) (h5:aQ q.to) (m':Nat) (hm':(jP q).length=m') (hb:m'≤1000000):AC Tryz.prog 133 [.agg q.cs] (.own 0 0 m' 1 true) [(0,.row 5 (u8c (jP q)))] 1:=by
 obtain ⟨j,hj⟩:∃j,(aS q.t++aS q.c).length=j:=⟨_,rfl⟩
 obtain ⟨w,hw⟩:∃w,(dL q.who).length=w:=⟨_,rfl⟩
 obtain ⟨x,hx⟩:∃x,(aS q.s++(aS q.fr++aS q.to)).length=x:=⟨_,rfl⟩
 have e:jP q=((aS q.t++aS q.c)++dL q.who)++(aS q.s++(aS q.fr++aS q.to)):=by rw [jP];simp only [List.append_assoc]
 have hjm:j+w+x=m':=by rw [← hm',e,List.length_append,List.length_append,hj,hw,hx]
 have i1:=bA5 q.t q.c h1 h2 j hj aA
 have i2:=rF q.who w hw aA
 have i3:=bA6 q.s q.fr q.to h3 h4 h5 x hx aA
 have hulj:=u8l hj
 have hulw:=u8l hw
 have hulx:=u8l hx
 have hulc:(u8c (aS q.t++aS q.c)++u8c (dL q.who)).length=j+w:=by rw [List.length_append,hulj,hulw]
 rw [e,bD,bD]
 obtain ⟨t,c,⟨ns,vk,vn,vt⟩,s,fr,to⟩:=q
 dsimp only [Idf.cs,LHd.cs,Vl.c] at *
 generalize u8c (aS t++aS c)=c1' at *
 generalize u8c (dL ⟨ns,⟨vk,vn,vt⟩⟩)=c2' at *
 generalize u8c (aS s++(aS fr++aS to))=c3' at *
 refine aF aB (sz:=22) Tryz.func133 rfl (by rw [Tryz.ntmps133];rfl) ?_
 repeat' (first|(refine aC ?_;intro K hK hX)|refine dG0 ?_|(refine aH hK hX ?_;clear hK hX K)|fail)
 rw [hjm]
 exact bB
theorem cK7 (q:LLk) (h1:aQ q.s) (m':Nat) (hm':(jQ q).length=m') (hb:m'≤1000000):AC Tryz.prog 132 [.agg q.cs] (.own 0 0 m' 1 true) [(0,.row 5 (u8c (jQ q)))] 1:=by
 obtain ⟨j,hj⟩:∃j,(dL q.a).length=j:=⟨_,rfl⟩
 obtain ⟨w,hw⟩:∃w,(dL q.b).length=w:=⟨_,rfl⟩
 obtain ⟨r,hr⟩:∃r:Int,(if q.rv then (1:Int) else 0)=r:=⟨_,rfl⟩
 have hr64:aQ r:=by rw [← hr];split<;>exact ⟨by decide,by decide⟩
 obtain ⟨x,hx⟩:∃x,(aS q.s++aS r).length=x:=⟨_,rfl⟩
 have e:jQ q=(dL q.a++dL q.b)++(aS q.s++aS r):=by rw [jQ,hr];simp only [List.append_assoc]
 have hjm:j+w+x=m':=by rw [← hm',e,List.length_append,List.length_append,hj,hw,hx]
 have i1:=rF q.a j hj aA
 have i2:=rF q.b w hw aA
 have i3:=bA5 q.s r h1 hr64 x hx aA
 have hulj:=u8l hj
 have hulw:=u8l hw
 have hulx:=u8l hx
 have hulc:(u8c (dL q.a)++u8c (dL q.b)).length=j+w:=by rw [List.length_append,hulj,hulw]
 rw [e,bD,bD]
 obtain ⟨⟨ns,vk,vn,vt⟩,⟨ns2,vk2,vn2,vt2⟩,s,rv⟩:=q
 dsimp only [Idf.cs,LLk.cs,Vl.c] at *
 generalize u8c (dL ⟨ns,⟨vk,vn,vt⟩⟩)=c1' at *
 generalize u8c (dL ⟨ns2,⟨vk2,vn2,vt2⟩⟩)=c2' at *
 generalize u8c (aS s++aS r)=c3' at *
 cases rv<;>simp only [Bool.false_eq_true,if_false,if_true] at hr<;>subst hr
 ·refine aF aB (sz:=19) Tryz.func132 rfl (by rw [Tryz.ntmps132];rfl) ?_
  repeat' (first|(refine aC ?_;intro K hK hX)|refine dF9 ?_|(refine aH hK hX ?_;clear hK hX K)|fail)
  rw [hjm]
  exact bB
 ·refine aF aB (sz:=19) Tryz.func132 rfl (by rw [Tryz.ntmps132];rfl) ?_
  repeat' (first|(refine aC ?_;intro K hK hX)|refine dF9 ?_|(refine aH hK hX ?_;clear hK hX K)|fail)
  rw [hjm]
  exact bB
theorem aK2 (l:List Ver) (n:Nat) (hn:l.length=n) (hl:∀v∈l,aQ v.t∧aQ v.c∧aQ v.s) (m':Nat) (hm':(eW dM l).length=m') (hb:m'≤1000000):AC Tryz.prog 130 [.sl 3 n (vrc l)] (.own 0 0 m' 1 true) [(0,.row 5 (u8c (eW dM l)))] 1:=by
 have hvl:(vrc l).length=n*3:=by rw [eA,hn]
 have hge:=rA aD5 l
 have hle:=tA (f:=dM) l
 obtain ⟨X,hX⟩:∃X,aS (n:Int)=X:=⟨_,rfl⟩
 obtain ⟨j,hj⟩:∃j,X.length=j:=⟨_,rfl⟩
 have e:eW dM l=X++l.flatMap dM:=by rw [← hX,eW,hn]
 have hjm:j+(l.flatMap dM).length=m':=by rw [← hm',← hj,e,List.length_append]
 have i1:=iJ (n:Int) ⟨by omega,by omega⟩ j kF
 rw [hX] at i1
 rw [e] at hm' ⊢
 have hulx:=u8l hj
 refine aF aB (sz:=34) Tryz.func130 rfl (by rw [Tryz.ntmps130];rfl) ?_
 repeat' (first|(refine aC ?_;intro K hK hX)|refine bU [0,2,3,4] ?_|(refine dB ?_;refine c1 i1 ?_)|refine stA ?_|refine stD ?_|(refine aH hK hX ?_;clear hK hX K)|fail)
 refine cD 1 (fun p:Nat × List UInt8 × Nat=>[(0,.c (.sl 3 n (vrc l))),(3,.own 0 0 p.2.2 1 true),(4,.c (iv p.1))]) (fun p=>[(0,.row 5 (u8c p.2.1))]) [] (fun p=>p.1≤n∧p.2.1.length=p.2.2∧p.2.1=X++(l.take p.1).flatMap dM) (fun p=>n-p.1) (0,X,j) ⟨by omega,hj,by simp⟩ dU ?_
 rintro ⟨i,q,w⟩ ⟨hi,hql,hq⟩ K hK hX
 dsimp only at hi hql hq hK ⊢
 have hulq:=u8l hql
 by_cases hlt:i<n
 ·obtain ⟨v,hat⟩:∃v,l[i]? = some v:=⟨_,List.getElem?_eq_getElem aA⟩
  have hlv:=hl v (List.mem_of_getElem? hat)
  have hx:=iP hat
  have hst:q++dM v=X++(l.take (i+1)).flatMap dM:=by rw [hq,kI hat,List.append_assoc]
  have hmo:=hle (i+1)
  have hst2:=congrArg List.length hst
  rw [List.length_append,List.length_append] at hst2
  obtain ⟨w',hw'⟩:∃w',(dM v).length=w':=⟨_,rfl⟩
  have hulw:=u8l hw'
  obtain ⟨t,c,s⟩:=v
  have hx0:=pW hx 0 aN
  have hx1:=pW hx 1 aN
  have hx2:=pW hx 2 aN
  simp only [List.getElem?_cons_zero,List.getElem?_cons_succ] at hx0 hx1 hx2
  have e3:dM ⟨t,c,s⟩=aS t++(aS s++aS c):=by rw [dM,List.append_assoc]
  have i2:=bA6 t s c hlv.1 hlv.2.2 hlv.2.1 w' aH5 aA
  rw [← e3] at i2
  have hqw:=hw'
  generalize dM _=q' at i2 hw' hst hulw hqw hst2
  repeat' (first|(refine aC ?_;intro K hK hX)|refine dG3 ?_|(refine aH hK hX ?_;clear hK hX K)|fail)
  exact ⟨(i+1,q++q',w+w'),⟨by omega,by rw [List.length_append,hql,hqw],hst⟩,by simp only;omega,dP0⟩
 ·have hin:i=n:=by omega
  have hq':q=X++l.flatMap dM:=by rw [hq,List.take_of_length_le aA]
  have hwm:w=m':=by rw [← hql,hq',hm']
  repeat' (first|(refine aC ?_;intro K hK hX)|refine eJ [0,2,3,4] ?_|refine stA ?_|refine stE ?_|(refine aH hK hX ?_;clear hK hX K)|fail)
  rw [← hq',← hwm]
  exact bB
theorem aS2 (l:List Src) (n:Nat) (hn:l.length=n) (hl:∀v∈l,aQ v.t∧aQ v.s) (m':Nat) (hm':(eW dQ l).length=m') (hb:m'≤1000000):AC Tryz.prog 131 [.sl 2 n (src l)] (.own 0 0 m' 1 true) [(0,.row 5 (u8c (eW dQ l)))] 1:=by
 have hvl:(src l).length=n*2:=by rw [fH,hn]
 have hge:=rA aD3 l
 have hle:=tA (f:=dQ) l
 obtain ⟨X,hX⟩:∃X,aS (n:Int)=X:=⟨_,rfl⟩
 obtain ⟨j,hj⟩:∃j,X.length=j:=⟨_,rfl⟩
 have e:eW dQ l=X++l.flatMap dQ:=by rw [← hX,eW,hn]
 have hjm:j+(l.flatMap dQ).length=m':=by rw [← hm',← hj,e,List.length_append]
 have i1:=iJ (n:Int) ⟨by omega,by omega⟩ j kF
 rw [hX] at i1
 rw [e] at hm' ⊢
 have hulx:=u8l hj
 refine aF aB (sz:=29) Tryz.func131 rfl (by rw [Tryz.ntmps131];rfl) ?_
 repeat' (first|(refine aC ?_;intro K hK hX)|refine bU [0,2,3,4] ?_|(refine dB ?_;refine c1 i1 ?_)|refine stA ?_|refine stD ?_|(refine aH hK hX ?_;clear hK hX K)|fail)
 refine cD 1 (fun p:Nat × List UInt8 × Nat=>[(0,.c (.sl 2 n (src l))),(3,.own 0 0 p.2.2 1 true),(4,.c (iv p.1))]) (fun p=>[(0,.row 5 (u8c p.2.1))]) [] (fun p=>p.1≤n∧p.2.1.length=p.2.2∧p.2.1=X++(l.take p.1).flatMap dQ) (fun p=>n-p.1) (0,X,j) ⟨by omega,hj,by simp⟩ dU ?_
 rintro ⟨i,q,w⟩ ⟨hi,hql,hq⟩ K hK hX
 dsimp only at hi hql hq hK ⊢
 have hulq:=u8l hql
 by_cases hlt:i<n
 ·obtain ⟨v,hat⟩:∃v,l[i]? = some v:=⟨_,List.getElem?_eq_getElem aA⟩
  have hlv:=hl v (List.mem_of_getElem? hat)
  have hx:=iO hat
  have hst:q++dQ v=X++(l.take (i+1)).flatMap dQ:=by rw [hq,kI hat,List.append_assoc]
  have hmo:=hle (i+1)
  have hst2:=congrArg List.length hst
  rw [List.length_append,List.length_append] at hst2
  obtain ⟨w',hw'⟩:∃w',(dQ v).length=w':=⟨_,rfl⟩
  have hulw:=u8l hw'
  obtain ⟨t,s⟩:=v
  have hx0:=pW hx 0 aN
  have hx1:=pW hx 1 aN
  simp only [List.getElem?_cons_zero,List.getElem?_cons_succ] at hx0 hx1
  have hx2:=hx1
  have e3:dQ ⟨t,s⟩=aS t++aS s:=rfl
  have i2:=bA5 t s hlv.1 hlv.2 w' aH5 aA
  rw [← e3] at i2
  have hqw:=hw'
  generalize dQ _=q' at i2 hw' hst hulw hqw hst2
  repeat' (first|(refine aC ?_;intro K hK hX)|refine dG3 ?_|(refine aH hK hX ?_;clear hK hX K)|fail)
  exact ⟨(i+1,q++q',w+w'),⟨by omega,by rw [List.length_append,hql,hqw],hst⟩,by simp only;omega,dP0⟩
 ·have hin:i=n:=by omega
  have hq':q=X++l.flatMap dQ:=by rw [hq,List.take_of_length_le aA]
  have hwm:w=m':=by rw [← hql,hq',hm']
  repeat' (first|(refine aC ?_;intro K hK hX)|refine eJ [0,2,3,4] ?_|refine stA ?_|refine stE ?_|(refine aH hK hX ?_;clear hK hX K)|fail)
  rw [← hq',← hwm]
  exact bB
end Go.Proofs.YtbgehdndimlgkaaGreat
namespace Go.Proofs.YtbgehdndimlgkaaGreat
open Go Go.RowKit Go.Av
set_option maxRecDepth 100000
attribute [local irreducible] Still Adds AWL AW Drw bT bW AC AWR cL Frz Go.Av.Src dC Out InK ItK AsK RdK eI eE ACT ACA eL
attribute [local simp] bQ bL bD
theorem aF2 (e:LEn) (hw:e.wf) (hk:aQ e.k) (nv ns:Nat) (hnv:e.vs.length=nv) (hns:e.ss.length=ns) (m':Nat) (hm':(bO e).length=m') (hb:m'≤1000000):AC Tryz.prog 66 [.agg (ecs e nv ns)] (.own 0 0 m' 1 true) [(0,.row 5 (u8c (bO e)))] 1:=by
 have hel:=cJ hw.root nv ns
 obtain ⟨X,hX⟩:∃X,aS e.k++(aS e.day++(aS e.plan++aS e.step))=X:=⟨_,rfl⟩
 obtain ⟨j,hj⟩:∃j,X.length=j:=⟨_,rfl⟩
 have ee:bO e=X++cG e:=by rw [← hX,bO];simp only [List.append_assoc]
 have hjm:j+(cG e).length=m':=by rw [← hm',← hj,ee,List.length_append]
 obtain ⟨a1,a2,a3⟩:=hw.h1
 obtain ⟨b1,b2,b3,b4⟩:=hw.rq
 have c1':=hw.lk
 obtain ⟨d1,d2,d3,d4,d5⟩:=hw.hd
 have e1:=hw.vs
 have e2:=hw.ss
 have f1:=hw.root
 have i1:=dT9 e.k e.day e.plan e.step hk a1 a2 a3 j kF aA
 rw [hX] at i1
 rw [ee,bD]
 have hulx:=u8l hj
 clear hw a1 a2 a3 hX ee hk hm'
 obtain ⟨k,day,plan,step,⟨rk,⟨rns,rvk,rvn,rvt⟩,rs,rd,rdl⟩,⟨⟨lns,lvk,lvn,lvt⟩,⟨mns,mvk,mvn,mvt⟩,ls,lrv⟩,⟨ht,hc,⟨hns',hvk,hvn,hvt⟩,hs,hfr,hto⟩,vs,ss,root⟩:=e
 dsimp only [ecs] at *
 have hur:=u8l f1
 by_cases k1:k=1
 ·subst k1
  have hbd:cG ⟨1,day,plan,step,⟨rk,⟨rns,rvk,rvn,rvt⟩,rs,rd,rdl⟩,⟨⟨lns,lvk,lvn,lvt⟩,⟨mns,mvk,mvn,mvt⟩,ls,lrv⟩,⟨ht,hc,⟨hns',hvk,hvn,hvt⟩,hs,hfr,hto⟩,vs,ss,root⟩=jR ⟨rk,⟨rns,rvk,rvn,rvt⟩,rs,rd,rdl⟩:=by simp [cG]
  rw [hbd] at hjm ⊢
  clear hbd
  obtain ⟨w,hw⟩:∃w,(jR ⟨rk,⟨rns,rvk,rvn,rvt⟩,rs,rd,rdl⟩).length=w:=⟨_,rfl⟩
  rw [hw] at hjm
  have i2:=aS1 ⟨rk,⟨rns,rvk,rvn,rvt⟩,rs,rd,rdl⟩ b1 b2 b3 b4 w hw aA
  have hulw:=u8l hw
  dsimp only [LRq.cs,LLk.cs,LHd.cs] at i2
  generalize u8c (jR ⟨rk,⟨rns,rvk,rvn,rvt⟩,rs,rd,rdl⟩)=c2' at *
  refine aF aB (sz:=56) Tryz.func66 rfl uD ?_
  repeat' (first|(refine aC ?_;intro K hK hX)|refine bX5 ?_|(refine aH hK hX ?_;clear hK hX K)|fail)
  rw [hjm]
  exact bB
 by_cases k2:k=2
 ·subst k2
  have hbd:cG ⟨2,day,plan,step,⟨rk,⟨rns,rvk,rvn,rvt⟩,rs,rd,rdl⟩,⟨⟨lns,lvk,lvn,lvt⟩,⟨mns,mvk,mvn,mvt⟩,ls,lrv⟩,⟨ht,hc,⟨hns',hvk,hvn,hvt⟩,hs,hfr,hto⟩,vs,ss,root⟩=eW dM vs++eW dQ ss:=by simp [cG]
  rw [hbd] at hjm ⊢
  clear hbd
  obtain ⟨w,hw⟩:∃w,(eW dM vs).length=w:=⟨_,rfl⟩
  obtain ⟨q,hq⟩:∃q,(eW dQ ss).length=q:=⟨_,rfl⟩
  rw [List.length_append,hw,hq] at hjm
  have i2:=aK2 vs nv hnv e1 w hw aA
  have i3:=aS2 ss ns hns e2 q hq aA
  have hulw:=u8l hw
  have hulq:=u8l hq
  have hulc:(u8c X++u8c (eW dM vs)).length=j+w:=by rw [List.length_append,hulx,hulw]
  rw [bD,← List.append_assoc]
  generalize u8c (eW dM vs)=c2' at *
  generalize u8c (eW dQ ss)=c3' at *
  refine aF aB (sz:=56) Tryz.func66 rfl uD ?_
  repeat' (first|(refine aC ?_;intro K hK hX)|refine eJ [0,1,2,3,15] ?_|((with_reducible refine cC ?_);refine yA ?_;refine bH (cE rfl) rfl ?_)|refine gE ?_|(refine gW ?_;first|refine c1 i1 ?_|refine c1 i2 ?_|refine c1 i3 ?_)|refine stA ?_|refine stE ?_|(refine aH hK hX ?_;clear hK hX K)|fail)
  rw [show j+w+q=m' by omega]
  exact bB
 by_cases k4:k=4
 ·subst k4
  have hbd:cG ⟨4,day,plan,step,⟨rk,⟨rns,rvk,rvn,rvt⟩,rs,rd,rdl⟩,⟨⟨lns,lvk,lvn,lvt⟩,⟨mns,mvk,mvn,mvt⟩,ls,lrv⟩,⟨ht,hc,⟨hns',hvk,hvn,hvt⟩,hs,hfr,hto⟩,vs,ss,root⟩=root:=by simp [cG]
  rw [hbd] at hjm ⊢
  clear hbd
  rw [f1] at hjm
  have i2:=xL root f1
  have hrt:((iv 4::iv day::iv plan::iv step::iv rk::sv rns::iv rvk::iv rvn::sv rvt::iv rs::iv rd::iv rdl::sv lns::iv lvk::iv lvn::sv lvt::sv mns::iv mvk::iv mvn::sv mvt::iv ls::bv lrv::iv ht::iv hc::sv hns'::iv hvk::iv hvn::sv hvt::iv hs::iv hfr::iv hto :: .sl 3 nv (vrc vs) :: .sl 2 ns (src ss)::u8c root:List CV).drop (0+33)).take 32=u8c root:=by
   show (u8c root).take 32=u8c root
   rw [List.take_of_length_le aA]
  refine aF aB (sz:=56) Tryz.func66 rfl uD ?_
  repeat' (first|(refine aC ?_;intro K hK hX)|refine eJ [0,1,2,3,15] ?_|((with_reducible refine cC ?_);refine yA ?_;refine bH (cE rfl) rfl ?_)|refine gE ?_|(refine gW ?_;first|refine c1 i1 ?_|refine c1 i2 ?_)|refine aH0 ?_|refine stA ?_|refine stE ?_|(refine aH hK hX ?_;clear hK hX K)|fail)
  rw [hjm]
  exact bB
 by_cases k6:k=6
 ·subst k6
  have hbd:cG ⟨6,day,plan,step,⟨rk,⟨rns,rvk,rvn,rvt⟩,rs,rd,rdl⟩,⟨⟨lns,lvk,lvn,lvt⟩,⟨mns,mvk,mvn,mvt⟩,ls,lrv⟩,⟨ht,hc,⟨hns',hvk,hvn,hvt⟩,hs,hfr,hto⟩,vs,ss,root⟩=jQ ⟨⟨lns,lvk,lvn,lvt⟩,⟨mns,mvk,mvn,mvt⟩,ls,lrv⟩:=by simp [cG]
  rw [hbd] at hjm ⊢
  clear hbd
  obtain ⟨w,hw⟩:∃w,(jQ ⟨⟨lns,lvk,lvn,lvt⟩,⟨mns,mvk,mvn,mvt⟩,ls,lrv⟩).length=w:=⟨_,rfl⟩
  rw [hw] at hjm
  have i2:=cK7 ⟨⟨lns,lvk,lvn,lvt⟩,⟨mns,mvk,mvn,mvt⟩,ls,lrv⟩ c1' w hw aA
  have hulw:=u8l hw
  dsimp only [LRq.cs,LLk.cs,LHd.cs] at i2
  generalize u8c (jQ ⟨⟨lns,lvk,lvn,lvt⟩,⟨mns,mvk,mvn,mvt⟩,ls,lrv⟩)=c2' at *
  refine aF aB (sz:=56) Tryz.func66 rfl uD ?_
  repeat' (first|(refine aC ?_;intro K hK hX)|refine bX5 ?_|(refine aH hK hX ?_;clear hK hX K)|fail)
  rw [hjm]
  exact bB
 by_cases k7:k=7
 ·subst k7
  have hbd:cG ⟨7,day,plan,step,⟨rk,⟨rns,rvk,rvn,rvt⟩,rs,rd,rdl⟩,⟨⟨lns,lvk,lvn,lvt⟩,⟨mns,mvk,mvn,mvt⟩,ls,lrv⟩,⟨ht,hc,⟨hns',hvk,hvn,hvt⟩,hs,hfr,hto⟩,vs,ss,root⟩=jP ⟨ht,hc,⟨hns',hvk,hvn,hvt⟩,hs,hfr,hto⟩:=by simp [cG]
  rw [hbd] at hjm ⊢
  clear hbd
  obtain ⟨w,hw⟩:∃w,(jP ⟨ht,hc,⟨hns',hvk,hvn,hvt⟩,hs,hfr,hto⟩).length=w:=⟨_,rfl⟩
  rw [hw] at hjm
  have i2:=cK6 ⟨ht,hc,⟨hns',hvk,hvn,hvt⟩,hs,hfr,hto⟩ d1 d2 d3 d4 d5 w hw aA
  have hulw:=u8l hw
  dsimp only [LRq.cs,LLk.cs,LHd.cs] at i2
  generalize u8c (jP ⟨ht,hc,⟨hns',hvk,hvn,hvt⟩,hs,hfr,hto⟩)=c2' at *
  refine aF aB (sz:=56) Tryz.func66 rfl uD ?_
  repeat' (first|(refine aC ?_;intro K hK hX)|refine bX5 ?_|(refine aH hK hX ?_;clear hK hX K)|fail)
  rw [hjm]
  exact bB
 have hbd:cG ⟨k,day,plan,step,⟨rk,⟨rns,rvk,rvn,rvt⟩,rs,rd,rdl⟩,⟨⟨lns,lvk,lvn,lvt⟩,⟨mns,mvk,mvn,mvt⟩,ls,lrv⟩,⟨ht,hc,⟨hns',hvk,hvn,hvt⟩,hs,hfr,hto⟩,vs,ss,root⟩=[]:=by simp [cG,k1,k2,k4,k6,k7]
 rw [hbd] at hjm ⊢
 rw [show u8c []=[] from rfl,List.append_nil]
 simp only [List.length_nil,Nat.add_zero] at hjm
 clear hbd
 refine aF aB (sz:=56) Tryz.func66 rfl uD ?_
 repeat' (first|(refine aC ?_;intro K hK hX)|refine eJ [0,1,2,3,15] ?_|((with_reducible refine cC ?_);refine yA ?_;refine bH (cE rfl) rfl ?_)|refine gE ?_|(refine gW ?_;refine c1 i1 ?_)|refine stA ?_|refine stE ?_|(refine aH hK hX ?_;clear hK hX K)|fail)
 rw [hjm]
 exact bB
end Go.Proofs.YtbgehdndimlgkaaGreat
namespace Go.Proofs.YtbgehdndimlgkaaGreat
open Go Go.RowKit Go.Av
set_option maxRecDepth 100000
attribute [local irreducible] Still Adds AWL AW Drw bT bW AC AWR cL Frz Go.Av.Src dC Out InK ItK AsK RdK eI eE ACT ACA eL
attribute [local simp] bQ bL bD
theorem cK8 (e:LEn) (hw:e.wf) (hk:aQ e.k) (hz:e.sz) (nv ns:Nat) (hnv:e.vs.length=nv) (hns:e.ss.length=ns):∃(x:LEn) (nv' ns':Nat) (r:Bool),x.vs.length=nv'∧x.ss.length=ns'∧x.root.length=32∧(r=true↔(pEn (bO e)).isSome=true)∧(r=true→∃t,pEn (bO e)=some (x,t))∧AC Tryz.prog 19 [.agg (ecs e nv ns)] (.tup [.c (.agg (ecs x nv' ns')),.c (bv r)]) [] 0:=by
 have hlen:=lC hw hk hz
 obtain ⟨n,hn⟩:∃n,(bO e).length=n:=⟨_,rfl⟩
 rw [hn] at hlen
 have hap:=aF2 e hw hk nv ns hnv hns n hn aA
 obtain ⟨x,s',nv',ns',q1,hv',hs',hrt,b',e',m',rfl,hac,q3,q4,q5⟩:=aZ9 (bO e) 0 n hn aA
 have hel:=cJ hw.root nv ns
 have hel':=cJ hrt nv' ns'
 have hbl:(u8c (bO e)).length=n:=by rw [aG,hn]
 have hif:(decide (e'=0)=true↔(pEn (bO e)).isSome=true)∧(decide (e'=0)=true→∃t,pEn (bO e)=some (x,t)):=by
  rw [decide_eq_true_eq]
  rcases rd_enR.of (bO e) with ⟨y,rr,h1,h2⟩|⟨h1,h2⟩
  ·rw [q1] at h2
   injection h2 with e1 h2
   injection h2 with _ h2
   rw [h1,e1]
   exact ⟨⟨fun _=>rfl,fun _=>h2⟩,fun _=>⟨rr,rfl⟩⟩
  ·rw [q1] at h2
   rw [h1]
   exact ⟨⟨fun h=>absurd h h2,fun h=>iM⟩,fun h=>absurd h h2⟩
 refine ⟨x,nv',ns',decide (e'=0),hv',hs',hrt,hif.1,hif.2,?_⟩
 generalize ecs e nv ns=cs at *
 generalize ecs x nv' ns'=cs' at *
 clear hif q1
 refine aF aB (sz:=18) Tryz.func19 rfl (by rw [Tryz.ntmps19];rfl) ?_
 repeat' (first|(refine aC ?_;intro K hK hX)|refine aL [0,1,2,3,4,5] ?_|((with_reducible refine bC (i:=3) ?_);refine bA [0,1,2,3,4,5] rfl rfl ?_;refine dK [] ?_)|((with_reducible refine bC ?_);refine bA [0,1,2,3,4,5] rfl rfl ?_;refine dF [] ?_)|((with_reducible refine cC ?_);refine yA ?_;refine bH (cE (T:=49) rfl) rfl ?_)|((with_reducible refine aX ?_);refine yA ?_;refine bH (aU (T:=49) aB rfl rfl rfl) rfl ?_)|((first|with_reducible refine aD ?_|with_reducible refine fN ?_|with_reducible refine bY ?_);(first|refine wA ?_|refine wD ?_|refine wE ?_);refine nW (dD (eP zby rfl (hap) zcv rfl) zln) ?_)|((with_reducible refine aD ?_);refine aK (hac) aE rfl zby rfl rfl rfl rfl zcv rfl ztp ?_)|((with_reducible refine bY ?_);refine bG2 (hac) aE rfl rfl zby rfl rfl rfl rfl zcv rfl ztp rfl ?_)|refine stA ?_|refine stD ?_|refine stE ?_|(refine aH hK hX ?_;clear hK hX K)|fail)
 refine dA zio ztr rfl (ResL.two zrs (ResA.tmp rfl)) (jV (aZ zfz (aZ zfz cY)))
end Go.Proofs.YtbgehdndimlgkaaGreat
namespace Go.Proofs.YtbgehdndimlgkaaGreat
open Go Go.RowKit Go.Av
set_option maxRecDepth 100000
structure Tl where
 so:Bool
 day:Int
 er:Nat
 sg:Nat
 bg:List Int
 co:List Int
 st:List (Int × Int)
 vs:List Ver
 ss:List Src
def Tl.new:Tl:=⟨false,0,0,0,[],[],[],[],[]⟩
def gT {κ:Type} [DecidableEq κ] (ks l:List κ):List κ:=l.foldl nY ks
def Tl.add (t:Tl) (e:LEn):Tl :=
 if e.k=2 then ⟨true,e.day,t.er+1,t.sg,nY t.bg e.plan,t.co,t.st,gT t.vs e.vs,gT t.ss e.ss⟩
 else if e.k=3 then ⟨true,e.day,t.er,t.sg,t.bg,t.co,nY t.st (e.plan,e.step),t.vs,t.ss⟩
 else if e.k=4 then ⟨true,e.day,t.er,t.sg,t.bg,nY t.co e.plan,t.st,t.vs,t.ss⟩
 else if e.k=5 then ⟨true,e.day,t.er,t.sg+1,t.bg,t.co,t.st,t.vs,t.ss⟩
 else ⟨true,e.day,t.er,t.sg,t.bg,t.co,t.st,t.vs,t.ss⟩
def Tl.of (l:List LEn):Tl:=l.foldl Tl.add Tl.new
theorem Tl.of_snoc (l:List LEn) (e:LEn):Tl.of (l++[e])=(Tl.of l).add e:=by unfold Tl.of;rw [List.foldl_append];rfl
theorem aY5 {κ:Type} [DecidableEq κ] {ks:List κ} {k:κ} (h:ks.Nodup):(nY ks k).Nodup:=by
 unfold nY
 split
 ·exact h
 ·rename_i hn
  rw [List.nodup_append]
  refine ⟨h,by simp,fun a ha b hb e=>?_⟩
  rw [List.mem_singleton] at hb
  subst hb e
  exact hn ha
theorem lY {κ:Type} [DecidableEq κ]:∀(l ks:List κ) (x:κ),x∈gT ks l↔x∈ks∨x∈l
 | [],ks,x=>by simp [gT]
 | k::l,ks,x=>by
  have:=lY l (nY ks k) x
  unfold gT at *
  rw [List.foldl_cons,this,tF,List.mem_cons,or_assoc]
theorem nX {κ:Type} [DecidableEq κ]:∀{l ks:List κ},ks.Nodup→(gT ks l).Nodup
 | [],ks,h=>h
 | k::l,ks,h=>by
  unfold gT
  rw [List.foldl_cons]
  exact nX (l:=l) (aY5 h)
theorem vR {κ:Type} [DecidableEq κ] (ks l:List κ) (k:κ):gT ks (l++[k])=nY (gT ks l) k:=by unfold gT;rw [List.foldl_append];rfl
structure TlR (l:List LEn) (t:Tl):Prop where
 so:t.so=true↔l≠[]
 day:∀x,l.getLast? = some x→t.day=x.day
 er:t.er=aA7 l 2
 sg:t.sg=aA7 l 5
 bg:∀p,p∈t.bg↔rN l 2 p
 co:∀p,p∈t.co↔rN l 4 p
 st:∀p s,(p,s)∈t.st↔∃x∈l,x.k=3∧x.plan=p∧x.step=s
 vs:t.vs.Nodup∧∀v,v∈t.vs↔v∈kN l
 ss:t.ss.Nodup∧∀v,v∈t.ss↔v∈rM l
theorem vE (l:List LEn) (e:LEn) (p s:Int):(∃x∈l++[e],x.k=3∧x.plan=p∧x.step=s)↔(∃x∈l,x.k=3∧x.plan=p∧x.step=s)∨(e.k=3∧e.plan=p∧e.step=s):=by
 constructor
 ·rintro ⟨x,hx,h⟩
  rcases List.mem_append.1 hx with hx|hx
  ·exact .inl ⟨x,hx,h⟩
  ·rw [List.mem_singleton] at hx
   subst hx
   exact .inr h
 ·rintro (⟨x,hx,h⟩|h)
  ·exact ⟨x,List.mem_append.2 (.inl hx),h⟩
  ·exact ⟨e,by simp,h⟩
theorem bC4 (l:List LEn):TlR l (Tl.of l):=by
 refine zZ (p:=fun l=>TlR l (Tl.of l)) ?_ (fun l e ih=>?_) l
 ·exact ⟨by simp [Tl.of,Tl.new],fun x h=>by simp at h,rfl,rfl,fun p=>by simp [Tl.of,Tl.new,rN],fun p=>by simp [Tl.of,Tl.new,rN],fun p s=>by simp [Tl.of,Tl.new],⟨by simp [Tl.of,Tl.new],fun v=>by simp [Tl.of,Tl.new,kN]⟩,by simp [Tl.of,Tl.new],fun v=>by simp [Tl.of,Tl.new,rM]⟩
 ·rw [Tl.of_snoc]
  generalize Tl.of l=t at ih
  obtain ⟨h1,h2,h3,h4,h5,h6,h7,⟨h8,h9⟩,h10,h11⟩:=ih
  have hso:∀t':Tl,t'.so=true→(t'.so=true↔l++[e]≠[]):=fun t' h=>⟨fun _=>by simp,fun _=>h⟩
  have hday:∀t':Tl,t'.day=e.day→∀x,(l++[e]).getLast? = some x→t'.day=x.day:=fun t' h x hx=>by
   rw [List.getLast?_append] at hx
   simp at hx
   rw [h,hx]
  unfold Tl.add
  by_cases k2:e.k=2
  ·rw [if_pos k2]
   refine ⟨hso _ rfl,hday _ rfl,?_,?_,fun p=>?_,fun p=>?_,fun p s=>?_,⟨nX h8,fun v=>?_⟩,nX h10,fun v=>?_⟩
   ·simp only;rw [kE,if_pos k2,h3]
   ·simp only;rw [kE,if_neg aA,h4];rfl
   ·simp only;rw [tF,lL,h5];exact or_congr Iff.rfl ⟨fun h=>⟨k2,h.symm⟩,fun h=>h.2.symm⟩
   ·simp only;rw [lL,h6];exact ⟨.inl,fun h=>h.elim id fun h=>by omega⟩
   ·simp only;rw [vE,h7];exact ⟨.inl,fun h=>h.elim id fun h=>by omega⟩
   ·simp only;rw [lY,h9,qP,if_pos k2,List.mem_append]
   ·simp only;rw [lY,h11,aB6,if_pos k2,List.mem_append]
  ·rw [if_neg k2]
   have hv:∀v,v∈t.vs↔v∈kN (l++[e]):=fun v=>by rw [h9,qP,if_neg k2,List.append_nil]
   have hs:∀v,v∈t.ss↔v∈rM (l++[e]):=fun v=>by rw [h11,aB6,if_neg k2,List.append_nil]
   have he:t.er=aA7 (l++[e]) 2:=by rw [kE,if_neg k2,h3];rfl
   have hb:∀p,p∈t.bg↔rN (l++[e]) 2 p:=fun p=>by rw [lL,h5];exact ⟨.inl,fun h=>h.elim id fun h=>absurd h.1 k2⟩
   by_cases k3:e.k=3
   ·rw [if_pos k3]
    refine ⟨hso _ rfl,hday _ rfl,he,?_,hb,fun p=>?_,fun p s=>?_,⟨h8,hv⟩,h10,hs⟩
    ·simp only;rw [kE,if_neg aA,h4];rfl
    ·simp only;rw [lL,h6];exact ⟨.inl,fun h=>h.elim id fun h=>by omega⟩
    ·simp only
     rw [tF,vE,h7]
     refine or_congr Iff.rfl ⟨fun h=>?_,fun h=>?_⟩
     ·injection h with e1 e2;exact ⟨k3,e1.symm,e2.symm⟩
     ·rw [h.2.1,h.2.2]
   ·rw [if_neg k3]
    have hst:∀p s,(p,s)∈t.st↔∃x∈l++[e],x.k=3∧x.plan=p∧x.step=s:=fun p s=>by rw [vE,h7];exact ⟨.inl,fun h=>h.elim id fun h=>absurd h.1 k3⟩
    by_cases k4:e.k=4
    ·rw [if_pos k4]
     refine ⟨hso _ rfl,hday _ rfl,he,?_,hb,fun p=>?_,hst,⟨h8,hv⟩,h10,hs⟩
     ·simp only;rw [kE,if_neg aA,h4];rfl
     ·simp only;rw [tF,lL,h6];exact or_congr Iff.rfl ⟨fun h=>⟨k4,h.symm⟩,fun h=>h.2.symm⟩
    ·rw [if_neg k4]
     have hc:∀p,p∈t.co↔rN (l++[e]) 4 p:=fun p=>by rw [lL,h6];exact ⟨.inl,fun h=>h.elim id fun h=>absurd h.1 k4⟩
     by_cases k5:e.k=5
     ·rw [if_pos k5]
      refine ⟨hso _ rfl,hday _ rfl,he,?_,hb,hc,hst,⟨h8,hv⟩,h10,hs⟩
      simp only;rw [kE,if_pos k5,h4]
     ·rw [if_neg k5]
      refine ⟨hso _ rfl,hday _ rfl,he,?_,hb,hc,hst,⟨h8,hv⟩,h10,hs⟩
      simp only;rw [kE,if_neg k5,h4];rfl
structure FolT (t:Tl) (e:LEn):Prop where
 rd:(pEn (bO e)).isSome=true
 day:0≤e.day∧e.day≤1048576∧(t.so=true→t.day≤e.day)
 rq:e.k=1→1≤e.rq.k∧e.rq.k≤3
 er:e.k=2→e.plan=t.er∧(e.vs≠[]∨e.ss≠[])∧t.vs.length+e.vs.length≤512∧t.ss.length+e.ss.length≤512∧(e.vs.Pairwise ltV∧∀v∈e.vs,v∉t.vs)∧e.ss.Pairwise ltS∧∀v∈e.ss,v∉t.ss
 st:e.k=3→(e.plan∈t.bg∧e.plan∉t.co)∧(0≤e.step∧e.step<128)∧(e.plan,e.step)∉t.st
 co:e.k=4→e.plan∈t.bg∧e.plan∉t.co
 sg:e.k=5→e.step=t.sg∧e.step<4
theorem TlR.fol {l:List LEn} {t:Tl} (h:TlR l t) (e:LEn):FolT t e↔Fol l e:=by
 obtain ⟨h1,h2,h3,h4,h5,h6,h7,⟨h8,h9⟩,h10,h11⟩:=h
 have hvl:t.vs.length=(erasV l).length:=lQ slo_V h8 h9
 have hsl:t.ss.length=(erasS l).length:=lQ cN7 h10 h11
 have hday:(t.so=true→t.day≤e.day)↔∀x,l.getLast? = some x→x.day≤e.day:=by
  constructor
  ·intro h x hx
   rw [← h2 x hx]
   exact h (h1.2 fun e=>by subst e;simp at hx)
  ·intro h hs
   have hne:=h1.1 hs
   obtain ⟨x,hx⟩:∃x,l.getLast? = some x:=⟨_,List.getLast?_eq_some_getLast hne⟩
   rw [h2 x hx]
   exact h x hx
 have hvm:(∀v∈e.vs,v∉t.vs)↔∀v∈e.vs,v∉kN l:=forall_congr' fun v=>forall_congr' fun _=>not_congr (h9 v)
 have hsm:(∀v∈e.ss,v∉t.ss)↔∀v∈e.ss,v∉rM l:=forall_congr' fun v=>forall_congr' fun _=>not_congr (h11 v)
 have hno:((e.plan,e.step)∉t.st)↔¬∃x∈l,x.k=3∧x.plan=e.plan∧x.step=e.step:=not_congr (h7 _ _)
 have hbc:(e.plan∈t.bg∧e.plan∉t.co)↔rN l 2 e.plan∧¬rN l 4 e.plan:=and_congr (h5 _) (not_congr (h6 _))
 constructor
 ·rintro ⟨a1,a2,a3,a4,a5,a6,a7⟩
  exact ⟨a1,⟨a2.1,a2.2.1,hday.1 a2.2.2⟩,a3,fun k=>by
   obtain ⟨p1,p2,p3,p4,⟨p5,p6⟩,p7,p8⟩:=a4 k
   exact ⟨by rw [p1,h3],p2,by omega,by omega,⟨p5,hvm.1 p6⟩,p7,hsm.1 p8⟩,fun k=>⟨hbc.1 (a5 k).1,(a5 k).2.1,hno.1 (a5 k).2.2⟩,fun k=>hbc.1 (a6 k),fun k=>by rw [← h4];exact a7 k⟩
 ·rintro ⟨a1,a2,a3,a4,a5,a6,a7⟩
  exact ⟨a1,⟨a2.1,a2.2.1,hday.2 a2.2.2⟩,a3,fun k=>by
   obtain ⟨p1,p2,p3,p4,⟨p5,p6⟩,p7,p8⟩:=a4 k
   exact ⟨by rw [p1,h3],p2,by omega,by omega,⟨p5,hvm.2 p6⟩,p7,hsm.2 p8⟩,fun k=>⟨hbc.2 (a5 k).1,(a5 k).2.1,hno.2 (a5 k).2.2⟩,fun k=>hbc.2 (a6 k),fun k=>by rw [h4];exact a7 k⟩
end Go.Proofs.YtbgehdndimlgkaaGreat
namespace Go.Av
open Go Go.RowKit
structure MoreR (σ:Nat→Nat) (C C':Cx):Prop where
 dom:∀id,C.dom id→C'.dom (σ id)∧C'.M (σ id)=C.M id
 ok:kM C.ok C'.ok C.w C'.w
 shape:∀b x,C.w.shape? b=some x→C'.w.shape? b=some x
mutual
theorem Rep.moreR {σ:Nat→Nat} {C C':Cx} (h:MoreR σ C C'):∀(x:AV) (u:Value),Rep C x u→Rep C' (x.mp σ) u
 | .c x,u,hu=>by simp only [Rep,AV.mp] at hu ⊢;exact RepC.mono h.ok x u hu
 | .ref id off,u,hu=>by
  simp only [Rep,AV.mp] at hu ⊢
  obtain ⟨hd,g,hg,hu⟩:=hu
  obtain ⟨k1,k2⟩:=h.dom id hd
  exact nB
 | .own id off n size full,u,hu=>by
  simp only [Rep,AV.mp] at hu ⊢
  obtain ⟨hd,hu⟩:=hu
  obtain ⟨k1,k2⟩:=h.dom id hd
  refine ⟨k1,?_⟩
  rcases hu with ⟨h1,h2,h3,h4⟩|⟨g,cp,h1,h2,h3,h4,h5⟩|h6
  ·exact cA2
  ·exact .inr (.inl ⟨g,cp,k2.trans h1,h2,h3,h4,fun hf=>let ⟨e,he⟩:=h5 hf;⟨e,h.shape _ _ he⟩⟩)
  ·exact .inr (.inr h6)
 | .ip cs off,u,hu=>by
  simp only [Rep,AV.mp] at hu ⊢
  obtain ⟨b,o,us,h1,h2,h3,h4,h6,h5⟩:=hu
  obtain ⟨k1,k2,k3⟩:=h.ok b h2 h3
  exact ⟨b,o,us,h1,k1,k2,RepCs.mono h.ok cs us h4,h6,fun j x hx=>by rw [World.cell?_of_block (w:=C.w) k3];exact h5 j x hx⟩
 | .agg xs,u,hu=>by
  simp only [Rep,AV.mp] at hu ⊢
  obtain ⟨us,h1,h2⟩:=hu
  exact ⟨us,h1,RepL.moreR h xs us h2⟩
 | .tup xs,u,hu=>by
  simp only [Rep,AV.mp] at hu ⊢
  obtain ⟨us,h1,h2⟩:=hu
  exact ⟨us,h1,RepL.moreR h xs us h2⟩
 | .fn f caps,u,hu=>by
  simp only [Rep,AV.mp] at hu ⊢
  obtain ⟨us,h1,h2⟩:=hu
  exact ⟨us,h1,RepL.moreR h caps us h2⟩
 | .yld id,u,hu=>by
  simp only [Rep,AV.mp] at hu ⊢
  obtain ⟨hd,g,hg,hu⟩:=hu
  obtain ⟨k1,k2⟩:=h.dom id hd
  exact nB
 | .mh id,u,hu=>by
  simp only [Rep,AV.mp] at hu ⊢
  obtain ⟨hd,g,hg,hu⟩:=hu
  obtain ⟨k1,k2⟩:=h.dom id hd
  exact nB
 | .bm f id,u,hu=>by
  simp only [Rep,AV.mp] at hu ⊢
  obtain ⟨hd,g,hg,hu⟩:=hu
  obtain ⟨k1,k2⟩:=h.dom id hd
  exact nB
 | .junk,u,hu=>by simp only [Rep,AV.mp]
theorem RepL.moreR {σ:Nat→Nat} {C C':Cx} (h:MoreR σ C C'):∀(xs:List AV) (us:List Value),RepL C xs us→RepL C' (AV.mps σ xs) us
 | [],us,hu=>by simpa [RepL,AV.mps] using hu
 | c::cs,us,hu=>by
  simp only [RepL,AV.mps] at hu ⊢
  obtain ⟨u,us',h1,h2,h3⟩:=hu
  exact ⟨u,us',h1,Rep.moreR h c u h2,RepL.moreR h cs us' h3⟩
end
theorem RepM.moreR {σ:Nat→Nat} {C C':Cx} (h:MoreR σ C C'):∀(es:List (CV × AV)) (ms:List MapEntry),RepM C es ms→RepM C' (es.map fun p=>(p.1,p.2.mp σ)) ms
 | [],ms,hu=>hu
 | e::es,ms,hu=>by
  obtain ⟨m,ms',h1,h2,h3,h4⟩:=hu
  exact ⟨m,ms',h1,RepC.mono h.ok _ _ h2,Rep.moreR h _ _ h3,RepM.moreR h es ms' h4⟩
theorem ObjRep.moreR {σ:Nat→Nat} {C C':Cx} (h:MoreR σ C C') {g:Option Nat} {o:AObj} (hw:C'.w=C.w) (ho:ObjRep C g o):ObjRep C' g (o.mp σ):=by
 cases o with
 | blk T cs =>
  obtain ⟨k,us,rfl,h2,h3⟩:=ho
  exact ⟨k,us,rfl,by rw [hw];exact h2,RepL.moreR h cs us h3⟩
 | row T cs =>
  rcases ho with h1|⟨k,us,vs,rfl,h2,h3,h4⟩
  ·exact .inl h1
  ·exact .inr ⟨k,us,vs,rfl,by rw [hw];exact h2,RepCs.mono h.ok cs us h3,h4⟩
 | lp b sz L sl xs =>
  obtain ⟨k,r,rfl,h2,h3,h4,h5,h6,h7,h8,h9⟩:=ho
  exact ⟨k,r,rfl,by rw [hw];exact h2,h3,h4,h5,h6,h7,h8,RepL.moreR h xs _ h9⟩
 | dfr b =>
  obtain ⟨k,rfl,h2⟩:=ho
  exact ⟨k,rfl,by rw [hw];exact h2⟩
 | tab es =>
  obtain ⟨k,ms,t,rfl,h2,h3⟩:=ho
  exact ⟨k,ms,t,rfl,by rw [hw];exact h2,h3.1,RepM.moreR h es _ h3.2⟩
 | dead=>exact ho.elim
def shB:Option AObj→Option AObj→Bool
 | some (.blk _ c),some (.blk _ c')=>Nat.beq c.length c'.length
 | some (.tab _),some (.tab _)=>true
 | _,_=>false
theorem aU0 {a b:Option AObj} (h:shB a b=true):∃x y,a=some x∧b=some y:=by
 unfold shB at h
 split at h<;>first|exact ⟨_,_,rfl,rfl⟩|cases h
def ACG (P:Program) (f:FuncId) (k:Nat) (h0:aO) (args:List CV) (h1:aO) (r:CV):Prop :=
 ∀(ok:Nat→Prop) (w:World) (M:Nat→Option Nat) (g:Nat) (vs:List Value),ConcH ⟨w,(List.range k).filterMap M,ok,[]⟩ (lt k) M (lk h0) w→M 0=some g→(∀b,ok b→∀id,id<k→M id≠some b)→RepCs ok w args vs →
  Calls P f (Value.pointer (some ⟨g,0,none⟩)::vs).toArray w fun e w'=>∃v,e = .returned v∧ConcH ⟨w,(List.range k).filterMap M,ok,[]⟩ (lt k) M (lk h1) w'∧RepC (aY ⟨w,(List.range k).filterMap M,ok,[]⟩ (lt k) M (lk h1)) w' r v
theorem ACG.eq {P:Program} {f:FuncId} {k:Nat} {h0 h1 h1':aO} {args:List CV} {r r':CV} (h:ACG P f k h0 args h1 r) (e1:h1=h1') (e2:r=r'):ACG P f k h0 args h1' r':=e1▸e2▸h
theorem vS {σ:Nat→Nat} {F:AObj→AObj} {h:aO} {q:Nat}:∀{h1:aO},(∀p∈h1,σ p.1≠q)→lk (h1.map (fun p=>(σ p.1,F p.2))++h) q=lk h q
 | [],_=>rfl
 | p::h1,hn=>by
  rw [List.map_cons,List.cons_append,bV,if_neg (hn p aP)]
  exact vS fun p hp=>hn p (by simp [hp])
theorem vT {σ:Nat→Nat} {h:aO} {k:Nat} (hi:∀i j,i<k→j<k→σ i=σ j→i=j) {id:Nat} (hid:id<k) {o:AObj}:∀{h1:aO},(∀p∈h1,p.1<k)→lk h1 id=some o→lk (h1.map (fun p=>(σ p.1,p.2.mp σ))++h) (σ id)=some (o.mp σ)
 | [],_,e=>by cases e
 | p::h1,hk,e=>by
  rw [List.map_cons,List.cons_append,bV]
  rw [bV] at e
  by_cases hp:p.1=id
  ·rw [if_pos hp] at e
   rw [if_pos (by rw [hp]),rD e]
   cases o<;>first|rfl|(have:=rD e;rw [this] at e;cases e)
  ·rw [if_neg hp] at e
   rw [if_neg (fun he=>hp (hi _ _ (hk p aP) hid he))]
   exact vT hi hid (fun p hp=>hk p (by simp [hp])) e
section call
variable {P:Program} {sz n k:Nat} {env:Env} {h h0 h1 hm:aO} {dfs:bZ} {K:AK} {ops:Array Oper} {rest:List Oper} {d:Option Tmp} {ty:TypeId} {pos:String} {aft:Array Edge} {gd:Option (Nat × Bool)} {f:FuncId} {x0:Operand} {xs:List Operand} {ats:Array TypeId} {cs cs':List CV} {r:CV}
theorem mW (l : List Nat) (hac : ACG P f k h0 cs' h1 r) (hg : guardA ops env ⟨d, .call ⟨.value (.func f), (x0 :: xs).toArray, ats⟩, ty, pos, aft, gd⟩ true) (hd : gO d sz = true) (hb : Body P f) (hk0 : Nat.blt 0 k = true) (hN : (List.range k).all (fun i => Nat.blt (sg l i) n) = true)
    (hinj : (List.range k).all (fun i => (List.range k).all fun j => Nat.beq i j || !Nat.beq (sg l i) (sg l j)) = true) (hx0 : evA env x0 = some (.ref (sg l 0) 0)) (hh : mR (sg l) h k h0) (hsh : (List.range k).all (fun i => shB (lk h0 i) (lk h1 i)) = true) (hkeys : h1.all (fun p => Nat.blt p.1 k) = true)
    (hx : eF (evA env) xs = some cs) (hcv : CvL cs cs') (hhm : h1.map (fun p => (sg l p.1, p.2.mp (sg l))) = hm)
    (next : AWL P ops sz rest K n (fQ env d (.c r)) (hm ++ h) dfs) : AWL P ops sz (⟨d, .call ⟨.value (.func f), (x0 :: xs).toArray, ats⟩, ty, pos, aft, gd⟩ :: rest) K n env h dfs := by
  subst hhm
  have hk0 : 0 < k := by simpa using hk0
  have hn' : ∀ i, i < k → sg l i < n := fun i hi => by
    have := List.all_eq_true.1 hN i (List.mem_range.2 hi)
    simpa using this
  have hi' : ∀ i j, i < k → j < k → sg l i = sg l j → i = j := fun i j hi hj e => by
    have := List.all_eq_true.1 (List.all_eq_true.1 hinj i (List.mem_range.2 hi)) j (List.mem_range.2 hj)
    simp only [Bool.or_eq_true, Bool.not_eq_true'] at this
    rcases this with h | h
    · exact Nat.eq_of_beq_eq_true h
    · rw [e, Nat.beq_refl] at h; cases h
  have hsh' : ∀ i, i < k → shB (lk h0 i) (lk h1 i) = true := fun i hi => List.all_eq_true.1 hsh i (List.mem_range.2 hi)
  have hkeys' : ∀ p ∈ h1, p.1 < k := fun p hp => by have := List.all_eq_true.1 hkeys p hp; simpa using this
  generalize sg l = σ at *
  clear hN hinj hsh hkeys
  intro B a w hc
  obtain ⟨M, g1, g2, g3, g4⟩ := hc
  refine eC fun K' hK' => ?_
  rw [if_pos (hg.wanted g3)]
  have he := cZ g3
  let M' : Nat → Option Nat := fun i => M (σ i)
  let ok := aY B (lt n) M (lk h)
  let B' : Bs := ⟨w, (List.range k).filterMap M', ok, []⟩
  have hl0 : ∀ i, i < k → ∃ o0 o1, lk h0 i = some o0 ∧ lk h1 i = some o1 ∧ lk h (σ i) = some (o0.mp σ) ∧ lk (h1.map (fun p => (σ p.1, p.2.mp σ)) ++ h) (σ i) = some (o1.mp σ) := fun i hi => by
    obtain ⟨x, y, e1, e2⟩ := aU0 (hsh' i hi)
    exact ⟨x, y, e1, e2, (hh i x e1).1, vT hi' hi hkeys' e2⟩
  have hout : ∀ q, (∀ i, i < k → σ i ≠ q) → lk (h1.map (fun p => (σ p.1, p.2.mp σ)) ++ h) q = lk h q := fun q hq => vS fun p hp => hq p.1 (hkeys' p hp)
  have hnk : ∀ b, ok b → ∀ id, id < k → M' id ≠ some b := fun b hb id hid he => by
    obtain ⟨o0, o1, e1, e2, e3, e4⟩ := hl0 id hid
    exact hb.2 (σ id) _ (hn' id hid) e3 he
  have hmemG : ∀ b, b ∈ (List.range k).filterMap M' ↔ ∃ i, i < k ∧ M' i = some b := fun b => by simp [List.mem_filterMap]
  have hless : LessR k σ (cx B n M h w) ⟨lt k, M', aY B' (lt k) M' (lk h0), w⟩ := ⟨fun id hid _ => ⟨hid, rfl⟩, fun b hb hl => ⟨⟨.inl hb, fun id o hid hH he => hnk b hb id hid he⟩, hl, rfl⟩, fun _ _ h => h⟩
  have hcon : ConcH B' (lt k) M' (lk h0) w := by
    refine ⟨FrB.refl _ _, fun id o hid hH => ?_, fun id id' o o' g k1 k2 k3 k4 k5 k6 => ?_, fun id o g k1 k2 k3 => .inr ((hmemG g).2 ⟨id, k1, k3⟩)⟩
    · exact (g1.obj _ _ (hn' id hid) (hh id o hH).1).lessR hless rfl (hh id o hH).2
    · exact hi' id id' k1 k2 (g1.inj _ _ _ _ g (hn' id k1) (hn' id' k2) (hh id o k3).1 (hh id' o' k4).1 k5 k6)
  have hargs : RepCs ok w cs (xs.map a.eval) := RepL.toC (C := cx B n M h w) (fL he sV)
  have hp := he x0 _ hx0
  simp only [Rep] at hp
  obtain ⟨hid, g, hM, hp⟩ := hp
  unfold Oper.wp execOp
  simp only [resolve, Deferred.ofValue, Act.eval, invoke, Sem.run_bind, Sem.run_pure, Result.andThen_ok, List.map_toArray, Array.append_empty, Body.run hb, Oper.upon]
  rw [show (#[] ++ (List.map a.eval (x0 :: xs)).toArray : Array Value) = (Value.pointer (some ⟨g, 0, none⟩) :: List.map a.eval xs).toArray by simp [hp]]
  refine (hac ok w M' g _ hcon hM hnk (hcv _ _ _ hargs)).mono ?_
  rintro e w' ⟨v, rfl, hc1, hv⟩
  simp only
  generalize hHm : h1.map (fun p => (σ p.1, p.2.mp σ)) ++ h = Hm at *
  have hlive : ∀ q, (lk Hm q).isSome = (lk h q).isSome := fun q => by
    by_cases hq : ∃ i, i < k ∧ σ i = q
    · obtain ⟨i, hi, rfl⟩ := hq
      obtain ⟨o0, o1, e1, e2, e3, e4⟩ := hl0 i hi
      rw [e3, e4]; rfl
    · rw [hout q fun i hi e => hq ⟨i, hi, e⟩]
  have hliveS : ∀ q o, lk Hm q = some o → ∃ o', lk h q = some o' := fun q o hq => by
    have := hlive q
    rw [hq] at this
    exact Option.isSome_iff_exists.1 this.symm
  have hliveS' : ∀ q o, lk h q = some o → ∃ o', lk Hm q = some o' := fun q o hq => by
    have := hlive q
    rw [hq] at this
    exact Option.isSome_iff_exists.1 this
  have hfr := hc1.fr
  have hGb : ∀ b, b < w.heap.size → (∀ i, i < k → M' i ≠ some b) → w'.heap[b]? = w.heap[b]? := fun b hb hn => hfr.block b hb (fun hm => by obtain ⟨i, hi, e⟩ := (hmemG b).1 hm; exact hn i hi e)
  have hokE : aY B (lt n) M (lk Hm) = ok := by
    funext b
    simp only [ok, aY, eq_iff_iff]
    refine and_congr Iff.rfl ⟨fun hk q o hq hH => ?_, fun hk q o hq hH => ?_⟩
    · obtain ⟨o', ho'⟩ := hliveS' q o hH; exact hk q o' hq ho'
    · obtain ⟨o', ho'⟩ := hliveS q o hH; exact hk q o' hq ho'
  have hkeep : kM ok (aY B (lt n) M (lk Hm)) w w' := fun b hb hl => ⟨by rw [hokE]; exact hb, Nat.lt_of_lt_of_le hl hfr.size, hGb b hl (fun i hi => hnk b hb i hi)⟩
  have hshape : ∀ b e s, w.shape? b = some (e, s) → ∃ e', w'.shape? b = some (e', s) := fun b e s hs => by
    by_cases hq : ∃ i, i < k ∧ M' i = some b
    · obtain ⟨i, hi, hMi⟩ := hq
      obtain ⟨o0, o1, e1, e2, e3, e4⟩ := hl0 i hi
      have p0 := hcon.obj i o0 hi e1
      have p1 := hc1.obj i o1 hi e2
      have ps := hsh' i hi
      rw [e1, e2] at ps
      cases o0 <;> cases o1 <;> simp only [shB] at ps <;> try cases ps
      · obtain ⟨b0, us0, q1, q2, q3⟩ := p0
        obtain ⟨b1, us1, r1, r2, r3⟩ := p1
        rw [hMi] at q1 r1
        injection q1 with q1
        injection r1 with r1
        subst q1 r1
        rename_i T0 c0 T1 c1
        refine ⟨T1, ?_⟩
        have ps := Nat.eq_of_beq_eq_true ps
        have l0 := q3.length
        have l1 := r3.length
        unfold World.shape? at hs ⊢
        simp only at q2 r2
        rw [q2] at hs
        rw [r2]
        simp only [Option.some.injEq, Prod.mk.injEq, List.size_toArray] at hs ⊢
        exact ⟨trivial, by omega⟩
      · obtain ⟨b0, ms, t, q1, q2, q3⟩ := p0
        rw [hMi] at q1
        injection q1 with q1
        subst q1
        unfold World.shape? at hs
        simp only at q2
        rw [q2] at hs
        cases hs
    · refine ⟨e, ?_⟩
      rw [dP (hGb b (jA hs) fun i hi e => hq ⟨i, hi, e⟩)]
      exact hs
  have hext : Ext (cx B n M h w) (cx B n M Hm w') := ⟨fun id hid => ⟨hid, rfl⟩, hkeep, hshape⟩
  have hnewok : ∀ b, aY B' (lt k) M' (lk h1) b → b < w'.heap.size → aY B (lt n) M (lk Hm) b := fun b hb hl => by
    rw [hokE]
    rcases hb.1 with h5 | h5 | h5
    · exact h5
    · refine ⟨.inr (.inl (Nat.le_trans g1.fr.size h5)), fun q o hq hH he => ?_⟩
      have := (g1.obj q o hq hH).lt b he
      simp only [B', cx] at h5 this
      omega
    · obtain ⟨i, hi, e⟩ := (hmemG b).1 h5
      obtain ⟨o0, o1, e1, e2, e3, e4⟩ := hl0 i hi
      exact absurd e (hb.2 i o1 hi e2)
  have hmore : MoreR σ ⟨lt k, M', aY B' (lt k) M' (lk h1), w'⟩ (cx B n M Hm w') := ⟨fun id hid => ⟨hn' id hid, rfl⟩, fun b hb hl => ⟨hnewok b hb hl, hl, rfl⟩, fun _ _ h => h⟩
  have hcc : ConcH B (lt n) M (lk Hm) w' := by
    refine ⟨⟨hfr.os.trans g1.fr.os, hfr.tape.trans g1.fr.tape, hfr.output.trans g1.fr.output, Nat.le_trans g1.fr.size hfr.size, fun b hb hnG => ?_⟩, fun q o hq hH => ?_, fun q q' o o' g k1 k2 k3 k4 => ?_, fun q o g k1 k2 => ?_⟩
    · rw [hGb b (Nat.lt_of_lt_of_le hb g1.fr.size) (fun i hi e => ?_)]
      · exact g1.fr.block b hb hnG
      · obtain ⟨o0, o1, e1, e2, e3, e4⟩ := hl0 i hi
        rcases g1.lo _ _ b (hn' i hi) e3 e with h5 | h5
        · omega
        · exact hnG h5
    · by_cases hqi : ∃ i, i < k ∧ σ i = q
      · obtain ⟨i, hi, rfl⟩ := hqi
        obtain ⟨o0, o1, e1, e2, e3, e4⟩ := hl0 i hi
        rw [e4] at hH
        injection hH with hH
        subst hH
        exact (hc1.obj i o1 hi e2).moreR hmore rfl
      · have hH' : lk h q = some o := by rw [← hout q fun i hi e => hqi ⟨i, hi, e⟩]; exact hH
        have ho := g1.obj q o hq hH'
        refine ho.ext hext fun b hb => hGb b (ho.lt b hb) fun i hi e => ?_
        obtain ⟨o0, o1, e1, e2, e3, e4⟩ := hl0 i hi
        exact hqi ⟨i, hi, g1.inj _ _ _ _ b (hn' i hi) hq e3 hH' e hb⟩
    · obtain ⟨x, hx⟩ := hliveS q o k3
      obtain ⟨y, hy⟩ := hliveS q' o' k4
      exact g1.inj q q' x y g k1 k2 hx hy
    · obtain ⟨x, hx⟩ := hliveS q o k2
      exact g1.lo q x g k1 hx
  have hvr : Rep (cx B n M Hm w') (.c r) v := RepC.mono (fun b hb hl => ⟨hnewok b hb hl, hl, rfl⟩) _ _ hv
  obtain ⟨p1, p2, p3⟩ := kL (h' := Hm) (M' := M) g2 g3 hext (eK hd) hvr
  exact hK' _ _ (next B _ _ ⟨M, hcc, p1, p2, by rw [p3]; exact g4.ext hext⟩)
end call
section enter
def frG:Nat→List AV→Bool
 | _,[]=>true
 | i,.ref j 0::r=>Nat.beq i j&&frG (i+1) r
 | i,.mh j::r=>Nat.beq i j&&frG (i+1) r
 | _,_=>false
theorem bH3 {i0 i:Nat}:∀{l:List AV} {v:AV},frG i0 l=true→l[i]? = some v→v = .ref (i0+i) 0∨v = .mh (i0+i):=by
 induction i generalizing i0 with
 | zero =>
  intro l v h hv
  match l,h,hv with
  | .ref j 0::r,h,hv =>
   simp only [frG,Bool.and_eq_true] at h
   simp only [List.length_cons,List.getElem?_cons_zero,Option.some.injEq] at hv
   rw [← hv,Nat.eq_of_beq_eq_true h.1]
   exact .inl rfl
  | .mh j::r,h,hv =>
   simp only [frG,Bool.and_eq_true] at h
   simp only [List.length_cons,List.getElem?_cons_zero,Option.some.injEq] at hv
   rw [← hv,Nat.eq_of_beq_eq_true h.1]
   exact .inr rfl
 | succ i ih =>
  intro l v h hv
  match l,h,hv with
  | .ref j 0::r,h,hv =>
   simp only [frG,Bool.and_eq_true] at h
   have:=ih h.2 (by simpa using hv)
   rw [show i0+1+i=i0+(i+1) by omega] at this
   exact this
  | .mh j::r,h,hv =>
   simp only [frG,Bool.and_eq_true] at h
   have:=ih h.2 (by simpa using hv)
   rw [show i0+1+i=i0+(i+1) by omega] at this
   exact this
def fE (P:Program) (tab:Tab) (rs:List ResultVar) (k:Nat) (F:List AV) (h1:aO) (r:CV):AK :=
 fun e n env h dfs=>(e = .normal∨e = .ret)∧gV P h dfs∧iU dfs=some F∧k≤n∧mR id (fR h dfs) k h1∧(∀i,i<k→(lk (fR h dfs) i).isSome=true∧(lk h1 i).isSome=true)∧∃v,ResL tab env (fR h dfs) rs v∧Frz (List.range k) (fR h dfs) v r
theorem bJ8 {P:Program} {tab:Tab} {rs:List ResultVar} {k:Nat} {F:List AV} {h1 h h':aO} {r:CV} {v:AV} {n:Nat} {e:Exit} {env:Env} {dfs:bZ} (he:e = .normal∨e = .ret) (hd:gV P h dfs) (hm:iU dfs=some F) (hh:fR h dfs=h') (hn:Nat.ble k n=true) (hw:mR id h' k h1) (hl:(List.range k).all (fun i=>(lk h' i).isSome&&(lk h1 i).isSome)=true) (hv:ResL tab env h' rs v) (ho:Frz (List.range k) h' v r):fE P tab rs k F h1 r e n env h dfs:=by
 subst hh
 refine ⟨he,hd,hm,Nat.le_of_ble_eq_true hn,hw,fun i hi=>?_,v,hv,ho⟩
 have:=List.all_eq_true.1 hl i (List.mem_range.2 hi)
 simpa using this
theorem mp_id:∀x:AV,x.mp id=x:=by
 intro x
 have:(∀x:AV,x.mp id=x)∧(∀xs:List AV,AV.mps id xs=xs):=by
  refine ⟨fun x=>?_,fun xs=>?_⟩
  ·induction x using AV.rec (motive_2:=fun xs=>AV.mps id xs=xs)<;>simp_all [AV.mp,AV.mps]
  ·induction xs using AV.rec_1 (motive_1:=fun x=>x.mp id=x)<;>simp_all [AV.mp,AV.mps]
 exact this.1 x
theorem cM {P : Program} {tab : Tab} (tb : bK P tab) (F : List AV) {f : FuncId} {fn : Func} {c : Code} {k : Nat} {h0 h1 : aO} {args : List CV} {r : CV} {sz : Nat} (hf : P.funcs[f]? = some fn) (hb : fn.body = some c) (hsz : max fn.ntmps (args.length + 1) = sz) (hF : frG 0 F = true) (hFl : Nat.beq F.length k = true) (hlv : (List.range k).all (fun i => (lk h0 i).isSome) = true) (hF0 : F[0]? = some (.ref 0 0))
    (hmh : ∀ i, F[i]? = some (.mh i) → ∃ es, lk h0 i = some (.tab es)) (hrf : ∀ i, F[i]? = some (.ref i 0) → ∃ T cs, lk h0 i = some (.blk T cs))
    (hx : AW P sz c (fE P tab fn.results.toList k F h1 r) k (vM 0 (.ref 0 0 :: args.map AV.c)) h0 [(none, F)]) : ACG P f k h0 args h1 r := by
  intro ok w M g vs hcon hM0 hnk hvs
  have hlen := hvs.length
  have hFl := Nat.eq_of_beq_eq_true hFl
  have hk0 : 0 < k := by
    rw [← hFl]
    have := (List.getElem?_eq_some_iff.1 hF0).1
    omega
  have hfv : ∃ fr : List Value, ∀ (ok' : Nat → Prop) (w' : World), RepL ⟨lt k, M, ok', w'⟩ F fr := by
    have key : ∀ (l : List AV) (i0 : Nat), frG i0 l = true → i0 + l.length ≤ k → (∀ i v, l[i]? = some v → F[i0 + i]? = some v) → ∃ fr : List Value, ∀ (ok' : Nat → Prop) (w' : World), RepL ⟨lt k, M, ok', w'⟩ l fr := by
      intro l
      induction l with
      | nil => intro i0 _ _ _; exact ⟨[], fun _ _ => rfl⟩
      | cons v l ih =>
        intro i0 h1 h2 h3
        have hv := bH3 (i := 0) h1 rfl
        have hF' := h3 0 v rfl
        obtain ⟨fr, hfr⟩ := ih (i0 + 1) (by
          match v, h1 with
          | .ref j 0, h1 => simp only [frG, Bool.and_eq_true] at h1; exact h1.2
          | .mh j, h1 => simp only [frG, Bool.and_eq_true] at h1; exact h1.2) (by simp only [List.length_cons] at h2; omega) (fun i x hx => by
            have := h3 (i + 1) x (by simpa using hx)
            rw [show i0 + 1 + i = i0 + (i + 1) by omega]
            exact this)
        have hi0 : i0 < k := by simp only [List.length_cons] at h2; omega
        rw [Nat.add_zero] at hv hF'
        rcases hv with rfl | rfl
        · obtain ⟨T, cs, ho⟩ := hrf i0 hF'
          obtain ⟨b, us, e1, _⟩ := hcon.obj i0 _ hi0 ho
          exact ⟨.pointer (some ⟨b, 0, none⟩) :: fr, fun ok' w' => ⟨_, _, rfl, ⟨hi0, b, e1, rfl⟩, hfr ok' w'⟩⟩
        · obtain ⟨es, ho⟩ := hmh i0 hF'
          obtain ⟨b, ms, t, e1, _⟩ := hcon.obj i0 _ hi0 ho
          exact ⟨.map (some b) :: fr, fun ok' w' => ⟨_, _, rfl, ⟨hi0, b, e1, rfl⟩, hfr ok' w'⟩⟩
    exact key F 0 hF aA (fun i v hv => by rw [Nat.zero_add]; exact hv)
  obtain ⟨fr, hfr⟩ := hfv
  have hcon' : ConcH ⟨w, (List.range k).filterMap M, ok, fr⟩ (lt k) M (lk h0) w := ⟨hcon.fr, hcon.obj, hcon.inj, hcon.lo⟩
  have hok : ∀ b, ok b → aY ⟨w, (List.range k).filterMap M, ok, fr⟩ (lt k) M (lk h0) b := fun b hk => ⟨.inl hk, fun id o hid hH he => hnk b hk id hid he⟩
  have hall : RepL (cx ⟨w, (List.range k).filterMap M, ok, fr⟩ k M h0 w) (.ref 0 0 :: args.map AV.c) (.pointer (some ⟨g, 0, none⟩) :: vs) :=
    ⟨_, _, rfl, ⟨hk0, g, hM0, rfl⟩, RepL.ofC (RepCs.mono (fun b hb hl => ⟨hok b hb, hl, rfl⟩) _ _ hvs)⟩
  refine gC hf hb (wp_mono (kJ (hx ⟨w, (List.range k).filterMap M, ok, fr⟩ _ w ⟨M, hcon', ?_, ?_, ?_⟩)) ?_)
  · simp; omega
  · intro t av ht
    obtain ⟨e1, e2⟩ := lJ ht
    rw [Nat.sub_zero] at e2
    obtain ⟨u, hu, hru⟩ := hall.get e2
    have : ((Value.pointer (some ⟨g, 0, none⟩) :: vs).toArray ++ Array.replicate (fn.ntmps - (Value.pointer (some ⟨g, 0, none⟩) :: vs).toArray.size) undef).getD t undef = u := by
      have hlt := (List.getElem?_eq_some_iff.1 hu).1
      rw [Array.getD_eq_getD_getElem?, Array.getElem?_append_left xW]
      rw [List.getElem?_toArray, hu]
      rfl
    rw [this]
    exact hru
  · exact ⟨hfr _ _, rfl⟩
  · intro e a w' hq
    obtain ⟨n, env, h, dfs, ⟨j1, j2, j3, j4, j5, j6, v, j7, j8⟩, M', d1, d2, d3, d4⟩ := hq
    have : iH P fn a.tmps (fun e w' => ∃ v, e = .returned v ∧ ConcH ⟨w, (List.range k).filterMap M, ok, []⟩ (lt k) M (lk h1) w' ∧ RepC (aY ⟨w, (List.range k).filterMap M, ok, []⟩ (lt k) M (lk h1)) w' r v) a.defers w' := by
      refine fD j2 d1 d4 fun w2 g1 g2 => ?_
      obtain ⟨u, k1, k2⟩ := j7.run tb g1 (fun t av ht => Rep.ext g2 _ _ (d3 t av ht))
      have hfr2 := RepL.ext g2 _ _ (lK j3 d4)
      have hMM : ∀ i, i < k → M' i = M i := fun i hi => by
        obtain ⟨x, hx⟩ : ∃ x, F[i]? = some x := ⟨F[i]'(by omega), List.getElem?_eq_getElem aA⟩
        have hxx := bH3 hF hx
        rw [Nat.zero_add] at hxx
        obtain ⟨u1, q1, q2⟩ := (hfr ok w).get hx
        obtain ⟨u2, q3, q4⟩ := hfr2.get hx
        rw [q1] at q3
        injection q3 with q3
        subst q3
        rcases hxx with rfl | rfl
        · simp only [Rep, cx] at q2 q4
          obtain ⟨_, b1, e1, e2⟩ := q2
          obtain ⟨_, b2, e3, e4⟩ := q4
          rw [e2] at e4
          injection e4 with e4; injection e4 with e4; injection e4 with e4
          rw [e1, e3, e4]
        · simp only [Rep, cx] at q2 q4
          obtain ⟨_, b1, e1, e2⟩ := q2
          obtain ⟨_, b2, e3, e4⟩ := q4
          rw [e2] at e4
          injection e4 with e4; injection e4 with e4
          rw [e1, e3, e4]
      have hsome : ∀ i, i < k → ∃ o, lk (fR h dfs) i = some o := fun i hi => Option.isSome_iff_exists.1 (j6 i hi).1
      have hokd : ∀ b, aY ⟨w, (List.range k).filterMap M, ok, fr⟩ (lt n) M' (lk (fR h dfs)) b → aY ⟨w, (List.range k).filterMap M, ok, []⟩ (lt k) M (lk h1) b := fun b hb => ⟨hb.1, fun id o hid hH he => by
        obtain ⟨o', ho'⟩ := hsome id hid
        exact hb.2 id o' (Nat.lt_of_lt_of_le hid j4) ho' ((hMM id hid).trans he)⟩
      have hls : LessR k id (cx ⟨w, (List.range k).filterMap M, ok, fr⟩ n M' (fR h dfs) w2) ⟨lt k, M, aY ⟨w, (List.range k).filterMap M, ok, []⟩ (lt k) M (lk h1), w2⟩ := ⟨fun q hq _ => ⟨hq, (hMM q hq).symm⟩, fun b hb hl => ⟨hokd b hb, hl, rfl⟩, fun _ _ h => h⟩
      refine ⟨u, k2, u, rfl, ⟨g1.fr, fun q o hq hH => ?_, fun q q' o o' b q1 q2 q3 q4 q5 q6 => ?_, fun q o b q1 q2 q3 => .inr (by simp only [List.mem_filterMap, List.mem_range]; exact ⟨q, q1, q3⟩)⟩, ?_⟩
      · rw [← hMM q hq]
        exact (g1.obj q _ (Nat.lt_of_lt_of_le hq j4) (j5 q o hH).1).lessR hls rfl (j5 q o hH).2
      · exact g1.inj q q' _ _ b (Nat.lt_of_lt_of_le q1 j4) (Nat.lt_of_lt_of_le q2 j4) (j5 q o q3).1 (j5 q' o' q4).1 ((hMM q q1).trans q5) ((hMM q' q2).trans q6)
      · have hz := j8 _ (lt n) M' (lk (fR h dfs)) w2 u (fun id o h _ => h) (fun q hq => ⟨Nat.lt_of_lt_of_le (List.mem_range.1 hq) j4, hsome q (List.mem_range.1 hq)⟩) g1 k1
        refine RepC.mono (fun b hb hl => ⟨⟨hb.1, fun id o hid hH he => ?_⟩, hl, rfl⟩) _ _ hz
        exact hb.2 id (List.mem_range.2 hid) ((hMM id hid).trans he)
    rcases j1 with rfl | rfl <;> exact this
end enter
end Go.Av
