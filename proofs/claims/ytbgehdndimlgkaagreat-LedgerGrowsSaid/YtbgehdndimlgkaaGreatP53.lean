/- Lemmas for laws of the ledger. -/
import Derived.Test.YtbgehdndimlgkaaGreatP45
set_option linter.all false
set_option maxHeartbeats 16000000
namespace Go.Proofs.YtbgehdndimlgkaaGreat
open Go Go.RowKit Go.Av
set_option maxRecDepth 100000
theorem bT7 {l:List LEn} (h:rY l) (hw:∀e∈l,e.wf/\aS e.k):OkL l:=fun e he=>⟨(hw e he).1,(hw e he).2,qZ (h.2 e he)⟩
abbrev fF5:=kS tab [(0,55),(4,23),(5,28)]
def lgG (n:Nat) (L:D8):D8:=[.sl 1 0 (u8c []),.sl 1 0 (u8c []),iv (-1),bv false,.sl 65 n L]++List.replicate 32 (.v (.int .u8 0))
theorem bC1 (n:Nat) (L:D8):rF (kS tab [(0,55),(4,23),(5,28)]) (zav lgZv) [(0,[CV.sl 1 0 (u8c []),.sl 1 0 (u8c []),iv (-1),bv false].map AV.c),(1,[.c (.sl 65 n L)])]=some ((lgG n L).map AV.c):=rfl
theorem bU5 (n:Nat) (L:D8):(lgG n L).all CV.one=true:=rfl
theorem bU4 (n:Nat) (L:D8):(lgG n L).length=37:=rfl
attribute [local irreducible] Still Adds AWL AW Drw bY bW AC AWR cR Frz Go.Av.Src cQ Out InK ItK AsK RdK eL eF ACT ACA eT ACG fP
section
variable (l:List LEn) (n:Nat) (hn:l.length=n) (hb:n<=maxLen) (hw:∀e∈l,e.wf/\aS e.k) (x:LEn) (hx:x.wf) (hxk:aS x.k) (nv ns:Nat) (hnv:x.vs.length=nv) (hns:x.ss.length=ns)
include l n hn hb hw x hx hxk nv ns hnv hns
theorem fB1 (hf:¬rY l):qC' 6 [.sl 65 n (lec l),.agg (ecs x nv ns)] (.c (bv true)) [] 0:=by
 have hel:=cI hx.root nv ns
 have h1:=qD l n hn hb (fun e he=>(hw e he).1) false ⟨fun h=>dS,fun h=>absurd h hf⟩
 generalize lec l=L at *
 generalize ecs x nv ns=cs at *
 refine aD aB (sz:=107) Tryz.func6 rfl aS8 ?_
 repeat' (first|(refine aC ?_;intro K hK hX)|refine aY [0,1,3,4,5,6,7,8,9,10,11,12,13,14] ?_|((with_reducible refine bH ?_);refine yA ?_;refine bE (bJ rfl) rfl ?_)|(refine bK ?_;first|refine c0 dW ?_|refine c0 h1 ?_)|refine stA ?_|refine stD ?_|(refine aE hK hX ?_;clear hK hX K)|fail)
 exact aV
theorem fB2 (hf:rY l) (hs:¬smE x):qC' 6 [.sl 65 n (lec l),.agg (ecs x nv ns)] (.c (bv true)) [] 0:=by
 have hel:=cI hx.root nv ns
 have h1:=qD l n hn hb (fun e he=>(hw e he).1) true ⟨fun _=>hf,fun _=>rfl⟩
 have h2:=kT x hx.root nv ns hnv hns false ⟨fun h=>dS,fun h=>absurd h hs⟩
 generalize lec l=L at *
 generalize ecs x nv ns=cs at *
 refine aD aB (sz:=107) Tryz.func6 rfl aS8 ?_
 repeat' (first|(refine aC ?_;intro K hK hX)|refine aY [0,1,3,4,5,6,7,8,9,10,11,12,13,14] ?_|((with_reducible refine bH ?_);refine yA ?_;refine bE (bJ rfl) rfl ?_)|(refine bK ?_;first|refine c0 dW ?_|refine c0 h1 ?_|refine c0 h2 ?_)|refine stA ?_|refine stD ?_|(refine aE hK hX ?_;clear hK hX K)|fail)
 exact aV
theorem fB3 (hf:rY l) (hs:smE x) (hF:¬Fol l x):qC' 6 [.sl 65 n (lec l),.agg (ecs x nv ns)] (.c (bv true)) [] 0:=by
 have hel:=cI hx.root nv ns
 have h1:=qD l n hn hb (fun e he=>(hw e he).1) true ⟨fun _=>hf,fun _=>rfl⟩
 have h2:=kT x hx.root nv ns hnv hns true ⟨fun _=>hs,fun _=>rfl⟩
 have ho:=bT7 hf hw
 have hz:=qZ hs
 have hn16:n<=16:=by have:=hf.1;omega
 have h3:=rJ ⟨dkN,l,root0⟩ 0 0 n rfl rfl hn aN aN (by simp [dkN]) rfl ho aA x hx hxk hz nv ns hnv hns lgZ 11 0 0 0 (cU9 hF) rfl rfl rfl
 have h4:=qV l n hn aA ho x hx hxk hz nv ns hnv hns false ⟨fun h=>dS,fun h=>absurd h hF⟩
 have gZ:(lgV 0 0 0 lgZ).length=37:=rfl
 have hfill:=bC1 n (lec l)
 have hone:=bU5 n (lec l)
 have hGl:=bU4 n (lec l)
 change AC _ _ [.agg (lgG n (lec l)),.agg (ecs x nv ns)] _ _ _ at h3
 generalize lgV 0 0 0 lgZ=vZ at *
 generalize lgG n (lec l)=G at *
 generalize lec l=L at *
 generalize ecs x nv ns=cs at *
 refine aD aB (sz:=107) Tryz.func6 rfl aS8 ?_
 repeat' (first|(refine aC ?_;intro K hK hX)|refine aY [0,1,3,4,5,6,7,8,9,10,11,12,13,14] ?_|((with_reducible refine lH ?_);refine xA ?_;refine aJ (lO aB rfl rfl rfl rfl (eV rfl) hfill (pR hone)) ?_)|((with_reducible refine bH ?_);refine yA ?_;refine bE (bJ rfl) rfl ?_)|((with_reducible refine aW ?_);refine yA ?_;refine bE (aU (T:=61) aB rfl rfl rfl) rfl ?_)|(refine bK ?_;first|refine c0 aV1 ?_|refine c0 dW ?_|refine c0 h1 ?_|refine c0 h2 ?_|refine c0 h3 ?_|refine c0 h4 ?_)|refine stA ?_|refine stD ?_|(refine aE hK hX ?_;clear hK hX K)|fail)
 exact aV
theorem fB4 (hf:rY l) (hs:smE x) (hF:Fol l x):qC' 6 [.sl 65 n (lec l),.agg (ecs x nv ns)] (.c (bv true)) [] 0:=by
 have hel:=cI hx.root nv ns
 have h1:=qD l n hn hb (fun e he=>(hw e he).1) true ⟨fun _=>hf,fun _=>rfl⟩
 have h2:=kT x hx.root nv ns hnv hns true ⟨fun _=>hs,fun _=>rfl⟩
 have ho:=bT7 hf hw
 have hz:=qZ hs
 have hn16:n<=16:=by have:=hf.1;omega
 have hrd:=bW3 hx hxk hs hF.rd
 obtain ⟨had,hfr⟩:=cU8 aA hx hxk hz hF
 have h3:=rJ ⟨dkN,l,root0⟩ 0 0 n rfl rfl hn aN aN (by simp [dkN]) rfl ho aA x hx hxk hz nv ns hnv hns _ 0 (eA kdL root0 x).length 0 (n+1) had rfl rfl (by simp [hn])
 have ho2:=bU8 ho hx hrd
 have hn2:(l++[rdE x]).length=n+1:=by simp [hn]
 obtain ⟨q1,e1⟩:∃q,(erasS l).length=q:=⟨_,rfl⟩
 obtain ⟨q2,e2⟩:∃q,(erasS (l++[rdE x])).length=q:=⟨_,rfl⟩
 obtain ⟨q3,e3⟩:∃q,(erasV l).length=q:=⟨_,rfl⟩
 obtain ⟨q4,e4⟩:∃q,(erasV (l++[rdE x])).length=q:=⟨_,rfl⟩
 have b1:=bB8 ho
 have b2:=bB8 ho2
 have b3:=bB9 ho
 have b4:=bB9 ho2
 have r1:=aH4 l n hn aA ho q1 e1
 have r2:=aH4 _ (n+1) hn2 aA ho2 q2 e2
 have r3:=xL l n hn aA ho q3 e3
 have r4:=xL _ (n+1) hn2 aA ho2 q4 e4
 have oS2:=bD5 ho2
 have oV2:=bD6 ho2
 have oS1:=bD5 ho
 have oV1:=bD6 ho
 have gS:=eX2 (l:=l) (e:=rdE x)
 have gV:=eX3 (l:=l) (e:=rdE x)
 have gL:=eH1 hx hrd hF
 rw [e3,e4,hnv] at gL
 have hc4:(lgV (eA kdL root0 x).length 0 (n+1) ⟨⟨eA kdL root0 x,[],-1,false⟩,l++[rdE x],kdL root0 (cC x)⟩)[0+4]? = some (.sl 65 (n+1) (lec (l++[rdE x]))):=rfl
 have hlg:(lgV (eA kdL root0 x).length 0 (n+1) ⟨⟨eA kdL root0 x,[],-1,false⟩,l++[rdE x],kdL root0 (cC x)⟩).length=37:=by unfold lgV;rw [Aa,aH,iN];rfl
 have hc0:(ecs x nv ns)[0+0]? = some (iv x.k):=rfl
 have hc31:(ecs x nv ns)[0+31]? = some (.sl 3 nv (vrc x.vs)):=rfl
 have hl1:(src (erasS l)).length=q1*2:=by rw [dI,e1]
 have hl3:(vrc (erasV l)).length=q3*3:=by rw [dE,e3]
 have hll:(lec l).length=n*65:=by rw [dZ ho,hn]
 have hlv:(vrc x.vs).length=nv*3:=by rw [dE,hnv]
 have hfill:=bC1 n (lec l)
 have hone:=bU5 n (lec l)
 have hGl:=bU4 n (lec l)
 change AC _ _ [.agg (lgG n (lec l)),.agg (ecs x nv ns)] _ _ _ at h3
 rw [hn] at b1 b3
 rw [hn2] at b2 b4
 have y3:q3<=17000:=by omega
 have y4:q4<=17000:=by omega
 have yv:nv<=20:=by rw [<- hnv];exact hs.1
 clear hw hs hf had hfr hF hrd ho ho2
 generalize erasS (l++[rdE x])=S2 at *
 generalize erasV (l++[rdE x])=V2 at *
 generalize erasS l=S1 at *
 generalize erasV l=V1 at *
 generalize lgV (eA kdL root0 x).length 0 (n+1) ⟨⟨eA kdL root0 x,[],-1,false⟩,l++[rdE x],kdL root0 (cC x)⟩=g at *
 generalize lec (l++[rdE x])=L2 at *
 generalize lgG n (lec l)=G at *
 generalize lec l=L at *
 generalize ecs x nv ns=cs at *
 generalize x.k=k at *
 refine aD aB (sz:=107) Tryz.func6 rfl aS8 ?_
 repeat' (first|(refine aC ?_;intro K hK hX)|refine aY [0,1,3,4,5,6,7,8,9,10,11,12,13,14] ?_|((with_reducible refine lH ?_);refine xA ?_;refine aJ (lO aB rfl rfl rfl rfl (eV rfl) hfill (pR hone)) ?_)|((with_reducible refine bH ?_);refine yA ?_;refine bE (bJ rfl) rfl ?_)|((with_reducible refine aW ?_);refine yA ?_;refine bE (aU (T:=61) aB rfl rfl rfl) rfl ?_)|(refine bK ?_;first|refine c0 aV1 ?_|refine c0 dW ?_|refine c0 h1 ?_|refine c0 h2 ?_|refine c0 h3 ?_|refine c0 r1 ?_|refine c0 r2 ?_)|refine cH ?_|refine stA ?_|refine stD ?_|(refine aE hK hX ?_;clear hK hX K)|fail)
 refine bF [10] [] rfl rfl (fun i:Nat=>[(10,.c (iv i))]) (fun i=>[]) (fun i=>i<=q1) (fun i=>q1-i) 0 (Al _) cS ?_
 intro i hi K hK hX
 by_cases hlt:i<q1
 ·obtain ⟨v,hat⟩:∃v,S1[i]? = some v:=⟨_,Ab aA⟩
  have hxv:=eB hat
  have hv:=Ad hat
  have hg:=pN S2 q2 e2 aA oS2 v (oS1 v hv) true ⟨fun _=>gS v hv,fun _=>rfl⟩
  repeat' (first|(refine aC ?_;intro K hK hX)|refine cJ4 ?_|(refine aE hK hX ?_;clear hK hX K)|fail)
  exact dN
 have hiq:i=q1:=by omega
 rw [hiq] at *
 repeat' (first|(refine aC ?_;intro K hK hX)|refine aY [0,1,3,4,5,6,7,8,9,10,11,12,13,14] ?_|(refine bK ?_;first|refine c0 r3 ?_|refine c0 r4 ?_)|refine cH ?_|refine stA ?_|refine stD ?_|(refine aE hK hX ?_;clear hK hX K)|fail)
 refine bF [13] [] rfl rfl (fun i:Nat=>[(13,.c (iv i))]) (fun i=>[]) (fun i=>i<=q3) (fun i=>q3-i) 0 (Al _) cS ?_
 intro j hj K hK hX
 by_cases hlt2:j<q3
 ·obtain ⟨v,hat⟩:∃v,V1[j]? = some v:=⟨_,Ab aA⟩
  have hxv:=eN hat
  have hv:=Ad hat
  have hg:=pO V2 q4 e4 aA oV2 v (oV1 v hv) true ⟨fun _=>gV v hv,fun _=>rfl⟩
  repeat' (first|(refine aC ?_;intro K hK hX)|refine cJ4 ?_|(refine aE hK hX ?_;clear hK hX K)|fail)
  exact ⟨j+1,by omega,by omega,cS⟩
 have hjq:j=q3:=by omega
 rw [hjq] at *
 clear r1 r2 r3 r4 oS2 oV2 oS1 oV1 gS gV h1 h2 h3 e1 e2 e3 e4
 by_cases hk2:k=2
 ·rw [Ak hk2] at gL
  rw [hk2] at hc0
  have hwr:IntKind.i64.wrap ((q3:Int)+(nv:Int))=(q4:Int):=by rw [w64 aA aA];omega
  repeat' (first|(refine aC ?_;intro K hK hX)|refine dT5 ?_|(refine aE hK hX ?_;clear hK hX K)|fail)
  exact aV
 ·rw [Ai hk2] at gL
  have hwr:IntKind.i64.wrap ((q3:Int)+0)=(q4:Int):=by rw [w64 aA aA];omega
  repeat' (first|(refine aC ?_;intro K hK hX)|refine dT5 ?_|(refine aE hK hX ?_;clear hK hX K)|fail)
  exact aV
theorem law_lgrows:qC' 6 [.sl 65 n (lec l),.agg (ecs x nv ns)] (.c (bv true)) [] 0:=by
 by_cases hf:rY l
 ·by_cases hs:smE x
  ·by_cases hF:Fol l x
   ·exact fB4 l n hn hb hw x hx hxk nv ns hnv hns hf hs hF
   ·exact fB3 l n hn hb hw x hx hxk nv ns hnv hns hf hs hF
  ·exact fB2 l n hn hb hw x hx hxk nv ns hnv hns hf hs
 ·exact fB1 l n hn hb hw x hx hxk nv ns hnv hns hf
end
end Go.Proofs.YtbgehdndimlgkaaGreat
