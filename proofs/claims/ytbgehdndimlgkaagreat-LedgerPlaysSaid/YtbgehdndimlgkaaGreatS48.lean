/- Lemmas for laws of the ledger. -/
import Derived.Test.YtbgehdndimlgkaaGreatS42
set_option linter.all false
set_option maxHeartbeats 16000000
namespace Go.Proofs.YtbgehdndimlgkaaGreat
open Go Go.RowKit Go.Av
set_option maxRecDepth 100000
attribute [local irreducible] Still Adds AWL AW Drw bX bY AC AWR cU Frz Go.Av.Src cQ Out InK ItK AsK RdK
attribute [local simp] bS bR bI sN uL
theorem rM (a b:Dm) (m k q:Nat) (ha:a.length=m) (hb:b.length=k) (hq:m+k=q) (h:q<=1000000000):qC' 159 [.sl 1 m (u8c a),.sl 1 k (u8c b)] (.own 0 0 q 1 true) [(0,.row 5 (u8c (a++b)))] 1:=by
 have hua:(u8c a).length=m:=by rw [aH,ha]
 have hub:(u8c b).length=k:=by rw [aH,hb]
 subst hq
 rw [bI]
 refine aD aB (sz:=10) Tryz.func159 rfl (by rw [Tryz.ntmps159];rfl) ?_
 repeat' (first|(refine aC ?_;intro K hK hX)|refine aK [0,1,4] ?_|refine stA ?_|(refine aG hK hX ?_;clear hK hX K)|fail)
 have e:0+m+k=m+k:=by omega
 rw [e]
 exact aY
theorem mA (sy pe:Dm) (fu:Int) (dn:Bool) (m k:Nat) (hm:sy.length=m) (hk:pe.length=k) (h1:m<=1000000) (h2:k<=1000000):qC' 100 [dkC m k sy pe fu dn] (.c (bv (Dk.ok ⟨sy,pe,fu,dn⟩))) [] 0:=by
 have hua:(u8c sy).length=m:=by rw [aH,hm]
 have hub:(u8c pe).length=k:=by rw [aH,hk]
 by_cases b0:(m:Int)<=131072
 ·by_cases b1:(k:Int)<=131072-(m:Int)
  ·by_cases b2 : -1<=fu
   ·rw [sE (s:=⟨sy,pe,fu,dn⟩) hm hk aA b2]
    refine aD aB (sz:=22) Tryz.func100 rfl aN3 ?_
    repeat' (first|(refine aC ?_;intro K hK hX)|refine zR ?_|(refine aG hK hX ?_;clear hK hX K)|fail)
    exact aY
   ·rw [rG (s:=⟨sy,pe,fu,dn⟩) hm hk (fun h=>b2 h.2)]
    refine aD aB (sz:=22) Tryz.func100 rfl aN3 ?_
    repeat' (first|(refine aC ?_;intro K hK hX)|refine zR ?_|(refine aG hK hX ?_;clear hK hX K)|fail)
    exact aY
  ·rw [rG (s:=⟨sy,pe,fu,dn⟩) hm hk aA]
   refine aD aB (sz:=22) Tryz.func100 rfl aN3 ?_
   repeat' (first|(refine aC ?_;intro K hK hX)|refine zR ?_|(refine aG hK hX ?_;clear hK hX K)|fail)
   exact aY
 ·rw [rG (s:=⟨sy,pe,fu,dn⟩) hm hk aA]
  refine aD aB (sz:=22) Tryz.func100 rfl aN3 ?_
  repeat' (first|(refine aC ?_;intro K hK hX)|refine zR ?_|(refine aG hK hX ?_;clear hK hX K)|fail)
  exact aY
theorem dH6:qC' 33 [] (.c (dkC 0 0 [] [] (-1) false)) [] 0:=by
 refine aD aB (sz:=2) Tryz.func33 rfl (by rw [Tryz.ntmps33];rfl) ?_
 repeat' (first|(refine aC ?_;intro K hK hX)|refine aK [0] ?_|refine stA ?_|(refine aG hK hX ?_;clear hK hX K)|fail)
 exact mL
theorem bG7 (sy pe b:Dm) (fu:Int) (dn:Bool) (m k n:Nat) (hm:sy.length=m) (hk:pe.length=k) (hn:b.length=n) (h1:m<=1000000) (h2:k<=1000000) (h3:n<=1000000) (h5:fu<=9223372036854775807) (s':Dk) (e:Int) (m' k':Nat) (hr:opA ⟨sy,pe,fu,dn⟩ b=(s',e)) (hm':s'.sy.length=m') (hk':s'.pe.length=k'):qC' 97 [dkC m k sy pe fu dn,.sl 1 n (u8c b)] (.tup [.c (dkV m' k' s'),.c (iv e)]) [] 0:=by
 have hva:=mA sy pe fu dn m k hm hk h1 h2
 have j1:=fun b n q hn hq h=>rM pe b k n q hk hn hq h
 have hua:(u8c sy).length=m:=by rw [aH,hm]
 have hub:(u8c pe).length=k:=by rw [aH,hk]
 have hun:(u8c b).length=n:=by rw [aH,hn]
 cases hok:Dk.ok ⟨sy,pe,fu,dn⟩ with
 | false =>
  rw [hok] at hva
  simp only [opA,hok,Bu] at hr
  injection hr with e1 e2
  subst e1 e2 hm' hk'
  refine aD aB (sz:=61) Tryz.func97 rfl vJ ?_
  repeat' (first|(refine aC ?_;intro K hK hX)|refine bL8 ?_|(refine aG hK hX ?_;clear hK hX K)|fail)
  exact gT
 | true =>
  rw [hok] at hva
  obtain ⟨l1,l2⟩:=eD hm hk hok
  simp only [opA,hok,hm,hk,hn,Bl,AQ] at hr
  cases dn with
  | true =>
   simp only [Bu] at hr
   injection hr with e1 e2
   subst e1 e2
   obtain rfl:m=m':=by rw [<- hm,<- hm']
   obtain rfl:k=k':=by rw [<- hk,<- hk']
   refine aD aB (sz:=61) Tryz.func97 rfl vJ ?_
   repeat' (first|(refine aC ?_;intro K hK hX)|refine bL3 ?_|(refine aG hK hX ?_;clear hK hX K)|fail)
   exact gT
  | false =>
   simp only [AB,AQ] at hr
   by_cases b1:131072<m+k+n
   ·rw [Ak b1] at hr
    injection hr with e1 e2
    subst e1 e2 hm' hk'
    refine aD aB (sz:=61) Tryz.func97 rfl vJ ?_
    repeat' (first|(refine aC ?_;intro K hK hX)|refine bL3 ?_|(refine aG hK hX ?_;clear hK hX K)|fail)
    exact gT
   ·rw [Aj b1] at hr
    by_cases b2:fu = -1
    ·subst b2
     rw [Aj (fun h=>h.1 rfl),Ak rfl] at hr
     injection hr with e1 e2
     subst e1 e2
     obtain rfl:m=m':=by rw [<- hm,<- hm']
     obtain rfl:k+n=k':=by rw [<- hk',Aa,hk,hn]
     have hj:=j1 b n _ hn rfl aA
     have hab:(u8c (pe++b)).length=k+n:=by rw [aH,hk']
     refine aD aB (sz:=61) Tryz.func97 rfl vJ ?_
     repeat' (first|(refine aC ?_;intro K hK hX)|refine bL1 ?_|(refine aG hK hX ?_;clear hK hX K)|fail)
     exact gT
    ·by_cases b3:fu<(n:Int)
     ·rw [Ak ⟨b2,b3⟩] at hr
      injection hr with e1 e2
      subst e1 e2
      obtain rfl:m=m':=by rw [<- hm,<- hm']
      obtain ⟨q,rfl⟩:∃q:Nat,fu=(q:Int):=⟨fu.toNat,by omega⟩
      rw [AS] at hk'
      have hq:(b.take q).length=q:=by rw [As];omega
      obtain rfl:k+q=k':=by rw [<- hk',Aa,hk,hq]
      have hj:=j1 (b.take q) q _ hq rfl aA
      have hab:(u8c (pe++b.take q)).length=k+q:=by rw [aH,hk']
      refine aD aB (sz:=61) Tryz.func97 rfl vJ ?_
      repeat' (first|(refine aC ?_;intro K hK hX)|refine dO0 ?_|(refine aG hK hX ?_;clear hK hX K)|fail)
      exact gT
     ·rw [Aj (fun h=>b3 h.2),Aj b2] at hr
      injection hr with e1 e2
      subst e1 e2
      obtain rfl:m=m':=by rw [<- hm,<- hm']
      obtain rfl:k+n=k':=by rw [<- hk',Aa,hk,hn]
      have hj:=j1 b n _ hn rfl aA
      have hab:(u8c (pe++b)).length=k+n:=by rw [aH,hk']
      refine aD aB (sz:=61) Tryz.func97 rfl vJ ?_
      repeat' (first|(refine aC ?_;intro K hK hX)|refine bL1 ?_|(refine aG hK hX ?_;clear hK hX K)|fail)
      exact gT
section
variable (sy pe:Dm) (fu:Int) (dn:Bool) (m k:Nat)
include sy pe fu dn m k
theorem cR7 (hm:sy.length=m) (hk:pe.length=k) (h1:m<=1000000) (h2:k<=1000000) (s':Dk) (e:Int) (m' k':Nat) (hr:opS ⟨sy,pe,fu,dn⟩=(s',e)) (hm':s'.sy.length=m') (hk':s'.pe.length=k'):qC' 98 [dkC m k sy pe fu dn] (.tup [.c (dkV m' k' s'),.c (iv e)]) [] 0:=by
 have hva:=mA sy pe fu dn m k hm hk h1 h2
 have j1:=fun q hq h=>rM sy pe m k q hm hk hq h
 have hua:(u8c sy).length=m:=by rw [aH,hm]
 have hub:(u8c pe).length=k:=by rw [aH,hk]
 cases hok:Dk.ok ⟨sy,pe,fu,dn⟩ with
 | false =>
  rw [hok] at hva
  simp only [opS,hok,Bu] at hr
  injection hr with e1 e2
  subst e1 e2 hm' hk'
  refine aD aB (sz:=30) Tryz.func98 rfl aA0 ?_
  repeat' (first|(refine aC ?_;intro K hK hX)|refine aH1 ?_|(refine aG hK hX ?_;clear hK hX K)|fail)
  exact gT
 | true =>
  rw [hok] at hva
  obtain ⟨l1,l2⟩:=eD hm hk hok
  simp only [opS,hok,hm,hk,Bl,AQ] at hr
  cases dn with
  | true =>
   simp only [Bu] at hr
   injection hr with e1 e2
   subst e1 e2
   obtain rfl:m=m':=by rw [<- hm,<- hm']
   obtain rfl:k=k':=by rw [<- hk,<- hk']
   refine aD aB (sz:=30) Tryz.func98 rfl aA0 ?_
   repeat' (first|(refine aC ?_;intro K hK hX)|refine bL7 ?_|(refine aG hK hX ?_;clear hK hX K)|fail)
   exact gT
  | false =>
   simp only [AB,AQ] at hr
   by_cases b1:fu=0/\0<k
   ·rw [Ak b1] at hr
    obtain ⟨rfl,b2⟩:=b1
    have b2':(0:Int)<(k:Int):=by omega
    injection hr with e1 e2
    subst e1 e2
    obtain rfl:m=m':=by rw [<- hm,<- hm']
    obtain rfl:k=k':=by rw [<- hk,<- hk']
    refine aD aB (sz:=30) Tryz.func98 rfl aA0 ?_
    repeat' (first|(refine aC ?_;intro K hK hX)|refine bL7 ?_|(refine aG hK hX ?_;clear hK hX K)|fail)
    exact gT
   ·rw [Aj b1] at hr
    injection hr with e1 e2
    subst e1 e2
    obtain rfl:m+k=m':=by rw [<- hm',Aa,hm,hk]
    obtain rfl:0=k':=by rw [<- hk'];rfl
    have hj:=j1 _ rfl aA
    have hab:(u8c (sy++pe)).length=m+k:=by rw [aH,hm']
    by_cases b2:fu=0
    ·have b3:¬(0:Int)<(k:Int):=by omega
     subst b2
     refine aD aB (sz:=30) Tryz.func98 rfl aA0 ?_
     repeat' (first|(refine aC ?_;intro K hK hX)|refine bL4 ?_|(refine aG hK hX ?_;clear hK hX K)|fail)
     exact gT
    ·clear b1
     refine aD aB (sz:=30) Tryz.func98 rfl aA0 ?_
     repeat' (first|(refine aC ?_;intro K hK hX)|refine bL4 ?_|(refine aG hK hX ?_;clear hK hX K)|fail)
     exact gT
theorem cQ8 (i:Int) (hm:sy.length=m) (hk:pe.length=k) (h1:m<=1000000) (h2:k<=1000000) (h3 : -9223372036854775808<=i) (h4:i<=9223372036854775807) (s':Dk) (e:Int) (m' k':Nat) (hr:opF ⟨sy,pe,fu,dn⟩ i=(s',e)) (hm':s'.sy.length=m') (hk':s'.pe.length=k'):qC' 36 [dkC m k sy pe fu dn,iv i] (.tup [.c (dkV m' k' s'),.c (iv e)]) [] 0:=by
 have hva:=mA sy pe fu dn m k hm hk h1 h2
 have hua:(u8c sy).length=m:=by rw [aH,hm]
 have hub:(u8c pe).length=k:=by rw [aH,hk]
 cases hok:Dk.ok ⟨sy,pe,fu,dn⟩ with
 | false =>
  rw [hok] at hva
  simp only [opF,hok,Bu,true_or] at hr
  injection hr with e1 e2
  subst e1 e2 hm' hk'
  refine aD aB (sz:=17) Tryz.func36 rfl (by rw [Tryz.ntmps36];rfl) ?_
  repeat' (first|(refine aC ?_;intro K hK hX)|refine sR ?_|(refine aG hK hX ?_;clear hK hX K)|fail)
  exact gT
 | true =>
  rw [hok] at hva
  obtain ⟨l1,l2⟩:=eD hm hk hok
  simp only [opF,hok,hm,hk,Bl,false_or,AQ] at hr
  by_cases b1:i < -1
  ·rw [Ak b1] at hr
   injection hr with e1 e2
   subst e1 e2 hm' hk'
   refine aD aB (sz:=17) Tryz.func36 rfl (by rw [Tryz.ntmps36];rfl) ?_
   repeat' (first|(refine aC ?_;intro K hK hX)|refine sR ?_|(refine aG hK hX ?_;clear hK hX K)|fail)
   exact gT
  ·rw [Aj b1] at hr
   injection hr with e1 e2
   subst e1 e2
   obtain rfl:m=m':=by rw [<- hm,<- hm']
   obtain rfl:k=k':=by rw [<- hk,<- hk']
   refine aD aB (sz:=17) Tryz.func36 rfl (by rw [Tryz.ntmps36];rfl) ?_
   repeat' (first|(refine aC ?_;intro K hK hX)|refine bL5 ?_|(refine aG hK hX ?_;clear hK hX K)|fail)
   exact gT
theorem bX6 (i:Int) (hm:sy.length=m) (hk:pe.length=k) (h1:m<=1000000) (h2:k<=1000000) (h3 : -9223372036854775808<=i) (h4:i<=9223372036854775807) (s':Dk) (e:Int) (m' k':Nat) (hr:opC ⟨sy,pe,fu,dn⟩ i=(s',e)) (hm':s'.sy.length=m') (hk':s'.pe.length=k'):qC' 103 [dkC m k sy pe fu dn,iv i] (.tup [.c (dkV m' k' s'),.c (iv e)]) [] 0:=by
 have hva:=mA sy pe fu dn m k hm hk h1 h2
 have j1:=fun b n q hn hq h=>rM sy b m n q hm hn hq h
 have hua:(u8c sy).length=m:=by rw [aH,hm]
 have hub:(u8c pe).length=k:=by rw [aH,hk]
 cases hok:Dk.ok ⟨sy,pe,fu,dn⟩ with
 | false =>
  rw [hok] at hva
  simp only [opC,hok,Bu] at hr
  injection hr with e1 e2
  subst e1 e2 hm' hk'
  refine aD aB (sz:=24) Tryz.func103 rfl (by rw [Tryz.ntmps103];rfl) ?_
  repeat' (first|(refine aC ?_;intro K hK hX)|refine bL8 ?_|(refine aG hK hX ?_;clear hK hX K)|fail)
  exact gT
 | true =>
  rw [hok] at hva
  obtain ⟨l1,l2⟩:=eD hm hk hok
  simp only [opC,hok,hm,hk,Bl,AQ] at hr
  injection hr with e1 e2
  subst e1 e2
  obtain rfl:0=k':=by rw [<- hk'];rfl
  obtain ⟨q,hq1,hq2,hq3⟩:∃q:Nat,q<=k/\pe.take i.toNat=pe.take q/\(if (k:Int)<(if i<0 then 0 else i) then (k:Int) else (if i<0 then 0 else i))=(q:Int):=by
   refine ⟨min i.toNat k,by omega,?_,by split<;>split<;>omega⟩
   by_cases h:i.toNat<=k
   ·rw [B0 h]
   ·rw [CH aA,Ad aA,Ad aA]
  rw [hq2] at hm' ⊢
  have hq:(pe.take q).length=q:=by rw [As];omega
  obtain rfl:m+q=m':=by rw [<- hm',Aa,hm,hq]
  have hj:=j1 (pe.take q) q _ hq rfl aA
  have hab:(u8c (sy++pe.take q)).length=m+q:=by rw [aH,hm']
  refine aD aB (sz:=24) Tryz.func103 rfl (by rw [Tryz.ntmps103];rfl) ?_
  repeat' (first|(refine aC ?_;intro K hK hX)|refine dM0 ?_|(refine aG hK hX ?_;clear hK hX K)|fail)
  exact gT
theorem dH0 (i:Int) (hm:sy.length=m) (hk:pe.length=k) (h1:m<=1000000) (h2:k<=1000000) (h3 : -9223372036854775808<=i) (h4:i<=9223372036854775807) (s':Dk) (e:Int) (m' k':Nat) (hr:opT ⟨sy,pe,fu,dn⟩ i=(s',e)) (hm':s'.sy.length=m') (hk':s'.pe.length=k'):qC' 96 [dkC m k sy pe fu dn,iv i] (.tup [.c (dkV m' k' s'),.c (iv e)]) [] 0:=by
 have hva:=mA sy pe fu dn m k hm hk h1 h2
 have j1:=fun q hq h=>rM sy pe m k q hm hk hq h
 have hua:(u8c sy).length=m:=by rw [aH,hm]
 have hub:(u8c pe).length=k:=by rw [aH,hk]
 cases hok:Dk.ok ⟨sy,pe,fu,dn⟩ with
 | false =>
  rw [hok] at hva
  simp only [opT,hok,Bu,true_or] at hr
  injection hr with e1 e2
  subst e1 e2 hm' hk'
  refine aD aB (sz:=38) Tryz.func96 rfl aA1 ?_
  repeat' (first|(refine aC ?_;intro K hK hX)|refine sR ?_|(refine aG hK hX ?_;clear hK hX K)|fail)
  exact gT
 | true =>
  rw [hok] at hva
  obtain ⟨l1,l2⟩:=eD hm hk hok
  simp only [opT,hok,hm,hk,Bl,false_or,AQ] at hr
  by_cases b1:i<0
  ·rw [Ak (.inl b1)] at hr
   injection hr with e1 e2
   subst e1 e2 hm' hk'
   refine aD aB (sz:=38) Tryz.func96 rfl aA1 ?_
   repeat' (first|(refine aC ?_;intro K hK hX)|refine sR ?_|(refine aG hK hX ?_;clear hK hX K)|fail)
   exact gT
  ·by_cases b2:(m:Int)+(k:Int)<i
   ·rw [Ak (.inr b2)] at hr
    injection hr with e1 e2
    subst e1 e2 hm' hk'
    refine aD aB (sz:=38) Tryz.func96 rfl aA1 ?_
    repeat' (first|(refine aC ?_;intro K hK hX)|refine sR ?_|(refine aG hK hX ?_;clear hK hX K)|fail)
    exact gT
   ·rw [Aj aA] at hr
    cases dn with
    | true =>
     simp only [Bu] at hr
     injection hr with e1 e2
     subst e1 e2
     obtain rfl:m=m':=by rw [<- hm,<- hm']
     obtain rfl:k=k':=by rw [<- hk,<- hk']
     refine aD aB (sz:=38) Tryz.func96 rfl aA1 ?_
     repeat' (first|(refine aC ?_;intro K hK hX)|refine bL5 ?_|(refine aG hK hX ?_;clear hK hX K)|fail)
     exact gT
    | false =>
     simp only [AB,AQ] at hr
     injection hr with e1 e2
     subst e1 e2
     obtain rfl:0=k':=by rw [<- hk'];rfl
     obtain ⟨q,rfl⟩:∃q:Nat,i=(q:Int):=⟨i.toNat,by omega⟩
     rw [AS] at hm' ⊢
     have hab:(u8c (sy++pe)).length=m+k:=by rw [aH,Aa,hm,hk]
     obtain rfl:q=m':=by rw [<- hm',As,Aa,hm,hk];omega
     have hj:=j1 _ rfl aA
     have hc1:((u8c (sy++pe)).drop 0).take (q*1)=u8c ((sy++pe).take q):=by rw [AY,A8,bS]
     have hc2:(u8c ((sy++pe).take q)).length=q*1:=by rw [aH,A8];exact hm'
     refine aD aB (sz:=38) Tryz.func96 rfl aA1 ?_
     repeat' (first|(refine aC ?_;intro K hK hX)|refine dO2 ?_|(refine aG hK hX ?_;clear hK hX K)|fail)
     exact gT
theorem bX9 (hm:sy.length=m) (hk:pe.length=k) (h1:m<=1000000) (h2:k<=1000000) (s':Dm) (e:Int) (m':Nat) (hr:opR ⟨sy,pe,fu,dn⟩=(s',e)) (hm':s'.length=m'):qC' 95 [dkC m k sy pe fu dn] (.tup [.c (.sl 1 m' (u8c s')),.c (iv e)]) [] 0:=by
 have hva:=mA sy pe fu dn m k hm hk h1 h2
 have j1:=fun q hq h=>rM sy pe m k q hm hk hq h
 have hua:(u8c sy).length=m:=by rw [aH,hm]
 have hub:(u8c pe).length=k:=by rw [aH,hk]
 cases hok:Dk.ok ⟨sy,pe,fu,dn⟩ with
 | false =>
  rw [hok] at hva
  simp only [opR,hok,Bu] at hr
  injection hr with e1 e2
  subst e1 e2 hm'
  refine aD aB (sz:=14) Tryz.func95 rfl (by rw [Tryz.ntmps95];rfl) ?_
  repeat' (first|(refine aC ?_;intro K hK hX)|refine aH1 ?_|(refine aG hK hX ?_;clear hK hX K)|fail)
  exact cH6
 | true =>
  rw [hok] at hva
  obtain ⟨l1,l2⟩:=eD hm hk hok
  simp only [opR,hok,hm,hk,Bl,AQ] at hr
  cases dn with
  | true =>
   simp only [Bu] at hr
   injection hr with e1 e2
   subst e1 e2 hm'
   refine aD aB (sz:=14) Tryz.func95 rfl (by rw [Tryz.ntmps95];rfl) ?_
   repeat' (first|(refine aC ?_;intro K hK hX)|refine aH1 ?_|(refine aG hK hX ?_;clear hK hX K)|fail)
   exact cH6
  | false =>
   simp only [AB,AQ] at hr
   injection hr with e1 e2
   subst e1 e2
   have hab:(u8c (sy++pe)).length=m+k:=by rw [aH,Aa,hm,hk]
   obtain rfl:m+k=m':=by rw [<- hm',Aa,hm,hk]
   have hj:=j1 _ rfl aA
   refine aD aB (sz:=14) Tryz.func95 rfl (by rw [Tryz.ntmps95];rfl) ?_
   repeat' (first|(refine aC ?_;intro K hK hX)|refine cD2 ?_|(refine aG hK hX ?_;clear hK hX K)|fail)
   exact cH6
end
end Go.Proofs.YtbgehdndimlgkaaGreat
