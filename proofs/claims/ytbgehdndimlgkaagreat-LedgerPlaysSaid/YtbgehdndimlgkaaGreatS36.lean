/- Lemmas for laws of the ledger. -/
import Derived.Test.YtbgehdndimlgkaaGreatS35
set_option linter.all false
set_option maxHeartbeats 16000000
namespace Go.Proofs.YtbgehdndimlgkaaGreat
open Go Go.Av
structure Dk where
 sy:Dm
 pe:Dm
 fu:Int
 dn:Bool
abbrev dkC (m k:Nat) (sy pe:Dm) (fu:Int) (dn:Bool):CV := .agg [.sl 1 m (u8c sy),.sl 1 k (u8c pe),iv fu,bv dn]
abbrev dkV (m k:Nat) (s:Dk):CV:=dkC m k s.sy s.pe s.fu s.dn
def Dk.ok (s:Dk):Bool:=decide (s.sy.length+s.pe.length<=131072 /\ -1<=s.fu)
def dkZ:Dk:=⟨[],[],0,false⟩
def opA (s:Dk) (b:Dm):Dk × Int :=
 if s.ok=false then (dkZ,1) else if s.dn then (s,104) else if 131072<s.sy.length+s.pe.length+b.length then (dkZ,8)
 else if s.fu ≠ -1/\s.fu<b.length then (⟨s.sy,s.pe++b.take s.fu.toNat,0,true⟩,104)
 else (⟨s.sy,s.pe++b,if s.fu = -1 then -1 else s.fu-b.length,s.dn⟩,0)
def opS (s:Dk):Dk × Int :=
 if s.ok=false then (dkZ,1) else if s.dn then (s,104) else if s.fu=0/\0<s.pe.length then (⟨s.sy,s.pe,s.fu,true⟩,104)
 else (⟨s.sy++s.pe,[],s.fu,s.dn⟩,0)
def opF (s:Dk) (n:Int):Dk × Int:=if s.ok=false\/n < -1 then (dkZ,1) else (⟨s.sy,s.pe,n,s.dn⟩,0)
def opC (s:Dk) (n:Int):Dk × Int:=if s.ok=false then (dkZ,1) else (⟨s.sy++s.pe.take n.toNat,[],-1,false⟩,0)
def opT (s:Dk) (n:Int):Dk × Int :=
 if s.ok=false\/n<0\/s.sy.length+s.pe.length<n then (dkZ,1) else if s.dn then (s,104) else (⟨(s.sy++s.pe).take n.toNat,[],s.fu,s.dn⟩,0)
def opR (s:Dk):Dm × Int:=if s.ok=false then ([],1) else if s.dn then ([],104) else (s.sy++s.pe,0)
theorem eD {sy pe:Dm} {fu:Int} {dn:Bool} {m k:Nat} (hm:sy.length=m) (hk:pe.length=k) (h:Dk.ok ⟨sy,pe,fu,dn⟩=true):m+k<=131072 /\ -1<=fu:=by
 have:=CB h
 simp only [hm,hk] at this
 exact this
theorem sE {s:Dk} {m k:Nat} (hm:s.sy.length=m) (hk:s.pe.length=k) (h1:m+k<=131072) (h2 : -1<=s.fu):s.ok=true:=by
 unfold Dk.ok;rw [hm,hk];exact AP ⟨h1,h2⟩
theorem rG {s:Dk} {m k:Nat} (hm:s.sy.length=m) (hk:s.pe.length=k) (h1:¬(m+k<=131072 /\ -1<=s.fu)):s.ok=false:=by
 unfold Dk.ok;rw [hm,hk];exact Bi h1
end Go.Proofs.YtbgehdndimlgkaaGreat
namespace Go.Proofs.YtbgehdndimlgkaaGreat
open Go Go.RowKit Go.Av
set_option maxRecDepth 100000
section
attribute [local irreducible] Still Adds AWL AW Drw bX bY AC AWR cU Frz Go.Av.Src cQ Out InK ItK AsK RdK
attribute [local simp] bS bR bI sN uL
theorem pE (a b:Dm) (m k q:Nat) (ha:a.length=m) (hb:b.length=k) (hq:m+k=q) (h:q<=1000000000):qC' 71 [.sl 1 m (u8c a),.sl 1 k (u8c b)] (.own 0 0 q 1 true) [(0,.row 5 (u8c (a++b)))] 1:=by
 have hua:(u8c a).length=m:=by rw [aH,ha]
 have hub:(u8c b).length=k:=by rw [aH,hb]
 subst hq
 refine aD aB (sz:=22) Tryz.func71 rfl (by rw [Tryz.ntmps71];rfl) ?_
 repeat' (first|(refine aC ?_;intro K hK hX)|refine zM ?_|(refine aG hK hX ?_;clear hK hX K)|fail)
 rw [dE9 rfl ha hb]
 exact aY
section
variable (sy pe:Dm) (fu:Int) (dn:Bool) (m k:Nat) (hm:sy.length=m) (hk:pe.length=k) (h1:m<=1000000) (h2:k<=1000000)
include sy pe fu dn m k hm hk h1 h2
theorem tR:qC' 70 [dkC m k sy pe fu dn] (.c (dkC m k sy pe fu dn)) [] 0:=by
 have hua:(u8c sy).length=m:=by rw [aH,hm]
 have hub:(u8c pe).length=k:=by rw [aH,hk]
 have j1:=pE sy [] m 0 m hm rfl rfl aA
 have j2:=pE pe [] k 0 k hk rfl rfl aA
 rw [A4] at j1 j2
 refine aD aB (sz:=12) Tryz.func70 rfl (by rw [Tryz.ntmps70];rfl) ?_
 repeat' (first|(refine aC ?_;intro K hK hX)|refine aK [0,1,2] ?_|(refine dK ?_;first|refine c1 j1 ?_|refine c1 j2 ?_)|refine stA ?_|(refine aG hK hX ?_;clear hK hX K)|fail)
 exact mL
theorem nY:qC' 69 [dkC m k sy pe fu dn] (.c (bv (Dk.ok ⟨sy,pe,fu,dn⟩))) [] 0:=by
 have hua:(u8c sy).length=m:=by rw [aH,hm]
 have hub:(u8c pe).length=k:=by rw [aH,hk]
 by_cases b1:(m:Int)+(k:Int)<=131072
 ·by_cases b2 : -1<=fu
  ·rw [sE (s:=⟨sy,pe,fu,dn⟩) hm hk aA b2]
   refine aD aB (sz:=16) Tryz.func69 rfl (by rw [Tryz.ntmps69];rfl) ?_
   repeat' (first|(refine aC ?_;intro K hK hX)|refine zR ?_|(refine aG hK hX ?_;clear hK hX K)|fail)
   exact aY
  ·rw [rG (s:=⟨sy,pe,fu,dn⟩) hm hk (fun h=>b2 h.2)]
   refine aD aB (sz:=16) Tryz.func69 rfl (by rw [Tryz.ntmps69];rfl) ?_
   repeat' (first|(refine aC ?_;intro K hK hX)|refine zR ?_|(refine aG hK hX ?_;clear hK hX K)|fail)
   exact aY
 ·rw [rG (s:=⟨sy,pe,fu,dn⟩) hm hk aA]
  refine aD aB (sz:=16) Tryz.func69 rfl (by rw [Tryz.ntmps69];rfl) ?_
  repeat' (first|(refine aC ?_;intro K hK hX)|refine zR ?_|(refine aG hK hX ?_;clear hK hX K)|fail)
  exact aY
end
theorem cN3:qC' 22 [] (.c (dkC 0 0 [] [] (-1) false)) [] 0:=by
 refine aD aB (sz:=2) Tryz.func22 rfl (by rw [Tryz.ntmps22];rfl) ?_
 repeat' (first|(refine aC ?_;intro K hK hX)|refine aK [0] ?_|refine stA ?_|(refine aG hK hX ?_;clear hK hX K)|fail)
 exact mL
theorem cX6:pW Tryz.prog 68 2:=by
 intro us w hl
 obtain ⟨u0,u1,rfl⟩:∃u0 u1,us=[u0,u1]:=by
  match us,hl with | [u0,u1],_=>exact ⟨u0,u1,rfl⟩
 refine callsD_of_wpS Tryz.func68 rfl fun c₀ cs hu=>?_
 apply wpS_seq
 apply wpS_region
 simp [wpOpsS,go_sem,recoverD,hu,Tryz.ntmps68,Exit.thenS]
 refine wpS_cond (t:=false) pS ?_
 simp only [AB,AQ]
 refine wpS_of_wp (wp_skip ?_)
 cases c₀
 simp_all [bodyPostS,results,Tryz.results68]
theorem bS7:Body Tryz.prog 68:=by unfold Body;kernel_rfl
theorem dJ2:pW Tryz.prog 152 2:=by
 intro us w hl
 obtain ⟨u0,u1,rfl⟩:∃u0 u1,us=[u0,u1]:=by
  match us,hl with | [u0,u1],_=>exact ⟨u0,u1,rfl⟩
 refine callsD_of_wpS Tryz.func152 rfl fun c₀ cs hu=>?_
 apply wpS_seq
 apply wpS_region
 simp [wpOpsS,go_sem,recoverD,hu,Tryz.ntmps152,Exit.thenS]
 refine wpS_cond (t:=false) pS ?_
 simp only [AB,AQ]
 refine wpS_of_wp (wp_skip ?_)
 cases c₀
 simp_all [bodyPostS,results,Tryz.results152]
theorem bZ8:Body Tryz.prog 152:=by unfold Body;kernel_rfl
theorem dB0:pW Tryz.prog 99 2:=by
 intro us w hl
 obtain ⟨u0,u1,rfl⟩:∃u0 u1,us=[u0,u1]:=by
  match us,hl with | [u0,u1],_=>exact ⟨u0,u1,rfl⟩
 refine callsD_of_wpS Tryz.func99 rfl fun c₀ cs hu=>?_
 apply wpS_seq
 apply wpS_region
 simp [wpOpsS,go_sem,recoverD,hu,Tryz.ntmps99,Exit.thenS]
 refine wpS_cond (t:=false) pS ?_
 simp only [AB,AQ]
 refine wpS_of_wp (wp_skip ?_)
 cases c₀
 simp_all [bodyPostS,results,Tryz.results99]
theorem bV7:Body Tryz.prog 99:=by unfold Body;kernel_rfl
theorem cZ6:pW Tryz.prog 160 2:=by
 intro us w hl
 obtain ⟨u0,u1,rfl⟩:∃u0 u1,us=[u0,u1]:=by
  match us,hl with | [u0,u1],_=>exact ⟨u0,u1,rfl⟩
 refine callsD_of_wpS Tryz.func160 rfl fun c₀ cs hu=>?_
 apply wpS_seq
 apply wpS_region
 simp [wpOpsS,go_sem,recoverD,hu,Tryz.ntmps160,Exit.thenS]
 refine wpS_cond (t:=false) pS ?_
 simp only [AB,AQ]
 refine wpS_of_wp (wp_skip ?_)
 cases c₀
 simp_all [bodyPostS,results,Tryz.results160]
theorem bU6:Body Tryz.prog 160:=by unfold Body;kernel_rfl
theorem cZ7:pW Tryz.prog 141 2:=by
 intro us w hl
 obtain ⟨u0,u1,rfl⟩:∃u0 u1,us=[u0,u1]:=by
  match us,hl with | [u0,u1],_=>exact ⟨u0,u1,rfl⟩
 refine callsD_of_wpS Tryz.func141 rfl fun c₀ cs hu=>?_
 apply wpS_seq
 apply wpS_region
 simp [wpOpsS,go_sem,recoverD,hu,Tryz.ntmps141,Exit.thenS]
 refine wpS_cond (t:=false) pS ?_
 simp only [AB,AQ]
 refine wpS_of_wp (wp_skip ?_)
 cases c₀
 simp_all [bodyPostS,results,Tryz.results141]
theorem bU7:Body Tryz.prog 141:=by unfold Body;kernel_rfl
theorem dH2:pW Tryz.prog 140 2:=by
 intro us w hl
 obtain ⟨u0,u1,rfl⟩:∃u0 u1,us=[u0,u1]:=by
  match us,hl with | [u0,u1],_=>exact ⟨u0,u1,rfl⟩
 refine callsD_of_wpS Tryz.func140 rfl fun c₀ cs hu=>?_
 apply wpS_seq
 apply wpS_region
 simp [wpOpsS,go_sem,recoverD,hu,Tryz.ntmps140,Exit.thenS]
 refine wpS_cond (t:=false) pS ?_
 simp only [AB,AQ]
 refine wpS_of_wp (wp_skip ?_)
 cases c₀
 simp_all [bodyPostS,results,Tryz.results140]
theorem bY2:Body Tryz.prog 140:=by unfold Body;kernel_rfl
theorem bS9 (sy pe b:Dm) (fu:Int) (dn:Bool) (m k n:Nat) (hm:sy.length=m) (hk:pe.length=k) (hn:b.length=n) (h1:m<=1000000) (h2:k<=1000000) (h3:n<=1000000) (h5:fu<=9223372036854775807) (s':Dk) (e:Int) (m' k':Nat) (hr:opA ⟨sy,pe,fu,dn⟩ b=(s',e)) (hm':s'.sy.length=m') (hk':s'.pe.length=k'):qC' 21 [dkC m k sy pe fu dn,.sl 1 n (u8c b)] (.tup [.c (dkV m' k' s'),.c (iv e)]) [] 0:=by
 have hva:=nY sy pe fu dn m k hm hk h1 h2
 have hcl:=tR sy pe fu dn m k hm hk h1 h2
 have j1:=fun b n q hn hq h=>pE pe b k n q hk hn hq h
 have hua:(u8c sy).length=m:=by rw [aH,hm]
 have hub:(u8c pe).length=k:=by rw [aH,hk]
 have hun:(u8c b).length=n:=by rw [aH,hn]
 cases hok:Dk.ok ⟨sy,pe,fu,dn⟩ with
 | false =>
  rw [hok] at hva
  simp only [opA,hok,Bu] at hr
  injection hr with e1 e2
  subst e1 e2 hm' hk'
  refine aD aB (sz:=65) Tryz.func21 rfl vH ?_
  repeat' (first|(refine aC ?_;intro K hK hX)|refine bL8 ?_|(refine aG hK hX ?_;clear hK hX K)|fail)
  exact aI4
 | true =>
  rw [hok] at hva
  obtain ⟨l1,l2⟩:=eD hm hk hok
  simp only [opA,hok,hm,hk,hn,Bl,AQ] at hr
  cases dn with
  | true =>
   simp only [Bu] at hr
   injection hr with e1 e2
   subst e1 e2
   obtain rfl:m=m':=by rw [<- hm,<- hm']
   obtain rfl:k=k':=by rw [<- hk,<- hk']
   refine aD aB (sz:=65) Tryz.func21 rfl vH ?_
   repeat' (first|(refine aC ?_;intro K hK hX)|refine bL3 ?_|(refine aG hK hX ?_;clear hK hX K)|fail)
   exact aI4
  | false =>
   simp only [AB,AQ] at hr
   by_cases b1:131072<m+k+n
   ·rw [Ak b1] at hr
    injection hr with e1 e2
    subst e1 e2 hm' hk'
    refine aD aB (sz:=65) Tryz.func21 rfl vH ?_
    repeat' (first|(refine aC ?_;intro K hK hX)|refine bL3 ?_|(refine aG hK hX ?_;clear hK hX K)|fail)
    exact aI4
   ·rw [Aj b1] at hr
    by_cases b2:fu = -1
    ·subst b2
     rw [Aj (fun h=>h.1 rfl),Ak rfl] at hr
     injection hr with e1 e2
     subst e1 e2
     obtain rfl:m=m':=by rw [<- hm,<- hm']
     obtain rfl:k+n=k':=by rw [<- hk',Aa,hk,hn]
     have hj:=j1 b n _ hn rfl aA
     have hab:(u8c (pe++b)).length=k+n:=by rw [aH,hk']
     refine aD aB (sz:=65) Tryz.func21 rfl vH ?_
     repeat' (first|(refine aC ?_;intro K hK hX)|refine bL1 ?_|(refine aG hK hX ?_;clear hK hX K)|fail)
     exact aI4
    ·by_cases b3:fu<(n:Int)
     ·rw [Ak ⟨b2,b3⟩] at hr
      injection hr with e1 e2
      subst e1 e2
      obtain rfl:m=m':=by rw [<- hm,<- hm']
      obtain ⟨q,rfl⟩:∃q:Nat,fu=(q:Int):=⟨fu.toNat,by omega⟩
      rw [AS] at hk'
      have hq:(b.take q).length=q:=by rw [As];omega
      obtain rfl:k+q=k':=by rw [<- hk',Aa,hk,hq]
      have hj:=j1 (b.take q) q _ hq rfl aA
      have hab:(u8c (pe++b.take q)).length=k+q:=by rw [aH,hk']
      refine aD aB (sz:=65) Tryz.func21 rfl vH ?_
      repeat' (first|(refine aC ?_;intro K hK hX)|refine dO0 ?_|(refine aG hK hX ?_;clear hK hX K)|fail)
      exact aI4
     ·rw [Aj (fun h=>b3 h.2),Aj b2] at hr
      injection hr with e1 e2
      subst e1 e2
      obtain rfl:m=m':=by rw [<- hm,<- hm']
      obtain rfl:k+n=k':=by rw [<- hk',Aa,hk,hn]
      have hj:=j1 b n _ hn rfl aA
      have hab:(u8c (pe++b)).length=k+n:=by rw [aH,hk']
      refine aD aB (sz:=65) Tryz.func21 rfl vH ?_
      repeat' (first|(refine aC ?_;intro K hK hX)|refine bL1 ?_|(refine aG hK hX ?_;clear hK hX K)|fail)
      exact aI4
section
variable (sy pe:Dm) (fu:Int) (dn:Bool) (m k:Nat)
include sy pe fu dn m k
theorem dJ3 (hm:sy.length=m) (hk:pe.length=k) (h1:m<=1000000) (h2:k<=1000000) (s':Dk) (e:Int) (m' k':Nat) (hr:opS ⟨sy,pe,fu,dn⟩=(s',e)) (hm':s'.sy.length=m') (hk':s'.pe.length=k'):qC' 80 [dkC m k sy pe fu dn] (.tup [.c (dkV m' k' s'),.c (iv e)]) [] 0:=by
 have hva:=nY sy pe fu dn m k hm hk h1 h2
 have hcl:=tR sy pe fu dn m k hm hk h1 h2
 have j1:=fun q hq h=>pE sy pe m k q hm hk hq h
 have hua:(u8c sy).length=m:=by rw [aH,hm]
 have hub:(u8c pe).length=k:=by rw [aH,hk]
 cases hok:Dk.ok ⟨sy,pe,fu,dn⟩ with
 | false =>
  rw [hok] at hva
  simp only [opS,hok,Bu] at hr
  injection hr with e1 e2
  subst e1 e2 hm' hk'
  refine aD aB (sz:=33) Tryz.func80 rfl zY ?_
  repeat' (first|(refine aC ?_;intro K hK hX)|refine aH1 ?_|(refine aG hK hX ?_;clear hK hX K)|fail)
  exact aV0
 | true =>
  rw [hok] at hva
  obtain ⟨l1,l2⟩:=eD hm hk hok
  simp only [opS,hok,hm,hk,Bl,AQ] at hr
  cases dn with
  | true =>
   simp only [Bu] at hr
   injection hr with e1 e2
   subst e1 e2
   obtain rfl:m=m':=by rw [<- hm,<- hm']
   obtain rfl:k=k':=by rw [<- hk,<- hk']
   refine aD aB (sz:=33) Tryz.func80 rfl zY ?_
   repeat' (first|(refine aC ?_;intro K hK hX)|refine bL7 ?_|(refine aG hK hX ?_;clear hK hX K)|fail)
   exact aV0
  | false =>
   simp only [AB,AQ] at hr
   by_cases b1:fu=0/\0<k
   ·rw [Ak b1] at hr
    obtain ⟨rfl,b2⟩:=b1
    have b2':(0:Int)<(k:Int):=by omega
    injection hr with e1 e2
    subst e1 e2
    obtain rfl:m=m':=by rw [<- hm,<- hm']
    obtain rfl:k=k':=by rw [<- hk,<- hk']
    refine aD aB (sz:=33) Tryz.func80 rfl zY ?_
    repeat' (first|(refine aC ?_;intro K hK hX)|refine bL7 ?_|(refine aG hK hX ?_;clear hK hX K)|fail)
    exact aV0
   ·rw [Aj b1] at hr
    injection hr with e1 e2
    subst e1 e2
    obtain rfl:m+k=m':=by rw [<- hm',Aa,hm,hk]
    obtain rfl:0=k':=by rw [<- hk'];rfl
    have hj:=j1 _ rfl aA
    have hab:(u8c (sy++pe)).length=m+k:=by rw [aH,hm']
    by_cases b2:fu=0
    ·have b3:¬(0:Int)<(k:Int):=by omega
     subst b2
     refine aD aB (sz:=33) Tryz.func80 rfl zY ?_
     repeat' (first|(refine aC ?_;intro K hK hX)|refine bL4 ?_|(refine aG hK hX ?_;clear hK hX K)|fail)
     exact aV0
    ·clear b1
     refine aD aB (sz:=33) Tryz.func80 rfl zY ?_
     repeat' (first|(refine aC ?_;intro K hK hX)|refine bL4 ?_|(refine aG hK hX ?_;clear hK hX K)|fail)
     exact aV0
theorem dB1 (i:Int) (hm:sy.length=m) (hk:pe.length=k) (h1:m<=1000000) (h2:k<=1000000) (h3 : -9223372036854775808<=i) (h4:i<=9223372036854775807) (s':Dk) (e:Int) (m' k':Nat) (hr:opF ⟨sy,pe,fu,dn⟩ i=(s',e)) (hm':s'.sy.length=m') (hk':s'.pe.length=k'):qC' 35 [dkC m k sy pe fu dn,iv i] (.tup [.c (dkV m' k' s'),.c (iv e)]) [] 0:=by
 have hva:=nY sy pe fu dn m k hm hk h1 h2
 have hcl:=tR sy pe fu dn m k hm hk h1 h2
 have hua:(u8c sy).length=m:=by rw [aH,hm]
 have hub:(u8c pe).length=k:=by rw [aH,hk]
 cases hok:Dk.ok ⟨sy,pe,fu,dn⟩ with
 | false =>
  rw [hok] at hva
  simp only [opF,hok,Bu,true_or] at hr
  injection hr with e1 e2
  subst e1 e2 hm' hk'
  refine aD aB (sz:=20) Tryz.func35 rfl (by rw [Tryz.ntmps35];rfl) ?_
  repeat' (first|(refine aC ?_;intro K hK hX)|refine sR ?_|(refine aG hK hX ?_;clear hK hX K)|fail)
  exact cH2
 | true =>
  rw [hok] at hva
  obtain ⟨l1,l2⟩:=eD hm hk hok
  simp only [opF,hok,hm,hk,Bl,false_or,AQ] at hr
  by_cases b1:i < -1
  ·rw [Ak b1] at hr
   injection hr with e1 e2
   subst e1 e2 hm' hk'
   refine aD aB (sz:=20) Tryz.func35 rfl (by rw [Tryz.ntmps35];rfl) ?_
   repeat' (first|(refine aC ?_;intro K hK hX)|refine sR ?_|(refine aG hK hX ?_;clear hK hX K)|fail)
   exact cH2
  ·rw [Aj b1] at hr
   injection hr with e1 e2
   subst e1 e2
   obtain rfl:m=m':=by rw [<- hm,<- hm']
   obtain rfl:k=k':=by rw [<- hk,<- hk']
   refine aD aB (sz:=20) Tryz.func35 rfl (by rw [Tryz.ntmps35];rfl) ?_
   repeat' (first|(refine aC ?_;intro K hK hX)|refine bL5 ?_|(refine aG hK hX ?_;clear hK hX K)|fail)
   exact cH2
theorem cH7 (i:Int) (hm:sy.length=m) (hk:pe.length=k) (h1:m<=1000000) (h2:k<=1000000) (h3 : -9223372036854775808<=i) (h4:i<=9223372036854775807) (s':Dk) (e:Int) (m' k':Nat) (hr:opC ⟨sy,pe,fu,dn⟩ i=(s',e)) (hm':s'.sy.length=m') (hk':s'.pe.length=k'):qC' 102 [dkC m k sy pe fu dn,iv i] (.tup [.c (dkV m' k' s'),.c (iv e)]) [] 0:=by
 have hva:=nY sy pe fu dn m k hm hk h1 h2
 have j1:=fun b n q hn hq h=>pE sy b m n q hm hn hq h
 have hua:(u8c sy).length=m:=by rw [aH,hm]
 have hub:(u8c pe).length=k:=by rw [aH,hk]
 cases hok:Dk.ok ⟨sy,pe,fu,dn⟩ with
 | false =>
  rw [hok] at hva
  simp only [opC,hok,Bu] at hr
  injection hr with e1 e2
  subst e1 e2 hm' hk'
  refine aD aB (sz:=25) Tryz.func102 rfl (by rw [Tryz.ntmps102];rfl) ?_
  repeat' (first|(refine aC ?_;intro K hK hX)|refine bL8 ?_|(refine aG hK hX ?_;clear hK hX K)|fail)
  exact dR9
 | true =>
  rw [hok] at hva
  obtain ⟨l1,l2⟩:=eD hm hk hok
  simp only [opC,hok,hm,hk,Bl,AQ] at hr
  injection hr with e1 e2
  subst e1 e2
  obtain rfl:0=k':=by rw [<- hk'];rfl
  obtain ⟨q,hq1,hq2,hq3⟩:∃q:Nat,q<=k/\pe.take i.toNat=pe.take q/\(if (k:Int)<(if i<0 then 0 else i) then (k:Int) else (if i<0 then 0 else i))=(q:Int):=by
   refine ⟨min i.toNat k,by omega,?_,by split<;>split<;>omega⟩
   by_cases h:i.toNat<=k
   ·rw [B0 h]
   ·rw [CH aA,Ad aA,Ad aA]
  rw [hq2] at hm' ⊢
  have hq:(pe.take q).length=q:=by rw [As];omega
  obtain rfl:m+q=m':=by rw [<- hm',Aa,hm,hq]
  have hj:=j1 (pe.take q) q _ hq rfl aA
  have hab:(u8c (sy++pe.take q)).length=m+q:=by rw [aH,hm']
  refine aD aB (sz:=25) Tryz.func102 rfl (by rw [Tryz.ntmps102];rfl) ?_
  repeat' (first|(refine aC ?_;intro K hK hX)|refine dM0 ?_|(refine aG hK hX ?_;clear hK hX K)|fail)
  exact dR9
theorem dX4 (i:Int) (hm:sy.length=m) (hk:pe.length=k) (h1:m<=1000000) (h2:k<=1000000) (h3 : -9223372036854775808<=i) (h4:i<=9223372036854775807) (s':Dk) (e:Int) (m' k':Nat) (hr:opT ⟨sy,pe,fu,dn⟩ i=(s',e)) (hm':s'.sy.length=m') (hk':s'.pe.length=k'):qC' 74 [dkC m k sy pe fu dn,iv i] (.tup [.c (dkV m' k' s'),.c (iv e)]) [] 0:=by
 have hva:=nY sy pe fu dn m k hm hk h1 h2
 have hcl:=tR sy pe fu dn m k hm hk h1 h2
 have j1:=fun q hq h=>pE sy pe m k q hm hk hq h
 have hua:(u8c sy).length=m:=by rw [aH,hm]
 have hub:(u8c pe).length=k:=by rw [aH,hk]
 cases hok:Dk.ok ⟨sy,pe,fu,dn⟩ with
 | false =>
  rw [hok] at hva
  simp only [opT,hok,Bu,true_or] at hr
  injection hr with e1 e2
  subst e1 e2 hm' hk'
  refine aD aB (sz:=42) Tryz.func74 rfl zZ ?_
  repeat' (first|(refine aC ?_;intro K hK hX)|refine sR ?_|(refine aG hK hX ?_;clear hK hX K)|fail)
  exact aV1
 | true =>
  rw [hok] at hva
  obtain ⟨l1,l2⟩:=eD hm hk hok
  simp only [opT,hok,hm,hk,Bl,false_or,AQ] at hr
  by_cases b1:i<0
  ·rw [Ak (.inl b1)] at hr
   injection hr with e1 e2
   subst e1 e2 hm' hk'
   refine aD aB (sz:=42) Tryz.func74 rfl zZ ?_
   repeat' (first|(refine aC ?_;intro K hK hX)|refine sR ?_|(refine aG hK hX ?_;clear hK hX K)|fail)
   exact aV1
  ·by_cases b2:(m:Int)+(k:Int)<i
   ·rw [Ak (.inr b2)] at hr
    injection hr with e1 e2
    subst e1 e2 hm' hk'
    refine aD aB (sz:=42) Tryz.func74 rfl zZ ?_
    repeat' (first|(refine aC ?_;intro K hK hX)|refine sR ?_|(refine aG hK hX ?_;clear hK hX K)|fail)
    exact aV1
   ·rw [Aj aA] at hr
    cases dn with
    | true =>
     simp only [Bu] at hr
     injection hr with e1 e2
     subst e1 e2
     obtain rfl:m=m':=by rw [<- hm,<- hm']
     obtain rfl:k=k':=by rw [<- hk,<- hk']
     refine aD aB (sz:=42) Tryz.func74 rfl zZ ?_
     repeat' (first|(refine aC ?_;intro K hK hX)|refine bL5 ?_|(refine aG hK hX ?_;clear hK hX K)|fail)
     exact aV1
    | false =>
     simp only [AB,AQ] at hr
     injection hr with e1 e2
     subst e1 e2
     obtain rfl:0=k':=by rw [<- hk'];rfl
     obtain ⟨q,rfl⟩:∃q:Nat,i=(q:Int):=⟨i.toNat,by omega⟩
     rw [AS] at hm' ⊢
     have hab:(u8c (sy++pe)).length=m+k:=by rw [aH,Aa,hm,hk]
     obtain rfl:q=m':=by rw [<- hm',As,Aa,hm,hk];omega
     have hj:=j1 _ rfl aA
     have hc1:((u8c (sy++pe)).drop 0).take (q*1)=u8c ((sy++pe).take q):=by rw [AY,A8,bS]
     have hc2:(u8c ((sy++pe).take q)).length=q*1:=by rw [aH,A8];exact hm'
     refine aD aB (sz:=42) Tryz.func74 rfl zZ ?_
     repeat' (first|(refine aC ?_;intro K hK hX)|refine dO2 ?_|(refine aG hK hX ?_;clear hK hX K)|fail)
     exact aV1
theorem dH3 (hm:sy.length=m) (hk:pe.length=k) (h1:m<=1000000) (h2:k<=1000000) (s':Dm) (e:Int) (m':Nat) (hr:opR ⟨sy,pe,fu,dn⟩=(s',e)) (hm':s'.length=m'):qC' 73 [dkC m k sy pe fu dn] (.tup [.c (.sl 1 m' (u8c s')),.c (iv e)]) [] 0:=by
 have hva:=nY sy pe fu dn m k hm hk h1 h2
 have j1:=fun q hq h=>pE sy pe m k q hm hk hq h
 have hua:(u8c sy).length=m:=by rw [aH,hm]
 have hub:(u8c pe).length=k:=by rw [aH,hk]
 cases hok:Dk.ok ⟨sy,pe,fu,dn⟩ with
 | false =>
  rw [hok] at hva
  simp only [opR,hok,Bu] at hr
  injection hr with e1 e2
  subst e1 e2 hm'
  refine aD aB (sz:=15) Tryz.func73 rfl (by rw [Tryz.ntmps73];rfl) ?_
  repeat' (first|(refine aC ?_;intro K hK hX)|refine aH1 ?_|(refine aG hK hX ?_;clear hK hX K)|fail)
  exact cH3
 | true =>
  rw [hok] at hva
  obtain ⟨l1,l2⟩:=eD hm hk hok
  simp only [opR,hok,hm,hk,Bl,AQ] at hr
  cases dn with
  | true =>
   simp only [Bu] at hr
   injection hr with e1 e2
   subst e1 e2 hm'
   refine aD aB (sz:=15) Tryz.func73 rfl (by rw [Tryz.ntmps73];rfl) ?_
   repeat' (first|(refine aC ?_;intro K hK hX)|refine aH1 ?_|(refine aG hK hX ?_;clear hK hX K)|fail)
   exact cH3
  | false =>
   simp only [AB,AQ] at hr
   injection hr with e1 e2
   subst e1 e2
   have hab:(u8c (sy++pe)).length=m+k:=by rw [aH,Aa,hm,hk]
   obtain rfl:m+k=m':=by rw [<- hm',Aa,hm,hk]
   have hj:=j1 _ rfl aA
   refine aD aB (sz:=15) Tryz.func73 rfl (by rw [Tryz.ntmps73];rfl) ?_
   repeat' (first|(refine aC ?_;intro K hK hX)|refine cD2 ?_|(refine aG hK hX ?_;clear hK hX K)|fail)
   exact cH3
end
end
section
structure Lg where
 d:Dk
 l:List LEn
 c:Dm
def lgV (m k q:Nat) (s:Lg):D1:=[.sl 1 m (u8c s.d.sy),.sl 1 k (u8c s.d.pe),iv s.d.fu,bv s.d.dn,.sl 65 q (lec s.l)]++u8c s.c
def lgZ:Lg:=⟨dkZ,[],root0⟩
noncomputable def opO (s:Dk):Lg × Int:=if (opR s).2≠0 then (lgZ,(opR s).2) else (⟨(opT s (parF kdL 513 [] root0 (opR s).1).2.1).1,(parF kdL 513 [] root0 (opR s).1).1,(parF kdL 513 [] root0 (opR s).1).2.2⟩,0)
theorem aS7:∀cs:D1,pZ (cs.map AV.c)=some cs
 | []=>rfl
 | c::cs=>by rw [AH,pZ,aS7 cs]
theorem tO {cs:D1} (h:cs.all CV.one=true):IsAgg (cs.map AV.c) (.c (.agg cs)):=IsAgg.closed (aS7 cs) (by rw [List.all_map];exact h)
theorem eE4:∀l:Dm,(u8c l).all CV.one=true:=fun l=>by unfold u8c;rw [List.all_map];exact Aw.2 fun x _=>rfl
abbrev lgP (i:Nat):Option (Nat × Nat):=lK tab [(0,55),(4,23),(5,28)] i
def lgZv:Do:=[.slice none 0 0,.slice none 0 0,.int .i64 0,.bool false,.slice none 0 0]++List.replicate 32 (.int .u8 0)
theorem tY {x1 x2 x3 x4 x5:CV} {cs:D1} (h:cs.length=32):qW (lK tab [(0,55),(4,23),(5,28)]) (zav lgZv) [(0,[x1,x2,x3,x4].map AV.c),(1,[.c x5]),(2,cs.map AV.c)]=some (([x1,x2,x3,x4,x5]++cs).map AV.c):=by
 have e1:qW (lK tab [(0,55),(4,23),(5,28)]) (zav lgZv) [(0,[x1,x2,x3,x4].map AV.c),(1,[.c x5]),(2,cs.map AV.c)]=qW (lK tab [(0,55),(4,23),(5,28)]) ([x1,x2,x3,x4,x5].map AV.c++List.replicate 32 (.c (.v (.int .u8 0)))) [(2,cs.map AV.c)]:=rfl
 have e2:lK tab [(0,55),(4,23),(5,28)] 2=some (5,32):=rfl
 have e3:∀k,k=32->(Nat.beq k 32&&Nat.ble (5+k) (([x1,x2,x3,x4,x5].map AV.c++List.replicate 32 (AV.c (.v (.int .u8 0)))).length))=true:=fun k hk=>by subst hk;rfl
 rw [e1,qW,e2]
 simp only [e3 _ (show (cs.map AV.c).length=32 by rw [Bm,h])]
 rw [qW,aC7 (k:=5) rfl (by rw [Bm,h];rfl),Dj]
theorem aP5:CvL ([.v (.slice none 0 0),.v (.slice none 0 0),.v (.int .i64 0),.v (.bool false),.v (.slice none 0 0)]++List.replicate 32 (.v (.int .u8 0))) (lgV 0 0 0 lgZ):=eK gM (eK gM (eK cR (eK cR (eK gM rV))))
attribute [local irreducible] Still Adds AWL AW Drw bX bY AC AWR cU Frz Go.Av.Src cQ Out InK ItK AsK RdK eP eI ACT ACA eW ACG fL aS3 lec
theorem bO9:pW Tryz.prog 72 2:=by
 intro us w hl
 obtain ⟨u0,u1,rfl⟩:∃u0 u1,us=[u0,u1]:=by
  match us,hl with | [u0,u1],_=>exact ⟨u0,u1,rfl⟩
 refine callsD_of_wpS Tryz.func72 rfl fun c₀ cs hu=>?_
 apply wpS_seq
 apply wpS_region
 simp [wpOpsS,go_sem,recoverD,hu,Tryz.ntmps72,Exit.thenS]
 refine wpS_cond (t:=false) pS ?_
 simp only [AB,AQ]
 refine wpS_of_wp (wp_skip ?_)
 cases c₀
 simp_all [bodyPostS,results,Tryz.results72]
theorem aJ8:Body Tryz.prog 72:=by unfold Body;kernel_rfl
theorem cN7 (sy pe:Dm) (fu:Int) (dn:Bool) (m k:Nat) (e:Int) (he:e≠0) (m':Nat) (hrd:qC' 73 [dkC m k sy pe fu dn] (.tup [.c (.sl 1 m' (u8c [])),.c (iv e)]) [] 0):qC' 23 [dkC m k sy pe fu dn] (.tup [.c (.agg (lgV 0 0 0 lgZ)),.c (iv e)]) [] 0:=by
 refine aD aB (sz:=38) Tryz.func23 rfl (by rw [Tryz.ntmps23];rfl) ?_
 repeat' (first|(refine aC ?_;intro K hK hX)|refine aK [0,1,2,3,4,5,6,7] ?_|((with_reducible refine aQ (i:=4) ?_);refine aP [0,1,2,3,4,5,6,7] rfl rfl ?_;refine bW [] ?_)|((with_reducible refine aQ ?_);refine aP [0,1,2,3,4,5,6,7] rfl rfl ?_;refine cJ [] ?_)|((with_reducible refine aW ?_);refine yA ?_;refine bC (aR (T:=61) aB rfl rfl rfl) rfl ?_)|(refine dM ?_;refine c0 hrd ?_)|refine stA ?_|refine stD ?_|refine stE ?_|(refine aG hK hX ?_;clear hK hX K)|fail)
 refine cV zio (by exact ⟨bO9,aJ8,trivial⟩) rfl (ResL.two zrs zrs) (iM (aX (dU (mN aP5)) (aX (dU cR) cS)))
theorem bW6 (sy pe:Dm) (fu:Int) (dn:Bool) (m k:Nat) (bs:Dm) (m':Nat) (hrd:qC' 73 [dkC m k sy pe fu dn] (.tup [.c (.sl 1 m' (u8c bs)),.c (iv 0)]) [] 0) (L:List LEn) (q a:Nat) (d:Dm) (hd:d.length=32) (hpa:qC' 14 [.sl 1 m' (u8c bs)] (.tup [.c (.sl 65 q (lec L)),.c (iv a),.c (.agg (u8c d))]) [] 0) (s2:Dk) (m2 k2:Nat) (hct:qC' 74 [dkC m k sy pe fu dn,iv a] (.tup [.c (dkV m2 k2 s2),.c (iv 0)]) [] 0):qC' 23 [dkC m k sy pe fu dn] (.tup [.c (.agg (lgV m2 k2 q ⟨s2,L,d⟩)),.c (iv 0)]) [] 0:=by
 have hdl:(u8c d).length=32:=by rw [aH,hd]
 have hlg:([CV.sl 1 m2 (u8c s2.sy),CV.sl 1 k2 (u8c s2.pe),iv s2.fu,bv s2.dn,CV.sl 65 q (lec L)]++u8c d).length=37:=by rw [Aa,hdl];rfl
 obtain ⟨y1,y2,y3,y4⟩:=s2
 unfold lgV
 dsimp only
 refine aD aB (sz:=38) Tryz.func23 rfl (by rw [Tryz.ntmps23];rfl) ?_
 repeat' (first|(refine aC ?_;intro K hK hX)|refine bE [0,1,2,3,4,5,6,7] ?_|((with_reducible refine aW ?_);refine yA ?_;refine bC (aR (T:=61) aB rfl rfl rfl) rfl ?_)|((with_reducible refine oC ?_);refine xA ?_;refine aL (nH aB rfl rfl rfl rfl (fJ rfl) (tY hdl) (tO aU2)) ?_)|(refine bZ ?_;first|refine c0 hrd ?_|refine c0 hpa ?_|refine c0 hct ?_)|refine stA ?_|refine stD ?_|(refine aG hK hX ?_;clear hK hX K)|fail)
 refine cV zio (by exact ⟨bO9,aJ8,trivial⟩) rfl (ResL.two zrs zrs) (iM (aX zfz (aX zfz cS)))
theorem aP8 (s:Dk) (m k:Nat) (hm:s.sy.length=m) (hk:s.pe.length=k) (h1:m<=1000000) (h2:k<=1000000) (r:Lg) (e:Int) (m' k' q:Nat) (hr:opO s=(r,e)) (hm':r.d.sy.length=m') (hk':r.d.pe.length=k') (hq:r.l.length=q):qC' 23 [dkV m k s] (.tup [.c (.agg (lgV m' k' q r)),.c (iv e)]) [] 0:=by
 obtain ⟨bs,e1,hrd⟩:∃bs e1,opR s=(bs,e1):=⟨_,_,rfl⟩
 have hre:=dH3 s.sy s.pe s.fu s.dn m k hm hk h1 h2 bs e1 _ hrd rfl
 unfold opO at hr
 rw [hrd] at hr
 simp only at hr
 by_cases he:e1≠0
 ·rw [Ak he] at hr
  injection hr with hr1 hr2
  subst hr1 hr2
  have hb:bs=[]:=by
   unfold opR at hrd
   split at hrd
   ·injection hrd with h _;exact h.symm
   ·split at hrd
    ·injection hrd with h _;exact h.symm
    ·injection hrd with _ h;exact absurd h.symm he
  subst hb
  obtain rfl:m'=0:=hm'.symm
  obtain rfl:k'=0:=hk'.symm
  obtain rfl:q=0:=hq.symm
  exact cN7 s.sy s.pe s.fu s.dn m k e1 he _ hre
 ·have he0:e1=0:=Bb he
  subst he0
  rw [Aj he] at hr
  have hbs:bs=s.sy++s.pe/\s.ok=true/\s.dn=false:=by
   unfold opR at hrd
   split at hrd
   ·injection hrd with _ h;cases h
   ·rename_i h3
    split at hrd
    ·injection hrd with _ h;cases h
    ·rename_i h4
     injection hrd with h _
     exact ⟨h.symm,by simpa using h3,by simpa using h4⟩
  obtain ⟨hb1,hb2,hb3⟩:=hbs
  obtain ⟨hb4,_⟩:=eD (sy:=s.sy) (pe:=s.pe) (fu:=s.fu) (dn:=s.dn) hm hk hb2
  have hbl:bs.length=m+k:=by rw [hb1,Aa,hm,hk]
  obtain ⟨p1,p2,p3,p4,_⟩:=pG 513 (l:=[]) (ch:=root0) (b:=bs) aA rfl (fun e he=>by simp at he) aU
  obtain ⟨L,a,d,hp⟩:∃L a d,parF kdL 513 [] root0 bs=(L,a,d):=⟨_,_,_,rfl⟩
  rw [hp] at hr p1 p2 p3 p4
  simp only at hr p1 p2 p3 p4
  injection hr with hr1 hr2
  subst hr1 hr2
  have hct:=dX4 s.sy s.pe s.fu s.dn m k a hm hk h1 h2 aA aA (opT s a).1 0 _ _ (by
   have:(opT s a).2=0:=by
    unfold opT
    rw [Aj (by rw [hb2,hm,hk];simp;omega),Aj (by rw [hb3];simp)]
   rw [<- this]) rfl rfl
  have hpa:=cP2 bs (m+k) hbl aA L q hq a d hp
  simp only at hm' hk'
  rw [hm',hk'] at hct
  rw [hbl] at hre
  exact bW6 s.sy s.pe s.fu s.dn m k bs (m+k) hre L q a d p4 hpa _ m' k' hct
end
section
theorem bA9 {α:Type} {l:List α} {i:Nat} {x:α} (h:l[i]? = some x):l.set i x=l:=by
 obtain ⟨h1,h2⟩:=Ag.1 h
 rw [<- h2,List.set_getElem_self]
attribute [local irreducible] Still Adds AWL AW Drw bX bY AC AWR cU Frz Go.Av.Src cQ Out InK ItK AsK RdK eP eI ACT ACA eW ACG fL lec
theorem aT3 (e:LEn) (hw:e.wf) (nv ns:Nat) (hnv:e.vs.length=nv) (hns:e.ss.length=ns) (hb1:nv<=1000) (hb2:ns<=1000):qC' 153 [.agg (ecs e nv ns)] (.c (.agg (ecs e nv ns))) [] 0:=by
 have h1:=bE2 e.vs nv hnv aA
 have h2:=bE1 e.ss ns hns aA
 have hel:=cK hw.root nv ns
 have hc31:(ecs e nv ns)[0+31]? = some (.sl 3 nv (vrc e.vs)):=rfl
 have hc32:(ecs e nv ns)[0+32]? = some (.sl 2 ns (src e.ss)):=rfl
 generalize ecs e nv ns=cs at *
 have hs1:cs.set (0+31) (.sl 3 nv (vrc e.vs))=cs:=bA9 hc31
 have hs2:cs.set (0+32) (.sl 2 ns (src e.ss))=cs:=bA9 hc32
 have hc32':(cs.set (0+31) (.sl 3 nv (vrc e.vs)))[0+32]? = some (.sl 2 ns (src e.ss)):=by rw [hs1];exact hc32
 have hw1:List.take 65 (List.drop 0 ((cs.set (0+31) (.sl 3 nv (vrc e.vs))).set (0+32) (.sl 2 ns (src e.ss))))=cs:=by rw [hs1,hs2,AY,Ad (Cd hel)]
 refine aD aB (sz:=12) Tryz.func153 rfl (by rw [Tryz.ntmps153];rfl) ?_
 repeat' (first|(refine aC ?_;intro K hK hX)|refine aK [0,1,2] ?_|((with_reducible refine bM ?_);refine yA ?_;refine bC (bN (T:=49) rfl) rfl ?_)|((with_reducible refine aW ?_);refine yA ?_;refine bC (aR (T:=49) aB rfl rfl rfl) rfl ?_)|(refine dK ?_;first|refine c0 h1 ?_|refine c0 h2 ?_)|refine eJ ?_|refine jO ?_|refine stA ?_|(refine aG hK hX ?_;clear hK hX K)|fail)
 exact mL
theorem bW2 (s:Lg) (m k q:Nat) (hl:s.l.length=q) (hq:q<=1000) (ho:OkL s.l) (hc:s.c.length=32) (d2:Dk) (m2 k2:Nat):qC' 81 [.agg (lgV m k q s),dkV m2 k2 d2] (.c (.agg (lgV m2 k2 q ⟨d2,s.l,s.c⟩))) [] 0:=by
 obtain ⟨sd,L,c⟩:=s
 obtain ⟨y1,y2,y3,y4⟩:=d2
 simp only at hl ho hc
 have hcl:(u8c c).length=32:=by rw [aH,hc]
 have hll:(lec L).length=q*65:=by rw [fX ho,hl]
 have hlg:(lgV m k q ⟨sd,L,c⟩).length=37:=by unfold lgV;rw [Aa,hcl];rfl
 have hc4:(lgV m k q ⟨sd,L,c⟩)[0+4]? = some (.sl 65 q (lec L)):=rfl
 have hw5:List.take 32 (List.drop (0+5) (lgV m k q ⟨sd,L,c⟩))=u8c c:=by
  show List.take 32 (u8c c)=u8c c
  rw [Ad (Cd hcl)]
 have hlg2:([CV.sl 1 m2 (u8c y1),CV.sl 1 k2 (u8c y2),iv y3,bv y4,CV.sl 65 q (lec L)]++u8c c).length=37:=by rw [Aa,hcl];rfl
 have hz37:(List.map CV.v lgZv).length=37:=rfl
 generalize lgV m k q ⟨sd,L,c⟩=g at *
 unfold lgV
 dsimp only
 refine aD aB (sz:=31) Tryz.func81 rfl (by rw [Tryz.ntmps81];rfl) ?_
 repeat' (first|(refine aC ?_;intro K hK hX)|refine aK [0,1,2,3,4,5,7,14,15,16] ?_|((with_reducible refine bM ?_);refine yA ?_;refine bC (bN (T:=61) rfl) rfl ?_)|((with_reducible refine aW ?_);refine yA ?_;refine bC (aR (T:=61) aB rfl rfl rfl) rfl ?_)|refine eJ ?_|refine jO ?_|refine stA ?_|(refine aG hK hX ?_;clear hK hX K)|fail)
 refine cL 4 (fun i:Nat=>[(16,.c (iv i)),(15,.c (iv q)),(14,.c (.sl 65 q (lec L))),(5,.own 3 0 i 65 true),(2,.ref 0 0),(3,.ref 1 0),(4,.ref 2 0)]) (fun i=>[(3,.row 49 (lec (L.take i))),(2,.row 61 (lgZv.map CV.v)),(1,.blk 55 ([CV.sl 1 m2 (u8c y1),CV.sl 1 k2 (u8c y2),iv y3,bv y4].map AV.c)),(0,.row 61 g)]) [] (fun i=>i<=q) (fun i=>q-i) 0 (Am _) cZ4 ?_
 intro i hi K hK hX
 have hli:(lec (L.take i)).length=i*65:=by rw [fX (ho.take i),As];omega
 by_cases hlt:i<q
 ·obtain ⟨e,hat⟩:∃e,L[i]? = some e:=⟨_,Ab aA⟩
  have hx:=wH ho hat
  obtain ⟨ow,ok,oz⟩:=ho e (Af hat)
  have hel:=lQ ow
  have hcl:=aT3 e ow _ _ rfl rfl oz.vs oz.ss
  have hsn:lec (L.take i)++ecR e=lec (L.take (i+1)):=by rw [iF hat];unfold lec;rw [Bc];simp
  change AC _ _ [.agg (ecR e)] (.c (.agg (ecR e))) _ _ at hcl
  generalize ecR e=cs at *
  repeat' (first|(refine aC ?_;intro K hK hX)|refine dM8 ?_|(refine aG hK hX ?_;clear hK hX K)|fail)
  exact ⟨i+1,by omega,by omega,eF1⟩
 ·have hiq:i=q:=by omega
  have hLq:lec (L.take i)=lec L:=by rw [Ad aA]
  rw [hLq,hiq]
  refine oR (oO (t:=5) rfl rfl hll) ?_
  repeat' (first|(refine aC ?_;intro K hK hX)|refine aK [0,1,2,3,4,5,7,14,15,16] ?_|((with_reducible refine oC ?_);refine xA ?_;refine aL (nH aB rfl rfl rfl rfl (fJ rfl) (tY hcl) (tO aU2)) ?_)|refine jO ?_|refine stA ?_|(refine aG hK hX ?_;clear hK hX K)|fail)
  exact mL
end
end Go.Proofs.YtbgehdndimlgkaaGreat
