/- Lemmas for laws of the ledger. -/
import Derived.Test.YtbgehdndimlgkaaGreatR35
set_option linter.all false
set_option maxHeartbeats 16000000
namespace Go.Proofs.YtbgehdndimlgkaaGreat
open Go Go.Av
structure Dk where
 sy:Db
 pe:Db
 fu:Int
 dn:Bool
abbrev dkC (m k:Nat) (sy pe:Db) (fu:Int) (dn:Bool):CV := .agg [.sl 1 m (u8c sy),.sl 1 k (u8c pe),iv fu,bv dn]
abbrev dkV (m k:Nat) (s:Dk):CV:=dkC m k s.sy s.pe s.fu s.dn
def Dk.ok (s:Dk):Bool:=decide (s.sy.length+s.pe.length<=131072 /\ -1<=s.fu)
def dkZ:Dk:=⟨[],[],0,false⟩
def opA (s:Dk) (b:Db):Dk × Int :=
 if s.ok=false then (dkZ,1) else if s.dn then (s,104) else if 131072<s.sy.length+s.pe.length+b.length then (dkZ,8)
 else if s.fu ≠ -1/\s.fu<b.length then (⟨s.sy,s.pe++b.take s.fu.toNat,0,true⟩,104)
 else (⟨s.sy,s.pe++b,if s.fu = -1 then -1 else s.fu-b.length,s.dn⟩,0)
def opS (s:Dk):Dk × Int :=
 if s.ok=false then (dkZ,1) else if s.dn then (s,104) else if s.fu=0/\0<s.pe.length then (⟨s.sy,s.pe,s.fu,true⟩,104)
 else (⟨s.sy++s.pe,[],s.fu,s.dn⟩,0)
def opF (s:Dk) (n:Int):Dk × Int:=if s.ok=false\/n < -1 then (dkZ,1) else (⟨s.sy,s.pe,n,s.dn⟩,0)
def opC (s:Dk) (n:Int):Dk × Int:=if s.ok=false then (dkZ,1) else (⟨s.sy++s.pe.take n.toNat,[],-1,false⟩,0)
def opT (s:Dk) (n:Int):Dk × Int :=
 if s.ok=false\/n<0\/s.sy.length+s.pe.length<n then (dkZ,1) else if s.dn then (s,104) else (⟨(s.sy++s.pe).take n.toNat,[],s.fu,s.dn⟩,0)
def opR (s:Dk):Db × Int:=if s.ok=false then ([],1) else if s.dn then ([],104) else (s.sy++s.pe,0)
theorem iF {sy pe:Db} {fu:Int} {dn:Bool} {m k:Nat} (hm:sy.length=m) (hk:pe.length=k) (h:Dk.ok ⟨sy,pe,fu,dn⟩=true):m+k<=131072 /\ -1<=fu:=by
 have:=CK h
 simp only [hm,hk] at this
 exact this
theorem sM {s:Dk} {m k:Nat} (hm:s.sy.length=m) (hk:s.pe.length=k) (h1:m+k<=131072) (h2 : -1<=s.fu):s.ok=true:=by
 unfold Dk.ok;rw [hm,hk];exact AT ⟨h1,h2⟩
theorem aP2 {s:Dk} {m k:Nat} (hm:s.sy.length=m) (hk:s.pe.length=k) (h1:¬(m+k<=131072 /\ -1<=s.fu)):s.ok=false:=by
 unfold Dk.ok;rw [hm,hk];exact Bg h1
end Go.Proofs.YtbgehdndimlgkaaGreat
namespace Go.Proofs.YtbgehdndimlgkaaGreat
open Go Go.RowKit Go.Av
set_option maxRecDepth 100000
section
attribute [local irreducible] Still Adds AWL AW Drw bQ bT AC AWR cO Frz Go.Av.Src dF Out InK ItK AsK RdK
attribute [local simp] bZ bY cI aE7 aI1
theorem nO (a b:Db) (m k q:Nat) (ha:a.length=m) (hb:b.length=k) (hq:m+k=q) (h:q<=1000000000):qC' 71 [.sl 1 m (u8c a),.sl 1 k (u8c b)] (.own 0 0 q 1 true) [(0,.row 5 (u8c (a++b)))] 1:=by
 have hua:(u8c a).length=m:=by rw [aK,ha]
 have hub:(u8c b).length=k:=by rw [aK,hb]
 subst hq
 refine aG aB (sz:=22) Tryz.func71 rfl (by rw [Tryz.ntmps71];rfl) ?_
 repeat' (first|(refine aC ?_;intro K hK hX)|refine aM2 ?_|(refine aE hK hX ?_;clear hK hX K)|fail)
 rw [cT5 rfl ha hb]
 exact bI
section
variable (sy pe:Db) (fu:Int) (dn:Bool) (m k:Nat) (hm:sy.length=m) (hk:pe.length=k) (h1:m<=1000000) (h2:k<=1000000)
include sy pe fu dn m k hm hk h1 h2
theorem xG:qC' 70 [dkC m k sy pe fu dn] (.c (dkC m k sy pe fu dn)) [] 0:=by
 have hua:(u8c sy).length=m:=by rw [aK,hm]
 have hub:(u8c pe).length=k:=by rw [aK,hk]
 have j1:=nO sy [] m 0 m hm rfl rfl aA
 have j2:=nO pe [] k 0 k hk rfl rfl aA
 rw [Ay] at j1 j2
 refine aG aB (sz:=12) Tryz.func70 rfl (by rw [Tryz.ntmps70];rfl) ?_
 repeat' (first|(refine aC ?_;intro K hK hX)|refine aJ [0,1,2] ?_|(refine dR ?_;first|refine c1 j1 ?_|refine c1 j2 ?_)|refine stA ?_|(refine aE hK hX ?_;clear hK hX K)|fail)
 exact uQ
theorem oR:qC' 69 [dkC m k sy pe fu dn] (.c (bv (Dk.ok ⟨sy,pe,fu,dn⟩))) [] 0:=by
 have hua:(u8c sy).length=m:=by rw [aK,hm]
 have hub:(u8c pe).length=k:=by rw [aK,hk]
 by_cases b1:(m:Int)+(k:Int)<=131072
 ·by_cases b2 : -1<=fu
  ·rw [sM (s:=⟨sy,pe,fu,dn⟩) hm hk aA b2]
   refine aG aB (sz:=16) Tryz.func69 rfl (by rw [Tryz.ntmps69];rfl) ?_
   repeat' (first|(refine aC ?_;intro K hK hX)|refine aJ [0,1,2] ?_|refine stA ?_|(refine aE hK hX ?_;clear hK hX K)|fail)
   exact bI
  ·rw [aP2 (s:=⟨sy,pe,fu,dn⟩) hm hk (fun h=>b2 h.2)]
   refine aG aB (sz:=16) Tryz.func69 rfl (by rw [Tryz.ntmps69];rfl) ?_
   repeat' (first|(refine aC ?_;intro K hK hX)|refine aJ [0,1,2] ?_|refine stA ?_|(refine aE hK hX ?_;clear hK hX K)|fail)
   exact bI
 ·rw [aP2 (s:=⟨sy,pe,fu,dn⟩) hm hk aA]
  refine aG aB (sz:=16) Tryz.func69 rfl (by rw [Tryz.ntmps69];rfl) ?_
  repeat' (first|(refine aC ?_;intro K hK hX)|refine aJ [0,1,2] ?_|refine stA ?_|(refine aE hK hX ?_;clear hK hX K)|fail)
  exact bI
end
theorem dN0:qC' 22 [] (.c (dkC 0 0 [] [] (-1) false)) [] 0:=by
 refine aG aB (sz:=2) Tryz.func22 rfl (by rw [Tryz.ntmps22];rfl) ?_
 repeat' (first|(refine aC ?_;intro K hK hX)|refine aJ [0] ?_|refine stA ?_|(refine aE hK hX ?_;clear hK hX K)|fail)
 exact uQ
theorem cM6:qE Tryz.prog 68 2:=by
 intro us w hl
 obtain ⟨u0,u1,rfl⟩:∃u0 u1,us=[u0,u1]:=by
  match us,hl with | [u0,u1],_=>exact ⟨u0,u1,rfl⟩
 refine callsD_of_wpS Tryz.func68 rfl fun c₀ cs hu=>?_
 apply wpS_seq
 apply wpS_region
 simp [wpOpsS,go_sem,recoverD,hu,Tryz.ntmps68,Exit.thenS]
 refine wpS_cond (t:=false) oO ?_
 simp only [AO,Bi]
 refine wpS_of_wp (wp_skip ?_)
 cases c₀
 simp_all [bodyPostS,results,Tryz.results68]
theorem bJ3:Body Tryz.prog 68:=by unfold Body;kernel_rfl
theorem cX2:qE Tryz.prog 152 2:=by
 intro us w hl
 obtain ⟨u0,u1,rfl⟩:∃u0 u1,us=[u0,u1]:=by
  match us,hl with | [u0,u1],_=>exact ⟨u0,u1,rfl⟩
 refine callsD_of_wpS Tryz.func152 rfl fun c₀ cs hu=>?_
 apply wpS_seq
 apply wpS_region
 simp [wpOpsS,go_sem,recoverD,hu,Tryz.ntmps152,Exit.thenS]
 refine wpS_cond (t:=false) oO ?_
 simp only [AO,Bi]
 refine wpS_of_wp (wp_skip ?_)
 cases c₀
 simp_all [bodyPostS,results,Tryz.results152]
theorem bP5:Body Tryz.prog 152:=by unfold Body;kernel_rfl
theorem cO1:qE Tryz.prog 160 2:=by
 intro us w hl
 obtain ⟨u0,u1,rfl⟩:∃u0 u1,us=[u0,u1]:=by
  match us,hl with | [u0,u1],_=>exact ⟨u0,u1,rfl⟩
 refine callsD_of_wpS Tryz.func160 rfl fun c₀ cs hu=>?_
 apply wpS_seq
 apply wpS_region
 simp [wpOpsS,go_sem,recoverD,hu,Tryz.ntmps160,Exit.thenS]
 refine wpS_cond (t:=false) oO ?_
 simp only [AO,Bi]
 refine wpS_of_wp (wp_skip ?_)
 cases c₀
 simp_all [bodyPostS,results,Tryz.results160]
theorem bL0:Body Tryz.prog 160:=by unfold Body;kernel_rfl
theorem cO2:qE Tryz.prog 141 2:=by
 intro us w hl
 obtain ⟨u0,u1,rfl⟩:∃u0 u1,us=[u0,u1]:=by
  match us,hl with | [u0,u1],_=>exact ⟨u0,u1,rfl⟩
 refine callsD_of_wpS Tryz.func141 rfl fun c₀ cs hu=>?_
 apply wpS_seq
 apply wpS_region
 simp [wpOpsS,go_sem,recoverD,hu,Tryz.ntmps141,Exit.thenS]
 refine wpS_cond (t:=false) oO ?_
 simp only [AO,Bi]
 refine wpS_of_wp (wp_skip ?_)
 cases c₀
 simp_all [bodyPostS,results,Tryz.results141]
theorem bL1:Body Tryz.prog 141:=by unfold Body;kernel_rfl
theorem cV5:qE Tryz.prog 140 2:=by
 intro us w hl
 obtain ⟨u0,u1,rfl⟩:∃u0 u1,us=[u0,u1]:=by
  match us,hl with | [u0,u1],_=>exact ⟨u0,u1,rfl⟩
 refine callsD_of_wpS Tryz.func140 rfl fun c₀ cs hu=>?_
 apply wpS_seq
 apply wpS_region
 simp [wpOpsS,go_sem,recoverD,hu,Tryz.ntmps140,Exit.thenS]
 refine wpS_cond (t:=false) oO ?_
 simp only [AO,Bi]
 refine wpS_of_wp (wp_skip ?_)
 cases c₀
 simp_all [bodyPostS,results,Tryz.results140]
theorem bO2:Body Tryz.prog 140:=by unfold Body;kernel_rfl
theorem bJ5 (sy pe b:Db) (fu:Int) (dn:Bool) (m k n:Nat) (hm:sy.length=m) (hk:pe.length=k) (hn:b.length=n) (h1:m<=1000000) (h2:k<=1000000) (h3:n<=1000000) (h5:fu<=9223372036854775807) (s':Dk) (e:Int) (m' k':Nat) (hr:opA ⟨sy,pe,fu,dn⟩ b=(s',e)) (hm':s'.sy.length=m') (hk':s'.pe.length=k'):qC' 21 [dkC m k sy pe fu dn,.sl 1 n (u8c b)] (.tup [.c (dkV m' k' s'),.c (iv e)]) [] 0:=by
 have hva:=oR sy pe fu dn m k hm hk h1 h2
 have hcl:=xG sy pe fu dn m k hm hk h1 h2
 have j1:=fun b n q hn hq h=>nO pe b k n q hk hn hq h
 have hua:(u8c sy).length=m:=by rw [aK,hm]
 have hub:(u8c pe).length=k:=by rw [aK,hk]
 have hun:(u8c b).length=n:=by rw [aK,hn]
 cases hok:Dk.ok ⟨sy,pe,fu,dn⟩ with
 | false =>
  rw [hok] at hva
  simp only [opA,hok,BX] at hr
  injection hr with e1 e2
  subst e1 e2 hm' hk'
  refine aG aB (sz:=65) Tryz.func21 rfl tH ?_
  repeat' (first|(refine aC ?_;intro K hK hX)|refine bE [0,1,2,4,5] ?_|(refine dU ?_;refine c0 hva ?_)|refine stA ?_|refine stD ?_|(refine aE hK hX ?_;clear hK hX K)|fail)
  exact aB8
 | true =>
  rw [hok] at hva
  obtain ⟨l1,l2⟩:=iF hm hk hok
  simp only [opA,hok,hm,hk,hn,Cd,Bi] at hr
  cases dn with
  | true =>
   simp only [BX] at hr
   injection hr with e1 e2
   subst e1 e2
   obtain rfl:m=m':=by rw [<- hm,<- hm']
   obtain rfl:k=k':=by rw [<- hk,<- hk']
   refine aG aB (sz:=65) Tryz.func21 rfl tH ?_
   repeat' (first|(refine aC ?_;intro K hK hX)|refine dB1 ?_|(refine aE hK hX ?_;clear hK hX K)|fail)
   exact aB8
  | false =>
   simp only [AO,Bi] at hr
   by_cases b1:131072<m+k+n
   ·rw [Al b1] at hr
    injection hr with e1 e2
    subst e1 e2 hm' hk'
    refine aG aB (sz:=65) Tryz.func21 rfl tH ?_
    repeat' (first|(refine aC ?_;intro K hK hX)|refine dB1 ?_|(refine aE hK hX ?_;clear hK hX K)|fail)
    exact aB8
   ·rw [Ak b1] at hr
    by_cases b2:fu = -1
    ·subst b2
     rw [Ak (fun h=>h.1 rfl),Al rfl] at hr
     injection hr with e1 e2
     subst e1 e2
     obtain rfl:m=m':=by rw [<- hm,<- hm']
     obtain rfl:k+n=k':=by rw [<- hk',Ab,hk,hn]
     have hj:=j1 b n _ hn rfl aA
     have hab:(u8c (pe++b)).length=k+n:=by rw [aK,hk']
     refine aG aB (sz:=65) Tryz.func21 rfl tH ?_
     repeat' (first|(refine aC ?_;intro K hK hX)|refine dB0 ?_|(refine aE hK hX ?_;clear hK hX K)|fail)
     exact aB8
    ·by_cases b3:fu<(n:Int)
     ·rw [Al ⟨b2,b3⟩] at hr
      injection hr with e1 e2
      subst e1 e2
      obtain rfl:m=m':=by rw [<- hm,<- hm']
      obtain ⟨q,rfl⟩:∃q:Nat,fu=(q:Int):=⟨fu.toNat,by omega⟩
      rw [Bn] at hk'
      have hq:(b.take q).length=q:=by rw [Ao];omega
      obtain rfl:k+q=k':=by rw [<- hk',Ab,hk,hq]
      have hj:=j1 (b.take q) q _ hq rfl aA
      have hab:(u8c (pe++b.take q)).length=k+q:=by rw [aK,hk']
      refine aG aB (sz:=65) Tryz.func21 rfl tH ?_
      repeat' (first|(refine aC ?_;intro K hK hX)|refine iA [0,1,2,4,5] ?_|(refine pO ?_;first|refine c0 hva ?_|refine c0 hcl ?_|refine c1 hj ?_)|refine stA ?_|refine stE ?_|(refine aE hK hX ?_;clear hK hX K)|fail)
      exact aB8
     ·rw [Ak (fun h=>b3 h.2),Ak b2] at hr
      injection hr with e1 e2
      subst e1 e2
      obtain rfl:m=m':=by rw [<- hm,<- hm']
      obtain rfl:k+n=k':=by rw [<- hk',Ab,hk,hn]
      have hj:=j1 b n _ hn rfl aA
      have hab:(u8c (pe++b)).length=k+n:=by rw [aK,hk']
      refine aG aB (sz:=65) Tryz.func21 rfl tH ?_
      repeat' (first|(refine aC ?_;intro K hK hX)|refine dB0 ?_|(refine aE hK hX ?_;clear hK hX K)|fail)
      exact aB8
section
variable (sy pe:Db) (fu:Int) (dn:Bool) (m k:Nat)
include sy pe fu dn m k
theorem cX3 (hm:sy.length=m) (hk:pe.length=k) (h1:m<=1000000) (h2:k<=1000000) (s':Dk) (e:Int) (m' k':Nat) (hr:opS ⟨sy,pe,fu,dn⟩=(s',e)) (hm':s'.sy.length=m') (hk':s'.pe.length=k'):qC' 80 [dkC m k sy pe fu dn] (.tup [.c (dkV m' k' s'),.c (iv e)]) [] 0:=by
 have hva:=oR sy pe fu dn m k hm hk h1 h2
 have hcl:=xG sy pe fu dn m k hm hk h1 h2
 have j1:=fun q hq h=>nO sy pe m k q hm hk hq h
 have hua:(u8c sy).length=m:=by rw [aK,hm]
 have hub:(u8c pe).length=k:=by rw [aK,hk]
 cases hok:Dk.ok ⟨sy,pe,fu,dn⟩ with
 | false =>
  rw [hok] at hva
  simp only [opS,hok,BX] at hr
  injection hr with e1 e2
  subst e1 e2 hm' hk'
  refine aG aB (sz:=33) Tryz.func80 rfl xP ?_
  repeat' (first|(refine aC ?_;intro K hK hX)|refine bT8 ?_|(refine aE hK hX ?_;clear hK hX K)|fail)
  exact aN0
 | true =>
  rw [hok] at hva
  obtain ⟨l1,l2⟩:=iF hm hk hok
  simp only [opS,hok,hm,hk,Cd,Bi] at hr
  cases dn with
  | true =>
   simp only [BX] at hr
   injection hr with e1 e2
   subst e1 e2
   obtain rfl:m=m':=by rw [<- hm,<- hm']
   obtain rfl:k=k':=by rw [<- hk,<- hk']
   refine aG aB (sz:=33) Tryz.func80 rfl xP ?_
   repeat' (first|(refine aC ?_;intro K hK hX)|refine dB5 ?_|(refine aE hK hX ?_;clear hK hX K)|fail)
   exact aN0
  | false =>
   simp only [AO,Bi] at hr
   by_cases b1:fu=0/\0<k
   ·rw [Al b1] at hr
    obtain ⟨rfl,b2⟩:=b1
    have b2':(0:Int)<(k:Int):=by omega
    injection hr with e1 e2
    subst e1 e2
    obtain rfl:m=m':=by rw [<- hm,<- hm']
    obtain rfl:k=k':=by rw [<- hk,<- hk']
    refine aG aB (sz:=33) Tryz.func80 rfl xP ?_
    repeat' (first|(refine aC ?_;intro K hK hX)|refine dB5 ?_|(refine aE hK hX ?_;clear hK hX K)|fail)
    exact aN0
   ·rw [Ak b1] at hr
    injection hr with e1 e2
    subst e1 e2
    obtain rfl:m+k=m':=by rw [<- hm',Ab,hm,hk]
    obtain rfl:0=k':=by rw [<- hk'];rfl
    have hj:=j1 _ rfl aA
    have hab:(u8c (sy++pe)).length=m+k:=by rw [aK,hm']
    by_cases b2:fu=0
    ·have b3:¬(0:Int)<(k:Int):=by omega
     subst b2
     refine aG aB (sz:=33) Tryz.func80 rfl xP ?_
     repeat' (first|(refine aC ?_;intro K hK hX)|refine dB2 ?_|(refine aE hK hX ?_;clear hK hX K)|fail)
     exact aN0
    ·clear b1
     refine aG aB (sz:=33) Tryz.func80 rfl xP ?_
     repeat' (first|(refine aC ?_;intro K hK hX)|refine dB2 ?_|(refine aE hK hX ?_;clear hK hX K)|fail)
     exact aN0
theorem bX7 (i:Int) (hm:sy.length=m) (hk:pe.length=k) (h1:m<=1000000) (h2:k<=1000000) (h3 : -9223372036854775808<=i) (h4:i<=9223372036854775807) (s':Dk) (e:Int) (m' k':Nat) (hr:opC ⟨sy,pe,fu,dn⟩ i=(s',e)) (hm':s'.sy.length=m') (hk':s'.pe.length=k'):qC' 102 [dkC m k sy pe fu dn,iv i] (.tup [.c (dkV m' k' s'),.c (iv e)]) [] 0:=by
 have hva:=oR sy pe fu dn m k hm hk h1 h2
 have j1:=fun b n q hn hq h=>nO sy b m n q hm hn hq h
 have hua:(u8c sy).length=m:=by rw [aK,hm]
 have hub:(u8c pe).length=k:=by rw [aK,hk]
 cases hok:Dk.ok ⟨sy,pe,fu,dn⟩ with
 | false =>
  rw [hok] at hva
  simp only [opC,hok,BX] at hr
  injection hr with e1 e2
  subst e1 e2 hm' hk'
  refine aG aB (sz:=25) Tryz.func102 rfl (by rw [Tryz.ntmps102];rfl) ?_
  repeat' (first|(refine aC ?_;intro K hK hX)|refine bE [0,1,2,4,5] ?_|(refine dU ?_;refine c0 hva ?_)|refine stA ?_|refine stD ?_|(refine aE hK hX ?_;clear hK hX K)|fail)
  exact dF7
 | true =>
  rw [hok] at hva
  obtain ⟨l1,l2⟩:=iF hm hk hok
  simp only [opC,hok,hm,hk,Cd,Bi] at hr
  injection hr with e1 e2
  subst e1 e2
  obtain rfl:0=k':=by rw [<- hk'];rfl
  obtain ⟨q,hq1,hq2,hq3⟩:∃q:Nat,q<=k/\pe.take i.toNat=pe.take q/\(if (k:Int)<(if i<0 then 0 else i) then (k:Int) else (if i<0 then 0 else i))=(q:Int):=by
   refine ⟨min i.toNat k,by omega,?_,by split<;>split<;>omega⟩
   by_cases h:i.toNat<=k
   ·rw [B0 h]
   ·rw [CR aA,Af aA,Af aA]
  rw [hq2] at hm' ⊢
  have hq:(pe.take q).length=q:=by rw [Ao];omega
  obtain rfl:m+q=m':=by rw [<- hm',Ab,hm,hq]
  have hj:=j1 (pe.take q) q _ hq rfl aA
  have hab:(u8c (sy++pe.take q)).length=m+q:=by rw [aK,hm']
  refine aG aB (sz:=25) Tryz.func102 rfl (by rw [Tryz.ntmps102];rfl) ?_
  repeat' (first|(refine aC ?_;intro K hK hX)|refine iA [0,1,2,4,5] ?_|(refine pO ?_;first|refine c0 hva ?_|refine c1 hj ?_)|((first|((with_reducible refine bU ?_);refine xA ?_)|((with_reducible refine lU ?_);refine xE ?_));(first|((with_reducible refine aV9 ?_);(first|refine aI (bH5 rfl rfl hq3) ?_))))|refine stA ?_|refine stE ?_|(refine aE hK hX ?_;clear hK hX K)|fail)
  exact dF7
theorem dK4 (i:Int) (hm:sy.length=m) (hk:pe.length=k) (h1:m<=1000000) (h2:k<=1000000) (h3 : -9223372036854775808<=i) (h4:i<=9223372036854775807) (s':Dk) (e:Int) (m' k':Nat) (hr:opT ⟨sy,pe,fu,dn⟩ i=(s',e)) (hm':s'.sy.length=m') (hk':s'.pe.length=k'):qC' 74 [dkC m k sy pe fu dn,iv i] (.tup [.c (dkV m' k' s'),.c (iv e)]) [] 0:=by
 have hva:=oR sy pe fu dn m k hm hk h1 h2
 have hcl:=xG sy pe fu dn m k hm hk h1 h2
 have j1:=fun q hq h=>nO sy pe m k q hm hk hq h
 have hua:(u8c sy).length=m:=by rw [aK,hm]
 have hub:(u8c pe).length=k:=by rw [aK,hk]
 cases hok:Dk.ok ⟨sy,pe,fu,dn⟩ with
 | false =>
  rw [hok] at hva
  simp only [opT,hok,BX,true_or] at hr
  injection hr with e1 e2
  subst e1 e2 hm' hk'
  refine aG aB (sz:=42) Tryz.func74 rfl xQ ?_
  repeat' (first|(refine aC ?_;intro K hK hX)|refine bT7 ?_|(refine aE hK hX ?_;clear hK hX K)|fail)
  exact aN1
 | true =>
  rw [hok] at hva
  obtain ⟨l1,l2⟩:=iF hm hk hok
  simp only [opT,hok,hm,hk,Cd,false_or,Bi] at hr
  by_cases b1:i<0
  ·rw [Al (.inl b1)] at hr
   injection hr with e1 e2
   subst e1 e2 hm' hk'
   refine aG aB (sz:=42) Tryz.func74 rfl xQ ?_
   repeat' (first|(refine aC ?_;intro K hK hX)|refine bT7 ?_|(refine aE hK hX ?_;clear hK hX K)|fail)
   exact aN1
  ·by_cases b2:(m:Int)+(k:Int)<i
   ·rw [Al (.inr b2)] at hr
    injection hr with e1 e2
    subst e1 e2 hm' hk'
    refine aG aB (sz:=42) Tryz.func74 rfl xQ ?_
    repeat' (first|(refine aC ?_;intro K hK hX)|refine bT7 ?_|(refine aE hK hX ?_;clear hK hX K)|fail)
    exact aN1
   ·rw [Ak aA] at hr
    cases dn with
    | true =>
     simp only [BX] at hr
     injection hr with e1 e2
     subst e1 e2
     obtain rfl:m=m':=by rw [<- hm,<- hm']
     obtain rfl:k=k':=by rw [<- hk,<- hk']
     refine aG aB (sz:=42) Tryz.func74 rfl xQ ?_
     repeat' (first|(refine aC ?_;intro K hK hX)|refine aJ [0,1,2,4,5] ?_|(refine dR ?_;first|refine c0 hva ?_|refine c0 hcl ?_)|refine stA ?_|(refine aE hK hX ?_;clear hK hX K)|fail)
     exact aN1
    | false =>
     simp only [AO,Bi] at hr
     injection hr with e1 e2
     subst e1 e2
     obtain rfl:0=k':=by rw [<- hk'];rfl
     obtain ⟨q,rfl⟩:∃q:Nat,i=(q:Int):=⟨i.toNat,by omega⟩
     rw [Bn] at hm' ⊢
     have hab:(u8c (sy++pe)).length=m+k:=by rw [aK,Ab,hm,hk]
     obtain rfl:q=m':=by rw [<- hm',Ao,Ab,hm,hk];omega
     have hj:=j1 _ rfl aA
     have hc1:((u8c (sy++pe)).drop 0).take (q*1)=u8c ((sy++pe).take q):=by rw [Bj,A5,bZ]
     have hc2:(u8c ((sy++pe).take q)).length=q*1:=by rw [aK,A5];exact hm'
     refine aG aB (sz:=42) Tryz.func74 rfl xQ ?_
     repeat' (first|(refine aC ?_;intro K hK hX)|refine aJ [0,1,2,4,5] ?_|(refine dR ?_;first|refine c0 hva ?_|refine c0 hcl ?_|refine c1 hj ?_)|refine stA ?_|(refine aE hK hX ?_;clear hK hX K)|fail)
     exact aN1
theorem cV6 (hm:sy.length=m) (hk:pe.length=k) (h1:m<=1000000) (h2:k<=1000000) (s':Db) (e:Int) (m':Nat) (hr:opR ⟨sy,pe,fu,dn⟩=(s',e)) (hm':s'.length=m'):qC' 73 [dkC m k sy pe fu dn] (.tup [.c (.sl 1 m' (u8c s')),.c (iv e)]) [] 0:=by
 have hva:=oR sy pe fu dn m k hm hk h1 h2
 have j1:=fun q hq h=>nO sy pe m k q hm hk hq h
 have hua:(u8c sy).length=m:=by rw [aK,hm]
 have hub:(u8c pe).length=k:=by rw [aK,hk]
 cases hok:Dk.ok ⟨sy,pe,fu,dn⟩ with
 | false =>
  rw [hok] at hva
  simp only [opR,hok,BX] at hr
  injection hr with e1 e2
  subst e1 e2 hm'
  refine aG aB (sz:=15) Tryz.func73 rfl (by rw [Tryz.ntmps73];rfl) ?_
  repeat' (first|(refine aC ?_;intro K hK hX)|refine bT8 ?_|(refine aE hK hX ?_;clear hK hX K)|fail)
  exact bX2
 | true =>
  rw [hok] at hva
  obtain ⟨l1,l2⟩:=iF hm hk hok
  simp only [opR,hok,hm,hk,Cd,Bi] at hr
  cases dn with
  | true =>
   simp only [BX] at hr
   injection hr with e1 e2
   subst e1 e2 hm'
   refine aG aB (sz:=15) Tryz.func73 rfl (by rw [Tryz.ntmps73];rfl) ?_
   repeat' (first|(refine aC ?_;intro K hK hX)|refine bT8 ?_|(refine aE hK hX ?_;clear hK hX K)|fail)
   exact bX2
  | false =>
   simp only [AO,Bi] at hr
   injection hr with e1 e2
   subst e1 e2
   have hab:(u8c (sy++pe)).length=m+k:=by rw [aK,Ab,hm,hk]
   obtain rfl:m+k=m':=by rw [<- hm',Ab,hm,hk]
   have hj:=j1 _ rfl aA
   refine aG aB (sz:=15) Tryz.func73 rfl (by rw [Tryz.ntmps73];rfl) ?_
   repeat' (first|(refine aC ?_;intro K hK hX)|refine aJ [0,1,2,3] ?_|(refine dR ?_;first|refine c0 hva ?_|refine c1 hj ?_)|refine stA ?_|(refine aE hK hX ?_;clear hK hX K)|fail)
   exact bX2
end
end
section
structure Lg where
 d:Dk
 l:List LEn
 c:Db
def lgV (m k q:Nat) (s:Lg):Dr:=[.sl 1 m (u8c s.d.sy),.sl 1 k (u8c s.d.pe),iv s.d.fu,bv s.d.dn,.sl 65 q (lec s.l)]++u8c s.c
def lgZ:Lg:=⟨dkZ,[],root0⟩
noncomputable def opO (s:Dk):Lg × Int:=if (opR s).2≠0 then (lgZ,(opR s).2) else (⟨(opT s (parF kdL 513 [] root0 (opR s).1).2.1).1,(parF kdL 513 [] root0 (opR s).1).1,(parF kdL 513 [] root0 (opR s).1).2.2⟩,0)
theorem aL1:∀cs:Dr,oE (cs.map AV.c)=some cs
 | []=>rfl
 | c::cs=>by rw [AF,oE,aL1 cs]
theorem bA9 {cs:Dr} (h:cs.all CV.one=true):IsAgg (cs.map AV.c) (.c (.agg cs)):=IsAgg.closed (aL1 cs) (by rw [List.all_map];exact h)
theorem cK5:∀l:Db,(u8c l).all CV.one=true:=fun l=>by unfold u8c;rw [List.all_map];exact As.2 fun x _=>rfl
abbrev lgP (i:Nat):Option (Nat × Nat):=kN tab [(0,55),(4,23),(5,28)] i
def lgZv:Dd:=[.slice none 0 0,.slice none 0 0,.int .i64 0,.bool false,.slice none 0 0]++List.replicate 32 (.int .u8 0)
theorem bE6 {x1 x2 x3 x4 x5:CV} {cs:Dr} (h:cs.length=32):oU (kN tab [(0,55),(4,23),(5,28)]) (zav lgZv) [(0,[x1,x2,x3,x4].map AV.c),(1,[.c x5]),(2,cs.map AV.c)]=some (([x1,x2,x3,x4,x5]++cs).map AV.c):=by
 have e1:oU (kN tab [(0,55),(4,23),(5,28)]) (zav lgZv) [(0,[x1,x2,x3,x4].map AV.c),(1,[.c x5]),(2,cs.map AV.c)]=oU (kN tab [(0,55),(4,23),(5,28)]) ([x1,x2,x3,x4,x5].map AV.c++List.replicate 32 (.c (.v (.int .u8 0)))) [(2,cs.map AV.c)]:=rfl
 have e2:kN tab [(0,55),(4,23),(5,28)] 2=some (5,32):=rfl
 have e3:∀k,k=32->(Nat.beq k 32&&Nat.ble (5+k) (([x1,x2,x3,x4,x5].map AV.c++List.replicate 32 (AV.c (.v (.int .u8 0)))).length))=true:=fun k hk=>by subst hk;rfl
 rw [e1,oU,e2]
 simp only [e3 _ (show (cs.map AV.c).length=32 by rw [AS,h])]
 rw [oU,aO8 (k:=5) rfl (by rw [AS,h];rfl),BU]
theorem aX5:CvL ([.v (.slice none 0 0),.v (.slice none 0 0),.v (.int .i64 0),.v (.bool false),.v (.slice none 0 0)]++List.replicate 32 (.v (.int .u8 0))) (lgV 0 0 0 lgZ):=eJ fT (eJ fT (eJ cU (eJ cU (eJ fT rT))))
attribute [local irreducible] Still Adds AWL AW Drw bQ bT AC AWR cO Frz Go.Av.Src dF Out InK ItK AsK RdK eI eG ACT ACA fD ACG fJ bI9 lec
theorem bF8:qE Tryz.prog 72 2:=by
 intro us w hl
 obtain ⟨u0,u1,rfl⟩:∃u0 u1,us=[u0,u1]:=by
  match us,hl with | [u0,u1],_=>exact ⟨u0,u1,rfl⟩
 refine callsD_of_wpS Tryz.func72 rfl fun c₀ cs hu=>?_
 apply wpS_seq
 apply wpS_region
 simp [wpOpsS,go_sem,recoverD,hu,Tryz.ntmps72,Exit.thenS]
 refine wpS_cond (t:=false) oO ?_
 simp only [AO,Bi]
 refine wpS_of_wp (wp_skip ?_)
 cases c₀
 simp_all [bodyPostS,results,Tryz.results72]
theorem aD2:Body Tryz.prog 72:=by unfold Body;kernel_rfl
theorem cE4 (sy pe:Db) (fu:Int) (dn:Bool) (m k:Nat) (e:Int) (he:e≠0) (m':Nat) (hrd:qC' 73 [dkC m k sy pe fu dn] (.tup [.c (.sl 1 m' (u8c [])),.c (iv e)]) [] 0):qC' 23 [dkC m k sy pe fu dn] (.tup [.c (.agg (lgV 0 0 0 lgZ)),.c (iv e)]) [] 0:=by
 refine aG aB (sz:=38) Tryz.func23 rfl (by rw [Tryz.ntmps23];rfl) ?_
 repeat' (first|(refine aC ?_;intro K hK hX)|refine aJ [0,1,2,3,4,5,6,7] ?_|((with_reducible refine bB (i:=4) ?_);refine aY [0,1,2,3,4,5,6,7] rfl rfl ?_;refine dG [] ?_)|((with_reducible refine bB ?_);refine aY [0,1,2,3,4,5,6,7] rfl rfl ?_;refine dE [] ?_)|((with_reducible refine aX ?_);refine yA ?_;refine bL (aW (T:=61) aB rfl rfl rfl) rfl ?_)|(refine eZ ?_;refine c0 hrd ?_)|refine stA ?_|refine stD ?_|refine stE ?_|(refine aE hK hX ?_;clear hK hX K)|fail)
 refine dD zio (by exact ⟨bF8,aD2,trivial⟩) rfl (ResL.two zrs zrs) (kP (bD (eF (mI aX5)) (bD (eF cU) dT)))
theorem bN5 (sy pe:Db) (fu:Int) (dn:Bool) (m k:Nat) (bs:Db) (m':Nat) (hrd:qC' 73 [dkC m k sy pe fu dn] (.tup [.c (.sl 1 m' (u8c bs)),.c (iv 0)]) [] 0) (L:List LEn) (q a:Nat) (d:Db) (hd:d.length=32) (hpa:qC' 14 [.sl 1 m' (u8c bs)] (.tup [.c (.sl 65 q (lec L)),.c (iv a),.c (.agg (u8c d))]) [] 0) (s2:Dk) (m2 k2:Nat) (hct:qC' 74 [dkC m k sy pe fu dn,iv a] (.tup [.c (dkV m2 k2 s2),.c (iv 0)]) [] 0):qC' 23 [dkC m k sy pe fu dn] (.tup [.c (.agg (lgV m2 k2 q ⟨s2,L,d⟩)),.c (iv 0)]) [] 0:=by
 have hdl:(u8c d).length=32:=by rw [aK,hd]
 have hlg:([CV.sl 1 m2 (u8c s2.sy),CV.sl 1 k2 (u8c s2.pe),iv s2.fu,bv s2.dn,CV.sl 65 q (lec L)]++u8c d).length=37:=by rw [Ab,hdl];rfl
 obtain ⟨y1,y2,y3,y4⟩:=s2
 unfold lgV
 dsimp only
 refine aG aB (sz:=38) Tryz.func23 rfl (by rw [Tryz.ntmps23];rfl) ?_
 repeat' (first|(refine aC ?_;intro K hK hX)|refine bE [0,1,2,3,4,5,6,7] ?_|((with_reducible refine aX ?_);refine yA ?_;refine bL (aW (T:=61) aB rfl rfl rfl) rfl ?_)|((with_reducible refine aC9 ?_);refine xA ?_;refine aI (sQ aB rfl rfl rfl rfl (gJ rfl) (bE6 hdl) (bA9 (by rw [List.all_append,cK5];rfl))) ?_)|(refine dU ?_;first|refine c0 hrd ?_|refine c0 hpa ?_|refine c0 hct ?_)|refine stA ?_|refine stD ?_|(refine aE hK hX ?_;clear hK hX K)|fail)
 refine dD zio (by exact ⟨bF8,aD2,trivial⟩) rfl (ResL.two zrs zrs) (kP (bD zfz (bD zfz dT)))
theorem bF9 (s:Dk) (m k:Nat) (hm:s.sy.length=m) (hk:s.pe.length=k) (h1:m<=1000000) (h2:k<=1000000) (r:Lg) (e:Int) (m' k' q:Nat) (hr:opO s=(r,e)) (hm':r.d.sy.length=m') (hk':r.d.pe.length=k') (hq:r.l.length=q):qC' 23 [dkV m k s] (.tup [.c (.agg (lgV m' k' q r)),.c (iv e)]) [] 0:=by
 obtain ⟨bs,e1,hrd⟩:∃bs e1,opR s=(bs,e1):=⟨_,_,rfl⟩
 have hre:=cV6 s.sy s.pe s.fu s.dn m k hm hk h1 h2 bs e1 _ hrd rfl
 unfold opO at hr
 rw [hrd] at hr
 simp only at hr
 by_cases he:e1≠0
 ·rw [Al he] at hr
  injection hr with hr1 hr2
  subst hr1 hr2
  have hb:bs=[]:=by
   unfold opR at hrd
   split at hrd
   ·injection hrd with h _;exact h.symm
   ·split at hrd
    ·injection hrd with h _;exact h.symm
    ·injection hrd with _ h;exact absurd h.symm he
  subst hb
  obtain rfl:m'=0:=hm'.symm
  obtain rfl:k'=0:=hk'.symm
  obtain rfl:q=0:=hq.symm
  exact cE4 s.sy s.pe s.fu s.dn m k e1 he _ hre
 ·have he0:e1=0:=Bo he
  subst he0
  rw [Ak he] at hr
  have hbs:bs=s.sy++s.pe/\s.ok=true/\s.dn=false:=by
   unfold opR at hrd
   split at hrd
   ·injection hrd with _ h;cases h
   ·rename_i h3
    split at hrd
    ·injection hrd with _ h;cases h
    ·rename_i h4
     injection hrd with h _
     exact ⟨h.symm,by simpa using h3,by simpa using h4⟩
  obtain ⟨hb1,hb2,hb3⟩:=hbs
  obtain ⟨hb4,_⟩:=iF (sy:=s.sy) (pe:=s.pe) (fu:=s.fu) (dn:=s.dn) hm hk hb2
  have hbl:bs.length=m+k:=by rw [hb1,Ab,hm,hk]
  obtain ⟨p1,p2,p3,p4,_⟩:=rE 513 (l:=[]) (ch:=root0) (b:=bs) aA rfl (fun e he=>by simp at he) aR
  obtain ⟨L,a,d,hp⟩:∃L a d,parF kdL 513 [] root0 bs=(L,a,d):=⟨_,_,_,rfl⟩
  rw [hp] at hr p1 p2 p3 p4
  simp only at hr p1 p2 p3 p4
  injection hr with hr1 hr2
  subst hr1 hr2
  have hct:=dK4 s.sy s.pe s.fu s.dn m k a hm hk h1 h2 aA aA (opT s a).1 0 _ _ (by
   have:(opT s a).2=0:=by
    unfold opT
    rw [Ak (by rw [hb2,hm,hk];simp;omega),Ak (by rw [hb3];simp)]
   rw [<- this]) rfl rfl
  have hpa:=cF5 bs (m+k) hbl aA L q hq a d hp
  simp only at hm' hk'
  rw [hm',hk'] at hct
  rw [hbl] at hre
  exact bN5 s.sy s.pe s.fu s.dn m k bs (m+k) hre L q a d p4 hpa _ m' k' hct
end
section
theorem aR8 {α:Type} {l:List α} {i:Nat} {x:α} (h:l[i]? = some x):l.set i x=l:=by
 obtain ⟨h1,h2⟩:=Ad.1 h
 rw [<- h2,List.set_getElem_self]
attribute [local irreducible] Still Adds AWL AW Drw bQ bT AC AWR cO Frz Go.Av.Src dF Out InK ItK AsK RdK eI eG ACT ACA fD ACG fJ lec
theorem aL9 (e:LEn) (hw:e.wf) (nv ns:Nat) (hnv:e.vs.length=nv) (hns:e.ss.length=ns) (hb1:nv<=1000) (hb2:ns<=1000):qC' 153 [.agg (ecs e nv ns)] (.c (.agg (ecs e nv ns))) [] 0:=by
 have h1:=xF e.vs nv hnv aA
 have h2:=aV2 e.ss ns hns aA
 have hel:=dB hw.root nv ns
 have hc31:(ecs e nv ns)[0+31]? = some (.sl 3 nv (vrc e.vs)):=rfl
 have hc32:(ecs e nv ns)[0+32]? = some (.sl 2 ns (src e.ss)):=rfl
 generalize ecs e nv ns=cs at *
 have hs1:cs.set (0+31) (.sl 3 nv (vrc e.vs))=cs:=aR8 hc31
 have hs2:cs.set (0+32) (.sl 2 ns (src e.ss))=cs:=aR8 hc32
 have hc32':(cs.set (0+31) (.sl 3 nv (vrc e.vs)))[0+32]? = some (.sl 2 ns (src e.ss)):=by rw [hs1];exact hc32
 have hw1:List.take 65 (List.drop 0 ((cs.set (0+31) (.sl 3 nv (vrc e.vs))).set (0+32) (.sl 2 ns (src e.ss))))=cs:=by rw [hs1,hs2,Bj,Af (CD hel)]
 refine aG aB (sz:=12) Tryz.func153 rfl (by rw [Tryz.ntmps153];rfl) ?_
 repeat' (first|(refine aC ?_;intro K hK hX)|refine aJ [0,1,2] ?_|((with_reducible refine cK ?_);refine yA ?_;refine bL (cL (T:=49) rfl) rfl ?_)|((with_reducible refine aX ?_);refine yA ?_;refine bL (aW (T:=49) aB rfl rfl rfl) rfl ?_)|(refine dR ?_;first|refine c0 h1 ?_|refine c0 h2 ?_)|refine cV ?_|refine eT ?_|refine stA ?_|(refine aE hK hX ?_;clear hK hX K)|fail)
 exact uQ
theorem bM6 (s:Lg) (m k q:Nat) (hl:s.l.length=q) (hq:q<=1000) (ho:OkL s.l) (hc:s.c.length=32) (d2:Dk) (m2 k2:Nat):qC' 81 [.agg (lgV m k q s),dkV m2 k2 d2] (.c (.agg (lgV m2 k2 q ⟨d2,s.l,s.c⟩))) [] 0:=by
 obtain ⟨sd,L,c⟩:=s
 obtain ⟨y1,y2,y3,y4⟩:=d2
 simp only at hl ho hc
 have hcl:(u8c c).length=32:=by rw [aK,hc]
 have hll:(lec L).length=q*65:=by rw [dH ho,hl]
 have hlg:(lgV m k q ⟨sd,L,c⟩).length=37:=by unfold lgV;rw [Ab,hcl];rfl
 have hc4:(lgV m k q ⟨sd,L,c⟩)[0+4]? = some (.sl 65 q (lec L)):=rfl
 have hw5:List.take 32 (List.drop (0+5) (lgV m k q ⟨sd,L,c⟩))=u8c c:=by
  show List.take 32 (u8c c)=u8c c
  rw [Af (CD hcl)]
 have hlg2:([CV.sl 1 m2 (u8c y1),CV.sl 1 k2 (u8c y2),iv y3,bv y4,CV.sl 65 q (lec L)]++u8c c).length=37:=by rw [Ab,hcl];rfl
 have hz37:(List.map CV.v lgZv).length=37:=rfl
 generalize lgV m k q ⟨sd,L,c⟩=g at *
 unfold lgV
 dsimp only
 refine aG aB (sz:=31) Tryz.func81 rfl (by rw [Tryz.ntmps81];rfl) ?_
 repeat' (first|(refine aC ?_;intro K hK hX)|refine aJ [0,1,2,3,4,5,7,14,15,16] ?_|((with_reducible refine cK ?_);refine yA ?_;refine bL (cL (T:=61) rfl) rfl ?_)|((with_reducible refine aX ?_);refine yA ?_;refine bL (aW (T:=61) aB rfl rfl rfl) rfl ?_)|refine cV ?_|refine eT ?_|refine stA ?_|(refine aE hK hX ?_;clear hK hX K)|fail)
 refine fN 4 (fun i:Nat=>[(16,.c (iv i)),(15,.c (iv q)),(14,.c (.sl 65 q (lec L))),(5,.own 3 0 i 65 true),(2,.ref 0 0),(3,.ref 1 0),(4,.ref 2 0)]) (fun i=>[(3,.row 49 (lec (L.take i))),(2,.row 61 (lgZv.map CV.v)),(1,.blk 55 ([CV.sl 1 m2 (u8c y1),CV.sl 1 k2 (u8c y2),iv y3,bv y4].map AV.c)),(0,.row 61 g)]) [] (fun i=>i<=q) (fun i=>q-i) 0 (Ah _) bU9 ?_
 intro i hi K hK hX
 have hli:(lec (L.take i)).length=i*65:=by rw [dH (ho.take i),Ao];omega
 by_cases hlt:i<q
 ·obtain ⟨e,hat⟩:∃e,L[i]? = some e:=⟨_,Aa aA⟩
  have hx:=jA ho hat
  obtain ⟨ow,ok,oz⟩:=ho e (Ac hat)
  have hel:=eR ow
  have hcl:=aL9 e ow _ _ rfl rfl oz.vs oz.ss
  have hsn:lec (L.take i)++ecR e=lec (L.take (i+1)):=by rw [cT hat];unfold lec;rw [AH];simp
  change AC _ _ [.agg (ecR e)] (.c (.agg (ecR e))) _ _ at hcl
  generalize ecR e=cs at *
  repeat' (first|(refine aC ?_;intro K hK hX)|refine dA2 ?_|(refine aE hK hX ?_;clear hK hX K)|fail)
  exact ⟨i+1,by omega,by omega,dB6⟩
 ·have hiq:i=q:=by omega
  have hLq:lec (L.take i)=lec L:=by rw [Af aA]
  rw [hLq,hiq]
  refine kS (kJ (t:=5) rfl rfl hll) ?_
  repeat' (first|(refine aC ?_;intro K hK hX)|refine aJ [0,1,2,3,4,5,7,14,15,16] ?_|((with_reducible refine aC9 ?_);refine xA ?_;refine aI (sQ aB rfl rfl rfl rfl (gJ rfl) (bE6 hcl) (bA9 (by rw [List.all_append,cK5];rfl))) ?_)|refine eT ?_|refine stA ?_|(refine aE hK hX ?_;clear hK hX K)|fail)
  exact uQ
end
end Go.Proofs.YtbgehdndimlgkaaGreat
