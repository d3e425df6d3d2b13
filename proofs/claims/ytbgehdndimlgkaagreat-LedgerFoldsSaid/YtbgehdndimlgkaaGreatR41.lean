/- Lemmas for laws of the ledger. -/
import Derived.Test.YtbgehdndimlgkaaGreatR40
set_option linter.all false
namespace Go.Proofs.YtbgehdndimlgkaaGreat
open Go Go.RowKit Go.Av
set_option maxRecDepth 100000
theorem fV {l r:Dr} {i j k:Nat} (h:(l.drop i).take k=r) (e:j=i):(l.drop j).take k=r:=e▸h
theorem nX {α:Type} {l:List α} {i j:Nat} {x:α} (h:l[i]? = some x) (e:j=i):l[j]? = some x:=e▸h
theorem vV {α:Type} {f:α->Dr} {k:Nat} (hk:∀a,(f a).length=k):∀(l:List α) (c:Nat),(l.flatMap f).take (c*k)=(l.take c).flatMap f
 | [],c=>by simp
 | a::l,0=>by simp
 | a::l,c+1=>by
  rw [A1,B6,A1,<- vV hk l c,CQ,hk,Af (by rw [hk,AJ];omega)]
  congr 2
  rw [AJ];omega
def i1 (x:Int):Dr:=[iv x]
theorem dG9 (l:List Int):bO .i64 l=l.flatMap i1:=by
 induction l with
 | nil=>rfl
 | cons x l ih=>rw [A1,<- ih];rfl
theorem bF3 {l:List Int} {i:Nat} {x:Int} (h:l[i]? = some x):(bO .i64 l)[i]? = some (iv x):=by simp [bO,h]
theorem dM0 (l:List Int) (p:Nat) (x:Int):bO .i64 (l.set p x)=(bO .i64 l).set p (iv x):=by simp [bO,CU]
theorem cC2 (l:List Int):(bO .i64 l).length=l.length*1:=by simp [bO]
attribute [local irreducible] Still Adds AWL AW Drw bQ bT AC AWR cO Frz Go.Av.Src dF Out InK ItK AsK RdK eI eG ACT ACS bJ0 ACP aK7
set_option maxHeartbeats 4000000 in
theorem dJ9 (l:List Ver) (n:Nat) (hn:l.length=n) (h0:0<n) (hnn:n<=1000000) (hw:∀x∈l,vL x):ACP Tryz.prog 93 76 3 n [] (vrc l) [] (vrc (cpA l n)) (cpA l n).length:=by
 have hvl:(vrc l).length=n*3:=by rw [dL,hn]
 have hcx:∀x:Ver,[iv x.t,iv x.c,iv x.s]=x.vl.map CV.v:=fun _=>rfl
 by_cases n1:n=1
 ·have hc:cpA l n=l:=by rw [n1];exact qW aA
  rw [hc,hn]
  subst n1
  refine kV aB (sz:=61) Tryz.func93 rfl (by rw [Tryz.ntmps93];rfl) (h0) ?_
  repeat' (first|(refine aC ?_;intro K hK hX)|refine nY ?_|(refine aE hK hX ?_;clear hK hX K)|fail)
  exact aB9
 ·refine kV aB (sz:=61) Tryz.func93 rfl (by rw [Tryz.ntmps93];rfl) (h0) ?_
  repeat' (first|(refine aC ?_;intro K hK hX)|refine nY ?_|(refine aE hK hX ?_;clear hK hX K)|fail)
  refine aT [3,4,5] [0] rfl rfl (fun k:Nat=>[(3,.c (iv k))]) (fun k=>[(0,.row 76 (vrc l))]) (fun k=>1<=k/\k<=n/\(cpA l k).length=k/\rwA l k=l) (fun k=>n-k) 1 ⟨Ag _,by omega,aF5 aA,aJ4 aA⟩ dP ?_
  rintro k ⟨hk1,hk,hkl,hkr⟩ K hK hX
  (try dsimp only at *)
  by_cases hlt:k<n
  ·obtain ⟨x,hat⟩:∃x,l[k]? = some x:=⟨_,Aa aA⟩
   obtain ⟨y,hay⟩:∃y,l[k-1]? = some y:=⟨_,Aa aA⟩
   have hx:=fU hat
   have hy:=fU hay
   have lx:=aP0 (hw x (Ac hat))
   have ly:=aP0 (hw y (Ac hay))
   by_cases heq:x=y
   ·have hbxy:(true:Bool)=true↔x=y:=⟨fun _=>heq,fun _=>rfl⟩
    obtain ⟨s1,s2⟩:=nG (l:=l) (m:=k) aA (by rw [hat,hay,heq])
    repeat' (first|(refine aC ?_;intro K hK hX)|refine dR0 ?_|(refine aE hK hX ?_;clear hK hX K)|fail)
    refine aT [3,5] [0] rfl rfl (fun m:Nat=>[(3,.c (iv (cpA l m).length)),(5,.c (iv (m-k:Nat)))]) (fun m=>[(0,.row 76 (vrc (rwA l m)))]) (fun m=>k+1<=m/\m<=n/\(cpA l m).length<m) (fun m=>n-m) (k+1) ⟨Ag _,by omega,by rw [s1,hkl];omega⟩ (by refine cE rfl ?_ ?_ rfl<;>(repeat' (first|exact bF|exact bG|refine bC rfl dC7 rfl ?_|refine aN rfl dC7 rfl ?_|refine aN rfl (by first|rfl|(first|exact congrArg (fun x:Nat=>AV.c (iv x)) (by rw [s1,hkl])|exact congrArg (fun x:Nat=>AV.c (iv x)) aA|exact congrArg (fun x=>AObj.row _ (vrc x)) (by rw [s2,hkr]))) bM ?_))) ?_
    rintro m ⟨hm1,hm,hml⟩ K hK hX
    (try dsimp only at *)
    clear hx hy lx ly hbxy heq hat hay s1 s2 hkl hkr
    have hrl:=rH (l:=l) (m:=m) aA
    have hri:(vrc (rwA l m)).length=n*3:=by rw [dL,hrl,hn]
    by_cases hlt2:m<n
    ·obtain ⟨x,hat⟩:∃x,l[m]? = some x:=⟨_,Aa aA⟩
     obtain ⟨y,hay⟩:∃y,l[m-1]? = some y:=⟨_,Aa aA⟩
     have hat2:=hat
     have hay2:=hay
     rw [<- aY8 (m:=m) aA] at hat2 hay2
     have hx:=fU hat2
     have hy:=fU hay2
     have lx:=aP0 (hw x (Ac hat))
     have ly:=aP0 (hw y (Ac hay))
     by_cases heq2:x=y
     ·have hbxy:(true:Bool)=true↔x=y:=⟨fun _=>heq2,fun _=>rfl⟩
      obtain ⟨t1,t2⟩:=nG (l:=l) (m:=m) aA (by rw [hat,hay,heq2])
      have t3:(cpA l (m+1)).length<m+1:=by rw [t1];omega
      repeat' (first|(refine aC ?_;intro K hK hX)|refine bE [0,2,3,4,5] ?_|((first|((with_reducible refine bU ?_);refine xA ?_)|((with_reducible refine cR ?_);refine xD ?_));(first|((with_reducible refine bR ?_);(first|refine aI (pJ aM (m:=3) rfl aM aM aM aM aM rfl rfl (hcx x) (hcx y) lx ly (cL2 hbxy)) ?_))|((with_reducible refine gB ?_);(first|refine aI (gF aB rfl rfl rfl rfl nZ zln) ?_|refine aI (gE aB rfl rfl rfl nZ zln) ?_))|((with_reducible refine gW ?_);(first|refine aI (s_slArri aB rfl rfl rfl rfl zbd zbd zle zle aP nZ zln) ?_))))|refine stA ?_|refine stD ?_|(refine aE hK hX ?_;clear hK hX K)|fail)
      exact ⟨m+1,⟨by omega,by omega,by omega⟩,by omega,(by refine cE rfl ?_ ?_ rfl<;>(repeat' (first|exact bF|exact bG|refine bC rfl dC3 rfl ?_|refine aN rfl dC3 rfl ?_|refine aN rfl (by first|rfl|(first|rfl|exact congrArg (fun x:Nat=>AV.c (iv x)) (by rw [t1])|exact congrArg (fun x:Nat=>AV.c (iv x)) aA|exact congrArg (fun x:Int=>AV.c (iv x)) aA|exact congrArg (fun x=>AObj.row _ (vrc x)) t2.symm)) bM ?_)))⟩
     ·have hbxy:(false:Bool)=true↔x=y:=⟨fun h=>fE,fun h=>absurd h heq2⟩
      obtain ⟨t1,t2⟩:=sP (l:=l) (m:=m) hat (fun h=>heq2 aB5)
      obtain ⟨c,hc⟩:∃c,(cpA l m).length=c:=⟨_,rfl⟩
      rw [hc] at t1 t2 hml ⊢
      have hset:lay (vrc (rwA l m)) (0+c*3) [iv x.t,iv x.c,iv x.s]=vrc (rwA l (m+1)):=by
       rw [Ai,t2]
       exact lQ (f:=(fun v:Ver=>[iv v.t,iv v.c,iv v.s])) (k:=3) (fun _=>rfl) x aA
      repeat' (first|(refine aC ?_;intro K hK hX)|refine bE [0,2,3,4,5] ?_|((first|((with_reducible refine bU ?_);refine xA ?_)|((with_reducible refine cR ?_);refine xD ?_));(first|((with_reducible refine bR ?_);(first|refine aI (pJ aM (m:=3) rfl aM aM aM aM aM rfl rfl (hcx x) (hcx y) lx ly (cL2 hbxy)) ?_))|((with_reducible refine gB ?_);(first|refine aI (gF aB rfl rfl rfl rfl nZ zln) ?_|refine aI (gE aB rfl rfl rfl nZ zln) ?_))|((with_reducible refine gW ?_);(first|refine aI (s_slArri aB rfl rfl rfl rfl zbd zbd zle zle aP nZ zln) ?_))))|((with_reducible refine iN ?_);(refine fA aB aD rfl rfl rfl rfl rfl rfl aB2 ?_))|refine stA ?_|refine stD ?_|(refine aE hK hX ?_;clear hK hX K)|fail)
      exact bX4
    ·have hmn:m=n:=by omega
     rw [hmn] at hri hml ⊢
     have htk:=yY (l:=l) (m:=n)
     have hfm:(vrc (rwA l n)).take ((cpA l n).length*3)=vrc ((rwA l n).take (cpA l n).length):=vV (f:=(fun v:Ver=>[iv v.t,iv v.c,iv v.s])) (k:=3) (fun _=>rfl) (rwA l n) (cpA l n).length
     rw [htk] at hfm
     repeat' (first|(refine aC ?_;intro K hK hX)|refine bE [0,2,3,4,5] ?_|((with_reducible refine rC ?_);refine qR aB aD rfl rfl rfl (size:=3) rfl rfl rfl rfl rfl aA aA ?_)|refine stA ?_|refine stD ?_|(refine aE hK hX ?_;clear hK hX K)|fail)
     exact bX5
   ·have hbxy:(false:Bool)=true↔x=y:=⟨fun h=>fE,fun h=>absurd h heq⟩
    obtain ⟨s1,s2⟩:=sO (l:=l) (m:=k) hat hkl (fun h=>heq aB5) hkr
    clear hkl hkr
    repeat' (first|(refine aC ?_;intro K hK hX)|refine dR0 ?_|(refine aE hK hX ?_;clear hK hX K)|fail)
    exact bX6
  ·have hkn:k=n:=by omega
   rw [hkn] at hkl hkr
   have hcl:=oK hn hkl hkr
   clear hkl hkr
   repeat' (first|(refine aC ?_;intro K hK hX)|refine nY ?_|(refine aE hK hX ?_;clear hK hX K)|fail)
   rw [hcl,hn]
   exact aB9
end Go.Proofs.YtbgehdndimlgkaaGreat
