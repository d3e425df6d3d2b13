/- Lemmas for laws of the ledger. -/
import Derived.Test.YtbgehdndimlgkaaGreatP40
set_option linter.all false
namespace Go.Proofs.YtbgehdndimlgkaaGreat
open Go Go.RowKit Go.Av
set_option maxRecDepth 100000
theorem gU {l r:D8} {i j k:Nat} (h:(l.drop i).take k=r) (e:j=i):(l.drop j).take k=r:=e▸h
theorem aT8 {α:Type} {f:α->D8} {k:Nat} (hk:∀a,(f a).length=k):∀(l:List α) (c:Nat),(l.flatMap f).take (c*k)=(l.take c).flatMap f
 | [],c=>by simp
 | a::l,0=>by simp
 | a::l,c+1=>by
  rw [A4,Ba,A4,<- aT8 hk l c,Cn,hk,Ae (by rw [hk,AL];omega)]
  congr 2
  rw [AL];omega
def i1 (x:Int):D8:=[iv x]
attribute [local irreducible] Still Adds AWL AW Drw bY bW AC AWR cR Frz Go.Av.Src cQ Out InK ItK AsK RdK eL eF ACT ACS dE4 ACP bY7
set_option maxHeartbeats 4000000 in
theorem eE8 (l:List Ver) (n:Nat) (hn:l.length=n) (h0:0<n) (hnn:n<=1000000) (hw:∀x∈l,oL x):ACP Tryz.prog 93 76 3 n [] (vrc l) [] (vrc (cpA l n)) (cpA l n).length:=by
 have hvl:(vrc l).length=n*3:=by rw [dE,hn]
 have hcx:∀x:Ver,[iv x.t,iv x.c,iv x.s]=x.vl.map CV.v:=fun _=>rfl
 by_cases n1:n=1
 ·have hc:cpA l n=l:=by rw [n1];exact aD0 aA
  rw [hc,hn]
  subst n1
  refine sR aB (sz:=61) Tryz.func93 rfl (by rw [Tryz.ntmps93];rfl) (h0) ?_
  repeat' (first|(refine aC ?_;intro K hK hX)|refine yJ ?_|(refine aE hK hX ?_;clear hK hX K)|fail)
  exact bT2
 ·refine sR aB (sz:=61) Tryz.func93 rfl (by rw [Tryz.ntmps93];rfl) (h0) ?_
  repeat' (first|(refine aC ?_;intro K hK hX)|refine yJ ?_|(refine aE hK hX ?_;clear hK hX K)|fail)
  refine bF [3,4,5] [0] rfl rfl (fun k:Nat=>[(3,.c (iv k))]) (fun k=>[(0,.row 76 (vrc l))]) (fun k=>1<=k/\k<=n/\(cpA l k).length=k/\rwA l k=l) (fun k=>n-k) 1 ⟨Ah _,by omega,bS1 aA,bX2 aA⟩ cS ?_
  rintro k ⟨hk1,hk,hkl,hkr⟩ K hK hX
  (try dsimp only at *)
  by_cases hlt:k<n
  ·obtain ⟨x,hat⟩:∃x,l[k]? = some x:=⟨_,Ab aA⟩
   obtain ⟨y,hay⟩:∃y,l[k-1]? = some y:=⟨_,Ab aA⟩
   have hx:=eN hat
   have hy:=eN hay
   have lx:=bD3 (hw x (Ad hat))
   have ly:=bD3 (hw y (Ad hay))
   by_cases heq:x=y
   ·have hbxy:(true:Bool)=true↔x=y:=⟨fun _=>heq,fun _=>rfl⟩
    obtain ⟨s1,s2⟩:=vY (l:=l) (m:=k) aA (by rw [hat,hay,heq])
    repeat' (first|(refine aC ?_;intro K hK hX)|refine dR8 ?_|(refine aE hK hX ?_;clear hK hX K)|fail)
    refine bF [3,5] [0] rfl rfl (fun m:Nat=>[(3,.c (iv (cpA l m).length)),(5,.c (iv (m-k:Nat)))]) (fun m=>[(0,.row 76 (vrc (rwA l m)))]) (fun m=>k+1<=m/\m<=n/\(cpA l m).length<m) (fun m=>n-m) (k+1) ⟨Ah _,by omega,by rw [s1,hkl];omega⟩ (by refine dF rfl ?_ ?_ rfl<;>(repeat' (first|exact cE|exact cG|refine bS rfl dW3 rfl ?_|refine aZ rfl dW3 rfl ?_|refine aZ rfl (by first|rfl|(first|exact congrArg (fun x:Nat=>AV.c (iv x)) (by rw [s1,hkl])|exact congrArg (fun x:Nat=>AV.c (iv x)) aA|exact congrArg (fun x=>AObj.row _ (vrc x)) (by rw [s2,hkr]))) cT ?_))) ?_
    rintro m ⟨hm1,hm,hml⟩ K hK hX
    (try dsimp only at *)
    clear hx hy lx ly hbxy heq hat hay s1 s2 hkl hkr
    have hrl:=aI3 (l:=l) (m:=m) aA
    have hri:(vrc (rwA l m)).length=n*3:=by rw [dE,hrl,hn]
    by_cases hlt2:m<n
    ·obtain ⟨x,hat⟩:∃x,l[m]? = some x:=⟨_,Ab aA⟩
     obtain ⟨y,hay⟩:∃y,l[m-1]? = some y:=⟨_,Ab aA⟩
     have hat2:=hat
     have hay2:=hay
     rw [<- cZ7 (m:=m) aA] at hat2 hay2
     have hx:=eN hat2
     have hy:=eN hay2
     have lx:=bD3 (hw x (Ad hat))
     have ly:=bD3 (hw y (Ad hay))
     by_cases heq2:x=y
     ·have hbxy:(true:Bool)=true↔x=y:=⟨fun _=>heq2,fun _=>rfl⟩
      obtain ⟨t1,t2⟩:=vY (l:=l) (m:=m) aA (by rw [hat,hay,heq2])
      have t3:(cpA l (m+1)).length<m+1:=by rw [t1];omega
      repeat' (first|(refine aC ?_;intro K hK hX)|refine aY [0,2,3,4,5] ?_|((first|((with_reducible refine bL ?_);refine xA ?_)|((with_reducible refine cO ?_);refine xD ?_));(first|((with_reducible refine bQ ?_);(first|refine aJ (aJ2 aO (m:=3) rfl aO aO aO aO aO rfl rfl (hcx x) (hcx y) lx ly (dD2 hbxy)) ?_))|((with_reducible refine gH ?_);(first|refine aJ (iE aB rfl rfl rfl rfl rB zln) ?_|refine aJ (iD aB rfl rfl rfl rB zln) ?_))|((with_reducible refine iZ ?_);(first|refine aJ (s_slArri aB rfl rfl rfl rfl zbd zbd zle zle aN rB zln) ?_))))|refine stA ?_|refine stD ?_|(refine aE hK hX ?_;clear hK hX K)|fail)
      exact ⟨m+1,⟨by omega,by omega,by omega⟩,by omega,(by refine dF rfl ?_ ?_ rfl<;>(repeat' (first|exact cE|exact cG|refine bS rfl dW0 rfl ?_|refine aZ rfl dW0 rfl ?_|refine aZ rfl (by first|rfl|(first|rfl|exact congrArg (fun x:Nat=>AV.c (iv x)) (by rw [t1])|exact congrArg (fun x:Nat=>AV.c (iv x)) aA|exact congrArg (fun x:Int=>AV.c (iv x)) aA|exact congrArg (fun x=>AObj.row _ (vrc x)) t2.symm)) cT ?_)))⟩
     ·have hbxy:(false:Bool)=true↔x=y:=⟨fun h=>dS,fun h=>absurd h heq2⟩
      obtain ⟨t1,t2⟩:=aI2 (l:=l) (m:=m) hat (fun h=>heq2 bS4)
      obtain ⟨c,hc⟩:∃c,(cpA l m).length=c:=⟨_,rfl⟩
      rw [hc] at t1 t2 hml ⊢
      have hset:lay (vrc (rwA l m)) (0+c*3) [iv x.t,iv x.c,iv x.s]=vrc (rwA l (m+1)):=by
       rw [Ap,t2]
       exact nL (f:=(fun v:Ver=>[iv v.t,iv v.c,iv v.s])) (k:=3) (fun _=>rfl) x aA
      repeat' (first|(refine aC ?_;intro K hK hX)|refine aY [0,2,3,4,5] ?_|((first|((with_reducible refine bL ?_);refine xA ?_)|((with_reducible refine cO ?_);refine xD ?_));(first|((with_reducible refine bQ ?_);(first|refine aJ (aJ2 aO (m:=3) rfl aO aO aO aO aO rfl rfl (hcx x) (hcx y) lx ly (dD2 hbxy)) ?_))|((with_reducible refine gH ?_);(first|refine aJ (iE aB rfl rfl rfl rfl rB zln) ?_|refine aJ (iD aB rfl rfl rfl rB zln) ?_))|((with_reducible refine iZ ?_);(first|refine aJ (s_slArri aB rfl rfl rfl rfl zbd zbd zle zle aN rB zln) ?_))))|((with_reducible refine fT ?_);(refine eO aB aG rfl rfl rfl rfl rfl rfl aM4 ?_))|refine stA ?_|refine stD ?_|(refine aE hK hX ?_;clear hK hX K)|fail)
      exact ⟨m+1,⟨by omega,by omega,by omega⟩,by omega,eN6⟩
    ·have hmn:m=n:=by omega
     rw [hmn] at hri hml ⊢
     have htk:=bG2 (l:=l) (m:=n)
     have hfm:(vrc (rwA l n)).take ((cpA l n).length*3)=vrc ((rwA l n).take (cpA l n).length):=aT8 (f:=(fun v:Ver=>[iv v.t,iv v.c,iv v.s])) (k:=3) (fun _=>rfl) (rwA l n) (cpA l n).length
     rw [htk] at hfm
     repeat' (first|(refine aC ?_;intro K hK hX)|refine aY [0,2,3,4,5] ?_|((with_reducible refine uE ?_);refine aB4 aB aG rfl rfl rfl (size:=3) rfl rfl rfl rfl rfl aA aA ?_)|refine stA ?_|refine stD ?_|(refine aE hK hX ?_;clear hK hX K)|fail)
     exact eA1
   ·have hbxy:(false:Bool)=true↔x=y:=⟨fun h=>dS,fun h=>absurd h heq⟩
    obtain ⟨s1,s2⟩:=aI1 (l:=l) (m:=k) hat hkl (fun h=>heq bS4) hkr
    clear hkl hkr
    repeat' (first|(refine aC ?_;intro K hK hX)|refine dR8 ?_|(refine aE hK hX ?_;clear hK hX K)|fail)
    exact ⟨k+1,⟨by omega,by omega,s1,s2⟩,by omega,dH0⟩
  ·have hkn:k=n:=by omega
   rw [hkn] at hkl hkr
   have hcl:=yM hn hkl hkr
   clear hkl hkr
   repeat' (first|(refine aC ?_;intro K hK hX)|refine yJ ?_|(refine aE hK hX ?_;clear hK hX K)|fail)
   rw [hcl,hn]
   exact bT2
end Go.Proofs.YtbgehdndimlgkaaGreat
