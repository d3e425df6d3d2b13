/- Lemmas for laws of the ledger. -/
import Derived.Test.YtbgehdndimlgkaaGreatS40
set_option linter.all false
namespace Go.Proofs.YtbgehdndimlgkaaGreat
open Go Go.RowKit Go.Av
set_option maxRecDepth 100000
theorem lN {l r:D1} {i j k:Nat} (h:(l.drop i).take k=r) (e:j=i):(l.drop j).take k=r:=e▸h
theorem bO1 {α:Type} {f:α->D1} {k:Nat} (hk:∀a,(f a).length=k):∀(l:List α) (c:Nat),(l.flatMap f).take (c*k)=(l.take c).flatMap f
 | [],c=>by simp
 | a::l,0=>by simp
 | a::l,c+1=>by
  rw [A5,BH,A5,<- bO1 hk l c,Da,hk,Ad (by rw [hk,AM];omega)]
  congr 2
  rw [AM];omega
def i1 (x:Int):D1:=[iv x]
attribute [local irreducible] Still Adds AWL AW Drw bX bY AC AWR cU Frz Go.Av.Src cQ Out InK ItK AsK RdK eP eI ACT ACS eE6 ACP cX0
set_option maxHeartbeats 4000000 in
theorem dW5 (l:List Ver) (n:Nat) (hn:l.length=n) (h0:0<n) (hnn:n<=1000000) (hw:∀x∈l,oG x):ACP Tryz.prog 93 76 3 n [] (vrc l) [] (vrc (cpA l n)) (cpA l n).length:=by
 have hvl:(vrc l).length=n*3:=by rw [dC,hn]
 have hcx:∀x:Ver,[iv x.t,iv x.c,iv x.s]=x.vl.map CV.v:=fun _=>rfl
 by_cases n1:n=1
 ·have hc:cpA l n=l:=by rw [n1];exact bE3 aA
  rw [hc,hn]
  subst n1
  refine aG8 aB (sz:=61) Tryz.func93 rfl (by rw [Tryz.ntmps93];rfl) (h0) ?_
  repeat' (first|(refine aC ?_;intro K hK hX)|refine aM5 ?_|(refine aG hK hX ?_;clear hK hX K)|fail)
  exact dS1
 ·refine aG8 aB (sz:=61) Tryz.func93 rfl (by rw [Tryz.ntmps93];rfl) (h0) ?_
  repeat' (first|(refine aC ?_;intro K hK hX)|refine aM5 ?_|(refine aG hK hX ?_;clear hK hX K)|fail)
  refine bH [3,4,5] [0] rfl rfl (fun k:Nat=>[(3,.c (iv k))]) (fun k=>[(0,.row 76 (vrc l))]) (fun k=>1<=k/\k<=n/\(cpA l k).length=k/\rwA l k=l) (fun k=>n-k) 1 ⟨Ah _,by omega,cZ0 aA,dI2 aA⟩ dF ?_
  rintro k ⟨hk1,hk,hkl,hkr⟩ K hK hX
  (try dsimp only at *)
  by_cases hlt:k<n
  ·obtain ⟨x,hat⟩:∃x,l[k]? = some x:=⟨_,Ab aA⟩
   obtain ⟨y,hay⟩:∃y,l[k-1]? = some y:=⟨_,Ab aA⟩
   have hx:=eG hat
   have hy:=eG hay
   have lx:=aX2 (hw x (Af hat))
   have ly:=aX2 (hw y (Af hay))
   by_cases heq:x=y
   ·have hbxy:(true:Bool)=true↔x=y:=⟨fun _=>heq,fun _=>rfl⟩
    obtain ⟨s1,s2⟩:=aZ9 (l:=l) (m:=k) aA (by rw [hat,hay,heq])
    repeat' (first|(refine aC ?_;intro K hK hX)|refine dK2 ?_|(refine aG hK hX ?_;clear hK hX K)|fail)
    refine bH [3,5] [0] rfl rfl (fun m:Nat=>[(3,.c (iv (cpA l m).length)),(5,.c (iv (m-k:Nat)))]) (fun m=>[(0,.row 76 (vrc (rwA l m)))]) (fun m=>k+1<=m/\m<=n/\(cpA l m).length<m) (fun m=>n-m) (k+1) ⟨Ah _,by omega,by rw [s1,hkl];omega⟩ (by refine dW rfl ?_ ?_ rfl<;>(repeat' (first|exact cO|exact cP|refine cG rfl dO9 rfl ?_|refine bD rfl dO9 rfl ?_|refine bD rfl (by first|rfl|(first|exact congrArg (fun x:Nat=>AV.c (iv x)) (by rw [s1,hkl])|exact congrArg (fun x:Nat=>AV.c (iv x)) aA|exact congrArg (fun x=>AObj.row _ (vrc x)) (by rw [s2,hkr]))) dO ?_))) ?_
    rintro m ⟨hm1,hm,hml⟩ K hK hX
    (try dsimp only at *)
    clear hx hy lx ly hbxy heq hat hay s1 s2 hkl hkr
    have hrl:=bI0 (l:=l) (m:=m) aA
    have hri:(vrc (rwA l m)).length=n*3:=by rw [dC,hrl,hn]
    by_cases hlt2:m<n
    ·obtain ⟨x,hat⟩:∃x,l[m]? = some x:=⟨_,Ab aA⟩
     obtain ⟨y,hay⟩:∃y,l[m-1]? = some y:=⟨_,Ab aA⟩
     have hat2:=hat
     have hay2:=hay
     rw [<- eC1 (m:=m) aA] at hat2 hay2
     have hx:=eG hat2
     have hy:=eG hay2
     have lx:=aX2 (hw x (Af hat))
     have ly:=aX2 (hw y (Af hay))
     by_cases heq2:x=y
     ·have hbxy:(true:Bool)=true↔x=y:=⟨fun _=>heq2,fun _=>rfl⟩
      obtain ⟨t1,t2⟩:=aZ9 (l:=l) (m:=m) aA (by rw [hat,hay,heq2])
      have t3:(cpA l (m+1)).length<m+1:=by rw [t1];omega
      repeat' (first|(refine aC ?_;intro K hK hX)|refine bE [0,2,3,4,5] ?_|((first|((with_reducible refine bP ?_);refine xA ?_)|((with_reducible refine cZ ?_);refine xD ?_));(first|((with_reducible refine bU ?_);(first|refine aL (bI6 aV (m:=3) rfl aV aV aV aV aV rfl rfl (hcx x) (hcx y) lx ly (cV8 hbxy)) ?_))|((with_reducible refine gO ?_);(first|refine aL (jL aB rfl rfl rfl rfl aH6 zln) ?_|refine aL (jK aB rfl rfl rfl aH6 zln) ?_))|((with_reducible refine jW ?_);(first|refine aL (s_slArri aB rfl rfl rfl rfl zbd zbd zle zle aN aH6 zln) ?_))))|refine stA ?_|refine stD ?_|(refine aG hK hX ?_;clear hK hX K)|fail)
      exact ⟨m+1,⟨by omega,by omega,by omega⟩,by omega,(by refine dW rfl ?_ ?_ rfl<;>(repeat' (first|exact cO|exact cP|refine cG rfl dO7 rfl ?_|refine bD rfl dO7 rfl ?_|refine bD rfl (by first|rfl|(first|rfl|exact congrArg (fun x:Nat=>AV.c (iv x)) (by rw [t1])|exact congrArg (fun x:Nat=>AV.c (iv x)) aA|exact congrArg (fun x:Int=>AV.c (iv x)) aA|exact congrArg (fun x=>AObj.row _ (vrc x)) t2.symm)) dO ?_)))⟩
     ·have hbxy:(false:Bool)=true↔x=y:=⟨fun h=>eS,fun h=>absurd h heq2⟩
      obtain ⟨t1,t2⟩:=aZ8 (l:=l) (m:=m) hat (fun h=>heq2 (by have:=h.2;rw [hat,hay] at this;injection this))
      obtain ⟨c,hc⟩:∃c,(cpA l m).length=c:=⟨_,rfl⟩
      rw [hc] at t1 t2 hml ⊢
      have hset:lay (vrc (rwA l m)) (0+c*3) [iv x.t,iv x.c,iv x.s]=vrc (rwA l (m+1)):=by
       rw [Aq,t2]
       exact oA (f:=(fun v:Ver=>[iv v.t,iv v.c,iv v.s])) (k:=3) (fun _=>rfl) x aA
      repeat' (first|(refine aC ?_;intro K hK hX)|refine bE [0,2,3,4,5] ?_|((first|((with_reducible refine bP ?_);refine xA ?_)|((with_reducible refine cZ ?_);refine xD ?_));(first|((with_reducible refine bU ?_);(first|refine aL (bI6 aV (m:=3) rfl aV aV aV aV aV rfl rfl (hcx x) (hcx y) lx ly (cV8 hbxy)) ?_))|((with_reducible refine gO ?_);(first|refine aL (jL aB rfl rfl rfl rfl aH6 zln) ?_|refine aL (jK aB rfl rfl rfl aH6 zln) ?_))|((with_reducible refine jW ?_);(first|refine aL (s_slArri aB rfl rfl rfl rfl zbd zbd zle zle aN aH6 zln) ?_))))|((with_reducible refine fS ?_);(refine eQ aB aE rfl rfl rfl rfl rfl rfl aU0 ?_))|refine stA ?_|refine stD ?_|(refine aG hK hX ?_;clear hK hX K)|fail)
      exact ⟨m+1,⟨by omega,by omega,by omega⟩,by omega,(by refine dW rfl ?_ ?_ rfl<;>(repeat' (first|exact cO|exact cP|refine cG rfl dP0 rfl ?_|refine bD rfl dP0 rfl ?_|refine bD rfl (by first|rfl|(first|rfl|exact congrArg (fun x:Nat=>AV.c (iv x)) aA|exact congrArg (fun x:Int=>AV.c (iv x)) aA|exact congrArg (AObj.row _) hset)) dO ?_)))⟩
    ·have hmn:m=n:=by omega
     rw [hmn] at hri hml ⊢
     have htk:=cS4 (l:=l) (m:=n)
     have hfm:(vrc (rwA l n)).take ((cpA l n).length*3)=vrc ((rwA l n).take (cpA l n).length):=bO1 (f:=(fun v:Ver=>[iv v.t,iv v.c,iv v.s])) (k:=3) (fun _=>rfl) (rwA l n) (cpA l n).length
     rw [htk] at hfm
     repeat' (first|(refine aC ?_;intro K hK hX)|refine bE [0,2,3,4,5] ?_|((with_reducible refine wG ?_);refine bD7 aB aE rfl rfl rfl (size:=3) rfl rfl rfl rfl rfl aA aA ?_)|refine stA ?_|refine stD ?_|(refine aG hK hX ?_;clear hK hX K)|fail)
     refine bQ8 zio ztr rfl rfl rfl rfl (by rw [Aq,C8,Nat.min_self,hfm]) (ResL.one (ResA.tmp rfl))
   ·have hbxy:(false:Bool)=true↔x=y:=⟨fun h=>eS,fun h=>absurd h heq⟩
    obtain ⟨s1,s2⟩:=aZ7 (l:=l) (m:=k) hat hkl (fun h=>heq (by have:=h.2;rw [hat,hay] at this;injection this)) hkr
    clear hkl hkr
    repeat' (first|(refine aC ?_;intro K hK hX)|refine dK2 ?_|(refine aG hK hX ?_;clear hK hX K)|fail)
    exact ⟨k+1,⟨by omega,by omega,s1,s2⟩,by omega,dX1⟩
  ·have hkn:k=n:=by omega
   rw [hkn] at hkl hkr
   have hcl:=aT8 hn hkl hkr
   clear hkl hkr
   repeat' (first|(refine aC ?_;intro K hK hX)|refine aM5 ?_|(refine aG hK hX ?_;clear hK hX K)|fail)
   rw [hcl,hn]
   exact dS1
end Go.Proofs.YtbgehdndimlgkaaGreat
