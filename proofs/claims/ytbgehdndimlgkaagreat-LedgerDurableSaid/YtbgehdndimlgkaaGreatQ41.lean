/-
  Lemmas for laws of the ledger; no statement of a law.
-/
import Derived.Test.YtbgehdndimlgkaaGreatQ40
set_option linter.unusedSimpArgs false
set_option linter.unusedVariables false
namespace Go.Proofs.YtbgehdndimlgkaaGreat
open Go Go.RowKit Go.Av
set_option maxRecDepth 100000
theorem lA {l r:List CV} {i j k:Nat} (h:(l.drop i).take k=r) (e:j=i):(l.drop j).take k=r:=e▸h
theorem bH1 {α:Type} {f:α→List CV} {k:Nat} (hk:∀a,(f a).length=k):∀(l:List α) (c:Nat),(l.flatMap f).take (c*k)=(l.take c).flatMap f
 | [],c=>by simp
 | a::l,0=>by simp
 | a::l,c+1=>by
  rw [List.flatMap_cons,List.take_succ_cons,List.flatMap_cons,← bH1 hk l c,List.take_append,hk,List.take_of_length_le (by rw [hk,Nat.add_mul];omega)]
  congr 2
  rw [Nat.add_mul];omega
def i1 (x:Int):List CV:=[iv x]
attribute [local irreducible] Still Adds AWL AW Drw bT bW AC AWR cL Frz Go.Av.Src dC Out InK ItK AsK RdK eI eE ACT ACS dW7 ACP cQ3
set_option maxHeartbeats 4000000 in
theorem dO6 (l:List Ver) (n:Nat) (hn:l.length=n) (h0:0<n) (hnn:n≤1000000) (hw:∀x∈l,bP7 x):ACP Tryz.prog 93 76 3 n [] (vrc l) [] (vrc (cpA l n)) (cpA l n).length:=by
 have hvl:(vrc l).length=n*3:=by rw [eA,hn]
 have hcx:∀x:Ver,[iv x.t,iv x.c,iv x.s]=x.vl.map CV.v:=fun _=>rfl
 by_cases n1:n=1
 ·have hc:cpA l n=l:=by rw [n1];exact aX1 aA
  rw [hc,hn]
  subst n1
  refine aB5 aB (sz:=61) Tryz.func93 rfl (by rw [Tryz.ntmps93];rfl) (h0) ?_
  repeat' (first|(refine aC ?_;intro K hK hX)|refine bE4 ?_|(refine aH hK hX ?_;clear hK hX K)|fail)
  exact dK5
 ·refine aB5 aB (sz:=61) Tryz.func93 rfl (by rw [Tryz.ntmps93];rfl) (h0) ?_
  repeat' (first|(refine aC ?_;intro K hK hX)|refine bE4 ?_|(refine aH hK hX ?_;clear hK hX K)|fail)
  refine cN [3,4,5] [0] rfl rfl (fun k:Nat=>[(3,.c (iv k))]) (fun k=>[(0,.row 76 (vrc l))]) (fun k=>1≤k∧k≤n∧(cpA l k).length=k∧rwA l k=l) (fun k=>n-k) 1 ⟨Nat.le_refl _,by omega,cS4 aA,dB4 aA⟩ iR ?_
  rintro k ⟨hk1,hk,hkl,hkr⟩ K hK hX
  (try dsimp only at *)
  by_cases hlt:k<n
  ·obtain ⟨x,hat⟩:∃x,l[k]? = some x:=⟨_,List.getElem?_eq_getElem aA⟩
   obtain ⟨y,hay⟩:∃y,l[k-1]? = some y:=⟨_,List.getElem?_eq_getElem aA⟩
   have hx:=iP hat
   have hy:=iP hay
   have lx:=cG7 (hw x (List.mem_of_getElem? hat))
   have ly:=cG7 (hw y (List.mem_of_getElem? hay))
   by_cases heq:x=y
   ·have hbxy:(true:Bool)=true↔x=y:=⟨fun _=>heq,fun _=>rfl⟩
    obtain ⟨s1,s2⟩:=aS9 (l:=l) (m:=k) aA (by rw [hat,hay,heq])
    repeat' (first|(refine aC ?_;intro K hK hX)|refine dD2 ?_|(refine aH hK hX ?_;clear hK hX K)|fail)
    refine cN [3,5] [0] rfl rfl (fun m:Nat=>[(3,.c (iv (cpA l m).length)),(5,.c (iv (m-k:Nat)))]) (fun m=>[(0,.row 76 (vrc (rwA l m)))]) (fun m=>k+1≤m∧m≤n∧(cpA l m).length<m) (fun m=>n-m) (k+1) ⟨Nat.le_refl _,by omega,by rw [s1,hkl];omega⟩ (by refine fB rfl ?_ ?_ rfl<;>(repeat' (first|exact dH|exact dI|refine cU rfl dH1 rfl ?_|refine bR rfl dH1 rfl ?_|refine bR rfl (by first|rfl|(first|exact congrArg (fun x:Nat=>AV.c (iv x)) (by rw [s1,hkl])|exact congrArg (fun x:Nat=>AV.c (iv x)) aA|exact congrArg (fun x=>AObj.row _ (vrc x)) (by rw [s2,hkr]))) dZ ?_))) ?_
    rintro m ⟨hm1,hm,hml⟩ K hK hX
    (try dsimp only at *)
    clear hx hy lx ly hbxy heq hat hay s1 s2 hkl hkr
    have hrl:=bA8 (l:=l) (m:=m) aA
    have hri:(vrc (rwA l m)).length=n*3:=by rw [eA,hrl,hn]
    by_cases hlt2:m<n
    ·obtain ⟨x,hat⟩:∃x,l[m]? = some x:=⟨_,List.getElem?_eq_getElem aA⟩
     obtain ⟨y,hay⟩:∃y,l[m-1]? = some y:=⟨_,List.getElem?_eq_getElem aA⟩
     have hat2:=hat
     have hay2:=hay
     rw [← dU1 (m:=m) aA] at hat2 hay2
     have hx:=iP hat2
     have hy:=iP hay2
     have lx:=cG7 (hw x (List.mem_of_getElem? hat))
     have ly:=cG7 (hw y (List.mem_of_getElem? hay))
     by_cases heq2:x=y
     ·have hbxy:(true:Bool)=true↔x=y:=⟨fun _=>heq2,fun _=>rfl⟩
      obtain ⟨t1,t2⟩:=aS9 (l:=l) (m:=m) aA (by rw [hat,hay,heq2])
      have t3:(cpA l (m+1)).length<m+1:=by rw [t1];omega
      repeat' (first|(refine aC ?_;intro K hK hX)|refine bU [0,2,3,4,5] ?_|((first|((with_reducible refine bP ?_);refine xA ?_)|((with_reducible refine dX ?_);refine xD ?_));(first|((with_reducible refine bS ?_);(first|refine aJ (bB4 aW (m:=3) rfl aW aW aW aW aW rfl rfl (hcx x) (hcx y) lx ly (dW5 hbxy)) ?_))|((with_reducible refine fU ?_);(first|refine aJ (iZ aB rfl rfl rfl rfl aC4 zln) ?_|refine aJ (iY aB rfl rfl rfl aC4 zln) ?_))|((with_reducible refine jO ?_);(first|refine aJ (s_slArri aB rfl rfl rfl rfl zbd zbd zle zle aN aC4 zln) ?_))))|refine stA ?_|refine stD ?_|(refine aH hK hX ?_;clear hK hX K)|fail)
      exact ⟨m+1,⟨by omega,by omega,by omega⟩,by omega,(by refine fB rfl ?_ ?_ rfl<;>(repeat' (first|exact dH|exact dI|refine cU rfl dG9 rfl ?_|refine bR rfl dG9 rfl ?_|refine bR rfl (by first|rfl|(first|rfl|exact congrArg (fun x:Nat=>AV.c (iv x)) (by rw [t1])|exact congrArg (fun x:Nat=>AV.c (iv x)) aA|exact congrArg (fun x:Int=>AV.c (iv x)) aA|exact congrArg (fun x=>AObj.row _ (vrc x)) t2.symm)) dZ ?_)))⟩
     ·have hbxy:(false:Bool)=true↔x=y:=⟨fun h=>iM,fun h=>absurd h heq2⟩
      obtain ⟨t1,t2⟩:=aS8 (l:=l) (m:=m) hat (fun h=>heq2 (by have:=h.2;rw [hat,hay] at this;injection this))
      obtain ⟨c,hc⟩:∃c,(cpA l m).length=c:=⟨_,rfl⟩
      rw [hc] at t1 t2 hml ⊢
      have hset:lay (vrc (rwA l m)) (0+c*3) [iv x.t,iv x.c,iv x.s]=vrc (rwA l (m+1)):=by
       rw [Nat.zero_add,t2]
       exact aP6 (f:=(fun v:Ver=>[iv v.t,iv v.c,iv v.s])) (k:=3) (fun _=>rfl) x aA
      repeat' (first|(refine aC ?_;intro K hK hX)|refine bU [0,2,3,4,5] ?_|((first|((with_reducible refine bP ?_);refine xA ?_)|((with_reducible refine dX ?_);refine xD ?_));(first|((with_reducible refine bS ?_);(first|refine aJ (bB4 aW (m:=3) rfl aW aW aW aW aW rfl rfl (hcx x) (hcx y) lx ly (dW5 hbxy)) ?_))|((with_reducible refine fU ?_);(first|refine aJ (iZ aB rfl rfl rfl rfl aC4 zln) ?_|refine aJ (iY aB rfl rfl rfl aC4 zln) ?_))|((with_reducible refine jO ?_);(first|refine aJ (s_slArri aB rfl rfl rfl rfl zbd zbd zle zle aN aC4 zln) ?_))))|((with_reducible refine gQ ?_);(refine eM aB aE rfl rfl rfl rfl rfl rfl aN6 ?_))|refine stA ?_|refine stD ?_|(refine aH hK hX ?_;clear hK hX K)|fail)
      exact ⟨m+1,⟨by omega,by omega,by omega⟩,by omega,(by refine fB rfl ?_ ?_ rfl<;>(repeat' (first|exact dH|exact dI|refine cU rfl dH2 rfl ?_|refine bR rfl dH2 rfl ?_|refine bR rfl (by first|rfl|(first|rfl|exact congrArg (fun x:Nat=>AV.c (iv x)) aA|exact congrArg (fun x:Int=>AV.c (iv x)) aA|exact congrArg (AObj.row _) hset)) dZ ?_)))⟩
    ·have hmn:m=n:=by omega
     rw [hmn] at hri hml ⊢
     have htk:=cL7 (l:=l) (m:=n)
     have hfm:(vrc (rwA l n)).take ((cpA l n).length*3)=vrc ((rwA l n).take (cpA l n).length):=bH1 (f:=(fun v:Ver=>[iv v.t,iv v.c,iv v.s])) (k:=3) (fun _=>rfl) (rwA l n) (cpA l n).length
     rw [htk] at hfm
     repeat' (first|(refine aC ?_;intro K hK hX)|refine bU [0,2,3,4,5] ?_|((with_reducible refine uT ?_);refine aW4 aB aE rfl rfl rfl (size:=3) rfl rfl rfl rfl rfl aA aA ?_)|refine stA ?_|refine stD ?_|(refine aH hK hX ?_;clear hK hX K)|fail)
     refine bJ9 zio ztr rfl rfl rfl rfl (by rw [Nat.zero_add,List.take_take,Nat.min_self,hfm]) (ResL.one (ResA.tmp rfl))
   ·have hbxy:(false:Bool)=true↔x=y:=⟨fun h=>iM,fun h=>absurd h heq⟩
    obtain ⟨s1,s2⟩:=aS7 (l:=l) (m:=k) hat hkl (fun h=>heq (by have:=h.2;rw [hat,hay] at this;injection this)) hkr
    clear hkl hkr
    repeat' (first|(refine aC ?_;intro K hK hX)|refine dD2 ?_|(refine aH hK hX ?_;clear hK hX K)|fail)
    exact ⟨k+1,⟨by omega,by omega,s1,s2⟩,by omega,(by refine fB rfl ?_ ?_ rfl<;>(repeat' (first|exact dH|exact dI|refine cU rfl dH9 rfl ?_|refine bR rfl dH9 rfl ?_|refine bR rfl (by first|rfl|(first|rfl|exact congrArg (fun x:Int=>AV.c (iv x)) aA)) dZ ?_)))⟩
  ·have hkn:k=n:=by omega
   rw [hkn] at hkl hkr
   have hcl:=aN4 hn hkl hkr
   clear hkl hkr
   repeat' (first|(refine aC ?_;intro K hK hX)|refine bE4 ?_|(refine aH hK hX ?_;clear hK hX K)|fail)
   rw [hcl,hn]
   exact dK5
end Go.Proofs.YtbgehdndimlgkaaGreat
