/- Lemmas for laws of the ledger. -/
import Derived.Test.YtbgehdndimlgkaaGreatV40
set_option linter.all false
namespace Go.Proofs.YtbgehdndimlgkaaGreat
open Go Go.RowKit Go.Av
set_option maxRecDepth 100000
theorem kG {l r:Dp} {i j k:Nat} (h:(l.drop i).take k=r) (e:j=i):(l.drop j).take k=r:=e▸h
theorem nB {α:Type} {l:List α} {i j:Nat} {x:α} (h:l[i]? = some x) (e:j=i):l[j]? = some x:=e▸h
theorem aB2 {α:Type} {f:α->Dp} {k:Nat} (hk:∀a,(f a).length=k):∀(l:List α) (c:Nat),(l.flatMap f).take (c*k)=(l.take c).flatMap f
 | [],c=>by simp
 | a::l,0=>by simp
 | a::l,c+1=>by
  rw [Aw,B2,Aw,<- aB2 hk l c,CK,hk,Ah (by rw [hk,A9];omega)]
  congr 2
  rw [A9];omega
def i1 (x:Int):Dp:=[iv x]
theorem cW8 (l:List Int):cH .i64 l=l.flatMap i1:=by
 induction l with
 | nil=>rfl
 | cons x l ih=>rw [Aw,<- ih];rfl
theorem aI3 {l:List Int} {i:Nat} {x:Int} (h:l[i]? = some x):(cH .i64 l)[i]? = some (iv x):=by simp [cH,h]
theorem dC2 (l:List Int) (p:Nat) (x:Int):cH .i64 (l.set p x)=(cH .i64 l).set p (iv x):=by simp [cH,List.map_set]
theorem bT4 (l:List Int):(cH .i64 l).length=l.length*1:=by simp [cH]
attribute [local irreducible] Still Adds AWL AW Drw bN bP AC AWR cM Frz Go.Av.Src dB Out InK ItK AsK RdK eA dZ ACT ACS cD1 ACP bC4
set_option maxHeartbeats 4000000 in
theorem dA1 (l:List Ver) (n:Nat) (hn:l.length=n) (h0:0<n) (hnn:n<=1000000) (hw:∀x∈l,cM1 x):ACP Tryz.prog 93 76 3 n [] (vrc l) [] (vrc (cpA l n)) (cpA l n).length:=by
 have hvl:(vrc l).length=n*3:=by rw [dW,hn]
 have hcx:∀x:Ver,[iv x.t,iv x.c,iv x.s]=x.vl.map CV.v:=fun _=>rfl
 by_cases n1:n=1
 ·have hc:cpA l n=l:=by rw [n1];exact vF aA
  rw [hc,hn]
  subst n1
  refine oS aB (sz:=61) Tryz.func93 rfl (by rw [Tryz.ntmps93];rfl) (h0) ?_
  repeat' (first|(refine aC ?_;intro K hK hX)|refine sW ?_|(refine aH hK hX ?_;clear hK hX K)|fail)
  exact aX2
 ·refine oS aB (sz:=61) Tryz.func93 rfl (by rw [Tryz.ntmps93];rfl) (h0) ?_
  repeat' (first|(refine aC ?_;intro K hK hX)|refine sW ?_|(refine aH hK hX ?_;clear hK hX K)|fail)
  refine cA [3,4,5] [0] rfl rfl (fun k:Nat=>[(3,.c (iv k))]) (fun k=>[(0,.row 76 (vrc l))]) (fun k=>1<=k/\k<=n/\(cpA l k).length=k/\rwA l k=l) (fun k=>n-k) 1 ⟨Ae _,by omega,aV3 aA,bA7 aA⟩ gV ?_
  rintro k ⟨hk1,hk,hkl,hkr⟩ K hK hX
  (try dsimp only at *)
  by_cases hlt:k<n
  ·obtain ⟨x,hat⟩:∃x,l[k]? = some x:=⟨_,Ab aA⟩
   obtain ⟨y,hay⟩:∃y,l[k-1]? = some y:=⟨_,Ab aA⟩
   have hx:=iX hat
   have hy:=iX hay
   have lx:=cL3 (hw x (Ag hat))
   have ly:=cL3 (hw y (Ag hay))
   by_cases heq:x=y
   ·have hbxy:(true:Bool)=true↔x=y:=⟨fun _=>heq,fun _=>rfl⟩
    obtain ⟨s1,s2⟩:=rL (l:=l) (m:=k) aA (by rw [hat,hay,heq])
    repeat' (first|(refine aC ?_;intro K hK hX)|refine dH8 ?_|(refine aH hK hX ?_;clear hK hX K)|fail)
    refine cA [3,5] [0] rfl rfl (fun m:Nat=>[(3,.c (iv (cpA l m).length)),(5,.c (iv (m-k:Nat)))]) (fun m=>[(0,.row 76 (vrc (rwA l m)))]) (fun m=>k+1<=m/\m<=n/\(cpA l m).length<m) (fun m=>n-m) (k+1) ⟨Ae _,by omega,by rw [s1,hkl];omega⟩ (by refine cZ rfl ?_ ?_ rfl<;>(repeat' (first|exact cB|exact cC|refine bQ rfl cT8 rfl ?_|refine aQ rfl cT8 rfl ?_|refine aQ rfl (by first|rfl|(first|exact congrArg (fun x:Nat=>AV.c (iv x)) (by rw [s1,hkl])|exact congrArg (fun x:Nat=>AV.c (iv x)) aA|exact congrArg (fun x=>AObj.row _ (vrc x)) (by rw [s2,hkr]))) cD ?_))) ?_
    rintro m ⟨hm1,hm,hml⟩ K hK hX
    (try dsimp only at *)
    clear hx hy lx ly hbxy heq hat hay s1 s2 hkl hkr
    have hrl:=xB (l:=l) (m:=m) aA
    have hri:(vrc (rwA l m)).length=n*3:=by rw [dW,hrl,hn]
    by_cases hlt2:m<n
    ·obtain ⟨x,hat⟩:∃x,l[m]? = some x:=⟨_,Ab aA⟩
     obtain ⟨y,hay⟩:∃y,l[m-1]? = some y:=⟨_,Ab aA⟩
     have hat2:=hat
     have hay2:=hay
     rw [<- bY3 (m:=m) aA] at hat2 hay2
     have hx:=iX hat2
     have hy:=iX hay2
     have lx:=cL3 (hw x (Ag hat))
     have ly:=cL3 (hw y (Ag hay))
     by_cases heq2:x=y
     ·have hbxy:(true:Bool)=true↔x=y:=⟨fun _=>heq2,fun _=>rfl⟩
      obtain ⟨t1,t2⟩:=rL (l:=l) (m:=m) aA (by rw [hat,hay,heq2])
      have t3:(cpA l (m+1)).length<m+1:=by rw [t1];omega
      repeat' (first|(refine aC ?_;intro K hK hX)|refine bS [0,2,3,4,5] ?_|((first|((with_reducible refine cG ?_);refine xA ?_)|((with_reducible refine eD ?_);refine xD ?_));(first|((with_reducible refine bU ?_);(first|refine aG (bZ4 aT (m:=3) rfl aT aT aT aT aT rfl rfl (hcx x) (hcx y) lx ly (dG8 hbxy)) ?_))|((with_reducible refine gJ ?_);(first|refine aG (iF aB rfl rfl rfl rfl yJ zln) ?_|refine aG (iE aB rfl rfl rfl yJ zln) ?_))|((with_reducible refine iR ?_);(first|refine aG (s_slArri aB rfl rfl rfl rfl zbd zbd zle zle aN yJ zln) ?_))))|refine stA ?_|refine stD ?_|(refine aH hK hX ?_;clear hK hX K)|fail)
      exact ⟨m+1,⟨by omega,by omega,by omega⟩,by omega,(by refine cZ rfl ?_ ?_ rfl<;>(repeat' (first|exact cB|exact cC|refine bQ rfl cT4 rfl ?_|refine aQ rfl cT4 rfl ?_|refine aQ rfl (by first|rfl|(first|rfl|exact congrArg (fun x:Nat=>AV.c (iv x)) (by rw [t1])|exact congrArg (fun x:Nat=>AV.c (iv x)) aA|exact congrArg (fun x:Int=>AV.c (iv x)) aA|exact congrArg (fun x=>AObj.row _ (vrc x)) t2.symm)) cD ?_)))⟩
     ·have hbxy:(false:Bool)=true↔x=y:=⟨fun h=>kB,fun h=>absurd h heq2⟩
      obtain ⟨t1,t2⟩:=wZ (l:=l) (m:=m) hat (fun h=>heq2 aV8)
      obtain ⟨c,hc⟩:∃c,(cpA l m).length=c:=⟨_,rfl⟩
      rw [hc] at t1 t2 hml ⊢
      have hset:lay (vrc (rwA l m)) (0+c*3) [iv x.t,iv x.c,iv x.s]=vrc (rwA l (m+1)):=by
       rw [Al,t2]
       exact aH9 (f:=(fun v:Ver=>[iv v.t,iv v.c,iv v.s])) (k:=3) (fun _=>rfl) x aA
      repeat' (first|(refine aC ?_;intro K hK hX)|refine bS [0,2,3,4,5] ?_|((first|((with_reducible refine cG ?_);refine xA ?_)|((with_reducible refine eD ?_);refine xD ?_));(first|((with_reducible refine bU ?_);(first|refine aG (bZ4 aT (m:=3) rfl aT aT aT aT aT rfl rfl (hcx x) (hcx y) lx ly (dG8 hbxy)) ?_))|((with_reducible refine gJ ?_);(first|refine aG (iF aB rfl rfl rfl rfl yJ zln) ?_|refine aG (iE aB rfl rfl rfl yJ zln) ?_))|((with_reducible refine iR ?_);(first|refine aG (s_slArri aB rfl rfl rfl rfl zbd zbd zle zle aN yJ zln) ?_))))|((with_reducible refine jH ?_);(refine fG aB aE rfl rfl rfl rfl rfl rfl aG3 ?_))|refine stA ?_|refine stD ?_|(refine aH hK hX ?_;clear hK hX K)|fail)
      exact ⟨m+1,⟨by omega,by omega,by omega⟩,by omega,dH9⟩
    ·have hmn:m=n:=by omega
     rw [hmn] at hri hml ⊢
     have htk:=aK3 (l:=l) (m:=n)
     have hfm:(vrc (rwA l n)).take ((cpA l n).length*3)=vrc ((rwA l n).take (cpA l n).length):=aB2 (f:=(fun v:Ver=>[iv v.t,iv v.c,iv v.s])) (k:=3) (fun _=>rfl) (rwA l n) (cpA l n).length
     rw [htk] at hfm
     repeat' (first|(refine aC ?_;intro K hK hX)|refine bS [0,2,3,4,5] ?_|((with_reducible refine sL ?_);refine uV aB aE rfl rfl rfl (size:=3) rfl rfl rfl rfl rfl aA aA ?_)|refine stA ?_|refine stD ?_|(refine aH hK hX ?_;clear hK hX K)|fail)
     exact cV9
   ·have hbxy:(false:Bool)=true↔x=y:=⟨fun h=>kB,fun h=>absurd h heq⟩
    obtain ⟨s1,s2⟩:=wY (l:=l) (m:=k) hat hkl (fun h=>heq aV8) hkr
    clear hkl hkr
    repeat' (first|(refine aC ?_;intro K hK hX)|refine dH8 ?_|(refine aH hK hX ?_;clear hK hX K)|fail)
    exact ⟨k+1,⟨by omega,by omega,s1,s2⟩,by omega,dI1⟩
  ·have hkn:k=n:=by omega
   rw [hkn] at hkl hkr
   have hcl:=sY hn hkl hkr
   clear hkl hkr
   repeat' (first|(refine aC ?_;intro K hK hX)|refine sW ?_|(refine aH hK hX ?_;clear hK hX K)|fail)
   rw [hcl,hn]
   exact aX2
end Go.Proofs.YtbgehdndimlgkaaGreat
