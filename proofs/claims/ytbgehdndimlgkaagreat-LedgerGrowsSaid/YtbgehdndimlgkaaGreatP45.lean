/- Lemmas for laws of the ledger. -/
import Derived.Test.YtbgehdndimlgkaaGreatP42
import Derived.Test.YtbgehdndimlgkaaGreatP44
set_option linter.all false
set_option maxHeartbeats 16000000
namespace Go.Proofs.YtbgehdndimlgkaaGreat
open Go Go.RowKit Go.Av
set_option maxRecDepth 100000
attribute [local irreducible] Still Adds AWL AW Drw bY bW AC AWR cR Frz Go.Av.Src cQ Out InK ItK AsK RdK eL eF ACT ACS dE4 ACP bY7
theorem eE7 (l:List Src) (n:Nat) (hn:l.length=n) (h0:0<n) (hnn:n<=1000000) (hw:∀x∈l,qK x):ACP Tryz.prog 89 72 2 n [] (src l) [] (src (cpA l n)) (cpA l n).length:=by
 have hvl:(src l).length=n*2:=by rw [dI,hn]
 have hcx:∀x:Src,[iv x.t,iv x.s]=x.vl.map CV.v:=fun _=>rfl
 by_cases n1:n=1
 ·have hc:cpA l n=l:=by rw [n1];exact aD0 aA
  rw [hc,hn]
  subst n1
  refine sR aB (sz:=61) Tryz.func89 rfl (by rw [Tryz.ntmps89];rfl) (h0) ?_
  repeat' (first|(refine aC ?_;intro K hK hX)|refine yJ ?_|(refine aE hK hX ?_;clear hK hX K)|fail)
  exact bT2
 ·refine sR aB (sz:=61) Tryz.func89 rfl (by rw [Tryz.ntmps89];rfl) (h0) ?_
  repeat' (first|(refine aC ?_;intro K hK hX)|refine yJ ?_|(refine aE hK hX ?_;clear hK hX K)|fail)
  refine bF [3,4,5] [0] rfl rfl (fun k:Nat=>[(3,.c (iv k))]) (fun k=>[(0,.row 72 (src l))]) (fun k=>1<=k/\k<=n/\(cpA l k).length=k/\rwA l k=l) (fun k=>n-k) 1 ⟨Ah _,by omega,bS1 aA,bX2 aA⟩ cS ?_
  rintro k ⟨hk1,hk,hkl,hkr⟩ K hK hX
  (try dsimp only at *)
  by_cases hlt:k<n
  ·obtain ⟨x,hat⟩:∃x,l[k]? = some x:=⟨_,Ab aA⟩
   obtain ⟨y,hay⟩:∃y,l[k-1]? = some y:=⟨_,Ab aA⟩
   have hx:=eB hat
   have hy:=eB hay
   have lx:=bD2 (hw x (Ad hat))
   have ly:=bD2 (hw y (Ad hay))
   by_cases heq:x=y
   ·have hbxy:(true:Bool)=true↔x=y:=⟨fun _=>heq,fun _=>rfl⟩
    obtain ⟨s1,s2⟩:=vY (l:=l) (m:=k) aA (by rw [hat,hay,heq])
    repeat' (first|(refine aC ?_;intro K hK hX)|refine dR9 ?_|(refine aE hK hX ?_;clear hK hX K)|fail)
    refine bF [3,5] [0] rfl rfl (fun m:Nat=>[(3,.c (iv (cpA l m).length)),(5,.c (iv (m-k:Nat)))]) (fun m=>[(0,.row 72 (src (rwA l m)))]) (fun m=>k+1<=m/\m<=n/\(cpA l m).length<m) (fun m=>n-m) (k+1) ⟨Ah _,by omega,by rw [s1,hkl];omega⟩ (by refine dF rfl ?_ ?_ rfl<;>(repeat' (first|exact cE|exact cG|refine bS rfl dW4 rfl ?_|refine aZ rfl dW4 rfl ?_|refine aZ rfl (by first|rfl|(first|exact congrArg (fun x:Nat=>AV.c (iv x)) (by rw [s1,hkl])|exact congrArg (fun x:Nat=>AV.c (iv x)) aA|exact congrArg (fun x=>AObj.row _ (src x)) (by rw [s2,hkr]))) cT ?_))) ?_
    rintro m ⟨hm1,hm,hml⟩ K hK hX
    (try dsimp only at *)
    clear hx hy lx ly hbxy heq hat hay s1 s2 hkl hkr
    have hrl:=aI3 (l:=l) (m:=m) aA
    have hri:(src (rwA l m)).length=n*2:=by rw [dI,hrl,hn]
    by_cases hlt2:m<n
    ·obtain ⟨x,hat⟩:∃x,l[m]? = some x:=⟨_,Ab aA⟩
     obtain ⟨y,hay⟩:∃y,l[m-1]? = some y:=⟨_,Ab aA⟩
     have hat2:=hat
     have hay2:=hay
     rw [<- cZ7 (m:=m) aA] at hat2 hay2
     have hx:=eB hat2
     have hy:=eB hay2
     have lx:=bD2 (hw x (Ad hat))
     have ly:=bD2 (hw y (Ad hay))
     by_cases heq2:x=y
     ·have hbxy:(true:Bool)=true↔x=y:=⟨fun _=>heq2,fun _=>rfl⟩
      obtain ⟨t1,t2⟩:=vY (l:=l) (m:=m) aA (by rw [hat,hay,heq2])
      have t3:(cpA l (m+1)).length<m+1:=by rw [t1];omega
      repeat' (first|(refine aC ?_;intro K hK hX)|refine aY [0,2,3,4,5] ?_|((first|((with_reducible refine bL ?_);refine xA ?_)|((with_reducible refine cO ?_);refine xD ?_));(first|((with_reducible refine bQ ?_);(first|refine aJ (aJ2 aO (m:=3) rfl aO aO aO aO aO rfl rfl (hcx x) (hcx y) lx ly (dD1 hbxy)) ?_))|((with_reducible refine gH ?_);(first|refine aJ (iE aB rfl rfl rfl rfl rB zln) ?_|refine aJ (iD aB rfl rfl rfl rB zln) ?_))|((with_reducible refine iZ ?_);(first|refine aJ (s_slArri aB rfl rfl rfl rfl zbd zbd zle zle aN rB zln) ?_))))|refine stA ?_|refine stD ?_|(refine aE hK hX ?_;clear hK hX K)|fail)
      exact ⟨m+1,⟨by omega,by omega,by omega⟩,by omega,(by refine dF rfl ?_ ?_ rfl<;>(repeat' (first|exact cE|exact cG|refine bS rfl dW1 rfl ?_|refine aZ rfl dW1 rfl ?_|refine aZ rfl (by first|rfl|(first|rfl|exact congrArg (fun x:Nat=>AV.c (iv x)) (by rw [t1])|exact congrArg (fun x:Nat=>AV.c (iv x)) aA|exact congrArg (fun x:Int=>AV.c (iv x)) aA|exact congrArg (fun x=>AObj.row _ (src x)) t2.symm)) cT ?_)))⟩
     ·have hbxy:(false:Bool)=true↔x=y:=⟨fun h=>dS,fun h=>absurd h heq2⟩
      obtain ⟨t1,t2⟩:=aI2 (l:=l) (m:=m) hat (fun h=>heq2 bS4)
      obtain ⟨c,hc⟩:∃c,(cpA l m).length=c:=⟨_,rfl⟩
      rw [hc] at t1 t2 hml ⊢
      have hset:lay (src (rwA l m)) (0+c*2) [iv x.t,iv x.s]=src (rwA l (m+1)):=by
       rw [Ap,t2]
       exact nL (f:=(fun v:Src=>[iv v.t,iv v.s])) (k:=2) (fun _=>rfl) x aA
      repeat' (first|(refine aC ?_;intro K hK hX)|refine aY [0,2,3,4,5] ?_|((first|((with_reducible refine bL ?_);refine xA ?_)|((with_reducible refine cO ?_);refine xD ?_));(first|((with_reducible refine bQ ?_);(first|refine aJ (aJ2 aO (m:=3) rfl aO aO aO aO aO rfl rfl (hcx x) (hcx y) lx ly (dD1 hbxy)) ?_))|((with_reducible refine gH ?_);(first|refine aJ (iE aB rfl rfl rfl rfl rB zln) ?_|refine aJ (iD aB rfl rfl rfl rB zln) ?_))|((with_reducible refine iZ ?_);(first|refine aJ (s_slArri aB rfl rfl rfl rfl zbd zbd zle zle aN rB zln) ?_))))|((with_reducible refine fT ?_);(refine eO aB aG rfl rfl rfl rfl rfl rfl aM4 ?_))|refine stA ?_|refine stD ?_|(refine aE hK hX ?_;clear hK hX K)|fail)
      exact ⟨m+1,⟨by omega,by omega,by omega⟩,by omega,eN6⟩
    ·have hmn:m=n:=by omega
     rw [hmn] at hri hml ⊢
     have htk:=bG2 (l:=l) (m:=n)
     have hfm:(src (rwA l n)).take ((cpA l n).length*2)=src ((rwA l n).take (cpA l n).length):=aT8 (f:=(fun v:Src=>[iv v.t,iv v.s])) (k:=2) (fun _=>rfl) (rwA l n) (cpA l n).length
     rw [htk] at hfm
     repeat' (first|(refine aC ?_;intro K hK hX)|refine aY [0,2,3,4,5] ?_|((with_reducible refine uE ?_);refine aB4 aB aG rfl rfl rfl (size:=2) rfl rfl rfl rfl rfl aA aA ?_)|refine stA ?_|refine stD ?_|(refine aE hK hX ?_;clear hK hX K)|fail)
     exact eA1
   ·have hbxy:(false:Bool)=true↔x=y:=⟨fun h=>dS,fun h=>absurd h heq⟩
    obtain ⟨s1,s2⟩:=aI1 (l:=l) (m:=k) hat hkl (fun h=>heq bS4) hkr
    clear hkl hkr
    repeat' (first|(refine aC ?_;intro K hK hX)|refine dR9 ?_|(refine aE hK hX ?_;clear hK hX K)|fail)
    exact ⟨k+1,⟨by omega,by omega,s1,s2⟩,by omega,dH0⟩
  ·have hkn:k=n:=by omega
   rw [hkn] at hkl hkr
   have hcl:=yM hn hkl hkr
   clear hkl hkr
   repeat' (first|(refine aC ?_;intro K hK hX)|refine yJ ?_|(refine aE hK hX ?_;clear hK hX K)|fail)
   rw [hcl,hn]
   exact bT2
end Go.Proofs.YtbgehdndimlgkaaGreat
namespace Go.Proofs.YtbgehdndimlgkaaGreat
open Go.Shelf Go.Proofs
def Tryz.srtW_ren:Go.Shelf.Ren:=⟨fun|6=>87|15=>155|14=>154|28=>195|29=>196|20=>187|21=>188|22=>189|23=>190|24=>191|25=>192|26=>193|27=>194|46=>232|47=>233|48=>234|49=>235|50=>236|57=>251|n=>n,fun|22=>47|24=>72|25=>129|3=>3|39=>33|0=>0|53=>212|55=>120|4=>4|46=>205|45=>204|50=>209|5=>5|9=>9|66=>239|70=>243|76=>253|77=>254|n=>n,fun|n=>n⟩
theorem Tryz.srtW:Go.Proofs.SlLaysF0.n6 Tryz.prog Tryz.srtW_ren:={
 mixed:=by kernel_rfl
 f6:=⟨Tryz.f87.name,by decide,Tryz.func87.trans (congrArg some aO)⟩
 f14:=⟨Tryz.f154.name,by decide,Tryz.func154.trans (congrArg some aO)⟩
 f15:=Tryz.func155.trans (congrArg some aO)
 f20:=⟨Tryz.f187.name,by decide,Tryz.func187.trans (congrArg some aO)⟩
 f21:=⟨Tryz.f188.name,by decide,Tryz.func188.trans (congrArg some aO)⟩
 f22:=⟨Tryz.f189.name,by decide,Tryz.func189.trans (congrArg some aO)⟩
 f23:=⟨Tryz.f190.name,by decide,Tryz.func190.trans (congrArg some aO)⟩
 f24:=⟨Tryz.f191.name,by decide,Tryz.func191.trans (congrArg some aO)⟩
 f25:=⟨Tryz.f192.name,by decide,Tryz.func192.trans (congrArg some aO)⟩
 f26:=⟨Tryz.f193.name,by decide,Tryz.func193.trans (congrArg some aO)⟩
 f27:=⟨Tryz.f194.name,by decide,Tryz.func194.trans (congrArg some aO)⟩
 f28:=Tryz.func195.trans (congrArg some aO)
 f29:=Tryz.func196.trans (congrArg some aO)
 f46:=⟨Tryz.f232.name,by decide,Tryz.func232.trans (congrArg some aO)⟩
 f47:=Tryz.func233.trans (congrArg some aO)
 f48:=Tryz.func234.trans (congrArg some aO)
 f49:=⟨Tryz.f235.name,by decide,Tryz.func235.trans (congrArg some aO)⟩
 f50:=⟨Tryz.f236.name,by decide,Tryz.func236.trans (congrArg some aO)⟩
 f57:=⟨Tryz.f251.name,by decide,Tryz.func251.trans (congrArg some aO)⟩
 t0:=Tryz.underlying0
 a0:=Tryz.isAgg0
 z0:=Tryz.sizeOf0
 v0:=Tryz.zeroValue0
 t3:=Tryz.underlying3
 a3:=Tryz.isAgg3
 z3:=Tryz.sizeOf3
 v3:=Tryz.zeroValue3
 t4:=Tryz.underlying4
 a4:=Tryz.isAgg4
 z4:=Tryz.sizeOf4
 v4:=Tryz.zeroValue4
 t5:=Tryz.underlying5
 a5:=Tryz.isAgg5
 z5:=Tryz.sizeOf5
 v5:=Tryz.zeroValue5
 t9:=Tryz.underlying9
 a9:=Tryz.isAgg9
 z9:=Tryz.sizeOf9
 v9:=Tryz.zeroValue9
 t22:=Tryz.underlying47
 a22:=Tryz.isAgg47
 z22:=Tryz.sizeOf47
 v22:=Tryz.zeroValue47
 t25:=Tryz.underlying129
 a25:=Tryz.isAgg129
 z25:=Tryz.sizeOf129
 v25:=Tryz.zeroValue129
 t39:=Tryz.underlying33
 a39:=Tryz.isAgg33
 z39:=Tryz.sizeOf33
 v39:=Tryz.zeroValue33
 t45:=Tryz.underlying204
 a45:=Tryz.isAgg204
 z45:=Tryz.sizeOf204
 v45:=Tryz.zeroValue204
 t46:=Tryz.underlying205
 a46:=Tryz.isAgg205
 z46:=Tryz.sizeOf205
 v46:=Tryz.zeroValue205
 t50:=Tryz.underlying209
 a50:=Tryz.isAgg209
 z50:=Tryz.sizeOf209
 v50:=Tryz.zeroValue209
 t53:=Tryz.underlying212
 a53:=Tryz.isAgg212
 z53:=Tryz.sizeOf212
 v53:=Tryz.zeroValue212
 t55:=Tryz.underlying120
 a55:=Tryz.isAgg120
 z55:=Tryz.sizeOf120
 v55:=Tryz.zeroValue120
 t66:=Tryz.underlying239
 a66:=Tryz.isAgg239
 z66:=Tryz.sizeOf239
 v66:=Tryz.zeroValue239
 t70:=Tryz.underlying243
 a70:=Tryz.isAgg243
 z70:=Tryz.sizeOf243
 v70:=Tryz.zeroValue243
 t76:=Tryz.underlying253
 a76:=Tryz.isAgg253
 z76:=Tryz.sizeOf253
 v76:=Tryz.zeroValue253
 t77:=Tryz.underlying254
 a77:=Tryz.isAgg254
 z77:=Tryz.sizeOf254
 v77:=Tryz.zeroValue254}
end Go.Proofs.YtbgehdndimlgkaaGreat
namespace Go.Proofs.YtbgehdndimlgkaaGreat
open Go Go.RowKit Go.Av Go.Sort
set_option maxRecDepth 100000
theorem eM0 {l:List Src} {n:Nat} (hn:l.length=n) (h0:0<n) (hb:n<=1000000):ACS Tryz.prog 87 72 2 n (src l) [CV.v (.func (.func 88) #[] #[])] (src (srtA ltS l)) (.tup []):=by
 have hb':Body Tryz.prog 88:=by unfold Body;kernel_rfl
 have hs:bJ0 Tryz.prog 87 88 2:=by
  intro α _ enc hk h1 cf hO blk cap d w hC hH hblk hsz
  exact Go.Proofs.AnyQ.slices_SortFunc Tryz.srtW 2 Tryz.isAgg72 Tryz.sizeOf72 enc hk h1 cf hO 88 #[] blk 0 cap d w (fun args w=>hb'.run args w) hC hH hblk hsz
 exact aL4 (X:=Src) (encX:=fun v=>[iv v.t,iv v.s]) (cmp:=aC8) (fun _=>True) hs hn h0 aA aN (fun _=>rfl) (fun x y _ _=>mW x y) (fun _ _=>trivial) (dC2 slo_S mF) (mS l) ((aJ9 slo_S l).imp fun {a b} h=>by rw [mF];exact h) (fun x _ y _ h1 h2=>by
  rw [mF] at h1 h2
  rcases slo_S.tri x y with e|e|e
  ·exact absurd e h1
  ·exact e
  ·exact absurd e h2)
theorem dQ3 (p:Option Addr) (cap:Nat) (fv:Value) (w:World):Calls Tryz.prog 87 #[.slice p 0 cap,fv] w fun e w'=>e = .returned (.tuple #[])/\w'=w :=
 Go.Proofs.AnyF.slices_SortFunc_none {Tryz.srtW with} p cap fv w
attribute [local irreducible] Still Adds AWL AW Drw bY bW AC AWR cR Frz Go.Av.Src cQ Out InK ItK AsK RdK eL eF ACT ACS dE4 ACP bY7
theorem dG7:qC' 89 [.sl 2 0 []] (.c (.sl 2 0 [])) [] 0:=by
 refine aD aB (sz:=61) Tryz.func89 rfl (by rw [Tryz.ntmps89];rfl) ?_
 repeat' (first|(refine aC ?_;intro K hK hX)|refine yJ ?_|(refine aE hK hX ?_;clear hK hX K)|fail)
 exact aV
theorem aH4 (l:List LEn) (n:Nat) (hn:l.length=n) (hb:n<=1000) (hw:OkL l) (q:Nat) (hq:(erasS l).length=q):qC' 28 [.sl 65 n (lec l)] (.c (.sl 2 q (src (erasS l)))) [] 0:=by
 have hll:(lec l).length=n*65:=by rw [dZ hw,hn]
 obtain ⟨R,hR⟩:∃R,erasS l=R:=⟨_,rfl⟩
 rw [hR] at hq ⊢
 have hev:∀x∈srtA ltS (iP l),qK x:=fun x hx=>uP hw x ((mS _).mem_iff.1 hx)
 have hAl:=sS hw
 obtain ⟨D,hD⟩:∃D:Nat->List Src,∀i,iP (l.take i)=D i:=⟨_,fun _=>rfl⟩
 obtain ⟨o,ho⟩:∃o:Nat->Nat,∀i,(D i).length=o i:=⟨_,fun _=>rfl⟩
 have hDn:D n=iP l:=by rw [<- hD,Ae aA]
 have hon:o n=(iP l).length:=by rw [<- ho,hDn]
 have hD0:D 0=[]:=by rw [<- hD];rfl
 have ho0:o 0=0:=by rw [<- ho,hD0];rfl
 have hob:∀i,i<=n->o i<=i*1000:=fun i hi=>by
  rw [<- ho,<- hD]
  have:=sS (hw.take i)
  rw [Ar] at this
  omega
 have hcl:∀i,(src (D i)).length=o i*2:=fun i=>by rw [dI,ho]
 refine aD aB (sz:=24) Tryz.func28 rfl (by rw [Tryz.ntmps28];rfl) ?_
 repeat' (first|(refine aC ?_;intro K hK hX)|refine aR2 ?_|(refine aE hK hX ?_;clear hK hX K)|fail)
 refine lA 3 72 2 rfl ?_
 refine bF [8,3] [0] rfl rfl (fun i:Nat=>[(8,.c (iv i)),(3,.own 0 0 (o i) 2 true)]) (fun i=>[(0,.row 72 (src (D i)))]) (fun i=>i<=n) (fun i=>n-i) 0 (Al _) (by refine dF rfl ?_ ?_ rfl<;>(repeat' (first|exact cE|exact cG|refine bS rfl dW6 rfl ?_|refine aZ rfl dW6 rfl ?_|refine aZ rfl (by first|rfl|(first|rfl|exact congrArg (fun x=>AV.own 0 0 x 2 true) ho0.symm|exact congrArg (fun x=>AObj.row _ (src x)) hD0.symm)) cT ?_))) ?_
 intro i hi K hK hX
 by_cases hlt:i<n
 ·obtain ⟨e,hat⟩:∃e,l[i]? = some e:=⟨_,Ab aA⟩
  have hx:=lI hw hat
  obtain ⟨ow,ok,oz⟩:=hw e (Ad hat)
  have hel:=eY ow
  have hc0:(ecR e)[0+0]? = some (iv e.k):=rfl
  have hc1:(ecR e)[0+32]? = some (.sl 2 e.ss.length (src e.ss)):=rfl
  have hs:D (i+1)=D i++if e.k=2 then e.ss else []:=by rw [<- hD,<- hD,gG hat,oP]
  have hso:o (i+1)=(D (i+1)).length:=(ho _).symm
  have hoi:=hob i hi
  have hci:=hcl i
  have hvs:=oz.ss
  by_cases h2:e.k=2
  ·rw [Ak h2] at hs
   rw [h2] at hc0
   rw [hs,Aa,ho] at hso
   have hsc:src (D i)++src e.ss=src (D (i+1)):=by rw [hs];unfold src;rw [Bb]
   have hvl:(src e.ss).length=e.ss.length*2:=dI _
   generalize ecR e=cs at *
   generalize src e.ss=vc at *
   generalize e.ss.length=nv at *
   repeat' (first|(refine aC ?_;intro K hK hX)|refine bQ7 ?_|(refine aE hK hX ?_;clear hK hX K)|fail)
   exact ⟨i+1,by omega,by omega,(by refine fR [2] rfl rfl ?_ ?_ rfl rfl<;>(repeat' (first|exact dU|exact dB|refine dD rfl dX1 rfl ?_|refine cB rfl dX1 rfl ?_)))⟩
  ·rw [Ai h2,A1] at hs
   rw [hs,ho] at hso
   generalize ecR e=cs at *
   repeat' (first|(refine aC ?_;intro K hK hX)|refine bQ7 ?_|(refine aE hK hX ?_;clear hK hX K)|fail)
   exact ⟨i+1,by omega,by omega,(by refine dF rfl ?_ ?_ rfl<;>(repeat' (first|exact cE|exact cG|refine bS rfl dW8 rfl ?_|refine aZ rfl dW8 rfl ?_|refine aZ rfl (by first|rfl|(first|rfl|exact congrArg (fun x=>AV.own 0 0 x 2 true) hso.symm|exact congrArg (fun x=>AObj.row _ (src x)) hs.symm)) cT ?_)))⟩
 ·have hin:i=n:=by omega
  have hoc:=hcl n
  rw [hin,hon,hDn] at *
  clear hob hcl ho0 hD0 hD ho hon hDn hin hlt hi
  by_cases h0:(iP l).length=0
  ·have hn0:iP l=[]:=An h0
   have hq0:src []=src R:=by rw [<- hR];unfold erasS;rw [hn0];rfl
   have hqq:0=q:=by rw [<- hq,<- hR];unfold erasS;rw [hn0];rfl
   rw [h0,hn0]
   have h2:qC' _ [.sl 2 0 (src [])] (.c (.sl 2 0 (src []))) [] 0:=dG7
   repeat' (first|(refine aC ?_;intro K hK hX)|refine aL [0,2,3,5,6,7,8] ?_|(refine uS dQ3 aG rfl zby rfl rfl rfl ?_)|(refine cI6 22 rfl rfl rfl ?_)|(refine dL ?_;refine c0 h2 ?_)|refine stA ?_|(refine aE hK hX ?_;clear hK hX K)|fail)
   exact eA2
  ·obtain ⟨m,hm⟩:∃m,(iP l).length=m:=⟨_,rfl⟩
   have hac:=eM0 hm aA aA
   have hcp:=eE7 (srtA ltS (iP l)) m (by rw [oD,hm]) aA aA hev
   rw [zR slo_S _ hm] at hcp
   change ACP _ _ _ _ _ _ _ _ (src (erasS l)) (erasS l).length at hcp
   rw [hR,hq] at hcp
   have hql:(src R).length=q*2:=by rw [dI,hq]
   have h0':0<m:=by omega
   rw [hm]
   repeat' (first|(refine aC ?_;intro K hK hX)|refine dU8 ?_|(refine aE hK hX ?_;clear hK hX K)|fail)
   exact eA3
end Go.Proofs.YtbgehdndimlgkaaGreat
namespace Go.Proofs.YtbgehdndimlgkaaGreat
open Go Go.RowKit Go.Av
set_option maxRecDepth 100000
section
variable {l:List LEn}
include l
theorem dF1 {e:LEn} (hw:e.wf) (hr:e.rd):gW (l++[rdE e])=gW (l++[e]):=by
 rw [aW3 hw hr,kI,kI,aZ1]
 by_cases h:e.k=2
 ·rw [Ak h,Ak h,(aC1 h).1]
 ·rw [Ai h,Ai h]
theorem eH1 {e:LEn} (hw:e.wf) (hr:e.rd) (hf:Fol l e):(erasV (l++[rdE e])).length=(erasV l).length+(if e.k=2 then e.vs.length else 0):=by
 rw [<- hf.more]
 unfold erasV
 rw [dF1 hw hr]
theorem eX3 {e:LEn}:∀v∈erasV l,v∈erasV (l++[e]):=fun v hv=>by
 unfold erasV at *
 rw [(dA slo_V _).2] at *
 rw [kI]
 exact Az.2 (.inl hv)
theorem eX2 {e:LEn}:∀v∈erasS l,v∈erasS (l++[e]):=fun v hv=>by
 unfold erasS at *
 rw [(dA slo_S _).2] at *
 rw [oP]
 exact Az.2 (.inl hv)
theorem bD6 (h:OkL l):∀v∈erasV l,oL v:=fun v hv=>by
 unfold erasV at hv
 rw [(dA slo_V _).2] at hv
 exact uQ h v hv
theorem bD5 (h:OkL l):∀v∈erasS l,qK v:=fun v hv=>by
 unfold erasS at hv
 rw [(dA slo_S _).2] at hv
 exact uP h v hv
theorem bB9 (h:OkL l):(erasV l).length<=l.length*1000:=by
 have h1:=zR slo_V (gW l) rfl
 have h2:=nA (srtA ltV (gW l)) (gW l).length
 have:=sT h
 unfold erasV
 rw [<- h1]
 omega
theorem bB8 (h:OkL l):(erasS l).length<=l.length*1000:=by
 have h1:=zR slo_S (iP l) rfl
 have h2:=nA (srtA ltS (iP l)) (iP l).length
 have:=sS h
 unfold erasS
 rw [<- h1]
 omega
theorem cU8 {e:LEn} (hl:l.length<512) (hw:e.wf) (hk:aS e.k) (hz:e.sz) (hf:Fol l e):opAd ⟨dkN,l,root0⟩ e=(⟨⟨eA kdL root0 e,[],-1,false⟩,l++[rdE e],kdL root0 (cC e)⟩,0)/\(eA kdL root0 e).length<=100042:=by
 have hl:(eA kdL root0 e).length<=100042:=by
  have h1:=mG hw hk hz
  have h2:(kdL root0 (cC e)).length=32:=iN _ _
  have h3:=kK (n:=(cC e).length) aA
  unfold eA
  simp only [Aa]
  omega
 refine ⟨?_,hl⟩
 have h1:opA dkN (eA kdL root0 e)=(⟨[],eA kdL root0 e,-1,false⟩,0):=by
  unfold opA dkN
  rw [Ai aN]
  simp only
  rw [Ai aN,Ai fZ,Ai aT]
  simp
 have h2:opS ⟨[],eA kdL root0 e,-1,false⟩=(⟨eA kdL root0 e,[],-1,false⟩,0):=by
  unfold opS
  rw [Ai (by rw [qM (m:=0) (k:=(eA kdL root0 e).length) rfl rfl aA aT];simp)]
  rw [Ai aT,Ai aT]
  rfl
 have h0:¬¬Fol l e:=fun h=>h hf
 unfold opAd
 simp only
 rw [Ai h0,Ai aA,h1]
 simp only [h2,Bx]
end
end Go.Proofs.YtbgehdndimlgkaaGreat
