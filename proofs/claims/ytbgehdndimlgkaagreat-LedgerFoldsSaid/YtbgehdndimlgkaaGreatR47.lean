/- Lemmas for laws of the ledger. -/
import Derived.Shelf.SortM.Plain
import Derived.Shelf.SortM.SortNone
import Derived.Test.YtbgehdndimlgkaaGreatR42
set_option linter.all false
set_option maxHeartbeats 16000000
namespace Go.Proofs.YtbgehdndimlgkaaGreat
open Go.Shelf Go.Proofs
def Tryz.srtI_ren:Go.Shelf.Ren:=⟨fun|5=>105|8=>155|7=>161|19=>195|20=>196|10=>206|11=>207|12=>208|13=>209|14=>210|15=>211|16=>212|17=>213|18=>214|30=>240|31=>233|32=>234|33=>241|34=>242|35=>197|40=>253|n=>n,fun|23=>84|25=>3|3=>3|32=>33|22=>84|0=>0|44=>212|46=>120|4=>4|36=>205|35=>204|41=>209|5=>5|9=>9|53=>239|57=>243|63=>253|64=>254|n=>n,fun|n=>n⟩
theorem Tryz.srtI:Go.Proofs.SlLaysM.n5 Tryz.prog Tryz.srtI_ren:={
 mixed:=by kernel_rfl
 f5:=⟨Tryz.f105.name,by decide,Tryz.func105.trans (congrArg some aM)⟩
 f7:=⟨Tryz.f161.name,by decide,Tryz.func161.trans (congrArg some aM)⟩
 f8:=Tryz.func155.trans (congrArg some aM)
 f10:=⟨Tryz.f206.name,by decide,Tryz.func206.trans (congrArg some aM)⟩
 f11:=⟨Tryz.f207.name,by decide,Tryz.func207.trans (congrArg some aM)⟩
 f12:=⟨Tryz.f208.name,by decide,Tryz.func208.trans (congrArg some aM)⟩
 f13:=⟨Tryz.f209.name,by decide,Tryz.func209.trans (congrArg some aM)⟩
 f14:=⟨Tryz.f210.name,by decide,Tryz.func210.trans (congrArg some aM)⟩
 f15:=⟨Tryz.f211.name,by decide,Tryz.func211.trans (congrArg some aM)⟩
 f16:=⟨Tryz.f212.name,by decide,Tryz.func212.trans (congrArg some aM)⟩
 f17:=⟨Tryz.f213.name,by decide,Tryz.func213.trans (congrArg some aM)⟩
 f18:=⟨Tryz.f214.name,by decide,Tryz.func214.trans (congrArg some aM)⟩
 f19:=Tryz.func195.trans (congrArg some aM)
 f20:=Tryz.func196.trans (congrArg some aM)
 f30:=⟨Tryz.f240.name,by decide,Tryz.func240.trans (congrArg some aM)⟩
 f31:=Tryz.func233.trans (congrArg some aM)
 f32:=Tryz.func234.trans (congrArg some aM)
 f33:=⟨Tryz.f241.name,by decide,Tryz.func241.trans (congrArg some aM)⟩
 f34:=⟨Tryz.f242.name,by decide,Tryz.func242.trans (congrArg some aM)⟩
 f35:=⟨Tryz.f197.name,by decide,Tryz.func197.trans (congrArg some aM)⟩
 f40:=⟨Tryz.f253.name,by decide,Tryz.func253.trans (congrArg some aM)⟩
 t0:=Tryz.underlying0
 a0:=Tryz.isAgg0
 z0:=Tryz.sizeOf0
 v0:=Tryz.zeroValue0
 t3:=Tryz.underlying3
 a3:=Tryz.isAgg3
 z3:=Tryz.sizeOf3
 v3:=Tryz.zeroValue3
 t4:=Tryz.underlying4
 a4:=Tryz.isAgg4
 z4:=Tryz.sizeOf4
 v4:=Tryz.zeroValue4
 t5:=Tryz.underlying5
 a5:=Tryz.isAgg5
 z5:=Tryz.sizeOf5
 v5:=Tryz.zeroValue5
 t9:=Tryz.underlying9
 a9:=Tryz.isAgg9
 z9:=Tryz.sizeOf9
 v9:=Tryz.zeroValue9
 t22:=Tryz.underlying84
 a22:=Tryz.isAgg84
 z22:=Tryz.sizeOf84
 v22:=Tryz.zeroValue84
 t23:=Tryz.underlying84
 a23:=Tryz.isAgg84
 z23:=Tryz.sizeOf84
 v23:=Tryz.zeroValue84
 t25:=Tryz.underlying3
 a25:=Tryz.isAgg3
 z25:=Tryz.sizeOf3
 v25:=Tryz.zeroValue3
 t32:=Tryz.underlying33
 a32:=Tryz.isAgg33
 z32:=Tryz.sizeOf33
 v32:=Tryz.zeroValue33
 t35:=Tryz.underlying204
 a35:=Tryz.isAgg204
 z35:=Tryz.sizeOf204
 v35:=Tryz.zeroValue204
 t36:=Tryz.underlying205
 a36:=Tryz.isAgg205
 z36:=Tryz.sizeOf205
 v36:=Tryz.zeroValue205
 t41:=Tryz.underlying209
 a41:=Tryz.isAgg209
 z41:=Tryz.sizeOf209
 v41:=Tryz.zeroValue209
 t44:=Tryz.underlying212
 a44:=Tryz.isAgg212
 z44:=Tryz.sizeOf212
 v44:=Tryz.zeroValue212
 t46:=Tryz.underlying120
 a46:=Tryz.isAgg120
 z46:=Tryz.sizeOf120
 v46:=Tryz.zeroValue120
 t53:=Tryz.underlying239
 a53:=Tryz.isAgg239
 z53:=Tryz.sizeOf239
 v53:=Tryz.zeroValue239
 t57:=Tryz.underlying243
 a57:=Tryz.isAgg243
 z57:=Tryz.sizeOf243
 v57:=Tryz.zeroValue243
 t63:=Tryz.underlying253
 a63:=Tryz.isAgg253
 z63:=Tryz.sizeOf253
 v63:=Tryz.zeroValue253
 t64:=Tryz.underlying254
 a64:=Tryz.isAgg254
 z64:=Tryz.sizeOf254
 v64:=Tryz.zeroValue254}
end Go.Proofs.YtbgehdndimlgkaaGreat
namespace Go.Proofs.YtbgehdndimlgkaaGreat
open Go Go.RowKit Go.Av
set_option maxRecDepth 100000
attribute [local irreducible] Still Adds AWL AW Drw bQ bT AC AWR cO Frz Go.Av.Src dF Out InK ItK AsK RdK eI eG ACT ACS bJ0 ACP aK7
theorem bU4 (l:List Int) (n:Nat) (hn:l.length=n) (h0:0<n) (hnn:n<=1000000)  : ACP Tryz.prog 106 3 1 n [] (bO .i64 l) [] (bO .i64 (cpA l n)) (cpA l n).length:=by
 have hvl:(bO .i64 l).length=n*1:=by rw [cC2,hn]
 by_cases n1:n=1
 ·have hc:cpA l n=l:=by rw [n1];exact qW aA
  rw [hc,hn]
  subst n1
  refine kV aB (sz:=61) Tryz.func106 rfl (by rw [Tryz.ntmps106];rfl) (h0) ?_
  repeat' (first|(refine aC ?_;intro K hK hX)|refine nY ?_|(refine aE hK hX ?_;clear hK hX K)|fail)
  exact aB9
 ·refine kV aB (sz:=61) Tryz.func106 rfl (by rw [Tryz.ntmps106];rfl) (h0) ?_
  repeat' (first|(refine aC ?_;intro K hK hX)|refine nY ?_|(refine aE hK hX ?_;clear hK hX K)|fail)
  refine aT [3,4,5] [0] rfl rfl (fun k:Nat=>[(3,.c (iv k))]) (fun k=>[(0,.row 3 (bO .i64 l))]) (fun k=>1<=k/\k<=n/\(cpA l k).length=k/\rwA l k=l) (fun k=>n-k) 1 ⟨Ag _,by omega,aF5 aA,aJ4 aA⟩ dP ?_
  rintro k ⟨hk1,hk,hkl,hkr⟩ K hK hX
  (try dsimp only at *)
  by_cases hlt:k<n
  ·obtain ⟨x,hat⟩:∃x,l[k]? = some x:=⟨_,Aa aA⟩
   obtain ⟨y,hay⟩:∃y,l[k-1]? = some y:=⟨_,Aa aA⟩
   have hx:=bF3 hat
   have hy:=bF3 hay
   by_cases heq:x=y
   ·have hbxy:(true:Bool)=true↔x=y:=⟨fun _=>heq,fun _=>rfl⟩
    obtain ⟨s1,s2⟩:=nG (l:=l) (m:=k) aA (by rw [hat,hay,heq])
    repeat' (first|(refine aC ?_;intro K hK hX)|refine dJ7 ?_|(refine aE hK hX ?_;clear hK hX K)|fail)
    refine aT [3,5] [0] rfl rfl (fun m:Nat=>[(3,.c (iv (cpA l m).length)),(5,.c (iv (m-k:Nat)))]) (fun m=>[(0,.row 3 (bO .i64 (rwA l m)))]) (fun m=>k+1<=m/\m<=n/\(cpA l m).length<m) (fun m=>n-m) (k+1) ⟨Ag _,by omega,by rw [s1,hkl];omega⟩ (by refine cE rfl ?_ ?_ rfl<;>(repeat' (first|exact bF|exact bG|refine bC rfl dC6 rfl ?_|refine aN rfl dC6 rfl ?_|refine aN rfl (by first|rfl|(first|exact congrArg (fun x:Nat=>AV.c (iv x)) (by rw [s1,hkl])|exact congrArg (fun x:Nat=>AV.c (iv x)) aA|exact congrArg (fun x=>AObj.row _ (bO .i64 x)) (by rw [s2,hkr]))) bM ?_))) ?_
    rintro m ⟨hm1,hm,hml⟩ K hK hX
    (try dsimp only at *)
    clear hx hy hbxy heq hat hay s1 s2 hkl hkr
    have hrl:=rH (l:=l) (m:=m) aA
    have hri:(bO .i64 (rwA l m)).length=n*1:=by rw [cC2,hrl,hn]
    by_cases hlt2:m<n
    ·obtain ⟨x,hat⟩:∃x,l[m]? = some x:=⟨_,Aa aA⟩
     obtain ⟨y,hay⟩:∃y,l[m-1]? = some y:=⟨_,Aa aA⟩
     have hat2:=hat
     have hay2:=hay
     rw [<- aY8 (m:=m) aA] at hat2 hay2
     have hx:=bF3 hat2
     have hy:=bF3 hay2
     by_cases heq2:x=y
     ·have hbxy:(true:Bool)=true↔x=y:=⟨fun _=>heq2,fun _=>rfl⟩
      obtain ⟨t1,t2⟩:=nG (l:=l) (m:=m) aA (by rw [hat,hay,heq2])
      have t3:(cpA l (m+1)).length<m+1:=by rw [t1];omega
      repeat' (first|(refine aC ?_;intro K hK hX)|refine dJ7 ?_|(refine aE hK hX ?_;clear hK hX K)|fail)
      exact ⟨m+1,⟨by omega,by omega,by omega⟩,by omega,(by refine cE rfl ?_ ?_ rfl<;>(repeat' (first|exact bF|exact bG|refine bC rfl dC2 rfl ?_|refine aN rfl dC2 rfl ?_|refine aN rfl (by first|rfl|(first|rfl|exact congrArg (fun x:Nat=>AV.c (iv x)) (by rw [t1])|exact congrArg (fun x:Nat=>AV.c (iv x)) aA|exact congrArg (fun x:Int=>AV.c (iv x)) aA|exact congrArg (fun x=>AObj.row _ (bO .i64 x)) t2.symm)) bM ?_)))⟩
     ·have hbxy:(false:Bool)=true↔x=y:=⟨fun h=>fE,fun h=>absurd h heq2⟩
      obtain ⟨t1,t2⟩:=sP (l:=l) (m:=m) hat (fun h=>heq2 aB5)
      obtain ⟨c,hc⟩:∃c,(cpA l m).length=c:=⟨_,rfl⟩
      rw [hc] at t1 t2 hml ⊢
      have hset:(bO .i64 (rwA l m)).set (0+c*1) (iv x)=bO .i64 (rwA l (m+1)):=by
       rw [Ai,A5,t2,dM0]
      repeat' (first|(refine aC ?_;intro K hK hX)|refine bE [0,2,3,4,5] ?_|((first|((with_reducible refine bU ?_);refine xA ?_)|((with_reducible refine cR ?_);refine xD ?_));(first|((with_reducible refine gB ?_);(first|refine aI (jZ aB rfl rfl rfl rfl aM5) ?_|refine aI (iV aB rfl rfl rfl rfl aM5) ?_|refine aI (iU aB rfl rfl rfl aM5) ?_))|((with_reducible refine e_ix ?_);(first|refine aI (s_ixV1 aB rfl rfl zcj rfl rfl rfl rfl rfl zle aM5) ?_|refine aI (s_ixStr aB rfl rfl zcj rfl rfl aM5) ?_))))|((with_reducible refine iN ?_);(refine fA aB aD rfl rfl rfl rfl rfl rfl aB2 ?_))|refine stA ?_|refine stD ?_|(refine aE hK hX ?_;clear hK hX K)|fail)
      exact bX4
    ·have hmn:m=n:=by omega
     rw [hmn] at hri hml ⊢
     have htk:=yY (l:=l) (m:=n)
     have hfm:(bO .i64 (rwA l n)).take ((cpA l n).length*1)=bO .i64 ((rwA l n).take (cpA l n).length):=by rw [dG9,dG9];exact vV (f:=i1) (k:=1) (fun _=>rfl) (rwA l n) (cpA l n).length
     rw [htk] at hfm
     repeat' (first|(refine aC ?_;intro K hK hX)|refine bE [0,2,3,4,5] ?_|((with_reducible refine rC ?_);refine qR aB aD rfl rfl rfl (size:=1) rfl rfl rfl rfl rfl aA aA ?_)|refine stA ?_|refine stD ?_|(refine aE hK hX ?_;clear hK hX K)|fail)
     exact bX5
   ·have hbxy:(false:Bool)=true↔x=y:=⟨fun h=>fE,fun h=>absurd h heq⟩
    obtain ⟨s1,s2⟩:=sO (l:=l) (m:=k) hat hkl (fun h=>heq aB5) hkr
    clear hkl hkr
    repeat' (first|(refine aC ?_;intro K hK hX)|refine dJ7 ?_|(refine aE hK hX ?_;clear hK hX K)|fail)
    exact bX6
  ·have hkn:k=n:=by omega
   rw [hkn] at hkl hkr
   have hcl:=oK hn hkl hkr
   clear hkl hkr
   repeat' (first|(refine aC ?_;intro K hK hX)|refine nY ?_|(refine aE hK hX ?_;clear hK hX K)|fail)
   rw [hcl,hn]
   exact aB9
end Go.Proofs.YtbgehdndimlgkaaGreat
namespace Go.Proofs.YtbgehdndimlgkaaGreat
open Go Go.RowKit Go.Av Go.Sort
set_option maxRecDepth 100000
def zP (l:List Int):List Int:=l.mergeSort fun x y=>decide (x<=y)
theorem aS2 (l:List Int):zP l=srtA (fun a b:Int=>a<b) l:=by
 unfold zP srtA
 congr 1
 funext x y
 exact decide_eq_decide.2 aA
theorem nV (l:List Int):(zP l).length=l.length:=(List.mergeSort_perm l _).length_eq
theorem aS3 (l:List Int) (n:Nat) (hn:l.length=n) (hb:n<=1000000):ACS Tryz.prog 105 3 1 n (bO .i64 l) [] (bO .i64 (zP l)) (.tup []) :=
 bQ9 (Value.int .i64) (fun _=>rfl) l (zP l) n hn (by rw [nV,hn]) fun blk cap w hH hb'=>by
  have h:=Go.Proofs.AnyM.slices_Sort_int Tryz.srtI blk 0 cap l w hH hb' aA
  rw [hn] at h
  exact h
theorem zQ:qC' 105 [.sl 1 0 []] (.tup []) [] 0:=by
 intro ok w vs hvs
 simp only [RepCs,RepC] at hvs
 obtain ⟨u,us',rfl,⟨A,c,us,rfl,_⟩,rfl⟩:=hvs
 have h:=Go.Proofs.AnyM.slices_Sort_int_none Tryz.srtI A c w
 refine h.mono ?_
 rintro e w' ⟨rfl,rfl⟩
 exact ⟨_,fun _=>none,rfl,⟨FrB.refl _ _,fun id o hid _=>absurd hid kM,fun id id' o o' g h1=>absurd h1 kM,fun id o g hid=>absurd hid kM⟩,[],rfl,rfl⟩
theorem bF2 (l:List Int) (x:Int):bO .i64 l++[iv x]=bO .i64 (l++[x]):=by simp [bO]
attribute [local irreducible] Still Adds AWL AW Drw bQ bT AC AWR cO Frz Go.Av.Src dF Out InK ItK AsK RdK eI eG ACT ACS bJ0 ACP aK7 lec
theorem bC7:qC' 106 [.sl 1 0 []] (.c (.sl 1 0 [])) [] 0:=by
 refine aG aB (sz:=61) Tryz.func106 rfl (by rw [Tryz.ntmps106];rfl) ?_
 repeat' (first|(refine aC ?_;intro K hK hX)|refine nY ?_|(refine aE hK hX ?_;clear hK hX K)|fail)
 exact bI
theorem cO8 (l:List LEn) (n:Nat) (hn:l.length=n) (hb:n<=1000) (hw:OkL l) (p:Int) (q:Nat) (hq:(doneS l p).length=q):qC' 53 [.sl 65 n (lec l),iv p] (.c (.sl 1 q (bO .i64 (doneS l p)))) [] 0:=by
 have hll:(lec l).length=n*65:=by rw [dH hw,hn]
 obtain ⟨R,hR⟩:∃R,doneS l p=R:=⟨_,rfl⟩
 rw [hR] at hq ⊢
 obtain ⟨D,hD⟩:∃D:Nat->List Int,∀i,((l.take i).filter fun e=>decide (e.k=3/\e.plan=p)).map (·.step)=D i:=⟨_,fun _=>rfl⟩
 obtain ⟨o,ho⟩:∃o:Nat->Nat,∀i,(D i).length=o i:=⟨_,fun _=>rfl⟩
 obtain ⟨L,hL⟩:∃L,(l.filter fun e=>decide (e.k=3/\e.plan=p)).map (·.step)=L:=⟨_,rfl⟩
 have hDn:D n=L:=by rw [<- hD,Af aA,hL]
 have hon:o n=L.length:=by rw [<- ho,hDn]
 have hD0:D 0=[]:=by rw [<- hD];rfl
 have ho0:o 0=0:=by rw [<- ho,hD0];rfl
 have hR:ascL (fun a b:Int=>a<b) L=R:=by rw [<- hR,<- hL];rfl
 have hob:∀i,i<=n->o i<=i:=fun i hi=>by
  rw [<- ho,<- hD,AS]
  have:=Bf (fun e:LEn=>decide (e.k=3/\e.plan=p)) (l.take i)
  rw [Ao] at this
  omega
 have hcl:∀i,(bO .i64 (D i)).length=o i:=fun i=>by rw [dJ,ho]
 refine aG aB (sz:=33) Tryz.func53 rfl (by rw [Tryz.ntmps53];rfl) ?_
 repeat' (first|(refine aC ?_;intro K hK hX)|refine aJ [0,1,4,5,7,8,9,10] ?_|refine stA ?_|(refine aE hK hX ?_;clear hK hX K)|fail)
 refine fL 5 3 1 rfl ?_
 refine aT [10,5] [0] rfl rfl (fun i:Nat=>[(10,.c (iv i)),(5,.own 0 0 (o i) 1 true)]) (fun i=>[(0,.row 3 (bO .i64 (D i)))]) (fun i=>i<=n) (fun i=>n-i) 0 (Ah _) (by refine cE rfl ?_ ?_ rfl<;>(repeat' (first|exact bF|exact bG|refine bC rfl dC9 rfl ?_|refine aN rfl dC9 rfl ?_|refine aN rfl (by first|rfl|(first|rfl|exact congrArg (fun x=>AV.own 0 0 x 1 true) ho0.symm|exact congrArg (fun x=>AObj.row _ (bO .i64 x)) hD0.symm)) bM ?_))) ?_
 intro i hi K hK hX
 by_cases hlt:i<n
 ·obtain ⟨e,hat⟩:∃e,l[i]? = some e:=⟨_,Aa aA⟩
  have hx:=jA hw hat
  obtain ⟨ow,ok,oz⟩:=hw e (Ac hat)
  have hel:=eR ow
  have hc0:(ecR e)[0+0]? = some (iv e.k):=rfl
  have hc2:(ecR e)[0+2]? = some (iv e.plan):=rfl
  have hc3:(ecR e)[0+3]? = some (iv e.step):=rfl
  have hs:D (i+1)=D i++if e.k=3/\e.plan=p then [e.step] else []:=by
   rw [<- hD,<- hD,cT hat,BN,BU]
   by_cases h:e.k=3/\e.plan=p
   ·rw [Al h,Bl,Al (AT h)];rfl
   ·rw [Ak h,Bl,Ak lO];rfl
  have hso:o (i+1)=(D (i+1)).length:=(ho _).symm
  have hoi:=hob i hi
  have hci:=hcl i
  generalize ecR e=cs at *
  by_cases h3:e.k=3
  ·by_cases hp:e.plan=p
   ·rw [Al ⟨h3,hp⟩] at hs
    rw [hs,Ab,ho] at hso
    have hsc:bO .i64 (D i)++[iv e.step]=bO .i64 (D (i+1)):=by rw [hs,bF2]
    rw [h3] at hc0
    rw [hp] at hc2
    repeat' (first|(refine aC ?_;intro K hK hX)|refine bT3 ?_|(refine aE hK hX ?_;clear hK hX K)|fail)
    exact ⟨i+1,by omega,by omega,(by refine eV [3] rfl rfl ?_ ?_ rfl rfl<;>(repeat' (first|exact dA|exact cM|refine cP rfl dD7 rfl ?_|refine bP rfl dD7 rfl ?_)))⟩
   ·rw [Ak (fun h=>hp h.2),Ay] at hs
    rw [hs,ho] at hso
    rw [h3] at hc0
    repeat' (first|(refine aC ?_;intro K hK hX)|refine bT3 ?_|(refine aE hK hX ?_;clear hK hX K)|fail)
    exact ⟨i+1,by omega,by omega,dS0⟩
  ·rw [Ak (fun h=>h3 h.1),Ay] at hs
   rw [hs,ho] at hso
   repeat' (first|(refine aC ?_;intro K hK hX)|refine bT3 ?_|(refine aE hK hX ?_;clear hK hX K)|fail)
   exact ⟨i+1,by omega,by omega,dS0⟩
 ·have hin:i=n:=by omega
  have hoc:=hcl n
  have hLb:=hob n (Ag n)
  rw [hin,hon,hDn] at *
  clear hob hcl ho0 hD0 hD ho hon hDn hin hlt hi
  by_cases h0:L.length=0
  ·have hn0:L=[]:=Aj h0
   have hq0:bO .i64 []=bO .i64 R:=by rw [<- hR,hn0];rfl
   have hqq:0=q:=by rw [<- hq,<- hR,hn0];rfl
   rw [h0,hn0]
   have h1:qC' _ [.sl 1 0 (bO .i64 [])] (.tup []) [] 0:=zQ
   have h2:qC' _ [.sl 1 0 (bO .i64 [])] (.c (.sl 1 0 (bO .i64 []))) [] 0:=bC7
   refine kS (kJ (t:=5) rfl rfl rfl) ?_
   repeat' (first|(refine aC ?_;intro K hK hX)|refine aJ [0,1,4,5,7,8,9,10] ?_|(refine dR ?_;first|refine c0 h1 ?_|refine c0 h2 ?_)|refine stA ?_|(refine aE hK hX ?_;clear hK hX K)|fail)
   exact bD8
  ·obtain ⟨m,hm⟩:∃m,L.length=m:=⟨_,rfl⟩
   have h0':0<m:=by omega
   have h1:=aS3 L m hm aA
   have hcp:=bU4 (zP L) m (by rw [nV,hm]) h0' aA
   rw [aS2] at h1 hcp
   rw [pN zM _ hm] at hcp
   rw [hR,hq] at hcp
   have hql:(bO .i64 R).length=q:=by rw [dJ,hq]
   have hsl:(bO .i64 (srtA (fun a b:Int=>a<b) L)).length=m:=by rw [dJ,jE,hm]
   rw [hm]
   have hil:(bO .i64 L).length=m:=by rw [dJ,hm]
   repeat' (first|(refine aC ?_;intro K hK hX)|refine aJ [0,1,4,5,7,8,9,10] ?_|((with_reducible refine aH ?_);refine aA4 (h1) aD rfl zby (h0') rfl rfl (rfl) rfl zcv ?_)|((with_reducible refine aH ?_);refine tA (hcp) aD rfl zby (h0') rfl rfl (rfl) rfl zcv ?_)|refine stA ?_|(refine aE hK hX ?_;clear hK hX K)|fail)
   exact dG0
open Classical in
theorem cX7 (l:List LEn) (n:Nat) (hn:l.length=n) (hb:n<=1000) (hw:OkL l) (q:Nat) (hq:(unfi l).length=q):qC' 40 [.sl 65 n (lec l)] (.c (.sl 1 q (bO .i64 (unfi l)))) [] 0:=by
 have hll:(lec l).length=n*65:=by rw [dH hw,hn]
 obtain ⟨R,hR⟩:∃R,unfi l=R:=⟨_,rfl⟩
 rw [hR] at hq ⊢
 obtain ⟨C,hC⟩:∃C:Nat->List Int,∀i,(Tl.of (l.take i)).co=C i:=⟨_,fun _=>rfl⟩
 have hC0:C 0=[]:=by rw [<- hC];rfl
 have hCn:∀p,p∈C n↔jK l 4 p:=fun p=>by rw [<- hC,Af aA];exact (aK2 l).co p
 obtain ⟨D,hD⟩:∃D:Nat->List Int,∀i,((l.take i).filter fun e=>decide (e.k=2/\¬jK l 4 e.plan)).map (·.plan)=D i:=⟨_,fun _=>rfl⟩
 obtain ⟨o,ho⟩:∃o:Nat->Nat,∀i,(D i).length=o i:=⟨_,fun _=>rfl⟩
 obtain ⟨L,hL⟩:∃L,(l.filter fun e=>decide (e.k=2/\¬jK l 4 e.plan)).map (·.plan)=L:=⟨_,rfl⟩
 have hDn:D n=L:=by rw [<- hD,Af aA,hL]
 have hon:o n=L.length:=by rw [<- ho,hDn]
 have hD0:D 0=[]:=by rw [<- hD];rfl
 have ho0:o 0=0:=by rw [<- ho,hD0];rfl
 have hR:ascL (fun a b:Int=>a<b) L=R:=by rw [<- hR,<- hL];rfl
 have hob:∀i,i<=n->o i<=i:=fun i hi=>by
  rw [<- ho,<- hD,AS]
  have:=Bf (fun e:LEn=>decide (e.k=2/\¬jK l 4 e.plan)) (l.take i)
  rw [Ao] at this
  omega
 have hcl:∀i,(bO .i64 (D i)).length=o i:=fun i=>by rw [dJ,ho]
 refine aG aB (sz:=49) Tryz.func40 rfl (by rw [Tryz.ntmps40];rfl) ?_
 repeat' (first|(refine aC ?_;intro K hK hX)|refine aJ [0,2,3,5,6,8,10,11,12,23,24,25] ?_|((with_reducible refine aX1 ?_);refine yA ?_;refine bL (sW rfl) rfl ?_)|refine stA ?_|(refine aE hK hX ?_;clear hK hX K)|fail)
 refine aT [12] [0] rfl rfl (fun i:Nat=>[(12,.c (iv i))]) (fun i=>[(0,.tab (aF ktI.kc (C i)))]) (fun i=>i<=n) (fun i=>n-i) 0 (Ah _) (by refine cE rfl ?_ ?_ rfl<;>(repeat' (first|exact bF|exact bG|refine bC rfl (by first|rfl|(first|rfl|(rw [hC0];rfl))|exact zeq) rfl ?_|refine aN rfl (by first|rfl|(first|rfl|(rw [hC0];rfl))|exact zeq) rfl ?_|refine aN rfl (by first|rfl|(first|rfl|(rw [hC0];rfl))) bM ?_))) ?_
 intro i hi K hK hX
 by_cases hlt:i<n
 ·obtain ⟨e,hat⟩:∃e,l[i]? = some e:=⟨_,Aa aA⟩
  have hx:=jA hw hat
  obtain ⟨ow,ok,oz⟩:=hw e (Ac hat)
  have hel:=eR ow
  have hc0:(ecR e)[0+0]? = some (iv e.k):=rfl
  have hc2:(ecR e)[0+2]? = some (iv e.plan):=rfl
  have hs:C (i+1)=if e.k=4 then mJ (C i) e.plan else C i:=by
   rw [<- hC,<- hC,cT hat,Tl.of_snoc]
   unfold Tl.add
   by_cases h4:e.k=4
   ·rw [Al h4,Ak aA,Ak aA,Al h4]
   ·rw [Ak h4]
    split
    ·rfl
    ·split
     ·rfl
     ·split<;>rfl
  generalize ecR e=cs at *
  by_cases h4:e.k=4
  ·rw [Al h4] at hs
   rw [h4] at hc0
   have hs2:aF ktI.kc (mJ (C i) e.plan)=aF ktI.kc (C (i+1)):=by rw [hs]
   repeat' (first|(refine aC ?_;intro K hK hX)|refine aJ [0,2,3,5,6,8,10,11,12,23,24,25] ?_|((with_reducible refine aX ?_);refine yA ?_;refine bL (aW (T:=49) aB rfl rfl rfl) rfl ?_)|((with_reducible refine yJ ?_);refine lF (k:=e.plan) ktI aB aD rfl rfl rfl rfl rfl rfl ztr (fun _ _=>trivial) ?_)|refine cV ?_|refine eT ?_|refine stA ?_|(refine aE hK hX ?_;clear hK hX K)|fail)
   exact ⟨i+1,by omega,by omega,(by refine cE rfl ?_ ?_ rfl<;>(repeat' (first|exact bF|exact bG|refine bC rfl dE6 rfl ?_|refine aN rfl dE6 rfl ?_|refine aN rfl (by first|rfl|(first|rfl|exact congrArg AObj.tab hs2|exact congrArg AObj.tab hs2.symm)) bM ?_)))⟩
  ·rw [Ak h4] at hs
   repeat' (first|(refine aC ?_;intro K hK hX)|refine dA4 ?_|(refine aE hK hX ?_;clear hK hX K)|fail)
   exact ⟨i+1,by omega,by omega,dB9⟩
 have hin0:i=n:=by omega
 rw [hin0]
 clear hlt hi hin0 hC0 hC
 generalize C n=M at *
 repeat' (first|(refine aC ?_;intro K hK hX)|refine aJ [0,2,3,5,6,8,10,11,12,23,24,25] ?_|refine stA ?_|(refine aE hK hX ?_;clear hK hX K)|fail)
 refine fL 6 3 1 rfl ?_
 refine aT [25,6] [1] rfl rfl (fun i:Nat=>[(25,.c (iv i)),(6,.own 1 0 (o i) 1 true)]) (fun i=>[(1,.row 3 (bO .i64 (D i)))]) (fun i=>i<=n) (fun i=>n-i) 0 (Ah _) (by refine cE rfl ?_ ?_ rfl<;>(repeat' (first|exact bF|exact bG|refine bC rfl dD0 rfl ?_|refine aN rfl dD0 rfl ?_|refine aN rfl (by first|rfl|(first|rfl|exact congrArg (fun x=>AV.own 1 0 x 1 true) ho0.symm|exact congrArg (fun x=>AObj.row _ (bO .i64 x)) hD0.symm)) bM ?_))) ?_
 intro i hi K hK hX
 by_cases hlt:i<n
 ·obtain ⟨e,hat⟩:∃e,l[i]? = some e:=⟨_,Aa aA⟩
  have hx:=jA hw hat
  obtain ⟨ow,ok,oz⟩:=hw e (Ac hat)
  have hel:=eR ow
  have hc0:(ecR e)[0+0]? = some (iv e.k):=rfl
  have hc2:(ecR e)[0+2]? = some (iv e.plan):=rfl
  have hs:D (i+1)=D i++if e.k=2/\¬jK l 4 e.plan then [e.plan] else []:=by
   rw [<- hD,<- hD,cT hat,BN,BU]
   by_cases h:e.k=2/\¬jK l 4 e.plan
   ·rw [Al h,Bl,Al (AT h)];rfl
   ·rw [Ak h,Bl,Ak lO];rfl
  have hso:o (i+1)=(D (i+1)).length:=(ho _).symm
  have hoi:=hob i hi
  have hci:=hcl i
  generalize ecR e=cs at *
  by_cases h3:e.k=2
  ·by_cases hp:jK l 4 e.plan
   ·have hmem:=(hCn e.plan).2 hp
    rw [Ak (fun h=>h.2 hp),Ay] at hs
    rw [hs,ho] at hso
    rw [h3] at hc0
    repeat' (first|(refine aC ?_;intro K hK hX)|refine aJ [0,2,3,5,6,8,10,11,12,23,24,25] ?_|((with_reducible refine aX ?_);refine yA ?_;refine bL (aW (T:=49) aB rfl rfl rfl) rfl ?_)|((with_reducible refine gM ?_);refine xA ?_;refine aI (nT (k:=e.plan) ktI aB rfl rfl gP rfl rfl rfl trivial (fun _ _=>trivial) hmem) ?_)|refine cV ?_|refine eT ?_|refine stA ?_|(refine aE hK hX ?_;clear hK hX K)|fail)
    exact ⟨i+1,by omega,by omega,dS2⟩
   ·have hmem:=fun h=>hp ((hCn e.plan).1 h)
    rw [Al ⟨h3,hp⟩] at hs
    rw [hs,Ab,ho] at hso
    have hsc:bO .i64 (D i)++[iv e.plan]=bO .i64 (D (i+1)):=by rw [hs,bF2]
    rw [h3] at hc0
    repeat' (first|(refine aC ?_;intro K hK hX)|refine aJ [0,2,3,5,6,8,10,11,12,23,24,25] ?_|((with_reducible refine aX ?_);refine yA ?_;refine bL (aW (T:=49) aB rfl rfl rfl) rfl ?_)|((with_reducible refine gM ?_);refine xA ?_;refine aI (mL (k:=e.plan) ktI aB rfl rfl gP rfl rfl rfl trivial (fun _ _=>trivial) hmem) ?_)|refine cV ?_|refine eT ?_|refine stA ?_|(refine aE hK hX ?_;clear hK hX K)|fail)
    exact ⟨i+1,by omega,by omega,(by refine eV [0,4] rfl rfl ?_ ?_ rfl rfl<;>(repeat' (first|exact dA|exact cM|refine cP rfl dD8 rfl ?_|refine bP rfl setT_mp bM ?_|refine bP rfl dD8 rfl ?_)))⟩
  ·rw [Ak (fun h=>h3 h.1),Ay] at hs
   rw [hs,ho] at hso
   repeat' (first|(refine aC ?_;intro K hK hX)|refine dA4 ?_|(refine aE hK hX ?_;clear hK hX K)|fail)
   exact ⟨i+1,by omega,by omega,dS2⟩
 ·have hin:i=n:=by omega
  have hoc:=hcl n
  have hLb:=hob n (Ag n)
  rw [hin,hon,hDn] at *
  clear hob hcl ho0 hD0 hD ho hon hDn hin hlt hi
  by_cases h0:L.length=0
  ·have hn0:L=[]:=Aj h0
   have hq0:bO .i64 []=bO .i64 R:=by rw [<- hR,hn0];rfl
   have hqq:0=q:=by rw [<- hq,<- hR,hn0];rfl
   rw [h0,hn0]
   have h1:qC' _ [.sl 1 0 (bO .i64 [])] (.tup []) [] 0:=zQ
   have h2:qC' _ [.sl 1 0 (bO .i64 [])] (.c (.sl 1 0 (bO .i64 []))) [] 0:=bC7
   refine kS (kJ (t:=6) rfl rfl rfl) ?_
   repeat' (first|(refine aC ?_;intro K hK hX)|refine aJ [0,2,3,5,6,8,10,11,12,23,24,25] ?_|(refine dR ?_;first|refine c0 h1 ?_|refine c0 h2 ?_)|refine stA ?_|(refine aE hK hX ?_;clear hK hX K)|fail)
   exact bD8
  ·obtain ⟨m,hm⟩:∃m,L.length=m:=⟨_,rfl⟩
   have h0':0<m:=by omega
   have h1:=aS3 L m hm aA
   have hcp:=bU4 (zP L) m (by rw [nV,hm]) h0' aA
   rw [aS2] at h1 hcp
   rw [pN zM _ hm] at hcp
   rw [hR,hq] at hcp
   have hql:(bO .i64 R).length=q:=by rw [dJ,hq]
   have hsl:(bO .i64 (srtA (fun a b:Int=>a<b) L)).length=m:=by rw [dJ,jE,hm]
   rw [hm]
   have hil:(bO .i64 L).length=m:=by rw [dJ,hm]
   repeat' (first|(refine aC ?_;intro K hK hX)|refine aJ [0,2,3,5,6,8,10,11,12,23,24,25] ?_|((with_reducible refine aH ?_);refine aA4 (h1) aD rfl zby (h0') rfl rfl (rfl) rfl zcv ?_)|((with_reducible refine aH ?_);refine tA (hcp) aD rfl zby (h0') rfl rfl (rfl) rfl zcv ?_)|refine stA ?_|(refine aE hK hX ?_;clear hK hX K)|fail)
   exact dG0
end Go.Proofs.YtbgehdndimlgkaaGreat
