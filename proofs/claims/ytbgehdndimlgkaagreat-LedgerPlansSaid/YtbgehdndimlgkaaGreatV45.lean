/- Lemmas for laws of the ledger. -/
import Derived.Shelf.SortM.Plain
import Derived.Shelf.SortM.SortNone
import Derived.Test.YtbgehdndimlgkaaGreatV42
set_option linter.all false
set_option maxHeartbeats 16000000
namespace Go.Proofs.YtbgehdndimlgkaaGreat
open Go.Shelf Go.Proofs
def Tryz.srtI_ren:Go.Shelf.Ren:=⟨fun|5=>105|8=>155|7=>161|19=>195|20=>196|10=>206|11=>207|12=>208|13=>209|14=>210|15=>211|16=>212|17=>213|18=>214|30=>240|31=>233|32=>234|33=>241|34=>242|35=>197|40=>253|n=>n,fun|23=>84|25=>3|3=>3|32=>33|22=>84|0=>0|44=>212|46=>120|4=>4|36=>205|35=>204|41=>209|5=>5|9=>9|53=>239|57=>243|63=>253|64=>254|n=>n,fun|n=>n⟩
theorem Tryz.srtI:Go.Proofs.SlLaysM.n5 Tryz.prog Tryz.srtI_ren:={
 mixed:=by kernel_rfl
 f5:=⟨Tryz.f105.name,by decide,Tryz.func105.trans (congrArg some aT)⟩
 f7:=⟨Tryz.f161.name,by decide,Tryz.func161.trans (congrArg some aT)⟩
 f8:=Tryz.func155.trans (congrArg some aT)
 f10:=⟨Tryz.f206.name,by decide,Tryz.func206.trans (congrArg some aT)⟩
 f11:=⟨Tryz.f207.name,by decide,Tryz.func207.trans (congrArg some aT)⟩
 f12:=⟨Tryz.f208.name,by decide,Tryz.func208.trans (congrArg some aT)⟩
 f13:=⟨Tryz.f209.name,by decide,Tryz.func209.trans (congrArg some aT)⟩
 f14:=⟨Tryz.f210.name,by decide,Tryz.func210.trans (congrArg some aT)⟩
 f15:=⟨Tryz.f211.name,by decide,Tryz.func211.trans (congrArg some aT)⟩
 f16:=⟨Tryz.f212.name,by decide,Tryz.func212.trans (congrArg some aT)⟩
 f17:=⟨Tryz.f213.name,by decide,Tryz.func213.trans (congrArg some aT)⟩
 f18:=⟨Tryz.f214.name,by decide,Tryz.func214.trans (congrArg some aT)⟩
 f19:=Tryz.func195.trans (congrArg some aT)
 f20:=Tryz.func196.trans (congrArg some aT)
 f30:=⟨Tryz.f240.name,by decide,Tryz.func240.trans (congrArg some aT)⟩
 f31:=Tryz.func233.trans (congrArg some aT)
 f32:=Tryz.func234.trans (congrArg some aT)
 f33:=⟨Tryz.f241.name,by decide,Tryz.func241.trans (congrArg some aT)⟩
 f34:=⟨Tryz.f242.name,by decide,Tryz.func242.trans (congrArg some aT)⟩
 f35:=⟨Tryz.f197.name,by decide,Tryz.func197.trans (congrArg some aT)⟩
 f40:=⟨Tryz.f253.name,by decide,Tryz.func253.trans (congrArg some aT)⟩
 t0:=Tryz.underlying0
 a0:=Tryz.isAgg0
 z0:=Tryz.sizeOf0
 v0:=Tryz.zeroValue0
 t3:=Tryz.underlying3
 a3:=Tryz.isAgg3
 z3:=Tryz.sizeOf3
 v3:=Tryz.zeroValue3
 t4:=Tryz.underlying4
 a4:=Tryz.isAgg4
 z4:=Tryz.sizeOf4
 v4:=Tryz.zeroValue4
 t5:=Tryz.underlying5
 a5:=Tryz.isAgg5
 z5:=Tryz.sizeOf5
 v5:=Tryz.zeroValue5
 t9:=Tryz.underlying9
 a9:=Tryz.isAgg9
 z9:=Tryz.sizeOf9
 v9:=Tryz.zeroValue9
 t22:=Tryz.underlying84
 a22:=Tryz.isAgg84
 z22:=Tryz.sizeOf84
 v22:=Tryz.zeroValue84
 t23:=Tryz.underlying84
 a23:=Tryz.isAgg84
 z23:=Tryz.sizeOf84
 v23:=Tryz.zeroValue84
 t25:=Tryz.underlying3
 a25:=Tryz.isAgg3
 z25:=Tryz.sizeOf3
 v25:=Tryz.zeroValue3
 t32:=Tryz.underlying33
 a32:=Tryz.isAgg33
 z32:=Tryz.sizeOf33
 v32:=Tryz.zeroValue33
 t35:=Tryz.underlying204
 a35:=Tryz.isAgg204
 z35:=Tryz.sizeOf204
 v35:=Tryz.zeroValue204
 t36:=Tryz.underlying205
 a36:=Tryz.isAgg205
 z36:=Tryz.sizeOf205
 v36:=Tryz.zeroValue205
 t41:=Tryz.underlying209
 a41:=Tryz.isAgg209
 z41:=Tryz.sizeOf209
 v41:=Tryz.zeroValue209
 t44:=Tryz.underlying212
 a44:=Tryz.isAgg212
 z44:=Tryz.sizeOf212
 v44:=Tryz.zeroValue212
 t46:=Tryz.underlying120
 a46:=Tryz.isAgg120
 z46:=Tryz.sizeOf120
 v46:=Tryz.zeroValue120
 t53:=Tryz.underlying239
 a53:=Tryz.isAgg239
 z53:=Tryz.sizeOf239
 v53:=Tryz.zeroValue239
 t57:=Tryz.underlying243
 a57:=Tryz.isAgg243
 z57:=Tryz.sizeOf243
 v57:=Tryz.zeroValue243
 t63:=Tryz.underlying253
 a63:=Tryz.isAgg253
 z63:=Tryz.sizeOf253
 v63:=Tryz.zeroValue253
 t64:=Tryz.underlying254
 a64:=Tryz.isAgg254
 z64:=Tryz.sizeOf254
 v64:=Tryz.zeroValue254}
end Go.Proofs.YtbgehdndimlgkaaGreat
namespace Go.Proofs.YtbgehdndimlgkaaGreat
open Go Go.RowKit Go.Av
set_option maxRecDepth 100000
attribute [local irreducible] Still Adds AWL AW Drw bN bP AC AWR cM Frz Go.Av.Src dB Out InK ItK AsK RdK eA dZ ACT ACS cD1 ACP bC4
theorem dA0 (l:List Int) (n:Nat) (hn:l.length=n) (h0:0<n) (hnn:n<=1000000)  : ACP Tryz.prog 106 3 1 n [] (cH .i64 l) [] (cH .i64 (cpA l n)) (cpA l n).length:=by
 have hvl:(cH .i64 l).length=n*1:=by rw [bT4,hn]
 by_cases n1:n=1
 ·have hc:cpA l n=l:=by rw [n1];exact vF aA
  rw [hc,hn]
  subst n1
  refine oS aB (sz:=61) Tryz.func106 rfl (by rw [Tryz.ntmps106];rfl) (h0) ?_
  repeat' (first|(refine aC ?_;intro K hK hX)|refine sW ?_|(refine aH hK hX ?_;clear hK hX K)|fail)
  exact aX2
 ·refine oS aB (sz:=61) Tryz.func106 rfl (by rw [Tryz.ntmps106];rfl) (h0) ?_
  repeat' (first|(refine aC ?_;intro K hK hX)|refine sW ?_|(refine aH hK hX ?_;clear hK hX K)|fail)
  refine cA [3,4,5] [0] rfl rfl (fun k:Nat=>[(3,.c (iv k))]) (fun k=>[(0,.row 3 (cH .i64 l))]) (fun k=>1<=k/\k<=n/\(cpA l k).length=k/\rwA l k=l) (fun k=>n-k) 1 ⟨Ae _,by omega,aV3 aA,bA7 aA⟩ gV ?_
  rintro k ⟨hk1,hk,hkl,hkr⟩ K hK hX
  (try dsimp only at *)
  by_cases hlt:k<n
  ·obtain ⟨x,hat⟩:∃x,l[k]? = some x:=⟨_,Ab aA⟩
   obtain ⟨y,hay⟩:∃y,l[k-1]? = some y:=⟨_,Ab aA⟩
   have hx:=aI3 hat
   have hy:=aI3 hay
   by_cases heq:x=y
   ·have hbxy:(true:Bool)=true↔x=y:=⟨fun _=>heq,fun _=>rfl⟩
    obtain ⟨s1,s2⟩:=rL (l:=l) (m:=k) aA (by rw [hat,hay,heq])
    repeat' (first|(refine aC ?_;intro K hK hX)|refine cZ9 ?_|(refine aH hK hX ?_;clear hK hX K)|fail)
    refine cA [3,5] [0] rfl rfl (fun m:Nat=>[(3,.c (iv (cpA l m).length)),(5,.c (iv (m-k:Nat)))]) (fun m=>[(0,.row 3 (cH .i64 (rwA l m)))]) (fun m=>k+1<=m/\m<=n/\(cpA l m).length<m) (fun m=>n-m) (k+1) ⟨Ae _,by omega,by rw [s1,hkl];omega⟩ (by refine cZ rfl ?_ ?_ rfl<;>(repeat' (first|exact cB|exact cC|refine bQ rfl cT7 rfl ?_|refine aQ rfl cT7 rfl ?_|refine aQ rfl (by first|rfl|(first|exact congrArg (fun x:Nat=>AV.c (iv x)) (by rw [s1,hkl])|exact congrArg (fun x:Nat=>AV.c (iv x)) aA|exact congrArg (fun x=>AObj.row _ (cH .i64 x)) (by rw [s2,hkr]))) cD ?_))) ?_
    rintro m ⟨hm1,hm,hml⟩ K hK hX
    (try dsimp only at *)
    clear hx hy hbxy heq hat hay s1 s2 hkl hkr
    have hrl:=xB (l:=l) (m:=m) aA
    have hri:(cH .i64 (rwA l m)).length=n*1:=by rw [bT4,hrl,hn]
    by_cases hlt2:m<n
    ·obtain ⟨x,hat⟩:∃x,l[m]? = some x:=⟨_,Ab aA⟩
     obtain ⟨y,hay⟩:∃y,l[m-1]? = some y:=⟨_,Ab aA⟩
     have hat2:=hat
     have hay2:=hay
     rw [<- bY3 (m:=m) aA] at hat2 hay2
     have hx:=aI3 hat2
     have hy:=aI3 hay2
     by_cases heq2:x=y
     ·have hbxy:(true:Bool)=true↔x=y:=⟨fun _=>heq2,fun _=>rfl⟩
      obtain ⟨t1,t2⟩:=rL (l:=l) (m:=m) aA (by rw [hat,hay,heq2])
      have t3:(cpA l (m+1)).length<m+1:=by rw [t1];omega
      repeat' (first|(refine aC ?_;intro K hK hX)|refine cZ9 ?_|(refine aH hK hX ?_;clear hK hX K)|fail)
      exact ⟨m+1,⟨by omega,by omega,by omega⟩,by omega,(by refine cZ rfl ?_ ?_ rfl<;>(repeat' (first|exact cB|exact cC|refine bQ rfl cT2 rfl ?_|refine aQ rfl cT2 rfl ?_|refine aQ rfl (by first|rfl|(first|rfl|exact congrArg (fun x:Nat=>AV.c (iv x)) (by rw [t1])|exact congrArg (fun x:Nat=>AV.c (iv x)) aA|exact congrArg (fun x:Int=>AV.c (iv x)) aA|exact congrArg (fun x=>AObj.row _ (cH .i64 x)) t2.symm)) cD ?_)))⟩
     ·have hbxy:(false:Bool)=true↔x=y:=⟨fun h=>kB,fun h=>absurd h heq2⟩
      obtain ⟨t1,t2⟩:=wZ (l:=l) (m:=m) hat (fun h=>heq2 aV8)
      obtain ⟨c,hc⟩:∃c,(cpA l m).length=c:=⟨_,rfl⟩
      rw [hc] at t1 t2 hml ⊢
      have hset:(cH .i64 (rwA l m)).set (0+c*1) (iv x)=cH .i64 (rwA l (m+1)):=by
       rw [Al,A4,t2,dC2]
      repeat' (first|(refine aC ?_;intro K hK hX)|refine bS [0,2,3,4,5] ?_|((first|((with_reducible refine cG ?_);refine xA ?_)|((with_reducible refine eD ?_);refine xD ?_));(first|((with_reducible refine gJ ?_);(first|refine aG (jN aB rfl rfl rfl rfl aG2) ?_|refine aG (iD aB rfl rfl rfl rfl aG2) ?_|refine aG (iC aB rfl rfl rfl aG2) ?_))|((with_reducible refine e_ix ?_);(first|refine aG (s_ixV1 aB rfl rfl zcj rfl rfl rfl rfl rfl zle aG2) ?_|refine aG (s_ixStr aB rfl rfl zcj rfl rfl aG2) ?_))))|((with_reducible refine jH ?_);(refine fG aB aE rfl rfl rfl rfl rfl rfl aG3 ?_))|refine stA ?_|refine stD ?_|(refine aH hK hX ?_;clear hK hX K)|fail)
      exact ⟨m+1,⟨by omega,by omega,by omega⟩,by omega,dH9⟩
    ·have hmn:m=n:=by omega
     rw [hmn] at hri hml ⊢
     have htk:=aK3 (l:=l) (m:=n)
     have hfm:(cH .i64 (rwA l n)).take ((cpA l n).length*1)=cH .i64 ((rwA l n).take (cpA l n).length):=by rw [cW8,cW8];exact aB2 (f:=i1) (k:=1) (fun _=>rfl) (rwA l n) (cpA l n).length
     rw [htk] at hfm
     repeat' (first|(refine aC ?_;intro K hK hX)|refine bS [0,2,3,4,5] ?_|((with_reducible refine sL ?_);refine uV aB aE rfl rfl rfl (size:=1) rfl rfl rfl rfl rfl aA aA ?_)|refine stA ?_|refine stD ?_|(refine aH hK hX ?_;clear hK hX K)|fail)
     exact cV9
   ·have hbxy:(false:Bool)=true↔x=y:=⟨fun h=>kB,fun h=>absurd h heq⟩
    obtain ⟨s1,s2⟩:=wY (l:=l) (m:=k) hat hkl (fun h=>heq aV8) hkr
    clear hkl hkr
    repeat' (first|(refine aC ?_;intro K hK hX)|refine cZ9 ?_|(refine aH hK hX ?_;clear hK hX K)|fail)
    exact ⟨k+1,⟨by omega,by omega,s1,s2⟩,by omega,dI1⟩
  ·have hkn:k=n:=by omega
   rw [hkn] at hkl hkr
   have hcl:=sY hn hkl hkr
   clear hkl hkr
   repeat' (first|(refine aC ?_;intro K hK hX)|refine sW ?_|(refine aH hK hX ?_;clear hK hX K)|fail)
   rw [hcl,hn]
   exact aX2
end Go.Proofs.YtbgehdndimlgkaaGreat
namespace Go.Proofs.YtbgehdndimlgkaaGreat
open Go Go.RowKit Go.Av Go.Sort
set_option maxRecDepth 100000
def zR (l:List Int):List Int:=l.mergeSort fun x y=>decide (x<=y)
theorem cA4 (l:List Int):zR l=srtA (fun a b:Int=>a<b) l:=by
 unfold zR srtA
 congr 1
 funext x y
 exact CQ.2 aA
theorem rR (l:List Int):(zR l).length=l.length:=(List.mergeSort_perm l _).length_eq
theorem cA5 (l:List Int) (n:Nat) (hn:l.length=n) (hb:n<=1000000):ACS Tryz.prog 105 3 1 n (cH .i64 l) [] (cH .i64 (zR l)) (.tup []) :=
 bJ9 (Value.int .i64) (fun _=>rfl) l (zR l) n hn (by rw [rR,hn]) fun blk cap w hH hb'=>by
  have h:=Go.Proofs.AnyM.slices_Sort_int Tryz.srtI blk 0 cap l w hH hb' aA
  rw [hn] at h
  exact h
theorem aS7:qC' 105 [.sl 1 0 []] (.tup []) [] 0:=by
 intro ok w vs hvs
 simp only [RepCs,RepC] at hvs
 obtain ⟨u,us',rfl,⟨A,c,us,rfl,_⟩,rfl⟩:=hvs
 have h:=Go.Proofs.AnyM.slices_Sort_int_none Tryz.srtI A c w
 refine h.mono ?_
 rintro e w' ⟨rfl,rfl⟩
 exact ⟨_,fun _=>none,rfl,⟨FrB.refl _ _,fun id o hid _=>absurd hid kA,fun id id' o o' g h1=>absurd h1 kA,fun id o g hid=>absurd hid kA⟩,[],rfl,rfl⟩
theorem aY5 (l:List Int) (x:Int):cH .i64 l++[iv x]=cH .i64 (l++[x]):=by simp [cH]
attribute [local irreducible] Still Adds AWL AW Drw bN bP AC AWR cM Frz Go.Av.Src dB Out InK ItK AsK RdK eA dZ ACT ACS cD1 ACP bC4 lec
theorem cF3:qC' 106 [.sl 1 0 []] (.c (.sl 1 0 [])) [] 0:=by
 refine aJ aB (sz:=61) Tryz.func106 rfl (by rw [Tryz.ntmps106];rfl) ?_
 repeat' (first|(refine aC ?_;intro K hK hX)|refine sW ?_|(refine aH hK hX ?_;clear hK hX K)|fail)
 exact cJ
open Classical in
theorem cP7 (l:List LEn) (n:Nat) (hn:l.length=n) (hb:n<=1000) (hw:OkL l) (q:Nat) (hq:(unfi l).length=q):qC' 40 [.sl 65 n (lec l)] (.c (.sl 1 q (cH .i64 (unfi l)))) [] 0:=by
 have hll:(lec l).length=n*65:=by rw [gT hw,hn]
 obtain ⟨R,hR⟩:∃R,unfi l=R:=⟨_,rfl⟩
 rw [hR] at hq ⊢
 obtain ⟨C,hC⟩:∃C:Nat->List Int,∀i,(Tl.of (l.take i)).co=C i:=⟨_,fun _=>rfl⟩
 have hC0:C 0=[]:=by rw [<- hC];rfl
 have hCn:∀p,p∈C n↔dV l 4 p:=fun p=>by rw [<- hC,Ah aA];exact (xP l).co p
 obtain ⟨D,hD⟩:∃D:Nat->List Int,∀i,((l.take i).filter fun e=>decide (e.k=2/\¬dV l 4 e.plan)).map (·.plan)=D i:=⟨_,fun _=>rfl⟩
 obtain ⟨o,ho⟩:∃o:Nat->Nat,∀i,(D i).length=o i:=⟨_,fun _=>rfl⟩
 obtain ⟨L,hL⟩:∃L,(l.filter fun e=>decide (e.k=2/\¬dV l 4 e.plan)).map (·.plan)=L:=⟨_,rfl⟩
 have hDn:D n=L:=by rw [<- hD,Ah aA,hL]
 have hon:o n=L.length:=by rw [<- ho,hDn]
 have hD0:D 0=[]:=by rw [<- hD];rfl
 have ho0:o 0=0:=by rw [<- ho,hD0];rfl
 have hR:ascL (fun a b:Int=>a<b) L=R:=by rw [<- hR,<- hL];rfl
 have hob:∀i,i<=n->o i<=i:=fun i hi=>by
  rw [<- ho,<- hD,Bb]
  have:=C0 (fun e:LEn=>decide (e.k=2/\¬dV l 4 e.plan)) (l.take i)
  rw [A1] at this
  omega
 have hcl:∀i,(cH .i64 (D i)).length=o i:=fun i=>by rw [fJ,ho]
 refine aJ aB (sz:=49) Tryz.func40 rfl (by rw [Tryz.ntmps40];rfl) ?_
 repeat' (first|(refine aC ?_;intro K hK hX)|refine aM [0,2,3,5,6,8,10,11,12,23,24,25] ?_|((with_reducible refine aB8 ?_);refine yA ?_;refine bG (oR rfl) rfl ?_)|refine stA ?_|(refine aH hK hX ?_;clear hK hX K)|fail)
 refine cA [12] [0] rfl rfl (fun i:Nat=>[(12,.c (iv i))]) (fun i=>[(0,.tab (aD ktI.kc (C i)))]) (fun i=>i<=n) (fun i=>n-i) 0 (An _) (by refine cZ rfl ?_ ?_ rfl<;>(repeat' (first|exact cB|exact cC|refine bQ rfl (by first|rfl|(first|rfl|(rw [hC0];rfl))|exact zeq) rfl ?_|refine aQ rfl (by first|rfl|(first|rfl|(rw [hC0];rfl))|exact zeq) rfl ?_|refine aQ rfl (by first|rfl|(first|rfl|(rw [hC0];rfl))) cD ?_))) ?_
 intro i hi K hK hX
 by_cases hlt:i<n
 ·obtain ⟨e,hat⟩:∃e,l[i]? = some e:=⟨_,Ab aA⟩
  have hx:=mT hw hat
  obtain ⟨ow,ok,oz⟩:=hw e (Ag hat)
  have hel:=eX ow
  have hc0:(ecR e)[0+0]? = some (iv e.k):=rfl
  have hc2:(ecR e)[0+2]? = some (iv e.plan):=rfl
  have hs:C (i+1)=if e.k=4 then lQ (C i) e.plan else C i:=by
   rw [<- hC,<- hC,eK hat,Tl.of_snoc]
   unfold Tl.add
   by_cases h4:e.k=4
   ·rw [Aj h4,Af aA,Af aA,Aj h4]
   ·rw [Af h4]
    split
    ·rfl
    ·split
     ·rfl
     ·split<;>rfl
  generalize ecR e=cs at *
  by_cases h4:e.k=4
  ·rw [Aj h4] at hs
   rw [h4] at hc0
   have hs2:aD ktI.kc (lQ (C i) e.plan)=aD ktI.kc (C (i+1)):=by rw [hs]
   repeat' (first|(refine aC ?_;intro K hK hX)|refine aM [0,2,3,5,6,8,10,11,12,23,24,25] ?_|((with_reducible refine bA ?_);refine yA ?_;refine bG (aW (T:=49) aB rfl rfl rfl) rfl ?_)|((with_reducible refine wJ ?_);refine kP (k:=e.plan) ktI aB aE rfl rfl rfl rfl rfl rfl ztr (fun _ _=>trivial) ?_)|refine fN ?_|refine gW ?_|refine stA ?_|(refine aH hK hX ?_;clear hK hX K)|fail)
   exact ⟨i+1,by omega,by omega,(by refine cZ rfl ?_ ?_ rfl<;>(repeat' (first|exact cB|exact cC|refine bQ rfl cU6 rfl ?_|refine aQ rfl cU6 rfl ?_|refine aQ rfl (by first|rfl|(first|rfl|exact congrArg AObj.tab hs2|exact congrArg AObj.tab hs2.symm)) cD ?_)))⟩
  ·rw [Af h4] at hs
   repeat' (first|(refine aC ?_;intro K hK hX)|refine cS0 ?_|(refine aH hK hX ?_;clear hK hX K)|fail)
   exact ⟨i+1,by omega,by omega,(by refine cZ rfl ?_ ?_ rfl<;>(repeat' (first|exact cB|exact cC|refine bQ rfl (by first|rfl|(first|rfl|(rw [hs]))|exact zeq) rfl ?_|refine aQ rfl (by first|rfl|(first|rfl|(rw [hs]))|exact zeq) rfl ?_|refine aQ rfl (by first|rfl|(first|rfl|(rw [hs]))) cD ?_)))⟩
 have hin0:i=n:=by omega
 rw [hin0]
 clear hlt hi hin0 hC0 hC
 generalize C n=M at *
 repeat' (first|(refine aC ?_;intro K hK hX)|refine aM [0,2,3,5,6,8,10,11,12,23,24,25] ?_|refine stA ?_|(refine aH hK hX ?_;clear hK hX K)|fail)
 refine oU 6 3 1 rfl ?_
 refine cA [25,6] [1] rfl rfl (fun i:Nat=>[(25,.c (iv i)),(6,.own 1 0 (o i) 1 true)]) (fun i=>[(1,.row 3 (cH .i64 (D i)))]) (fun i=>i<=n) (fun i=>n-i) 0 (An _) (by refine cZ rfl ?_ ?_ rfl<;>(repeat' (first|exact cB|exact cC|refine bQ rfl cT9 rfl ?_|refine aQ rfl cT9 rfl ?_|refine aQ rfl (by first|rfl|(first|rfl|exact congrArg (fun x=>AV.own 1 0 x 1 true) ho0.symm|exact congrArg (fun x=>AObj.row _ (cH .i64 x)) hD0.symm)) cD ?_))) ?_
 intro i hi K hK hX
 by_cases hlt:i<n
 ·obtain ⟨e,hat⟩:∃e,l[i]? = some e:=⟨_,Ab aA⟩
  have hx:=mT hw hat
  obtain ⟨ow,ok,oz⟩:=hw e (Ag hat)
  have hel:=eX ow
  have hc0:(ecR e)[0+0]? = some (iv e.k):=rfl
  have hc2:(ecR e)[0+2]? = some (iv e.plan):=rfl
  have hs:D (i+1)=D i++if e.k=2/\¬dV l 4 e.plan then [e.plan] else []:=by
   rw [<- hD,<- hD,eK hat,BK,BQ]
   by_cases h:e.k=2/\¬dV l 4 e.plan
   ·rw [Aj h,Bi,Aj (AU h)];rfl
   ·rw [Af h,Bi,Af nS];rfl
  have hso:o (i+1)=(D (i+1)).length:=(ho _).symm
  have hoi:=hob i hi
  have hci:=hcl i
  generalize ecR e=cs at *
  by_cases h3:e.k=2
  ·by_cases hp:dV l 4 e.plan
   ·have hmem:=(hCn e.plan).2 hp
    rw [Af (fun h=>h.2 hp),A2] at hs
    rw [hs,ho] at hso
    rw [h3] at hc0
    repeat' (first|(refine aC ?_;intro K hK hX)|refine aM [0,2,3,5,6,8,10,11,12,23,24,25] ?_|((with_reducible refine bA ?_);refine yA ?_;refine bG (aW (T:=49) aB rfl rfl rfl) rfl ?_)|((with_reducible refine fQ ?_);refine xA ?_;refine aG (mY (k:=e.plan) ktI aB rfl rfl fU rfl rfl rfl trivial (fun _ _=>trivial) hmem) ?_)|refine fN ?_|refine gW ?_|refine stA ?_|(refine aH hK hX ?_;clear hK hX K)|fail)
    exact ⟨i+1,by omega,by omega,dI0⟩
   ·have hmem:=fun h=>hp ((hCn e.plan).1 h)
    rw [Aj ⟨h3,hp⟩] at hs
    rw [hs,Aa,ho] at hso
    have hsc:cH .i64 (D i)++[iv e.plan]=cH .i64 (D (i+1)):=by rw [hs,aY5]
    rw [h3] at hc0
    repeat' (first|(refine aC ?_;intro K hK hX)|refine aM [0,2,3,5,6,8,10,11,12,23,24,25] ?_|((with_reducible refine bA ?_);refine yA ?_;refine bG (aW (T:=49) aB rfl rfl rfl) rfl ?_)|((with_reducible refine fQ ?_);refine xA ?_;refine aG (lS (k:=e.plan) ktI aB rfl rfl fU rfl rfl rfl trivial (fun _ _=>trivial) hmem) ?_)|refine fN ?_|refine gW ?_|refine stA ?_|(refine aH hK hX ?_;clear hK hX K)|fail)
    exact ⟨i+1,by omega,by omega,(by refine iG [0,4] rfl rfl ?_ ?_ rfl rfl<;>(repeat' (first|exact eO|exact dL|refine dY rfl cU2 rfl ?_|refine bY rfl setT_mp cD ?_|refine bY rfl cU2 rfl ?_)))⟩
  ·rw [Af (fun h=>h3 h.1),A2] at hs
   rw [hs,ho] at hso
   repeat' (first|(refine aC ?_;intro K hK hX)|refine cS0 ?_|(refine aH hK hX ?_;clear hK hX K)|fail)
   exact ⟨i+1,by omega,by omega,dI0⟩
 ·have hin:i=n:=by omega
  have hoc:=hcl n
  have hLb:=hob n (Ae n)
  rw [hin,hon,hDn] at *
  clear hob hcl ho0 hD0 hD ho hon hDn hin hlt hi
  by_cases h0:L.length=0
  ·have hn0:L=[]:=Ai h0
   have hq0:cH .i64 []=cH .i64 R:=by rw [<- hR,hn0];rfl
   have hqq:0=q:=by rw [<- hq,<- hR,hn0];rfl
   rw [h0,hn0]
   have h1:qC' _ [.sl 1 0 (cH .i64 [])] (.tup []) [] 0:=aS7
   have h2:qC' _ [.sl 1 0 (cH .i64 [])] (.c (.sl 1 0 (cH .i64 []))) [] 0:=cF3
   refine lC (lB (t:=6) rfl rfl rfl) ?_
   repeat' (first|(refine aC ?_;intro K hK hX)|refine aM [0,2,3,5,6,8,10,11,12,23,24,25] ?_|(refine eS ?_;first|refine c0 h1 ?_|refine c0 h2 ?_)|refine stA ?_|(refine aH hK hX ?_;clear hK hX K)|fail)
   exact cW0
  ·obtain ⟨m,hm⟩:∃m,L.length=m:=⟨_,rfl⟩
   have h0':0<m:=by omega
   have h1:=cA5 L m hm aA
   have hcp:=dA0 (zR L) m (by rw [rR,hm]) h0' aA
   rw [cA4] at h1 hcp
   rw [aV4 cY4 _ hm] at hcp
   rw [hR,hq] at hcp
   have hql:(cH .i64 R).length=q:=by rw [fJ,hq]
   have hsl:(cH .i64 (srtA (fun a b:Int=>a<b) L)).length=m:=by rw [fJ,lK,hm]
   rw [hm]
   have hil:(cH .i64 L).length=m:=by rw [fJ,hm]
   repeat' (first|(refine aC ?_;intro K hK hX)|refine aM [0,2,3,5,6,8,10,11,12,23,24,25] ?_|((with_reducible refine aF ?_);refine bD3 (h1) aE rfl zby (h0') rfl rfl (rfl) rfl zcv ?_)|((with_reducible refine aF ?_);refine yC (hcp) aE rfl zby (h0') rfl rfl (rfl) rfl zcv ?_)|refine stA ?_|(refine aH hK hX ?_;clear hK hX K)|fail)
   refine cX zio ztr rfl (ResL.one (ResA.tmp rfl)) (aZ3 (gK rfl rfl (by rw [hql,A4])))
end Go.Proofs.YtbgehdndimlgkaaGreat
