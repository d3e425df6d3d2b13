/- Lemmas for laws of the ledger. -/
import Derived.Test.YtbgehdndimlgkaaGreatP34
set_option linter.all false
set_option maxHeartbeats 16000000
namespace Go.Proofs.YtbgehdndimlgkaaGreat
open Go Go.RowKit Go.Av
set_option maxRecDepth 100000
theorem bC7 (kd:Dr->Dr->Dr):∀(l k:List LEn) (ch:Dr),eP kd ch (l++k)=eP kd ch l++eP kd (l.foldl (fun c e=>kd c (cC e)) ch) k
 | [],k,ch=>rfl
 | e::l,k,ch=>by rw [AE,eP,eP,bC7 kd l k,Ao];rfl
theorem vH (kd:Dr->Dr->Dr) (l:List LEn) (ch:Dr) (i:Nat):(eP kd ch (l.take i)).length<=(eP kd ch l).length:=by
 have h:=bC7 kd (l.take i) (l.drop i) ch
 rw [Bz] at h
 rw [h,Aa]
 omega
theorem aF7 {e:LEn} (hw:e.wf) (hk:aS e.k) (hz:e.sz) (ch:Dr):(eA kdL ch e).length<=100042:=by
 have h1:=mG hw hk hz
 have h2:(kdL ch (cC e)).length=32:=iN _ _
 have h3:=kK (n:=(cC e).length) aA
 unfold eA
 simp only [Aa]
 omega
theorem pB:∀{l:List LEn},OkL l->∀ch,(eP kdL ch l).length<=l.length*100042
 | [],_,_=>by simp [eP]
 | e::l,h,ch=>by
  obtain ⟨h1,h2,h3⟩:=h e aT
  have ha:=aF7 h1 h2 h3 ch
  have hb:=pB (l:=l) (fun x hx=>h x (by simp [hx])) (kdL ch (cC e))
  rw [eP,Aa,As,AL]
  omega
theorem cC1 {α β:Type} (f:β->α->β) (b:β) {l:List α} {i:Nat} {x:α} (h:l[i]? = some x):(l.take (i+1)).foldl f b=f ((l.take i).foldl f b) x:=by
 rw [gG h,CC];rfl
theorem bT9:∀{l:List LEn} {ch:Dr},ch.length=32->(l.foldl (fun c e=>kdL c (cC e)) ch).length=32
 | [],_,h=>h
 | e::l,ch,_=>bT9 (l:=l) (iN _ _)
attribute [local irreducible] Still Adds AWL AW Drw bY bW AC AWR cR Frz Go.Av.Src cQ Out InK ItK AsK RdK eL eF ACT ACA eT lec
theorem aP3 (ch:Dr) (hch:ch.length=32) (e:LEn) (hw:e.wf) (hk:aS e.k) (hz:e.sz) (nv ns:Nat) (hnv:e.vs.length=nv) (hns:e.ss.length=ns) (m:Nat) (hm:(eA kdL ch e).length=m):qC' 65 [.agg (u8c ch),.agg (ecs e nv ns)] (.tup [.c (.sl 1 m (u8c (eA kdL ch e))),.c (.agg (u8c (kdL ch (cC e))))]) [] 0:=by
 have hel:=cI hw.root nv ns
 have hul:(u8c ch).length=32:=by rw [aH,hch]
 obtain ⟨n1,hn1⟩:∃n,(cC e).length=n:=⟨_,rfl⟩
 have hlen:=mG hw hk hz
 rw [hn1] at hlen
 obtain ⟨n2,hn2⟩:∃n,(bA (n1:Int)).length=n:=⟨_,rfl⟩
 have hn2b:=kK (n:=n1) aA
 rw [hn2] at hn2b
 have h1:=aP1 e hw hk nv ns hnv hns n1 hn1 aA
 have h2:=aP4 330#64 ch (cC e) n1 hch hn1 aA
 have hkd:sum 330#64 (ch++cC e)=kdL ch (cC e):=rfl
 rw [hkd] at h2
 have hdl:=iN ch (cC e)
 have hfr:eA kdL ch e=bA (n1:Int)++(cC e++kdL ch (cC e)):=by unfold eA;rw [hn1]
 have hfl:n2+n1+32=m:=by rw [<- hm,hfr,Aa,Aa,hn1,hn2,hdl];omega
 have hfu:u8c (eA kdL ch e)=u8c (bA (n1:Int))++u8c (cC e)++u8c (kdL ch (cC e)):=by rw [hfr,bM,bM,Ao]
 have h3:=jO (n1:Int) ⟨by omega,by omega⟩ n2 hn2
 have h4:=aB9 (kdL ch (cC e)) hdl
 have e1:(u8c (cC e)).length=n1:=by rw [aH,hn1]
 have e2:(u8c (bA (n1:Int))).length=n2:=by rw [aH,hn2]
 have e3:(u8c (kdL ch (cC e))).length=32:=by rw [aH,hdl]
 rw [hfu,<- hfl]
 clear hm hfl hfr hfu hkd
 have hrl:(u8c (bA (n1:Int))++u8c (cC e)++u8c (kdL ch (cC e))).length=(n2+n1+32)*1:=by rw [Aa,Aa];omega
 generalize ecs e nv ns=cs at *
 refine aD aB (sz:=22) Tryz.func65 rfl (by rw [Tryz.ntmps65];rfl) ?_
 repeat' (first|(refine aC ?_;intro K hK hX)|refine aL [0,1,2,3,4,5,6,7] ?_|((with_reducible refine aR (i:=3) ?_);refine aP [0,1,2,3,4,5,6,7] rfl rfl ?_;refine bZ [] ?_)|((with_reducible refine aR ?_);refine aP [0,1,2,3,4,5,6,7] rfl rfl ?_;refine cM [] ?_)|((with_reducible refine bH ?_);refine yA ?_;(first|refine bE (bJ (T:=49) rfl) rfl ?_|refine bE (bJ (T:=28) rfl) rfl ?_))|((first|with_reducible refine aF ?_|with_reducible refine fI ?_|with_reducible refine bP ?_);(first|refine wA ?_|refine wD ?_|refine wE ?_);refine nK (cY (eE zby rfl (h1) zcv rfl) zln) ?_)|((first|with_reducible refine aF ?_|with_reducible refine fI ?_|with_reducible refine bP ?_);(first|refine wA ?_|refine wD ?_|refine wE ?_);refine nK (cY (eE zby rfl (h4) zcv rfl) zln) ?_)|(refine dP ?_;first|refine c0 h2 ?_|refine c1 h3 ?_)|refine stA ?_|refine stD ?_|refine stE ?_|(refine aE hK hX ?_;clear hK hX K)|fail)
 refine cZ zio ztr rfl (ResL.two (ResA.tmp rfl) zrs) (jB (bB zfz (bB zfz cW)))
structure BySt where
 i:Nat
 o:Dr
 c:Dr
 w:Nat
structure ByInv (l:List LEn) (n:Nat) (s:BySt):Prop where
 hi:s.i<=n
 hw:s.o.length=s.w
 ho:s.o=eP kdL root0 (l.take s.i)
 hc:s.c=(l.take s.i).foldl (fun c e=>kdL c (cC e)) root0
theorem tJ (l:List LEn) (n:Nat) (hn:l.length=n) (hb:n<=1000) (ho:OkL l) (m:Nat) (hm:(eP kdL root0 l).length=m):qC' 17 [.sl 65 n (lec l)] (.own 0 0 m 1 true) [(0,.row 5 (u8c (eP kdL root0 l)))] 1:=by
 have hll:(lec l).length=n*65:=by rw [dZ ho,hn]
 have hmb:=pB ho root0
 rw [hm,hn] at hmb
 refine aD aB (sz:=29) Tryz.func17 rfl (by rw [Tryz.ntmps17];rfl) ?_
 repeat' (first|(refine aC ?_;intro K hK hX)|refine aY [0,2,3,4,5,6,7] ?_|refine stA ?_|refine stD ?_|(refine aE hK hX ?_;clear hK hX K)|fail)
 refine cN 2 (fun s:BySt=>[(0,.c (.sl 65 n (lec l))),(3,.own 0 0 s.w 1 true),(4,.ref 1 0),(5,.c (iv s.i))]) (fun s=>[(1,.row 28 (u8c s.c)),(0,.row 5 (u8c s.o))]) [] (ByInv l n) (fun s=>n-s.i) ⟨0,[],root0,0⟩ ⟨Al _,rfl,rfl,rfl⟩ cS ?_
 rintro ⟨i,o,c,w⟩ ⟨hi,hw,hoo,hc⟩ K hK hX
 dsimp only at hi hw hoo hc ⊢
 have hc32:c.length=32:=by rw [hc];exact bT9 rfl
 have hulc:(u8c c).length=32:=by rw [aH,hc32]
 have hulo:=u8l hw
 have hle:=vH kdL l root0 i
 rw [<- hoo,hw,hm] at hle
 by_cases hlt:i<n
 ·obtain ⟨e,hat⟩:∃e,l[i]? = some e:=⟨_,Ab aA⟩
  have hx:=lI ho hat
  obtain ⟨ow,ok,oz⟩:=ho e (Ad hat)
  obtain ⟨j,hj⟩:∃j,(eA kdL c e).length=j:=⟨_,rfl⟩
  have hjl:=aF7 ow ok oz c
  rw [hj] at hjl
  have hf:=aP3 c hc32 e ow ok oz _ _ rfl rfl j hj
  have hulj:=u8l hj
  have hel:=eY ow
  have hst:o++eA kdL c e=eP kdL root0 (l.take (i+1)):=by rw [hoo,gG hat,cC2,hc]
  have hcn:kdL c (cC e)=(l.take (i+1)).foldl (fun c e=>kdL c (cC e)) root0:=by rw [cC1 _ _ hat,hc]
  have hdl:(u8c (kdL c (cC e))).length=32:=by rw [aH];exact iN _ _
  have hNx:ByInv l n ⟨i+1,o++eA kdL c e,kdL c (cC e),w+j⟩:=⟨by simp only;omega,by simp only [Aa];omega,hst,hcn⟩
  have hap:=bM o (eA kdL c e)
  change AC _ _ [_,.agg (ecR e)] _ _ _ at hf
  clear hst hcn hoo hc
  generalize ecR e=cs at *
  repeat' (first|(refine aC ?_;intro K hK hX)|refine aL [0,2,3,4,5,6,7] ?_|((with_reducible refine aR (i:=6) ?_);refine aP [0,2,3,4,5,6,7] rfl rfl ?_;refine bZ [] ?_)|((with_reducible refine aR ?_);refine aP [0,2,3,4,5,6,7] rfl rfl ?_;refine cM [] ?_)|(refine dP ?_;refine c0 hf ?_)|refine fX ?_|refine stA ?_|refine stD ?_|refine stE ?_|(refine aE hK hX ?_;clear hK hX K)|fail)
  exact ⟨_,hNx,by simp only;omega,(by refine fR [3,1] rfl rfl ?_ ?_ rfl rfl<;>(repeat' (first|exact dU|exact dB|refine dD rfl dY0 rfl ?_|refine cB rfl dY0 rfl ?_)))⟩
 ·have hin:i=n:=by omega
  have ht:l.take i=l:=Ae aA
  rw [ht] at hoo
  have hwm:w=m:=by rw [<- hw,hoo,hm]
  rw [hwm,hoo]
  repeat' (first|(refine aC ?_;intro K hK hX)|refine aY [0,2,3,4,5,6,7] ?_|refine stA ?_|refine stD ?_|(refine aE hK hX ?_;clear hK hX K)|fail)
  exact aV
end Go.Proofs.YtbgehdndimlgkaaGreat
