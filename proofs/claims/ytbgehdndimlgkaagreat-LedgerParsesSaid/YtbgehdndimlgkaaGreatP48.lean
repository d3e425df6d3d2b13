/- Lemmas for laws of the ledger. -/
import Derived.Test.YtbgehdndimlgkaaGreatP35
import Derived.Test.YtbgehdndimlgkaaGreatP46
set_option linter.all false
set_option maxHeartbeats 16000000
namespace Go.Proofs.YtbgehdndimlgkaaGreat
open Go Go.RowKit Go.Av
set_option maxRecDepth 100000
section
abbrev tRd:=109
attribute [local irreducible] Still Adds AWL AW Drw bY bW AC AWR cR Frz Go.Av.Src cQ Out InK ItK AsK RdK eL eF ACT ACA eT aY1
section
variable (m:Nat) (hmb:m<=1000000000) (B:D8) (hB:B.length=m) (H:D8) (hH:H.length=32) (n:Int) (hn:aS n) (m1:Nat)
include m hmb B hB H hH n hn m1
theorem fC6 (B1:D8) (hB1:B1.length=m1) (e1:Int) (he:e1≠0) (a1:ACT Tryz.prog 122 109 [.sl 1 m B,iv 0] [] [.sl 1 m1 B1,iv e1] (iv n)):qC' 64 [.sl 1 m B,.agg H] (.tup [.c (.agg (ecs en0 0 0)),.c (iv 0),.c (.agg H),.c (bv false)]) [] 0:=by
 dsimp only [ecs,en0,lk0,hd0,iT,rq0,Vl.nul] at *
 refine fK aB (sz:=88) Tryz.func64 rfl rR ?_
 repeat' (first|(refine aC ?_;intro K hK hX)|refine eE6 ?_|(refine aE hK hX ?_;clear hK hX K)|fail)
 exact yP
theorem fC7 (hm1:m1<=1000000000) (B1:D8) (hB1:B1.length=m1) (h2:n<0\/(m1:Int)<n) (a1:ACT Tryz.prog 122 109 [.sl 1 m B,iv 0] [] [.sl 1 m1 B1,iv 0] (iv n)):qC' 64 [.sl 1 m B,.agg H] (.tup [.c (.agg (ecs en0 0 0)),.c (iv 0),.c (.agg H),.c (bv false)]) [] 0:=by
 dsimp only [ecs,en0,lk0,hd0,iT,rq0,Vl.nul] at *
 by_cases h3:n<0
 ·skip
  refine fK aB (sz:=88) Tryz.func64 rfl rR ?_
  repeat' (first|(refine aC ?_;intro K hK hX)|refine eE6 ?_|(refine aE hK hX ?_;clear hK hX K)|fail)
  exact yP
 ·have h4:(m1:Int)<n:=by omega
  refine fK aB (sz:=88) Tryz.func64 rfl rR ?_
  repeat' (first|(refine aC ?_;intro K hK hX)|refine eE6 ?_|(refine aE hK hX ?_;clear hK hX K)|fail)
  exact yP
end
structure OnC (m m1 m2 m3 m4 k:Nat) (B H B1 C B2 B3 D B4 cs:D8) (n e3 e4:Int):Prop where
 hmb:m<=1000000000
 hB:B.length=m
 hH:H.length=32
 hn:aS n
 h0:0<=n
 h1:n<=m1
 hm1:m1<=1000000000
 hB1:B1.length=m1
 hC:C.length=k
 hk:k<=1000000000
 hB2:B2.length=m2
 hB3:B3.length=m3
 hm3:m3<=m
 hB4:B4.length=m4
 hm4:m4<=1000000000
 hD:D.length=32
 hcs:cs.length=65
 a1:ACT Tryz.prog 122 109 [.sl 1 m B,iv 0] [] [.sl 1 m1 B1,iv 0] (iv n)
 a2:ACT Tryz.prog 123 109 [.sl 1 m1 B1,iv 0] [iv n] [.sl 1 m2 B2,iv 0] (.sl 1 k C)
 a3:ACT Tryz.prog 124 109 [.sl 1 m2 B2,iv 0] [] [.sl 1 m3 B3,iv e3] (.agg D)
 a4:ACT Tryz.prog 67 109 [.sl 1 k C,iv 0] [] [.sl 1 m4 B4,iv e4] (.agg cs)
section
variable {m m1 m2 m3 m4 k:Nat} {B H B1 C B2 B3 D B4 cs:D8}
include m m1 m2 m3 m4 k B H B1 C B2 B3 D B4 cs
theorem fC8 {n e3 e4:Int} (h:OnC m m1 m2 m3 m4 k B H B1 C B2 B3 D B4 cs n e3 e4) (he:e3≠0):qC' 64 [.sl 1 m B,.agg H] (.tup [.c (.agg (ecs en0 0 0)),.c (iv 0),.c (.agg H),.c (bv false)]) [] 0:=by
 obtain ⟨hmb,hB,hH,hn,h0,h1,hm1,hB1,hC,hk,hB2,hB3,hm3,hB4,hm4,hD,hcs,a1,a2,a3,a4⟩:=h
 dsimp only [ecs,en0,lk0,hd0,iT,rq0,Vl.nul] at *
 refine fK aB (sz:=88) Tryz.func64 rfl rR ?_
 repeat' (first|(refine aC ?_;intro K hK hX)|refine eE4 ?_|(refine aE hK hX ?_;clear hK hX K)|fail)
 exact yP
theorem fC9 {n e4:Int} (h:OnC m m1 m2 m3 m4 k B H B1 C B2 B3 D B4 cs n 0 e4) (he:e4≠0):qC' 64 [.sl 1 m B,.agg H] (.tup [.c (.agg (ecs en0 0 0)),.c (iv 0),.c (.agg H),.c (bv false)]) [] 0:=by
 obtain ⟨hmb,hB,hH,hn,h0,h1,hm1,hB1,hC,hk,hB2,hB3,hm3,hB4,hm4,hD,hcs,a1,a2,a3,a4⟩:=h
 dsimp only [ecs,en0,lk0,hd0,iT,rq0,Vl.nul] at *
 refine fK aB (sz:=88) Tryz.func64 rfl rR ?_
 repeat' (first|(refine aC ?_;intro K hK hX)|refine eE4 ?_|(refine aE hK hX ?_;clear hK hX K)|fail)
 exact yP
theorem fD0 {n:Int} (h:OnC m m1 m2 m3 m4 k B H B1 C B2 B3 D B4 cs n 0 0) (h4:0<m4):qC' 64 [.sl 1 m B,.agg H] (.tup [.c (.agg (ecs en0 0 0)),.c (iv 0),.c (.agg H),.c (bv false)]) [] 0:=by
 obtain ⟨hmb,hB,hH,hn,h0,h1,hm1,hB1,hC,hk,hB2,hB3,hm3,hB4,hm4,hD,hcs,a1,a2,a3,a4⟩:=h
 dsimp only [ecs,en0,lk0,hd0,iT,rq0,Vl.nul] at *
 refine fK aB (sz:=88) Tryz.func64 rfl rR ?_
 repeat' (first|(refine aC ?_;intro K hK hX)|refine eE4 ?_|(refine aE hK hX ?_;clear hK hX K)|fail)
 exact yP
end
theorem fD1 {m m1 m2 m3 k:Nat} {B H B1 C B2 B3 B4 cs:D8} {d1 d2:Dr} {n:Int} (h:OnC m m1 m2 m3 0 k B H B1 C B2 B3 (u8c d1) B4 cs n 0 0) (hd1:d1.length=32) (hd2:d2.length=32) (hky:qC' 125 [wv 330#64,.agg H,.sl 1 k C] (.c (.agg (u8c d2))) [] 0) (hne:¬d2=d1):qC' 64 [.sl 1 m B,.agg H] (.tup [.c (.agg (ecs en0 0 0)),.c (iv 0),.c (.agg H),.c (bv false)]) [] 0:=by
 obtain ⟨hmb,hB,hH,hn,h0,h1,hm1,hB1,hC,hk,hB2,hB3,hm3,hB4,hm4,hD,hcs,a1,a2,a3,a4⟩:=h
 dsimp only [ecs,en0,lk0,hd0,iT,rq0,Vl.nul] at *
 have hnd:(!decide (d2=d1))=true:=by rw [Bj hne];rfl
 refine fK aB (sz:=88) Tryz.func64 rfl rR ?_
 repeat' (first|(refine aC ?_;intro K hK hX)|refine aL [0,1,3,4,5,6,7,8,9,10,11,12,13] ?_|((with_reducible refine aR (i:=4) ?_);refine aP [0,1,3,4,5,6,7,8,9,10,11,12,13] rfl rfl ?_;refine bZ [] ?_)|((with_reducible refine aR (i:=10) ?_);refine aP [0,1,3,4,5,6,7,8,9,10,11,12,13] rfl rfl ?_;refine bZ [] ?_)|((with_reducible refine aR (i:=11) ?_);refine aP [0,1,3,4,5,6,7,8,9,10,11,12,13] rfl rfl ?_;refine bZ [] ?_)|((with_reducible refine aR ?_);refine aP [0,1,3,4,5,6,7,8,9,10,11,12,13] rfl rfl ?_;refine cM [] ?_)|((with_reducible refine bH ?_);refine yA ?_;refine bE (bJ (T:=28) rfl) rfl ?_)|((with_reducible refine aW ?_);refine yA ?_;refine bE (aU (T:=49) aB rfl rfl rfl) rfl ?_)|((with_reducible refine aF ?_);refine aK (a1) aG rfl zby rfl rfl rfl rfl zcv rfl ztp ?_)|((with_reducible refine bP ?_);refine iL (a1) aG rfl rfl zby rfl rfl rfl rfl zcv rfl ztp rfl ?_)|((with_reducible refine aF ?_);refine aK (a2) aG rfl zby rfl rfl rfl rfl zcv rfl ztp ?_)|((with_reducible refine bP ?_);refine iL (a2) aG rfl rfl zby rfl rfl rfl rfl zcv rfl ztp rfl ?_)|((with_reducible refine aF ?_);refine aK (a3) aG rfl zby rfl rfl rfl rfl zcv rfl ztp ?_)|((with_reducible refine bP ?_);refine iL (a3) aG rfl rfl zby rfl rfl rfl rfl zcv rfl ztp rfl ?_)|((with_reducible refine aF ?_);refine aK (a4) aG rfl zby rfl rfl rfl rfl zcv rfl ztp ?_)|((with_reducible refine bP ?_);refine iL (a4) aG rfl rfl zby rfl rfl rfl rfl zcv rfl ztp rfl ?_)|(refine dP ?_;refine c0 hky ?_)|((first|((with_reducible refine bL ?_);refine xA ?_)|((with_reducible refine cO ?_);refine xD ?_)|((with_reducible refine jG ?_);refine xE ?_));(first|((with_reducible refine bQ ?_);(first|refine aJ (xZ aB aO rfl rfl rfl rfl rfl rfl rfl rfl rfl hd2 hd1 hnd) ?_))))|refine stA ?_|refine stD ?_|refine stE ?_|(refine aE hK hX ?_;clear hK hX K)|fail)
 exact yP
theorem fD2 {m m1 m2 m3 k:Nat} {B H B1 C B2 B3 B4 cs:D8} {d1:Dr} {n:Int} (h:OnC m m1 m2 m3 0 k B H B1 C B2 B3 (u8c d1) B4 cs n 0 0) (hd1:d1.length=32) (hky:qC' 125 [wv 330#64,.agg H,.sl 1 k C] (.c (.agg (u8c d1))) [] 0) (kk:Nat) (hkk:m-m3=kk):qC' 64 [.sl 1 m B,.agg H] (.tup [.c (.agg cs),.c (iv kk),.c (.agg (u8c d1)),.c (bv true)]) [] 0:=by
 obtain ⟨hmb,hB,hH,hn,h0,h1,hm1,hB1,hC,hk,hB2,hB3,hm3,hB4,hm4,hD,hcs,a1,a2,a3,a4⟩:=h
 have hnd:(!decide (d1=d1))=false:=by rw [AH rfl];rfl
 refine fK aB (sz:=88) Tryz.func64 rfl rR ?_
 repeat' (first|(refine aC ?_;intro K hK hX)|refine aL [0,1,3,4,5,6,7,8,9,10,11,12,13] ?_|((with_reducible refine aR (i:=4) ?_);refine aP [0,1,3,4,5,6,7,8,9,10,11,12,13] rfl rfl ?_;refine bZ [] ?_)|((with_reducible refine aR (i:=10) ?_);refine aP [0,1,3,4,5,6,7,8,9,10,11,12,13] rfl rfl ?_;refine bZ [] ?_)|((with_reducible refine aR (i:=11) ?_);refine aP [0,1,3,4,5,6,7,8,9,10,11,12,13] rfl rfl ?_;refine bZ [] ?_)|((with_reducible refine aR ?_);refine aP [0,1,3,4,5,6,7,8,9,10,11,12,13] rfl rfl ?_;refine cM [] ?_)|((with_reducible refine bH ?_);refine yA ?_;refine bE (bJ (T:=28) rfl) rfl ?_)|((with_reducible refine aW ?_);refine yA ?_;refine bE (aU (T:=49) aB rfl rfl rfl) rfl ?_)|((with_reducible refine aF ?_);refine aK (a1) aG rfl zby rfl rfl rfl rfl zcv rfl ztp ?_)|((with_reducible refine bP ?_);refine iL (a1) aG rfl rfl zby rfl rfl rfl rfl zcv rfl ztp rfl ?_)|((with_reducible refine aF ?_);refine aK (a2) aG rfl zby rfl rfl rfl rfl zcv rfl ztp ?_)|((with_reducible refine bP ?_);refine iL (a2) aG rfl rfl zby rfl rfl rfl rfl zcv rfl ztp rfl ?_)|((with_reducible refine aF ?_);refine aK (a3) aG rfl zby rfl rfl rfl rfl zcv rfl ztp ?_)|((with_reducible refine bP ?_);refine iL (a3) aG rfl rfl zby rfl rfl rfl rfl zcv rfl ztp rfl ?_)|((with_reducible refine aF ?_);refine aK (a4) aG rfl zby rfl rfl rfl rfl zcv rfl ztp ?_)|((with_reducible refine bP ?_);refine iL (a4) aG rfl rfl zby rfl rfl rfl rfl zcv rfl ztp rfl ?_)|(refine dP ?_;refine c0 hky ?_)|((first|((with_reducible refine bL ?_);refine xA ?_)|((with_reducible refine cO ?_);refine xD ?_)|((with_reducible refine jG ?_);refine xE ?_));(first|((with_reducible refine bQ ?_);(first|refine aJ (xZ aB aO rfl rfl rfl rfl rfl rfl rfl rfl rfl hd1 hd1 hnd) ?_))))|refine stA ?_|refine stD ?_|refine stE ?_|(refine aE hK hX ?_;clear hK hX K)|fail)
 exact yP
theorem dP4 (b:Dr) (m:Nat) (hm:b.length=m) (hb:m<=100000000) (ch:Dr) (hch:ch.length=32):(kN kdL ch b=none/\qC' 64 [.sl 1 m (u8c b),.agg (u8c ch)] (.tup [.c (.agg (ecs en0 0 0)),.c (iv 0),.c (.agg (u8c ch)),.c (bv false)]) [] 0)\/∃(x:LEn) (d:Dr) (k nv ns:Nat),kN kdL ch b=some (x,d,k)/\x.vs.length=nv/\x.ss.length=ns/\qC' 64 [.sl 1 m (u8c b),.agg (u8c ch)] (.tup [.c (.agg (ecs x nv ns)),.c (iv k),.c (.agg (u8c d)),.c (bv true)]) [] 0:=by
 have hul:=u8l hm
 have hH:(u8c ch).length=32:=by rw [aH,hch]
 obtain ⟨n,s1,q1,i1,b1,e1,m1,rfl,a1,l1,p1,c1⟩:=dK b 0 m hm aA
 have hul1:=u8l l1
 rcases rd_int.of b with ⟨y,rr,h1,h2⟩|⟨h1,h2⟩
 rotate_left
 ·rw [q1] at h2
  exact .inl ⟨by unfold kN;rw [h1];rfl,fC6 m aA _ hul _ hH n i1 m1 _ hul1 e1 h2 a1⟩
 rw [q1] at h2
 injection h2 with e2 h2
 injection h2 with e3 e4
 subst e2 e3 e4
 have hone:¬(n<0\/(m1:Int)<n)\/kN kdL ch b=none:=by
  by_cases h:n<0\/(m1:Int)<n
  ·right
   unfold kN
   rw [h1,Am]
   simp only
   rw [Ai aA]
  ·exact .inl h
 by_cases hbad:n<0\/(m1:Int)<n
 ·exact .inl ⟨hone.resolve_left (fun h=>h hbad),fC7 m aA _ hul _ hH n i1 m1 c1 _ hul1 hbad a1⟩
 clear hone
 obtain ⟨j,rfl⟩:∃j:Nat,n=j:=⟨n.toNat,by omega⟩
 obtain ⟨C,k,s2,q2,lC,kC,b2,e2,m2,rfl,a2,l2,p2,c2⟩:=xU (j:Int) aA b1 0 m1 l1 c1
 have hby:rBy (j:Int).toNat ⟨b1,0⟩=(b1.take j,⟨b1.drop j,0⟩):=by
  unfold rBy
  dsimp only
  rw [Ai aT,AX,Ai aA]
 rw [hby] at q2
 injection q2 with f1 q2
 injection q2 with f2 f3
 subst f1 f2 f3
 obtain ⟨D,s3,q3,lD,b3,e3,m3,rfl,a3,l3,p3,c3⟩:=bF1 (b1.drop j) 0 m2 l2 c2
 obtain ⟨x,s4,nv,ns,q4,hv,hs,hrt,b4,e4,m4,rfl,a4,l4,p4,c4⟩:=aH2 (b1.take j) 0 k lC aA
 have hO:OnC m m1 m2 m3 m4 k (u8c b) (u8c ch) (u8c b1) (u8c (b1.take j)) (u8c (b1.drop j)) (u8c b3) (u8c D) (u8c b4) (ecs x nv ns) j e3 e4:=⟨by omega,hul,hH,i1,by omega,by omega,c1,hul1,u8l lC,by omega,u8l l2,u8l l3,by omega,u8l l4,c4,u8l lD,cI hrt nv ns,a1,a2,a3,a4⟩
 have hkj:k=j:=by rw [<- lC,Ar];omega
 have hm2:m2=m1-j:=by rw [<- l2,A0,l1]
 have hf:kN kdL ch b=if j+32<=m1 then (pEn (b1.take j)).bind fun e=>if e.2=[]/\kdL ch (b1.take j)=(b1.drop j).take 32 then some (e.1,kdL ch (b1.take j),m-m1+j+32) else none else none:=by
  unfold kN
  rw [h1,Am]
  simp only
  by_cases h:j+32<=m1
  ·rw [Ak aA,Ak h,AX,hm,l1]
  ·rw [Ai aA,Ai h]
 by_cases h32:j+32<=m1
 rotate_left
 ·refine .inl ⟨by rw [hf,Ai h32],fC8 hO fun h=>?_⟩
  subst h
  have:=rd_dg.n (b1.drop j) (by unfold pBy;rw [Ai wO])
  rw [q3] at this
  exact this rfl
 rw [Ak h32] at hf
 have hdy:=rd_dg.y (b1.drop j) ((b1.drop j).take 32) ((b1.drop j).drop 32) (by unfold pBy;rw [Ak wO])
 rw [q3] at hdy
 injection hdy with g1 hdy
 injection hdy with g2 g3
 subst g1 g2 g3
 have hm3:m3=m1-j-32:=by rw [<- l3,A0,A0,l1]
 rcases rd_enR.of (b1.take j) with ⟨y,rr,h3,h4⟩|⟨h3,h4⟩
 rotate_left
 ·rw [q4] at h4
  exact .inl ⟨by rw [hf,h3];rfl,fC9 hO h4⟩
 rw [q4] at h4
 injection h4 with g1 h4
 injection h4 with g2 g3
 subst g1 g2 g3
 rw [h3,Am] at hf
 simp only at hf
 by_cases hr:b4=[]
 rotate_left
 ·exact .inl ⟨by rw [hf,Ai (fun h=>hr h.1)],fD0 hO (by rw [<- l4];exact List.length_pos_iff.2 hr)⟩
 obtain rfl:m4=0:=by rw [<- l4,hr];rfl
 have hky:=aP4 330#64 ch (b1.take j) k hch lC aA
 have hkd:sum 330#64 (ch++b1.take j)=kdL ch (b1.take j):=rfl
 rw [hkd] at hky
 have hdl:=iN ch (b1.take j)
 generalize kdL ch (b1.take j)=d at *
 by_cases hd:d=(b1.drop j).take 32
 ·rw [Ak ⟨hr,hd⟩] at hf
  rw [hd] at hky
  refine .inr ⟨x,d,_,nv,ns,hf,hv,hs,?_⟩
  rw [hd]
  exact fD2 hO lD hky _ aA
 ·exact .inl ⟨by rw [hf,Ai (fun h=>hd h.2)],fD1 hO lD hdl hky hd⟩
end
section
theorem cC9 {ch b:Dr} {e:LEn} {d:Dr} {k:Nat} (h:kN kdL ch b=some (e,d,k)):∃c r,pEn c=some (e,r):=by
 unfold kN at h
 obtain ⟨p,hp,h⟩:=Aj.1 h
 split at h
 ·obtain ⟨q,hq,h⟩:=Aj.1 h
  split at h
  ·injection h with h
   injection h with h _
   subst h
   exact ⟨_,q.2,hq⟩
  ·cases h
 ·cases h
theorem aW0:∀(f:Nat) {l:List LEn} {ch b:Dr},LfE l->LfE (parF kdL f l ch b).1
 | 0,l,ch,b,ho=>ho
 | f+1,l,ch,b,ho=>by
  cases h:kN kdL ch b with
  | none=>rw [mQ h];exact ho
  | some p =>
   obtain ⟨e,d,k⟩:=p
   by_cases hn:Fol l e/\l.length<512
   ·obtain ⟨c,r,hc⟩:=cC9 h
    rw [tI h hn]
    refine aW0 f fun x hx=>?_
    rcases Az.1 hx with hx|hx
    ·exact ho x hx
    ·rw [AZ.1 hx];exact eU6 hc
   ·rw [pI h hn];exact ho
attribute [local irreducible] Still Adds AWL AW Drw bY bW AC AWR cR Frz Go.Av.Src cQ Out InK ItK AsK RdK eL eF ACT ACA eT aY1 lec
theorem aP6 (b : Dr) (m : Nat) (hm : b.length = m) (hb : m <= 100000000) (L : List LEn) (q : Nat) (hq : L.length = q) (at' : Nat) (d : Dr) (hR : parF kdL 513 [] root0 b = (L, at', d)) : qC' 15 [.sl 1 m (u8c b)] (.tup [.c (.sl 65 q (lec L)), .c (iv at'), .c (.agg (u8c d))]) [] 0 := by
  refine aD aB (sz := 44) Tryz.func15 rfl (by rw [Tryz.ntmps15]; rfl) ?_
  repeat' (first | (refine aC ?_; intro K hK hX) | refine aY [0, 2, 3, 4, 5, 6, 7, 8, 9, 10, 11] ?_ | refine stA ?_ | refine stD ?_ | (refine aE hK hX ?_; clear hK hX K) | fail)
  refine lA 5 49 65 rfl ?_
  refine cN 3 (fun s : PSt => [(5, .own 2 0 s.q 65 true), (0, .c (.sl 1 m (u8c b))), (4, .ref 0 0), (6, .ref 1 0), (7, .c (iv s.a))]) (fun s => [(2, .row 49 (lec s.l)), (1, .row 28 (u8c s.c)), (0, .row 28 (u8c root0))]) [] (PInv b m (L, at', d)) (fun s => 513 - s.q) ⟨[], 0, root0, 0⟩ ⟨rfl, by decide, Al _, rfl, fun e he => by simp at he, 513, rfl, by rw [AN, Ap, hR]⟩ dH1 ?_
  intro s hs K hK hX
  obtain ⟨sl, sa, sc, sq⟩ := s
  obtain ⟨hl, hqb, ha, hc, ho, f, hf, hRe⟩ := hs
  simp only at hl hqb ha hc ho hf hRe ⊢
  have hul : (u8c sc).length = 32 := by rw [aH, hc]
  have hul0 : (u8c root0).length = 32 := rfl
  have hdl : (b.drop sa).length = m - sa := by rw [A0, hm]
  have hfr := dP4 (b.drop sa) (m - sa) hdl aA sc hc
  have hZ : List.take ((m - sa) * 1) (List.drop (sa * 1) (u8c b)) = u8c (b.drop sa) := by
    rw [A9, A9, bU, bV, Ae (by rw [hdl]; exact Ah _)]
  rw [<- hZ] at hfr
  have ex : parF kdL f sl sc (b.drop sa) = (sl, 0, sc) -> sq = q /\ lec sl = lec L /\ iv (sa : Int) = iv (at' : Int) /\ CV.agg (u8c sc) = CV.agg (u8c d) := fun h => by
    rw [h] at hRe
    injection hRe with e1 e2
    injection e2 with e2 e3
    simp only at e1 e2 e3
    exact ⟨by rw [<- hl, <- hq, e1], by rw [e1], by rw [e2]; rfl, by rw [e3]⟩
  have hll : (lec sl).length = sq * 65 := by rw [dZ ho, hl]
  have hbul := u8l hm
  generalize u8c root0 = Z at *
  by_cases h512 : sq = 512
  · obtain ⟨e4, e5, e6, e7⟩ := ex (by
      cases h : kN kdL sc (b.drop sa) with
      | none => exact mQ h
      | some p => obtain ⟨e, c, k⟩ := p; exact pI h (fun h => by omega))
    clear hfr hRe ex ho
    repeat' (first | (refine aC ?_; intro K hK hX) | refine aL [0, 2, 3, 4, 5, 6, 7, 8, 9, 10, 11] ?_ | ((with_reducible refine aR (i := 10) ?_); refine aP [0, 2, 3, 4, 5, 6, 7, 8, 9, 10, 11] rfl rfl ?_; refine bZ [] ?_) | ((with_reducible refine aR ?_); refine aP [0, 2, 3, 4, 5, 6, 7, 8, 9, 10, 11] rfl rfl ?_; refine cM [] ?_) | ((with_reducible refine jN ?_); refine yE ?_; refine bE (aU (T := 49) aB rfl rfl rfl) rfl ?_) | ((with_reducible refine aW ?_); refine yA ?_; refine bE (aU (T := 49) aB rfl rfl rfl) rfl ?_) | (fail) | refine stA ?_ | refine stD ?_ | refine stE ?_ | (refine aE hK hX ?_; clear hK hX K) | fail)
    exact cO7
  rcases hfr with ⟨h1, hac⟩ | ⟨x, dd, k, nv, ns, h1, hnv, hns, hac⟩
  · obtain ⟨e4, e5, e6, e7⟩ := ex (mQ h1)
    clear hRe ex ho h1
    generalize hcs0 : ecs en0 0 0 = cs0 at hac
    have hel : cs0.length = 65 := by rw [<- hcs0]; rfl
    repeat' (first | (refine aC ?_; intro K hK hX) | refine aL [0, 2, 3, 4, 5, 6, 7, 8, 9, 10, 11] ?_ | ((with_reducible refine aR (i := 5) ?_); refine aP [0, 2, 3, 4, 5, 6, 7, 8, 9, 10, 11] rfl rfl ?_; refine bZ [] ?_) | ((with_reducible refine aR (i := 10) ?_); refine aP [0, 2, 3, 4, 5, 6, 7, 8, 9, 10, 11] rfl rfl ?_; refine bZ [] ?_) | ((with_reducible refine aR ?_); refine aP [0, 2, 3, 4, 5, 6, 7, 8, 9, 10, 11] rfl rfl ?_; refine cM [] ?_) | ((with_reducible refine jN ?_); refine yE ?_; refine bE (aU (T := 49) aB rfl rfl rfl) rfl ?_) | ((with_reducible refine aW ?_); refine yA ?_; refine bE (aU (T := 49) aB rfl rfl rfl) rfl ?_) | (refine dP ?_; refine c0 hac ?_) | refine stA ?_ | refine stD ?_ | refine stE ?_ | (refine aE hK hX ?_; clear hK hX K) | fail)
    exact cO7
  obtain ⟨⟨xw, xk, xz⟩, hdd, hk0, hk1⟩ := aO1 aA hc h1
  rw [hdl] at hk1
  have hel := cI xw.root nv ns
  have hdl2 : (u8c dd).length = 32 := by rw [aH, hdd]
  have hsn : lec sl ++ ecs x nv ns = lec (sl ++ [x]) := by rw [<- hnv, <- hns]; unfold lec; rw [Bb]; simp [ecR]
  have hoN : OkL (sl ++ [x]) := fun y hy => by
    rcases Az.1 hy with hy | hy
    · exact ho y hy
    · rw [AZ.1 hy]; exact ⟨xw, xk, xz⟩
  have hln : (sl ++ [x]).length = sq + 1 := by rw [Aa, hl]; rfl
  by_cases hF : Fol sl x
  rotate_left
  · have hfo := qV sl sq hl aA ho x xw xk xz nv ns hnv hns false ⟨fun h => dS, fun h => absurd h hF⟩
    obtain ⟨e4, e5, e6, e7⟩ := ex (pI h1 (fun h => hF h.1))
    clear hRe ex ho h1 hsn hoN
    generalize ecs x nv ns = cs at *
    repeat' (first | (refine aC ?_; intro K hK hX) | refine dS1 ?_ | (refine aE hK hX ?_; clear hK hX K) | fail)
    exact cO7
  have hfo := qV sl sq hl aA ho x xw xk xz nv ns hnv hns true ⟨fun _ => hF, fun _ => rfl⟩
  obtain ⟨f', rfl⟩ : ∃ f', f = f' + 1 := ⟨f - 1, by omega⟩
  rw [tI h1 ⟨hF, by omega⟩, BU] at hRe
  have hNx : PInv b m (L, at', d) ⟨sl ++ [x], sa + k, dd, sq + 1⟩ := ⟨hln, by simp only; omega, by simp only; omega, hdd, hoN, f', by simp only; omega, by rw [hRe, BR]⟩
  clear hRe ex ho h1 hoN hF
  generalize ecs x nv ns = cs at *
  repeat' (first | (refine aC ?_; intro K hK hX) | refine dS1 ?_ | (refine aE hK hX ?_; clear hK hX K) | fail)
  exact ⟨_, hNx, by simp only; omega, (by refine fR [0, 1, 6] rfl rfl ?_ ?_ rfl rfl <;> (repeat' (first | exact dU | exact dB | refine dD rfl aM3 rfl ?_ | refine cB rfl setT_mp cT ?_ | refine cB rfl aM3 rfl ?_)))⟩
end
end Go.Proofs.YtbgehdndimlgkaaGreat
