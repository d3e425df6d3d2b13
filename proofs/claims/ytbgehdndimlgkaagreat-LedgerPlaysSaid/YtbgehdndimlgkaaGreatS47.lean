/- Lemmas for laws of the ledger. -/
import Derived.Test.YtbgehdndimlgkaaGreatS35
import Derived.Test.YtbgehdndimlgkaaGreatS45
set_option linter.all false
set_option maxHeartbeats 16000000
namespace Go.Proofs.YtbgehdndimlgkaaGreat
open Go Go.RowKit Go.Av
set_option maxRecDepth 100000
section
abbrev tRd:=109
attribute [local irreducible] Still Adds AWL AW Drw bX bY AC AWR cU Frz Go.Av.Src cQ Out InK ItK AsK RdK eP eI ACT ACA eW aS3
section
variable (m:Nat) (hmb:m<=1000000000) (B:D1) (hB:B.length=m) (H:D1) (hH:H.length=32) (n:Int) (hn:aT n) (m1:Nat)
include m hmb B hB H hH n hn m1
theorem eT4 (B1:D1) (hB1:B1.length=m1) (e1:Int) (he:e1≠0) (a1:ACT Tryz.prog 122 109 [.sl 1 m B,iv 0] [] [.sl 1 m1 B1,iv e1] (iv n)):qC' 64 [.sl 1 m B,.agg H] (.tup [.c (.agg (ecs en0 0 0)),.c (iv 0),.c (.agg H),.c (bv false)]) [] 0:=by
 dsimp only [ecs,en0,lk0,hd0,iE,rq0,Vl.nul] at *
 refine fA aB (sz:=88) Tryz.func64 rfl qK ?_
 repeat' (first|(refine aC ?_;intro K hK hX)|refine dW4 ?_|(refine aG hK hX ?_;clear hK hX K)|fail)
 exact xG
theorem eT5 (hm1:m1<=1000000000) (B1:D1) (hB1:B1.length=m1) (h2:n<0\/(m1:Int)<n) (a1:ACT Tryz.prog 122 109 [.sl 1 m B,iv 0] [] [.sl 1 m1 B1,iv 0] (iv n)):qC' 64 [.sl 1 m B,.agg H] (.tup [.c (.agg (ecs en0 0 0)),.c (iv 0),.c (.agg H),.c (bv false)]) [] 0:=by
 dsimp only [ecs,en0,lk0,hd0,iE,rq0,Vl.nul] at *
 by_cases h3:n<0
 ·skip
  refine fA aB (sz:=88) Tryz.func64 rfl qK ?_
  repeat' (first|(refine aC ?_;intro K hK hX)|refine dW4 ?_|(refine aG hK hX ?_;clear hK hX K)|fail)
  exact xG
 ·have h4:(m1:Int)<n:=by omega
  refine fA aB (sz:=88) Tryz.func64 rfl qK ?_
  repeat' (first|(refine aC ?_;intro K hK hX)|refine dW4 ?_|(refine aG hK hX ?_;clear hK hX K)|fail)
  exact xG
end
structure OnC (m m1 m2 m3 m4 k:Nat) (B H B1 C B2 B3 D B4 cs:D1) (n e3 e4:Int):Prop where
 hmb:m<=1000000000
 hB:B.length=m
 hH:H.length=32
 hn:aT n
 h0:0<=n
 h1:n<=m1
 hm1:m1<=1000000000
 hB1:B1.length=m1
 hC:C.length=k
 hk:k<=1000000000
 hB2:B2.length=m2
 hB3:B3.length=m3
 hm3:m3<=m
 hB4:B4.length=m4
 hm4:m4<=1000000000
 hD:D.length=32
 hcs:cs.length=65
 a1:ACT Tryz.prog 122 109 [.sl 1 m B,iv 0] [] [.sl 1 m1 B1,iv 0] (iv n)
 a2:ACT Tryz.prog 123 109 [.sl 1 m1 B1,iv 0] [iv n] [.sl 1 m2 B2,iv 0] (.sl 1 k C)
 a3:ACT Tryz.prog 124 109 [.sl 1 m2 B2,iv 0] [] [.sl 1 m3 B3,iv e3] (.agg D)
 a4:ACT Tryz.prog 67 109 [.sl 1 k C,iv 0] [] [.sl 1 m4 B4,iv e4] (.agg cs)
section
variable {m m1 m2 m3 m4 k:Nat} {B H B1 C B2 B3 D B4 cs:D1}
include m m1 m2 m3 m4 k B H B1 C B2 B3 D B4 cs
theorem eT6 {n e3 e4:Int} (h:OnC m m1 m2 m3 m4 k B H B1 C B2 B3 D B4 cs n e3 e4) (he:e3≠0):qC' 64 [.sl 1 m B,.agg H] (.tup [.c (.agg (ecs en0 0 0)),.c (iv 0),.c (.agg H),.c (bv false)]) [] 0:=by
 obtain ⟨hmb,hB,hH,hn,h0,h1,hm1,hB1,hC,hk,hB2,hB3,hm3,hB4,hm4,hD,hcs,a1,a2,a3,a4⟩:=h
 dsimp only [ecs,en0,lk0,hd0,iE,rq0,Vl.nul] at *
 refine fA aB (sz:=88) Tryz.func64 rfl qK ?_
 repeat' (first|(refine aC ?_;intro K hK hX)|refine dW2 ?_|(refine aG hK hX ?_;clear hK hX K)|fail)
 exact xG
theorem eT7 {n e4:Int} (h:OnC m m1 m2 m3 m4 k B H B1 C B2 B3 D B4 cs n 0 e4) (he:e4≠0):qC' 64 [.sl 1 m B,.agg H] (.tup [.c (.agg (ecs en0 0 0)),.c (iv 0),.c (.agg H),.c (bv false)]) [] 0:=by
 obtain ⟨hmb,hB,hH,hn,h0,h1,hm1,hB1,hC,hk,hB2,hB3,hm3,hB4,hm4,hD,hcs,a1,a2,a3,a4⟩:=h
 dsimp only [ecs,en0,lk0,hd0,iE,rq0,Vl.nul] at *
 refine fA aB (sz:=88) Tryz.func64 rfl qK ?_
 repeat' (first|(refine aC ?_;intro K hK hX)|refine dW2 ?_|(refine aG hK hX ?_;clear hK hX K)|fail)
 exact xG
theorem eT8 {n:Int} (h:OnC m m1 m2 m3 m4 k B H B1 C B2 B3 D B4 cs n 0 0) (h4:0<m4):qC' 64 [.sl 1 m B,.agg H] (.tup [.c (.agg (ecs en0 0 0)),.c (iv 0),.c (.agg H),.c (bv false)]) [] 0:=by
 obtain ⟨hmb,hB,hH,hn,h0,h1,hm1,hB1,hC,hk,hB2,hB3,hm3,hB4,hm4,hD,hcs,a1,a2,a3,a4⟩:=h
 dsimp only [ecs,en0,lk0,hd0,iE,rq0,Vl.nul] at *
 refine fA aB (sz:=88) Tryz.func64 rfl qK ?_
 repeat' (first|(refine aC ?_;intro K hK hX)|refine dW2 ?_|(refine aG hK hX ?_;clear hK hX K)|fail)
 exact xG
end
theorem eT9 {m m1 m2 m3 k:Nat} {B H B1 C B2 B3 B4 cs:D1} {d1 d2:Dm} {n:Int} (h:OnC m m1 m2 m3 0 k B H B1 C B2 B3 (u8c d1) B4 cs n 0 0) (hd1:d1.length=32) (hd2:d2.length=32) (hky:qC' 125 [wv 330#64,.agg H,.sl 1 k C] (.c (.agg (u8c d2))) [] 0) (hne:¬d2=d1):qC' 64 [.sl 1 m B,.agg H] (.tup [.c (.agg (ecs en0 0 0)),.c (iv 0),.c (.agg H),.c (bv false)]) [] 0:=by
 obtain ⟨hmb,hB,hH,hn,h0,h1,hm1,hB1,hC,hk,hB2,hB3,hm3,hB4,hm4,hD,hcs,a1,a2,a3,a4⟩:=h
 dsimp only [ecs,en0,lk0,hd0,iE,rq0,Vl.nul] at *
 have hnd:(!decide (d2=d1))=true:=by rw [Bi hne];rfl
 refine fA aB (sz:=88) Tryz.func64 rfl qK ?_
 repeat' (first|(refine aC ?_;intro K hK hX)|refine aK [0,1,3,4,5,6,7,8,9,10,11,12,13] ?_|((with_reducible refine aQ (i:=4) ?_);refine aP [0,1,3,4,5,6,7,8,9,10,11,12,13] rfl rfl ?_;refine bW [] ?_)|((with_reducible refine aQ (i:=10) ?_);refine aP [0,1,3,4,5,6,7,8,9,10,11,12,13] rfl rfl ?_;refine bW [] ?_)|((with_reducible refine aQ (i:=11) ?_);refine aP [0,1,3,4,5,6,7,8,9,10,11,12,13] rfl rfl ?_;refine bW [] ?_)|((with_reducible refine aQ ?_);refine aP [0,1,3,4,5,6,7,8,9,10,11,12,13] rfl rfl ?_;refine cJ [] ?_)|((with_reducible refine bM ?_);refine yA ?_;refine bC (bN (T:=28) rfl) rfl ?_)|((with_reducible refine aW ?_);refine yA ?_;refine bC (aR (T:=49) aB rfl rfl rfl) rfl ?_)|((with_reducible refine aF ?_);refine aJ (a1) aE rfl zby rfl rfl rfl rfl zcv rfl ztp ?_)|((with_reducible refine bL ?_);refine hQ (a1) aE rfl rfl zby rfl rfl rfl rfl zcv rfl ztp rfl ?_)|((with_reducible refine aF ?_);refine aJ (a2) aE rfl zby rfl rfl rfl rfl zcv rfl ztp ?_)|((with_reducible refine bL ?_);refine hQ (a2) aE rfl rfl zby rfl rfl rfl rfl zcv rfl ztp rfl ?_)|((with_reducible refine aF ?_);refine aJ (a3) aE rfl zby rfl rfl rfl rfl zcv rfl ztp ?_)|((with_reducible refine bL ?_);refine hQ (a3) aE rfl rfl zby rfl rfl rfl rfl zcv rfl ztp rfl ?_)|((with_reducible refine aF ?_);refine aJ (a4) aE rfl zby rfl rfl rfl rfl zcv rfl ztp ?_)|((with_reducible refine bL ?_);refine hQ (a4) aE rfl rfl zby rfl rfl rfl rfl zcv rfl ztp rfl ?_)|(refine dM ?_;refine c0 hky ?_)|((first|((with_reducible refine bP ?_);refine xA ?_)|((with_reducible refine cZ ?_);refine xD ?_)|((with_reducible refine iR ?_);refine xE ?_));(first|((with_reducible refine bU ?_);(first|refine aL (aR3 aB aV rfl rfl rfl rfl rfl rfl rfl rfl rfl hd2 hd1 hnd) ?_))))|refine stA ?_|refine stD ?_|refine stE ?_|(refine aG hK hX ?_;clear hK hX K)|fail)
 exact xG
theorem eU0 {m m1 m2 m3 k:Nat} {B H B1 C B2 B3 B4 cs:D1} {d1:Dm} {n:Int} (h:OnC m m1 m2 m3 0 k B H B1 C B2 B3 (u8c d1) B4 cs n 0 0) (hd1:d1.length=32) (hky:qC' 125 [wv 330#64,.agg H,.sl 1 k C] (.c (.agg (u8c d1))) [] 0) (kk:Nat) (hkk:m-m3=kk):qC' 64 [.sl 1 m B,.agg H] (.tup [.c (.agg cs),.c (iv kk),.c (.agg (u8c d1)),.c (bv true)]) [] 0:=by
 obtain ⟨hmb,hB,hH,hn,h0,h1,hm1,hB1,hC,hk,hB2,hB3,hm3,hB4,hm4,hD,hcs,a1,a2,a3,a4⟩:=h
 have hnd:(!decide (d1=d1))=false:=by rw [AP rfl];rfl
 refine fA aB (sz:=88) Tryz.func64 rfl qK ?_
 repeat' (first|(refine aC ?_;intro K hK hX)|refine aK [0,1,3,4,5,6,7,8,9,10,11,12,13] ?_|((with_reducible refine aQ (i:=4) ?_);refine aP [0,1,3,4,5,6,7,8,9,10,11,12,13] rfl rfl ?_;refine bW [] ?_)|((with_reducible refine aQ (i:=10) ?_);refine aP [0,1,3,4,5,6,7,8,9,10,11,12,13] rfl rfl ?_;refine bW [] ?_)|((with_reducible refine aQ (i:=11) ?_);refine aP [0,1,3,4,5,6,7,8,9,10,11,12,13] rfl rfl ?_;refine bW [] ?_)|((with_reducible refine aQ ?_);refine aP [0,1,3,4,5,6,7,8,9,10,11,12,13] rfl rfl ?_;refine cJ [] ?_)|((with_reducible refine bM ?_);refine yA ?_;refine bC (bN (T:=28) rfl) rfl ?_)|((with_reducible refine aW ?_);refine yA ?_;refine bC (aR (T:=49) aB rfl rfl rfl) rfl ?_)|((with_reducible refine aF ?_);refine aJ (a1) aE rfl zby rfl rfl rfl rfl zcv rfl ztp ?_)|((with_reducible refine bL ?_);refine hQ (a1) aE rfl rfl zby rfl rfl rfl rfl zcv rfl ztp rfl ?_)|((with_reducible refine aF ?_);refine aJ (a2) aE rfl zby rfl rfl rfl rfl zcv rfl ztp ?_)|((with_reducible refine bL ?_);refine hQ (a2) aE rfl rfl zby rfl rfl rfl rfl zcv rfl ztp rfl ?_)|((with_reducible refine aF ?_);refine aJ (a3) aE rfl zby rfl rfl rfl rfl zcv rfl ztp ?_)|((with_reducible refine bL ?_);refine hQ (a3) aE rfl rfl zby rfl rfl rfl rfl zcv rfl ztp rfl ?_)|((with_reducible refine aF ?_);refine aJ (a4) aE rfl zby rfl rfl rfl rfl zcv rfl ztp ?_)|((with_reducible refine bL ?_);refine hQ (a4) aE rfl rfl zby rfl rfl rfl rfl zcv rfl ztp rfl ?_)|(refine dM ?_;refine c0 hky ?_)|((first|((with_reducible refine bP ?_);refine xA ?_)|((with_reducible refine cZ ?_);refine xD ?_)|((with_reducible refine iR ?_);refine xE ?_));(first|((with_reducible refine bU ?_);(first|refine aL (aR3 aB aV rfl rfl rfl rfl rfl rfl rfl rfl rfl hd1 hd1 hnd) ?_))))|refine stA ?_|refine stD ?_|refine stE ?_|(refine aG hK hX ?_;clear hK hX K)|fail)
 exact xG
theorem dH7 (b:Dm) (m:Nat) (hm:b.length=m) (hb:m<=100000000) (ch:Dm) (hch:ch.length=32):(kD kdL ch b=none/\qC' 64 [.sl 1 m (u8c b),.agg (u8c ch)] (.tup [.c (.agg (ecs en0 0 0)),.c (iv 0),.c (.agg (u8c ch)),.c (bv false)]) [] 0)\/∃(x:LEn) (d:Dm) (k nv ns:Nat),kD kdL ch b=some (x,d,k)/\x.vs.length=nv/\x.ss.length=ns/\qC' 64 [.sl 1 m (u8c b),.agg (u8c ch)] (.tup [.c (.agg (ecs x nv ns)),.c (iv k),.c (.agg (u8c d)),.c (bv true)]) [] 0:=by
 have hul:=u8l hm
 have hH:(u8c ch).length=32:=by rw [aH,hch]
 obtain ⟨n,s1,q1,i1,b1,e1,m1,rfl,a1,l1,p1,c1⟩:=dB b 0 m hm aA
 have hul1:=u8l l1
 rcases rd_int.of b with ⟨y,rr,h1,h2⟩|⟨h1,h2⟩
 rotate_left
 ·rw [q1] at h2
  exact .inl ⟨by unfold kD;rw [h1];rfl,eT4 m aA _ hul _ hH n i1 m1 _ hul1 e1 h2 a1⟩
 rw [q1] at h2
 injection h2 with e2 h2
 injection h2 with e3 e4
 subst e2 e3 e4
 have hone:¬(n<0\/(m1:Int)<n)\/kD kdL ch b=none:=by
  by_cases h:n<0\/(m1:Int)<n
  ·right
   unfold kD
   rw [h1,Al]
   simp only
   rw [Aj aA]
  ·exact .inl h
 by_cases hbad:n<0\/(m1:Int)<n
 ·exact .inl ⟨hone.resolve_left (fun h=>h hbad),eT5 m aA _ hul _ hH n i1 m1 c1 _ hul1 hbad a1⟩
 clear hone
 obtain ⟨j,rfl⟩:∃j:Nat,n=j:=⟨n.toNat,by omega⟩
 obtain ⟨C,k,s2,q2,lC,kC,b2,e2,m2,rfl,a2,l2,p2,c2⟩:=wO (j:Int) aA b1 0 m1 l1 c1
 have hby:rBy (j:Int).toNat ⟨b1,0⟩=(b1.take j,⟨b1.drop j,0⟩):=by
  unfold rBy
  dsimp only
  rw [Aj aU,AS,Aj aA]
 rw [hby] at q2
 injection q2 with f1 q2
 injection q2 with f2 f3
 subst f1 f2 f3
 obtain ⟨D,s3,q3,lD,b3,e3,m3,rfl,a3,l3,p3,c3⟩:=aY5 (b1.drop j) 0 m2 l2 c2
 obtain ⟨x,s4,nv,ns,q4,hv,hs,hrt,b4,e4,m4,rfl,a4,l4,p4,c4⟩:=aD3 (b1.take j) 0 k lC aA
 have hO:OnC m m1 m2 m3 m4 k (u8c b) (u8c ch) (u8c b1) (u8c (b1.take j)) (u8c (b1.drop j)) (u8c b3) (u8c D) (u8c b4) (ecs x nv ns) j e3 e4:=⟨by omega,hul,hH,i1,by omega,by omega,c1,hul1,u8l lC,by omega,u8l l2,u8l l3,by omega,u8l l4,c4,u8l lD,cK hrt nv ns,a1,a2,a3,a4⟩
 have hkj:k=j:=by rw [<- lC,As];omega
 have hm2:m2=m1-j:=by rw [<- l2,A0,l1]
 have hf:kD kdL ch b=if j+32<=m1 then (pEn (b1.take j)).bind fun e=>if e.2=[]/\kdL ch (b1.take j)=(b1.drop j).take 32 then some (e.1,kdL ch (b1.take j),m-m1+j+32) else none else none:=by
  unfold kD
  rw [h1,Al]
  simp only
  by_cases h:j+32<=m1
  ·rw [Ak aA,Ak h,AS,hm,l1]
  ·rw [Aj aA,Aj h]
 by_cases h32:j+32<=m1
 rotate_left
 ·refine .inl ⟨by rw [hf,Aj h32],eT6 hO fun h=>?_⟩
  subst h
  have:=rd_dg.n (b1.drop j) (by unfold pBy;rw [Aj aI1])
  rw [q3] at this
  exact this rfl
 rw [Ak h32] at hf
 have hdy:=rd_dg.y (b1.drop j) ((b1.drop j).take 32) ((b1.drop j).drop 32) (by unfold pBy;rw [Ak aI1])
 rw [q3] at hdy
 injection hdy with g1 hdy
 injection hdy with g2 g3
 subst g1 g2 g3
 have hm3:m3=m1-j-32:=by rw [<- l3,A0,A0,l1]
 rcases rd_enR.of (b1.take j) with ⟨y,rr,h3,h4⟩|⟨h3,h4⟩
 rotate_left
 ·rw [q4] at h4
  exact .inl ⟨by rw [hf,h3];rfl,eT7 hO h4⟩
 rw [q4] at h4
 injection h4 with g1 h4
 injection h4 with g2 g3
 subst g1 g2 g3
 rw [h3,Al] at hf
 simp only at hf
 by_cases hr:b4=[]
 rotate_left
 ·exact .inl ⟨by rw [hf,Aj (fun h=>hr h.1)],eT8 hO (by rw [<- l4];exact List.length_pos_iff.2 hr)⟩
 obtain rfl:m4=0:=by rw [<- l4,hr];rfl
 have hky:=aK7 330#64 ch (b1.take j) k hch lC aA
 have hkd:sum 330#64 (ch++b1.take j)=kdL ch (b1.take j):=rfl
 rw [hkd] at hky
 have hdl:=kU ch (b1.take j)
 generalize kdL ch (b1.take j)=d at *
 by_cases hd:d=(b1.drop j).take 32
 ·rw [Ak ⟨hr,hd⟩] at hf
  rw [hd] at hky
  refine .inr ⟨x,d,_,nv,ns,hf,hv,hs,?_⟩
  rw [hd]
  exact eU0 hO lD hky _ aA
 ·exact .inl ⟨by rw [hf,Aj (fun h=>hd h.2)],eT9 hO lD hdl hky hd⟩
end
section
theorem bW4 {ch b:Dm} {e:LEn} {d:Dm} {k:Nat} (h:kD kdL ch b=some (e,d,k)):∃c r,pEn c=some (e,r):=by
 unfold kD at h
 obtain ⟨p,hp,h⟩:=Ai.1 h
 split at h
 ·obtain ⟨q,hq,h⟩:=Ai.1 h
  split at h
  ·injection h with h
   injection h with h _
   subst h
   exact ⟨_,q.2,hq⟩
  ·cases h
 ·cases h
theorem bP4:∀(f:Nat) {l:List LEn} {ch b:Dm},LfE l->LfE (parF kdL f l ch b).1
 | 0,l,ch,b,ho=>ho
 | f+1,l,ch,b,ho=>by
  cases h:kD kdL ch b with
  | none=>rw [lZ h];exact ho
  | some p =>
   obtain ⟨e,d,k⟩:=p
   by_cases hn:Fol l e/\l.length<512
   ·obtain ⟨c,r,hc⟩:=bW4 h
    rw [sF h hn]
    refine bP4 f fun x hx=>?_
    rcases Az.1 hx with hx|hx
    ·exact ho x hx
    ·rw [AX.1 hx];exact eL7 hc
   ·rw [oJ h hn];exact ho
attribute [local irreducible] Still Adds AWL AW Drw bX bY AC AWR cU Frz Go.Av.Src cQ Out InK ItK AsK RdK eP eI ACT ACA eW aS3 lec
theorem bY5 (b : Dm) (m : Nat) (hm : b.length = m) (hb : m <= 100000000) (L : List LEn) (q : Nat) (hq : L.length = q) (at' : Nat) (d : Dm) (hR : parF kdL 513 [] root0 b = (L, at', d)) : qC' 15 [.sl 1 m (u8c b)] (.tup [.c (.sl 65 q (lec L)), .c (iv at'), .c (.agg (u8c d))]) [] 0 := by
  refine aD aB (sz := 44) Tryz.func15 rfl (by rw [Tryz.ntmps15]; rfl) ?_
  repeat' (first | (refine aC ?_; intro K hK hX) | refine bE [0, 2, 3, 4, 5, 6, 7, 8, 9, 10, 11] ?_ | refine stA ?_ | refine stD ?_ | (refine aG hK hX ?_; clear hK hX K) | fail)
  refine lS 5 49 65 rfl ?_
  refine cL 3 (fun s : PSt => [(5, .own 2 0 s.q 65 true), (0, .c (.sl 1 m (u8c b))), (4, .ref 0 0), (6, .ref 1 0), (7, .c (iv s.a))]) (fun s => [(2, .row 49 (lec s.l)), (1, .row 28 (u8c s.c)), (0, .row 28 (u8c root0))]) [] (PInv b m (L, at', d)) (fun s => 513 - s.q) ⟨[], 0, root0, 0⟩ ⟨rfl, by decide, Am _, rfl, fun e he => by simp at he, 513, rfl, by rw [AY, Aq, hR]⟩ cZ4 ?_
  intro s hs K hK hX
  obtain ⟨sl, sa, sc, sq⟩ := s
  obtain ⟨hl, hqb, ha, hc, ho, f, hf, hRe⟩ := hs
  simp only at hl hqb ha hc ho hf hRe ⊢
  have hul : (u8c sc).length = 32 := by rw [aH, hc]
  have hul0 : (u8c root0).length = 32 := rfl
  have hdl : (b.drop sa).length = m - sa := by rw [A0, hm]
  have hfr := dH7 (b.drop sa) (m - sa) hdl aA sc hc
  have hZ : List.take ((m - sa) * 1) (List.drop (sa * 1) (u8c b)) = u8c (b.drop sa) := by
    rw [A8, A8, bR, bS, Ad (by rw [hdl]; exact Ah _)]
  rw [<- hZ] at hfr
  have ex : parF kdL f sl sc (b.drop sa) = (sl, 0, sc) -> sq = q /\ lec sl = lec L /\ iv (sa : Int) = iv (at' : Int) /\ CV.agg (u8c sc) = CV.agg (u8c d) := fun h => by
    rw [h] at hRe
    injection hRe with e1 e2
    injection e2 with e2 e3
    simp only at e1 e2 e3
    exact ⟨by rw [<- hl, <- hq, e1], by rw [e1], by rw [e2]; rfl, by rw [e3]⟩
  have hll : (lec sl).length = sq * 65 := by rw [fX ho, hl]
  have hbul := u8l hm
  generalize u8c root0 = Z at *
  by_cases h512 : sq = 512
  · obtain ⟨e4, e5, e6, e7⟩ := ex (by
      cases h : kD kdL sc (b.drop sa) with
      | none => exact lZ h
      | some p => obtain ⟨e, c, k⟩ := p; exact oJ h (fun h => by omega))
    clear hfr hRe ex ho
    repeat' (first | (refine aC ?_; intro K hK hX) | refine aK [0, 2, 3, 4, 5, 6, 7, 8, 9, 10, 11] ?_ | ((with_reducible refine aQ (i := 10) ?_); refine aP [0, 2, 3, 4, 5, 6, 7, 8, 9, 10, 11] rfl rfl ?_; refine bW [] ?_) | ((with_reducible refine aQ ?_); refine aP [0, 2, 3, 4, 5, 6, 7, 8, 9, 10, 11] rfl rfl ?_; refine cJ [] ?_) | ((with_reducible refine iZ ?_); refine yE ?_; refine bC (aR (T := 49) aB rfl rfl rfl) rfl ?_) | ((with_reducible refine aW ?_); refine yA ?_; refine bC (aR (T := 49) aB rfl rfl rfl) rfl ?_) | (fail) | refine stA ?_ | refine stD ?_ | refine stE ?_ | (refine aG hK hX ?_; clear hK hX K) | fail)
    exact cH5
  rcases hfr with ⟨h1, hac⟩ | ⟨x, dd, k, nv, ns, h1, hnv, hns, hac⟩
  · obtain ⟨e4, e5, e6, e7⟩ := ex (lZ h1)
    clear hRe ex ho h1
    generalize hcs0 : ecs en0 0 0 = cs0 at hac
    have hel : cs0.length = 65 := by rw [<- hcs0]; rfl
    repeat' (first | (refine aC ?_; intro K hK hX) | refine aK [0, 2, 3, 4, 5, 6, 7, 8, 9, 10, 11] ?_ | ((with_reducible refine aQ (i := 5) ?_); refine aP [0, 2, 3, 4, 5, 6, 7, 8, 9, 10, 11] rfl rfl ?_; refine bW [] ?_) | ((with_reducible refine aQ (i := 10) ?_); refine aP [0, 2, 3, 4, 5, 6, 7, 8, 9, 10, 11] rfl rfl ?_; refine bW [] ?_) | ((with_reducible refine aQ ?_); refine aP [0, 2, 3, 4, 5, 6, 7, 8, 9, 10, 11] rfl rfl ?_; refine cJ [] ?_) | ((with_reducible refine iZ ?_); refine yE ?_; refine bC (aR (T := 49) aB rfl rfl rfl) rfl ?_) | ((with_reducible refine aW ?_); refine yA ?_; refine bC (aR (T := 49) aB rfl rfl rfl) rfl ?_) | (refine dM ?_; refine c0 hac ?_) | refine stA ?_ | refine stD ?_ | refine stE ?_ | (refine aG hK hX ?_; clear hK hX K) | fail)
    exact cH5
  obtain ⟨⟨xw, xk, xz⟩, hdd, hk0, hk1⟩ := aJ6 aA hc h1
  rw [hdl] at hk1
  have hel := cK xw.root nv ns
  have hdl2 : (u8c dd).length = 32 := by rw [aH, hdd]
  have hsn : lec sl ++ ecs x nv ns = lec (sl ++ [x]) := by rw [<- hnv, <- hns]; unfold lec; rw [Bc]; simp [ecR]
  have hoN : OkL (sl ++ [x]) := fun y hy => by
    rcases Az.1 hy with hy | hy
    · exact ho y hy
    · rw [AX.1 hy]; exact ⟨xw, xk, xz⟩
  have hln : (sl ++ [x]).length = sq + 1 := by rw [Aa, hl]; rfl
  by_cases hF : Fol sl x
  rotate_left
  · have hfo := aQ6 sl sq hl aA ho x xw xk xz nv ns hnv hns false ⟨fun h => eS, fun h => absurd h hF⟩
    obtain ⟨e4, e5, e6, e7⟩ := ex (oJ h1 (fun h => hF h.1))
    clear hRe ex ho h1 hsn hoN
    generalize ecs x nv ns = cs at *
    repeat' (first | (refine aC ?_; intro K hK hX) | refine dK4 ?_ | (refine aG hK hX ?_; clear hK hX K) | fail)
    exact cH5
  have hfo := aQ6 sl sq hl aA ho x xw xk xz nv ns hnv hns true ⟨fun _ => hF, fun _ => rfl⟩
  obtain ⟨f', rfl⟩ : ∃ f', f = f' + 1 := ⟨f - 1, by omega⟩
  rw [sF h1 ⟨hF, by omega⟩, BR] at hRe
  have hNx : PInv b m (L, at', d) ⟨sl ++ [x], sa + k, dd, sq + 1⟩ := ⟨hln, by simp only; omega, by simp only; omega, hdd, hoN, f', by simp only; omega, by rw [hRe, BO]⟩
  clear hRe ex ho h1 hoN hF
  generalize ecs x nv ns = cs at *
  repeat' (first | (refine aC ?_; intro K hK hX) | refine dK4 ?_ | (refine aG hK hX ?_; clear hK hX K) | fail)
  exact ⟨_, hNx, by simp only; omega, (by refine fW [0, 1, 6] rfl rfl ?_ ?_ rfl rfl <;> (repeat' (first | exact dT | exact dD | refine dJ rfl aH8 rfl ?_ | refine cB rfl setT_mp dO ?_ | refine cB rfl aH8 rfl ?_)))⟩
end
end Go.Proofs.YtbgehdndimlgkaaGreat
