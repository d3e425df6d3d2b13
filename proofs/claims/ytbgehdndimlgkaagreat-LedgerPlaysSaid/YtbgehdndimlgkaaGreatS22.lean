/- Lemmas for laws of the ledger. -/
import Derived.Test.YtbgehdndimlgkaaGreatS21
set_option linter.all false
set_option maxHeartbeats 16000000
namespace Go.Proofs.YtbgehdndimlgkaaGreat
open Go Go.RowKit Go.Av
set_option maxRecDepth 100000
attribute [local irreducible] Still Adds AWL AW Drw bX bY AC AWR cU Frz Go.Av.Src cQ Out InK ItK AsK RdK eP eI ACT ACA eW
attribute [local simp] bS bR bI
theorem dB (b:Dm) (e:Int) (m:Nat) (hm:b.length=m) (hb:m<=1000000000):∃n s',bT ⟨b,e⟩=(n,s')/\aT n/\ARd 122 109 [] b e m (iv n) s':=by
 have h:=cQ2 ⟨b,e⟩ (by rw [hm];exact hb)
 have h2:=aY1 ⟨b,e⟩
 have h3:=mV ⟨b,e⟩
 generalize bT ⟨b,e⟩=R at h h2 h3
 obtain ⟨n,b',e'⟩:=R
 simp only [rsC,hm] at h h2 h3
 exact ⟨n,_,rfl,h2,b',e',_,rfl,h,rfl,h3,by omega⟩
theorem pJ (most:Int) (h0:0<=most) (b:Dm) (e:Int) (m:Nat) (hm:b.length=m) (hb:m<=1000000000):∃r s',rIn 0 most ⟨b,e⟩=(r,s')/\ARd 167 109 [iv most] b e m (iv r) s':=by
 obtain ⟨n,s',q1,q2,b',e',m',rfl,q3,q4,q5,q6⟩:=dB b e m hm hb
 have hz:e'≠0->n=0:=fun h=>by have:=oK (s:=⟨b,e⟩) (by rw [q1];exact h);rwa [q1] at this
 unfold rIn
 rw [q1]
 dsimp only
 by_cases h1:n<0
 ·have he:e'=0:=Cb fun h=>by have:=hz h;omega
  subst he
  rw [Ak ⟨rfl,.inl h1⟩]
  refine ⟨_,_,rfl,b',1,m',rfl,?_,q4,q5,q6⟩
  refine aZ aB (sz:=18) Tryz.func167 rfl (by rw [Tryz.ntmps167];rfl) ?_
  repeat' (first|(refine aC ?_;intro K hK hX)|refine aK [0,1,4,5] ?_|((with_reducible refine aF ?_);refine aJ (q3) aE rfl zby rfl rfl rfl rfl zcv rfl ztp ?_)|((first|with_reducible refine aF ?_|with_reducible refine bB ?_);refine bV aB (List.range 18) aE rfl rfl zby Tryz.func134 rfl rfl rfl (szf:=13) gI rfl ?_)|refine stA ?_|(refine aG hK hX ?_;clear hK hX K)|fail|(first|refine bK zio ztr rfl rfl ResL.none ?_|refine bJ zio ztr rfl rfl ResL.none ?_))
  exact dR
 ·by_cases h2:most<n
  ·have he:e'=0:=Cb fun h=>by have:=hz h;omega
   subst he
   rw [Ak ⟨rfl,.inr h2⟩]
   refine ⟨_,_,rfl,b',1,m',rfl,?_,q4,q5,q6⟩
   refine aZ aB (sz:=18) Tryz.func167 rfl (by rw [Tryz.ntmps167];rfl) ?_
   repeat' (first|(refine aC ?_;intro K hK hX)|refine aK [0,1,4,5] ?_|((with_reducible refine aF ?_);refine aJ (q3) aE rfl zby rfl rfl rfl rfl zcv rfl ztp ?_)|((first|with_reducible refine aF ?_|with_reducible refine bB ?_);refine bV aB (List.range 18) aE rfl rfl zby Tryz.func134 rfl rfl rfl (szf:=13) gI rfl ?_)|refine stA ?_|(refine aG hK hX ?_;clear hK hX K)|fail|(first|refine bK zio ztr rfl rfl ResL.none ?_|refine bJ zio ztr rfl rfl ResL.none ?_))
   exact dR
  ·rw [Aj aA]
   refine ⟨_,_,rfl,b',e',m',rfl,?_,q4,q5,q6⟩
   refine aZ aB (sz:=18) Tryz.func167 rfl (by rw [Tryz.ntmps167];rfl) ?_
   repeat' (first|(refine aC ?_;intro K hK hX)|refine aK [0,1,4,5] ?_|((with_reducible refine aF ?_);refine aJ (q3) aE rfl zby rfl rfl rfl rfl zcv rfl ztp ?_)|((first|with_reducible refine aF ?_|with_reducible refine bB ?_);refine bV aB (List.range 18) aE rfl rfl zby Tryz.func134 rfl rfl rfl (szf:=13) gI rfl ?_)|refine stA ?_|(refine aG hK hX ?_;clear hK hX K)|fail|(first|refine bK zio ztr rfl rfl ResL.none ?_|refine bJ zio ztr rfl rfl ResL.none ?_))
   exact dR
theorem wO (x:Int) (hx:0<=x/\x<=1000000000) (b:Dm) (e:Int) (m:Nat) (hm:b.length=m) (hb:m<=1000000000):∃l k s',rBy x.toNat ⟨b,e⟩=(l,s')/\l.length=k/\k<=m/\ARd 123 109 [iv x] b e m (.sl 1 k (u8c l)) s':=by
 have hul:=u8l hm
 unfold rBy
 dsimp only
 by_cases he:e=0
 ·subst he
  rw [Aj aU]
  by_cases h1:m<x.toNat
  ·rw [Ak aA]
   refine ⟨_,0,_,rfl,rfl,by omega,b,100,m,rfl,?_,hm,Ah _,hb⟩
   refine aZ aB (sz:=45) Tryz.func123 rfl (by rw [Tryz.ntmps123];rfl) ?_
   repeat' (first|(refine aC ?_;intro K hK hX)|refine aK [0,1,4,5] ?_|((first|with_reducible refine aF ?_|with_reducible refine bB ?_);refine bV aB (List.range 45) aE rfl rfl zby Tryz.func134 rfl rfl rfl (szf:=13) gI rfl ?_)|refine stA ?_|(refine aG hK hX ?_;clear hK hX K)|fail|(first|refine bK zio ztr rfl rfl ResL.none ?_|refine bJ zio ztr rfl rfl ResL.none ?_))
   exact dR
  ·rw [Aj aA]
   obtain ⟨k,hk⟩:∃k:Nat,x=(k:Int):=⟨x.toNat,by omega⟩
   subst hk
   rw [AS] at h1 ⊢
   refine ⟨_,k,_,rfl,by rw [As];omega,by omega,b.drop k,0,m-k,rfl,?_,by rw [A0,hm],by omega,by omega⟩
   have hkl:(b.take k).length=k:=by rw [As];omega
   have hulk:=u8l hkl
   have hcell2:List.take ((m-k)*1) (List.drop (k*1) (u8c b))=u8c (b.drop k):=by rw [A8,A8,bR,Ad (by rw [aH,A0];omega)]
   have hys:List.take ((k-0)*1) (List.drop (0*1) (u8c b))=u8c (b.take k):=by rw [BB,A8,Cf,AY,bS]
   refine aZ aB (sz:=45) Tryz.func123 rfl (by rw [Tryz.ntmps123];rfl) ?_
   repeat' (first|(refine aC ?_;intro K hK hX)|refine aK [0,1,4,5] ?_|((first|with_reducible refine aF ?_|with_reducible refine bB ?_);refine bV aB (List.range 45) aE rfl rfl zby Tryz.func134 rfl rfl rfl (szf:=13) gI rfl ?_)|refine stA ?_|(refine aG hK hX ?_;clear hK hX K)|fail|(first|refine bK zio ztr rfl rfl ResL.none ?_|refine bJ zio ztr rfl rfl ResL.none ?_))
   rw [hcell2,hys,Ay,Aq,BB]
   exact dR
 ·rw [Ak he]
  refine ⟨_,0,_,rfl,rfl,by omega,b,e,m,rfl,?_,hm,Ah _,hb⟩
  refine aZ aB (sz:=45) Tryz.func123 rfl (by rw [Tryz.ntmps123];rfl) ?_
  repeat' (first|(refine aC ?_;intro K hK hX)|refine aK [0,1,4,5] ?_|((first|with_reducible refine aF ?_|with_reducible refine bB ?_);refine bV aB (List.range 45) aE rfl rfl zby Tryz.func134 rfl rfl rfl (szf:=13) gI rfl ?_)|refine stA ?_|(refine aG hK hX ?_;clear hK hX K)|fail|(first|refine bK zio ztr rfl rfl ResL.none ?_|refine bJ zio ztr rfl rfl ResL.none ?_))
  exact dR
theorem aK3 (most:Int) (h0:0<=most) (h1:most<=1000000) (b:Dm) (e:Int) (m:Nat) (hm:b.length=m) (hb:m<=1000000000):∃r s',rTx most ⟨b,e⟩=(r,s')/\ARd 221 109 [iv most] b e m (sv r) s':=by
 obtain ⟨n,s',q1,q2,b',e',m',rfl,q3,q4,q5,q6⟩:=dB b e m hm hb
 have hz:e'≠0->n=0:=fun h=>by have:=oK (s:=⟨b,e⟩) (by rw [q1];exact h);rwa [q1] at this
 unfold rTx rIn
 rw [q1]
 dsimp only
 by_cases h2:n<0\/most<n
 ·have he:e'=0:=Cb fun h=>by have:=hz h;omega
  subst he
  rw [Ak ⟨rfl,h2⟩]
  refine ⟨[],⟨b',1⟩,by simp [rBy],b',1,m',rfl,?_,q4,q5,q6⟩
  by_cases h3:n<0
  ·refine aZ aB (sz:=21) Tryz.func221 rfl (by rw [Tryz.ntmps221];rfl) ?_
   repeat' (first|(refine aC ?_;intro K hK hX)|refine aK [0,1,4,5] ?_|((with_reducible refine aF ?_);refine aJ (q3) aE rfl zby rfl rfl rfl rfl zcv rfl ztp ?_)|((first|with_reducible refine aF ?_|with_reducible refine bB ?_);refine bV aB (List.range 21) aE rfl rfl zby Tryz.func134 rfl rfl rfl (szf:=13) gI rfl ?_)|refine stA ?_|(refine aG hK hX ?_;clear hK hX K)|fail|(first|refine bK zio ztr rfl rfl ResL.none ?_|refine bJ zio ztr rfl rfl ResL.none ?_))
   exact dR
  ·refine aZ aB (sz:=21) Tryz.func221 rfl (by rw [Tryz.ntmps221];rfl) ?_
   repeat' (first|(refine aC ?_;intro K hK hX)|refine aK [0,1,4,5] ?_|((with_reducible refine aF ?_);refine aJ (q3) aE rfl zby rfl rfl rfl rfl zcv rfl ztp ?_)|((first|with_reducible refine aF ?_|with_reducible refine bB ?_);refine bV aB (List.range 21) aE rfl rfl zby Tryz.func134 rfl rfl rfl (szf:=13) gI rfl ?_)|refine stA ?_|(refine aG hK hX ?_;clear hK hX K)|fail|(first|refine bK zio ztr rfl rfl ResL.none ?_|refine bJ zio ztr rfl rfl ResL.none ?_))
   exact dR
 ·rw [Aj (fun h=>h2 h.2)]
  dsimp only
  obtain ⟨l,k,s2,p2,hk,hkm,b2,e2,m2,rfl,a2,l2,d2,c2'⟩:=wO n ⟨by omega,by omega⟩ b' e' m' q4 q6
  have huk:=u8l hk
  refine ⟨l,⟨b2,e2⟩,p2,b2,e2,m2,rfl,?_,l2,by omega,c2'⟩
  refine aZ aB (sz:=21) Tryz.func221 rfl (by rw [Tryz.ntmps221];rfl) ?_
  repeat' (first|(refine aC ?_;intro K hK hX)|refine aK [0,1,4,5] ?_|((with_reducible refine aF ?_);refine aJ (q3) aE rfl zby rfl rfl rfl rfl zcv rfl ztp ?_)|((with_reducible refine aF ?_);refine aJ (a2) aE rfl zby rfl rfl rfl rfl zcv rfl ztp ?_)|((first|with_reducible refine aF ?_|with_reducible refine bB ?_);refine bV aB (List.range 21) aE rfl rfl zby Tryz.func134 rfl rfl rfl (szf:=13) gI rfl ?_)|refine stA ?_|(refine aG hK hX ?_;clear hK hX K)|fail|(first|refine bK zio ztr rfl rfl ResL.none ?_|refine bJ zio ztr rfl rfl ResL.none ?_))
  exact dR
section
variable (b:Dm) (e:Int) (m:Nat) (hm:b.length=m) (hb:m<=1000000000)
include b e m hm hb
theorem bH1:∃r s',rVl aY3 ⟨b,e⟩=(r,s')/\ARd 222 109 [] b e m (.agg r.c) s':=by
 obtain ⟨n1,s1,q1,b1,e1,m1,rfl,a1,l1,d1,c1'⟩:=pJ 2 aN b e m hm hb
 have hbd:=rK 0 2 aN aN ⟨b,e⟩
 rw [q1] at hbd
 dsimp only at hbd
 unfold rVl
 rw [q1]
 dsimp only
 by_cases k1:n1=1
 ·subst k1
  rw [Ak rfl]
  obtain ⟨n2,s2,q2,i2,b2,e2,m2,rfl,a2,l2,d2,c2'⟩:=dB b1 e1 m1 l1 c1'
  have hz:e2≠0->n2=0:=fun h=>by have:=oK (s:=⟨b1,e1⟩) (by rw [q2];exact h);rwa [q2] at this
  unfold aY3
  rw [q2]
  dsimp only
  by_cases h2:n2 < -4294967296\/4294967296<n2
  ·have he:e2=0:=Cb fun h=>by have:=hz h;omega
   subst he
   rw [Ak h2]
   refine ⟨⟨1,n2,[]⟩,⟨b2,1⟩,by simp,b2,1,m2,rfl,?_,l2,by omega,c2'⟩
   dsimp only [Vl.c]
   by_cases h3:n2 < -4294967296
   ·refine aZ aB (sz:=30) Tryz.func222 rfl zV ?_
    repeat' (first|(refine aC ?_;intro K hK hX)|refine aK [0,1,2,3,4] ?_|((with_reducible refine aF ?_);refine aJ (a1) aE rfl zby rfl rfl rfl rfl zcv rfl ztp ?_)|((with_reducible refine aF ?_);refine aJ (a2) aE rfl zby rfl rfl rfl rfl zcv rfl ztp ?_)|((first|with_reducible refine aF ?_|with_reducible refine bB ?_);refine bV aB (List.range 30) aE rfl rfl zby Tryz.func134 rfl rfl rfl (szf:=13) gI rfl ?_)|refine stA ?_|(refine aG hK hX ?_;clear hK hX K)|fail|(first|refine bK zio ztr rfl rfl ResL.none ?_|refine bJ zio ztr rfl rfl ResL.none ?_))
    exact fH
   ·refine aZ aB (sz:=30) Tryz.func222 rfl zV ?_
    repeat' (first|(refine aC ?_;intro K hK hX)|refine aK [0,1,2,3,4] ?_|((with_reducible refine aF ?_);refine aJ (a1) aE rfl zby rfl rfl rfl rfl zcv rfl ztp ?_)|((with_reducible refine aF ?_);refine aJ (a2) aE rfl zby rfl rfl rfl rfl zcv rfl ztp ?_)|((first|with_reducible refine aF ?_|with_reducible refine bB ?_);refine bV aB (List.range 30) aE rfl rfl zby Tryz.func134 rfl rfl rfl (szf:=13) gI rfl ?_)|refine stA ?_|(refine aG hK hX ?_;clear hK hX K)|fail|(first|refine bK zio ztr rfl rfl ResL.none ?_|refine bJ zio ztr rfl rfl ResL.none ?_))
    exact fH
  ·rw [Aj h2]
   refine ⟨⟨1,n2,[]⟩,⟨b2,e2⟩,rfl,b2,e2,m2,rfl,?_,l2,by omega,c2'⟩
   dsimp only [Vl.c]
   refine aZ aB (sz:=30) Tryz.func222 rfl zV ?_
   repeat' (first|(refine aC ?_;intro K hK hX)|refine aK [0,1,2,3,4] ?_|((with_reducible refine aF ?_);refine aJ (a1) aE rfl zby rfl rfl rfl rfl zcv rfl ztp ?_)|((with_reducible refine aF ?_);refine aJ (a2) aE rfl zby rfl rfl rfl rfl zcv rfl ztp ?_)|((first|with_reducible refine aF ?_|with_reducible refine bB ?_);refine bV aB (List.range 30) aE rfl rfl zby Tryz.func134 rfl rfl rfl (szf:=13) gI rfl ?_)|refine stA ?_|(refine aG hK hX ?_;clear hK hX K)|fail|(first|refine bK zio ztr rfl rfl ResL.none ?_|refine bJ zio ztr rfl rfl ResL.none ?_))
   exact fH
 ·rw [Aj k1]
  by_cases k2:n1=2
  ·subst k2
   rw [Ak rfl]
   obtain ⟨l,s2,q2,b2,e2,m2,rfl,a2,l2,d2,c2'⟩:=aK3 32 aN aN b1 e1 m1 l1 c1'
   refine ⟨⟨2,0,l⟩,⟨b2,e2⟩,by rw [q2],b2,e2,m2,rfl,?_,l2,by omega,c2'⟩
   dsimp only [Vl.c]
   refine aZ aB (sz:=30) Tryz.func222 rfl zV ?_
   repeat' (first|(refine aC ?_;intro K hK hX)|refine aK [0,2,3,4] ?_|((with_reducible refine aF ?_);refine aJ (a1) aE rfl zby rfl rfl rfl rfl zcv rfl ztp ?_)|((with_reducible refine aF ?_);refine aJ (a2) aE rfl zby rfl rfl rfl rfl zcv rfl ztp ?_)|refine stA ?_|(refine aG hK hX ?_;clear hK hX K)|fail)
   exact fH
  ·rw [Aj k2]
   have k0:n1=0:=by omega
   subst k0
   refine ⟨⟨0,0,[]⟩,⟨b1,e1⟩,rfl,b1,e1,m1,rfl,?_,l1,by omega,c1'⟩
   dsimp only [Vl.c]
   refine aZ aB (sz:=30) Tryz.func222 rfl zV ?_
   repeat' (first|(refine aC ?_;intro K hK hX)|refine aK [0,2,3,4] ?_|((with_reducible refine aF ?_);refine aJ (a1) aE rfl zby rfl rfl rfl rfl zcv rfl ztp ?_)|refine stA ?_|(refine aG hK hX ?_;clear hK hX K)|fail)
   exact fH
theorem pK:∃r s',rId aY3 ⟨b,e⟩=(r,s')/\ARd 166 109 [] b e m (.agg r.cs) s':=by
 obtain ⟨n1,s1,q1,b1,e1,m1,rfl,a1,l1,d1,c1'⟩:=aK3 16 aN aN b e m hm hb
 obtain ⟨n2,s2,q2,b2,e2,m2,rfl,a2,l2,d2,c2'⟩:=bH1 b1 e1 m1 l1 c1'
 refine ⟨⟨n1,n2⟩,⟨b2,e2⟩,by simp only [rId,q1,q2],b2,e2,m2,rfl,?_,l2,by omega,c2'⟩
 obtain ⟨vk2,vn2,vt2⟩:=n2
 dsimp only [Idf.cs,Vl.c] at a2
 dsimp only [Idf.cs]
 refine aZ aB (sz:=11) Tryz.func166 rfl (by rw [Tryz.ntmps166];rfl) ?_
 repeat' (first|(refine aC ?_;intro K hK hX)|refine cE0 ?_|(refine aG hK hX ?_;clear hK hX K)|fail)
 exact fH
theorem bX8:∃r s',rLk aY3 ⟨b,e⟩=(r,s')/\ARd 138 109 [] b e m (.agg r.cs) s':=by
 obtain ⟨n1,s1,q1,b1,e1,m1,rfl,a1,l1,d1,c1'⟩:=pK b e m hm hb
 obtain ⟨n2,s2,q2,b2,e2,m2,rfl,a2,l2,d2,c2'⟩:=pK b1 e1 m1 l1 c1'
 obtain ⟨n3,s3,q3,i3,b3,e3,m3,rfl,a3,l3,d3,c3'⟩:=dB b2 e2 m2 l2 c2'
 obtain ⟨n4,s4,q4,b4,e4,m4,rfl,a4,l4,d4,c4'⟩:=pJ 1 aN b3 e3 m3 l3 c3'
 refine ⟨⟨n1,n2,n3,decide (n4=1)⟩,⟨b4,e4⟩,by simp only [rLk,q1,q2,q3,q4],b4,e4,m4,rfl,?_,l4,by omega,c4'⟩
 obtain ⟨ns1,⟨vk1,vn1,vt1⟩⟩:=n1
 obtain ⟨ns2,⟨vk2,vn2,vt2⟩⟩:=n2
 dsimp only [Idf.cs,Vl.c] at a1 a2
 dsimp only [LLk.cs]
 have hb01:=rK 0 1 aN aN ⟨b3,e3⟩
 rw [q4] at hb01
 dsimp only at hb01
 refine aZ aB (sz:=18) Tryz.func138 rfl (by rw [Tryz.ntmps138];rfl) ?_
 repeat' (first|(refine aC ?_;intro K hK hX)|refine dL3 ?_|(refine aG hK hX ?_;clear hK hX K)|fail)
 exact fH
theorem bX7:∃r s',rHd aY3 ⟨b,e⟩=(r,s')/\ARd 139 109 [] b e m (.agg r.cs) s':=by
 obtain ⟨n1,s1,q1,i1,b1,e1,m1,rfl,a1,l1,d1,c1'⟩:=dB b e m hm hb
 obtain ⟨n2,s2,q2,i2,b2,e2,m2,rfl,a2,l2,d2,c2'⟩:=dB b1 e1 m1 l1 c1'
 obtain ⟨n3,s3,q3,b3,e3,m3,rfl,a3,l3,d3,c3'⟩:=pK b2 e2 m2 l2 c2'
 obtain ⟨n4,s4,q4,i4,b4,e4,m4,rfl,a4,l4,d4,c4'⟩:=dB b3 e3 m3 l3 c3'
 obtain ⟨n5,s5,q5,i5,b5,e5,m5,rfl,a5,l5,d5,c5'⟩:=dB b4 e4 m4 l4 c4'
 obtain ⟨n6,s6,q6,i6,b6,e6,m6,rfl,a6,l6,d6,c6'⟩:=dB b5 e5 m5 l5 c5'
 refine ⟨⟨n1,n2,n3,n4,n5,n6⟩,⟨b6,e6⟩,by simp only [rHd,q1,q2,q3,q4,q5,q6],b6,e6,m6,rfl,?_,l6,by omega,c6'⟩
 obtain ⟨ns3,⟨vk3,vn3,vt3⟩⟩:=n3
 dsimp only [Idf.cs,Vl.c] at a3
 dsimp only [LHd.cs]
 refine aZ aB (sz:=23) Tryz.func139 rfl (by rw [Tryz.ntmps139];rfl) ?_
 repeat' (first|(refine aC ?_;intro K hK hX)|refine dK8 ?_|(refine aG hK hX ?_;clear hK hX K)|fail)
 exact fH
theorem cQ4:∃r s',rRq aY3 ⟨b,e⟩=(r,s')/\ARd 135 109 [] b e m (.agg r.cs) s':=by
 obtain ⟨n1,s1,q1,i1,b1,e1,m1,rfl,a1,l1,d1,c1'⟩:=dB b e m hm hb
 obtain ⟨n2,s2,q2,b2,e2,m2,rfl,a2,l2,d2,c2'⟩:=pK b1 e1 m1 l1 c1'
 obtain ⟨n3,s3,q3,i3,b3,e3,m3,rfl,a3,l3,d3,c3'⟩:=dB b2 e2 m2 l2 c2'
 obtain ⟨n4,s4,q4,i4,b4,e4,m4,rfl,a4,l4,d4,c4'⟩:=dB b3 e3 m3 l3 c3'
 obtain ⟨n5,s5,q5,i5,b5,e5,m5,rfl,a5,l5,d5,c5'⟩:=dB b4 e4 m4 l4 c4'
 refine ⟨⟨n1,n2,n3,n4,n5⟩,⟨b5,e5⟩,by simp only [rRq,q1,q2,q3,q4,q5],b5,e5,m5,rfl,?_,l5,by omega,c5'⟩
 obtain ⟨ns2,⟨vk2,vn2,vt2⟩⟩:=n2
 dsimp only [Idf.cs,Vl.c] at a2
 dsimp only [LRq.cs]
 refine aZ aB (sz:=20) Tryz.func135 rfl (by rw [Tryz.ntmps135];rfl) ?_
 repeat' (first|(refine aC ?_;intro K hK hX)|refine dK9 ?_|(refine aG hK hX ?_;clear hK hX K)|fail)
 exact fH
end
end Go.Proofs.YtbgehdndimlgkaaGreat
