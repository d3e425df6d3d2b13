/- Lemmas for laws of the ledger. -/
import Derived.Lone
import Derived.Calls
import Derived.Shelf.SlSortCmp.WholeK
import Derived.Test.YtbgehdndimlgkaaGreatS15
import Derived.Test.YtbgehdndimlgkaaGreatS38
set_option linter.all false
set_option maxHeartbeats 16000000
namespace Go.Proofs.YtbgehdndimlgkaaGreat
open Go Go.RowKit Go.Av
set_option maxRecDepth 100000
section
theorem cY {α:Type} {l:List α} {n:Nat} (h:l.length=n+1):∃a t,l=a::t/\t.length=n:=by
 cases l with
 | nil=>cases h
 | cons a t=>exact ⟨a,t,rfl,by simpa using h⟩
theorem cV2 {l:Dm} (h:l.length=32):∃x0 x1 x2 x3 x4 x5 x6 x7 x8 x9 x10 x11 x12 x13 x14 x15 x16 x17 x18 x19 x20 x21 x22 x23 x24 x25 x26 x27 x28 x29 x30 x31:Int,u8c l=[.v (.int .u8 x0),.v (.int .u8 x1),.v (.int .u8 x2),.v (.int .u8 x3),.v (.int .u8 x4),.v (.int .u8 x5),.v (.int .u8 x6),.v (.int .u8 x7),.v (.int .u8 x8),.v (.int .u8 x9),.v (.int .u8 x10),.v (.int .u8 x11),.v (.int .u8 x12),.v (.int .u8 x13),.v (.int .u8 x14),.v (.int .u8 x15),.v (.int .u8 x16),.v (.int .u8 x17),.v (.int .u8 x18),.v (.int .u8 x19),.v (.int .u8 x20),.v (.int .u8 x21),.v (.int .u8 x22),.v (.int .u8 x23),.v (.int .u8 x24),.v (.int .u8 x25),.v (.int .u8 x26),.v (.int .u8 x27),.v (.int .u8 x28),.v (.int .u8 x29),.v (.int .u8 x30),.v (.int .u8 x31)]:=by
 obtain ⟨a0,l0,rfl,h0⟩:=cY h
 obtain ⟨a1,l1,rfl,h1⟩:=cY h0
 obtain ⟨a2,l2,rfl,h2⟩:=cY h1
 obtain ⟨a3,l3,rfl,h3⟩:=cY h2
 obtain ⟨a4,l4,rfl,h4⟩:=cY h3
 obtain ⟨a5,l5,rfl,h5⟩:=cY h4
 obtain ⟨a6,l6,rfl,h6⟩:=cY h5
 obtain ⟨a7,l7,rfl,h7⟩:=cY h6
 obtain ⟨a8,l8,rfl,h8⟩:=cY h7
 obtain ⟨a9,l9,rfl,h9⟩:=cY h8
 obtain ⟨a10,l10,rfl,h10⟩:=cY h9
 obtain ⟨a11,l11,rfl,h11⟩:=cY h10
 obtain ⟨a12,l12,rfl,h12⟩:=cY h11
 obtain ⟨a13,l13,rfl,h13⟩:=cY h12
 obtain ⟨a14,l14,rfl,h14⟩:=cY h13
 obtain ⟨a15,l15,rfl,h15⟩:=cY h14
 obtain ⟨a16,l16,rfl,h16⟩:=cY h15
 obtain ⟨a17,l17,rfl,h17⟩:=cY h16
 obtain ⟨a18,l18,rfl,h18⟩:=cY h17
 obtain ⟨a19,l19,rfl,h19⟩:=cY h18
 obtain ⟨a20,l20,rfl,h20⟩:=cY h19
 obtain ⟨a21,l21,rfl,h21⟩:=cY h20
 obtain ⟨a22,l22,rfl,h22⟩:=cY h21
 obtain ⟨a23,l23,rfl,h23⟩:=cY h22
 obtain ⟨a24,l24,rfl,h24⟩:=cY h23
 obtain ⟨a25,l25,rfl,h25⟩:=cY h24
 obtain ⟨a26,l26,rfl,h26⟩:=cY h25
 obtain ⟨a27,l27,rfl,h27⟩:=cY h26
 obtain ⟨a28,l28,rfl,h28⟩:=cY h27
 obtain ⟨a29,l29,rfl,h29⟩:=cY h28
 obtain ⟨a30,l30,rfl,h30⟩:=cY h29
 obtain ⟨a31,l31,rfl,h31⟩:=cY h30
 obtain rfl:l31=[]:=An h31
 exact ⟨_,_,_,_,_,_,_,_,_,_,_,_,_,_,_,_,_,_,_,_,_,_,_,_,_,_,_,_,_,_,_,_,rfl⟩
attribute [local irreducible] Still Adds AWL AW Drw bX bY AC AWR cU Frz Go.Av.Src cQ Out InK ItK AsK RdK eP eI ACT ACA eW ACG fL lec
theorem bG1 (g:D1) (hg:g.length=37) (L:List LEn) (q:Nat) (hl:L.length=q) (hq:q<=1000) (ho:OkL L) (x0 x1 x2 x3 x4 x5 x6 x7 x8 x9 x10 x11 x12 x13 x14 x15 x16 x17 x18 x19 x20 x21 x22 x23 x24 x25 x26 x27 x28 x29 x30 x31:Int) (hc4:g[0+4]? = some (.sl 65 q (lec L))) (hw5:List.take 32 (List.drop (0+5) g)=[.v (.int .u8 x0),.v (.int .u8 x1),.v (.int .u8 x2),.v (.int .u8 x3),.v (.int .u8 x4),.v (.int .u8 x5),.v (.int .u8 x6),.v (.int .u8 x7),.v (.int .u8 x8),.v (.int .u8 x9),.v (.int .u8 x10),.v (.int .u8 x11),.v (.int .u8 x12),.v (.int .u8 x13),.v (.int .u8 x14),.v (.int .u8 x15),.v (.int .u8 x16),.v (.int .u8 x17),.v (.int .u8 x18),.v (.int .u8 x19),.v (.int .u8 x20),.v (.int .u8 x21),.v (.int .u8 x22),.v (.int .u8 x23),.v (.int .u8 x24),.v (.int .u8 x25),.v (.int .u8 x26),.v (.int .u8 x27),.v (.int .u8 x28),.v (.int .u8 x29),.v (.int .u8 x30),.v (.int .u8 x31)]) (y1 y2:Dm) (y3:Int) (y4:Bool) (m2 k2:Nat):qC' 81 [.agg g,.agg [.sl 1 m2 (u8c y1),.sl 1 k2 (u8c y2),iv y3,bv y4]] (.agg ([.c (.sl 1 m2 (u8c y1)),.c (.sl 1 k2 (u8c y2)),.c (iv y3),.c (bv y4),.own 0 0 q 65 true,.c (.v (.int .u8 x0)),.c (.v (.int .u8 x1)),.c (.v (.int .u8 x2)),.c (.v (.int .u8 x3)),.c (.v (.int .u8 x4)),.c (.v (.int .u8 x5)),.c (.v (.int .u8 x6)),.c (.v (.int .u8 x7)),.c (.v (.int .u8 x8)),.c (.v (.int .u8 x9)),.c (.v (.int .u8 x10)),.c (.v (.int .u8 x11)),.c (.v (.int .u8 x12)),.c (.v (.int .u8 x13)),.c (.v (.int .u8 x14)),.c (.v (.int .u8 x15)),.c (.v (.int .u8 x16)),.c (.v (.int .u8 x17)),.c (.v (.int .u8 x18)),.c (.v (.int .u8 x19)),.c (.v (.int .u8 x20)),.c (.v (.int .u8 x21)),.c (.v (.int .u8 x22)),.c (.v (.int .u8 x23)),.c (.v (.int .u8 x24)),.c (.v (.int .u8 x25)),.c (.v (.int .u8 x26)),.c (.v (.int .u8 x27)),.c (.v (.int .u8 x28)),.c (.v (.int .u8 x29)),.c (.v (.int .u8 x30)),.c (.v (.int .u8 x31))])) [(0,.row 49 (lec L))] 1:=by
 have hll:(lec L).length=q*65:=by rw [fX ho,hl]
 refine aD aB (sz:=31) Tryz.func81 rfl (by rw [Tryz.ntmps81];rfl) ?_
 repeat' (first|(refine aC ?_;intro K hK hX)|refine aK [0,1,2,3,4,5,7,14,15,16] ?_|((with_reducible refine bM ?_);refine yA ?_;refine bC (bN (T:=61) rfl) rfl ?_)|refine eJ ?_|refine jO ?_|refine stA ?_|(refine aG hK hX ?_;clear hK hX K)|fail)
 refine cL 4 (fun i:Nat=>[(16,.c (iv i)),(15,.c (iv q)),(14,.c (.sl 65 q (lec L))),(5,.own 3 0 i 65 true),(2,.ref 0 0),(3,.ref 1 0),(4,.ref 2 0)]) (fun i=>[(3,.row 49 (lec (L.take i))),(2,.blk 61 (zav lgZv)),(1,.blk 55 ([CV.sl 1 m2 (u8c y1),CV.sl 1 k2 (u8c y2),iv y3,bv y4].map AV.c)),(0,.row 61 g)]) [] (fun i=>i<=q) (fun i=>q-i) 0 (Am _) cZ4 ?_
 intro i hi K hK hX
 have hli:(lec (L.take i)).length=i*65:=by rw [fX (ho.take i),As];omega
 by_cases hlt:i<q
 ·obtain ⟨e,hat⟩:∃e,L[i]? = some e:=⟨_,Ab aA⟩
  have hx:=wH ho hat
  obtain ⟨ow,ok,oz⟩:=ho e (Af hat)
  have hel:=lQ ow
  have hcl:=aT3 e ow _ _ rfl rfl oz.vs oz.ss
  have hsn:lec (L.take i)++ecR e=lec (L.take (i+1)):=by rw [iF hat];unfold lec;rw [Bc];simp
  change AC _ _ [.agg (ecR e)] (.c (.agg (ecR e))) _ _ at hcl
  generalize ecR e=cs at *
  repeat' (first|(refine aC ?_;intro K hK hX)|refine dM8 ?_|(refine aG hK hX ?_;clear hK hX K)|fail)
  exact ⟨i+1,by omega,by omega,eF1⟩
 ·have hiq:i=q:=by omega
  have hLq:lec (L.take i)=lec L:=by rw [Ad aA]
  rw [hLq,hiq]
  repeat' (first|(refine aC ?_;intro K hK hX)|refine aK [0,1,2,3,4,5,7,14,15,16] ?_|refine jO ?_|refine stA ?_|(refine aG hK hX ?_;clear hK hX K)|fail)
  refine cV zio ztr rfl (ResL.one zrs) (bP1 (σ:=[3]) aN (dT0 rfl rfl) (dH4 (by repeat' (first|exact cQ7|refine aK4 (bQ5 rfl) ?_|refine aK4 (eN5 (dU cR)) ?_))))
end
section
attribute [local irreducible] Still Adds AWL AW Drw bX bY AC AWR cU Frz Go.Av.Src cQ Out InK ItK AsK RdK eP eI ACT ACA eW ACG fL lec
theorem eP9 (g:D1) (y1 y2 y3 y4:CV) (q:Nat) (C:D1) (c:Dm) (cs:D1) (t:Tl) (hA:AdC g y1 y2 y3 y4 q C c cs t) (hf:ACG Tryz.prog 62 6 [(0,.blk tTl [.c (bv t.so),.c (iv t.day),.c (iv t.er),.c (iv t.sg),.mh 1,.mh 2,.mh 3,.mh 4,.mh 5]),(1,.tab (aI ktI.kc t.bg)),(2,.tab (aI ktI.kc t.co)),(3,.tab (aI ktP.kc t.st)),(4,.tab (aI ktV.kc t.vs)),(5,.tab (aI ktS.kc t.ss))] [.agg cs] [(0,.blk tTl [.c (bv t.so),.c (iv t.day),.c (iv t.er),.c (iv t.sg),.mh 1,.mh 2,.mh 3,.mh 4,.mh 5]),(1,.tab (aI ktI.kc t.bg)),(2,.tab (aI ktI.kc t.co)),(3,.tab (aI ktP.kc t.st)),(4,.tab (aI ktV.kc t.vs)),(5,.tab (aI ktS.kc t.ss))] (bv true)) (h:q<512) (hC:C.length=q*65) (n1:Nat) (en:Dm) (hen:en.length=n1) (hn1:n1<=1000000) (hap:qC' 76 [.sl 1 0 [],.agg cs] (.own 0 0 n1 1 true) [(0,.row 5 (u8c en))] 1) (cs':D1) (hcs':cs'.length=65) (b':CV) (hrd:qC' 77 [.sl 1 n1 (u8c en)] (.tup [.c (.agg cs'),.c b',.c (iv 0)]) [] 0) (e0 e1 e2 e3 e4 e5 e6 e7 e8 e9 e10 e11 e12 e13 e14 e15 e16 e17 e18 e19 e20 e21 e22 e23 e24 e25 e26 e27 e28 e29 e30 e31:Int) (hky:qC' 78 [wv 330#64,.agg (u8c c),.sl 1 n1 (u8c en)] (.c (.agg [.v (.int .u8 e0),.v (.int .u8 e1),.v (.int .u8 e2),.v (.int .u8 e3),.v (.int .u8 e4),.v (.int .u8 e5),.v (.int .u8 e6),.v (.int .u8 e7),.v (.int .u8 e8),.v (.int .u8 e9),.v (.int .u8 e10),.v (.int .u8 e11),.v (.int .u8 e12),.v (.int .u8 e13),.v (.int .u8 e14),.v (.int .u8 e15),.v (.int .u8 e16),.v (.int .u8 e17),.v (.int .u8 e18),.v (.int .u8 e19),.v (.int .u8 e20),.v (.int .u8 e21),.v (.int .u8 e22),.v (.int .u8 e23),.v (.int .u8 e24),.v (.int .u8 e25),.v (.int .u8 e26),.v (.int .u8 e27),.v (.int .u8 e28),.v (.int .u8 e29),.v (.int .u8 e30),.v (.int .u8 e31)])) [] 0) (n2:Nat) (i1:Dm) (hi1:i1.length=n2) (hn2:n2<=10) (hai:qC' 79 [.sl 1 0 [],iv n1] (.own 0 0 n2 1 true) [(0,.row 5 (u8c i1))] 1) (d1:Dk) (m1 k1:Nat) (hda:qC' 21 [.agg [y1,y2,y3,y4],.sl 1 (n2+n1+(32-0)) (u8c i1++u8c en++[.v (.int .u8 e0),.v (.int .u8 e1),.v (.int .u8 e2),.v (.int .u8 e3),.v (.int .u8 e4),.v (.int .u8 e5),.v (.int .u8 e6),.v (.int .u8 e7),.v (.int .u8 e8),.v (.int .u8 e9),.v (.int .u8 e10),.v (.int .u8 e11),.v (.int .u8 e12),.v (.int .u8 e13),.v (.int .u8 e14),.v (.int .u8 e15),.v (.int .u8 e16),.v (.int .u8 e17),.v (.int .u8 e18),.v (.int .u8 e19),.v (.int .u8 e20),.v (.int .u8 e21),.v (.int .u8 e22),.v (.int .u8 e23),.v (.int .u8 e24),.v (.int .u8 e25),.v (.int .u8 e26),.v (.int .u8 e27),.v (.int .u8 e28),.v (.int .u8 e29),.v (.int .u8 e30),.v (.int .u8 e31)])] (.tup [.c (dkV m1 k1 d1),.c (iv 0)]) [] 0) (u1 u2:Dm) (u3:Int) (u4:Bool) (m2 k2:Nat) (hds:qC' 80 [dkV m1 k1 d1] (.tup [.c (.agg [.sl 1 m2 (u8c u1),.sl 1 k2 (u8c u2),iv u3,bv u4]),.c (iv 0)]) [] 0) (x0 x1 x2 x3 x4 x5 x6 x7 x8 x9 x10 x11 x12 x13 x14 x15 x16 x17 x18 x19 x20 x21 x22 x23 x24 x25 x26 x27 x28 x29 x30 x31:Int) (hcl:qC' 81 [.agg g,.agg [.sl 1 m2 (u8c u1),.sl 1 k2 (u8c u2),iv u3,bv u4]] (.agg [.c (.sl 1 m2 (u8c u1)),.c (.sl 1 k2 (u8c u2)),.c (iv u3),.c (bv u4),.own 0 0 q 65 true,.c (.v (.int .u8 x0)),.c (.v (.int .u8 x1)),.c (.v (.int .u8 x2)),.c (.v (.int .u8 x3)),.c (.v (.int .u8 x4)),.c (.v (.int .u8 x5)),.c (.v (.int .u8 x6)),.c (.v (.int .u8 x7)),.c (.v (.int .u8 x8)),.c (.v (.int .u8 x9)),.c (.v (.int .u8 x10)),.c (.v (.int .u8 x11)),.c (.v (.int .u8 x12)),.c (.v (.int .u8 x13)),.c (.v (.int .u8 x14)),.c (.v (.int .u8 x15)),.c (.v (.int .u8 x16)),.c (.v (.int .u8 x17)),.c (.v (.int .u8 x18)),.c (.v (.int .u8 x19)),.c (.v (.int .u8 x20)),.c (.v (.int .u8 x21)),.c (.v (.int .u8 x22)),.c (.v (.int .u8 x23)),.c (.v (.int .u8 x24)),.c (.v (.int .u8 x25)),.c (.v (.int .u8 x26)),.c (.v (.int .u8 x27)),.c (.v (.int .u8 x28)),.c (.v (.int .u8 x29)),.c (.v (.int .u8 x30)),.c (.v (.int .u8 x31))]) [(0,.row 49 C)] 1):qC' 24 [.agg g,.agg cs] (.tup [.c (.agg ([.sl 1 m2 (u8c u1),.sl 1 k2 (u8c u2),iv u3,bv u4,.sl 65 (q+1) (C++cs')]++[.v (.int .u8 e0),.v (.int .u8 e1),.v (.int .u8 e2),.v (.int .u8 e3),.v (.int .u8 e4),.v (.int .u8 e5),.v (.int .u8 e6),.v (.int .u8 e7),.v (.int .u8 e8),.v (.int .u8 e9),.v (.int .u8 e10),.v (.int .u8 e11),.v (.int .u8 e12),.v (.int .u8 e13),.v (.int .u8 e14),.v (.int .u8 e15),.v (.int .u8 e16),.v (.int .u8 e17),.v (.int .u8 e18),.v (.int .u8 e19),.v (.int .u8 e20),.v (.int .u8 e21),.v (.int .u8 e22),.v (.int .u8 e23),.v (.int .u8 e24),.v (.int .u8 e25),.v (.int .u8 e26),.v (.int .u8 e27),.v (.int .u8 e28),.v (.int .u8 e29),.v (.int .u8 e30),.v (.int .u8 e31)])),.c (iv 0)]) [] 0:=by
 obtain ⟨hg,hg0,hg4,hg5,hc,hq,hcs,hnt⟩:=hA
 have hel:(u8c en).length=n1:=by rw [aH,hen]
 have hil:(u8c i1).length=n2:=by rw [aH,hi1]
 have hrl:(u8c i1++u8c en++([.v (.int .u8 e0),.v (.int .u8 e1),.v (.int .u8 e2),.v (.int .u8 e3),.v (.int .u8 e4),.v (.int .u8 e5),.v (.int .u8 e6),.v (.int .u8 e7),.v (.int .u8 e8),.v (.int .u8 e9),.v (.int .u8 e10),.v (.int .u8 e11),.v (.int .u8 e12),.v (.int .u8 e13),.v (.int .u8 e14),.v (.int .u8 e15),.v (.int .u8 e16),.v (.int .u8 e17),.v (.int .u8 e18),.v (.int .u8 e19),.v (.int .u8 e20),.v (.int .u8 e21),.v (.int .u8 e22),.v (.int .u8 e23),.v (.int .u8 e24),.v (.int .u8 e25),.v (.int .u8 e26),.v (.int .u8 e27),.v (.int .u8 e28),.v (.int .u8 e29),.v (.int .u8 e30),.v (.int .u8 e31)]:D1)).length=(n2+n1+(32-0))*1:=by rw [Aa,Aa];simp only [Au,Bt];omega
 have hCl:(C++[cs'].flatten).length=(q+1)*65:=by simp only [Aa,Bo,List.flatten_nil,A4];omega
 have hCe:C++[cs'].flatten=C++cs':=by simp
 obtain ⟨z1,z2,z3,z4⟩:=d1
 try dsimp only at hda hds
 refine aD aB (sz:=85) Tryz.func24 rfl vI ?_
 repeat' (first|(with_reducible refine vQ 14 ?_)|(with_reducible refine vR 14 ?_)|(with_reducible refine cut3 14 ?_)|(refine aC ?_;intro K hK hX)|refine aK [0,1,2,3,4,5,6,7,9,10,11,63] ?_|((with_reducible refine aQ (i:=2) ?_);refine aP [0,1,2,3,4,5,6,7,9,10,11,63] rfl rfl ?_;refine bW [] ?_)|((with_reducible refine aQ ?_);refine aP [0,1,2,3,4,5,6,7,9,10,11,63] rfl rfl ?_;refine cJ [] ?_)|((with_reducible refine bM ?_);refine yA ?_;(first|refine bC (bN (T:=61) rfl) rfl ?_|refine bC (bN (T:=49) rfl) rfl ?_))|((with_reducible refine aW ?_);refine yA ?_;refine bC (aR (T:=49) aB rfl rfl rfl) rfl ?_)|((with_reducible refine bL ?_);refine qQ hnt aE zby rfl pR rfl (cT rfl rfl (cT rfl dZ (cT rfl dZ (cT rfl dZ (cT rfl dZ (cT rfl dZ uS)))))) ?_)|((with_reducible refine bL ?_);refine qP [4,5,6,7,8,9] hf aE rfl zby rfl rfl rfl sT rfl rfl aC9 rfl pR ?_)|((first|with_reducible refine aF ?_|with_reducible refine gG ?_|with_reducible refine bL ?_);(first|refine wA ?_|refine wD ?_|refine wE ?_);refine oZ (dP (fG zby rfl (hap) zcv rfl) zln) ?_)|(refine dM ?_;first|refine c0 hrd ?_|refine c0 hky ?_|refine c1 hai ?_)|refine iB ?_|refine fT ?_|refine stA ?_|refine stD ?_|refine stE ?_|(refine aG hK hX ?_;clear hK hX K)|fail)
 refine kK ?_
 refine oR (oO (t:=10) rfl rfl hrl) ?_
 repeat' (first|(refine aC ?_;intro K hK hX)|refine bE [0,1,2,3,4,5,6,7,9,10,11,63] ?_|((with_reducible refine bM ?_);refine yA ?_;(first|refine bC (bN (T:=61) rfl) rfl ?_|refine bC (bN (T:=49) rfl) rfl ?_))|((with_reducible refine aW ?_);refine yA ?_;refine bC (aR (T:=49) aB rfl rfl rfl) rfl ?_)|((with_reducible refine aF ?_);refine qE aE rfl zby rfl hcl (by first|exact fO|exact eK cR (eK cR fO)) rfl ?_)|(refine bZ ?_;first|refine c0 hda ?_|refine c0 hds ?_)|refine cH ?_|refine eE ?_|refine stA ?_|refine stD ?_|(refine aG hK hX ?_;clear hK hX K)|fail)
 refine cV zio cG1 rfl (ResL.two zrs zrs) (iM (aX (uB rfl (by repeat' (first|exact cS|refine aX (fZ (gP rfl rfl hCl) (jG rfl hCe)) ?_|refine aX (dU cR) ?_))) (aX (dU cR) cS)))
end
section
def rdE (e:LEn):LEn:=((pEn (cM e)).map (·.1)).getD e
open Classical in
noncomputable def opAd (s:Lg) (e:LEn):Lg × Int :=
 if ¬Fol s.l e then (lgZ,11) else if 512<=s.l.length then (lgZ,8)
 else if (opA s.d (iP kdL s.c e)).2=0 then
  if (opS (opA s.d (iP kdL s.c e)).1).2=0 then (⟨(opS (opA s.d (iP kdL s.c e)).1).1,s.l++[rdE e],kdL s.c (cM e)⟩,0)
  else (⟨(opS (opA s.d (iP kdL s.c e)).1).1,s.l,s.c⟩,104)
 else if (opA s.d (iP kdL s.c e)).2=104 then (⟨(opA s.d (iP kdL s.c e)).1,s.l,s.c⟩,104)
 else (lgZ,(opA s.d (iP kdL s.c e)).2)
theorem aJ7 {s t:Dk} {b:Dm} (h:opA s b=(t,0)):(opS t).2=0\/(opS t).2=104:=by
 have hok:t.ok=true:=by
  unfold opA at h
  split at h
  ·injection h with _ h;cases h
  ·rename_i h1
   split at h
   ·injection h with _ h;cases h
   ·split at h
    ·injection h with _ h;cases h
    ·rename_i h3
     have hs:s.ok=true:=by cases hd:s.ok;exact absurd hd h1;rfl
     obtain ⟨_,h4⟩:=eD (sy:=s.sy) (pe:=s.pe) (fu:=s.fu) (dn:=s.dn) rfl rfl hs
     split at h
     ·injection h with _ h;cases h
     ·rename_i h5
      injection h with h _
      rw [<- h]
      refine sE rfl rfl ?_ ?_
      ·simp only [Aa];omega
      ·simp only
       split
       ·omega
       ·rename_i h6
        have:¬s.fu<b.length:=fun h=>h5 ⟨h6,h⟩
        omega
 unfold opS
 rw [Aj (by rw [hok];simp)]
 split
 ·exact .inr rfl
 ·split
  ·exact .inr rfl
  ·exact .inl rfl
theorem wI {s t:Dk} {b:Dm} {e:Int} (h:opA s b=(t,e)):t.sy.length+t.pe.length<=131072:=by
 unfold opA at h
 split at h
 ·injection h with h _;rw [<- h];simp [dkZ]
 ·rename_i h1
  have hs:s.ok=true:=by cases hd:s.ok;exact absurd hd h1;rfl
  obtain ⟨h3,h4⟩:=eD (sy:=s.sy) (pe:=s.pe) (fu:=s.fu) (dn:=s.dn) rfl rfl hs
  split at h
  ·injection h with h _;rw [<- h];exact h3
  ·split at h
   ·injection h with h _;rw [<- h];simp [dkZ]
   ·rename_i h5
    split at h
    ·injection h with h _
     rw [<- h]
     simp only [Aa,As]
     omega
    ·injection h with h _
     rw [<- h]
     simp only [Aa]
     omega
theorem yW (s:Lg) (m k q:Nat) (hm:s.d.sy.length=m) (hk:s.d.pe.length=k) (hl:s.l.length=q) (h1:m<=1000000) (h2:k<=1000000) (hfu:s.d.fu<=9223372036854775807) (hc:s.c.length=32) (ho:OkL s.l) (hq:q<=1000) (e:LEn) (hw:e.wf) (hk64:aT e.k) (hz:e.sz) (nv ns:Nat) (hnv:e.vs.length=nv) (hns:e.ss.length=ns) (r:Lg) (err:Int) (m' k' q':Nat) (hr:opAd s e=(r,err)) (hm':r.d.sy.length=m') (hk':r.d.pe.length=k') (hq':r.l.length=q'):qC' 24 [.agg (lgV m k q s),.agg (ecs e nv ns)] (.tup [.c (.agg (lgV m' k' q' r)),.c (iv err)]) [] 0:=by
 have hcl:(u8c s.c).length=32:=by rw [aH,hc]
 have hlg:(lgV m k q s).length=37:=by unfold lgV;rw [Aa,hcl];rfl
 have hw5:List.take 32 (List.drop (0+5) (lgV m k q s))=u8c s.c:=by
  show List.take 32 (u8c s.c)=u8c s.c
  rw [Ad (Cd hcl)]
 have hnt:=dF7 s.l q hl hq ho
 have hA:AdC (lgV m k q s) (.sl 1 m (u8c s.d.sy)) (.sl 1 k (u8c s.d.pe)) (iv s.d.fu) (bv s.d.dn) q (lec s.l) s.c (ecs e nv ns) (Tl.of s.l):=⟨hlg,rfl,rfl,hw5,hcl,hq,cK hw.root nv ns,hnt⟩
 obtain ⟨t1,t2,t3⟩:=cV0 (l:=s.l) aA ho
 have hrel:=(bJ6 s.l).fol e
 have hfT:∀r:Bool,(r=true↔FolT (Tl.of s.l) e)->ACG Tryz.prog 62 6 [(0,.blk tTl [.c (bv (Tl.of s.l).so),.c (iv (Tl.of s.l).day),.c (iv (Tl.of s.l).er),.c (iv (Tl.of s.l).sg),.mh 1,.mh 2,.mh 3,.mh 4,.mh 5]),(1,.tab (aI ktI.kc (Tl.of s.l).bg)),(2,.tab (aI ktI.kc (Tl.of s.l).co)),(3,.tab (aI ktP.kc (Tl.of s.l).st)),(4,.tab (aI ktV.kc (Tl.of s.l).vs)),(5,.tab (aI ktS.kc (Tl.of s.l).ss))] [.agg (ecs e nv ns)] [(0,.blk tTl [.c (bv (Tl.of s.l).so),.c (iv (Tl.of s.l).day),.c (iv (Tl.of s.l).er),.c (iv (Tl.of s.l).sg),.mh 1,.mh 2,.mh 3,.mh 4,.mh 5]),(1,.tab (aI ktI.kc (Tl.of s.l).bg)),(2,.tab (aI ktI.kc (Tl.of s.l).co)),(3,.tab (aI ktP.kc (Tl.of s.l).st)),(4,.tab (aI ktV.kc (Tl.of s.l).vs)),(5,.tab (aI ktS.kc (Tl.of s.l).ss))] (bv r):=fun r hr=>cL3 (Tl.of s.l) t1 t2 t3 e hw hk64 hz nv ns hnv hns r hr
 unfold opAd at hr
 by_cases hF:Fol s.l e
 rotate_left
 ·rw [Ak hF] at hr
  injection hr with hr1 hr2
  subst hr1 hr2
  obtain rfl:m'=0:=hm'.symm
  obtain rfl:k'=0:=hk'.symm
  obtain rfl:q'=0:=hq'.symm
  exact eP4 _ _ _ _ _ _ _ _ _ _ hA (hfT false ⟨fun h=>eS,fun h=>absurd (hrel.1 h) hF⟩)
 rw [Aj (fun h=>h hF)] at hr
 have hf:=hfT true ⟨fun _=>hrel.2 hF,fun _=>rfl⟩
 clear hfT
 by_cases h512:512<=s.l.length
 ·rw [Ak h512] at hr
  injection hr with hr1 hr2
  subst hr1 hr2
  obtain rfl:m'=0:=hm'.symm
  obtain rfl:k'=0:=hk'.symm
  obtain rfl:q'=0:=hq'.symm
  exact eP5 _ _ _ _ _ _ _ _ _ _ hA hf aA
 rw [Aj h512] at hr
 have hlt:q<512:=by omega
 have hlen:=oY hw hk64 hz
 obtain ⟨n1,hn1⟩:∃n,(cM e).length=n:=⟨_,rfl⟩
 rw [hn1] at hlen
 have hap:=bK3 [] 0 rfl aA e hw hk64 nv ns hnv hns n1 n1 hn1 aA (Aq n1)
 rw [Ay] at hap
 obtain ⟨x,s',nv',ns',q1,hv',hs',hrt,b',e',p',rfl,q3,q4,q5,q6⟩:=aD4 (cM e) n1 hn1 aA
 have hx:pEn (cM e)=some (x,b')/\e'=0:=by
  rcases rd_enP.of (cM e) with ⟨y,rr,h1,h2⟩|⟨h1,h2⟩
  ·rw [q1] at h2
   injection h2 with e1 h2
   injection h2 with e2 e3
   rw [h1,e1,e2]
   exact ⟨rfl,e3⟩
  ·have:=hF.rd
   rw [h1] at this
   cases this
 obtain ⟨hx,rfl⟩:=hx
 have q5:=q5 rfl
 have hxr:rdE e=x:=by unfold rdE;rw [hx];rfl
 rw [hxr] at hr
 have hky:=aX0 330#64 s.c (cM e) n1 hc hn1 aA
 have hkd:sum 330#64 (s.c++cM e)=kdL s.c (cM e):=rfl
 rw [hkd] at hky
 have hdl:=kU s.c (cM e)
 obtain ⟨n2,hn2⟩:∃n,(bA (n1:Int)).length=n:=⟨_,rfl⟩
 have hn2b:n2<=10:=by rw [<- hn2];exact kM aA
 have hai:=cX7 [] 0 rfl aA (n1:Int) ⟨by omega,by omega⟩ n2 n2 hn2 aA (Aq n2)
 rw [Ay] at hai
 have hfr:iP kdL s.c e=bA (n1:Int)++(cM e++kdL s.c (cM e)):=by unfold iP;rw [hn1]
 have hfl:(iP kdL s.c e).length=n2+n1+(32-0):=by rw [hfr,Aa,Aa,hn1,hn2,hdl];omega
 have hfu8:u8c (iP kdL s.c e)=u8c (bA (n1:Int))++u8c (cM e)++u8c (kdL s.c (cM e)):=by rw [hfr,bI,bI,Ao]
 obtain ⟨d1,e1,hoA⟩:∃d1 e1,opA s.d (iP kdL s.c e)=(d1,e1):=⟨_,_,rfl⟩
 have hda:=bS9 s.d.sy s.d.pe (iP kdL s.c e) s.d.fu s.d.dn m k _ hm hk hfl h1 h2 aA hfu d1 e1 _ _ hoA rfl rfl
 rw [hfu8] at hda
 have hsz:=wI hoA
 rw [hoA] at hr
 simp only at hr
 clear hfu8 hfl hfr
 generalize hDD:kdL s.c (cM e)=D at *
 obtain ⟨z1,hz1⟩:∃z,d1.sy.length=z:=⟨_,rfl⟩
 obtain ⟨z2,hz2⟩:∃z,d1.pe.length=z:=⟨_,rfl⟩
 rw [hz1,hz2] at hda
 have hclo:∀(d2:Dk) (m2 k2:Nat),(lgV m2 k2 q ⟨d2,s.l,s.c⟩).length=37/\qC' 81 [.agg (lgV m k q s),dkV m2 k2 d2] (.c (.agg (lgV m2 k2 q ⟨d2,s.l,s.c⟩))) [] 0:=fun d2 m2 k2=>⟨by unfold lgV;rw [Aa,hcl];rfl,bW2 s m k q hl hq ho hc d2 m2 k2⟩
 by_cases e10:e1=0
 ·subst e10
  rw [Ak rfl] at hr
  obtain ⟨d2,e2,hoS⟩:∃d2 e2,opS d1=(d2,e2):=⟨_,_,rfl⟩
  have hds:=dJ3 d1.sy d1.pe d1.fu d1.dn z1 z2 hz1 hz2 aA aA d2 e2 _ _ hoS rfl rfl
  have hcs:=aJ7 hoA
  rw [hoS] at hr hcs
  simp only at hr hcs
  by_cases e20:e2=0
  ·subst e20
   rw [Ak rfl] at hr
   injection hr with hr1 hr2
   subst hr1 hr2
   simp only at hm' hk' hq'
   rw [hm',hk'] at hds
   obtain ⟨w1,w2,w3⟩:=cO0 hx
   have hsn:lec s.l++ecs x nv' ns'=lec (s.l++[x]):=by rw [<- hv',<- hs'];unfold lec;rw [Bc];simp [ecR]
   have hq1:q'=q+1:=by rw [<- hq',Aa,hl];rfl
   obtain ⟨e0,e1,e2,e3,e4,e5,e6,e7,e8,e9,e10,e11,e12,e13,e14,e15,e16,e17,e18,e19,e20,e21,e22,e23,e24,e25,e26,e27,e28,e29,e30,e31,hD⟩:=cV2 (l:=D) hdl
   obtain ⟨x0,x1,x2,x3,x4,x5,x6,x7,x8,x9,x10,x11,x12,x13,x14,x15,x16,x17,x18,x19,x20,x21,x22,x23,x24,x25,x26,x27,x28,x29,x30,x31,hC⟩:=cV2 (l:=s.c) hc
   rw [hD] at hky hda
   obtain ⟨u1,u2,u3,u4⟩:=d2
   have hcw:=bG1 (lgV m k q s) hlg s.l q hl hq ho x0 x1 x2 x3 x4 x5 x6 x7 x8 x9 x10 x11 x12 x13 x14 x15 x16 x17 x18 x19 x20 x21 x22 x23 x24 x25 x26 x27 x28 x29 x30 x31 rfl (hw5.trans hC) u1 u2 u3 u4 m' k'
   have:=eP9 _ _ _ _ _ _ _ _ _ _ hA hf hlt (by rw [fX ho,hl]) n1 (cM e) hn1 aA hap _ (cK hrt nv' ns') _ q5 _ _ _ _ _ _ _ _ _ _ _ _ _ _ _ _ _ _ _ _ _ _ _ _ _ _ _ _ _ _ _ _ hky n2 _ hn2 hn2b hai d1 z1 z2 hda u1 u2 u3 u4 m' k' hds _ _ _ _ _ _ _ _ _ _ _ _ _ _ _ _ _ _ _ _ _ _ _ _ _ _ _ _ _ _ _ _ hcw
   unfold lgV
   rw [hq1]
   simp only
   rw [hD,<- hsn]
   exact this
  ·have e24:e2=104:=by rcases hcs with h|h;exact absurd h e20;exact h
   subst e24
   rw [Aj aN] at hr
   injection hr with hr1 hr2
   subst hr1 hr2
   simp only at hm' hk' hq'
   obtain rfl:q=q':=by omega
   rw [hm',hk'] at hds
   exact eP8 _ _ _ _ _ _ _ _ _ _ hA hf hlt n1 (cM e) hn1 aA hap _ (cK hrt nv' ns') _ q5 D hdl hky n2 _ hn2 hn2b hai d1 z1 z2 hda d2 m' k' hds _ (hclo d2 m' k').1 (hclo d2 m' k').2
 ·rw [Aj e10] at hr
  by_cases e14:e1=104
  ·subst e14
   rw [Ak rfl] at hr
   injection hr with hr1 hr2
   subst hr1 hr2
   simp only at hm' hk' hq'
   obtain rfl:q=q':=by omega
   rw [<- hz1,<- hz2,hm',hk'] at hda
   exact eP7 _ _ _ _ _ _ _ _ _ _ hA hf hlt n1 (cM e) hn1 aA hap _ (cK hrt nv' ns') _ q5 D hdl hky n2 _ hn2 hn2b hai d1 m' k' hda _ (hclo d1 m' k').1 (hclo d1 m' k').2
  ·rw [Aj e14] at hr
   injection hr with hr1 hr2
   subst hr1 hr2
   obtain rfl:m'=0:=hm'.symm
   obtain rfl:k'=0:=hk'.symm
   obtain rfl:q'=0:=hq'.symm
   exact eP6 _ _ _ _ _ _ _ _ _ _ hA hf hlt n1 (cM e) hn1 aA hap _ (cK hrt nv' ns') _ q5 D hdl hky n2 _ hn2 hn2b hai e1 d1 z1 z2 hda e10 e14
end
def vA:Ver:=⟨0,0,5⟩
def enA:LEn:=⟨2,0,0,0,rq0,lk0,hd0,[vA],[],root0⟩
def enB:LEn:=⟨3,0,0,0,rq0,lk0,hd0,[],[],root0⟩
def dkN:Dk:=⟨[],[],-1,false⟩
def lgN:Lg:=⟨dkN,[],root0⟩
theorem gF:aT 0:=⟨by decide,by decide⟩
theorem eJ2:aT 5:=⟨by decide,by decide⟩
theorem wfA:enA.wf where
 h1:=⟨gF,gF,gF⟩
 rq:=⟨gF,gF,gF,gF⟩
 lk:=gF
 hd:=⟨gF,gF,gF,gF,gF⟩
 vs:=fun v hv=>by
  have:v=vA:=by simpa [enA] using hv
  subst this
  exact ⟨gF,gF,eJ2⟩
 ss:=fun v hv=>by simp [enA] at hv
 root:=rfl
theorem wfB:enB.wf where
 h1:=⟨gF,gF,gF⟩
 rq:=⟨gF,gF,gF,gF⟩
 lk:=gF
 hd:=⟨gF,gF,gF,gF,gF⟩
 vs:=fun v hv=>by simp [enB] at hv
 ss:=fun v hv=>by simp [enB] at hv
 root:=rfl
theorem szA:enA.sz:=aF2 (by simp [smE,enA,rq0,lk0,hd0,iE,Vl.nul])
theorem szB:enB.sz:=aF2 (by simp [smE,enB,rq0,lk0,hd0,iE,Vl.nul])
theorem rdA:enA.rd where
 k:=by simp [enA]
 rq:=fun h=>by simp [enA] at h
 er:=fun _=>by simp [enA]
 lk:=fun h=>by simp [enA] at h
 hd:=fun h=>by simp [enA] at h
theorem clA:clE enA=enA:=by
 unfold clE enA
 simp
theorem pA (r:Dm):pEn (cM enA++r)=some (enA,r):=by rw [uM wfA rdA,clA]
theorem eT3:rdE enA=enA:=by
 have:=pA []
 rw [A4] at this
 unfold rdE
 rw [this]
 rfl
theorem eI7:Fol [] enA where
 rd:=by
  have:=pA []
  rw [A4] at this
  rw [this];rfl
 day:=⟨by decide,by decide,fun x h=>by simp at h⟩
 rq h:=by simp [enA] at h
 er _:=by
  refine ⟨rfl,.inl (by simp [enA]),?_,?_,⟨?_,?_⟩,?_,?_⟩
  ·simp [erasV,iY,ascL,enA]
  ·simp [erasS,lO,ascL,enA]
  ·simp [enA]
  ·intro v _;simp [iY]
  ·simp [enA]
  ·intro v hv;simp [enA] at hv
 st h:=by simp [enA] at h
 co h:=by simp [enA] at h
 sg h:=by simp [enA] at h
theorem eR6:¬Fol [] enB:=fun h=>by
 obtain ⟨⟨⟨x,hx,_⟩,_⟩,_⟩:=h.st rfl
 simp at hx
theorem dT3:opO dkN=(lgN,0):=by
 have h1:opR dkN=([],0):=rfl
 have h2:parF kdL 513 [] root0 []=([],0,root0):=rfl
 have h3:opT dkN 0=(dkN,0):=rfl
 unfold opO
 rw [h1]
 simp only [h2]
 show (if (0:Int)≠0 then _ else _)=_
 rw [Aj aN]
 exact Prod.ext (by simp only;rw [show ((0:Nat):Int)=0 from rfl,h3];rfl) rfl
theorem eA2:opAd lgN enB=(lgZ,11):=by
 have h:¬Fol lgN.l enB:=eR6
 unfold opAd
 rw [Ak h]
noncomputable def frA:Dm:=iP kdL root0 enA
theorem aO4:frA.length<=100042:=by
 have h1:=oY wfA ⟨by decide,by decide⟩ szA
 have h2:(kdL root0 (cM enA)).length=32:=kU _ _
 have h3:=kM (n:=(cM enA).length) aA
 unfold frA iP
 simp only [Aa]
 omega
noncomputable def lgA:Lg:=⟨⟨frA,[],-1,false⟩,[enA],kdL root0 (cM enA)⟩
theorem eA1:opAd lgN enA=(lgA,0):=by
 have hl:=aO4
 have h1:opA dkN frA=(⟨[],frA,-1,false⟩,0):=by
  unfold opA dkN
  rw [Aj aN]
  simp only
  rw [Aj aN,Aj fU,Aj aU]
  simp
 have h2:opS ⟨[],frA,-1,false⟩=(⟨frA,[],-1,false⟩,0):=by
  unfold opS
  rw [Aj (by rw [sE (m:=0) (k:=frA.length) rfl rfl aA aN];simp)]
  rw [Aj aU,Aj aU]
  rfl
 have h0:¬¬Fol lgN.l enA:=fun h=>h eI7
 unfold opAd
 rw [Aj h0,Aj aN]
 show (if (opA dkN frA).2=0 then (if (opS (opA dkN frA).1).2=0 then ((⟨(opS (opA dkN frA).1).1,lgN.l++[rdE enA],kdL lgN.c (cM enA)⟩:Lg),(0:Int)) else _) else _)=_
 rw [h1]
 simp only [h2,Bu,eT3]
 rfl
theorem eA9:parF kdL 513 [] root0 frA=([enA],frA.length,kdL root0 (cM enA)):=by
 have h1:kD kdL root0 frA=some (enA,kdL root0 (cM enA),frA.length):=by
  have h2:=oY wfA ⟨by decide,by decide⟩ szA
  have:=bW5 kU wfA rdA aA root0 []
  rw [A4,clA] at this
  exact this
 rw [parF,h1]
 simp only
 rw [Ak ⟨eI7,by decide⟩,List.drop_length,parF,cN6]
 rfl
theorem eA3:opCr lgA 0=(lgA,0):=by
 have hl:=aO4
 have h1:opC lgA.d 0=(lgA.d,0):=by
  unfold opC
  rw [Aj dQ4]
  simp [lgA]
 have h2:opR lgA.d=(frA,0):=by
  unfold opR
  rw [Aj dQ4]
  simp [lgA]
 have h3:opT lgA.d (frA.length:Int)=(lgA.d,0):=by
  unfold opT
  rw [Aj (by rw [sE (s:=lgA.d) (m:=frA.length) (k:=0) rfl rfl aA aN];simp [lgA])]
  simp [lgA]
 unfold opCr
 rw [h1]
 simp only [ne_eq,Bw,AQ]
 unfold opO
 rw [h2]
 simp only [ne_eq,Bw,AQ,eA9]
 rw [h3]
 rfl
theorem dS5:erasV lgA.l=[vA]:=by
 simp [erasV,iY,ascL,lgA,enA,insA]
end Go.Proofs.YtbgehdndimlgkaaGreat
namespace Go.Av
open Go Go.RowKit
def plB:AV->Bool
 | .c (.v _)=>true
 | .tup xs=>xs.all fun x=>match x with | .c (.v _)=>true|_=>false
 | _=>false
def ACS (P:Dv) (f:FuncId) (E:Du) (size n:Nat) (c0 args c1:D1) (r:AV):Prop :=
 ∀(ok:Nat->Prop) (w:World) (g cap:Nat) (us0 vs0 vs:Do),¬ok g->w.heap[g]? = some (.cells (us0++vs0).toArray E (0,0))->RepCs ok w c0 us0->(∀u∈us0,u.oneCell'=true)->n<=cap->cap<=maxLen->us0.length+vs0.length=cap*size->RepCs ok w args vs ->
  Calls P f (Value.slice (some ⟨g,0,none⟩) n cap::vs).toArray w fun e w'=>∃v us1 vs1,e = .returned v/\FrB w [g] w'/\w'.heap[g]? = some (.cells (us1++vs1).toArray E (0,0))/\us1.length+vs1.length=cap*size/\RepCs (okg ok w g) w' c1 us1/\(∀u∈us1,u.oneCell'=true)/\∀C:Cx,Rep C r v
theorem ACS.eq {P:Dv} {f:FuncId} {E:Du} {size n:Nat} {c0 args c1 c1':D1} {r r':AV} (h:ACS P f E size n c0 args c1 r) (h1:c1=c1') (h2:r=r'):ACS P f E size n c0 args c1' r':=h1▸h2▸h
section call
variable {P:Dv} {ev:Evl} {h:aO} {d:Dt} {ty:Du} {pos:String} {aft:Ds} {gd:Dn} {i:Nat} {f:FuncId} {x0:Operand} {xs:Dy} {ats:Dx} {E:Du} {c0 c1 cs cs':D1} {r:AV} {id size m:Nat}
theorem dA6 (hac : ACS P f E size m c0 cs' c1 r) (hb : Body P f) (hm : 0 < m) (hx0 : ev x0 = some (.own id 0 m size true)) (ho : lk h id = some (.row E c0)) (hx : eX ev xs = some cs) (hcv : CvL cs cs') :
    bY P ⟨d, .call ⟨.value (.func f), (x0 :: xs).toArray, ats⟩, ty, pos, aft, gd⟩ ev h r [] (some (id, some (.row E c1))) i i := by
  intro B dom M H w a K Q hh hn hc he hK
  have hargs : RepCs (bF B dom M H) w cs (xs.map a.eval) := RepL.toC (C := ⟨dom, M, bF B dom M H, w⟩) (gD he tV)
  have hp := he x0 _ hx0
  simp only [Rep] at hp
  obtain ⟨hid, hp⟩ := hp
  rcases hp with ⟨h1, _⟩ | ⟨g, cap, hM, hp, hncap, hcap, hfull⟩ | ⟨h1, _⟩
  · omega
  · obtain ⟨us0, vs0, hb0, hus0, hone0⟩ := fI hh hc ho hid hM
    have hng : ¬ bF B dom M H g := fun hk => hk.2 id _ hid (hh id _ ho hid) hM
    have hlen0 : us0.length + vs0.length = cap * size := by
      obtain ⟨e, hsh⟩ := hfull trivial
      unfold World.shape? at hsh
      rw [hb0] at hsh
      simp only [Option.some.injEq, Prod.mk.injEq, A1, Aa] at hsh
      omega
    unfold Oper.wp execOp
    simp only [resolve, Deferred.ofValue, Act.eval, invoke, Sem.run_bind, Sem.run_pure, Result.andThen_ok, AZ, Bg, Body.run hb, Oper.upon]
    rw [show (#[] ++ (List.map a.eval (x0 :: xs)).toArray : D0) = (Value.slice (some ⟨g, 0, none⟩) m cap :: List.map a.eval xs).toArray by simp [hp]]
    refine (hac _ w g cap us0 vs0 _ hng hb0 hus0 hone0 hncap hcap hlen0 (hcv _ _ _ hargs)).mono ?_
    rintro e w' ⟨v, us1, vs1, rfl, hfr, hb1, hlen1, hus1, hone1, hv⟩
    simp only
    have hgs := cC hb0
    have hg1 : (w'.putObj g (.cells (us0 ++ vs0).toArray E (0, 0))).heap[g]? = some (.cells (us0 ++ vs0).toArray E (0, 0)) := World.putObj_heap_same (cC hb1)
    have ho1 : ∀ k, k ≠ g -> (w'.putObj g (.cells (us0 ++ vs0).toArray E (0, 0))).heap[k]? = w'.heap[k]? := fun k hk => World.putObj_heap_other (fun e => hk e)
    generalize hw1 : w'.putObj g (.cells (us0 ++ vs0).toArray E (0, 0)) = w1 at hg1 ho1
    have hs1 : w1.heap.size = w'.heap.size := by rw [<- hw1]; simp [World.putObj]
    have hbl : Below w.heap.size w w1 := ⟨by rw [<- hw1]; exact hfr.os, by rw [<- hw1]; exact hfr.tape, by rw [<- hw1]; exact hfr.output, by rw [hs1]; exact hfr.size, fun k hk => by
      by_cases e : k = g
      · subst e; rw [hg1, hb0]
      · rw [ho1 k e]; exact hfr.block k hk (by simp [e])⟩
    have hgr := hc.grow hbl i i (M' := M) (fun id _ => rfl) (fun id h1 h2 => by omega) (fun id o h1 h2 => by omega) (fun id id' o o' g h1 h2 => by omega) (fun hext id o h1 h2 => by omega)
    rw [dY] at hgr
    obtain ⟨g1, g2⟩ := hgr
    have hmon : kW (okg (bF B dom M H) w g) (bF B dom M (ov (some (id, some (.row E c1))) H)) w' w' := fun b hb hl => by
      refine ⟨⟨?_, fun k o hk hH he => ?_⟩, hl, rfl⟩
      · rcases hb.1 with h1 | h1
        · exact h1.1
        · exact aU6
      · by_cases e : k = id
        · subst e
          rw [hM] at he
          injection he with he
          exact hb.2 he.symm
        · rw [lE (fun x hx => e (congrArg Prod.fst (Option.some.inj hx)).symm)] at hH
          rcases hb.1 with h1 | h1
          · exact h1.2 k o hk hH he
          · have := (hc.obj k o hk hH).lt b he
            simp only at this
            omega
    obtain ⟨k1, k2⟩ := g1.turnE (o' := .row E c1) (w' := w') hid (hh id _ ho hid) hM jQ jQ jQ hs1.symm (fun k hk => (ho1 k hk).symm)
      (by
        unfold World.shape?
        rw [hb1, hg1]
        simp only [A1, Aa]
        rw [hlen1, hlen0])
      (fun hext => .inr ⟨g, us1, vs1, rfl, hb1, RepCs.mono hmon _ _ hus1, hone1⟩)
    rw [dY] at hK
    exact hK v w' M (g2.trans k2) k1 (hv _)
  · omega
end call
section
variable {P:Dv} {sz n:Nat} {env:Env} {h:aO} {dfs:cD} {K:AK} {ops:Dq} {rest:Dp} {d:Dt} {ty:Du} {pos:String} {aft:Ds} {gd:Dn} {f:FuncId} {x0:Operand} {xs:Dy} {ats:Dx} {E:Du} {c0 c0' c1 cs cs':D1} {r:AV} {id size m:Nat}
end
section enter
def eE6 (P:Dv) (tab:Tab) (rs:List ResultVar) (E:Du) (size n:Nat) (c1:D1) (r:AV):AK :=
 fun e k env h dfs=>(e = .normal\/e = .ret)/\iJ P h dfs/\jH dfs=some [.own 0 0 n size true]/\0<k/\lk (gK h dfs) 0=some (.row E c1)/\∃v,ResL tab env (gK h dfs) rs v/\plB v=true/\v=r
end enter
end Go.Av
namespace Go.Av
open Go
theorem yB {p:Dv} {w w':World} {at_:Addr} {u:Du} {k:Addr} {v:Value} {atomic:Bool} {l:List Addr} (h:w.viewStore p at_ u k v atomic = .ok (w',l)):w'.drawn=w.drawn:=by
 unfold World.viewStore at h
 simp only [bind,Except.bind,pure,Except.pure] at h
 repeat' first
  | (cases h;done)
  | (injection h with h;injection h with h1 h2;subst h1;rfl)
  | split at h
theorem aB4 {p:Dv} {w w':World} {a:Addr} {v:Value} {atomic:Bool} {l:List Addr} (h:w.farStore p a v atomic = .ok (w',l)):w'.drawn=w.drawn:=by
 unfold World.farStore at h
 split at h
 ·split at h
  ·rename_i r hr
   injection h with h
   subst h
   exact yB hr
  ·cases h
 ·cases h
theorem aO5 (w:World) (a:Addr) (n:Nat):(w.freeze a n).drawn=w.drawn:=by
 unfold World.freeze
 split<;>rfl
theorem uY {α:Type}:∀(t:Ask α) (w:World),w.drawn<=(w.ask t).2.drawn
 | .done a,w=>by unfold World.ask;exact Ah _
 | .ask what range k,w=>by
  unfold World.ask
  simp only []
  split
  ·exact uY (k 0) w
  ·exact At (BI w.drawn) (uY (k _) {w with drawn:=w.drawn+1})
theorem bZ9 (w:World) (c:Sys):w.drawn<=(w.sys c).2.drawn:=by
 have h:=uY (Kernel.perform c w.os) w
 unfold World.sys
 split
 ·exact Ah _
 ·rename_i e
  rw [e] at h
  exact h
def RW {α:Type}:Result α->World
 | .ok _ w=>w
 | .halt _ w=>w
theorem sH (p : Dv) {α : Type} (s : Sem α) : ∀ w : World, w.drawn <= (RW (s.run p w)).drawn := by
  induction s with
  | pure a => exact fun w => Ah _
  | load m a k ih =>
    intro w
    unfold Sem.run
    split
    · exact ih _ w
    · split
      · exact ih _ w
      · exact Ah _
  | store m a v k ih =>
    intro w
    have hs : ∀ r : Result α, r = (match w.cell? a with
        | some _ => if w.frozen? a then .halt (.unsupported (.unsafePointer "a write to bytes that a string shares")) w else k.run p (w.setCell a v)
        | none => match w.farStore p a v (m == .atomic) with
          | .ok (w, _) => k.run p w
          | .error h => .halt h w) -> w.drawn <= (RW r).drawn := fun r e => by
      subst e
      split
      · split
        · exact Ah _
        · exact ih (w.setCell _ _)
      · split
        · rename_i e
          have := aB4 e
          exact this ▸ ih _
        · exact Ah _
    cases v <;> first | exact hs _ rfl | exact Ah _
  | new o k ih => intro w; unfold Sem.run; exact ih _ { w with heap := w.heap.push o }
  | shape r k ih => intro w; unfold Sem.run; exact ih _ _
  | freeze a n k ih => intro w; unfold Sem.run; exact (aO5 w a n) ▸ ih _
  | frozen a k ih => intro w; unfold Sem.run; exact ih _ _
  | getObj r k ih =>
    intro w
    unfold Sem.run
    split
    · exact Ah _
    · exact ih _ _
    · exact Ah _
  | setObj r o k ih =>
    intro w
    unfold Sem.run
    split
    · exact Ah _
    · exact ih { w with heap := w.heap.setIfInBounds r o }
    · exact Ah _
  | choose q k ih =>
    intro w
    unfold Sem.run
    split
    · exact ih _ w
    · exact At (BI _) (ih _ { w with drawn := w.drawn + 1 })
  | sys c k ih => intro w; unfold Sem.run; exact At (bZ9 w c) (ih _ _)
  | program k ih => intro w; unfold Sem.run; exact ih _ _
  | mark m k ih => intro w; unfold Sem.run; exact ih _
  | halt h => exact fun w => Ah _
section
variable {p:Dv} {α:Type} {s:Sem α} {w w':World}
include p α s w w'
theorem fV {v:α} (h:s.run p w = .ok v w'):w.drawn<=w'.drawn:=by
 have:=sH p s w
 rw [h] at this
 exact this
theorem nI {v:Halt} (h:s.run p w = .halt v w'):w.drawn<=w'.drawn:=by
 have:=sH p s w
 rw [h] at this
 exact this
theorem dJ5 {v:α} {es es':Array Event} (h:s.runT p w es=(.ok v w',es')):w.drawn<=w'.drawn:=fV (p:=p) (s:=s) (by rw [<- Sem.runT_fst p s w es,h])
theorem cV5 {v:Halt} {es es':Array Event} (h:s.runT p w es=(.halt v w',es')):w.drawn<=w'.drawn:=nI (p:=p) (s:=s) (by rw [<- Sem.runT_fst p s w es,h])
end
def GUp (d:Nat):GStep->Prop
 | .go _ w _=>d<=w.drawn
 | .comm _ _ _ _ w _=>d<=w.drawn
 | .spawn _ _ w _=>d<=w.drawn
 | .count _ w _=>d<=w.drawn
 | .timer _ _ w _=>d<=w.drawn
 | .alone _ _ w _=>d<=w.drawn
 | .newcoro _ _ _ w _=>d<=w.drawn
 | .coroswitch _ _ _ w _=>d<=w.drawn
 | .collect _ w _=>d<=w.drawn
 | .watch _ w _=>d<=w.drawn
 | .ended _ _ _=>True
theorem GUp.after {d:Nat} {es:Array Event} {s:GStep} (h:GUp d s):GUp d (s.after es):=by cases s<;>exact h
theorem GUp.le {d e:Nat} {s:GStep} (h:GUp e s) (hd:d<=e):GUp d s:=by
 cases s<;>first|trivial|exact At hd h
theorem bF1 {d:Nat} (w:World) (fd:Nat) (t:ByteArray) (o:Outcome):GUp d (endWith w fd t o):=by
 unfold endWith
 simp only []
 repeat' first|trivial|split
section
variable {d:Nat} (p:Dv)
include d p
theorem qV (fr:Frame) (v:Value) (w:World) (h:d<=w.drawn):GUp d (endPrinting p fr v w):=by
 have hk:∀(o:Option String) (m:String->String) (x:GStep),GUp d x->GUp d (match o with|some s=>endThrow fr (m s) w|none=>x):=fun o m x hx=>by
  cases o with
  | none=>exact hx
  | some s=>exact h
 unfold endPrinting
 simp only []
 exact hk _ _ _ trivial
theorem xI (fr:Frame) (callers:List Frame) (dying:Option Dying) (m:String) (w:World) (h:d<=w.drawn):GUp d (endFatal p fr callers dying m w):=by
 unfold endFatal
 simp only []
 split
 ·rename_i e;exact At h (fV e)
 ·trivial
 ·trivial
theorem bJ8 (fr:Frame) (dy:Dying) (f:Fatal) (w:World) (h:d<=w.drawn):GUp d (writeOn p fr dy f w):=by
 unfold writeOn
 split
 ·trivial
 ·simp only []
  split
  ·rename_i e;exact At h (dJ5 e)
  ·rename_i e;exact At h (cV5 e)
  ·trivial
  ·trivial
theorem dX5 (fr:Frame) (dy:Dying) (w:World) (h:d<=w.drawn):GUp d (die p fr dy w):=by
 unfold die
 split
 ·exact bJ8 _ _ _ _ _ h
 ·split
  ·split
   ·exact h
   ·exact bF1 _ _ _ _
  ·simp only []
   split
   ·exact h
   ·split
    ·rename_i e;exact At h (fV e)
    ·trivial
   ·simp only [Sem.runT_eq]
    refine GUp.after ?_
    split
    ·rename_i e;exact At h (fV e)
    ·rename_i e;exact At h (fV e)
    ·trivial
    ·rename_i e;exact qV _ _ _ _ (At h (nI e))
    ·trivial
   ·trivial
theorem qR (main:Bool) (fr:Frame) (callers:List Frame) (dying:Option Dying) (v:Value) (w:World) (h:d<=w.drawn):GUp d (doReturn p main fr callers dying v w):=by
 unfold doReturn
 repeat' first|exact h|trivial|split
theorem xZ (fr:Frame) (callers:List Frame) (dying:Option Dying) (df:Deferred) (w:World) (h:d<=w.drawn):GUp d (callDeferred p fr callers dying df w):=by
 have hk:∀(c:Bool) (a b:GStep),GUp d a->GUp d b->GUp d (if c then a else b):=fun c a b ha hb=>by cases c<;>assumption
 unfold callDeferred
 refine hk _ _ _ trivial ?_
 ·simp only [Sem.runT_eq]
  refine GUp.after ?_
  have hr:=sH p (invoke df.target df.args) w
  revert hr
  generalize (invoke df.target df.args).run p w=r
  intro hr
  have hd:=At h hr
  repeat' first
   | trivial
   | exact hd
   | exact xI _ _ _ _ _ _ hd
   | exact endThrow_up _ _ _ hd
   | split
theorem cA1 (main:Bool) (fr:Frame) (callers:List Frame) (dying:Option Dying) (w:World) (h:d<=w.drawn):GUp d (unwind p main fr callers dying w):=by
 unfold unwind
 split
 ·simp only [Sem.runT_eq]
  refine GUp.after ?_
  split
  ·rename_i e;exact At h (fV e)
  ·trivial
 ·exact xZ _ _ _ _ _ _ h
 ·split
  ·trivial
  ·split
   ·trivial
   ·split
    ·exact h
    ·split
     ·split
      ·exact h
      ·split
       ·rename_i e;exact At h (fV e)
       ·trivial
       ·trivial
     ·split
      ·exact qV _ _ _ _ h
      ·trivial
  ·split
   ·exact qR _ _ _ _ _ _ _ h
   ·simp only [Sem.runT_eq]
    refine GUp.after ?_
    split
    ·rename_i e;exact qR _ _ _ _ _ _ _ (At h (fV e))
    ·trivial
    ·trivial
end
theorem cK0 {d : Nat} (p : Dv) (fr : Frame) (callers : List Frame) (dying : Option Dying) (g : Nat) (w : World) (h : d <= w.drawn) : GUp d (early p fr callers dying g w) := by
  have hn : ∀ w' : World, d <= w'.drawn -> GUp d (match w'.heap[g]? with
      | some (.pending c elem) => GStep.go { frame := fr, callers, status := .running, dying } { w' with heap := w'.heap.setIfInBounds g (.cells c elem) }
      | _ => .ended (.stuck "early: the variable does not wait" (fr.pos p)) w') := fun w' h' => by
    split
    · exact h'
    · trivial
  unfold early
  simp only []
  repeat' first
    | trivial
    | exact hn _ h
    | exact h
    | (rename_i e; exact hn _ (At h (fV e)))
    | (rename_i e; exact At h (fV e))
    | split
theorem yX {d:Nat} (p:Dv) (main listen:Bool) (fr:Frame) (callers:List Frame) (dying:Option Dying) (s:Sem Next) (w:World) (h:d<=w.drawn):GUp d (stepG.apply p listen fr callers dying s w):=by
 unfold stepG.apply
 simp only []
 have hr:(if listen then s.runT p w #[] else (s.run p w,#[])).1=s.run p w:=by
  split
  ·exact Sem.runT_fst p s w #[]
  ·rfl
 revert hr
 generalize (if listen then s.runT p w #[] else (s.run p w,#[]))=pr
 obtain ⟨r,es⟩:=pr
 intro hr
 simp only [] at hr ⊢
 have hd:=sH p s w
 rw [<- hr] at hd
 have hd:=At h hd
 clear hr
 refine GUp.after ?_
 repeat' first
  | trivial
  | exact hd
  | exact xI _ _ _ _ _ _ hd
  | exact endThrow_up _ _ _ hd
  | exact cK0 _ _ _ _ _ _ hd
  | split
theorem GUp.go {d:Nat} {g:Goroutine} {w:World} {es:Array Event} (h:d<=w.drawn):GUp d (.go g w es):=h
theorem GUp.ended {d:Nat} {o:Outcome} {w:World} {es:Array Event}:GUp d (.ended o w es):=trivial
theorem dF9 {d:Nat} (p:Dv) (main listen:Bool) (fr:Frame) (callers:List Frame) (dying:Option Dying) (w:World) (h:d<=w.drawn):GUp d (stepG.oper p listen fr callers dying w):=by
 unfold stepG.oper
 split
 ·exact GUp.ended
 ·split
  ·exact yX p main listen _ _ _ _ _ h
  ·exact yX p main listen _ _ _ _ _ h
theorem dG0 {d:Nat} {α:Type} (o:Option α) (a:GStep) (f:α->GStep) (ha:GUp d a) (hf:∀x,GUp d (f x)):GUp d (o.elim a f):=by
 cases o with
 | none=>exact ha
 | some x=>exact hf x
theorem dA9 {d:Nat} (p:Dv) (main listen:Bool) (fr:Frame) (callers:List Frame) (dying:Option Dying) (w:World) (h:d<=w.drawn):GUp d (stepG.exec p main listen fr callers dying w):=by
 have hoper:=dF9 p main listen fr callers dying w h
 have happly:=fun fr s w h=>yX (d:=d) p main listen fr callers dying s w h
 have hret:=fun v w h=>qR (d:=d) p main fr callers dying v w h
 unfold stepG.exec
 simp only [Sem.runT_eq]
 skip
 repeat' first
  | with_reducible exact GUp.ended
  | with_reducible exact GUp.go h
  | with_reducible exact hoper
  | with_reducible exact happly _ _ _ h
  | (with_reducible refine GUp.after ?_)
  | (with_reducible refine dG0 _ _ _ ?_ fun _=>?_)
  | (rename_i e;with_reducible exact GUp.go (At h (fV e)))
  | (rename_i e;with_reducible exact GUp.go (At h (nI e)))
  | (rename_i e;with_reducible exact happly _ _ _ (At h (fV e)))
  | (rename_i e;with_reducible exact hret _ _ (At h (fV e)))
  | split
theorem cU8 (p:Dv) (main:Bool) (g:Goroutine) (w:World) (listen:Bool):GUp w.drawn (stepG p main g w listen):=by
 unfold stepG
 simp only []
 split
 ·exact dX5 _ _ _ _ (Ah _)
 ·exact dA9 p main listen _ _ _ _ (Ah _)
 ·exact cA1 _ _ _ _ _ _ (Ah _)
theorem zS (p : Dv) (rest : Rest) (gs : Array Goroutine) (i : Nat) (g : Goroutine) (cases : Array CommCase) (blocking : Bool)
    (shape : CommShape) (w : World) (m' : Machine) (h : (communicate p rest gs i g cases blocking shape w).1 = .next m') : w.drawn <= m'.world.drawn := by
  have hw : ∀ w', waitingAt rest cases w = some w' -> w.drawn <= w'.drawn := fun w' e => by
    unfold waitingAt at e
    repeat' first
      | (cases e; done)
      | (injection e with e; subst e; exact Ah _)
      | split at e
  unfold communicate at h
  simp only [] at h
  repeat' first
    | (simp at h; done)
    | (simp only [Stepped.next.injEq] at h; subst h; ((try dsimp only [Machine.advanceTo]); (repeat (first | exact Nat.le_refl _ | exact hw _ fK | (refine Nat.le_trans ?_ (fV fK); try dsimp only [Machine.advanceTo]) | refine Nat.le_trans ?_ (nI fK))); done))
    | split at h
theorem yK (p:Dv) (gs:Array Goroutine) (rest:Rest) (w:World) (m':Machine) (h:look p gs rest w = .next m'):w.drawn<=m'.world.drawn:=by
 unfold look at h
 simp only [] at h
 repeat' first
  | (simp at h;done)
  | (simp only [Stepped.next.injEq] at h;subst h;((try dsimp only [Machine.advanceTo]);(repeat (first|exact Nat.le_refl _|(refine Nat.le_trans ?_ (fV fK);try dsimp only [Machine.advanceTo])|refine Nat.le_trans ?_ (nI fK)));done))
  | split at h
theorem cI2 (w:World) (c:Nat):(drain w c).2.drawn=w.drawn:=by
 unfold drain
 split<;>rfl
theorem aK6 (m:Machine) (k:Nat) (t:Timer) (a b:Nat):(retime m k t a b).2.world.drawn=m.world.drawn:=by
 unfold retime
 cases t.chan with
 | none=>rfl
 | some c=>exact cI2 m.world c
theorem bJ5 (m : Machine) (op : TimerOp) (v : Value) (m' : Machine) (h : timerOp m op = .ok (v, m')) : m'.world.drawn = m.world.drawn := by
  have hnamed : ∀ (m0 : Machine) (var : Addr) (f : Nat -> Timer -> Value × Machine), (∀ k t, (f k t).2.world.drawn = m.world.drawn) -> timerOp.named m0 var f = .ok (v, m') -> m'.world.drawn = m.world.drawn := fun m0 var f hf e => by
    unfold timerOp.named at e
    split at e
    · injection e with e
      rename_i k _
      have := hf k (m0.rest.timers.getD k default)
      rw [e] at this
      exact this
    · cases e
  unfold timerOp at h
  repeat' first
    | (cases h; done)
    | (injection h with h; injection h with h1 h2; subst h2; rfl)
    | (exact hnamed _ _ _ (fun k t => aK6 _ _ _ _ _) h)
    | (rename_i m1 e
       have hm1 : m1.world.drawn = m.world.drawn := by
         unfold timerOp.opened at e
         repeat' first
           | (cases e; done)
           | (injection e with e; subst e; rfl)
           | split at e
       exact hnamed _ _ _ (fun k t => by rw [aK6]; exact hm1) h)
    | split at h
theorem dI1 (p : Dv) (m m' : Machine) (i : Nat) (b : Bool) (h : (runT p m i b).1 = .next m') : m.world.drawn <= m'.world.drawn := by
  simp only [runT] at h
  generalize m.gs.swapAt! _ _ = gg at h
  have hs := cU8 p (i == 0) gg.1 m.world b
  revert hs h
  generalize stepG p _ gg.1 m.world b = s
  intro h hs
  cases s <;> simp only [] at h <;> simp only [GUp] at hs
  all_goals first
    | (simp at h; done)
    | (exact At hs (zS _ _ _ _ _ _ _ _ _ _ h))
    | (exact At hs (yK _ _ _ _ _ h))
    | (simp only [Stepped.next.injEq] at h; subst h; exact hs)
    | (repeat' first
        | (simp at h; done)
        | (simp only [Stepped.next.injEq] at h; subst h; exact hs)
        | (simp only [Stepped.next.injEq] at h; subst h; rename_i e; have := bJ5 _ _ _ _ e; exact this ▸ hs)
        | (simp only [Stepped.next.injEq] at h; subst h; rename_i e; unfold endThrow dieOf at e; injection e with e1 e2 e3; subst e2; exact hs)
        | split at h)
section
variable (p:Dv) (m m':Machine)
include p m m'
theorem cU2 (k:Nat) (h:serve p m k = .next m'):m'.world.drawn=m.world.drawn:=by
 unfold serve at h
 simp only [] at h
 repeat' first
  | (simp at h;done)
  | (simp only [Stepped.next.injEq] at h;subst h;rfl)
  | split at h
theorem yZ (ops:Array MemOp) (h:askOn p m = .machine (.next m') ops):m.world.drawn<=m'.world.drawn:=by
 unfold askOn at h
 simp only [] at h
 repeat' first
  | (simp at h;done)
  | (simp only [Move.machine.injEq] at h;have h1:=cU2 _ _ _ _ h.1;rw [h1];((try dsimp only [Machine.advanceTo]);(repeat (first|exact Nat.le_refl _|(refine Nat.le_trans ?_ (fV fK);try dsimp only [Machine.advanceTo])|refine Nat.le_trans ?_ (nI fK)));done))
  | (simp only [Move.machine.injEq,Stepped.next.injEq] at h;obtain ⟨rfl,_⟩:=h;((try dsimp only [Machine.advanceTo]);(repeat (first|exact Nat.le_refl _|(refine Nat.le_trans ?_ (fV fK);try dsimp only [Machine.advanceTo])|refine Nat.le_trans ?_ (nI fK)));done))
  | split at h
theorem uX (i:Nat) (h:askOn p m = .goroutine m' i):m.world.drawn<=m'.world.drawn:=by
 unfold askOn at h
 simp only [] at h
 repeat' first
  | (simp at h;done)
  | (simp only [Move.goroutine.injEq] at h;obtain ⟨rfl,_⟩:=h;((try dsimp only [Machine.advanceTo]);(repeat (first|exact Nat.le_refl _|(refine Nat.le_trans ?_ (fV fK);try dsimp only [Machine.advanceTo])|refine Nat.le_trans ?_ (nI fK)));done))
  | split at h
theorem cB7 (ops:Array MemOp) (h:ask p m = .machine (.next m') ops):m.world.drawn<=m'.world.drawn:=by
 unfold ask at h
 split at h
 ·split at h
  ·simp at h
  ·rename_i e
   split at h
   ·rename_i e2
    exact At (fV e) (At (yK _ _ _ _ _ e2) (yZ _ _ _ _ h))
   ·simp only [Move.machine.injEq] at h
    exact At (fV e) (yK _ _ _ _ _ h.1)
  ·rename_i e
   exact At (fV e) (yZ _ _ _ _ h)
 ·exact yZ _ _ _ _ h
theorem cX8 (i:Nat) (h:ask p m = .goroutine m' i):m.world.drawn<=m'.world.drawn:=by
 unfold ask at h
 split at h
 ·split at h
  ·simp at h
  ·rename_i e
   split at h
   ·rename_i e2
    exact At (fV e) (At (yK _ _ _ _ _ e2) (uX _ _ _ _ h))
   ·simp at h
  ·rename_i e
   exact At (fV e) (uX _ _ _ _ h)
 ·exact uX _ _ _ _ h
theorem dF5 (ops:Array MemOp) (h:move p m = .machine (.next m') ops):m.world.drawn<=m'.world.drawn:=by
 unfold move at h
 repeat' first
  | (simp at h;done)
  | (exact cB7 _ _ _ _ h)
  | (have:=cB7 _ _ _ _ h;exact this)
  | split at h
theorem cN1 (i:Nat) (h:move p m = .goroutine m' i):m.world.drawn<=m'.world.drawn:=by
 unfold move at h
 repeat' first
  | (simp at h;done)
  | (have:=cX8 _ _ _ _ h;exact this)
  | (simp only [Move.goroutine.injEq] at h;obtain ⟨rfl,_⟩:=h;exact Ah _)
  | split at h
theorem dJ0 (h:step p m = .next m'):m.world.drawn<=m'.world.drawn:=by
 simp only [step,stepT] at h
 split at h
 next m₁ i hm=>exact At (cN1 p m m₁ i hm) (dI1 p m₁ m' i _ h)
 next s ops hm =>
  simp only [] at h
  subst h
  exact dF5 p m m' ops hm
end
theorem bB8 {p:Dv} {m m':Machine} (h:Steps p m m'):m.world.drawn<=m'.world.drawn:=by
 obtain ⟨n,hn⟩:=h
 induction n generalizing m with
 | zero=>simp only [runN,Stepped.next.injEq] at hn;rw [hn];exact Ah _
 | succ n ih =>
  simp only [runN] at hn
  cases hs:step p m with
  | next m₁=>rw [hs] at hn;exact At (dJ0 p m m₁ hs) (ih hn)
  | ended o w=>rw [hs] at hn;simp at hn
theorem aT2 {P:Dv} {f:FuncId} {args:D0} {w:World} {R:Ending->World->Prop} (h:Calls P f args w R) (ho:∀w',¬R .outgrown w'):Calls P f args w fun e w'=>R e w'/\w.drawn<=w'.drawn:=by
 intro cs
 obtain ⟨e,w',fr,h1,h2,h3,h4⟩:=h cs
 refine ⟨e,w',fr,⟨h1,?_⟩,h2,h3,h4⟩
 cases e with
 | outgrown=>exact absurd h1 (ho w')
 | returned v=>exact bB8 (m:=lone (Frame.enter P f args .normal) cs w) (m':=lone fr cs w') h2
 | panicked c=>exact bB8 (m:=lone (Frame.enter P f args .normal) cs w) (m':=lone fr cs w') h2
end Go.Av
namespace Go.Av
open Go Go.RowKit Go.Sort
open Go.Proofs (ltOf sortWorldK)
theorem aG1 {W w':World} (h:Below W.heap.size W w') (hd:W.drawn<=w'.drawn):∃q os',w'=Go.Sort.grow (W.drewN q) os':=by
 refine ⟨w'.drawn-W.drawn,w'.heap.extract W.heap.size w'.heap.size,?_⟩
 have hh:w'.heap=W.heap++w'.heap.extract W.heap.size w'.heap.size:=by
  refine Array.ext_getElem? fun j=>?_
  by_cases hj:j<W.heap.size
  ·rw [By hj,h.block j hj]
  ·rw [Array.getElem?_append_right aA,Array.getElem?_extract]
   by_cases hj2:j<w'.heap.size
   ·rw [Ak aA]
    congr 1;omega
   ·rw [Aj aA,B5 aA]
 have h1:=h.os
 have h2:=h.tape
 have h3:=h.output
 cases w' with
 | mk heap tape drawn os output =>
  simp only at hh h1 h2 h3 hd
  unfold Go.Sort.grow World.drewN
  simp only [World.mk.injEq]
  exact ⟨hh,h2,by omega,h1,h3⟩
theorem jU {α:Type} {enc:α->Do} {k:Nat} (hk:∀x,(enc x).length=k):∀l:List α,(l.flatMap enc).length=l.length*k
 | []=>by simp
 | x::l=>by rw [A5,Aa,hk,jU hk l,Au,AM];omega
section flat
variable {α:Type} [Inhabited α] {enc:α->Do} {k:Nat}
theorem aW5 (hk:∀x,(enc x).length=k) (k0:0<k):∀(l:List α) (t:Nat),t<l.length*k->(l.flatMap enc)[t]? = some ((enc (l[t / k]!))[t%k]!)
 | [],t,h=>by simp at h
 | x::l,t,h=>by
  rw [A5]
  by_cases ht:t<k
  ·rw [AL (by rw [hk];exact ht),Db ht,BN ht]
   have:t<(enc x).length:=by rw [hk];exact ht
   rw [Ab this]
   simp [this]
  ·obtain ⟨u,rfl⟩:∃u,t=k+u:=⟨t-k,by omega⟩
   rw [AT (by rw [hk];omega),hk,Nat.add_sub_cancel_left,Nat.add_div_left _ k0,Nat.add_mod_left]
   rw [aW5 hk k0 l u (by rw [Au,AM] at h;omega)]
   simp
theorem bF3 (hk:∀x,(enc x).length=k) (k0:0<k) (d:Array α):(flatK enc k d).toList=d.toList.flatMap enc:=by
 refine Cp fun t=>?_
 by_cases ht:t<d.size*k
 ·rw [aW5 hk k0 d.toList t (by simpa using ht),BZ]
  have h1:=get_flatK enc k d t ht
  rw [Array.getElem?_eq_getElem (by rw [size_flatK];exact ht)]
  rw [Cg _ t (by rw [size_flatK];exact ht)] at h1
  have h2:t / k<d.size:=Nat.div_lt_of_lt_mul (by rw [Nat.mul_comm];exact ht)
  have h3:d.toList[t / k]! = d[t / k]! := by rw [Cg d (t / k) h2,Cg d.toList (t / k) (by simpa using h2),Cr]
  rw [h1,h3]
 ·rw [AO fU,AO (by rw [jU hk];simp;omega)]
end flat
theorem xL {w : World} (k : Nat) (os : Array Obj) {g : Nat} {us0 vs0 : Do} {E : Du} {F : D0} (hb0 : w.heap[g]? = some (.cells (us0 ++ vs0).toArray E (0, 0))) (hF : F.size = us0.length) :
    (Go.Sort.grow (putRow id (Go.Sort.ahead w k) g 0 F) os).heap[g]? = some (.cells (F.toList ++ vs0).toArray E (0, 0)) /\ (∀ b, b < w.heap.size -> b ≠ g -> (Go.Sort.grow (putRow id (Go.Sort.ahead w k) g 0 F) os).heap[b]? = w.heap[b]?) /\ w.heap.size <= (Go.Sort.grow (putRow id (Go.Sort.ahead w k) g 0 F) os).heap.size := by
  have hgs := cC hb0
  have hsz : (putRow id (Go.Sort.ahead w k) g 0 F).heap.size = w.heap.size := by
    show (w.heap.modify g _).size = _
    rw [Array.size_modify]
  refine ⟨?_, fun b hb hbg => ?_, by rw [size_grow, hsz]; omega⟩
  · rw [heap_grow_old _ _ (by rw [hsz]; exact hgs)]
    show (w.heap.modify g _)[g]? = _
    rw [CC, Ak rfl, hb0]
    simp only [Bh, onCells]
    congr 2
    refine Array.ext_getElem? fun j => ?_
    simp only [putCells, Array.getElem?_mapIdx, BJ, A1, Am, true_and, Aq, BB, id_eq]
    by_cases hj : j < us0.length
    · rw [AL hj, AL fU, Ab hj, BZ, Array.getElem?_eq_getElem aA]
      simp only [Bh]
      rw [Ak aA, Cg _ j aA]
    · rw [AT aA, AT fU]
      simp only [A9, hF]
      cases vs0[j - us0.length]? with
      | none => rfl
      | some x => simp only [Bh]; rw [Aj aA]
  · rw [heap_grow_old _ _ (by rw [hsz]; exact hb)]
    show (w.heap.modify g _)[b]? = _
    rw [CC, Aj (fun e => hbg e.symm)]
section split
variable {ok:Nat->Prop} {w:World} {X:Type} {encX:X->D1} {pX:X->Prop}
abbrev El (ok:Nat->Prop) (w:World) (encX:X->D1) (pX:X->Prop):Type:={p:X × Do // pX p.1/\RepCs ok w (encX p.1) p.2/\∀u∈p.2,u.oneCell'=true}
theorem xT:∀{c d:D1} {us:Do},RepCs ok w (c++d) us->∃u1 u2,us=u1++u2/\RepCs ok w c u1/\RepCs ok w d u2
 | [],d,us,h=>⟨[],us,rfl,by simp [RepCs],h⟩
 | x::c,d,us,h=>by
  simp only [AF,RepCs] at h
  obtain ⟨u,us',rfl,h1,h2⟩:=h
  obtain ⟨u1,u2,rfl,h3,h4⟩:=xT h2
  exact ⟨u::u1,u2,rfl,⟨u,u1,rfl,h1,h3⟩,h4⟩
theorem aV7:∀{l:List X} {us:Do},RepCs ok w (l.flatMap encX) us->(∀u∈us,u.oneCell'=true)->(∀x∈l,pX x)->∃ds:List (El ok w encX pX),ds.map (·.1.1)=l/\ds.flatMap (·.1.2)=us
 | [],us,h,_,_=>⟨[],rfl,by simpa [RepCs] using h.symm⟩
 | x::l,us,h,h1,hp=>by
  rw [A5] at h
  obtain ⟨u1,u2,rfl,h3,h4⟩:=xT h
  obtain ⟨ds,e1,e2⟩:=aV7 h4 (fun u hu=>h1 u (by simp [hu])) (fun x hx=>hp x (by simp [hx]))
  exact ⟨⟨(x,u1),hp x aU,h3,fun u hu=>h1 u (by simp [hu])⟩::ds,by simp [e1],by simp [e2]⟩
theorem bN8 {w':World} {ok':Nat->Prop} (hk:kW ok ok' w w'):∀(ds:List (El ok w encX pX)),RepCs ok' w' ((ds.map (·.1.1)).flatMap encX) (ds.flatMap (·.1.2))/\∀u∈ds.flatMap (·.1.2),u.oneCell'=true
 | []=>⟨by simp [RepCs],by simp⟩
 | d::ds=>by
  obtain ⟨h1,h2⟩:=bN8 hk ds
  refine ⟨?_,fun u hu=>?_⟩
  ·rw [AH,A5,A5]
   exact RepCs.append (RepCs.mono hk _ _ d.2.2.1) h1
  ·rw [A5,Az] at hu
   exact hu.elim (d.2.2.2 u) (h2 u)
end split
theorem bB7 {X:Type} {cmp:X->X->Int}:∀{l m:List X},l.Perm m->(l.Pairwise fun x y=>¬cmp y x<0)->(m.Pairwise fun x y=>¬cmp y x<0)->(∀x∈l,∀y∈l,¬cmp x y<0->¬cmp y x<0->x=y)->l=m
 | [],m,hp,_,_,_=>(List.nil_perm.1 hp).symm
 | x::l,[],hp,_,_,_=>absurd (List.perm_nil.1 hp) aU
 | x::l,y::m,hp,h1,h2,ha=>by
  obtain ⟨a1,a2⟩:=Bp.1 h1
  obtain ⟨b1,b2⟩:=Bp.1 h2
  have hxy:x=y:=by
   have hx:x∈y::m:=hp.mem_iff.1 aU
   have hy:y∈x::l:=hp.mem_iff.2 aU
   rcases A6.1 hx with e|hx
   ·exact e
   ·rcases A6.1 hy with e|hy
    ·exact e.symm
    ·exact ha x aU y (by simp [hy]) (b1 x hx) (a1 y hy)
  subst hxy
  rw [bB7 (List.Perm.cons_inv hp) a2 b2 fun u hu v hv=>ha u (by simp [hu]) v (by simp [hv])]
def cB0 (P:Dv) (f gcl:FuncId) (size:Nat):Prop :=
 ∀{α:Type} [Inhabited α] (enc:α->Do) (_:∀x,(enc x).length=size) (_:∀x,∀v∈enc x,v.oneCell'=true) (cf:α->α->Int) (_:SWO (ltOf cf)) (blk cap:Nat) (d:Array α) (w:World),
  Go.Proofs.CmpLays P gcl #[] enc size cf blk 0 d.size w->HoldsK enc size w blk 0 d->blk<w.heap.size->d.size<4611686018427387904 ->
  Calls P f #[.slice (some ⟨blk,0,none⟩) d.size cap,.func (.func gcl) #[] #[]] w fun e w'=>e = .returned (.tuple #[])/\∃d' n os,PermIn 0 d.size d d'/\SortedIn (ltOf cf) 0 d.size d'/\w'=sortWorldK enc size w blk 0 n d' os
theorem bS6 {P : Dv} {f gcl : FuncId} {E : Du} {X : Type} {size : Nat} {encX : X -> D1} {cmp : X -> X -> Int} (pX : X -> Prop) {l l' : List X} {n : Nat} (hs : cB0 P f gcl size) (hn : l.length = n) (h0 : 0 < n) (hn62 : n < 4611686018427387904) (hsz : 0 < size) (hlen : ∀ x, (encX x).length = size)
    (hc : ∀ x y, pX x -> pX y -> AC P gcl [.agg (encX x), .agg (encX y)] (.c (.v (.int .i64 (cmp x y)))) [] 0) (hp : ∀ x ∈ l, pX x) (hO : SWO (ltOf cmp)) (hperm : l'.Perm l) (hsrt : l'.Pairwise fun x y => ¬ cmp y x < 0) (hanti : ∀ x ∈ l, ∀ y ∈ l, ¬ cmp x y < 0 -> ¬ cmp y x < 0 -> x = y) :
    ACS P f E size n (l.flatMap encX) [CV.v (.func (.func gcl) #[] #[])] (l'.flatMap encX) (.tup []) := by
  intro ok w g cap us0 vs0 vs hng hb0 hc0 hone hncap hcap hlen0 hvs
  have hvs' : vs = [.func (.func gcl) #[] #[]] := by
    simp only [RepCs, RepC] at hvs
    obtain ⟨u, us', rfl, rfl, rfl⟩ := hvs
    rfl
  subst hvs'
  have hgs := cC hb0
  obtain ⟨ds, e1, e2⟩ := aV7 (pX := pX) hc0 hone hp
  have hdl : ds.length = n := by rw [<- hn, <- e1, Bm]
  haveI : Inhabited (El ok w encX pX) := ⟨ds[0]'(by omega)⟩
  let enc : El ok w encX pX -> Do := fun p => p.1.2
  have hk : ∀ x, (enc x).length = size := fun x => by rw [<- hlen x.1.1]; exact x.2.2.1.length
  have h1 : ∀ x, ∀ v ∈ enc x, v.oneCell' = true := fun x => x.2.2.2
  let cf : El ok w encX pX -> El ok w encX pX -> Int := fun a b => cmp a.1.1 b.1.1
  have hO' : SWO (ltOf cf) := ⟨fun x => hO.irrefl x.1.1, fun x y z => hO.trans x.1.1 y.1.1 z.1.1, fun x y z => hO.ntrans x.1.1 y.1.1 z.1.1⟩
  have hfl : ∀ d : Array (El ok w encX pX), (flatK enc size d).toList = d.toList.flatMap enc := bF3 hk hsz
  have hfs : ∀ d : Array (El ok w encX pX), d.size = n -> (flatK enc size d).size = us0.length := fun d hd => by
    rw [size_flatK, hd, <- e2, jU hk, hdl]
  have hH : HoldsK enc size w g 0 ds.toArray := fun j hj => by
    have hj' : j < (ds.flatMap enc).length := by
      rw [size_flatK] at hj
      rw [jU hk]; simpa using hj
    have hg1 : (flatK enc size ds.toArray)[j]! = (ds.flatMap enc)[j] := by
      rw [Cg _ j hj, <- Cr]
      simp only [hfl]
    have e3 : (us0 ++ vs0)[0 + j]? = some ((ds.flatMap enc)[j]) := by
      rw [Aq, AL (by rw [<- e2]; exact hj'), <- e2]
      exact Ab hj'
    constructor
    · unfold World.cell?
      rw [hb0]
      simp only [hg1]
      simpa using e3
    · unfold World.frozen?
      rw [hb0]
      simp
  have hworld : ∀ (m : Nat) (os : Array Obj) (dk : Array (El ok w encX pX)), dk.size = n -> kW ok ok w (sortWorldK enc size w g 0 m dk os) := fun m os dk hd b hb hl => by
    obtain ⟨_, h3, h4⟩ := xL (w := w) m os hb0 (hfs dk hd)
    exact ⟨hb, A3 hl h4, h3 b hl (fun e => hng (e ▸ hb))⟩
  have hcmp : Go.Proofs.CmpLays P gcl #[] enc size cf g 0 ds.toArray.size w := fun m os dk hd x y => by
    have hkp := hworld m os dk (by rw [hd]; simpa using hdl)
    have hr : RepCs ok (sortWorldK enc size w g 0 m dk os) [.agg (encX x.1.1), .agg (encX y.1.1)] [.agg (enc x).toArray, .agg (enc y).toArray] := by
      refine ⟨_, _, rfl, ⟨enc x, rfl, RepCs.mono hkp _ _ x.2.2.1, h1 x⟩, _, _, rfl, ⟨enc y, rfl, RepCs.mono hkp _ _ y.2.2.1, h1 y⟩, rfl⟩
    have hcall := hc x.1.1 y.1.1 x.2.1 y.2.1 ok (sortWorldK enc size w g 0 m dk os) _ hr
    have hcd := aT2 hcall (fun w' ⟨v, M, e, _⟩ => by cases e)
    rw [show (#[Value.agg (enc x).toArray, Value.agg (enc y).toArray] ++ #[] : D0) = [Value.agg (enc x).toArray, Value.agg (enc y).toArray].toArray by simp]
    refine hcd.mono ?_
    rintro e w' ⟨⟨v, M, rfl, hcc, hv⟩, hdr⟩
    simp only [Rep, RepC] at hv
    subst hv
    exact ⟨rfl, aG1 hcc.fr.below hdr⟩
  have hcall := hs enc hk h1 cf hO' g cap ds.toArray w hcmp hH hgs (by
    have : ds.toArray.size = n := by simpa using hdl
    omega)
  have hds : ds.toArray.size = n := by simpa using hdl
  rw [hds] at hcall
  refine hcall.mono ?_
  rintro e w' ⟨rfl, d', m, os, hpm, hsd, rfl⟩
  have hd's : d'.size = n := by rw [hpm.1, hds]
  have hpl : d'.toList.Perm ds := by
    have := hpm.2.2
    rw [show d'.extract 0 n = d' by rw [<- hd's]; exact Array.extract_size, show ds.toArray.extract 0 n = ds.toArray by rw [<- hds]; exact Array.extract_size] at this
    simpa using this
  have hmap : d'.toList.map (·.1.1) = l' := by
    refine bB7 (cmp := cmp) ((hpl.map _).trans (by rw [e1]; exact hperm.symm)) ?_ hsrt fun x hx y hy => ?_
    · rw [List.pairwise_map, Cc]
      intro i j hi hj hij
      have hi' : i < d'.size := by simpa using hi
      have hj' : j < d'.size := by simpa using hj
      have := hsd i j (Am _) hij aA
      rw [Cg d' j hj', Cg d' i hi'] at this
      simp only [Cr]
      exact of_decide_eq_false this
    · have hm : ∀ z, z ∈ d'.toList.map (·.1.1) -> z ∈ l := fun z hz => by
        rw [<- e1]
        exact ((hpl.map _).mem_iff).1 hz
      exact hanti x (hm x hx) y (hm y hy)
  obtain ⟨p1, p2, p3⟩ := xL (w := w) m os hb0 (hfs d' hd's)
  rw [hfl] at p1
  have hkp : kW ok (okg ok w g) w (sortWorldK enc size w g 0 m d' os) := fun b hb hl => ⟨⟨.inl hb, fun e => hng (e ▸ hb)⟩, A3 hl p3, p2 b hl (fun e => hng (e ▸ hb))⟩
  obtain ⟨j1, j2⟩ := bN8 hkp d'.toList
  rw [hmap] at j1
  refine ⟨_, d'.toList.flatMap enc, vs0, rfl, ⟨rfl, rfl, rfl, p3, fun b hb hbg => p2 b hb (fun e => hbg (by simp [e]))⟩, p1, ?_, j1, j2, fun C => ⟨[], rfl, rfl⟩⟩
  rw [<- hlen0, <- e2, jU hk, jU hk, hdl, A9, hd's]
section call
variable {P:Dv} {sz n:Nat} {env:Env} {h:aO} {dfs:cD} {K:AK} {ops:Dq} {rest:Dp} {ev:Evl} {d:Dt} {ty:Du} {pos:String} {aft:Ds} {gd:Dn} {i:Nat} {f gcl:FuncId} {x0 y:Operand} {ats:Dx} {E:Du} {c0 c0' c1:D1} {r:AV} {id size m:Nat}
open Classical in
theorem cJ0 (hac : ACS P f E size m c0 [CV.v (.func (.func gcl) #[] #[])] c1 r) (hb : Body P f) (hm : 0 < m) (hx0 : ev x0 = some (.own id 0 m size true)) (ho : lk h id = some (.row E c0)) (hy : ev y = some (.fn gcl [])) :
    bY P ⟨d, .call ⟨.value (.func f), #[x0, y], ats⟩, ty, pos, aft, gd⟩ ev h r [] (some (id, some (.row E c1))) i i := by
  let ev' : Evl := fun z => if z = y /\ z ≠ x0 then some (.c (.v (.func (.func gcl) #[] #[]))) else ev z
  have hne : y ≠ x0 := fun e => by rw [e, hx0] at hy; cases hy
  have h1 := dA6 (ev := ev') (h := h) (d := d) (ty := ty) (pos := pos) (aft := aft) (gd := gd) (i := i) (xs := [y]) (ats := ats) (cs := [CV.v (.func (.func gcl) #[] #[])]) hac hb hm (x0 := x0) (by simp only [ev']; rw [Aj (fun h => h.2 rfl)]; exact hx0) ho (by simp [eX, ev', hne]) (fun _ _ _ h => h)
  intro B dom M H w a K Q hh hn hc he hK
  refine h1 B dom M H w a K Q hh hn hc (fun z av hz => ?_) hK
  simp only [ev'] at hz
  split at hz
  · rename_i e
    injection hz with hz
    subst hz
    have := he y _ hy
    rw [e.1]
    simp only [Rep, RepL] at this
    obtain ⟨us, e1, e2⟩ := this
    subst e2
    simpa only [Rep, RepC] using e1
  · exact he z av hz
section
variable (hs : ∀ (p : Option Addr) (cap : Nat) (fv : Value) (w : World), Calls P f #[.slice p 0 cap, fv] w fun e w' => e = .returned (.tuple #[]) /\ w' = w)
include hs
theorem bF0 (hb : Body P f) {full : Bool} (hm0 : m = 0) (hx0 : ev x0 = some (.own id 0 m size full)) (hy : ev y = some (.fn gcl [])) :
    bY P ⟨d, .call ⟨.value (.func f), #[x0, y], ats⟩, ty, pos, aft, gd⟩ ev h (.tup []) [] none i i := by
  subst hm0
  intro B dom M H w a K Q hh hn hc he hK
  have hp := he x0 _ hx0
  simp only [Rep] at hp
  have hu : ∃ p cap, a.eval x0 = .slice p 0 cap := by
    rcases hp.2 with ⟨_, _, _, e⟩ | ⟨g, cp, _, e, _⟩ | ⟨_, _, A, cp, e, _⟩
    · exact ⟨_, _, e⟩
    · exact ⟨_, _, e⟩
    · exact ⟨_, _, e⟩
  obtain ⟨p, cap, hu⟩ := hu
  unfold Oper.wp execOp
  simp only [resolve, Deferred.ofValue, Act.eval, invoke, Sem.run_bind, Sem.run_pure, Result.andThen_ok, AZ, Bg, Body.run hb, Oper.upon]
  rw [show (#[] ++ (List.map a.eval [x0, y]).toArray : D0) = #[.slice p 0 cap, a.eval y] by simp [hu]]
  refine (hs p cap (a.eval y) w).mono ?_
  rintro e w' ⟨rfl, rfl⟩
  simp only
  rw [dY] at hK
  exact hK (.tuple #[]) w' M (Ext.refl _) hc ⟨[], rfl, rfl⟩
theorem aM1 (hg : guardA ops env ⟨d, .call ⟨.value (.func f), #[x0, y], ats⟩, ty, pos, aft, gd⟩ true) (hd : iD d sz = true) (hb : Body P f) {full : Bool} (hm0 : m = 0) (hx0 : evA env x0 = some (.own id 0 m size full)) (hy : evA env y = some (.fn gcl []))
    (next : AWL P ops sz rest K n (gJ env d (.tup [])) h dfs) : AWL P ops sz (⟨d, .call ⟨.value (.func f), #[x0, y], ats⟩, ty, pos, aft, gd⟩ :: rest) K n env h dfs :=
  lP (c := none) (Δ := []) hg hd (Ah _) trivial (bF0 hs hb hm0 hx0 hy) (fun id h1 h2 => by omega) aU next
end
theorem bD6 (hac : ACS P f E size m c0 [CV.v (.func (.func gcl) #[] #[])] c1 r) (hg : guardA ops env ⟨d, .call ⟨.value (.func f), #[x0, y], ats⟩, ty, pos, aft, gd⟩ true) (hd : iD d sz = true) (hb : Body P f) (hm : 0 < m) (hx0 : evA env x0 = some (.own id 0 m size true)) (ho : lk h id = some (.row E c0')) (h0 : c0' = c0) (hy : evA env y = some (.fn gcl []))
    (next : AWL P ops sz rest K n (gJ env d r) ((id, .row E c1) :: h) dfs) : AWL P ops sz (⟨d, .call ⟨.value (.func f), #[x0, y], ats⟩, ty, pos, aft, gd⟩ :: rest) K n env h dfs := by
  subst h0
  exact lP (c := some (id, some (.row E c1))) (Δ := []) hg hd (Ah _) rfl (cJ0 hac hb hm hx0 ho hy) (fun id h1 h2 => by omega) aU next
end call
end Go.Av
