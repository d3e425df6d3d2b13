/- Lemmas for laws of the ledger. -/
import Derived.Test.YtbgehdndimlgkaaGreatS44
import Derived.Test.YtbgehdndimlgkaaGreatS46
import Derived.Test.YtbgehdndimlgkaaGreatS47
import Derived.Test.YtbgehdndimlgkaaGreatS48
set_option linter.all false
set_option maxHeartbeats 16000000
namespace Go.Proofs.YtbgehdndimlgkaaGreat
open Go Go.RowKit Go.Av
set_option maxRecDepth 100000
section
attribute [local irreducible] Still Adds AWL AW Drw bX bY AC AWR cU Frz Go.Av.Src cQ Out InK ItK AsK RdK eP eI ACT ACA eW ACG fL lec
theorem bY4 (sy pe:Dm) (fu:Int) (dn:Bool) (m k:Nat) (e:Int) (he:e≠0) (m':Nat) (hrd:qC' 95 [dkC m k sy pe fu dn] (.tup [.c (.sl 1 m' (u8c [])),.c (iv e)]) [] 0):qC' 32 [dkC m k sy pe fu dn] (.tup [.c (.agg (lgV 0 0 0 lgZ)),.c (iv e)]) [] 0:=by
 refine aD aB (sz:=34) Tryz.func32 rfl (by rw [Tryz.ntmps32];rfl) ?_
 repeat' (first|(refine aC ?_;intro K hK hX)|refine aK (List.range 9) ?_|((with_reducible refine aW ?_);refine yA ?_;refine bC (aR (T:=61) aB rfl rfl rfl) rfl ?_)|(refine dK ?_;refine c0 hrd ?_)|refine stA ?_|(refine aG hK hX ?_;clear hK hX K)|fail)
 exact aV2
theorem bH7 (sy pe:Dm) (fu:Int) (dn:Bool) (m k:Nat) (bs:Dm) (m':Nat) (hrd:qC' 95 [dkC m k sy pe fu dn] (.tup [.c (.sl 1 m' (u8c bs)),.c (iv 0)]) [] 0) (L:List LEn) (q a:Nat) (d:Dm) (hd:d.length=32) (hpa:qC' 15 [.sl 1 m' (u8c bs)] (.tup [.c (.sl 65 q (lec L)),.c (iv a),.c (.agg (u8c d))]) [] 0) (s2:Dk) (m2 k2:Nat) (hct:qC' 96 [dkC m k sy pe fu dn,iv a] (.tup [.c (dkV m2 k2 s2),.c (iv 0)]) [] 0):qC' 32 [dkC m k sy pe fu dn] (.tup [.c (.agg (lgV m2 k2 q ⟨s2,L,d⟩)),.c (iv 0)]) [] 0:=by
 have hdl:(u8c d).length=32:=by rw [aH,hd]
 have hlg:([CV.sl 1 m2 (u8c s2.sy),CV.sl 1 k2 (u8c s2.pe),iv s2.fu,bv s2.dn,CV.sl 65 q (lec L)]++u8c d).length=37:=by rw [Aa,hdl];rfl
 obtain ⟨y1,y2,y3,y4⟩:=s2
 unfold lgV
 dsimp only
 refine aD aB (sz:=34) Tryz.func32 rfl (by rw [Tryz.ntmps32];rfl) ?_
 repeat' (first|(refine aC ?_;intro K hK hX)|refine aK (List.range 9) ?_|((with_reducible refine aW ?_);refine yA ?_;refine bC (aR (T:=61) aB rfl rfl rfl) rfl ?_)|((with_reducible refine oC ?_);refine xA ?_;refine aL (nH aB rfl rfl rfl rfl (fJ rfl) (tY hdl) (tO aU2)) ?_)|(refine dK ?_;first|refine c0 hrd ?_|refine c0 hpa ?_|refine c0 hct ?_)|refine stA ?_|(refine aG hK hX ?_;clear hK hX K)|fail)
 exact gT
theorem aY7 (s:Dk) (m k:Nat) (hm:s.sy.length=m) (hk:s.pe.length=k) (h1:m<=1000000) (h2:k<=1000000) (r:Lg) (e:Int) (m' k' q:Nat) (hr:opO s=(r,e)) (hm':r.d.sy.length=m') (hk':r.d.pe.length=k') (hq:r.l.length=q):qC' 32 [dkV m k s] (.tup [.c (.agg (lgV m' k' q r)),.c (iv e)]) [] 0:=by
 obtain ⟨bs,e1,hrd⟩:∃bs e1,opR s=(bs,e1):=⟨_,_,rfl⟩
 have hre:=bX9 s.sy s.pe s.fu s.dn m k hm hk h1 h2 bs e1 _ hrd rfl
 unfold opO at hr
 rw [hrd] at hr
 simp only at hr
 by_cases he:e1≠0
 ·rw [Ak he] at hr
  injection hr with hr1 hr2
  subst hr1 hr2
  have hb:bs=[]:=by
   unfold opR at hrd
   split at hrd
   ·injection hrd with h _;exact h.symm
   ·split at hrd
    ·injection hrd with h _;exact h.symm
    ·injection hrd with _ h;exact absurd h.symm he
  subst hb
  obtain rfl:m'=0:=hm'.symm
  obtain rfl:k'=0:=hk'.symm
  obtain rfl:q=0:=hq.symm
  exact bY4 s.sy s.pe s.fu s.dn m k e1 he _ hre
 ·have he0:e1=0:=Bb he
  subst he0
  rw [Aj he] at hr
  have hbs:bs=s.sy++s.pe/\s.ok=true/\s.dn=false:=by
   unfold opR at hrd
   split at hrd
   ·injection hrd with _ h;cases h
   ·rename_i h3
    split at hrd
    ·injection hrd with _ h;cases h
    ·rename_i h4
     injection hrd with h _
     exact ⟨h.symm,by simpa using h3,by simpa using h4⟩
  obtain ⟨hb1,hb2,hb3⟩:=hbs
  obtain ⟨hb4,_⟩:=eD (sy:=s.sy) (pe:=s.pe) (fu:=s.fu) (dn:=s.dn) hm hk hb2
  have hbl:bs.length=m+k:=by rw [hb1,Aa,hm,hk]
  obtain ⟨p1,p2,p3,p4,_⟩:=pG 513 (l:=[]) (ch:=root0) (b:=bs) aA rfl (fun e he=>by simp at he) aU
  obtain ⟨L,a,d,hp⟩:∃L a d,parF kdL 513 [] root0 bs=(L,a,d):=⟨_,_,_,rfl⟩
  rw [hp] at hr p1 p2 p3 p4
  simp only at hr p1 p2 p3 p4
  injection hr with hr1 hr2
  subst hr1 hr2
  have hct:=dH0 s.sy s.pe s.fu s.dn m k a hm hk h1 h2 aA aA (opT s a).1 0 _ _ (by
   have:(opT s a).2=0:=by
    unfold opT
    rw [Aj (by rw [hb2,hm,hk];simp;omega),Aj (by rw [hb3];simp)]
   rw [<- this]) rfl rfl
  have hpa:=bY5 bs (m+k) hbl aA L q hq a d hp
  simp only at hm' hk'
  rw [hm',hk'] at hct
  rw [hbl] at hre
  exact bH7 s.sy s.pe s.fu s.dn m k bs (m+k) hre L q a d p4 hpa _ m' k' hct
theorem aY4 (s:Lg) (m k q:Nat) (hm:s.d.sy.length=m) (hk:s.d.pe.length=k) (h1:m<=1000000) (h2:k<=1000000) (hc:s.c.length=32) (n:Int) (hn:aT n) (r:Lg) (e:Int) (m' k' q':Nat) (hr:opCr s n=(r,e)) (hm':r.d.sy.length=m') (hk':r.d.pe.length=k') (hq':r.l.length=q'):qC' 38 [.agg (lgV m k q s),iv n] (.tup [.c (.agg (lgV m' k' q' r)),.c (iv e)]) [] 0:=by
 obtain ⟨d2,e2,hcr⟩:∃d2 e2,opC s.d n=(d2,e2):=⟨_,_,rfl⟩
 have hac:=bX6 s.d.sy s.d.pe s.d.fu s.d.dn m k n hm hk h1 h2 hn.1 hn.2 d2 e2 _ _ hcr rfl rfl
 unfold opCr at hr
 rw [hcr] at hr
 simp only at hr
 have hcl:(u8c s.c).length=32:=by rw [aH,hc]
 have hlg:(lgV m k q s).length=37:=by unfold lgV;rw [Aa,hcl];rfl
 have hw0:List.take 4 (List.drop (0+0) (lgV m k q s))=[.sl 1 m (u8c s.d.sy),.sl 1 k (u8c s.d.pe),iv s.d.fu,bv s.d.dn]:=rfl
 generalize lgV m k q s=g at *
 by_cases he:e2≠0
 ·rw [Ak he] at hr
  injection hr with hr1 hr2
  subst hr1 hr2
  obtain rfl:m'=0:=hm'.symm
  obtain rfl:k'=0:=hk'.symm
  obtain rfl:q'=0:=hq'.symm
  obtain ⟨y1,y2,y3,y4⟩:=d2
  try dsimp only at hac
  refine aD aB (sz:=23) Tryz.func38 rfl (by rw [Tryz.ntmps38];rfl) ?_
  repeat' (first|(refine aC ?_;intro K hK hX)|refine aK [0,1,2,4,5,6,7] ?_|((with_reducible refine bM ?_);refine yA ?_;refine bC (bN (T:=61) rfl) rfl ?_)|((with_reducible refine aW ?_);refine yA ?_;refine bC (aR (T:=61) aB rfl rfl rfl) rfl ?_)|(refine dK ?_;refine c0 hac ?_)|refine jO ?_|refine stA ?_|(refine aG hK hX ?_;clear hK hX K)|fail)
  exact aV2
 ·have he0:e2=0:=Bb he
  subst he0
  rw [Aj he] at hr
  have hd:d2.sy.length<=1000000/\d2.pe.length<=1000000:=by
   unfold opC at hcr
   split at hcr
   ·injection hcr with _ h;cases h
   ·rename_i hok
    injection hcr with h _
    rw [<- h]
    simp only [Aa,As,Bt]
    obtain ⟨h3,_⟩:=eD (sy:=s.d.sy) (pe:=s.d.pe) (fu:=s.d.fu) (dn:=s.d.dn) hm hk (by cases hd:s.d.ok;exact absurd hd hok;rfl)
    omega
  have hrl0:=wJ d2 r e hr
  have hop:=aY7 d2 _ _ rfl rfl hd.1 hd.2 r e m' k' q' hr hm' hk' hq'
  generalize d2.sy.length=z1 at *
  generalize d2.pe.length=z2 at *
  obtain ⟨y1,y2,y3,y4⟩:=d2
  have hrl:(lgV m' k' q' r).length=37:=by
   have:=hrl0.1
   unfold lgV
   rw [Aa,aH,this];rfl
  generalize lgV m' k' q' r=gr at *
  try dsimp only at hac hop
  refine aD aB (sz:=23) Tryz.func38 rfl (by rw [Tryz.ntmps38];rfl) ?_
  repeat' (first|(refine aC ?_;intro K hK hX)|refine aK [0,1,2,4,5,6,7] ?_|((with_reducible refine bM ?_);refine yA ?_;refine bC (bN (T:=61) rfl) rfl ?_)|((with_reducible refine aW ?_);refine yA ?_;refine bC (aR (T:=61) aB rfl rfl rfl) rfl ?_)|(refine dK ?_;first|refine c0 hac ?_|refine c0 hop ?_)|refine jO ?_|refine stA ?_|(refine aG hK hX ?_;clear hK hX K)|fail)
  exact gT
structure RaC (g:D1) (y1 y2 y3 y4:CV) (q:Nat) (C:D1) (c:Dm) (cs:D1):Prop where
 hg:g.length=37
 hg0:List.take 4 (List.drop (0+0) g)=[y1,y2,y3,y4]
 hg4:g[0+4]? = some (.sl 65 q C)
 hg5:List.take 32 (List.drop (0+5) g)=u8c c
 hc:(u8c c).length=32
 hq:q<=1000
 hcs:cs.length=65
section
variable (g:D1) (y1 y2 y3 y4:CV) (q:Nat) (C:D1) (c:Dm) (cs:D1) (hA:RaC g y1 y2 y3 y4 q C c cs)
include g y1 y2 y3 y4 q C c cs hA
theorem eS7 (hfo:qC' 27 [.sl 65 q C,.agg cs] (.c (bv false)) [] 0):qC' 34 [.agg g,.agg cs] (.tup [.c (.agg (lgV 0 0 0 lgZ)),.c (iv 11)]) [] 0:=by
 obtain ⟨hg,hg0,hg4,hg5,hc,hq,hcs⟩:=hA
 refine aD aB (sz:=70) Tryz.func34 rfl vK ?_
 repeat' (first|(refine aC ?_;intro K hK hX)|refine dM3 ?_|(refine aG hK hX ?_;clear hK hX K)|fail)
 exact aV2
theorem eS8 (hfo:qC' 27 [.sl 65 q C,.agg cs] (.c (bv true)) [] 0) (h:512<=q):qC' 34 [.agg g,.agg cs] (.tup [.c (.agg (lgV 0 0 0 lgZ)),.c (iv 8)]) [] 0:=by
 obtain ⟨hg,hg0,hg4,hg5,hc,hq,hcs⟩:=hA
 refine aD aB (sz:=70) Tryz.func34 rfl vK ?_
 repeat' (first|(refine aC ?_;intro K hK hX)|refine dM3 ?_|(refine aG hK hX ?_;clear hK hX K)|fail)
 exact aV2
theorem eS9 (hfo:qC' 27 [.sl 65 q C,.agg cs] (.c (bv true)) [] 0) (h:q<512) (cs':D1) (hcs':cs'.length=65) (hrr:qC' 19 [.agg cs] (.tup [.c (.agg cs'),.c (bv true)]) [] 0) (j:Nat) (F:D1) (hF:F.length=j) (D:D1) (hD:D.length=32) (hfr:qC' 65 [.agg (u8c c),.agg cs'] (.tup [.c (.sl 1 j F),.c (.agg D)]) [] 0) (e:Int) (d1:Dk) (m1 k1:Nat) (hda:qC' 97 [.agg [y1,y2,y3,y4],.sl 1 j F] (.tup [.c (dkV m1 k1 d1),.c (iv e)]) [] 0) (e0:e≠0) (e1:e≠104):qC' 34 [.agg g,.agg cs] (.tup [.c (.agg (lgV 0 0 0 lgZ)),.c (iv e)]) [] 0:=by
 obtain ⟨hg,hg0,hg4,hg5,hc,hq,hcs⟩:=hA
 obtain ⟨z1,z2,z3,z4⟩:=d1
 try dsimp only at hda
 refine aD aB (sz:=70) Tryz.func34 rfl vK ?_
 repeat' (first|(refine aC ?_;intro K hK hX)|refine bE (List.range 10) ?_|((with_reducible refine bM ?_);refine yA ?_;(first|refine bC (bN (T:=61) rfl) rfl ?_|refine bC (bN (T:=49) rfl) rfl ?_))|(refine bZ ?_;first|refine c0 hfo ?_|refine c0 hrr ?_|refine c0 hfr ?_|refine c0 hda ?_)|refine cH ?_|refine eE ?_|refine stA ?_|refine stD ?_|(refine aG hK hX ?_;clear hK hX K)|fail)
 exact aV2
theorem eT0 (hfo:qC' 27 [.sl 65 q C,.agg cs] (.c (bv true)) [] 0) (h:q<512) (cs':D1) (hcs':cs'.length=65) (hrr:qC' 19 [.agg cs] (.tup [.c (.agg cs'),.c (bv true)]) [] 0) (j:Nat) (F:D1) (hF:F.length=j) (D:D1) (hD:D.length=32) (hfr:qC' 65 [.agg (u8c c),.agg cs'] (.tup [.c (.sl 1 j F),.c (.agg D)]) [] 0) (d1:Dk) (m1 k1:Nat) (hda:qC' 97 [.agg [y1,y2,y3,y4],.sl 1 j F] (.tup [.c (dkV m1 k1 d1),.c (iv 104)]) [] 0):qC' 34 [.agg g,.agg cs] (.tup [.c (.agg ([.sl 1 m1 (u8c d1.sy),.sl 1 k1 (u8c d1.pe),iv d1.fu,bv d1.dn,.sl 65 q C]++u8c c)),.c (iv 104)]) [] 0:=by
 obtain ⟨hg,hg0,hg4,hg5,hc,hq,hcs⟩:=hA
 have hlg:([CV.sl 1 m1 (u8c d1.sy),CV.sl 1 k1 (u8c d1.pe),iv d1.fu,bv d1.dn,CV.sl 65 q C]++u8c c).length=37:=by rw [Aa,hc];rfl
 obtain ⟨z1,z2,z3,z4⟩:=d1
 try dsimp only at hda hlg ⊢
 refine aD aB (sz:=70) Tryz.func34 rfl vK ?_
 repeat' (first|(refine aC ?_;intro K hK hX)|refine bE (List.range 10) ?_|((with_reducible refine bM ?_);refine yA ?_;(first|refine bC (bN (T:=61) rfl) rfl ?_|refine bC (bN (T:=49) rfl) rfl ?_))|((with_reducible refine aW ?_);refine yA ?_;refine bC (aR (T:=61) aB rfl rfl rfl) rfl ?_)|((with_reducible refine oC ?_);refine xA ?_;refine aL (nH aB rfl rfl rfl rfl (fJ rfl) (tY hc) (tO aU2)) ?_)|(refine bZ ?_;first|refine c0 hfo ?_|refine c0 hrr ?_|refine c0 hfr ?_|refine c0 hda ?_)|refine cH ?_|refine eE ?_|refine stA ?_|refine stD ?_|(refine aG hK hX ?_;clear hK hX K)|fail)
 exact gT
theorem eT1 (hfo:qC' 27 [.sl 65 q C,.agg cs] (.c (bv true)) [] 0) (h:q<512) (cs':D1) (hcs':cs'.length=65) (hrr:qC' 19 [.agg cs] (.tup [.c (.agg cs'),.c (bv true)]) [] 0) (j:Nat) (F:D1) (hF:F.length=j) (D:D1) (hD:D.length=32) (hfr:qC' 65 [.agg (u8c c),.agg cs'] (.tup [.c (.sl 1 j F),.c (.agg D)]) [] 0) (d1:Dk) (m1 k1:Nat) (hda:qC' 97 [.agg [y1,y2,y3,y4],.sl 1 j F] (.tup [.c (dkV m1 k1 d1),.c (iv 0)]) [] 0) (d2:Dk) (m2 k2:Nat) (hds:qC' 98 [dkV m1 k1 d1] (.tup [.c (dkV m2 k2 d2),.c (iv 104)]) [] 0):qC' 34 [.agg g,.agg cs] (.tup [.c (.agg ([.sl 1 m2 (u8c d2.sy),.sl 1 k2 (u8c d2.pe),iv d2.fu,bv d2.dn,.sl 65 q C]++u8c c)),.c (iv 104)]) [] 0:=by
 obtain ⟨hg,hg0,hg4,hg5,hc,hq,hcs⟩:=hA
 have hlg:([CV.sl 1 m2 (u8c d2.sy),CV.sl 1 k2 (u8c d2.pe),iv d2.fu,bv d2.dn,CV.sl 65 q C]++u8c c).length=37:=by rw [Aa,hc];rfl
 obtain ⟨z1,z2,z3,z4⟩:=d1
 obtain ⟨u1,u2,u3,u4⟩:=d2
 try dsimp only at hda hds hlg ⊢
 refine aD aB (sz:=70) Tryz.func34 rfl vK ?_
 repeat' (first|(refine aC ?_;intro K hK hX)|refine bE (List.range 10) ?_|((with_reducible refine bM ?_);refine yA ?_;(first|refine bC (bN (T:=61) rfl) rfl ?_|refine bC (bN (T:=49) rfl) rfl ?_))|((with_reducible refine aW ?_);refine yA ?_;refine bC (aR (T:=61) aB rfl rfl rfl) rfl ?_)|((with_reducible refine oC ?_);refine xA ?_;refine aL (nH aB rfl rfl rfl rfl (fJ rfl) (tY hc) (tO aU2)) ?_)|(refine bZ ?_;first|refine c0 hfo ?_|refine c0 hrr ?_|refine c0 hfr ?_|refine c0 hda ?_|refine c0 hds ?_)|refine cH ?_|refine eE ?_|refine stA ?_|refine stD ?_|(refine aG hK hX ?_;clear hK hX K)|fail)
 exact gT
theorem eT2 (hfo:qC' 27 [.sl 65 q C,.agg cs] (.c (bv true)) [] 0) (h:q<512) (cs':D1) (hcs':cs'.length=65) (hrr:qC' 19 [.agg cs] (.tup [.c (.agg cs'),.c (bv true)]) [] 0) (hC:C.length=q*65) (j:Nat) (F:D1) (hF:F.length=j) (e0 e1 e2 e3 e4 e5 e6 e7 e8 e9 e10 e11 e12 e13 e14 e15 e16 e17 e18 e19 e20 e21 e22 e23 e24 e25 e26 e27 e28 e29 e30 e31:Int) (hfr:qC' 65 [.agg (u8c c),.agg cs'] (.tup [.c (.sl 1 j F),.c (.agg [.v (.int .u8 e0),.v (.int .u8 e1),.v (.int .u8 e2),.v (.int .u8 e3),.v (.int .u8 e4),.v (.int .u8 e5),.v (.int .u8 e6),.v (.int .u8 e7),.v (.int .u8 e8),.v (.int .u8 e9),.v (.int .u8 e10),.v (.int .u8 e11),.v (.int .u8 e12),.v (.int .u8 e13),.v (.int .u8 e14),.v (.int .u8 e15),.v (.int .u8 e16),.v (.int .u8 e17),.v (.int .u8 e18),.v (.int .u8 e19),.v (.int .u8 e20),.v (.int .u8 e21),.v (.int .u8 e22),.v (.int .u8 e23),.v (.int .u8 e24),.v (.int .u8 e25),.v (.int .u8 e26),.v (.int .u8 e27),.v (.int .u8 e28),.v (.int .u8 e29),.v (.int .u8 e30),.v (.int .u8 e31)])]) [] 0) (d1:Dk) (m1 k1:Nat) (hda:qC' 97 [.agg [y1,y2,y3,y4],.sl 1 j F] (.tup [.c (dkV m1 k1 d1),.c (iv 0)]) [] 0) (u1 u2:Dm) (u3:Int) (u4:Bool) (m2 k2:Nat) (hds:qC' 98 [dkV m1 k1 d1] (.tup [.c (.agg [.sl 1 m2 (u8c u1),.sl 1 k2 (u8c u2),iv u3,bv u4]),.c (iv 0)]) [] 0):qC' 34 [.agg g,.agg cs] (.tup [.c (.agg ([.sl 1 m2 (u8c u1),.sl 1 k2 (u8c u2),iv u3,bv u4,.sl 65 (q+1) (C++cs')]++[.v (.int .u8 e0),.v (.int .u8 e1),.v (.int .u8 e2),.v (.int .u8 e3),.v (.int .u8 e4),.v (.int .u8 e5),.v (.int .u8 e6),.v (.int .u8 e7),.v (.int .u8 e8),.v (.int .u8 e9),.v (.int .u8 e10),.v (.int .u8 e11),.v (.int .u8 e12),.v (.int .u8 e13),.v (.int .u8 e14),.v (.int .u8 e15),.v (.int .u8 e16),.v (.int .u8 e17),.v (.int .u8 e18),.v (.int .u8 e19),.v (.int .u8 e20),.v (.int .u8 e21),.v (.int .u8 e22),.v (.int .u8 e23),.v (.int .u8 e24),.v (.int .u8 e25),.v (.int .u8 e26),.v (.int .u8 e27),.v (.int .u8 e28),.v (.int .u8 e29),.v (.int .u8 e30),.v (.int .u8 e31)])),.c (iv 0)]) [] 0:=by
 obtain ⟨hg,hg0,hg4,hg5,hc,hq,hcs⟩:=hA
 have hCl:([]++C++[cs'].flatten).length=(0+q+1)*65:=by simp only [Ay,Aa,Bo,List.flatten_nil,A4];omega
 have hCe:[]++C++[cs'].flatten=C++cs':=by simp
 obtain ⟨z1,z2,z3,z4⟩:=d1
 try dsimp only at hda hds
 refine aD aB (sz:=70) Tryz.func34 rfl vK ?_
 repeat' (first|(refine aC ?_;intro K hK hX)|refine aK (List.range 10) ?_|((with_reducible refine aQ (i:=14) ?_);refine aP (List.range 10) rfl rfl ?_;refine bW [] ?_)|((with_reducible refine aQ ?_);refine aP (List.range 10) rfl rfl ?_;refine cJ [] ?_)|((with_reducible refine bM ?_);refine yA ?_;(first|refine bC (bN (T:=61) rfl) rfl ?_|refine bC (bN (T:=49) rfl) rfl ?_))|(refine dM ?_;first|refine c0 hfo ?_|refine c0 hrr ?_|refine c0 hfr ?_|refine c0 hda ?_|refine c0 hds ?_)|refine iB ?_|refine fT ?_|refine stA ?_|refine stD ?_|refine stE ?_|(refine aG hK hX ?_;clear hK hX K)|fail)
 refine cV zio ztr rfl (ResL.two zrs (ResA.tmp rfl)) (iM (aX (uB rfl (by repeat' (first|exact cS|refine aX (fZ (gP rfl rfl hCl) (jG aA hCe)) ?_|refine aX (dU cR) ?_))) (aX (dU cR) cS)))
end
end
section
attribute [local irreducible] Still Adds AWL AW Drw bX bY AC AWR cU Frz Go.Av.Src cQ Out InK ItK AsK RdK eP eI ACT ACA eW ACG fL lec
theorem bX4 (s:Lg) (m k q:Nat) (hm:s.d.sy.length=m) (hk:s.d.pe.length=k) (hl:s.l.length=q) (h1:m<=1000000) (h2:k<=1000000) (hfu:s.d.fu<=9223372036854775807) (hc:s.c.length=32) (ho:OkL s.l) (hq:q<=1000) (e:LEn) (hw:e.wf) (hk64:aT e.k) (hs:smE e) (nv ns:Nat) (hnv:e.vs.length=nv) (hns:e.ss.length=ns) (r:Lg) (err:Int) (m' k' q':Nat) (hr:opAd s e=(r,err)) (hm':r.d.sy.length=m') (hk':r.d.pe.length=k') (hq':r.l.length=q'):qC' 34 [.agg (lgV m k q s),.agg (ecs e nv ns)] (.tup [.c (.agg (lgV m' k' q' r)),.c (iv err)]) [] 0:=by
 have hz:=aF2 hs
 have hcl:(u8c s.c).length=32:=by rw [aH,hc]
 have hlg:(lgV m k q s).length=37:=by unfold lgV;rw [Aa,hcl];rfl
 have hw5:List.take 32 (List.drop (0+5) (lgV m k q s))=u8c s.c:=by
  show List.take 32 (u8c s.c)=u8c s.c
  rw [Ad (Cd hcl)]
 have hA:RaC (lgV m k q s) (.sl 1 m (u8c s.d.sy)) (.sl 1 k (u8c s.d.pe)) (iv s.d.fu) (bv s.d.dn) q (lec s.l) s.c (ecs e nv ns):=⟨hlg,rfl,rfl,hw5,hcl,hq,cK hw.root nv ns⟩
 have hfT:=fun r hr=>aQ6 s.l q hl hq ho e hw hk64 hz nv ns hnv hns r hr
 unfold opAd at hr
 by_cases hF:Fol s.l e
 rotate_left
 ·rw [Ak hF] at hr
  injection hr with hr1 hr2
  subst hr1 hr2
  obtain rfl:m'=0:=hm'.symm
  obtain rfl:k'=0:=hk'.symm
  obtain rfl:q'=0:=hq'.symm
  exact eS7 _ _ _ _ _ _ _ _ _ hA (hfT false ⟨fun h=>eS,fun h=>absurd h hF⟩)
 rw [Aj (fun h=>h hF)] at hr
 have hf:=hfT true ⟨fun _=>hF,fun _=>rfl⟩
 clear hfT
 by_cases h512:512<=s.l.length
 ·rw [Ak h512] at hr
  injection hr with hr1 hr2
  subst hr1 hr2
  obtain rfl:m'=0:=hm'.symm
  obtain rfl:k'=0:=hk'.symm
  obtain rfl:q'=0:=hq'.symm
  exact eS8 _ _ _ _ _ _ _ _ _ hA hf aA
 rw [Aj h512] at hr
 have hlt:q<512:=by omega
 have hrd:=dU1 hw hk64 hs hF.rd
 have hre:rdE e=clE e:=bG8 hw hrd
 rw [hre] at hr
 obtain ⟨w1,w2,w3⟩:=cN5 hw hrd
 rw [hre] at w1 w2 w3
 obtain ⟨x,nv',ns',rb,v1,v2,v3,v4,v5,hrr⟩:=aY9 e hw hk64 hz nv ns hnv hns
 have hpk:=uM hw hrd []
 rw [A4] at hpk
 obtain rfl:rb=true:=v4.2 (by rw [hpk];rfl)
 obtain ⟨t,ht⟩:=v5 rfl
 rw [hpk] at ht
 injection ht with ht
 injection ht with ht _
 subst ht v1 v2
 have v3':=cK v3 (clE e).vs.length (clE e).ss.length
 have hfe:iP kdL s.c (clE e)=iP kdL s.c e:=by unfold iP;rw [bN9]
 obtain ⟨j,hj⟩:∃j,(iP kdL s.c e).length=j:=⟨_,rfl⟩
 have hjb:=cL4 hw hk64 hz s.c
 rw [hj] at hjb
 have hfr:=bY3 s.c hc (clE e) w1 w2 w3 _ _ rfl rfl j (by rw [hfe,hj])
 rw [hfe,bN9] at hfr
 have hulF:=u8l hj
 have hdl:=kU s.c (cM e)
 obtain ⟨d1,e1,hoA⟩:∃d1 e1,opA s.d (iP kdL s.c e)=(d1,e1):=⟨_,_,rfl⟩
 have hda:=bG7 s.d.sy s.d.pe (iP kdL s.c e) s.d.fu s.d.dn m k j hm hk hj h1 h2 aA hfu d1 e1 _ _ hoA rfl rfl
 have hsz:=wI hoA
 rw [hoA] at hr
 simp only at hr
 have hcs:=aJ7 (s:=s.d) (t:=d1) (b:=iP kdL s.c e)
 generalize hDD:kdL s.c (cM e)=D at *
 have hDl:(u8c D).length=32:=by rw [aH,hdl]
 generalize iP kdL s.c e=FF at *
 obtain ⟨z1,hz1⟩:∃z,d1.sy.length=z:=⟨_,rfl⟩
 obtain ⟨z2,hz2⟩:∃z,d1.pe.length=z:=⟨_,rfl⟩
 rw [hz1,hz2] at hda
 by_cases e10:e1=0
 ·subst e10
  rw [Ak rfl] at hr
  obtain ⟨d2,e2,hoS⟩:∃d2 e2,opS d1=(d2,e2):=⟨_,_,rfl⟩
  have hds:=cR7 d1.sy d1.pe d1.fu d1.dn z1 z2 hz1 hz2 aA aA d2 e2 _ _ hoS rfl rfl
  have hcs:=hcs hoA
  rw [hoS] at hr hcs
  simp only at hr hcs
  by_cases e20:e2=0
  ·subst e20
   rw [Ak rfl] at hr
   injection hr with hr1 hr2
   subst hr1 hr2
   simp only at hm' hk' hq'
   rw [hm',hk'] at hds
   have hsn:lec s.l++ecs (clE e) (clE e).vs.length (clE e).ss.length=lec (s.l++[clE e]):=by unfold lec;rw [Bc];simp [ecR]
   have hq1:q'=q+1:=by rw [<- hq',Aa,hl];rfl
   obtain ⟨e0,e1,e2,e3,e4,e5,e6,e7,e8,e9,e10,e11,e12,e13,e14,e15,e16,e17,e18,e19,e20,e21,e22,e23,e24,e25,e26,e27,e28,e29,e30,e31,hD⟩:=cV2 (l:=D) hdl
   rw [hD] at hfr
   obtain ⟨u1,u2,u3,u4⟩:=d2
   have:=eT2 _ _ _ _ _ _ _ _ _ hA hf hlt _ v3' hrr (by rw [fX ho,hl]) j _ hulF _ _ _ _ _ _ _ _ _ _ _ _ _ _ _ _ _ _ _ _ _ _ _ _ _ _ _ _ _ _ _ _ hfr d1 z1 z2 hda u1 u2 u3 u4 m' k' hds
   unfold lgV
   rw [hq1]
   simp only
   rw [hD,<- hsn]
   exact this
  ·have e24:e2=104:=by rcases hcs with h|h;exact absurd h e20;exact h
   subst e24
   rw [Aj aN] at hr
   injection hr with hr1 hr2
   subst hr1 hr2
   simp only at hm' hk' hq'
   obtain rfl:q=q':=by omega
   rw [hm',hk'] at hds
   exact eT1 _ _ _ _ _ _ _ _ _ hA hf hlt _ v3' hrr j _ hulF _ hDl hfr d1 z1 z2 hda d2 m' k' hds
 ·rw [Aj e10] at hr
  by_cases e14:e1=104
  ·subst e14
   rw [Ak rfl] at hr
   injection hr with hr1 hr2
   subst hr1 hr2
   simp only at hm' hk' hq'
   obtain rfl:q=q':=by omega
   rw [<- hz1,<- hz2,hm',hk'] at hda
   exact eT0 _ _ _ _ _ _ _ _ _ hA hf hlt _ v3' hrr j _ hulF _ hDl hfr d1 m' k' hda
  ·rw [Aj e14] at hr
   injection hr with hr1 hr2
   subst hr1 hr2
   obtain rfl:m'=0:=hm'.symm
   obtain rfl:k'=0:=hk'.symm
   obtain rfl:q'=0:=hq'.symm
   exact eS9 _ _ _ _ _ _ _ _ _ hA hf hlt _ v3' hrr j _ hulF _ hDl hfr e1 d1 z1 z2 hda e10 e14
end
end Go.Proofs.YtbgehdndimlgkaaGreat
