/- Lemmas for laws of the ledger. -/
import Derived.Test.YtbgehdndimlgkaaGreatS37
set_option linter.all false
set_option maxHeartbeats 16000000
namespace Go.Proofs.YtbgehdndimlgkaaGreat
open Go Go.RowKit Go.Av
set_option maxRecDepth 100000
theorem aC9 {a b c d:AV}:∀i,i<6->i≠0->AV.mh (sg [4,5,6,7,8,9] i)∈[a,b,c,d,.mh 5,.mh 6,.mh 7,.mh 8,.mh 9]:=fun i h1 h2=>by
 rcases (show i=1\/i=2\/i=3\/i=4\/i=5 by omega) with rfl|rfl|rfl|rfl|rfl<;>simp [sg]
structure AdC (g:D1) (y1 y2 y3 y4:CV) (q:Nat) (C:D1) (c:Dm) (cs:D1) (t:Tl):Prop where
 hg:g.length=37
 hg0:List.take 4 (List.drop (0+0) g)=[y1,y2,y3,y4]
 hg4:g[0+4]? = some (.sl 65 q C)
 hg5:List.take 32 (List.drop (0+5) g)=u8c c
 hc:(u8c c).length=32
 hq:q<=1000
 hcs:cs.length=65
 hnt:qC' 60 [.sl 65 q C] (.ref 0 0) [(0,.blk tTl [.c (bv t.so),.c (iv t.day),.c (iv t.er),.c (iv t.sg),.mh 1,.mh 2,.mh 3,.mh 4,.mh 5]),(1,.tab (aI ktI.kc t.bg)),(2,.tab (aI ktI.kc t.co)),(3,.tab (aI ktP.kc t.st)),(4,.tab (aI ktV.kc t.vs)),(5,.tab (aI ktS.kc t.ss))] 6
attribute [local irreducible] Still Adds AWL AW Drw bX bY AC AWR cU Frz Go.Av.Src cQ Out InK ItK AsK RdK eP eI ACT ACA eW ACG fL lec
theorem cB2:pW Tryz.prog 75 2:=by
 intro us w hl
 obtain ⟨u0,u1,rfl⟩:∃u0 u1,us=[u0,u1]:=by
  match us,hl with | [u0,u1],_=>exact ⟨u0,u1,rfl⟩
 refine callsD_of_wpS Tryz.func75 rfl fun c₀ cs hu=>?_
 apply wpS_seq
 apply wpS_region
 simp [wpOpsS,go_sem,recoverD,hu,Tryz.ntmps75,Exit.thenS]
 refine wpS_cond (t:=false) pS ?_
 simp only [AB,AQ]
 refine wpS_of_wp (wp_skip ?_)
 cases c₀
 simp_all [bodyPostS,results,Tryz.results75]
theorem bD2:Body Tryz.prog 75:=by unfold Body;kernel_rfl
section
variable (g:D1) (y1 y2 y3 y4:CV) (q:Nat) (C:D1) (c:Dm) (cs:D1) (t:Tl) (hA:AdC g y1 y2 y3 y4 q C c cs t)
include g y1 y2 y3 y4 q C c cs t hA
theorem eP4 (hf:ACG Tryz.prog 62 6 [(0,.blk tTl [.c (bv t.so),.c (iv t.day),.c (iv t.er),.c (iv t.sg),.mh 1,.mh 2,.mh 3,.mh 4,.mh 5]),(1,.tab (aI ktI.kc t.bg)),(2,.tab (aI ktI.kc t.co)),(3,.tab (aI ktP.kc t.st)),(4,.tab (aI ktV.kc t.vs)),(5,.tab (aI ktS.kc t.ss))] [.agg cs] [(0,.blk tTl [.c (bv t.so),.c (iv t.day),.c (iv t.er),.c (iv t.sg),.mh 1,.mh 2,.mh 3,.mh 4,.mh 5]),(1,.tab (aI ktI.kc t.bg)),(2,.tab (aI ktI.kc t.co)),(3,.tab (aI ktP.kc t.st)),(4,.tab (aI ktV.kc t.vs)),(5,.tab (aI ktS.kc t.ss))] (bv false)):qC' 24 [.agg g,.agg cs] (.tup [.c (.agg (lgV 0 0 0 lgZ)),.c (iv 11)]) [] 0:=by
 obtain ⟨hg,hg0,hg4,hg5,hc,hq,hcs,hnt⟩:=hA
 refine aD aB (sz:=85) Tryz.func24 rfl vI ?_
 repeat' (first|(refine aC ?_;intro K hK hX)|refine dK0 ?_|(refine aG hK hX ?_;clear hK hX K)|fail)
 exact cH4
theorem eP5 (hf:ACG Tryz.prog 62 6 [(0,.blk tTl [.c (bv t.so),.c (iv t.day),.c (iv t.er),.c (iv t.sg),.mh 1,.mh 2,.mh 3,.mh 4,.mh 5]),(1,.tab (aI ktI.kc t.bg)),(2,.tab (aI ktI.kc t.co)),(3,.tab (aI ktP.kc t.st)),(4,.tab (aI ktV.kc t.vs)),(5,.tab (aI ktS.kc t.ss))] [.agg cs] [(0,.blk tTl [.c (bv t.so),.c (iv t.day),.c (iv t.er),.c (iv t.sg),.mh 1,.mh 2,.mh 3,.mh 4,.mh 5]),(1,.tab (aI ktI.kc t.bg)),(2,.tab (aI ktI.kc t.co)),(3,.tab (aI ktP.kc t.st)),(4,.tab (aI ktV.kc t.vs)),(5,.tab (aI ktS.kc t.ss))] (bv true)) (h:512<=q):qC' 24 [.agg g,.agg cs] (.tup [.c (.agg (lgV 0 0 0 lgZ)),.c (iv 8)]) [] 0:=by
 obtain ⟨hg,hg0,hg4,hg5,hc,hq,hcs,hnt⟩:=hA
 refine aD aB (sz:=85) Tryz.func24 rfl vI ?_
 repeat' (first|(refine aC ?_;intro K hK hX)|refine dK0 ?_|(refine aG hK hX ?_;clear hK hX K)|fail)
 exact cH4
theorem eP6 (hf:ACG Tryz.prog 62 6 [(0,.blk tTl [.c (bv t.so),.c (iv t.day),.c (iv t.er),.c (iv t.sg),.mh 1,.mh 2,.mh 3,.mh 4,.mh 5]),(1,.tab (aI ktI.kc t.bg)),(2,.tab (aI ktI.kc t.co)),(3,.tab (aI ktP.kc t.st)),(4,.tab (aI ktV.kc t.vs)),(5,.tab (aI ktS.kc t.ss))] [.agg cs] [(0,.blk tTl [.c (bv t.so),.c (iv t.day),.c (iv t.er),.c (iv t.sg),.mh 1,.mh 2,.mh 3,.mh 4,.mh 5]),(1,.tab (aI ktI.kc t.bg)),(2,.tab (aI ktI.kc t.co)),(3,.tab (aI ktP.kc t.st)),(4,.tab (aI ktV.kc t.vs)),(5,.tab (aI ktS.kc t.ss))] (bv true)) (h:q<512) (n1:Nat) (en:Dm) (hen:en.length=n1) (hn1:n1<=1000000) (hap:qC' 76 [.sl 1 0 [],.agg cs] (.own 0 0 n1 1 true) [(0,.row 5 (u8c en))] 1) (cs':D1) (hcs':cs'.length=65) (b':CV) (hrd:qC' 77 [.sl 1 n1 (u8c en)] (.tup [.c (.agg cs'),.c b',.c (iv 0)]) [] 0) (d:Dm) (hd:d.length=32) (hky:qC' 78 [wv 330#64,.agg (u8c c),.sl 1 n1 (u8c en)] (.c (.agg (u8c d))) [] 0) (n2:Nat) (i1:Dm) (hi1:i1.length=n2) (hn2:n2<=10) (hai:qC' 79 [.sl 1 0 [],iv n1] (.own 0 0 n2 1 true) [(0,.row 5 (u8c i1))] 1) (e:Int) (d1:Dk) (m1 k1:Nat) (hda:qC' 21 [.agg [y1,y2,y3,y4],.sl 1 (n2+n1+(32-0)) (u8c i1++u8c en++u8c d)] (.tup [.c (dkV m1 k1 d1),.c (iv e)]) [] 0) (e0:e≠0) (e1:e≠104):qC' 24 [.agg g,.agg cs] (.tup [.c (.agg (lgV 0 0 0 lgZ)),.c (iv e)]) [] 0:=by
 obtain ⟨hg,hg0,hg4,hg5,hc,hq,hcs,hnt⟩:=hA
 have hel:(u8c en).length=n1:=by rw [aH,hen]
 have hdl:(u8c d).length=32:=by rw [aH,hd]
 have hil:(u8c i1).length=n2:=by rw [aH,hi1]
 have hrl:(u8c i1++u8c en++u8c d).length=(n2+n1+(32-0))*1:=by rw [Aa,Aa];omega
 obtain ⟨z1,z2,z3,z4⟩:=d1
 try dsimp only at hda
 refine aD aB (sz:=85) Tryz.func24 rfl vI ?_
 repeat' (first|(with_reducible refine vQ 14 ?_)|(with_reducible refine vR 14 ?_)|(with_reducible refine cut3 14 ?_)|(refine aC ?_;intro K hK hX)|refine aK [0,1,2,3,4,5,6,7,9,10,11,63] ?_|((with_reducible refine aQ (i:=2) ?_);refine aP [0,1,2,3,4,5,6,7,9,10,11,63] rfl rfl ?_;refine bW [] ?_)|((with_reducible refine aQ ?_);refine aP [0,1,2,3,4,5,6,7,9,10,11,63] rfl rfl ?_;refine cJ [] ?_)|((with_reducible refine bM ?_);refine yA ?_;(first|refine bC (bN (T:=61) rfl) rfl ?_|refine bC (bN (T:=49) rfl) rfl ?_))|((with_reducible refine aW ?_);refine yA ?_;(first|refine bC (aR (T:=61) aB rfl rfl rfl) rfl ?_|refine bC (aR (T:=49) aB rfl rfl rfl) rfl ?_))|((with_reducible refine bL ?_);refine qQ hnt aE zby rfl pR rfl (cT rfl rfl (cT rfl dZ (cT rfl dZ (cT rfl dZ (cT rfl dZ (cT rfl dZ uS)))))) ?_)|((with_reducible refine bL ?_);refine qP [4,5,6,7,8,9] hf aE rfl zby rfl rfl rfl sT rfl rfl aC9 rfl pR ?_)|((first|with_reducible refine aF ?_|with_reducible refine gG ?_|with_reducible refine bL ?_);(first|refine wA ?_|refine wD ?_|refine wE ?_);refine oZ (dP (fG zby rfl (hap) zcv rfl) zln) ?_)|(refine dM ?_;first|refine c0 hrd ?_|refine c0 hky ?_|refine c1 hai ?_)|refine iB ?_|refine fT ?_|refine stA ?_|refine stD ?_|refine stE ?_|(refine aG hK hX ?_;clear hK hX K)|fail)
 refine kK ?_
 refine oR (oO (t:=10) rfl rfl hrl) ?_
 repeat' (first|(refine aC ?_;intro K hK hX)|refine aK [0,1,2,3,4,5,6,7,9,10,11,63] ?_|((with_reducible refine aQ (i:=25) ?_);refine aP [0,1,2,3,4,5,6,7,9,10,11,63] rfl rfl ?_;refine bW [] ?_)|((with_reducible refine aQ ?_);refine aP [0,1,2,3,4,5,6,7,9,10,11,63] rfl rfl ?_;refine cJ [] ?_)|((with_reducible refine bM ?_);refine yA ?_;(first|refine bC (bN (T:=61) rfl) rfl ?_|refine bC (bN (T:=49) rfl) rfl ?_))|((with_reducible refine aW ?_);refine yA ?_;(first|refine bC (aR (T:=61) aB rfl rfl rfl) rfl ?_|refine bC (aR (T:=49) aB rfl rfl rfl) rfl ?_))|(refine dM ?_;refine c0 hda ?_)|refine iB ?_|refine fT ?_|refine stA ?_|refine stD ?_|refine stE ?_|(refine aG hK hX ?_;clear hK hX K)|fail)
 exact cH4
theorem eP7 (hf:ACG Tryz.prog 62 6 [(0,.blk tTl [.c (bv t.so),.c (iv t.day),.c (iv t.er),.c (iv t.sg),.mh 1,.mh 2,.mh 3,.mh 4,.mh 5]),(1,.tab (aI ktI.kc t.bg)),(2,.tab (aI ktI.kc t.co)),(3,.tab (aI ktP.kc t.st)),(4,.tab (aI ktV.kc t.vs)),(5,.tab (aI ktS.kc t.ss))] [.agg cs] [(0,.blk tTl [.c (bv t.so),.c (iv t.day),.c (iv t.er),.c (iv t.sg),.mh 1,.mh 2,.mh 3,.mh 4,.mh 5]),(1,.tab (aI ktI.kc t.bg)),(2,.tab (aI ktI.kc t.co)),(3,.tab (aI ktP.kc t.st)),(4,.tab (aI ktV.kc t.vs)),(5,.tab (aI ktS.kc t.ss))] (bv true)) (h:q<512) (n1:Nat) (en:Dm) (hen:en.length=n1) (hn1:n1<=1000000) (hap:qC' 76 [.sl 1 0 [],.agg cs] (.own 0 0 n1 1 true) [(0,.row 5 (u8c en))] 1) (cs':D1) (hcs':cs'.length=65) (b':CV) (hrd:qC' 77 [.sl 1 n1 (u8c en)] (.tup [.c (.agg cs'),.c b',.c (iv 0)]) [] 0) (d:Dm) (hd:d.length=32) (hky:qC' 78 [wv 330#64,.agg (u8c c),.sl 1 n1 (u8c en)] (.c (.agg (u8c d))) [] 0) (n2:Nat) (i1:Dm) (hi1:i1.length=n2) (hn2:n2<=10) (hai:qC' 79 [.sl 1 0 [],iv n1] (.own 0 0 n2 1 true) [(0,.row 5 (u8c i1))] 1) (d1:Dk) (m1 k1:Nat) (hda:qC' 21 [.agg [y1,y2,y3,y4],.sl 1 (n2+n1+(32-0)) (u8c i1++u8c en++u8c d)] (.tup [.c (dkV m1 k1 d1),.c (iv 104)]) [] 0) (gc:D1) (hgc:gc.length=37) (hcl:qC' 81 [.agg g,dkV m1 k1 d1] (.c (.agg gc)) [] 0):qC' 24 [.agg g,.agg cs] (.tup [.c (.agg gc),.c (iv 104)]) [] 0:=by
 obtain ⟨hg,hg0,hg4,hg5,hc,hq,hcs,hnt⟩:=hA
 have hel:(u8c en).length=n1:=by rw [aH,hen]
 have hdl:(u8c d).length=32:=by rw [aH,hd]
 have hil:(u8c i1).length=n2:=by rw [aH,hi1]
 have hrl:(u8c i1++u8c en++u8c d).length=(n2+n1+(32-0))*1:=by rw [Aa,Aa];omega
 obtain ⟨z1,z2,z3,z4⟩:=d1
 try dsimp only at hda
 refine aD aB (sz:=85) Tryz.func24 rfl vI ?_
 repeat' (first|(with_reducible refine vQ 14 ?_)|(with_reducible refine vR 14 ?_)|(with_reducible refine cut3 14 ?_)|(refine aC ?_;intro K hK hX)|refine aK [0,1,2,3,4,5,6,7,9,10,11,63] ?_|((with_reducible refine aQ (i:=2) ?_);refine aP [0,1,2,3,4,5,6,7,9,10,11,63] rfl rfl ?_;refine bW [] ?_)|((with_reducible refine aQ ?_);refine aP [0,1,2,3,4,5,6,7,9,10,11,63] rfl rfl ?_;refine cJ [] ?_)|((with_reducible refine bM ?_);refine yA ?_;(first|refine bC (bN (T:=61) rfl) rfl ?_|refine bC (bN (T:=49) rfl) rfl ?_))|((with_reducible refine aW ?_);refine yA ?_;(first|refine bC (aR (T:=61) aB rfl rfl rfl) rfl ?_|refine bC (aR (T:=49) aB rfl rfl rfl) rfl ?_))|((with_reducible refine bL ?_);refine qQ hnt aE zby rfl pR rfl (cT rfl rfl (cT rfl dZ (cT rfl dZ (cT rfl dZ (cT rfl dZ (cT rfl dZ uS)))))) ?_)|((with_reducible refine bL ?_);refine qP [4,5,6,7,8,9] hf aE rfl zby rfl rfl rfl sT rfl rfl aC9 rfl pR ?_)|((first|with_reducible refine aF ?_|with_reducible refine gG ?_|with_reducible refine bL ?_);(first|refine wA ?_|refine wD ?_|refine wE ?_);refine oZ (dP (fG zby rfl (hap) zcv rfl) zln) ?_)|(refine dM ?_;first|refine c0 hrd ?_|refine c0 hky ?_|refine c1 hai ?_)|refine iB ?_|refine fT ?_|refine stA ?_|refine stD ?_|refine stE ?_|(refine aG hK hX ?_;clear hK hX K)|fail)
 refine kK ?_
 refine oR (oO (t:=10) rfl rfl hrl) ?_
 repeat' (first|(refine aC ?_;intro K hK hX)|refine aK [0,1,2,3,4,5,6,7,9,10,11,63] ?_|((with_reducible refine aQ (i:=25) ?_);refine aP [0,1,2,3,4,5,6,7,9,10,11,63] rfl rfl ?_;refine bW [] ?_)|((with_reducible refine aQ ?_);refine aP [0,1,2,3,4,5,6,7,9,10,11,63] rfl rfl ?_;refine cJ [] ?_)|((with_reducible refine bM ?_);refine yA ?_;(first|refine bC (bN (T:=61) rfl) rfl ?_|refine bC (bN (T:=49) rfl) rfl ?_))|((with_reducible refine aW ?_);refine yA ?_;(first|refine bC (aR (T:=61) aB rfl rfl rfl) rfl ?_|refine bC (aR (T:=49) aB rfl rfl rfl) rfl ?_))|(refine dM ?_;first|refine c0 hda ?_|refine c0 hcl ?_)|refine iB ?_|refine fT ?_|refine stA ?_|refine stD ?_|refine stE ?_|(refine aG hK hX ?_;clear hK hX K)|fail)
 exact dS0
theorem eP8 (hf:ACG Tryz.prog 62 6 [(0,.blk tTl [.c (bv t.so),.c (iv t.day),.c (iv t.er),.c (iv t.sg),.mh 1,.mh 2,.mh 3,.mh 4,.mh 5]),(1,.tab (aI ktI.kc t.bg)),(2,.tab (aI ktI.kc t.co)),(3,.tab (aI ktP.kc t.st)),(4,.tab (aI ktV.kc t.vs)),(5,.tab (aI ktS.kc t.ss))] [.agg cs] [(0,.blk tTl [.c (bv t.so),.c (iv t.day),.c (iv t.er),.c (iv t.sg),.mh 1,.mh 2,.mh 3,.mh 4,.mh 5]),(1,.tab (aI ktI.kc t.bg)),(2,.tab (aI ktI.kc t.co)),(3,.tab (aI ktP.kc t.st)),(4,.tab (aI ktV.kc t.vs)),(5,.tab (aI ktS.kc t.ss))] (bv true)) (h:q<512) (n1:Nat) (en:Dm) (hen:en.length=n1) (hn1:n1<=1000000) (hap:qC' 76 [.sl 1 0 [],.agg cs] (.own 0 0 n1 1 true) [(0,.row 5 (u8c en))] 1) (cs':D1) (hcs':cs'.length=65) (b':CV) (hrd:qC' 77 [.sl 1 n1 (u8c en)] (.tup [.c (.agg cs'),.c b',.c (iv 0)]) [] 0) (d:Dm) (hd:d.length=32) (hky:qC' 78 [wv 330#64,.agg (u8c c),.sl 1 n1 (u8c en)] (.c (.agg (u8c d))) [] 0) (n2:Nat) (i1:Dm) (hi1:i1.length=n2) (hn2:n2<=10) (hai:qC' 79 [.sl 1 0 [],iv n1] (.own 0 0 n2 1 true) [(0,.row 5 (u8c i1))] 1) (d1:Dk) (m1 k1:Nat) (hda:qC' 21 [.agg [y1,y2,y3,y4],.sl 1 (n2+n1+(32-0)) (u8c i1++u8c en++u8c d)] (.tup [.c (dkV m1 k1 d1),.c (iv 0)]) [] 0) (d2:Dk) (m2 k2:Nat) (hds:qC' 80 [dkV m1 k1 d1] (.tup [.c (dkV m2 k2 d2),.c (iv 104)]) [] 0) (gc:D1) (hgc:gc.length=37) (hcl:qC' 81 [.agg g,dkV m2 k2 d2] (.c (.agg gc)) [] 0):qC' 24 [.agg g,.agg cs] (.tup [.c (.agg gc),.c (iv 104)]) [] 0:=by
 obtain ⟨hg,hg0,hg4,hg5,hc,hq,hcs,hnt⟩:=hA
 have hel:(u8c en).length=n1:=by rw [aH,hen]
 have hdl:(u8c d).length=32:=by rw [aH,hd]
 have hil:(u8c i1).length=n2:=by rw [aH,hi1]
 have hrl:(u8c i1++u8c en++u8c d).length=(n2+n1+(32-0))*1:=by rw [Aa,Aa];omega
 obtain ⟨z1,z2,z3,z4⟩:=d1
 obtain ⟨u1,u2,u3,u4⟩:=d2
 try dsimp only at hda hds hcl
 refine aD aB (sz:=85) Tryz.func24 rfl vI ?_
 repeat' (first|(with_reducible refine vQ 14 ?_)|(with_reducible refine vR 14 ?_)|(with_reducible refine cut3 14 ?_)|(refine aC ?_;intro K hK hX)|refine aK [0,1,2,3,4,5,6,7,9,10,11,63] ?_|((with_reducible refine aQ (i:=2) ?_);refine aP [0,1,2,3,4,5,6,7,9,10,11,63] rfl rfl ?_;refine bW [] ?_)|((with_reducible refine aQ ?_);refine aP [0,1,2,3,4,5,6,7,9,10,11,63] rfl rfl ?_;refine cJ [] ?_)|((with_reducible refine bM ?_);refine yA ?_;(first|refine bC (bN (T:=61) rfl) rfl ?_|refine bC (bN (T:=49) rfl) rfl ?_))|((with_reducible refine aW ?_);refine yA ?_;(first|refine bC (aR (T:=61) aB rfl rfl rfl) rfl ?_|refine bC (aR (T:=49) aB rfl rfl rfl) rfl ?_))|((with_reducible refine bL ?_);refine qQ hnt aE zby rfl pR rfl (cT rfl rfl (cT rfl dZ (cT rfl dZ (cT rfl dZ (cT rfl dZ (cT rfl dZ uS)))))) ?_)|((with_reducible refine bL ?_);refine qP [4,5,6,7,8,9] hf aE rfl zby rfl rfl rfl sT rfl rfl aC9 rfl pR ?_)|((first|with_reducible refine aF ?_|with_reducible refine gG ?_|with_reducible refine bL ?_);(first|refine wA ?_|refine wD ?_|refine wE ?_);refine oZ (dP (fG zby rfl (hap) zcv rfl) zln) ?_)|(refine dM ?_;first|refine c0 hrd ?_|refine c0 hky ?_|refine c1 hai ?_)|refine iB ?_|refine fT ?_|refine stA ?_|refine stD ?_|refine stE ?_|(refine aG hK hX ?_;clear hK hX K)|fail)
 refine kK ?_
 refine oR (oO (t:=10) rfl rfl hrl) ?_
 repeat' (first|(refine aC ?_;intro K hK hX)|refine aK [0,1,2,3,4,5,6,7,9,10,11,63] ?_|((with_reducible refine aQ (i:=25) ?_);refine aP [0,1,2,3,4,5,6,7,9,10,11,63] rfl rfl ?_;refine bW [] ?_)|((with_reducible refine aQ ?_);refine aP [0,1,2,3,4,5,6,7,9,10,11,63] rfl rfl ?_;refine cJ [] ?_)|((with_reducible refine bM ?_);refine yA ?_;(first|refine bC (bN (T:=61) rfl) rfl ?_|refine bC (bN (T:=49) rfl) rfl ?_))|((with_reducible refine aW ?_);refine yA ?_;(first|refine bC (aR (T:=61) aB rfl rfl rfl) rfl ?_|refine bC (aR (T:=49) aB rfl rfl rfl) rfl ?_))|(refine dM ?_;first|refine c0 hda ?_|refine c0 hcl ?_|refine c0 hds ?_)|refine iB ?_|refine fT ?_|refine stA ?_|refine stD ?_|refine stE ?_|(refine aG hK hX ?_;clear hK hX K)|fail)
 exact dS0
end
end Go.Proofs.YtbgehdndimlgkaaGreat
