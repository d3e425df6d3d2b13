/- Lemmas for laws of the ledger. -/
import Derived.Test.YtbgehdndimlgkaaGreatS26
import Derived.Test.YtbgehdndimlgkaaGreatS27
set_option linter.all false
set_option maxHeartbeats 16000000
namespace Go.Proofs.YtbgehdndimlgkaaGreat
open Go Go.RowKit Go.Av
set_option maxRecDepth 100000
noncomputable def folT1:Code:=fM (fM (fM (Tryz.f62.body.getD .skip)))
noncomputable def folT2:Code:=fM folT1
attribute [local irreducible] Still Adds AWL AW Drw bX bY AC AWR cU Frz Go.Av.Src cQ Out InK ItK AsK RdK eP eI ACT ACA eW ACG fL AWS
attribute [local simp] bS bR bI
section
variable (so:Bool) (tday:Int) (er sg:Nat) (bg co:List Int) (st:List (Int × Int)) (vs:List Ver) (ss:List Src) (cs:D1) (k day plan step rk:Int) (hc0:cs[0]? = some (iv k)) (hc1:cs[1]? = some (iv day)) (hc2:cs[2]? = some (iv plan)) (hc3:cs[3]? = some (iv step)) (hc4:cs[4]? = some (iv rk))
include so tday er sg bg co st vs ss cs k day plan step rk hc0 hc1 hc2 hc3 hc4
theorem dB2 (k1:k=1) (h:rk=1) (cs':D1):qW' 146 folT2 (fL Tryz.prog tab Tryz.f62.results.toList 6 [.ref 0 0,.mh 1,.mh 2,.mh 3,.mh 4,.mh 5] [(0,.blk tTl [.c (bv so),.c (iv tday),.c (iv er),.c (iv sg),.mh 1,.mh 2,.mh 3,.mh 4,.mh 5]),(1,.tab (aI ktI.kc bg)),(2,.tab (aI ktI.kc co)),(3,.tab (aI ktP.kc st)),(4,.tab (aI ktV.kc vs)),(5,.tab (aI ktS.kc ss))] (bv true)) 8 [(0,.ref 0 0),(1,.c (.agg cs)),(3,.ref 6 0),(4,.c (bv false))] [(7,.row 49 cs'),(6,.row 49 cs),(5,.tab (aI ktS.kc ss)),(4,.tab (aI ktV.kc vs)),(3,.tab (aI ktP.kc st)),(2,.tab (aI ktI.kc co)),(1,.tab (aI ktI.kc bg)),(0,.blk tTl [.c (bv so),.c (iv tday),.c (iv er),.c (iv sg),.mh 1,.mh 2,.mh 3,.mh 4,.mh 5])] [(none,[.ref 0 0,.mh 1,.mh 2,.mh 3,.mh 4,.mh 5])]:=by
 unfold folT2 folT1
 conv in fM _=>whnf
 repeat' (first|(refine aC ?_;intro K hK hX)|refine wY ?_|(refine aG hK hX ?_;clear hK hX K)|fail)
 exact eR
theorem dB3 (k1:k=1) (h:¬rk=1) (h':rk=2) (cs':D1):qW' 146 folT2 (fL Tryz.prog tab Tryz.f62.results.toList 6 [.ref 0 0,.mh 1,.mh 2,.mh 3,.mh 4,.mh 5] [(0,.blk tTl [.c (bv so),.c (iv tday),.c (iv er),.c (iv sg),.mh 1,.mh 2,.mh 3,.mh 4,.mh 5]),(1,.tab (aI ktI.kc bg)),(2,.tab (aI ktI.kc co)),(3,.tab (aI ktP.kc st)),(4,.tab (aI ktV.kc vs)),(5,.tab (aI ktS.kc ss))] (bv true)) 8 [(0,.ref 0 0),(1,.c (.agg cs)),(3,.ref 6 0),(4,.c (bv false))] [(7,.row 49 cs'),(6,.row 49 cs),(5,.tab (aI ktS.kc ss)),(4,.tab (aI ktV.kc vs)),(3,.tab (aI ktP.kc st)),(2,.tab (aI ktI.kc co)),(1,.tab (aI ktI.kc bg)),(0,.blk tTl [.c (bv so),.c (iv tday),.c (iv er),.c (iv sg),.mh 1,.mh 2,.mh 3,.mh 4,.mh 5])] [(none,[.ref 0 0,.mh 1,.mh 2,.mh 3,.mh 4,.mh 5])]:=by
 unfold folT2 folT1
 conv in fM _=>whnf
 repeat' (first|(refine aC ?_;intro K hK hX)|refine wY ?_|(refine aG hK hX ?_;clear hK hX K)|fail)
 exact eR
theorem dB4 (k1:k=1) (h:¬rk=1) (h':¬rk=2) (h'':rk=3) (cs':D1):qW' 146 folT2 (fL Tryz.prog tab Tryz.f62.results.toList 6 [.ref 0 0,.mh 1,.mh 2,.mh 3,.mh 4,.mh 5] [(0,.blk tTl [.c (bv so),.c (iv tday),.c (iv er),.c (iv sg),.mh 1,.mh 2,.mh 3,.mh 4,.mh 5]),(1,.tab (aI ktI.kc bg)),(2,.tab (aI ktI.kc co)),(3,.tab (aI ktP.kc st)),(4,.tab (aI ktV.kc vs)),(5,.tab (aI ktS.kc ss))] (bv true)) 8 [(0,.ref 0 0),(1,.c (.agg cs)),(3,.ref 6 0),(4,.c (bv false))] [(7,.row 49 cs'),(6,.row 49 cs),(5,.tab (aI ktS.kc ss)),(4,.tab (aI ktV.kc vs)),(3,.tab (aI ktP.kc st)),(2,.tab (aI ktI.kc co)),(1,.tab (aI ktI.kc bg)),(0,.blk tTl [.c (bv so),.c (iv tday),.c (iv er),.c (iv sg),.mh 1,.mh 2,.mh 3,.mh 4,.mh 5])] [(none,[.ref 0 0,.mh 1,.mh 2,.mh 3,.mh 4,.mh 5])]:=by
 unfold folT2 folT1
 conv in fM _=>whnf
 repeat' (first|(refine aC ?_;intro K hK hX)|refine wY ?_|(refine aG hK hX ?_;clear hK hX K)|fail)
 exact eR
theorem dB5 (k1:k=1) (h:¬rk=1) (h':¬rk=2) (h'':¬rk=3) (cs':D1):qW' 146 folT2 (fL Tryz.prog tab Tryz.f62.results.toList 6 [.ref 0 0,.mh 1,.mh 2,.mh 3,.mh 4,.mh 5] [(0,.blk tTl [.c (bv so),.c (iv tday),.c (iv er),.c (iv sg),.mh 1,.mh 2,.mh 3,.mh 4,.mh 5]),(1,.tab (aI ktI.kc bg)),(2,.tab (aI ktI.kc co)),(3,.tab (aI ktP.kc st)),(4,.tab (aI ktV.kc vs)),(5,.tab (aI ktS.kc ss))] (bv false)) 8 [(0,.ref 0 0),(1,.c (.agg cs)),(3,.ref 6 0),(4,.c (bv false))] [(7,.row 49 cs'),(6,.row 49 cs),(5,.tab (aI ktS.kc ss)),(4,.tab (aI ktV.kc vs)),(3,.tab (aI ktP.kc st)),(2,.tab (aI ktI.kc co)),(1,.tab (aI ktI.kc bg)),(0,.blk tTl [.c (bv so),.c (iv tday),.c (iv er),.c (iv sg),.mh 1,.mh 2,.mh 3,.mh 4,.mh 5])] [(none,[.ref 0 0,.mh 1,.mh 2,.mh 3,.mh 4,.mh 5])]:=by
 unfold folT2 folT1
 conv in fM _=>whnf
 repeat' (first|(refine aC ?_;intro K hK hX)|refine wY ?_|(refine aG hK hX ?_;clear hK hX K)|fail)
 exact eR
theorem cL2 (r:Bool) (hl:cs.length=65) (k2:k=2) (hfe:ACG Tryz.prog 121 6 [(0,.blk tTl [.c (bv so),.c (iv tday),.c (iv er),.c (iv sg),.mh 1,.mh 2,.mh 3,.mh 4,.mh 5]),(1,.tab (aI ktI.kc bg)),(2,.tab (aI ktI.kc co)),(3,.tab (aI ktP.kc st)),(4,.tab (aI ktV.kc vs)),(5,.tab (aI ktS.kc ss))] [.agg cs] [(0,.blk tTl [.c (bv so),.c (iv tday),.c (iv er),.c (iv sg),.mh 1,.mh 2,.mh 3,.mh 4,.mh 5]),(1,.tab (aI ktI.kc bg)),(2,.tab (aI ktI.kc co)),(3,.tab (aI ktP.kc st)),(4,.tab (aI ktV.kc vs)),(5,.tab (aI ktS.kc ss))] (bv r)) (cs':D1):qW' 146 folT2 (fL Tryz.prog tab Tryz.f62.results.toList 6 [.ref 0 0,.mh 1,.mh 2,.mh 3,.mh 4,.mh 5] [(0,.blk tTl [.c (bv so),.c (iv tday),.c (iv er),.c (iv sg),.mh 1,.mh 2,.mh 3,.mh 4,.mh 5]),(1,.tab (aI ktI.kc bg)),(2,.tab (aI ktI.kc co)),(3,.tab (aI ktP.kc st)),(4,.tab (aI ktV.kc vs)),(5,.tab (aI ktS.kc ss))] (bv r)) 8 [(0,.ref 0 0),(1,.c (.agg cs)),(3,.ref 6 0),(4,.c (bv false))] [(7,.row 49 cs'),(6,.row 49 cs),(5,.tab (aI ktS.kc ss)),(4,.tab (aI ktV.kc vs)),(3,.tab (aI ktP.kc st)),(2,.tab (aI ktI.kc co)),(1,.tab (aI ktI.kc bg)),(0,.blk tTl [.c (bv so),.c (iv tday),.c (iv er),.c (iv sg),.mh 1,.mh 2,.mh 3,.mh 4,.mh 5])] [(none,[.ref 0 0,.mh 1,.mh 2,.mh 3,.mh 4,.mh 5])]:=by
 unfold folT2 folT1
 conv in fM _=>whnf
 repeat' (first|(refine aC ?_;intro K hK hX)|refine bE [0,1,3,4,7,8,50] ?_|((with_reducible refine aF ?_);refine nR [0,1,2,3,4,5] hfe aE rfl zby rfl rfl rfl rfl sT rfl rfl rfl pR (cE rfl rfl (cE rfl setT_mp.symm (cE rfl setT_mp.symm (cE rfl setT_mp.symm (cE rfl setT_mp.symm (cE rfl setT_mp.symm rC)))))) ?_)|refine cH ?_|refine stA ?_|refine stD ?_|(refine aG hK hX ?_;clear hK hX K)|fail)
 exact eR
theorem dB6 (hbi:aT plan/\aT step) (hP:∀q∈st,ktP.ok q) (k3:k=3) (hb:plan∉bg) (cs':D1):qW' 146 folT2 (fL Tryz.prog tab Tryz.f62.results.toList 6 [.ref 0 0,.mh 1,.mh 2,.mh 3,.mh 4,.mh 5] [(0,.blk tTl [.c (bv so),.c (iv tday),.c (iv er),.c (iv sg),.mh 1,.mh 2,.mh 3,.mh 4,.mh 5]),(1,.tab (aI ktI.kc bg)),(2,.tab (aI ktI.kc co)),(3,.tab (aI ktP.kc st)),(4,.tab (aI ktV.kc vs)),(5,.tab (aI ktS.kc ss))] (bv false)) 8 [(0,.ref 0 0),(1,.c (.agg cs)),(3,.ref 6 0),(4,.c (bv false))] [(7,.row 49 cs'),(6,.row 49 cs),(5,.tab (aI ktS.kc ss)),(4,.tab (aI ktV.kc vs)),(3,.tab (aI ktP.kc st)),(2,.tab (aI ktI.kc co)),(1,.tab (aI ktI.kc bg)),(0,.blk tTl [.c (bv so),.c (iv tday),.c (iv er),.c (iv sg),.mh 1,.mh 2,.mh 3,.mh 4,.mh 5])] [(none,[.ref 0 0,.mh 1,.mh 2,.mh 3,.mh 4,.mh 5])]:=by
 unfold folT2 folT1
 conv in fM _=>whnf
 repeat' (first|(refine aC ?_;intro K hK hX)|refine dM2 ?_|(refine aG hK hX ?_;clear hK hX K)|fail)
 exact eR
theorem dB7 (hbi:aT plan/\aT step) (hP:∀q∈st,ktP.ok q) (k3:k=3) (hb:plan∈bg) (hc:plan∈co) (cs':D1):qW' 146 folT2 (fL Tryz.prog tab Tryz.f62.results.toList 6 [.ref 0 0,.mh 1,.mh 2,.mh 3,.mh 4,.mh 5] [(0,.blk tTl [.c (bv so),.c (iv tday),.c (iv er),.c (iv sg),.mh 1,.mh 2,.mh 3,.mh 4,.mh 5]),(1,.tab (aI ktI.kc bg)),(2,.tab (aI ktI.kc co)),(3,.tab (aI ktP.kc st)),(4,.tab (aI ktV.kc vs)),(5,.tab (aI ktS.kc ss))] (bv false)) 8 [(0,.ref 0 0),(1,.c (.agg cs)),(3,.ref 6 0),(4,.c (bv false))] [(7,.row 49 cs'),(6,.row 49 cs),(5,.tab (aI ktS.kc ss)),(4,.tab (aI ktV.kc vs)),(3,.tab (aI ktP.kc st)),(2,.tab (aI ktI.kc co)),(1,.tab (aI ktI.kc bg)),(0,.blk tTl [.c (bv so),.c (iv tday),.c (iv er),.c (iv sg),.mh 1,.mh 2,.mh 3,.mh 4,.mh 5])] [(none,[.ref 0 0,.mh 1,.mh 2,.mh 3,.mh 4,.mh 5])]:=by
 unfold folT2 folT1
 conv in fM _=>whnf
 repeat' (first|(refine aC ?_;intro K hK hX)|refine dL1 ?_|(refine aG hK hX ?_;clear hK hX K)|fail)
 exact eR
theorem dB8 (hbi:aT plan/\aT step) (hP:∀q∈st,ktP.ok q) (k3:k=3) (hb:plan∈bg) (hc:plan∉co) (h1:step<0) (cs':D1):qW' 146 folT2 (fL Tryz.prog tab Tryz.f62.results.toList 6 [.ref 0 0,.mh 1,.mh 2,.mh 3,.mh 4,.mh 5] [(0,.blk tTl [.c (bv so),.c (iv tday),.c (iv er),.c (iv sg),.mh 1,.mh 2,.mh 3,.mh 4,.mh 5]),(1,.tab (aI ktI.kc bg)),(2,.tab (aI ktI.kc co)),(3,.tab (aI ktP.kc st)),(4,.tab (aI ktV.kc vs)),(5,.tab (aI ktS.kc ss))] (bv false)) 8 [(0,.ref 0 0),(1,.c (.agg cs)),(3,.ref 6 0),(4,.c (bv false))] [(7,.row 49 cs'),(6,.row 49 cs),(5,.tab (aI ktS.kc ss)),(4,.tab (aI ktV.kc vs)),(3,.tab (aI ktP.kc st)),(2,.tab (aI ktI.kc co)),(1,.tab (aI ktI.kc bg)),(0,.blk tTl [.c (bv so),.c (iv tday),.c (iv er),.c (iv sg),.mh 1,.mh 2,.mh 3,.mh 4,.mh 5])] [(none,[.ref 0 0,.mh 1,.mh 2,.mh 3,.mh 4,.mh 5])]:=by
 unfold folT2 folT1
 conv in fM _=>whnf
 repeat' (first|(refine aC ?_;intro K hK hX)|refine cD6 ?_|(refine aG hK hX ?_;clear hK hX K)|fail)
 exact eR
theorem dB9 (hbi:aT plan/\aT step) (hP:∀q∈st,ktP.ok q) (k3:k=3) (hb:plan∈bg) (hc:plan∉co) (h1:0<=step) (h2:128<=step) (cs':D1):qW' 146 folT2 (fL Tryz.prog tab Tryz.f62.results.toList 6 [.ref 0 0,.mh 1,.mh 2,.mh 3,.mh 4,.mh 5] [(0,.blk tTl [.c (bv so),.c (iv tday),.c (iv er),.c (iv sg),.mh 1,.mh 2,.mh 3,.mh 4,.mh 5]),(1,.tab (aI ktI.kc bg)),(2,.tab (aI ktI.kc co)),(3,.tab (aI ktP.kc st)),(4,.tab (aI ktV.kc vs)),(5,.tab (aI ktS.kc ss))] (bv false)) 8 [(0,.ref 0 0),(1,.c (.agg cs)),(3,.ref 6 0),(4,.c (bv false))] [(7,.row 49 cs'),(6,.row 49 cs),(5,.tab (aI ktS.kc ss)),(4,.tab (aI ktV.kc vs)),(3,.tab (aI ktP.kc st)),(2,.tab (aI ktI.kc co)),(1,.tab (aI ktI.kc bg)),(0,.blk tTl [.c (bv so),.c (iv tday),.c (iv er),.c (iv sg),.mh 1,.mh 2,.mh 3,.mh 4,.mh 5])] [(none,[.ref 0 0,.mh 1,.mh 2,.mh 3,.mh 4,.mh 5])]:=by
 unfold folT2 folT1
 conv in fM _=>whnf
 repeat' (first|(refine aC ?_;intro K hK hX)|refine cD6 ?_|(refine aG hK hX ?_;clear hK hX K)|fail)
 exact eR
theorem dC0 (hbi:aT plan/\aT step) (hP:∀q∈st,ktP.ok q) (k3:k=3) (hb:plan∈bg) (hc:plan∉co) (h1:0<=step) (h2:step<128) (h3:(plan,step)∈st) (cs':D1):qW' 146 folT2 (fL Tryz.prog tab Tryz.f62.results.toList 6 [.ref 0 0,.mh 1,.mh 2,.mh 3,.mh 4,.mh 5] [(0,.blk tTl [.c (bv so),.c (iv tday),.c (iv er),.c (iv sg),.mh 1,.mh 2,.mh 3,.mh 4,.mh 5]),(1,.tab (aI ktI.kc bg)),(2,.tab (aI ktI.kc co)),(3,.tab (aI ktP.kc st)),(4,.tab (aI ktV.kc vs)),(5,.tab (aI ktS.kc ss))] (bv false)) 8 [(0,.ref 0 0),(1,.c (.agg cs)),(3,.ref 6 0),(4,.c (bv false))] [(7,.row 49 cs'),(6,.row 49 cs),(5,.tab (aI ktS.kc ss)),(4,.tab (aI ktV.kc vs)),(3,.tab (aI ktP.kc st)),(2,.tab (aI ktI.kc co)),(1,.tab (aI ktI.kc bg)),(0,.blk tTl [.c (bv so),.c (iv tday),.c (iv er),.c (iv sg),.mh 1,.mh 2,.mh 3,.mh 4,.mh 5])] [(none,[.ref 0 0,.mh 1,.mh 2,.mh 3,.mh 4,.mh 5])]:=by
 unfold folT2 folT1
 conv in fM _=>whnf
 repeat' (first|(refine aC ?_;intro K hK hX)|refine bE [0,1,3,4,7,8,50] ?_|((first|((with_reducible refine isA_lk ?_);refine xA ?_)|((with_reducible refine iQ ?_);refine xD ?_));refine aL (rP (k:=plan) ktI aB rfl rfl iW rfl rfl rfl trivial (fun _ _=>trivial) hb) ?_)|((first|((with_reducible refine isA_lk ?_);refine xA ?_)|((with_reducible refine iQ ?_);refine xD ?_));refine aL (pO (k:=plan) ktI aB rfl rfl iW rfl rfl rfl trivial (fun _ _=>trivial) hc) ?_)|((first|((with_reducible refine isA_lk ?_);refine xA ?_)|((with_reducible refine iQ ?_);refine xD ?_));refine aL (rP (k:=(plan,step)) ktP aB rfl rfl iW rfl rfl rfl (cN4 hbi.1 hbi.2) hP h3) ?_)|refine cH ?_|refine stA ?_|refine stD ?_|(refine aG hK hX ?_;clear hK hX K)|fail)
 exact eR
theorem dC1 (hbi:aT plan/\aT step) (hP:∀q∈st,ktP.ok q) (k3:k=3) (hb:plan∈bg) (hc:plan∉co) (h1:0<=step) (h2:step<128) (h3:(plan,step)∉st) (cs':D1):qW' 146 folT2 (fL Tryz.prog tab Tryz.f62.results.toList 6 [.ref 0 0,.mh 1,.mh 2,.mh 3,.mh 4,.mh 5] [(0,.blk tTl [.c (bv so),.c (iv tday),.c (iv er),.c (iv sg),.mh 1,.mh 2,.mh 3,.mh 4,.mh 5]),(1,.tab (aI ktI.kc bg)),(2,.tab (aI ktI.kc co)),(3,.tab (aI ktP.kc st)),(4,.tab (aI ktV.kc vs)),(5,.tab (aI ktS.kc ss))] (bv true)) 8 [(0,.ref 0 0),(1,.c (.agg cs)),(3,.ref 6 0),(4,.c (bv false))] [(7,.row 49 cs'),(6,.row 49 cs),(5,.tab (aI ktS.kc ss)),(4,.tab (aI ktV.kc vs)),(3,.tab (aI ktP.kc st)),(2,.tab (aI ktI.kc co)),(1,.tab (aI ktI.kc bg)),(0,.blk tTl [.c (bv so),.c (iv tday),.c (iv er),.c (iv sg),.mh 1,.mh 2,.mh 3,.mh 4,.mh 5])] [(none,[.ref 0 0,.mh 1,.mh 2,.mh 3,.mh 4,.mh 5])]:=by
 unfold folT2 folT1
 conv in fM _=>whnf
 repeat' (first|(refine aC ?_;intro K hK hX)|refine bE [0,1,3,4,7,8,50] ?_|((first|((with_reducible refine isA_lk ?_);refine xA ?_)|((with_reducible refine iQ ?_);refine xD ?_));refine aL (rP (k:=plan) ktI aB rfl rfl iW rfl rfl rfl trivial (fun _ _=>trivial) hb) ?_)|((first|((with_reducible refine isA_lk ?_);refine xA ?_)|((with_reducible refine iQ ?_);refine xD ?_));refine aL (pO (k:=plan) ktI aB rfl rfl iW rfl rfl rfl trivial (fun _ _=>trivial) hc) ?_)|((first|((with_reducible refine isA_lk ?_);refine xA ?_)|((with_reducible refine iQ ?_);refine xD ?_));refine aL (pO (k:=(plan,step)) ktP aB rfl rfl iW rfl rfl rfl (cN4 hbi.1 hbi.2) hP h3) ?_)|refine cH ?_|refine stA ?_|refine stD ?_|(refine aG hK hX ?_;clear hK hX K)|fail)
 exact eR
theorem dC2 (k4:k=4) (hb:plan∉bg) (cs':D1):qW' 146 folT2 (fL Tryz.prog tab Tryz.f62.results.toList 6 [.ref 0 0,.mh 1,.mh 2,.mh 3,.mh 4,.mh 5] [(0,.blk tTl [.c (bv so),.c (iv tday),.c (iv er),.c (iv sg),.mh 1,.mh 2,.mh 3,.mh 4,.mh 5]),(1,.tab (aI ktI.kc bg)),(2,.tab (aI ktI.kc co)),(3,.tab (aI ktP.kc st)),(4,.tab (aI ktV.kc vs)),(5,.tab (aI ktS.kc ss))] (bv false)) 8 [(0,.ref 0 0),(1,.c (.agg cs)),(3,.ref 6 0),(4,.c (bv false))] [(7,.row 49 cs'),(6,.row 49 cs),(5,.tab (aI ktS.kc ss)),(4,.tab (aI ktV.kc vs)),(3,.tab (aI ktP.kc st)),(2,.tab (aI ktI.kc co)),(1,.tab (aI ktI.kc bg)),(0,.blk tTl [.c (bv so),.c (iv tday),.c (iv er),.c (iv sg),.mh 1,.mh 2,.mh 3,.mh 4,.mh 5])] [(none,[.ref 0 0,.mh 1,.mh 2,.mh 3,.mh 4,.mh 5])]:=by
 unfold folT2 folT1
 conv in fM _=>whnf
 repeat' (first|(refine aC ?_;intro K hK hX)|refine dM2 ?_|(refine aG hK hX ?_;clear hK hX K)|fail)
 exact eR
theorem dC3 (k4:k=4) (hb:plan∈bg) (hc:plan∈co) (cs':D1):qW' 146 folT2 (fL Tryz.prog tab Tryz.f62.results.toList 6 [.ref 0 0,.mh 1,.mh 2,.mh 3,.mh 4,.mh 5] [(0,.blk tTl [.c (bv so),.c (iv tday),.c (iv er),.c (iv sg),.mh 1,.mh 2,.mh 3,.mh 4,.mh 5]),(1,.tab (aI ktI.kc bg)),(2,.tab (aI ktI.kc co)),(3,.tab (aI ktP.kc st)),(4,.tab (aI ktV.kc vs)),(5,.tab (aI ktS.kc ss))] (bv false)) 8 [(0,.ref 0 0),(1,.c (.agg cs)),(3,.ref 6 0),(4,.c (bv false))] [(7,.row 49 cs'),(6,.row 49 cs),(5,.tab (aI ktS.kc ss)),(4,.tab (aI ktV.kc vs)),(3,.tab (aI ktP.kc st)),(2,.tab (aI ktI.kc co)),(1,.tab (aI ktI.kc bg)),(0,.blk tTl [.c (bv so),.c (iv tday),.c (iv er),.c (iv sg),.mh 1,.mh 2,.mh 3,.mh 4,.mh 5])] [(none,[.ref 0 0,.mh 1,.mh 2,.mh 3,.mh 4,.mh 5])]:=by
 unfold folT2 folT1
 conv in fM _=>whnf
 repeat' (first|(refine aC ?_;intro K hK hX)|refine dL1 ?_|(refine aG hK hX ?_;clear hK hX K)|fail)
 exact eR
theorem dC4 (k4:k=4) (hb:plan∈bg) (hc:plan∉co) (cs':D1):qW' 146 folT2 (fL Tryz.prog tab Tryz.f62.results.toList 6 [.ref 0 0,.mh 1,.mh 2,.mh 3,.mh 4,.mh 5] [(0,.blk tTl [.c (bv so),.c (iv tday),.c (iv er),.c (iv sg),.mh 1,.mh 2,.mh 3,.mh 4,.mh 5]),(1,.tab (aI ktI.kc bg)),(2,.tab (aI ktI.kc co)),(3,.tab (aI ktP.kc st)),(4,.tab (aI ktV.kc vs)),(5,.tab (aI ktS.kc ss))] (bv true)) 8 [(0,.ref 0 0),(1,.c (.agg cs)),(3,.ref 6 0),(4,.c (bv false))] [(7,.row 49 cs'),(6,.row 49 cs),(5,.tab (aI ktS.kc ss)),(4,.tab (aI ktV.kc vs)),(3,.tab (aI ktP.kc st)),(2,.tab (aI ktI.kc co)),(1,.tab (aI ktI.kc bg)),(0,.blk tTl [.c (bv so),.c (iv tday),.c (iv er),.c (iv sg),.mh 1,.mh 2,.mh 3,.mh 4,.mh 5])] [(none,[.ref 0 0,.mh 1,.mh 2,.mh 3,.mh 4,.mh 5])]:=by
 unfold folT2 folT1
 conv in fM _=>whnf
 repeat' (first|(refine aC ?_;intro K hK hX)|refine cD6 ?_|(refine aG hK hX ?_;clear hK hX K)|fail)
 exact eR
theorem dC5 (k5:k=5) (h:¬step=(sg:Int)) (cs':D1):qW' 146 folT2 (fL Tryz.prog tab Tryz.f62.results.toList 6 [.ref 0 0,.mh 1,.mh 2,.mh 3,.mh 4,.mh 5] [(0,.blk tTl [.c (bv so),.c (iv tday),.c (iv er),.c (iv sg),.mh 1,.mh 2,.mh 3,.mh 4,.mh 5]),(1,.tab (aI ktI.kc bg)),(2,.tab (aI ktI.kc co)),(3,.tab (aI ktP.kc st)),(4,.tab (aI ktV.kc vs)),(5,.tab (aI ktS.kc ss))] (bv false)) 8 [(0,.ref 0 0),(1,.c (.agg cs)),(3,.ref 6 0),(4,.c (bv false))] [(7,.row 49 cs'),(6,.row 49 cs),(5,.tab (aI ktS.kc ss)),(4,.tab (aI ktV.kc vs)),(3,.tab (aI ktP.kc st)),(2,.tab (aI ktI.kc co)),(1,.tab (aI ktI.kc bg)),(0,.blk tTl [.c (bv so),.c (iv tday),.c (iv er),.c (iv sg),.mh 1,.mh 2,.mh 3,.mh 4,.mh 5])] [(none,[.ref 0 0,.mh 1,.mh 2,.mh 3,.mh 4,.mh 5])]:=by
 unfold folT2 folT1
 conv in fM _=>whnf
 repeat' (first|(refine aC ?_;intro K hK hX)|refine wY ?_|(refine aG hK hX ?_;clear hK hX K)|fail)
 exact eR
theorem dC6 (k5:k=5) (h:step=(sg:Int)) (h':4<=step) (cs':D1):qW' 146 folT2 (fL Tryz.prog tab Tryz.f62.results.toList 6 [.ref 0 0,.mh 1,.mh 2,.mh 3,.mh 4,.mh 5] [(0,.blk tTl [.c (bv so),.c (iv tday),.c (iv er),.c (iv sg),.mh 1,.mh 2,.mh 3,.mh 4,.mh 5]),(1,.tab (aI ktI.kc bg)),(2,.tab (aI ktI.kc co)),(3,.tab (aI ktP.kc st)),(4,.tab (aI ktV.kc vs)),(5,.tab (aI ktS.kc ss))] (bv false)) 8 [(0,.ref 0 0),(1,.c (.agg cs)),(3,.ref 6 0),(4,.c (bv false))] [(7,.row 49 cs'),(6,.row 49 cs),(5,.tab (aI ktS.kc ss)),(4,.tab (aI ktV.kc vs)),(3,.tab (aI ktP.kc st)),(2,.tab (aI ktI.kc co)),(1,.tab (aI ktI.kc bg)),(0,.blk tTl [.c (bv so),.c (iv tday),.c (iv er),.c (iv sg),.mh 1,.mh 2,.mh 3,.mh 4,.mh 5])] [(none,[.ref 0 0,.mh 1,.mh 2,.mh 3,.mh 4,.mh 5])]:=by
 unfold folT2 folT1
 conv in fM _=>whnf
 repeat' (first|(refine aC ?_;intro K hK hX)|refine wY ?_|(refine aG hK hX ?_;clear hK hX K)|fail)
 exact eR
theorem dC7 (k5:k=5) (h:step=(sg:Int)) (h':step<4) (cs':D1):qW' 146 folT2 (fL Tryz.prog tab Tryz.f62.results.toList 6 [.ref 0 0,.mh 1,.mh 2,.mh 3,.mh 4,.mh 5] [(0,.blk tTl [.c (bv so),.c (iv tday),.c (iv er),.c (iv sg),.mh 1,.mh 2,.mh 3,.mh 4,.mh 5]),(1,.tab (aI ktI.kc bg)),(2,.tab (aI ktI.kc co)),(3,.tab (aI ktP.kc st)),(4,.tab (aI ktV.kc vs)),(5,.tab (aI ktS.kc ss))] (bv true)) 8 [(0,.ref 0 0),(1,.c (.agg cs)),(3,.ref 6 0),(4,.c (bv false))] [(7,.row 49 cs'),(6,.row 49 cs),(5,.tab (aI ktS.kc ss)),(4,.tab (aI ktV.kc vs)),(3,.tab (aI ktP.kc st)),(2,.tab (aI ktI.kc co)),(1,.tab (aI ktI.kc bg)),(0,.blk tTl [.c (bv so),.c (iv tday),.c (iv er),.c (iv sg),.mh 1,.mh 2,.mh 3,.mh 4,.mh 5])] [(none,[.ref 0 0,.mh 1,.mh 2,.mh 3,.mh 4,.mh 5])]:=by
 unfold folT2 folT1
 conv in fM _=>whnf
 repeat' (first|(refine aC ?_;intro K hK hX)|refine wY ?_|(refine aG hK hX ?_;clear hK hX K)|fail)
 exact eR
theorem dX9 (k6:6<=k) (cs':D1):qW' 146 folT2 (fL Tryz.prog tab Tryz.f62.results.toList 6 [.ref 0 0,.mh 1,.mh 2,.mh 3,.mh 4,.mh 5] [(0,.blk tTl [.c (bv so),.c (iv tday),.c (iv er),.c (iv sg),.mh 1,.mh 2,.mh 3,.mh 4,.mh 5]),(1,.tab (aI ktI.kc bg)),(2,.tab (aI ktI.kc co)),(3,.tab (aI ktP.kc st)),(4,.tab (aI ktV.kc vs)),(5,.tab (aI ktS.kc ss))] (bv true)) 8 [(0,.ref 0 0),(1,.c (.agg cs)),(3,.ref 6 0),(4,.c (bv false))] [(7,.row 49 cs'),(6,.row 49 cs),(5,.tab (aI ktS.kc ss)),(4,.tab (aI ktV.kc vs)),(3,.tab (aI ktP.kc st)),(2,.tab (aI ktI.kc co)),(1,.tab (aI ktI.kc bg)),(0,.blk tTl [.c (bv so),.c (iv tday),.c (iv er),.c (iv sg),.mh 1,.mh 2,.mh 3,.mh 4,.mh 5])] [(none,[.ref 0 0,.mh 1,.mh 2,.mh 3,.mh 4,.mh 5])]:=by
 unfold folT2 folT1
 conv in fM _=>whnf
 repeat' (first|(refine aC ?_;intro K hK hX)|refine wY ?_|(refine aG hK hX ?_;clear hK hX K)|fail)
 exact eR
theorem dX7 (hl:cs.length=65) (bs:D1) (q:Nat) (hbs:bs.length=q) (hap:qC' 76 [.sl 1 0 [],.agg cs] (.own 0 0 q 1 true) [(0,.row 5 bs)] 1) (cs':D1) (hl':cs'.length=65) (b':CV) (e':Int) (he:e'≠0) (hrd:qC' 77 [.sl 1 q bs] (.tup [.c (.agg cs'),.c b',.c (iv e')]) [] 0):qW' 146 folT1 (fL Tryz.prog tab Tryz.f62.results.toList 6 [.ref 0 0,.mh 1,.mh 2,.mh 3,.mh 4,.mh 5] [(0,.blk tTl [.c (bv so),.c (iv tday),.c (iv er),.c (iv sg),.mh 1,.mh 2,.mh 3,.mh 4,.mh 5]),(1,.tab (aI ktI.kc bg)),(2,.tab (aI ktI.kc co)),(3,.tab (aI ktP.kc st)),(4,.tab (aI ktV.kc vs)),(5,.tab (aI ktS.kc ss))] (bv false)) 7 [(0,.ref 0 0),(1,.c (.agg cs)),(3,.ref 6 0),(4,.c (bv false))] [(6,.row 49 cs),(5,.tab (aI ktS.kc ss)),(4,.tab (aI ktV.kc vs)),(3,.tab (aI ktP.kc st)),(2,.tab (aI ktI.kc co)),(1,.tab (aI ktI.kc bg)),(0,.blk tTl [.c (bv so),.c (iv tday),.c (iv er),.c (iv sg),.mh 1,.mh 2,.mh 3,.mh 4,.mh 5])] [(none,[.ref 0 0,.mh 1,.mh 2,.mh 3,.mh 4,.mh 5])]:=by
 unfold folT1
 conv in fM _=>whnf
 repeat' (first|(refine aC ?_;intro K hK hX)|refine bE [0,1,3,4,7,8,50] ?_|((first|with_reducible refine aF ?_|with_reducible refine gG ?_);(first|refine wA ?_|refine wD ?_);refine oZ (dP (fG zby rfl (hap) zcv rfl) zln) ?_)|((with_reducible refine aW ?_);refine yA ?_;refine bC (aR (T:=49) aB rfl rfl rfl) rfl ?_)|(refine bZ ?_;refine c0 hrd ?_)|refine cH ?_|refine stA ?_|refine stD ?_|(refine aG hK hX ?_;clear hK hX K)|fail)
 exact eR
theorem dX8 (hl:cs.length=65) (r:Bool) (bs:D1) (q:Nat) (hbs:bs.length=q) (hap:qC' 76 [.sl 1 0 [],.agg cs] (.own 0 0 q 1 true) [(0,.row 5 bs)] 1) (cs':D1) (hl':cs'.length=65) (b':CV) (hrd:qC' 77 [.sl 1 q bs] (.tup [.c (.agg cs'),.c b',.c (iv 0)]) [] 0) (hn:qW' 146 folT2 (fL Tryz.prog tab Tryz.f62.results.toList 6 [.ref 0 0,.mh 1,.mh 2,.mh 3,.mh 4,.mh 5] [(0,.blk tTl [.c (bv so),.c (iv tday),.c (iv er),.c (iv sg),.mh 1,.mh 2,.mh 3,.mh 4,.mh 5]),(1,.tab (aI ktI.kc bg)),(2,.tab (aI ktI.kc co)),(3,.tab (aI ktP.kc st)),(4,.tab (aI ktV.kc vs)),(5,.tab (aI ktS.kc ss))] (bv r)) 8 [(0,.ref 0 0),(1,.c (.agg cs)),(3,.ref 6 0),(4,.c (bv false))] [(7,.row 49 cs'),(6,.row 49 cs),(5,.tab (aI ktS.kc ss)),(4,.tab (aI ktV.kc vs)),(3,.tab (aI ktP.kc st)),(2,.tab (aI ktI.kc co)),(1,.tab (aI ktI.kc bg)),(0,.blk tTl [.c (bv so),.c (iv tday),.c (iv er),.c (iv sg),.mh 1,.mh 2,.mh 3,.mh 4,.mh 5])] [(none,[.ref 0 0,.mh 1,.mh 2,.mh 3,.mh 4,.mh 5])]):qW' 146 folT1 (fL Tryz.prog tab Tryz.f62.results.toList 6 [.ref 0 0,.mh 1,.mh 2,.mh 3,.mh 4,.mh 5] [(0,.blk tTl [.c (bv so),.c (iv tday),.c (iv er),.c (iv sg),.mh 1,.mh 2,.mh 3,.mh 4,.mh 5]),(1,.tab (aI ktI.kc bg)),(2,.tab (aI ktI.kc co)),(3,.tab (aI ktP.kc st)),(4,.tab (aI ktV.kc vs)),(5,.tab (aI ktS.kc ss))] (bv r)) 7 [(0,.ref 0 0),(1,.c (.agg cs)),(3,.ref 6 0),(4,.c (bv false))] [(6,.row 49 cs),(5,.tab (aI ktS.kc ss)),(4,.tab (aI ktV.kc vs)),(3,.tab (aI ktP.kc st)),(2,.tab (aI ktI.kc co)),(1,.tab (aI ktI.kc bg)),(0,.blk tTl [.c (bv so),.c (iv tday),.c (iv er),.c (iv sg),.mh 1,.mh 2,.mh 3,.mh 4,.mh 5])] [(none,[.ref 0 0,.mh 1,.mh 2,.mh 3,.mh 4,.mh 5])]:=by
 unfold folT1
 conv in fM _=>whnf
 repeat' (first|(with_reducible refine vQ 8 ?_)|(with_reducible refine vR 8 ?_)|(with_reducible refine cut3 8 ?_)|(refine aC ?_;intro K hK hX)|refine bE [0,1,3,4,7,8,50] ?_|((first|with_reducible refine aF ?_|with_reducible refine gG ?_);(first|refine wA ?_|refine wD ?_);refine oZ (dP (fG zby rfl (hap) zcv rfl) zln) ?_)|((with_reducible refine aW ?_);refine yA ?_;refine bC (aR (T:=49) aB rfl rfl rfl) rfl ?_)|(refine bZ ?_;refine c0 hrd ?_)|refine cH ?_|refine stA ?_|refine stD ?_|(refine aG hK hX ?_;clear hK hX K)|fail)
 refine kK ?_
 refine aP [0,1,3,4] rfl rfl ?_
 exact hn
theorem dY5 (hl:cs.length=65) (h:k<1):ACG Tryz.prog 62 6 [(0,.blk tTl [.c (bv so),.c (iv tday),.c (iv er),.c (iv sg),.mh 1,.mh 2,.mh 3,.mh 4,.mh 5]),(1,.tab (aI ktI.kc bg)),(2,.tab (aI ktI.kc co)),(3,.tab (aI ktP.kc st)),(4,.tab (aI ktV.kc vs)),(5,.tab (aI ktS.kc ss))] [.agg cs] [(0,.blk tTl [.c (bv so),.c (iv tday),.c (iv er),.c (iv sg),.mh 1,.mh 2,.mh 3,.mh 4,.mh 5]),(1,.tab (aI ktI.kc bg)),(2,.tab (aI ktI.kc co)),(3,.tab (aI ktP.kc st)),(4,.tab (aI ktV.kc vs)),(5,.tab (aI ktS.kc ss))] (bv false):=by
 refine cW aB [.ref 0 0,.mh 1,.mh 2,.mh 3,.mh 4,.mh 5] (sz:=146) Tryz.func62 rfl qJ rfl rfl rfl rfl (iU ⟨so,tday,er,sg,bg,co,st,vs,ss⟩) (iV ⟨so,tday,er,sg,bg,co,st,vs,ss⟩) ?_
 repeat' (first|(refine aC ?_;intro K hK hX)|refine aT4 ?_|(refine aG hK hX ?_;clear hK hX K)|fail)
 exact eR
theorem dY6 (hl:cs.length=65) (h:¬k<1) (h':7<k):ACG Tryz.prog 62 6 [(0,.blk tTl [.c (bv so),.c (iv tday),.c (iv er),.c (iv sg),.mh 1,.mh 2,.mh 3,.mh 4,.mh 5]),(1,.tab (aI ktI.kc bg)),(2,.tab (aI ktI.kc co)),(3,.tab (aI ktP.kc st)),(4,.tab (aI ktV.kc vs)),(5,.tab (aI ktS.kc ss))] [.agg cs] [(0,.blk tTl [.c (bv so),.c (iv tday),.c (iv er),.c (iv sg),.mh 1,.mh 2,.mh 3,.mh 4,.mh 5]),(1,.tab (aI ktI.kc bg)),(2,.tab (aI ktI.kc co)),(3,.tab (aI ktP.kc st)),(4,.tab (aI ktV.kc vs)),(5,.tab (aI ktS.kc ss))] (bv false):=by
 refine cW aB [.ref 0 0,.mh 1,.mh 2,.mh 3,.mh 4,.mh 5] (sz:=146) Tryz.func62 rfl qJ rfl rfl rfl rfl (iU ⟨so,tday,er,sg,bg,co,st,vs,ss⟩) (iV ⟨so,tday,er,sg,bg,co,st,vs,ss⟩) ?_
 repeat' (first|(refine aC ?_;intro K hK hX)|refine aT4 ?_|(refine aG hK hX ?_;clear hK hX K)|fail)
 exact eR
theorem dY2 (hl:cs.length=65) (k1:1<=k) (k2:k<=7) (h:day<0):ACG Tryz.prog 62 6 [(0,.blk tTl [.c (bv so),.c (iv tday),.c (iv er),.c (iv sg),.mh 1,.mh 2,.mh 3,.mh 4,.mh 5]),(1,.tab (aI ktI.kc bg)),(2,.tab (aI ktI.kc co)),(3,.tab (aI ktP.kc st)),(4,.tab (aI ktV.kc vs)),(5,.tab (aI ktS.kc ss))] [.agg cs] [(0,.blk tTl [.c (bv so),.c (iv tday),.c (iv er),.c (iv sg),.mh 1,.mh 2,.mh 3,.mh 4,.mh 5]),(1,.tab (aI ktI.kc bg)),(2,.tab (aI ktI.kc co)),(3,.tab (aI ktP.kc st)),(4,.tab (aI ktV.kc vs)),(5,.tab (aI ktS.kc ss))] (bv false):=by
 refine cW aB [.ref 0 0,.mh 1,.mh 2,.mh 3,.mh 4,.mh 5] (sz:=146) Tryz.func62 rfl qJ rfl rfl rfl rfl (iU ⟨so,tday,er,sg,bg,co,st,vs,ss⟩) (iV ⟨so,tday,er,sg,bg,co,st,vs,ss⟩) ?_
 repeat' (first|(refine aC ?_;intro K hK hX)|refine aT4 ?_|(refine aG hK hX ?_;clear hK hX K)|fail)
 exact eR
theorem dY3 (hl:cs.length=65) (k1:1<=k) (k2:k<=7) (h:¬day<0) (h':1048576<day):ACG Tryz.prog 62 6 [(0,.blk tTl [.c (bv so),.c (iv tday),.c (iv er),.c (iv sg),.mh 1,.mh 2,.mh 3,.mh 4,.mh 5]),(1,.tab (aI ktI.kc bg)),(2,.tab (aI ktI.kc co)),(3,.tab (aI ktP.kc st)),(4,.tab (aI ktV.kc vs)),(5,.tab (aI ktS.kc ss))] [.agg cs] [(0,.blk tTl [.c (bv so),.c (iv tday),.c (iv er),.c (iv sg),.mh 1,.mh 2,.mh 3,.mh 4,.mh 5]),(1,.tab (aI ktI.kc bg)),(2,.tab (aI ktI.kc co)),(3,.tab (aI ktP.kc st)),(4,.tab (aI ktV.kc vs)),(5,.tab (aI ktS.kc ss))] (bv false):=by
 refine cW aB [.ref 0 0,.mh 1,.mh 2,.mh 3,.mh 4,.mh 5] (sz:=146) Tryz.func62 rfl qJ rfl rfl rfl rfl (iU ⟨so,tday,er,sg,bg,co,st,vs,ss⟩) (iV ⟨so,tday,er,sg,bg,co,st,vs,ss⟩) ?_
 repeat' (first|(refine aC ?_;intro K hK hX)|refine aT4 ?_|(refine aG hK hX ?_;clear hK hX K)|fail)
 exact eR
end
section
variable (tday:Int) (er sg:Nat) (bg co:List Int) (st:List (Int × Int)) (vs:List Ver) (ss:List Src) (cs:D1) (k day plan step rk:Int) (hc0:cs[0]? = some (iv k)) (hc1:cs[1]? = some (iv day)) (hc2:cs[2]? = some (iv plan)) (hc3:cs[3]? = some (iv step)) (hc4:cs[4]? = some (iv rk)) (hl:cs.length=65) (k1:1<=k) (k2:k<=7) (h:¬day<0) (h':¬1048576<day)
include tday er sg bg co st vs ss cs k day plan step rk hc0 hc1 hc2 hc3 hc4 hl k1 k2 h h'
theorem dY4 (h3:day<tday):ACG Tryz.prog 62 6 [(0,.blk tTl [.c (bv true),.c (iv tday),.c (iv er),.c (iv sg),.mh 1,.mh 2,.mh 3,.mh 4,.mh 5]),(1,.tab (aI ktI.kc bg)),(2,.tab (aI ktI.kc co)),(3,.tab (aI ktP.kc st)),(4,.tab (aI ktV.kc vs)),(5,.tab (aI ktS.kc ss))] [.agg cs] [(0,.blk tTl [.c (bv true),.c (iv tday),.c (iv er),.c (iv sg),.mh 1,.mh 2,.mh 3,.mh 4,.mh 5]),(1,.tab (aI ktI.kc bg)),(2,.tab (aI ktI.kc co)),(3,.tab (aI ktP.kc st)),(4,.tab (aI ktV.kc vs)),(5,.tab (aI ktS.kc ss))] (bv false):=by
 refine cW aB [.ref 0 0,.mh 1,.mh 2,.mh 3,.mh 4,.mh 5] (sz:=146) Tryz.func62 rfl qJ rfl rfl rfl rfl (iU ⟨true,tday,er,sg,bg,co,st,vs,ss⟩) (iV ⟨true,tday,er,sg,bg,co,st,vs,ss⟩) ?_
 repeat' (first|(refine aC ?_;intro K hK hX)|refine aT4 ?_|(refine aG hK hX ?_;clear hK hX K)|fail)
 exact eR
theorem dY7 (r:Bool) (hn:qW' 146 folT1 (fL Tryz.prog tab Tryz.f62.results.toList 6 [.ref 0 0,.mh 1,.mh 2,.mh 3,.mh 4,.mh 5] [(0,.blk tTl [.c (bv false),.c (iv tday),.c (iv er),.c (iv sg),.mh 1,.mh 2,.mh 3,.mh 4,.mh 5]),(1,.tab (aI ktI.kc bg)),(2,.tab (aI ktI.kc co)),(3,.tab (aI ktP.kc st)),(4,.tab (aI ktV.kc vs)),(5,.tab (aI ktS.kc ss))] (bv r)) 7 [(0,.ref 0 0),(1,.c (.agg cs)),(3,.ref 6 0),(4,.c (bv false))] [(6,.row 49 cs),(5,.tab (aI ktS.kc ss)),(4,.tab (aI ktV.kc vs)),(3,.tab (aI ktP.kc st)),(2,.tab (aI ktI.kc co)),(1,.tab (aI ktI.kc bg)),(0,.blk tTl [.c (bv false),.c (iv tday),.c (iv er),.c (iv sg),.mh 1,.mh 2,.mh 3,.mh 4,.mh 5])] [(none,[.ref 0 0,.mh 1,.mh 2,.mh 3,.mh 4,.mh 5])]):ACG Tryz.prog 62 6 [(0,.blk tTl [.c (bv false),.c (iv tday),.c (iv er),.c (iv sg),.mh 1,.mh 2,.mh 3,.mh 4,.mh 5]),(1,.tab (aI ktI.kc bg)),(2,.tab (aI ktI.kc co)),(3,.tab (aI ktP.kc st)),(4,.tab (aI ktV.kc vs)),(5,.tab (aI ktS.kc ss))] [.agg cs] [(0,.blk tTl [.c (bv false),.c (iv tday),.c (iv er),.c (iv sg),.mh 1,.mh 2,.mh 3,.mh 4,.mh 5]),(1,.tab (aI ktI.kc bg)),(2,.tab (aI ktI.kc co)),(3,.tab (aI ktP.kc st)),(4,.tab (aI ktV.kc vs)),(5,.tab (aI ktS.kc ss))] (bv r):=by
 refine cW aB [.ref 0 0,.mh 1,.mh 2,.mh 3,.mh 4,.mh 5] (sz:=146) Tryz.func62 rfl qJ rfl rfl rfl rfl (iU ⟨false,tday,er,sg,bg,co,st,vs,ss⟩) (iV ⟨false,tday,er,sg,bg,co,st,vs,ss⟩) ?_
 repeat' (first|(with_reducible refine vQ 5 ?_)|(with_reducible refine vR 5 ?_)|(with_reducible refine cut3 5 ?_)|(refine aC ?_;intro K hK hX)|refine bE [0,1,3,4,7,8,50] ?_|((with_reducible refine bM ?_);refine yA ?_;refine bC (bN rfl) rfl ?_)|refine cH ?_|refine stA ?_|refine stD ?_|(refine aG hK hX ?_;clear hK hX K)|fail)
 refine kK ?_
 refine aP [0,1,3,4] rfl rfl ?_
 exact hn
theorem dY8 (h3:¬day<tday) (r:Bool) (hn:qW' 146 folT1 (fL Tryz.prog tab Tryz.f62.results.toList 6 [.ref 0 0,.mh 1,.mh 2,.mh 3,.mh 4,.mh 5] [(0,.blk tTl [.c (bv true),.c (iv tday),.c (iv er),.c (iv sg),.mh 1,.mh 2,.mh 3,.mh 4,.mh 5]),(1,.tab (aI ktI.kc bg)),(2,.tab (aI ktI.kc co)),(3,.tab (aI ktP.kc st)),(4,.tab (aI ktV.kc vs)),(5,.tab (aI ktS.kc ss))] (bv r)) 7 [(0,.ref 0 0),(1,.c (.agg cs)),(3,.ref 6 0),(4,.c (bv false))] [(6,.row 49 cs),(5,.tab (aI ktS.kc ss)),(4,.tab (aI ktV.kc vs)),(3,.tab (aI ktP.kc st)),(2,.tab (aI ktI.kc co)),(1,.tab (aI ktI.kc bg)),(0,.blk tTl [.c (bv true),.c (iv tday),.c (iv er),.c (iv sg),.mh 1,.mh 2,.mh 3,.mh 4,.mh 5])] [(none,[.ref 0 0,.mh 1,.mh 2,.mh 3,.mh 4,.mh 5])]):ACG Tryz.prog 62 6 [(0,.blk tTl [.c (bv true),.c (iv tday),.c (iv er),.c (iv sg),.mh 1,.mh 2,.mh 3,.mh 4,.mh 5]),(1,.tab (aI ktI.kc bg)),(2,.tab (aI ktI.kc co)),(3,.tab (aI ktP.kc st)),(4,.tab (aI ktV.kc vs)),(5,.tab (aI ktS.kc ss))] [.agg cs] [(0,.blk tTl [.c (bv true),.c (iv tday),.c (iv er),.c (iv sg),.mh 1,.mh 2,.mh 3,.mh 4,.mh 5]),(1,.tab (aI ktI.kc bg)),(2,.tab (aI ktI.kc co)),(3,.tab (aI ktP.kc st)),(4,.tab (aI ktV.kc vs)),(5,.tab (aI ktS.kc ss))] (bv r):=by
 refine cW aB [.ref 0 0,.mh 1,.mh 2,.mh 3,.mh 4,.mh 5] (sz:=146) Tryz.func62 rfl qJ rfl rfl rfl rfl (iU ⟨true,tday,er,sg,bg,co,st,vs,ss⟩) (iV ⟨true,tday,er,sg,bg,co,st,vs,ss⟩) ?_
 repeat' (first|(with_reducible refine vQ 5 ?_)|(with_reducible refine vR 5 ?_)|(with_reducible refine cut3 5 ?_)|(refine aC ?_;intro K hK hX)|refine bE [0,1,3,4,7,8,50] ?_|((with_reducible refine bM ?_);refine yA ?_;refine bC (bN rfl) rfl ?_)|refine cH ?_|refine stA ?_|refine stD ?_|(refine aG hK hX ?_;clear hK hX K)|fail)
 refine kK ?_
 refine aP [0,1,3,4] rfl rfl ?_
 exact hn
end
theorem cL3 (t:Tl) (ht:t.wf) (hb3:t.vs.length<=1000000) (hb4:t.ss.length<=1000000) (e:LEn) (hw:e.wf) (hk:aT e.k) (hz:e.sz) (nv ns:Nat) (hnv:e.vs.length=nv) (hns:e.ss.length=ns) (r:Bool) (hr:r=true↔FolT t e):ACG Tryz.prog 62 6 (tlH t) [.agg (ecs e nv ns)] (tlH t) (bv r):=by
 have hlen:=oY hw hk hz
 obtain ⟨n,hn⟩:∃n,(cM e).length=n:=⟨_,rfl⟩
 rw [hn] at hlen
 have hap:=bK3 [] 0 rfl aA e hw hk nv ns hnv hns n n hn aA (Aq n)
 rw [Ay] at hap
 obtain ⟨x,s',nv',ns',q1,hv',hs',hrt,b',e',m',rfl,q3,q4,q5,q6⟩:=aD4 (cM e) n hn aA
 have hel:=cK hw.root nv ns
 have hel':=cK hrt nv' ns'
 have hel0:(ecs en0 0 0).length=65:=rfl
 have he0:e'=0↔(pEn (cM e)).isSome=true:=by
  rcases rd_enP.of (cM e) with ⟨y,rr,h1,h2⟩|⟨h1,h2⟩
  ·rw [q1] at h2
   injection h2 with _ h2
   injection h2 with _ h2
   rw [h2,h1]
   simp
  ·rw [q1] at h2
   rw [h1]
   exact ⟨fun h=>absurd h h2,fun h=>by cases h⟩
 have hz1:=hz.vs
 have hz2:=hz.ss
 have hfe:∀r2:Bool,(r2=true↔cK7 t e)->_:=fun r2 h2=>dD7 t ht e hw nv ns hnv hns aA aA _ _ rfl rfl hb3 hb4 r2 h2
 have hbi:aT e.plan/\aT e.step:=⟨hw.h1.2.1,hw.h1.2.2⟩
 have hP:∀q∈t.st,ktP.ok q:=fun q hq=>cN4 (ht.st q hq).1 (ht.st q hq).2
 have hc0:(ecs e nv ns)[0]? = some (iv e.k):=rfl
 have hc1:(ecs e nv ns)[1]? = some (iv e.day):=rfl
 have hc2:(ecs e nv ns)[2]? = some (iv e.plan):=rfl
 have hc3:(ecs e nv ns)[3]? = some (iv e.step):=rfl
 have hc4:(ecs e nv ns)[4]? = some (iv e.rq.k):=rfl
 generalize ecs e nv ns=cs at *
 generalize ecs x nv' ns'=cs' at *
 generalize ecs en0 0 0=cs0 at *
 have key:∀b:Bool,(b=true↔r=true)->ACG Tryz.prog 62 6 (tlH t) [.agg cs] (tlH t) (bv b)->ACG Tryz.prog 62 6 (tlH t) [.agg cs] (tlH t) (bv r):=fun b hb h=>by
  have:b=r:=by cases b<;>cases r<;>simp_all
  rwa [this] at h
 have no:¬FolT t e->(false=true↔r=true):=fun hn=>⟨fun h=>absurd h aN,fun h=>absurd (hr.1 h) hn⟩
 have yes:FolT t e->(true=true↔r=true):=fun hn=>⟨fun h=>hr.2 hn,fun h=>rfl⟩
 obtain ⟨so,tday,er,sg,bg,co,st,vs,ss⟩:=t
 by_cases k1:e.k<1
 ·exact key false (no fun h=>by have:=aX7 hk h.rd;omega) (dY5 so tday er sg bg co st vs ss _ _ _ _ _ _ hc0 hc1 hc2 hc3 hc4 hel k1)
 by_cases k2:7<e.k
 ·exact key false (no fun h=>by have:=aX7 hk h.rd;omega) (dY6 so tday er sg bg co st vs ss _ _ _ _ _ _ hc0 hc1 hc2 hc3 hc4 hel k1 k2)
 by_cases d1:e.day<0
 ·exact key false (no fun h=>by have:=h.day.1;omega) (dY2 so tday er sg bg co st vs ss _ _ _ _ _ _ hc0 hc1 hc2 hc3 hc4 hel aA aA d1)
 by_cases d2:1048576<e.day
 ·exact key false (no fun h=>by have:=h.day.2.1;omega) (dY3 so tday er sg bg co st vs ss _ _ _ _ _ _ hc0 hc1 hc2 hc3 hc4 hel aA aA d1 d2)
 by_cases d3:so=true/\e.day<tday
 ·exact key false (no fun h=>by have:tday<=e.day:=h.day.2.2 d3.1;omega) (by obtain ⟨d3a,d3b⟩:=d3;subst d3a;exact dY4 tday er sg bg co st vs ss _ _ _ _ _ _ hc0 hc1 hc2 hc3 hc4 hel aA aA d1 d2 d3b)
 have pass:∀b:Bool,qW' 146 folT1 (fL Tryz.prog tab Tryz.f62.results.toList 6 [.ref 0 0,.mh 1,.mh 2,.mh 3,.mh 4,.mh 5] [(0,.blk tTl [.c (bv so),.c (iv tday),.c (iv er),.c (iv sg),.mh 1,.mh 2,.mh 3,.mh 4,.mh 5]),(1,.tab (aI ktI.kc bg)),(2,.tab (aI ktI.kc co)),(3,.tab (aI ktP.kc st)),(4,.tab (aI ktV.kc vs)),(5,.tab (aI ktS.kc ss))] (bv b)) 7 [(0,.ref 0 0),(1,.c (.agg cs)),(3,.ref 6 0),(4,.c (bv false))] [(6,.row 49 cs),(5,.tab (aI ktS.kc ss)),(4,.tab (aI ktV.kc vs)),(3,.tab (aI ktP.kc st)),(2,.tab (aI ktI.kc co)),(1,.tab (aI ktI.kc bg)),(0,.blk tTl [.c (bv so),.c (iv tday),.c (iv er),.c (iv sg),.mh 1,.mh 2,.mh 3,.mh 4,.mh 5])] [(none,[.ref 0 0,.mh 1,.mh 2,.mh 3,.mh 4,.mh 5])]->ACG Tryz.prog 62 6 (tlH ⟨so,tday,er,sg,bg,co,st,vs,ss⟩) [.agg cs] (tlH ⟨so,tday,er,sg,bg,co,st,vs,ss⟩) (bv b):=fun b hb=>by
  cases so
  ·exact dY7 tday er sg bg co st vs ss _ _ _ _ _ _ hc0 hc1 hc2 hc3 hc4 hel aA aA d1 d2 b hb
  ·exact dY8 tday er sg bg co st vs ss _ _ _ _ _ _ hc0 hc1 hc2 hc3 hc4 hel aA aA d1 d2 (fun h=>d3 ⟨rfl,h⟩) b hb
 have hbl:(u8c (cM e)).length=n:=by rw [aH,hn]
 by_cases he:e'=0
 ·have q5:=q5 he
  have mid:∀b:Bool,qW' 146 folT2 (fL Tryz.prog tab Tryz.f62.results.toList 6 [.ref 0 0,.mh 1,.mh 2,.mh 3,.mh 4,.mh 5] [(0,.blk tTl [.c (bv so),.c (iv tday),.c (iv er),.c (iv sg),.mh 1,.mh 2,.mh 3,.mh 4,.mh 5]),(1,.tab (aI ktI.kc bg)),(2,.tab (aI ktI.kc co)),(3,.tab (aI ktP.kc st)),(4,.tab (aI ktV.kc vs)),(5,.tab (aI ktS.kc ss))] (bv b)) 8 [(0,.ref 0 0),(1,.c (.agg cs)),(3,.ref 6 0),(4,.c (bv false))] [(7,.row 49 cs'),(6,.row 49 cs),(5,.tab (aI ktS.kc ss)),(4,.tab (aI ktV.kc vs)),(3,.tab (aI ktP.kc st)),(2,.tab (aI ktI.kc co)),(1,.tab (aI ktI.kc bg)),(0,.blk tTl [.c (bv so),.c (iv tday),.c (iv er),.c (iv sg),.mh 1,.mh 2,.mh 3,.mh 4,.mh 5])] [(none,[.ref 0 0,.mh 1,.mh 2,.mh 3,.mh 4,.mh 5])]->_:=fun b hb=>pass b (dX8 so tday er sg bg co st vs ss _ _ _ _ _ _ hc0 hc1 hc2 hc3 hc4 hel b _ _ hbl hap _ hel' _ q5 hb)
  have hrd:=he0.1 he
  have hday:0<=e.day/\e.day<=1048576/\(so=true->tday<=e.day):=⟨by omega,by omega,fun h=>by
   by_cases hlt:e.day<tday
   ·exact absurd ⟨h,hlt⟩ d3
   ·omega⟩
  have mk:(e.k=1->1<=e.rq.k/\e.rq.k<=3)->(e.k=2->cK7 ⟨so,tday,er,sg,bg,co,st,vs,ss⟩ e)->(e.k=3->(e.plan∈bg/\e.plan∉co)/\(0<=e.step/\e.step<128)/\(e.plan,e.step)∉st)->(e.k=4->e.plan∈bg/\e.plan∉co)->(e.k=5->e.step=sg/\e.step<4)->FolT ⟨so,tday,er,sg,bg,co,st,vs,ss⟩ e:=fun a1 a2 a3 a4 a5=>⟨hrd,hday,a1,a2,a3,a4,a5⟩
  by_cases c1:e.k=1
  ·by_cases r1:e.rq.k=1
   ·exact key true (yes (mk (fun _=>by omega) (fun h=>by omega) (fun h=>by omega) (fun h=>by omega) (fun h=>by omega))) (mid true (dB2 so tday er sg bg co st vs ss _ _ _ _ _ _ hc0 hc1 hc2 hc3 hc4 c1 r1 _))
   by_cases r2:e.rq.k=2
   ·exact key true (yes (mk (fun _=>by omega) (fun h=>by omega) (fun h=>by omega) (fun h=>by omega) (fun h=>by omega))) (mid true (dB3 so tday er sg bg co st vs ss _ _ _ _ _ _ hc0 hc1 hc2 hc3 hc4 c1 r1 r2 _))
   by_cases r3:e.rq.k=3
   ·exact key true (yes (mk (fun _=>by omega) (fun h=>by omega) (fun h=>by omega) (fun h=>by omega) (fun h=>by omega))) (mid true (dB4 so tday er sg bg co st vs ss _ _ _ _ _ _ hc0 hc1 hc2 hc3 hc4 c1 r1 r2 r3 _))
   exact key false (no fun h=>by have:=h.rq c1;omega) (mid false (dB5 so tday er sg bg co st vs ss _ _ _ _ _ _ hc0 hc1 hc2 hc3 hc4 c1 r1 r2 r3 _))
  by_cases c2:e.k=2
  ·by_cases hE:cK7 ⟨so,tday,er,sg,bg,co,st,vs,ss⟩ e
   ·exact key true (yes (mk (fun h=>by omega) (fun _=>hE) (fun h=>by omega) (fun h=>by omega) (fun h=>by omega))) (mid true (cL2 so tday er sg bg co st vs ss _ _ _ _ _ _ hc0 hc1 hc2 hc3 hc4 true hel c2 (hfe true ⟨fun _=>hE,fun _=>rfl⟩) _))
   ·exact key false (no fun h=>hE (h.er c2)) (mid false (cL2 so tday er sg bg co st vs ss _ _ _ _ _ _ hc0 hc1 hc2 hc3 hc4 false hel c2 (hfe false ⟨fun h=>absurd h aN,fun h=>absurd h hE⟩) _))
  by_cases c3:e.k=3
  ·by_cases hb:e.plan∈bg
   ·by_cases hc:e.plan∈co
    ·exact key false (no fun h=>(h.st c3).1.2 hc) (mid false (dB7 so tday er sg bg co st vs ss _ _ _ _ _ _ hc0 hc1 hc2 hc3 hc4 hbi hP c3 hb hc _))
    by_cases s1:e.step<0
    ·exact key false (no fun h=>by have:=(h.st c3).2.1.1;omega) (mid false (dB8 so tday er sg bg co st vs ss _ _ _ _ _ _ hc0 hc1 hc2 hc3 hc4 hbi hP c3 hb hc s1 _))
    by_cases s2:128<=e.step
    ·exact key false (no fun h=>by have:=(h.st c3).2.1.2;omega) (mid false (dB9 so tday er sg bg co st vs ss _ _ _ _ _ _ hc0 hc1 hc2 hc3 hc4 hbi hP c3 hb hc aA s2 _))
    by_cases s3:(e.plan,e.step)∈st
    ·exact key false (no fun h=>(h.st c3).2.2 s3) (mid false (dC0 so tday er sg bg co st vs ss _ _ _ _ _ _ hc0 hc1 hc2 hc3 hc4 hbi hP c3 hb hc aA aA s3 _))
    exact key true (yes (mk (fun h=>by omega) (fun h=>by omega) (fun _=>⟨⟨hb,hc⟩,by omega,s3⟩) (fun h=>by omega) (fun h=>by omega))) (mid true (dC1 so tday er sg bg co st vs ss _ _ _ _ _ _ hc0 hc1 hc2 hc3 hc4 hbi hP c3 hb hc aA aA s3 _))
   exact key false (no fun h=>hb (h.st c3).1.1) (mid false (dB6 so tday er sg bg co st vs ss _ _ _ _ _ _ hc0 hc1 hc2 hc3 hc4 hbi hP c3 hb _))
  by_cases c4:e.k=4
  ·by_cases hb:e.plan∈bg
   ·by_cases hc:e.plan∈co
    ·exact key false (no fun h=>(h.co c4).2 hc) (mid false (dC3 so tday er sg bg co st vs ss _ _ _ _ _ _ hc0 hc1 hc2 hc3 hc4 c4 hb hc _))
    exact key true (yes (mk (fun h=>by omega) (fun h=>by omega) (fun h=>by omega) (fun _=>⟨hb,hc⟩) (fun h=>by omega))) (mid true (dC4 so tday er sg bg co st vs ss _ _ _ _ _ _ hc0 hc1 hc2 hc3 hc4 c4 hb hc _))
   exact key false (no fun h=>hb (h.co c4).1) (mid false (dC2 so tday er sg bg co st vs ss _ _ _ _ _ _ hc0 hc1 hc2 hc3 hc4 c4 hb _))
  by_cases c5:e.k=5
  ·by_cases s1:e.step=(sg:Int)
   ·by_cases s2:4<=e.step
    ·exact key false (no fun h=>by have:=(h.sg c5).2;omega) (mid false (dC6 so tday er sg bg co st vs ss _ _ _ _ _ _ hc0 hc1 hc2 hc3 hc4 c5 s1 s2 _))
    exact key true (yes (mk (fun h=>by omega) (fun h=>by omega) (fun h=>by omega) (fun h=>by omega) (fun _=>⟨s1,by omega⟩))) (mid true (dC7 so tday er sg bg co st vs ss _ _ _ _ _ _ hc0 hc1 hc2 hc3 hc4 c5 s1 aA _))
   exact key false (no fun h=>s1 (h.sg c5).1) (mid false (dC5 so tday er sg bg co st vs ss _ _ _ _ _ _ hc0 hc1 hc2 hc3 hc4 c5 s1 _))
  exact key true (yes (mk (fun h=>by omega) (fun h=>by omega) (fun h=>by omega) (fun h=>by omega) (fun h=>by omega))) (mid true (dX9 so tday er sg bg co st vs ss _ _ _ _ _ _ hc0 hc1 hc2 hc3 hc4 aA _))
 ·exact key false (no fun h=>he (he0.2 h.rd)) (pass false (dX7 so tday er sg bg co st vs ss _ _ _ _ _ _ hc0 hc1 hc2 hc3 hc4 hel _ _ hbl hap _ hel0 _ _ he (q6 he)))
end Go.Proofs.YtbgehdndimlgkaaGreat
