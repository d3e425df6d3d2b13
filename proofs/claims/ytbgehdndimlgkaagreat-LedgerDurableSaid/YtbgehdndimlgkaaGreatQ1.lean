/-
  Lemmas for laws of the ledger; no statement of a law.
-/
import Derived.MapKept
import Derived.WalkKit
import Derived.ProofKit
import Derived.Handy
import Derived.WalkLawsBesides
import Derived.WalkSpells
import Derived.Laws.CopyOwn
import Derived.Lib.Hide
import Derived.Deep.AppendLies
import Derived.Maps.AppendAt
import Derived.Laws.BytesArg
import Derived.Deep.Draws
import Derived.Defers
import Derived.Recover
import Derived.Orders
import Derived.OrdersHeld
import Derived.StillTail
import Derived.OrdersIn
import Derived.TacticsIn
import Derived.LoopNIn
import Derived.RangeFuncIn
import Derived.RangeFuncNested
import Derived.RangeFuncLeaves
namespace Go
structure KeptC (q:Prop):Prop where
 out:q
theorem mH {p q:Prop} (hq:q) (h:KeptC q→p:=by
 intro hq
 (first|refine aL [0,1,2,4] ?_|(((with_reducible refine bP ?_);refine xA ?_);(first|((with_reducible refine bS ?_);(first|refine aJ (dU5 rfl rfl (by first|exact decide_eq_true t0|exact decide_eq_false t0)) ?_))))|refine stA ?_|fail)
 exact hq.out):p:=h ⟨hq⟩
theorem aG8 {p q:Prop} (hq:q) (h:KeptC q→p:=by
 intro hq
 (first|refine bU [0,1,3,4,5,6,7,8,51,52,53,81,82,83] ?_|((with_reducible refine cC ?_);refine yA ?_;refine bH (cE rfl) rfl ?_)|((first|((with_reducible refine bP ?_);refine xA ?_)|((with_reducible refine dX ?_);refine xD ?_));(first|((with_reducible refine aO6 ?_);(first|refine aJ (aT4 (kc:=ktV.kc) aB rfl rfl rfl rfl ha1) ?_|refine aJ (aT4 (kc:=ktS.kc) aB rfl rfl rfl rfl ha2) ?_))))|refine dV ?_|refine stA ?_|refine stD ?_|fail)
 exact hq.out):p:=h ⟨hq⟩
theorem bN3 {p q:Prop} (hq:q) (h:KeptC q→p:=by
 intro hq
 (first|refine aL [0,2,3,4,5] ?_|(((with_reducible refine bP ?_);refine xA ?_);(first|((with_reducible refine bS ?_);(first|refine aJ (aT2 hc8 rfl rfl) ?_|refine aJ (aK7 rfl rfl h7 h63 hsh) ?_|refine aJ (bK3 hsx hu hss rfl rfl) ?_|refine aJ (zX (m:=1) rfl rfl rfl (by decide)) ?_|refine aJ (bB5 (m:=2) (by decide) rfl rfl rfl) ?_))|((with_reducible refine pJ ?_);(first|refine aJ (fK aB rfl rfl rfl rfl (tU (by omega) (by omega))) ?_|refine aJ (fK aB rfl rfl rfl rfl hwr) ?_))|((with_reducible refine cD4 ?_);(first|refine aJ (cM1 hu63 rfl) ?_))))|refine eS ?_|refine stA ?_|fail)
 exact hq.out):p:=h ⟨hq⟩
theorem bX6 {p q:Prop} (hq:q) (h:KeptC q→p:=by
 intro hq
 (first|refine bU [0,1,2,6,7,8,9,10,11,12,13,14,15,16,17,19,20,74] ?_|((with_reducible refine jJ ?_);refine yE ?_;(first|refine bH (aU (T:=61) aB rfl rfl rfl) rfl ?_|refine bH (aU (T:=49) aB rfl rfl rfl) rfl ?_))|((with_reducible refine aX ?_);refine yA ?_;(first|refine bH (aU (T:=61) aB rfl rfl rfl) rfl ?_|refine bH (aU (T:=49) aB rfl rfl rfl) rfl ?_))|((first|with_reducible refine aD ?_|with_reducible refine fN ?_);(first|refine wA ?_|refine wN ?_|refine wD ?_);(first|refine cF h5 ?_))|(refine dB ?_;first|refine c0 jD ?_|refine c0 h4 ?_)|refine dV ?_|refine stA ?_|refine stD ?_|fail)
 exact hq.out):p:=h ⟨hq⟩
theorem bN4 {p q:Prop} (hq:q) (h:KeptC q→p:=by
 intro hq
 (first|refine aL [0,2,3,4,5,6] ?_|(((with_reducible refine bP ?_);refine xA ?_);(first|((with_reducible refine bS ?_);(first|refine aJ (aT0 hc8 rfl rfl) ?_|refine aJ (aK7 rfl rfl h7 h63 hsh) ?_|refine aJ (bK3 hsx hu hss rfl rfl) ?_|refine aJ (zX (m:=1) rfl rfl rfl (by decide)) ?_|refine aJ (cL9 hss rfl rfl) ?_))|((with_reducible refine pJ ?_);(first|refine aJ (fK aB rfl rfl rfl rfl (tU (by omega) (by omega))) ?_))|((with_reducible refine cD4 ?_);(first|refine aJ (cM0 hu64 rfl) ?_))))|refine eS ?_|refine stA ?_|fail)
 exact hq.out):p:=h ⟨hq⟩
theorem xN {p q:Prop} (hq:q) (h:KeptC q→p:=by
 intro hq
 (first|refine aL [0,1,2] ?_|((with_reducible refine cC ?_);refine yA ?_;refine bH (cE rfl) rfl ?_)|(((with_reducible refine bP ?_);refine xA ?_);(first|((with_reducible refine aO6 ?_);(first|refine aJ (bB3 aB rfl rfl rfl rfl) ?_))))|refine eS ?_|refine stA ?_|fail)
 exact hq.out):p:=h ⟨hq⟩
theorem dO5 {p q:Prop} (hq:q) (h:KeptC q→p:=by
 intro hq
 (first|refine aL [0,1,2,6,7,8,9,10,11,12,13,14,15,16,17,19,20,74] ?_|((with_reducible refine bC (i:=13) ?_);refine bA [0,1,2,6,7,8,9,10,11,12,13,14,15,16,17,19,20,74] rfl rfl ?_;refine dK [] ?_)|((with_reducible refine bC ?_);refine bA [0,1,2,6,7,8,9,10,11,12,13,14,15,16,17,19,20,74] rfl rfl ?_;refine dF [] ?_)|((with_reducible refine jJ ?_);refine yE ?_;(first|refine bH (aU (T:=61) aB rfl rfl rfl) rfl ?_|refine bH (aU (T:=49) aB rfl rfl rfl) rfl ?_))|((with_reducible refine aX ?_);refine yA ?_;(first|refine bH (aU (T:=61) aB rfl rfl rfl) rfl ?_|refine bH (aU (T:=49) aB rfl rfl rfl) rfl ?_))|(refine eV ?_;first|refine c0 jD ?_|refine c0 h4 ?_|refine c0 hrr ?_)|refine gL ?_|refine stA ?_|refine stD ?_|refine stE ?_|fail)
 exact hq.out):p:=h ⟨hq⟩
theorem dX1 {p q:Prop} (hq:q) (h:KeptC q→p:=by
 intro hq
 (first|refine aL [0,1,2,3,4,5,6,7,9,10,11,63] ?_|((with_reducible refine bC (i:=2) ?_);refine bA [0,1,2,3,4,5,6,7,9,10,11,63] rfl rfl ?_;refine dK [] ?_)|((with_reducible refine bC ?_);refine bA [0,1,2,3,4,5,6,7,9,10,11,63] rfl rfl ?_;refine dF [] ?_)|((with_reducible refine cC ?_);refine yA ?_;(first|refine bH (cE (T:=61) rfl) rfl ?_|refine bH (cE (T:=49) rfl) rfl ?_))|((with_reducible refine aX ?_);refine yA ?_;(first|refine bH (aU (T:=61) aB rfl rfl rfl) rfl ?_|refine bH (aU (T:=49) aB rfl rfl rfl) rfl ?_))|((with_reducible refine bY ?_);refine pH hnt aE zby rfl (by first|exact eY|exact dW cR eY) rfl (cH rfl rfl (cH rfl dO (cH rfl dO (cH rfl dO (cH rfl dO (cH rfl dO tS)))))) ?_)|((with_reducible refine bY ?_);refine pG [4,5,6,7,8,9] hf aE rfl zby rfl rfl rfl (by repeat' (first|exact cI|refine bJ rfl rfl rfl ?_|refine bJ rfl setT_mp dZ ?_)) rfl rfl zB rfl (by first|exact eY|exact dW cR eY) ?_)|refine kO ?_|refine gL ?_|refine stA ?_|refine stD ?_|refine stE ?_|fail)
 exact hq.out):p:=h ⟨hq⟩
theorem dX2 {p q:Prop} (hq:q) (h:KeptC q→p:=by
 intro hq
 (first|refine aL [0,2,3,4,5,6,7,8,9,26] ?_|((with_reducible refine bC (i:=4) ?_);refine bA [0,2,3,4,5,6,7,8,9,26] rfl rfl ?_;refine dK [] ?_)|((with_reducible refine bC (i:=12) ?_);refine bA [0,2,3,4,5,6,7,8,9,26] rfl rfl ?_;refine dK [] ?_)|((with_reducible refine bC ?_);refine bA [0,2,3,4,5,6,7,8,9,26] rfl rfl ?_;refine dF [] ?_)|((with_reducible refine jJ ?_);refine yE ?_;refine bH (aU (T:=49) aB rfl rfl rfl) rfl ?_)|((with_reducible refine aX ?_);refine yA ?_;refine bH (aU (T:=49) aB rfl rfl rfl) rfl ?_)|((with_reducible refine aD ?_);refine mW [8,3,4,5,6,7] hf aE rfl zby rfl rfl rfl rfl (by repeat' (first|exact cI|refine bJ rfl rfl rfl ?_|refine bJ rfl setT_mp dZ ?_)) rfl rfl rfl (by first|exact eY|exact dW cR eY) (cA rfl rfl (cA rfl setT_mp.symm (cA rfl setT_mp.symm (cA rfl setT_mp.symm (cA rfl setT_mp.symm (cA rfl setT_mp.symm pS)))))) ?_)|((with_reducible refine mV ?_);intro K hK hX)|(with_reducible refine oS ?_)|(refine eV ?_;refine c0 hac ?_)|refine stA ?_|refine stD ?_|refine stE ?_|fail)
 exact hq.out):p:=h ⟨hq⟩
theorem dD2 {p q:Prop} (hq:q) (h:KeptC q→p:=by
 intro hq
 (first|refine bU [0,2,3,4,5] ?_|((first|((with_reducible refine bP ?_);refine xA ?_)|((with_reducible refine dX ?_);refine xD ?_));(first|((with_reducible refine bS ?_);(first|refine aJ (zS (by kernel_rfl) (m:=3) rfl (by kernel_rfl) (by kernel_rfl) (by kernel_rfl) (by kernel_rfl) (by kernel_rfl) rfl rfl (hcx x) (hcx y) lx ly (dW5 hbxy)) ?_))|((with_reducible refine fU ?_);(first|refine aJ (iZ aB rfl rfl rfl rfl (by first|first|exact lA hx (Nat.zero_add _)|exact lA hy (Nat.zero_add _)|exact lA hx (by omega)|exact lA hy (by omega)|exact sM (by first|rfl|omega)|rfl) zln) ?_|refine aJ (iY aB rfl rfl rfl (by first|first|exact lA hx (Nat.zero_add _)|exact lA hy (Nat.zero_add _)|exact lA hx (by omega)|exact lA hy (by omega)|exact sM (by first|rfl|omega)|rfl) zln) ?_))|((with_reducible refine jO ?_);(first|refine aJ (s_slArri aB rfl rfl rfl rfl zbd zbd zle zle (by decide) (by first|first|exact lA hx (Nat.zero_add _)|exact lA hy (Nat.zero_add _)|exact lA hx (by omega)|exact lA hy (by omega)|exact sM (by first|rfl|omega)|rfl) zln) ?_))))|refine stA ?_|refine stD ?_|fail)
 exact hq.out):p:=h ⟨hq⟩
theorem dD3 {p q:Prop} (hq:q) (h:KeptC q→p:=by
 intro hq
 (first|refine bU [0,1,2,3,4,5,6,7,8,9] ?_|((first|((with_reducible refine bP ?_);refine xA ?_)|((with_reducible refine dX ?_);refine xD ?_));(first|((with_reducible refine fU ?_);(first|refine aJ (iK aB rfl rfl rfl rfl (by first|exact lV _ _ (by omega)|exact lV _ _ (Nat.mod_lt _ (by decide)))) ?_|refine aJ (fY aB rfl rfl rfl rfl (by first|exact lV _ _ (by omega)|exact lV _ _ (Nat.mod_lt _ (by decide)))) ?_|refine aJ (fX aB rfl rfl rfl (by first|exact lV _ _ (by omega)|exact lV _ _ (Nat.mod_lt _ (by decide)))) ?_))|((with_reducible refine e_ix ?_);(first|refine aJ (s_ixV1 aB rfl rfl zcj rfl rfl rfl rfl rfl zle (by first|exact lV _ _ (by omega)|exact lV _ _ (Nat.mod_lt _ (by decide)))) ?_|refine aJ (s_ixStr aB rfl rfl zcj rfl rfl (by first|exact lV _ _ (by omega)|exact lV _ _ (Nat.mod_lt _ (by decide)))) ?_))))|((with_reducible refine gQ ?_);(refine eM aB aE rfl rfl rfl rfl rfl rfl (by first|exact cA9 _ _ (by omega)|exact Nat.le_of_ble_eq_true rfl|omega|(simp<;>omega)) ?_))|refine stA ?_|refine stD ?_|fail)
 exact hq.out):p:=h ⟨hq⟩
theorem bD8 {p q:Prop} (hq:q) (h:KeptC q→p:=by
 intro hq
 (first|refine eJ [0,1,3,5,7,17,34,35,36,47,48,49] ?_|((with_reducible refine pP ?_);refine fF (by first|exact aE|exact (cB rfl rfl zgb)) (gB aB rfl rfl rfl rfl rfl rfl) ?_)|((with_reducible refine tI ?_);refine fF (by first|exact aE|exact (cB rfl rfl zgb)) (iD rfl) ?_)|((with_reducible refine pQ ?_);refine fF (by first|exact aE|exact (cB rfl rfl zgb)) (qJ rfl) ?_)|((with_reducible refine cC ?_);refine yA ?_;refine bH (cE rfl) rfl ?_)|refine stA ?_|refine stE ?_|fail)
 exact hq.out):p:=h ⟨hq⟩
theorem aC0 {p q:Prop} (hq:q) (h:KeptC q→p:=by
 intro hq
 (first|refine bU [0,1,3,4,5,6,7,8,51,52,53,81,82,83] ?_|((first|((with_reducible refine isA_lk ?_);refine xA ?_)|((with_reducible refine iA ?_);refine xD ?_));refine aJ (oJ (k:=(⟨vt,vs'⟩:Src)) ktS aB rfl rfl iG rfl rfl rfl hok hoS hm) ?_)|(refine dB ?_;refine c0 hcm ?_)|refine dV ?_|refine jN ?_|refine stA ?_|refine stD ?_|fail)
 exact hq.out):p:=h ⟨hq⟩
theorem bW7 {p q:Prop} (hq:q) (h:KeptC q→p:=by
 intro hq
 (first|refine aL [0,2,3,4,27] ?_|((with_reducible refine aX ?_);refine yA ?_;refine bH (aU aB rfl rfl rfl) rfl ?_)|((with_reducible refine aD ?_);refine aK (a1) aE rfl zby rfl rfl rfl rfl zcv rfl ztp ?_)|((with_reducible refine aD ?_);refine aK (a2) aE rfl zby rfl rfl rfl rfl zcv rfl ztp ?_)|((with_reducible refine aD ?_);refine aK (a3) aE rfl zby rfl rfl rfl rfl zcv rfl ztp ?_)|((with_reducible refine aD ?_);refine aK (a4) aE rfl zby rfl rfl rfl rfl zcv rfl ztp ?_)|((with_reducible refine aD ?_);refine aK (a5) aE rfl zby rfl rfl rfl rfl zcv rfl ztp ?_)|refine stA ?_|fail)
 exact hq.out):p:=h ⟨hq⟩
theorem bW8 {p q:Prop} (hq:q) (h:KeptC q→p:=by
 intro hq
 (first|refine aL [0,2,3,17] ?_|((with_reducible refine aX ?_);refine yA ?_;refine bH (aU aB rfl rfl rfl) rfl ?_)|((with_reducible refine aD ?_);refine aK (a1) aE rfl zby rfl rfl rfl rfl zcv rfl ztp ?_)|((with_reducible refine aD ?_);refine aK (a2) aE rfl zby rfl rfl rfl rfl zcv rfl ztp ?_)|((with_reducible refine aD ?_);refine aK (a3) aE rfl zby rfl rfl rfl rfl zcv rfl ztp ?_)|((with_reducible refine aD ?_);refine aK (a4) aE rfl zby rfl rfl rfl rfl zcv rfl ztp ?_)|((with_reducible refine aD ?_);refine aK (a5) aE rfl zby rfl rfl rfl rfl zcv rfl ztp ?_)|refine stA ?_|fail)
 exact hq.out):p:=h ⟨hq⟩
theorem bW9 {p q:Prop} (hq:q) (h:KeptC q→p:=by
 intro hq
 (first|refine eJ [0,1,3,4,17] ?_|((with_reducible refine aD ?_);refine cX (i1) aE rfl zby rfl rfl zln rfl zcv (bI _) ?_)|((with_reducible refine bY ?_);refine gF (i1) aE rfl rfl zby rfl rfl zln rfl zcv (bI _) rfl ?_)|((with_reducible refine aD ?_);refine cX (i2) aE rfl zby rfl rfl zln rfl zcv (bI _) ?_)|((with_reducible refine bY ?_);refine gF (i2) aE rfl rfl zby rfl rfl zln rfl zcv (bI _) rfl ?_)|refine gE ?_|refine stA ?_|refine stE ?_|fail)
 exact hq.out):p:=h ⟨hq⟩
theorem bX0 {p q:Prop} (hq:q) (h:KeptC q→p:=by
 intro hq
 (first|refine bU [0,1,3,4,7,8,50] ?_|((first|((with_reducible refine isA_lk ?_);refine xA ?_)|((with_reducible refine iA ?_);refine xD ?_));refine aJ (qK (k:=plan) ktI aB rfl rfl iG rfl rfl rfl trivial (fun _ _=>trivial) hb) ?_)|((first|((with_reducible refine isA_lk ?_);refine xA ?_)|((with_reducible refine iA ?_);refine xD ?_));refine aJ (oJ (k:=plan) ktI aB rfl rfl iG rfl rfl rfl trivial (fun _ _=>trivial) hc) ?_)|refine dV ?_|refine stA ?_|refine stD ?_|fail)
 exact hq.out):p:=h ⟨hq⟩
theorem bD9 {p q:Prop} (hq:q) (h:KeptC q→p:=by
 intro hq
 (first|refine bU [0,1,3,4,5,6,7,8,51,52,53,81,82,83] ?_|((first|((with_reducible refine isA_lk ?_);refine xA ?_)|((with_reducible refine iA ?_);refine xD ?_));refine aJ (oJ (k:=(⟨vt,vc,vs'⟩:Ver)) ktV aB rfl rfl iG rfl rfl rfl hok hoV hm) ?_)|(refine dB ?_;refine c0 hcm ?_)|refine dV ?_|refine jN ?_|refine stA ?_|refine stD ?_|fail)
 exact hq.out):p:=h ⟨hq⟩
theorem dD4 {p q:Prop} (hq:q) (h:KeptC q→p:=by
 intro hq
 (first|refine eJ [0,1,3,4,5] ?_|((with_reducible refine aD ?_);refine cX (i1) aE rfl zby rfl rfl zln rfl zcv (bI _) ?_)|((with_reducible refine bY ?_);refine gF (i1) aE rfl rfl zby rfl rfl zln rfl zcv (bI _) rfl ?_)|((with_reducible refine aD ?_);refine cX (i2) aE rfl zby rfl rfl zln rfl zcv (bI _) ?_)|((with_reducible refine bY ?_);refine gF (i2) aE rfl rfl zby rfl rfl zln rfl zcv (bI _) rfl ?_)|((with_reducible refine aD ?_);refine cX (i3) aE rfl zby rfl rfl zln rfl zcv (bI _) ?_)|((with_reducible refine bY ?_);refine gF (i3) aE rfl rfl zby rfl rfl zln rfl zcv (bI _) rfl ?_)|refine gE ?_|refine stA ?_|refine stE ?_|fail)
 exact hq.out):p:=h ⟨hq⟩
theorem dD5 {p q:Prop} (hq:q) (h:KeptC q→p:=by
 intro hq
 (first|refine eJ [0,1,3,4] ?_|((with_reducible refine aD ?_);refine cX (i1) aE rfl zby rfl rfl zln rfl zcv (bI _) ?_)|((with_reducible refine bY ?_);refine gF (i1) aE rfl rfl zby rfl rfl zln rfl zcv (bI _) rfl ?_)|((with_reducible refine aD ?_);refine cX (i2) aE rfl zby rfl rfl zln rfl zcv (bI _) ?_)|((with_reducible refine bY ?_);refine gF (i2) aE rfl rfl zby rfl rfl zln rfl zcv (bI _) rfl ?_)|((with_reducible refine aD ?_);refine cX (i3) aE rfl zby rfl rfl zln rfl zcv (bI _) ?_)|((with_reducible refine bY ?_);refine gF (i3) aE rfl rfl zby rfl rfl zln rfl zcv (bI _) rfl ?_)|refine gE ?_|refine stA ?_|refine stE ?_|fail)
 exact hq.out):p:=h ⟨hq⟩
theorem dD6 {p q:Prop} (hq:q) (h:KeptC q→p:=by
 intro hq
 (first|refine eJ [0,1,3,5,7,17,34,35,36,47,48,49] ?_|((with_reducible refine pP ?_);refine fF (by first|exact aE|exact (cB rfl rfl zgb)) (gB aB rfl rfl rfl rfl rfl rfl) ?_)|((with_reducible refine tI ?_);refine fF (by first|exact aE|exact (cB rfl rfl zgb)) (iD rfl) ?_)|((with_reducible refine pQ ?_);refine fF (by first|exact aE|exact (cB rfl rfl zgb)) (qJ rfl) ?_)|((with_reducible refine cC ?_);refine yA ?_;refine bH (cE rfl) rfl ?_)|((with_reducible refine aI8 ?_);refine nT (k:=plan) ktI aB aE rfl rfl rfl rfl rfl rfl ztr (fun _ _=>trivial) ?_)|refine stA ?_|refine stE ?_|fail)
 exact hq.out):p:=h ⟨hq⟩
theorem oU {p q:Prop} (hq:q) (h:KeptC q→p:=by
 intro hq
 (first|refine aL [0,1,2] ?_|((with_reducible refine cC ?_);refine yA ?_;refine bH (cE rfl) rfl ?_)|refine stA ?_|fail)
 exact hq.out):p:=h ⟨hq⟩
theorem bE0 {p q:Prop} (hq:q) (h:KeptC q→p:=by
 intro hq
 (first|refine bU [0,1,3,4,5,6,7,8,51,52,53,81,82,83] ?_|((first|((with_reducible refine isA_lk ?_);refine xA ?_)|((with_reducible refine iA ?_);refine xD ?_));refine aJ (oJ (k:=(⟨vt,vs'⟩:Src)) ktS aB rfl rfl iG rfl rfl rfl hok hoS hm) ?_)|refine dV ?_|refine jN ?_|refine stA ?_|refine stD ?_|fail)
 exact hq.out):p:=h ⟨hq⟩
theorem dD7 {p q:Prop} (hq:q) (h:KeptC q→p:=by
 intro hq
 (first|refine aL [0,2,3] ?_|((with_reducible refine aD ?_);refine aK (a1) aE rfl zby rfl rfl rfl rfl zcv rfl ztp ?_)|((with_reducible refine aD ?_);refine aK (a2) aE rfl zby rfl rfl rfl rfl zcv rfl ztp ?_)|((with_reducible refine aD ?_);refine aK (a3) aE rfl zby rfl rfl rfl rfl zcv rfl ztp ?_)|((with_reducible refine aD ?_);refine aK (a4) aE rfl zby rfl rfl rfl rfl zcv rfl ztp ?_)|((with_reducible refine aD ?_);refine aK (a5) aE rfl zby rfl rfl rfl rfl zcv rfl ztp ?_)|((with_reducible refine aD ?_);refine aK (a6) aE rfl zby rfl rfl rfl rfl zcv rfl ztp ?_)|refine stA ?_|fail)
 exact hq.out):p:=h ⟨hq⟩
theorem dD8 {p q:Prop} (hq:q) (h:KeptC q→p:=by
 intro hq
 (first|refine aL [0,2,3] ?_|((with_reducible refine aD ?_);refine aK (a1) aE rfl zby rfl rfl rfl rfl zcv rfl ztp ?_)|((with_reducible refine aD ?_);refine aK (a2) aE rfl zby rfl rfl rfl rfl zcv rfl ztp ?_)|((with_reducible refine aD ?_);refine aK (a3) aE rfl zby rfl rfl rfl rfl zcv rfl ztp ?_)|((with_reducible refine aD ?_);refine aK (a4) aE rfl zby rfl rfl rfl rfl zcv rfl ztp ?_)|((with_reducible refine aD ?_);refine aK (a5) aE rfl zby rfl rfl rfl rfl zcv rfl ztp ?_)|refine stA ?_|fail)
 exact hq.out):p:=h ⟨hq⟩
theorem bX1 {p q:Prop} (hq:q) (h:KeptC q→p:=by
 intro hq
 (first|refine aL [0,2] ?_|((with_reducible refine uT ?_);(refine wZ aB aE rfl rfl rfl rfl rfl rfl rfl rfl (by first|rfl|simp) rfl dV7 (by simp only [maxLen];omega) (by omega) ?_))|(((with_reducible refine bP ?_);refine xA ?_);(first|((with_reducible refine bS ?_);(first|refine aJ (aT1 aB rfl rfl rfl rfl) ?_))))|refine stA ?_|fail)
 exact hq.out):p:=h ⟨hq⟩
theorem dD9 {p q:Prop} (hq:q) (h:KeptC q→p:=by
 intro hq
 (first|refine bU [0,1,2,6,7,8,9,10,11,12,13,14,15,16,17,19,20,74] ?_|((with_reducible refine jJ ?_);refine yE ?_;(first|refine bH (aU (T:=61) aB rfl rfl rfl) rfl ?_|refine bH (aU (T:=49) aB rfl rfl rfl) rfl ?_))|((with_reducible refine aX ?_);refine yA ?_;(first|refine bH (aU (T:=61) aB rfl rfl rfl) rfl ?_|refine bH (aU (T:=49) aB rfl rfl rfl) rfl ?_))|(refine dB ?_;first|refine c0 jD ?_|refine c0 h1 ?_)|refine stA ?_|refine stD ?_|fail)
 exact hq.out):p:=h ⟨hq⟩
theorem dE0 {p q:Prop} (hq:q) (h:KeptC q→p:=by
 intro hq
 (first|refine aL [0,2,3,4,5] ?_|(((with_reducible refine bP ?_);refine xA ?_);(first|((with_reducible refine bS ?_);(first|refine aJ (aT2 hc8 rfl rfl) ?_|refine aJ (aK7 rfl rfl h7 h63 hsh) ?_|refine aJ (bK3 hsx hu hss rfl rfl) ?_|refine aJ (zX (m:=1) rfl rfl rfl (by decide)) ?_|refine aJ (bB5 (m:=2) (by decide) rfl rfl rfl) ?_))|((with_reducible refine pJ ?_);(first|refine aJ (fK aB rfl rfl rfl rfl (tU (by omega) (by omega))) ?_))))|refine eS ?_|refine stA ?_|fail)
 exact hq.out):p:=h ⟨hq⟩
theorem dE1 {p q:Prop} (hq:q) (h:KeptC q→p:=by
 intro hq
 (first|refine bU [0,1,3,4,7,8,50] ?_|((first|((with_reducible refine isA_lk ?_);refine xA ?_)|((with_reducible refine iA ?_);refine xD ?_));refine aJ (qK (k:=plan) ktI aB rfl rfl iG rfl rfl rfl trivial (fun _ _=>trivial) hb) ?_)|((first|((with_reducible refine isA_lk ?_);refine xA ?_)|((with_reducible refine iA ?_);refine xD ?_));refine aJ (qK (k:=plan) ktI aB rfl rfl iG rfl rfl rfl trivial (fun _ _=>trivial) hc) ?_)|refine dV ?_|refine stA ?_|refine stD ?_|fail)
 exact hq.out):p:=h ⟨hq⟩
theorem dE2 {p q:Prop} (hq:q) (h:KeptC q→p:=by
 intro hq
 (first|refine aL [0,2,3,4,5,6] ?_|(((with_reducible refine bP ?_);refine xA ?_);(first|((with_reducible refine bS ?_);(first|refine aJ (aT0 hc8 rfl rfl) ?_|refine aJ (aK7 rfl rfl h7 h63 hsh) ?_|refine aJ (bK3 hsx hu hss rfl rfl) ?_|refine aJ (zX (m:=1) rfl rfl rfl (by decide)) ?_|refine aJ (cL9 hss rfl rfl) ?_))|((with_reducible refine pJ ?_);(first|refine aJ (fK aB rfl rfl rfl rfl (tU (by omega) (by omega))) ?_))))|refine eS ?_|refine stA ?_|fail)
 exact hq.out):p:=h ⟨hq⟩
theorem bX2 {p q:Prop} (hq:q) (h:KeptC q→p:=by
 intro hq
 (first|refine bU [0,1,3,4,5,6,7,8,51,52,53,81,82,83] ?_|((first|((with_reducible refine isA_lk ?_);refine xA ?_)|((with_reducible refine iA ?_);refine xD ?_));refine aJ (oJ (k:=(⟨vt,vc,vs'⟩:Ver)) ktV aB rfl rfl iG rfl rfl rfl hok hoV hm) ?_)|refine dV ?_|refine jN ?_|refine stA ?_|refine stD ?_|fail)
 exact hq.out):p:=h ⟨hq⟩
theorem dE3 {p q:Prop} (hq:q) (h:KeptC q→p:=by
 intro hq
 (first|refine aL [0,2,3] ?_|((with_reducible refine aD ?_);refine aK (a1) aE rfl zby rfl rfl rfl rfl zcv rfl ztp ?_)|((with_reducible refine aD ?_);refine aK (a2) aE rfl zby rfl rfl rfl rfl zcv rfl ztp ?_)|((with_reducible refine aD ?_);refine aK (a3) aE rfl zby rfl rfl rfl rfl zcv rfl ztp ?_)|((with_reducible refine aD ?_);refine aK (a4) aE rfl zby rfl rfl rfl rfl zcv rfl ztp ?_)|refine stA ?_|fail)
 exact hq.out):p:=h ⟨hq⟩
theorem aM9 {p q:Prop} (hq:q) (h:KeptC q→p:=by
 intro hq
 (first|refine bU [0,1,3,4,7,8,50] ?_|((with_reducible refine cC ?_);refine yA ?_;refine bH (cE rfl) rfl ?_)|refine dV ?_|refine stA ?_|refine stD ?_|fail)
 exact hq.out):p:=h ⟨hq⟩
theorem dE4 {p q:Prop} (hq:q) (h:KeptC q→p:=by
 intro hq
 (first|refine bU [0,1,4,5] ?_|((first|((with_reducible refine bP ?_);refine xA ?_)|((with_reducible refine dX ?_);refine xD ?_));(first|((with_reducible refine bS ?_);(first|refine aJ (bB4 (by kernel_rfl) (m:=3) rfl (by kernel_rfl) (by kernel_rfl) (by kernel_rfl) (by kernel_rfl) (by kernel_rfl) rfl rfl (hcx x) (hcx x) lx lx tQ) ?_))))|refine jN ?_|refine stA ?_|refine stD ?_|fail)
 exact hq.out):p:=h ⟨hq⟩
theorem bX3 {p q:Prop} (hq:q) (h:KeptC q→p:=by
 intro hq
 (first|refine bU [0,1,3,4,5,6,7,8,9,10,11,12,13,14,15,16,17] ?_|((with_reducible refine aX ?_);refine yA ?_;refine bH (aU (T:=49) aB rfl rfl rfl) rfl ?_)|(refine dB ?_;refine c0 hri ?_)|refine stA ?_|refine stD ?_|fail)
 exact hq.out):p:=h ⟨hq⟩
theorem bX4 {p q:Prop} (hq:q) (h:KeptC q→p:=by
 intro hq
 (first|refine aL [0,2,3] ?_|((with_reducible refine aD ?_);refine aK (a1) aE rfl zby rfl rfl rfl rfl zcv rfl ztp ?_)|((with_reducible refine aD ?_);refine aK (a2) aE rfl zby rfl rfl rfl rfl zcv rfl ztp ?_)|refine stA ?_|fail)
 exact hq.out):p:=h ⟨hq⟩
theorem dE5 {p q:Prop} (hq:q) (h:KeptC q→p:=by
 intro hq
 (first|refine aL [0,1,4,6,7,8,9,10] ?_|(((with_reducible refine bP ?_);refine xA ?_);(first|((with_reducible refine pJ ?_);(first|refine aJ (cM2 aB rfl rfl rfl rfl) ?_))|((with_reducible refine bS ?_);(first|refine aJ (dB5 hlt8 rfl rfl) ?_|refine aJ (zX (m:=7) rfl rfl rfl (by decide)) ?_))))|refine stA ?_|fail)
 exact hq.out):p:=h ⟨hq⟩
theorem vG {p q:Prop} (hq:q) (h:KeptC q→p:=by
 intro hq
 (first|refine bU [0,1,3,4,7,8,50] ?_|refine dV ?_|refine stA ?_|refine stD ?_|fail)
 exact hq.out):p:=h ⟨hq⟩
theorem bX5 {p q:Prop} (hq:q) (h:KeptC q→p:=by
 intro hq
 (first|refine eJ [0,1,2,3,15] ?_|((with_reducible refine cC ?_);refine yA ?_;refine bH (cE rfl) rfl ?_)|refine gE ?_|(refine gW ?_;first|refine c1 i1 ?_|refine c1 i2 ?_)|refine stA ?_|refine stE ?_|fail)
 exact hq.out):p:=h ⟨hq⟩
theorem dE6 {p q:Prop} (hq:q) (h:KeptC q→p:=by
 intro hq
 (first|refine aL [0,1,4,5,6,7,8,9,10,11,12,13,14] ?_|((with_reducible refine cC ?_);refine yA ?_;refine bH (cE rfl) rfl ?_)|((with_reducible refine aX ?_);refine yA ?_;refine bH (aU (T:=61) aB rfl rfl rfl) rfl ?_)|(refine dG ?_;first|refine c0 jD ?_|refine c0 h1 ?_)|refine stA ?_|fail)
 exact hq.out):p:=h ⟨hq⟩
theorem dE7 {p q:Prop} (hq:q) (h:KeptC q→p:=by
 intro hq
 (first|refine bU [0,1,3,4,5,6,7,8,51,52,53,81,82,83] ?_|((first|((with_reducible refine isA_lk ?_);refine xA ?_)|((with_reducible refine iA ?_);refine xD ?_));refine aJ (qK (k:=(⟨vt,vs'⟩:Src)) ktS aB rfl rfl iG rfl rfl rfl hok hoS hm) ?_)|refine dV ?_|refine jN ?_|refine stA ?_|refine stD ?_|fail)
 exact hq.out):p:=h ⟨hq⟩
theorem dE8 {p q:Prop} (hq:q) (h:KeptC q→p:=by
 intro hq
 (first|refine aL [0,1,3,4,13] ?_|((with_reducible refine aD ?_);refine cX (i1) aE rfl zby rfl rfl zln rfl zcv (bI _) ?_)|((with_reducible refine aD ?_);refine cX (i2) aE rfl zby rfl rfl zln rfl zcv (bI _) ?_)|refine uA ?_|(refine dG ?_;refine c0 hcl ?_)|refine stA ?_|fail)
 exact hq.out):p:=h ⟨hq⟩
theorem dE9 {p q:Prop} (hq:q) (h:KeptC q→p:=by
 intro hq
 (first|refine bU [0,1,3,4,7,8,50] ?_|((first|((with_reducible refine isA_lk ?_);refine xA ?_)|((with_reducible refine iA ?_);refine xD ?_));refine aJ (oJ (k:=plan) ktI aB rfl rfl iG rfl rfl rfl trivial (fun _ _=>trivial) hb) ?_)|refine dV ?_|refine stA ?_|refine stD ?_|fail)
 exact hq.out):p:=h ⟨hq⟩
theorem bX7 {p q:Prop} (hq:q) (h:KeptC q→p:=by
 intro hq
 (first|refine aL [0,2] ?_|(((with_reducible refine bP ?_);refine xA ?_);(first|((with_reducible refine bS ?_);(first|refine aJ (cM3 aB hp rfl rfl rfl rfl) ?_))))|refine stA ?_|fail)
 exact hq.out):p:=h ⟨hq⟩
theorem bX8 {p q:Prop} (hq:q) (h:KeptC q→p:=by
 intro hq
 (first|refine aL [0,2] ?_|(((with_reducible refine bP ?_);refine xA ?_);(first|((with_reducible refine bS ?_);(first|refine aJ (aT1 aB rfl rfl rfl rfl) ?_))))|refine stA ?_|fail)
 exact hq.out):p:=h ⟨hq⟩
theorem dF0 {p q:Prop} (hq:q) (h:KeptC q→p:=by
 intro hq
 (first|refine bU [0,1,3,4,5,6,7,8,9,10,11,12,13,14,15,16,17] ?_|((with_reducible refine aX ?_);refine yA ?_;refine bH (aU (T:=49) aB rfl rfl rfl) rfl ?_)|(refine dB ?_;first|refine c0 hri ?_|refine c0 hre ?_)|refine stA ?_|refine stD ?_|fail)
 exact hq.out):p:=h ⟨hq⟩
theorem dF1 {p q:Prop} (hq:q) (h:KeptC q→p:=by
 intro hq
 (first|refine eJ [0,2,3] ?_|((with_reducible refine aD ?_);refine aK (a2) aE rfl zby rfl rfl rfl rfl zcv rfl ztp ?_)|((with_reducible refine bY ?_);refine bG2 (a2) aE rfl rfl zby rfl rfl rfl rfl zcv rfl ztp rfl ?_)|refine stA ?_|refine stE ?_|fail)
 exact hq.out):p:=h ⟨hq⟩
theorem dF2 {p q:Prop} (hq:q) (h:KeptC q→p:=by
 intro hq
 (first|refine aL [0,2,3,4] ?_|(((with_reducible refine bP ?_);refine xA ?_);(first|((with_reducible refine bS ?_);(first|refine aJ (dV0 (m:=128) (by decide) hx rfl rfl rfl) ?_|refine aJ (bB5 (m:=128) (by decide) rfl rfl rfl) ?_))))|refine stA ?_|fail)
 exact hq.out):p:=h ⟨hq⟩
theorem dF3 {p q:Prop} (hq:q) (h:KeptC q→p:=by
 intro hq
 (first|refine aL [0,2,3,8] ?_|((with_reducible refine aD ?_);refine aK (a1) aE rfl zby rfl rfl rfl rfl zcv rfl ztp ?_)|((with_reducible refine aD ?_);refine aK (a2) aE rfl zby rfl rfl rfl rfl zcv rfl ztp ?_)|refine stA ?_|fail)
 exact hq.out):p:=h ⟨hq⟩
theorem dF4 {p q:Prop} (hq:q) (h:KeptC q→p:=by
 intro hq
 (first|refine aL [0,1,2,3,4,5,7,14,15,16] ?_|((with_reducible refine aX ?_);refine yA ?_;refine bH (aU (T:=49) aB rfl rfl rfl) rfl ?_)|(refine dG ?_;refine c0 hcl ?_)|refine jM ?_|refine stA ?_|fail)
 exact hq.out):p:=h ⟨hq⟩
theorem aC1 {p q:Prop} (hq:q) (h:KeptC q→p:=by
 intro hq
 (first|refine bU [0,1,2,3,4,5,6,7,8,9] ?_|refine stA ?_|refine stD ?_|fail)
 exact hq.out):p:=h ⟨hq⟩
theorem bE1 {p q:Prop} (hq:q) (h:KeptC q→p:=by
 intro hq
 (first|refine bU [0,1,3,4,5,6,7,8,51,52,53,81,82,83] ?_|refine dV ?_|refine stA ?_|refine stD ?_|fail)
 exact hq.out):p:=h ⟨hq⟩
theorem aN0 {p q:Prop} (hq:q) (h:KeptC q→p:=by
 intro hq
 (first|refine aL [0,1,2,4,5] ?_|(refine dG ?_;refine c0 hva ?_)|refine stA ?_|fail)
 exact hq.out):p:=h ⟨hq⟩
theorem dF5 {p q:Prop} (hq:q) (h:KeptC q→p:=by
 intro hq
 (first|refine aL [0,1,4,6,12,13,14] ?_|((with_reducible refine aD ?_);refine cX (i2) aE rfl zby rfl rfl zln rfl zcv (bI _) ?_)|refine uA ?_|refine jM ?_|refine stA ?_|fail)
 exact hq.out):p:=h ⟨hq⟩
theorem dF6 {p q:Prop} (hq:q) (h:KeptC q→p:=by
 intro hq
 (first|refine aL [0,2,3,5,6,7,8] ?_|((with_reducible refine aX ?_);refine yA ?_;refine bH (aU (T:=49) aB rfl rfl rfl) rfl ?_)|refine eS ?_|refine jM ?_|refine stA ?_|fail)
 exact hq.out):p:=h ⟨hq⟩
theorem bE2 {p q:Prop} (hq:q) (h:KeptC q→p:=by
 intro hq
 (first|refine aL [0,2,3] ?_|(refine dG ?_;refine c0 hsm ?_)|refine jM ?_|refine stA ?_|fail)
 exact hq.out):p:=h ⟨hq⟩
theorem dF7 {p q:Prop} (hq:q) (h:KeptC q→p:=by
 intro hq
 (first|refine bU [0,1,3,4,5,6,7,8,51,52,53,81,82,83] ?_|((with_reducible refine cC ?_);refine yA ?_;refine bH (cE rfl) rfl ?_)|refine dV ?_|refine stA ?_|refine stD ?_|fail)
 exact hq.out):p:=h ⟨hq⟩
theorem dF8 {p q:Prop} (hq:q) (h:KeptC q→p:=by
 intro hq
 (first|refine aL [0,1,4,6,12,13,14] ?_|((with_reducible refine aD ?_);refine cX (i1) aE rfl zby rfl rfl zln rfl zcv (bI _) ?_)|refine uA ?_|refine stA ?_|fail)
 exact hq.out):p:=h ⟨hq⟩
theorem aC2 {p q:Prop} (hq:q) (h:KeptC q→p:=by
 intro hq
 (first|refine bU [0,1,4,5] ?_|refine stA ?_|refine stD ?_|fail)
 exact hq.out):p:=h ⟨hq⟩
theorem vH {p q:Prop} (hq:q) (h:KeptC q→p:=by
 intro hq
 (first|refine aL [0,2,3,4] ?_|refine stA ?_|fail)
 exact hq.out):p:=h ⟨hq⟩
theorem bX9 {p q:Prop} (hq:q) (h:KeptC q→p:=by
 intro hq
 (first|refine aL [0,1,4,5,6] ?_|(refine dG ?_;first|refine c0 h1 ?_|refine c0 h2 ?_)|refine stA ?_|fail)
 exact hq.out):p:=h ⟨hq⟩
theorem dF9 {p q:Prop} (hq:q) (h:KeptC q→p:=by
 intro hq
 (first|refine eJ [0,1,2,3] ?_|refine gE ?_|(refine gW ?_;first|refine c1 i1 ?_|refine c1 i2 ?_|refine c1 i3 ?_)|refine stA ?_|refine stE ?_|fail)
 exact hq.out):p:=h ⟨hq⟩
theorem dG0 {p q:Prop} (hq:q) (h:KeptC q→p:=by
 intro hq
 (first|refine eJ [0,1,2] ?_|refine gE ?_|(refine gW ?_;first|refine c1 i1 ?_|refine c1 i2 ?_|refine c1 i3 ?_)|refine stA ?_|refine stE ?_|fail)
 exact hq.out):p:=h ⟨hq⟩
theorem bE3 {p q:Prop} (hq:q) (h:KeptC q→p:=by
 intro hq
 (first|refine aL [0,1,2] ?_|(refine dG ?_;refine c0 hv ?_)|refine stA ?_|fail)
 exact hq.out):p:=h ⟨hq⟩
theorem dG1 {p q:Prop} (hq:q) (h:KeptC q→p:=by
 intro hq
 (first|refine aL [0,2,3,4,5,6] ?_|((with_reducible refine aD ?_);refine aK (a1) aE rfl zby rfl rfl rfl rfl zcv rfl ztp ?_)|refine stA ?_|fail)
 exact hq.out):p:=h ⟨hq⟩
theorem dG2 {p q:Prop} (hq:q) (h:KeptC q→p:=by
 intro hq
 (first|refine bU [0,1,2,4,5] ?_|(refine dB ?_;first|refine c0 hva ?_|refine c0 hcl ?_|refine c1 hj ?_)|refine stA ?_|refine stD ?_|fail)
 exact hq.out):p:=h ⟨hq⟩
theorem dG3 {p q:Prop} (hq:q) (h:KeptC q→p:=by
 intro hq
 (first|refine eJ [0,2,3,4] ?_|refine gE ?_|(refine gW ?_;refine c1 i2 ?_)|refine cS7 ?_|refine stA ?_|refine stE ?_|fail)
 exact hq.out):p:=h ⟨hq⟩
theorem dG4 {p q:Prop} (hq:q) (h:KeptC q→p:=by
 intro hq
 (first|refine bU [0,1,2,4,5] ?_|(refine dB ?_;first|refine c0 hva ?_|refine c0 hcl ?_)|refine stA ?_|refine stD ?_|fail)
 exact hq.out):p:=h ⟨hq⟩
theorem dG5 {p q:Prop} (hq:q) (h:KeptC q→p:=by
 intro hq
 (first|refine aL [0,1,2,3] ?_|(refine dG ?_;first|refine c0 hva ?_|refine c0 hcl ?_|refine c1 hj ?_)|refine stA ?_|fail)
 exact hq.out):p:=h ⟨hq⟩
theorem dG6 {p q:Prop} (hq:q) (h:KeptC q→p:=by
 intro hq
 (first|refine aL [0,1,2,3] ?_|(refine dG ?_;first|refine c0 hcl ?_|refine c1 i1 ?_|refine c1 i2 ?_)|refine stA ?_|fail)
 exact hq.out):p:=h ⟨hq⟩
theorem bY0 {p q:Prop} (hq:q) (h:KeptC q→p:=by
 intro hq
 (first|refine aL [0,1,2,3] ?_|(refine dG ?_;refine c0 hva ?_)|refine stA ?_|fail)
 exact hq.out):p:=h ⟨hq⟩
theorem bE4 {p q:Prop} (hq:q) (h:KeptC q→p:=by
 intro hq
 (first|refine bU [0,2,3,4,5] ?_|refine stA ?_|refine stD ?_|fail)
 exact hq.out):p:=h ⟨hq⟩
theorem aN1 {p q:Prop} (hq:q) (h:KeptC q→p:=by
 intro hq
 (first|refine aL [0,2,3,4,5,6] ?_|refine stA ?_|fail)
 exact hq.out):p:=h ⟨hq⟩
theorem dG7 {p q:Prop} (hq:q) (h:KeptC q→p:=by
 intro hq
 (first|refine aL [0,1,2,4,5] ?_|(refine dG ?_;first|refine c0 hva ?_|refine c0 hcl ?_)|refine stA ?_|fail)
 exact hq.out):p:=h ⟨hq⟩
theorem bE5 {p q:Prop} (hq:q) (h:KeptC q→p:=by
 intro hq
 (first|refine aL [0,1,4,6,7,8,9,10] ?_|refine stA ?_|fail)
 exact hq.out):p:=h ⟨hq⟩
theorem dG8 {p q:Prop} (hq:q) (h:KeptC q→p:=by
 intro hq
 (first|refine aL [0,1,2,3] ?_|(refine dG ?_;first|refine c0 hva ?_|refine c0 hcl ?_)|refine stA ?_|fail)
 exact hq.out):p:=h ⟨hq⟩
theorem aN2 {p q:Prop} (hq:q) (h:KeptC q→p:=by
 intro hq
 (first|refine aL [0,2,3] ?_|refine stA ?_|fail)
 exact hq.out):p:=h ⟨hq⟩
theorem bY1 {p q:Prop} (hq:q) (h:KeptC q→p:=by
 intro hq
 (first|refine bU [0,1,4,5,6,7] ?_|refine stA ?_|refine stD ?_|fail)
 exact hq.out):p:=h ⟨hq⟩
theorem aH {A B p q:Prop} (_:A) (_:B) (hq:q) (h:KeptC q→p:=by
 intro hq
 (first|refine hK _ _ _ _ ?_|refine hX _ _ _ _ _ dO9 ?_|fail)
 exact hq.out):p:=h ⟨hq⟩
theorem cS8 {p:Prop} (h:p:=by first|((refine fB rfl ?_ ?_ rfl<;>(repeat' (first|exact dH|exact dI|refine cU rfl (by first|rfl|(first|rfl|exact congrArg (AObj.row _) aJ2)|exact zeq) rfl ?_|refine bR rfl (by first|rfl|(first|rfl|exact congrArg (AObj.row _) aJ2)|exact zeq) rfl ?_|refine bR rfl (by first|rfl|(first|rfl|exact congrArg (AObj.row _) aJ2)) dZ ?_)))<;>fail)|fail):p:=h
theorem gM {p:Prop} (h:p:=by first|((first|assumption|with_reducible exact gd1 eT|with_reducible exact gd2 eT|with_reducible exact gd3 eT|with_reducible exact gd4 eT|with_reducible rfl|rfl|((first|with_reducible refine gd1 ?_|with_reducible refine gd2 ?_|with_reducible refine gd3 ?_|with_reducible refine gd4 ?_);omega)|(simp only [*]<;>fail)|fail)<;>fail)|fail):p:=h
theorem dX3 {p:Prop} (h:p:=by first|((refine eH [0,1,2,6] rfl rfl ?_ ?_ rfl rfl<;>(repeat' (first|exact cT|exact cI|refine cK rfl bE8 rfl ?_|refine bJ rfl bE8 rfl ?_)))<;>fail)|fail):p:=h
theorem dX4 {p:Prop} (h:p:=by first|((refine eH [0,3] rfl rfl ?_ ?_ rfl rfl<;>(repeat' (first|exact cT|exact cI|refine cK rfl (by first|rfl|(exact congrArg (AObj.row 5) (qZ l x _ aA))|exact zeq) rfl ?_|refine bJ rfl (by first|rfl|(exact congrArg (AObj.row 5) (qZ l x _ aA))|exact zeq) rfl ?_)))<;>fail)|fail):p:=h
theorem dX5 {p:Prop} (h:p:=by first|((refine eH [2] rfl rfl ?_ ?_ rfl rfl<;>(repeat' (first|exact cT|exact cI|refine cK rfl (by first|rfl|(exact congrArg (AObj.row 5) (qZ l x _ aA))|exact zeq) rfl ?_|refine bJ rfl (by first|rfl|(exact congrArg (AObj.row 5) (qZ l x _ aA))|exact zeq) rfl ?_)))<;>fail)|fail):p:=h
theorem dX6 {p:Prop} (h:p:=by first|((refine eH [0,3] rfl rfl ?_ ?_ rfl rfl<;>(repeat' (first|exact cT|exact cI|refine cK rfl (by first|rfl|(exact congrArg (AObj.row 5) (qY l x hlt))|exact zeq) rfl ?_|refine bJ rfl (by first|rfl|(exact congrArg (AObj.row 5) (qY l x hlt))|exact zeq) rfl ?_)))<;>fail)|fail):p:=h
theorem dP0 {p:Prop} (h:p:=by first|((refine eH [2] rfl rfl ?_ ?_ rfl rfl<;>(repeat' (first|exact cT|exact cI|refine cK rfl (by first|rfl|(exact congrArg (AObj.row 5) (bD _ _).symm)|exact zeq) rfl ?_|refine bJ rfl (by first|rfl|(exact congrArg (AObj.row 5) (bD _ _).symm)|exact zeq) rfl ?_)))<;>fail)|fail):p:=h
theorem dP1 {p:Prop} (h:p:=by first|((refine fB rfl ?_ ?_ rfl<;>(repeat' (first|exact dH|exact dI|refine cU rfl (by first|rfl|(exact congrArg (AObj.row _) (aH7 S 32 i hlt))|exact zeq) rfl ?_|refine bR rfl (by first|rfl|(exact congrArg (AObj.row _) (aH7 S 32 i hlt))|exact zeq) rfl ?_)))<;>fail)|fail):p:=h
theorem cS9 {p:Prop} (h:p:=by first|((refine eH [0,4] rfl rfl ?_ ?_ rfl rfl<;>(repeat' (first|exact cT|exact cI|refine cK rfl (by first|rfl|(exact congrArg (AObj.row _) hsn)|exact zeq) rfl ?_|refine bJ rfl (by first|rfl|(exact congrArg (AObj.row _) hsn)|exact zeq) rfl ?_)))<;>fail)|fail):p:=h
theorem iR {p:Prop} (h:p:=by first|((refine fB rfl ?_ ?_ rfl<;>(repeat' (first|exact dH|exact dI|refine cU rfl rQ rfl ?_|refine bR rfl rQ rfl ?_|refine bR rfl (by first|rfl|(rfl)) dZ ?_)))<;>fail)|fail):p:=h
theorem bY3 {p:Prop} (h:p:=by first|((refine fB rfl ?_ ?_ rfl<;>(repeat' (first|exact dH|exact dI|refine cU rfl (by first|rfl|(rw [cB0 _ _ _ hlt];rfl)|exact zeq) rfl ?_|refine bR rfl (by first|rfl|(rw [cB0 _ _ _ hlt];rfl)|exact zeq) rfl ?_)))<;>fail)|fail):p:=h
theorem dG9 {p:Prop} (h:p:=by first|((first|rfl|(first|rfl|exact congrArg (fun x:Nat=>AV.c (iv x)) (by rw [t1])|exact congrArg (fun x:Nat=>AV.c (iv x)) aA|exact congrArg (fun x:Int=>AV.c (iv x)) aA|exact congrArg (fun x=>AObj.row _ (vrc x)) t2.symm)|exact zeq)<;>fail)|fail):p:=h
theorem dH0 {p:Prop} (h:p:=by first|((refine eH [0,3] rfl rfl ?_ ?_ rfl rfl<;>(repeat' (first|exact cT|exact cI|refine cK rfl rQ rfl ?_|refine bJ rfl rQ rfl ?_)))<;>fail)|fail):p:=h
theorem dH1 {p:Prop} (h:p:=by first|((first|rfl|(first|exact congrArg (fun x:Nat=>AV.c (iv x)) (by rw [s1,hkl])|exact congrArg (fun x:Nat=>AV.c (iv x)) aA|exact congrArg (fun x=>AObj.row _ (vrc x)) (by rw [s2,hkr]))|exact zeq)<;>fail)|fail):p:=h
theorem bE7 {p:Prop} (h:p:=by first|((first|((repeat' (first|exact flcl_nil|exact wK _|exact flcl_int _ _|exact sA _|exact bH0|assumption|refine flcl_app ?_ ?_|refine flcl_cons ?_ ?_|refine aI0 ?_))<;>fail)|fail)<;>fail)|fail):p:=h
theorem bY4 {p:Prop} (h:p:=by first|((first|assumption|with_reducible exact gd1 eT|with_reducible exact gd2 eT|with_reducible exact gd3 eT|with_reducible exact gd4 eT|with_reducible rfl)<;>fail)|fail):p:=h
theorem iS {p:Prop} (h:p:=by first|((first|(simp only [Int.reduceAdd,Int.reduceSub,Int.reduceMul];exact w64 aA aA)|exact w64 aA aA|exact wu64 aA aA|exact wu8 aA aA|rfl)<;>fail)|fail):p:=h
theorem bY5 {p:Prop} (h:p:=by first|((first|rfl|((first|with_reducible refine gd1 ?_|with_reducible refine gd2 ?_|with_reducible refine gd3 ?_|with_reducible refine gd4 ?_);omega)|(simp only [*]<;>fail)|fail)<;>fail)|fail):p:=h
theorem dH2 {p:Prop} (h:p:=by first|((first|rfl|(first|rfl|exact congrArg (fun x:Nat=>AV.c (iv x)) aA|exact congrArg (fun x:Int=>AV.c (iv x)) aA|exact congrArg (AObj.row _) hset)|exact zeq)<;>fail)|fail):p:=h
theorem aC4 {p:Prop} (h:p:=by first|((first|first|exact lA hx (Nat.zero_add _)|exact lA hy (Nat.zero_add _)|exact lA hx aA|exact lA hy aA|exact sM (by first|rfl|omega)|rfl)<;>fail)|fail):p:=h
theorem dH3 {p:Prop} (h:p:=by first|((first|rfl|(first|rfl|exact congrArg (fun x=>AV.own 0 0 x 3 true) ho0.symm|exact congrArg (fun x=>AObj.row _ (vrc x)) hD0.symm)|exact zeq)<;>fail)|fail):p:=h
theorem dH4 {p:Prop} (h:p:=by first|((first|rfl|(first|rfl|exact congrArg (fun x=>AV.own 0 0 x 3 true) hso.symm|exact congrArg (fun x=>AObj.row _ (vrc x)) hs.symm)|exact zeq)<;>fail)|fail):p:=h
theorem dH5 {p:Prop} (h:p:=by first|((first|rfl|exact cI1 rfl rfl aA|exact cF6 aA|(simp<;>fail)|(congr 4;omega)|(congr 3;omega)|(congr 2;omega))<;>fail)|fail):p:=h
theorem dH6 {p:Prop} (h:p:=by first|((first|rfl|(first|rfl|exact congrArg (fun x=>AV.own 2 0 x 3 true) hso.symm|exact congrArg (AObj.row _) hsc)|exact zeq)<;>fail)|fail):p:=h
theorem dH7 {p:Prop} (h:p:=by first|((first|rfl|(first|rfl|exact congrArg (AObj.row _) hgz.symm|exact congrArg (AObj.row _) (by simpa using hsn))|exact zeq)<;>fail)|fail):p:=h
theorem dH8 {p:Prop} (h:p:=by first|((first|rfl|(first|rfl|exact congrArg (AObj.row _) hgz.symm|exact congrArg (AObj.row _) hcz.symm)|exact zeq)<;>fail)|fail):p:=h
theorem rP {p:Prop} (h:p:=by first|((repeat' (first|exact cI|refine bJ rfl rfl rfl ?_|refine bJ rfl setT_mp dZ ?_))<;>fail)|fail):p:=h
theorem aC5 {p:Prop} (h:p:=by first|((first|exact q64 aA aA aA|exact qu8 aA aA aA|rfl)<;>fail)|fail):p:=h
theorem dH9 {p:Prop} (h:p:=by first|((first|rfl|(first|rfl|exact congrArg (fun x:Int=>AV.c (iv x)) aA)|exact zeq)<;>fail)|fail):p:=h
theorem aN5 {p:Prop} (h:p:=by first|((first|exact lV _ _ aA|exact dT2 _ aA|exact dT3 _ aA)<;>fail)|fail):p:=h
theorem bE8 {p:Prop} (h:p:=by first|((first|rfl|(first|rfl|exact congrArg (AObj.row _) (by simpa using hsn))|exact zeq)<;>fail)|fail):p:=h
theorem bY6 {p:Prop} (h:p:=by first|((first|assumption|exact decide_eq_false aA|(simp only [*]<;>fail)|fail)<;>fail)|fail):p:=h
theorem bY7 {p:Prop} (h:p:=by first|((first|assumption|exact decide_eq_true aA|(simp only [*]<;>fail)|fail)<;>fail)|fail):p:=h
theorem dI0 {p:Prop} (h:p:=by first|((first|rfl|(exact congrArg (AObj.row 5) (bT7 l i aA))|exact zeq)<;>fail)|fail):p:=h
theorem dI1 {p:Prop} (h:p:=by first|((first|rfl|(exact congrArg (fun l=>AObj.tab (aI ktV.kc l)) hst)|exact zeq)<;>fail)|fail):p:=h
theorem dI2 {p:Prop} (h:p:=by first|((first|rfl|(exact congrArg (fun l=>AObj.tab (aI ktS.kc l)) hst)|exact zeq)<;>fail)|fail):p:=h
theorem dI3 {p:Prop} (h:p:=by first|((first|exact hfit|exact Nat.le_of_ble_eq_true rfl|omega|(simp<;>omega))<;>fail)|fail):p:=h
theorem dI4 {p:Prop} (h:p:=by first|((first|rfl|(first|rfl|exact congrArg (AObj.row 5) hap.symm)|exact zeq)<;>fail)|fail):p:=h
theorem dI5 {p:Prop} (h:p:=by first|((first|rfl|(exact congrArg (AObj.row 28) (aH7 S 32 i hlt))|exact zeq)<;>fail)|fail):p:=h
theorem dI6 {p:Prop} (h:p:=by first|((first|rfl|(exact congrArg (AObj.row _) (cN5 l i h0 hlt))|exact zeq)<;>fail)|fail):p:=h
theorem bY8 {p:Prop} (h:p:=by first|((first|exact eG cR|exact eG hU|exact iV rfl rfl zln)<;>fail)|fail):p:=h
theorem dI7 {p:Prop} (h:p:=by first|((first|rfl|(exact congrArg (AObj.row 5) (cH9 S k i hlt))|exact zeq)<;>fail)|fail):p:=h
theorem dI8 {p:Prop} (h:p:=by first|((rw [fO (m:=frA.length) (k:=0) rfl rfl aA aN];simp)<;>fail)|fail):p:=h
theorem aN6 {p:Prop} (h:p:=by first|((first|omega|exact Nat.le_of_ble_eq_true rfl|omega|(simp<;>omega))<;>fail)|fail):p:=h
theorem dI9 {p:Prop} (h:p:=by first|((first|rfl|(exact congrArg (AObj.row 5) (by simp [u8c]))|exact zeq)<;>fail)|fail):p:=h
theorem aC6 {p:Prop} (h:p:=by first|((first|(simp only [Int.reduceTMod];rfl)|exact r64 aA|rfl)<;>fail)|fail):p:=h
theorem dJ0 {p:Prop} (h:p:=by first|((first|rfl|(exact congrArg (AObj.row 5) (cJ0 l k))|exact zeq)<;>fail)|fail):p:=h
theorem dJ1 {p:Prop} (h:p:=by first|((first|rfl|(rw [show 8*k+8=8*(k+1) by omega])|exact zeq)<;>fail)|fail):p:=h
theorem aC7 {p:Prop} (h:p:=by first|((first|rfl|exact eF2 eT|(simp<;>fail)|fail)<;>fail)|fail):p:=h
theorem dJ2 {p:Prop} (h:p:=by first|((first|rfl|with_reducible assumption|omega|(simp;omega))<;>fail)|fail):p:=h
theorem dJ3 {p:Prop} (h:p:=by first|((first|exact Nat.le_of_ble_eq_true rfl|omega|(simp;omega))<;>fail)|fail):p:=h
theorem dJ4 {p:Prop} (h:p:=by first|((first|rfl|(exact dB8 l n k hl aA)|exact zeq)<;>fail)|fail):p:=h
theorem vJ {p:Prop} (h:p:=by first|((first|exact dN2|exact src_nil|exact cN9 rfl zln)<;>fail)|fail):p:=h
theorem mI {p:Prop} (h:p:=by first|((first|(simp only [maxLen];omega)|(simp [maxLen];omega))<;>fail)|fail):p:=h
theorem sT {p:Prop} (h:p:=by first|((first|fail|exact sM (by first|rfl|omega)|rfl)<;>fail)|fail):p:=h
theorem nA {p:Prop} (h:p:=by first|((first|exact IsAgg.closed rfl rfl|exact IsAgg.mixed _)<;>fail)|fail):p:=h
theorem bY9 {p:Prop} (h:p:=by first|((first|exact size_mk eT|assumption|rfl)<;>fail)|fail):p:=h
theorem bZ0 {p:Prop} (h:p:=by first|((rw [List.drop_zero,List.take_of_length_le aA])<;>fail)|fail):p:=h
theorem oM {p:Prop} (h:p:=by first|((first|exact eY|exact dW cR eY)<;>fail)|fail):p:=h
theorem bZ1 {p:Prop} (h:p:=by first|((rw [List.length_append,List.length_singleton];omega)<;>fail)|fail):p:=h
theorem pB {p:Prop} (h:p:=by first|((first|exact Parts.mixed _|exact Parts.closed _)<;>fail)|fail):p:=h
theorem sU {p:Prop} (h:p:=by first|((first|exact aE|exact (cB rfl rfl zgb))<;>fail)|fail):p:=h
theorem bZ2 {p:Prop} (h:p:=by first|((first|exact w64 aA aA|rfl)<;>fail)|fail):p:=h
theorem bZ3 {p:Prop} (h:p:=by first|((first|exact toList_mk _|assumption|rfl)<;>fail)|fail):p:=h
theorem cV {p:Prop} (h:p:=by first|((first|exact mL|exact cY2 rfl)<;>fail)|fail):p:=h
theorem bZ4 {p:Prop} (h:p:=by first|((rw [List.length_drop,hlisted];exact b4)<;>fail)|fail):p:=h
theorem bE9 {p:Prop} (h:p:=by exact ⟨cK0,bA0,trivial⟩):p:=h
theorem bF0 {p:Prop} (h:p:=by exact ⟨cJ9,aZ8,trivial⟩):p:=h
theorem dX7 {p:Prop} (h:p:=by exact ⟨cJ3,aZ4,trivial⟩):p:=h
theorem bZ5 {p:Prop} (h:p:=by exact ⟨bU9,aV9,trivial⟩):p:=h
theorem bZ6 {p:Prop} (h:p:=by first|((first|rfl|(simp<;>fail)|fail)<;>fail)|fail):p:=h
theorem sV {p:Prop} (h:p:=by first|((rw [xC hx,List.map_map];rfl)<;>fail)|fail):p:=h
theorem dX8 {p:Prop} (h:p:=by exact ⟨cR0,bL8,trivial⟩):p:=h
theorem dX9 {p:Prop} (h:p:=by exact ⟨dC4,bT5,trivial⟩):p:=h
theorem dY0 {p:Prop} (h:p:=by exact ⟨cU6,bO7,trivial⟩):p:=h
theorem dY1 {p:Prop} (h:p:=by exact ⟨cT2,bN7,trivial⟩):p:=h
theorem dY2 {p:Prop} (h:p:=by exact ⟨dA5,bS0,trivial⟩):p:=h
theorem bF1 {p:Prop} (h:p:=by first|((simp only [maxLen] at h63;omega)<;>fail)|fail):p:=h
theorem oN {p:Prop} (h:p:=by first|((simp [Act.eval,Array.replicate])<;>fail)|fail):p:=h
theorem bZ7 {p:Prop} (h:p:=by first|((rw [hus.length,hcl,hszt,hs'])<;>fail)|fail):p:=h
theorem rQ {p:Prop} (h:p:=by first|((first|rfl|(rfl)|exact zeq)<;>fail)|fail):p:=h
theorem aN7 {p:Prop} (h:p:=by first|((rw [List.length_append];omega)<;>fail)|fail):p:=h
theorem pC {p:Prop} (h:p:=by first|((rw [List.length_take];omega)<;>fail)|fail):p:=h
theorem aC8 {p:Prop} (h:p:=by first|((rw [List.length_drop];omega)<;>fail)|fail):p:=h
theorem aN8 {p:Prop} (h:p:=by exact dW3 l i aA):p:=h
theorem aC9 {p:Prop} (h:p:=by first|((rw [← e1 id hid];exact hH)<;>fail)|fail):p:=h
theorem bF2 {p:Prop} (h:p:=by first|((rw [← e1 id' k2];exact k4)<;>fail)|fail):p:=h
theorem bF3 {p:Prop} (h:p:=by first|((rw [← hH id hid];exact hh)<;>fail)|fail):p:=h
theorem rR {p:Prop} (h:p:=by exact dN3 l i aA):p:=h
theorem bF4 {p:Prop} (h:p:=by first|((rw [← e1 id k1];exact k3)<;>fail)|fail):p:=h
theorem bF5 {p:Prop} (h:p:=by first|((rw [← e1 id k1];exact k2)<;>fail)|fail):p:=h
theorem xX {p:Prop} (h:p:=by first|((simp only [maxLen];omega)<;>fail)|fail):p:=h
theorem dJ5 {p:Prop} (h:p:=by first|((rw [e1 id hid];exact hH)<;>fail)|fail):p:=h
theorem pD {p:Prop} (h:p:=by first|((rw [Tryz.ntmps258];rfl)<;>fail)|fail):p:=h
theorem pE {p:Prop} (h:p:=by first|((rw [Tryz.ntmps255];rfl)<;>fail)|fail):p:=h
theorem aD0 {p:Prop} (h:p:=by first|((rw [Tryz.ntmps144];rfl)<;>fail)|fail):p:=h
theorem pF {p:Prop} (h:p:=by first|((rw [Tryz.ntmps216];rfl)<;>fail)|fail):p:=h
theorem bF6 {p:Prop} (h:p:=by first|((rw [Tryz.ntmps175];rfl)<;>fail)|fail):p:=h
theorem bF7 {p:Prop} (h:p:=by first|((rw [Tryz.ntmps225];rfl)<;>fail)|fail):p:=h
theorem aH1 {p:Prop} (h:p:=by first|((rw [Tryz.ntmps227];rfl)<;>fail)|fail):p:=h
theorem uB {p:Prop} (h:p:=by first|((rw [Tryz.ntmps146];rfl)<;>fail)|fail):p:=h
theorem xQ {p:Prop} (h:p:=by first|((rw [Tryz.ntmps183];rfl)<;>fail)|fail):p:=h
theorem fP {p:Prop} (h:p:=by first|((rw [Tryz.ntmps134];rfl)<;>fail)|fail):p:=h
theorem xR {p:Prop} (h:p:=by first|((rw [Tryz.ntmps222];rfl)<;>fail)|fail):p:=h
theorem lT {p:Prop} (h:p:=by first|((rw [Tryz.ntmps121];rfl)<;>fail)|fail):p:=h
theorem uC {p:Prop} (h:p:=by first|((simpa [qD] using k)<;>fail)|fail):p:=h
theorem kT {p:Prop} (h:p:=by first|((first|omega|decide)<;>fail)|fail):p:=h
theorem lU {p:Prop} (h:p:=by first|((rw [Tryz.ntmps26];rfl)<;>fail)|fail):p:=h
theorem xS {p:Prop} (h:p:=by exact dS7 _ _ _ hlt):p:=h
theorem rX {p:Prop} (h:p:=by first|((rw [Tryz.ntmps61];rfl)<;>fail)|fail):p:=h
theorem mS {p:Prop} (h:p:=by first|((rw [Tryz.ntmps67];rfl)<;>fail)|fail):p:=h
theorem uD {p:Prop} (h:p:=by first|((rw [Tryz.ntmps66];rfl)<;>fail)|fail):p:=h
theorem xT {p:Prop} (h:p:=by first|((rw [Tryz.ntmps63];rfl)<;>fail)|fail):p:=h
theorem aH2 {p:Prop} (h:p:=by first|((rw [Tryz.ntmps27];rfl)<;>fail)|fail):p:=h
theorem oX {p:Prop} (h:p:=by first|((rw [Tryz.ntmps62];rfl)<;>fail)|fail):p:=h
theorem uE {p:Prop} (h:p:=by first|((rw [Tryz.ntmps21];rfl)<;>fail)|fail):p:=h
theorem xU {p:Prop} (h:p:=by first|((rw [Tryz.ntmps80];rfl)<;>fail)|fail):p:=h
theorem xV {p:Prop} (h:p:=by first|((rw [Tryz.ntmps74];rfl)<;>fail)|fail):p:=h
theorem uF {p:Prop} (h:p:=by first|((rw [Tryz.ntmps24];rfl)<;>fail)|fail):p:=h
theorem aH3 {p:Prop} (h:p:=by first|((unfold okP;simp [t0])<;>fail)|fail):p:=h
theorem aH4 {p:Prop} (h:p:=by first|((unfold okP;simp [n0])<;>fail)|fail):p:=h
theorem aH5 {p:Prop} (h:p:=by first|((rw [← e3];exact hw')<;>fail)|fail):p:=h
theorem jE {p:Prop} (h:p:=by first|((first|rfl|fail)<;>fail)|fail):p:=h
theorem kU {p:Prop} (h:p:=by first|((dsimp only;omega)<;>fail)|fail):p:=h
theorem rY {p:Prop} (h:p:=by first|((simp only;omega)<;>fail)|fail):p:=h
theorem xW {p:Prop} (h:p:=by first|((simpa using hlt)<;>fail)|fail):p:=h
theorem jF {p:Prop} (h:p:=by first|((rw [← hw1];rfl)<;>fail)|fail):p:=h
theorem oY {p:Prop} (h:p:=by first|((simpa using hm')<;>fail)|fail):p:=h
theorem fI {p:Prop} (h:p:=by first|((simpa using hl)<;>fail)|fail):p:=h
theorem uG {p:Prop} (h:p:=by first|((simpa using hj)<;>fail)|fail):p:=h
theorem uH {p:Prop} (h:p:=by first|((simpa using hi)<;>fail)|fail):p:=h
theorem uI {p:Prop} (h:p:=by first|((simpa using ha)<;>fail)|fail):p:=h
theorem oZ {p:Prop} (h:p:=by first|((simpa using h)<;>fail)|fail):p:=h
theorem eN {p:Prop} (h:p:=by first|((simp;omega)<;>fail)|fail):p:=h
theorem kF {p:Prop} (h:p:=by first|((rw [hX,hj])<;>fail)|fail):p:=h
theorem eT {p:Prop} (h:p:=by assumption):p:=h
theorem aW {p:Prop} (h:p:=by kernel_rfl):p:=h
theorem nV {p:Prop} (h:p:=by first|((simp [lt])<;>fail)|fail):p:=h
theorem iM {p:Prop} (h:p:=by first|((cases h)<;>fail)|fail):p:=h
theorem aN {p:Prop} (h:p:=by decide):p:=h
theorem aA {p:Prop} (h:p:=by omega):p:=h
theorem aP {p:Prop} (h:p:=by first|((simp)<;>fail)|fail):p:=h
theorem eX {p:Prop} (h:p:=by rfl):p:=h
theorem nB {p:Prop} (h:p:=by exact ⟨k1,g,k2.trans hg,hu⟩):p:=h
theorem cA2 {p:Prop} (h:p:=by exact .inl ⟨h1,h2,k2.trans h3,h4⟩):p:=h
theorem dY3 {p:Prop} (h:p:=by refine and_congr Iff.rfl ⟨fun hk id o hid hH=>hk id o hid dJ5,fun hk id o hid hH=>hk id o hid aC9⟩):p:=h
theorem cA5 {p:Prop} (h:p:=by exact hK' _ _ (next B _ _ ⟨M,k1,c2,fun t av ht=>Rep.ext k2 _ _ (c3 t av ht),c4.ext k2⟩)):p:=h
theorem dY4 {p:Prop} (h:p:=by exact ⟨none,0,us,by rw [h4,h1],by omega,by simp [maxLen],hl,hus,hon,fun hn=>absurd hn aA⟩):p:=h
theorem dY5 {p:Prop} (h:p:=by exact ⟨A,cp,us,h3,by omega,h4,hl,hus,hon,fun hn=>absurd hn aA⟩):p:=h
theorem dY6 {p:Prop} (h:p:=by exact RepC.mono (fun b hb hl=>⟨⟨.inl hb,fun id o hid=>absurd hid nV⟩,hl,rfl⟩) _ _ hru):p:=h
theorem cT0 {p:Prop} (h:p:=by exact ((Below.refl _ _).drew).alloc (Nat.le_refl _) _):p:=h
theorem dP2 {p:Prop} (h:p:=by exact c1.inj q q' o o' g p1 r1 p3 r3 h6 h7):p:=h
theorem bF8 {p:Prop} (h:p:=by exact .inl ⟨j+1,oj,by omega,by simpa using h2,h3,by simpa using h4⟩):p:=h
theorem bF9 {p:Prop} (h:p:=by exact .inl ⟨0,o,by omega,rfl,by rw [hd,hdt],rfl⟩):p:=h
theorem bZ8 {p:Prop} (h:p:=by exact c4 t av h1 (fun j o' hj _=>hno j o' hj)):p:=h
theorem bZ9 {p:Prop} (h:p:=by exact ⟨M,hg.1,c2,fun t av ht=>Rep.ext hg.2 _ _ (c3 t av ht),c4.ext hg.2⟩):p:=h
theorem cA0 {p:Prop} (h:p:=by exact ⟨j,List.mem_range.1 hj,by simpa using hp⟩):p:=h
theorem cA1 {p:Prop} (h:p:=by exact tail_waits b3.1 b3.2 eN hinv _ j0 rfl hj0 (getD_in (hsize j0 hj0) hu0) i h hi):p:=h
theorem dJ6 {p:Prop} (h:p:=by exact (h1.obj _ _ (hn' id hid) (hH id o hH').1).lessR hls rfl (hH id o hH').2):p:=h
theorem dJ7 {p:Prop} (h:p:=by exact and_congr Iff.rfl ⟨fun hk id o hid hH=>hk id o hid dJ5,fun hk id o hid hH=>hk id o hid aC9⟩):p:=h
theorem dJ8 {p:Prop} (h:p:=by exact h5.ext hext (fun b hb=>e5 b (h5.lt b hb) (fun he=>h3 (c1.inj q id o _ b h1 hid h4 hoH hb he)))):p:=h
theorem bG0 {p:Prop} (h:p:=by exact hK' undef _ M k2 k1 trivial):p:=h
theorem aO0 {p:Prop} (h:p:=by exact .inr (.inl (Nat.le_trans hc.fr.size h1))):p:=h
theorem cA3 {p:Prop} (h:p:=by exact hK v w' M (g2.trans k2) k1 (RepC.mono hmon _ _ hv)):p:=h
theorem jZ {p:Prop} (h:p:=by refine dA8 zio ztr rfl rfl rfl rfl zln (ResL.one (ResA.tmp rfl))):p:=h
theorem bB {p:Prop} (h:p:=by refine dA zio ztr rfl (ResL.one (ResA.tmp rfl)) zou):p:=h
theorem mJ {p:Prop} (h:p:=by refine dA zio ztr rfl (ResL.one zrs) zou):p:=h
theorem iT {p:Prop} (h:p:=by exact ⟨i+1,by omega,by omega,iR⟩):p:=h
theorem dE {p:Prop} (h:p:=by refine wT zio ztr rfl rfl (ResL.one (ResA.tmp rfl)) (aJ6 zfz rfl rfl)):p:=h
theorem eQ {p:Prop} (h:p:=by refine wT zio ztr rfl rfl (ResL.one zrs) (aJ6 zfz rfl rfl)):p:=h
theorem dJ9 {p:Prop} (h:p:=by refine wT zio ztr rfl rfl (ResL.one zrs) (aJ6 (eG hcv) rfl rfl)):p:=h
theorem dK0 {p:Prop} (h:p:=by refine wT zio ztr rfl rfl (ResL.one zrs) (aJ6 (eG (mT hcvl)) rfl rfl)):p:=h
theorem dK1 {p:Prop} (h:p:=by refine dA zio ztr rfl (ResL.three (ResA.tmp rfl) (ResA.tmp rfl) (ResA.tmp rfl)) (jV (aZ zfz (aZ zfz (aZ zfz cY))))):p:=h
theorem dK2 {p:Prop} (h:p:=by refine dA zio ztr rfl (ResL.three zrs (ResA.tmp rfl) (ResA.tmp rfl)) (jV (aZ zfz (aZ zfz (aZ zfz cY))))):p:=h
theorem xZ {p:Prop} (h:p:=by refine dA9 zio ztr rfl (ResF.mk zrs zrs (ResA.tmp rfl) (ResA.tmp rfl)) (jV (aZ zfz (aZ zfz (aZ zfz (aZ zfz cY)))))):p:=h
theorem aO1 {p:Prop} (h:p:=by refine bJ8 zio ztr rfl rfl rfl rP rfl ResL.none (cF0)):p:=h
theorem eD {p:Prop} (h:p:=by refine bJ8 zio ztr rfl rfl rfl rP rfl (ResL.one (ResA.tmp rfl)) (zfz)):p:=h
theorem bG1 {p:Prop} (h:p:=by refine dA zio dX7 rfl (ResL.three zrs zrs zrs) (jV (aZ (iN (iV rfl rfl hll) (kA e4 e5)) (aZ (iN (eG cR) (sW e6)) (aZ (iN (eG cR) (sW e7)) cY))))):p:=h
theorem aD1 {p:Prop} (h:p:=by refine dA zio dX8 rfl (ResL.two zrs zrs) (jV (aZ zfz (aZ zfz cY)))):p:=h
theorem aO2 {p:Prop} (h:p:=by refine dA zio dX9 rfl (ResL.two zrs zrs) (jV (aZ zfz (aZ zfz cY)))):p:=h
theorem cA4 {p:Prop} (h:p:=by refine dA zio dY0 rfl (ResL.two zrs zrs) (jV (aZ zfz (aZ zfz cY)))):p:=h
theorem dK3 {p:Prop} (h:p:=by refine dA zio (by exact ⟨cT1,bN6,trivial⟩) rfl (ResL.two zrs zrs) (jV (aZ zfz (aZ zfz cY)))):p:=h
theorem aO3 {p:Prop} (h:p:=by refine dA zio dY1 rfl (ResL.two zrs zrs) (jV (aZ zfz (aZ zfz cY)))):p:=h
theorem cA6 {p:Prop} (h:p:=by refine dA zio dY2 rfl (ResL.two zrs zrs) (jV (aZ zfz (aZ zfz cY)))):p:=h
theorem cA7 {p:Prop} (h:p:=by refine dA zio bZ5 rfl (ResL.two zrs zrs) (jV (aZ (eG (mT aY9)) (aZ (eG cR) cY)))):p:=h
theorem dK4 {p:Prop} (h:p:=by refine dA zio bZ5 rfl (ResL.two zrs zrs) (jV (aZ zfz (aZ zfz cY)))):p:=h
theorem dK5 {p:Prop} (h:p:=by refine bJ9 zio ztr rfl rfl rfl rfl (List.take_of_length_le aA) (ResL.one (ResA.tmp rfl))):p:=h
end Go
set_option linter.unusedSimpArgs false
set_option linter.unusedVariables false
namespace Go.Av
open Go Go.RowKit
inductive CV where
 | v (x:Value)
 | sl (size n:Nat) (cs:List CV)
 | agg (cs:List CV)
mutual
def RepC (ok : Nat → Prop) (w : World) : CV → Value → Prop
  | .v x, u => u = x
  | .sl size n cs, u => ∃ A c us, u = .slice A n c ∧ n ≤ c ∧ c ≤ maxLen ∧ cs.length = n * size ∧ RepCs ok w cs us ∧ (∀ u ∈ us, u.oneCell' = true) ∧
      (0 < n → ∃ b o, A = some ⟨b, o, none⟩ ∧ ok b ∧ b < w.heap.size ∧ ∀ j x, us[j]? = some x → w.cell? ⟨b, o + j, none⟩ = some x)
  | .agg cs, u => ∃ us, u = .agg us.toArray ∧ RepCs ok w cs us ∧ ∀ u ∈ us, u.oneCell' = true
def RepCs (ok:Nat→Prop) (w:World):List CV→List Value→Prop
 | [],us=>us=[]
 | c::cs,us=>∃u us',us=u::us'∧RepC ok w c u∧RepCs ok w cs us'
end
def kM (ok ok':Nat→Prop) (w w':World):Prop:=∀b,ok b→b<w.heap.size→ok' b∧b<w'.heap.size∧w'.heap[b]? = w.heap[b]?
mutual
theorem RepC.mono {ok ok':Nat→Prop} {w w':World} (h:kM ok ok' w w'):∀(c:CV) (u:Value),RepC ok w c u→RepC ok' w' c u
 | .v x,u,hu=>by simpa [RepC] using hu
 | .sl size n cs,u,hu=>by
  simp only [RepC] at hu ⊢
  obtain ⟨A,c,us,h1,h2,h3,h4,h5,h7,h6⟩:=hu
  refine ⟨A,c,us,h1,h2,h3,h4,RepCs.mono h cs us h5,h7,fun hn=>?_⟩
  obtain ⟨b,o,e,hb,hlt,hc⟩:=h6 hn
  obtain ⟨k1,k2,k3⟩:=h b hb hlt
  exact ⟨b,o,e,k1,k2,fun j x hx=>by rw [World.cell?_of_block (w:=w) k3];exact hc j x hx⟩
 | .agg cs,u,hu=>by
  simp only [RepC] at hu ⊢
  obtain ⟨us,h1,h2,h3⟩:=hu
  exact ⟨us,h1,RepCs.mono h cs us h2,h3⟩
theorem RepCs.mono {ok ok':Nat→Prop} {w w':World} (h:kM ok ok' w w'):∀(cs:List CV) (us:List Value),RepCs ok w cs us→RepCs ok' w' cs us
 | [],us,hu=>by simpa [RepCs] using hu
 | c::cs,us,hu=>by
  simp only [RepCs] at hu ⊢
  obtain ⟨u,us',h1,h2,h3⟩:=hu
  exact ⟨u,us',h1,RepC.mono h c u h2,RepCs.mono h cs us' h3⟩
end
section RepCs
variable {ok:Nat→Prop} {w:World}
theorem RepCs.length:∀{cs:List CV} {us:List Value},RepCs ok w cs us→us.length=cs.length
 | [],us,h=>by simp only [RepCs] at h;subst h;rfl
 | c::cs,us,h=>by
  simp only [RepCs] at h
  obtain ⟨u,us',rfl,_,h3⟩:=h
  simp [RepCs.length h3]
theorem RepCs.get:∀{cs:List CV} {us:List Value},RepCs ok w cs us→∀{j:Nat} {c:CV},cs[j]? = some c→∃u,us[j]? = some u∧RepC ok w c u
 | [],us,h,j,c,hc=>by simp at hc
 | c::cs,us,h,j,c',hc=>by
  simp only [RepCs] at h
  obtain ⟨u,us',rfl,h2,h3⟩:=h
  cases j with
  | zero=>simp at hc;subst hc;exact ⟨u,rfl,h2⟩
  | succ j=>simpa using RepCs.get h3 (by simpa using hc)
theorem RepCs.append:∀{cs ds:List CV} {us vs:List Value},RepCs ok w cs us→RepCs ok w ds vs→RepCs ok w (cs++ds) (us++vs)
 | [],ds,us,vs,h,k=>by simp only [RepCs] at h;subst h;simpa using k
 | c::cs,ds,us,vs,h,k=>by
  simp only [RepCs] at h
  obtain ⟨u,us',rfl,h2,h3⟩:=h
  exact ⟨u,us'++vs,rfl,h2,RepCs.append h3 k⟩
theorem RepCs.take:∀(n:Nat) {cs:List CV} {us:List Value},RepCs ok w cs us→RepCs ok w (cs.take n) (us.take n)
 | 0,cs,us,h=>by simp [RepCs]
 | n+1,[],us,h=>by simp only [RepCs] at h;subst h;simp [RepCs]
 | n+1,c::cs,us,h=>by
  simp only [RepCs] at h
  obtain ⟨u,us',rfl,h2,h3⟩:=h
  simp only [List.take_succ_cons,RepCs]
  exact ⟨u,us'.take n,rfl,h2,RepCs.take n h3⟩
theorem RepCs.drop:∀(n:Nat) {cs:List CV} {us:List Value},RepCs ok w cs us→RepCs ok w (cs.drop n) (us.drop n)
 | 0,cs,us,h=>by simpa using h
 | n+1,[],us,h=>by simp only [RepCs] at h;subst h;simp [RepCs]
 | n+1,c::cs,us,h=>by
  simp only [RepCs] at h
  obtain ⟨u,us',rfl,h2,h3⟩:=h
  simpa using RepCs.drop n h3
theorem RepCs.set:∀{cs:List CV} {us:List Value},RepCs ok w cs us→∀(j:Nat) {c:CV} {u:Value},RepC ok w c u→RepCs ok w (cs.set j c) (us.set j u)
 | [],us,h,j,c,u,k=>by simp only [RepCs] at h;subst h;simp [RepCs]
 | c::cs,us,h,j,c',u',k=>by
  simp only [RepCs] at h
  obtain ⟨u,us',rfl,h2,h3⟩:=h
  cases j with
  | zero=>exact ⟨u',us',rfl,k,h3⟩
  | succ j=>exact ⟨u,us'.set j u',rfl,h2,RepCs.set h3 j k⟩
theorem RepCs.plain (vs:List Value):RepCs ok w (vs.map CV.v) vs:=by
 induction vs with
 | nil=>simp [RepCs]
 | cons v vs ih=>exact ⟨v,vs,rfl,rfl,ih⟩
theorem RepCs.of_plain {vs us:List Value} (h:RepCs ok w (vs.map CV.v) us):us=vs:=by
 induction vs generalizing us with
 | nil=>simpa [RepCs] using h
 | cons v vs ih =>
  simp only [List.map_cons,RepCs,RepC] at h
  obtain ⟨u,us',rfl,rfl,h3⟩:=h
  rw [ih h3]
end RepCs
def CV.one:CV→Bool
 | .v x=>x.oneCell'
 | .sl .. => true
 | .agg _=>false
theorem RepC.one {ok:Nat→Prop} {w:World} {c:CV} {u:Value} (h:RepC ok w c u) (h1:c.one=true):u.oneCell'=true∧u.cells = #[u]:=by
 cases c with
 | v x =>
  simp only [RepC] at h
  subst h
  simp only [CV.one] at h1
  refine ⟨h1,?_⟩
  cases u<;>simp_all [Value.oneCell',Value.cells]
 | sl size n cs =>
  simp only [RepC] at h
  obtain ⟨A,c,us,rfl,_⟩:=h
  exact ⟨rfl,rfl⟩
 | agg cs=>cases h1
theorem RepCs.one {ok:Nat→Prop} {w:World}:∀{cs:List CV} {us:List Value},RepCs ok w cs us→(∀c∈cs,c.one=true)→∀u∈us,u.oneCell'=true
 | [],us,h,_,u,hu=>by simp only [RepCs] at h;subst h;simp at hu
 | c::cs,us,h,h1,u,hu=>by
  simp only [RepCs] at h
  obtain ⟨u',us',rfl,h2,h3⟩:=h
  rcases List.mem_cons.1 hu with rfl|hu
  ·exact (h2.one (h1 c aP)).1
  ·exact RepCs.one h3 (fun c hc=>h1 c (by simp [hc])) u hu
inductive AV where
 | c (x:CV)
 | ref (id off:Nat)
 | own (id off n size:Nat) (full:Bool)
 | ip (cs:List CV) (off:Nat)
 | agg (xs:List AV)
 | tup (xs:List AV)
 | fn (f:FuncId) (caps:List AV)
 | yld (id:Nat)
 | mh (id:Nat)
 | bm (f:FuncId) (id:Nat)
 | junk
structure Cx where
 dom:Nat→Prop
 M:Nat→Option Nat
 ok:Nat→Prop
 w:World
mutual
def Rep (C : Cx) : AV → Value → Prop
  | .c x, u => RepC C.ok C.w x u
  | .ref id off, u => C.dom id ∧ ∃ g, C.M id = some g ∧ u = .pointer (some ⟨g, off, none⟩)
  | .own id off n size full, u => C.dom id ∧ ((n = 0 ∧ off = 0 ∧ C.M id = none ∧ u = .slice none 0 0) ∨
      (∃ g cp, C.M id = some g ∧ u = .slice (some ⟨g, off, none⟩) n cp ∧ n ≤ cp ∧ cp ≤ maxLen ∧ (full = true → ∃ e, C.w.shape? g = some (e, off + cp * size))) ∨
      (n = 0 ∧ full = false ∧ ∃ A cp, u = .slice A 0 cp ∧ cp ≤ maxLen))
  | .ip cs off, u => ∃ b o us, u = .pointer (some ⟨b, o + off, none⟩) ∧ C.ok b ∧ b < C.w.heap.size ∧ RepCs C.ok C.w cs us ∧ (∀ u ∈ us, u.oneCell' = true) ∧ ∀ j x, us[j]? = some x → C.w.cell? ⟨b, o + j, none⟩ = some x
  | .agg xs, u => ∃ us, u = .agg us.toArray ∧ RepL C xs us
  | .tup xs, u => ∃ us, u = .tuple us.toArray ∧ RepL C xs us
  | .fn f caps, u => ∃ us, u = .func (.func f) #[] us.toArray ∧ RepL C caps us
  | .yld id, u => C.dom id ∧ ∃ g, C.M id = some g ∧ u = .func (.yield g) #[] #[]
  | .mh id, u => C.dom id ∧ ∃ g, C.M id = some g ∧ u = .map (some g)
  | .bm f id, u => C.dom id ∧ ∃ g, C.M id = some g ∧ u = .func (.func f) #[.pointer (some ⟨g, 0, none⟩)] #[]
  | .junk, _ => True
def RepL (C:Cx):List AV→List Value→Prop
 | [],us=>us=[]
 | c::cs,us=>∃u us',us=u::us'∧Rep C c u∧RepL C cs us'
end
theorem shp {w w':World} (h:∀b x,w.shape? b=some x→w'.shape? b=some x):∀b e s,w.shape? b=some (e,s)→∃e',w'.shape? b=some (e',s):=fun b e s hs=>⟨e,h b _ hs⟩
structure Ext (C C':Cx):Prop where
 dom:∀id,C.dom id→C'.dom id∧C'.M id=C.M id
 ok:kM C.ok C'.ok C.w C'.w
 shape:∀b e s,C.w.shape? b=some (e,s)→∃e',C'.w.shape? b=some (e',s)
theorem Ext.refl (C:Cx):Ext C C:=⟨fun _ h=>⟨h,rfl⟩,fun _ h k=>⟨h,k,rfl⟩,shp fun _ _ h=>h⟩
theorem Ext.trans {A B C : Cx} (h : Ext A B) (k : Ext B C) : Ext A C :=
  ⟨fun id hd => ⟨(k.dom id (h.dom id hd).1).1, (k.dom id (h.dom id hd).1).2.trans (h.dom id hd).2⟩,
   fun b hb hl => let ⟨a1, a2, a3⟩ := h.ok b hb hl; let ⟨b1, b2, b3⟩ := k.ok b a1 a2; ⟨b1, b2, b3.trans a3⟩,
   fun b e s hx => let ⟨e1, h1⟩ := h.shape b e s hx; k.shape b e1 s h1⟩
mutual
theorem Rep.ext {C C':Cx} (h:Ext C C'):∀(x:AV) (u:Value),Rep C x u→Rep C' x u
 | .c x,u,hu=>by simp only [Rep] at hu ⊢;exact RepC.mono h.ok x u hu
 | .ref id off,u,hu=>by
  simp only [Rep] at hu ⊢
  obtain ⟨hd,g,hg,hu⟩:=hu
  obtain ⟨k1,k2⟩:=h.dom id hd
  exact nB
 | .own id off n size full,u,hu=>by
  simp only [Rep] at hu ⊢
  obtain ⟨hd,hu⟩:=hu
  obtain ⟨k1,k2⟩:=h.dom id hd
  refine ⟨k1,?_⟩
  rcases hu with ⟨h1,h2,h3,h4⟩|⟨g,cp,h1,h2,h3,h4,h5⟩|h6
  ·exact cA2
  ·exact .inr (.inl ⟨g,cp,k2.trans h1,h2,h3,h4,fun hf=>let ⟨e,he⟩:=h5 hf;h.shape _ e _ he⟩)
  ·exact .inr (.inr h6)
 | .ip cs off,u,hu=>by
  simp only [Rep] at hu ⊢
  obtain ⟨b,o,us,h1,h2,h3,h4,h6,h5⟩:=hu
  obtain ⟨k1,k2,k3⟩:=h.ok b h2 h3
  exact ⟨b,o,us,h1,k1,k2,RepCs.mono h.ok cs us h4,h6,fun j x hx=>by rw [World.cell?_of_block (w:=C.w) k3];exact h5 j x hx⟩
 | .agg xs,u,hu=>by
  simp only [Rep] at hu ⊢
  obtain ⟨us,h1,h2⟩:=hu
  exact ⟨us,h1,RepL.ext h xs us h2⟩
 | .tup xs,u,hu=>by
  simp only [Rep] at hu ⊢
  obtain ⟨us,h1,h2⟩:=hu
  exact ⟨us,h1,RepL.ext h xs us h2⟩
 | .fn f caps,u,hu=>by
  simp only [Rep] at hu ⊢
  obtain ⟨us,h1,h2⟩:=hu
  exact ⟨us,h1,RepL.ext h caps us h2⟩
 | .yld id,u,hu=>by
  simp only [Rep] at hu ⊢
  obtain ⟨hd,g,hg,hu⟩:=hu
  obtain ⟨k1,k2⟩:=h.dom id hd
  exact nB
 | .mh id,u,hu=>by
  simp only [Rep] at hu ⊢
  obtain ⟨hd,g,hg,hu⟩:=hu
  obtain ⟨k1,k2⟩:=h.dom id hd
  exact nB
 | .bm f id,u,hu=>by
  simp only [Rep] at hu ⊢
  obtain ⟨hd,g,hg,hu⟩:=hu
  obtain ⟨k1,k2⟩:=h.dom id hd
  exact nB
 | .junk,u,hu=>by simp only [Rep]
theorem RepL.ext {C C':Cx} (h:Ext C C'):∀(xs:List AV) (us:List Value),RepL C xs us→RepL C' xs us
 | [],us,hu=>by simpa [RepL] using hu
 | c::cs,us,hu=>by
  simp only [RepL] at hu ⊢
  obtain ⟨u,us',h1,h2,h3⟩:=hu
  exact ⟨u,us',h1,Rep.ext h c u h2,RepL.ext h cs us' h3⟩
end
section RepL
variable {C:Cx}
theorem RepL.length:∀{cs:List AV} {us:List Value},RepL C cs us→us.length=cs.length
 | [],us,h=>by simp only [RepL] at h;subst h;rfl
 | c::cs,us,h=>by
  simp only [RepL] at h
  obtain ⟨u,us',rfl,_,h3⟩:=h
  simp [RepL.length h3]
theorem RepL.get:∀{cs:List AV} {us:List Value},RepL C cs us→∀{j:Nat} {c:AV},cs[j]? = some c→∃u,us[j]? = some u∧Rep C c u
 | [],us,h,j,c,hc=>by simp at hc
 | c::cs,us,h,j,c',hc=>by
  simp only [RepL] at h
  obtain ⟨u,us',rfl,h2,h3⟩:=h
  cases j with
  | zero=>simp at hc;subst hc;exact ⟨u,rfl,h2⟩
  | succ j=>simpa using RepL.get h3 (by simpa using hc)
theorem RepL.set:∀{cs:List AV} {us:List Value},RepL C cs us→∀(j:Nat) {c:AV} {u:Value},Rep C c u→RepL C (cs.set j c) (us.set j u)
 | [],us,h,j,c,u,k=>by simp only [RepL] at h;subst h;simp [RepL]
 | c::cs,us,h,j,c',u',k=>by
  simp only [RepL] at h
  obtain ⟨u,us',rfl,h2,h3⟩:=h
  cases j with
  | zero=>exact ⟨u',us',rfl,k,h3⟩
  | succ j=>exact ⟨u,us'.set j u',rfl,h2,RepL.set h3 j k⟩
theorem RepL.take:∀(n:Nat) {cs:List AV} {us:List Value},RepL C cs us→RepL C (cs.take n) (us.take n)
 | 0,cs,us,h=>by simp [RepL]
 | n+1,[],us,h=>by simp only [RepL] at h;subst h;simp [RepL]
 | n+1,c::cs,us,h=>by
  simp only [RepL] at h
  obtain ⟨u,us',rfl,h2,h3⟩:=h
  simp only [List.take_succ_cons,RepL]
  exact ⟨u,us'.take n,rfl,h2,RepL.take n h3⟩
theorem RepL.drop:∀(n:Nat) {cs:List AV} {us:List Value},RepL C cs us→RepL C (cs.drop n) (us.drop n)
 | 0,cs,us,h=>by simpa using h
 | n+1,[],us,h=>by simp only [RepL] at h;subst h;simp [RepL]
 | n+1,c::cs,us,h=>by
  simp only [RepL] at h
  obtain ⟨u,us',rfl,h2,h3⟩:=h
  simpa using RepL.drop n h3
theorem RepL.append:∀{cs ds:List AV} {us vs:List Value},RepL C cs us→RepL C ds vs→RepL C (cs++ds) (us++vs)
 | [],ds,us,vs,h,k=>by simp only [RepL] at h;subst h;simpa using k
 | c::cs,ds,us,vs,h,k=>by
  simp only [RepL] at h
  obtain ⟨u,us',rfl,h2,h3⟩:=h
  exact ⟨u,us'++vs,rfl,h2,RepL.append h3 k⟩
theorem RepL.ofC:∀{cs:List CV} {us:List Value},RepCs C.ok C.w cs us→RepL C (cs.map AV.c) us
 | [],us,h=>by simpa [RepCs,RepL] using h
 | c::cs,us,h=>by
  simp only [RepCs] at h
  obtain ⟨u,us',rfl,h2,h3⟩:=h
  exact ⟨u,us',rfl,h2,RepL.ofC h3⟩
theorem RepL.toC:∀{cs:List CV} {us:List Value},RepL C (cs.map AV.c) us→RepCs C.ok C.w cs us
 | [],us,h=>by simpa [RepCs,RepL] using h
 | c::cs,us,h=>by
  simp only [List.map_cons,RepL] at h
  obtain ⟨u,us',rfl,h2,h3⟩:=h
  exact ⟨u,us',rfl,h2,RepL.toC h3⟩
end RepL
def AV.one:AV→Bool
 | .c x=>x.one
 | .ref .. | .own .. | .ip .. | .fn .. | .yld .. | .mh .. | .bm .. => true
 | _=>false
theorem Rep.one {C:Cx} {x:AV} {u:Value} (h:Rep C x u) (h1:x.one=true):u.oneCell'=true∧u.cells = #[u]:=by
 cases x with
 | c x=>simp only [Rep] at h;exact h.one h1
 | ref id off=>simp only [Rep] at h;obtain ⟨_,g,_,rfl⟩:=h;exact ⟨rfl,rfl⟩
 | own id off n size full =>
  simp only [Rep] at h
  obtain ⟨_,⟨_,_,_,rfl⟩|⟨g,cp,_,rfl,_⟩|⟨_,_,A,cp,rfl,_⟩⟩:=h<;>exact ⟨rfl,rfl⟩
 | ip cs off=>simp only [Rep] at h;obtain ⟨b,o,us,rfl,_⟩:=h;exact ⟨rfl,rfl⟩
 | fn f caps=>simp only [Rep] at h;obtain ⟨us,rfl,_⟩:=h;exact ⟨rfl,rfl⟩
 | agg xs=>cases h1
 | tup xs=>cases h1
 | yld id=>simp only [Rep] at h;obtain ⟨_,g,_,rfl⟩:=h;exact ⟨rfl,rfl⟩
 | mh id=>simp only [Rep] at h;obtain ⟨_,g,_,rfl⟩:=h;exact ⟨rfl,rfl⟩
 | bm f id=>simp only [Rep] at h;obtain ⟨_,g,_,rfl⟩:=h;exact ⟨rfl,rfl⟩
 | junk=>cases h1
theorem RepL.one {C:Cx}:∀{cs:List AV} {us:List Value},RepL C cs us→cs.all AV.one=true→∀u∈us,u.oneCell'=true
 | [],us,h,_,u,hu=>by simp only [RepL] at h;subst h;simp at hu
 | c::cs,us,h,h1,u,hu=>by
  simp only [RepL] at h
  obtain ⟨u',us',rfl,h2,h3⟩:=h
  simp only [List.all_cons,Bool.and_eq_true] at h1
  rcases List.mem_cons.1 hu with rfl|hu
  ·exact (h2.one h1.1).1
  ·exact RepL.one h3 h1.2 u hu
def RepM (C:Cx):List (CV × AV)→List MapEntry→Prop
 | [],ms=>ms=[]
 | e::es,ms=>∃m ms',ms=m::ms'∧RepC C.ok C.w e.1 m.key∧Rep C e.2 m.val∧RepM C es ms'
theorem RepM.ext {C C':Cx} (h:Ext C C'):∀(es:List (CV × AV)) (ms:List MapEntry),RepM C es ms→RepM C' es ms
 | [],ms,hu=>hu
 | e::es,ms,hu=>by
  obtain ⟨m,ms',h1,h2,h3,h4⟩:=hu
  exact ⟨m,ms',h1,RepC.mono h.ok _ _ h2,Rep.ext h _ _ h3,RepM.ext h es ms' h4⟩
structure LC where
 ps:List Tmp
 asn:Code
 bd:Code
inductive AObj where
 | blk (T:TypeId) (cs:List AV)
 | row (T:TypeId) (cs:List CV)
 | lp (st:LoopState) (sz:Nat) (L:LC) (slots:List Nat) (xs:List AV)
 | dfr (op:Bool)
 | tab (es:List (CV × AV))
 | dead
def AObj.live:AObj→Option AObj
 | .blk T cs=>some (.blk T cs)
 | .row T cs=>some (.row T cs)
 | .lp b sz L sl xs=>some (.lp b sz L sl xs)
 | .dfr b=>some (.dfr b)
 | .tab es=>some (.tab es)
 | .dead=>none
theorem rD {o o':AObj} (h:o.live=some o'):o=o':=by cases o<;>simp [AObj.live] at h<;>exact h
def eF6 (b:Bool):Option (List Deferred):=match b with|true=>some []|false=>none
def ObjRep (C:Cx) (g:Option Nat):AObj→Prop
 | .blk T cs=>∃k us,g=some k∧C.w.heap[k]? = some (.cells us.toArray T (0,0))∧RepL C cs us
 | .row T cs=>(g=none∧cs=[])∨∃k us vs,g=some k∧C.w.heap[k]? = some (.cells (us++vs).toArray T (0,0))∧RepCs C.ok C.w cs us∧∀u∈us,u.oneCell'=true
 | .lp st sz L slots xs=>∃k r,g=some k∧C.w.heap[k]? = some (.loop r)∧r.state=st∧r.pending=none∧r.params=L.ps.toArray∧r.assign=L.asn∧r.body=L.bd∧r.tmps.size=sz∧RepL C xs (slots.map fun s=>r.tmps.getD s undef)
 | .dfr b=>∃k,g=some k∧C.w.heap[k]? = some (.deferred (eF6 b))
 | .tab es=>∃k ms t,g=some k∧C.w.heap[k]? = some (.map ms t)∧Go.MapKept.Stamped ms t∧RepM C es ms.toList
 | .dead=>False
theorem bX {w:World} {g:Nat} {o:Obj} (h:w.heap[g]? = some o):g<w.heap.size:=by
 rcases Nat.lt_or_ge g w.heap.size with h1|h1
 ·exact h1
 ·rw [Array.getElem?_eq_none h1] at h;cases h
theorem ObjRep.lt {C:Cx} {g:Option Nat} {o:AObj} (h:ObjRep C g o):∀k,g=some k→k<C.w.heap.size:=by
 intro k hk
 cases o with
 | blk T cs=>obtain ⟨k',us,rfl,h2,_⟩:=h;injection hk with hk;subst hk;exact bX h2
 | row T cs =>
  rcases h with ⟨h1,_⟩|⟨k',us,vs,rfl,h2,_⟩
  ·rw [h1] at hk;cases hk
  ·injection hk with hk;subst hk;exact bX h2
 | lp b sz L sl xs=>obtain ⟨k',r,rfl,h2,_⟩:=h;injection hk with hk;subst hk;exact bX h2
 | dfr b=>obtain ⟨k',rfl,h2⟩:=h;injection hk with hk;subst hk;exact bX h2
 | tab es=>obtain ⟨k',ms,t,rfl,h2,_⟩:=h;injection hk with hk;subst hk;exact bX h2
 | dead=>exact h.elim
theorem ObjRep.ext {C C':Cx} (h:Ext C C') {g:Option Nat} {o:AObj} (hg:∀k,g=some k→C'.w.heap[k]? = C.w.heap[k]?) (ho:ObjRep C g o):ObjRep C' g o:=by
 cases o with
 | blk T cs =>
  obtain ⟨k,us,rfl,h2,h3⟩:=ho
  exact ⟨k,us,rfl,(hg k rfl).trans h2,RepL.ext h cs us h3⟩
 | row T cs =>
  rcases ho with h1|⟨k,us,vs,rfl,h2,h3,h4⟩
  ·exact .inl h1
  ·exact .inr ⟨k,us,vs,rfl,(hg k rfl).trans h2,RepCs.mono h.ok cs us h3,h4⟩
 | lp b sz L sl xs =>
  obtain ⟨k,r,rfl,h2,h3,h4,h5,h6,h7,h8,h9⟩:=ho
  exact ⟨k,r,rfl,(hg k rfl).trans h2,h3,h4,h5,h6,h7,h8,RepL.ext h xs _ h9⟩
 | dfr b =>
  obtain ⟨k,rfl,h2⟩:=ho
  exact ⟨k,rfl,(hg k rfl).trans h2⟩
 | tab es =>
  obtain ⟨k,ms,t,rfl,h2,h3⟩:=ho
  exact ⟨k,ms,t,rfl,(hg k rfl).trans h2,h3.1,RepM.ext h es _ h3.2⟩
 | dead=>exact ho.elim
structure Bs where
 w0:World
 G:List Nat
 ok0:Nat→Prop
 fr:List Value
def aY (B:Bs) (dom:Nat→Prop) (M:Nat→Option Nat) (H:Nat→Option AObj) (b:Nat):Prop:=(B.ok0 b∨B.w0.heap.size≤b∨b∈B.G)∧∀id o,dom id→H id=some o→M id≠some b
structure FrB (w0:World) (G:List Nat) (w:World):Prop where
 os:w.os=w0.os
 tape:w.tape=w0.tape
 output:w.output=w0.output
 size:w0.heap.size≤w.heap.size
 block:∀k,k<w0.heap.size→k∉G→w.heap[k]? = w0.heap[k]?
theorem FrB.refl (w:World) (G:List Nat):FrB w G w:=⟨rfl,rfl,rfl,Nat.le_refl _,fun _ _ _=>rfl⟩
theorem FrB.below {w0 w:World} (h:FrB w0 [] w):Below w0.heap.size w0 w:=⟨h.os,h.tape,h.output,h.size,fun k hk=>h.block k hk aP⟩
structure ConcH (B:Bs) (dom:Nat→Prop) (M:Nat→Option Nat) (H:Nat→Option AObj) (w:World):Prop where
 fr:FrB B.w0 B.G w
 obj:∀id o,dom id→H id=some o→ObjRep ⟨dom,M,aY B dom M H,w⟩ (M id) o
 inj:∀id id' o o' g,dom id→dom id'→H id=some o→H id'=some o'→M id=some g→M id'=some g→id=id'
 lo:∀id o g,dom id→H id=some o→M id=some g→B.w0.heap.size≤g∨g∈B.G
def ad (dom:Nat→Prop) (i j:Nat) (id:Nat):Prop:=dom id∨(i≤id∧id<j)
section
variable {w w':World} {B:Bs} {dom:Nat→Prop} {M M':Nat→Option Nat} {H:Nat→Option AObj}
theorem dP {w w':World} {b:Nat} (h:w'.heap[b]? = w.heap[b]?):w'.shape? b=w.shape? b:=by simp [World.shape?,h]
theorem jA {w:World} {b:Nat} {x:TypeId × Nat} (h:w.shape? b=some x):b<w.heap.size:=by
 unfold World.shape? at h
 split at h
 ·rename_i c e hh;exact bX hh
 ·cases h
theorem ConcH.grow (h : ConcH B dom M H w) (hb : Below w.heap.size w w') (i j : Nat) (hM : ∀ id, dom id → M' id = M id) (hd : ∀ id, i ≤ id → id < j → ¬ dom id)
    (hn : ∀ id o, i ≤ id → id < j → H id = some o → ∀ g, M' id = some g → w.heap.size ≤ g)
    (hinj : ∀ id id' o o' g, i ≤ id → id < j → i ≤ id' → id' < j → H id = some o → H id' = some o' → M' id = some g → M' id' = some g → id = id')
    (ho : Ext ⟨dom, M, aY B dom M H, w⟩ ⟨ad dom i j, M', aY B (ad dom i j) M' H, w'⟩ → ∀ id o, i ≤ id → id < j → H id = some o → ObjRep ⟨ad dom i j, M', aY B (ad dom i j) M' H, w'⟩ (M' id) o) :
    ConcH B (ad dom i j) M' H w' ∧ Ext ⟨dom, M, aY B dom M H, w⟩ ⟨ad dom i j, M', aY B (ad dom i j) M' H, w'⟩ := by
  have hext : Ext ⟨dom, M, aY B dom M H, w⟩ ⟨ad dom i j, M', aY B (ad dom i j) M' H, w'⟩ := by
    refine ⟨fun id hid => ⟨.inl hid, hM id hid⟩, fun b hb1 hb2 => ⟨⟨hb1.1, fun id o hid hH he => ?_⟩, Nat.lt_of_lt_of_le hb2 hb.size, hb.block b hb2⟩, shp fun b x hx => ?_⟩
    · rcases hid with hid | ⟨h1, h2⟩
      · exact hb1.2 id o hid hH ((hM id hid).symm.trans he)
      · have := hn id o h1 h2 hH b he
        simp only at hb2
        omega
    · rw [← hx]
      exact dP (hb.block b (jA hx))
  refine ⟨⟨⟨hb.os.trans h.fr.os, hb.tape.trans h.fr.tape, hb.output.trans h.fr.output, Nat.le_trans h.fr.size hb.size, fun k h1 h2 => (hb.block k (Nat.lt_of_lt_of_le h1 h.fr.size)).trans (h.fr.block k h1 h2)⟩, fun id o hid hH => ?_, fun id id' o o' g h1 h2 h3 h4 h5 h6 => ?_, fun id o g hid hH he => ?_⟩, hext⟩
  · rcases hid with hid | ⟨h1, h2⟩
    · rw [hM id hid]
      have h3 := h.obj id o hid hH
      exact h3.ext hext (fun k hk => hb.block k (h3.lt k hk))
    · exact ho hext id o h1 h2 hH
  · rcases h1 with h1 | h1 <;> rcases h2 with h2 | h2
    · exact h.inj id id' o o' g h1 h2 h3 h4 ((hM id h1).symm.trans h5) ((hM id' h2).symm.trans h6)
    · have k1 := hn id' o' h2.1 h2.2 h4 g h6
      have k2 := (h.obj id o h1 h3).lt g ((hM id h1).symm.trans h5)
      simp only at k2
      omega
    · have k1 := hn id o h1.1 h1.2 h3 g h5
      have k2 := (h.obj id' o' h2 h4).lt g ((hM id' h2).symm.trans h6)
      simp only at k2
      omega
    · exact hinj id id' o o' g h1.1 h1.2 h2.1 h2.2 h3 h4 h5 h6
  · rcases hid with hid | ⟨h1, h2⟩
    · exact h.lo id o g hid hH ((hM id hid).symm.trans he)
    · have := hn id o h1 h2 hH g he
      have := h.fr.size
      exact .inl aA
end
def lk:List (Nat × AObj)→Nat→Option AObj
 | [],_=>none
 | p::r,k=>match Nat.beq p.1 k with|true=>p.2.live|false=>lk r k
def lkE:List (Nat × AV)→Nat→Option AV
 | [],_=>none
 | (i,v)::r,k=>match Nat.beq i k with|true=>some v|false=>lkE r k
def evA (env:List (Nat × AV)):Operand→Option AV
 | .tmp t=>lkE env t
 | .const x=>some (.c (.v x))
 | .global _=>none
 | .func f=>some (.fn f [])
theorem bV (i : Nat) (o : AObj) (h : List (Nat × AObj)) (k : Nat) : lk ((i, o) :: h) k = if i = k then o.live else lk h k := by
  by_cases hk : i = k
  · subst hk; simp [lk, Nat.beq_refl]
  · have : Nat.beq i k = false := by
      cases h : Nat.beq i k with
      | false => rfl
      | true => exact absurd (Nat.eq_of_beq_eq_true h) hk
    simp only [lk]; rw [this]; simp [hk]
theorem eO (i : Nat) (o : AV) (h : List (Nat × AV)) (k : Nat) : lkE ((i, o) :: h) k = if i = k then some o else lkE h k := by
  by_cases hk : i = k
  · subst hk; simp [lkE, Nat.beq_refl]
  · have : Nat.beq i k = false := by
      cases h : Nat.beq i k with
      | false => rfl
      | true => exact absurd (Nat.eq_of_beq_eq_true h) hk
    simp only [lkE]; rw [this]; simp [hk]
end Go.Av
namespace Go.Av
open Go Go.RowKit
inductive TK where
 | bool|int (k:IntKind)|str|ptr|slice (e:TypeId)|array (n:Nat) (e:TypeId)|struct (fs:List (Nat × TypeId))|map (k e:TypeId)|func|iface|other
def aB1:TypeDesc→TK
 | .bool => .bool
 | .int k => .int k
 | .string => .str
 | .pointer _ => .ptr
 | .slice e => .slice e
 | .array n e => .array n e
 | .struct fs => .struct (fs.toList.map fun f=>(f.offset,f.type))
 | .map k e => .map k e
 | .func .. => .func
 | .interface _ => .iface
 | _ => .other
def TK.agg:TK→Bool
 | .struct _ | .array _ _=>true
 | _=>false
structure TyE where
 size:Nat
 bytes:Nat
 kind:TK
 zero:List Value
def TyOk (P:Program) (t:TypeId) (e:TyE):Prop :=
 (P.info? t).map (fun i=>(i.size,i.bytes,i.zero.map (·.cells.toList)))=some (e.size,e.bytes,some e.zero)∧(P.underlying t).map aB1=some e.kind
abbrev Tab:=List (TypeId × TyE)
def bK (P:Program):Tab→Prop
 | []=>True
 | x::r=>TyOk P x.1 x.2∧bK P r
def aR:Tab→TypeId→Option TyE
 | [],_=>none
 | (i,e)::r,k=>match Nat.beq i k with|true=>some e|false=>aR r k
theorem aM {P:Program} {t:TypeId} {e:TyE}:∀{tab:Tab},bK P tab→aR tab t=some e→TyOk P t e
 | [],_,h=>by cases h
 | x::r,ht,h=>by
  unfold aR at h
  split at h
  ·rename_i he;injection h with h;subst h;rw [← Nat.eq_of_beq_eq_true he];exact ht.1
  ·exact aM ht.2 h
section Ty
variable {P:Program} {t:TypeId} {e:TyE}
theorem TyOk.parts (h:TyOk P t e):∃i,P.info? t=some i∧i.size=e.size∧i.bytes=e.bytes∧∃z,i.zero=some z∧z.cells.toList=e.zero:=by
 obtain ⟨h1,_⟩:=h
 obtain ⟨i,hi,he⟩:=Option.map_eq_some_iff.1 h1
 simp only [Prod.mk.injEq] at he
 obtain ⟨z,hz,he2⟩:=Option.map_eq_some_iff.1 he.2.2
 exact ⟨i,hi,he.1,he.2.1,z,hz,he2⟩
theorem TyOk.sizeOf (h:TyOk P t e) (w:World):(sizeOf t).run P w = .ok e.size w:=by
 obtain ⟨i,hi,hs,_⟩:=h.parts
 simp [Go.sizeOf,typeInfo,hi,hs]
theorem TyOk.und (h:TyOk P t e):∃d,P.underlying t=some d∧aB1 d=e.kind:=by
 obtain ⟨_,h2⟩:=h
 exact Option.map_eq_some_iff.1 h2
theorem TyOk.isAgg (h:TyOk P t e) (w:World):(isAgg t).run P w = .ok e.kind.agg w:=by
 obtain ⟨d,hd,hk⟩:=h.und
 unfold Go.isAgg
 rw [Sem.run_bind,run_underlying hd w,← hk]
 cases d<;>simp [aB1,TK.agg]
theorem TyOk.slice (h:TyOk P t e) {x:TypeId} (hk:e.kind = .slice x):P.underlying t=some (.slice x):=by
 obtain ⟨d,hd,hk'⟩:=h.und
 rw [hk] at hk'
 cases d<;>simp [aB1] at hk'
 subst hk';exact hd
theorem TyOk.array (h:TyOk P t e) {n:Nat} {x:TypeId} (hk:e.kind = .array n x):P.underlying t=some (.array n x):=by
 obtain ⟨d,hd,hk'⟩:=h.und
 rw [hk] at hk'
 cases d<;>simp [aB1] at hk'
 obtain ⟨rfl,rfl⟩:=hk';exact hd
theorem TyOk.struct (h:TyOk P t e) {fs:List (Nat × TypeId)} (hk:e.kind = .struct fs):∃fields:Array Field,P.underlying t=some (.struct fields)∧fields.toList.map (fun f=>(f.offset,f.type))=fs:=by
 obtain ⟨d,hd,hk'⟩:=h.und
 rw [hk] at hk'
 cases d<;>simp [aB1] at hk'
 exact ⟨_,hd,hk'⟩
theorem TyOk.int (h:TyOk P t e) {k:IntKind} (hk:e.kind = .int k):P.underlying t=some (.int k):=by
 obtain ⟨d,hd,hk'⟩:=h.und
 rw [hk] at hk'
 cases d<;>simp [aB1] at hk'
 subst hk';exact hd
theorem TyOk.str (h:TyOk P t e) (hk:e.kind = .str):P.underlying t=some .string:=by
 obtain ⟨d,hd,hk'⟩:=h.und
 rw [hk] at hk'
 cases d<;>simp [aB1] at hk'
 exact hd
theorem TyOk.bool (h:TyOk P t e) (hk:e.kind = .bool):P.underlying t=some .bool:=by
 obtain ⟨d,hd,hk'⟩:=h.und
 rw [hk] at hk'
 cases d<;>simp [aB1] at hk'
 exact hd
theorem TyOk.field (h:TyOk P t e) {fs:List (Nat × TypeId)} (hk:e.kind = .struct fs) {f off:Nat} {ft:TypeId} (hf:fs[f]? = some (off,ft)):∃(fields:Array Field) (fd:Field),P.underlying t=some (.struct fields)∧fields[f]? = some fd∧fd.offset=off∧fd.type=ft:=by
 obtain ⟨fields,h1,h2⟩:=h.struct hk
 rw [← h2,List.getElem?_map] at hf
 obtain ⟨fd,h3,h4⟩:=Option.map_eq_some_iff.1 hf
 simp only [Prod.mk.injEq] at h4
 exact ⟨fields,fd,h1,by simpa using h3,h4.1,h4.2⟩
end Ty
theorem gR (b o j:Nat):(⟨b,o,none⟩:Addr).add j=⟨b,o+j,none⟩:=by
 unfold Addr.add;split<;>simp_all
abbrev Env:=List (Nat × AV)
abbrev aO:=List (Nat × AObj)
abbrev Evl:=Operand→Option AV
def Adds (P:Program) (o:Oper) (ev:Evl) (h:aO) (v:AV) (Δ : aO) (i j:Nat):Prop :=
 ∀(B:Bs) (dom:Nat→Prop) (M:Nat→Option Nat) (H:Nat→Option AObj) (w:World) (a:Act) (K:Act→World→Prop) (Q:Exit→Act→World→Prop),
  (∀id o,lk h id=some o→dom id→H id=some o)→(∀id,i≤id→id<j→¬dom id∧H id=lk Δ id) →
  ConcH B dom M H w→(∀x av,ev x=some av→Rep ⟨dom,M,aY B dom M H,w⟩ av (a.eval x)) →
  (∀u w' M',Ext ⟨dom,M,aY B dom M H,w⟩ ⟨ad dom i j,M',aY B (ad dom i j) M' H,w'⟩→ConcH B (ad dom i j) M' H w'→Rep ⟨ad dom i j,M',aY B (ad dom i j) M' H,w'⟩ v u→K (a.put o.dst u) w') →
  o.wp P a w K Q
def Still (P:Program) (o:Oper) (ev:Evl) (h:aO) (v:AV):Prop :=
 ∀(B:Bs) (dom:Nat→Prop) (M:Nat→Option Nat) (H:Nat→Option AObj) (w:World) (a:Act),
  (∀id o,lk h id=some o→dom id→H id=some o)→ConcH B dom M H w→(∀x av,ev x=some av→Rep ⟨dom,M,aY B dom M H,w⟩ av (a.eval x)) →
  ∃u,(execOp a.eval o).run P w = .ok (.value u) w∧Rep ⟨dom,M,aY B dom M H,w⟩ v u
theorem dS (dom:Nat→Prop) (i:Nat):ad dom i i=dom:=by
 funext id
 simp only [ad,eq_iff_iff]
 exact ⟨fun h=>h.elim (fun h=>h) (fun h=>by omega),.inl⟩
section
variable {P:Program} {o:Oper} {ev:Evl} {h:aO} {v:AV} {i:Nat}
theorem Still.adds (hs:Still P o ev h v):Adds P o ev h v [] i i:=by
 intro B dom M H w a K Q hh _ hc he hK
 obtain ⟨u,hr,hv⟩:=hs B dom M H w a hh hc he
 unfold Oper.wp
 rw [hr]
 simp only [Oper.upon]
 refine hK u w M ?_ ?_ ?_<;>rw [dS]
 ·exact Ext.refl _
 ·exact hc
 ·exact hv
theorem hQ {obj : AObj} (hlv : obj.live = some obj) (hrun : ∀ (B : Bs) (dom : Nat → Prop) (M : Nat → Option Nat) (H : Nat → Option AObj) (w : World) (a : Act),
    (∀ id o, lk h id = some o → dom id → H id = some o) → ConcH B dom M H w → (∀ x av, ev x = some av → Rep ⟨dom, M, aY B dom M H, w⟩ av (a.eval x)) →
    ∃ u w' m, (execOp a.eval o).run P w = .ok (.value u) w' ∧ Below w.heap.size w w' ∧ (∀ g, m = some g → w.heap.size ≤ g) ∧
      (∀ C, Ext ⟨dom, M, aY B dom M H, w⟩ C → C.w = w' → C.dom i → C.M i = m → ObjRep C m obj ∧ Rep C v u)) : Adds P o ev h v [(i, obj)] i (i + 1) := by
  intro B dom M H w a K Q hh hn hc he hK
  obtain ⟨u, w', m, hr, hb, hm, hv⟩ := hrun B dom M H w a hh hc he
  unfold Oper.wp
  rw [hr]
  simp only [Oper.upon]
  have hi := hn i (Nat.le_refl _) (Nat.lt_succ_self _)
  have e1 : H i = some obj := by rw [hi.2, bV, if_pos rfl, hlv]
  let M' : Nat → Option Nat := fun id => if id = i then m else M id
  have hM' : M' i = m := by simp [M']
  have hg := hc.grow hb i (i + 1) (M' := M') (fun id hid => by
      have : id ≠ i := fun e => hi.1 (e ▸ hid)
      simp [M', this]) (fun id h1 h2 => (hn id h1 h2).1)
    (fun id o h1 h2 h3 g hg => by
      obtain rfl : id = i := by omega
      rw [hM'] at hg
      exact hm g hg)
    (fun id id' o o' g h1 h2 h3 h4 => fun _ _ _ _ => by omega)
    (fun hext id o h1 h2 h3 => by
      obtain rfl : id = i := by omega
      rw [e1] at h3
      injection h3 with h3
      subst h3
      rw [hM']
      exact (hv _ hext rfl (.inr ⟨h1, h2⟩) hM').1)
  exact hK u w' M' hg.2 hg.1 (hv _ hg.2 rfl (.inr ⟨Nat.le_refl _, Nat.lt_succ_self _⟩) hM').2
end
section ops
variable {P:Program} {tab:Tab} {ev:Evl} {h:aO} {d:Option Tmp} {T ty:TypeId} {x y z:Operand} {pos:String} {aft:Array Edge} {gd:Option (Nat × Bool)} {i:Nat}
theorem qJ {v:AV} (hx:ev x=some v):Still P ⟨d,.move x,ty,pos,aft,gd⟩ ev h v:=by
 intro B dom M H w a hh hc he
 exact ⟨a.eval x,by simp [execOp],he x v hx⟩
theorem zL {v:AV} (hx:ev x=some v):Still P ⟨d,.assign x,ty,pos,aft,gd⟩ ev h v:=by
 intro B dom M H w a hh hc he
 exact ⟨a.eval x,by simp [execOp],he x v hx⟩
theorem wV {v:AV} (hc0:ev z=some (.c (.v (.bool true)))) (hx:ev x=some v):Still P ⟨d,.pick z x y,ty,pos,aft,gd⟩ ev h v:=by
 intro B dom M H w a hh hc he
 have h0:=he z _ hc0
 simp only [Rep,RepC] at h0
 exact ⟨a.eval x,by simp [execOp,h0,asBool],he x v hx⟩
theorem wU {v:AV} (hc0:ev z=some (.c (.v (.bool false)))) (hy:ev y=some v):Still P ⟨d,.pick z x y,ty,pos,aft,gd⟩ ev h v:=by
 intro B dom M H w a hh hc he
 have h0:=he z _ hc0
 simp only [Rep,RepC] at h0
 exact ⟨a.eval y,by simp [execOp,h0,asBool],he y v hy⟩
theorem gX {B : Bs} {dom : Nat → Prop} {M : Nat → Option Nat} {H : Nat → Option AObj} {w : World} (hh : ∀ id o, lk h id = some o → dom id → H id = some o) (hc : ConcH B dom M H w) {id g : Nat} {T : TypeId} {cs : List AV}
    (ho : lk h id = some (.blk T cs)) (hd : dom id) (hM : M id = some g) : ∃ us, w.heap[g]? = some (.cells us.toArray T (0, 0)) ∧ RepL ⟨dom, M, aY B dom M H, w⟩ cs us := by
  obtain ⟨k, us, h1, h2, h3⟩ := hc.obj id _ hd (hh id _ ho hd)
  rw [hM] at h1
  injection h1 with h1
  subst h1
  exact ⟨us, h2, h3⟩
theorem eZ {B : Bs} {dom : Nat → Prop} {M : Nat → Option Nat} {H : Nat → Option AObj} {w : World} (hh : ∀ id o, lk h id = some o → dom id → H id = some o) (hc : ConcH B dom M H w) {id g : Nat} {T : TypeId} {cs : List CV}
    (ho : lk h id = some (.row T cs)) (hd : dom id) (hM : M id = some g) : ∃ us vs, w.heap[g]? = some (.cells (us ++ vs).toArray T (0, 0)) ∧ RepCs (aY B dom M H) w cs us ∧ ∀ u ∈ us, u.oneCell' = true := by
  rcases hc.obj id _ hd (hh id _ ho hd) with ⟨h1, _⟩ | ⟨k, us, vs, h1, h2, h3, h4⟩
  · rw [hM] at h1; cases h1
  · rw [hM] at h1
    injection h1 with h1
    subst h1
    exact ⟨us, vs, h2, h3, h4⟩
theorem mY {w:World} {g:Nat} {us:List Value} {T:TypeId} {fz:Nat × Nat} (h:w.heap[g]? = some (.cells us.toArray T fz)) (off:Nat):w.cell? ⟨g,off,none⟩=us[off]? := by
 simp [World.cell?,h]
theorem iQ {w:World} {g:Nat} {us vs:List Value} {T:TypeId} {fz:Nat × Nat} (h:w.heap[g]? = some (.cells (us++vs).toArray T fz)) {off:Nat} {u:Value} (hu:us[off]? = some u):w.cell? ⟨g,off,none⟩=some u:=by
 rw [mY h,List.getElem?_append_left (List.getElem?_eq_some_iff.1 hu).1]
 exact hu
theorem rH {w:World} {e:TyE} (hT:TyOk P T e) (hk:e.kind.agg=false) {p:Addr} {u:Value} (hp:w.cell? p=some u):(loadVar T p).run P w = .ok u w:=by
 have ha:=hT.isAgg w
 simp [loadVar,Sem.run_bind,ha,hk,hp]
theorem nM {w:World} {e:TyE} (hT:TyOk P T e) (hk:e.kind.agg=true) {g off:Nat} {us:List Value} (hl:us.length=e.size) (hp:∀j u,us[j]? = some u→w.cell? ⟨g,off+j,none⟩=some u):(loadVar T ⟨g,off,none⟩).run P w = .ok (.agg us.toArray) w:=by
 have ha:=hT.isAgg w
 have hs:=hT.sizeOf w
 have:=run_loadCells_list (P:=P) w ⟨g,off,none⟩ us (fun j v hj=>by rw [gR];exact hp j v hj)
 rw [hl] at this
 simp [loadVar,Sem.run_bind,ha,hk,hs,this]
theorem iK (tb : bK P tab) {e : TyE} (hT : aR tab T = some e) (hk : e.kind.agg = false) {id off : Nat} {T' : TypeId} {cs : List AV} {v : AV} (hx : ev x = some (.ref id off)) (ho : lk h id = some (.blk T' cs)) (hv : cs[off]? = some v) :
    Still P ⟨d, .load T x, ty, pos, aft, gd⟩ ev h v := by
  intro B dom M H w a hh hc he
  have hp := he x _ hx
  simp only [Rep] at hp
  obtain ⟨hd, g, hM, hp⟩ := hp
  obtain ⟨us, h2, h3⟩ := gX hh hc ho hd hM
  obtain ⟨u, hu, hr⟩ := h3.get hv
  refine ⟨u, ?_, hr⟩
  have := rH (P := P) (w := w) (aM tb hT) hk (p := ⟨g, off, none⟩) (by rw [mY h2]; exact hu)
  simp [execOp, hp, Instr.loadAt, Instr.sureAddr, this]
theorem fY (tb : bK P tab) {e : TyE} (hT : aR tab T = some e) (hk : e.kind.agg = false) {id off : Nat} {T' : TypeId} {cs : List CV} {v : CV} (hx : ev x = some (.ref id off)) (ho : lk h id = some (.row T' cs)) (hv : cs[off]? = some v) :
    Still P ⟨d, .load T x, ty, pos, aft, gd⟩ ev h (.c v) := by
  intro B dom M H w a hh hc he
  have hp := he x _ hx
  simp only [Rep] at hp
  obtain ⟨hd, g, hM, hp⟩ := hp
  obtain ⟨us, vs, h2, h3, h30⟩ := eZ hh hc ho hd hM
  obtain ⟨u, hu, hr⟩ := h3.get hv
  refine ⟨u, ?_, hr⟩
  have := rH (P := P) (w := w) (aM tb hT) hk (p := ⟨g, off, none⟩) (iQ h2 hu)
  simp [execOp, hp, Instr.loadAt, Instr.sureAddr, this]
theorem fX (tb : bK P tab) {e : TyE} (hT : aR tab T = some e) (hk : e.kind.agg = false) {off : Nat} {cs : List CV} {v : CV} (hx : ev x = some (.ip cs off)) (hv : cs[off]? = some v) :
    Still P ⟨d, .load T x, ty, pos, aft, gd⟩ ev h (.c v) := by
  intro B dom M H w a hh hc he
  have hp := he x _ hx
  simp only [Rep] at hp
  obtain ⟨b, o, us, hp, h2, h3, h4, h40, h5⟩ := hp
  obtain ⟨u, hu, hr⟩ := h4.get hv
  refine ⟨u, ?_, hr⟩
  have := rH (P := P) (w := w) (aM tb hT) hk (p := ⟨b, o + off, none⟩) (h5 off u hu)
  simp [execOp, hp, Instr.loadAt, Instr.sureAddr, this]
def oR:List AV→Option (List CV)
 | []=>some []
 | .c x::r=>match oR r with|some cs=>some (x::cs)|none=>none
 | _::_=>none
theorem bD1:∀{xs:List AV} {cs:List CV},oR xs=some cs→xs=cs.map AV.c
 | [],cs,h=>by simp [oR] at h;subst h;rfl
 | .c x::r,cs,h=>by
  simp only [oR] at h
  split at h
  ·rename_i cs' h';injection h with h;subst h;rw [bD1 h'];rfl
  ·cases h
 | .ref .. :: r,cs,h=>by simp [oR] at h
 | .own .. :: r,cs,h=>by simp [oR] at h
 | .ip .. :: r,cs,h=>by simp [oR] at h
 | .agg .. :: r,cs,h=>by simp [oR] at h
 | .tup .. :: r,cs,h=>by simp [oR] at h
 | .fn .. :: r,cs,h=>by simp [oR] at h
 | .yld .. :: r,cs,h=>by simp [oR] at h
 | .mh .. :: r,cs,h=>by simp [oR] at h
 | .bm .. :: r,cs,h=>by simp [oR] at h
 | .junk::r,cs,h=>by simp [oR] at h
inductive IsAgg:List AV→AV→Prop
 | closed {xs:List AV} {cs:List CV} (h:oR xs=some cs) (h1:xs.all AV.one=true):IsAgg xs (.c (.agg cs))
 | mixed (xs:List AV):IsAgg xs (.agg xs)
theorem IsAgg.rep {C:Cx} {xs:List AV} {v:AV} (h:IsAgg xs v) {us:List Value} (hr:RepL C xs us):Rep C v (.agg us.toArray):=by
 cases h with
 | closed h h1 =>
  have h2:=hr.one h1
  rw [bD1 h] at hr;exact ⟨us,rfl,hr.toC,h2⟩
 | mixed=>exact ⟨us,rfl,hr⟩
inductive Parts:AV→List AV→Prop
 | closed (cs:List CV):Parts (.c (.agg cs)) (cs.map AV.c)
 | mixed (xs:List AV):Parts (.agg xs) xs
theorem Parts.rep {C:Cx} {xs:List AV} {v:AV} (h:Parts v xs) {u:Value} (hr:Rep C v u):∃us,u = .agg us.toArray∧RepL C xs us:=by
 cases h with
 | closed cs=>obtain ⟨us,h1,h2,_⟩:=hr;exact ⟨us,h1,RepL.ofC h2⟩
 | mixed=>exact hr
theorem aK6 (tb : bK P tab) {e : TyE} (hT : aR tab T = some e) (hk : e.kind.agg = true) {id off : Nat} {T' : TypeId} {cs xs : List AV} {v : AV} (hx : ev x = some (.ref id off)) (ho : lk h id = some (.blk T' cs)) (hxs : (cs.drop off).take e.size = xs) (hl : xs.length = e.size) (hv : IsAgg xs v) :
    Still P ⟨d, .load T x, ty, pos, aft, gd⟩ ev h v := by
  intro B dom M H w a hh hc he
  have hp := he x _ hx
  simp only [Rep] at hp
  obtain ⟨hd, g, hM, hp⟩ := hp
  obtain ⟨us, h2, h3⟩ := gX hh hc ho hd hM
  have h4 := (h3.drop off).take e.size
  rw [hxs] at h4
  refine ⟨.agg ((us.drop off).take e.size).toArray, ?_, hv.rep h4⟩
  have := nM (P := P) (w := w) (aM tb hT) hk (g := g) (off := off) (us := (us.drop off).take e.size) (by rw [h4.length, hl]) (fun j u hj => by
    rw [mY h2]
    have hjk : j < e.size := by
      rcases Nat.lt_or_ge j e.size with h1 | h1
      · exact h1
      · rw [List.getElem?_eq_none pC] at hj; cases hj
    rwa [List.getElem?_take_of_lt hjk, List.getElem?_drop] at hj)
  simp [execOp, hp, Instr.loadAt, Instr.sureAddr, this]
theorem iZ (tb : bK P tab) {e : TyE} (hT : aR tab T = some e) (hk : e.kind.agg = true) {id off : Nat} {T' : TypeId} {cs xs : List CV} (hx : ev x = some (.ref id off)) (ho : lk h id = some (.row T' cs)) (hxs : (cs.drop off).take e.size = xs) (hl : xs.length = e.size) :
    Still P ⟨d, .load T x, ty, pos, aft, gd⟩ ev h (.c (.agg xs)) := by
  intro B dom M H w a hh hc he
  have hp := he x _ hx
  simp only [Rep] at hp
  obtain ⟨hd, g, hM, hp⟩ := hp
  obtain ⟨us, vs, h2, h3, h30⟩ := eZ hh hc ho hd hM
  have h4 := (h3.drop off).take e.size
  rw [hxs] at h4
  refine ⟨.agg ((us.drop off).take e.size).toArray, ?_, _, rfl, h4, fun u hu => h30 u (List.mem_of_mem_drop (List.mem_of_mem_take hu))⟩
  have := nM (P := P) (w := w) (aM tb hT) hk (g := g) (off := off) (us := (us.drop off).take e.size) (by rw [h4.length, hl]) (fun j u hj => by
    have hjk : j < e.size := by
      rcases Nat.lt_or_ge j e.size with h1 | h1
      · exact h1
      · rw [List.getElem?_eq_none pC] at hj; cases hj
    rw [List.getElem?_take_of_lt hjk, List.getElem?_drop] at hj
    exact iQ h2 hj)
  simp [execOp, hp, Instr.loadAt, Instr.sureAddr, this]
theorem iY (tb : bK P tab) {e : TyE} (hT : aR tab T = some e) (hk : e.kind.agg = true) {off : Nat} {cs xs : List CV} (hx : ev x = some (.ip cs off)) (hxs : (cs.drop off).take e.size = xs) (hl : xs.length = e.size) :
    Still P ⟨d, .load T x, ty, pos, aft, gd⟩ ev h (.c (.agg xs)) := by
  intro B dom M H w a hh hc he
  have hp := he x _ hx
  simp only [Rep] at hp
  obtain ⟨b, o, us, hp, h2, h3, h4, h40, h5⟩ := hp
  have h6 := (h4.drop off).take e.size
  rw [hxs] at h6
  refine ⟨.agg ((us.drop off).take e.size).toArray, ?_, _, rfl, h6, fun u hu => h40 u (List.mem_of_mem_drop (List.mem_of_mem_take hu))⟩
  have := nM (P := P) (w := w) (aM tb hT) hk (g := b) (off := o + off) (us := (us.drop off).take e.size) (by rw [h6.length, hl]) (fun j u hj => by
    have hjk : j < e.size := by
      rcases Nat.lt_or_ge j e.size with h1 | h1
      · exact h1
      · rw [List.getElem?_eq_none pC] at hj; cases hj
    rw [List.getElem?_take_of_lt hjk, List.getElem?_drop] at hj
    rw [Nat.add_assoc]
    exact h5 _ u hj)
  simp [execOp, hp, Instr.loadAt, Instr.sureAddr, this]
theorem gB (tb : bK P tab) {e e' : TyE} {fs : List (Nat × TypeId)} (hT : aR tab T = some e) (hk : e.kind = .struct fs) {f fo : Nat} {ft : TypeId} (hf : fs[f]? = some (fo, ft)) (hft : aR tab ft = some e') (hpos : Nat.beq e'.size 0 = false) {id off : Nat} (hx : ev x = some (.ref id off)) :
    Still P ⟨d, .fieldAddr T x f, ty, pos, aft, gd⟩ ev h (.ref id (off + fo)) := by
  intro B dom M H w a hh hc he
  have hp := he x _ hx
  simp only [Rep] at hp
  obtain ⟨hd, g, hM, hp⟩ := hp
  obtain ⟨fields, fd, h1, h2, h3, h4⟩ := (aM tb hT).field hk hf
  refine ⟨.pointer (some ⟨g, off + fo, none⟩), ?_, hd, g, hM, rfl⟩
  have hsz : ¬ e'.size = 0 := fun h0 => by rw [h0] at hpos; cases hpos
  subst h3 h4
  have hs := (aM tb hft).sizeOf w
  simp [execOp, Instr.fieldAt, Sem.run_bind, run_underlying h1, h2, hp, Instr.sureAddr, fieldPlace, hs, hsz, gR]
theorem oI (tb : bK P tab) {e e' : TyE} {fs : List (Nat × TypeId)} (hT : aR tab T = some e) (hk : e.kind = .struct fs) {f fo : Nat} {ft : TypeId} (hf : fs[f]? = some (fo, ft)) (hft : aR tab ft = some e') (hpos : Nat.beq e'.size 0 = false) {cs : List CV} {off : Nat} (hx : ev x = some (.ip cs off)) :
    Still P ⟨d, .fieldAddr T x f, ty, pos, aft, gd⟩ ev h (.ip cs (off + fo)) := by
  intro B dom M H w a hh hc he
  have hp := he x _ hx
  simp only [Rep] at hp
  obtain ⟨b, o, us, hp, h2', h3', h4', h6', h5'⟩ := hp
  obtain ⟨fields, fd, h1, h2, h3, h4⟩ := (aM tb hT).field hk hf
  refine ⟨.pointer (some ⟨b, o + (off + fo), none⟩), ?_, b, o, us, rfl, h2', h3', h4', h6', h5'⟩
  have hsz : ¬ e'.size = 0 := fun h0 => by rw [h0] at hpos; cases hpos
  subst h3 h4
  have hs := (aM tb hft).sizeOf w
  simp [execOp, Instr.fieldAt, Sem.run_bind, run_underlying h1, h2, hp, Instr.sureAddr, fieldPlace, hs, hsz, gR, Nat.add_assoc]
theorem vC {xs:List AV} {k:Nat} {u:AV} (hx:ev x=some (.tup xs)) (hu:xs[k]? = some u):Still P ⟨d,.extract x k,ty,pos,aft,gd⟩ ev h u:=by
 intro B dom M H w a hh hc he
 have hp:=he x _ hx
 simp only [Rep] at hp
 obtain ⟨us,h1,h2⟩:=hp
 obtain ⟨u',hu',hr⟩:=h2.get hu
 refine ⟨u',?_,hr⟩
 simp [execOp,Instr.extract,h1,hu']
theorem fL {C:Cx} {a:Act} (he:∀x av,ev x=some av→Rep C av (a.eval x)):∀{xs:List Operand} {vs:List AV},xs.map ev=vs.map some→RepL C vs (xs.map a.eval)
 | [],vs,h=>by cases vs with|nil=>simp [RepL]|cons v vs=>simp at h
 | x::xs,vs,h=>by
  cases vs with
  | nil=>simp at h
  | cons v vs =>
   simp only [List.map_cons,List.cons.injEq] at h
   exact ⟨_,_,rfl,he x v h.1,fL he h.2⟩
def oL (ev:Evl):List Operand→Option (List AV)
 | []=>some []
 | x::r=>match ev x with
  | some v=>match oL ev r with|some vs=>some (v::vs)|none=>none
  | none=>none
theorem lP:∀{xs:List Operand} {vs:List AV},oL ev xs=some vs→xs.map ev=vs.map some
 | [],vs,h=>by simp [oL] at h;subst h;rfl
 | x::r,vs,h=>by
  simp only [oL] at h
  split at h
  ·rename_i v hv
   split at h
   ·rename_i ws hw
    injection h with h;subst h
    simp [hv,lP hw]
   ·cases h
  ·cases h
def eF (ev:Evl):List Operand→Option (List CV)
 | []=>some []
 | x::r=>match ev x with
  | some (.c v)=>match eF ev r with|some vs=>some (v::vs)|none=>none
  | _=>none
theorem xC:∀{xs:List Operand} {vs:List CV},eF ev xs=some vs→xs.map ev=vs.map (fun c=>some (AV.c c))
 | [],vs,h=>by simp [eF] at h;subst h;rfl
 | x::r,vs,h=>by
  simp only [eF] at h
  split at h
  ·rename_i v hv
   split at h
   ·rename_i ws hw
    injection h with h;subst h
    simp [hv,xC hw]
   ·cases h
  ·cases h
theorem sJ {f:FuncId} {caps:List Operand} {vs:List AV} (hx:oL ev caps=some vs):Still P ⟨d,.makeFunc (.func f) #[] caps.toArray,ty,pos,aft,gd⟩ ev h (.fn f vs):=by
 intro B dom M H w a hh hc he
 refine ⟨.func (.func f) #[] (caps.map a.eval).toArray,?_,_,rfl,fL he (lP hx)⟩
 simp [execOp,Instr.makeFunc]
theorem iD {id off:Nat} (hx:ev x=some (.ref id off)):Still P ⟨d,.nilCheck x,ty,pos,aft,gd⟩ ev h (.ref id off):=by
 intro B dom M H w a hh hc he
 have hp:=he x _ hx
 refine ⟨a.eval x,?_,hp⟩
 simp only [Rep] at hp
 obtain ⟨hd,g,hM,hp⟩:=hp
 simp [execOp,hp]
theorem kC {op : BinOp} {T' : TypeId} {p q r : Value} (hx : ev x = some (.c (.v p))) (hy : ev y = some (.c (.v q))) (hg : ∀ w, (eqGuard op T x y p q).run P w = .ok () w) (hrun : ∀ w, (binOp op T p q).run P w = .ok r w) :
    Still P ⟨d, .binOp op T x y T', ty, pos, aft, gd⟩ ev h (.c (.v r)) := by
  intro B dom M H w a hh hc he
  have h1 := he x _ hx
  have h2 := he y _ hy
  simp only [Rep, RepC] at h1 h2
  refine ⟨r, ?_, rfl⟩
  simp [execOp, h1, h2, hg, hrun]
theorem eB {op:BinOp} {k k':IntKind} {m n:Int} (w:World):(eqGuard op T x y (.int k m) (.int k' n)).run P w = .ok () w:=by
 cases op<;>simp [eqGuard]
theorem aY3 {op:BinOp} {m n:Bool} (w:World):(eqGuard op T x y (.bool m) (.bool n)).run P w = .ok () w:=by
 cases op<;>simp [eqGuard]
theorem bP1 {op:BinOp} {m n:ByteArray} (w:World):(eqGuard op T x y (.string m) (.string n)).run P w = .ok () w:=by
 cases op<;>simp [eqGuard]
section ints
variable {T':TypeId} {k:IntKind} {m n r:Int} {b:Bool} (hx:ev x=some (.c (.v (.int k m)))) (hy:ev y=some (.c (.v (.int k n))))
include hx hy
theorem dM8 (hr:k.wrap (m+n)=r):Still P ⟨d,.binOp .add T x y T',ty,pos,aft,gd⟩ ev h (.c (.v (.int k r))):=kC hx hy eB (fun w=>by simp [binOp,Op.intArith,hr])
theorem dN1 (hr:k.wrap (m-n)=r):Still P ⟨d,.binOp .sub T x y T',ty,pos,aft,gd⟩ ev h (.c (.v (.int k r))):=kC hx hy eB (fun w=>by simp [binOp,Op.intArith,hr])
theorem dM9 (hr:k.wrap (m*n)=r):Still P ⟨d,.binOp .mul T x y T',ty,pos,aft,gd⟩ ev h (.c (.v (.int k r))):=kC hx hy eB (fun w=>by simp [binOp,Op.intArith,hr])
theorem zW (h0:n≠0) (hr:k.wrap (m.tdiv n)=r):Still P ⟨d,.binOp .quo T x y T',ty,pos,aft,gd⟩ ev h (.c (.v (.int k r))):=kC hx hy eB (fun w=>by simp [binOp,Op.intDiv,hr,h0])
theorem tP (h0:n≠0) (hr:m.tmod n=r):Still P ⟨d,.binOp .rem T x y T',ty,pos,aft,gd⟩ ev h (.c (.v (.int k r))):=kC hx hy eB (fun w=>by simp [binOp,Op.intDiv,hr,h0])
theorem aF5 (hr:k.wrap (BitVec.ofInt k.bits m &&& BitVec.ofInt k.bits n).toNat=r):Still P ⟨d,.binOp .and T x y T',ty,pos,aft,gd⟩ ev h (.c (.v (.int k r))):=kC hx hy eB (fun w=>by subst hr;simp [binOp,Op.intBits])
theorem bT0 (hr:k.wrap (BitVec.ofInt k.bits m ||| BitVec.ofInt k.bits n).toNat=r):Still P ⟨d,.binOp .or T x y T',ty,pos,aft,gd⟩ ev h (.c (.v (.int k r))):=kC hx hy eB (fun w=>by subst hr;simp [binOp,Op.intBits])
theorem bK4 (hr:k.wrap (BitVec.ofInt k.bits m ^^^ BitVec.ofInt k.bits n).toNat=r):Still P ⟨d,.binOp .xor T x y T',ty,pos,aft,gd⟩ ev h (.c (.v (.int k r))):=kC hx hy eB (fun w=>by subst hr;simp [binOp,Op.intBits])
theorem eC9 (hr:decide (m=n)=b):Still P ⟨d,.binOp .eql T x y T',ty,pos,aft,gd⟩ ev h (.c (.v (.bool b))):=kC hx hy eB (fun w=>by subst hr;simp [binOp,Op.intCmp];rfl)
theorem eD4 (hr:decide (m≠n)=b):Still P ⟨d,.binOp .neq T x y T',ty,pos,aft,gd⟩ ev h (.c (.v (.bool b))):=kC hx hy eB (fun w=>by subst hr;simp [binOp,Op.intCmp,bne];rfl)
theorem eD3 (hr:decide (m<n)=b):Still P ⟨d,.binOp .lss T x y T',ty,pos,aft,gd⟩ ev h (.c (.v (.bool b))):=kC hx hy eB (fun w=>by subst hr;simp [binOp,Op.intCmp])
theorem eD2 (hr:decide (m≤n)=b):Still P ⟨d,.binOp .leq T x y T',ty,pos,aft,gd⟩ ev h (.c (.v (.bool b))):=kC hx hy eB (fun w=>by subst hr;simp [binOp,Op.intCmp])
theorem eD1 (hr:decide (n<m)=b):Still P ⟨d,.binOp .gtr T x y T',ty,pos,aft,gd⟩ ev h (.c (.v (.bool b))):=kC hx hy eB (fun w=>by subst hr;simp [binOp,Op.intCmp])
theorem eD0 (hr:decide (n≤m)=b):Still P ⟨d,.binOp .geq T x y T',ty,pos,aft,gd⟩ ev h (.c (.v (.bool b))):=kC hx hy eB (fun w=>by subst hr;simp [binOp,Op.intCmp])
end ints
theorem aT5 {T' : TypeId} {k k' : IntKind} {m n r : Int} (hx : ev x = some (.c (.v (.int k m)))) (hy : ev y = some (.c (.v (.int k' n)))) (h0 : 0 ≤ n) (hr : k.wrap (m * 2 ^ (min n.toNat k.bits)) = r) : Still P ⟨d, .binOp .shl T x y T', ty, pos, aft, gd⟩ ev h (.c (.v (.int k r))) :=
  kC hx hy eB (fun w => by have : ¬ n < 0 := by omega
                           subst hr; simp [binOp, Op.shift, this])
theorem aT6 {T' : TypeId} {k k' : IntKind} {m n r : Int} (hx : ev x = some (.c (.v (.int k m)))) (hy : ev y = some (.c (.v (.int k' n)))) (h0 : 0 ≤ n) (hr : m.fdiv (2 ^ (min n.toNat k.bits)) = r) : Still P ⟨d, .binOp .shr T x y T', ty, pos, aft, gd⟩ ev h (.c (.v (.int k r))) :=
  kC hx hy eB (fun w => by have : ¬ n < 0 := by omega
                           subst hr; simp [binOp, Op.shift, this])
theorem dV3 {op:UnOp} {p r:Value} (hx:ev x=some (.c (.v p))) (hrun:∀w,(Op.unary op p).run P w = .ok r w):Still P ⟨d,.unOp op T x,ty,pos,aft,gd⟩ ev h (.c (.v r)):=by
 intro B dom M H w a hh hc he
 have h1:=he x _ hx
 simp only [Rep,RepC] at h1
 exact ⟨r,by simp [execOp,h1,hrun],rfl⟩
theorem cN0 {b c:Bool} (hx:ev x=some (.c (.v (.bool b)))) (hr:(!b)=c):Still P ⟨d,.unOp .not T x,ty,pos,aft,gd⟩ ev h (.c (.v (.bool c))):=dV3 hx (fun w=>by subst hr;simp [Op.unary])
theorem cM8 {k:IntKind} {m r:Int} (hx:ev x=some (.c (.v (.int k m)))) (hr:k.wrap (0-m)=r):Still P ⟨d,.unOp .neg T x,ty,pos,aft,gd⟩ ev h (.c (.v (.int k r))):=dV3 hx (fun w=>by subst hr;simp [Op.unary,Op.intArith])
theorem rI {k:IntKind} {m r:Int} (hx:ev x=some (.c (.v (.int k m)))) (hr:k.wrap (BitVec.ofInt k.bits (if k.signed then -1 else k.max) ^^^ BitVec.ofInt k.bits m).toNat=r):Still P ⟨d,.unOp .xor T x,ty,pos,aft,gd⟩ ev h (.c (.v (.int k r))):=dV3 hx (fun w=>by subst hr;simp [Op.unary,Op.intBits])
theorem fK (tb:bK P tab) {S:TypeId} {e es:TyE} {k k':IntKind} {m r:Int} (hS:aR tab S=some es) (hT:aR tab T=some e) (hk:e.kind = .int k) (hx:ev x=some (.c (.v (.int k' m)))) (hr:k.wrap m=r):Still P ⟨d,.convert S T x,ty,pos,aft,gd⟩ ev h (.c (.v (.int k r))):=by
 intro B dom M H w a hh hc he
 have h1:=he x _ hx
 simp only [Rep,RepC] at h1
 refine ⟨.int k r,?_,rfl⟩
 obtain ⟨ds,hds,_⟩:=(aM tb hS).und
 simp [execOp,h1,convert,run_underlying hds,run_underlying ((aM tb hT).int hk),Conv.intToInt,hr]
end ops
end Go.Av
namespace Go.Av
open Go Go.RowKit
def WF:Option Nat→Fence
 | none=>Fence.wide
 | some l=>Fence.wide.inRound l
def nG (o:Oper):Bool:=match o.op with | .defer _=>false|_=>true
def qD:Code→Bool
 | .seq a b=>qD a&&qD b
 | .cond _ a b=>qD a&&qD b
 | .block _ c=>qD c
 | .loop c=>qD c
 | .region _ ops false=>ops.toList.all nG
 | .region _ ops true=>ops.toList.all nG
 | .skip=>true
 | .ret=>true
 | .exit _=>true
 | _=>false
def wpG (P:Program) (c:Code) (Q:Exit→Act→World→Prop) (a:Act) (w:World):Prop:=∀rd:Option Nat,(rd=none∨qD c=true)→c.wpIn (WF rd) 0 P Q a w
def dC9 (P:Program) (ops:Array Oper) (Q:Exit→Act→World→Prop) (l:List Oper) (a:Act) (w:World):Prop:=∀rd:Option Nat,(rd=none∨l.all nG=true)→wpListIn (WF rd) 0 P ops Q l a w
theorem bL0 (rd:Option Nat) (f:FuncId):(WF rd).fn f:=by cases rd<;>trivial
theorem cP1 (rd:Option Nat):(WF rd).depth=none:=by cases rd<;>rfl
theorem bL1 {n:Nat} (rd:Option Nat):(WF rd).depth.isSome=true→1≤n:=fun hh=>by simp [cP1] at hh
theorem bW2 {rd:Option Nat} {n:Nat} {P:Program} {f:FuncId} {args:Array Value} {w:World} {R:Ending→World→Prop} (h:Calls P f args w R):CallsIn (WF rd) n P f args w R:=by
 have:=callsIn_wide (n:=n).2 h
 cases rd with
 | none=>exact this
 | some l=>exact this
theorem dB1 {rd:Option Nat} {n:Nat} {P:Program} {row:String} {args:Array Value} {w:World} {R:Value→World→Prop} (h:Rows P row args w R):RowsIn (WF rd) n P row args w R:=by
 have:RowsIn Fence.wide n P row args w R:=fun c cs _=>let ⟨v,w',r,s⟩:=h c cs;⟨v,w',r,stepsIn_wide.2 s⟩
 cases rd with
 | none=>exact this
 | some l=>exact this
theorem bI2 {rd:Option Nat} {n:Nat} {P:Program} {o:Oper} {a:Act} {w:World} {K:Act→World→Prop} {Q:Exit→Act→World→Prop} (hd:rd=none∨nG o=true) (h:o.wp P a w K Q):o.wpIn (WF rd) n P a w K Q:=by
 refine ⟨fun f _=>bL0 rd f,?_⟩
 have hs:o.semAt (WF rd).round a.eval=execOp a.eval o:=by
  rcases hd with rfl|hd
  ·rfl
  ·cases rd with
   | none=>rfl
   | some l=>exact Oper.semAt_eq _ _ _ (fun c hc=>by rw [nG,hc] at hd;cases hd)
 rw [hs]
 unfold Oper.wp at h
 generalize (execOp a.eval o).run P w=r at *
 cases r with
 | ok x w' =>
  cases x<;>simp only [Oper.upon,Oper.uponIn] at h ⊢ <;>
   first
    | exact h
    | exact ⟨bL1 rd,CallsIn.mono (bW2 h) (fun e w'' he=>by cases e<;>exact he)⟩
    | exact ⟨bL1 rd,dB1 h⟩
    | exact h.elim
 | halt x w'=>cases x<;>simp only [Oper.upon,Oper.uponIn] at h ⊢ <;> exact h
theorem cH5 {rd:Option Nat} {n:Nat} {P:Program} {o:Oper} {a:Act} {w:World} {K:Act→World→Prop} {Q:Exit→Act→World→Prop} (hd:rd=none∨nG o=true) (h:o.wp P a w K (fun _ _ _=>False)):o.wpIn (WF rd) n P a w K Q:=by
 refine ⟨fun f _=>bL0 rd f,?_⟩
 have hh:=(bI2 (n:=n) hd h).2
 generalize (o.semAt (WF rd).round a.eval).run P w=r at *
 cases r with
 | ok x w' =>
  cases x<;>simp only [Oper.uponIn] at hh ⊢ <;>
   first
    | exact hh
    | exact hh.elim
    | exact ⟨hh.1,CallsIn.mono hh.2 (fun e w'' he=>by cases e<;>first|exact he|exact he.elim|exact (let ⟨_,_,h⟩:=he;h.elim))⟩
    | exact ⟨hh.1,RoundIn.mono hh.2 (fun e w'' he=>by cases e<;>first|exact he|exact he.elim|exact (let ⟨_,_,h⟩:=he;h.elim))⟩
 | halt x w'=>cases x<;>simp only [Oper.uponIn] at hh ⊢ <;> first|exact hh|exact hh.elim
theorem aL3 {rd:Option Nat} {n:Nat} {P:Program} {ops:Array Oper} {i:Nat} {a:Act} {w:World} {K:Act→World→Prop} {Q:Exit→Act→World→Prop} (hd:rd=none∨∀o,ops[i]? = some o→nG o=true) (h:wpOp P ops (fun _ _ _=>False) i K a w):wpOpIn (WF rd) n P ops Q i K a w:=by
 unfold wpOp at h
 unfold wpOpIn
 cases ho:ops[i]? with
 | none=>rw [ho] at h;exact h
 | some o =>
  rw [ho] at h
  simp only at h ⊢
  split
  ·rename_i hw
   rw [if_pos hw] at h
   rcases h with h|⟨_,_,_,h⟩
   ·exact cH5 (hd.imp id fun k=>k o ho) h
   ·exact h.elim
  ·rename_i hw
   rw [if_neg hw] at h
   exact ⟨fun f _=>bL0 rd f,h⟩
theorem jX {F : Fence} {n : Nat} {P : Program} {md : Region.Mode} {ops : Array Oper} {Q' : Exit → Act → World → Prop} : ∀ (l : List Oper) (k : Nat) (listed : Array Bool) (a : Act) (w : World), (∀ j, l[j]? = ops[k + j]?) →
    Region.seqB md ops l.length k listed = true → wpListIn F n P ops Q' l a w → wpAnyIn F n P md ops Q' l.length listed a w
  | [], _, _, _, _, _, hB, h => ⟨by simpa [Region.seqB] using hB, h⟩
  | o :: l, k, listed, a, w, hl, hB, h => by
    have h0 : ops[k]? = some o := by simpa using (hl 0).symm
    simp only [List.length_cons, Region.seqB, Bool.and_eq_true, decide_eq_true_eq] at hB
    refine ⟨fun h1 => (by rw [hB.1] at h1; cases h1), fun i hi => ?_⟩
    rw [hB.1] at hi
    have hik : i = k := by simpa using hi
    subst hik
    have hw : wpOpIn F n P ops Q' i (wpListIn F n P ops Q' l) a w := by unfold wpOpIn; simp only [h0]; exact h
    exact wpOpIn_mono (fun a' w' h' => jX l (i + 1) _ a' w' (fun j => by have := hl (j + 1); simpa [Nat.add_assoc, Nat.add_comm 1 j] using this) hB.2 h') hw
section rules
variable {P:Program} {Q:Exit→Act→World→Prop} {a:Act} {w:World}
theorem kJ {c:Code} (h:wpG P c Q a w):c.wp P Q a w:=wpIn_wide.1 (h none (.inl rfl))
theorem nO {c:Code} {Q':Exit→Act→World→Prop} (h:wpG P c Q a w) (hq:∀e a w,Q e a w→Q' e a w):wpG P c Q' a w:=fun rd hr=>wpIn_mono (h rd hr) hq
theorem cP3 (h:Q .normal a w):wpG P .skip Q a w:=fun rd _=>wpIn_skip h
theorem dD0 (h:Q .ret a w):wpG P .ret Q a w:=fun rd _=>wpIn_ret h
theorem cP2 {id:Nat} (h:Q (.exit id) a w):wpG P (.exit id) Q a w:=fun rd _=>wpIn_exit h
theorem aZ3 {rd:Option Nat} {x y:Bool} (h:rd=none∨(x&&y)=true):(rd=none∨x=true)∧(rd=none∨y=true):=by
 rcases h with h|h
 ·exact ⟨.inl h,.inl h⟩
 ·rw [Bool.and_eq_true] at h;exact ⟨.inr h.1,.inr h.2⟩
theorem dD1 {x y:Code} (h:wpG P x (Exit.then (wpG P y Q) Q) a w):wpG P (.seq x y) Q a w:=fun rd hr=>by
 obtain ⟨h1,h2⟩:=aZ3 hr
 exact wpIn_seq (wpIn_mono (h rd h1) fun e a w hq=>by cases e<;>first|exact hq rd h2|exact hq)
theorem aV4 {c:Operand} {x y:Code} {t:Bool} (hc:a.eval c = .bool t) (h:wpG P (if t then x else y) Q a w):wpG P (.cond c x y) Q a w:=fun rd hr=>by
 obtain ⟨h1,h2⟩:=aZ3 hr
 refine wpIn_cond hc (h rd ?_)
 cases t
 ·exact h2
 ·exact h1
theorem bU0 {id:Nat} {c:Code} (h:wpG P c (Exit.inBlock id Q) a w):wpG P (.block id c) Q a w:=fun rd hr=>wpIn_block (h rd hr)
theorem aV5 {c : Code} (I : Act → World → Prop) (μ : Act → World → Nat) (h₀ : I a w)
    (round : ∀ a w, I a w → wpG P c (Exit.then (fun a' w' => I a' w' ∧ μ a' w' < μ a w) Q) a w) : wpG P (.loop c) Q a w := fun rd hr => wpIn_loop I μ h₀ fun a w hI => round a w hI rd hr
def mO (P:Program) (c:Code) (Q:Exit→Act→World→Prop):Nat→Act→World→Prop
 | 0,_,_=>False
 | n+1,a,w=>wpG P c (Exit.then (mO P c Q n) Q) a w
theorem aK0 {c:Code} {n:Nat}:mO P c Q (n+1) a w=wpG P c (Exit.then (mO P c Q n) Q) a w:=rfl
theorem wI {c:Code} (n:Nat) (h:mO P c Q n a w):wpG P (.loop c) Q a w:=by
 classical
 refine aV5 (fun a w=>∃m,mO P c Q m a w) (fun a w=>if hI:∃m,mO P c Q m a w then Classical.choose (least hI) else 0) ⟨n,h⟩ fun a w hI=>?_
 obtain ⟨hm,hmin⟩:=Classical.choose_spec (least hI)
 have e:(if hI:∃m,mO P c Q m a w then Classical.choose (least hI) else 0)=Classical.choose (least hI):=dif_pos hI
 rw [e]
 generalize Classical.choose (least hI)=m at hm hmin
 cases m with
 | zero=>exact hm.elim
 | succ m =>
  refine nO hm fun ex a' w' hq=>?_
  cases ex with
  | normal =>
   have hJ:∃m,mO P c Q m a' w':=⟨m,hq⟩
   refine ⟨hJ,?_⟩
   rw [dif_pos hJ]
   have:=(Classical.choose_spec (least hJ)).2 m hq
   omega
  | _=>exact hq
where
 least {p:Nat→Prop} (hp:∃m,p m):∃m,p m∧∀k,p k→m≤k:=by
  obtain ⟨m,hm⟩:=hp
  induction m using Nat.strongRecOn with
  | _ m ih =>
   by_cases h:∃k,k<m∧p k
   ·obtain ⟨k,hk,hpk⟩:=h
    exact ih k hk hpk
   ·refine ⟨m,hm,fun k hk=>?_⟩
    rcases Nat.lt_or_ge k m with h1|h1
    ·exact absurd ⟨k,h1,hk⟩ h
    ·exact h1
theorem aA4 {id:Nat} {l:List Oper} (h:dC9 P l.toArray Q l a w):wpG P (.region id l.toArray false) Q a w:=fun rd hr=>wpIn_region_lit (h rd hr)
theorem eC {ops : Array Oper} {rest : List Oper} {o : Oper}
    (h : ∀ K : Act → World → Prop, (∀ a w, dC9 P ops Q rest a w → K a w) →
      if Region.wanted o (yielded ops a.tmps) then o.wp P a w K Q else K (a.put o.dst undef) w) : dC9 P ops Q (o :: rest) a w := fun rd hr => by
  rw [List.all_cons] at hr
  obtain ⟨h1, h2⟩ := aZ3 hr
  refine wpListIn_step fun K hK => ?_
  have := h K (fun a w hl => hK a w (hl rd h2))
  split
  · rename_i hw; rw [if_pos hw] at this; exact bI2 h1 this
  · rename_i hw; rw [if_neg hw] at this; exact ⟨fun f _ => bL0 rd f, this⟩
end rules
def iH (P : Program) (fn : Func) (tmps : Array Value) (R : Ending → World → Prop) : List Deferred → World → Prop
  | [], w => ∃ v, (results fn tmps).run P w = .ok v w ∧ R (.returned v) w
  | d :: ds, w => (∃ r w', d.target = .collected r ∧ (Instr.takeDeferred r).run P w = .ok [] w' ∧ iH P fn tmps R ds w') ∨
      (∃ fv cap f args, d.target = .fn fv cap ∧ (invoke d.target d.args).run P w = .ok (.enter f args) w ∧ CallsD P f args .returning w fun e u' w' => (∃ v, e = .returned v) ∧ u' = .returning ∧ iH P fn tmps R ds w')
theorem rS {P : Program} {fn : Func} {tmps : Array Value} {R : Ending → World → Prop} : ∀ (ds : List Deferred) (w : World) (fr : Frame) (cs : List Frame), fr.mode = .returning → fr.defers = ds → fr.tmps = tmps → P.funcs[fr.fn]? = some fn → fr.kind = .normal → iH P fn tmps R ds w →
    ∃ e w' fr', R e w' ∧ Comes P (lone fr cs w) (lone fr' cs w') e ∧ fr'.fn = fr.fn ∧ fr'.leaving P w' e := by
  intro ds
  induction ds with
  | nil =>
    intro w fr cs hu hd ht hf hk h
    obtain ⟨v, hr, hR⟩ := h
    exact ⟨.returned v, w, fr, hR, Steps.refl P _, rfl, hu, hd, hk, fn, hf, ht ▸ hr⟩
  | cons d ds ih =>
    intro w fr cs hu hd ht hf hk h
    rcases h with ⟨r, w', h1, h2, h3⟩ | ⟨fv, cap, f, args, h1, h2, h3⟩
    · have s1 := step_collected (cs := cs) (by rw [hu]; simp) hd h1 h2
      obtain ⟨e', w'', fr', hR', hs', hfn', hl'⟩ := ih w' { fr with defers := [] ++ ds } cs hu rfl ht hf hk h3
      exact ⟨e', w'', fr', hR', Comes.of_steps (.one s1) hs', hfn', hl'⟩
    · have s1 := step_defer (cs := cs) (by rw [hu]; simp) hd h1 h2
      obtain ⟨e, u', w', frX, ⟨⟨v, rfl⟩, rfl, hR⟩, hsteps, hkX, hgo⟩ := h3 { fr with defers := ds } cs hu
      have s2 := step_going_returned (c := { { fr with defers := ds } with mode := .returning }) (cs := cs) hkX hgo
      obtain ⟨e', w'', fr', hR', hs', hfn', hl'⟩ := ih w' { { { fr with defers := ds } with mode := .returning } with mode := settle .returning } cs rfl rfl ht hf hk hR
      exact ⟨e', w'', fr', hR', Comes.of_steps (.head s1 (Steps.trans hsteps (.one s2))) hs', hfn', hl'⟩
def dO1 (P:Program) (fn:Func) (R:Ending→World→Prop):Exit→Act→World→Prop
 | .normal,a,w=>iH P fn a.tmps R a.defers w
 | .ret,a,w=>iH P fn a.tmps R a.defers w
 | _,_,_=>False
theorem gC {P : Program} {f : FuncId} {fn : Func} {c : Code} {args : Array Value} {w : World} {R : Ending → World → Prop} (hf : P.funcs[f]? = some fn) (hb : fn.body = some c)
    (h : c.wp P (dO1 P fn R) { tmps := args ++ Array.replicate (fn.ntmps - args.size) undef, defers := [] } w) : Calls P f args w R := by
  intro cs
  let b : Frame := { (default : Frame) with fn := f, kind := .normal }
  have henter : Frame.enter P f args .normal = b.at { tmps := args ++ Array.replicate (fn.ntmps - args.size) undef, defers := [] } [.code c] := by
    simp [Frame.enter, Frame.at, hf, hb, b]
  obtain ⟨e, a', w', hq, harr⟩ := h b [] cs
  rw [← henter] at harr
  cases e with
  | normal =>
    obtain ⟨e', w'', fr', hR, hs, hfn, hl⟩ := rS a'.defers w' { b.at a' [] with mode := .returning } cs rfl rfl rfl hf rfl hq
    exact ⟨e', w'', fr', hR, Comes.of_steps (Steps.trans harr (.one step_end)) hs, hfn, hl⟩
  | ret =>
    obtain ⟨todo, hs₀⟩ := harr
    obtain ⟨e', w'', fr', hR, hs, hfn, hl⟩ := rS a'.defers w' { b.at a' todo with mode := .returning } cs rfl rfl rfl hf rfl hq
    exact ⟨e', w'', fr', hR, Comes.of_steps hs₀ hs, hfn, hl⟩
  | panic chain => exact hq.elim
  | exit id => exact hq.elim
  | goto l => exact hq.elim
  | outgrown => exact hq.elim
theorem aG6 {l:List Oper} {p:Oper→Bool} (h:l.all p=true) {i:Nat} {o:Oper} (ho:l.toArray[i]? = some o):p o=true:=List.all_eq_true.1 h o (List.mem_of_getElem? (by simpa using ho))
end Go.Av
namespace Go.Av
open Go Go.RowKit
abbrev bZ:=List (Option FuncId × List AV)
def vI:FuncId:=1000000007
def bY2:List Value→Deferred
 | [.pointer (some p)]=>{target := .collected p.block,args := #[]}
 | us=>{target := .fn (.func 0) us.toArray,args := #[]}
def bG3 (f:FuncId) (us:List Value):Deferred:=match Nat.beq f vI with
 | false=>{target := .fn (.func f) us.toArray,args := #[]}
 | true=>bY2 us
theorem yC {f:FuncId} {us:List Value} (h:Nat.beq f vI=false):bG3 f us={target := .fn (.func f) us.toArray,args := #[]}:=by rw [bG3,h]
def DefRep (fr:List Value) (C:Cx):bZ→List Deferred→Prop
 | [],ds=>ds=[]
 | (some f,caps)::r,ds=>∃us ds',ds=bG3 f us::ds'∧RepL C caps us∧DefRep fr C r ds'
 | (none,xs)::r,ds=>RepL C xs fr∧DefRep fr C r ds
theorem DefRep.ext {fr:List Value} {C C':Cx} (h:Ext C C'):∀{l:bZ} {ds:List Deferred},DefRep fr C l ds→DefRep fr C' l ds
 | [],ds,hd=>hd
 | (some f,caps)::r,ds,hd=>by
  obtain ⟨us,ds',h1,h2,h3⟩:=hd
  exact ⟨us,ds',h1,RepL.ext h _ _ h2,DefRep.ext h h3⟩
 | (none,xs)::r,ds,hd=>⟨RepL.ext h _ _ hd.1,DefRep.ext h hd.2⟩
abbrev lt (n:Nat):Nat→Prop:=fun id=>id<n
def cx (B:Bs) (n:Nat) (M:Nat→Option Nat) (h:aO) (w:World):Cx:=⟨lt n,M,aY B (lt n) M (lk h),w⟩
def sO (B:Bs) (sz n:Nat) (env:Env) (h:aO) (dfs:bZ) (a:Act) (w:World):Prop :=
 ∃M,ConcH B (lt n) M (lk h) w∧a.tmps.size=sz∧(∀t av,lkE env t=some av→Rep (cx B n M h w) av (a.tmps.getD t undef))∧DefRep B.fr (cx B n M h w) dfs a.defers
abbrev AK:=Exit→Nat→Env→aO→bZ→Prop
def KC (B:Bs) (sz:Nat) (K:AK) (e:Exit) (a:Act) (w:World):Prop:=∃n env h dfs,K e n env h dfs∧sO B sz n env h dfs a w
def AW (P:Program) (sz:Nat) (c:Code) (K:AK) (n:Nat) (env:Env) (h:aO) (dfs:bZ):Prop :=
 ∀B a w,sO B sz n env h dfs a w→wpG P c (KC B sz K) a w
def AWL (P:Program) (ops:Array Oper) (sz:Nat) (l:List Oper) (K:AK) (n:Nat) (env:Env) (h:aO) (dfs:bZ):Prop :=
 ∀B a w,sO B sz n env h dfs a w→dC9 P ops (KC B sz K) l a w
def bK8 (next:Nat→Env→aO→bZ→Prop) (K:AK):AK
 | .normal,n,env,h,dfs=>next n env h dfs
 | e,n,env,h,dfs=>K e n env h dfs
def vQ (id:Nat) (K:AK):AK
 | .exit id',n,env,h,dfs=>match Nat.beq id' id with|true=>K .normal n env h dfs|false=>K (.exit id') n env h dfs
 | e,n,env,h,dfs=>K e n env h dfs
section rules
variable {P:Program} {sz n:Nat} {env:Env} {h:aO} {dfs:bZ} {K:AK}
theorem dO0 {x y:Code} (hx:AW P sz x (bK8 (AW P sz y K) K) n env h dfs):AW P sz (.seq x y) K n env h dfs:=by
 intro B a w hc
 refine dD1 (nO (hx B a w hc) fun e a w hq=>?_)
 obtain ⟨n',env',h',d',hk,hc'⟩:=hq
 cases e<;>first|exact hk B a w hc'|exact ⟨n',env',h',d',hk,hc'⟩
theorem cR7 (hk:K .normal n env h dfs):AW P sz .skip K n env h dfs:=fun B a w hc=>cP3 ⟨n,env,h,dfs,hk,hc⟩
theorem dN9 (hk:K .ret n env h dfs):AW P sz .ret K n env h dfs:=fun B a w hc=>dD0 ⟨n,env,h,dfs,hk,hc⟩
theorem cR4 {id:Nat} (hk:K (.exit id) n env h dfs):AW P sz (.exit id) K n env h dfs:=fun B a w hc=>cP2 ⟨n,env,h,dfs,hk,hc⟩
theorem bV5 {id:Nat} {c:Code} (hx:AW P sz c (vQ id K) n env h dfs):AW P sz (.block id c) K n env h dfs:=by
 intro B a w hc
 refine bU0 (nO (hx B a w hc) fun e a w hq=>?_)
 obtain ⟨n',env',h',d',hk,hc'⟩:=hq
 cases e with
 | exit id' =>
  simp only [vQ] at hk
  simp only [Exit.inBlock]
  split at hk
  ·rename_i he
   rw [if_pos (Nat.eq_of_beq_eq_true he)]
   exact ⟨n',env',h',d',hk,hc'⟩
  ·rename_i he
   rw [if_neg (fun e=>by subst e;rw [Nat.beq_refl] at he;cases he)]
   exact ⟨n',env',h',d',hk,hc'⟩
 | _=>exact ⟨n',env',h',d',hk,hc'⟩
theorem cZ {B:Bs} {a:Act} {w:World} {M:Nat→Option Nat} (he:∀t av,lkE env t=some av→Rep (cx B n M h w) av (a.tmps.getD t undef)):∀x av,evA env x=some av→Rep (cx B n M h w) av (a.eval x):=by
 intro x av hx
 cases x with
 | tmp t=>exact he t av hx
 | const v=>simp only [evA,Option.some.injEq] at hx;subst hx;simp [Rep,RepC,Act.eval]
 | global g=>cases hx
 | func f=>simp only [evA,Option.some.injEq] at hx;subst hx;exact ⟨[],rfl,rfl⟩
theorem bD5 {c:Operand} {x y:Code} {b:Bool} (hb:evA env c=some (.c (.v (.bool b)))) (ht:b=true→AW P sz x K n env h dfs) (hf:b=false→AW P sz y K n env h dfs):AW P sz (.cond c x y) K n env h dfs:=by
 intro B a w hc
 obtain ⟨M,h1,h2,h3,h4⟩:=id hc
 have:=cZ h3 c _ hb
 simp only [Rep,RepC] at this
 cases b with
 | true=>exact aV4 this (ht rfl B a w hc)
 | false=>exact aV4 this (hf rfl B a w hc)
theorem xH {c:Operand} {x y:Code} {b:Bool} (hb:evA env c=some (.c (.v (.bool b)))) (hb':b=true) (ht:AW P sz x K n env h dfs):AW P sz (.cond c x y) K n env h dfs:=by
 subst hb';exact bD5 hb (fun _=>ht) (fun h=>by cases h)
theorem xG {c:Operand} {x y:Code} {b:Bool} (hb:evA env c=some (.c (.v (.bool b)))) (hb':b=false) (ht:AW P sz y K n env h dfs):AW P sz (.cond c x y) K n env h dfs:=by
 subst hb';exact bD5 hb (fun h=>by cases h) (fun _=>ht)
def cL (n:Nat) (env:Env) (h:aO) (dfs:bZ) (N:Nat) (E:Env) (Hp:aO) (D:bZ):Prop:=∀B sz a w,sO B sz n env h dfs a w→sO B sz N E Hp D a w
theorem nQ {c:Code} {N:Nat} {E:Env} {Hp:aO} {D:bZ} (hw:cL n env h dfs N E Hp D) (hx:AW P sz c K N E Hp D):AW P sz c K n env h dfs:=fun B a w hc=>hx B a w (hw B sz a w hc)
theorem kG (p:Nat→Prop) (hp:∃m,p m):∃m,p m∧∀k,p k→m≤k:=by
 obtain ⟨m,hm⟩:=hp
 induction m using Nat.strongRecOn with
 | _ m ih =>
  by_cases h:∃k,k<m∧p k
  ·obtain ⟨k,hk,hpk⟩:=h
   exact ih k hk hpk
  ·refine ⟨m,hm,fun k hk=>?_⟩
   rcases Nat.lt_or_ge k m with h1|h1
   ·exact absurd ⟨k,h1,hk⟩ h
   ·exact h1
theorem cR5 {ι : Type} {c : Code} (N : Nat) (E : ι → Env) (Hp : ι → aO) (D : bZ) (Inv : ι → Prop) (μ : ι → Nat) (i0 : ι) (h0 : Inv i0) (hw : cL n env h dfs N (E i0) (Hp i0) D)
    (round : ∀ i, Inv i → AW P sz c (bK8 (fun n' env' h' dfs' => ∃ j, Inv j ∧ μ j < μ i ∧ cL n' env' h' dfs' N (E j) (Hp j) D) K) N (E i) (Hp i) D) : AW P sz (.loop c) K n env h dfs := by
  intro B a w hc
  classical
  let I : Act → World → Prop := fun a w => ∃ i, Inv i ∧ sO B sz N (E i) (Hp i) D a w
  let p : Act → World → Nat → Prop := fun a w m => ∃ i, Inv i ∧ sO B sz N (E i) (Hp i) D a w ∧ μ i = m
  let μ' : Act → World → Nat := fun a w => if hI : ∃ m, p a w m then Classical.choose (kG _ hI) else 0
  refine aV5 I μ' ⟨i0, h0, hw B sz a w hc⟩ fun a w hI => ?_
  have hI' : ∃ m, p a w m := by
    obtain ⟨i, h1, h2⟩ := hI
    exact ⟨μ i, i, h1, h2, rfl⟩
  obtain ⟨⟨i, h1, h2, h3⟩, _⟩ := Classical.choose_spec (kG _ hI')
  have hm : μ' a w = μ i := by simp only [μ', dif_pos hI', h3]
  refine nO (round i h1 B a w h2) fun e a' w' hq => ?_
  obtain ⟨n', env', h', d', hk, hc'⟩ := hq
  cases e with
  | normal =>
    obtain ⟨j, hj1, hj2, hj3⟩ := hk
    have hcj := hj3 B sz a' w' hc'
    refine ⟨⟨j, hj1, hcj⟩, ?_⟩
    have hJ : ∃ m, p a' w' m := ⟨μ j, j, hj1, hcj, rfl⟩
    have : μ' a' w' ≤ μ j := by
      simp only [μ', dif_pos hJ]
      exact (Classical.choose_spec (kG _ hJ)).2 _ ⟨j, hj1, hcj, rfl⟩
    omega
  | _ => exact ⟨n', env', h', d', hk, hc'⟩
theorem qQ {id:Nat} {l:List Oper} (hx:AWL P l.toArray sz l K n env h dfs):AW P sz (.region id l.toArray false) K n env h dfs:=fun B a w hc=>aA4 (hx B a w hc)
theorem cR9 {ops:Array Oper} (hk:K .normal n env h dfs):AWL P ops sz [] K n env h dfs:=fun B a w hc rd _=>⟨n,env,h,dfs,hk,hc⟩
def fQ (env:Env) (d:Option Tmp) (v:AV):Env:=match d with|some t=>(t,v)::env|none=>env
theorem mN {Δ h:aO} {k:Nat} {o:AObj} (ho:lk Δ k=some o):lk (Δ ++ h) k=some o:=by
 induction Δ with
 | nil=>cases ho
 | cons p Δ ih =>
  obtain ⟨i,q⟩:=p
  rw [List.cons_append,bV]
  rw [bV] at ho
  split
  ·rename_i e;rw [if_pos e] at ho;exact ho
  ·rename_i e;rw [if_neg e] at ho;exact ih ho
theorem kQ {Δ h:aO} {k:Nat} (ho:∀p ∈ Δ,p.1≠k):lk (Δ ++ h) k=lk h k:=by
 induction Δ with
 | nil=>rfl
 | cons p Δ ih =>
  obtain ⟨i,q⟩:=p
  rw [List.cons_append,bV,if_neg (ho (i,q) aP)]
  exact ih fun p hp=>ho p (by simp [hp])
theorem aQ7 {n n':Nat} (h:n≤n'):ad (lt n) n n'=lt n':=by
 funext id
 simp only [ad,lt,eq_iff_iff]
 omega
theorem kL {B : Bs} {a : Act} {w w' : World} {M M' : Nat → Option Nat} {n' : Nat} {h' : aO} (hs : a.tmps.size = sz) (he : ∀ t av, lkE env t = some av → Rep (cx B n M h w) av (a.tmps.getD t undef))
    (hext : Ext (cx B n M h w) (cx B n' M' h' w')) {d : Option Tmp} {v : AV} {u : Value} (hd : ∀ t, d = some t → t < sz) (hv : Rep (cx B n' M' h' w') v u) :
    (a.put d u).tmps.size = sz ∧ (∀ t av, lkE (fQ env d v) t = some av → Rep (cx B n' M' h' w') av ((a.put d u).tmps.getD t undef)) ∧ (a.put d u).defers = a.defers := by
  cases d with
  | none => exact ⟨hs, fun t av ht => Rep.ext hext _ _ (he t av ht), rfl⟩
  | some k =>
    have hk := hd k rfl
    refine ⟨by simp [Act.put, hs], fun t av ht => ?_, rfl⟩
    simp only [fQ, eO] at ht
    by_cases hkt : k = t
    · subst hkt
      rw [if_pos rfl] at ht
      injection ht with ht
      subst ht
      simp only [Act.put]
      rw [show (a.tmps.setIfInBounds k u).getD k undef = u by simp [hs, hk]]
      exact hv
    · rw [if_neg hkt] at ht
      simp only [Act.put]
      rw [show (a.tmps.setIfInBounds k u).getD t undef = a.tmps.getD t undef by simp [Array.getElem?_setIfInBounds_ne hkt]]
      exact Rep.ext hext _ _ (he t av ht)
def guardA (ops:Array Oper) (env:Env) (o:Oper) (b:Bool):Prop :=
 match o.guard with
 | none=>b=true
 | some (j,want)=>∃t,(ops[j]?).bind (·.dst)=some t∧((∃c,lkE env t=some (.c (.v (.bool c)))∧(c==want)=b)∨(lkE env t=some (.c (.v undef))∧b=false))
theorem mQ {ops:Array Oper} {tmps:Array Value} {j t:Nat} (h1:(ops[j]?).bind (·.dst)=some t) (h4:tmps.getD t undef=undef):yielded ops tmps j=none:=by
 unfold yielded
 rw [h1]
 simp only [Option.bind_some]
 cases hq:tmps[t]? with
 | none=>rfl
 | some q =>
  have:q=undef:=by rw [← h4];simp [hq]
  subst this
  rfl
theorem guardA.wanted {ops : Array Oper} {o : Oper} {b : Bool} {B : Bs} {a : Act} {w : World} {M : Nat → Option Nat} (hg : guardA ops env o b) (he : ∀ t av, lkE env t = some av → Rep (cx B n M h w) av (a.tmps.getD t undef)):
    Region.wanted o (yielded ops a.tmps) = b := by
  unfold guardA at hg
  unfold Region.wanted
  cases hgd : o.guard with
  | none => rw [hgd] at hg; exact hg.symm
  | some p =>
    obtain ⟨j, want⟩ := p
    rw [hgd] at hg
    obtain ⟨t, h1, h2⟩ := hg
    rcases h2 with ⟨c, h2, h3⟩ | ⟨h2, rfl⟩
    rotate_left
    · have h4 := he t _ h2
      simp only [Rep, RepC] at h4
      simp [mQ h1 h4]
    have h4 := he t _ h2
    simp only [Rep, RepC] at h4
    have hlt : t < a.tmps.size := by
      rcases Nat.lt_or_ge t a.tmps.size with h1 | h1
      · exact h1
      · simp [h1, undef] at h4
    have : yielded ops a.tmps j = some c := by
      unfold yielded
      rw [h1]
      have h5 : a.tmps[t]? = some (.bool c) := by
        rw [← h4]
        simp [hlt]
      simp [h5]
    simp only [this]
    rw [← h3]
    cases c <;> cases want <;> rfl
end rules
end Go.Av
namespace Go.Av
open Go Go.RowKit
section steps
variable {P:Program} {sz n:Nat} {env:Env} {h:aO} {dfs:bZ} {K:AK} {ops:Array Oper} {rest:List Oper} {o:Oper}
def gO (d:Option Tmp) (sz:Nat):Bool:=match d with|some t=>Nat.blt t sz|none=>true
theorem eK {d:Option Tmp} (h:gO d sz=true):∀t,d=some t→t<sz:=by
 intro t ht;subst ht;simpa [gO,Nat.blt_eq] using h
theorem sQ {v : AV} {Δ : aO} {n' : Nat} (hg : guardA ops env o true) (hd : gO o.dst sz = true) (hn : n ≤ n') (hA : Adds P o (evA env) h v Δ n n') (hcov : ∀ id, n ≤ id → id < n' → (lk Δ id).isSome = true) (hkeys : ∀ p ∈ Δ, n ≤ p.1)
    (next : AWL P ops sz rest K n' (fQ env o.dst v) (Δ ++ h) dfs) : AWL P ops sz (o :: rest) K n env h dfs := by
  intro B a w hc
  obtain ⟨M, h1, h2, h3, h4⟩ := hc
  refine eC fun K' hK' => ?_
  rw [if_pos (hg.wanted h3)]
  have e1 : ∀ id, id < n → lk (Δ ++ h) id = lk h id := fun id hid => kQ fun p hp e => by have := hkeys p hp; omega
  have e2 : ∀ id, n ≤ id → id < n' → lk (Δ ++ h) id = lk Δ id := fun id h5 h6 => by
    obtain ⟨o', ho'⟩ := Option.isSome_iff_exists.1 (hcov id h5 h6)
    rw [mN ho', ho']
  have eok : aY B (lt n) M (lk (Δ ++ h)) = aY B (lt n) M (lk h) := by
    funext b
    unfold aY
    simp only [eq_iff_iff]
    exact dY3
  have h1' : ConcH B (lt n) M (lk (Δ ++ h)) w := by
    refine ⟨h1.fr, fun id o hid hH => ?_, fun id id' o o' g k1 k2 k3 k4 => h1.inj id id' o o' g k1 k2 bF4 bF2, fun id o g k1 k2 => h1.lo id o g k1 bF5⟩
    rw [eok]
    exact h1.obj id o hid aC9
  refine hA B (lt n) M (lk (Δ ++ h)) w a K' (KC B sz K) (fun id o k1 k2 => by rw [e1 id k2]; exact k1) (fun id k1 k2 => ⟨by simp only [lt]; omega, e2 id k1 k2⟩) h1' (by rw [eok]; exact cZ h3) ?_
  intro u w' M' hext hcc hv
  rw [aQ7 hn] at hext hcc hv
  rw [eok] at hext
  obtain ⟨p1, p2, p3⟩ := kL (h' := Δ ++ h) (M' := M') h2 h3 hext (eK hd) hv
  exact hK' _ _ (next B _ _ ⟨M', hcc, p1, p2, by rw [p3]; exact h4.ext hext⟩)
theorem bM5 {v:AV} (hg:guardA ops env o true) (hd:gO o.dst sz=true) (hA:Still P o (evA env) h v) (next:AWL P ops sz rest K n (fQ env o.dst v) h dfs):AWL P ops sz (o::rest) K n env h dfs :=
 sQ hg hd (Nat.le_refl _) hA.adds (fun id h1 h2=>by omega) aP next
theorem cR8 {v:AV} (hg:guardA ops env o true) (hd:gO o.dst sz=true) (hA:Adds P o (evA env) h v [] n n) (next:AWL P ops sz rest K n (fQ env o.dst v) h dfs):AWL P ops sz (o::rest) K n env h dfs :=
 sQ hg hd (Nat.le_refl _) hA (fun id h1 h2=>by omega) aP next
theorem cS0 {v:AV} {obj:AObj} (hlv:obj.live=some obj) (hg:guardA ops env o true) (hd:gO o.dst sz=true) (hA:Adds P o (evA env) h v [(n,obj)] n (n+1)) (next:AWL P ops sz rest K (n+1) (fQ env o.dst v) ((n,obj)::h) dfs):AWL P ops sz (o::rest) K n env h dfs :=
 sQ hg hd (Nat.le_succ _) hA (fun id h1 h2=>by
  obtain rfl:id=n:=by omega
  rw [bV,if_pos rfl,hlv];rfl) aP next
theorem bW0 (hg:guardA ops env o false) (hd:gO o.dst sz=true) (next:AWL P ops sz rest K n (fQ env o.dst (.c (.v undef))) h dfs):AWL P ops sz (o::rest) K n env h dfs:=by
 intro B a w hc
 obtain ⟨M,h1,h2,h3,h4⟩:=hc
 refine eC fun K' hK'=>?_
 rw [if_neg (by rw [hg.wanted h3];simp)]
 obtain ⟨p1,p2,p3⟩:=kL (v := .c (.v undef)) (u:=undef) h2 h3 (Ext.refl _) (eK hd) (by simp [Rep,RepC])
 exact hK' _ _ (next B _ _ ⟨M,h1,p1,p2,by rw [p3];exact h4⟩)
theorem aE {ops:Array Oper} {d:Option Tmp} {op:Op} {ty:TypeId} {pos:String} {aft:Array Edge}:guardA ops env ⟨d,op,ty,pos,aft,none⟩ true:=rfl
theorem cB {ops:Array Oper} {d:Option Tmp} {op:Op} {ty:TypeId} {pos:String} {aft:Array Edge} {j:Nat} {want b:Bool} {t:Tmp} {c:Bool} (h1:(ops[j]?).bind (·.dst)=some t) (h2:lkE env t=some (.c (.v (.bool c)))) (h3:(c==want)=b):guardA ops env ⟨d,op,ty,pos,aft,some (j,want)⟩ b:=⟨t,h1,.inl ⟨c,h2,h3⟩⟩
theorem aI6 {ops:Array Oper} {d:Option Tmp} {op:Op} {ty:TypeId} {pos:String} {aft:Array Edge} {j:Nat} {want:Bool} {t:Tmp} (h1:(ops[j]?).bind (·.dst)=some t) (h2:lkE env t=some (.c (.v undef))):guardA ops env ⟨d,op,ty,pos,aft,some (j,want)⟩ false:=⟨t,h1,.inr ⟨h2,rfl⟩⟩
theorem ConcH.turn {B : Bs} {M : Nat → Option Nat} {w w' : World} (hc : ConcH B (lt n) M (lk h) w) {id g : Nat} {o o' : AObj} (hlv : o'.live = some o') (hid : id < n) (ho : lk h id = some o) (hM : M id = some g)
    (hos : w'.os = w.os) (htp : w'.tape = w.tape) (hou : w'.output = w.output) (hsz : w'.heap.size = w.heap.size) (hbl : ∀ k, k ≠ g → w'.heap[k]? = w.heap[k]?) (hsh : w'.shape? g = w.shape? g)
    (hob : Ext (cx B n M h w) (cx B n M ((id, o') :: h) w') → ObjRep (cx B n M ((id, o') :: h) w') (some g) o') :
    ConcH B (lt n) M (lk ((id, o') :: h)) w' ∧ Ext (cx B n M h w) (cx B n M ((id, o') :: h) w') := by
  have hlk : ∀ k, k ≠ id → lk ((id, o') :: h) k = lk h k := fun k hk => by rw [bV, if_neg (fun e => hk e.symm)]
  have hlk0 : lk ((id, o') :: h) id = some o' := by rw [bV, if_pos rfl, hlv]
  have hok : ∀ b, aY B (lt n) M (lk h) b → aY B (lt n) M (lk ((id, o') :: h)) b ∧ b ≠ g := fun b hb => by
    refine ⟨⟨hb.1, fun k ok hk hH he => ?_⟩, fun e => hb.2 id o hid ho (by rw [hM, e])⟩
    by_cases hki : k = id
    · subst hki; exact hb.2 k o hk ho he
    · rw [hlk k hki] at hH; exact hb.2 k ok hk hH he
  have hext : Ext (cx B n M h w) (cx B n M ((id, o') :: h) w') := by
    refine ⟨fun k hk => ⟨hk, rfl⟩, fun b hb hl => ⟨(hok b hb).1, by simp only [cx] at hl ⊢; omega, hbl b (hok b hb).2⟩, shp fun b x hx => ?_⟩
    simp only [cx] at hx ⊢
    by_cases hbg : b = g
    · subst hbg; rw [hsh]; exact hx
    · rw [dP (hbl b hbg)]; exact hx
  refine ⟨⟨⟨hos.trans hc.fr.os, htp.trans hc.fr.tape, hou.trans hc.fr.output, by rw [hsz]; exact hc.fr.size, fun k h1 h2 => ?_⟩, fun k ok hk hH => ?_, fun k k' ok ok' g' k1 k2 k3 k4 k5 k6 => ?_, fun k ok g' k1 k2 k3 => ?_⟩, hext⟩
  · rw [hbl k (fun e => ?_)]
    · exact hc.fr.block k h1 h2
    · subst e
      rcases hc.lo id o k hid ho hM with h3 | h3
      · omega
      · exact h2 h3
  · by_cases hki : k = id
    · subst hki
      rw [hlk0] at hH
      injection hH with hH
      subst hH
      rw [hM]
      exact hob hext
    · rw [hlk k hki] at hH
      have h3 := hc.obj k ok hk hH
      refine h3.ext hext (fun j hj => hbl j (fun e => ?_))
      subst e
      exact hki (hc.inj k id ok o j hk hid hH ho hj hM)
  · have get : ∀ k ok, lk ((id, o') :: h) k = some ok → ∃ ok', lk h k = some ok' := fun k ok hk => by
      by_cases hki : k = id
      · subst hki; exact ⟨o, ho⟩
      · rw [hlk k hki] at hk; exact ⟨ok, hk⟩
    obtain ⟨q1, hq1⟩ := get k ok k3
    obtain ⟨q2, hq2⟩ := get k' ok' k4
    exact hc.inj k k' q1 q2 g' k1 k2 hq1 hq2 k5 k6
  · by_cases hki : k = id
    · subst hki; exact hc.lo k o g' hid ho k3
    · rw [hlk k hki] at k2; exact hc.lo k ok g' k1 k2 k3
theorem fA {w:World} {g:Nat} {us vs:List Value} {T:TypeId} {fz:Nat × Nat} (h:w.heap[g]? = some (.cells us.toArray T fz)) (hl:vs.length=us.length):(w.setRow g vs.toArray).shape? g=w.shape? g:=by
 unfold World.shape?
 rw [setRow_heap w g _ _ T _ h,h]
 simp [hl]
theorem gK {w : World} {T T' : TypeId} {e : TyE} (hT : TyOk P T e) {g off : Nat} {cur vs : List Value} {v : Value} (hg : w.heap[g]? = some (.cells cur.toArray T' (0, 0))) (hv : v.cells.toList = vs) (hk : vs.length = e.size) (hfit : off + vs.length ≤ cur.length) (h1 : ∀ u ∈ vs, u.oneCell' = true) :
    (storeVar T ⟨g, off, none⟩ v).run P w = .ok () (w.setRow g (cur.take off ++ vs ++ cur.drop (off + vs.length)).toArray) := by
  have hst := run_storeCells_at P g off T' vs 0 cur.toArray w hg (by simpa using hfit) h1
  have hs := hT.sizeOf w
  have hsz : v.cells.size = e.size := by rw [← hk, ← hv]; simp
  simp only [storeVar, Sem.run_bind, hs, Result.andThen_ok]
  simp [hsz, hv, hst]
variable {tab:Tab} {T ty:TypeId} {x y:Operand} {pos:String} {aft:Array Edge} {gd:Option (Nat × Bool)}
theorem aW5 (tb : bK P tab) {e : TyE} (hg : guardA ops env ⟨none, .store T x y, ty, pos, aft, gd⟩ true) (hT : aR tab T = some e) (hk : Nat.beq e.size 1 = true) {id off : Nat} {T' : TypeId} {cs : List AV} {v : AV} (hx : evA env x = some (.ref id off)) (hy : evA env y = some v) (h1 : v.one = true) (ho : lk h id = some (.blk T' cs)) (hfit : off < cs.length)
    (next : AWL P ops sz rest K n env ((id, .blk T' (cs.set off v)) :: h) dfs) : AWL P ops sz (⟨none, .store T x y, ty, pos, aft, gd⟩ :: rest) K n env h dfs := by
  intro B a w hc
  obtain ⟨M, c1, c2, c3, c4⟩ := hc
  refine eC fun K' hK' => ?_
  rw [if_pos (hg.wanted c3)]
  have hp := cZ c3 x _ hx
  have hv := cZ c3 y _ hy
  simp only [Rep] at hp
  obtain ⟨hid, g, hM, hp⟩ := hp
  obtain ⟨us, hb, hus⟩ := gX (fun id o h _ => h) c1 ho hid hM
  obtain ⟨o1, o2⟩ := hv.one h1
  have hsz : e.size = 1 := Nat.eq_of_beq_eq_true hk
  have hlen : off + 1 ≤ us.length := by rw [hus.length]; omega
  have hrun := gK (P := P) (w := w) (aM tb hT) (g := g) (off := off) (cur := us) (vs := [a.eval y]) (v := a.eval y) hb (by rw [o2]) (by simp [hsz]) hlen (by simpa using o1)
  have hset : us.take off ++ [a.eval y] ++ us.drop (off + [a.eval y].length) = us.set off (a.eval y) := by
    rw [List.set_eq_take_append_cons_drop]
    rw [if_pos aA]
    simp
  rw [hset] at hrun
  unfold Oper.wp execOp
  simp only [hp, Instr.storeAt, Instr.sureAddr, Sem.run_bind, Sem.run_pure, Result.andThen_ok, hrun]
  obtain ⟨k1, k2⟩ := c1.turn (o' := .blk T' (cs.set off v)) (w' := w.setRow g (us.set off (a.eval y)).toArray) rfl hid ho hM rfl rfl rfl aP (fun k hk => setRow_other w g k _ hk) (fA hb aP)
    (fun hext => ⟨g, _, rfl, setRow_heap w g _ _ T' _ hb, RepL.ext hext _ _ (RepL.set hus off hv)⟩)
  simp only [Oper.upon, Act.put]
  exact cA5
theorem eM (tb : bK P tab) {e : TyE} (hg : guardA ops env ⟨none, .store T x y, ty, pos, aft, gd⟩ true) (hT : aR tab T = some e) (hk : Nat.beq e.size 1 = true) {id off : Nat} {T' : TypeId} {cs : List CV} {v : CV} (hx : evA env x = some (.ref id off)) (hy : evA env y = some (.c v)) (h1 : v.one = true) (ho : lk h id = some (.row T' cs)) (hfit : off < cs.length)
    (next : AWL P ops sz rest K n env ((id, .row T' (cs.set off v)) :: h) dfs) : AWL P ops sz (⟨none, .store T x y, ty, pos, aft, gd⟩ :: rest) K n env h dfs := by
  intro B a w hc
  obtain ⟨M, c1, c2, c3, c4⟩ := hc
  refine eC fun K' hK' => ?_
  rw [if_pos (hg.wanted c3)]
  have hp := cZ c3 x _ hx
  have hv := cZ c3 y _ hy
  simp only [Rep] at hp hv
  obtain ⟨hid, g, hM, hp⟩ := hp
  obtain ⟨us, vs, hb, hus, hone⟩ := eZ (fun id o h _ => h) c1 ho hid hM
  obtain ⟨o1, o2⟩ := hv.one h1
  have hsz : e.size = 1 := Nat.eq_of_beq_eq_true hk
  have hul := hus.length
  have hlen : off + 1 ≤ (us ++ vs).length := by simp; omega
  have hrun := gK (P := P) (w := w) (aM tb hT) (g := g) (off := off) (cur := us ++ vs) (vs := [a.eval y]) (v := a.eval y) hb (by rw [o2]) (by simp [hsz]) hlen (by simpa using o1)
  have hset : (us ++ vs).take off ++ [a.eval y] ++ (us ++ vs).drop (off + [a.eval y].length) = us.set off (a.eval y) ++ vs := by
    rw [← List.set_append_left _ _ aA, List.set_eq_take_append_cons_drop]
    rw [if_pos eN]
    simp
  rw [hset] at hrun
  unfold Oper.wp execOp
  simp only [hp, Instr.storeAt, Instr.sureAddr, Sem.run_bind, Sem.run_pure, Result.andThen_ok, hrun]
  obtain ⟨k1, k2⟩ := c1.turn (o' := .row T' (cs.set off v)) (w' := w.setRow g (us.set off (a.eval y) ++ vs).toArray) rfl hid ho hM rfl rfl rfl aP (fun k hk => setRow_other w g k _ hk) (fA hb aP)
    (fun hext => .inr ⟨g, _, vs, rfl, setRow_heap w g _ _ T' _ hb, RepCs.mono hext.ok _ _ (RepCs.set hus off hv), fun u hu => (List.mem_or_eq_of_mem_set hu).elim (hone u) (fun e => e ▸ o1)⟩)
  simp only [Oper.upon, Act.put]
  exact cA5
def lay {α:Type} (cs:List α) (off:Nat) (vs:List α):List α:=cs.take off++vs++cs.drop (off+vs.length)
theorem yX {α:Type} (cs:List α) (off:Nat) (vs:List α) (h:off+vs.length≤cs.length):(lay cs off vs).length=cs.length:=by
 simp [lay];omega
theorem rC {α:Type} (cs vs:List α) (h:vs.length=cs.length):lay cs 0 vs=vs:=by simp [lay,h]
theorem aW6 (tb : bK P tab) {e : TyE} (hg : guardA ops env ⟨none, .store T x y, ty, pos, aft, gd⟩ true) (hT : aR tab T = some e) {id off : Nat} {T' : TypeId} {cs xs cs' : List AV} {v : AV} (hx : evA env x = some (.ref id off)) (hy : evA env y = some v) (hp : Parts v xs) (hl : xs.length = e.size) (h1 : xs.all AV.one = true) (ho : lk h id = some (.blk T' cs)) (hfit : off + xs.length ≤ cs.length) (hcs : lay cs off xs = cs')
    (next : AWL P ops sz rest K n env ((id, .blk T' cs') :: h) dfs) : AWL P ops sz (⟨none, .store T x y, ty, pos, aft, gd⟩ :: rest) K n env h dfs := by
  intro B a w hc
  subst hcs
  obtain ⟨M, c1, c2, c3, c4⟩ := hc
  refine eC fun K' hK' => ?_
  rw [if_pos (hg.wanted c3)]
  have hpt := cZ c3 x _ hx
  simp only [Rep] at hpt
  obtain ⟨hid, g, hM, hpt⟩ := hpt
  obtain ⟨vs, hv, hvs⟩ := hp.rep (cZ c3 y _ hy)
  obtain ⟨us, hb, hus⟩ := gX (fun id o h _ => h) c1 ho hid hM
  have hul := hus.length
  have hvl := hvs.length
  have hrun := gK (P := P) (w := w) (aM tb hT) (g := g) (off := off) (cur := us) (vs := vs) (v := a.eval y) hb (by rw [hv]; rfl) aA aA (hvs.one h1)
  unfold Oper.wp execOp
  simp only [hpt, Instr.storeAt, Instr.sureAddr, Sem.run_bind, Sem.run_pure, Result.andThen_ok, hrun]
  obtain ⟨k1, k2⟩ := c1.turn (o' := .blk T' (lay cs off xs)) (w' := w.setRow g (us.take off ++ vs ++ us.drop (off + vs.length)).toArray) rfl hid ho hM rfl rfl rfl aP (fun k hk => setRow_other w g k _ hk) (fA hb eN)
    (fun hext => ⟨g, _, rfl, setRow_heap w g _ _ T' _ hb, RepL.ext hext _ _ (by
      unfold lay
      rw [hvl]
      exact ((hus.take off).append hvs).append (hus.drop (off + xs.length)))⟩)
  simp only [Oper.upon, Act.put]
  exact cA5
theorem aM4 (tb : bK P tab) {e : TyE} (hg : guardA ops env ⟨none, .store T x y, ty, pos, aft, gd⟩ true) (hT : aR tab T = some e) {id off : Nat} {T' : TypeId} {cs xs cs' : List CV} (hx : evA env x = some (.ref id off)) (hy : evA env y = some (.c (.agg xs))) (hl : xs.length = e.size) (ho : lk h id = some (.row T' cs)) (hfit : off + xs.length ≤ cs.length) (hcs : lay cs off xs = cs')
    (next : AWL P ops sz rest K n env ((id, .row T' cs') :: h) dfs) : AWL P ops sz (⟨none, .store T x y, ty, pos, aft, gd⟩ :: rest) K n env h dfs := by
  intro B a w hc
  subst hcs
  obtain ⟨M, c1, c2, c3, c4⟩ := hc
  refine eC fun K' hK' => ?_
  rw [if_pos (hg.wanted c3)]
  have hpt := cZ c3 x _ hx
  have hvv := cZ c3 y _ hy
  simp only [Rep, RepC] at hpt hvv
  obtain ⟨hid, g, hM, hpt⟩ := hpt
  obtain ⟨vs, hv, hvs, h1⟩ := hvv
  obtain ⟨us, ws, hb, hus, hone⟩ := eZ (fun id o h _ => h) c1 ho hid hM
  have hul := hus.length
  have hvl := hvs.length
  have hrun := gK (P := P) (w := w) (aM tb hT) (g := g) (off := off) (cur := us ++ ws) (vs := vs) (v := a.eval y) hb (by rw [hv]; rfl) aA eN h1
  have hset : (us ++ ws).take off ++ vs ++ (us ++ ws).drop (off + vs.length) = (us.take off ++ vs ++ us.drop (off + vs.length)) ++ ws := by
    rw [List.take_append_of_le_length aA, List.drop_append_of_le_length aA]
    simp
  rw [hset] at hrun
  unfold Oper.wp execOp
  simp only [hpt, Instr.storeAt, Instr.sureAddr, Sem.run_bind, Sem.run_pure, Result.andThen_ok, hrun]
  obtain ⟨k1, k2⟩ := c1.turn (o' := .row T' (lay cs off xs)) (w' := w.setRow g ((us.take off ++ vs ++ us.drop (off + vs.length)) ++ ws).toArray) rfl hid ho hM rfl rfl rfl aP (fun k hk => setRow_other w g k _ hk) (fA hb eN)
    (fun hext => .inr ⟨g, _, ws, rfl, setRow_heap w g _ _ T' _ hb, RepCs.mono hext.ok _ _ (by
      unfold lay
      rw [hvl]
      exact ((hus.take off).append hvs).append (hus.drop (off + xs.length))), fun u hu => by
        rcases List.mem_append.1 hu with hu | hu
        · rcases List.mem_append.1 hu with hu | hu
          · exact hone u (List.mem_of_mem_take hu)
          · exact h1 u hu
        · exact hone u (List.mem_of_mem_drop hu)⟩)
  simp only [Oper.upon, Act.put]
  exact cA5
end steps
end Go.Av
namespace Go.Av
open Go Go.RowKit
mutual
def AV.ltB (N:Nat):AV→Bool
 | .c _ | .ip _ _ | .junk=>true
 | .ref id _=>Nat.blt id N
 | .own id _ _ _ _=>Nat.blt id N
 | .agg xs=>AV.ltBs N xs
 | .tup xs=>AV.ltBs N xs
 | .fn _ xs=>AV.ltBs N xs
 | .yld id=>Nat.blt id N
 | .mh id=>Nat.blt id N
 | .bm _ id=>Nat.blt id N
def AV.ltBs (N:Nat):List AV→Bool
 | []=>true
 | x::xs=>AV.ltB N x&&AV.ltBs N xs
end
def AObj.ltB (N:Nat):AObj→Bool
 | .blk _ cs=>AV.ltBs N cs
 | .row _ _=>true
 | .lp _ _ _ _ xs=>AV.ltBs N xs
 | .dfr _=>true
 | .tab es=>es.all fun p=>p.2.ltB N
 | .dead=>true
structure Less (N:Nat) (C C':Cx):Prop where
 dom:∀id,id<N→C.dom id→C'.dom id∧C'.M id=C.M id
 ok:kM C.ok C'.ok C.w C'.w
 shape:∀b x,C.w.shape? b=some x→C'.w.shape? b=some x
mutual
theorem Rep.less {N:Nat} {C C':Cx} (h:Less N C C'):∀(x:AV) (u:Value),x.ltB N=true→Rep C x u→Rep C' x u
 | .c x,u,_,hu=>by simp only [Rep] at hu ⊢;exact RepC.mono h.ok x u hu
 | .ref id off,u,hl,hu=>by
  simp only [Rep] at hu ⊢
  simp only [AV.ltB,Nat.blt_eq] at hl
  obtain ⟨hd,g,hg,hu⟩:=hu
  obtain ⟨k1,k2⟩:=h.dom id hl hd
  exact nB
 | .own id off n size full,u,hl,hu=>by
  simp only [Rep] at hu ⊢
  simp only [AV.ltB,Nat.blt_eq] at hl
  obtain ⟨hd,hu⟩:=hu
  obtain ⟨k1,k2⟩:=h.dom id hl hd
  refine ⟨k1,?_⟩
  rcases hu with ⟨h1,h2,h3,h4⟩|⟨g,cp,h1,h2,h3,h4,h5⟩|h6
  ·exact cA2
  ·exact .inr (.inl ⟨g,cp,k2.trans h1,h2,h3,h4,fun hf=>let ⟨e,he⟩:=h5 hf;⟨e,h.shape _ _ he⟩⟩)
  ·exact .inr (.inr h6)
 | .ip cs off,u,_,hu=>by
  simp only [Rep] at hu ⊢
  obtain ⟨b,o,us,h1,h2,h3,h4,h6,h5⟩:=hu
  obtain ⟨k1,k2,k3⟩:=h.ok b h2 h3
  exact ⟨b,o,us,h1,k1,k2,RepCs.mono h.ok cs us h4,h6,fun j x hx=>by rw [World.cell?_of_block (w:=C.w) k3];exact h5 j x hx⟩
 | .agg xs,u,hl,hu=>by
  simp only [Rep] at hu ⊢
  obtain ⟨us,h1,h2⟩:=hu
  exact ⟨us,h1,RepL.less h xs us hl h2⟩
 | .tup xs,u,hl,hu=>by
  simp only [Rep] at hu ⊢
  obtain ⟨us,h1,h2⟩:=hu
  exact ⟨us,h1,RepL.less h xs us hl h2⟩
 | .fn f caps,u,hl,hu=>by
  simp only [Rep] at hu ⊢
  obtain ⟨us,h1,h2⟩:=hu
  exact ⟨us,h1,RepL.less h caps us hl h2⟩
 | .yld id,u,hl,hu=>by
  simp only [Rep] at hu ⊢
  simp only [AV.ltB,Nat.blt_eq] at hl
  obtain ⟨hd,g,hg,hu⟩:=hu
  obtain ⟨k1,k2⟩:=h.dom id hl hd
  exact nB
 | .mh id,u,hl,hu=>by
  simp only [Rep] at hu ⊢
  simp only [AV.ltB,Nat.blt_eq] at hl
  obtain ⟨hd,g,hg,hu⟩:=hu
  obtain ⟨k1,k2⟩:=h.dom id hl hd
  exact nB
 | .bm f id,u,hl,hu=>by
  simp only [Rep] at hu ⊢
  simp only [AV.ltB,Nat.blt_eq] at hl
  obtain ⟨hd,g,hg,hu⟩:=hu
  obtain ⟨k1,k2⟩:=h.dom id hl hd
  exact nB
 | .junk,u,_,hu=>by simp only [Rep]
theorem RepL.less {N:Nat} {C C':Cx} (h:Less N C C'):∀(xs:List AV) (us:List Value),AV.ltBs N xs=true→RepL C xs us→RepL C' xs us
 | [],us,_,hu=>by simpa [RepL] using hu
 | c::cs,us,hl,hu=>by
  simp only [RepL] at hu ⊢
  simp only [AV.ltBs,Bool.and_eq_true] at hl
  obtain ⟨u,us',h1,h2,h3⟩:=hu
  exact ⟨u,us',h1,Rep.less h c u hl.1 h2,RepL.less h cs us' hl.2 h3⟩
end
theorem RepM.less {N:Nat} {C C':Cx} (h:Less N C C'):∀(es:List (CV × AV)) (ms:List MapEntry),(es.all fun p=>p.2.ltB N)=true→RepM C es ms→RepM C' es ms
 | [],ms,_,hu=>hu
 | e::es,ms,hl,hu=>by
  obtain ⟨m,ms',h1,h2,h3,h4⟩:=hu
  simp only [List.all_cons,Bool.and_eq_true] at hl
  exact ⟨m,ms',h1,RepC.mono h.ok _ _ h2,Rep.less h _ _ hl.1 h3,RepM.less h es ms' hl.2 h4⟩
theorem ObjRep.less {N:Nat} {C C':Cx} (h:Less N C C') {g:Option Nat} {o:AObj} (hw:C'.w=C.w) (hl:o.ltB N=true) (ho:ObjRep C g o):ObjRep C' g o:=by
 cases o with
 | blk T cs =>
  obtain ⟨k,us,rfl,h2,h3⟩:=ho
  exact ⟨k,us,rfl,by rw [hw];exact h2,RepL.less h cs us hl h3⟩
 | row T cs =>
  rcases ho with h1|⟨k,us,vs,rfl,h2,h3,h4⟩
  ·exact .inl h1
  ·exact .inr ⟨k,us,vs,rfl,by rw [hw];exact h2,RepCs.mono h.ok cs us h3,h4⟩
 | lp b sz L sl xs =>
  obtain ⟨k,r,rfl,h2,h3,h4,h5,h6,h7,h8,h9⟩:=ho
  exact ⟨k,r,rfl,by rw [hw];exact h2,h3,h4,h5,h6,h7,h8,RepL.less h xs _ hl h9⟩
 | dfr b =>
  obtain ⟨k,rfl,h2⟩:=ho
  exact ⟨k,rfl,by rw [hw];exact h2⟩
 | tab es =>
  obtain ⟨k,ms,t,rfl,h2,h3⟩:=ho
  exact ⟨k,ms,t,rfl,by rw [hw];exact h2,h3.1,RepM.less h es _ hl h3.2⟩
 | dead=>exact ho.elim
def bC8 (env:Env) (N:Nat) (E:Env):Prop:=∀t av,lkE E t=some av→lkE env t=some av∧av.ltB N=true
def bC9 (h:aO) (N:Nat) (Hp:aO):Prop:=∀id o,lk Hp id=some o→lk h id=some o∧o.ltB N=true
theorem dH {env:Env} {N:Nat}:bC8 env N []:=fun t av h=>by cases h
theorem cU {env E:Env} {N t:Nat} {av av':AV} (h:lkE env t=some av') (he:av'=av) (hl:av.ltB N=true) (hr:bC8 env N E):bC8 env N ((t,av)::E):=by
 intro k x hk
 rw [eO] at hk
 split at hk
 ·rename_i e;subst e he;injection hk with hk;subst hk;exact ⟨h,hl⟩
 ·exact hr k x hk
theorem dI {h:aO} {N:Nat}:bC9 h N []:=fun t av h=>by cases h
theorem bR {h Hp:aO} {N t:Nat} {o o':AObj} (hh:lk h t=some o') (he:o'=o) (hl:o.ltB N=true) (hr:bC9 h N Hp):bC9 h N ((t,o)::Hp):=by
 intro k x hk
 rw [bV] at hk
 split at hk
 ·rename_i e;subst e he;have hk:=rD hk;subst hk;exact ⟨hh,hl⟩
 ·exact hr k x hk
theorem DefRep.less {fr:List Value} {N:Nat} {C C':Cx} (h:Less N C C'):∀{l:bZ} {ds:List Deferred},l.all (fun p=>AV.ltBs N p.2)=true→DefRep fr C l ds→DefRep fr C' l ds
 | [],ds,_,hd=>hd
 | (some f,caps)::r,ds,hl,hd=>by
  obtain ⟨us,ds',h1,h2,h3⟩:=hd
  simp only [List.all_cons,Bool.and_eq_true] at hl
  exact ⟨us,ds',h1,RepL.less h _ _ hl.1 h2,DefRep.less h hl.2 h3⟩
 | (none,xs)::r,ds,hl,hd=>by
  simp only [List.all_cons,Bool.and_eq_true] at hl
  exact ⟨RepL.less h _ _ hl.1 hd.1,DefRep.less h hl.2 hd.2⟩
theorem fB {n N:Nat} {env E:Env} {h Hp:aO} {dfs:bZ} (hn:Nat.ble N n=true) (hE:bC8 env N E) (hH:bC9 h N Hp) (hD:dfs.all (fun p=>AV.ltBs N p.2)=true):cL n env h dfs N E Hp dfs:=by
 intro B sz a w hc
 obtain ⟨M,h1,h2,h3,h4⟩:=hc
 have hn':N≤n:=Nat.le_of_ble_eq_true hn
 have hok:∀b,aY B (lt n) M (lk h) b→aY B (lt N) M (lk Hp) b:=fun b hb=>⟨hb.1,fun id o hid hH' he=>hb.2 id o (Nat.lt_of_lt_of_le hid hn') (hH id o hH').1 he⟩
 have hls:Less N (cx B n M h w) (cx B N M Hp w):=⟨fun id hid _=>⟨hid,rfl⟩,fun b hb hl=>⟨hok b hb,hl,rfl⟩,fun _ _ h=>h⟩
 refine ⟨M,⟨h1.fr,fun id o hid hH'=>?_,fun id id' o o' g k1 k2 k3 k4=>h1.inj id id' o o' g (Nat.lt_of_lt_of_le k1 hn') (Nat.lt_of_lt_of_le k2 hn') (hH id o k3).1 (hH id' o' k4).1,fun id o g k1 k2=>h1.lo id o g (Nat.lt_of_lt_of_le k1 hn') (hH id o k2).1⟩,h2,fun t av ht=>?_,h4.less hls hD⟩
 ·exact (h1.obj id o (Nat.lt_of_lt_of_le hid hn') (hH id o hH').1).less hls rfl (hH id o hH').2
 ·exact Rep.less hls _ _ (hE t av ht).2 (h3 t av (hE t av ht).1)
def Cv (x y:CV):Prop:=∀ok w u,RepC ok w x u→RepC ok w y u
def CvL (x y:List CV):Prop:=∀ok w u,RepCs ok w x u→RepCs ok w y u
theorem cR {x:CV}:Cv x x:=fun _ _ _ h=>h
theorem sW {x y:CV} (h:x=y):Cv x y:=fun _ _ _ k=>h▸k
theorem hU {size:Nat}:Cv (.v (.slice none 0 0)) (.sl size 0 []):=fun ok w u h=>by
 simp only [RepC] at h ⊢
 exact ⟨none,0,[],h,Nat.le_refl _,by simp [maxLen],by simp,by simp [RepCs],by simp,fun h=>absurd h aA⟩
theorem kA {size n n':Nat} {cs cs':List CV} (hn:n=n') (hc:cs=cs'):Cv (.sl size n cs) (.sl size n' cs'):=by subst hn hc;exact cR
theorem eY:CvL [] []:=fun _ _ _ h=>h
theorem dW {x y:CV} {xs ys:List CV} (h:Cv x y) (k:CvL xs ys):CvL (x::xs) (y::ys):=fun ok w u hu=>by
 simp only [RepCs] at hu ⊢
 obtain ⟨a,l,h1,h2,h3⟩:=hu
 exact ⟨a,l,h1,h ok w a h2,k ok w l h3⟩
theorem qW {x:List CV}:CvL x x:=fun _ _ _ h=>h
theorem mT {x y:List CV} (h:CvL x y):Cv (.agg x) (.agg y):=fun ok w u hu=>by
 simp only [RepC] at hu ⊢
 obtain ⟨us,h1,h2,h3⟩:=hu
 exact ⟨us,h1,h ok w us h2,h3⟩
def Frz (keep:List Nat) (h:aO) (v:AV) (x:CV):Prop :=
 ∀(B:Bs) (dom:Nat→Prop) (M:Nat→Option Nat) (H:Nat→Option AObj) (w:World) (u:Value),(∀id o,lk h id=some o→dom id→H id=some o)→(∀k∈keep,dom k∧∃o,H k=some o) →
  ConcH B dom M H w→Rep ⟨dom,M,aY B dom M H,w⟩ v u→RepC (fun b=>(B.ok0 b∨B.w0.heap.size≤b∨b∈B.G)∧∀k∈keep,M k≠some b) w x u
def aG2 (keep:List Nat) (h:aO) (v:List AV) (x:List CV):Prop :=
 ∀(B:Bs) (dom:Nat→Prop) (M:Nat→Option Nat) (H:Nat→Option AObj) (w:World) (u:List Value),(∀id o,lk h id=some o→dom id→H id=some o)→(∀k∈keep,dom k∧∃o,H k=some o) →
  ConcH B dom M H w→RepL ⟨dom,M,aY B dom M H,w⟩ v u→RepCs (fun b=>(B.ok0 b∨B.w0.heap.size≤b∨b∈B.G)∧∀k∈keep,M k≠some b) w x u
section frz
variable {keep:List Nat} {h:aO}
theorem eG {x y:CV} (hxy:Cv x y):Frz keep h (.c x) y:=by
 intro B dom M H w u hh hk hc hu
 simp only [Rep] at hu
 refine hxy _ _ _ (RepC.mono (fun b hb hl=>⟨⟨hb.1,fun k hkk he=>?_⟩,hl,rfl⟩) _ _ hu)
 obtain ⟨h1,o,h2⟩:=hk k hkk
 exact hb.2 k o h1 h2 he
theorem kK {id off n size : Nat} {full : Bool} {T : TypeId} {cs ys : List CV} (ho : lk h id = some (.row T cs)) (hk : keep.contains id = false) (hy : (cs.drop off).take (n * size) = ys) (hl : ys.length = n * size) : Frz keep h (.own id off n size full) (.sl size n ys) := by
  intro B dom M H w u hh hkp hc hu
  simp only [Rep] at hu
  obtain ⟨hd, hu⟩ := hu
  have hmono : ∀ b, aY B dom M H b → (B.ok0 b ∨ B.w0.heap.size ≤ b ∨ b ∈ B.G) ∧ ∀ k ∈ keep, M k ≠ some b := fun b hb => ⟨hb.1, fun k hkk he => by
    obtain ⟨h1, o, h2⟩ := hkp k hkk
    exact hb.2 k o h1 h2 he⟩
  have key : ∀ g, M id = some g → ∃ us vs, w.heap[g]? = some (.cells (us ++ vs).toArray T (0, 0)) ∧ RepCs (aY B dom M H) w cs us ∧ ∀ u ∈ us, u.oneCell' = true := fun g hg => eZ hh hc ho hd hg
  have hz : n = 0 → ∃ us, RepCs (fun b => (B.ok0 b ∨ B.w0.heap.size ≤ b ∨ b ∈ B.G) ∧ ∀ k ∈ keep, M k ≠ some b) w ys us ∧ ∀ u ∈ us, u.oneCell' = true := fun h0 => by
    subst h0
    have : ys = [] := List.eq_nil_of_length_eq_zero fI
    subst this
    exact ⟨[], by simp [RepCs], by simp⟩
  rcases hu with ⟨h1, h2, h3, h4⟩ | ⟨g, cp, h1, h2, h3, h4, h5⟩ | ⟨h1, h2, A, cp, h3, h4⟩
  · obtain ⟨us, hus, hon⟩ := hz h1
    exact dY4
  · obtain ⟨us, vs, hb, hr, hon⟩ := key g h1
    have h6 := (hr.drop off).take (n * size)
    rw [hy] at h6
    refine ⟨some ⟨g, off, none⟩, cp, (us.drop off).take (n * size), h2, h3, h4, hl, RepCs.mono (fun b hb hl => ⟨hmono b hb, hl, rfl⟩) _ _ h6, fun u hu => hon u (List.mem_of_mem_drop (List.mem_of_mem_take hu)), fun hn => ⟨g, off, rfl, ⟨?_, fun k hkk he => ?_⟩, bX hb, fun j x hj => ?_⟩⟩
    · rcases hc.lo id _ g hd (hh id _ ho hd) h1 with h7 | h7
      · exact .inr (.inl h7)
      · exact .inr (.inr h7)
    · obtain ⟨k1, o, k2⟩ := hkp k hkk
      have := hc.inj k id o _ g k1 hd k2 (hh id _ ho hd) he h1
      subst this
      rw [List.contains_eq_mem] at hk
      simp at hk
      exact hk hkk
    · have hjk : j < n * size := by
        rcases Nat.lt_or_ge j (n * size) with h1 | h1
        · exact h1
        · rw [List.getElem?_eq_none pC] at hj; cases hj
      rw [List.getElem?_take_of_lt hjk, List.getElem?_drop] at hj
      exact iQ hb hj
  · obtain ⟨us, hus, hon⟩ := hz h1
    subst h1
    exact dY5
theorem iV {id n size:Nat} {full:Bool} {T:TypeId} {cs:List CV} (ho:lk h id=some (.row T cs)) (hk:keep.contains id=false) (hl:cs.length=n*size):Frz keep h (.own id 0 n size full) (.sl size n cs) :=
 kK ho hk bZ0 hl
theorem cY:aG2 keep h [] []:=fun B dom M H w u _ _ _ hu=>by simpa [RepL,RepCs] using hu
theorem aZ {x:AV} {y:CV} {xs:List AV} {ys:List CV} (hx:Frz keep h x y) (hxs:aG2 keep h xs ys):aG2 keep h (x::xs) (y::ys):=by
 intro B dom M H w u hh hk hc hu
 simp only [RepL] at hu
 obtain ⟨a,l,h1,h2,h3⟩:=hu
 exact ⟨a,l,h1,hx B dom M H w a hh hk hc h2,hxs B dom M H w l hh hk hc h3⟩
theorem wL {xs:List AV} {ys:List CV} (h1':xs.all AV.one=true) (hx:aG2 keep h xs ys):Frz keep h (.agg xs) (.agg ys):=by
 intro B dom M H w u hh hk hc hu
 simp only [Rep] at hu
 obtain ⟨us,h1,h2⟩:=hu
 exact ⟨us,h1,hx B dom M H w us hh hk hc h2,h2.one h1'⟩
end frz
def AC (P:Program) (f:FuncId) (args:List CV) (r:AV) (hr:aO) (nr:Nat):Prop :=
 ∀(ok:Nat→Prop) (w:World) (vs:List Value),RepCs ok w args vs→Calls P f vs.toArray w fun e w'=>∃v M,e = .returned v∧ConcH ⟨w,[],ok,[]⟩ (lt nr) M (lk hr) w'∧Rep (cx ⟨w,[],ok,[]⟩ nr M hr w') r v
def aP1:Nat→List CV→Env
 | _,[]=>[]
 | k,x::xs=>(k,.c x)::aP1 (k+1) xs
theorem uM:∀{cs:List CV} {k t:Nat} {av:AV},lkE (aP1 k cs) t=some av→∃c,k≤t∧cs[t-k]? = some c∧av = .c c
 | [],k,t,av,h=>by cases h
 | c::cs,k,t,av,h=>by
  rw [aP1,eO] at h
  split at h
  ·rename_i e;subst e;injection h with h;exact ⟨c,Nat.le_refl _,by simp,h.symm⟩
  ·rename_i e
   obtain ⟨c',h1,h2,h3⟩:=uM h
   refine ⟨c',by omega,?_,h3⟩
   rw [show t-k=(t-(k+1))+1 by omega]
   simpa using h2
def oP (P:Program) (f:FuncId) (k:Nat):Prop :=
 ∀(us:List Value) (w:World),us.length=k→CallsD P f us.toArray .returning w fun e u' w'=>e = .returned (.tuple #[])∧u' = .returning∧w'=w
def Body (P : Program) (f : FuncId) : Prop := (P.funcs[f]?).map (fun fn => (fn.name == "runtime.NumGoroutine", fn.body.isNone)) = some (false, false)
theorem Body.run {P:Program} {f:FuncId} (h:Body P f) (args:Array Value) (w:World):(callFunc f args).run P w = .ok (.enter f args) w:=by
 obtain ⟨fn,h1,h2⟩:=Option.map_eq_some_iff.1 h
 simp only [Prod.mk.injEq] at h2
 simp only [callFunc,Sem.run_bind,run_program,Result.andThen_ok,h1]
 simp [h2.1,h2.2]
def gV (P:Program):aO→bZ→Prop
 | _,[]=>True
 | h,(some f,caps)::r=>match Nat.beq f vI with
  | true=>(match caps with | [.ref id _]=>lk h id=some (.dfr true)∧gV P ((id,.dfr false)::h) r|_=>False)
  | false=>oP P f caps.length∧Body P f∧gV P h r
 | h,(none,_)::r=>gV P h r
def fR:aO→bZ→aO
 | h,[]=>h
 | h,(some f,caps)::r=>match Nat.beq f vI with
  | true=>match caps with | [.ref id _]=>fR ((id,.dfr false)::h) r|_=>h
  | false=>fR h r
 | h,(none,_)::r=>fR h r
inductive ResA (tab:Tab) (env:Env) (h:aO):ResultVar→AV→Prop
 | tmp {t:Tmp} {v:AV} (hv:lkE env t=some v):ResA tab env h (.tmp t) v
 | one {p:Tmp} {T T':TypeId} {id:Nat} {v:AV} {cs:List AV} {e:TyE} (hp:lkE env p=some (.ref id 0)) (hT:aR tab T=some e) (hk:e.kind.agg=false) (ho:lk h id=some (.blk T' cs)) (hv:cs[0]? = some v):ResA tab env h (.cell p T) v
 | agg {p:Tmp} {T T':TypeId} {id:Nat} {v:AV} {cs:List AV} {e:TyE} (hp:lkE env p=some (.ref id 0)) (hT:aR tab T=some e) (hk:e.kind.agg=true) (ho:lk h id=some (.blk T' cs)) (hl:Nat.beq cs.length e.size=true) (hv:IsAgg cs v):ResA tab env h (.cell p T) v
 | aggr {p:Tmp} {T T':TypeId} {id:Nat} {cs:List CV} {e:TyE} (hp:lkE env p=some (.ref id 0)) (hT:aR tab T=some e) (hk:e.kind.agg=true) (ho:lk h id=some (.row T' cs)) (hl:cs.length=e.size):ResA tab env h (.cell p T) (.c (.agg cs))
section ret
variable {P:Program} {tab:Tab} {env:Env} {h:aO} {n:Nat}
theorem ResA.run (tb : bK P tab) {rv : ResultVar} {v : AV} (hr : ResA tab env h rv v) {B : Bs} {M : Nat → Option Nat} {w : World} {tmps : Array Value} (hc : ConcH B (lt n) M (lk h) w) (he : ∀ t av, lkE env t = some av → Rep (cx B n M h w) av (tmps.getD t undef)) :
    ∃ u, Rep (cx B n M h w) v u ∧ (match rv with | .tmp t => tmps.getD t undef = u | .cell p T => ∃ q, tmps.getD p undef = .pointer (some q) ∧ (loadVar T q).run P w = .ok u w) := by
  cases hr with
  | tmp hv => exact ⟨_, he _ _ hv, rfl⟩
  | one hp hT hk ho hv =>
    have := he _ _ hp
    simp only [Rep] at this
    obtain ⟨hid, g, hM, hq⟩ := this
    obtain ⟨us, hb, hus⟩ := gX (fun id o h _ => h) hc ho hid hM
    obtain ⟨u, hu, hru⟩ := hus.get hv
    exact ⟨u, hru, _, hq, rH (aM tb hT) hk (by rw [mY hb]; exact hu)⟩
  | agg hp hT hk ho hl hv =>
    rename_i p T T' id cs e
    have := he _ _ hp
    simp only [Rep] at this
    obtain ⟨hid, g, hM, hq⟩ := this
    obtain ⟨us, hb, hus⟩ := gX (fun id o h _ => h) hc ho hid hM
    exact ⟨_, hv.rep hus, _, hq, nM (aM tb hT) hk (us := us) (by rw [hus.length]; exact Nat.eq_of_beq_eq_true hl) (fun j u hj => by rw [mY hb, Nat.zero_add]; exact hj)⟩
  | aggr hp hT hk ho hl =>
    have := he _ _ hp
    simp only [Rep] at this
    obtain ⟨hid, g, hM, hq⟩ := this
    obtain ⟨us, vs, hb, hus, hon⟩ := eZ (fun id o h _ => h) hc ho hid hM
    exact ⟨_, ⟨us, rfl, hus, hon⟩, _, hq, nM (aM tb hT) hk (us := us) (by rw [hus.length]; exact hl) (fun j u hj => by rw [Nat.zero_add]; exact iQ hb hj)⟩
inductive ResL (tab:Tab) (env:Env) (h:aO):List ResultVar→AV→Prop
 | none:ResL tab env h [] (.tup [])
 | one {r:ResultVar} {v:AV} (h1:ResA tab env h r v):ResL tab env h [r] v
 | two {r1 r2:ResultVar} {v1 v2:AV} (h1:ResA tab env h r1 v1) (h2:ResA tab env h r2 v2):ResL tab env h [r1,r2] (.tup [v1,v2])
 | three {r1 r2 r3:ResultVar} {v1 v2 v3:AV} (h1:ResA tab env h r1 v1) (h2:ResA tab env h r2 v2) (h3:ResA tab env h r3 v3):ResL tab env h [r1,r2,r3] (.tup [v1,v2,v3])
def Rd (P:Program) (tmps:Array Value) (w:World) (rv:ResultVar) (u:Value):Prop:=match rv with | .tmp t=>tmps[t]?.getD undef=u | .cell p T=>∃q,tmps[p]?.getD undef = .pointer (some q)∧(loadVar T q).run P w = .ok u w
theorem ResL.run (tb : bK P tab) {fn : Func} {v : AV} (hr : ResL tab env h fn.results.toList v) {B : Bs} {M : Nat → Option Nat} {w : World} {tmps : Array Value} (hc : ConcH B (lt n) M (lk h) w) (he : ∀ t av, lkE env t = some av → Rep (cx B n M h w) av (tmps.getD t undef)) :
    ∃ u, Rep (cx B n M h w) v u ∧ (results fn tmps).run P w = .ok u w := by
  have one : ∀ {rv : ResultVar} {v : AV}, ResA tab env h rv v → ∃ u, Rep (cx B n M h w) v u ∧ Rd P tmps w rv u := by
    intro rv v hA
    obtain ⟨u, h1, h2⟩ := hA.run tb hc he
    refine ⟨u, h1, ?_⟩
    cases rv with
    | tmp t => simpa [Rd] using h2
    | cell p T => obtain ⟨q, hq, hl⟩ := h2; exact ⟨q, by simpa using hq, hl⟩
  generalize hl : fn.results.toList = l at hr
  have hf : fn.results = l.toArray := by rw [← hl]
  cases hr with
  | none => exact ⟨.tuple #[], ⟨[], rfl, rfl⟩, by simp [results, hf]⟩
  | one h1 =>
    obtain ⟨u, k1, k2⟩ := one h1
    refine ⟨u, k1, ?_⟩
    rename_i rv
    cases rv <;> simp only [Rd] at k2 <;> (try obtain ⟨q, hq, hl1⟩ := k2) <;> simp [results, hf, asAddr, *]
  | two h1 h2 =>
    obtain ⟨u1, k1, k2⟩ := one h1
    obtain ⟨u2, l1, l2⟩ := one h2
    refine ⟨.tuple #[u1, u2], ⟨[u1, u2], rfl, u1, [u2], rfl, k1, u2, [], rfl, l1, rfl⟩, ?_⟩
    rename_i r1 r2 v1 v2
    cases r1 <;> cases r2 <;> simp only [Rd] at k2 l2 <;> (try obtain ⟨q, hq, hl1⟩ := k2) <;> (try obtain ⟨q2, hq2, hl2⟩ := l2) <;> simp [results, hf, asAddr, *]
  | three h1 h2 h3 =>
    obtain ⟨u1, k1, k2⟩ := one h1
    obtain ⟨u2, l1, l2⟩ := one h2
    obtain ⟨u3, m1, m2⟩ := one h3
    refine ⟨.tuple #[u1, u2, u3], ⟨[u1, u2, u3], rfl, u1, [u2, u3], rfl, k1, u2, [u3], rfl, l1, u3, [], rfl, m1, rfl⟩, ?_⟩
    rename_i r1 r2 r3 v1 v2 v3
    cases r1 <;> cases r2 <;> cases r3 <;> simp only [Rd] at k2 l2 m2 <;> (try obtain ⟨q, hq, hl1⟩ := k2) <;> (try obtain ⟨q2, hq2, hl2⟩ := l2) <;> (try obtain ⟨q3, hq3, hl3⟩ := m2) <;> simp [results, hf, asAddr, *]
end ret
end Go.Av
