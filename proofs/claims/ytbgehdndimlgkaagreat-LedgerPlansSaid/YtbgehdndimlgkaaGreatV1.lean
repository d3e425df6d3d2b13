/- Lemmas for laws of the ledger. -/
import Derived.MapKept
import Derived.WalkKit
import Derived.ProofKit
import Derived.Handy
import Derived.WalkLawsBesides
import Derived.WalkSpells
import Derived.Laws.CopyOwn
import Derived.Lib.Hide
import Derived.Deep.AppendLies
import Derived.Maps.AppendAt
import Derived.Laws.BytesArg
import Derived.Deep.Draws
import Derived.Defers
import Derived.Recover
import Derived.Orders
import Derived.OrdersHeld
import Derived.StillTail
import Derived.OrdersIn
import Derived.TacticsIn
import Derived.LoopNIn
import Derived.RangeFuncIn
import Derived.RangeFuncNested
import Derived.RangeFuncLeaves
set_option linter.all false
namespace Go
def Aa:=@List.length_append
def Ab:=@List.getElem?_eq_getElem
def Ac:=@Nat.eq_of_beq_eq_true
def Ad:=@List.getElem?_eq_some_iff
def Ae:=@Nat.le_refl
def Af:=@if_neg
def Ag:=@List.mem_of_getElem?
def Ah:=@List.take_of_length_le
def Ai:=@List.eq_nil_of_length_eq_zero
def Aj:=@if_pos
def Ak:=@Option.bind_some
def Al:=@Nat.zero_add
def Am:=@Bool.and_eq_true
def An:=@Nat.zero_le
def Ao:=@Nat.le_trans
def Ap:=@Option.bind_eq_some_iff
def Aq:=@List.all_eq_true
def Ar:=@List.append_assoc
def As:=@Option.map_eq_some_iff
def At:=@List.nil_append
def Au:=@List.length_cons
def Aw:=@List.flatMap_cons
def Ay:=@List.size_toArray
def Az:=@List.mem_append
def A0:=@Nat.lt_of_lt_of_le
def A1:=@List.length_take
def A2:=@List.append_nil
def A3:=@List.mem_cons
def A4:=@Nat.mul_one
def A5:=@List.mem_range
def A6:=@Array.length_toList
def A7:=@Nat.lt_or_ge
def A8:=@List.take_append_of_le_length
def A9:=@Nat.add_mul
def AA:=@Nat.le_of_ble_eq_true
def AB:=@Bool.false_eq_true
def AD:=@List.map_cons
def AE:=@List.getElem?_append_left
def AF:=@List.cons_append
def AG:=@List.length_drop
def AH:=@Nat.blt_eq
def AI:=@Option.isSome_iff_exists
def AJ:=@List.getElem?_eq_none
def AL:=@List.mem_of_mem_take
def AM:=@List.drop_of_length_le
def AN:=@Option.map_some
def AO:=@List.getElem?_append_right
def AP:=@List.mem_singleton
def AQ:=@List.map_toArray
def AR:=@Array.getElem?_setIfInBounds_ne
def AS:=@List.getElem?_drop
def AT:=@List.mem_of_mem_drop
def AU:=@decide_eq_true
def AX:=@Array.append_empty
def AY:=@if_false
def AZ:=@List.getElem?_take_of_lt
def Ba:=@Nat.mul_le_mul_right
def Bb:=@List.length_map
def Bc:=@List.flatMap_append
def Be:=@decide_eq_false
def Bf:=@Array.all_eq_true_iff_forall_mem
def Bg:=@List.drop_zero
def Bh:=@List.getElem?_take
def Bi:=@List.filter_cons
def Bj:=@Nat.lt_succ_self
def Bk:=@Int.toNat_natCast
def Bl:=@List.flatten_cons
def Bm:=@Classical.byContradiction
def Bn:=@Bool.or_eq_true
def Bo:=@List.length_nil
def Bp:=@decide_eq_true_eq
def Bq:=@Array.getElem?_append_left
def Br:=@List.pairwise_cons
def Bt:=@Array.getElem?_eq_none
def Bu:=@eq_iff_iff
def Bv:=@List.getElem?_toArray
def Bw:=@List.all_cons
def Bx:=@List.append_eq
def By:=@List.mem_map
def Bz:=@Nat.eq_zero_or_pos
def B0:=@Array.getD_eq_getD_getElem?
def B1:=@Nat.sub_zero
def B2:=@List.take_succ_cons
def B3:=@List.drop_eq_getElem_cons
def B4:=@List.mem_append_right
def B5:=@List.take_append_drop
def B6:=@List.map_map
def B7:=@Nat.beq_refl
def B8:=@getElem!_pos
def B9:=@if_true
def BA:=@Array.mem_toList_iff
def BB:=@Nat.le_succ
def BC:=@List.getElem?_cons_zero
def BD:=@not_true_eq_false
def BE:=@List.getElem_append
def BF:=@Array.toList_inj
def BG:=@List.drop_append
def BH:=@Nat.mod_eq_of_lt
def BI:=@BitVec.toNat_ofInt
def BJ:=@List.drop_drop
def BK:=@List.filter_append
def BL:=@Array.getElem?_modify
def BM:=@Array.getElem?_toList
def BN:=@List.length_singleton
def BO:=@List.set_eq_take_append_cons_drop
def BP:=@List.pairwise_iff_getElem
def BQ:=@List.map_append
def BR:=@Nat.min_eq_left
def BS:=@List.getElem?_map
def BT:=@List.take_add_one
def BU:=@Nat.add_zero
def BV:=@Nat.pow_le_pow_right
def BW:=@Nat.add_assoc
def BX:=@List.toList_toArray
def BY:=@List.drop_append_of_le_length
def BZ:=@Bool.true_eq_false
def Ca:=@Nat.zero_mul
def Cb:=@List.filter_nil
def Cc:=@Nat.zero_lt_one
def Cd:=@Classical.choose_spec
def Ce:=@Bool.not_eq_true'
def Cf:=@List.ext_getElem?
def Cg:=@Array.getElem?_eq_some_iff
def Ch:=@Array.getElem_toList
def Ci:=@List.mapM_cons
def Cj:=@List.take_left
def Ck:=@List.take_take
def Cl:=@Nat.shiftLeft_eq
def Cm:=@Array.any_eq_true'
def Cn:=@List.set_cons_zero
def Co:=@UInt8.toNat_ofNat'
def Cp:=@List.pairwise_singleton
def Cq:=@Array.size_modify
def Cr:=@BitVec.toNat_shiftLeft
def Cs:=@Iff.rfl
def Ct:=@List.foldl_append
def Cu:=@List.length_range
def Cw:=@List.map_nil
def Cy:=@of_decide_eq_true
def Cz:=@List.countP_eq_length
def C0:=@List.length_filter_le
def C1:=@List.set_append_right
def C2:=@and_congr
def C3:=@List.sum_cons
def C4:=@Bool.and_eq_true_iff
def C5:=@List.getLast?_eq_some_getLast
def C6:=@Option.map_none
def C7:=@List.countP_pos_iff
def C8:=@List.replicate_succ
def C9:=@Nat.add_comm
def CA:=@Nat.le_of_eq
def CB:=@Nat.pow_succ
def CC:=@Nat.sub_self
def CD:=@Array.all_eq_true'
def CE:=@Array.ext_getElem?
def CF:=@List.mem_filterMap
def CG:=@Nat.lt_or_gt_of_ne
def CH:=@List.filter_congr
def CI:=@Nat.lt_succ_of_lt
def CJ:=@forall_congr'
def CK:=@List.take_append
def CL:=@Nat.div_eq_of_lt
def CM:=@Nat.le_add_right
def CN:=@Nat.le_of_not_lt
def CO:=@Nat.min_eq_right
def CP:=@Option.getD_some
def CQ:=@decide_eq_decide
def CR:=@not_congr
def CS:=@Nat.succ_mul
def CT:=@beq_iff_eq
def CU:=@Bool.eq_iff_iff
def CW:=@Int.natCast_mul
def CX:=@List.foldl_cons
def CY:=@Nat.one_mul
end Go
namespace Go
structure KeptC (q:Prop):Prop where
 out:q
section
variable {p q:Prop} (hq:q)
include p q hq
theorem aA4 (h:KeptC q->p:=by
 intro hq
 (first|refine bS [0,1,3,4,5,6,7,8,51,52,53,81,82,83] ?_|((with_reducible refine cV ?_);refine yA ?_;refine bG (cU rfl) rfl ?_)|((first|((with_reducible refine cG ?_);refine xA ?_)|((with_reducible refine eD ?_);refine xD ?_));(first|((with_reducible refine aP1 ?_);(first|refine aG (aK7 (kc:=ktV.kc) aB rfl rfl rfl rfl ha1) ?_|refine aG (aK7 (kc:=ktS.kc) aB rfl rfl rfl rfl ha2) ?_))))|refine cY ?_|refine stA ?_|refine stD ?_|fail)
 exact hq.out):p:=h ⟨hq⟩
theorem cZ9 (h:KeptC q->p:=by
 intro hq
 (first|refine bS [0,2,3,4,5] ?_|((first|((with_reducible refine cG ?_);refine xA ?_)|((with_reducible refine eD ?_);refine xD ?_));(first|((with_reducible refine gJ ?_);(first|refine aG (jN aB rfl rfl rfl rfl (by first|(rw [Al,A4];exact hx)|(rw [Al,A4];exact hy)|(refine nB hx ?_;omega)|(refine nB hy ?_;omega))) ?_|refine aG (iD aB rfl rfl rfl rfl (by first|(rw [Al,A4];exact hx)|(rw [Al,A4];exact hy)|(refine nB hx ?_;omega)|(refine nB hy ?_;omega))) ?_|refine aG (iC aB rfl rfl rfl (by first|(rw [Al,A4];exact hx)|(rw [Al,A4];exact hy)|(refine nB hx ?_;omega)|(refine nB hy ?_;omega))) ?_))|((with_reducible refine e_ix ?_);(first|refine aG (s_ixV1 aB rfl rfl zcj rfl rfl rfl rfl rfl zle (by first|(rw [Al,A4];exact hx)|(rw [Al,A4];exact hy)|(refine nB hx ?_;omega)|(refine nB hy ?_;omega))) ?_|refine aG (s_ixStr aB rfl rfl zcj rfl rfl (by first|(rw [Al,A4];exact hx)|(rw [Al,A4];exact hy)|(refine nB hx ?_;omega)|(refine nB hy ?_;omega))) ?_))))|refine stA ?_|refine stD ?_|fail)
 exact hq.out):p:=h ⟨hq⟩
theorem bE4 (h:KeptC q->p:=by
 intro hq
 (first|refine aM [0,2,3,4,5,6] ?_|(((with_reducible refine cG ?_);refine xA ?_);(first|((with_reducible refine bU ?_);(first|refine aG (aK4 hc8 rfl rfl) ?_|refine aG (bZ7 rfl rfl h7 h63 hsh) ?_|refine aG (cY1 hsx hu hss rfl rfl) ?_|refine aG (aS1 (m:=1) rfl rfl rfl (by decide)) ?_|refine aG (bY4 hss rfl rfl) ?_))|((with_reducible refine sF ?_);(first|refine aG (gU aB rfl rfl rfl rfl (aM8 (by omega) (by omega))) ?_))|((with_reducible refine cG8 ?_);(first|refine aG (bY5 hu64 rfl) ?_))))|refine fN ?_|refine stA ?_|fail)
 exact hq.out):p:=h ⟨hq⟩
theorem vC (h:KeptC q->p:=by
 intro hq
 (first|refine aM [0,1,2] ?_|((with_reducible refine cV ?_);refine yA ?_;refine bG (cU rfl) rfl ?_)|(((with_reducible refine cG ?_);refine xA ?_);(first|((with_reducible refine aP1 ?_);(first|refine aG (bZ1 aB rfl rfl rfl rfl) ?_))))|refine fN ?_|refine stA ?_|fail)
 exact hq.out):p:=h ⟨hq⟩
theorem vD (h:KeptC q->p:=by
 intro hq
 (first|refine aM [0,1,2,4] ?_|(((with_reducible refine cG ?_);refine xA ?_);(first|((with_reducible refine bU ?_);(first|refine aG (dE9 rfl rfl (by first|exact AU t0|exact Be t0)) ?_))))|refine stA ?_|fail)
 exact hq.out):p:=h ⟨hq⟩
theorem dH6 (h:KeptC q->p:=by
 intro hq
 (first|refine aM [0,1,2,3,4,5,6,7,9,10,11,63] ?_|((with_reducible refine bC (i:=2) ?_);refine aY [0,1,2,3,4,5,6,7,9,10,11,63] rfl rfl ?_;refine dI [] ?_)|((with_reducible refine bC ?_);refine aY [0,1,2,3,4,5,6,7,9,10,11,63] rfl rfl ?_;refine dG [] ?_)|((with_reducible refine cV ?_);refine yA ?_;(first|refine bG (cU (T:=61) rfl) rfl ?_|refine bG (cU (T:=49) rfl) rfl ?_))|((with_reducible refine bA ?_);refine yA ?_;(first|refine bG (aW (T:=61) aB rfl rfl rfl) rfl ?_|refine bG (aW (T:=49) aB rfl rfl rfl) rfl ?_))|((with_reducible refine bX ?_);refine oA hnt aE zby rfl (by first|exact eP|exact dQ cO eP) rfl (cE rfl rfl (cE rfl dD (cE rfl dD (cE rfl dD (cE rfl dD (cE rfl dD rP)))))) ?_)|((with_reducible refine bX ?_);refine nZ [4,5,6,7,8,9] hf aE rfl zby rfl rfl rfl (by repeat' (first|exact dL|refine bY rfl rfl rfl ?_|refine bY rfl setT_mp cD ?_)) rfl rfl wP rfl (by first|exact eP|exact dQ cO eP) ?_)|refine jQ ?_|refine gH ?_|refine stA ?_|refine stD ?_|refine stE ?_|fail)
 exact hq.out):p:=h ⟨hq⟩
theorem dH7 (h:KeptC q->p:=by
 intro hq
 (first|refine aM [0,2,3,4,5,6,7,8,9,26] ?_|((with_reducible refine bC (i:=4) ?_);refine aY [0,2,3,4,5,6,7,8,9,26] rfl rfl ?_;refine dI [] ?_)|((with_reducible refine bC (i:=12) ?_);refine aY [0,2,3,4,5,6,7,8,9,26] rfl rfl ?_;refine dI [] ?_)|((with_reducible refine bC ?_);refine aY [0,2,3,4,5,6,7,8,9,26] rfl rfl ?_;refine dG [] ?_)|((with_reducible refine mF ?_);refine yE ?_;refine bG (aW (T:=49) aB rfl rfl rfl) rfl ?_)|((with_reducible refine bA ?_);refine yA ?_;refine bG (aW (T:=49) aB rfl rfl rfl) rfl ?_)|((with_reducible refine aF ?_);refine jE [8,3,4,5,6,7] hf aE rfl zby rfl rfl rfl rfl (by repeat' (first|exact dL|refine bY rfl rfl rfl ?_|refine bY rfl setT_mp cD ?_)) rfl rfl rfl (by first|exact eP|exact dQ cO eP) (bB rfl rfl (bB rfl setT_mp.symm (bB rfl setT_mp.symm (bB rfl setT_mp.symm (bB rfl setT_mp.symm (bB rfl setT_mp.symm kX)))))) ?_)|((with_reducible refine lT ?_);intro K hK hX)|(with_reducible refine nM ?_)|(refine eW ?_;refine c0 hac ?_)|refine stA ?_|refine stD ?_|refine stE ?_|fail)
 exact hq.out):p:=h ⟨hq⟩
theorem dH8 (h:KeptC q->p:=by
 intro hq
 (first|refine bS [0,2,3,4,5] ?_|((first|((with_reducible refine cG ?_);refine xA ?_)|((with_reducible refine eD ?_);refine xD ?_));(first|((with_reducible refine bU ?_);(first|refine aG (dE8 (by kernel_rfl) (m:=3) rfl (by kernel_rfl) (by kernel_rfl) (by kernel_rfl) (by kernel_rfl) (by kernel_rfl) rfl rfl (hcx x) (hcx y) lx ly (dG8 hbxy)) ?_))|((with_reducible refine gJ ?_);(first|refine aG (iF aB rfl rfl rfl rfl (by first|first|exact kG hx (Al _)|exact kG hy (Al _)|exact kG hx (by omega)|exact kG hy (by omega)|exact qK (by first|rfl|omega)|rfl) zln) ?_|refine aG (iE aB rfl rfl rfl (by first|first|exact kG hx (Al _)|exact kG hy (Al _)|exact kG hx (by omega)|exact kG hy (by omega)|exact qK (by first|rfl|omega)|rfl) zln) ?_))|((with_reducible refine iR ?_);(first|refine aG (s_slArri aB rfl rfl rfl rfl zbd zbd zle zle (by decide) (by first|first|exact kG hx (Al _)|exact kG hy (Al _)|exact kG hx (by omega)|exact kG hy (by omega)|exact qK (by first|rfl|omega)|rfl) zln) ?_))))|refine stA ?_|refine stD ?_|fail)
 exact hq.out):p:=h ⟨hq⟩
theorem cF2 (h:KeptC q->p:=by
 intro hq
 (first|refine gG [0,1,3,5,7,17,34,35,36,47,48,49] ?_|((with_reducible refine oH ?_);refine eM (by first|exact aE|exact (bT rfl rfl zgb)) (fK aB rfl rfl rfl rfl rfl rfl) ?_)|((with_reducible refine rH ?_);refine eM (by first|exact aE|exact (bT rfl rfl zgb)) (gP rfl) ?_)|((with_reducible refine oI ?_);refine eM (by first|exact aE|exact (bT rfl rfl zgb)) (oQ rfl) ?_)|((with_reducible refine cV ?_);refine yA ?_;refine bG (cU rfl) rfl ?_)|refine stA ?_|refine stE ?_|fail)
 exact hq.out):p:=h ⟨hq⟩
theorem yG (h:KeptC q->p:=by
 intro hq
 (first|refine bS [0,1,3,4,5,6,7,8,51,52,53,81,82,83] ?_|((first|((with_reducible refine fQ ?_);refine xA ?_)|((with_reducible refine gL ?_);refine xD ?_));refine aG (lS (k:=(⟨vt,vs'⟩:Src)) ktS aB rfl rfl fU rfl rfl rfl hok hoS hm) ?_)|(refine dJ ?_;refine c0 hcm ?_)|refine cY ?_|refine jL ?_|refine stA ?_|refine stD ?_|fail)
 exact hq.out):p:=h ⟨hq⟩
theorem bL8 (h:KeptC q->p:=by
 intro hq
 (first|refine aM [0,2,3,17] ?_|((with_reducible refine bA ?_);refine yA ?_;refine bG (aW aB rfl rfl rfl) rfl ?_)|((with_reducible refine aF ?_);refine aR (a1) aE rfl zby rfl rfl rfl rfl zcv rfl ztp ?_)|((with_reducible refine aF ?_);refine aR (a2) aE rfl zby rfl rfl rfl rfl zcv rfl ztp ?_)|((with_reducible refine aF ?_);refine aR (a3) aE rfl zby rfl rfl rfl rfl zcv rfl ztp ?_)|((with_reducible refine aF ?_);refine aR (a4) aE rfl zby rfl rfl rfl rfl zcv rfl ztp ?_)|((with_reducible refine aF ?_);refine aR (a5) aE rfl zby rfl rfl rfl rfl zcv rfl ztp ?_)|refine stA ?_|fail)
 exact hq.out):p:=h ⟨hq⟩
theorem bL9 (h:KeptC q->p:=by
 intro hq
 (first|refine gG [0,1,3,4,17] ?_|((with_reducible refine aF ?_);refine cR (i1) aE rfl zby rfl rfl zln rfl zcv (bE _) ?_)|((with_reducible refine bX ?_);refine fO (i1) aE rfl rfl zby rfl rfl zln rfl zcv (bE _) rfl ?_)|((with_reducible refine aF ?_);refine cR (i2) aE rfl zby rfl rfl zln rfl zcv (bE _) ?_)|((with_reducible refine bX ?_);refine fO (i2) aE rfl rfl zby rfl rfl zln rfl zcv (bE _) rfl ?_)|refine lD ?_|refine stA ?_|refine stE ?_|fail)
 exact hq.out):p:=h ⟨hq⟩
theorem bM0 (h:KeptC q->p:=by
 intro hq
 (first|refine bS [0,1,3,4,7,8,50] ?_|((first|((with_reducible refine fQ ?_);refine xA ?_)|((with_reducible refine gL ?_);refine xD ?_));refine aG (mY (k:=plan) ktI aB rfl rfl fU rfl rfl rfl trivial (fun _ _=>trivial) hb) ?_)|((first|((with_reducible refine fQ ?_);refine xA ?_)|((with_reducible refine gL ?_);refine xD ?_));refine aG (lS (k:=plan) ktI aB rfl rfl fU rfl rfl rfl trivial (fun _ _=>trivial) hc) ?_)|refine cY ?_|refine stA ?_|refine stD ?_|fail)
 exact hq.out):p:=h ⟨hq⟩
theorem aU7 (h:KeptC q->p:=by
 intro hq
 (first|refine bS [0,1,3,4,5,6,7,8,51,52,53,81,82,83] ?_|((first|((with_reducible refine fQ ?_);refine xA ?_)|((with_reducible refine gL ?_);refine xD ?_));refine aG (lS (k:=(⟨vt,vc,vs'⟩:Ver)) ktV aB rfl rfl fU rfl rfl rfl hok hoV hm) ?_)|(refine dJ ?_;refine c0 hcm ?_)|refine cY ?_|refine jL ?_|refine stA ?_|refine stD ?_|fail)
 exact hq.out):p:=h ⟨hq⟩
theorem cQ5 (h:KeptC q->p:=by
 intro hq
 (first|refine gG [0,1,3,4,5] ?_|((with_reducible refine aF ?_);refine cR (i1) aE rfl zby rfl rfl zln rfl zcv (bE _) ?_)|((with_reducible refine bX ?_);refine fO (i1) aE rfl rfl zby rfl rfl zln rfl zcv (bE _) rfl ?_)|((with_reducible refine aF ?_);refine cR (i2) aE rfl zby rfl rfl zln rfl zcv (bE _) ?_)|((with_reducible refine bX ?_);refine fO (i2) aE rfl rfl zby rfl rfl zln rfl zcv (bE _) rfl ?_)|((with_reducible refine aF ?_);refine cR (i3) aE rfl zby rfl rfl zln rfl zcv (bE _) ?_)|((with_reducible refine bX ?_);refine fO (i3) aE rfl rfl zby rfl rfl zln rfl zcv (bE _) rfl ?_)|refine lD ?_|refine stA ?_|refine stE ?_|fail)
 exact hq.out):p:=h ⟨hq⟩
theorem cQ6 (h:KeptC q->p:=by
 intro hq
 (first|refine gG [0,1,3,4] ?_|((with_reducible refine aF ?_);refine cR (i1) aE rfl zby rfl rfl zln rfl zcv (bE _) ?_)|((with_reducible refine bX ?_);refine fO (i1) aE rfl rfl zby rfl rfl zln rfl zcv (bE _) rfl ?_)|((with_reducible refine aF ?_);refine cR (i2) aE rfl zby rfl rfl zln rfl zcv (bE _) ?_)|((with_reducible refine bX ?_);refine fO (i2) aE rfl rfl zby rfl rfl zln rfl zcv (bE _) rfl ?_)|((with_reducible refine aF ?_);refine cR (i3) aE rfl zby rfl rfl zln rfl zcv (bE _) ?_)|((with_reducible refine bX ?_);refine fO (i3) aE rfl rfl zby rfl rfl zln rfl zcv (bE _) rfl ?_)|refine lD ?_|refine stA ?_|refine stE ?_|fail)
 exact hq.out):p:=h ⟨hq⟩
theorem cQ7 (h:KeptC q->p:=by
 intro hq
 (first|refine gG [0,1,3,5,7,17,34,35,36,47,48,49] ?_|((with_reducible refine oH ?_);refine eM (by first|exact aE|exact (bT rfl rfl zgb)) (fK aB rfl rfl rfl rfl rfl rfl) ?_)|((with_reducible refine rH ?_);refine eM (by first|exact aE|exact (bT rfl rfl zgb)) (gP rfl) ?_)|((with_reducible refine oI ?_);refine eM (by first|exact aE|exact (bT rfl rfl zgb)) (oQ rfl) ?_)|((with_reducible refine cV ?_);refine yA ?_;refine bG (cU rfl) rfl ?_)|((with_reducible refine wJ ?_);refine kP (k:=plan) ktI aB aE rfl rfl rfl rfl rfl rfl ztr (fun _ _=>trivial) ?_)|refine stA ?_|refine stE ?_|fail)
 exact hq.out):p:=h ⟨hq⟩
theorem nO (h:KeptC q->p:=by
 intro hq
 (first|refine aM [0,1,2] ?_|((with_reducible refine cV ?_);refine yA ?_;refine bG (cU rfl) rfl ?_)|refine stA ?_|fail)
 exact hq.out):p:=h ⟨hq⟩
theorem aU8 (h:KeptC q->p:=by
 intro hq
 (first|refine bS [0,1,3,4,5,6,7,8,51,52,53,81,82,83] ?_|((first|((with_reducible refine fQ ?_);refine xA ?_)|((with_reducible refine gL ?_);refine xD ?_));refine aG (lS (k:=(⟨vt,vs'⟩:Src)) ktS aB rfl rfl fU rfl rfl rfl hok hoS hm) ?_)|refine cY ?_|refine jL ?_|refine stA ?_|refine stD ?_|fail)
 exact hq.out):p:=h ⟨hq⟩
theorem bM1 (h:KeptC q->p:=by
 intro hq
 (first|refine aM [0,2] ?_|((with_reducible refine sL ?_);(refine uO aB aE rfl rfl rfl rfl rfl rfl rfl rfl (by first|rfl|simp) rfl dG0 (by simp only [maxLen];omega) (by omega) ?_))|(((with_reducible refine cG ?_);refine xA ?_);(first|((with_reducible refine bU ?_);(first|refine aG (aK5 aB rfl rfl rfl rfl) ?_))))|refine stA ?_|fail)
 exact hq.out):p:=h ⟨hq⟩
theorem cQ8 (h:KeptC q->p:=by
 intro hq
 (first|refine aM [0,2,3,4,5,6,7,8,9,10,11,12,13] ?_|((with_reducible refine bC (i:=7) ?_);refine aY [0,2,3,4,5,6,7,8,9,10,11,12,13] rfl rfl ?_;refine dI [] ?_)|((with_reducible refine bC ?_);refine aY [0,2,3,4,5,6,7,8,9,10,11,12,13] rfl rfl ?_;refine dG [] ?_)|((with_reducible refine mF ?_);refine yE ?_;refine bG (aW (T:=61) aB rfl rfl rfl) rfl ?_)|(refine eW ?_;refine c0 hadd ?_)|refine gH ?_|refine stA ?_|refine stD ?_|refine stE ?_|fail)
 exact hq.out):p:=h ⟨hq⟩
theorem cQ9 (h:KeptC q->p:=by
 intro hq
 (first|refine bS [0,1,3,4,7,8,50] ?_|((first|((with_reducible refine fQ ?_);refine xA ?_)|((with_reducible refine gL ?_);refine xD ?_));refine aG (mY (k:=plan) ktI aB rfl rfl fU rfl rfl rfl trivial (fun _ _=>trivial) hb) ?_)|((first|((with_reducible refine fQ ?_);refine xA ?_)|((with_reducible refine gL ?_);refine xD ?_));refine aG (mY (k:=plan) ktI aB rfl rfl fU rfl rfl rfl trivial (fun _ _=>trivial) hc) ?_)|refine cY ?_|refine stA ?_|refine stD ?_|fail)
 exact hq.out):p:=h ⟨hq⟩
theorem cR0 (h:KeptC q->p:=by
 intro hq
 (first|refine aM [0,2,3,4,5,6] ?_|(((with_reducible refine cG ?_);refine xA ?_);(first|((with_reducible refine bU ?_);(first|refine aG (aK4 hc8 rfl rfl) ?_|refine aG (bZ7 rfl rfl h7 h63 hsh) ?_|refine aG (cY1 hsx hu hss rfl rfl) ?_|refine aG (aS1 (m:=1) rfl rfl rfl (by decide)) ?_|refine aG (bY4 hss rfl rfl) ?_))|((with_reducible refine sF ?_);(first|refine aG (gU aB rfl rfl rfl rfl (aM8 (by omega) (by omega))) ?_))))|refine fN ?_|refine stA ?_|fail)
 exact hq.out):p:=h ⟨hq⟩
theorem bM2 (h:KeptC q->p:=by
 intro hq
 (first|refine bS [0,1,3,4,5,6,7,8,51,52,53,81,82,83] ?_|((first|((with_reducible refine fQ ?_);refine xA ?_)|((with_reducible refine gL ?_);refine xD ?_));refine aG (lS (k:=(⟨vt,vc,vs'⟩:Ver)) ktV aB rfl rfl fU rfl rfl rfl hok hoV hm) ?_)|refine cY ?_|refine jL ?_|refine stA ?_|refine stD ?_|fail)
 exact hq.out):p:=h ⟨hq⟩
theorem aF8 (h:KeptC q->p:=by
 intro hq
 (first|refine bS [0,1,3,4,7,8,50] ?_|((with_reducible refine cV ?_);refine yA ?_;refine bG (cU rfl) rfl ?_)|refine cY ?_|refine stA ?_|refine stD ?_|fail)
 exact hq.out):p:=h ⟨hq⟩
theorem bM3 (h:KeptC q->p:=by
 intro hq
 (first|refine bS [0,1,3,4,5,6,7,8,9,10,11,12,13,14,15,16,17] ?_|((with_reducible refine bA ?_);refine yA ?_;refine bG (aW (T:=49) aB rfl rfl rfl) rfl ?_)|(refine dJ ?_;refine c0 hri ?_)|refine stA ?_|refine stD ?_|fail)
 exact hq.out):p:=h ⟨hq⟩
theorem cR1 (h:KeptC q->p:=by
 intro hq
 (first|refine aM [0,1,4,6,7,8,9,10] ?_|(((with_reducible refine cG ?_);refine xA ?_);(first|((with_reducible refine sF ?_);(first|refine aG (bY6 aB rfl rfl rfl rfl) ?_))|((with_reducible refine bU ?_);(first|refine aG (cO5 hlt8 rfl rfl) ?_|refine aG (aS1 (m:=7) rfl rfl rfl (by decide)) ?_))))|refine stA ?_|fail)
 exact hq.out):p:=h ⟨hq⟩
theorem sV (h:KeptC q->p:=by
 intro hq
 (first|refine bS [0,1,3,4,7,8,50] ?_|refine cY ?_|refine stA ?_|refine stD ?_|fail)
 exact hq.out):p:=h ⟨hq⟩
theorem cR2 (h:KeptC q->p:=by
 intro hq
 (first|refine bS [0,1,3,4,5,6,7,8,51,52,53,81,82,83] ?_|((first|((with_reducible refine fQ ?_);refine xA ?_)|((with_reducible refine gL ?_);refine xD ?_));refine aG (mY (k:=(⟨vt,vs'⟩:Src)) ktS aB rfl rfl fU rfl rfl rfl hok hoS hm) ?_)|refine cY ?_|refine jL ?_|refine stA ?_|refine stD ?_|fail)
 exact hq.out):p:=h ⟨hq⟩
theorem cR3 (h:KeptC q->p:=by
 intro hq
 (first|refine aM [0,1,3,4,13] ?_|((with_reducible refine aF ?_);refine cR (i1) aE rfl zby rfl rfl zln rfl zcv (bE _) ?_)|((with_reducible refine aF ?_);refine cR (i2) aE rfl zby rfl rfl zln rfl zcv (bE _) ?_)|refine rW ?_|(refine eS ?_;refine c0 hcl ?_)|refine stA ?_|fail)
 exact hq.out):p:=h ⟨hq⟩
theorem cR4 (h:KeptC q->p:=by
 intro hq
 (first|refine bS [0,1,3,4,7,8,50] ?_|((first|((with_reducible refine fQ ?_);refine xA ?_)|((with_reducible refine gL ?_);refine xD ?_));refine aG (lS (k:=plan) ktI aB rfl rfl fU rfl rfl rfl trivial (fun _ _=>trivial) hb) ?_)|refine cY ?_|refine stA ?_|refine stD ?_|fail)
 exact hq.out):p:=h ⟨hq⟩
theorem bM4 (h:KeptC q->p:=by
 intro hq
 (first|refine aM [0,2] ?_|(((with_reducible refine cG ?_);refine xA ?_);(first|((with_reducible refine bU ?_);(first|refine aG (bY7 aB hp rfl rfl rfl rfl) ?_))))|refine stA ?_|fail)
 exact hq.out):p:=h ⟨hq⟩
theorem bM5 (h:KeptC q->p:=by
 intro hq
 (first|refine aM [0,2] ?_|(((with_reducible refine cG ?_);refine xA ?_);(first|((with_reducible refine bU ?_);(first|refine aG (aK5 aB rfl rfl rfl rfl) ?_))))|refine stA ?_|fail)
 exact hq.out):p:=h ⟨hq⟩
theorem cR5 (h:KeptC q->p:=by
 intro hq
 (first|refine bS [0,1,3,4,5,6,7,8,9,10,11,12,13,14,15,16,17] ?_|((with_reducible refine bA ?_);refine yA ?_;refine bG (aW (T:=49) aB rfl rfl rfl) rfl ?_)|(refine dJ ?_;first|refine c0 hri ?_|refine c0 hre ?_)|refine stA ?_|refine stD ?_|fail)
 exact hq.out):p:=h ⟨hq⟩
theorem cR6 (h:KeptC q->p:=by
 intro hq
 (first|refine gG [0,2,3] ?_|((with_reducible refine aF ?_);refine aR (a2) aE rfl zby rfl rfl rfl rfl zcv rfl ztp ?_)|((with_reducible refine bX ?_);refine cG2 (a2) aE rfl rfl zby rfl rfl rfl rfl zcv rfl ztp rfl ?_)|refine stA ?_|refine stE ?_|fail)
 exact hq.out):p:=h ⟨hq⟩
theorem aF9 (h:KeptC q->p:=by
 intro hq
 (first|refine bS [0,2,3,4,5,6,7,8,9,10,11,12,13] ?_|refine cY ?_|refine stA ?_|refine stD ?_|fail)
 exact hq.out):p:=h ⟨hq⟩
theorem cR7 (h:KeptC q->p:=by
 intro hq
 (first|refine aM [0,2,3,8] ?_|((with_reducible refine aF ?_);refine aR (a1) aE rfl zby rfl rfl rfl rfl zcv rfl ztp ?_)|((with_reducible refine aF ?_);refine aR (a2) aE rfl zby rfl rfl rfl rfl zcv rfl ztp ?_)|refine stA ?_|fail)
 exact hq.out):p:=h ⟨hq⟩
theorem cR8 (h:KeptC q->p:=by
 intro hq
 (first|refine aM [0,2,3] ?_|((with_reducible refine aF ?_);refine aR (a1) aE rfl zby rfl rfl rfl rfl zcv rfl ztp ?_)|((with_reducible refine aF ?_);refine aR (a2) aE rfl zby rfl rfl rfl rfl zcv rfl ztp ?_)|refine stA ?_|fail)
 exact hq.out):p:=h ⟨hq⟩
theorem sW (h:KeptC q->p:=by
 intro hq
 (first|refine bS [0,2,3,4,5] ?_|refine stA ?_|refine stD ?_|fail)
 exact hq.out):p:=h ⟨hq⟩
theorem cR9 (h:KeptC q->p:=by
 intro hq
 (first|refine aM [0,1,2,3,4,5,7,14,15,16] ?_|((with_reducible refine bA ?_);refine yA ?_;refine bG (aW (T:=49) aB rfl rfl rfl) rfl ?_)|(refine eS ?_;refine c0 hcl ?_)|refine gW ?_|refine stA ?_|fail)
 exact hq.out):p:=h ⟨hq⟩
theorem aU9 (h:KeptC q->p:=by
 intro hq
 (first|refine bS [0,1,3,4,5,6,7,8,51,52,53,81,82,83] ?_|refine cY ?_|refine stA ?_|refine stD ?_|fail)
 exact hq.out):p:=h ⟨hq⟩
theorem cS0 (h:KeptC q->p:=by
 intro hq
 (first|refine aM [0,2,3,5,6,8,10,11,12,23,24,25] ?_|((with_reducible refine bA ?_);refine yA ?_;refine bG (aW (T:=49) aB rfl rfl rfl) rfl ?_)|refine fN ?_|refine gW ?_|refine stA ?_|fail)
 exact hq.out):p:=h ⟨hq⟩
theorem cS1 (h:KeptC q->p:=by
 intro hq
 (first|refine aM [0,1,4,6,12,13,14] ?_|((with_reducible refine aF ?_);refine cR (i2) aE rfl zby rfl rfl zln rfl zcv (bE _) ?_)|refine rW ?_|refine gW ?_|refine stA ?_|fail)
 exact hq.out):p:=h ⟨hq⟩
theorem cS2 (h:KeptC q->p:=by
 intro hq
 (first|refine aM [0,2,3,5,6,7,8] ?_|((with_reducible refine bA ?_);refine yA ?_;refine bG (aW (T:=49) aB rfl rfl rfl) rfl ?_)|refine fN ?_|refine gW ?_|refine stA ?_|fail)
 exact hq.out):p:=h ⟨hq⟩
theorem aV0 (h:KeptC q->p:=by
 intro hq
 (first|refine aM [0,2,3] ?_|(refine eS ?_;refine c0 hsm ?_)|refine gW ?_|refine stA ?_|fail)
 exact hq.out):p:=h ⟨hq⟩
theorem cS3 (h:KeptC q->p:=by
 intro hq
 (first|refine bS [0,1,3,4,5,6,7,8,51,52,53,81,82,83] ?_|((with_reducible refine cV ?_);refine yA ?_;refine bG (cU rfl) rfl ?_)|refine cY ?_|refine stA ?_|refine stD ?_|fail)
 exact hq.out):p:=h ⟨hq⟩
theorem cS4 (h:KeptC q->p:=by
 intro hq
 (first|refine aM [0,1,4,6,12,13,14] ?_|((with_reducible refine aF ?_);refine cR (i1) aE rfl zby rfl rfl zln rfl zcv (bE _) ?_)|refine rW ?_|refine stA ?_|fail)
 exact hq.out):p:=h ⟨hq⟩
theorem bM6 (h:KeptC q->p:=by
 intro hq
 (first|refine aM [0,1,4,5,6] ?_|(refine eS ?_;first|refine c0 h1 ?_|refine c0 h2 ?_)|refine stA ?_|fail)
 exact hq.out):p:=h ⟨hq⟩
theorem cS5 (h:KeptC q->p:=by
 intro hq
 (first|refine bS [0,1,2,4,5] ?_|(refine dJ ?_;first|refine c0 hva ?_|refine c0 hcl ?_|refine c1 hj ?_)|refine stA ?_|refine stD ?_|fail)
 exact hq.out):p:=h ⟨hq⟩
theorem cS6 (h:KeptC q->p:=by
 intro hq
 (first|refine bS [0,1,2,4,5] ?_|(refine dJ ?_;first|refine c0 hva ?_|refine c0 hcl ?_)|refine stA ?_|refine stD ?_|fail)
 exact hq.out):p:=h ⟨hq⟩
theorem cS7 (h:KeptC q->p:=by
 intro hq
 (first|refine aM [0,1,2,3] ?_|(refine eS ?_;first|refine c0 hva ?_|refine c0 hcl ?_|refine c1 hj ?_)|refine stA ?_|fail)
 exact hq.out):p:=h ⟨hq⟩
theorem bM7 (h:KeptC q->p:=by
 intro hq
 (first|refine aM [0,1,2,4,5] ?_|(refine eS ?_;refine c0 hva ?_)|refine stA ?_|fail)
 exact hq.out):p:=h ⟨hq⟩
theorem bM8 (h:KeptC q->p:=by
 intro hq
 (first|refine aM [0,1,2,3] ?_|(refine eS ?_;refine c0 hva ?_)|refine stA ?_|fail)
 exact hq.out):p:=h ⟨hq⟩
theorem aV1 (h:KeptC q->p:=by
 intro hq
 (first|refine aM [0,1,4,6,7,8,9,10] ?_|refine stA ?_|fail)
 exact hq.out):p:=h ⟨hq⟩
theorem cS8 (h:KeptC q->p:=by
 intro hq
 (first|refine aM [0,1,2,3] ?_|(refine eS ?_;first|refine c0 hva ?_|refine c0 hcl ?_)|refine stA ?_|fail)
 exact hq.out):p:=h ⟨hq⟩
theorem aG0 (h:KeptC q->p:=by
 intro hq
 (first|refine aM [0,2,3] ?_|refine stA ?_|fail)
 exact hq.out):p:=h ⟨hq⟩
end
theorem aH {A B p q:Prop} (_:A) (_:B) (hq:q) (h:KeptC q->p:=by
 intro hq
 (first|refine hK _ _ _ _ ?_|refine hX _ _ _ _ _ dA4 ?_|fail)
 exact hq.out):p:=h ⟨hq⟩
section
variable {p:Prop}
include p
theorem dH9 (h:p:=by first|((refine cZ rfl ?_ ?_ rfl<;>(repeat' (first|exact cB|exact cC|refine bQ rfl (by first|rfl|(first|rfl|exact congrArg (fun x:Nat=>AV.c (iv x)) aA|exact congrArg (fun x:Int=>AV.c (iv x)) aA|exact congrArg (AObj.row _) hset)|exact zeq) rfl ?_|refine aQ rfl (by first|rfl|(first|rfl|exact congrArg (fun x:Nat=>AV.c (iv x)) aA|exact congrArg (fun x:Int=>AV.c (iv x)) aA|exact congrArg (AObj.row _) hset)|exact zeq) rfl ?_|refine aQ rfl (by first|rfl|(first|rfl|exact congrArg (fun x:Nat=>AV.c (iv x)) aA|exact congrArg (fun x:Int=>AV.c (iv x)) aA|exact congrArg (AObj.row _) hset)) cD ?_)))<;>fail)|fail):p:=h
theorem dI0 (h:p:=by first|((refine cZ rfl ?_ ?_ rfl<;>(repeat' (first|exact cB|exact cC|refine bQ rfl (by first|rfl|(first|rfl|exact congrArg (fun x=>AV.own 1 0 x 1 true) hso.symm|exact congrArg (fun x=>AObj.row _ (cH .i64 x)) hs.symm)|exact zeq) rfl ?_|refine aQ rfl (by first|rfl|(first|rfl|exact congrArg (fun x=>AV.own 1 0 x 1 true) hso.symm|exact congrArg (fun x=>AObj.row _ (cH .i64 x)) hs.symm)|exact zeq) rfl ?_|refine aQ rfl (by first|rfl|(first|rfl|exact congrArg (fun x=>AV.own 1 0 x 1 true) hso.symm|exact congrArg (fun x=>AObj.row _ (cH .i64 x)) hs.symm)) cD ?_)))<;>fail)|fail):p:=h
theorem dI1 (h:p:=by first|((refine cZ rfl ?_ ?_ rfl<;>(repeat' (first|exact cB|exact cC|refine bQ rfl (by first|rfl|(first|rfl|exact congrArg (fun x:Int=>AV.c (iv x)) aA)|exact zeq) rfl ?_|refine aQ rfl (by first|rfl|(first|rfl|exact congrArg (fun x:Int=>AV.c (iv x)) aA)|exact zeq) rfl ?_|refine aQ rfl (by first|rfl|(first|rfl|exact congrArg (fun x:Int=>AV.c (iv x)) aA)) cD ?_)))<;>fail)|fail):p:=h
theorem dA5 (h:p:=by first|((refine cZ rfl ?_ ?_ rfl<;>(repeat' (first|exact cB|exact cC|refine bQ rfl (by first|rfl|(first|rfl|exact congrArg (AObj.row _) aC3)|exact zeq) rfl ?_|refine aQ rfl (by first|rfl|(first|rfl|exact congrArg (AObj.row _) aC3)|exact zeq) rfl ?_|refine aQ rfl (by first|rfl|(first|rfl|exact congrArg (AObj.row _) aC3)) cD ?_)))<;>fail)|fail):p:=h
theorem fV (h:p:=by first|((first|assumption|with_reducible exact gd1 eB|with_reducible exact gd2 eB|with_reducible exact gd3 eB|with_reducible exact gd4 eB|with_reducible rfl|rfl|((first|with_reducible refine gd1 ?_|with_reducible refine gd2 ?_|with_reducible refine gd3 ?_|with_reducible refine gd4 ?_);omega)|(simp only [*]<;>fail)|fail)<;>fail)|fail):p:=h
theorem dI2 (h:p:=by first|((first|rfl|(first|rfl|exact congrArg (fun x:Int=>AV.c (iv x)) hN1.symm|exact congrArg (fun x:Int=>AV.c (iv x)) hT1.symm|exact congrArg (fun x=>AV.own 1 0 x 1 true) hcs|exact congrArg (fun x=>AObj.row _ (cH .i64 x)) hCs|exact congrArg (fun x=>AV.own 1 0 x 1 true) hcs.symm|exact congrArg (fun x=>AObj.row _ (cH .i64 x)) hCs.symm)|exact zeq)<;>fail)|fail):p:=h
theorem dI4 (h:p:=by first|((first|rfl|(first|rfl|exact congrArg (fun x:Nat=>AV.c (iv x)) hNs|exact congrArg (fun x:Nat=>AV.c (iv x)) hTs|exact congrArg (fun x=>AV.own 1 0 x 1 true) hcs|exact congrArg (fun x=>AObj.row _ (cH .i64 x)) hCs|exact congrArg (fun x=>AV.own 1 0 x 1 true) hcs.symm|exact congrArg (fun x=>AObj.row _ (cH .i64 x)) hCs.symm)|exact zeq)<;>fail)|fail):p:=h
theorem dI9 (h:p:=by first|((refine iG [0,1,2,6] rfl rfl ?_ ?_ rfl rfl<;>(repeat' (first|exact eO|exact dL|refine dY rfl aV7 rfl ?_|refine bY rfl aV7 rfl ?_)))<;>fail)|fail):p:=h
theorem dJ0 (h:p:=by first|((refine cZ rfl ?_ ?_ rfl<;>(repeat' (first|exact cB|exact cC|refine bQ rfl (by first|rfl|(first|rfl|(rw [hT0];rfl))|exact zeq) rfl ?_|refine aQ rfl (by first|rfl|(first|rfl|(rw [hT0];rfl))|exact zeq) rfl ?_|refine aQ rfl (by first|rfl|(first|rfl|(rw [hT0];rfl))) cD ?_)))<;>fail)|fail):p:=h
theorem cS9 (h:p:=by first|((refine iG [0,3] rfl rfl ?_ ?_ rfl rfl<;>(repeat' (first|exact eO|exact dL|refine dY rfl (by first|rfl|(exact congrArg (AObj.row 5) (yV l x _ aA))|exact zeq) rfl ?_|refine bY rfl (by first|rfl|(exact congrArg (AObj.row 5) (yV l x _ aA))|exact zeq) rfl ?_)))<;>fail)|fail):p:=h
theorem cT0 (h:p:=by first|((refine iG [0,3] rfl rfl ?_ ?_ rfl rfl<;>(repeat' (first|exact eO|exact dL|refine dY rfl (by first|rfl|(exact congrArg (AObj.row 5) (yT l x hlt))|exact zeq) rfl ?_|refine bY rfl (by first|rfl|(exact congrArg (AObj.row 5) (yT l x hlt))|exact zeq) rfl ?_)))<;>fail)|fail):p:=h
theorem bN0 (h:p:=by first|((refine cZ rfl ?_ ?_ rfl<;>(repeat' (first|exact cB|exact cC|refine bQ rfl (by first|rfl|(exact congrArg (AObj.row _) (aX8 S 32 i hlt))|exact zeq) rfl ?_|refine aQ rfl (by first|rfl|(exact congrArg (AObj.row _) (aX8 S 32 i hlt))|exact zeq) rfl ?_)))<;>fail)|fail):p:=h
theorem cT1 (h:p:=by first|((refine iG [0,4] rfl rfl ?_ ?_ rfl rfl<;>(repeat' (first|exact eO|exact dL|refine dY rfl (by first|rfl|(exact congrArg (AObj.row _) hsn)|exact zeq) rfl ?_|refine bY rfl (by first|rfl|(exact congrArg (AObj.row _) hsn)|exact zeq) rfl ?_)))<;>fail)|fail):p:=h
theorem gV (h:p:=by first|((refine cZ rfl ?_ ?_ rfl<;>(repeat' (first|exact cB|exact cC|refine bQ rfl tA rfl ?_|refine aQ rfl tA rfl ?_|refine aQ rfl (by first|rfl|(rfl)) cD ?_)))<;>fail)|fail):p:=h
theorem cT2 (h:p:=by first|((first|rfl|(first|rfl|exact congrArg (fun x:Nat=>AV.c (iv x)) (by rw [t1])|exact congrArg (fun x:Nat=>AV.c (iv x)) aA|exact congrArg (fun x:Int=>AV.c (iv x)) aA|exact congrArg (fun x=>AObj.row _ (cH .i64 x)) t2.symm)|exact zeq)<;>fail)|fail):p:=h
theorem cT3 (h:p:=by first|((first|rfl|(first|rfl|exact congrArg (fun x:Nat=>AV.c (iv x)) hN0.symm|exact congrArg (fun x:Nat=>AV.c (iv x)) hT0.symm|exact congrArg (fun x=>AV.own 1 0 x 1 true) hc0.symm|exact congrArg (fun x=>AObj.row _ (cH .i64 x)) hC0.symm)|exact zeq)<;>fail)|fail):p:=h
theorem cT4 (h:p:=by first|((first|rfl|(first|rfl|exact congrArg (fun x:Nat=>AV.c (iv x)) (by rw [t1])|exact congrArg (fun x:Nat=>AV.c (iv x)) aA|exact congrArg (fun x:Int=>AV.c (iv x)) aA|exact congrArg (fun x=>AObj.row _ (vrc x)) t2.symm)|exact zeq)<;>fail)|fail):p:=h
theorem cT5 (h:p:=by first|((refine iG [0,3] rfl rfl ?_ ?_ rfl rfl<;>(repeat' (first|exact eO|exact dL|refine dY rfl tA rfl ?_|refine bY rfl tA rfl ?_)))<;>fail)|fail):p:=h
theorem cT6 (h:p:=by first|((first|rfl|(first|rfl|exact congrArg (fun x:Nat=>AV.c (iv x)) hNs|exact congrArg (fun x:Nat=>AV.c (iv x)) hTs|exact congrArg (fun x=>AV.own 4 0 x 1 true) hcs|exact congrArg (AObj.row _) (by simpa using hsc))|exact zeq)<;>fail)|fail):p:=h
theorem cT7 (h:p:=by first|((first|rfl|(first|exact congrArg (fun x:Nat=>AV.c (iv x)) (by rw [s1,hkl])|exact congrArg (fun x:Nat=>AV.c (iv x)) aA|exact congrArg (fun x=>AObj.row _ (cH .i64 x)) (by rw [s2,hkr]))|exact zeq)<;>fail)|fail):p:=h
theorem cT8 (h:p:=by first|((first|rfl|(first|exact congrArg (fun x:Nat=>AV.c (iv x)) (by rw [s1,hkl])|exact congrArg (fun x:Nat=>AV.c (iv x)) aA|exact congrArg (fun x=>AObj.row _ (vrc x)) (by rw [s2,hkr]))|exact zeq)<;>fail)|fail):p:=h
theorem aV6 (h:p:=by first|((first|((repeat' (first|exact flcl_nil|exact uA _|exact flcl_int _ _|exact pZ _|exact aY1|assumption|refine flcl_app ?_ ?_|refine flcl_cons ?_ ?_|refine aB1 ?_))<;>fail)|fail)<;>fail)|fail):p:=h
theorem bN1 (h:p:=by first|((first|assumption|with_reducible exact gd1 eB|with_reducible exact gd2 eB|with_reducible exact gd3 eB|with_reducible exact gd4 eB|with_reducible rfl)<;>fail)|fail):p:=h
theorem hQ (h:p:=by first|((first|(simp only [Int.reduceAdd,Int.reduceSub,Int.reduceMul];exact w64 aA aA)|exact w64 aA aA|exact wu64 aA aA|exact wu8 aA aA|rfl)<;>fail)|fail):p:=h
theorem bN2 (h:p:=by first|((first|rfl|((first|with_reducible refine gd1 ?_|with_reducible refine gd2 ?_|with_reducible refine gd3 ?_|with_reducible refine gd4 ?_);omega)|(simp only [*]<;>fail)|fail)<;>fail)|fail):p:=h
theorem yJ (h:p:=by first|((first|first|exact kG hx (Al _)|exact kG hy (Al _)|exact kG hx aA|exact kG hy aA|exact qK (by first|rfl|omega)|rfl)<;>fail)|fail):p:=h
theorem cT9 (h:p:=by first|((first|rfl|(first|rfl|exact congrArg (fun x=>AV.own 1 0 x 1 true) ho0.symm|exact congrArg (fun x=>AObj.row _ (cH .i64 x)) hD0.symm)|exact zeq)<;>fail)|fail):p:=h
theorem aG2 (h:p:=by first|((first|(rw [Al,A4];exact hx)|(rw [Al,A4];exact hy)|(refine nB hx ?_;omega)|(refine nB hy ?_;omega))<;>fail)|fail):p:=h
theorem cU0 (h:p:=by first|((first|rfl|(first|rfl|exact congrArg (fun x=>AV.own 0 0 x 3 true) ho0.symm|exact congrArg (fun x=>AObj.row _ (vrc x)) hD0.symm)|exact zeq)<;>fail)|fail):p:=h
theorem cU1 (h:p:=by first|((first|rfl|(first|rfl|exact congrArg (fun x=>AV.own 0 0 x 3 true) hso.symm|exact congrArg (fun x=>AObj.row _ (vrc x)) hs.symm)|exact zeq)<;>fail)|fail):p:=h
theorem cU2 (h:p:=by first|((first|rfl|(first|rfl|exact congrArg (fun x=>AV.own 4 0 x 1 true) hso.symm|exact congrArg (AObj.row _) (by simpa using hsc))|exact zeq)<;>fail)|fail):p:=h
theorem cU3 (h:p:=by first|((first|rfl|exact bV8 rfl rfl aA|exact bT5 aA|(simp<;>fail)|(congr 4;omega)|(congr 3;omega)|(congr 2;omega))<;>fail)|fail):p:=h
theorem cU4 (h:p:=by first|((first|rfl|(first|rfl|exact congrArg (fun x=>AV.own 2 0 x 3 true) hso.symm|exact congrArg (AObj.row _) hsc)|exact zeq)<;>fail)|fail):p:=h
theorem nC (h:p:=by first|((repeat' (first|exact dL|refine bY rfl rfl rfl ?_|refine bY rfl setT_mp cD ?_))<;>fail)|fail):p:=h
theorem cU5 (h:p:=by first|((first|rfl|(first|rfl|exact congrArg (AObj.row _) hGs.symm|exact congrArg (AObj.row _) hGs)|exact zeq)<;>fail)|fail):p:=h
theorem cU6 (h:p:=by first|((first|rfl|(first|rfl|exact congrArg AObj.tab hs2|exact congrArg AObj.tab hs2.symm)|exact zeq)<;>fail)|fail):p:=h
theorem yK (h:p:=by first|((first|exact q64 aA aA aA|exact qu8 aA aA aA|rfl)<;>fail)|fail):p:=h
theorem aV7 (h:p:=by first|((first|rfl|(first|rfl|exact congrArg (AObj.row _) (by simpa using hsn))|exact zeq)<;>fail)|fail):p:=h
theorem bN3 (h:p:=by first|((first|assumption|exact Be aA|(simp only [*]<;>fail)|fail)<;>fail)|fail):p:=h
theorem bN4 (h:p:=by first|((first|assumption|exact AU aA|(simp only [*]<;>fail)|fail)<;>fail)|fail):p:=h
theorem cU7 (h:p:=by first|((first|rfl|(exact congrArg (fun l=>AObj.tab (aD ktV.kc l)) hst)|exact zeq)<;>fail)|fail):p:=h
theorem cU8 (h:p:=by first|((first|rfl|(exact congrArg (fun l=>AObj.tab (aD ktS.kc l)) hst)|exact zeq)<;>fail)|fail):p:=h
theorem bN5 (h:p:=by first|((first|exact dR cO|exact dR gX|exact gK rfl rfl zln)<;>fail)|fail):p:=h
theorem cU9 (h:p:=by first|((rw [mU (m:=frA.length) (k:=0) rfl rfl aA aN];simp)<;>fail)|fail):p:=h
theorem aG3 (h:p:=by first|((first|omega|exact AA rfl|omega|(simp<;>omega))<;>fail)|fail):p:=h
theorem cV0 (h:p:=by first|((first|rfl|(first|rfl|exact congrArg (AObj.row _) hG0)|exact zeq)<;>fail)|fail):p:=h
theorem yL (h:p:=by first|((first|(simp only [Int.reduceTMod];rfl)|exact r64 aA|rfl)<;>fail)|fail):p:=h
theorem yM (h:p:=by first|((first|rfl|exact dP6 eB|(simp<;>fail)|fail)<;>fail)|fail):p:=h
theorem cV1 (h:p:=by first|((first|rfl|(exact cO7 l n k hl aA)|exact zeq)<;>fail)|fail):p:=h
theorem sZ (h:p:=by first|((first|exact cY5|exact src_nil|exact cA7 rfl zln)<;>fail)|fail):p:=h
theorem lX (h:p:=by first|((first|(simp only [maxLen];omega)|(simp [maxLen];omega))<;>fail)|fail):p:=h
theorem qR (h:p:=by first|((first|fail|exact qK (by first|rfl|omega)|rfl)<;>fail)|fail):p:=h
theorem lY (h:p:=by first|((first|exact IsAgg.closed rfl rfl|exact IsAgg.mixed _)<;>fail)|fail):p:=h
theorem bN6 (h:p:=by first|((first|exact size_mk eB|assumption|rfl)<;>fail)|fail):p:=h
theorem bN7 (h:p:=by first|((rw [Bg,Ah aA])<;>fail)|fail):p:=h
theorem lE (h:p:=by first|((first|exact eP|exact dQ cO eP)<;>fail)|fail):p:=h
theorem nT (h:p:=by first|((first|exact Parts.mixed _|exact Parts.closed _)<;>fail)|fail):p:=h
theorem aV8 (h:p:=by first|((have:=h.2;rw [hat,hay] at this;injection this)<;>fail)|fail):p:=h
theorem qT (h:p:=by first|((first|exact aE|exact (bT rfl rfl zgb))<;>fail)|fail):p:=h
theorem bN8 (h:p:=by first|((first|exact w64 aA aA|rfl)<;>fail)|fail):p:=h
theorem bN9 (h:p:=by first|((first|exact toList_mk _|assumption|rfl)<;>fail)|fail):p:=h
theorem cP (h:p:=by first|((first|exact rI|exact cL0 rfl)<;>fail)|fail):p:=h
theorem bO0 (h:p:=by first|((rw [AG,hlisted];exact b4)<;>fail)|fail):p:=h
theorem aV9 (h:p:=by exact ⟨bX3,aR2,trivial⟩):p:=h
theorem aW0 (h:p:=by exact ⟨bX2,aR1,trivial⟩):p:=h
theorem dI3 (h:p:=by exact ⟨bW6,aQ9,trivial⟩):p:=h
theorem bO1 (h:p:=by exact ⟨bK0,aN2,trivial⟩):p:=h
theorem bO2 (h:p:=by first|((first|rfl|(simp<;>fail)|fail)<;>fail)|fail):p:=h
theorem qV (h:p:=by first|((rw [uR hx,B6];rfl)<;>fail)|fail):p:=h
theorem dI5 (h:p:=by exact ⟨cD8,bC8,trivial⟩):p:=h
theorem dI6 (h:p:=by exact ⟨cP3,bI5,trivial⟩):p:=h
theorem dI7 (h:p:=by exact ⟨cF8,bE7,trivial⟩):p:=h
theorem dI8 (h:p:=by exact ⟨cN6,bH7,trivial⟩):p:=h
theorem aW1 (h:p:=by first|((simp only [maxLen] at h63;omega)<;>fail)|fail):p:=h
theorem nD (h:p:=by first|((simp [Act.eval,Array.replicate])<;>fail)|fail):p:=h
theorem tA (h:p:=by first|((first|rfl|(rfl)|exact zeq)<;>fail)|fail):p:=h
theorem bO3 (h:p:=by first|((rw [Aa];omega)<;>fail)|fail):p:=h
theorem nU (h:p:=by first|((rw [A1];omega)<;>fail)|fail):p:=h
theorem yN (h:p:=by first|((rw [<- e1 id hid];exact hH)<;>fail)|fail):p:=h
theorem aW2 (h:p:=by first|((rw [<- e1 id' k2];exact k4)<;>fail)|fail):p:=h
theorem aW3 (h:p:=by first|((rw [<- hH id hid];exact hh)<;>fail)|fail):p:=h
theorem aG4 (h:p:=by exact dO3 l i aA):p:=h
theorem aW4 (h:p:=by first|((rw [<- e1 id k1];exact k3)<;>fail)|fail):p:=h
theorem aW5 (h:p:=by first|((rw [<- e1 id k1];exact k2)<;>fail)|fail):p:=h
theorem vM (h:p:=by first|((simp only [maxLen];omega)<;>fail)|fail):p:=h
theorem cV2 (h:p:=by first|((rw [e1 id hid];exact hH)<;>fail)|fail):p:=h
theorem nV (h:p:=by first|((rw [Tryz.ntmps258];rfl)<;>fail)|fail):p:=h
theorem yO (h:p:=by first|((rw [Tryz.ntmps144];rfl)<;>fail)|fail):p:=h
theorem nW (h:p:=by first|((rw [Tryz.ntmps216];rfl)<;>fail)|fail):p:=h
theorem aW6 (h:p:=by first|((rw [Tryz.ntmps175];rfl)<;>fail)|fail):p:=h
theorem aW7 (h:p:=by first|((rw [Tryz.ntmps225];rfl)<;>fail)|fail):p:=h
theorem aW8 (h:p:=by first|((rw [Tryz.ntmps227];rfl)<;>fail)|fail):p:=h
theorem yP (h:p:=by first|((rw [Tryz.ntmps146];rfl)<;>fail)|fail):p:=h
theorem aG5 (h:p:=by first|((rw [Tryz.ntmps183];rfl)<;>fail)|fail):p:=h
theorem nX (h:p:=by first|((rw [Tryz.ntmps121];rfl)<;>fail)|fail):p:=h
theorem yQ (h:p:=by first|((simpa [oN] using k)<;>fail)|fail):p:=h
theorem nE (h:p:=by first|((first|omega|decide)<;>fail)|fail):p:=h
theorem nY (h:p:=by first|((rw [Tryz.ntmps26];rfl)<;>fail)|fail):p:=h
theorem vO (h:p:=by first|((rw [Tryz.ntmps61];rfl)<;>fail)|fail):p:=h
theorem vH (h:p:=by first|((rw [Tryz.ntmps63];rfl)<;>fail)|fail):p:=h
theorem aA6 (h:p:=by first|((rw [Tryz.ntmps27];rfl)<;>fail)|fail):p:=h
theorem nR (h:p:=by first|((rw [Tryz.ntmps62];rfl)<;>fail)|fail):p:=h
theorem vI (h:p:=by first|((rw [Tryz.ntmps60];rfl)<;>fail)|fail):p:=h
theorem rX (h:p:=by first|((rw [Tryz.ntmps21];rfl)<;>fail)|fail):p:=h
theorem vJ (h:p:=by first|((rw [Tryz.ntmps80];rfl)<;>fail)|fail):p:=h
theorem vK (h:p:=by first|((rw [Tryz.ntmps74];rfl)<;>fail)|fail):p:=h
theorem rY (h:p:=by first|((rw [Tryz.ntmps24];rfl)<;>fail)|fail):p:=h
theorem iJ (h:p:=by first|((first|rfl|fail)<;>fail)|fail):p:=h
theorem vL (h:p:=by first|((simpa using hlt)<;>fail)|fail):p:=h
theorem iK (h:p:=by first|((rw [<- hw1];rfl)<;>fail)|fail):p:=h
theorem eT (h:p:=by first|((simpa using hl)<;>fail)|fail):p:=h
theorem rZ (h:p:=by first|((simpa using hj)<;>fail)|fail):p:=h
theorem sA (h:p:=by first|((simpa using hi)<;>fail)|fail):p:=h
theorem sB (h:p:=by first|((simpa using ha)<;>fail)|fail):p:=h
theorem nS (h:p:=by first|((simpa using h)<;>fail)|fail):p:=h
theorem dS (h:p:=by first|((simp;omega)<;>fail)|fail):p:=h
theorem lO (h:p:=by first|((rw [hX,hj])<;>fail)|fail):p:=h
theorem eB (h:p:=by assumption):p:=h
theorem aT (h:p:=by kernel_rfl):p:=h
theorem kA (h:p:=by first|((simp [lt])<;>fail)|fail):p:=h
theorem kB (h:p:=by first|((cases h)<;>fail)|fail):p:=h
theorem aN (h:p:=by decide):p:=h
theorem aA (h:p:=by omega):p:=h
theorem aO (h:p:=by first|((simp)<;>fail)|fail):p:=h
theorem eE (h:p:=by rfl):p:=h
theorem lZ (h:p:=by exact ⟨k1,g,k2.trans hg,hu⟩):p:=h
theorem bO9 (h:p:=by exact .inl ⟨h1,h2,k2.trans h3,h4⟩):p:=h
theorem dJ1 (h:p:=by refine C2 Cs ⟨fun hk id o hid hH=>hk id o hid cV2,fun hk id o hid hH=>hk id o hid yN⟩):p:=h
theorem bP2 (h:p:=by exact hK' _ _ (next B _ _ ⟨M,k1,c2,fun t av ht=>Rep.ext k2 _ _ (c3 t av ht),c4.ext k2⟩)):p:=h
theorem dJ2 (h:p:=by exact ⟨none,0,us,by rw [h4,h1],by omega,by simp [maxLen],hl,hus,hon,fun hn=>absurd hn aA⟩):p:=h
theorem dJ3 (h:p:=by exact ⟨A,cp,us,h3,by omega,h4,hl,hus,hon,fun hn=>absurd hn aA⟩):p:=h
theorem dJ4 (h:p:=by exact RepC.mono (fun b hb hl=>⟨⟨.inl hb,fun id o hid=>absurd hid kA⟩,hl,rfl⟩) _ _ hru):p:=h
theorem cF5 (h:p:=by exact ((Below.refl _ _).drew).alloc (Ae _) _):p:=h
theorem cF6 (h:p:=by exact .inl ⟨j+1,oj,by omega,by simpa using h2,h3,by simpa using h4⟩):p:=h
theorem aW9 (h:p:=by exact .inl ⟨0,o,by omega,rfl,by rw [hd,hdt],rfl⟩):p:=h
theorem bO4 (h:p:=by exact c4 t av h1 (fun j o' hj _=>hno j o' hj)):p:=h
theorem bO5 (h:p:=by exact ⟨M,hg.1,c2,fun t av ht=>Rep.ext hg.2 _ _ (c3 t av ht),c4.ext hg.2⟩):p:=h
theorem bO6 (h:p:=by exact ⟨j,A5.1 hj,by simpa using hp⟩):p:=h
theorem bO7 (h:p:=by exact tail_waits b3.1 b3.2 dS hinv _ j0 rfl hj0 (getD_in (hsize j0 hj0) hu0) i h hi):p:=h
theorem cV3 (h:p:=by exact (h1.obj _ _ (hn' id hid) (hH id o hH').1).lessR hls rfl (hH id o hH').2):p:=h
theorem cV4 (h:p:=by exact C2 Cs ⟨fun hk id o hid hH=>hk id o hid cV2,fun hk id o hid hH=>hk id o hid yN⟩):p:=h
theorem aX0 (h:p:=by exact hK' undef _ M k2 k1 trivial):p:=h
theorem aG7 (h:p:=by exact .inr (.inl (Ao hc.fr.size h1))):p:=h
theorem bO8 (h:p:=by exact hK v w' M (g2.trans k2) k1 (RepC.mono hmon _ _ hv)):p:=h
theorem jB (h:p:=by refine cN9 zio ztr rfl rfl rfl rfl zln (ResL.one (ResA.tmp rfl))):p:=h
theorem cJ (h:p:=by refine cX zio ztr rfl (ResL.one (ResA.tmp rfl)) zou):p:=h
theorem tB (h:p:=by refine cX zio ztr rfl (ResL.one zrs) zou):p:=h
theorem iN (h:p:=by exact ⟨i+1,by omega,by omega,gV⟩):p:=h
theorem gI (h:p:=by refine uJ zio ztr rfl rfl (ResL.one (ResA.tmp rfl)) (aC8 zfz rfl rfl)):p:=h
theorem kS (h:p:=by refine uJ zio ztr rfl rfl (ResL.one zrs) (aC8 zfz rfl rfl)):p:=h
theorem cV5 (h:p:=by refine cX zio ztr rfl (ResL.three (ResA.tmp rfl) (ResA.tmp rfl) (ResA.tmp rfl)) (kD (aZ zfz (aZ zfz (aZ zfz dE))))):p:=h
theorem cV6 (h:p:=by refine cX zio ztr rfl (ResL.three zrs (ResA.tmp rfl) (ResA.tmp rfl)) (kD (aZ zfz (aZ zfz (aZ zfz dE))))):p:=h
theorem vQ (h:p:=by refine cO0 zio ztr rfl (ResF.mk zrs zrs (ResA.tmp rfl) (ResA.tmp rfl)) (kD (aZ zfz (aZ zfz (aZ zfz (aZ zfz dE)))))):p:=h
theorem aG8 (h:p:=by refine bA4 zio ztr rfl rfl rfl nC rfl ResL.none (bS9)):p:=h
theorem dP (h:p:=by refine bA4 zio ztr rfl rfl rfl nC rfl (ResL.one (ResA.tmp rfl)) (zfz)):p:=h
theorem aX1 (h:p:=by refine cX zio dI3 rfl (ResL.three zrs zrs zrs) (kD (aZ (iL (gK rfl rfl hll) (jR e4 e5)) (aZ (iL (dR cO) (tC e6)) (aZ (iL (dR cO) (tC e7)) dE))))):p:=h
theorem yR (h:p:=by refine cX zio dI5 rfl (ResL.two zrs zrs) (kD (aZ zfz (aZ zfz dE)))):p:=h
theorem aG9 (h:p:=by refine cX zio dI6 rfl (ResL.two zrs zrs) (kD (aZ zfz (aZ zfz dE)))):p:=h
theorem cV7 (h:p:=by refine cX zio (by exact ⟨cF7,bE6,trivial⟩) rfl (ResL.two zrs zrs) (kD (aZ zfz (aZ zfz dE)))):p:=h
theorem aH0 (h:p:=by refine cX zio dI7 rfl (ResL.two zrs zrs) (kD (aZ zfz (aZ zfz dE)))):p:=h
theorem bP0 (h:p:=by refine cX zio dI8 rfl (ResL.two zrs zrs) (kD (aZ zfz (aZ zfz dE)))):p:=h
theorem bP1 (h:p:=by refine cX zio bO1 rfl (ResL.two zrs zrs) (kD (aZ (dR (lP aQ7)) (aZ (dR cO) dE)))):p:=h
theorem cV8 (h:p:=by refine cX zio bO1 rfl (ResL.two zrs zrs) (kD (aZ zfz (aZ zfz dE)))):p:=h
theorem aX2 (h:p:=by refine bA5 zio ztr rfl rfl rfl rfl (Ah aA) (ResL.one (ResA.tmp rfl))):p:=h
theorem cV9 (h:p:=by refine bA5 zio ztr rfl rfl rfl rfl (by rw [Al,Ck,Nat.min_self,hfm]) (ResL.one (ResA.tmp rfl))):p:=h
theorem cW0 (h:p:=by refine cX zio ztr rfl (ResL.one (ResA.tmp rfl)) (aZ3 (iL (dR cO) (jR hqq hq0)))):p:=h
end
end Go
namespace Go.Av
open Go Go.RowKit
section
inductive CV where
 | v (x:Value)
 | sl (size n:Nat) (cs:List CV)
 | agg (cs:List CV)
mutual
def RepC (ok : Nat -> Prop) (w : World) : CV -> Value -> Prop
  | .v x, u => u = x
  | .sl size n cs, u => ∃ A c us, u = .slice A n c /\ n <= c /\ c <= maxLen /\ cs.length = n * size /\ RepCs ok w cs us /\ (∀ u ∈ us, u.oneCell' = true) /\
      (0 < n -> ∃ b o, A = some ⟨b, o, none⟩ /\ ok b /\ b < w.heap.size /\ ∀ j x, us[j]? = some x -> w.cell? ⟨b, o + j, none⟩ = some x)
  | .agg cs, u => ∃ us, u = .agg us.toArray /\ RepCs ok w cs us /\ ∀ u ∈ us, u.oneCell' = true
def RepCs (ok:Nat->Prop) (w:World):List CV->List Value->Prop
 | [],us=>us=[]
 | c::cs,us=>∃u us',us=u::us'/\RepC ok w c u/\RepCs ok w cs us'
end
def jO (ok ok':Nat->Prop) (w w':World):Prop:=∀b,ok b->b<w.heap.size->ok' b/\b<w'.heap.size/\w'.heap[b]? = w.heap[b]?
mutual
theorem RepC.mono {ok ok':Nat->Prop} {w w':World} (h:jO ok ok' w w'):∀(c:CV) (u:Value),RepC ok w c u->RepC ok' w' c u
 | .v x,u,hu=>by simpa [RepC] using hu
 | .sl size n cs,u,hu=>by
  simp only [RepC] at hu ⊢
  obtain ⟨A,c,us,h1,h2,h3,h4,h5,h7,h6⟩:=hu
  refine ⟨A,c,us,h1,h2,h3,h4,RepCs.mono h cs us h5,h7,fun hn=>?_⟩
  obtain ⟨b,o,e,hb,hlt,hc⟩:=h6 hn
  obtain ⟨k1,k2,k3⟩:=h b hb hlt
  exact ⟨b,o,e,k1,k2,fun j x hx=>by rw [World.cell?_of_block (w:=w) k3];exact hc j x hx⟩
 | .agg cs,u,hu=>by
  simp only [RepC] at hu ⊢
  obtain ⟨us,h1,h2,h3⟩:=hu
  exact ⟨us,h1,RepCs.mono h cs us h2,h3⟩
theorem RepCs.mono {ok ok':Nat->Prop} {w w':World} (h:jO ok ok' w w'):∀(cs:List CV) (us:List Value),RepCs ok w cs us->RepCs ok' w' cs us
 | [],us,hu=>by simpa [RepCs] using hu
 | c::cs,us,hu=>by
  simp only [RepCs] at hu ⊢
  obtain ⟨u,us',h1,h2,h3⟩:=hu
  exact ⟨u,us',h1,RepC.mono h c u h2,RepCs.mono h cs us' h3⟩
end
section RepCs
variable {ok:Nat->Prop} {w:World}
theorem RepCs.length:∀{cs:List CV} {us:List Value},RepCs ok w cs us->us.length=cs.length
 | [],us,h=>by simp only [RepCs] at h;subst h;rfl
 | c::cs,us,h=>by
  simp only [RepCs] at h
  obtain ⟨u,us',rfl,_,h3⟩:=h
  simp [RepCs.length h3]
theorem RepCs.get:∀{cs:List CV} {us:List Value},RepCs ok w cs us->∀{j:Nat} {c:CV},cs[j]? = some c->∃u,us[j]? = some u/\RepC ok w c u
 | [],us,h,j,c,hc=>by simp at hc
 | c::cs,us,h,j,c',hc=>by
  simp only [RepCs] at h
  obtain ⟨u,us',rfl,h2,h3⟩:=h
  cases j with
  | zero=>simp at hc;subst hc;exact ⟨u,rfl,h2⟩
  | succ j=>simpa using RepCs.get h3 (by simpa using hc)
theorem RepCs.append:∀{cs ds:List CV} {us vs:List Value},RepCs ok w cs us->RepCs ok w ds vs->RepCs ok w (cs++ds) (us++vs)
 | [],ds,us,vs,h,k=>by simp only [RepCs] at h;subst h;simpa using k
 | c::cs,ds,us,vs,h,k=>by
  simp only [RepCs] at h
  obtain ⟨u,us',rfl,h2,h3⟩:=h
  exact ⟨u,us'++vs,rfl,h2,RepCs.append h3 k⟩
theorem RepCs.take:∀(n:Nat) {cs:List CV} {us:List Value},RepCs ok w cs us->RepCs ok w (cs.take n) (us.take n)
 | 0,cs,us,h=>by simp [RepCs]
 | n+1,[],us,h=>by simp only [RepCs] at h;subst h;simp [RepCs]
 | n+1,c::cs,us,h=>by
  simp only [RepCs] at h
  obtain ⟨u,us',rfl,h2,h3⟩:=h
  simp only [B2,RepCs]
  exact ⟨u,us'.take n,rfl,h2,RepCs.take n h3⟩
theorem RepCs.drop:∀(n:Nat) {cs:List CV} {us:List Value},RepCs ok w cs us->RepCs ok w (cs.drop n) (us.drop n)
 | 0,cs,us,h=>by simpa using h
 | n+1,[],us,h=>by simp only [RepCs] at h;subst h;simp [RepCs]
 | n+1,c::cs,us,h=>by
  simp only [RepCs] at h
  obtain ⟨u,us',rfl,h2,h3⟩:=h
  simpa using RepCs.drop n h3
theorem RepCs.set:∀{cs:List CV} {us:List Value},RepCs ok w cs us->∀(j:Nat) {c:CV} {u:Value},RepC ok w c u->RepCs ok w (cs.set j c) (us.set j u)
 | [],us,h,j,c,u,k=>by simp only [RepCs] at h;subst h;simp [RepCs]
 | c::cs,us,h,j,c',u',k=>by
  simp only [RepCs] at h
  obtain ⟨u,us',rfl,h2,h3⟩:=h
  cases j with
  | zero=>exact ⟨u',us',rfl,k,h3⟩
  | succ j=>exact ⟨u,us'.set j u',rfl,h2,RepCs.set h3 j k⟩
theorem RepCs.plain (vs:List Value):RepCs ok w (vs.map CV.v) vs:=by
 induction vs with
 | nil=>simp [RepCs]
 | cons v vs ih=>exact ⟨v,vs,rfl,rfl,ih⟩
theorem RepCs.of_plain {vs us:List Value} (h:RepCs ok w (vs.map CV.v) us):us=vs:=by
 induction vs generalizing us with
 | nil=>simpa [RepCs] using h
 | cons v vs ih =>
  simp only [AD,RepCs,RepC] at h
  obtain ⟨u,us',rfl,rfl,h3⟩:=h
  rw [ih h3]
end RepCs
def CV.one:CV->Bool
 | .v x=>x.oneCell'
 | .sl .. => true
 | .agg _=>false
theorem RepC.one {ok:Nat->Prop} {w:World} {c:CV} {u:Value} (h:RepC ok w c u) (h1:c.one=true):u.oneCell'=true/\u.cells = #[u]:=by
 cases c with
 | v x =>
  simp only [RepC] at h
  subst h
  simp only [CV.one] at h1
  refine ⟨h1,?_⟩
  cases u<;>simp_all [Value.oneCell',Value.cells]
 | sl size n cs =>
  simp only [RepC] at h
  obtain ⟨A,c,us,rfl,_⟩:=h
  exact ⟨rfl,rfl⟩
 | agg cs=>cases h1
theorem RepCs.one {ok:Nat->Prop} {w:World}:∀{cs:List CV} {us:List Value},RepCs ok w cs us->(∀c∈cs,c.one=true)->∀u∈us,u.oneCell'=true
 | [],us,h,_,u,hu=>by simp only [RepCs] at h;subst h;simp at hu
 | c::cs,us,h,h1,u,hu=>by
  simp only [RepCs] at h
  obtain ⟨u',us',rfl,h2,h3⟩:=h
  rcases A3.1 hu with rfl|hu
  ·exact (h2.one (h1 c aO)).1
  ·exact RepCs.one h3 (fun c hc=>h1 c (by simp [hc])) u hu
inductive AV where
 | c (x:CV)
 | ref (id off:Nat)
 | own (id off n size:Nat) (full:Bool)
 | ip (cs:List CV) (off:Nat)
 | agg (xs:List AV)
 | tup (xs:List AV)
 | fn (f:FuncId) (caps:List AV)
 | yld (id:Nat)
 | mh (id:Nat)
 | bm (f:FuncId) (id:Nat)
 | junk
structure Cx where
 dom:Nat->Prop
 M:Nat->Option Nat
 ok:Nat->Prop
 w:World
mutual
def Rep (C : Cx) : AV -> Value -> Prop
  | .c x, u => RepC C.ok C.w x u
  | .ref id off, u => C.dom id /\ ∃ g, C.M id = some g /\ u = .pointer (some ⟨g, off, none⟩)
  | .own id off n size full, u => C.dom id /\ ((n = 0 /\ off = 0 /\ C.M id = none /\ u = .slice none 0 0) \/
      (∃ g cp, C.M id = some g /\ u = .slice (some ⟨g, off, none⟩) n cp /\ n <= cp /\ cp <= maxLen /\ (full = true -> ∃ e, C.w.shape? g = some (e, off + cp * size))) \/
      (n = 0 /\ full = false /\ ∃ A cp, u = .slice A 0 cp /\ cp <= maxLen))
  | .ip cs off, u => ∃ b o us, u = .pointer (some ⟨b, o + off, none⟩) /\ C.ok b /\ b < C.w.heap.size /\ RepCs C.ok C.w cs us /\ (∀ u ∈ us, u.oneCell' = true) /\ ∀ j x, us[j]? = some x -> C.w.cell? ⟨b, o + j, none⟩ = some x
  | .agg xs, u => ∃ us, u = .agg us.toArray /\ RepL C xs us
  | .tup xs, u => ∃ us, u = .tuple us.toArray /\ RepL C xs us
  | .fn f caps, u => ∃ us, u = .func (.func f) #[] us.toArray /\ RepL C caps us
  | .yld id, u => C.dom id /\ ∃ g, C.M id = some g /\ u = .func (.yield g) #[] #[]
  | .mh id, u => C.dom id /\ ∃ g, C.M id = some g /\ u = .map (some g)
  | .bm f id, u => C.dom id /\ ∃ g, C.M id = some g /\ u = .func (.func f) #[.pointer (some ⟨g, 0, none⟩)] #[]
  | .junk, _ => True
def RepL (C:Cx):List AV->List Value->Prop
 | [],us=>us=[]
 | c::cs,us=>∃u us',us=u::us'/\Rep C c u/\RepL C cs us'
end
theorem shp {w w':World} (h:∀b x,w.shape? b=some x->w'.shape? b=some x):∀b e s,w.shape? b=some (e,s)->∃e',w'.shape? b=some (e',s):=fun b e s hs=>⟨e,h b _ hs⟩
structure Ext (C C':Cx):Prop where
 dom:∀id,C.dom id->C'.dom id/\C'.M id=C.M id
 ok:jO C.ok C'.ok C.w C'.w
 shape:∀b e s,C.w.shape? b=some (e,s)->∃e',C'.w.shape? b=some (e',s)
theorem Ext.refl (C:Cx):Ext C C:=⟨fun _ h=>⟨h,rfl⟩,fun _ h k=>⟨h,k,rfl⟩,shp fun _ _ h=>h⟩
theorem Ext.trans {A B C : Cx} (h : Ext A B) (k : Ext B C) : Ext A C :=
  ⟨fun id hd => ⟨(k.dom id (h.dom id hd).1).1, (k.dom id (h.dom id hd).1).2.trans (h.dom id hd).2⟩,
   fun b hb hl => let ⟨a1, a2, a3⟩ := h.ok b hb hl; let ⟨b1, b2, b3⟩ := k.ok b a1 a2; ⟨b1, b2, b3.trans a3⟩,
   fun b e s hx => let ⟨e1, h1⟩ := h.shape b e s hx; k.shape b e1 s h1⟩
mutual
theorem Rep.ext {C C':Cx} (h:Ext C C'):∀(x:AV) (u:Value),Rep C x u->Rep C' x u
 | .c x,u,hu=>by simp only [Rep] at hu ⊢;exact RepC.mono h.ok x u hu
 | .ref id off,u,hu=>by
  simp only [Rep] at hu ⊢
  obtain ⟨hd,g,hg,hu⟩:=hu
  obtain ⟨k1,k2⟩:=h.dom id hd
  exact lZ
 | .own id off n size full,u,hu=>by
  simp only [Rep] at hu ⊢
  obtain ⟨hd,hu⟩:=hu
  obtain ⟨k1,k2⟩:=h.dom id hd
  refine ⟨k1,?_⟩
  rcases hu with ⟨h1,h2,h3,h4⟩|⟨g,cp,h1,h2,h3,h4,h5⟩|h6
  ·exact bO9
  ·exact .inr (.inl ⟨g,cp,k2.trans h1,h2,h3,h4,fun hf=>let ⟨e,he⟩:=h5 hf;h.shape _ e _ he⟩)
  ·exact .inr (.inr h6)
 | .ip cs off,u,hu=>by
  simp only [Rep] at hu ⊢
  obtain ⟨b,o,us,h1,h2,h3,h4,h6,h5⟩:=hu
  obtain ⟨k1,k2,k3⟩:=h.ok b h2 h3
  exact ⟨b,o,us,h1,k1,k2,RepCs.mono h.ok cs us h4,h6,fun j x hx=>by rw [World.cell?_of_block (w:=C.w) k3];exact h5 j x hx⟩
 | .agg xs,u,hu=>by
  simp only [Rep] at hu ⊢
  obtain ⟨us,h1,h2⟩:=hu
  exact ⟨us,h1,RepL.ext h xs us h2⟩
 | .tup xs,u,hu=>by
  simp only [Rep] at hu ⊢
  obtain ⟨us,h1,h2⟩:=hu
  exact ⟨us,h1,RepL.ext h xs us h2⟩
 | .fn f caps,u,hu=>by
  simp only [Rep] at hu ⊢
  obtain ⟨us,h1,h2⟩:=hu
  exact ⟨us,h1,RepL.ext h caps us h2⟩
 | .yld id,u,hu=>by
  simp only [Rep] at hu ⊢
  obtain ⟨hd,g,hg,hu⟩:=hu
  obtain ⟨k1,k2⟩:=h.dom id hd
  exact lZ
 | .mh id,u,hu=>by
  simp only [Rep] at hu ⊢
  obtain ⟨hd,g,hg,hu⟩:=hu
  obtain ⟨k1,k2⟩:=h.dom id hd
  exact lZ
 | .bm f id,u,hu=>by
  simp only [Rep] at hu ⊢
  obtain ⟨hd,g,hg,hu⟩:=hu
  obtain ⟨k1,k2⟩:=h.dom id hd
  exact lZ
 | .junk,u,hu=>by simp only [Rep]
theorem RepL.ext {C C':Cx} (h:Ext C C'):∀(xs:List AV) (us:List Value),RepL C xs us->RepL C' xs us
 | [],us,hu=>by simpa [RepL] using hu
 | c::cs,us,hu=>by
  simp only [RepL] at hu ⊢
  obtain ⟨u,us',h1,h2,h3⟩:=hu
  exact ⟨u,us',h1,Rep.ext h c u h2,RepL.ext h cs us' h3⟩
end
section RepL
variable {C:Cx}
theorem RepL.length:∀{cs:List AV} {us:List Value},RepL C cs us->us.length=cs.length
 | [],us,h=>by simp only [RepL] at h;subst h;rfl
 | c::cs,us,h=>by
  simp only [RepL] at h
  obtain ⟨u,us',rfl,_,h3⟩:=h
  simp [RepL.length h3]
theorem RepL.get:∀{cs:List AV} {us:List Value},RepL C cs us->∀{j:Nat} {c:AV},cs[j]? = some c->∃u,us[j]? = some u/\Rep C c u
 | [],us,h,j,c,hc=>by simp at hc
 | c::cs,us,h,j,c',hc=>by
  simp only [RepL] at h
  obtain ⟨u,us',rfl,h2,h3⟩:=h
  cases j with
  | zero=>simp at hc;subst hc;exact ⟨u,rfl,h2⟩
  | succ j=>simpa using RepL.get h3 (by simpa using hc)
theorem RepL.set:∀{cs:List AV} {us:List Value},RepL C cs us->∀(j:Nat) {c:AV} {u:Value},Rep C c u->RepL C (cs.set j c) (us.set j u)
 | [],us,h,j,c,u,k=>by simp only [RepL] at h;subst h;simp [RepL]
 | c::cs,us,h,j,c',u',k=>by
  simp only [RepL] at h
  obtain ⟨u,us',rfl,h2,h3⟩:=h
  cases j with
  | zero=>exact ⟨u',us',rfl,k,h3⟩
  | succ j=>exact ⟨u,us'.set j u',rfl,h2,RepL.set h3 j k⟩
theorem RepL.take:∀(n:Nat) {cs:List AV} {us:List Value},RepL C cs us->RepL C (cs.take n) (us.take n)
 | 0,cs,us,h=>by simp [RepL]
 | n+1,[],us,h=>by simp only [RepL] at h;subst h;simp [RepL]
 | n+1,c::cs,us,h=>by
  simp only [RepL] at h
  obtain ⟨u,us',rfl,h2,h3⟩:=h
  simp only [B2,RepL]
  exact ⟨u,us'.take n,rfl,h2,RepL.take n h3⟩
theorem RepL.drop:∀(n:Nat) {cs:List AV} {us:List Value},RepL C cs us->RepL C (cs.drop n) (us.drop n)
 | 0,cs,us,h=>by simpa using h
 | n+1,[],us,h=>by simp only [RepL] at h;subst h;simp [RepL]
 | n+1,c::cs,us,h=>by
  simp only [RepL] at h
  obtain ⟨u,us',rfl,h2,h3⟩:=h
  simpa using RepL.drop n h3
theorem RepL.append:∀{cs ds:List AV} {us vs:List Value},RepL C cs us->RepL C ds vs->RepL C (cs++ds) (us++vs)
 | [],ds,us,vs,h,k=>by simp only [RepL] at h;subst h;simpa using k
 | c::cs,ds,us,vs,h,k=>by
  simp only [RepL] at h
  obtain ⟨u,us',rfl,h2,h3⟩:=h
  exact ⟨u,us'++vs,rfl,h2,RepL.append h3 k⟩
theorem RepL.ofC:∀{cs:List CV} {us:List Value},RepCs C.ok C.w cs us->RepL C (cs.map AV.c) us
 | [],us,h=>by simpa [RepCs,RepL] using h
 | c::cs,us,h=>by
  simp only [RepCs] at h
  obtain ⟨u,us',rfl,h2,h3⟩:=h
  exact ⟨u,us',rfl,h2,RepL.ofC h3⟩
theorem RepL.toC:∀{cs:List CV} {us:List Value},RepL C (cs.map AV.c) us->RepCs C.ok C.w cs us
 | [],us,h=>by simpa [RepCs,RepL] using h
 | c::cs,us,h=>by
  simp only [AD,RepL] at h
  obtain ⟨u,us',rfl,h2,h3⟩:=h
  exact ⟨u,us',rfl,h2,RepL.toC h3⟩
end RepL
def AV.one:AV->Bool
 | .c x=>x.one
 | .ref .. | .own .. | .ip .. | .fn .. | .yld .. | .mh .. | .bm .. => true
 | _=>false
theorem Rep.one {C:Cx} {x:AV} {u:Value} (h:Rep C x u) (h1:x.one=true):u.oneCell'=true/\u.cells = #[u]:=by
 cases x with
 | c x=>simp only [Rep] at h;exact h.one h1
 | ref id off=>simp only [Rep] at h;obtain ⟨_,g,_,rfl⟩:=h;exact ⟨rfl,rfl⟩
 | own id off n size full =>
  simp only [Rep] at h
  obtain ⟨_,⟨_,_,_,rfl⟩|⟨g,cp,_,rfl,_⟩|⟨_,_,A,cp,rfl,_⟩⟩:=h<;>exact ⟨rfl,rfl⟩
 | ip cs off=>simp only [Rep] at h;obtain ⟨b,o,us,rfl,_⟩:=h;exact ⟨rfl,rfl⟩
 | fn f caps=>simp only [Rep] at h;obtain ⟨us,rfl,_⟩:=h;exact ⟨rfl,rfl⟩
 | agg xs=>cases h1
 | tup xs=>cases h1
 | yld id=>simp only [Rep] at h;obtain ⟨_,g,_,rfl⟩:=h;exact ⟨rfl,rfl⟩
 | mh id=>simp only [Rep] at h;obtain ⟨_,g,_,rfl⟩:=h;exact ⟨rfl,rfl⟩
 | bm f id=>simp only [Rep] at h;obtain ⟨_,g,_,rfl⟩:=h;exact ⟨rfl,rfl⟩
 | junk=>cases h1
theorem RepL.one {C:Cx}:∀{cs:List AV} {us:List Value},RepL C cs us->cs.all AV.one=true->∀u∈us,u.oneCell'=true
 | [],us,h,_,u,hu=>by simp only [RepL] at h;subst h;simp at hu
 | c::cs,us,h,h1,u,hu=>by
  simp only [RepL] at h
  obtain ⟨u',us',rfl,h2,h3⟩:=h
  simp only [Bw,Am] at h1
  rcases A3.1 hu with rfl|hu
  ·exact (h2.one h1.1).1
  ·exact RepL.one h3 h1.2 u hu
def RepM (C:Cx):List (CV × AV)->List MapEntry->Prop
 | [],ms=>ms=[]
 | e::es,ms=>∃m ms',ms=m::ms'/\RepC C.ok C.w e.1 m.key/\Rep C e.2 m.val/\RepM C es ms'
theorem RepM.ext {C C':Cx} (h:Ext C C'):∀(es:List (CV × AV)) (ms:List MapEntry),RepM C es ms->RepM C' es ms
 | [],ms,hu=>hu
 | e::es,ms,hu=>by
  obtain ⟨m,ms',h1,h2,h3,h4⟩:=hu
  exact ⟨m,ms',h1,RepC.mono h.ok _ _ h2,Rep.ext h _ _ h3,RepM.ext h es ms' h4⟩
structure LC where
 ps:List Tmp
 asn:Code
 bd:Code
inductive AObj where
 | blk (T:TypeId) (cs:List AV)
 | row (T:TypeId) (cs:List CV)
 | lp (st:LoopState) (sz:Nat) (L:LC) (slots:List Nat) (xs:List AV)
 | dfr (op:Bool)
 | tab (es:List (CV × AV))
 | dead
def AObj.live:AObj->Option AObj
 | .blk T cs=>some (.blk T cs)
 | .row T cs=>some (.row T cs)
 | .lp b sz L sl xs=>some (.lp b sz L sl xs)
 | .dfr b=>some (.dfr b)
 | .tab es=>some (.tab es)
 | .dead=>none
theorem pE {o o':AObj} (h:o.live=some o'):o=o':=by cases o<;>simp [AObj.live] at h<;>exact h
def dQ1 (b:Bool):Option (List Deferred):=match b with|true=>some []|false=>none
def ObjRep (C:Cx) (g:Option Nat):AObj->Prop
 | .blk T cs=>∃k us,g=some k/\C.w.heap[k]? = some (.cells us.toArray T (0,0))/\RepL C cs us
 | .row T cs=>(g=none/\cs=[])\/∃k us vs,g=some k/\C.w.heap[k]? = some (.cells (us++vs).toArray T (0,0))/\RepCs C.ok C.w cs us/\∀u∈us,u.oneCell'=true
 | .lp st sz L slots xs=>∃k r,g=some k/\C.w.heap[k]? = some (.loop r)/\r.state=st/\r.pending=none/\r.params=L.ps.toArray/\r.assign=L.asn/\r.body=L.bd/\r.tmps.size=sz/\RepL C xs (slots.map fun s=>r.tmps.getD s undef)
 | .dfr b=>∃k,g=some k/\C.w.heap[k]? = some (.deferred (dQ1 b))
 | .tab es=>∃k ms t,g=some k/\C.w.heap[k]? = some (.map ms t)/\Go.MapKept.Stamped ms t/\RepM C es ms.toList
 | .dead=>False
theorem bH {w:World} {g:Nat} {o:Obj} (h:w.heap[g]? = some o):g<w.heap.size:=by
 rcases A7 g w.heap.size with h1|h1
 ·exact h1
 ·rw [Bt h1] at h;cases h
theorem ObjRep.lt {C:Cx} {g:Option Nat} {o:AObj} (h:ObjRep C g o):∀k,g=some k->k<C.w.heap.size:=by
 intro k hk
 cases o with
 | blk T cs=>obtain ⟨k',us,rfl,h2,_⟩:=h;injection hk with hk;subst hk;exact bH h2
 | row T cs =>
  rcases h with ⟨h1,_⟩|⟨k',us,vs,rfl,h2,_⟩
  ·rw [h1] at hk;cases hk
  ·injection hk with hk;subst hk;exact bH h2
 | lp b sz L sl xs=>obtain ⟨k',r,rfl,h2,_⟩:=h;injection hk with hk;subst hk;exact bH h2
 | dfr b=>obtain ⟨k',rfl,h2⟩:=h;injection hk with hk;subst hk;exact bH h2
 | tab es=>obtain ⟨k',ms,t,rfl,h2,_⟩:=h;injection hk with hk;subst hk;exact bH h2
 | dead=>exact h.elim
theorem ObjRep.ext {C C':Cx} (h:Ext C C') {g:Option Nat} {o:AObj} (hg:∀k,g=some k->C'.w.heap[k]? = C.w.heap[k]?) (ho:ObjRep C g o):ObjRep C' g o:=by
 cases o with
 | blk T cs =>
  obtain ⟨k,us,rfl,h2,h3⟩:=ho
  exact ⟨k,us,rfl,(hg k rfl).trans h2,RepL.ext h cs us h3⟩
 | row T cs =>
  rcases ho with h1|⟨k,us,vs,rfl,h2,h3,h4⟩
  ·exact .inl h1
  ·exact .inr ⟨k,us,vs,rfl,(hg k rfl).trans h2,RepCs.mono h.ok cs us h3,h4⟩
 | lp b sz L sl xs =>
  obtain ⟨k,r,rfl,h2,h3,h4,h5,h6,h7,h8,h9⟩:=ho
  exact ⟨k,r,rfl,(hg k rfl).trans h2,h3,h4,h5,h6,h7,h8,RepL.ext h xs _ h9⟩
 | dfr b =>
  obtain ⟨k,rfl,h2⟩:=ho
  exact ⟨k,rfl,(hg k rfl).trans h2⟩
 | tab es =>
  obtain ⟨k,ms,t,rfl,h2,h3⟩:=ho
  exact ⟨k,ms,t,rfl,(hg k rfl).trans h2,h3.1,RepM.ext h es _ h3.2⟩
 | dead=>exact ho.elim
structure Bs where
 w0:World
 G:List Nat
 ok0:Nat->Prop
 fr:List Value
def aU (B:Bs) (dom:Nat->Prop) (M:Nat->Option Nat) (H:Nat->Option AObj) (b:Nat):Prop:=(B.ok0 b\/B.w0.heap.size<=b\/b∈B.G)/\∀id o,dom id->H id=some o->M id≠some b
structure FrB (w0:World) (G:List Nat) (w:World):Prop where
 os:w.os=w0.os
 tape:w.tape=w0.tape
 output:w.output=w0.output
 size:w0.heap.size<=w.heap.size
 block:∀k,k<w0.heap.size->k∉G->w.heap[k]? = w0.heap[k]?
theorem FrB.refl (w:World) (G:List Nat):FrB w G w:=⟨rfl,rfl,rfl,Ae _,fun _ _ _=>rfl⟩
theorem FrB.below {w0 w:World} (h:FrB w0 [] w):Below w0.heap.size w0 w:=⟨h.os,h.tape,h.output,h.size,fun k hk=>h.block k hk aO⟩
structure ConcH (B:Bs) (dom:Nat->Prop) (M:Nat->Option Nat) (H:Nat->Option AObj) (w:World):Prop where
 fr:FrB B.w0 B.G w
 obj:∀id o,dom id->H id=some o->ObjRep ⟨dom,M,aU B dom M H,w⟩ (M id) o
 inj:∀id id' o o' g,dom id->dom id'->H id=some o->H id'=some o'->M id=some g->M id'=some g->id=id'
 lo:∀id o g,dom id->H id=some o->M id=some g->B.w0.heap.size<=g\/g∈B.G
def ad (dom:Nat->Prop) (i j:Nat) (id:Nat):Prop:=dom id\/(i<=id/\id<j)
section
variable {w w':World} {B:Bs} {dom:Nat->Prop} {M M':Nat->Option Nat} {H:Nat->Option AObj}
theorem eC {w w':World} {b:Nat} (h:w'.heap[b]? = w.heap[b]?):w'.shape? b=w.shape? b:=by simp [World.shape?,h]
theorem jW {w:World} {b:Nat} {x:TypeId × Nat} (h:w.shape? b=some x):b<w.heap.size:=by
 unfold World.shape? at h
 split at h
 ·rename_i c e hh;exact bH hh
 ·cases h
theorem ConcH.grow (h : ConcH B dom M H w) (hb : Below w.heap.size w w') (i j : Nat) (hM : ∀ id, dom id -> M' id = M id) (hd : ∀ id, i <= id -> id < j -> ¬ dom id)
    (hn : ∀ id o, i <= id -> id < j -> H id = some o -> ∀ g, M' id = some g -> w.heap.size <= g)
    (hinj : ∀ id id' o o' g, i <= id -> id < j -> i <= id' -> id' < j -> H id = some o -> H id' = some o' -> M' id = some g -> M' id' = some g -> id = id')
    (ho : Ext ⟨dom, M, aU B dom M H, w⟩ ⟨ad dom i j, M', aU B (ad dom i j) M' H, w'⟩ -> ∀ id o, i <= id -> id < j -> H id = some o -> ObjRep ⟨ad dom i j, M', aU B (ad dom i j) M' H, w'⟩ (M' id) o) :
    ConcH B (ad dom i j) M' H w' /\ Ext ⟨dom, M, aU B dom M H, w⟩ ⟨ad dom i j, M', aU B (ad dom i j) M' H, w'⟩ := by
  have hext : Ext ⟨dom, M, aU B dom M H, w⟩ ⟨ad dom i j, M', aU B (ad dom i j) M' H, w'⟩ := by
    refine ⟨fun id hid => ⟨.inl hid, hM id hid⟩, fun b hb1 hb2 => ⟨⟨hb1.1, fun id o hid hH he => ?_⟩, A0 hb2 hb.size, hb.block b hb2⟩, shp fun b x hx => ?_⟩
    · rcases hid with hid | ⟨h1, h2⟩
      · exact hb1.2 id o hid hH ((hM id hid).symm.trans he)
      · have := hn id o h1 h2 hH b he
        simp only at hb2
        omega
    · rw [<- hx]
      exact eC (hb.block b (jW hx))
  refine ⟨⟨⟨hb.os.trans h.fr.os, hb.tape.trans h.fr.tape, hb.output.trans h.fr.output, Ao h.fr.size hb.size, fun k h1 h2 => (hb.block k (A0 h1 h.fr.size)).trans (h.fr.block k h1 h2)⟩, fun id o hid hH => ?_, fun id id' o o' g h1 h2 h3 h4 h5 h6 => ?_, fun id o g hid hH he => ?_⟩, hext⟩
  · rcases hid with hid | ⟨h1, h2⟩
    · rw [hM id hid]
      have h3 := h.obj id o hid hH
      exact h3.ext hext (fun k hk => hb.block k (h3.lt k hk))
    · exact ho hext id o h1 h2 hH
  · rcases h1 with h1 | h1 <;> rcases h2 with h2 | h2
    · exact h.inj id id' o o' g h1 h2 h3 h4 ((hM id h1).symm.trans h5) ((hM id' h2).symm.trans h6)
    · have k1 := hn id' o' h2.1 h2.2 h4 g h6
      have k2 := (h.obj id o h1 h3).lt g ((hM id h1).symm.trans h5)
      simp only at k2
      omega
    · have k1 := hn id o h1.1 h1.2 h3 g h5
      have k2 := (h.obj id' o' h2 h4).lt g ((hM id' h2).symm.trans h6)
      simp only at k2
      omega
    · exact hinj id id' o o' g h1.1 h1.2 h2.1 h2.2 h3 h4 h5 h6
  · rcases hid with hid | ⟨h1, h2⟩
    · exact h.lo id o g hid hH ((hM id hid).symm.trans he)
    · have := hn id o h1 h2 hH g he
      have := h.fr.size
      exact .inl aA
end
def lk:List (Nat × AObj)->Nat->Option AObj
 | [],_=>none
 | p::r,k=>match Nat.beq p.1 k with|true=>p.2.live|false=>lk r k
def lkE:List (Nat × AV)->Nat->Option AV
 | [],_=>none
 | (i,v)::r,k=>match Nat.beq i k with|true=>some v|false=>lkE r k
def evA (env:List (Nat × AV)):Operand->Option AV
 | .tmp t=>lkE env t
 | .const x=>some (.c (.v x))
 | .global _=>none
 | .func f=>some (.fn f [])
theorem bJ (i : Nat) (o : AObj) (h : List (Nat × AObj)) (k : Nat) : lk ((i, o) :: h) k = if i = k then o.live else lk h k := by
  by_cases hk : i = k
  · subst hk; simp [lk, B7]
  · have : Nat.beq i k = false := by
      cases h : Nat.beq i k with
      | false => rfl
      | true => exact absurd (Ac h) hk
    simp only [lk]; rw [this]; simp [hk]
theorem dX (i : Nat) (o : AV) (h : List (Nat × AV)) (k : Nat) : lkE ((i, o) :: h) k = if i = k then some o else lkE h k := by
  by_cases hk : i = k
  · subst hk; simp [lkE, B7]
  · have : Nat.beq i k = false := by
      cases h : Nat.beq i k with
      | false => rfl
      | true => exact absurd (Ac h) hk
    simp only [lkE]; rw [this]; simp [hk]
end
section
inductive TK where
 | bool|int (k:IntKind)|str|ptr|slice (e:TypeId)|array (n:Nat) (e:TypeId)|struct (fs:List (Nat × TypeId))|map (k e:TypeId)|func|iface|other
def xV:TypeDesc->TK
 | .bool => .bool
 | .int k => .int k
 | .string => .str
 | .pointer _ => .ptr
 | .slice e => .slice e
 | .array n e => .array n e
 | .struct fs => .struct (fs.toList.map fun f=>(f.offset,f.type))
 | .map k e => .map k e
 | .func .. => .func
 | .interface _ => .iface
 | _ => .other
def TK.agg:TK->Bool
 | .struct _ | .array _ _=>true
 | _=>false
structure TyE where
 size:Nat
 bytes:Nat
 kind:TK
 zero:List Value
def TyOk (P:Program) (t:TypeId) (e:TyE):Prop :=
 (P.info? t).map (fun i=>(i.size,i.bytes,i.zero.map (·.cells.toList)))=some (e.size,e.bytes,some e.zero)/\(P.underlying t).map xV=some e.kind
abbrev Tab:=List (TypeId × TyE)
def bF (P:Program):Tab->Prop
 | []=>True
 | x::r=>TyOk P x.1 x.2/\bF P r
def aP:Tab->TypeId->Option TyE
 | [],_=>none
 | (i,e)::r,k=>match Nat.beq i k with|true=>some e|false=>aP r k
theorem aK {P:Program} {t:TypeId} {e:TyE}:∀{tab:Tab},bF P tab->aP tab t=some e->TyOk P t e
 | [],_,h=>by cases h
 | x::r,ht,h=>by
  unfold aP at h
  split at h
  ·rename_i he;injection h with h;subst h;rw [<- Ac he];exact ht.1
  ·exact aK ht.2 h
section Ty
variable {P:Program} {t:TypeId} {e:TyE}
section
variable (h:TyOk P t e)
include h
theorem TyOk.parts:∃i,P.info? t=some i/\i.size=e.size/\i.bytes=e.bytes/\∃z,i.zero=some z/\z.cells.toList=e.zero:=by
 obtain ⟨h1,_⟩:=h
 obtain ⟨i,hi,he⟩:=As.1 h1
 simp only [Prod.mk.injEq] at he
 obtain ⟨z,hz,he2⟩:=As.1 he.2.2
 exact ⟨i,hi,he.1,he.2.1,z,hz,he2⟩
theorem TyOk.sizeOf (w:World):(sizeOf t).run P w = .ok e.size w:=by
 obtain ⟨i,hi,hs,_⟩:=h.parts
 simp [Go.sizeOf,typeInfo,hi,hs]
theorem TyOk.und:∃d,P.underlying t=some d/\xV d=e.kind:=by
 obtain ⟨_,h2⟩:=h
 exact As.1 h2
theorem TyOk.isAgg (w:World):(isAgg t).run P w = .ok e.kind.agg w:=by
 obtain ⟨d,hd,hk⟩:=h.und
 unfold Go.isAgg
 rw [Sem.run_bind,run_underlying hd w,<- hk]
 cases d<;>simp [xV,TK.agg]
theorem TyOk.slice {x:TypeId} (hk:e.kind = .slice x):P.underlying t=some (.slice x):=by
 obtain ⟨d,hd,hk'⟩:=h.und
 rw [hk] at hk'
 cases d<;>simp [xV] at hk'
 subst hk';exact hd
theorem TyOk.array {n:Nat} {x:TypeId} (hk:e.kind = .array n x):P.underlying t=some (.array n x):=by
 obtain ⟨d,hd,hk'⟩:=h.und
 rw [hk] at hk'
 cases d<;>simp [xV] at hk'
 obtain ⟨rfl,rfl⟩:=hk';exact hd
theorem TyOk.struct {fs:List (Nat × TypeId)} (hk:e.kind = .struct fs):∃fields:Array Field,P.underlying t=some (.struct fields)/\fields.toList.map (fun f=>(f.offset,f.type))=fs:=by
 obtain ⟨d,hd,hk'⟩:=h.und
 rw [hk] at hk'
 cases d<;>simp [xV] at hk'
 exact ⟨_,hd,hk'⟩
theorem TyOk.int {k:IntKind} (hk:e.kind = .int k):P.underlying t=some (.int k):=by
 obtain ⟨d,hd,hk'⟩:=h.und
 rw [hk] at hk'
 cases d<;>simp [xV] at hk'
 subst hk';exact hd
theorem TyOk.str (hk:e.kind = .str):P.underlying t=some .string:=by
 obtain ⟨d,hd,hk'⟩:=h.und
 rw [hk] at hk'
 cases d<;>simp [xV] at hk'
 exact hd
theorem TyOk.bool (hk:e.kind = .bool):P.underlying t=some .bool:=by
 obtain ⟨d,hd,hk'⟩:=h.und
 rw [hk] at hk'
 cases d<;>simp [xV] at hk'
 exact hd
theorem TyOk.field {fs:List (Nat × TypeId)} (hk:e.kind = .struct fs) {f off:Nat} {ft:TypeId} (hf:fs[f]? = some (off,ft)):∃(fields:Array Field) (fd:Field),P.underlying t=some (.struct fields)/\fields[f]? = some fd/\fd.offset=off/\fd.type=ft:=by
 obtain ⟨fields,h1,h2⟩:=h.struct hk
 rw [<- h2,BS] at hf
 obtain ⟨fd,h3,h4⟩:=As.1 hf
 simp only [Prod.mk.injEq] at h4
 exact ⟨fields,fd,h1,by simpa using h3,h4.1,h4.2⟩
end
end Ty
theorem fX (b o j:Nat):(⟨b,o,none⟩:Addr).add j=⟨b,o+j,none⟩:=by
 unfold Addr.add;split<;>simp_all
abbrev Env:=List (Nat × AV)
abbrev aL:=List (Nat × AObj)
abbrev Evl:=Operand->Option AV
def Adds (P:Program) (o:Oper) (ev:Evl) (h:aL) (v:AV) (Δ : aL) (i j:Nat):Prop :=
 ∀(B:Bs) (dom:Nat->Prop) (M:Nat->Option Nat) (H:Nat->Option AObj) (w:World) (a:Act) (K:Act->World->Prop) (Q:Exit->Act->World->Prop),
  (∀id o,lk h id=some o->dom id->H id=some o)->(∀id,i<=id->id<j->¬dom id/\H id=lk Δ id) ->
  ConcH B dom M H w->(∀x av,ev x=some av->Rep ⟨dom,M,aU B dom M H,w⟩ av (a.eval x)) ->
  (∀u w' M',Ext ⟨dom,M,aU B dom M H,w⟩ ⟨ad dom i j,M',aU B (ad dom i j) M' H,w'⟩->ConcH B (ad dom i j) M' H w'->Rep ⟨ad dom i j,M',aU B (ad dom i j) M' H,w'⟩ v u->K (a.put o.dst u) w') ->
  o.wp P a w K Q
def Still (P:Program) (o:Oper) (ev:Evl) (h:aL) (v:AV):Prop :=
 ∀(B:Bs) (dom:Nat->Prop) (M:Nat->Option Nat) (H:Nat->Option AObj) (w:World) (a:Act),
  (∀id o,lk h id=some o->dom id->H id=some o)->ConcH B dom M H w->(∀x av,ev x=some av->Rep ⟨dom,M,aU B dom M H,w⟩ av (a.eval x)) ->
  ∃u,(execOp a.eval o).run P w = .ok (.value u) w/\Rep ⟨dom,M,aU B dom M H,w⟩ v u
theorem dF (dom:Nat->Prop) (i:Nat):ad dom i i=dom:=by
 funext id
 simp only [ad,Bu]
 exact ⟨fun h=>h.elim (fun h=>h) (fun h=>by omega),.inl⟩
section
variable {P:Program} {o:Oper} {ev:Evl} {h:aL} {v:AV} {i:Nat}
theorem Still.adds (hs:Still P o ev h v):Adds P o ev h v [] i i:=by
 intro B dom M H w a K Q hh _ hc he hK
 obtain ⟨u,hr,hv⟩:=hs B dom M H w a hh hc he
 unfold Oper.wp
 rw [hr]
 simp only [Oper.upon]
 refine hK u w M ?_ ?_ ?_<;>rw [dF]
 ·exact Ext.refl _
 ·exact hc
 ·exact hv
theorem gF {obj : AObj} (hlv : obj.live = some obj) (hrun : ∀ (B : Bs) (dom : Nat -> Prop) (M : Nat -> Option Nat) (H : Nat -> Option AObj) (w : World) (a : Act),
    (∀ id o, lk h id = some o -> dom id -> H id = some o) -> ConcH B dom M H w -> (∀ x av, ev x = some av -> Rep ⟨dom, M, aU B dom M H, w⟩ av (a.eval x)) ->
    ∃ u w' m, (execOp a.eval o).run P w = .ok (.value u) w' /\ Below w.heap.size w w' /\ (∀ g, m = some g -> w.heap.size <= g) /\
      (∀ C, Ext ⟨dom, M, aU B dom M H, w⟩ C -> C.w = w' -> C.dom i -> C.M i = m -> ObjRep C m obj /\ Rep C v u)) : Adds P o ev h v [(i, obj)] i (i + 1) := by
  intro B dom M H w a K Q hh hn hc he hK
  obtain ⟨u, w', m, hr, hb, hm, hv⟩ := hrun B dom M H w a hh hc he
  unfold Oper.wp
  rw [hr]
  simp only [Oper.upon]
  have hi := hn i (Ae _) (Bj _)
  have e1 : H i = some obj := by rw [hi.2, bJ, Aj rfl, hlv]
  let M' : Nat -> Option Nat := fun id => if id = i then m else M id
  have hM' : M' i = m := by simp [M']
  have hg := hc.grow hb i (i + 1) (M' := M') (fun id hid => by
      have : id ≠ i := fun e => hi.1 (e ▸ hid)
      simp [M', this]) (fun id h1 h2 => (hn id h1 h2).1)
    (fun id o h1 h2 h3 g hg => by
      obtain rfl : id = i := by omega
      rw [hM'] at hg
      exact hm g hg)
    (fun id id' o o' g h1 h2 h3 h4 => fun _ _ _ _ => by omega)
    (fun hext id o h1 h2 h3 => by
      obtain rfl : id = i := by omega
      rw [e1] at h3
      injection h3 with h3
      subst h3
      rw [hM']
      exact (hv _ hext rfl (.inr ⟨h1, h2⟩) hM').1)
  exact hK u w' M' hg.2 hg.1 (hv _ hg.2 rfl (.inr ⟨Ae _, Bj _⟩) hM').2
end
section ops
variable {P:Program} {tab:Tab} {ev:Evl} {h:aL} {d:Option Tmp} {T ty:TypeId} {x y z:Operand} {pos:String} {aft:Array Edge} {gd:Option (Nat × Bool)} {i:Nat}
theorem oQ {v:AV} (hx:ev x=some v):Still P ⟨d,.move x,ty,pos,aft,gd⟩ ev h v:=by
 intro B dom M H w a hh hc he
 exact ⟨a.eval x,by simp [execOp],he x v hx⟩
theorem xC {v:AV} (hx:ev x=some v):Still P ⟨d,.assign x,ty,pos,aft,gd⟩ ev h v:=by
 intro B dom M H w a hh hc he
 exact ⟨a.eval x,by simp [execOp],he x v hx⟩
theorem uL {v:AV} (hc0:ev z=some (.c (.v (.bool true)))) (hx:ev x=some v):Still P ⟨d,.pick z x y,ty,pos,aft,gd⟩ ev h v:=by
 intro B dom M H w a hh hc he
 have h0:=he z _ hc0
 simp only [Rep,RepC] at h0
 exact ⟨a.eval x,by simp [execOp,h0,asBool],he x v hx⟩
theorem uK {v:AV} (hc0:ev z=some (.c (.v (.bool false)))) (hy:ev y=some v):Still P ⟨d,.pick z x y,ty,pos,aft,gd⟩ ev h v:=by
 intro B dom M H w a hh hc he
 have h0:=he z _ hc0
 simp only [Rep,RepC] at h0
 exact ⟨a.eval y,by simp [execOp,h0,asBool],he y v hy⟩
section
variable {B : Bs} {dom : Nat -> Prop} {M : Nat -> Option Nat} {H : Nat -> Option AObj} {w : World} (hh : ∀ id o, lk h id = some o -> dom id -> H id = some o) (hc : ConcH B dom M H w) {id g : Nat}
include B dom M H w hh hc id g
theorem gD{T : TypeId} {cs : List AV}
    (ho : lk h id = some (.blk T cs)) (hd : dom id) (hM : M id = some g) : ∃ us, w.heap[g]? = some (.cells us.toArray T (0, 0)) /\ RepL ⟨dom, M, aU B dom M H, w⟩ cs us := by
  obtain ⟨k, us, h1, h2, h3⟩ := hc.obj id _ hd (hh id _ ho hd)
  rw [hM] at h1
  injection h1 with h1
  subst h1
  exact ⟨us, h2, h3⟩
theorem eQ{T : TypeId} {cs : List CV}
    (ho : lk h id = some (.row T cs)) (hd : dom id) (hM : M id = some g) : ∃ us vs, w.heap[g]? = some (.cells (us ++ vs).toArray T (0, 0)) /\ RepCs (aU B dom M H) w cs us /\ ∀ u ∈ us, u.oneCell' = true := by
  rcases hc.obj id _ hd (hh id _ ho hd) with ⟨h1, _⟩ | ⟨k, us, vs, h1, h2, h3, h4⟩
  · rw [hM] at h1; cases h1
  · rw [hM] at h1
    injection h1 with h1
    subst h1
    exact ⟨us, vs, h2, h3, h4⟩
end
theorem lV {w:World} {g:Nat} {us:List Value} {T:TypeId} {fz:Nat × Nat} (h:w.heap[g]? = some (.cells us.toArray T fz)) (off:Nat):w.cell? ⟨g,off,none⟩=us[off]? := by
 simp [World.cell?,h]
theorem gY {w:World} {g:Nat} {us vs:List Value} {T:TypeId} {fz:Nat × Nat} (h:w.heap[g]? = some (.cells (us++vs).toArray T fz)) {off:Nat} {u:Value} (hu:us[off]? = some u):w.cell? ⟨g,off,none⟩=some u:=by
 rw [lV h,AE (Ad.1 hu).1]
 exact hu
theorem pH {w:World} {e:TyE} (hT:TyOk P T e) (hk:e.kind.agg=false) {p:Addr} {u:Value} (hp:w.cell? p=some u):(loadVar T p).run P w = .ok u w:=by
 have ha:=hT.isAgg w
 simp [loadVar,Sem.run_bind,ha,hk,hp]
theorem mJ {w:World} {e:TyE} (hT:TyOk P T e) (hk:e.kind.agg=true) {g off:Nat} {us:List Value} (hl:us.length=e.size) (hp:∀j u,us[j]? = some u->w.cell? ⟨g,off+j,none⟩=some u):(loadVar T ⟨g,off,none⟩).run P w = .ok (.agg us.toArray) w:=by
 have ha:=hT.isAgg w
 have hs:=hT.sizeOf w
 have:=run_loadCells_list (P:=P) w ⟨g,off,none⟩ us (fun j v hj=>by rw [fX];exact hp j v hj)
 rw [hl] at this
 simp [loadVar,Sem.run_bind,ha,hk,hs,this]
section
variable (tb : bF P tab) {e : TyE} (hT : aP tab T = some e) (hk : e.kind.agg = false)
include tb e hT hk
theorem jN {id off : Nat} {T' : TypeId} {cs : List AV} {v : AV} (hx : ev x = some (.ref id off)) (ho : lk h id = some (.blk T' cs)) (hv : cs[off]? = some v) :
    Still P ⟨d, .load T x, ty, pos, aft, gd⟩ ev h v := by
  intro B dom M H w a hh hc he
  have hp := he x _ hx
  simp only [Rep] at hp
  obtain ⟨hd, g, hM, hp⟩ := hp
  obtain ⟨us, h2, h3⟩ := gD hh hc ho hd hM
  obtain ⟨u, hu, hr⟩ := h3.get hv
  refine ⟨u, ?_, hr⟩
  have := pH (P := P) (w := w) (aK tb hT) hk (p := ⟨g, off, none⟩) (by rw [lV h2]; exact hu)
  simp [execOp, hp, Instr.loadAt, Instr.sureAddr, this]
theorem iD {id off : Nat} {T' : TypeId} {cs : List CV} {v : CV} (hx : ev x = some (.ref id off)) (ho : lk h id = some (.row T' cs)) (hv : cs[off]? = some v) :
    Still P ⟨d, .load T x, ty, pos, aft, gd⟩ ev h (.c v) := by
  intro B dom M H w a hh hc he
  have hp := he x _ hx
  simp only [Rep] at hp
  obtain ⟨hd, g, hM, hp⟩ := hp
  obtain ⟨us, vs, h2, h3, h30⟩ := eQ hh hc ho hd hM
  obtain ⟨u, hu, hr⟩ := h3.get hv
  refine ⟨u, ?_, hr⟩
  have := pH (P := P) (w := w) (aK tb hT) hk (p := ⟨g, off, none⟩) (gY h2 hu)
  simp [execOp, hp, Instr.loadAt, Instr.sureAddr, this]
theorem iC {off : Nat} {cs : List CV} {v : CV} (hx : ev x = some (.ip cs off)) (hv : cs[off]? = some v) :
    Still P ⟨d, .load T x, ty, pos, aft, gd⟩ ev h (.c v) := by
  intro B dom M H w a hh hc he
  have hp := he x _ hx
  simp only [Rep] at hp
  obtain ⟨b, o, us, hp, h2, h3, h4, h40, h5⟩ := hp
  obtain ⟨u, hu, hr⟩ := h4.get hv
  refine ⟨u, ?_, hr⟩
  have := pH (P := P) (w := w) (aK tb hT) hk (p := ⟨b, o + off, none⟩) (h5 off u hu)
  simp [execOp, hp, Instr.loadAt, Instr.sureAddr, this]
end
def nL:List AV->Option (List CV)
 | []=>some []
 | .c x::r=>match nL r with|some cs=>some (x::cs)|none=>none
 | _::_=>none
theorem aU0:∀{xs:List AV} {cs:List CV},nL xs=some cs->xs=cs.map AV.c
 | [],cs,h=>by simp [nL] at h;subst h;rfl
 | .c x::r,cs,h=>by
  simp only [nL] at h
  split at h
  ·rename_i cs' h';injection h with h;subst h;rw [aU0 h'];rfl
  ·cases h
 | .ref .. :: r,cs,h=>by simp [nL] at h
 | .own .. :: r,cs,h=>by simp [nL] at h
 | .ip .. :: r,cs,h=>by simp [nL] at h
 | .agg .. :: r,cs,h=>by simp [nL] at h
 | .tup .. :: r,cs,h=>by simp [nL] at h
 | .fn .. :: r,cs,h=>by simp [nL] at h
 | .yld .. :: r,cs,h=>by simp [nL] at h
 | .mh .. :: r,cs,h=>by simp [nL] at h
 | .bm .. :: r,cs,h=>by simp [nL] at h
 | .junk::r,cs,h=>by simp [nL] at h
inductive IsAgg:List AV->AV->Prop
 | closed {xs:List AV} {cs:List CV} (h:nL xs=some cs) (h1:xs.all AV.one=true):IsAgg xs (.c (.agg cs))
 | mixed (xs:List AV):IsAgg xs (.agg xs)
theorem IsAgg.rep {C:Cx} {xs:List AV} {v:AV} (h:IsAgg xs v) {us:List Value} (hr:RepL C xs us):Rep C v (.agg us.toArray):=by
 cases h with
 | closed h h1 =>
  have h2:=hr.one h1
  rw [aU0 h] at hr;exact ⟨us,rfl,hr.toC,h2⟩
 | mixed=>exact ⟨us,rfl,hr⟩
inductive Parts:AV->List AV->Prop
 | closed (cs:List CV):Parts (.c (.agg cs)) (cs.map AV.c)
 | mixed (xs:List AV):Parts (.agg xs) xs
theorem Parts.rep {C:Cx} {xs:List AV} {v:AV} (h:Parts v xs) {u:Value} (hr:Rep C v u):∃us,u = .agg us.toArray/\RepL C xs us:=by
 cases h with
 | closed cs=>obtain ⟨us,h1,h2,_⟩:=hr;exact ⟨us,h1,RepL.ofC h2⟩
 | mixed=>exact hr
section
variable (tb : bF P tab) {e : TyE} (hT : aP tab T = some e) (hk : e.kind.agg = true)
include tb e hT hk
theorem aD7 {id off : Nat} {T' : TypeId} {cs xs : List AV} {v : AV} (hx : ev x = some (.ref id off)) (ho : lk h id = some (.blk T' cs)) (hxs : (cs.drop off).take e.size = xs) (hl : xs.length = e.size) (hv : IsAgg xs v) :
    Still P ⟨d, .load T x, ty, pos, aft, gd⟩ ev h v := by
  intro B dom M H w a hh hc he
  have hp := he x _ hx
  simp only [Rep] at hp
  obtain ⟨hd, g, hM, hp⟩ := hp
  obtain ⟨us, h2, h3⟩ := gD hh hc ho hd hM
  have h4 := (h3.drop off).take e.size
  rw [hxs] at h4
  refine ⟨.agg ((us.drop off).take e.size).toArray, ?_, hv.rep h4⟩
  have := mJ (P := P) (w := w) (aK tb hT) hk (g := g) (off := off) (us := (us.drop off).take e.size) (by rw [h4.length, hl]) (fun j u hj => by
    rw [lV h2]
    have hjk : j < e.size := by
      rcases A7 j e.size with h1 | h1
      · exact h1
      · rw [AJ nU] at hj; cases hj
    rwa [AZ hjk, AS] at hj)
  simp [execOp, hp, Instr.loadAt, Instr.sureAddr, this]
theorem iF {id off : Nat} {T' : TypeId} {cs xs : List CV} (hx : ev x = some (.ref id off)) (ho : lk h id = some (.row T' cs)) (hxs : (cs.drop off).take e.size = xs) (hl : xs.length = e.size) :
    Still P ⟨d, .load T x, ty, pos, aft, gd⟩ ev h (.c (.agg xs)) := by
  intro B dom M H w a hh hc he
  have hp := he x _ hx
  simp only [Rep] at hp
  obtain ⟨hd, g, hM, hp⟩ := hp
  obtain ⟨us, vs, h2, h3, h30⟩ := eQ hh hc ho hd hM
  have h4 := (h3.drop off).take e.size
  rw [hxs] at h4
  refine ⟨.agg ((us.drop off).take e.size).toArray, ?_, _, rfl, h4, fun u hu => h30 u (AT (AL hu))⟩
  have := mJ (P := P) (w := w) (aK tb hT) hk (g := g) (off := off) (us := (us.drop off).take e.size) (by rw [h4.length, hl]) (fun j u hj => by
    have hjk : j < e.size := by
      rcases A7 j e.size with h1 | h1
      · exact h1
      · rw [AJ nU] at hj; cases hj
    rw [AZ hjk, AS] at hj
    exact gY h2 hj)
  simp [execOp, hp, Instr.loadAt, Instr.sureAddr, this]
theorem iE {off : Nat} {cs xs : List CV} (hx : ev x = some (.ip cs off)) (hxs : (cs.drop off).take e.size = xs) (hl : xs.length = e.size) :
    Still P ⟨d, .load T x, ty, pos, aft, gd⟩ ev h (.c (.agg xs)) := by
  intro B dom M H w a hh hc he
  have hp := he x _ hx
  simp only [Rep] at hp
  obtain ⟨b, o, us, hp, h2, h3, h4, h40, h5⟩ := hp
  have h6 := (h4.drop off).take e.size
  rw [hxs] at h6
  refine ⟨.agg ((us.drop off).take e.size).toArray, ?_, _, rfl, h6, fun u hu => h40 u (AT (AL hu))⟩
  have := mJ (P := P) (w := w) (aK tb hT) hk (g := b) (off := o + off) (us := (us.drop off).take e.size) (by rw [h6.length, hl]) (fun j u hj => by
    have hjk : j < e.size := by
      rcases A7 j e.size with h1 | h1
      · exact h1
      · rw [AJ nU] at hj; cases hj
    rw [AZ hjk, AS] at hj
    rw [BW]
    exact h5 _ u hj)
  simp [execOp, hp, Instr.loadAt, Instr.sureAddr, this]
end
section
variable (tb : bF P tab) {e e' : TyE} {fs : List (Nat × TypeId)} (hT : aP tab T = some e) (hk : e.kind = .struct fs) {f fo : Nat} {ft : TypeId} (hf : fs[f]? = some (fo, ft)) (hft : aP tab ft = some e') (hpos : Nat.beq e'.size 0 = false)
include tb e e' fs hT hk f fo ft hf hft hpos
theorem fK {id off : Nat} (hx : ev x = some (.ref id off)) :
    Still P ⟨d, .fieldAddr T x f, ty, pos, aft, gd⟩ ev h (.ref id (off + fo)) := by
  intro B dom M H w a hh hc he
  have hp := he x _ hx
  simp only [Rep] at hp
  obtain ⟨hd, g, hM, hp⟩ := hp
  obtain ⟨fields, fd, h1, h2, h3, h4⟩ := (aK tb hT).field hk hf
  refine ⟨.pointer (some ⟨g, off + fo, none⟩), ?_, hd, g, hM, rfl⟩
  have hsz : ¬ e'.size = 0 := fun h0 => by rw [h0] at hpos; cases hpos
  subst h3 h4
  have hs := (aK tb hft).sizeOf w
  simp [execOp, Instr.fieldAt, Sem.run_bind, run_underlying h1, h2, hp, Instr.sureAddr, fieldPlace, hs, hsz, fX]
theorem mX {cs : List CV} {off : Nat} (hx : ev x = some (.ip cs off)) :
    Still P ⟨d, .fieldAddr T x f, ty, pos, aft, gd⟩ ev h (.ip cs (off + fo)) := by
  intro B dom M H w a hh hc he
  have hp := he x _ hx
  simp only [Rep] at hp
  obtain ⟨b, o, us, hp, h2', h3', h4', h6', h5'⟩ := hp
  obtain ⟨fields, fd, h1, h2, h3, h4⟩ := (aK tb hT).field hk hf
  refine ⟨.pointer (some ⟨b, o + (off + fo), none⟩), ?_, b, o, us, rfl, h2', h3', h4', h6', h5'⟩
  have hsz : ¬ e'.size = 0 := fun h0 => by rw [h0] at hpos; cases hpos
  subst h3 h4
  have hs := (aK tb hft).sizeOf w
  simp [execOp, Instr.fieldAt, Sem.run_bind, run_underlying h1, h2, hp, Instr.sureAddr, fieldPlace, hs, hsz, fX, BW]
end
theorem sS {xs:List AV} {k:Nat} {u:AV} (hx:ev x=some (.tup xs)) (hu:xs[k]? = some u):Still P ⟨d,.extract x k,ty,pos,aft,gd⟩ ev h u:=by
 intro B dom M H w a hh hc he
 have hp:=he x _ hx
 simp only [Rep] at hp
 obtain ⟨us,h1,h2⟩:=hp
 obtain ⟨u',hu',hr⟩:=h2.get hu
 refine ⟨u',?_,hr⟩
 simp [execOp,Instr.extract,h1,hu']
theorem eY {C:Cx} {a:Act} (he:∀x av,ev x=some av->Rep C av (a.eval x)):∀{xs:List Operand} {vs:List AV},xs.map ev=vs.map some->RepL C vs (xs.map a.eval)
 | [],vs,h=>by cases vs with|nil=>simp [RepL]|cons v vs=>simp at h
 | x::xs,vs,h=>by
  cases vs with
  | nil=>simp at h
  | cons v vs =>
   simp only [AD,List.cons.injEq] at h
   exact ⟨_,_,rfl,he x v h.1,eY he h.2⟩
def nA (ev:Evl):List Operand->Option (List AV)
 | []=>some []
 | x::r=>match ev x with
  | some v=>match nA ev r with|some vs=>some (v::vs)|none=>none
  | none=>none
theorem kN:∀{xs:List Operand} {vs:List AV},nA ev xs=some vs->xs.map ev=vs.map some
 | [],vs,h=>by simp [nA] at h;subst h;rfl
 | x::r,vs,h=>by
  simp only [nA] at h
  split at h
  ·rename_i v hv
   split at h
   ·rename_i ws hw
    injection h with h;subst h
    simp [hv,kN hw]
   ·cases h
  ·cases h
def dO (ev:Evl):List Operand->Option (List CV)
 | []=>some []
 | x::r=>match ev x with
  | some (.c v)=>match dO ev r with|some vs=>some (v::vs)|none=>none
  | _=>none
theorem uR:∀{xs:List Operand} {vs:List CV},dO ev xs=some vs->xs.map ev=vs.map (fun c=>some (AV.c c))
 | [],vs,h=>by simp [dO] at h;subst h;rfl
 | x::r,vs,h=>by
  simp only [dO] at h
  split at h
  ·rename_i v hv
   split at h
   ·rename_i ws hw
    injection h with h;subst h
    simp [hv,uR hw]
   ·cases h
  ·cases h
theorem qJ {f:FuncId} {caps:List Operand} {vs:List AV} (hx:nA ev caps=some vs):Still P ⟨d,.makeFunc (.func f) #[] caps.toArray,ty,pos,aft,gd⟩ ev h (.fn f vs):=by
 intro B dom M H w a hh hc he
 refine ⟨.func (.func f) #[] (caps.map a.eval).toArray,?_,_,rfl,eY he (kN hx)⟩
 simp [execOp,Instr.makeFunc]
theorem gP {id off:Nat} (hx:ev x=some (.ref id off)):Still P ⟨d,.nilCheck x,ty,pos,aft,gd⟩ ev h (.ref id off):=by
 intro B dom M H w a hh hc he
 have hp:=he x _ hx
 refine ⟨a.eval x,?_,hp⟩
 simp only [Rep] at hp
 obtain ⟨hd,g,hM,hp⟩:=hp
 simp [execOp,hp]
theorem kF {op : BinOp} {T' : TypeId} {p q r : Value} (hx : ev x = some (.c (.v p))) (hy : ev y = some (.c (.v q))) (hg : ∀ w, (eqGuard op T x y p q).run P w = .ok () w) (hrun : ∀ w, (binOp op T p q).run P w = .ok r w) :
    Still P ⟨d, .binOp op T x y T', ty, pos, aft, gd⟩ ev h (.c (.v r)) := by
  intro B dom M H w a hh hc he
  have h1 := he x _ hx
  have h2 := he y _ hy
  simp only [Rep, RepC] at h1 h2
  refine ⟨r, ?_, rfl⟩
  simp [execOp, h1, h2, hg, hrun]
theorem dU {op:BinOp} {k k':IntKind} {m n:Int} (w:World):(eqGuard op T x y (.int k m) (.int k' n)).run P w = .ok () w:=by
 cases op<;>simp [eqGuard]
theorem bF9 {op:BinOp} {m n:ByteArray} (w:World):(eqGuard op T x y (.string m) (.string n)).run P w = .ok () w:=by
 cases op<;>simp [eqGuard]
section ints
variable {T':TypeId} {k:IntKind} {m n r:Int} {b:Bool} (hx:ev x=some (.c (.v (.int k m)))) (hy:ev y=some (.c (.v (.int k n))))
include hx hy
theorem cX9 (hr:k.wrap (m+n)=r):Still P ⟨d,.binOp .add T x y T',ty,pos,aft,gd⟩ ev h (.c (.v (.int k r))):=kF hx hy dU (fun w=>by simp [binOp,Op.intArith,hr])
theorem cY3 (hr:k.wrap (m-n)=r):Still P ⟨d,.binOp .sub T x y T',ty,pos,aft,gd⟩ ev h (.c (.v (.int k r))):=kF hx hy dU (fun w=>by simp [binOp,Op.intArith,hr])
theorem cY0 (hr:k.wrap (m*n)=r):Still P ⟨d,.binOp .mul T x y T',ty,pos,aft,gd⟩ ev h (.c (.v (.int k r))):=kF hx hy dU (fun w=>by simp [binOp,Op.intArith,hr])
theorem zO (h0:n≠0) (hr:m.tmod n=r):Still P ⟨d,.binOp .rem T x y T',ty,pos,aft,gd⟩ ev h (.c (.v (.int k r))):=kF hx hy dU (fun w=>by simp [binOp,Op.intDiv,hr,h0])
theorem zM (hr:k.wrap (BitVec.ofInt k.bits m &&& BitVec.ofInt k.bits n).toNat=r):Still P ⟨d,.binOp .and T x y T',ty,pos,aft,gd⟩ ev h (.c (.v (.int k r))):=kF hx hy dU (fun w=>by subst hr;simp [binOp,Op.intBits])
theorem bI0 (hr:k.wrap (BitVec.ofInt k.bits m ||| BitVec.ofInt k.bits n).toNat=r):Still P ⟨d,.binOp .or T x y T',ty,pos,aft,gd⟩ ev h (.c (.v (.int k r))):=kF hx hy dU (fun w=>by subst hr;simp [binOp,Op.intBits])
theorem bA9 (hr:k.wrap (BitVec.ofInt k.bits m ^^^ BitVec.ofInt k.bits n).toNat=r):Still P ⟨d,.binOp .xor T x y T',ty,pos,aft,gd⟩ ev h (.c (.v (.int k r))):=kF hx hy dU (fun w=>by subst hr;simp [binOp,Op.intBits])
theorem dN3 (hr:decide (m=n)=b):Still P ⟨d,.binOp .eql T x y T',ty,pos,aft,gd⟩ ev h (.c (.v (.bool b))):=kF hx hy dU (fun w=>by subst hr;simp [binOp,Op.intCmp];rfl)
theorem dN8 (hr:decide (m≠n)=b):Still P ⟨d,.binOp .neq T x y T',ty,pos,aft,gd⟩ ev h (.c (.v (.bool b))):=kF hx hy dU (fun w=>by subst hr;simp [binOp,Op.intCmp,bne];rfl)
theorem dN7 (hr:decide (m<n)=b):Still P ⟨d,.binOp .lss T x y T',ty,pos,aft,gd⟩ ev h (.c (.v (.bool b))):=kF hx hy dU (fun w=>by subst hr;simp [binOp,Op.intCmp])
theorem dN6 (hr:decide (m<=n)=b):Still P ⟨d,.binOp .leq T x y T',ty,pos,aft,gd⟩ ev h (.c (.v (.bool b))):=kF hx hy dU (fun w=>by subst hr;simp [binOp,Op.intCmp])
theorem dN5 (hr:decide (n<m)=b):Still P ⟨d,.binOp .gtr T x y T',ty,pos,aft,gd⟩ ev h (.c (.v (.bool b))):=kF hx hy dU (fun w=>by subst hr;simp [binOp,Op.intCmp])
theorem dN4 (hr:decide (n<=m)=b):Still P ⟨d,.binOp .geq T x y T',ty,pos,aft,gd⟩ ev h (.c (.v (.bool b))):=kF hx hy dU (fun w=>by subst hr;simp [binOp,Op.intCmp])
end ints
section
variable {T' : TypeId} {k k' : IntKind} {m n r : Int} (hx : ev x = some (.c (.v (.int k m)))) (hy : ev y = some (.c (.v (.int k' n)))) (h0 : 0 <= n)
include T' k k' m n r hx hy h0
theorem aK8 (hr : k.wrap (m * 2 ^ (min n.toNat k.bits)) = r) : Still P ⟨d, .binOp .shl T x y T', ty, pos, aft, gd⟩ ev h (.c (.v (.int k r))) :=
  kF hx hy dU (fun w => by have : ¬ n < 0 := by omega
                           subst hr; simp [binOp, Op.shift, this])
theorem aK9 (hr : m.fdiv (2 ^ (min n.toNat k.bits)) = r) : Still P ⟨d, .binOp .shr T x y T', ty, pos, aft, gd⟩ ev h (.c (.v (.int k r))) :=
  kF hx hy dU (fun w => by have : ¬ n < 0 := by omega
                           subst hr; simp [binOp, Op.shift, this])
end
theorem dF6 {op:UnOp} {p r:Value} (hx:ev x=some (.c (.v p))) (hrun:∀w,(Op.unary op p).run P w = .ok r w):Still P ⟨d,.unOp op T x,ty,pos,aft,gd⟩ ev h (.c (.v r)):=by
 intro B dom M H w a hh hc he
 have h1:=he x _ hx
 simp only [Rep,RepC] at h1
 exact ⟨r,by simp [execOp,h1,hrun],rfl⟩
theorem bZ6 {b c:Bool} (hx:ev x=some (.c (.v (.bool b)))) (hr:(!b)=c):Still P ⟨d,.unOp .not T x,ty,pos,aft,gd⟩ ev h (.c (.v (.bool c))):=dF6 hx (fun w=>by subst hr;simp [Op.unary])
theorem bZ3 {k:IntKind} {m r:Int} (hx:ev x=some (.c (.v (.int k m)))) (hr:k.wrap (0-m)=r):Still P ⟨d,.unOp .neg T x,ty,pos,aft,gd⟩ ev h (.c (.v (.int k r))):=dF6 hx (fun w=>by subst hr;simp [Op.unary,Op.intArith])
theorem rN {k:IntKind} {m r:Int} (hx:ev x=some (.c (.v (.int k m)))) (hr:k.wrap (BitVec.ofInt k.bits (if k.signed then -1 else k.max) ^^^ BitVec.ofInt k.bits m).toNat=r):Still P ⟨d,.unOp .xor T x,ty,pos,aft,gd⟩ ev h (.c (.v (.int k r))):=dF6 hx (fun w=>by subst hr;simp [Op.unary,Op.intBits])
theorem gU (tb:bF P tab) {S:TypeId} {e es:TyE} {k k':IntKind} {m r:Int} (hS:aP tab S=some es) (hT:aP tab T=some e) (hk:e.kind = .int k) (hx:ev x=some (.c (.v (.int k' m)))) (hr:k.wrap m=r):Still P ⟨d,.convert S T x,ty,pos,aft,gd⟩ ev h (.c (.v (.int k r))):=by
 intro B dom M H w a hh hc he
 have h1:=he x _ hx
 simp only [Rep,RepC] at h1
 refine ⟨.int k r,?_,rfl⟩
 obtain ⟨ds,hds,_⟩:=(aK tb hS).und
 simp [execOp,h1,convert,run_underlying hds,run_underlying ((aK tb hT).int hk),Conv.intToInt,hr]
end ops
end
section
def WF:Option Nat->Fence
 | none=>Fence.wide
 | some l=>Fence.wide.inRound l
def mG (o:Oper):Bool:=match o.op with | .defer _=>false|_=>true
def oN:Code->Bool
 | .seq a b=>oN a&&oN b
 | .cond _ a b=>oN a&&oN b
 | .block _ c=>oN c
 | .loop c=>oN c
 | .region _ ops false=>ops.toList.all mG
 | .region _ ops true=>ops.toList.all mG
 | .skip=>true
 | .ret=>true
 | .exit _=>true
 | _=>false
def wpG (P:Program) (c:Code) (Q:Exit->Act->World->Prop) (a:Act) (w:World):Prop:=∀rd:Option Nat,(rd=none\/oN c=true)->c.wpIn (WF rd) 0 P Q a w
def cQ0 (P:Program) (ops:Array Oper) (Q:Exit->Act->World->Prop) (l:List Oper) (a:Act) (w:World):Prop:=∀rd:Option Nat,(rd=none\/l.all mG=true)->wpListIn (WF rd) 0 P ops Q l a w
theorem bB7 (rd:Option Nat) (f:FuncId):(WF rd).fn f:=by cases rd<;>trivial
theorem cC2 (rd:Option Nat):(WF rd).depth=none:=by cases rd<;>rfl
theorem bB8 {n:Nat} (rd:Option Nat):(WF rd).depth.isSome=true->1<=n:=fun hh=>by simp [cC2] at hh
section
variable {rd:Option Nat} {n:Nat} {P:Program}
include rd n P
theorem bL1 {f:FuncId} {args:Array Value} {w:World} {R:Ending->World->Prop} (h:Calls P f args w R):CallsIn (WF rd) n P f args w R:=by
 have:=callsIn_wide (n:=n).2 h
 cases rd with
 | none=>exact this
 | some l=>exact this
theorem cO2 {row:String} {args:Array Value} {w:World} {R:Value->World->Prop} (h:Rows P row args w R):RowsIn (WF rd) n P row args w R:=by
 have:RowsIn Fence.wide n P row args w R:=fun c cs _=>let ⟨v,w',r,s⟩:=h c cs;⟨v,w',r,stepsIn_wide.2 s⟩
 cases rd with
 | none=>exact this
 | some l=>exact this
theorem aZ1 {o:Oper} {a:Act} {w:World} {K:Act->World->Prop} {Q:Exit->Act->World->Prop} (hd:rd=none\/mG o=true) (h:o.wp P a w K Q):o.wpIn (WF rd) n P a w K Q:=by
 refine ⟨fun f _=>bB7 rd f,?_⟩
 have hs:o.semAt (WF rd).round a.eval=execOp a.eval o:=by
  rcases hd with rfl|hd
  ·rfl
  ·cases rd with
   | none=>rfl
   | some l=>exact Oper.semAt_eq _ _ _ (fun c hc=>by rw [mG,hc] at hd;cases hd)
 rw [hs]
 unfold Oper.wp at h
 generalize (execOp a.eval o).run P w=r at *
 cases r with
 | ok x w' =>
  cases x<;>simp only [Oper.upon,Oper.uponIn] at h ⊢ <;>
   first
    | exact h
    | exact ⟨bB8 rd,CallsIn.mono (bL1 h) (fun e w'' he=>by cases e<;>exact he)⟩
    | exact ⟨bB8 rd,cO2 h⟩
    | exact h.elim
 | halt x w'=>cases x<;>simp only [Oper.upon,Oper.uponIn] at h ⊢ <;> exact h
theorem bV3 {o:Oper} {a:Act} {w:World} {K:Act->World->Prop} {Q:Exit->Act->World->Prop} (hd:rd=none\/mG o=true) (h:o.wp P a w K (fun _ _ _=>False)):o.wpIn (WF rd) n P a w K Q:=by
 refine ⟨fun f _=>bB7 rd f,?_⟩
 have hh:=(aZ1 (n:=n) hd h).2
 generalize (o.semAt (WF rd).round a.eval).run P w=r at *
 cases r with
 | ok x w' =>
  cases x<;>simp only [Oper.uponIn] at hh ⊢ <;>
   first
    | exact hh
    | exact hh.elim
    | exact ⟨hh.1,CallsIn.mono hh.2 (fun e w'' he=>by cases e<;>first|exact he|exact he.elim|exact (let ⟨_,_,h⟩:=he;h.elim))⟩
    | exact ⟨hh.1,RoundIn.mono hh.2 (fun e w'' he=>by cases e<;>first|exact he|exact he.elim|exact (let ⟨_,_,h⟩:=he;h.elim))⟩
 | halt x w'=>cases x<;>simp only [Oper.uponIn] at hh ⊢ <;> first|exact hh|exact hh.elim
theorem aE3 {ops:Array Oper} {i:Nat} {a:Act} {w:World} {K:Act->World->Prop} {Q:Exit->Act->World->Prop} (hd:rd=none\/∀o,ops[i]? = some o->mG o=true) (h:wpOp P ops (fun _ _ _=>False) i K a w):wpOpIn (WF rd) n P ops Q i K a w:=by
 unfold wpOp at h
 unfold wpOpIn
 cases ho:ops[i]? with
 | none=>rw [ho] at h;exact h
 | some o =>
  rw [ho] at h
  simp only at h ⊢
  split
  ·rename_i hw
   rw [Aj hw] at h
   rcases h with h|⟨_,_,_,h⟩
   ·exact bV3 (hd.imp id fun k=>k o ho) h
   ·exact h.elim
  ·rename_i hw
   rw [Af hw] at h
   exact ⟨fun f _=>bB7 rd f,h⟩
end
theorem iY {F : Fence} {n : Nat} {P : Program} {md : Region.Mode} {ops : Array Oper} {Q' : Exit -> Act -> World -> Prop} : ∀ (l : List Oper) (k : Nat) (listed : Array Bool) (a : Act) (w : World), (∀ j, l[j]? = ops[k + j]?) ->
    Region.seqB md ops l.length k listed = true -> wpListIn F n P ops Q' l a w -> wpAnyIn F n P md ops Q' l.length listed a w
  | [], _, _, _, _, _, hB, h => ⟨by simpa [Region.seqB] using hB, h⟩
  | o :: l, k, listed, a, w, hl, hB, h => by
    have h0 : ops[k]? = some o := by simpa using (hl 0).symm
    simp only [Au, Region.seqB, Am, Bp] at hB
    refine ⟨fun h1 => (by rw [hB.1] at h1; cases h1), fun i hi => ?_⟩
    rw [hB.1] at hi
    have hik : i = k := by simpa using hi
    subst hik
    have hw : wpOpIn F n P ops Q' i (wpListIn F n P ops Q' l) a w := by unfold wpOpIn; simp only [h0]; exact h
    exact wpOpIn_mono (fun a' w' h' => iY l (i + 1) _ a' w' (fun j => by have := hl (j + 1); simpa [BW, C9 1 j] using this) hB.2 h') hw
section rules
variable {P:Program} {Q:Exit->Act->World->Prop} {a:Act} {w:World}
theorem jI {c:Code} (h:wpG P c Q a w):c.wp P Q a w:=wpIn_wide.1 (h none (.inl rfl))
theorem mK {c:Code} {Q':Exit->Act->World->Prop} (h:wpG P c Q a w) (hq:∀e a w,Q e a w->Q' e a w):wpG P c Q' a w:=fun rd hr=>wpIn_mono (h rd hr) hq
theorem cC4 (h:Q .normal a w):wpG P .skip Q a w:=fun rd _=>wpIn_skip h
theorem cQ1 (h:Q .ret a w):wpG P .ret Q a w:=fun rd _=>wpIn_ret h
theorem cC3 {id:Nat} (h:Q (.exit id) a w):wpG P (.exit id) Q a w:=fun rd _=>wpIn_exit h
theorem aQ8 {rd:Option Nat} {x y:Bool} (h:rd=none\/(x&&y)=true):(rd=none\/x=true)/\(rd=none\/y=true):=by
 rcases h with h|h
 ·exact ⟨.inl h,.inl h⟩
 ·rw [Am] at h;exact ⟨.inr h.1,.inr h.2⟩
theorem cQ2 {x y:Code} (h:wpG P x (Exit.then (wpG P y Q) Q) a w):wpG P (.seq x y) Q a w:=fun rd hr=>by
 obtain ⟨h1,h2⟩:=aQ8 hr
 exact wpIn_seq (wpIn_mono (h rd h1) fun e a w hq=>by cases e<;>first|exact hq rd h2|exact hq)
theorem aM6 {c:Operand} {x y:Code} {t:Bool} (hc:a.eval c = .bool t) (h:wpG P (if t then x else y) Q a w):wpG P (.cond c x y) Q a w:=fun rd hr=>by
 obtain ⟨h1,h2⟩:=aQ8 hr
 refine wpIn_cond hc (h rd ?_)
 cases t
 ·exact h2
 ·exact h1
theorem bI9 {id:Nat} {c:Code} (h:wpG P c (Exit.inBlock id Q) a w):wpG P (.block id c) Q a w:=fun rd hr=>wpIn_block (h rd hr)
theorem aM7 {c : Code} (I : Act -> World -> Prop) (μ : Act -> World -> Nat) (h₀ : I a w)
    (round : ∀ a w, I a w -> wpG P c (Exit.then (fun a' w' => I a' w' /\ μ a' w' < μ a w) Q) a w) : wpG P (.loop c) Q a w := fun rd hr => wpIn_loop I μ h₀ fun a w hI => round a w hI rd hr
def lJ (P:Program) (c:Code) (Q:Exit->Act->World->Prop):Nat->Act->World->Prop
 | 0,_,_=>False
 | n+1,a,w=>wpG P c (Exit.then (lJ P c Q n) Q) a w
theorem aD3 {c:Code} {n:Nat}:lJ P c Q (n+1) a w=wpG P c (Exit.then (lJ P c Q n) Q) a w:=rfl
theorem tW {c:Code} (n:Nat) (h:lJ P c Q n a w):wpG P (.loop c) Q a w:=by
 classical
 refine aM7 (fun a w=>∃m,lJ P c Q m a w) (fun a w=>if hI:∃m,lJ P c Q m a w then Classical.choose (least hI) else 0) ⟨n,h⟩ fun a w hI=>?_
 obtain ⟨hm,hmin⟩:=Cd (least hI)
 have e:(if hI:∃m,lJ P c Q m a w then Classical.choose (least hI) else 0)=Classical.choose (least hI):=dif_pos hI
 rw [e]
 generalize Classical.choose (least hI)=m at hm hmin
 cases m with
 | zero=>exact hm.elim
 | succ m =>
  refine mK hm fun ex a' w' hq=>?_
  cases ex with
  | normal =>
   have hJ:∃m,lJ P c Q m a' w':=⟨m,hq⟩
   refine ⟨hJ,?_⟩
   rw [dif_pos hJ]
   have:=(Cd (least hJ)).2 m hq
   omega
  | _=>exact hq
where
 least {p:Nat->Prop} (hp:∃m,p m):∃m,p m/\∀k,p k->m<=k:=by
  obtain ⟨m,hm⟩:=hp
  induction m using Nat.strongRecOn with
  | _ m ih =>
   by_cases h:∃k,k<m/\p k
   ·obtain ⟨k,hk,hpk⟩:=h
    exact ih k hk hpk
   ·refine ⟨m,hm,fun k hk=>?_⟩
    rcases A7 k m with h1|h1
    ·exact absurd ⟨k,h1,hk⟩ h
    ·exact h1
theorem xR {id:Nat} {l:List Oper} (h:cQ0 P l.toArray Q l a w):wpG P (.region id l.toArray false) Q a w:=fun rd hr=>wpIn_region_lit (h rd hr)
theorem dM {ops : Array Oper} {rest : List Oper} {o : Oper}
    (h : ∀ K : Act -> World -> Prop, (∀ a w, cQ0 P ops Q rest a w -> K a w) ->
      if Region.wanted o (yielded ops a.tmps) then o.wp P a w K Q else K (a.put o.dst undef) w) : cQ0 P ops Q (o :: rest) a w := fun rd hr => by
  rw [Bw] at hr
  obtain ⟨h1, h2⟩ := aQ8 hr
  refine wpListIn_step fun K hK => ?_
  have := h K (fun a w hl => hK a w (hl rd h2))
  split
  · rename_i hw; rw [Aj hw] at this; exact aZ1 h1 this
  · rename_i hw; rw [Af hw] at this; exact ⟨fun f _ => bB7 rd f, this⟩
end rules
def gS (P : Program) (fn : Func) (tmps : Array Value) (R : Ending -> World -> Prop) : List Deferred -> World -> Prop
  | [], w => ∃ v, (results fn tmps).run P w = .ok v w /\ R (.returned v) w
  | d :: ds, w => (∃ r w', d.target = .collected r /\ (Instr.takeDeferred r).run P w = .ok [] w' /\ gS P fn tmps R ds w') \/
      (∃ fv cap f args, d.target = .fn fv cap /\ (invoke d.target d.args).run P w = .ok (.enter f args) w /\ CallsD P f args .returning w fun e u' w' => (∃ v, e = .returned v) /\ u' = .returning /\ gS P fn tmps R ds w')
theorem pP {P : Program} {fn : Func} {tmps : Array Value} {R : Ending -> World -> Prop} : ∀ (ds : List Deferred) (w : World) (fr : Frame) (cs : List Frame), fr.mode = .returning -> fr.defers = ds -> fr.tmps = tmps -> P.funcs[fr.fn]? = some fn -> fr.kind = .normal -> gS P fn tmps R ds w ->
    ∃ e w' fr', R e w' /\ Comes P (lone fr cs w) (lone fr' cs w') e /\ fr'.fn = fr.fn /\ fr'.leaving P w' e := by
  intro ds
  induction ds with
  | nil =>
    intro w fr cs hu hd ht hf hk h
    obtain ⟨v, hr, hR⟩ := h
    exact ⟨.returned v, w, fr, hR, Steps.refl P _, rfl, hu, hd, hk, fn, hf, ht ▸ hr⟩
  | cons d ds ih =>
    intro w fr cs hu hd ht hf hk h
    rcases h with ⟨r, w', h1, h2, h3⟩ | ⟨fv, cap, f, args, h1, h2, h3⟩
    · have s1 := step_collected (cs := cs) (by rw [hu]; simp) hd h1 h2
      obtain ⟨e', w'', fr', hR', hs', hfn', hl'⟩ := ih w' { fr with defers := [] ++ ds } cs hu rfl ht hf hk h3
      exact ⟨e', w'', fr', hR', Comes.of_steps (.one s1) hs', hfn', hl'⟩
    · have s1 := step_defer (cs := cs) (by rw [hu]; simp) hd h1 h2
      obtain ⟨e, u', w', frX, ⟨⟨v, rfl⟩, rfl, hR⟩, hsteps, hkX, hgo⟩ := h3 { fr with defers := ds } cs hu
      have s2 := step_going_returned (c := { { fr with defers := ds } with mode := .returning }) (cs := cs) hkX hgo
      obtain ⟨e', w'', fr', hR', hs', hfn', hl'⟩ := ih w' { { { fr with defers := ds } with mode := .returning } with mode := settle .returning } cs rfl rfl ht hf hk hR
      exact ⟨e', w'', fr', hR', Comes.of_steps (.head s1 (Steps.trans hsteps (.one s2))) hs', hfn', hl'⟩
def cZ4 (P:Program) (fn:Func) (R:Ending->World->Prop):Exit->Act->World->Prop
 | .normal,a,w=>gS P fn a.tmps R a.defers w
 | .ret,a,w=>gS P fn a.tmps R a.defers w
 | _,_,_=>False
theorem fL {P : Program} {f : FuncId} {fn : Func} {c : Code} {args : Array Value} {w : World} {R : Ending -> World -> Prop} (hf : P.funcs[f]? = some fn) (hb : fn.body = some c)
    (h : c.wp P (cZ4 P fn R) { tmps := args ++ Array.replicate (fn.ntmps - args.size) undef, defers := [] } w) : Calls P f args w R := by
  intro cs
  let b : Frame := { (default : Frame) with fn := f, kind := .normal }
  have henter : Frame.enter P f args .normal = b.at { tmps := args ++ Array.replicate (fn.ntmps - args.size) undef, defers := [] } [.code c] := by
    simp [Frame.enter, Frame.at, hf, hb, b]
  obtain ⟨e, a', w', hq, harr⟩ := h b [] cs
  rw [<- henter] at harr
  cases e with
  | normal =>
    obtain ⟨e', w'', fr', hR, hs, hfn, hl⟩ := pP a'.defers w' { b.at a' [] with mode := .returning } cs rfl rfl rfl hf rfl hq
    exact ⟨e', w'', fr', hR, Comes.of_steps (Steps.trans harr (.one step_end)) hs, hfn, hl⟩
  | ret =>
    obtain ⟨todo, hs₀⟩ := harr
    obtain ⟨e', w'', fr', hR, hs, hfn, hl⟩ := pP a'.defers w' { b.at a' todo with mode := .returning } cs rfl rfl rfl hf rfl hq
    exact ⟨e', w'', fr', hR, Comes.of_steps hs₀ hs, hfn, hl⟩
  | panic chain => exact hq.elim
  | exit id => exact hq.elim
  | goto l => exact hq.elim
  | outgrown => exact hq.elim
theorem aA2 {l:List Oper} {p:Oper->Bool} (h:l.all p=true) {i:Nat} {o:Oper} (ho:l.toArray[i]? = some o):p o=true:=Aq.1 h o (Ag (by simpa using ho))
end
section
abbrev bM:=List (Option FuncId × List AV)
def sX:FuncId:=1000000007
def bM9:List Value->Deferred
 | [.pointer (some p)]=>{target := .collected p.block,args := #[]}
 | us=>{target := .fn (.func 0) us.toArray,args := #[]}
def aX3 (f:FuncId) (us:List Value):Deferred:=match Nat.beq f sX with
 | false=>{target := .fn (.func f) us.toArray,args := #[]}
 | true=>bM9 us
theorem vR {f:FuncId} {us:List Value} (h:Nat.beq f sX=false):aX3 f us={target := .fn (.func f) us.toArray,args := #[]}:=by rw [aX3,h]
def DefRep (fr:List Value) (C:Cx):bM->List Deferred->Prop
 | [],ds=>ds=[]
 | (some f,caps)::r,ds=>∃us ds',ds=aX3 f us::ds'/\RepL C caps us/\DefRep fr C r ds'
 | (none,xs)::r,ds=>RepL C xs fr/\DefRep fr C r ds
theorem DefRep.ext {fr:List Value} {C C':Cx} (h:Ext C C'):∀{l:bM} {ds:List Deferred},DefRep fr C l ds->DefRep fr C' l ds
 | [],ds,hd=>hd
 | (some f,caps)::r,ds,hd=>by
  obtain ⟨us,ds',h1,h2,h3⟩:=hd
  exact ⟨us,ds',h1,RepL.ext h _ _ h2,DefRep.ext h h3⟩
 | (none,xs)::r,ds,hd=>⟨RepL.ext h _ _ hd.1,DefRep.ext h hd.2⟩
abbrev lt (n:Nat):Nat->Prop:=fun id=>id<n
def cx (B:Bs) (n:Nat) (M:Nat->Option Nat) (h:aL) (w:World):Cx:=⟨lt n,M,aU B (lt n) M (lk h),w⟩
def qO (B:Bs) (sz n:Nat) (env:Env) (h:aL) (dfs:bM) (a:Act) (w:World):Prop :=
 ∃M,ConcH B (lt n) M (lk h) w/\a.tmps.size=sz/\(∀t av,lkE env t=some av->Rep (cx B n M h w) av (a.tmps.getD t undef))/\DefRep B.fr (cx B n M h w) dfs a.defers
abbrev AK:=Exit->Nat->Env->aL->bM->Prop
def KC (B:Bs) (sz:Nat) (K:AK) (e:Exit) (a:Act) (w:World):Prop:=∃n env h dfs,K e n env h dfs/\qO B sz n env h dfs a w
def AW (P:Program) (sz:Nat) (c:Code) (K:AK) (n:Nat) (env:Env) (h:aL) (dfs:bM):Prop :=
 ∀B a w,qO B sz n env h dfs a w->wpG P c (KC B sz K) a w
def AWL (P:Program) (ops:Array Oper) (sz:Nat) (l:List Oper) (K:AK) (n:Nat) (env:Env) (h:aL) (dfs:bM):Prop :=
 ∀B a w,qO B sz n env h dfs a w->cQ0 P ops (KC B sz K) l a w
def bB4 (next:Nat->Env->aL->bM->Prop) (K:AK):AK
 | .normal,n,env,h,dfs=>next n env h dfs
 | e,n,env,h,dfs=>K e n env h dfs
def tI (id:Nat) (K:AK):AK
 | .exit id',n,env,h,dfs=>match Nat.beq id' id with|true=>K .normal n env h dfs|false=>K (.exit id') n env h dfs
 | e,n,env,h,dfs=>K e n env h dfs
section rules
variable {P:Program} {sz n:Nat} {env:Env} {h:aL} {dfs:bM} {K:AK}
theorem cZ2 {x y:Code} (hx:AW P sz x (bB4 (AW P sz y K) K) n env h dfs):AW P sz (.seq x y) K n env h dfs:=by
 intro B a w hc
 refine cQ2 (mK (hx B a w hc) fun e a w hq=>?_)
 obtain ⟨n',env',h',d',hk,hc'⟩:=hq
 cases e<;>first|exact hk B a w hc'|exact ⟨n',env',h',d',hk,hc'⟩
theorem cE5 (hk:K .normal n env h dfs):AW P sz .skip K n env h dfs:=fun B a w hc=>cC4 ⟨n,env,h,dfs,hk,hc⟩
theorem cZ1 (hk:K .ret n env h dfs):AW P sz .ret K n env h dfs:=fun B a w hc=>cQ1 ⟨n,env,h,dfs,hk,hc⟩
theorem cE2 {id:Nat} (hk:K (.exit id) n env h dfs):AW P sz (.exit id) K n env h dfs:=fun B a w hc=>cC3 ⟨n,env,h,dfs,hk,hc⟩
theorem bK5 {id:Nat} {c:Code} (hx:AW P sz c (tI id K) n env h dfs):AW P sz (.block id c) K n env h dfs:=by
 intro B a w hc
 refine bI9 (mK (hx B a w hc) fun e a w hq=>?_)
 obtain ⟨n',env',h',d',hk,hc'⟩:=hq
 cases e with
 | exit id' =>
  simp only [tI] at hk
  simp only [Exit.inBlock]
  split at hk
  ·rename_i he
   rw [Aj (Ac he)]
   exact ⟨n',env',h',d',hk,hc'⟩
  ·rename_i he
   rw [Af (fun e=>by subst e;rw [B7] at he;cases he)]
   exact ⟨n',env',h',d',hk,hc'⟩
 | _=>exact ⟨n',env',h',d',hk,hc'⟩
theorem cT {B:Bs} {a:Act} {w:World} {M:Nat->Option Nat} (he:∀t av,lkE env t=some av->Rep (cx B n M h w) av (a.tmps.getD t undef)):∀x av,evA env x=some av->Rep (cx B n M h w) av (a.eval x):=by
 intro x av hx
 cases x with
 | tmp t=>exact he t av hx
 | const v=>simp only [evA,Option.some.injEq] at hx;subst hx;simp [Rep,RepC,Act.eval]
 | global g=>cases hx
 | func f=>simp only [evA,Option.some.injEq] at hx;subst hx;exact ⟨[],rfl,rfl⟩
section
variable {c:Operand} {x y:Code} {b:Bool} (hb:evA env c=some (.c (.v (.bool b))))
include c x y b hb
theorem aU4 (ht:b=true->AW P sz x K n env h dfs) (hf:b=false->AW P sz y K n env h dfs):AW P sz (.cond c x y) K n env h dfs:=by
 intro B a w hc
 obtain ⟨M,h1,h2,h3,h4⟩:=id hc
 have:=cT h3 c _ hb
 simp only [Rep,RepC] at this
 cases b with
 | true=>exact aM6 this (ht rfl B a w hc)
 | false=>exact aM6 this (hf rfl B a w hc)
theorem uU (hb':b=true) (ht:AW P sz x K n env h dfs):AW P sz (.cond c x y) K n env h dfs:=by
 subst hb';exact aU4 hb (fun _=>ht) (fun h=>by cases h)
theorem uT (hb':b=false) (ht:AW P sz y K n env h dfs):AW P sz (.cond c x y) K n env h dfs:=by
 subst hb';exact aU4 hb (fun h=>by cases h) (fun _=>ht)
end
def cM (n:Nat) (env:Env) (h:aL) (dfs:bM) (N:Nat) (E:Env) (Hp:aL) (D:bM):Prop:=∀B sz a w,qO B sz n env h dfs a w->qO B sz N E Hp D a w
theorem lC {c:Code} {N:Nat} {E:Env} {Hp:aL} {D:bM} (hw:cM n env h dfs N E Hp D) (hx:AW P sz c K N E Hp D):AW P sz c K n env h dfs:=fun B a w hc=>hx B a w (hw B sz a w hc)
theorem jF (p:Nat->Prop) (hp:∃m,p m):∃m,p m/\∀k,p k->m<=k:=by
 obtain ⟨m,hm⟩:=hp
 induction m using Nat.strongRecOn with
 | _ m ih =>
  by_cases h:∃k,k<m/\p k
  ·obtain ⟨k,hk,hpk⟩:=h
   exact ih k hk hpk
  ·refine ⟨m,hm,fun k hk=>?_⟩
   rcases A7 k m with h1|h1
   ·exact absurd ⟨k,h1,hk⟩ h
   ·exact h1
theorem cE3 {ι : Type} {c : Code} (N : Nat) (E : ι -> Env) (Hp : ι -> aL) (D : bM) (Inv : ι -> Prop) (μ : ι -> Nat) (i0 : ι) (h0 : Inv i0) (hw : cM n env h dfs N (E i0) (Hp i0) D)
    (round : ∀ i, Inv i -> AW P sz c (bB4 (fun n' env' h' dfs' => ∃ j, Inv j /\ μ j < μ i /\ cM n' env' h' dfs' N (E j) (Hp j) D) K) N (E i) (Hp i) D) : AW P sz (.loop c) K n env h dfs := by
  intro B a w hc
  classical
  let I : Act -> World -> Prop := fun a w => ∃ i, Inv i /\ qO B sz N (E i) (Hp i) D a w
  let p : Act -> World -> Nat -> Prop := fun a w m => ∃ i, Inv i /\ qO B sz N (E i) (Hp i) D a w /\ μ i = m
  let μ' : Act -> World -> Nat := fun a w => if hI : ∃ m, p a w m then Classical.choose (jF _ hI) else 0
  refine aM7 I μ' ⟨i0, h0, hw B sz a w hc⟩ fun a w hI => ?_
  have hI' : ∃ m, p a w m := by
    obtain ⟨i, h1, h2⟩ := hI
    exact ⟨μ i, i, h1, h2, rfl⟩
  obtain ⟨⟨i, h1, h2, h3⟩, _⟩ := Cd (jF _ hI')
  have hm : μ' a w = μ i := by simp only [μ', dif_pos hI', h3]
  refine mK (round i h1 B a w h2) fun e a' w' hq => ?_
  obtain ⟨n', env', h', d', hk, hc'⟩ := hq
  cases e with
  | normal =>
    obtain ⟨j, hj1, hj2, hj3⟩ := hk
    have hcj := hj3 B sz a' w' hc'
    refine ⟨⟨j, hj1, hcj⟩, ?_⟩
    have hJ : ∃ m, p a' w' m := ⟨μ j, j, hj1, hcj, rfl⟩
    have : μ' a' w' <= μ j := by
      simp only [μ', dif_pos hJ]
      exact (Cd (jF _ hJ)).2 _ ⟨j, hj1, hcj, rfl⟩
    omega
  | _ => exact ⟨n', env', h', d', hk, hc'⟩
theorem oV {id:Nat} {l:List Oper} (hx:AWL P l.toArray sz l K n env h dfs):AW P sz (.region id l.toArray false) K n env h dfs:=fun B a w hc=>xR (hx B a w hc)
theorem cE7 {ops:Array Oper} (hk:K .normal n env h dfs):AWL P ops sz [] K n env h dfs:=fun B a w hc rd _=>⟨n,env,h,dfs,hk,hc⟩
def fA (env:Env) (d:Option Tmp) (v:AV):Env:=match d with|some t=>(t,v)::env|none=>env
theorem lI {Δ h:aL} {k:Nat} {o:AObj} (ho:lk Δ k=some o):lk (Δ ++ h) k=some o:=by
 induction Δ with
 | nil=>cases ho
 | cons p Δ ih =>
  obtain ⟨i,q⟩:=p
  rw [AF,bJ]
  rw [bJ] at ho
  split
  ·rename_i e;rw [Aj e] at ho;exact ho
  ·rename_i e;rw [Af e] at ho;exact ih ho
theorem jU {Δ h:aL} {k:Nat} (ho:∀p ∈ Δ,p.1≠k):lk (Δ ++ h) k=lk h k:=by
 induction Δ with
 | nil=>rfl
 | cons p Δ ih =>
  obtain ⟨i,q⟩:=p
  rw [AF,bJ,Af (ho (i,q) aO)]
  exact ih fun p hp=>ho p (by simp [hp])
theorem aJ0 {n n':Nat} (h:n<=n'):ad (lt n) n n'=lt n':=by
 funext id
 simp only [ad,lt,Bu]
 omega
theorem jM {B : Bs} {a : Act} {w w' : World} {M M' : Nat -> Option Nat} {n' : Nat} {h' : aL} (hs : a.tmps.size = sz) (he : ∀ t av, lkE env t = some av -> Rep (cx B n M h w) av (a.tmps.getD t undef))
    (hext : Ext (cx B n M h w) (cx B n' M' h' w')) {d : Option Tmp} {v : AV} {u : Value} (hd : ∀ t, d = some t -> t < sz) (hv : Rep (cx B n' M' h' w') v u) :
    (a.put d u).tmps.size = sz /\ (∀ t av, lkE (fA env d v) t = some av -> Rep (cx B n' M' h' w') av ((a.put d u).tmps.getD t undef)) /\ (a.put d u).defers = a.defers := by
  cases d with
  | none => exact ⟨hs, fun t av ht => Rep.ext hext _ _ (he t av ht), rfl⟩
  | some k =>
    have hk := hd k rfl
    refine ⟨by simp [Act.put, hs], fun t av ht => ?_, rfl⟩
    simp only [fA, dX] at ht
    by_cases hkt : k = t
    · subst hkt
      rw [Aj rfl] at ht
      injection ht with ht
      subst ht
      simp only [Act.put]
      rw [show (a.tmps.setIfInBounds k u).getD k undef = u by simp [hs, hk]]
      exact hv
    · rw [Af hkt] at ht
      simp only [Act.put]
      rw [show (a.tmps.setIfInBounds k u).getD t undef = a.tmps.getD t undef by simp [AR hkt]]
      exact Rep.ext hext _ _ (he t av ht)
def guardA (ops:Array Oper) (env:Env) (o:Oper) (b:Bool):Prop :=
 match o.guard with
 | none=>b=true
 | some (j,want)=>∃t,(ops[j]?).bind (·.dst)=some t/\((∃c,lkE env t=some (.c (.v (.bool c)))/\(c==want)=b)\/(lkE env t=some (.c (.v undef))/\b=false))
theorem lM {ops:Array Oper} {tmps:Array Value} {j t:Nat} (h1:(ops[j]?).bind (·.dst)=some t) (h4:tmps.getD t undef=undef):yielded ops tmps j=none:=by
 unfold yielded
 rw [h1]
 simp only [Ak]
 cases hq:tmps[t]? with
 | none=>rfl
 | some q =>
  have:q=undef:=by rw [<- h4];simp [hq]
  subst this
  rfl
theorem guardA.wanted {ops : Array Oper} {o : Oper} {b : Bool} {B : Bs} {a : Act} {w : World} {M : Nat -> Option Nat} (hg : guardA ops env o b) (he : ∀ t av, lkE env t = some av -> Rep (cx B n M h w) av (a.tmps.getD t undef)):
    Region.wanted o (yielded ops a.tmps) = b := by
  unfold guardA at hg
  unfold Region.wanted
  cases hgd : o.guard with
  | none => rw [hgd] at hg; exact hg.symm
  | some p =>
    obtain ⟨j, want⟩ := p
    rw [hgd] at hg
    obtain ⟨t, h1, h2⟩ := hg
    rcases h2 with ⟨c, h2, h3⟩ | ⟨h2, rfl⟩
    rotate_left
    · have h4 := he t _ h2
      simp only [Rep, RepC] at h4
      simp [lM h1 h4]
    have h4 := he t _ h2
    simp only [Rep, RepC] at h4
    have hlt : t < a.tmps.size := by
      rcases A7 t a.tmps.size with h1 | h1
      · exact h1
      · simp [h1, undef] at h4
    have : yielded ops a.tmps j = some c := by
      unfold yielded
      rw [h1]
      have h5 : a.tmps[t]? = some (.bool c) := by
        rw [<- h4]
        simp [hlt]
      simp [h5]
    simp only [this]
    rw [<- h3]
    cases c <;> cases want <;> rfl
end rules
end
section
section steps
variable {P:Program} {sz n:Nat} {env:Env} {h:aL} {dfs:bM} {K:AK} {ops:Array Oper} {rest:List Oper} {o:Oper}
def fH (d:Option Tmp) (sz:Nat):Bool:=match d with|some t=>Nat.blt t sz|none=>true
theorem dT {d:Option Tmp} (h:fH d sz=true):∀t,d=some t->t<sz:=by
 intro t ht;subst ht;simpa [fH,AH] using h
theorem qP {v : AV} {Δ : aL} {n' : Nat} (hg : guardA ops env o true) (hd : fH o.dst sz = true) (hn : n <= n') (hA : Adds P o (evA env) h v Δ n n') (hcov : ∀ id, n <= id -> id < n' -> (lk Δ id).isSome = true) (hkeys : ∀ p ∈ Δ, n <= p.1)
    (next : AWL P ops sz rest K n' (fA env o.dst v) (Δ ++ h) dfs) : AWL P ops sz (o :: rest) K n env h dfs := by
  intro B a w hc
  obtain ⟨M, h1, h2, h3, h4⟩ := hc
  refine dM fun K' hK' => ?_
  rw [Aj (hg.wanted h3)]
  have e1 : ∀ id, id < n -> lk (Δ ++ h) id = lk h id := fun id hid => jU fun p hp e => by have := hkeys p hp; omega
  have e2 : ∀ id, n <= id -> id < n' -> lk (Δ ++ h) id = lk Δ id := fun id h5 h6 => by
    obtain ⟨o', ho'⟩ := AI.1 (hcov id h5 h6)
    rw [lI ho', ho']
  have eok : aU B (lt n) M (lk (Δ ++ h)) = aU B (lt n) M (lk h) := by
    funext b
    unfold aU
    simp only [Bu]
    exact dJ1
  have h1' : ConcH B (lt n) M (lk (Δ ++ h)) w := by
    refine ⟨h1.fr, fun id o hid hH => ?_, fun id id' o o' g k1 k2 k3 k4 => h1.inj id id' o o' g k1 k2 aW4 aW2, fun id o g k1 k2 => h1.lo id o g k1 aW5⟩
    rw [eok]
    exact h1.obj id o hid yN
  refine hA B (lt n) M (lk (Δ ++ h)) w a K' (KC B sz K) (fun id o k1 k2 => by rw [e1 id k2]; exact k1) (fun id k1 k2 => ⟨by simp only [lt]; omega, e2 id k1 k2⟩) h1' (by rw [eok]; exact cT h3) ?_
  intro u w' M' hext hcc hv
  rw [aJ0 hn] at hext hcc hv
  rw [eok] at hext
  obtain ⟨p1, p2, p3⟩ := jM (h' := Δ ++ h) (M' := M') h2 h3 hext (dT hd) hv
  exact hK' _ _ (next B _ _ ⟨M', hcc, p1, p2, by rw [p3]; exact h4.ext hext⟩)
theorem bD5 {v:AV} (hg:guardA ops env o true) (hd:fH o.dst sz=true) (hA:Still P o (evA env) h v) (next:AWL P ops sz rest K n (fA env o.dst v) h dfs):AWL P ops sz (o::rest) K n env h dfs :=
 qP hg hd (Ae _) hA.adds (fun id h1 h2=>by omega) aO next
theorem cE6 {v:AV} (hg:guardA ops env o true) (hd:fH o.dst sz=true) (hA:Adds P o (evA env) h v [] n n) (next:AWL P ops sz rest K n (fA env o.dst v) h dfs):AWL P ops sz (o::rest) K n env h dfs :=
 qP hg hd (Ae _) hA (fun id h1 h2=>by omega) aO next
theorem cE8 {v:AV} {obj:AObj} (hlv:obj.live=some obj) (hg:guardA ops env o true) (hd:fH o.dst sz=true) (hA:Adds P o (evA env) h v [(n,obj)] n (n+1)) (next:AWL P ops sz rest K (n+1) (fA env o.dst v) ((n,obj)::h) dfs):AWL P ops sz (o::rest) K n env h dfs :=
 qP hg hd (BB _) hA (fun id h1 h2=>by
  obtain rfl:id=n:=by omega
  rw [bJ,Aj rfl,hlv];rfl) aO next
theorem bK9 (hg:guardA ops env o false) (hd:fH o.dst sz=true) (next:AWL P ops sz rest K n (fA env o.dst (.c (.v undef))) h dfs):AWL P ops sz (o::rest) K n env h dfs:=by
 intro B a w hc
 obtain ⟨M,h1,h2,h3,h4⟩:=hc
 refine dM fun K' hK'=>?_
 rw [Af (by rw [hg.wanted h3];simp)]
 obtain ⟨p1,p2,p3⟩:=jM (v := .c (.v undef)) (u:=undef) h2 h3 (Ext.refl _) (dT hd) (by simp [Rep,RepC])
 exact hK' _ _ (next B _ _ ⟨M,h1,p1,p2,by rw [p3];exact h4⟩)
theorem aE {ops:Array Oper} {d:Option Tmp} {op:Op} {ty:TypeId} {pos:String} {aft:Array Edge}:guardA ops env ⟨d,op,ty,pos,aft,none⟩ true:=rfl
theorem bT {ops:Array Oper} {d:Option Tmp} {op:Op} {ty:TypeId} {pos:String} {aft:Array Edge} {j:Nat} {want b:Bool} {t:Tmp} {c:Bool} (h1:(ops[j]?).bind (·.dst)=some t) (h2:lkE env t=some (.c (.v (.bool c)))) (h3:(c==want)=b):guardA ops env ⟨d,op,ty,pos,aft,some (j,want)⟩ b:=⟨t,h1,.inl ⟨c,h2,h3⟩⟩
theorem aB6 {ops:Array Oper} {d:Option Tmp} {op:Op} {ty:TypeId} {pos:String} {aft:Array Edge} {j:Nat} {want:Bool} {t:Tmp} (h1:(ops[j]?).bind (·.dst)=some t) (h2:lkE env t=some (.c (.v undef))):guardA ops env ⟨d,op,ty,pos,aft,some (j,want)⟩ false:=⟨t,h1,.inr ⟨h2,rfl⟩⟩
theorem ConcH.turn {B : Bs} {M : Nat -> Option Nat} {w w' : World} (hc : ConcH B (lt n) M (lk h) w) {id g : Nat} {o o' : AObj} (hlv : o'.live = some o') (hid : id < n) (ho : lk h id = some o) (hM : M id = some g)
    (hos : w'.os = w.os) (htp : w'.tape = w.tape) (hou : w'.output = w.output) (hsz : w'.heap.size = w.heap.size) (hbl : ∀ k, k ≠ g -> w'.heap[k]? = w.heap[k]?) (hsh : w'.shape? g = w.shape? g)
    (hob : Ext (cx B n M h w) (cx B n M ((id, o') :: h) w') -> ObjRep (cx B n M ((id, o') :: h) w') (some g) o') :
    ConcH B (lt n) M (lk ((id, o') :: h)) w' /\ Ext (cx B n M h w) (cx B n M ((id, o') :: h) w') := by
  have hlk : ∀ k, k ≠ id -> lk ((id, o') :: h) k = lk h k := fun k hk => by rw [bJ, Af (fun e => hk e.symm)]
  have hlk0 : lk ((id, o') :: h) id = some o' := by rw [bJ, Aj rfl, hlv]
  have hok : ∀ b, aU B (lt n) M (lk h) b -> aU B (lt n) M (lk ((id, o') :: h)) b /\ b ≠ g := fun b hb => by
    refine ⟨⟨hb.1, fun k ok hk hH he => ?_⟩, fun e => hb.2 id o hid ho (by rw [hM, e])⟩
    by_cases hki : k = id
    · subst hki; exact hb.2 k o hk ho he
    · rw [hlk k hki] at hH; exact hb.2 k ok hk hH he
  have hext : Ext (cx B n M h w) (cx B n M ((id, o') :: h) w') := by
    refine ⟨fun k hk => ⟨hk, rfl⟩, fun b hb hl => ⟨(hok b hb).1, by simp only [cx] at hl ⊢; omega, hbl b (hok b hb).2⟩, shp fun b x hx => ?_⟩
    simp only [cx] at hx ⊢
    by_cases hbg : b = g
    · subst hbg; rw [hsh]; exact hx
    · rw [eC (hbl b hbg)]; exact hx
  refine ⟨⟨⟨hos.trans hc.fr.os, htp.trans hc.fr.tape, hou.trans hc.fr.output, by rw [hsz]; exact hc.fr.size, fun k h1 h2 => ?_⟩, fun k ok hk hH => ?_, fun k k' ok ok' g' k1 k2 k3 k4 k5 k6 => ?_, fun k ok g' k1 k2 k3 => ?_⟩, hext⟩
  · rw [hbl k (fun e => ?_)]
    · exact hc.fr.block k h1 h2
    · subst e
      rcases hc.lo id o k hid ho hM with h3 | h3
      · omega
      · exact h2 h3
  · by_cases hki : k = id
    · subst hki
      rw [hlk0] at hH
      injection hH with hH
      subst hH
      rw [hM]
      exact hob hext
    · rw [hlk k hki] at hH
      have h3 := hc.obj k ok hk hH
      refine h3.ext hext (fun j hj => hbl j (fun e => ?_))
      subst e
      exact hki (hc.inj k id ok o j hk hid hH ho hj hM)
  · have get : ∀ k ok, lk ((id, o') :: h) k = some ok -> ∃ ok', lk h k = some ok' := fun k ok hk => by
      by_cases hki : k = id
      · subst hki; exact ⟨o, ho⟩
      · rw [hlk k hki] at hk; exact ⟨ok, hk⟩
    obtain ⟨q1, hq1⟩ := get k ok k3
    obtain ⟨q2, hq2⟩ := get k' ok' k4
    exact hc.inj k k' q1 q2 g' k1 k2 hq1 hq2 k5 k6
  · by_cases hki : k = id
    · subst hki; exact hc.lo k o g' hid ho k3
    · rw [hlk k hki] at k2; exact hc.lo k ok g' k1 k2 k3
theorem eF {w:World} {g:Nat} {us vs:List Value} {T:TypeId} {fz:Nat × Nat} (h:w.heap[g]? = some (.cells us.toArray T fz)) (hl:vs.length=us.length):(w.setRow g vs.toArray).shape? g=w.shape? g:=by
 unfold World.shape?
 rw [setRow_heap w g _ _ T _ h,h]
 simp [hl]
theorem fS {w : World} {T T' : TypeId} {e : TyE} (hT : TyOk P T e) {g off : Nat} {cur vs : List Value} {v : Value} (hg : w.heap[g]? = some (.cells cur.toArray T' (0, 0))) (hv : v.cells.toList = vs) (hk : vs.length = e.size) (hfit : off + vs.length <= cur.length) (h1 : ∀ u ∈ vs, u.oneCell' = true) :
    (storeVar T ⟨g, off, none⟩ v).run P w = .ok () (w.setRow g (cur.take off ++ vs ++ cur.drop (off + vs.length)).toArray) := by
  have hst := run_storeCells_at P g off T' vs 0 cur.toArray w hg (by simpa using hfit) h1
  have hs := hT.sizeOf w
  have hsz : v.cells.size = e.size := by rw [<- hk, <- hv]; simp
  simp only [storeVar, Sem.run_bind, hs, Result.andThen_ok]
  simp [hsz, hv, hst]
variable {tab:Tab} {T ty:TypeId} {x y:Operand} {pos:String} {aft:Array Edge} {gd:Option (Nat × Bool)}
section
variable (tb : bF P tab) {e : TyE} (hg : guardA ops env ⟨none, .store T x y, ty, pos, aft, gd⟩ true) (hT : aP tab T = some e) (hk : Nat.beq e.size 1 = true) {id off : Nat} {T' : TypeId}
include tb e hg hT hk id off T'
theorem aN8 {cs : List AV} {v : AV} (hx : evA env x = some (.ref id off)) (hy : evA env y = some v) (h1 : v.one = true) (ho : lk h id = some (.blk T' cs)) (hfit : off < cs.length)
    (next : AWL P ops sz rest K n env ((id, .blk T' (cs.set off v)) :: h) dfs) : AWL P ops sz (⟨none, .store T x y, ty, pos, aft, gd⟩ :: rest) K n env h dfs := by
  intro B a w hc
  obtain ⟨M, c1, c2, c3, c4⟩ := hc
  refine dM fun K' hK' => ?_
  rw [Aj (hg.wanted c3)]
  have hp := cT c3 x _ hx
  have hv := cT c3 y _ hy
  simp only [Rep] at hp
  obtain ⟨hid, g, hM, hp⟩ := hp
  obtain ⟨us, hb, hus⟩ := gD (fun id o h _ => h) c1 ho hid hM
  obtain ⟨o1, o2⟩ := hv.one h1
  have hsz : e.size = 1 := Ac hk
  have hlen : off + 1 <= us.length := by rw [hus.length]; omega
  have hrun := fS (P := P) (w := w) (aK tb hT) (g := g) (off := off) (cur := us) (vs := [a.eval y]) (v := a.eval y) hb (by rw [o2]) (by simp [hsz]) hlen (by simpa using o1)
  have hset : us.take off ++ [a.eval y] ++ us.drop (off + [a.eval y].length) = us.set off (a.eval y) := by
    rw [BO]
    rw [Aj aA]
    simp
  rw [hset] at hrun
  unfold Oper.wp execOp
  simp only [hp, Instr.storeAt, Instr.sureAddr, Sem.run_bind, Sem.run_pure, Result.andThen_ok, hrun]
  obtain ⟨k1, k2⟩ := c1.turn (o' := .blk T' (cs.set off v)) (w' := w.setRow g (us.set off (a.eval y)).toArray) rfl hid ho hM rfl rfl rfl aO (fun k hk => setRow_other w g k _ hk) (eF hb aO)
    (fun hext => ⟨g, _, rfl, setRow_heap w g _ _ T' _ hb, RepL.ext hext _ _ (RepL.set hus off hv)⟩)
  simp only [Oper.upon, Act.put]
  exact bP2
theorem fG {cs : List CV} {v : CV} (hx : evA env x = some (.ref id off)) (hy : evA env y = some (.c v)) (h1 : v.one = true) (ho : lk h id = some (.row T' cs)) (hfit : off < cs.length)
    (next : AWL P ops sz rest K n env ((id, .row T' (cs.set off v)) :: h) dfs) : AWL P ops sz (⟨none, .store T x y, ty, pos, aft, gd⟩ :: rest) K n env h dfs := by
  intro B a w hc
  obtain ⟨M, c1, c2, c3, c4⟩ := hc
  refine dM fun K' hK' => ?_
  rw [Aj (hg.wanted c3)]
  have hp := cT c3 x _ hx
  have hv := cT c3 y _ hy
  simp only [Rep] at hp hv
  obtain ⟨hid, g, hM, hp⟩ := hp
  obtain ⟨us, vs, hb, hus, hone⟩ := eQ (fun id o h _ => h) c1 ho hid hM
  obtain ⟨o1, o2⟩ := hv.one h1
  have hsz : e.size = 1 := Ac hk
  have hul := hus.length
  have hlen : off + 1 <= (us ++ vs).length := by simp; omega
  have hrun := fS (P := P) (w := w) (aK tb hT) (g := g) (off := off) (cur := us ++ vs) (vs := [a.eval y]) (v := a.eval y) hb (by rw [o2]) (by simp [hsz]) hlen (by simpa using o1)
  have hset : (us ++ vs).take off ++ [a.eval y] ++ (us ++ vs).drop (off + [a.eval y].length) = us.set off (a.eval y) ++ vs := by
    rw [<- List.set_append_left _ _ aA, BO]
    rw [Aj dS]
    simp
  rw [hset] at hrun
  unfold Oper.wp execOp
  simp only [hp, Instr.storeAt, Instr.sureAddr, Sem.run_bind, Sem.run_pure, Result.andThen_ok, hrun]
  obtain ⟨k1, k2⟩ := c1.turn (o' := .row T' (cs.set off v)) (w' := w.setRow g (us.set off (a.eval y) ++ vs).toArray) rfl hid ho hM rfl rfl rfl aO (fun k hk => setRow_other w g k _ hk) (eF hb aO)
    (fun hext => .inr ⟨g, _, vs, rfl, setRow_heap w g _ _ T' _ hb, RepCs.mono hext.ok _ _ (RepCs.set hus off hv), fun u hu => (List.mem_or_eq_of_mem_set hu).elim (hone u) (fun e => e ▸ o1)⟩)
  simp only [Oper.upon, Act.put]
  exact bP2
end
def lay {α:Type} (cs:List α) (off:Nat) (vs:List α):List α:=cs.take off++vs++cs.drop (off+vs.length)
theorem wM {α:Type} (cs:List α) (off:Nat) (vs:List α) (h:off+vs.length<=cs.length):(lay cs off vs).length=cs.length:=by
 simp [lay];omega
theorem pD {α:Type} (cs vs:List α) (h:vs.length=cs.length):lay cs 0 vs=vs:=by simp [lay,h]
section
variable (tb : bF P tab) {e : TyE} (hg : guardA ops env ⟨none, .store T x y, ty, pos, aft, gd⟩ true) (hT : aP tab T = some e) {id off : Nat} {T' : TypeId}
include tb e hg hT id off T'
theorem aN9 {cs xs cs' : List AV} {v : AV} (hx : evA env x = some (.ref id off)) (hy : evA env y = some v) (hp : Parts v xs) (hl : xs.length = e.size) (h1 : xs.all AV.one = true) (ho : lk h id = some (.blk T' cs)) (hfit : off + xs.length <= cs.length) (hcs : lay cs off xs = cs')
    (next : AWL P ops sz rest K n env ((id, .blk T' cs') :: h) dfs) : AWL P ops sz (⟨none, .store T x y, ty, pos, aft, gd⟩ :: rest) K n env h dfs := by
  intro B a w hc
  subst hcs
  obtain ⟨M, c1, c2, c3, c4⟩ := hc
  refine dM fun K' hK' => ?_
  rw [Aj (hg.wanted c3)]
  have hpt := cT c3 x _ hx
  simp only [Rep] at hpt
  obtain ⟨hid, g, hM, hpt⟩ := hpt
  obtain ⟨vs, hv, hvs⟩ := hp.rep (cT c3 y _ hy)
  obtain ⟨us, hb, hus⟩ := gD (fun id o h _ => h) c1 ho hid hM
  have hul := hus.length
  have hvl := hvs.length
  have hrun := fS (P := P) (w := w) (aK tb hT) (g := g) (off := off) (cur := us) (vs := vs) (v := a.eval y) hb (by rw [hv]; rfl) aA aA (hvs.one h1)
  unfold Oper.wp execOp
  simp only [hpt, Instr.storeAt, Instr.sureAddr, Sem.run_bind, Sem.run_pure, Result.andThen_ok, hrun]
  obtain ⟨k1, k2⟩ := c1.turn (o' := .blk T' (lay cs off xs)) (w' := w.setRow g (us.take off ++ vs ++ us.drop (off + vs.length)).toArray) rfl hid ho hM rfl rfl rfl aO (fun k hk => setRow_other w g k _ hk) (eF hb dS)
    (fun hext => ⟨g, _, rfl, setRow_heap w g _ _ T' _ hb, RepL.ext hext _ _ (by
      unfold lay
      rw [hvl]
      exact ((hus.take off).append hvs).append (hus.drop (off + xs.length)))⟩)
  simp only [Oper.upon, Act.put]
  exact bP2
theorem aF3 {cs xs cs' : List CV} (hx : evA env x = some (.ref id off)) (hy : evA env y = some (.c (.agg xs))) (hl : xs.length = e.size) (ho : lk h id = some (.row T' cs)) (hfit : off + xs.length <= cs.length) (hcs : lay cs off xs = cs')
    (next : AWL P ops sz rest K n env ((id, .row T' cs') :: h) dfs) : AWL P ops sz (⟨none, .store T x y, ty, pos, aft, gd⟩ :: rest) K n env h dfs := by
  intro B a w hc
  subst hcs
  obtain ⟨M, c1, c2, c3, c4⟩ := hc
  refine dM fun K' hK' => ?_
  rw [Aj (hg.wanted c3)]
  have hpt := cT c3 x _ hx
  have hvv := cT c3 y _ hy
  simp only [Rep, RepC] at hpt hvv
  obtain ⟨hid, g, hM, hpt⟩ := hpt
  obtain ⟨vs, hv, hvs, h1⟩ := hvv
  obtain ⟨us, ws, hb, hus, hone⟩ := eQ (fun id o h _ => h) c1 ho hid hM
  have hul := hus.length
  have hvl := hvs.length
  have hrun := fS (P := P) (w := w) (aK tb hT) (g := g) (off := off) (cur := us ++ ws) (vs := vs) (v := a.eval y) hb (by rw [hv]; rfl) aA dS h1
  have hset : (us ++ ws).take off ++ vs ++ (us ++ ws).drop (off + vs.length) = (us.take off ++ vs ++ us.drop (off + vs.length)) ++ ws := by
    rw [A8 aA, BY aA]
    simp
  rw [hset] at hrun
  unfold Oper.wp execOp
  simp only [hpt, Instr.storeAt, Instr.sureAddr, Sem.run_bind, Sem.run_pure, Result.andThen_ok, hrun]
  obtain ⟨k1, k2⟩ := c1.turn (o' := .row T' (lay cs off xs)) (w' := w.setRow g ((us.take off ++ vs ++ us.drop (off + vs.length)) ++ ws).toArray) rfl hid ho hM rfl rfl rfl aO (fun k hk => setRow_other w g k _ hk) (eF hb dS)
    (fun hext => .inr ⟨g, _, ws, rfl, setRow_heap w g _ _ T' _ hb, RepCs.mono hext.ok _ _ (by
      unfold lay
      rw [hvl]
      exact ((hus.take off).append hvs).append (hus.drop (off + xs.length))), fun u hu => by
        rcases Az.1 hu with hu | hu
        · rcases Az.1 hu with hu | hu
          · exact hone u (AL hu)
          · exact h1 u hu
        · exact hone u (AT hu)⟩)
  simp only [Oper.upon, Act.put]
  exact bP2
end
end steps
end
section
mutual
def AV.ltB (N:Nat):AV->Bool
 | .c _ | .ip _ _ | .junk=>true
 | .ref id _=>Nat.blt id N
 | .own id _ _ _ _=>Nat.blt id N
 | .agg xs=>AV.ltBs N xs
 | .tup xs=>AV.ltBs N xs
 | .fn _ xs=>AV.ltBs N xs
 | .yld id=>Nat.blt id N
 | .mh id=>Nat.blt id N
 | .bm _ id=>Nat.blt id N
def AV.ltBs (N:Nat):List AV->Bool
 | []=>true
 | x::xs=>AV.ltB N x&&AV.ltBs N xs
end
def AObj.ltB (N:Nat):AObj->Bool
 | .blk _ cs=>AV.ltBs N cs
 | .row _ _=>true
 | .lp _ _ _ _ xs=>AV.ltBs N xs
 | .dfr _=>true
 | .tab es=>es.all fun p=>p.2.ltB N
 | .dead=>true
structure Less (N:Nat) (C C':Cx):Prop where
 dom:∀id,id<N->C.dom id->C'.dom id/\C'.M id=C.M id
 ok:jO C.ok C'.ok C.w C'.w
 shape:∀b x,C.w.shape? b=some x->C'.w.shape? b=some x
mutual
theorem Rep.less {N:Nat} {C C':Cx} (h:Less N C C'):∀(x:AV) (u:Value),x.ltB N=true->Rep C x u->Rep C' x u
 | .c x,u,_,hu=>by simp only [Rep] at hu ⊢;exact RepC.mono h.ok x u hu
 | .ref id off,u,hl,hu=>by
  simp only [Rep] at hu ⊢
  simp only [AV.ltB,AH] at hl
  obtain ⟨hd,g,hg,hu⟩:=hu
  obtain ⟨k1,k2⟩:=h.dom id hl hd
  exact lZ
 | .own id off n size full,u,hl,hu=>by
  simp only [Rep] at hu ⊢
  simp only [AV.ltB,AH] at hl
  obtain ⟨hd,hu⟩:=hu
  obtain ⟨k1,k2⟩:=h.dom id hl hd
  refine ⟨k1,?_⟩
  rcases hu with ⟨h1,h2,h3,h4⟩|⟨g,cp,h1,h2,h3,h4,h5⟩|h6
  ·exact bO9
  ·exact .inr (.inl ⟨g,cp,k2.trans h1,h2,h3,h4,fun hf=>let ⟨e,he⟩:=h5 hf;⟨e,h.shape _ _ he⟩⟩)
  ·exact .inr (.inr h6)
 | .ip cs off,u,_,hu=>by
  simp only [Rep] at hu ⊢
  obtain ⟨b,o,us,h1,h2,h3,h4,h6,h5⟩:=hu
  obtain ⟨k1,k2,k3⟩:=h.ok b h2 h3
  exact ⟨b,o,us,h1,k1,k2,RepCs.mono h.ok cs us h4,h6,fun j x hx=>by rw [World.cell?_of_block (w:=C.w) k3];exact h5 j x hx⟩
 | .agg xs,u,hl,hu=>by
  simp only [Rep] at hu ⊢
  obtain ⟨us,h1,h2⟩:=hu
  exact ⟨us,h1,RepL.less h xs us hl h2⟩
 | .tup xs,u,hl,hu=>by
  simp only [Rep] at hu ⊢
  obtain ⟨us,h1,h2⟩:=hu
  exact ⟨us,h1,RepL.less h xs us hl h2⟩
 | .fn f caps,u,hl,hu=>by
  simp only [Rep] at hu ⊢
  obtain ⟨us,h1,h2⟩:=hu
  exact ⟨us,h1,RepL.less h caps us hl h2⟩
 | .yld id,u,hl,hu=>by
  simp only [Rep] at hu ⊢
  simp only [AV.ltB,AH] at hl
  obtain ⟨hd,g,hg,hu⟩:=hu
  obtain ⟨k1,k2⟩:=h.dom id hl hd
  exact lZ
 | .mh id,u,hl,hu=>by
  simp only [Rep] at hu ⊢
  simp only [AV.ltB,AH] at hl
  obtain ⟨hd,g,hg,hu⟩:=hu
  obtain ⟨k1,k2⟩:=h.dom id hl hd
  exact lZ
 | .bm f id,u,hl,hu=>by
  simp only [Rep] at hu ⊢
  simp only [AV.ltB,AH] at hl
  obtain ⟨hd,g,hg,hu⟩:=hu
  obtain ⟨k1,k2⟩:=h.dom id hl hd
  exact lZ
 | .junk,u,_,hu=>by simp only [Rep]
theorem RepL.less {N:Nat} {C C':Cx} (h:Less N C C'):∀(xs:List AV) (us:List Value),AV.ltBs N xs=true->RepL C xs us->RepL C' xs us
 | [],us,_,hu=>by simpa [RepL] using hu
 | c::cs,us,hl,hu=>by
  simp only [RepL] at hu ⊢
  simp only [AV.ltBs,Am] at hl
  obtain ⟨u,us',h1,h2,h3⟩:=hu
  exact ⟨u,us',h1,Rep.less h c u hl.1 h2,RepL.less h cs us' hl.2 h3⟩
end
theorem RepM.less {N:Nat} {C C':Cx} (h:Less N C C'):∀(es:List (CV × AV)) (ms:List MapEntry),(es.all fun p=>p.2.ltB N)=true->RepM C es ms->RepM C' es ms
 | [],ms,_,hu=>hu
 | e::es,ms,hl,hu=>by
  obtain ⟨m,ms',h1,h2,h3,h4⟩:=hu
  simp only [Bw,Am] at hl
  exact ⟨m,ms',h1,RepC.mono h.ok _ _ h2,Rep.less h _ _ hl.1 h3,RepM.less h es ms' hl.2 h4⟩
theorem ObjRep.less {N:Nat} {C C':Cx} (h:Less N C C') {g:Option Nat} {o:AObj} (hw:C'.w=C.w) (hl:o.ltB N=true) (ho:ObjRep C g o):ObjRep C' g o:=by
 cases o with
 | blk T cs =>
  obtain ⟨k,us,rfl,h2,h3⟩:=ho
  exact ⟨k,us,rfl,by rw [hw];exact h2,RepL.less h cs us hl h3⟩
 | row T cs =>
  rcases ho with h1|⟨k,us,vs,rfl,h2,h3,h4⟩
  ·exact .inl h1
  ·exact .inr ⟨k,us,vs,rfl,by rw [hw];exact h2,RepCs.mono h.ok cs us h3,h4⟩
 | lp b sz L sl xs =>
  obtain ⟨k,r,rfl,h2,h3,h4,h5,h6,h7,h8,h9⟩:=ho
  exact ⟨k,r,rfl,by rw [hw];exact h2,h3,h4,h5,h6,h7,h8,RepL.less h xs _ hl h9⟩
 | dfr b =>
  obtain ⟨k,rfl,h2⟩:=ho
  exact ⟨k,rfl,by rw [hw];exact h2⟩
 | tab es =>
  obtain ⟨k,ms,t,rfl,h2,h3⟩:=ho
  exact ⟨k,ms,t,rfl,by rw [hw];exact h2,h3.1,RepM.less h es _ hl h3.2⟩
 | dead=>exact ho.elim
def aT7 (env:Env) (N:Nat) (E:Env):Prop:=∀t av,lkE E t=some av->lkE env t=some av/\av.ltB N=true
def aT8 (h:aL) (N:Nat) (Hp:aL):Prop:=∀id o,lk Hp id=some o->lk h id=some o/\o.ltB N=true
theorem cB {env:Env} {N:Nat}:aT7 env N []:=fun t av h=>by cases h
theorem bQ {env E:Env} {N t:Nat} {av av':AV} (h:lkE env t=some av') (he:av'=av) (hl:av.ltB N=true) (hr:aT7 env N E):aT7 env N ((t,av)::E):=by
 intro k x hk
 rw [dX] at hk
 split at hk
 ·rename_i e;subst e he;injection hk with hk;subst hk;exact ⟨h,hl⟩
 ·exact hr k x hk
theorem cC {h:aL} {N:Nat}:aT8 h N []:=fun t av h=>by cases h
theorem aQ {h Hp:aL} {N t:Nat} {o o':AObj} (hh:lk h t=some o') (he:o'=o) (hl:o.ltB N=true) (hr:aT8 h N Hp):aT8 h N ((t,o)::Hp):=by
 intro k x hk
 rw [bJ] at hk
 split at hk
 ·rename_i e;subst e he;have hk:=pE hk;subst hk;exact ⟨hh,hl⟩
 ·exact hr k x hk
theorem DefRep.less {fr:List Value} {N:Nat} {C C':Cx} (h:Less N C C'):∀{l:bM} {ds:List Deferred},l.all (fun p=>AV.ltBs N p.2)=true->DefRep fr C l ds->DefRep fr C' l ds
 | [],ds,_,hd=>hd
 | (some f,caps)::r,ds,hl,hd=>by
  obtain ⟨us,ds',h1,h2,h3⟩:=hd
  simp only [Bw,Am] at hl
  exact ⟨us,ds',h1,RepL.less h _ _ hl.1 h2,DefRep.less h hl.2 h3⟩
 | (none,xs)::r,ds,hl,hd=>by
  simp only [Bw,Am] at hl
  exact ⟨RepL.less h _ _ hl.1 hd.1,DefRep.less h hl.2 hd.2⟩
theorem cZ {n N:Nat} {env E:Env} {h Hp:aL} {dfs:bM} (hn:Nat.ble N n=true) (hE:aT7 env N E) (hH:aT8 h N Hp) (hD:dfs.all (fun p=>AV.ltBs N p.2)=true):cM n env h dfs N E Hp dfs:=by
 intro B sz a w hc
 obtain ⟨M,h1,h2,h3,h4⟩:=hc
 have hn':N<=n:=AA hn
 have hok:∀b,aU B (lt n) M (lk h) b->aU B (lt N) M (lk Hp) b:=fun b hb=>⟨hb.1,fun id o hid hH' he=>hb.2 id o (A0 hid hn') (hH id o hH').1 he⟩
 have hls:Less N (cx B n M h w) (cx B N M Hp w):=⟨fun id hid _=>⟨hid,rfl⟩,fun b hb hl=>⟨hok b hb,hl,rfl⟩,fun _ _ h=>h⟩
 refine ⟨M,⟨h1.fr,fun id o hid hH'=>?_,fun id id' o o' g k1 k2 k3 k4=>h1.inj id id' o o' g (A0 k1 hn') (A0 k2 hn') (hH id o k3).1 (hH id' o' k4).1,fun id o g k1 k2=>h1.lo id o g (A0 k1 hn') (hH id o k2).1⟩,h2,fun t av ht=>?_,h4.less hls hD⟩
 ·exact (h1.obj id o (A0 hid hn') (hH id o hH').1).less hls rfl (hH id o hH').2
 ·exact Rep.less hls _ _ (hE t av ht).2 (h3 t av (hE t av ht).1)
def Cv (x y:CV):Prop:=∀ok w u,RepC ok w x u->RepC ok w y u
def CvL (x y:List CV):Prop:=∀ok w u,RepCs ok w x u->RepCs ok w y u
theorem cO {x:CV}:Cv x x:=fun _ _ _ h=>h
theorem tC {x y:CV} (h:x=y):Cv x y:=fun _ _ _ k=>h▸k
theorem gX {size:Nat}:Cv (.v (.slice none 0 0)) (.sl size 0 []):=fun ok w u h=>by
 simp only [RepC] at h ⊢
 exact ⟨none,0,[],h,Ae _,by simp [maxLen],by simp,by simp [RepCs],by simp,fun h=>absurd h aA⟩
theorem jR {size n n':Nat} {cs cs':List CV} (hn:n=n') (hc:cs=cs'):Cv (.sl size n cs) (.sl size n' cs'):=by subst hn hc;exact cO
theorem eP:CvL [] []:=fun _ _ _ h=>h
theorem dQ {x y:CV} {xs ys:List CV} (h:Cv x y) (k:CvL xs ys):CvL (x::xs) (y::ys):=fun ok w u hu=>by
 simp only [RepCs] at hu ⊢
 obtain ⟨a,l,h1,h2,h3⟩:=hu
 exact ⟨a,l,h1,h ok w a h2,k ok w l h3⟩
theorem qW {x:List CV}:CvL x x:=fun _ _ _ h=>h
theorem lP {x y:List CV} (h:CvL x y):Cv (.agg x) (.agg y):=fun ok w u hu=>by
 simp only [RepC] at hu ⊢
 obtain ⟨us,h1,h2,h3⟩:=hu
 exact ⟨us,h1,h ok w us h2,h3⟩
def Frz (keep:List Nat) (h:aL) (v:AV) (x:CV):Prop :=
 ∀(B:Bs) (dom:Nat->Prop) (M:Nat->Option Nat) (H:Nat->Option AObj) (w:World) (u:Value),(∀id o,lk h id=some o->dom id->H id=some o)->(∀k∈keep,dom k/\∃o,H k=some o) ->
  ConcH B dom M H w->Rep ⟨dom,M,aU B dom M H,w⟩ v u->RepC (fun b=>(B.ok0 b\/B.w0.heap.size<=b\/b∈B.G)/\∀k∈keep,M k≠some b) w x u
def zX (keep:List Nat) (h:aL) (v:List AV) (x:List CV):Prop :=
 ∀(B:Bs) (dom:Nat->Prop) (M:Nat->Option Nat) (H:Nat->Option AObj) (w:World) (u:List Value),(∀id o,lk h id=some o->dom id->H id=some o)->(∀k∈keep,dom k/\∃o,H k=some o) ->
  ConcH B dom M H w->RepL ⟨dom,M,aU B dom M H,w⟩ v u->RepCs (fun b=>(B.ok0 b\/B.w0.heap.size<=b\/b∈B.G)/\∀k∈keep,M k≠some b) w x u
section frz
variable {keep:List Nat} {h:aL}
theorem dR {x y:CV} (hxy:Cv x y):Frz keep h (.c x) y:=by
 intro B dom M H w u hh hk hc hu
 simp only [Rep] at hu
 refine hxy _ _ _ (RepC.mono (fun b hb hl=>⟨⟨hb.1,fun k hkk he=>?_⟩,hl,rfl⟩) _ _ hu)
 obtain ⟨h1,o,h2⟩:=hk k hkk
 exact hb.2 k o h1 h2 he
theorem lG {id off n size : Nat} {full : Bool} {T : TypeId} {cs ys : List CV} (ho : lk h id = some (.row T cs)) (hk : keep.contains id = false) (hy : (cs.drop off).take (n * size) = ys) (hl : ys.length = n * size) : Frz keep h (.own id off n size full) (.sl size n ys) := by
  intro B dom M H w u hh hkp hc hu
  simp only [Rep] at hu
  obtain ⟨hd, hu⟩ := hu
  have hmono : ∀ b, aU B dom M H b -> (B.ok0 b \/ B.w0.heap.size <= b \/ b ∈ B.G) /\ ∀ k ∈ keep, M k ≠ some b := fun b hb => ⟨hb.1, fun k hkk he => by
    obtain ⟨h1, o, h2⟩ := hkp k hkk
    exact hb.2 k o h1 h2 he⟩
  have key : ∀ g, M id = some g -> ∃ us vs, w.heap[g]? = some (.cells (us ++ vs).toArray T (0, 0)) /\ RepCs (aU B dom M H) w cs us /\ ∀ u ∈ us, u.oneCell' = true := fun g hg => eQ hh hc ho hd hg
  have hz : n = 0 -> ∃ us, RepCs (fun b => (B.ok0 b \/ B.w0.heap.size <= b \/ b ∈ B.G) /\ ∀ k ∈ keep, M k ≠ some b) w ys us /\ ∀ u ∈ us, u.oneCell' = true := fun h0 => by
    subst h0
    have : ys = [] := Ai eT
    subst this
    exact ⟨[], by simp [RepCs], by simp⟩
  rcases hu with ⟨h1, h2, h3, h4⟩ | ⟨g, cp, h1, h2, h3, h4, h5⟩ | ⟨h1, h2, A, cp, h3, h4⟩
  · obtain ⟨us, hus, hon⟩ := hz h1
    exact dJ2
  · obtain ⟨us, vs, hb, hr, hon⟩ := key g h1
    have h6 := (hr.drop off).take (n * size)
    rw [hy] at h6
    refine ⟨some ⟨g, off, none⟩, cp, (us.drop off).take (n * size), h2, h3, h4, hl, RepCs.mono (fun b hb hl => ⟨hmono b hb, hl, rfl⟩) _ _ h6, fun u hu => hon u (AT (AL hu)), fun hn => ⟨g, off, rfl, ⟨?_, fun k hkk he => ?_⟩, bH hb, fun j x hj => ?_⟩⟩
    · rcases hc.lo id _ g hd (hh id _ ho hd) h1 with h7 | h7
      · exact .inr (.inl h7)
      · exact .inr (.inr h7)
    · obtain ⟨k1, o, k2⟩ := hkp k hkk
      have := hc.inj k id o _ g k1 hd k2 (hh id _ ho hd) he h1
      subst this
      rw [List.contains_eq_mem] at hk
      simp at hk
      exact hk hkk
    · have hjk : j < n * size := by
        rcases A7 j (n * size) with h1 | h1
        · exact h1
        · rw [AJ nU] at hj; cases hj
      rw [AZ hjk, AS] at hj
      exact gY hb hj
  · obtain ⟨us, hus, hon⟩ := hz h1
    subst h1
    exact dJ3
theorem gK {id n size:Nat} {full:Bool} {T:TypeId} {cs:List CV} (ho:lk h id=some (.row T cs)) (hk:keep.contains id=false) (hl:cs.length=n*size):Frz keep h (.own id 0 n size full) (.sl size n cs) :=
 lG ho hk bN7 hl
theorem dE:zX keep h [] []:=fun B dom M H w u _ _ _ hu=>by simpa [RepL,RepCs] using hu
theorem aZ {x:AV} {y:CV} {xs:List AV} {ys:List CV} (hx:Frz keep h x y) (hxs:zX keep h xs ys):zX keep h (x::xs) (y::ys):=by
 intro B dom M H w u hh hk hc hu
 simp only [RepL] at hu
 obtain ⟨a,l,h1,h2,h3⟩:=hu
 exact ⟨a,l,h1,hx B dom M H w a hh hk hc h2,hxs B dom M H w l hh hk hc h3⟩
theorem uB {xs:List AV} {ys:List CV} (h1':xs.all AV.one=true) (hx:zX keep h xs ys):Frz keep h (.agg xs) (.agg ys):=by
 intro B dom M H w u hh hk hc hu
 simp only [Rep] at hu
 obtain ⟨us,h1,h2⟩:=hu
 exact ⟨us,h1,hx B dom M H w us hh hk hc h2,h2.one h1'⟩
end frz
def AC (P:Program) (f:FuncId) (args:List CV) (r:AV) (hr:aL) (nr:Nat):Prop :=
 ∀(ok:Nat->Prop) (w:World) (vs:List Value),RepCs ok w args vs->Calls P f vs.toArray w fun e w'=>∃v M,e = .returned v/\ConcH ⟨w,[],ok,[]⟩ (lt nr) M (lk hr) w'/\Rep (cx ⟨w,[],ok,[]⟩ nr M hr w') r v
def aH5:Nat->List CV->Env
 | _,[]=>[]
 | k,x::xs=>(k,.c x)::aH5 (k+1) xs
theorem sG:∀{cs:List CV} {k t:Nat} {av:AV},lkE (aH5 k cs) t=some av->∃c,k<=t/\cs[t-k]? = some c/\av = .c c
 | [],k,t,av,h=>by cases h
 | c::cs,k,t,av,h=>by
  rw [aH5,dX] at h
  split at h
  ·rename_i e;subst e;injection h with h;exact ⟨c,Ae _,by simp,h.symm⟩
  ·rename_i e
   obtain ⟨c',h1,h2,h3⟩:=sG h
   refine ⟨c',by omega,?_,h3⟩
   rw [show t-k=(t-(k+1))+1 by omega]
   simpa using h2
def nJ (P:Program) (f:FuncId) (k:Nat):Prop :=
 ∀(us:List Value) (w:World),us.length=k->CallsD P f us.toArray .returning w fun e u' w'=>e = .returned (.tuple #[])/\u' = .returning/\w'=w
def Body (P : Program) (f : FuncId) : Prop := (P.funcs[f]?).map (fun fn => (fn.name == "runtime.NumGoroutine", fn.body.isNone)) = some (false, false)
theorem Body.run {P:Program} {f:FuncId} (h:Body P f) (args:Array Value) (w:World):(callFunc f args).run P w = .ok (.enter f args) w:=by
 obtain ⟨fn,h1,h2⟩:=As.1 h
 simp only [Prod.mk.injEq] at h2
 simp only [callFunc,Sem.run_bind,run_program,Result.andThen_ok,h1]
 simp [h2.1,h2.2]
def gB (P:Program):aL->bM->Prop
 | _,[]=>True
 | h,(some f,caps)::r=>match Nat.beq f sX with
  | true=>(match caps with | [.ref id _]=>lk h id=some (.dfr true)/\gB P ((id,.dfr false)::h) r|_=>False)
  | false=>nJ P f caps.length/\Body P f/\gB P h r
 | h,(none,_)::r=>gB P h r
def fB:aL->bM->aL
 | h,[]=>h
 | h,(some f,caps)::r=>match Nat.beq f sX with
  | true=>match caps with | [.ref id _]=>fB ((id,.dfr false)::h) r|_=>h
  | false=>fB h r
 | h,(none,_)::r=>fB h r
inductive ResA (tab:Tab) (env:Env) (h:aL):ResultVar->AV->Prop
 | tmp {t:Tmp} {v:AV} (hv:lkE env t=some v):ResA tab env h (.tmp t) v
 | one {p:Tmp} {T T':TypeId} {id:Nat} {v:AV} {cs:List AV} {e:TyE} (hp:lkE env p=some (.ref id 0)) (hT:aP tab T=some e) (hk:e.kind.agg=false) (ho:lk h id=some (.blk T' cs)) (hv:cs[0]? = some v):ResA tab env h (.cell p T) v
 | agg {p:Tmp} {T T':TypeId} {id:Nat} {v:AV} {cs:List AV} {e:TyE} (hp:lkE env p=some (.ref id 0)) (hT:aP tab T=some e) (hk:e.kind.agg=true) (ho:lk h id=some (.blk T' cs)) (hl:Nat.beq cs.length e.size=true) (hv:IsAgg cs v):ResA tab env h (.cell p T) v
 | aggr {p:Tmp} {T T':TypeId} {id:Nat} {cs:List CV} {e:TyE} (hp:lkE env p=some (.ref id 0)) (hT:aP tab T=some e) (hk:e.kind.agg=true) (ho:lk h id=some (.row T' cs)) (hl:cs.length=e.size):ResA tab env h (.cell p T) (.c (.agg cs))
section ret
variable {P:Program} {tab:Tab} {env:Env} {h:aL} {n:Nat}
theorem ResA.run (tb : bF P tab) {rv : ResultVar} {v : AV} (hr : ResA tab env h rv v) {B : Bs} {M : Nat -> Option Nat} {w : World} {tmps : Array Value} (hc : ConcH B (lt n) M (lk h) w) (he : ∀ t av, lkE env t = some av -> Rep (cx B n M h w) av (tmps.getD t undef)) :
    ∃ u, Rep (cx B n M h w) v u /\ (match rv with | .tmp t => tmps.getD t undef = u | .cell p T => ∃ q, tmps.getD p undef = .pointer (some q) /\ (loadVar T q).run P w = .ok u w) := by
  cases hr with
  | tmp hv => exact ⟨_, he _ _ hv, rfl⟩
  | one hp hT hk ho hv =>
    have := he _ _ hp
    simp only [Rep] at this
    obtain ⟨hid, g, hM, hq⟩ := this
    obtain ⟨us, hb, hus⟩ := gD (fun id o h _ => h) hc ho hid hM
    obtain ⟨u, hu, hru⟩ := hus.get hv
    exact ⟨u, hru, _, hq, pH (aK tb hT) hk (by rw [lV hb]; exact hu)⟩
  | agg hp hT hk ho hl hv =>
    rename_i p T T' id cs e
    have := he _ _ hp
    simp only [Rep] at this
    obtain ⟨hid, g, hM, hq⟩ := this
    obtain ⟨us, hb, hus⟩ := gD (fun id o h _ => h) hc ho hid hM
    exact ⟨_, hv.rep hus, _, hq, mJ (aK tb hT) hk (us := us) (by rw [hus.length]; exact Ac hl) (fun j u hj => by rw [lV hb, Al]; exact hj)⟩
  | aggr hp hT hk ho hl =>
    have := he _ _ hp
    simp only [Rep] at this
    obtain ⟨hid, g, hM, hq⟩ := this
    obtain ⟨us, vs, hb, hus, hon⟩ := eQ (fun id o h _ => h) hc ho hid hM
    exact ⟨_, ⟨us, rfl, hus, hon⟩, _, hq, mJ (aK tb hT) hk (us := us) (by rw [hus.length]; exact hl) (fun j u hj => by rw [Al]; exact gY hb hj)⟩
inductive ResL (tab:Tab) (env:Env) (h:aL):List ResultVar->AV->Prop
 | none:ResL tab env h [] (.tup [])
 | one {r:ResultVar} {v:AV} (h1:ResA tab env h r v):ResL tab env h [r] v
 | two {r1 r2:ResultVar} {v1 v2:AV} (h1:ResA tab env h r1 v1) (h2:ResA tab env h r2 v2):ResL tab env h [r1,r2] (.tup [v1,v2])
 | three {r1 r2 r3:ResultVar} {v1 v2 v3:AV} (h1:ResA tab env h r1 v1) (h2:ResA tab env h r2 v2) (h3:ResA tab env h r3 v3):ResL tab env h [r1,r2,r3] (.tup [v1,v2,v3])
def Rd (P:Program) (tmps:Array Value) (w:World) (rv:ResultVar) (u:Value):Prop:=match rv with | .tmp t=>tmps[t]?.getD undef=u | .cell p T=>∃q,tmps[p]?.getD undef = .pointer (some q)/\(loadVar T q).run P w = .ok u w
theorem ResL.run (tb : bF P tab) {fn : Func} {v : AV} (hr : ResL tab env h fn.results.toList v) {B : Bs} {M : Nat -> Option Nat} {w : World} {tmps : Array Value} (hc : ConcH B (lt n) M (lk h) w) (he : ∀ t av, lkE env t = some av -> Rep (cx B n M h w) av (tmps.getD t undef)) :
    ∃ u, Rep (cx B n M h w) v u /\ (results fn tmps).run P w = .ok u w := by
  have one : ∀ {rv : ResultVar} {v : AV}, ResA tab env h rv v -> ∃ u, Rep (cx B n M h w) v u /\ Rd P tmps w rv u := by
    intro rv v hA
    obtain ⟨u, h1, h2⟩ := hA.run tb hc he
    refine ⟨u, h1, ?_⟩
    cases rv with
    | tmp t => simpa [Rd] using h2
    | cell p T => obtain ⟨q, hq, hl⟩ := h2; exact ⟨q, by simpa using hq, hl⟩
  generalize hl : fn.results.toList = l at hr
  have hf : fn.results = l.toArray := by rw [<- hl]
  cases hr with
  | none => exact ⟨.tuple #[], ⟨[], rfl, rfl⟩, by simp [results, hf]⟩
  | one h1 =>
    obtain ⟨u, k1, k2⟩ := one h1
    refine ⟨u, k1, ?_⟩
    rename_i rv
    cases rv <;> simp only [Rd] at k2 <;> (try obtain ⟨q, hq, hl1⟩ := k2) <;> simp [results, hf, asAddr, *]
  | two h1 h2 =>
    obtain ⟨u1, k1, k2⟩ := one h1
    obtain ⟨u2, l1, l2⟩ := one h2
    refine ⟨.tuple #[u1, u2], ⟨[u1, u2], rfl, u1, [u2], rfl, k1, u2, [], rfl, l1, rfl⟩, ?_⟩
    rename_i r1 r2 v1 v2
    cases r1 <;> cases r2 <;> simp only [Rd] at k2 l2 <;> (try obtain ⟨q, hq, hl1⟩ := k2) <;> (try obtain ⟨q2, hq2, hl2⟩ := l2) <;> simp [results, hf, asAddr, *]
  | three h1 h2 h3 =>
    obtain ⟨u1, k1, k2⟩ := one h1
    obtain ⟨u2, l1, l2⟩ := one h2
    obtain ⟨u3, m1, m2⟩ := one h3
    refine ⟨.tuple #[u1, u2, u3], ⟨[u1, u2, u3], rfl, u1, [u2, u3], rfl, k1, u2, [u3], rfl, l1, u3, [], rfl, m1, rfl⟩, ?_⟩
    rename_i r1 r2 r3 v1 v2 v3
    cases r1 <;> cases r2 <;> cases r3 <;> simp only [Rd] at k2 l2 m2 <;> (try obtain ⟨q, hq, hl1⟩ := k2) <;> (try obtain ⟨q2, hq2, hl2⟩ := l2) <;> (try obtain ⟨q3, hq3, hl3⟩ := m2) <;> simp [results, hf, asAddr, *]
end ret
end
end Go.Av
namespace Go
abbrev CZ:=List UInt8
abbrev Da:=Option (Nat × Bool)
abbrev Db:=List Value
abbrev Dc:=List Oper
abbrev Dd:=Array Oper
abbrev De:=List Nat
abbrev Df:=Array Edge
abbrev Dg:=Option Tmp
abbrev Dh:=TypeId
abbrev Di:=Program
abbrev Dj:=IntKind
abbrev Dl:=Array TypeId
abbrev Dm:=List Operand
abbrev Dn:=Option Nat
abbrev Do:=Array Value
end Go
namespace Go.Av
abbrev Dp:=List CV
abbrev Dq:=List AV
end Go.Av
