/- Lemmas for laws of the ledger. -/
import Derived.MapKept
import Derived.WalkKit
import Derived.ProofKit
import Derived.Handy
import Derived.WalkLawsBesides
import Derived.WalkSpells
import Derived.Laws.CopyOwn
import Derived.Lib.Hide
import Derived.Deep.AppendLies
import Derived.Maps.AppendAt
import Derived.Laws.BytesArg
import Derived.Deep.Draws
import Derived.Defers
import Derived.Recover
import Derived.Orders
import Derived.OrdersHeld
import Derived.StillTail
import Derived.OrdersIn
import Derived.TacticsIn
import Derived.LoopNIn
import Derived.RangeFuncIn
import Derived.RangeFuncNested
import Derived.RangeFuncLeaves
set_option linter.all false
namespace Go
def Aa:=@List.getElem?_eq_getElem
def Ab:=@List.length_append
def Ac:=@List.mem_of_getElem?
def Ad:=@List.getElem?_eq_some_iff
def Ae:=@Nat.eq_of_beq_eq_true
def Af:=@List.take_of_length_le
def Ag:=@Nat.le_refl
def Ah:=@Nat.zero_le
def Ai:=@Nat.zero_add
def Aj:=@List.eq_nil_of_length_eq_zero
def Ak:=@if_neg
def Al:=@if_pos
def Am:=@Nat.le_trans
def An:=@Bool.and_eq_true
def Ao:=@List.length_take
def Ap:=@Option.bind_some
def Aq:=@Option.bind_eq_some_iff
def Ar:=@List.append_assoc
def As:=@List.all_eq_true
def At:=@List.length_cons
def Au:=@Option.map_eq_some_iff
def Aw:=@List.nil_append
def Ay:=@List.append_nil
def Az:=@List.size_toArray
def A0:=@List.mem_append
def A1:=@List.flatMap_cons
def A2:=@Nat.lt_of_lt_of_le
def A3:=@List.mem_cons
def A4:=@List.length_drop
def A5:=@Nat.mul_one
def A6:=@Array.length_toList
def A7:=@List.mem_range
def A8:=@List.getElem?_append_left
def A9:=@Nat.le_of_ble_eq_true
def AA:=@Nat.lt_or_ge
def AB:=@List.take_append_of_le_length
def AD:=@List.drop_of_length_le
def AE:=@List.getElem?_append_right
def AF:=@List.map_cons
def AG:=@List.mem_of_mem_take
def AH:=@List.flatMap_append
def AI:=@Nat.blt_eq
def AJ:=@Nat.add_mul
def AL:=@List.cons_append
def AM:=@Option.isSome_iff_exists
def AN:=@List.getElem?_eq_none
def AO:=@Bool.false_eq_true
def AP:=@List.getElem?_drop
def AQ:=@List.getElem?_take
def AR:=@Option.map_some
def AS:=@List.length_map
def AT:=@decide_eq_true
def AU:=@List.map_toArray
def AX:=@Array.getElem?_setIfInBounds_ne
def AY:=@List.mem_singleton
def AZ:=@List.getElem?_take_of_lt
def Ba:=@List.mem_of_mem_drop
def Bb:=@Array.append_empty
def Bc:=@Nat.mul_le_mul_right
def Be:=@Nat.lt_succ_self
def Bf:=@List.length_filter_le
def Bg:=@decide_eq_false
def Bh:=@Array.all_eq_true_iff_forall_mem
def Bi:=@if_false
def Bj:=@List.drop_zero
def Bk:=@List.pairwise_cons
def Bl:=@List.filter_cons
def Bm:=@List.flatten_cons
def Bn:=@Int.toNat_natCast
def Bo:=@Classical.byContradiction
def Bp:=@List.drop_eq_getElem_cons
def Bq:=@Bool.or_eq_true
def Br:=@List.take_append_drop
def Bt:=@Array.getElem?_append_left
def Bu:=@Array.getElem?_eq_none
def Bv:=@decide_eq_true_eq
def Bw:=@List.getElem?_toArray
def Bx:=@List.append_eq
def By:=@List.all_cons
def Bz:=@List.mem_map
def B0:=@Nat.min_eq_left
def B1:=@Nat.eq_zero_or_pos
def B2:=@eq_iff_iff
def B3:=@Array.getD_eq_getD_getElem?
def B4:=@List.set_eq_take_append_cons_drop
def B5:=@Nat.sub_zero
def B6:=@List.take_succ_cons
def B7:=@Nat.le_succ
def B8:=@List.mem_append_right
def B9:=@Nat.beq_refl
def BA:=@List.map_map
def BB:=@getElem!_pos
def BC:=@List.drop_drop
def BD:=@Array.mem_toList_iff
def BE:=@List.take_add_one
def BF:=@not_true_eq_false
def BG:=@List.getElem?_map
def BH:=@List.getElem?_cons_zero
def BI:=@List.length_nil
def BJ:=@List.getElem_append
def BK:=@Array.toList_inj
def BL:=@List.drop_append
def BM:=@Nat.mod_eq_of_lt
def BN:=@List.filter_append
def BO:=@List.set_cons_zero
def BP:=@BitVec.toNat_ofInt
def BQ:=@Array.getElem?_modify
def BR:=@List.set_append_right
def BS:=@Array.getElem?_toList
def BT:=@List.pairwise_iff_getElem
def BU:=@List.map_append
def BV:=@List.getElem?_of_mem
def BW:=@Nat.sub_self
def BX:=@if_true
def BY:=@Nat.pow_le_pow_right
def BZ:=@Nat.add_assoc
def Ca:=@List.toList_toArray
def Cb:=@List.drop_append_of_le_length
def Cc:=@Nat.zero_mul
def Cd:=@Bool.true_eq_false
def Ce:=@List.length_set
def Cf:=@Nat.zero_lt_one
def Cg:=@List.length_singleton
def Ch:=@Classical.choose_spec
def Ci:=@Bool.not_eq_true'
def Cj:=@List.ext_getElem?
def Ck:=@Array.getElem_toList
def Cl:=@List.take_left
def Cm:=@Array.getElem?_eq_some_iff
def Cn:=@List.mapM_cons
def Co:=@List.take_take
def Cp:=@List.map_nil
def Cq:=@Nat.add_zero
def Cr:=@Nat.shiftLeft_eq
def Cs:=@UInt8.toNat_ofNat'
def Ct:=@Array.any_eq_true'
def Cu:=@List.pairwise_singleton
def Cw:=@List.foldl_append
def Cy:=@List.take_zero
def Cz:=@List.length_range
def C0:=@Array.size_modify
def C1:=@BitVec.toNat_shiftLeft
def C2:=@List.countP_eq_length
def C3:=@and_congr
def C4:=@Nat.le_add_right
def C5:=@List.mem_cons_of_mem
def C6:=@Bool.and_eq_true_iff
def C7:=@List.getLast?_eq_some_getLast
def C8:=@Option.map_none
def C9:=@List.countP_pos_iff
def CA:=@List.replicate_succ
def CB:=@Nat.pow_succ
def CC:=@Iff.rfl
def CD:=@Nat.le_of_eq
def CE:=@Nat.add_comm
def CF:=@List.mem_filterMap
def CG:=@Nat.lt_or_gt_of_ne
def CH:=@Array.ext_getElem?
def CI:=@Array.all_eq_true'
def CJ:=@Nat.lt_succ_of_lt
def CK:=@of_decide_eq_true
def CL:=@forall_congr'
def CM:=@List.sum_cons
def CN:=@Option.getD_some
def CO:=@not_congr
def CP:=@Nat.div_eq_of_lt
def CQ:=@List.take_append
def CR:=@Nat.min_eq_right
def CS:=@Nat.succ_mul
def CT:=@beq_iff_eq
def CU:=@List.map_set
def CW:=@Int.natCast_mul
def CX:=@List.foldl_cons
def CY:=@List.filter_nil
def CZ:=@Bool.eq_iff_iff
def Da:=@Nat.one_mul
end Go
namespace Go
structure KeptC (q:Prop):Prop where
 out:q
section
variable {p q:Prop} (hq:q)
include p q hq
theorem aF3 (h:KeptC q->p:=by
 intro hq
 (first|refine bE [0,1,3,4,5,6,7,8,51,52,53,81,82,83] ?_|((with_reducible refine cK ?_);refine yA ?_;refine bL (cL rfl) rfl ?_)|((first|((with_reducible refine bU ?_);refine xA ?_)|((with_reducible refine cR ?_);refine xD ?_));(first|((with_reducible refine aV9 ?_);(first|refine aI (aR3 (kc:=ktV.kc) aB rfl rfl rfl rfl ha1) ?_|refine aI (aR3 (kc:=ktS.kc) aB rfl rfl rfl rfl ha2) ?_))))|refine dV ?_|refine stA ?_|refine stD ?_|fail)
 exact hq.out):p:=h ⟨hq⟩
theorem dJ7 (h:KeptC q->p:=by
 intro hq
 (first|refine bE [0,2,3,4,5] ?_|((first|((with_reducible refine bU ?_);refine xA ?_)|((with_reducible refine cR ?_);refine xD ?_));(first|((with_reducible refine gB ?_);(first|refine aI (jZ aB rfl rfl rfl rfl (by first|(rw [Ai,A5];exact hx)|(rw [Ai,A5];exact hy)|(refine nX hx ?_;omega)|(refine nX hy ?_;omega))) ?_|refine aI (iV aB rfl rfl rfl rfl (by first|(rw [Ai,A5];exact hx)|(rw [Ai,A5];exact hy)|(refine nX hx ?_;omega)|(refine nX hy ?_;omega))) ?_|refine aI (iU aB rfl rfl rfl (by first|(rw [Ai,A5];exact hx)|(rw [Ai,A5];exact hy)|(refine nX hx ?_;omega)|(refine nX hy ?_;omega))) ?_))|((with_reducible refine e_ix ?_);(first|refine aI (s_ixV1 aB rfl rfl zcj rfl rfl rfl rfl rfl zle (by first|(rw [Ai,A5];exact hx)|(rw [Ai,A5];exact hy)|(refine nX hx ?_;omega)|(refine nX hy ?_;omega))) ?_|refine aI (s_ixStr aB rfl rfl zcj rfl rfl (by first|(rw [Ai,A5];exact hx)|(rw [Ai,A5];exact hy)|(refine nX hx ?_;omega)|(refine nX hy ?_;omega))) ?_))))|refine stA ?_|refine stD ?_|fail)
 exact hq.out):p:=h ⟨hq⟩
theorem bK8 (h:KeptC q->p:=by
 intro hq
 (first|refine aJ [0,2,3,4,5,6] ?_|(((with_reducible refine bU ?_);refine xA ?_);(first|((with_reducible refine bR ?_);(first|refine aI (aR0 hc8 rfl rfl) ?_|refine aI (cJ0 rfl rfl h7 h63 hsh) ?_|refine aI (dI3 hsx hu hss rfl rfl) ?_|refine aI (aZ3 (m:=1) rfl rfl rfl (by decide)) ?_|refine aI (cH8 hss rfl rfl) ?_))|((with_reducible refine tS ?_);(first|refine aI (iO aB rfl rfl rfl rfl (aT7 (by omega) (by omega))) ?_))|((with_reducible refine cP3 ?_);(first|refine aI (cH9 hu64 rfl) ?_))))|refine cV ?_|refine stA ?_|fail)
 exact hq.out):p:=h ⟨hq⟩
theorem xH (h:KeptC q->p:=by
 intro hq
 (first|refine aJ [0,1,2] ?_|((with_reducible refine cK ?_);refine yA ?_;refine bL (cL rfl) rfl ?_)|(((with_reducible refine bU ?_);refine xA ?_);(first|((with_reducible refine aV9 ?_);(first|refine aI (cI5 aB rfl rfl rfl rfl) ?_))))|refine cV ?_|refine stA ?_|fail)
 exact hq.out):p:=h ⟨hq⟩
theorem xI (h:KeptC q->p:=by
 intro hq
 (first|refine aJ [0,1,2,4] ?_|(((with_reducible refine bU ?_);refine xA ?_);(first|((with_reducible refine bR ?_);(first|refine aI (dO4 rfl rfl (by first|exact AT t0|exact Bg t0)) ?_))))|refine stA ?_|fail)
 exact hq.out):p:=h ⟨hq⟩
theorem dQ8 (h:KeptC q->p:=by
 intro hq
 (first|refine aJ [0,1,2,3,4,5,6,7,9,10,11,63] ?_|((with_reducible refine bB (i:=2) ?_);refine aY [0,1,2,3,4,5,6,7,9,10,11,63] rfl rfl ?_;refine dG [] ?_)|((with_reducible refine bB ?_);refine aY [0,1,2,3,4,5,6,7,9,10,11,63] rfl rfl ?_;refine dE [] ?_)|((with_reducible refine cK ?_);refine yA ?_;(first|refine bL (cL (T:=61) rfl) rfl ?_|refine bL (cL (T:=49) rfl) rfl ?_))|((with_reducible refine aX ?_);refine yA ?_;(first|refine bL (aW (T:=61) aB rfl rfl rfl) rfl ?_|refine bL (aW (T:=49) aB rfl rfl rfl) rfl ?_))|((with_reducible refine cH ?_);refine oQ hnt aD zby rfl (by first|exact fH|exact eJ cU fH) rfl (cJ rfl rfl (cJ rfl dO (cJ rfl dO (cJ rfl dO (cJ rfl dO (cJ rfl dO sT)))))) ?_)|((with_reducible refine cH ?_);refine oP [4,5,6,7,8,9] hf aD rfl zby rfl rfl rfl (by repeat' (first|exact cM|refine bP rfl rfl rfl ?_|refine bP rfl setT_mp bM ?_)) rfl rfl yO rfl (by first|exact fH|exact eJ cU fH) ?_)|refine jG ?_|refine gQ ?_|refine stA ?_|refine stD ?_|refine stE ?_|fail)
 exact hq.out):p:=h ⟨hq⟩
theorem dQ9 (h:KeptC q->p:=by
 intro hq
 (first|refine aJ [0,2,3,4,5,6,7,8,9,26] ?_|((with_reducible refine bB (i:=4) ?_);refine aY [0,2,3,4,5,6,7,8,9,26] rfl rfl ?_;refine dG [] ?_)|((with_reducible refine bB (i:=12) ?_);refine aY [0,2,3,4,5,6,7,8,9,26] rfl rfl ?_;refine dG [] ?_)|((with_reducible refine bB ?_);refine aY [0,2,3,4,5,6,7,8,9,26] rfl rfl ?_;refine dE [] ?_)|((with_reducible refine pS ?_);refine yE ?_;refine bL (aW (T:=49) aB rfl rfl rfl) rfl ?_)|((with_reducible refine aX ?_);refine yA ?_;refine bL (aW (T:=49) aB rfl rfl rfl) rfl ?_)|((with_reducible refine aH ?_);refine mQ [8,3,4,5,6,7] hf aD rfl zby rfl rfl rfl rfl (by repeat' (first|exact cM|refine bP rfl rfl rfl ?_|refine bP rfl setT_mp bM ?_)) rfl rfl rfl (by first|exact fH|exact eJ cU fH) (cB rfl rfl (cB rfl setT_mp.symm (cB rfl setT_mp.symm (cB rfl setT_mp.symm (cB rfl setT_mp.symm (cB rfl setT_mp.symm pB)))))) ?_)|((with_reducible refine mP ?_);intro K hK hX)|(with_reducible refine oF ?_)|(refine eZ ?_;refine c0 hac ?_)|refine stA ?_|refine stD ?_|refine stE ?_|fail)
 exact hq.out):p:=h ⟨hq⟩
theorem dR0 (h:KeptC q->p:=by
 intro hq
 (first|refine bE [0,2,3,4,5] ?_|((first|((with_reducible refine bU ?_);refine xA ?_)|((with_reducible refine cR ?_);refine xD ?_));(first|((with_reducible refine bR ?_);(first|refine aI (uG (by kernel_rfl) (m:=3) rfl (by kernel_rfl) (by kernel_rfl) (by kernel_rfl) (by kernel_rfl) (by kernel_rfl) rfl rfl (hcx x) (hcx y) lx ly (cL2 hbxy)) ?_))|((with_reducible refine gB ?_);(first|refine aI (gF aB rfl rfl rfl rfl (by first|first|exact fV hx (Ai _)|exact fV hy (Ai _)|exact fV hx (by omega)|exact fV hy (by omega)|exact mM (by first|rfl|omega)|rfl) zln) ?_|refine aI (gE aB rfl rfl rfl (by first|first|exact fV hx (Ai _)|exact fV hy (Ai _)|exact fV hx (by omega)|exact fV hy (by omega)|exact mM (by first|rfl|omega)|rfl) zln) ?_))|((with_reducible refine gW ?_);(first|refine aI (s_slArri aB rfl rfl rfl rfl zbd zbd zle zle (by decide) (by first|first|exact fV hx (Ai _)|exact fV hy (Ai _)|exact fV hx (by omega)|exact fV hy (by omega)|exact mM (by first|rfl|omega)|rfl) zln) ?_))))|refine stA ?_|refine stD ?_|fail)
 exact hq.out):p:=h ⟨hq⟩
theorem dR1 (h:KeptC q->p:=by
 intro hq
 (first|refine bE [0,2,3,4,5] ?_|((first|((with_reducible refine bU ?_);refine xA ?_)|((with_reducible refine cR ?_);refine xD ?_));(first|((with_reducible refine bR ?_);(first|refine aI (uG (by kernel_rfl) (m:=3) rfl (by kernel_rfl) (by kernel_rfl) (by kernel_rfl) (by kernel_rfl) (by kernel_rfl) rfl rfl (hcx x) (hcx y) lx ly (cL1 hbxy)) ?_))|((with_reducible refine gB ?_);(first|refine aI (gF aB rfl rfl rfl rfl (by first|first|exact fV hx (Ai _)|exact fV hy (Ai _)|exact fV hx (by omega)|exact fV hy (by omega)|exact mM (by first|rfl|omega)|rfl) zln) ?_|refine aI (gE aB rfl rfl rfl (by first|first|exact fV hx (Ai _)|exact fV hy (Ai _)|exact fV hx (by omega)|exact fV hy (by omega)|exact mM (by first|rfl|omega)|rfl) zln) ?_))|((with_reducible refine gW ?_);(first|refine aI (s_slArri aB rfl rfl rfl rfl zbd zbd zle zle (by decide) (by first|first|exact fV hx (Ai _)|exact fV hy (Ai _)|exact fV hx (by omega)|exact fV hy (by omega)|exact mM (by first|rfl|omega)|rfl) zln) ?_))))|refine stA ?_|refine stD ?_|fail)
 exact hq.out):p:=h ⟨hq⟩
theorem bB5 (h:KeptC q->p:=by
 intro hq
 (first|refine iA [0,1,3,5,7,17,34,35,36,47,48,49] ?_|((with_reducible refine oY ?_);refine eK (by first|exact aD|exact (cG rfl rfl zgb)) (gH aB rfl rfl rfl rfl rfl rfl) ?_)|((with_reducible refine sJ ?_);refine eK (by first|exact aD|exact (cG rfl rfl zgb)) (iH rfl) ?_)|((with_reducible refine kE ?_);refine eK (by first|exact aD|exact (cG rfl rfl zgb)) (lX rfl) ?_)|((with_reducible refine cK ?_);refine yA ?_;refine bL (cL rfl) rfl ?_)|refine stA ?_|refine stE ?_|fail)
 exact hq.out):p:=h ⟨hq⟩
theorem aA6 (h:KeptC q->p:=by
 intro hq
 (first|refine bE [0,1,3,4,5,6,7,8,51,52,53,81,82,83] ?_|((first|((with_reducible refine gM ?_);refine xA ?_)|((with_reducible refine iE ?_);refine xD ?_));refine aI (mL (k:=(⟨vt,vs'⟩:Src)) ktS aB rfl rfl gP rfl rfl rfl hok hoS hm) ?_)|(refine dU ?_;refine c0 hcm ?_)|refine dV ?_|refine fG ?_|refine stA ?_|refine stD ?_|fail)
 exact hq.out):p:=h ⟨hq⟩
theorem bS7 (h:KeptC q->p:=by
 intro hq
 (first|refine aJ [0,2,3,17] ?_|((with_reducible refine aX ?_);refine yA ?_;refine bL (aW aB rfl rfl rfl) rfl ?_)|((with_reducible refine aH ?_);refine aU (a1) aD rfl zby rfl rfl rfl rfl zcv rfl ztp ?_)|((with_reducible refine aH ?_);refine aU (a2) aD rfl zby rfl rfl rfl rfl zcv rfl ztp ?_)|((with_reducible refine aH ?_);refine aU (a3) aD rfl zby rfl rfl rfl rfl zcv rfl ztp ?_)|((with_reducible refine aH ?_);refine aU (a4) aD rfl zby rfl rfl rfl rfl zcv rfl ztp ?_)|((with_reducible refine aH ?_);refine aU (a5) aD rfl zby rfl rfl rfl rfl zcv rfl ztp ?_)|refine stA ?_|fail)
 exact hq.out):p:=h ⟨hq⟩
theorem bS8 (h:KeptC q->p:=by
 intro hq
 (first|refine iA [0,1,3,4,17] ?_|((with_reducible refine aH ?_);refine cY (i1) aD rfl zby rfl rfl zln rfl zcv (bH _) ?_)|((with_reducible refine cH ?_);refine gK (i1) aD rfl rfl zby rfl rfl zln rfl zcv (bH _) rfl ?_)|((with_reducible refine aH ?_);refine cY (i2) aD rfl zby rfl rfl zln rfl zcv (bH _) ?_)|((with_reducible refine cH ?_);refine gK (i2) aD rfl rfl zby rfl rfl zln rfl zcv (bH _) rfl ?_)|refine lY ?_|refine stA ?_|refine stE ?_|fail)
 exact hq.out):p:=h ⟨hq⟩
theorem bS9 (h:KeptC q->p:=by
 intro hq
 (first|refine bE [0,1,3,4,7,8,50] ?_|((first|((with_reducible refine gM ?_);refine xA ?_)|((with_reducible refine iE ?_);refine xD ?_));refine aI (nT (k:=plan) ktI aB rfl rfl gP rfl rfl rfl trivial (fun _ _=>trivial) hb) ?_)|((first|((with_reducible refine gM ?_);refine xA ?_)|((with_reducible refine iE ?_);refine xD ?_));refine aI (mL (k:=plan) ktI aB rfl rfl gP rfl rfl rfl trivial (fun _ _=>trivial) hc) ?_)|refine dV ?_|refine stA ?_|refine stD ?_|fail)
 exact hq.out):p:=h ⟨hq⟩
theorem bB6 (h:KeptC q->p:=by
 intro hq
 (first|refine bE [0,1,3,4,5,6,7,8,51,52,53,81,82,83] ?_|((first|((with_reducible refine gM ?_);refine xA ?_)|((with_reducible refine iE ?_);refine xD ?_));refine aI (mL (k:=(⟨vt,vc,vs'⟩:Ver)) ktV aB rfl rfl gP rfl rfl rfl hok hoV hm) ?_)|(refine dU ?_;refine c0 hcm ?_)|refine dV ?_|refine fG ?_|refine stA ?_|refine stD ?_|fail)
 exact hq.out):p:=h ⟨hq⟩
theorem cY5 (h:KeptC q->p:=by
 intro hq
 (first|refine iA [0,1,3,4,5] ?_|((with_reducible refine aH ?_);refine cY (i1) aD rfl zby rfl rfl zln rfl zcv (bH _) ?_)|((with_reducible refine cH ?_);refine gK (i1) aD rfl rfl zby rfl rfl zln rfl zcv (bH _) rfl ?_)|((with_reducible refine aH ?_);refine cY (i2) aD rfl zby rfl rfl zln rfl zcv (bH _) ?_)|((with_reducible refine cH ?_);refine gK (i2) aD rfl rfl zby rfl rfl zln rfl zcv (bH _) rfl ?_)|((with_reducible refine aH ?_);refine cY (i3) aD rfl zby rfl rfl zln rfl zcv (bH _) ?_)|((with_reducible refine cH ?_);refine gK (i3) aD rfl rfl zby rfl rfl zln rfl zcv (bH _) rfl ?_)|refine lY ?_|refine stA ?_|refine stE ?_|fail)
 exact hq.out):p:=h ⟨hq⟩
theorem cY6 (h:KeptC q->p:=by
 intro hq
 (first|refine iA [0,1,3,4] ?_|((with_reducible refine aH ?_);refine cY (i1) aD rfl zby rfl rfl zln rfl zcv (bH _) ?_)|((with_reducible refine cH ?_);refine gK (i1) aD rfl rfl zby rfl rfl zln rfl zcv (bH _) rfl ?_)|((with_reducible refine aH ?_);refine cY (i2) aD rfl zby rfl rfl zln rfl zcv (bH _) ?_)|((with_reducible refine cH ?_);refine gK (i2) aD rfl rfl zby rfl rfl zln rfl zcv (bH _) rfl ?_)|((with_reducible refine aH ?_);refine cY (i3) aD rfl zby rfl rfl zln rfl zcv (bH _) ?_)|((with_reducible refine cH ?_);refine gK (i3) aD rfl rfl zby rfl rfl zln rfl zcv (bH _) rfl ?_)|refine lY ?_|refine stA ?_|refine stE ?_|fail)
 exact hq.out):p:=h ⟨hq⟩
theorem cY7 (h:KeptC q->p:=by
 intro hq
 (first|refine iA [0,1,3,5,7,17,34,35,36,47,48,49] ?_|((with_reducible refine oY ?_);refine eK (by first|exact aD|exact (cG rfl rfl zgb)) (gH aB rfl rfl rfl rfl rfl rfl) ?_)|((with_reducible refine sJ ?_);refine eK (by first|exact aD|exact (cG rfl rfl zgb)) (iH rfl) ?_)|((with_reducible refine kE ?_);refine eK (by first|exact aD|exact (cG rfl rfl zgb)) (lX rfl) ?_)|((with_reducible refine cK ?_);refine yA ?_;refine bL (cL rfl) rfl ?_)|((with_reducible refine yJ ?_);refine lF (k:=plan) ktI aB aD rfl rfl rfl rfl rfl rfl ztr (fun _ _=>trivial) ?_)|refine stA ?_|refine stE ?_|fail)
 exact hq.out):p:=h ⟨hq⟩
theorem oH (h:KeptC q->p:=by
 intro hq
 (first|refine aJ [0,1,2] ?_|((with_reducible refine cK ?_);refine yA ?_;refine bL (cL rfl) rfl ?_)|refine stA ?_|fail)
 exact hq.out):p:=h ⟨hq⟩
theorem bB7 (h:KeptC q->p:=by
 intro hq
 (first|refine bE [0,1,3,4,5,6,7,8,51,52,53,81,82,83] ?_|((first|((with_reducible refine gM ?_);refine xA ?_)|((with_reducible refine iE ?_);refine xD ?_));refine aI (mL (k:=(⟨vt,vs'⟩:Src)) ktS aB rfl rfl gP rfl rfl rfl hok hoS hm) ?_)|refine dV ?_|refine fG ?_|refine stA ?_|refine stD ?_|fail)
 exact hq.out):p:=h ⟨hq⟩
theorem qK (h:KeptC q->p:=by
 intro hq
 (first|refine aJ [0,1,2,3,4] ?_|((with_reducible refine cK ?_);refine yA ?_;refine bL (cL rfl) rfl ?_)|refine stA ?_|fail)
 exact hq.out):p:=h ⟨hq⟩
theorem aA7 (h:KeptC q->p:=by
 intro hq
 (first|refine aJ [0,2,3,5,6,7,8] ?_|((with_reducible refine aX ?_);refine yA ?_;refine bL (aW (T:=49) aB rfl rfl rfl) rfl ?_)|refine cV ?_|refine eT ?_|refine stA ?_|fail)
 exact hq.out):p:=h ⟨hq⟩
theorem bT0 (h:KeptC q->p:=by
 intro hq
 (first|refine aJ [0,2] ?_|((with_reducible refine rC ?_);(refine wR aB aD rfl rfl rfl rfl rfl rfl rfl rfl (by first|rfl|simp) rfl dP6 (by simp only [maxLen];omega) (by omega) ?_))|(((with_reducible refine bU ?_);refine xA ?_);(first|((with_reducible refine bR ?_);(first|refine aI (aR1 aB rfl rfl rfl rfl) ?_))))|refine stA ?_|fail)
 exact hq.out):p:=h ⟨hq⟩
theorem cY8 (h:KeptC q->p:=by
 intro hq
 (first|refine bE [0,1,3,4,7,8,50] ?_|((first|((with_reducible refine gM ?_);refine xA ?_)|((with_reducible refine iE ?_);refine xD ?_));refine aI (nT (k:=plan) ktI aB rfl rfl gP rfl rfl rfl trivial (fun _ _=>trivial) hb) ?_)|((first|((with_reducible refine gM ?_);refine xA ?_)|((with_reducible refine iE ?_);refine xD ?_));refine aI (nT (k:=plan) ktI aB rfl rfl gP rfl rfl rfl trivial (fun _ _=>trivial) hc) ?_)|refine dV ?_|refine stA ?_|refine stD ?_|fail)
 exact hq.out):p:=h ⟨hq⟩
theorem cY9 (h:KeptC q->p:=by
 intro hq
 (first|refine aJ [0,2,3,4,5,6] ?_|(((with_reducible refine bU ?_);refine xA ?_);(first|((with_reducible refine bR ?_);(first|refine aI (aR0 hc8 rfl rfl) ?_|refine aI (cJ0 rfl rfl h7 h63 hsh) ?_|refine aI (dI3 hsx hu hss rfl rfl) ?_|refine aI (aZ3 (m:=1) rfl rfl rfl (by decide)) ?_|refine aI (cH8 hss rfl rfl) ?_))|((with_reducible refine tS ?_);(first|refine aI (iO aB rfl rfl rfl rfl (aT7 (by omega) (by omega))) ?_))))|refine cV ?_|refine stA ?_|fail)
 exact hq.out):p:=h ⟨hq⟩
theorem bT1 (h:KeptC q->p:=by
 intro hq
 (first|refine bE [0,1,3,4,5,6,7,8,51,52,53,81,82,83] ?_|((first|((with_reducible refine gM ?_);refine xA ?_)|((with_reducible refine iE ?_);refine xD ?_));refine aI (mL (k:=(⟨vt,vc,vs'⟩:Ver)) ktV aB rfl rfl gP rfl rfl rfl hok hoV hm) ?_)|refine dV ?_|refine fG ?_|refine stA ?_|refine stD ?_|fail)
 exact hq.out):p:=h ⟨hq⟩
theorem aM0 (h:KeptC q->p:=by
 intro hq
 (first|refine bE [0,1,3,4,7,8,50] ?_|((with_reducible refine cK ?_);refine yA ?_;refine bL (cL rfl) rfl ?_)|refine dV ?_|refine stA ?_|refine stD ?_|fail)
 exact hq.out):p:=h ⟨hq⟩
theorem cZ0 (h:KeptC q->p:=by
 intro hq
 (first|refine aJ [0,1,3,4,5,6] ?_|((with_reducible refine bB (i:=3) ?_);refine aY [0,1,3,4,5,6] rfl rfl ?_;refine dG [] ?_)|((with_reducible refine bB ?_);refine aY [0,1,3,4,5,6] rfl rfl ?_;refine dE [] ?_)|((with_reducible refine cK ?_);refine yA ?_;refine bL (cL rfl) rfl ?_)|(refine eZ ?_;refine c0 hh ?_)|refine stA ?_|refine stD ?_|refine stE ?_|fail)
 exact hq.out):p:=h ⟨hq⟩
theorem cZ1 (h:KeptC q->p:=by
 intro hq
 (first|refine bE [0,1,3,4,5] ?_|((first|((with_reducible refine bU ?_);refine xA ?_)|((with_reducible refine cR ?_);refine xD ?_));(first|((with_reducible refine bR ?_);(first|refine aI (uG (by kernel_rfl) (m:=3) rfl (by kernel_rfl) (by kernel_rfl) (by kernel_rfl) (by kernel_rfl) (by kernel_rfl) rfl rfl (hcx x) (hcx v) lx lv (cL2 heq)) ?_))))|refine fG ?_|refine stA ?_|refine stD ?_|fail)
 exact hq.out):p:=h ⟨hq⟩
theorem cZ2 (h:KeptC q->p:=by
 intro hq
 (first|refine bE [0,1,3,4,5] ?_|((first|((with_reducible refine bU ?_);refine xA ?_)|((with_reducible refine cR ?_);refine xD ?_));(first|((with_reducible refine bR ?_);(first|refine aI (uG (by kernel_rfl) (m:=3) rfl (by kernel_rfl) (by kernel_rfl) (by kernel_rfl) (by kernel_rfl) (by kernel_rfl) rfl rfl (hcx x) (hcx v) lx lv (cL1 heq)) ?_))))|refine fG ?_|refine stA ?_|refine stD ?_|fail)
 exact hq.out):p:=h ⟨hq⟩
theorem cZ3 (h:KeptC q->p:=by
 intro hq
 (first|refine bE [0,1,4,5] ?_|((first|((with_reducible refine bU ?_);refine xA ?_)|((with_reducible refine cR ?_);refine xD ?_));(first|((with_reducible refine bR ?_);(first|refine aI (pJ (by kernel_rfl) (m:=3) rfl (by kernel_rfl) (by kernel_rfl) (by kernel_rfl) (by kernel_rfl) (by kernel_rfl) rfl rfl (hcx x) (hcx x) lx lx wO) ?_))))|refine fG ?_|refine stA ?_|refine stD ?_|fail)
 exact hq.out):p:=h ⟨hq⟩
theorem bT2 (h:KeptC q->p:=by
 intro hq
 (first|refine bE [0,1,3,4,5,6,7,8,9,10,11,12,13,14,15,16,17] ?_|((with_reducible refine aX ?_);refine yA ?_;refine bL (aW (T:=49) aB rfl rfl rfl) rfl ?_)|(refine dU ?_;refine c0 hri ?_)|refine stA ?_|refine stD ?_|fail)
 exact hq.out):p:=h ⟨hq⟩
theorem nY (h:KeptC q->p:=by
 intro hq
 (first|refine bE [0,2,3,4,5] ?_|refine stA ?_|refine stD ?_|fail)
 exact hq.out):p:=h ⟨hq⟩
theorem cZ4 (h:KeptC q->p:=by
 intro hq
 (first|refine aJ [0,1,4,6,7,8,9,10] ?_|(((with_reducible refine bU ?_);refine xA ?_);(first|((with_reducible refine tS ?_);(first|refine aI (cI0 aB rfl rfl rfl rfl) ?_))|((with_reducible refine bR ?_);(first|refine aI (cW3 hlt8 rfl rfl) ?_|refine aI (aZ3 (m:=7) rfl rfl rfl (by decide)) ?_))))|refine stA ?_|fail)
 exact hq.out):p:=h ⟨hq⟩
theorem uK (h:KeptC q->p:=by
 intro hq
 (first|refine bE [0,1,3,4,7,8,50] ?_|refine dV ?_|refine stA ?_|refine stD ?_|fail)
 exact hq.out):p:=h ⟨hq⟩
theorem cZ5 (h:KeptC q->p:=by
 intro hq
 (first|refine bE [0,1,3,4,5,6,7,8,51,52,53,81,82,83] ?_|((first|((with_reducible refine gM ?_);refine xA ?_)|((with_reducible refine iE ?_);refine xD ?_));refine aI (nT (k:=(⟨vt,vs'⟩:Src)) ktS aB rfl rfl gP rfl rfl rfl hok hoS hm) ?_)|refine dV ?_|refine fG ?_|refine stA ?_|refine stD ?_|fail)
 exact hq.out):p:=h ⟨hq⟩
theorem cZ6 (h:KeptC q->p:=by
 intro hq
 (first|refine aJ [0,1,3,4,13] ?_|((with_reducible refine aH ?_);refine cY (i1) aD rfl zby rfl rfl zln rfl zcv (bH _) ?_)|((with_reducible refine aH ?_);refine cY (i2) aD rfl zby rfl rfl zln rfl zcv (bH _) ?_)|refine tB ?_|(refine dR ?_;refine c0 hcl ?_)|refine stA ?_|fail)
 exact hq.out):p:=h ⟨hq⟩
theorem bT3 (h:KeptC q->p:=by
 intro hq
 (first|refine aJ [0,1,4,5,7,8,9,10] ?_|((with_reducible refine aX ?_);refine yA ?_;refine bL (aW (T:=49) aB rfl rfl rfl) rfl ?_)|refine cV ?_|refine eT ?_|refine stA ?_|fail)
 exact hq.out):p:=h ⟨hq⟩
theorem cZ7 (h:KeptC q->p:=by
 intro hq
 (first|refine bE [0,1,3,4,7,8,50] ?_|((first|((with_reducible refine gM ?_);refine xA ?_)|((with_reducible refine iE ?_);refine xD ?_));refine aI (mL (k:=plan) ktI aB rfl rfl gP rfl rfl rfl trivial (fun _ _=>trivial) hb) ?_)|refine dV ?_|refine stA ?_|refine stD ?_|fail)
 exact hq.out):p:=h ⟨hq⟩
theorem bT4 (h:KeptC q->p:=by
 intro hq
 (first|refine aJ [0,2] ?_|(((with_reducible refine bU ?_);refine xA ?_);(first|((with_reducible refine bR ?_);(first|refine aI (cI1 aB hp rfl rfl rfl rfl) ?_))))|refine stA ?_|fail)
 exact hq.out):p:=h ⟨hq⟩
theorem bB8 (h:KeptC q->p:=by
 intro hq
 (first|refine bE [0,1,3,4,5] ?_|((with_reducible refine cK ?_);refine yA ?_;refine bL (cL rfl) rfl ?_)|refine stA ?_|refine stD ?_|fail)
 exact hq.out):p:=h ⟨hq⟩
theorem bT5 (h:KeptC q->p:=by
 intro hq
 (first|refine aJ [0,2] ?_|(((with_reducible refine bU ?_);refine xA ?_);(first|((with_reducible refine bR ?_);(first|refine aI (aR1 aB rfl rfl rfl rfl) ?_))))|refine stA ?_|fail)
 exact hq.out):p:=h ⟨hq⟩
theorem cZ8 (h:KeptC q->p:=by
 intro hq
 (first|refine bE [0,1,3,4,5,6,7,8,9,10,11,12,13,14,15,16,17] ?_|((with_reducible refine aX ?_);refine yA ?_;refine bL (aW (T:=49) aB rfl rfl rfl) rfl ?_)|(refine dU ?_;first|refine c0 hri ?_|refine c0 hre ?_)|refine stA ?_|refine stD ?_|fail)
 exact hq.out):p:=h ⟨hq⟩
theorem cZ9 (h:KeptC q->p:=by
 intro hq
 (first|refine iA [0,2,3] ?_|((with_reducible refine aH ?_);refine aU (a2) aD rfl zby rfl rfl rfl rfl zcv rfl ztp ?_)|((with_reducible refine cH ?_);refine cO6 (a2) aD rfl rfl zby rfl rfl rfl rfl zcv rfl ztp rfl ?_)|refine stA ?_|refine stE ?_|fail)
 exact hq.out):p:=h ⟨hq⟩
theorem dA0 (h:KeptC q->p:=by
 intro hq
 (first|refine aJ [0,2,3,8] ?_|((with_reducible refine aH ?_);refine aU (a1) aD rfl zby rfl rfl rfl rfl zcv rfl ztp ?_)|((with_reducible refine aH ?_);refine aU (a2) aD rfl zby rfl rfl rfl rfl zcv rfl ztp ?_)|refine stA ?_|fail)
 exact hq.out):p:=h ⟨hq⟩
theorem dA1 (h:KeptC q->p:=by
 intro hq
 (first|refine aJ [0,2,3] ?_|((with_reducible refine aH ?_);refine aU (a1) aD rfl zby rfl rfl rfl rfl zcv rfl ztp ?_)|((with_reducible refine aH ?_);refine aU (a2) aD rfl zby rfl rfl rfl rfl zcv rfl ztp ?_)|refine stA ?_|fail)
 exact hq.out):p:=h ⟨hq⟩
theorem dA2 (h:KeptC q->p:=by
 intro hq
 (first|refine aJ [0,1,2,3,4,5,7,14,15,16] ?_|((with_reducible refine aX ?_);refine yA ?_;refine bL (aW (T:=49) aB rfl rfl rfl) rfl ?_)|(refine dR ?_;refine c0 hcl ?_)|refine eT ?_|refine stA ?_|fail)
 exact hq.out):p:=h ⟨hq⟩
theorem bB9 (h:KeptC q->p:=by
 intro hq
 (first|refine bE [0,1,3,4,5,6,7,8,51,52,53,81,82,83] ?_|refine dV ?_|refine stA ?_|refine stD ?_|fail)
 exact hq.out):p:=h ⟨hq⟩
theorem dA3 (h:KeptC q->p:=by
 intro hq
 (first|refine aJ [0,2,3,5,6,7,8] ?_|(refine aU6 hac aD rfl zby h0' rfl rfl rfl rfl ?_)|((with_reducible refine aH ?_);refine tA (hcp) aD rfl zby (h0') rfl rfl (rfl) rfl zcv ?_)|refine stA ?_|fail)
 exact hq.out):p:=h ⟨hq⟩
theorem dA4 (h:KeptC q->p:=by
 intro hq
 (first|refine aJ [0,2,3,5,6,8,10,11,12,23,24,25] ?_|((with_reducible refine aX ?_);refine yA ?_;refine bL (aW (T:=49) aB rfl rfl rfl) rfl ?_)|refine cV ?_|refine eT ?_|refine stA ?_|fail)
 exact hq.out):p:=h ⟨hq⟩
theorem dA5 (h:KeptC q->p:=by
 intro hq
 (first|refine aJ [0,1,4,6,12,13,14] ?_|((with_reducible refine aH ?_);refine cY (i2) aD rfl zby rfl rfl zln rfl zcv (bH _) ?_)|refine tB ?_|refine eT ?_|refine stA ?_|fail)
 exact hq.out):p:=h ⟨hq⟩
theorem dA6 (h:KeptC q->p:=by
 intro hq
 (first|refine aJ [0,1,4,6,7,8,9] ?_|((with_reducible refine aX ?_);refine yA ?_;refine bL (aW (T:=49) aB rfl rfl rfl) rfl ?_)|refine cV ?_|refine eT ?_|refine stA ?_|fail)
 exact hq.out):p:=h ⟨hq⟩
theorem bC0 (h:KeptC q->p:=by
 intro hq
 (first|refine aJ [0,2,3] ?_|(refine dR ?_;refine c0 hsm ?_)|refine eT ?_|refine stA ?_|fail)
 exact hq.out):p:=h ⟨hq⟩
theorem dA7 (h:KeptC q->p:=by
 intro hq
 (first|refine bE [0,1,3,4,5,6,7,8,51,52,53,81,82,83] ?_|((with_reducible refine cK ?_);refine yA ?_;refine bL (cL rfl) rfl ?_)|refine dV ?_|refine stA ?_|refine stD ?_|fail)
 exact hq.out):p:=h ⟨hq⟩
theorem dA8 (h:KeptC q->p:=by
 intro hq
 (first|refine bE [0,1,3,4,5,6] ?_|((with_reducible refine cK ?_);refine yA ?_;refine bL (cL rfl) rfl ?_)|(refine dU ?_;refine c0 hh ?_)|refine stA ?_|refine stD ?_|fail)
 exact hq.out):p:=h ⟨hq⟩
theorem uL (h:KeptC q->p:=by
 intro hq
 (first|refine aJ [0,2,3,4,5] ?_|refine stA ?_|fail)
 exact hq.out):p:=h ⟨hq⟩
theorem dA9 (h:KeptC q->p:=by
 intro hq
 (first|refine aJ [0,1,4,6,12,13,14] ?_|((with_reducible refine aH ?_);refine cY (i1) aD rfl zby rfl rfl zln rfl zcv (bH _) ?_)|refine tB ?_|refine stA ?_|fail)
 exact hq.out):p:=h ⟨hq⟩
theorem aA8 (h:KeptC q->p:=by
 intro hq
 (first|refine bE [0,1,4,5] ?_|refine stA ?_|refine stD ?_|fail)
 exact hq.out):p:=h ⟨hq⟩
theorem uM (h:KeptC q->p:=by
 intro hq
 (first|refine aJ [0,2,3,4] ?_|refine stA ?_|fail)
 exact hq.out):p:=h ⟨hq⟩
theorem bT6 (h:KeptC q->p:=by
 intro hq
 (first|refine aJ [0,1,4,5,6] ?_|(refine dR ?_;first|refine c0 h1 ?_|refine c0 h2 ?_)|refine stA ?_|fail)
 exact hq.out):p:=h ⟨hq⟩
theorem bC1 (h:KeptC q->p:=by
 intro hq
 (first|refine bE [0,1,4,5,6,7] ?_|refine dV ?_|refine stA ?_|refine stD ?_|fail)
 exact hq.out):p:=h ⟨hq⟩
theorem aM1 (h:KeptC q->p:=by
 intro hq
 (first|refine aJ [0,1,2,6,7] ?_|refine cV ?_|refine stA ?_|fail)
 exact hq.out):p:=h ⟨hq⟩
theorem aA9 (h:KeptC q->p:=by
 intro hq
 (first|refine aJ [0,2,3,5,6,7,8] ?_|refine stA ?_|fail)
 exact hq.out):p:=h ⟨hq⟩
theorem dB0 (h:KeptC q->p:=by
 intro hq
 (first|refine bE [0,1,2,4,5] ?_|(refine dU ?_;first|refine c0 hva ?_|refine c0 hcl ?_|refine c1 hj ?_)|refine stA ?_|refine stD ?_|fail)
 exact hq.out):p:=h ⟨hq⟩
theorem dB1 (h:KeptC q->p:=by
 intro hq
 (first|refine bE [0,1,2,4,5] ?_|(refine dU ?_;first|refine c0 hva ?_|refine c0 hcl ?_)|refine stA ?_|refine stD ?_|fail)
 exact hq.out):p:=h ⟨hq⟩
theorem dB2 (h:KeptC q->p:=by
 intro hq
 (first|refine aJ [0,1,2,3] ?_|(refine dR ?_;first|refine c0 hva ?_|refine c0 hcl ?_|refine c1 hj ?_)|refine stA ?_|fail)
 exact hq.out):p:=h ⟨hq⟩
theorem bC2 (h:KeptC q->p:=by
 intro hq
 (first|refine aJ [0,1,4,5,6] ?_|refine cV ?_|refine stA ?_|fail)
 exact hq.out):p:=h ⟨hq⟩
theorem bC3 (h:KeptC q->p:=by
 intro hq
 (first|refine aJ [0,2,3,4,5] ?_|refine cV ?_|refine stA ?_|fail)
 exact hq.out):p:=h ⟨hq⟩
theorem bT7 (h:KeptC q->p:=by
 intro hq
 (first|refine aJ [0,1,2,4,5] ?_|(refine dR ?_;refine c0 hva ?_)|refine stA ?_|fail)
 exact hq.out):p:=h ⟨hq⟩
theorem dB3 (h:KeptC q->p:=by
 intro hq
 (first|refine bE [0,1,3,4,5,6] ?_|(refine dU ?_;refine c0 hle ?_)|refine fG ?_|refine stA ?_|refine stD ?_|fail)
 exact hq.out):p:=h ⟨hq⟩
theorem bT8 (h:KeptC q->p:=by
 intro hq
 (first|refine aJ [0,1,2,3] ?_|(refine dR ?_;refine c0 hva ?_)|refine stA ?_|fail)
 exact hq.out):p:=h ⟨hq⟩
theorem dB4 (h:KeptC q->p:=by
 intro hq
 (first|refine aJ [0,2,3,4,5] ?_|(refine dR ?_;refine c0 hins ?_)|refine cV ?_|refine eT ?_|refine stA ?_|fail)
 exact hq.out):p:=h ⟨hq⟩
theorem bC4 (h:KeptC q->p:=by
 intro hq
 (first|refine aJ [0,2,3,4] ?_|refine cV ?_|refine stA ?_|fail)
 exact hq.out):p:=h ⟨hq⟩
theorem bT9 (h:KeptC q->p:=by
 intro hq
 (first|refine aJ [0,2,3,4] ?_|refine cV ?_|refine eT ?_|refine stA ?_|fail)
 exact hq.out):p:=h ⟨hq⟩
theorem bU0 (h:KeptC q->p:=by
 intro hq
 (first|refine aJ [0,1,4] ?_|(refine dR ?_;refine c0 h ?_)|refine stA ?_|fail)
 exact hq.out):p:=h ⟨hq⟩
theorem aM2 (h:KeptC q->p:=by
 intro hq
 (first|refine aJ [0,1,4,5,6] ?_|refine stA ?_|fail)
 exact hq.out):p:=h ⟨hq⟩
theorem bC5 (h:KeptC q->p:=by
 intro hq
 (first|refine aJ [0,1,4,6,7,8,9,10] ?_|refine stA ?_|fail)
 exact hq.out):p:=h ⟨hq⟩
theorem dB5 (h:KeptC q->p:=by
 intro hq
 (first|refine aJ [0,1,2,3] ?_|(refine dR ?_;first|refine c0 hva ?_|refine c0 hcl ?_)|refine stA ?_|fail)
 exact hq.out):p:=h ⟨hq⟩
theorem aM3 (h:KeptC q->p:=by
 intro hq
 (first|refine aJ [0,2,3] ?_|refine stA ?_|fail)
 exact hq.out):p:=h ⟨hq⟩
theorem bU1 (h:KeptC q->p:=by
 intro hq
 (first|refine bE [0,1,4,5,6,7] ?_|refine stA ?_|refine stD ?_|fail)
 exact hq.out):p:=h ⟨hq⟩
theorem bU2 (h:KeptC q->p:=by
 intro hq
 (first|refine aJ [0,1,4,5] ?_|refine cV ?_|refine stA ?_|fail)
 exact hq.out):p:=h ⟨hq⟩
end
theorem aE {A B p q:Prop} (_:A) (_:B) (hq:q) (h:KeptC q->p:=by
 intro hq
 (first|refine hK _ _ _ _ ?_|refine hX _ _ _ _ _ dK2 ?_|fail)
 exact hq.out):p:=h ⟨hq⟩
section
variable {p:Prop}
include p
theorem eA7 (h:p:=by first|((refine cE rfl ?_ ?_ rfl<;>(repeat' (first|exact bF|exact bG|refine bC rfl (by first|rfl|(first|rfl|exact congrArg (fun x:Nat=>AV.c (iv x)) aA|exact congrArg (fun x:Int=>AV.c (iv x)) aA|exact congrArg (AObj.row _) hset)|exact zeq) rfl ?_|refine aN rfl (by first|rfl|(first|rfl|exact congrArg (fun x:Nat=>AV.c (iv x)) aA|exact congrArg (fun x:Int=>AV.c (iv x)) aA|exact congrArg (AObj.row _) hset)|exact zeq) rfl ?_|refine aN rfl (by first|rfl|(first|rfl|exact congrArg (fun x:Nat=>AV.c (iv x)) aA|exact congrArg (fun x:Int=>AV.c (iv x)) aA|exact congrArg (AObj.row _) hset)) bM ?_)))<;>fail)|fail):p:=h
theorem dR3 (h:p:=by first|((refine cE rfl ?_ ?_ rfl<;>(repeat' (first|exact bF|exact bG|refine bC rfl (by first|rfl|(first|rfl|exact congrArg (fun x=>AV.own 0 0 x 10 true) ho0.symm|exact congrArg (fun x=>AObj.row _ (x.flatMap lkV)) hD0.symm)|exact zeq) rfl ?_|refine aN rfl (by first|rfl|(first|rfl|exact congrArg (fun x=>AV.own 0 0 x 10 true) ho0.symm|exact congrArg (fun x=>AObj.row _ (x.flatMap lkV)) hD0.symm)|exact zeq) rfl ?_|refine aN rfl (by first|rfl|(first|rfl|exact congrArg (fun x=>AV.own 0 0 x 10 true) ho0.symm|exact congrArg (fun x=>AObj.row _ (x.flatMap lkV)) hD0.symm)) bM ?_)))<;>fail)|fail):p:=h
theorem dR4 (h:p:=by first|((refine cE rfl ?_ ?_ rfl<;>(repeat' (first|exact bF|exact bG|refine bC rfl (by first|rfl|(first|rfl|exact congrArg (fun x=>AV.own 0 0 x 8 true) ho0.symm|exact congrArg (fun x=>AObj.row _ (x.flatMap rqV)) hD0.symm)|exact zeq) rfl ?_|refine aN rfl (by first|rfl|(first|rfl|exact congrArg (fun x=>AV.own 0 0 x 8 true) ho0.symm|exact congrArg (fun x=>AObj.row _ (x.flatMap rqV)) hD0.symm)|exact zeq) rfl ?_|refine aN rfl (by first|rfl|(first|rfl|exact congrArg (fun x=>AV.own 0 0 x 8 true) ho0.symm|exact congrArg (fun x=>AObj.row _ (x.flatMap rqV)) hD0.symm)) bM ?_)))<;>fail)|fail):p:=h
theorem dR5 (h:p:=by first|((refine cE rfl ?_ ?_ rfl<;>(repeat' (first|exact bF|exact bG|refine bC rfl (by first|rfl|(first|rfl|exact congrArg (fun x=>AV.own 0 0 x 10 true) hso.symm|exact congrArg (fun x=>AObj.row _ (x.flatMap lkV)) hs.symm)|exact zeq) rfl ?_|refine aN rfl (by first|rfl|(first|rfl|exact congrArg (fun x=>AV.own 0 0 x 10 true) hso.symm|exact congrArg (fun x=>AObj.row _ (x.flatMap lkV)) hs.symm)|exact zeq) rfl ?_|refine aN rfl (by first|rfl|(first|rfl|exact congrArg (fun x=>AV.own 0 0 x 10 true) hso.symm|exact congrArg (fun x=>AObj.row _ (x.flatMap lkV)) hs.symm)) bM ?_)))<;>fail)|fail):p:=h
theorem dR6 (h:p:=by first|((refine cE rfl ?_ ?_ rfl<;>(repeat' (first|exact bF|exact bG|refine bC rfl (by first|rfl|(first|rfl|exact congrArg (fun x=>AV.own 0 0 x 9 true) ho0.symm|exact congrArg (fun x=>AObj.row _ (x.flatMap hdV)) hD0.symm)|exact zeq) rfl ?_|refine aN rfl (by first|rfl|(first|rfl|exact congrArg (fun x=>AV.own 0 0 x 9 true) ho0.symm|exact congrArg (fun x=>AObj.row _ (x.flatMap hdV)) hD0.symm)|exact zeq) rfl ?_|refine aN rfl (by first|rfl|(first|rfl|exact congrArg (fun x=>AV.own 0 0 x 9 true) ho0.symm|exact congrArg (fun x=>AObj.row _ (x.flatMap hdV)) hD0.symm)) bM ?_)))<;>fail)|fail):p:=h
theorem dR7 (h:p:=by first|((refine cE rfl ?_ ?_ rfl<;>(repeat' (first|exact bF|exact bG|refine bC rfl (by first|rfl|(first|rfl|exact congrArg (fun x=>AV.own 0 0 x 8 true) hso.symm|exact congrArg (fun x=>AObj.row _ (x.flatMap rqV)) hs.symm)|exact zeq) rfl ?_|refine aN rfl (by first|rfl|(first|rfl|exact congrArg (fun x=>AV.own 0 0 x 8 true) hso.symm|exact congrArg (fun x=>AObj.row _ (x.flatMap rqV)) hs.symm)|exact zeq) rfl ?_|refine aN rfl (by first|rfl|(first|rfl|exact congrArg (fun x=>AV.own 0 0 x 8 true) hso.symm|exact congrArg (fun x=>AObj.row _ (x.flatMap rqV)) hs.symm)) bM ?_)))<;>fail)|fail):p:=h
theorem dR8 (h:p:=by first|((refine cE rfl ?_ ?_ rfl<;>(repeat' (first|exact bF|exact bG|refine bC rfl (by first|rfl|(first|rfl|exact congrArg (fun x=>AV.own 0 0 x 9 true) hso.symm|exact congrArg (fun x=>AObj.row _ (x.flatMap hdV)) hs.symm)|exact zeq) rfl ?_|refine aN rfl (by first|rfl|(first|rfl|exact congrArg (fun x=>AV.own 0 0 x 9 true) hso.symm|exact congrArg (fun x=>AObj.row _ (x.flatMap hdV)) hs.symm)|exact zeq) rfl ?_|refine aN rfl (by first|rfl|(first|rfl|exact congrArg (fun x=>AV.own 0 0 x 9 true) hso.symm|exact congrArg (fun x=>AObj.row _ (x.flatMap hdV)) hs.symm)) bM ?_)))<;>fail)|fail):p:=h
theorem dS0 (h:p:=by first|((refine cE rfl ?_ ?_ rfl<;>(repeat' (first|exact bF|exact bG|refine bC rfl (by first|rfl|(first|rfl|exact congrArg (fun x=>AV.own 0 0 x 1 true) hso.symm|exact congrArg (fun x=>AObj.row _ (bO .i64 x)) hs.symm)|exact zeq) rfl ?_|refine aN rfl (by first|rfl|(first|rfl|exact congrArg (fun x=>AV.own 0 0 x 1 true) hso.symm|exact congrArg (fun x=>AObj.row _ (bO .i64 x)) hs.symm)|exact zeq) rfl ?_|refine aN rfl (by first|rfl|(first|rfl|exact congrArg (fun x=>AV.own 0 0 x 1 true) hso.symm|exact congrArg (fun x=>AObj.row _ (bO .i64 x)) hs.symm)) bM ?_)))<;>fail)|fail):p:=h
theorem dS2 (h:p:=by first|((refine cE rfl ?_ ?_ rfl<;>(repeat' (first|exact bF|exact bG|refine bC rfl (by first|rfl|(first|rfl|exact congrArg (fun x=>AV.own 1 0 x 1 true) hso.symm|exact congrArg (fun x=>AObj.row _ (bO .i64 x)) hs.symm)|exact zeq) rfl ?_|refine aN rfl (by first|rfl|(first|rfl|exact congrArg (fun x=>AV.own 1 0 x 1 true) hso.symm|exact congrArg (fun x=>AObj.row _ (bO .i64 x)) hs.symm)|exact zeq) rfl ?_|refine aN rfl (by first|rfl|(first|rfl|exact congrArg (fun x=>AV.own 1 0 x 1 true) hso.symm|exact congrArg (fun x=>AObj.row _ (bO .i64 x)) hs.symm)) bM ?_)))<;>fail)|fail):p:=h
theorem bU5 (h:p:=by first|((refine cE rfl ?_ ?_ rfl<;>(repeat' (first|exact bF|exact bG|refine bC rfl (by first|rfl|(first|exact congrArg (fun x=>AV.c (iv x)) aA|exact congrArg (AObj.row _) hs2)|exact zeq) rfl ?_|refine aN rfl (by first|rfl|(first|exact congrArg (fun x=>AV.c (iv x)) aA|exact congrArg (AObj.row _) hs2)|exact zeq) rfl ?_|refine aN rfl (by first|rfl|(first|exact congrArg (fun x=>AV.c (iv x)) aA|exact congrArg (AObj.row _) hs2)) bM ?_)))<;>fail)|fail):p:=h
theorem bU7 (h:p:=by first|((refine cE rfl ?_ ?_ rfl<;>(repeat' (first|exact bF|exact bG|refine bC rfl (by first|rfl|(first|exact congrArg (fun x=>AV.c (iv x)) aA|exact congrArg (AObj.row _) hL)|exact zeq) rfl ?_|refine aN rfl (by first|rfl|(first|exact congrArg (fun x=>AV.c (iv x)) aA|exact congrArg (AObj.row _) hL)|exact zeq) rfl ?_|refine aN rfl (by first|rfl|(first|exact congrArg (fun x=>AV.c (iv x)) aA|exact congrArg (AObj.row _) hL)) bM ?_)))<;>fail)|fail):p:=h
theorem bU8 (h:p:=by first|((refine cE rfl ?_ ?_ rfl<;>(repeat' (first|exact bF|exact bG|refine bC rfl (by first|rfl|(first|rfl|exact congrArg (fun x:Int=>AV.c (iv x)) aA)|exact zeq) rfl ?_|refine aN rfl (by first|rfl|(first|rfl|exact congrArg (fun x:Int=>AV.c (iv x)) aA)|exact zeq) rfl ?_|refine aN rfl (by first|rfl|(first|rfl|exact congrArg (fun x:Int=>AV.c (iv x)) aA)) bM ?_)))<;>fail)|fail):p:=h
theorem bU9 (h:p:=by first|((refine cE rfl ?_ ?_ rfl<;>(repeat' (first|exact bF|exact bG|refine bC rfl (by first|rfl|(first|rfl|exact congrArg (AObj.row _) aI2)|exact zeq) rfl ?_|refine aN rfl (by first|rfl|(first|rfl|exact congrArg (AObj.row _) aI2)|exact zeq) rfl ?_|refine aN rfl (by first|rfl|(first|rfl|exact congrArg (AObj.row _) aI2)) bM ?_)))<;>fail)|fail):p:=h
theorem eD (h:p:=by first|((first|assumption|with_reducible exact gd1 eX|with_reducible exact gd2 eX|with_reducible exact gd3 eX|with_reducible exact gd4 eX|with_reducible rfl|rfl|((first|with_reducible refine gd1 ?_|with_reducible refine gd2 ?_|with_reducible refine gd3 ?_|with_reducible refine gd4 ?_);omega)|(simp only [*]<;>fail)|fail)<;>fail)|fail):p:=h
theorem bC9 (h:p:=by first|((refine cE rfl ?_ ?_ rfl<;>(repeat' (first|exact bF|exact bG|refine bC rfl (by first|rfl|(first|rfl|(rw [ho0,hD0];rfl))|exact zeq) rfl ?_|refine aN rfl (by first|rfl|(first|rfl|(rw [ho0,hD0];rfl))|exact zeq) rfl ?_|refine aN rfl (by first|rfl|(first|rfl|(rw [ho0,hD0];rfl))) bM ?_)))<;>fail)|fail):p:=h
theorem dB6 (h:p:=by first|((refine eV [0,1,2,6] rfl rfl ?_ ?_ rfl rfl<;>(repeat' (first|exact dA|exact cM|refine cP rfl bD1 rfl ?_|refine bP rfl bD1 rfl ?_)))<;>fail)|fail):p:=h
theorem dB7 (h:p:=by first|((refine cE rfl ?_ ?_ rfl<;>(repeat' (first|exact bF|exact bG|refine bC rfl (by first|rfl|(first|rfl|(rw [hf0,hF0]))|exact zeq) rfl ?_|refine aN rfl (by first|rfl|(first|rfl|(rw [hf0,hF0]))|exact zeq) rfl ?_|refine aN rfl (by first|rfl|(first|rfl|(rw [hf0,hF0]))) bM ?_)))<;>fail)|fail):p:=h
theorem dR2 (h:p:=by first|((refine cE rfl ?_ ?_ rfl<;>(repeat' (first|exact bF|exact bG|refine bC rfl (by first|rfl|(first|rfl|(rw [hos,hs]))|exact zeq) rfl ?_|refine aN rfl (by first|rfl|(first|rfl|(rw [hos,hs]))|exact zeq) rfl ?_|refine aN rfl (by first|rfl|(first|rfl|(rw [hos,hs]))) bM ?_)))<;>fail)|fail):p:=h
theorem dB8 (h:p:=by first|((refine eV [0,3] rfl rfl ?_ ?_ rfl rfl<;>(repeat' (first|exact dA|exact cM|refine cP rfl (by first|rfl|(exact congrArg (AObj.row 5) (aC4 l x _ aA))|exact zeq) rfl ?_|refine bP rfl (by first|rfl|(exact congrArg (AObj.row 5) (aC4 l x _ aA))|exact zeq) rfl ?_)))<;>fail)|fail):p:=h
theorem dB9 (h:p:=by first|((refine cE rfl ?_ ?_ rfl<;>(repeat' (first|exact bF|exact bG|refine bC rfl (by first|rfl|(first|rfl|(rw [hs]))|exact zeq) rfl ?_|refine aN rfl (by first|rfl|(first|rfl|(rw [hs]))|exact zeq) rfl ?_|refine aN rfl (by first|rfl|(first|rfl|(rw [hs]))) bM ?_)))<;>fail)|fail):p:=h
theorem dC0 (h:p:=by first|((refine eV [0,3] rfl rfl ?_ ?_ rfl rfl<;>(repeat' (first|exact dA|exact cM|refine cP rfl (by first|rfl|(exact congrArg (AObj.row 5) (aC2 l x hlt))|exact zeq) rfl ?_|refine bP rfl (by first|rfl|(exact congrArg (AObj.row 5) (aC2 l x hlt))|exact zeq) rfl ?_)))<;>fail)|fail):p:=h
theorem bV0 (h:p:=by first|((refine cE rfl ?_ ?_ rfl<;>(repeat' (first|exact bF|exact bG|refine bC rfl (by first|rfl|(exact congrArg (AObj.row _) (bE5 S 32 i hlt))|exact zeq) rfl ?_|refine aN rfl (by first|rfl|(exact congrArg (AObj.row _) (bE5 S 32 i hlt))|exact zeq) rfl ?_)))<;>fail)|fail):p:=h
theorem dC1 (h:p:=by first|((refine eV [0,4] rfl rfl ?_ ?_ rfl rfl<;>(repeat' (first|exact dA|exact cM|refine cP rfl (by first|rfl|(exact congrArg (AObj.row _) hsn)|exact zeq) rfl ?_|refine bP rfl (by first|rfl|(exact congrArg (AObj.row _) hsn)|exact zeq) rfl ?_)))<;>fail)|fail):p:=h
theorem dP (h:p:=by first|((refine cE rfl ?_ ?_ rfl<;>(repeat' (first|exact bF|exact bG|refine bC rfl uP rfl ?_|refine aN rfl uP rfl ?_|refine aN rfl (by first|rfl|(rfl)) bM ?_)))<;>fail)|fail):p:=h
theorem dC2 (h:p:=by first|((first|rfl|(first|rfl|exact congrArg (fun x:Nat=>AV.c (iv x)) (by rw [t1])|exact congrArg (fun x:Nat=>AV.c (iv x)) aA|exact congrArg (fun x:Int=>AV.c (iv x)) aA|exact congrArg (fun x=>AObj.row _ (bO .i64 x)) t2.symm)|exact zeq)<;>fail)|fail):p:=h
theorem dC3 (h:p:=by first|((first|rfl|(first|rfl|exact congrArg (fun x:Nat=>AV.c (iv x)) (by rw [t1])|exact congrArg (fun x:Nat=>AV.c (iv x)) aA|exact congrArg (fun x:Int=>AV.c (iv x)) aA|exact congrArg (fun x=>AObj.row _ (vrc x)) t2.symm)|exact zeq)<;>fail)|fail):p:=h
theorem dC4 (h:p:=by first|((first|rfl|(first|rfl|exact congrArg (fun x:Nat=>AV.c (iv x)) (by rw [t1])|exact congrArg (fun x:Nat=>AV.c (iv x)) aA|exact congrArg (fun x:Int=>AV.c (iv x)) aA|exact congrArg (fun x=>AObj.row _ (src x)) t2.symm)|exact zeq)<;>fail)|fail):p:=h
theorem dC5 (h:p:=by first|((refine eV [0,3] rfl rfl ?_ ?_ rfl rfl<;>(repeat' (first|exact dA|exact cM|refine cP rfl uP rfl ?_|refine bP rfl uP rfl ?_)))<;>fail)|fail):p:=h
theorem dC6 (h:p:=by first|((first|rfl|(first|exact congrArg (fun x:Nat=>AV.c (iv x)) (by rw [s1,hkl])|exact congrArg (fun x:Nat=>AV.c (iv x)) aA|exact congrArg (fun x=>AObj.row _ (bO .i64 x)) (by rw [s2,hkr]))|exact zeq)<;>fail)|fail):p:=h
theorem dC7 (h:p:=by first|((first|rfl|(first|exact congrArg (fun x:Nat=>AV.c (iv x)) (by rw [s1,hkl])|exact congrArg (fun x:Nat=>AV.c (iv x)) aA|exact congrArg (fun x=>AObj.row _ (vrc x)) (by rw [s2,hkr]))|exact zeq)<;>fail)|fail):p:=h
theorem dC8 (h:p:=by first|((first|rfl|(first|exact congrArg (fun x:Nat=>AV.c (iv x)) (by rw [s1,hkl])|exact congrArg (fun x:Nat=>AV.c (iv x)) aA|exact congrArg (fun x=>AObj.row _ (src x)) (by rw [s2,hkr]))|exact zeq)<;>fail)|fail):p:=h
theorem bD0 (h:p:=by first|((first|((repeat' (first|exact flcl_nil|exact vU _|exact flcl_int _ _|exact rA _|exact bE8|assumption|refine flcl_app ?_ ?_|refine flcl_cons ?_ ?_|refine aH2 ?_))<;>fail)|fail)<;>fail)|fail):p:=h
theorem bV1 (h:p:=by first|((first|assumption|with_reducible exact gd1 eX|with_reducible exact gd2 eX|with_reducible exact gd3 eX|with_reducible exact gd4 eX|with_reducible rfl)<;>fail)|fail):p:=h
theorem iR (h:p:=by first|((first|(simp only [Int.reduceAdd,Int.reduceSub,Int.reduceMul];exact w64 aA aA)|exact w64 aA aA|exact wu64 aA aA|exact wu8 aA aA|rfl)<;>fail)|fail):p:=h
theorem bV2 (h:p:=by first|((first|rfl|((first|with_reducible refine gd1 ?_|with_reducible refine gd2 ?_|with_reducible refine gd3 ?_|with_reducible refine gd4 ?_);omega)|(simp only [*]<;>fail)|fail)<;>fail)|fail):p:=h
theorem nZ (h:p:=by first|((first|first|exact fV hx (Ai _)|exact fV hy (Ai _)|exact fV hx aA|exact fV hy aA|exact mM (by first|rfl|omega)|rfl)<;>fail)|fail):p:=h
theorem dC9 (h:p:=by first|((first|rfl|(first|rfl|exact congrArg (fun x=>AV.own 0 0 x 1 true) ho0.symm|exact congrArg (fun x=>AObj.row _ (bO .i64 x)) hD0.symm)|exact zeq)<;>fail)|fail):p:=h
theorem dD0 (h:p:=by first|((first|rfl|(first|rfl|exact congrArg (fun x=>AV.own 1 0 x 1 true) ho0.symm|exact congrArg (fun x=>AObj.row _ (bO .i64 x)) hD0.symm)|exact zeq)<;>fail)|fail):p:=h
theorem aM5 (h:p:=by first|((first|(rw [Ai,A5];exact hx)|(rw [Ai,A5];exact hy)|(refine nX hx ?_;omega)|(refine nX hy ?_;omega))<;>fail)|fail):p:=h
theorem dD1 (h:p:=by first|((first|rfl|(first|rfl|exact congrArg (fun x=>AV.own 0 0 x 3 true) ho0.symm|exact congrArg (fun x=>AObj.row _ (vrc x)) hD0.symm)|exact zeq)<;>fail)|fail):p:=h
theorem dD2 (h:p:=by first|((first|rfl|(first|rfl|exact congrArg (fun x=>AV.own 0 0 x 2 true) ho0.symm|exact congrArg (fun x=>AObj.row _ (src x)) hD0.symm)|exact zeq)<;>fail)|fail):p:=h
theorem dD3 (h:p:=by first|((first|rfl|(first|rfl|exact congrArg (fun x=>AV.own 0 0 x 3 true) hso.symm|exact congrArg (fun x=>AObj.row _ (vrc x)) hs.symm)|exact zeq)<;>fail)|fail):p:=h
theorem dD4 (h:p:=by first|((first|rfl|(first|rfl|exact congrArg (fun x=>AV.own 0 0 x 2 true) hso.symm|exact congrArg (fun x=>AObj.row _ (src x)) hs.symm)|exact zeq)<;>fail)|fail):p:=h
theorem dD5 (h:p:=by first|((first|rfl|(first|rfl|exact congrArg (fun x=>AV.own 5 0 x 10 true) hso.symm|exact congrArg (AObj.row _) (by simpa using hsc))|exact zeq)<;>fail)|fail):p:=h
theorem dD6 (h:p:=by first|((first|rfl|(first|rfl|exact congrArg (fun x=>AV.own 2 0 x 10 true) hso.symm|exact congrArg (AObj.row _) (by simpa using hsc))|exact zeq)<;>fail)|fail):p:=h
theorem dD7 (h:p:=by first|((first|rfl|(first|rfl|exact congrArg (fun x=>AV.own 3 0 x 1 true) hso.symm|exact congrArg (AObj.row _) (by simpa using hsc))|exact zeq)<;>fail)|fail):p:=h
theorem dD8 (h:p:=by first|((first|rfl|(first|rfl|exact congrArg (fun x=>AV.own 4 0 x 1 true) hso.symm|exact congrArg (AObj.row _) (by simpa using hsc))|exact zeq)<;>fail)|fail):p:=h
theorem dD9 (h:p:=by first|((first|rfl|(first|rfl|exact congrArg (fun x=>AV.own 5 0 x 8 true) hso.symm|exact congrArg (AObj.row _) (by simpa using hsc))|exact zeq)<;>fail)|fail):p:=h
theorem dE0 (h:p:=by first|((first|rfl|(first|rfl|exact congrArg (fun x=>AV.own 5 0 x 9 true) hso.symm|exact congrArg (AObj.row _) (by simpa using hsc))|exact zeq)<;>fail)|fail):p:=h
theorem dE1 (h:p:=by first|((first|rfl|(first|rfl|exact congrArg (fun x=>AV.own 2 0 x 8 true) hso.symm|exact congrArg (AObj.row _) (by simpa using hsc))|exact zeq)<;>fail)|fail):p:=h
theorem dE2 (h:p:=by first|((first|rfl|(first|rfl|exact congrArg (fun x=>AV.own 2 0 x 9 true) hso.symm|exact congrArg (AObj.row _) (by simpa using hsc))|exact zeq)<;>fail)|fail):p:=h
theorem dE3 (h:p:=by first|((first|rfl|exact own_eq rfl rfl aA|exact cC3 aA|(simp<;>fail)|(congr 4;omega)|(congr 3;omega)|(congr 2;omega))<;>fail)|fail):p:=h
theorem dE4 (h:p:=by first|((first|rfl|(first|rfl|exact congrArg (fun x=>AV.own 2 0 x 3 true) hso.symm|exact congrArg (AObj.row _) hsc)|exact zeq)<;>fail)|fail):p:=h
theorem dE5 (h:p:=by first|((first|rfl|(first|rfl|exact congrArg (fun x=>AV.own 2 0 x 2 true) hso.symm|exact congrArg (AObj.row _) hsc)|exact zeq)<;>fail)|fail):p:=h
theorem qM (h:p:=by first|((repeat' (first|exact cM|refine bP rfl rfl rfl ?_|refine bP rfl setT_mp bM ?_))<;>fail)|fail):p:=h
theorem dE6 (h:p:=by first|((first|rfl|(first|rfl|exact congrArg AObj.tab hs2|exact congrArg AObj.tab hs2.symm)|exact zeq)<;>fail)|fail):p:=h
theorem aB1 (h:p:=by first|((first|exact q64 aA aA aA|exact qu8 aA aA aA|rfl)<;>fail)|fail):p:=h
theorem dE7 (h:p:=by first|((first|rfl|(first|rfl|exact congrArg (fun x:Nat=>AV.c (iv x)) hD0.symm)|exact zeq)<;>fail)|fail):p:=h
theorem bD1 (h:p:=by first|((first|rfl|(first|rfl|exact congrArg (AObj.row _) (by simpa using hsn))|exact zeq)<;>fail)|fail):p:=h
theorem bV3 (h:p:=by first|((first|assumption|exact Bg aA|(simp only [*]<;>fail)|fail)<;>fail)|fail):p:=h
theorem bV4 (h:p:=by first|((first|assumption|exact AT aA|(simp only [*]<;>fail)|fail)<;>fail)|fail):p:=h
theorem dE8 (h:p:=by first|((first|rfl|(exact congrArg (fun l=>AObj.tab (aF ktV.kc l)) hst)|exact zeq)<;>fail)|fail):p:=h
theorem dE9 (h:p:=by first|((first|rfl|(exact congrArg (fun l=>AObj.tab (aF ktS.kc l)) hst)|exact zeq)<;>fail)|fail):p:=h
theorem bV5 (h:p:=by first|((first|exact eF cU|exact eF fT|exact gC rfl rfl zln)<;>fail)|fail):p:=h
theorem dF0 (h:p:=by first|((rw [sM (m:=frA.length) (k:=0) rfl rfl aA aP];simp)<;>fail)|fail):p:=h
theorem aB2 (h:p:=by first|((first|omega|exact A9 rfl|omega|(simp<;>omega))<;>fail)|fail):p:=h
theorem aB3 (h:p:=by first|((first|(simp only [Int.reduceTMod];rfl)|exact r64 aA|rfl)<;>fail)|fail):p:=h
theorem aB4 (h:p:=by first|((first|rfl|exact eA4 eX|(simp<;>fail)|fail)<;>fail)|fail):p:=h
theorem dF1 (h:p:=by first|((first|rfl|(exact cW5 l n k hl aA)|exact zeq)<;>fail)|fail):p:=h
theorem uO (h:p:=by first|((first|exact dI6|exact src_nil|exact cJ7 rfl zln)<;>fail)|fail):p:=h
theorem mT (h:p:=by first|((first|(simp only [maxLen];omega)|(simp [maxLen];omega))<;>fail)|fail):p:=h
theorem rQ (h:p:=by first|((first|fail|exact mM (by first|rfl|omega)|rfl)<;>fail)|fail):p:=h
theorem mU (h:p:=by first|((first|exact IsAgg.closed rfl rfl|exact IsAgg.mixed _)<;>fail)|fail):p:=h
theorem bV6 (h:p:=by first|((first|exact size_mk eX|assumption|rfl)<;>fail)|fail):p:=h
theorem bV7 (h:p:=by first|((rw [Bj,Af aA])<;>fail)|fail):p:=h
theorem oA (h:p:=by first|((first|exact fH|exact eJ cU fH)<;>fail)|fail):p:=h
theorem dR9 (h:p:=by first|((rw [Ai,Co,Nat.min_self,hfm])<;>fail)|fail):p:=h
theorem oN (h:p:=by first|((first|exact Parts.mixed _|exact Parts.closed _)<;>fail)|fail):p:=h
theorem aB5 (h:p:=by first|((have:=h.2;rw [hat,hay] at this;injection this)<;>fail)|fail):p:=h
theorem rR (h:p:=by first|((first|exact aD|exact (cG rfl rfl zgb))<;>fail)|fail):p:=h
theorem bV8 (h:p:=by first|((first|exact w64 aA aA|rfl)<;>fail)|fail):p:=h
theorem bV9 (h:p:=by first|((first|exact toList_mk _|assumption|rfl)<;>fail)|fail):p:=h
theorem cW (h:p:=by first|((first|exact sK|exact cT3 rfl)<;>fail)|fail):p:=h
theorem bW0 (h:p:=by first|((rw [A4,hlisted];exact b4)<;>fail)|fail):p:=h
theorem bD2 (h:p:=by exact ⟨cG2,aY0,trivial⟩):p:=h
theorem bD3 (h:p:=by exact ⟨cG1,aX9,trivial⟩):p:=h
theorem dS1 (h:p:=by exact ⟨cF6,aX7,trivial⟩):p:=h
theorem bW1 (h:p:=by exact ⟨bR0,aU2,trivial⟩):p:=h
theorem bW2 (h:p:=by first|((first|rfl|(simp<;>fail)|fail)<;>fail)|fail):p:=h
theorem rS (h:p:=by first|((rw [wT hx,BA];rfl)<;>fail)|fail):p:=h
theorem dS3 (h:p:=by exact ⟨cM6,bJ3,trivial⟩):p:=h
theorem dS4 (h:p:=by exact ⟨cX2,bP5,trivial⟩):p:=h
theorem dS5 (h:p:=by exact ⟨cO2,bL1,trivial⟩):p:=h
theorem dS6 (h:p:=by exact ⟨cV5,bO2,trivial⟩):p:=h
theorem bD4 (h:p:=by first|((simp only [maxLen] at h63;omega)<;>fail)|fail):p:=h
theorem oO (h:p:=by first|((simp [Act.eval,Array.replicate])<;>fail)|fail):p:=h
theorem bW3 (h:p:=by first|((rw [hus.length,hcl,hszt,hs'])<;>fail)|fail):p:=h
theorem uP (h:p:=by first|((first|rfl|(rfl)|exact zeq)<;>fail)|fail):p:=h
theorem bW4 (h:p:=by first|((rw [Ab];omega)<;>fail)|fail):p:=h
theorem gS (h:p:=by first|((rw [Ao];omega)<;>fail)|fail):p:=h
theorem tC (h:p:=by first|((rw [<- e1 id hid];exact hH)<;>fail)|fail):p:=h
theorem aF6 (h:p:=by first|((rw [<- e1 id' k2];exact k4)<;>fail)|fail):p:=h
theorem aF7 (h:p:=by first|((rw [<- hH id hid];exact hh)<;>fail)|fail):p:=h
theorem xM (h:p:=by exact dY3 l i aA):p:=h
theorem aF8 (h:p:=by first|((rw [<- e1 id k1];exact k3)<;>fail)|fail):p:=h
theorem aF9 (h:p:=by first|((rw [<- e1 id k1];exact k2)<;>fail)|fail):p:=h
theorem qX (h:p:=by first|((simp only [maxLen];omega)<;>fail)|fail):p:=h
theorem bU6 (h:p:=by first|((rw [e1 id hid];exact hH)<;>fail)|fail):p:=h
theorem lK (h:p:=by first|((rw [Tryz.ntmps258];rfl)<;>fail)|fail):p:=h
theorem tD (h:p:=by first|((rw [Tryz.ntmps144];rfl)<;>fail)|fail):p:=h
theorem lL (h:p:=by first|((rw [Tryz.ntmps216];rfl)<;>fail)|fail):p:=h
theorem aG0 (h:p:=by first|((rw [Tryz.ntmps175];rfl)<;>fail)|fail):p:=h
theorem aG1 (h:p:=by first|((rw [Tryz.ntmps225];rfl)<;>fail)|fail):p:=h
theorem aG2 (h:p:=by first|((rw [Tryz.ntmps227];rfl)<;>fail)|fail):p:=h
theorem tE (h:p:=by first|((rw [Tryz.ntmps146];rfl)<;>fail)|fail):p:=h
theorem xN (h:p:=by first|((rw [Tryz.ntmps183];rfl)<;>fail)|fail):p:=h
theorem lM (h:p:=by first|((rw [Tryz.ntmps121];rfl)<;>fail)|fail):p:=h
theorem aG3 (h:p:=by first|((rw [Tryz.ntmps107];rfl)<;>fail)|fail):p:=h
theorem aG4 (h:p:=by first|((rw [Tryz.ntmps109];rfl)<;>fail)|fail):p:=h
theorem aG5 (h:p:=by first|((rw [Tryz.ntmps111];rfl)<;>fail)|fail):p:=h
theorem tF (h:p:=by first|((simpa [pG] using k)<;>fail)|fail):p:=h
theorem kL (h:p:=by first|((first|omega|decide)<;>fail)|fail):p:=h
theorem tG (h:p:=by first|((rw [Tryz.ntmps84];rfl)<;>fail)|fail):p:=h
theorem aG6 (h:p:=by first|((rw [Tryz.ntmps85];rfl)<;>fail)|fail):p:=h
theorem lN (h:p:=by first|((rw [Tryz.ntmps26];rfl)<;>fail)|fail):p:=h
theorem qY (h:p:=by first|((rw [Tryz.ntmps61];rfl)<;>fail)|fail):p:=h
theorem xO (h:p:=by first|((rw [Tryz.ntmps63];rfl)<;>fail)|fail):p:=h
theorem aG7 (h:p:=by first|((rw [Tryz.ntmps27];rfl)<;>fail)|fail):p:=h
theorem oL (h:p:=by first|((rw [Tryz.ntmps62];rfl)<;>fail)|fail):p:=h
theorem tH (h:p:=by first|((rw [Tryz.ntmps21];rfl)<;>fail)|fail):p:=h
theorem xP (h:p:=by first|((rw [Tryz.ntmps80];rfl)<;>fail)|fail):p:=h
theorem xQ (h:p:=by first|((rw [Tryz.ntmps74];rfl)<;>fail)|fail):p:=h
theorem tI (h:p:=by first|((rw [Tryz.ntmps24];rfl)<;>fail)|fail):p:=h
theorem iY (h:p:=by first|((first|rfl|fail)<;>fail)|fail):p:=h
theorem xR (h:p:=by first|((simpa using hlt)<;>fail)|fail):p:=h
theorem iZ (h:p:=by first|((rw [<- hw1];rfl)<;>fail)|fail):p:=h
theorem fK (h:p:=by first|((simpa using hl)<;>fail)|fail):p:=h
theorem tJ (h:p:=by first|((simpa using hj)<;>fail)|fail):p:=h
theorem tK (h:p:=by first|((simpa using hi)<;>fail)|fail):p:=h
theorem tL (h:p:=by first|((simpa using ha)<;>fail)|fail):p:=h
theorem tM (h:p:=by first|((simpa using hx)<;>fail)|fail):p:=h
theorem lO (h:p:=by first|((simpa using h)<;>fail)|fail):p:=h
theorem eM (h:p:=by first|((simp;omega)<;>fail)|fail):p:=h
theorem mH (h:p:=by first|((rw [hX,hj])<;>fail)|fail):p:=h
theorem eX (h:p:=by assumption):p:=h
theorem aM (h:p:=by kernel_rfl):p:=h
theorem kM (h:p:=by first|((simp [lt])<;>fail)|fail):p:=h
theorem oM (h:p:=by first|((simp [e])<;>fail)|fail):p:=h
theorem fE (h:p:=by first|((cases h)<;>fail)|fail):p:=h
theorem aP (h:p:=by decide):p:=h
theorem aA (h:p:=by omega):p:=h
theorem aR (h:p:=by first|((simp)<;>fail)|fail):p:=h
theorem eH (h:p:=by rfl):p:=h
theorem mV (h:p:=by exact ⟨k1,g,k2.trans hg,hu⟩):p:=h
theorem bW9 (h:p:=by exact .inl ⟨h1,h2,k2.trans h3,h4⟩):p:=h
theorem dS7 (h:p:=by refine C3 CC ⟨fun hk id o hid hH=>hk id o hid bU6,fun hk id o hid hH=>hk id o hid tC⟩):p:=h
theorem bX1 (h:p:=by exact hK' _ _ (next B _ _ ⟨M,k1,c2,fun t av ht=>Rep.ext k2 _ _ (c3 t av ht),c4.ext k2⟩)):p:=h
theorem dS8 (h:p:=by exact ⟨none,0,us,by rw [h4,h1],by omega,by simp [maxLen],hl,hus,hon,fun hn=>absurd hn aA⟩):p:=h
theorem dS9 (h:p:=by exact ⟨A,cp,us,h3,by omega,h4,hl,hus,hon,fun hn=>absurd hn aA⟩):p:=h
theorem dT0 (h:p:=by exact RepC.mono (fun b hb hl=>⟨⟨.inl hb,fun id o hid=>absurd hid kM⟩,hl,rfl⟩) _ _ hru):p:=h
theorem cO0 (h:p:=by exact ((Below.refl _ _).drew).alloc (Ag _) _):p:=h
theorem dK3 (h:p:=by exact c1.inj q q' o o' g p1 r1 p3 r3 h6 h7):p:=h
theorem bD5 (h:p:=by exact .inl ⟨j+1,oj,by omega,by simpa using h2,h3,by simpa using h4⟩):p:=h
theorem bD6 (h:p:=by exact .inl ⟨0,o,by omega,rfl,by rw [hd,hdt],rfl⟩):p:=h
theorem bW5 (h:p:=by exact c4 t av h1 (fun j o' hj _=>hno j o' hj)):p:=h
theorem bW6 (h:p:=by exact ⟨M,hg.1,c2,fun t av ht=>Rep.ext hg.2 _ _ (c3 t av ht),c4.ext hg.2⟩):p:=h
theorem bW7 (h:p:=by exact ⟨j,A7.1 hj,by simpa using hp⟩):p:=h
theorem bW8 (h:p:=by exact tail_waits b3.1 b3.2 eM hinv _ j0 rfl hj0 (getD_in (hsize j0 hj0) hu0) i h hi):p:=h
theorem dF2 (h:p:=by exact (h1.obj _ _ (hn' id hid) (hH id o hH').1).lessR hls rfl (hH id o hH').2):p:=h
theorem dF3 (h:p:=by exact C3 CC ⟨fun hk id o hid hH=>hk id o hid bU6,fun hk id o hid hH=>hk id o hid tC⟩):p:=h
theorem dF4 (h:p:=by exact h5.ext hext (fun b hb=>e5 b (h5.lt b hb) (fun he=>h3 (c1.inj q id o _ b h1 hid h4 hoH hb he)))):p:=h
theorem aM7 (h:p:=by exact hK' undef _ M k2 k1 trivial):p:=h
theorem aM8 (h:p:=by exact .inr (.inl (Am hc.fr.size h1))):p:=h
theorem bX0 (h:p:=by exact hK v w' M (g2.trans k2) k1 (RepC.mono hmon _ _ hv)):p:=h
theorem jS (h:p:=by refine cV8 zio ztr rfl rfl rfl rfl zln (ResL.one (ResA.tmp rfl))):p:=h
theorem bI (h:p:=by refine dD zio ztr rfl (ResL.one (ResA.tmp rfl)) zou):p:=h
theorem uQ (h:p:=by refine dD zio ztr rfl (ResL.one zrs) zou):p:=h
theorem eQ (h:p:=by exact ⟨i+1,by omega,by omega,dP⟩):p:=h
theorem aB6 (h:p:=by refine dD zio ztr rfl (ResL.one (ResA.tmp rfl)) (yQ (iD (gC rfl rfl hrl) (jH aA hRm)))):p:=h
theorem aB7 (h:p:=by exact ⟨i+1,by omega,by omega,dR2⟩):p:=h
theorem iB (h:p:=by refine wK zio ztr rfl rfl (ResL.one (ResA.tmp rfl)) (aI6 zfz rfl rfl)):p:=h
theorem lP (h:p:=by refine wK zio ztr rfl rfl (ResL.one zrs) (aI6 zfz rfl rfl)):p:=h
theorem dF5 (h:p:=by refine dD zio ztr rfl (ResL.three (ResA.tmp rfl) (ResA.tmp rfl) (ResA.tmp rfl)) (kP (bD zfz (bD zfz (bD zfz dT))))):p:=h
theorem dF6 (h:p:=by refine dD zio ztr rfl (ResL.three zrs (ResA.tmp rfl) (ResA.tmp rfl)) (kP (bD zfz (bD zfz (bD zfz dT))))):p:=h
theorem xT (h:p:=by refine cV9 zio ztr rfl (ResF.mk zrs zrs (ResA.tmp rfl) (ResA.tmp rfl)) (kP (bD zfz (bD zfz (bD zfz (bD zfz dT)))))):p:=h
theorem aM9 (h:p:=by refine bH1 zio ztr rfl rfl rfl qM rfl ResL.none (cB7)):p:=h
theorem eE (h:p:=by refine bH1 zio ztr rfl rfl rfl qM rfl (ResL.one (ResA.tmp rfl)) (zfz)):p:=h
theorem bD7 (h:p:=by refine dD zio dS1 rfl (ResL.three zrs zrs zrs) (kP (bD (iD (gC rfl rfl hll) (jH e4 e5)) (bD (iD (eF cU) (uR e6)) (bD (iD (eF cU) (uR e7)) dT))))):p:=h
theorem aB8 (h:p:=by refine dD zio dS3 rfl (ResL.two zrs zrs) (kP (bD zfz (bD zfz dT)))):p:=h
theorem aN0 (h:p:=by refine dD zio dS4 rfl (ResL.two zrs zrs) (kP (bD zfz (bD zfz dT)))):p:=h
theorem dF7 (h:p:=by refine dD zio (by exact ⟨cO1,bL0,trivial⟩) rfl (ResL.two zrs zrs) (kP (bD zfz (bD zfz dT)))):p:=h
theorem aN1 (h:p:=by refine dD zio dS5 rfl (ResL.two zrs zrs) (kP (bD zfz (bD zfz dT)))):p:=h
theorem bX2 (h:p:=by refine dD zio dS6 rfl (ResL.two zrs zrs) (kP (bD zfz (bD zfz dT)))):p:=h
theorem bX3 (h:p:=by refine dD zio bW1 rfl (ResL.two zrs zrs) (kP (bD (eF (mI aX5)) (bD (eF cU) dT)))):p:=h
theorem dF8 (h:p:=by refine dD zio bW1 rfl (ResL.two zrs zrs) (kP (bD zfz (bD zfz dT)))):p:=h
theorem aB9 (h:p:=by refine bH2 zio ztr rfl rfl rfl rfl (Af aA) (ResL.one (ResA.tmp rfl))):p:=h
theorem bX4 (h:p:=by exact ⟨m+1,⟨by omega,by omega,by omega⟩,by omega,eA7⟩):p:=h
theorem bX5 (h:p:=by refine bH2 zio ztr rfl rfl rfl rfl dR9 (ResL.one (ResA.tmp rfl))):p:=h
theorem bX6 (h:p:=by exact ⟨k+1,⟨by omega,by omega,s1,s2⟩,by omega,bU8⟩):p:=h
theorem bD8 (h:p:=by refine dD zio ztr rfl (ResL.one (ResA.tmp rfl)) (yQ (iD (eF cU) (jH hqq hq0)))):p:=h
theorem dF9 (h:p:=by refine dD zio ztr rfl (ResL.one (ResA.tmp rfl)) (yQ (gC rfl rfl hql))):p:=h
theorem dG0 (h:p:=by refine dD zio ztr rfl (ResL.one (ResA.tmp rfl)) (yQ (gC rfl rfl (by rw [hql,A5])))):p:=h
theorem aC0 (h:p:=by refine dD zio ztr rfl (ResL.one (ResA.tmp rfl)) (yQ (gC rfl rfl hoc))):p:=h
theorem bD9 (h:p:=by exact ⟨i+1,⟨by omega,hn'⟩,by omega,dP⟩):p:=h
theorem dG1 (h:p:=by refine dD zio ztr rfl (ResL.one (ResA.tmp rfl)) (yQ (iD (eF fT) (jH h1 h2)))):p:=h
end
end Go
namespace Go.Av
open Go Go.RowKit
section
inductive CV where
 | v (x:Value)
 | sl (size n:Nat) (cs:List CV)
 | agg (cs:List CV)
mutual
def RepC (ok : Nat -> Prop) (w : World) : CV -> Value -> Prop
  | .v x, u => u = x
  | .sl size n cs, u => ∃ A c us, u = .slice A n c /\ n <= c /\ c <= maxLen /\ cs.length = n * size /\ RepCs ok w cs us /\ (∀ u ∈ us, u.oneCell' = true) /\
      (0 < n -> ∃ b o, A = some ⟨b, o, none⟩ /\ ok b /\ b < w.heap.size /\ ∀ j x, us[j]? = some x -> w.cell? ⟨b, o + j, none⟩ = some x)
  | .agg cs, u => ∃ us, u = .agg us.toArray /\ RepCs ok w cs us /\ ∀ u ∈ us, u.oneCell' = true
def RepCs (ok:Nat->Prop) (w:World):List CV->List Value->Prop
 | [],us=>us=[]
 | c::cs,us=>∃u us',us=u::us'/\RepC ok w c u/\RepCs ok w cs us'
end
def kA (ok ok':Nat->Prop) (w w':World):Prop:=∀b,ok b->b<w.heap.size->ok' b/\b<w'.heap.size/\w'.heap[b]? = w.heap[b]?
mutual
theorem RepC.mono {ok ok':Nat->Prop} {w w':World} (h:kA ok ok' w w'):∀(c:CV) (u:Value),RepC ok w c u->RepC ok' w' c u
 | .v x,u,hu=>by simpa [RepC] using hu
 | .sl size n cs,u,hu=>by
  simp only [RepC] at hu ⊢
  obtain ⟨A,c,us,h1,h2,h3,h4,h5,h7,h6⟩:=hu
  refine ⟨A,c,us,h1,h2,h3,h4,RepCs.mono h cs us h5,h7,fun hn=>?_⟩
  obtain ⟨b,o,e,hb,hlt,hc⟩:=h6 hn
  obtain ⟨k1,k2,k3⟩:=h b hb hlt
  exact ⟨b,o,e,k1,k2,fun j x hx=>by rw [World.cell?_of_block (w:=w) k3];exact hc j x hx⟩
 | .agg cs,u,hu=>by
  simp only [RepC] at hu ⊢
  obtain ⟨us,h1,h2,h3⟩:=hu
  exact ⟨us,h1,RepCs.mono h cs us h2,h3⟩
theorem RepCs.mono {ok ok':Nat->Prop} {w w':World} (h:kA ok ok' w w'):∀(cs:List CV) (us:List Value),RepCs ok w cs us->RepCs ok' w' cs us
 | [],us,hu=>by simpa [RepCs] using hu
 | c::cs,us,hu=>by
  simp only [RepCs] at hu ⊢
  obtain ⟨u,us',h1,h2,h3⟩:=hu
  exact ⟨u,us',h1,RepC.mono h c u h2,RepCs.mono h cs us' h3⟩
end
section RepCs
variable {ok:Nat->Prop} {w:World}
theorem RepCs.length:∀{cs:List CV} {us:List Value},RepCs ok w cs us->us.length=cs.length
 | [],us,h=>by simp only [RepCs] at h;subst h;rfl
 | c::cs,us,h=>by
  simp only [RepCs] at h
  obtain ⟨u,us',rfl,_,h3⟩:=h
  simp [RepCs.length h3]
theorem RepCs.get:∀{cs:List CV} {us:List Value},RepCs ok w cs us->∀{j:Nat} {c:CV},cs[j]? = some c->∃u,us[j]? = some u/\RepC ok w c u
 | [],us,h,j,c,hc=>by simp at hc
 | c::cs,us,h,j,c',hc=>by
  simp only [RepCs] at h
  obtain ⟨u,us',rfl,h2,h3⟩:=h
  cases j with
  | zero=>simp at hc;subst hc;exact ⟨u,rfl,h2⟩
  | succ j=>simpa using RepCs.get h3 (by simpa using hc)
theorem RepCs.append:∀{cs ds:List CV} {us vs:List Value},RepCs ok w cs us->RepCs ok w ds vs->RepCs ok w (cs++ds) (us++vs)
 | [],ds,us,vs,h,k=>by simp only [RepCs] at h;subst h;simpa using k
 | c::cs,ds,us,vs,h,k=>by
  simp only [RepCs] at h
  obtain ⟨u,us',rfl,h2,h3⟩:=h
  exact ⟨u,us'++vs,rfl,h2,RepCs.append h3 k⟩
theorem RepCs.take:∀(n:Nat) {cs:List CV} {us:List Value},RepCs ok w cs us->RepCs ok w (cs.take n) (us.take n)
 | 0,cs,us,h=>by simp [RepCs]
 | n+1,[],us,h=>by simp only [RepCs] at h;subst h;simp [RepCs]
 | n+1,c::cs,us,h=>by
  simp only [RepCs] at h
  obtain ⟨u,us',rfl,h2,h3⟩:=h
  simp only [B6,RepCs]
  exact ⟨u,us'.take n,rfl,h2,RepCs.take n h3⟩
theorem RepCs.drop:∀(n:Nat) {cs:List CV} {us:List Value},RepCs ok w cs us->RepCs ok w (cs.drop n) (us.drop n)
 | 0,cs,us,h=>by simpa using h
 | n+1,[],us,h=>by simp only [RepCs] at h;subst h;simp [RepCs]
 | n+1,c::cs,us,h=>by
  simp only [RepCs] at h
  obtain ⟨u,us',rfl,h2,h3⟩:=h
  simpa using RepCs.drop n h3
theorem RepCs.set:∀{cs:List CV} {us:List Value},RepCs ok w cs us->∀(j:Nat) {c:CV} {u:Value},RepC ok w c u->RepCs ok w (cs.set j c) (us.set j u)
 | [],us,h,j,c,u,k=>by simp only [RepCs] at h;subst h;simp [RepCs]
 | c::cs,us,h,j,c',u',k=>by
  simp only [RepCs] at h
  obtain ⟨u,us',rfl,h2,h3⟩:=h
  cases j with
  | zero=>exact ⟨u',us',rfl,k,h3⟩
  | succ j=>exact ⟨u,us'.set j u',rfl,h2,RepCs.set h3 j k⟩
theorem RepCs.plain (vs:List Value):RepCs ok w (vs.map CV.v) vs:=by
 induction vs with
 | nil=>simp [RepCs]
 | cons v vs ih=>exact ⟨v,vs,rfl,rfl,ih⟩
theorem RepCs.of_plain {vs us:List Value} (h:RepCs ok w (vs.map CV.v) us):us=vs:=by
 induction vs generalizing us with
 | nil=>simpa [RepCs] using h
 | cons v vs ih =>
  simp only [AF,RepCs,RepC] at h
  obtain ⟨u,us',rfl,rfl,h3⟩:=h
  rw [ih h3]
end RepCs
def CV.one:CV->Bool
 | .v x=>x.oneCell'
 | .sl .. => true
 | .agg _=>false
theorem RepC.one {ok:Nat->Prop} {w:World} {c:CV} {u:Value} (h:RepC ok w c u) (h1:c.one=true):u.oneCell'=true/\u.cells = #[u]:=by
 cases c with
 | v x =>
  simp only [RepC] at h
  subst h
  simp only [CV.one] at h1
  refine ⟨h1,?_⟩
  cases u<;>simp_all [Value.oneCell',Value.cells]
 | sl size n cs =>
  simp only [RepC] at h
  obtain ⟨A,c,us,rfl,_⟩:=h
  exact ⟨rfl,rfl⟩
 | agg cs=>cases h1
theorem RepCs.one {ok:Nat->Prop} {w:World}:∀{cs:List CV} {us:List Value},RepCs ok w cs us->(∀c∈cs,c.one=true)->∀u∈us,u.oneCell'=true
 | [],us,h,_,u,hu=>by simp only [RepCs] at h;subst h;simp at hu
 | c::cs,us,h,h1,u,hu=>by
  simp only [RepCs] at h
  obtain ⟨u',us',rfl,h2,h3⟩:=h
  rcases A3.1 hu with rfl|hu
  ·exact (h2.one (h1 c aR)).1
  ·exact RepCs.one h3 (fun c hc=>h1 c (by simp [hc])) u hu
inductive AV where
 | c (x:CV)
 | ref (id off:Nat)
 | own (id off n size:Nat) (full:Bool)
 | ip (cs:List CV) (off:Nat)
 | agg (xs:List AV)
 | tup (xs:List AV)
 | fn (f:FuncId) (caps:List AV)
 | yld (id:Nat)
 | mh (id:Nat)
 | bm (f:FuncId) (id:Nat)
 | junk
structure Cx where
 dom:Nat->Prop
 M:Nat->Option Nat
 ok:Nat->Prop
 w:World
mutual
def Rep (C : Cx) : AV -> Value -> Prop
  | .c x, u => RepC C.ok C.w x u
  | .ref id off, u => C.dom id /\ ∃ g, C.M id = some g /\ u = .pointer (some ⟨g, off, none⟩)
  | .own id off n size full, u => C.dom id /\ ((n = 0 /\ off = 0 /\ C.M id = none /\ u = .slice none 0 0) \/
      (∃ g cp, C.M id = some g /\ u = .slice (some ⟨g, off, none⟩) n cp /\ n <= cp /\ cp <= maxLen /\ (full = true -> ∃ e, C.w.shape? g = some (e, off + cp * size))) \/
      (n = 0 /\ full = false /\ ∃ A cp, u = .slice A 0 cp /\ cp <= maxLen))
  | .ip cs off, u => ∃ b o us, u = .pointer (some ⟨b, o + off, none⟩) /\ C.ok b /\ b < C.w.heap.size /\ RepCs C.ok C.w cs us /\ (∀ u ∈ us, u.oneCell' = true) /\ ∀ j x, us[j]? = some x -> C.w.cell? ⟨b, o + j, none⟩ = some x
  | .agg xs, u => ∃ us, u = .agg us.toArray /\ RepL C xs us
  | .tup xs, u => ∃ us, u = .tuple us.toArray /\ RepL C xs us
  | .fn f caps, u => ∃ us, u = .func (.func f) #[] us.toArray /\ RepL C caps us
  | .yld id, u => C.dom id /\ ∃ g, C.M id = some g /\ u = .func (.yield g) #[] #[]
  | .mh id, u => C.dom id /\ ∃ g, C.M id = some g /\ u = .map (some g)
  | .bm f id, u => C.dom id /\ ∃ g, C.M id = some g /\ u = .func (.func f) #[.pointer (some ⟨g, 0, none⟩)] #[]
  | .junk, _ => True
def RepL (C:Cx):List AV->List Value->Prop
 | [],us=>us=[]
 | c::cs,us=>∃u us',us=u::us'/\Rep C c u/\RepL C cs us'
end
theorem shp {w w':World} (h:∀b x,w.shape? b=some x->w'.shape? b=some x):∀b e s,w.shape? b=some (e,s)->∃e',w'.shape? b=some (e',s):=fun b e s hs=>⟨e,h b _ hs⟩
structure Ext (C C':Cx):Prop where
 dom:∀id,C.dom id->C'.dom id/\C'.M id=C.M id
 ok:kA C.ok C'.ok C.w C'.w
 shape:∀b e s,C.w.shape? b=some (e,s)->∃e',C'.w.shape? b=some (e',s)
theorem Ext.refl (C:Cx):Ext C C:=⟨fun _ h=>⟨h,rfl⟩,fun _ h k=>⟨h,k,rfl⟩,shp fun _ _ h=>h⟩
theorem Ext.trans {A B C : Cx} (h : Ext A B) (k : Ext B C) : Ext A C :=
  ⟨fun id hd => ⟨(k.dom id (h.dom id hd).1).1, (k.dom id (h.dom id hd).1).2.trans (h.dom id hd).2⟩,
   fun b hb hl => let ⟨a1, a2, a3⟩ := h.ok b hb hl; let ⟨b1, b2, b3⟩ := k.ok b a1 a2; ⟨b1, b2, b3.trans a3⟩,
   fun b e s hx => let ⟨e1, h1⟩ := h.shape b e s hx; k.shape b e1 s h1⟩
mutual
theorem Rep.ext {C C':Cx} (h:Ext C C'):∀(x:AV) (u:Value),Rep C x u->Rep C' x u
 | .c x,u,hu=>by simp only [Rep] at hu ⊢;exact RepC.mono h.ok x u hu
 | .ref id off,u,hu=>by
  simp only [Rep] at hu ⊢
  obtain ⟨hd,g,hg,hu⟩:=hu
  obtain ⟨k1,k2⟩:=h.dom id hd
  exact mV
 | .own id off n size full,u,hu=>by
  simp only [Rep] at hu ⊢
  obtain ⟨hd,hu⟩:=hu
  obtain ⟨k1,k2⟩:=h.dom id hd
  refine ⟨k1,?_⟩
  rcases hu with ⟨h1,h2,h3,h4⟩|⟨g,cp,h1,h2,h3,h4,h5⟩|h6
  ·exact bW9
  ·exact .inr (.inl ⟨g,cp,k2.trans h1,h2,h3,h4,fun hf=>let ⟨e,he⟩:=h5 hf;h.shape _ e _ he⟩)
  ·exact .inr (.inr h6)
 | .ip cs off,u,hu=>by
  simp only [Rep] at hu ⊢
  obtain ⟨b,o,us,h1,h2,h3,h4,h6,h5⟩:=hu
  obtain ⟨k1,k2,k3⟩:=h.ok b h2 h3
  exact ⟨b,o,us,h1,k1,k2,RepCs.mono h.ok cs us h4,h6,fun j x hx=>by rw [World.cell?_of_block (w:=C.w) k3];exact h5 j x hx⟩
 | .agg xs,u,hu=>by
  simp only [Rep] at hu ⊢
  obtain ⟨us,h1,h2⟩:=hu
  exact ⟨us,h1,RepL.ext h xs us h2⟩
 | .tup xs,u,hu=>by
  simp only [Rep] at hu ⊢
  obtain ⟨us,h1,h2⟩:=hu
  exact ⟨us,h1,RepL.ext h xs us h2⟩
 | .fn f caps,u,hu=>by
  simp only [Rep] at hu ⊢
  obtain ⟨us,h1,h2⟩:=hu
  exact ⟨us,h1,RepL.ext h caps us h2⟩
 | .yld id,u,hu=>by
  simp only [Rep] at hu ⊢
  obtain ⟨hd,g,hg,hu⟩:=hu
  obtain ⟨k1,k2⟩:=h.dom id hd
  exact mV
 | .mh id,u,hu=>by
  simp only [Rep] at hu ⊢
  obtain ⟨hd,g,hg,hu⟩:=hu
  obtain ⟨k1,k2⟩:=h.dom id hd
  exact mV
 | .bm f id,u,hu=>by
  simp only [Rep] at hu ⊢
  obtain ⟨hd,g,hg,hu⟩:=hu
  obtain ⟨k1,k2⟩:=h.dom id hd
  exact mV
 | .junk,u,hu=>by simp only [Rep]
theorem RepL.ext {C C':Cx} (h:Ext C C'):∀(xs:List AV) (us:List Value),RepL C xs us->RepL C' xs us
 | [],us,hu=>by simpa [RepL] using hu
 | c::cs,us,hu=>by
  simp only [RepL] at hu ⊢
  obtain ⟨u,us',h1,h2,h3⟩:=hu
  exact ⟨u,us',h1,Rep.ext h c u h2,RepL.ext h cs us' h3⟩
end
section RepL
variable {C:Cx}
theorem RepL.length:∀{cs:List AV} {us:List Value},RepL C cs us->us.length=cs.length
 | [],us,h=>by simp only [RepL] at h;subst h;rfl
 | c::cs,us,h=>by
  simp only [RepL] at h
  obtain ⟨u,us',rfl,_,h3⟩:=h
  simp [RepL.length h3]
theorem RepL.get:∀{cs:List AV} {us:List Value},RepL C cs us->∀{j:Nat} {c:AV},cs[j]? = some c->∃u,us[j]? = some u/\Rep C c u
 | [],us,h,j,c,hc=>by simp at hc
 | c::cs,us,h,j,c',hc=>by
  simp only [RepL] at h
  obtain ⟨u,us',rfl,h2,h3⟩:=h
  cases j with
  | zero=>simp at hc;subst hc;exact ⟨u,rfl,h2⟩
  | succ j=>simpa using RepL.get h3 (by simpa using hc)
theorem RepL.set:∀{cs:List AV} {us:List Value},RepL C cs us->∀(j:Nat) {c:AV} {u:Value},Rep C c u->RepL C (cs.set j c) (us.set j u)
 | [],us,h,j,c,u,k=>by simp only [RepL] at h;subst h;simp [RepL]
 | c::cs,us,h,j,c',u',k=>by
  simp only [RepL] at h
  obtain ⟨u,us',rfl,h2,h3⟩:=h
  cases j with
  | zero=>exact ⟨u',us',rfl,k,h3⟩
  | succ j=>exact ⟨u,us'.set j u',rfl,h2,RepL.set h3 j k⟩
theorem RepL.take:∀(n:Nat) {cs:List AV} {us:List Value},RepL C cs us->RepL C (cs.take n) (us.take n)
 | 0,cs,us,h=>by simp [RepL]
 | n+1,[],us,h=>by simp only [RepL] at h;subst h;simp [RepL]
 | n+1,c::cs,us,h=>by
  simp only [RepL] at h
  obtain ⟨u,us',rfl,h2,h3⟩:=h
  simp only [B6,RepL]
  exact ⟨u,us'.take n,rfl,h2,RepL.take n h3⟩
theorem RepL.drop:∀(n:Nat) {cs:List AV} {us:List Value},RepL C cs us->RepL C (cs.drop n) (us.drop n)
 | 0,cs,us,h=>by simpa using h
 | n+1,[],us,h=>by simp only [RepL] at h;subst h;simp [RepL]
 | n+1,c::cs,us,h=>by
  simp only [RepL] at h
  obtain ⟨u,us',rfl,h2,h3⟩:=h
  simpa using RepL.drop n h3
theorem RepL.append:∀{cs ds:List AV} {us vs:List Value},RepL C cs us->RepL C ds vs->RepL C (cs++ds) (us++vs)
 | [],ds,us,vs,h,k=>by simp only [RepL] at h;subst h;simpa using k
 | c::cs,ds,us,vs,h,k=>by
  simp only [RepL] at h
  obtain ⟨u,us',rfl,h2,h3⟩:=h
  exact ⟨u,us'++vs,rfl,h2,RepL.append h3 k⟩
theorem RepL.ofC:∀{cs:List CV} {us:List Value},RepCs C.ok C.w cs us->RepL C (cs.map AV.c) us
 | [],us,h=>by simpa [RepCs,RepL] using h
 | c::cs,us,h=>by
  simp only [RepCs] at h
  obtain ⟨u,us',rfl,h2,h3⟩:=h
  exact ⟨u,us',rfl,h2,RepL.ofC h3⟩
theorem RepL.toC:∀{cs:List CV} {us:List Value},RepL C (cs.map AV.c) us->RepCs C.ok C.w cs us
 | [],us,h=>by simpa [RepCs,RepL] using h
 | c::cs,us,h=>by
  simp only [AF,RepL] at h
  obtain ⟨u,us',rfl,h2,h3⟩:=h
  exact ⟨u,us',rfl,h2,RepL.toC h3⟩
end RepL
def AV.one:AV->Bool
 | .c x=>x.one
 | .ref .. | .own .. | .ip .. | .fn .. | .yld .. | .mh .. | .bm .. => true
 | _=>false
theorem Rep.one {C:Cx} {x:AV} {u:Value} (h:Rep C x u) (h1:x.one=true):u.oneCell'=true/\u.cells = #[u]:=by
 cases x with
 | c x=>simp only [Rep] at h;exact h.one h1
 | ref id off=>simp only [Rep] at h;obtain ⟨_,g,_,rfl⟩:=h;exact ⟨rfl,rfl⟩
 | own id off n size full =>
  simp only [Rep] at h
  obtain ⟨_,⟨_,_,_,rfl⟩|⟨g,cp,_,rfl,_⟩|⟨_,_,A,cp,rfl,_⟩⟩:=h<;>exact ⟨rfl,rfl⟩
 | ip cs off=>simp only [Rep] at h;obtain ⟨b,o,us,rfl,_⟩:=h;exact ⟨rfl,rfl⟩
 | fn f caps=>simp only [Rep] at h;obtain ⟨us,rfl,_⟩:=h;exact ⟨rfl,rfl⟩
 | agg xs=>cases h1
 | tup xs=>cases h1
 | yld id=>simp only [Rep] at h;obtain ⟨_,g,_,rfl⟩:=h;exact ⟨rfl,rfl⟩
 | mh id=>simp only [Rep] at h;obtain ⟨_,g,_,rfl⟩:=h;exact ⟨rfl,rfl⟩
 | bm f id=>simp only [Rep] at h;obtain ⟨_,g,_,rfl⟩:=h;exact ⟨rfl,rfl⟩
 | junk=>cases h1
theorem RepL.one {C:Cx}:∀{cs:List AV} {us:List Value},RepL C cs us->cs.all AV.one=true->∀u∈us,u.oneCell'=true
 | [],us,h,_,u,hu=>by simp only [RepL] at h;subst h;simp at hu
 | c::cs,us,h,h1,u,hu=>by
  simp only [RepL] at h
  obtain ⟨u',us',rfl,h2,h3⟩:=h
  simp only [By,An] at h1
  rcases A3.1 hu with rfl|hu
  ·exact (h2.one h1.1).1
  ·exact RepL.one h3 h1.2 u hu
def RepM (C:Cx):List (CV × AV)->List MapEntry->Prop
 | [],ms=>ms=[]
 | e::es,ms=>∃m ms',ms=m::ms'/\RepC C.ok C.w e.1 m.key/\Rep C e.2 m.val/\RepM C es ms'
theorem RepM.ext {C C':Cx} (h:Ext C C'):∀(es:List (CV × AV)) (ms:List MapEntry),RepM C es ms->RepM C' es ms
 | [],ms,hu=>hu
 | e::es,ms,hu=>by
  obtain ⟨m,ms',h1,h2,h3,h4⟩:=hu
  exact ⟨m,ms',h1,RepC.mono h.ok _ _ h2,Rep.ext h _ _ h3,RepM.ext h es ms' h4⟩
structure LC where
 ps:List Tmp
 asn:Code
 bd:Code
inductive AObj where
 | blk (T:TypeId) (cs:List AV)
 | row (T:TypeId) (cs:List CV)
 | lp (st:LoopState) (sz:Nat) (L:LC) (slots:List Nat) (xs:List AV)
 | dfr (op:Bool)
 | tab (es:List (CV × AV))
 | dead
def AObj.live:AObj->Option AObj
 | .blk T cs=>some (.blk T cs)
 | .row T cs=>some (.row T cs)
 | .lp b sz L sl xs=>some (.lp b sz L sl xs)
 | .dfr b=>some (.dfr b)
 | .tab es=>some (.tab es)
 | .dead=>none
theorem pV {o o':AObj} (h:o.live=some o'):o=o':=by cases o<;>simp [AObj.live] at h<;>exact h
def eB0 (b:Bool):Option (List Deferred):=match b with|true=>some []|false=>none
def ObjRep (C:Cx) (g:Option Nat):AObj->Prop
 | .blk T cs=>∃k us,g=some k/\C.w.heap[k]? = some (.cells us.toArray T (0,0))/\RepL C cs us
 | .row T cs=>(g=none/\cs=[])\/∃k us vs,g=some k/\C.w.heap[k]? = some (.cells (us++vs).toArray T (0,0))/\RepCs C.ok C.w cs us/\∀u∈us,u.oneCell'=true
 | .lp st sz L slots xs=>∃k r,g=some k/\C.w.heap[k]? = some (.loop r)/\r.state=st/\r.pending=none/\r.params=L.ps.toArray/\r.assign=L.asn/\r.body=L.bd/\r.tmps.size=sz/\RepL C xs (slots.map fun s=>r.tmps.getD s undef)
 | .dfr b=>∃k,g=some k/\C.w.heap[k]? = some (.deferred (eB0 b))
 | .tab es=>∃k ms t,g=some k/\C.w.heap[k]? = some (.map ms t)/\Go.MapKept.Stamped ms t/\RepM C es ms.toList
 | .dead=>False
theorem bV {w:World} {g:Nat} {o:Obj} (h:w.heap[g]? = some o):g<w.heap.size:=by
 rcases AA g w.heap.size with h1|h1
 ·exact h1
 ·rw [Bu h1] at h;cases h
theorem ObjRep.lt {C:Cx} {g:Option Nat} {o:AObj} (h:ObjRep C g o):∀k,g=some k->k<C.w.heap.size:=by
 intro k hk
 cases o with
 | blk T cs=>obtain ⟨k',us,rfl,h2,_⟩:=h;injection hk with hk;subst hk;exact bV h2
 | row T cs =>
  rcases h with ⟨h1,_⟩|⟨k',us,vs,rfl,h2,_⟩
  ·rw [h1] at hk;cases hk
  ·injection hk with hk;subst hk;exact bV h2
 | lp b sz L sl xs=>obtain ⟨k',r,rfl,h2,_⟩:=h;injection hk with hk;subst hk;exact bV h2
 | dfr b=>obtain ⟨k',rfl,h2⟩:=h;injection hk with hk;subst hk;exact bV h2
 | tab es=>obtain ⟨k',ms,t,rfl,h2,_⟩:=h;injection hk with hk;subst hk;exact bV h2
 | dead=>exact h.elim
theorem ObjRep.ext {C C':Cx} (h:Ext C C') {g:Option Nat} {o:AObj} (hg:∀k,g=some k->C'.w.heap[k]? = C.w.heap[k]?) (ho:ObjRep C g o):ObjRep C' g o:=by
 cases o with
 | blk T cs =>
  obtain ⟨k,us,rfl,h2,h3⟩:=ho
  exact ⟨k,us,rfl,(hg k rfl).trans h2,RepL.ext h cs us h3⟩
 | row T cs =>
  rcases ho with h1|⟨k,us,vs,rfl,h2,h3,h4⟩
  ·exact .inl h1
  ·exact .inr ⟨k,us,vs,rfl,(hg k rfl).trans h2,RepCs.mono h.ok cs us h3,h4⟩
 | lp b sz L sl xs =>
  obtain ⟨k,r,rfl,h2,h3,h4,h5,h6,h7,h8,h9⟩:=ho
  exact ⟨k,r,rfl,(hg k rfl).trans h2,h3,h4,h5,h6,h7,h8,RepL.ext h xs _ h9⟩
 | dfr b =>
  obtain ⟨k,rfl,h2⟩:=ho
  exact ⟨k,rfl,(hg k rfl).trans h2⟩
 | tab es =>
  obtain ⟨k,ms,t,rfl,h2,h3⟩:=ho
  exact ⟨k,ms,t,rfl,(hg k rfl).trans h2,h3.1,RepM.ext h es _ h3.2⟩
 | dead=>exact ho.elim
structure Bs where
 w0:World
 G:List Nat
 ok0:Nat->Prop
 fr:List Value
def aZ (B:Bs) (dom:Nat->Prop) (M:Nat->Option Nat) (H:Nat->Option AObj) (b:Nat):Prop:=(B.ok0 b\/B.w0.heap.size<=b\/b∈B.G)/\∀id o,dom id->H id=some o->M id≠some b
structure FrB (w0:World) (G:List Nat) (w:World):Prop where
 os:w.os=w0.os
 tape:w.tape=w0.tape
 output:w.output=w0.output
 size:w0.heap.size<=w.heap.size
 block:∀k,k<w0.heap.size->k∉G->w.heap[k]? = w0.heap[k]?
theorem FrB.refl (w:World) (G:List Nat):FrB w G w:=⟨rfl,rfl,rfl,Ag _,fun _ _ _=>rfl⟩
theorem FrB.below {w0 w:World} (h:FrB w0 [] w):Below w0.heap.size w0 w:=⟨h.os,h.tape,h.output,h.size,fun k hk=>h.block k hk aR⟩
structure ConcH (B:Bs) (dom:Nat->Prop) (M:Nat->Option Nat) (H:Nat->Option AObj) (w:World):Prop where
 fr:FrB B.w0 B.G w
 obj:∀id o,dom id->H id=some o->ObjRep ⟨dom,M,aZ B dom M H,w⟩ (M id) o
 inj:∀id id' o o' g,dom id->dom id'->H id=some o->H id'=some o'->M id=some g->M id'=some g->id=id'
 lo:∀id o g,dom id->H id=some o->M id=some g->B.w0.heap.size<=g\/g∈B.G
def ad (dom:Nat->Prop) (i j:Nat) (id:Nat):Prop:=dom id\/(i<=id/\id<j)
section
variable {w w':World} {B:Bs} {dom:Nat->Prop} {M M':Nat->Option Nat} {H:Nat->Option AObj}
theorem dS {w w':World} {b:Nat} (h:w'.heap[b]? = w.heap[b]?):w'.shape? b=w.shape? b:=by simp [World.shape?,h]
theorem iW {w:World} {b:Nat} {x:TypeId × Nat} (h:w.shape? b=some x):b<w.heap.size:=by
 unfold World.shape? at h
 split at h
 ·rename_i c e hh;exact bV hh
 ·cases h
theorem ConcH.grow (h : ConcH B dom M H w) (hb : Below w.heap.size w w') (i j : Nat) (hM : ∀ id, dom id -> M' id = M id) (hd : ∀ id, i <= id -> id < j -> ¬ dom id)
    (hn : ∀ id o, i <= id -> id < j -> H id = some o -> ∀ g, M' id = some g -> w.heap.size <= g)
    (hinj : ∀ id id' o o' g, i <= id -> id < j -> i <= id' -> id' < j -> H id = some o -> H id' = some o' -> M' id = some g -> M' id' = some g -> id = id')
    (ho : Ext ⟨dom, M, aZ B dom M H, w⟩ ⟨ad dom i j, M', aZ B (ad dom i j) M' H, w'⟩ -> ∀ id o, i <= id -> id < j -> H id = some o -> ObjRep ⟨ad dom i j, M', aZ B (ad dom i j) M' H, w'⟩ (M' id) o) :
    ConcH B (ad dom i j) M' H w' /\ Ext ⟨dom, M, aZ B dom M H, w⟩ ⟨ad dom i j, M', aZ B (ad dom i j) M' H, w'⟩ := by
  have hext : Ext ⟨dom, M, aZ B dom M H, w⟩ ⟨ad dom i j, M', aZ B (ad dom i j) M' H, w'⟩ := by
    refine ⟨fun id hid => ⟨.inl hid, hM id hid⟩, fun b hb1 hb2 => ⟨⟨hb1.1, fun id o hid hH he => ?_⟩, A2 hb2 hb.size, hb.block b hb2⟩, shp fun b x hx => ?_⟩
    · rcases hid with hid | ⟨h1, h2⟩
      · exact hb1.2 id o hid hH ((hM id hid).symm.trans he)
      · have := hn id o h1 h2 hH b he
        simp only at hb2
        omega
    · rw [<- hx]
      exact dS (hb.block b (iW hx))
  refine ⟨⟨⟨hb.os.trans h.fr.os, hb.tape.trans h.fr.tape, hb.output.trans h.fr.output, Am h.fr.size hb.size, fun k h1 h2 => (hb.block k (A2 h1 h.fr.size)).trans (h.fr.block k h1 h2)⟩, fun id o hid hH => ?_, fun id id' o o' g h1 h2 h3 h4 h5 h6 => ?_, fun id o g hid hH he => ?_⟩, hext⟩
  · rcases hid with hid | ⟨h1, h2⟩
    · rw [hM id hid]
      have h3 := h.obj id o hid hH
      exact h3.ext hext (fun k hk => hb.block k (h3.lt k hk))
    · exact ho hext id o h1 h2 hH
  · rcases h1 with h1 | h1 <;> rcases h2 with h2 | h2
    · exact h.inj id id' o o' g h1 h2 h3 h4 ((hM id h1).symm.trans h5) ((hM id' h2).symm.trans h6)
    · have k1 := hn id' o' h2.1 h2.2 h4 g h6
      have k2 := (h.obj id o h1 h3).lt g ((hM id h1).symm.trans h5)
      simp only at k2
      omega
    · have k1 := hn id o h1.1 h1.2 h3 g h5
      have k2 := (h.obj id' o' h2 h4).lt g ((hM id' h2).symm.trans h6)
      simp only at k2
      omega
    · exact hinj id id' o o' g h1.1 h1.2 h2.1 h2.2 h3 h4 h5 h6
  · rcases hid with hid | ⟨h1, h2⟩
    · exact h.lo id o g hid hH ((hM id hid).symm.trans he)
    · have := hn id o h1 h2 hH g he
      have := h.fr.size
      exact .inl aA
end
def lk:List (Nat × AObj)->Nat->Option AObj
 | [],_=>none
 | p::r,k=>match Nat.beq p.1 k with|true=>p.2.live|false=>lk r k
def lkE:List (Nat × AV)->Nat->Option AV
 | [],_=>none
 | (i,v)::r,k=>match Nat.beq i k with|true=>some v|false=>lkE r k
def evA (env:List (Nat × AV)):Operand->Option AV
 | .tmp t=>lkE env t
 | .const x=>some (.c (.v x))
 | .global _=>none
 | .func f=>some (.fn f [])
theorem bS (i : Nat) (o : AObj) (h : List (Nat × AObj)) (k : Nat) : lk ((i, o) :: h) k = if i = k then o.live else lk h k := by
  by_cases hk : i = k
  · subst hk; simp [lk, B9]
  · have : Nat.beq i k = false := by
      cases h : Nat.beq i k with
      | false => rfl
      | true => exact absurd (Ae h) hk
    simp only [lk]; rw [this]; simp [hk]
theorem eL (i : Nat) (o : AV) (h : List (Nat × AV)) (k : Nat) : lkE ((i, o) :: h) k = if i = k then some o else lkE h k := by
  by_cases hk : i = k
  · subst hk; simp [lkE, B9]
  · have : Nat.beq i k = false := by
      cases h : Nat.beq i k with
      | false => rfl
      | true => exact absurd (Ae h) hk
    simp only [lkE]; rw [this]; simp [hk]
end
section
inductive TK where
 | bool|int (k:IntKind)|str|ptr|slice (e:TypeId)|array (n:Nat) (e:TypeId)|struct (fs:List (Nat × TypeId))|map (k e:TypeId)|func|iface|other
def aA0:TypeDesc->TK
 | .bool => .bool
 | .int k => .int k
 | .string => .str
 | .pointer _ => .ptr
 | .slice e => .slice e
 | .array n e => .array n e
 | .struct fs => .struct (fs.toList.map fun f=>(f.offset,f.type))
 | .map k e => .map k e
 | .func .. => .func
 | .interface _ => .iface
 | _ => .other
def TK.agg:TK->Bool
 | .struct _ | .array _ _=>true
 | _=>false
structure TyE where
 size:Nat
 bytes:Nat
 kind:TK
 zero:List Value
def TyOk (P:Program) (t:TypeId) (e:TyE):Prop :=
 (P.info? t).map (fun i=>(i.size,i.bytes,i.zero.map (·.cells.toList)))=some (e.size,e.bytes,some e.zero)/\(P.underlying t).map aA0=some e.kind
abbrev Tab:=List (TypeId × TyE)
def bN (P:Program):Tab->Prop
 | []=>True
 | x::r=>TyOk P x.1 x.2/\bN P r
def aQ:Tab->TypeId->Option TyE
 | [],_=>none
 | (i,e)::r,k=>match Nat.beq i k with|true=>some e|false=>aQ r k
theorem aL {P:Program} {t:TypeId} {e:TyE}:∀{tab:Tab},bN P tab->aQ tab t=some e->TyOk P t e
 | [],_,h=>by cases h
 | x::r,ht,h=>by
  unfold aQ at h
  split at h
  ·rename_i he;injection h with h;subst h;rw [<- Ae he];exact ht.1
  ·exact aL ht.2 h
section Ty
variable {P:Program} {t:TypeId} {e:TyE}
section
variable (h:TyOk P t e)
include h
theorem TyOk.parts:∃i,P.info? t=some i/\i.size=e.size/\i.bytes=e.bytes/\∃z,i.zero=some z/\z.cells.toList=e.zero:=by
 obtain ⟨h1,_⟩:=h
 obtain ⟨i,hi,he⟩:=Au.1 h1
 simp only [Prod.mk.injEq] at he
 obtain ⟨z,hz,he2⟩:=Au.1 he.2.2
 exact ⟨i,hi,he.1,he.2.1,z,hz,he2⟩
theorem TyOk.sizeOf (w:World):(sizeOf t).run P w = .ok e.size w:=by
 obtain ⟨i,hi,hs,_⟩:=h.parts
 simp [Go.sizeOf,typeInfo,hi,hs]
theorem TyOk.und:∃d,P.underlying t=some d/\aA0 d=e.kind:=by
 obtain ⟨_,h2⟩:=h
 exact Au.1 h2
theorem TyOk.isAgg (w:World):(isAgg t).run P w = .ok e.kind.agg w:=by
 obtain ⟨d,hd,hk⟩:=h.und
 unfold Go.isAgg
 rw [Sem.run_bind,run_underlying hd w,<- hk]
 cases d<;>simp [aA0,TK.agg]
theorem TyOk.slice {x:TypeId} (hk:e.kind = .slice x):P.underlying t=some (.slice x):=by
 obtain ⟨d,hd,hk'⟩:=h.und
 rw [hk] at hk'
 cases d<;>simp [aA0] at hk'
 subst hk';exact hd
theorem TyOk.array {n:Nat} {x:TypeId} (hk:e.kind = .array n x):P.underlying t=some (.array n x):=by
 obtain ⟨d,hd,hk'⟩:=h.und
 rw [hk] at hk'
 cases d<;>simp [aA0] at hk'
 obtain ⟨rfl,rfl⟩:=hk';exact hd
theorem TyOk.struct {fs:List (Nat × TypeId)} (hk:e.kind = .struct fs):∃fields:Array Field,P.underlying t=some (.struct fields)/\fields.toList.map (fun f=>(f.offset,f.type))=fs:=by
 obtain ⟨d,hd,hk'⟩:=h.und
 rw [hk] at hk'
 cases d<;>simp [aA0] at hk'
 exact ⟨_,hd,hk'⟩
theorem TyOk.int {k:IntKind} (hk:e.kind = .int k):P.underlying t=some (.int k):=by
 obtain ⟨d,hd,hk'⟩:=h.und
 rw [hk] at hk'
 cases d<;>simp [aA0] at hk'
 subst hk';exact hd
theorem TyOk.str (hk:e.kind = .str):P.underlying t=some .string:=by
 obtain ⟨d,hd,hk'⟩:=h.und
 rw [hk] at hk'
 cases d<;>simp [aA0] at hk'
 exact hd
theorem TyOk.bool (hk:e.kind = .bool):P.underlying t=some .bool:=by
 obtain ⟨d,hd,hk'⟩:=h.und
 rw [hk] at hk'
 cases d<;>simp [aA0] at hk'
 exact hd
theorem TyOk.field {fs:List (Nat × TypeId)} (hk:e.kind = .struct fs) {f off:Nat} {ft:TypeId} (hf:fs[f]? = some (off,ft)):∃(fields:Array Field) (fd:Field),P.underlying t=some (.struct fields)/\fields[f]? = some fd/\fd.offset=off/\fd.type=ft:=by
 obtain ⟨fields,h1,h2⟩:=h.struct hk
 rw [<- h2,BG] at hf
 obtain ⟨fd,h3,h4⟩:=Au.1 hf
 simp only [Prod.mk.injEq] at h4
 exact ⟨fields,fd,h1,by simpa using h3,h4.1,h4.2⟩
end
end Ty
theorem gR (b o j:Nat):(⟨b,o,none⟩:Addr).add j=⟨b,o+j,none⟩:=by
 unfold Addr.add;split<;>simp_all
abbrev Env:=List (Nat × AV)
abbrev aO:=List (Nat × AObj)
abbrev Evl:=Operand->Option AV
def Adds (P:Program) (o:Oper) (ev:Evl) (h:aO) (v:AV) (Δ : aO) (i j:Nat):Prop :=
 ∀(B:Bs) (dom:Nat->Prop) (M:Nat->Option Nat) (H:Nat->Option AObj) (w:World) (a:Act) (K:Act->World->Prop) (Q:Exit->Act->World->Prop),
  (∀id o,lk h id=some o->dom id->H id=some o)->(∀id,i<=id->id<j->¬dom id/\H id=lk Δ id) ->
  ConcH B dom M H w->(∀x av,ev x=some av->Rep ⟨dom,M,aZ B dom M H,w⟩ av (a.eval x)) ->
  (∀u w' M',Ext ⟨dom,M,aZ B dom M H,w⟩ ⟨ad dom i j,M',aZ B (ad dom i j) M' H,w'⟩->ConcH B (ad dom i j) M' H w'->Rep ⟨ad dom i j,M',aZ B (ad dom i j) M' H,w'⟩ v u->K (a.put o.dst u) w') ->
  o.wp P a w K Q
def Still (P:Program) (o:Oper) (ev:Evl) (h:aO) (v:AV):Prop :=
 ∀(B:Bs) (dom:Nat->Prop) (M:Nat->Option Nat) (H:Nat->Option AObj) (w:World) (a:Act),
  (∀id o,lk h id=some o->dom id->H id=some o)->ConcH B dom M H w->(∀x av,ev x=some av->Rep ⟨dom,M,aZ B dom M H,w⟩ av (a.eval x)) ->
  ∃u,(execOp a.eval o).run P w = .ok (.value u) w/\Rep ⟨dom,M,aZ B dom M H,w⟩ v u
theorem dN (dom:Nat->Prop) (i:Nat):ad dom i i=dom:=by
 funext id
 simp only [ad,B2]
 exact ⟨fun h=>h.elim (fun h=>h) (fun h=>by omega),.inl⟩
section
variable {P:Program} {o:Oper} {ev:Evl} {h:aO} {v:AV} {i:Nat}
theorem Still.adds (hs:Still P o ev h v):Adds P o ev h v [] i i:=by
 intro B dom M H w a K Q hh _ hc he hK
 obtain ⟨u,hr,hv⟩:=hs B dom M H w a hh hc he
 unfold Oper.wp
 rw [hr]
 simp only [Oper.upon]
 refine hK u w M ?_ ?_ ?_<;>rw [dN]
 ·exact Ext.refl _
 ·exact hc
 ·exact hv
theorem hU {obj : AObj} (hlv : obj.live = some obj) (hrun : ∀ (B : Bs) (dom : Nat -> Prop) (M : Nat -> Option Nat) (H : Nat -> Option AObj) (w : World) (a : Act),
    (∀ id o, lk h id = some o -> dom id -> H id = some o) -> ConcH B dom M H w -> (∀ x av, ev x = some av -> Rep ⟨dom, M, aZ B dom M H, w⟩ av (a.eval x)) ->
    ∃ u w' m, (execOp a.eval o).run P w = .ok (.value u) w' /\ Below w.heap.size w w' /\ (∀ g, m = some g -> w.heap.size <= g) /\
      (∀ C, Ext ⟨dom, M, aZ B dom M H, w⟩ C -> C.w = w' -> C.dom i -> C.M i = m -> ObjRep C m obj /\ Rep C v u)) : Adds P o ev h v [(i, obj)] i (i + 1) := by
  intro B dom M H w a K Q hh hn hc he hK
  obtain ⟨u, w', m, hr, hb, hm, hv⟩ := hrun B dom M H w a hh hc he
  unfold Oper.wp
  rw [hr]
  simp only [Oper.upon]
  have hi := hn i (Ag _) (Be _)
  have e1 : H i = some obj := by rw [hi.2, bS, Al rfl, hlv]
  let M' : Nat -> Option Nat := fun id => if id = i then m else M id
  have hM' : M' i = m := by simp [M']
  have hg := hc.grow hb i (i + 1) (M' := M') (fun id hid => by
      have : id ≠ i := fun e => hi.1 (e ▸ hid)
      simp [M', this]) (fun id h1 h2 => (hn id h1 h2).1)
    (fun id o h1 h2 h3 g hg => by
      obtain rfl : id = i := by omega
      rw [hM'] at hg
      exact hm g hg)
    (fun id id' o o' g h1 h2 h3 h4 => fun _ _ _ _ => by omega)
    (fun hext id o h1 h2 h3 => by
      obtain rfl : id = i := by omega
      rw [e1] at h3
      injection h3 with h3
      subst h3
      rw [hM']
      exact (hv _ hext rfl (.inr ⟨h1, h2⟩) hM').1)
  exact hK u w' M' hg.2 hg.1 (hv _ hg.2 rfl (.inr ⟨Ag _, Be _⟩) hM').2
end
section ops
variable {P:Program} {tab:Tab} {ev:Evl} {h:aO} {d:Option Tmp} {T ty:TypeId} {x y z:Operand} {pos:String} {aft:Array Edge} {gd:Option (Nat × Bool)} {i:Nat}
theorem lX {v:AV} (hx:ev x=some v):Still P ⟨d,.move x,ty,pos,aft,gd⟩ ev h v:=by
 intro B dom M H w a hh hc he
 exact ⟨a.eval x,by simp [execOp],he x v hx⟩
theorem yZ {v:AV} (hx:ev x=some v):Still P ⟨d,.assign x,ty,pos,aft,gd⟩ ev h v:=by
 intro B dom M H w a hh hc he
 exact ⟨a.eval x,by simp [execOp],he x v hx⟩
theorem wM {v:AV} (hc0:ev z=some (.c (.v (.bool true)))) (hx:ev x=some v):Still P ⟨d,.pick z x y,ty,pos,aft,gd⟩ ev h v:=by
 intro B dom M H w a hh hc he
 have h0:=he z _ hc0
 simp only [Rep,RepC] at h0
 exact ⟨a.eval x,by simp [execOp,h0,asBool],he x v hx⟩
theorem wL {v:AV} (hc0:ev z=some (.c (.v (.bool false)))) (hy:ev y=some v):Still P ⟨d,.pick z x y,ty,pos,aft,gd⟩ ev h v:=by
 intro B dom M H w a hh hc he
 have h0:=he z _ hc0
 simp only [Rep,RepC] at h0
 exact ⟨a.eval y,by simp [execOp,h0,asBool],he y v hy⟩
section
variable {B : Bs} {dom : Nat -> Prop} {M : Nat -> Option Nat} {H : Nat -> Option AObj} {w : World} (hh : ∀ id o, lk h id = some o -> dom id -> H id = some o) (hc : ConcH B dom M H w) {id g : Nat}
include B dom M H w hh hc id g
theorem gY{T : TypeId} {cs : List AV}
    (ho : lk h id = some (.blk T cs)) (hd : dom id) (hM : M id = some g) : ∃ us, w.heap[g]? = some (.cells us.toArray T (0, 0)) /\ RepL ⟨dom, M, aZ B dom M H, w⟩ cs us := by
  obtain ⟨k, us, h1, h2, h3⟩ := hc.obj id _ hd (hh id _ ho hd)
  rw [hM] at h1
  injection h1 with h1
  subst h1
  exact ⟨us, h2, h3⟩
theorem eW{T : TypeId} {cs : List CV}
    (ho : lk h id = some (.row T cs)) (hd : dom id) (hM : M id = some g) : ∃ us vs, w.heap[g]? = some (.cells (us ++ vs).toArray T (0, 0)) /\ RepCs (aZ B dom M H) w cs us /\ ∀ u ∈ us, u.oneCell' = true := by
  rcases hc.obj id _ hd (hh id _ ho hd) with ⟨h1, _⟩ | ⟨k, us, vs, h1, h2, h3, h4⟩
  · rw [hM] at h1; cases h1
  · rw [hM] at h1
    injection h1 with h1
    subst h1
    exact ⟨us, vs, h2, h3, h4⟩
end
theorem mS {w:World} {g:Nat} {us:List Value} {T:TypeId} {fz:Nat × Nat} (h:w.heap[g]? = some (.cells us.toArray T fz)) (off:Nat):w.cell? ⟨g,off,none⟩=us[off]? := by
 simp [World.cell?,h]
theorem iQ {w:World} {g:Nat} {us vs:List Value} {T:TypeId} {fz:Nat × Nat} (h:w.heap[g]? = some (.cells (us++vs).toArray T fz)) {off:Nat} {u:Value} (hu:us[off]? = some u):w.cell? ⟨g,off,none⟩=some u:=by
 rw [mS h,A8 (Ad.1 hu).1]
 exact hu
theorem pZ {w:World} {e:TyE} (hT:TyOk P T e) (hk:e.kind.agg=false) {p:Addr} {u:Value} (hp:w.cell? p=some u):(loadVar T p).run P w = .ok u w:=by
 have ha:=hT.isAgg w
 simp [loadVar,Sem.run_bind,ha,hk,hp]
theorem nF {w:World} {e:TyE} (hT:TyOk P T e) (hk:e.kind.agg=true) {g off:Nat} {us:List Value} (hl:us.length=e.size) (hp:∀j u,us[j]? = some u->w.cell? ⟨g,off+j,none⟩=some u):(loadVar T ⟨g,off,none⟩).run P w = .ok (.agg us.toArray) w:=by
 have ha:=hT.isAgg w
 have hs:=hT.sizeOf w
 have:=run_loadCells_list (P:=P) w ⟨g,off,none⟩ us (fun j v hj=>by rw [gR];exact hp j v hj)
 rw [hl] at this
 simp [loadVar,Sem.run_bind,ha,hk,hs,this]
section
variable (tb : bN P tab) {e : TyE} (hT : aQ tab T = some e) (hk : e.kind.agg = false)
include tb e hT hk
theorem jZ {id off : Nat} {T' : TypeId} {cs : List AV} {v : AV} (hx : ev x = some (.ref id off)) (ho : lk h id = some (.blk T' cs)) (hv : cs[off]? = some v) :
    Still P ⟨d, .load T x, ty, pos, aft, gd⟩ ev h v := by
  intro B dom M H w a hh hc he
  have hp := he x _ hx
  simp only [Rep] at hp
  obtain ⟨hd, g, hM, hp⟩ := hp
  obtain ⟨us, h2, h3⟩ := gY hh hc ho hd hM
  obtain ⟨u, hu, hr⟩ := h3.get hv
  refine ⟨u, ?_, hr⟩
  have := pZ (P := P) (w := w) (aL tb hT) hk (p := ⟨g, off, none⟩) (by rw [mS h2]; exact hu)
  simp [execOp, hp, Instr.loadAt, Instr.sureAddr, this]
theorem iV {id off : Nat} {T' : TypeId} {cs : List CV} {v : CV} (hx : ev x = some (.ref id off)) (ho : lk h id = some (.row T' cs)) (hv : cs[off]? = some v) :
    Still P ⟨d, .load T x, ty, pos, aft, gd⟩ ev h (.c v) := by
  intro B dom M H w a hh hc he
  have hp := he x _ hx
  simp only [Rep] at hp
  obtain ⟨hd, g, hM, hp⟩ := hp
  obtain ⟨us, vs, h2, h3, h30⟩ := eW hh hc ho hd hM
  obtain ⟨u, hu, hr⟩ := h3.get hv
  refine ⟨u, ?_, hr⟩
  have := pZ (P := P) (w := w) (aL tb hT) hk (p := ⟨g, off, none⟩) (iQ h2 hu)
  simp [execOp, hp, Instr.loadAt, Instr.sureAddr, this]
theorem iU {off : Nat} {cs : List CV} {v : CV} (hx : ev x = some (.ip cs off)) (hv : cs[off]? = some v) :
    Still P ⟨d, .load T x, ty, pos, aft, gd⟩ ev h (.c v) := by
  intro B dom M H w a hh hc he
  have hp := he x _ hx
  simp only [Rep] at hp
  obtain ⟨b, o, us, hp, h2, h3, h4, h40, h5⟩ := hp
  obtain ⟨u, hu, hr⟩ := h4.get hv
  refine ⟨u, ?_, hr⟩
  have := pZ (P := P) (w := w) (aL tb hT) hk (p := ⟨b, o + off, none⟩) (h5 off u hu)
  simp [execOp, hp, Instr.loadAt, Instr.sureAddr, this]
end
def oE:List AV->Option (List CV)
 | []=>some []
 | .c x::r=>match oE r with|some cs=>some (x::cs)|none=>none
 | _::_=>none
theorem bB0:∀{xs:List AV} {cs:List CV},oE xs=some cs->xs=cs.map AV.c
 | [],cs,h=>by simp [oE] at h;subst h;rfl
 | .c x::r,cs,h=>by
  simp only [oE] at h
  split at h
  ·rename_i cs' h';injection h with h;subst h;rw [bB0 h'];rfl
  ·cases h
 | .ref .. :: r,cs,h=>by simp [oE] at h
 | .own .. :: r,cs,h=>by simp [oE] at h
 | .ip .. :: r,cs,h=>by simp [oE] at h
 | .agg .. :: r,cs,h=>by simp [oE] at h
 | .tup .. :: r,cs,h=>by simp [oE] at h
 | .fn .. :: r,cs,h=>by simp [oE] at h
 | .yld .. :: r,cs,h=>by simp [oE] at h
 | .mh .. :: r,cs,h=>by simp [oE] at h
 | .bm .. :: r,cs,h=>by simp [oE] at h
 | .junk::r,cs,h=>by simp [oE] at h
inductive IsAgg:List AV->AV->Prop
 | closed {xs:List AV} {cs:List CV} (h:oE xs=some cs) (h1:xs.all AV.one=true):IsAgg xs (.c (.agg cs))
 | mixed (xs:List AV):IsAgg xs (.agg xs)
theorem IsAgg.rep {C:Cx} {xs:List AV} {v:AV} (h:IsAgg xs v) {us:List Value} (hr:RepL C xs us):Rep C v (.agg us.toArray):=by
 cases h with
 | closed h h1 =>
  have h2:=hr.one h1
  rw [bB0 h] at hr;exact ⟨us,rfl,hr.toC,h2⟩
 | mixed=>exact ⟨us,rfl,hr⟩
inductive Parts:AV->List AV->Prop
 | closed (cs:List CV):Parts (.c (.agg cs)) (cs.map AV.c)
 | mixed (xs:List AV):Parts (.agg xs) xs
theorem Parts.rep {C:Cx} {xs:List AV} {v:AV} (h:Parts v xs) {u:Value} (hr:Rep C v u):∃us,u = .agg us.toArray/\RepL C xs us:=by
 cases h with
 | closed cs=>obtain ⟨us,h1,h2,_⟩:=hr;exact ⟨us,h1,RepL.ofC h2⟩
 | mixed=>exact hr
section
variable (tb : bN P tab) {e : TyE} (hT : aQ tab T = some e) (hk : e.kind.agg = true)
include tb e hT hk
theorem aJ7 {id off : Nat} {T' : TypeId} {cs xs : List AV} {v : AV} (hx : ev x = some (.ref id off)) (ho : lk h id = some (.blk T' cs)) (hxs : (cs.drop off).take e.size = xs) (hl : xs.length = e.size) (hv : IsAgg xs v) :
    Still P ⟨d, .load T x, ty, pos, aft, gd⟩ ev h v := by
  intro B dom M H w a hh hc he
  have hp := he x _ hx
  simp only [Rep] at hp
  obtain ⟨hd, g, hM, hp⟩ := hp
  obtain ⟨us, h2, h3⟩ := gY hh hc ho hd hM
  have h4 := (h3.drop off).take e.size
  rw [hxs] at h4
  refine ⟨.agg ((us.drop off).take e.size).toArray, ?_, hv.rep h4⟩
  have := nF (P := P) (w := w) (aL tb hT) hk (g := g) (off := off) (us := (us.drop off).take e.size) (by rw [h4.length, hl]) (fun j u hj => by
    rw [mS h2]
    have hjk : j < e.size := by
      rcases AA j e.size with h1 | h1
      · exact h1
      · rw [AN gS] at hj; cases hj
    rwa [AZ hjk, AP] at hj)
  simp [execOp, hp, Instr.loadAt, Instr.sureAddr, this]
theorem gF {id off : Nat} {T' : TypeId} {cs xs : List CV} (hx : ev x = some (.ref id off)) (ho : lk h id = some (.row T' cs)) (hxs : (cs.drop off).take e.size = xs) (hl : xs.length = e.size) :
    Still P ⟨d, .load T x, ty, pos, aft, gd⟩ ev h (.c (.agg xs)) := by
  intro B dom M H w a hh hc he
  have hp := he x _ hx
  simp only [Rep] at hp
  obtain ⟨hd, g, hM, hp⟩ := hp
  obtain ⟨us, vs, h2, h3, h30⟩ := eW hh hc ho hd hM
  have h4 := (h3.drop off).take e.size
  rw [hxs] at h4
  refine ⟨.agg ((us.drop off).take e.size).toArray, ?_, _, rfl, h4, fun u hu => h30 u (Ba (AG hu))⟩
  have := nF (P := P) (w := w) (aL tb hT) hk (g := g) (off := off) (us := (us.drop off).take e.size) (by rw [h4.length, hl]) (fun j u hj => by
    have hjk : j < e.size := by
      rcases AA j e.size with h1 | h1
      · exact h1
      · rw [AN gS] at hj; cases hj
    rw [AZ hjk, AP] at hj
    exact iQ h2 hj)
  simp [execOp, hp, Instr.loadAt, Instr.sureAddr, this]
theorem gE {off : Nat} {cs xs : List CV} (hx : ev x = some (.ip cs off)) (hxs : (cs.drop off).take e.size = xs) (hl : xs.length = e.size) :
    Still P ⟨d, .load T x, ty, pos, aft, gd⟩ ev h (.c (.agg xs)) := by
  intro B dom M H w a hh hc he
  have hp := he x _ hx
  simp only [Rep] at hp
  obtain ⟨b, o, us, hp, h2, h3, h4, h40, h5⟩ := hp
  have h6 := (h4.drop off).take e.size
  rw [hxs] at h6
  refine ⟨.agg ((us.drop off).take e.size).toArray, ?_, _, rfl, h6, fun u hu => h40 u (Ba (AG hu))⟩
  have := nF (P := P) (w := w) (aL tb hT) hk (g := b) (off := o + off) (us := (us.drop off).take e.size) (by rw [h6.length, hl]) (fun j u hj => by
    have hjk : j < e.size := by
      rcases AA j e.size with h1 | h1
      · exact h1
      · rw [AN gS] at hj; cases hj
    rw [AZ hjk, AP] at hj
    rw [BZ]
    exact h5 _ u hj)
  simp [execOp, hp, Instr.loadAt, Instr.sureAddr, this]
end
section
variable (tb : bN P tab) {e e' : TyE} {fs : List (Nat × TypeId)} (hT : aQ tab T = some e) (hk : e.kind = .struct fs) {f fo : Nat} {ft : TypeId} (hf : fs[f]? = some (fo, ft)) (hft : aQ tab ft = some e') (hpos : Nat.beq e'.size 0 = false)
include tb e e' fs hT hk f fo ft hf hft hpos
theorem gH {id off : Nat} (hx : ev x = some (.ref id off)) :
    Still P ⟨d, .fieldAddr T x f, ty, pos, aft, gd⟩ ev h (.ref id (off + fo)) := by
  intro B dom M H w a hh hc he
  have hp := he x _ hx
  simp only [Rep] at hp
  obtain ⟨hd, g, hM, hp⟩ := hp
  obtain ⟨fields, fd, h1, h2, h3, h4⟩ := (aL tb hT).field hk hf
  refine ⟨.pointer (some ⟨g, off + fo, none⟩), ?_, hd, g, hM, rfl⟩
  have hsz : ¬ e'.size = 0 := fun h0 => by rw [h0] at hpos; cases hpos
  subst h3 h4
  have hs := (aL tb hft).sizeOf w
  simp [execOp, Instr.fieldAt, Sem.run_bind, run_underlying h1, h2, hp, Instr.sureAddr, fieldPlace, hs, hsz, gR]
theorem nS {cs : List CV} {off : Nat} (hx : ev x = some (.ip cs off)) :
    Still P ⟨d, .fieldAddr T x f, ty, pos, aft, gd⟩ ev h (.ip cs (off + fo)) := by
  intro B dom M H w a hh hc he
  have hp := he x _ hx
  simp only [Rep] at hp
  obtain ⟨b, o, us, hp, h2', h3', h4', h6', h5'⟩ := hp
  obtain ⟨fields, fd, h1, h2, h3, h4⟩ := (aL tb hT).field hk hf
  refine ⟨.pointer (some ⟨b, o + (off + fo), none⟩), ?_, b, o, us, rfl, h2', h3', h4', h6', h5'⟩
  have hsz : ¬ e'.size = 0 := fun h0 => by rw [h0] at hpos; cases hpos
  subst h3 h4
  have hs := (aL tb hft).sizeOf w
  simp [execOp, Instr.fieldAt, Sem.run_bind, run_underlying h1, h2, hp, Instr.sureAddr, fieldPlace, hs, hsz, gR, BZ]
end
theorem uH {xs:List AV} {k:Nat} {u:AV} (hx:ev x=some (.tup xs)) (hu:xs[k]? = some u):Still P ⟨d,.extract x k,ty,pos,aft,gd⟩ ev h u:=by
 intro B dom M H w a hh hc he
 have hp:=he x _ hx
 simp only [Rep] at hp
 obtain ⟨us,h1,h2⟩:=hp
 obtain ⟨u',hu',hr⟩:=h2.get hu
 refine ⟨u',?_,hr⟩
 simp [execOp,Instr.extract,h1,hu']
theorem fO {C:Cx} {a:Act} (he:∀x av,ev x=some av->Rep C av (a.eval x)):∀{xs:List Operand} {vs:List AV},xs.map ev=vs.map some->RepL C vs (xs.map a.eval)
 | [],vs,h=>by cases vs with|nil=>simp [RepL]|cons v vs=>simp at h
 | x::xs,vs,h=>by
  cases vs with
  | nil=>simp at h
  | cons v vs =>
   simp only [AF,List.cons.injEq] at h
   exact ⟨_,_,rfl,he x v h.1,fO he h.2⟩
def nW (ev:Evl):List Operand->Option (List AV)
 | []=>some []
 | x::r=>match ev x with
  | some v=>match nW ev r with|some vs=>some (v::vs)|none=>none
  | none=>none
theorem lD:∀{xs:List Operand} {vs:List AV},nW ev xs=some vs->xs.map ev=vs.map some
 | [],vs,h=>by simp [nW] at h;subst h;rfl
 | x::r,vs,h=>by
  simp only [nW] at h
  split at h
  ·rename_i v hv
   split at h
   ·rename_i ws hw
    injection h with h;subst h
    simp [hv,lD hw]
   ·cases h
  ·cases h
def eC (ev:Evl):List Operand->Option (List CV)
 | []=>some []
 | x::r=>match ev x with
  | some (.c v)=>match eC ev r with|some vs=>some (v::vs)|none=>none
  | _=>none
theorem wT:∀{xs:List Operand} {vs:List CV},eC ev xs=some vs->xs.map ev=vs.map (fun c=>some (AV.c c))
 | [],vs,h=>by simp [eC] at h;subst h;rfl
 | x::r,vs,h=>by
  simp only [eC] at h
  split at h
  ·rename_i v hv
   split at h
   ·rename_i ws hw
    injection h with h;subst h
    simp [hv,wT hw]
   ·cases h
  ·cases h
theorem rI {f:FuncId} {caps:List Operand} {vs:List AV} (hx:nW ev caps=some vs):Still P ⟨d,.makeFunc (.func f) #[] caps.toArray,ty,pos,aft,gd⟩ ev h (.fn f vs):=by
 intro B dom M H w a hh hc he
 refine ⟨.func (.func f) #[] (caps.map a.eval).toArray,?_,_,rfl,fO he (lD hx)⟩
 simp [execOp,Instr.makeFunc]
theorem iH {id off:Nat} (hx:ev x=some (.ref id off)):Still P ⟨d,.nilCheck x,ty,pos,aft,gd⟩ ev h (.ref id off):=by
 intro B dom M H w a hh hc he
 have hp:=he x _ hx
 refine ⟨a.eval x,?_,hp⟩
 simp only [Rep] at hp
 obtain ⟨hd,g,hM,hp⟩:=hp
 simp [execOp,hp]
theorem kQ {op : BinOp} {T' : TypeId} {p q r : Value} (hx : ev x = some (.c (.v p))) (hy : ev y = some (.c (.v q))) (hg : ∀ w, (eqGuard op T x y p q).run P w = .ok () w) (hrun : ∀ w, (binOp op T p q).run P w = .ok r w) :
    Still P ⟨d, .binOp op T x y T', ty, pos, aft, gd⟩ ev h (.c (.v r)) := by
  intro B dom M H w a hh hc he
  have h1 := he x _ hx
  have h2 := he y _ hy
  simp only [Rep, RepC] at h1 h2
  refine ⟨r, ?_, rfl⟩
  simp [execOp, h1, h2, hg, hrun]
theorem eP {op:BinOp} {k k':IntKind} {m n:Int} (w:World):(eqGuard op T x y (.int k m) (.int k' n)).run P w = .ok () w:=by
 cases op<;>simp [eqGuard]
theorem bM3 {op:BinOp} {m n:ByteArray} (w:World):(eqGuard op T x y (.string m) (.string n)).run P w = .ok () w:=by
 cases op<;>simp [eqGuard]
section ints
variable {T':TypeId} {k:IntKind} {m n r:Int} {b:Bool} (hx:ev x=some (.c (.v (.int k m)))) (hy:ev y=some (.c (.v (.int k n))))
include hx hy
theorem dI1 (hr:k.wrap (m+n)=r):Still P ⟨d,.binOp .add T x y T',ty,pos,aft,gd⟩ ev h (.c (.v (.int k r))):=kQ hx hy eP (fun w=>by simp [binOp,Op.intArith,hr])
theorem dI5 (hr:k.wrap (m-n)=r):Still P ⟨d,.binOp .sub T x y T',ty,pos,aft,gd⟩ ev h (.c (.v (.int k r))):=kQ hx hy eP (fun w=>by simp [binOp,Op.intArith,hr])
theorem dI2 (hr:k.wrap (m*n)=r):Still P ⟨d,.binOp .mul T x y T',ty,pos,aft,gd⟩ ev h (.c (.v (.int k r))):=kQ hx hy eP (fun w=>by simp [binOp,Op.intArith,hr])
theorem aE0 (h0:n≠0) (hr:m.tmod n=r):Still P ⟨d,.binOp .rem T x y T',ty,pos,aft,gd⟩ ev h (.c (.v (.int k r))):=kQ hx hy eP (fun w=>by simp [binOp,Op.intDiv,hr,h0])
theorem aD9 (hr:k.wrap (BitVec.ofInt k.bits m &&& BitVec.ofInt k.bits n).toNat=r):Still P ⟨d,.binOp .and T x y T',ty,pos,aft,gd⟩ ev h (.c (.v (.int k r))):=kQ hx hy eP (fun w=>by subst hr;simp [binOp,Op.intBits])
theorem bP0 (hr:k.wrap (BitVec.ofInt k.bits m ||| BitVec.ofInt k.bits n).toNat=r):Still P ⟨d,.binOp .or T x y T',ty,pos,aft,gd⟩ ev h (.c (.v (.int k r))):=kQ hx hy eP (fun w=>by subst hr;simp [binOp,Op.intBits])
theorem bH6 (hr:k.wrap (BitVec.ofInt k.bits m ^^^ BitVec.ofInt k.bits n).toNat=r):Still P ⟨d,.binOp .xor T x y T',ty,pos,aft,gd⟩ ev h (.c (.v (.int k r))):=kQ hx hy eP (fun w=>by subst hr;simp [binOp,Op.intBits])
theorem dX3 (hr:decide (m=n)=b):Still P ⟨d,.binOp .eql T x y T',ty,pos,aft,gd⟩ ev h (.c (.v (.bool b))):=kQ hx hy eP (fun w=>by subst hr;simp [binOp,Op.intCmp];rfl)
theorem dX8 (hr:decide (m≠n)=b):Still P ⟨d,.binOp .neq T x y T',ty,pos,aft,gd⟩ ev h (.c (.v (.bool b))):=kQ hx hy eP (fun w=>by subst hr;simp [binOp,Op.intCmp,bne];rfl)
theorem dX7 (hr:decide (m<n)=b):Still P ⟨d,.binOp .lss T x y T',ty,pos,aft,gd⟩ ev h (.c (.v (.bool b))):=kQ hx hy eP (fun w=>by subst hr;simp [binOp,Op.intCmp])
theorem dX6 (hr:decide (m<=n)=b):Still P ⟨d,.binOp .leq T x y T',ty,pos,aft,gd⟩ ev h (.c (.v (.bool b))):=kQ hx hy eP (fun w=>by subst hr;simp [binOp,Op.intCmp])
theorem dX5 (hr:decide (n<m)=b):Still P ⟨d,.binOp .gtr T x y T',ty,pos,aft,gd⟩ ev h (.c (.v (.bool b))):=kQ hx hy eP (fun w=>by subst hr;simp [binOp,Op.intCmp])
theorem dX4 (hr:decide (n<=m)=b):Still P ⟨d,.binOp .geq T x y T',ty,pos,aft,gd⟩ ev h (.c (.v (.bool b))):=kQ hx hy eP (fun w=>by subst hr;simp [binOp,Op.intCmp])
end ints
section
variable {T' : TypeId} {k k' : IntKind} {m n r : Int} (hx : ev x = some (.c (.v (.int k m)))) (hy : ev y = some (.c (.v (.int k' n)))) (h0 : 0 <= n)
include T' k k' m n r hx hy h0
theorem aR4 (hr : k.wrap (m * 2 ^ (min n.toNat k.bits)) = r) : Still P ⟨d, .binOp .shl T x y T', ty, pos, aft, gd⟩ ev h (.c (.v (.int k r))) :=
  kQ hx hy eP (fun w => by have : ¬ n < 0 := by omega
                           subst hr; simp [binOp, Op.shift, this])
theorem aR5 (hr : m.fdiv (2 ^ (min n.toNat k.bits)) = r) : Still P ⟨d, .binOp .shr T x y T', ty, pos, aft, gd⟩ ev h (.c (.v (.int k r))) :=
  kQ hx hy eP (fun w => by have : ¬ n < 0 := by omega
                           subst hr; simp [binOp, Op.shift, this])
end
theorem dP1 {op:UnOp} {p r:Value} (hx:ev x=some (.c (.v p))) (hrun:∀w,(Op.unary op p).run P w = .ok r w):Still P ⟨d,.unOp op T x,ty,pos,aft,gd⟩ ev h (.c (.v r)):=by
 intro B dom M H w a hh hc he
 have h1:=he x _ hx
 simp only [Rep,RepC] at h1
 exact ⟨r,by simp [execOp,h1,hrun],rfl⟩
theorem cI9 {b c:Bool} (hx:ev x=some (.c (.v (.bool b)))) (hr:(!b)=c):Still P ⟨d,.unOp .not T x,ty,pos,aft,gd⟩ ev h (.c (.v (.bool c))):=dP1 hx (fun w=>by subst hr;simp [Op.unary])
theorem cI7 {k:IntKind} {m r:Int} (hx:ev x=some (.c (.v (.int k m)))) (hr:k.wrap (0-m)=r):Still P ⟨d,.unOp .neg T x,ty,pos,aft,gd⟩ ev h (.c (.v (.int k r))):=dP1 hx (fun w=>by subst hr;simp [Op.unary,Op.intArith])
theorem sR {k:IntKind} {m r:Int} (hx:ev x=some (.c (.v (.int k m)))) (hr:k.wrap (BitVec.ofInt k.bits (if k.signed then -1 else k.max) ^^^ BitVec.ofInt k.bits m).toNat=r):Still P ⟨d,.unOp .xor T x,ty,pos,aft,gd⟩ ev h (.c (.v (.int k r))):=dP1 hx (fun w=>by subst hr;simp [Op.unary,Op.intBits])
theorem iO (tb:bN P tab) {S:TypeId} {e es:TyE} {k k':IntKind} {m r:Int} (hS:aQ tab S=some es) (hT:aQ tab T=some e) (hk:e.kind = .int k) (hx:ev x=some (.c (.v (.int k' m)))) (hr:k.wrap m=r):Still P ⟨d,.convert S T x,ty,pos,aft,gd⟩ ev h (.c (.v (.int k r))):=by
 intro B dom M H w a hh hc he
 have h1:=he x _ hx
 simp only [Rep,RepC] at h1
 refine ⟨.int k r,?_,rfl⟩
 obtain ⟨ds,hds,_⟩:=(aL tb hS).und
 simp [execOp,h1,convert,run_underlying hds,run_underlying ((aL tb hT).int hk),Conv.intToInt,hr]
end ops
end
section
def WF:Option Nat->Fence
 | none=>Fence.wide
 | some l=>Fence.wide.inRound l
def nC (o:Oper):Bool:=match o.op with | .defer _=>false|_=>true
def pG:Code->Bool
 | .seq a b=>pG a&&pG b
 | .cond _ a b=>pG a&&pG b
 | .block _ c=>pG c
 | .loop c=>pG c
 | .region _ ops false=>ops.toList.all nC
 | .region _ ops true=>ops.toList.all nC
 | .skip=>true
 | .ret=>true
 | .exit _=>true
 | _=>false
def wpG (P:Program) (c:Code) (Q:Exit->Act->World->Prop) (a:Act) (w:World):Prop:=∀rd:Option Nat,(rd=none\/pG c=true)->c.wpIn (WF rd) 0 P Q a w
def cY0 (P:Program) (ops:Array Oper) (Q:Exit->Act->World->Prop) (l:List Oper) (a:Act) (w:World):Prop:=∀rd:Option Nat,(rd=none\/l.all nC=true)->wpListIn (WF rd) 0 P ops Q l a w
theorem bI4 (rd:Option Nat) (f:FuncId):(WF rd).fn f:=by cases rd<;>trivial
theorem cL4 (rd:Option Nat):(WF rd).depth=none:=by cases rd<;>rfl
theorem bI5 {n:Nat} (rd:Option Nat):(WF rd).depth.isSome=true->1<=n:=fun hh=>by simp [cL4] at hh
section
variable {rd:Option Nat} {n:Nat} {P:Program}
include rd n P
theorem bS3 {f:FuncId} {args:Array Value} {w:World} {R:Ending->World->Prop} (h:Calls P f args w R):CallsIn (WF rd) n P f args w R:=by
 have:=callsIn_wide (n:=n).2 h
 cases rd with
 | none=>exact this
 | some l=>exact this
theorem cW1 {row:String} {args:Array Value} {w:World} {R:Value->World->Prop} (h:Rows P row args w R):RowsIn (WF rd) n P row args w R:=by
 have:RowsIn Fence.wide n P row args w R:=fun c cs _=>let ⟨v,w',r,s⟩:=h c cs;⟨v,w',r,stepsIn_wide.2 s⟩
 cases rd with
 | none=>exact this
 | some l=>exact this
theorem bG0 {o:Oper} {a:Act} {w:World} {K:Act->World->Prop} {Q:Exit->Act->World->Prop} (hd:rd=none\/nC o=true) (h:o.wp P a w K Q):o.wpIn (WF rd) n P a w K Q:=by
 refine ⟨fun f _=>bI4 rd f,?_⟩
 have hs:o.semAt (WF rd).round a.eval=execOp a.eval o:=by
  rcases hd with rfl|hd
  ·rfl
  ·cases rd with
   | none=>rfl
   | some l=>exact Oper.semAt_eq _ _ _ (fun c hc=>by rw [nC,hc] at hd;cases hd)
 rw [hs]
 unfold Oper.wp at h
 generalize (execOp a.eval o).run P w=r at *
 cases r with
 | ok x w' =>
  cases x<;>simp only [Oper.upon,Oper.uponIn] at h ⊢ <;>
   first
    | exact h
    | exact ⟨bI5 rd,CallsIn.mono (bS3 h) (fun e w'' he=>by cases e<;>exact he)⟩
    | exact ⟨bI5 rd,cW1 h⟩
    | exact h.elim
 | halt x w'=>cases x<;>simp only [Oper.upon,Oper.uponIn] at h ⊢ <;> exact h
theorem cE5 {o:Oper} {a:Act} {w:World} {K:Act->World->Prop} {Q:Exit->Act->World->Prop} (hd:rd=none\/nC o=true) (h:o.wp P a w K (fun _ _ _=>False)):o.wpIn (WF rd) n P a w K Q:=by
 refine ⟨fun f _=>bI4 rd f,?_⟩
 have hh:=(bG0 (n:=n) hd h).2
 generalize (o.semAt (WF rd).round a.eval).run P w=r at *
 cases r with
 | ok x w' =>
  cases x<;>simp only [Oper.uponIn] at hh ⊢ <;>
   first
    | exact hh
    | exact hh.elim
    | exact ⟨hh.1,CallsIn.mono hh.2 (fun e w'' he=>by cases e<;>first|exact he|exact he.elim|exact (let ⟨_,_,h⟩:=he;h.elim))⟩
    | exact ⟨hh.1,RoundIn.mono hh.2 (fun e w'' he=>by cases e<;>first|exact he|exact he.elim|exact (let ⟨_,_,h⟩:=he;h.elim))⟩
 | halt x w'=>cases x<;>simp only [Oper.uponIn] at hh ⊢ <;> first|exact hh|exact hh.elim
theorem aK4 {ops:Array Oper} {i:Nat} {a:Act} {w:World} {K:Act->World->Prop} {Q:Exit->Act->World->Prop} (hd:rd=none\/∀o,ops[i]? = some o->nC o=true) (h:wpOp P ops (fun _ _ _=>False) i K a w):wpOpIn (WF rd) n P ops Q i K a w:=by
 unfold wpOp at h
 unfold wpOpIn
 cases ho:ops[i]? with
 | none=>rw [ho] at h;exact h
 | some o =>
  rw [ho] at h
  simp only at h ⊢
  split
  ·rename_i hw
   rw [Al hw] at h
   rcases h with h|⟨_,_,_,h⟩
   ·exact cE5 (hd.imp id fun k=>k o ho) h
   ·exact h.elim
  ·rename_i hw
   rw [Ak hw] at h
   exact ⟨fun f _=>bI4 rd f,h⟩
end
theorem jQ {F : Fence} {n : Nat} {P : Program} {md : Region.Mode} {ops : Array Oper} {Q' : Exit -> Act -> World -> Prop} : ∀ (l : List Oper) (k : Nat) (listed : Array Bool) (a : Act) (w : World), (∀ j, l[j]? = ops[k + j]?) ->
    Region.seqB md ops l.length k listed = true -> wpListIn F n P ops Q' l a w -> wpAnyIn F n P md ops Q' l.length listed a w
  | [], _, _, _, _, _, hB, h => ⟨by simpa [Region.seqB] using hB, h⟩
  | o :: l, k, listed, a, w, hl, hB, h => by
    have h0 : ops[k]? = some o := by simpa using (hl 0).symm
    simp only [At, Region.seqB, An, Bv] at hB
    refine ⟨fun h1 => (by rw [hB.1] at h1; cases h1), fun i hi => ?_⟩
    rw [hB.1] at hi
    have hik : i = k := by simpa using hi
    subst hik
    have hw : wpOpIn F n P ops Q' i (wpListIn F n P ops Q' l) a w := by unfold wpOpIn; simp only [h0]; exact h
    exact wpOpIn_mono (fun a' w' h' => jQ l (i + 1) _ a' w' (fun j => by have := hl (j + 1); simpa [BZ, CE 1 j] using this) hB.2 h') hw
section rules
variable {P:Program} {Q:Exit->Act->World->Prop} {a:Act} {w:World}
theorem jW {c:Code} (h:wpG P c Q a w):c.wp P Q a w:=wpIn_wide.1 (h none (.inl rfl))
theorem nH {c:Code} {Q':Exit->Act->World->Prop} (h:wpG P c Q a w) (hq:∀e a w,Q e a w->Q' e a w):wpG P c Q' a w:=fun rd hr=>wpIn_mono (h rd hr) hq
theorem cL6 (h:Q .normal a w):wpG P .skip Q a w:=fun rd _=>wpIn_skip h
theorem cY1 (h:Q .ret a w):wpG P .ret Q a w:=fun rd _=>wpIn_ret h
theorem cL5 {id:Nat} (h:Q (.exit id) a w):wpG P (.exit id) Q a w:=fun rd _=>wpIn_exit h
theorem aX6 {rd:Option Nat} {x y:Bool} (h:rd=none\/(x&&y)=true):(rd=none\/x=true)/\(rd=none\/y=true):=by
 rcases h with h|h
 ·exact ⟨.inl h,.inl h⟩
 ·rw [An] at h;exact ⟨.inr h.1,.inr h.2⟩
theorem cY2 {x y:Code} (h:wpG P x (Exit.then (wpG P y Q) Q) a w):wpG P (.seq x y) Q a w:=fun rd hr=>by
 obtain ⟨h1,h2⟩:=aX6 hr
 exact wpIn_seq (wpIn_mono (h rd h1) fun e a w hq=>by cases e<;>first|exact hq rd h2|exact hq)
theorem aT5 {c:Operand} {x y:Code} {t:Bool} (hc:a.eval c = .bool t) (h:wpG P (if t then x else y) Q a w):wpG P (.cond c x y) Q a w:=fun rd hr=>by
 obtain ⟨h1,h2⟩:=aX6 hr
 refine wpIn_cond hc (h rd ?_)
 cases t
 ·exact h2
 ·exact h1
theorem bQ0 {id:Nat} {c:Code} (h:wpG P c (Exit.inBlock id Q) a w):wpG P (.block id c) Q a w:=fun rd hr=>wpIn_block (h rd hr)
theorem aT6 {c : Code} (I : Act -> World -> Prop) (μ : Act -> World -> Nat) (h₀ : I a w)
    (round : ∀ a w, I a w -> wpG P c (Exit.then (fun a' w' => I a' w' /\ μ a' w' < μ a w) Q) a w) : wpG P (.loop c) Q a w := fun rd hr => wpIn_loop I μ h₀ fun a w hI => round a w hI rd hr
def mD (P:Program) (c:Code) (Q:Exit->Act->World->Prop):Nat->Act->World->Prop
 | 0,_,_=>False
 | n+1,a,w=>wpG P c (Exit.then (mD P c Q n) Q) a w
theorem aJ2 {c:Code} {n:Nat}:mD P c Q (n+1) a w=wpG P c (Exit.then (mD P c Q n) Q) a w:=rfl
theorem vO {c:Code} (n:Nat) (h:mD P c Q n a w):wpG P (.loop c) Q a w:=by
 classical
 refine aT6 (fun a w=>∃m,mD P c Q m a w) (fun a w=>if hI:∃m,mD P c Q m a w then Classical.choose (least hI) else 0) ⟨n,h⟩ fun a w hI=>?_
 obtain ⟨hm,hmin⟩:=Ch (least hI)
 have e:(if hI:∃m,mD P c Q m a w then Classical.choose (least hI) else 0)=Classical.choose (least hI):=dif_pos hI
 rw [e]
 generalize Classical.choose (least hI)=m at hm hmin
 cases m with
 | zero=>exact hm.elim
 | succ m =>
  refine nH hm fun ex a' w' hq=>?_
  cases ex with
  | normal =>
   have hJ:∃m,mD P c Q m a' w':=⟨m,hq⟩
   refine ⟨hJ,?_⟩
   rw [dif_pos hJ]
   have:=(Ch (least hJ)).2 m hq
   omega
  | _=>exact hq
where
 least {p:Nat->Prop} (hp:∃m,p m):∃m,p m/\∀k,p k->m<=k:=by
  obtain ⟨m,hm⟩:=hp
  induction m using Nat.strongRecOn with
  | _ m ih =>
   by_cases h:∃k,k<m/\p k
   ·obtain ⟨k,hk,hpk⟩:=h
    exact ih k hk hpk
   ·refine ⟨m,hm,fun k hk=>?_⟩
    rcases AA k m with h1|h1
    ·exact absurd ⟨k,h1,hk⟩ h
    ·exact h1
theorem zX {id:Nat} {l:List Oper} (h:cY0 P l.toArray Q l a w):wpG P (.region id l.toArray false) Q a w:=fun rd hr=>wpIn_region_lit (h rd hr)
theorem dZ {ops : Array Oper} {rest : List Oper} {o : Oper}
    (h : ∀ K : Act -> World -> Prop, (∀ a w, cY0 P ops Q rest a w -> K a w) ->
      if Region.wanted o (yielded ops a.tmps) then o.wp P a w K Q else K (a.put o.dst undef) w) : cY0 P ops Q (o :: rest) a w := fun rd hr => by
  rw [By] at hr
  obtain ⟨h1, h2⟩ := aX6 hr
  refine wpListIn_step fun K hK => ?_
  have := h K (fun a w hl => hK a w (hl rd h2))
  split
  · rename_i hw; rw [Al hw] at this; exact bG0 h1 this
  · rename_i hw; rw [Ak hw] at this; exact ⟨fun f _ => bI4 rd f, this⟩
end rules
def iK (P : Program) (fn : Func) (tmps : Array Value) (R : Ending -> World -> Prop) : List Deferred -> World -> Prop
  | [], w => ∃ v, (results fn tmps).run P w = .ok v w /\ R (.returned v) w
  | d :: ds, w => (∃ r w', d.target = .collected r /\ (Instr.takeDeferred r).run P w = .ok [] w' /\ iK P fn tmps R ds w') \/
      (∃ fv cap f args, d.target = .fn fv cap /\ (invoke d.target d.args).run P w = .ok (.enter f args) w /\ CallsD P f args .returning w fun e u' w' => (∃ v, e = .returned v) /\ u' = .returning /\ iK P fn tmps R ds w')
theorem qO {P : Program} {fn : Func} {tmps : Array Value} {R : Ending -> World -> Prop} : ∀ (ds : List Deferred) (w : World) (fr : Frame) (cs : List Frame), fr.mode = .returning -> fr.defers = ds -> fr.tmps = tmps -> P.funcs[fr.fn]? = some fn -> fr.kind = .normal -> iK P fn tmps R ds w ->
    ∃ e w' fr', R e w' /\ Comes P (lone fr cs w) (lone fr' cs w') e /\ fr'.fn = fr.fn /\ fr'.leaving P w' e := by
  intro ds
  induction ds with
  | nil =>
    intro w fr cs hu hd ht hf hk h
    obtain ⟨v, hr, hR⟩ := h
    exact ⟨.returned v, w, fr, hR, Steps.refl P _, rfl, hu, hd, hk, fn, hf, ht ▸ hr⟩
  | cons d ds ih =>
    intro w fr cs hu hd ht hf hk h
    rcases h with ⟨r, w', h1, h2, h3⟩ | ⟨fv, cap, f, args, h1, h2, h3⟩
    · have s1 := step_collected (cs := cs) (by rw [hu]; simp) hd h1 h2
      obtain ⟨e', w'', fr', hR', hs', hfn', hl'⟩ := ih w' { fr with defers := [] ++ ds } cs hu rfl ht hf hk h3
      exact ⟨e', w'', fr', hR', Comes.of_steps (.one s1) hs', hfn', hl'⟩
    · have s1 := step_defer (cs := cs) (by rw [hu]; simp) hd h1 h2
      obtain ⟨e, u', w', frX, ⟨⟨v, rfl⟩, rfl, hR⟩, hsteps, hkX, hgo⟩ := h3 { fr with defers := ds } cs hu
      have s2 := step_going_returned (c := { { fr with defers := ds } with mode := .returning }) (cs := cs) hkX hgo
      obtain ⟨e', w'', fr', hR', hs', hfn', hl'⟩ := ih w' { { { fr with defers := ds } with mode := .returning } with mode := settle .returning } cs rfl rfl ht hf hk hR
      exact ⟨e', w'', fr', hR', Comes.of_steps (.head s1 (Steps.trans hsteps (.one s2))) hs', hfn', hl'⟩
def dJ4 (P:Program) (fn:Func) (R:Ending->World->Prop):Exit->Act->World->Prop
 | .normal,a,w=>iK P fn a.tmps R a.defers w
 | .ret,a,w=>iK P fn a.tmps R a.defers w
 | _,_,_=>False
theorem gI {P : Program} {f : FuncId} {fn : Func} {c : Code} {args : Array Value} {w : World} {R : Ending -> World -> Prop} (hf : P.funcs[f]? = some fn) (hb : fn.body = some c)
    (h : c.wp P (dJ4 P fn R) { tmps := args ++ Array.replicate (fn.ntmps - args.size) undef, defers := [] } w) : Calls P f args w R := by
  intro cs
  let b : Frame := { (default : Frame) with fn := f, kind := .normal }
  have henter : Frame.enter P f args .normal = b.at { tmps := args ++ Array.replicate (fn.ntmps - args.size) undef, defers := [] } [.code c] := by
    simp [Frame.enter, Frame.at, hf, hb, b]
  obtain ⟨e, a', w', hq, harr⟩ := h b [] cs
  rw [<- henter] at harr
  cases e with
  | normal =>
    obtain ⟨e', w'', fr', hR, hs, hfn, hl⟩ := qO a'.defers w' { b.at a' [] with mode := .returning } cs rfl rfl rfl hf rfl hq
    exact ⟨e', w'', fr', hR, Comes.of_steps (Steps.trans harr (.one step_end)) hs, hfn, hl⟩
  | ret =>
    obtain ⟨todo, hs₀⟩ := harr
    obtain ⟨e', w'', fr', hR, hs, hfn, hl⟩ := qO a'.defers w' { b.at a' todo with mode := .returning } cs rfl rfl rfl hf rfl hq
    exact ⟨e', w'', fr', hR, Comes.of_steps hs₀ hs, hfn, hl⟩
  | panic chain => exact hq.elim
  | exit id => exact hq.elim
  | goto l => exact hq.elim
  | outgrown => exact hq.elim
theorem aF2 {l:List Oper} {p:Oper->Bool} (h:l.all p=true) {i:Nat} {o:Oper} (ho:l.toArray[i]? = some o):p o=true:=As.1 h o (Ac (by simpa using ho))
end
section
abbrev cA:=List (Option FuncId × List AV)
def uN:FuncId:=1000000007
def bU3:List Value->Deferred
 | [.pointer (some p)]=>{target := .collected p.block,args := #[]}
 | us=>{target := .fn (.func 0) us.toArray,args := #[]}
def bE0 (f:FuncId) (us:List Value):Deferred:=match Nat.beq f uN with
 | false=>{target := .fn (.func f) us.toArray,args := #[]}
 | true=>bU3 us
theorem xU {f:FuncId} {us:List Value} (h:Nat.beq f uN=false):bE0 f us={target := .fn (.func f) us.toArray,args := #[]}:=by rw [bE0,h]
def DefRep (fr:List Value) (C:Cx):cA->List Deferred->Prop
 | [],ds=>ds=[]
 | (some f,caps)::r,ds=>∃us ds',ds=bE0 f us::ds'/\RepL C caps us/\DefRep fr C r ds'
 | (none,xs)::r,ds=>RepL C xs fr/\DefRep fr C r ds
theorem DefRep.ext {fr:List Value} {C C':Cx} (h:Ext C C'):∀{l:cA} {ds:List Deferred},DefRep fr C l ds->DefRep fr C' l ds
 | [],ds,hd=>hd
 | (some f,caps)::r,ds,hd=>by
  obtain ⟨us,ds',h1,h2,h3⟩:=hd
  exact ⟨us,ds',h1,RepL.ext h _ _ h2,DefRep.ext h h3⟩
 | (none,xs)::r,ds,hd=>⟨RepL.ext h _ _ hd.1,DefRep.ext h hd.2⟩
abbrev lt (n:Nat):Nat->Prop:=fun id=>id<n
def cx (B:Bs) (n:Nat) (M:Nat->Option Nat) (h:aO) (w:World):Cx:=⟨lt n,M,aZ B (lt n) M (lk h),w⟩
def rK (B:Bs) (sz n:Nat) (env:Env) (h:aO) (dfs:cA) (a:Act) (w:World):Prop :=
 ∃M,ConcH B (lt n) M (lk h) w/\a.tmps.size=sz/\(∀t av,lkE env t=some av->Rep (cx B n M h w) av (a.tmps.getD t undef))/\DefRep B.fr (cx B n M h w) dfs a.defers
abbrev AK:=Exit->Nat->Env->aO->cA->Prop
def KC (B:Bs) (sz:Nat) (K:AK) (e:Exit) (a:Act) (w:World):Prop:=∃n env h dfs,K e n env h dfs/\rK B sz n env h dfs a w
def AW (P:Program) (sz:Nat) (c:Code) (K:AK) (n:Nat) (env:Env) (h:aO) (dfs:cA):Prop :=
 ∀B a w,rK B sz n env h dfs a w->wpG P c (KC B sz K) a w
def AWL (P:Program) (ops:Array Oper) (sz:Nat) (l:List Oper) (K:AK) (n:Nat) (env:Env) (h:aO) (dfs:cA):Prop :=
 ∀B a w,rK B sz n env h dfs a w->cY0 P ops (KC B sz K) l a w
def bI1 (next:Nat->Env->aO->cA->Prop) (K:AK):AK
 | .normal,n,env,h,dfs=>next n env h dfs
 | e,n,env,h,dfs=>K e n env h dfs
def uX (id:Nat) (K:AK):AK
 | .exit id',n,env,h,dfs=>match Nat.beq id' id with|true=>K .normal n env h dfs|false=>K (.exit id') n env h dfs
 | e,n,env,h,dfs=>K e n env h dfs
section rules
variable {P:Program} {sz n:Nat} {env:Env} {h:aO} {dfs:cA} {K:AK}
theorem dJ3 {x y:Code} (hx:AW P sz x (bI1 (AW P sz y K) K) n env h dfs):AW P sz (.seq x y) K n env h dfs:=by
 intro B a w hc
 refine cY2 (nH (hx B a w hc) fun e a w hq=>?_)
 obtain ⟨n',env',h',d',hk,hc'⟩:=hq
 cases e<;>first|exact hk B a w hc'|exact ⟨n',env',h',d',hk,hc'⟩
theorem cN3 (hk:K .normal n env h dfs):AW P sz .skip K n env h dfs:=fun B a w hc=>cL6 ⟨n,env,h,dfs,hk,hc⟩
theorem dJ2 (hk:K .ret n env h dfs):AW P sz .ret K n env h dfs:=fun B a w hc=>cY1 ⟨n,env,h,dfs,hk,hc⟩
theorem cN0 {id:Nat} (hk:K (.exit id) n env h dfs):AW P sz (.exit id) K n env h dfs:=fun B a w hc=>cL5 ⟨n,env,h,dfs,hk,hc⟩
theorem bR6 {id:Nat} {c:Code} (hx:AW P sz c (uX id K) n env h dfs):AW P sz (.block id c) K n env h dfs:=by
 intro B a w hc
 refine bQ0 (nH (hx B a w hc) fun e a w hq=>?_)
 obtain ⟨n',env',h',d',hk,hc'⟩:=hq
 cases e with
 | exit id' =>
  simp only [uX] at hk
  simp only [Exit.inBlock]
  split at hk
  ·rename_i he
   rw [Al (Ae he)]
   exact ⟨n',env',h',d',hk,hc'⟩
  ·rename_i he
   rw [Ak (fun e=>by subst e;rw [B9] at he;cases he)]
   exact ⟨n',env',h',d',hk,hc'⟩
 | _=>exact ⟨n',env',h',d',hk,hc'⟩
theorem dC {B:Bs} {a:Act} {w:World} {M:Nat->Option Nat} (he:∀t av,lkE env t=some av->Rep (cx B n M h w) av (a.tmps.getD t undef)):∀x av,evA env x=some av->Rep (cx B n M h w) av (a.eval x):=by
 intro x av hx
 cases x with
 | tmp t=>exact he t av hx
 | const v=>simp only [evA,Option.some.injEq] at hx;subst hx;simp [Rep,RepC,Act.eval]
 | global g=>cases hx
 | func f=>simp only [evA,Option.some.injEq] at hx;subst hx;exact ⟨[],rfl,rfl⟩
section
variable {c:Operand} {x y:Code} {b:Bool} (hb:evA env c=some (.c (.v (.bool b))))
include c x y b hb
theorem bB2 (ht:b=true->AW P sz x K n env h dfs) (hf:b=false->AW P sz y K n env h dfs):AW P sz (.cond c x y) K n env h dfs:=by
 intro B a w hc
 obtain ⟨M,h1,h2,h3,h4⟩:=id hc
 have:=dC h3 c _ hb
 simp only [Rep,RepC] at this
 cases b with
 | true=>exact aT5 this (ht rfl B a w hc)
 | false=>exact aT5 this (hf rfl B a w hc)
theorem wW (hb':b=true) (ht:AW P sz x K n env h dfs):AW P sz (.cond c x y) K n env h dfs:=by
 subst hb';exact bB2 hb (fun _=>ht) (fun h=>by cases h)
theorem wV (hb':b=false) (ht:AW P sz y K n env h dfs):AW P sz (.cond c x y) K n env h dfs:=by
 subst hb';exact bB2 hb (fun h=>by cases h) (fun _=>ht)
end
def cO (n:Nat) (env:Env) (h:aO) (dfs:cA) (N:Nat) (E:Env) (Hp:aO) (D:cA):Prop:=∀B sz a w,rK B sz n env h dfs a w->rK B sz N E Hp D a w
theorem kS {c:Code} {N:Nat} {E:Env} {Hp:aO} {D:cA} (hw:cO n env h dfs N E Hp D) (hx:AW P sz c K N E Hp D):AW P sz c K n env h dfs:=fun B a w hc=>hx B a w (hw B sz a w hc)
theorem jU (p:Nat->Prop) (hp:∃m,p m):∃m,p m/\∀k,p k->m<=k:=by
 obtain ⟨m,hm⟩:=hp
 induction m using Nat.strongRecOn with
 | _ m ih =>
  by_cases h:∃k,k<m/\p k
  ·obtain ⟨k,hk,hpk⟩:=h
   exact ih k hk hpk
  ·refine ⟨m,hm,fun k hk=>?_⟩
   rcases AA k m with h1|h1
   ·exact absurd ⟨k,h1,hk⟩ h
   ·exact h1
theorem cN1 {ι : Type} {c : Code} (N : Nat) (E : ι -> Env) (Hp : ι -> aO) (D : cA) (Inv : ι -> Prop) (μ : ι -> Nat) (i0 : ι) (h0 : Inv i0) (hw : cO n env h dfs N (E i0) (Hp i0) D)
    (round : ∀ i, Inv i -> AW P sz c (bI1 (fun n' env' h' dfs' => ∃ j, Inv j /\ μ j < μ i /\ cO n' env' h' dfs' N (E j) (Hp j) D) K) N (E i) (Hp i) D) : AW P sz (.loop c) K n env h dfs := by
  intro B a w hc
  classical
  let I : Act -> World -> Prop := fun a w => ∃ i, Inv i /\ rK B sz N (E i) (Hp i) D a w
  let p : Act -> World -> Nat -> Prop := fun a w m => ∃ i, Inv i /\ rK B sz N (E i) (Hp i) D a w /\ μ i = m
  let μ' : Act -> World -> Nat := fun a w => if hI : ∃ m, p a w m then Classical.choose (jU _ hI) else 0
  refine aT6 I μ' ⟨i0, h0, hw B sz a w hc⟩ fun a w hI => ?_
  have hI' : ∃ m, p a w m := by
    obtain ⟨i, h1, h2⟩ := hI
    exact ⟨μ i, i, h1, h2, rfl⟩
  obtain ⟨⟨i, h1, h2, h3⟩, _⟩ := Ch (jU _ hI')
  have hm : μ' a w = μ i := by simp only [μ', dif_pos hI', h3]
  refine nH (round i h1 B a w h2) fun e a' w' hq => ?_
  obtain ⟨n', env', h', d', hk, hc'⟩ := hq
  cases e with
  | normal =>
    obtain ⟨j, hj1, hj2, hj3⟩ := hk
    have hcj := hj3 B sz a' w' hc'
    refine ⟨⟨j, hj1, hcj⟩, ?_⟩
    have hJ : ∃ m, p a' w' m := ⟨μ j, j, hj1, hcj, rfl⟩
    have : μ' a' w' <= μ j := by
      simp only [μ', dif_pos hJ]
      exact (Ch (jU _ hJ)).2 _ ⟨j, hj1, hcj, rfl⟩
    omega
  | _ => exact ⟨n', env', h', d', hk, hc'⟩
theorem pL {id:Nat} {l:List Oper} (hx:AWL P l.toArray sz l K n env h dfs):AW P sz (.region id l.toArray false) K n env h dfs:=fun B a w hc=>zX (hx B a w hc)
theorem cN5 {ops:Array Oper} (hk:K .normal n env h dfs):AWL P ops sz [] K n env h dfs:=fun B a w hc rd _=>⟨n,env,h,dfs,hk,hc⟩
def fR (env:Env) (d:Option Tmp) (v:AV):Env:=match d with|some t=>(t,v)::env|none=>env
theorem mC {Δ h:aO} {k:Nat} {o:AObj} (ho:lk Δ k=some o):lk (Δ ++ h) k=some o:=by
 induction Δ with
 | nil=>cases ho
 | cons p Δ ih =>
  obtain ⟨i,q⟩:=p
  rw [AL,bS]
  rw [bS] at ho
  split
  ·rename_i e;rw [Al e] at ho;exact ho
  ·rename_i e;rw [Ak e] at ho;exact ih ho
theorem kF {Δ h:aO} {k:Nat} (ho:∀p ∈ Δ,p.1≠k):lk (Δ ++ h) k=lk h k:=by
 induction Δ with
 | nil=>rfl
 | cons p Δ ih =>
  obtain ⟨i,q⟩:=p
  rw [AL,bS,Ak (ho (i,q) aR)]
  exact ih fun p hp=>ho p (by simp [hp])
theorem aP1 {n n':Nat} (h:n<=n'):ad (lt n) n n'=lt n':=by
 funext id
 simp only [ad,lt,B2]
 omega
theorem jY {B : Bs} {a : Act} {w w' : World} {M M' : Nat -> Option Nat} {n' : Nat} {h' : aO} (hs : a.tmps.size = sz) (he : ∀ t av, lkE env t = some av -> Rep (cx B n M h w) av (a.tmps.getD t undef))
    (hext : Ext (cx B n M h w) (cx B n' M' h' w')) {d : Option Tmp} {v : AV} {u : Value} (hd : ∀ t, d = some t -> t < sz) (hv : Rep (cx B n' M' h' w') v u) :
    (a.put d u).tmps.size = sz /\ (∀ t av, lkE (fR env d v) t = some av -> Rep (cx B n' M' h' w') av ((a.put d u).tmps.getD t undef)) /\ (a.put d u).defers = a.defers := by
  cases d with
  | none => exact ⟨hs, fun t av ht => Rep.ext hext _ _ (he t av ht), rfl⟩
  | some k =>
    have hk := hd k rfl
    refine ⟨by simp [Act.put, hs], fun t av ht => ?_, rfl⟩
    simp only [fR, eL] at ht
    by_cases hkt : k = t
    · subst hkt
      rw [Al rfl] at ht
      injection ht with ht
      subst ht
      simp only [Act.put]
      rw [show (a.tmps.setIfInBounds k u).getD k undef = u by simp [hs, hk]]
      exact hv
    · rw [Ak hkt] at ht
      simp only [Act.put]
      rw [show (a.tmps.setIfInBounds k u).getD t undef = a.tmps.getD t undef by simp [AX hkt]]
      exact Rep.ext hext _ _ (he t av ht)
def guardA (ops:Array Oper) (env:Env) (o:Oper) (b:Bool):Prop :=
 match o.guard with
 | none=>b=true
 | some (j,want)=>∃t,(ops[j]?).bind (·.dst)=some t/\((∃c,lkE env t=some (.c (.v (.bool c)))/\(c==want)=b)\/(lkE env t=some (.c (.v undef))/\b=false))
theorem mF {ops:Array Oper} {tmps:Array Value} {j t:Nat} (h1:(ops[j]?).bind (·.dst)=some t) (h4:tmps.getD t undef=undef):yielded ops tmps j=none:=by
 unfold yielded
 rw [h1]
 simp only [Ap]
 cases hq:tmps[t]? with
 | none=>rfl
 | some q =>
  have:q=undef:=by rw [<- h4];simp [hq]
  subst this
  rfl
theorem guardA.wanted {ops : Array Oper} {o : Oper} {b : Bool} {B : Bs} {a : Act} {w : World} {M : Nat -> Option Nat} (hg : guardA ops env o b) (he : ∀ t av, lkE env t = some av -> Rep (cx B n M h w) av (a.tmps.getD t undef)):
    Region.wanted o (yielded ops a.tmps) = b := by
  unfold guardA at hg
  unfold Region.wanted
  cases hgd : o.guard with
  | none => rw [hgd] at hg; exact hg.symm
  | some p =>
    obtain ⟨j, want⟩ := p
    rw [hgd] at hg
    obtain ⟨t, h1, h2⟩ := hg
    rcases h2 with ⟨c, h2, h3⟩ | ⟨h2, rfl⟩
    rotate_left
    · have h4 := he t _ h2
      simp only [Rep, RepC] at h4
      simp [mF h1 h4]
    have h4 := he t _ h2
    simp only [Rep, RepC] at h4
    have hlt : t < a.tmps.size := by
      rcases AA t a.tmps.size with h1 | h1
      · exact h1
      · simp [h1, undef] at h4
    have : yielded ops a.tmps j = some c := by
      unfold yielded
      rw [h1]
      have h5 : a.tmps[t]? = some (.bool c) := by
        rw [<- h4]
        simp [hlt]
      simp [h5]
    simp only [this]
    rw [<- h3]
    cases c <;> cases want <;> rfl
end rules
end
section
section steps
variable {P:Program} {sz n:Nat} {env:Env} {h:aO} {dfs:cA} {K:AK} {ops:Array Oper} {rest:List Oper} {o:Oper}
def gG (d:Option Tmp) (sz:Nat):Bool:=match d with|some t=>Nat.blt t sz|none=>true
theorem eO {d:Option Tmp} (h:gG d sz=true):∀t,d=some t->t<sz:=by
 intro t ht;subst ht;simpa [gG,AI] using h
theorem rN {v : AV} {Δ : aO} {n' : Nat} (hg : guardA ops env o true) (hd : gG o.dst sz = true) (hn : n <= n') (hA : Adds P o (evA env) h v Δ n n') (hcov : ∀ id, n <= id -> id < n' -> (lk Δ id).isSome = true) (hkeys : ∀ p ∈ Δ, n <= p.1)
    (next : AWL P ops sz rest K n' (fR env o.dst v) (Δ ++ h) dfs) : AWL P ops sz (o :: rest) K n env h dfs := by
  intro B a w hc
  obtain ⟨M, h1, h2, h3, h4⟩ := hc
  refine dZ fun K' hK' => ?_
  rw [Al (hg.wanted h3)]
  have e1 : ∀ id, id < n -> lk (Δ ++ h) id = lk h id := fun id hid => kF fun p hp e => by have := hkeys p hp; omega
  have e2 : ∀ id, n <= id -> id < n' -> lk (Δ ++ h) id = lk Δ id := fun id h5 h6 => by
    obtain ⟨o', ho'⟩ := AM.1 (hcov id h5 h6)
    rw [mC ho', ho']
  have eok : aZ B (lt n) M (lk (Δ ++ h)) = aZ B (lt n) M (lk h) := by
    funext b
    unfold aZ
    simp only [B2]
    exact dS7
  have h1' : ConcH B (lt n) M (lk (Δ ++ h)) w := by
    refine ⟨h1.fr, fun id o hid hH => ?_, fun id id' o o' g k1 k2 k3 k4 => h1.inj id id' o o' g k1 k2 aF8 aF6, fun id o g k1 k2 => h1.lo id o g k1 aF9⟩
    rw [eok]
    exact h1.obj id o hid tC
  refine hA B (lt n) M (lk (Δ ++ h)) w a K' (KC B sz K) (fun id o k1 k2 => by rw [e1 id k2]; exact k1) (fun id k1 k2 => ⟨by simp only [lt]; omega, e2 id k1 k2⟩) h1' (by rw [eok]; exact dC h3) ?_
  intro u w' M' hext hcc hv
  rw [aP1 hn] at hext hcc hv
  rw [eok] at hext
  obtain ⟨p1, p2, p3⟩ := jY (h' := Δ ++ h) (M' := M') h2 h3 hext (eO hd) hv
  exact hK' _ _ (next B _ _ ⟨M', hcc, p1, p2, by rw [p3]; exact h4.ext hext⟩)
theorem bK0 {v:AV} (hg:guardA ops env o true) (hd:gG o.dst sz=true) (hA:Still P o (evA env) h v) (next:AWL P ops sz rest K n (fR env o.dst v) h dfs):AWL P ops sz (o::rest) K n env h dfs :=
 rN hg hd (Ag _) hA.adds (fun id h1 h2=>by omega) aR next
theorem cN4 {v:AV} (hg:guardA ops env o true) (hd:gG o.dst sz=true) (hA:Adds P o (evA env) h v [] n n) (next:AWL P ops sz rest K n (fR env o.dst v) h dfs):AWL P ops sz (o::rest) K n env h dfs :=
 rN hg hd (Ag _) hA (fun id h1 h2=>by omega) aR next
theorem cN6 {v:AV} {obj:AObj} (hlv:obj.live=some obj) (hg:guardA ops env o true) (hd:gG o.dst sz=true) (hA:Adds P o (evA env) h v [(n,obj)] n (n+1)) (next:AWL P ops sz rest K (n+1) (fR env o.dst v) ((n,obj)::h) dfs):AWL P ops sz (o::rest) K n env h dfs :=
 rN hg hd (B7 _) hA (fun id h1 h2=>by
  obtain rfl:id=n:=by omega
  rw [bS,Al rfl,hlv];rfl) aR next
theorem bS1 (hg:guardA ops env o false) (hd:gG o.dst sz=true) (next:AWL P ops sz rest K n (fR env o.dst (.c (.v undef))) h dfs):AWL P ops sz (o::rest) K n env h dfs:=by
 intro B a w hc
 obtain ⟨M,h1,h2,h3,h4⟩:=hc
 refine dZ fun K' hK'=>?_
 rw [Ak (by rw [hg.wanted h3];simp)]
 obtain ⟨p1,p2,p3⟩:=jY (v := .c (.v undef)) (u:=undef) h2 h3 (Ext.refl _) (eO hd) (by simp [Rep,RepC])
 exact hK' _ _ (next B _ _ ⟨M,h1,p1,p2,by rw [p3];exact h4⟩)
theorem aD {ops:Array Oper} {d:Option Tmp} {op:Op} {ty:TypeId} {pos:String} {aft:Array Edge}:guardA ops env ⟨d,op,ty,pos,aft,none⟩ true:=rfl
theorem cG {ops:Array Oper} {d:Option Tmp} {op:Op} {ty:TypeId} {pos:String} {aft:Array Edge} {j:Nat} {want b:Bool} {t:Tmp} {c:Bool} (h1:(ops[j]?).bind (·.dst)=some t) (h2:lkE env t=some (.c (.v (.bool c)))) (h3:(c==want)=b):guardA ops env ⟨d,op,ty,pos,aft,some (j,want)⟩ b:=⟨t,h1,.inl ⟨c,h2,h3⟩⟩
theorem aH6 {ops:Array Oper} {d:Option Tmp} {op:Op} {ty:TypeId} {pos:String} {aft:Array Edge} {j:Nat} {want:Bool} {t:Tmp} (h1:(ops[j]?).bind (·.dst)=some t) (h2:lkE env t=some (.c (.v undef))):guardA ops env ⟨d,op,ty,pos,aft,some (j,want)⟩ false:=⟨t,h1,.inr ⟨h2,rfl⟩⟩
theorem ConcH.turn {B : Bs} {M : Nat -> Option Nat} {w w' : World} (hc : ConcH B (lt n) M (lk h) w) {id g : Nat} {o o' : AObj} (hlv : o'.live = some o') (hid : id < n) (ho : lk h id = some o) (hM : M id = some g)
    (hos : w'.os = w.os) (htp : w'.tape = w.tape) (hou : w'.output = w.output) (hsz : w'.heap.size = w.heap.size) (hbl : ∀ k, k ≠ g -> w'.heap[k]? = w.heap[k]?) (hsh : w'.shape? g = w.shape? g)
    (hob : Ext (cx B n M h w) (cx B n M ((id, o') :: h) w') -> ObjRep (cx B n M ((id, o') :: h) w') (some g) o') :
    ConcH B (lt n) M (lk ((id, o') :: h)) w' /\ Ext (cx B n M h w) (cx B n M ((id, o') :: h) w') := by
  have hlk : ∀ k, k ≠ id -> lk ((id, o') :: h) k = lk h k := fun k hk => by rw [bS, Ak (fun e => hk e.symm)]
  have hlk0 : lk ((id, o') :: h) id = some o' := by rw [bS, Al rfl, hlv]
  have hok : ∀ b, aZ B (lt n) M (lk h) b -> aZ B (lt n) M (lk ((id, o') :: h)) b /\ b ≠ g := fun b hb => by
    refine ⟨⟨hb.1, fun k ok hk hH he => ?_⟩, fun e => hb.2 id o hid ho (by rw [hM, e])⟩
    by_cases hki : k = id
    · subst hki; exact hb.2 k o hk ho he
    · rw [hlk k hki] at hH; exact hb.2 k ok hk hH he
  have hext : Ext (cx B n M h w) (cx B n M ((id, o') :: h) w') := by
    refine ⟨fun k hk => ⟨hk, rfl⟩, fun b hb hl => ⟨(hok b hb).1, by simp only [cx] at hl ⊢; omega, hbl b (hok b hb).2⟩, shp fun b x hx => ?_⟩
    simp only [cx] at hx ⊢
    by_cases hbg : b = g
    · subst hbg; rw [hsh]; exact hx
    · rw [dS (hbl b hbg)]; exact hx
  refine ⟨⟨⟨hos.trans hc.fr.os, htp.trans hc.fr.tape, hou.trans hc.fr.output, by rw [hsz]; exact hc.fr.size, fun k h1 h2 => ?_⟩, fun k ok hk hH => ?_, fun k k' ok ok' g' k1 k2 k3 k4 k5 k6 => ?_, fun k ok g' k1 k2 k3 => ?_⟩, hext⟩
  · rw [hbl k (fun e => ?_)]
    · exact hc.fr.block k h1 h2
    · subst e
      rcases hc.lo id o k hid ho hM with h3 | h3
      · omega
      · exact h2 h3
  · by_cases hki : k = id
    · subst hki
      rw [hlk0] at hH
      injection hH with hH
      subst hH
      rw [hM]
      exact hob hext
    · rw [hlk k hki] at hH
      have h3 := hc.obj k ok hk hH
      refine h3.ext hext (fun j hj => hbl j (fun e => ?_))
      subst e
      exact hki (hc.inj k id ok o j hk hid hH ho hj hM)
  · have get : ∀ k ok, lk ((id, o') :: h) k = some ok -> ∃ ok', lk h k = some ok' := fun k ok hk => by
      by_cases hki : k = id
      · subst hki; exact ⟨o, ho⟩
      · rw [hlk k hki] at hk; exact ⟨ok, hk⟩
    obtain ⟨q1, hq1⟩ := get k ok k3
    obtain ⟨q2, hq2⟩ := get k' ok' k4
    exact hc.inj k k' q1 q2 g' k1 k2 hq1 hq2 k5 k6
  · by_cases hki : k = id
    · subst hki; exact hc.lo k o g' hid ho k3
    · rw [hlk k hki] at k2; exact hc.lo k ok g' k1 k2 k3
theorem eS {w:World} {g:Nat} {us vs:List Value} {T:TypeId} {fz:Nat × Nat} (h:w.heap[g]? = some (.cells us.toArray T fz)) (hl:vs.length=us.length):(w.setRow g vs.toArray).shape? g=w.shape? g:=by
 unfold World.shape?
 rw [setRow_heap w g _ _ T _ h,h]
 simp [hl]
theorem fS {w : World} {T T' : TypeId} {e : TyE} (hT : TyOk P T e) {g off : Nat} {cur vs : List Value} {v : Value} (hg : w.heap[g]? = some (.cells cur.toArray T' (0, 0))) (hv : v.cells.toList = vs) (hk : vs.length = e.size) (hfit : off + vs.length <= cur.length) (h1 : ∀ u ∈ vs, u.oneCell' = true) :
    (storeVar T ⟨g, off, none⟩ v).run P w = .ok () (w.setRow g (cur.take off ++ vs ++ cur.drop (off + vs.length)).toArray) := by
  have hst := run_storeCells_at P g off T' vs 0 cur.toArray w hg (by simpa using hfit) h1
  have hs := hT.sizeOf w
  have hsz : v.cells.size = e.size := by rw [<- hk, <- hv]; simp
  simp only [storeVar, Sem.run_bind, hs, Result.andThen_ok]
  simp [hsz, hv, hst]
variable {tab:Tab} {T ty:TypeId} {x y:Operand} {pos:String} {aft:Array Edge} {gd:Option (Nat × Bool)}
section
variable (tb : bN P tab) {e : TyE} (hg : guardA ops env ⟨none, .store T x y, ty, pos, aft, gd⟩ true) (hT : aQ tab T = some e) (hk : Nat.beq e.size 1 = true) {id off : Nat} {T' : TypeId}
include tb e hg hT hk id off T'
theorem aU7 {cs : List AV} {v : AV} (hx : evA env x = some (.ref id off)) (hy : evA env y = some v) (h1 : v.one = true) (ho : lk h id = some (.blk T' cs)) (hfit : off < cs.length)
    (next : AWL P ops sz rest K n env ((id, .blk T' (cs.set off v)) :: h) dfs) : AWL P ops sz (⟨none, .store T x y, ty, pos, aft, gd⟩ :: rest) K n env h dfs := by
  intro B a w hc
  obtain ⟨M, c1, c2, c3, c4⟩ := hc
  refine dZ fun K' hK' => ?_
  rw [Al (hg.wanted c3)]
  have hp := dC c3 x _ hx
  have hv := dC c3 y _ hy
  simp only [Rep] at hp
  obtain ⟨hid, g, hM, hp⟩ := hp
  obtain ⟨us, hb, hus⟩ := gY (fun id o h _ => h) c1 ho hid hM
  obtain ⟨o1, o2⟩ := hv.one h1
  have hsz : e.size = 1 := Ae hk
  have hlen : off + 1 <= us.length := by rw [hus.length]; omega
  have hrun := fS (P := P) (w := w) (aL tb hT) (g := g) (off := off) (cur := us) (vs := [a.eval y]) (v := a.eval y) hb (by rw [o2]) (by simp [hsz]) hlen (by simpa using o1)
  have hset : us.take off ++ [a.eval y] ++ us.drop (off + [a.eval y].length) = us.set off (a.eval y) := by
    rw [B4]
    rw [Al aA]
    simp
  rw [hset] at hrun
  unfold Oper.wp execOp
  simp only [hp, Instr.storeAt, Instr.sureAddr, Sem.run_bind, Sem.run_pure, Result.andThen_ok, hrun]
  obtain ⟨k1, k2⟩ := c1.turn (o' := .blk T' (cs.set off v)) (w' := w.setRow g (us.set off (a.eval y)).toArray) rfl hid ho hM rfl rfl rfl aR (fun k hk => setRow_other w g k _ hk) (eS hb aR)
    (fun hext => ⟨g, _, rfl, setRow_heap w g _ _ T' _ hb, RepL.ext hext _ _ (RepL.set hus off hv)⟩)
  simp only [Oper.upon, Act.put]
  exact bX1
theorem fA {cs : List CV} {v : CV} (hx : evA env x = some (.ref id off)) (hy : evA env y = some (.c v)) (h1 : v.one = true) (ho : lk h id = some (.row T' cs)) (hfit : off < cs.length)
    (next : AWL P ops sz rest K n env ((id, .row T' (cs.set off v)) :: h) dfs) : AWL P ops sz (⟨none, .store T x y, ty, pos, aft, gd⟩ :: rest) K n env h dfs := by
  intro B a w hc
  obtain ⟨M, c1, c2, c3, c4⟩ := hc
  refine dZ fun K' hK' => ?_
  rw [Al (hg.wanted c3)]
  have hp := dC c3 x _ hx
  have hv := dC c3 y _ hy
  simp only [Rep] at hp hv
  obtain ⟨hid, g, hM, hp⟩ := hp
  obtain ⟨us, vs, hb, hus, hone⟩ := eW (fun id o h _ => h) c1 ho hid hM
  obtain ⟨o1, o2⟩ := hv.one h1
  have hsz : e.size = 1 := Ae hk
  have hul := hus.length
  have hlen : off + 1 <= (us ++ vs).length := by simp; omega
  have hrun := fS (P := P) (w := w) (aL tb hT) (g := g) (off := off) (cur := us ++ vs) (vs := [a.eval y]) (v := a.eval y) hb (by rw [o2]) (by simp [hsz]) hlen (by simpa using o1)
  have hset : (us ++ vs).take off ++ [a.eval y] ++ (us ++ vs).drop (off + [a.eval y].length) = us.set off (a.eval y) ++ vs := by
    rw [<- List.set_append_left _ _ aA, B4]
    rw [Al eM]
    simp
  rw [hset] at hrun
  unfold Oper.wp execOp
  simp only [hp, Instr.storeAt, Instr.sureAddr, Sem.run_bind, Sem.run_pure, Result.andThen_ok, hrun]
  obtain ⟨k1, k2⟩ := c1.turn (o' := .row T' (cs.set off v)) (w' := w.setRow g (us.set off (a.eval y) ++ vs).toArray) rfl hid ho hM rfl rfl rfl aR (fun k hk => setRow_other w g k _ hk) (eS hb aR)
    (fun hext => .inr ⟨g, _, vs, rfl, setRow_heap w g _ _ T' _ hb, RepCs.mono hext.ok _ _ (RepCs.set hus off hv), fun u hu => (List.mem_or_eq_of_mem_set hu).elim (hone u) (fun e => e ▸ o1)⟩)
  simp only [Oper.upon, Act.put]
  exact bX1
end
def lay {α:Type} (cs:List α) (off:Nat) (vs:List α):List α:=cs.take off++vs++cs.drop (off+vs.length)
theorem yM {α:Type} (cs:List α) (off:Nat) (vs:List α) (h:off+vs.length<=cs.length):(lay cs off vs).length=cs.length:=by
 simp [lay];omega
theorem pT {α:Type} (cs vs:List α) (h:vs.length=cs.length):lay cs 0 vs=vs:=by simp [lay,h]
section
variable (tb : bN P tab) {e : TyE} (hg : guardA ops env ⟨none, .store T x y, ty, pos, aft, gd⟩ true) (hT : aQ tab T = some e) {id off : Nat} {T' : TypeId}
include tb e hg hT id off T'
theorem aU8 {cs xs cs' : List AV} {v : AV} (hx : evA env x = some (.ref id off)) (hy : evA env y = some v) (hp : Parts v xs) (hl : xs.length = e.size) (h1 : xs.all AV.one = true) (ho : lk h id = some (.blk T' cs)) (hfit : off + xs.length <= cs.length) (hcs : lay cs off xs = cs')
    (next : AWL P ops sz rest K n env ((id, .blk T' cs') :: h) dfs) : AWL P ops sz (⟨none, .store T x y, ty, pos, aft, gd⟩ :: rest) K n env h dfs := by
  intro B a w hc
  subst hcs
  obtain ⟨M, c1, c2, c3, c4⟩ := hc
  refine dZ fun K' hK' => ?_
  rw [Al (hg.wanted c3)]
  have hpt := dC c3 x _ hx
  simp only [Rep] at hpt
  obtain ⟨hid, g, hM, hpt⟩ := hpt
  obtain ⟨vs, hv, hvs⟩ := hp.rep (dC c3 y _ hy)
  obtain ⟨us, hb, hus⟩ := gY (fun id o h _ => h) c1 ho hid hM
  have hul := hus.length
  have hvl := hvs.length
  have hrun := fS (P := P) (w := w) (aL tb hT) (g := g) (off := off) (cur := us) (vs := vs) (v := a.eval y) hb (by rw [hv]; rfl) aA aA (hvs.one h1)
  unfold Oper.wp execOp
  simp only [hpt, Instr.storeAt, Instr.sureAddr, Sem.run_bind, Sem.run_pure, Result.andThen_ok, hrun]
  obtain ⟨k1, k2⟩ := c1.turn (o' := .blk T' (lay cs off xs)) (w' := w.setRow g (us.take off ++ vs ++ us.drop (off + vs.length)).toArray) rfl hid ho hM rfl rfl rfl aR (fun k hk => setRow_other w g k _ hk) (eS hb eM)
    (fun hext => ⟨g, _, rfl, setRow_heap w g _ _ T' _ hb, RepL.ext hext _ _ (by
      unfold lay
      rw [hvl]
      exact ((hus.take off).append hvs).append (hus.drop (off + xs.length)))⟩)
  simp only [Oper.upon, Act.put]
  exact bX1
theorem aL5 {cs xs cs' : List CV} (hx : evA env x = some (.ref id off)) (hy : evA env y = some (.c (.agg xs))) (hl : xs.length = e.size) (ho : lk h id = some (.row T' cs)) (hfit : off + xs.length <= cs.length) (hcs : lay cs off xs = cs')
    (next : AWL P ops sz rest K n env ((id, .row T' cs') :: h) dfs) : AWL P ops sz (⟨none, .store T x y, ty, pos, aft, gd⟩ :: rest) K n env h dfs := by
  intro B a w hc
  subst hcs
  obtain ⟨M, c1, c2, c3, c4⟩ := hc
  refine dZ fun K' hK' => ?_
  rw [Al (hg.wanted c3)]
  have hpt := dC c3 x _ hx
  have hvv := dC c3 y _ hy
  simp only [Rep, RepC] at hpt hvv
  obtain ⟨hid, g, hM, hpt⟩ := hpt
  obtain ⟨vs, hv, hvs, h1⟩ := hvv
  obtain ⟨us, ws, hb, hus, hone⟩ := eW (fun id o h _ => h) c1 ho hid hM
  have hul := hus.length
  have hvl := hvs.length
  have hrun := fS (P := P) (w := w) (aL tb hT) (g := g) (off := off) (cur := us ++ ws) (vs := vs) (v := a.eval y) hb (by rw [hv]; rfl) aA eM h1
  have hset : (us ++ ws).take off ++ vs ++ (us ++ ws).drop (off + vs.length) = (us.take off ++ vs ++ us.drop (off + vs.length)) ++ ws := by
    rw [AB aA, Cb aA]
    simp
  rw [hset] at hrun
  unfold Oper.wp execOp
  simp only [hpt, Instr.storeAt, Instr.sureAddr, Sem.run_bind, Sem.run_pure, Result.andThen_ok, hrun]
  obtain ⟨k1, k2⟩ := c1.turn (o' := .row T' (lay cs off xs)) (w' := w.setRow g ((us.take off ++ vs ++ us.drop (off + vs.length)) ++ ws).toArray) rfl hid ho hM rfl rfl rfl aR (fun k hk => setRow_other w g k _ hk) (eS hb eM)
    (fun hext => .inr ⟨g, _, ws, rfl, setRow_heap w g _ _ T' _ hb, RepCs.mono hext.ok _ _ (by
      unfold lay
      rw [hvl]
      exact ((hus.take off).append hvs).append (hus.drop (off + xs.length))), fun u hu => by
        rcases A0.1 hu with hu | hu
        · rcases A0.1 hu with hu | hu
          · exact hone u (AG hu)
          · exact h1 u hu
        · exact hone u (Ba hu)⟩)
  simp only [Oper.upon, Act.put]
  exact bX1
end
end steps
end
section
mutual
def AV.ltB (N:Nat):AV->Bool
 | .c _ | .ip _ _ | .junk=>true
 | .ref id _=>Nat.blt id N
 | .own id _ _ _ _=>Nat.blt id N
 | .agg xs=>AV.ltBs N xs
 | .tup xs=>AV.ltBs N xs
 | .fn _ xs=>AV.ltBs N xs
 | .yld id=>Nat.blt id N
 | .mh id=>Nat.blt id N
 | .bm _ id=>Nat.blt id N
def AV.ltBs (N:Nat):List AV->Bool
 | []=>true
 | x::xs=>AV.ltB N x&&AV.ltBs N xs
end
def AObj.ltB (N:Nat):AObj->Bool
 | .blk _ cs=>AV.ltBs N cs
 | .row _ _=>true
 | .lp _ _ _ _ xs=>AV.ltBs N xs
 | .dfr _=>true
 | .tab es=>es.all fun p=>p.2.ltB N
 | .dead=>true
structure Less (N:Nat) (C C':Cx):Prop where
 dom:∀id,id<N->C.dom id->C'.dom id/\C'.M id=C.M id
 ok:kA C.ok C'.ok C.w C'.w
 shape:∀b x,C.w.shape? b=some x->C'.w.shape? b=some x
mutual
theorem Rep.less {N:Nat} {C C':Cx} (h:Less N C C'):∀(x:AV) (u:Value),x.ltB N=true->Rep C x u->Rep C' x u
 | .c x,u,_,hu=>by simp only [Rep] at hu ⊢;exact RepC.mono h.ok x u hu
 | .ref id off,u,hl,hu=>by
  simp only [Rep] at hu ⊢
  simp only [AV.ltB,AI] at hl
  obtain ⟨hd,g,hg,hu⟩:=hu
  obtain ⟨k1,k2⟩:=h.dom id hl hd
  exact mV
 | .own id off n size full,u,hl,hu=>by
  simp only [Rep] at hu ⊢
  simp only [AV.ltB,AI] at hl
  obtain ⟨hd,hu⟩:=hu
  obtain ⟨k1,k2⟩:=h.dom id hl hd
  refine ⟨k1,?_⟩
  rcases hu with ⟨h1,h2,h3,h4⟩|⟨g,cp,h1,h2,h3,h4,h5⟩|h6
  ·exact bW9
  ·exact .inr (.inl ⟨g,cp,k2.trans h1,h2,h3,h4,fun hf=>let ⟨e,he⟩:=h5 hf;⟨e,h.shape _ _ he⟩⟩)
  ·exact .inr (.inr h6)
 | .ip cs off,u,_,hu=>by
  simp only [Rep] at hu ⊢
  obtain ⟨b,o,us,h1,h2,h3,h4,h6,h5⟩:=hu
  obtain ⟨k1,k2,k3⟩:=h.ok b h2 h3
  exact ⟨b,o,us,h1,k1,k2,RepCs.mono h.ok cs us h4,h6,fun j x hx=>by rw [World.cell?_of_block (w:=C.w) k3];exact h5 j x hx⟩
 | .agg xs,u,hl,hu=>by
  simp only [Rep] at hu ⊢
  obtain ⟨us,h1,h2⟩:=hu
  exact ⟨us,h1,RepL.less h xs us hl h2⟩
 | .tup xs,u,hl,hu=>by
  simp only [Rep] at hu ⊢
  obtain ⟨us,h1,h2⟩:=hu
  exact ⟨us,h1,RepL.less h xs us hl h2⟩
 | .fn f caps,u,hl,hu=>by
  simp only [Rep] at hu ⊢
  obtain ⟨us,h1,h2⟩:=hu
  exact ⟨us,h1,RepL.less h caps us hl h2⟩
 | .yld id,u,hl,hu=>by
  simp only [Rep] at hu ⊢
  simp only [AV.ltB,AI] at hl
  obtain ⟨hd,g,hg,hu⟩:=hu
  obtain ⟨k1,k2⟩:=h.dom id hl hd
  exact mV
 | .mh id,u,hl,hu=>by
  simp only [Rep] at hu ⊢
  simp only [AV.ltB,AI] at hl
  obtain ⟨hd,g,hg,hu⟩:=hu
  obtain ⟨k1,k2⟩:=h.dom id hl hd
  exact mV
 | .bm f id,u,hl,hu=>by
  simp only [Rep] at hu ⊢
  simp only [AV.ltB,AI] at hl
  obtain ⟨hd,g,hg,hu⟩:=hu
  obtain ⟨k1,k2⟩:=h.dom id hl hd
  exact mV
 | .junk,u,_,hu=>by simp only [Rep]
theorem RepL.less {N:Nat} {C C':Cx} (h:Less N C C'):∀(xs:List AV) (us:List Value),AV.ltBs N xs=true->RepL C xs us->RepL C' xs us
 | [],us,_,hu=>by simpa [RepL] using hu
 | c::cs,us,hl,hu=>by
  simp only [RepL] at hu ⊢
  simp only [AV.ltBs,An] at hl
  obtain ⟨u,us',h1,h2,h3⟩:=hu
  exact ⟨u,us',h1,Rep.less h c u hl.1 h2,RepL.less h cs us' hl.2 h3⟩
end
theorem RepM.less {N:Nat} {C C':Cx} (h:Less N C C'):∀(es:List (CV × AV)) (ms:List MapEntry),(es.all fun p=>p.2.ltB N)=true->RepM C es ms->RepM C' es ms
 | [],ms,_,hu=>hu
 | e::es,ms,hl,hu=>by
  obtain ⟨m,ms',h1,h2,h3,h4⟩:=hu
  simp only [By,An] at hl
  exact ⟨m,ms',h1,RepC.mono h.ok _ _ h2,Rep.less h _ _ hl.1 h3,RepM.less h es ms' hl.2 h4⟩
theorem ObjRep.less {N:Nat} {C C':Cx} (h:Less N C C') {g:Option Nat} {o:AObj} (hw:C'.w=C.w) (hl:o.ltB N=true) (ho:ObjRep C g o):ObjRep C' g o:=by
 cases o with
 | blk T cs =>
  obtain ⟨k,us,rfl,h2,h3⟩:=ho
  exact ⟨k,us,rfl,by rw [hw];exact h2,RepL.less h cs us hl h3⟩
 | row T cs =>
  rcases ho with h1|⟨k,us,vs,rfl,h2,h3,h4⟩
  ·exact .inl h1
  ·exact .inr ⟨k,us,vs,rfl,by rw [hw];exact h2,RepCs.mono h.ok cs us h3,h4⟩
 | lp b sz L sl xs =>
  obtain ⟨k,r,rfl,h2,h3,h4,h5,h6,h7,h8,h9⟩:=ho
  exact ⟨k,r,rfl,by rw [hw];exact h2,h3,h4,h5,h6,h7,h8,RepL.less h xs _ hl h9⟩
 | dfr b =>
  obtain ⟨k,rfl,h2⟩:=ho
  exact ⟨k,rfl,by rw [hw];exact h2⟩
 | tab es =>
  obtain ⟨k,ms,t,rfl,h2,h3⟩:=ho
  exact ⟨k,ms,t,rfl,by rw [hw];exact h2,h3.1,RepM.less h es _ hl h3.2⟩
 | dead=>exact ho.elim
def bA7 (env:Env) (N:Nat) (E:Env):Prop:=∀t av,lkE E t=some av->lkE env t=some av/\av.ltB N=true
def bA8 (h:aO) (N:Nat) (Hp:aO):Prop:=∀id o,lk Hp id=some o->lk h id=some o/\o.ltB N=true
theorem bF {env:Env} {N:Nat}:bA7 env N []:=fun t av h=>by cases h
theorem bC {env E:Env} {N t:Nat} {av av':AV} (h:lkE env t=some av') (he:av'=av) (hl:av.ltB N=true) (hr:bA7 env N E):bA7 env N ((t,av)::E):=by
 intro k x hk
 rw [eL] at hk
 split at hk
 ·rename_i e;subst e he;injection hk with hk;subst hk;exact ⟨h,hl⟩
 ·exact hr k x hk
theorem bG {h:aO} {N:Nat}:bA8 h N []:=fun t av h=>by cases h
theorem aN {h Hp:aO} {N t:Nat} {o o':AObj} (hh:lk h t=some o') (he:o'=o) (hl:o.ltB N=true) (hr:bA8 h N Hp):bA8 h N ((t,o)::Hp):=by
 intro k x hk
 rw [bS] at hk
 split at hk
 ·rename_i e;subst e he;have hk:=pV hk;subst hk;exact ⟨hh,hl⟩
 ·exact hr k x hk
theorem DefRep.less {fr:List Value} {N:Nat} {C C':Cx} (h:Less N C C'):∀{l:cA} {ds:List Deferred},l.all (fun p=>AV.ltBs N p.2)=true->DefRep fr C l ds->DefRep fr C' l ds
 | [],ds,_,hd=>hd
 | (some f,caps)::r,ds,hl,hd=>by
  obtain ⟨us,ds',h1,h2,h3⟩:=hd
  simp only [By,An] at hl
  exact ⟨us,ds',h1,RepL.less h _ _ hl.1 h2,DefRep.less h hl.2 h3⟩
 | (none,xs)::r,ds,hl,hd=>by
  simp only [By,An] at hl
  exact ⟨RepL.less h _ _ hl.1 hd.1,DefRep.less h hl.2 hd.2⟩
theorem cE {n N:Nat} {env E:Env} {h Hp:aO} {dfs:cA} (hn:Nat.ble N n=true) (hE:bA7 env N E) (hH:bA8 h N Hp) (hD:dfs.all (fun p=>AV.ltBs N p.2)=true):cO n env h dfs N E Hp dfs:=by
 intro B sz a w hc
 obtain ⟨M,h1,h2,h3,h4⟩:=hc
 have hn':N<=n:=A9 hn
 have hok:∀b,aZ B (lt n) M (lk h) b->aZ B (lt N) M (lk Hp) b:=fun b hb=>⟨hb.1,fun id o hid hH' he=>hb.2 id o (A2 hid hn') (hH id o hH').1 he⟩
 have hls:Less N (cx B n M h w) (cx B N M Hp w):=⟨fun id hid _=>⟨hid,rfl⟩,fun b hb hl=>⟨hok b hb,hl,rfl⟩,fun _ _ h=>h⟩
 refine ⟨M,⟨h1.fr,fun id o hid hH'=>?_,fun id id' o o' g k1 k2 k3 k4=>h1.inj id id' o o' g (A2 k1 hn') (A2 k2 hn') (hH id o k3).1 (hH id' o' k4).1,fun id o g k1 k2=>h1.lo id o g (A2 k1 hn') (hH id o k2).1⟩,h2,fun t av ht=>?_,h4.less hls hD⟩
 ·exact (h1.obj id o (A2 hid hn') (hH id o hH').1).less hls rfl (hH id o hH').2
 ·exact Rep.less hls _ _ (hE t av ht).2 (h3 t av (hE t av ht).1)
def Cv (x y:CV):Prop:=∀ok w u,RepC ok w x u->RepC ok w y u
def CvL (x y:List CV):Prop:=∀ok w u,RepCs ok w x u->RepCs ok w y u
theorem cU {x:CV}:Cv x x:=fun _ _ _ h=>h
theorem uR {x y:CV} (h:x=y):Cv x y:=fun _ _ _ k=>h▸k
theorem fT {size:Nat}:Cv (.v (.slice none 0 0)) (.sl size 0 []):=fun ok w u h=>by
 simp only [RepC] at h ⊢
 exact ⟨none,0,[],h,Ag _,by simp [maxLen],by simp,by simp [RepCs],by simp,fun h=>absurd h aA⟩
theorem jH {size n n':Nat} {cs cs':List CV} (hn:n=n') (hc:cs=cs'):Cv (.sl size n cs) (.sl size n' cs'):=by subst hn hc;exact cU
theorem fH:CvL [] []:=fun _ _ _ h=>h
theorem eJ {x y:CV} {xs ys:List CV} (h:Cv x y) (k:CvL xs ys):CvL (x::xs) (y::ys):=fun ok w u hu=>by
 simp only [RepCs] at hu ⊢
 obtain ⟨a,l,h1,h2,h3⟩:=hu
 exact ⟨a,l,h1,h ok w a h2,k ok w l h3⟩
theorem rT {x:List CV}:CvL x x:=fun _ _ _ h=>h
theorem mI {x y:List CV} (h:CvL x y):Cv (.agg x) (.agg y):=fun ok w u hu=>by
 simp only [RepC] at hu ⊢
 obtain ⟨us,h1,h2,h3⟩:=hu
 exact ⟨us,h1,h ok w us h2,h3⟩
def Frz (keep:List Nat) (h:aO) (v:AV) (x:CV):Prop :=
 ∀(B:Bs) (dom:Nat->Prop) (M:Nat->Option Nat) (H:Nat->Option AObj) (w:World) (u:Value),(∀id o,lk h id=some o->dom id->H id=some o)->(∀k∈keep,dom k/\∃o,H k=some o) ->
  ConcH B dom M H w->Rep ⟨dom,M,aZ B dom M H,w⟩ v u->RepC (fun b=>(B.ok0 b\/B.w0.heap.size<=b\/b∈B.G)/\∀k∈keep,M k≠some b) w x u
def aE8 (keep:List Nat) (h:aO) (v:List AV) (x:List CV):Prop :=
 ∀(B:Bs) (dom:Nat->Prop) (M:Nat->Option Nat) (H:Nat->Option AObj) (w:World) (u:List Value),(∀id o,lk h id=some o->dom id->H id=some o)->(∀k∈keep,dom k/\∃o,H k=some o) ->
  ConcH B dom M H w->RepL ⟨dom,M,aZ B dom M H,w⟩ v u->RepCs (fun b=>(B.ok0 b\/B.w0.heap.size<=b\/b∈B.G)/\∀k∈keep,M k≠some b) w x u
section frz
variable {keep:List Nat} {h:aO}
theorem eF {x y:CV} (hxy:Cv x y):Frz keep h (.c x) y:=by
 intro B dom M H w u hh hk hc hu
 simp only [Rep] at hu
 refine hxy _ _ _ (RepC.mono (fun b hb hl=>⟨⟨hb.1,fun k hkk he=>?_⟩,hl,rfl⟩) _ _ hu)
 obtain ⟨h1,o,h2⟩:=hk k hkk
 exact hb.2 k o h1 h2 he
theorem mA {id off n size : Nat} {full : Bool} {T : TypeId} {cs ys : List CV} (ho : lk h id = some (.row T cs)) (hk : keep.contains id = false) (hy : (cs.drop off).take (n * size) = ys) (hl : ys.length = n * size) : Frz keep h (.own id off n size full) (.sl size n ys) := by
  intro B dom M H w u hh hkp hc hu
  simp only [Rep] at hu
  obtain ⟨hd, hu⟩ := hu
  have hmono : ∀ b, aZ B dom M H b -> (B.ok0 b \/ B.w0.heap.size <= b \/ b ∈ B.G) /\ ∀ k ∈ keep, M k ≠ some b := fun b hb => ⟨hb.1, fun k hkk he => by
    obtain ⟨h1, o, h2⟩ := hkp k hkk
    exact hb.2 k o h1 h2 he⟩
  have key : ∀ g, M id = some g -> ∃ us vs, w.heap[g]? = some (.cells (us ++ vs).toArray T (0, 0)) /\ RepCs (aZ B dom M H) w cs us /\ ∀ u ∈ us, u.oneCell' = true := fun g hg => eW hh hc ho hd hg
  have hz : n = 0 -> ∃ us, RepCs (fun b => (B.ok0 b \/ B.w0.heap.size <= b \/ b ∈ B.G) /\ ∀ k ∈ keep, M k ≠ some b) w ys us /\ ∀ u ∈ us, u.oneCell' = true := fun h0 => by
    subst h0
    have : ys = [] := Aj fK
    subst this
    exact ⟨[], by simp [RepCs], by simp⟩
  rcases hu with ⟨h1, h2, h3, h4⟩ | ⟨g, cp, h1, h2, h3, h4, h5⟩ | ⟨h1, h2, A, cp, h3, h4⟩
  · obtain ⟨us, hus, hon⟩ := hz h1
    exact dS8
  · obtain ⟨us, vs, hb, hr, hon⟩ := key g h1
    have h6 := (hr.drop off).take (n * size)
    rw [hy] at h6
    refine ⟨some ⟨g, off, none⟩, cp, (us.drop off).take (n * size), h2, h3, h4, hl, RepCs.mono (fun b hb hl => ⟨hmono b hb, hl, rfl⟩) _ _ h6, fun u hu => hon u (Ba (AG hu)), fun hn => ⟨g, off, rfl, ⟨?_, fun k hkk he => ?_⟩, bV hb, fun j x hj => ?_⟩⟩
    · rcases hc.lo id _ g hd (hh id _ ho hd) h1 with h7 | h7
      · exact .inr (.inl h7)
      · exact .inr (.inr h7)
    · obtain ⟨k1, o, k2⟩ := hkp k hkk
      have := hc.inj k id o _ g k1 hd k2 (hh id _ ho hd) he h1
      subst this
      rw [List.contains_eq_mem] at hk
      simp at hk
      exact hk hkk
    · have hjk : j < n * size := by
        rcases AA j (n * size) with h1 | h1
        · exact h1
        · rw [AN gS] at hj; cases hj
      rw [AZ hjk, AP] at hj
      exact iQ hb hj
  · obtain ⟨us, hus, hon⟩ := hz h1
    subst h1
    exact dS9
theorem gC {id n size:Nat} {full:Bool} {T:TypeId} {cs:List CV} (ho:lk h id=some (.row T cs)) (hk:keep.contains id=false) (hl:cs.length=n*size):Frz keep h (.own id 0 n size full) (.sl size n cs) :=
 mA ho hk bV7 hl
theorem dT:aE8 keep h [] []:=fun B dom M H w u _ _ _ hu=>by simpa [RepL,RepCs] using hu
theorem bD {x:AV} {y:CV} {xs:List AV} {ys:List CV} (hx:Frz keep h x y) (hxs:aE8 keep h xs ys):aE8 keep h (x::xs) (y::ys):=by
 intro B dom M H w u hh hk hc hu
 simp only [RepL] at hu
 obtain ⟨a,l,h1,h2,h3⟩:=hu
 exact ⟨a,l,h1,hx B dom M H w a hh hk hc h2,hxs B dom M H w l hh hk hc h3⟩
theorem vW {xs:List AV} {ys:List CV} (h1':xs.all AV.one=true) (hx:aE8 keep h xs ys):Frz keep h (.agg xs) (.agg ys):=by
 intro B dom M H w u hh hk hc hu
 simp only [Rep] at hu
 obtain ⟨us,h1,h2⟩:=hu
 exact ⟨us,h1,hx B dom M H w us hh hk hc h2,h2.one h1'⟩
end frz
def AC (P:Program) (f:FuncId) (args:List CV) (r:AV) (hr:aO) (nr:Nat):Prop :=
 ∀(ok:Nat->Prop) (w:World) (vs:List Value),RepCs ok w args vs->Calls P f vs.toArray w fun e w'=>∃v M,e = .returned v/\ConcH ⟨w,[],ok,[]⟩ (lt nr) M (lk hr) w'/\Rep (cx ⟨w,[],ok,[]⟩ nr M hr w') r v
def aN7:Nat->List CV->Env
 | _,[]=>[]
 | k,x::xs=>(k,.c x)::aN7 (k+1) xs
theorem tT:∀{cs:List CV} {k t:Nat} {av:AV},lkE (aN7 k cs) t=some av->∃c,k<=t/\cs[t-k]? = some c/\av = .c c
 | [],k,t,av,h=>by cases h
 | c::cs,k,t,av,h=>by
  rw [aN7,eL] at h
  split at h
  ·rename_i e;subst e;injection h with h;exact ⟨c,Ag _,by simp,h.symm⟩
  ·rename_i e
   obtain ⟨c',h1,h2,h3⟩:=tT h
   refine ⟨c',by omega,?_,h3⟩
   rw [show t-k=(t-(k+1))+1 by omega]
   simpa using h2
def qE (P:Program) (f:FuncId) (k:Nat):Prop :=
 ∀(us:List Value) (w:World),us.length=k->CallsD P f us.toArray .returning w fun e u' w'=>e = .returned (.tuple #[])/\u' = .returning/\w'=w
def Body (P : Program) (f : FuncId) : Prop := (P.funcs[f]?).map (fun fn => (fn.name == "runtime.NumGoroutine", fn.body.isNone)) = some (false, false)
theorem Body.run {P:Program} {f:FuncId} (h:Body P f) (args:Array Value) (w:World):(callFunc f args).run P w = .ok (.enter f args) w:=by
 obtain ⟨fn,h1,h2⟩:=Au.1 h
 simp only [Prod.mk.injEq] at h2
 simp only [callFunc,Sem.run_bind,run_program,Result.andThen_ok,h1]
 simp [h2.1,h2.2]
def gV (P:Program):aO->cA->Prop
 | _,[]=>True
 | h,(some f,caps)::r=>match Nat.beq f uN with
  | true=>(match caps with | [.ref id _]=>lk h id=some (.dfr true)/\gV P ((id,.dfr false)::h) r|_=>False)
  | false=>qE P f caps.length/\Body P f/\gV P h r
 | h,(none,_)::r=>gV P h r
def fW:aO->cA->aO
 | h,[]=>h
 | h,(some f,caps)::r=>match Nat.beq f uN with
  | true=>match caps with | [.ref id _]=>fW ((id,.dfr false)::h) r|_=>h
  | false=>fW h r
 | h,(none,_)::r=>fW h r
inductive ResA (tab:Tab) (env:Env) (h:aO):ResultVar->AV->Prop
 | tmp {t:Tmp} {v:AV} (hv:lkE env t=some v):ResA tab env h (.tmp t) v
 | one {p:Tmp} {T T':TypeId} {id:Nat} {v:AV} {cs:List AV} {e:TyE} (hp:lkE env p=some (.ref id 0)) (hT:aQ tab T=some e) (hk:e.kind.agg=false) (ho:lk h id=some (.blk T' cs)) (hv:cs[0]? = some v):ResA tab env h (.cell p T) v
 | agg {p:Tmp} {T T':TypeId} {id:Nat} {v:AV} {cs:List AV} {e:TyE} (hp:lkE env p=some (.ref id 0)) (hT:aQ tab T=some e) (hk:e.kind.agg=true) (ho:lk h id=some (.blk T' cs)) (hl:Nat.beq cs.length e.size=true) (hv:IsAgg cs v):ResA tab env h (.cell p T) v
 | aggr {p:Tmp} {T T':TypeId} {id:Nat} {cs:List CV} {e:TyE} (hp:lkE env p=some (.ref id 0)) (hT:aQ tab T=some e) (hk:e.kind.agg=true) (ho:lk h id=some (.row T' cs)) (hl:cs.length=e.size):ResA tab env h (.cell p T) (.c (.agg cs))
section ret
variable {P:Program} {tab:Tab} {env:Env} {h:aO} {n:Nat}
theorem ResA.run (tb : bN P tab) {rv : ResultVar} {v : AV} (hr : ResA tab env h rv v) {B : Bs} {M : Nat -> Option Nat} {w : World} {tmps : Array Value} (hc : ConcH B (lt n) M (lk h) w) (he : ∀ t av, lkE env t = some av -> Rep (cx B n M h w) av (tmps.getD t undef)) :
    ∃ u, Rep (cx B n M h w) v u /\ (match rv with | .tmp t => tmps.getD t undef = u | .cell p T => ∃ q, tmps.getD p undef = .pointer (some q) /\ (loadVar T q).run P w = .ok u w) := by
  cases hr with
  | tmp hv => exact ⟨_, he _ _ hv, rfl⟩
  | one hp hT hk ho hv =>
    have := he _ _ hp
    simp only [Rep] at this
    obtain ⟨hid, g, hM, hq⟩ := this
    obtain ⟨us, hb, hus⟩ := gY (fun id o h _ => h) hc ho hid hM
    obtain ⟨u, hu, hru⟩ := hus.get hv
    exact ⟨u, hru, _, hq, pZ (aL tb hT) hk (by rw [mS hb]; exact hu)⟩
  | agg hp hT hk ho hl hv =>
    rename_i p T T' id cs e
    have := he _ _ hp
    simp only [Rep] at this
    obtain ⟨hid, g, hM, hq⟩ := this
    obtain ⟨us, hb, hus⟩ := gY (fun id o h _ => h) hc ho hid hM
    exact ⟨_, hv.rep hus, _, hq, nF (aL tb hT) hk (us := us) (by rw [hus.length]; exact Ae hl) (fun j u hj => by rw [mS hb, Ai]; exact hj)⟩
  | aggr hp hT hk ho hl =>
    have := he _ _ hp
    simp only [Rep] at this
    obtain ⟨hid, g, hM, hq⟩ := this
    obtain ⟨us, vs, hb, hus, hon⟩ := eW (fun id o h _ => h) hc ho hid hM
    exact ⟨_, ⟨us, rfl, hus, hon⟩, _, hq, nF (aL tb hT) hk (us := us) (by rw [hus.length]; exact hl) (fun j u hj => by rw [Ai]; exact iQ hb hj)⟩
inductive ResL (tab:Tab) (env:Env) (h:aO):List ResultVar->AV->Prop
 | none:ResL tab env h [] (.tup [])
 | one {r:ResultVar} {v:AV} (h1:ResA tab env h r v):ResL tab env h [r] v
 | two {r1 r2:ResultVar} {v1 v2:AV} (h1:ResA tab env h r1 v1) (h2:ResA tab env h r2 v2):ResL tab env h [r1,r2] (.tup [v1,v2])
 | three {r1 r2 r3:ResultVar} {v1 v2 v3:AV} (h1:ResA tab env h r1 v1) (h2:ResA tab env h r2 v2) (h3:ResA tab env h r3 v3):ResL tab env h [r1,r2,r3] (.tup [v1,v2,v3])
def Rd (P:Program) (tmps:Array Value) (w:World) (rv:ResultVar) (u:Value):Prop:=match rv with | .tmp t=>tmps[t]?.getD undef=u | .cell p T=>∃q,tmps[p]?.getD undef = .pointer (some q)/\(loadVar T q).run P w = .ok u w
theorem ResL.run (tb : bN P tab) {fn : Func} {v : AV} (hr : ResL tab env h fn.results.toList v) {B : Bs} {M : Nat -> Option Nat} {w : World} {tmps : Array Value} (hc : ConcH B (lt n) M (lk h) w) (he : ∀ t av, lkE env t = some av -> Rep (cx B n M h w) av (tmps.getD t undef)) :
    ∃ u, Rep (cx B n M h w) v u /\ (results fn tmps).run P w = .ok u w := by
  have one : ∀ {rv : ResultVar} {v : AV}, ResA tab env h rv v -> ∃ u, Rep (cx B n M h w) v u /\ Rd P tmps w rv u := by
    intro rv v hA
    obtain ⟨u, h1, h2⟩ := hA.run tb hc he
    refine ⟨u, h1, ?_⟩
    cases rv with
    | tmp t => simpa [Rd] using h2
    | cell p T => obtain ⟨q, hq, hl⟩ := h2; exact ⟨q, by simpa using hq, hl⟩
  generalize hl : fn.results.toList = l at hr
  have hf : fn.results = l.toArray := by rw [<- hl]
  cases hr with
  | none => exact ⟨.tuple #[], ⟨[], rfl, rfl⟩, by simp [results, hf]⟩
  | one h1 =>
    obtain ⟨u, k1, k2⟩ := one h1
    refine ⟨u, k1, ?_⟩
    rename_i rv
    cases rv <;> simp only [Rd] at k2 <;> (try obtain ⟨q, hq, hl1⟩ := k2) <;> simp [results, hf, asAddr, *]
  | two h1 h2 =>
    obtain ⟨u1, k1, k2⟩ := one h1
    obtain ⟨u2, l1, l2⟩ := one h2
    refine ⟨.tuple #[u1, u2], ⟨[u1, u2], rfl, u1, [u2], rfl, k1, u2, [], rfl, l1, rfl⟩, ?_⟩
    rename_i r1 r2 v1 v2
    cases r1 <;> cases r2 <;> simp only [Rd] at k2 l2 <;> (try obtain ⟨q, hq, hl1⟩ := k2) <;> (try obtain ⟨q2, hq2, hl2⟩ := l2) <;> simp [results, hf, asAddr, *]
  | three h1 h2 h3 =>
    obtain ⟨u1, k1, k2⟩ := one h1
    obtain ⟨u2, l1, l2⟩ := one h2
    obtain ⟨u3, m1, m2⟩ := one h3
    refine ⟨.tuple #[u1, u2, u3], ⟨[u1, u2, u3], rfl, u1, [u2, u3], rfl, k1, u2, [u3], rfl, l1, u3, [], rfl, m1, rfl⟩, ?_⟩
    rename_i r1 r2 r3 v1 v2 v3
    cases r1 <;> cases r2 <;> cases r3 <;> simp only [Rd] at k2 l2 m2 <;> (try obtain ⟨q, hq, hl1⟩ := k2) <;> (try obtain ⟨q2, hq2, hl2⟩ := l2) <;> (try obtain ⟨q3, hq3, hl3⟩ := m2) <;> simp [results, hf, asAddr, *]
end ret
end
end Go.Av
namespace Go
abbrev Db:=List UInt8
abbrev Dc:=Option (Nat × Bool)
abbrev Dd:=List Value
abbrev De:=List Oper
abbrev Df:=Array Oper
abbrev Dg:=List Nat
abbrev Dh:=Array Edge
abbrev Di:=Option Tmp
abbrev Dj:=TypeId
abbrev Dl:=Program
abbrev Dm:=IntKind
abbrev Dn:=Array TypeId
abbrev Do:=List Operand
abbrev Dp:=Option Nat
abbrev Dq:=Array Value
end Go
namespace Go.Av
abbrev Dr:=List CV
abbrev Ds:=List AV
end Go.Av
