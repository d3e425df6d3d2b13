/- Lemmas for laws of the ledger. -/
import Derived.MapKept
import Derived.WalkKit
import Derived.ProofKit
import Derived.Handy
import Derived.WalkLawsBesides
import Derived.WalkSpells
import Derived.Laws.CopyOwn
import Derived.Lib.Hide
import Derived.Deep.AppendLies
import Derived.Maps.AppendAt
import Derived.Laws.BytesArg
import Derived.Deep.Draws
import Derived.Defers
import Derived.Recover
import Derived.Orders
import Derived.OrdersHeld
import Derived.StillTail
import Derived.OrdersIn
import Derived.TacticsIn
import Derived.LoopNIn
import Derived.RangeFuncIn
import Derived.RangeFuncNested
import Derived.RangeFuncLeaves
set_option linter.all false
namespace Go
def Aa:=@List.length_append
def Ab:=@List.getElem?_eq_getElem
def Ad:=@List.take_of_length_le
def Ae:=@Nat.eq_of_beq_eq_true
def Af:=@List.mem_of_getElem?
def Ag:=@List.getElem?_eq_some_iff
def Ah:=@Nat.le_refl
def Ai:=@Option.bind_eq_some_iff
def Aj:=@if_neg
def Ak:=@if_pos
def Al:=@Option.bind_some
def Am:=@Nat.zero_le
def An:=@List.eq_nil_of_length_eq_zero
def Ao:=@List.append_assoc
def Ap:=@Option.map_eq_some_iff
def Aq:=@Nat.zero_add
def Ar:=@Bool.and_eq_true
def As:=@List.length_take
def At:=@Nat.le_trans
def Au:=@List.length_cons
def Aw:=@List.all_eq_true
def Ay:=@List.nil_append
def Az:=@List.mem_append
def A0:=@List.length_drop
def A1:=@List.size_toArray
def A3:=@Nat.lt_of_lt_of_le
def A4:=@List.append_nil
def A5:=@List.flatMap_cons
def A6:=@List.mem_cons
def A7:=@Nat.le_of_ble_eq_true
def A8:=@Nat.mul_one
def A9:=@Array.length_toList
def AA:=@List.mem_range
def AB:=@Bool.false_eq_true
def AD:=@List.take_append_of_le_length
def AE:=@Nat.lt_or_ge
def AF:=@List.cons_append
def AG:=@List.drop_of_length_le
def AH:=@List.map_cons
def AI:=@List.mem_of_mem_take
def AJ:=@Nat.blt_eq
def AL:=@List.getElem?_append_left
def AM:=@Nat.add_mul
def AN:=@Option.isSome_iff_exists
def AO:=@List.getElem?_eq_none
def AP:=@decide_eq_true
def AQ:=@if_false
def AR:=@List.getElem?_drop
def AS:=@Int.toNat_natCast
def AT:=@List.getElem?_append_right
def AU:=@List.getElem?_take
def AX:=@List.mem_singleton
def AY:=@List.drop_zero
def AZ:=@List.map_toArray
def Ba:=@Array.getElem?_setIfInBounds_ne
def Bb:=@Classical.byContradiction
def Bc:=@List.flatMap_append
def Be:=@List.getElem?_take_of_lt
def Bf:=@List.mem_of_mem_drop
def Bg:=@Array.append_empty
def Bh:=@Option.map_some
def Bi:=@decide_eq_false
def Bj:=@Nat.mul_le_mul_right
def Bk:=@Nat.lt_succ_self
def Bl:=@Bool.true_eq_false
def Bm:=@List.length_map
def Bn:=@Array.all_eq_true_iff_forall_mem
def Bo:=@List.flatten_cons
def Bp:=@List.pairwise_cons
def Bq:=@decide_eq_true_eq
def Br:=@Bool.or_eq_true
def Bt:=@List.length_nil
def Bu:=@if_true
def Bv:=@List.getElem?_map
def Bw:=@not_true_eq_false
def Bx:=@List.getElem?_cons_zero
def By:=@Array.getElem?_append_left
def Bz:=@List.append_eq
def B0:=@Nat.min_eq_left
def B5:=@Array.getElem?_eq_none
def B6:=@List.drop_eq_getElem_cons
def B7:=@List.drop_append_of_le_length
def B8:=@List.take_add_one
def B9:=@List.take_append_drop
def BA:=@List.all_cons
def BB:=@Nat.sub_zero
def BC:=@Nat.eq_zero_or_pos
def BD:=@eq_iff_iff
def BE:=@Array.getD_eq_getD_getElem?
def BF:=@List.set_eq_take_append_cons_drop
def BG:=@List.mem_map
def BH:=@List.take_succ_cons
def BI:=@Nat.le_succ
def BJ:=@List.getElem?_toArray
def BK:=@List.length_filter_le
def BL:=@List.mem_append_right
def BM:=@List.set_append_right
def BN:=@Nat.mod_eq_of_lt
def BO:=@Nat.add_assoc
def BP:=@Nat.beq_refl
def BQ:=@Array.mem_toList_iff
def BR:=@List.drop_drop
def BS:=@List.getElem_append
def BT:=@List.map_map
def BU:=@Nat.sub_self
def BV:=@Array.toList_inj
def BW:=@List.drop_append
def BX:=@BitVec.toNat_ofInt
def BY:=@List.set_cons_zero
def BZ:=@Array.getElem?_toList
def Ca:=@List.length_singleton
def Cb:=@Decidable.byContradiction
def Cc:=@List.pairwise_iff_getElem
def Cd:=@Nat.le_of_eq
def Ce:=@Nat.pow_le_pow_right
def Cf:=@Nat.zero_mul
def Cg:=@getElem!_pos
def Ch:=@forall_congr'
def Ci:=@List.toList_toArray
def Cj:=@List.length_eq_zero_iff
def Ck:=@Nat.add_zero
def Cl:=@List.length_set
def Cm:=@Nat.zero_lt_one
def Cn:=@Classical.choose_spec
def Co:=@Bool.not_eq_true'
def Cp:=@List.ext_getElem?
def Cq:=@Array.getElem?_eq_some_iff
def Cr:=@Array.getElem_toList
def Cs:=@Int.tmod_eq_emod_of_nonneg
def Ct:=@List.mapM_cons
def Cu:=@List.take_left
def Cw:=@Nat.shiftLeft_eq
def Cy:=@and_congr
def Cz:=@not_congr
def C0:=@List.replicate_succ
def C1:=@Array.any_eq_true'
def C2:=@UInt8.toNat_ofNat'
def C3:=@List.pairwise_singleton
def C4:=@BitVec.toNat_shiftLeft
def C5:=@Iff.rfl
def C6:=@List.length_range
def C7:=@List.map_nil
def C8:=@List.take_take
def C9:=@List.take_zero
def CA:=@Nat.pow_succ
def CB:=@of_decide_eq_true
def CC:=@Array.getElem?_modify
def CD:=@List.countP_eq_length
def CE:=@List.length_replicate
def CF:=@List.filter_cons
def CG:=@Nat.le_add_right
def CH:=@Nat.min_eq_right
def CI:=@Nat.mod_lt
def CJ:=@Bool.and_eq_true_iff
def CK:=@List.getElem?_of_mem
def CL:=@List.getLast?_eq_some_getLast
def CM:=@List.mem_cons_of_mem
def CN:=@Option.map_none
def CO:=@List.countP_pos_iff
def CP:=@Nat.add_comm
def CQ:=@Array.all_eq_true'
def CR:=@BitVec.allOnes_xor
def CS:=@List.mem_filterMap
def CT:=@Nat.lt_or_gt_of_ne
def CU:=@List.foldl_append
def CW:=@Nat.lt_succ_of_lt
def CX:=@List.sum_cons
def CY:=@BitVec.toNat_and
def CZ:=@BitVec.toNat_not
def Da:=@List.take_append
def Db:=@Nat.div_eq_of_lt
def Dc:=@Nat.le_of_not_lt
def Dd:=@Option.getD_some
def De:=@Nat.succ_mul
def Df:=@beq_iff_eq
def Dg:=@Bool.eq_iff_iff
def Dh:=@Int.natCast_mul
def Di:=@List.foldl_cons
def Dj:=@List.map_append
def Dl:=@Nat.one_mul
end Go
namespace Go
structure KeptC (q:Prop):Prop where
 out:q
section
variable {p q:Prop} (hq:q)
include p q hq
theorem aM2 (h:KeptC q->p:=by
 intro hq
 (first|refine aK [0,2,3,4,5,7,8,9,10,11,12,54] ?_|((with_reducible refine aQ (i:=13) ?_);refine aP [0,2,3,4,5,7,8,9,10,11,12,54] rfl rfl ?_;refine bW [] ?_)|((with_reducible refine aQ (i:=31) ?_);refine aP [0,2,3,4,5,7,8,9,10,11,12,54] rfl rfl ?_;refine bW [] ?_)|((with_reducible refine aQ ?_);refine aP [0,2,3,4,5,7,8,9,10,11,12,54] rfl rfl ?_;refine cJ [] ?_)|((with_reducible refine iZ ?_);refine yE ?_;refine bC (aR (T:=61) aB rfl rfl rfl) rfl ?_)|((with_reducible refine aW ?_);refine yA ?_;(first|refine bC (aR (T:=61) aB rfl rfl rfl) rfl ?_|refine bC (aR (T:=79) aB rfl rfl rfl) rfl ?_))|(refine dM ?_;first|refine c0 h1 ?_|refine c0 b1 ?_|refine c0 b2 ?_|refine c0 hs ?_)|((first|((with_reducible refine bP ?_);refine xA ?_)|((with_reducible refine cZ ?_);refine xD ?_)|((with_reducible refine iR ?_);refine xE ?_));(first|((with_reducible refine bU ?_);(first|refine aL (cS7 hj rfl rfl) ?_))))|refine iB ?_|refine fT ?_|refine stA ?_|refine stD ?_|refine stE ?_|fail)
 exact hq.out):p:=h ⟨hq⟩
theorem mY (h:KeptC q->p:=by
 intro hq
 (first|refine aK [0,1,2,4] ?_|(((with_reducible refine bP ?_);refine xA ?_);(first|((with_reducible refine bU ?_);(first|refine aL (eC5 rfl rfl (by first|exact AP t0|exact Bi t0)) ?_))))|refine stA ?_|fail)
 exact hq.out):p:=h ⟨hq⟩
theorem dW2 (h:KeptC q->p:=by
 intro hq
 (first|refine aK [0,1,3,4,5,6,7,8,9,10,11,12,13] ?_|((with_reducible refine aQ (i:=4) ?_);refine aP [0,1,3,4,5,6,7,8,9,10,11,12,13] rfl rfl ?_;refine bW [] ?_)|((with_reducible refine aQ (i:=10) ?_);refine aP [0,1,3,4,5,6,7,8,9,10,11,12,13] rfl rfl ?_;refine bW [] ?_)|((with_reducible refine aQ (i:=11) ?_);refine aP [0,1,3,4,5,6,7,8,9,10,11,12,13] rfl rfl ?_;refine bW [] ?_)|((with_reducible refine aQ ?_);refine aP [0,1,3,4,5,6,7,8,9,10,11,12,13] rfl rfl ?_;refine cJ [] ?_)|((with_reducible refine bM ?_);refine yA ?_;refine bC (bN (T:=28) rfl) rfl ?_)|((with_reducible refine aW ?_);refine yA ?_;refine bC (aR (T:=49) aB rfl rfl rfl) rfl ?_)|((with_reducible refine aF ?_);refine aJ (a1) aE rfl zby rfl rfl rfl rfl zcv rfl ztp ?_)|((with_reducible refine bL ?_);refine hQ (a1) aE rfl rfl zby rfl rfl rfl rfl zcv rfl ztp rfl ?_)|((with_reducible refine aF ?_);refine aJ (a2) aE rfl zby rfl rfl rfl rfl zcv rfl ztp ?_)|((with_reducible refine bL ?_);refine hQ (a2) aE rfl rfl zby rfl rfl rfl rfl zcv rfl ztp rfl ?_)|((with_reducible refine aF ?_);refine aJ (a3) aE rfl zby rfl rfl rfl rfl zcv rfl ztp ?_)|((with_reducible refine bL ?_);refine hQ (a3) aE rfl rfl zby rfl rfl rfl rfl zcv rfl ztp rfl ?_)|((with_reducible refine aF ?_);refine aJ (a4) aE rfl zby rfl rfl rfl rfl zcv rfl ztp ?_)|((with_reducible refine bL ?_);refine hQ (a4) aE rfl rfl zby rfl rfl rfl rfl zcv rfl ztp rfl ?_)|refine stA ?_|refine stD ?_|refine stE ?_|fail)
 exact hq.out):p:=h ⟨hq⟩
theorem dW3 (h:KeptC q->p:=by
 intro hq
 (first|refine aK [0,2,3,4,5,7,8,9,10,11,12,54] ?_|((with_reducible refine aQ (i:=13) ?_);refine aP [0,2,3,4,5,7,8,9,10,11,12,54] rfl rfl ?_;refine bW [] ?_)|((with_reducible refine aQ (i:=31) ?_);refine aP [0,2,3,4,5,7,8,9,10,11,12,54] rfl rfl ?_;refine bW [] ?_)|((with_reducible refine aQ ?_);refine aP [0,2,3,4,5,7,8,9,10,11,12,54] rfl rfl ?_;refine cJ [] ?_)|((with_reducible refine iZ ?_);refine yE ?_;refine bC (aR (T:=61) aB rfl rfl rfl) rfl ?_)|((with_reducible refine aW ?_);refine yA ?_;(first|refine bC (aR (T:=61) aB rfl rfl rfl) rfl ?_|refine bC (aR (T:=79) aB rfl rfl rfl) rfl ?_))|(refine dM ?_;first|refine c0 h1 ?_|refine c0 b1 ?_|refine c0 b2 ?_|refine c0 hs ?_)|((first|((with_reducible refine bP ?_);refine xA ?_)|((with_reducible refine cZ ?_);refine xD ?_)|((with_reducible refine iR ?_);refine xE ?_));(first|((with_reducible refine bU ?_);(first|refine aL (cS7 hj rfl rfl) ?_))))|refine iB ?_|refine fT ?_|((with_reducible refine fS ?_);refine zF aB aE rfl rfl rfl zpt (by rfl) (by rfl) rfl (A7 rfl) (by rfl) ?_)|((with_reducible refine sC ?_);refine aV4 aB aE rfl rfl rfl rfl rfl zpt (by rfl) (by rfl) rfl (A7 rfl) (by rfl) rfl ?_)|((with_reducible refine fS ?_);(refine wW aB aE rfl rfl rfl zln rfl zle (by first|exact hlay|exact oD _ _ zln|rfl) ?_))|refine stA ?_|refine stD ?_|refine stE ?_|fail)
 exact hq.out):p:=h ⟨hq⟩
theorem aM7 (h:KeptC q->p:=by
 intro hq
 (first|refine bE [0,1,3,4,5,6,7,8,51,52,53,81,82,83] ?_|((with_reducible refine bM ?_);refine yA ?_;refine bC (bN rfl) rfl ?_)|((first|((with_reducible refine bP ?_);refine xA ?_)|((with_reducible refine cZ ?_);refine xD ?_));(first|((with_reducible refine aV6 ?_);(first|refine aL (bA4 (kc:=ktV.kc) aB rfl rfl rfl rfl ha1) ?_|refine aL (bA4 (kc:=ktS.kc) aB rfl rfl rfl rfl ha2) ?_))))|refine cH ?_|refine stA ?_|refine stD ?_|fail)
 exact hq.out):p:=h ⟨hq⟩
theorem bU3 (h:KeptC q->p:=by
 intro hq
 (first|refine aK [0,2,3,4,5] ?_|(((with_reducible refine bP ?_);refine xA ?_);(first|((with_reducible refine bU ?_);(first|refine aL (bA2 hc8 rfl rfl) ?_|refine aL (aR4 rfl rfl h7 h63 hsh) ?_|refine aL (bR2 hsx hu hss rfl rfl) ?_|refine aL (aF0 (m:=1) rfl rfl rfl (by decide)) ?_|refine aL (bI7 (m:=2) (by decide) rfl rfl rfl) ?_))|((with_reducible refine qT ?_);(first|refine aL (gB aB rfl rfl rfl rfl (uT (by omega) (by omega))) ?_|refine aL (gB aB rfl rfl rfl rfl hwr) ?_))|((with_reducible refine cJ9 ?_);(first|refine aL (cS9 hu63 rfl) ?_))))|refine eJ ?_|refine stA ?_|fail)
 exact hq.out):p:=h ⟨hq⟩
theorem bU4 (h:KeptC q->p:=by
 intro hq
 (first|refine aK [0,2,3,4,5,6] ?_|(((with_reducible refine bP ?_);refine xA ?_);(first|((with_reducible refine bU ?_);(first|refine aL (bA0 hc8 rfl rfl) ?_|refine aL (aR4 rfl rfl h7 h63 hsh) ?_|refine aL (bR2 hsx hu hss rfl rfl) ?_|refine aL (aF0 (m:=1) rfl rfl rfl (by decide)) ?_|refine aL (cS6 hss rfl rfl) ?_))|((with_reducible refine qT ?_);(first|refine aL (gB aB rfl rfl rfl rfl (uT (by omega) (by omega))) ?_))|((with_reducible refine cJ9 ?_);(first|refine aL (cS8 hu64 rfl) ?_))))|refine eJ ?_|refine stA ?_|fail)
 exact hq.out):p:=h ⟨hq⟩
theorem zQ (h:KeptC q->p:=by
 intro hq
 (first|refine aK [0,1,2] ?_|((with_reducible refine bM ?_);refine yA ?_;refine bC (bN rfl) rfl ?_)|(((with_reducible refine bP ?_);refine xA ?_);(first|((with_reducible refine aV6 ?_);(first|refine aL (bI5 aB rfl rfl rfl rfl) ?_))))|refine eJ ?_|refine stA ?_|fail)
 exact hq.out):p:=h ⟨hq⟩
theorem dW4 (h:KeptC q->p:=by
 intro hq
 (first|refine aK [0,1,3,4,5,6,7,8,9,10,11,12,13] ?_|((with_reducible refine aQ (i:=4) ?_);refine aP [0,1,3,4,5,6,7,8,9,10,11,12,13] rfl rfl ?_;refine bW [] ?_)|((with_reducible refine aQ (i:=10) ?_);refine aP [0,1,3,4,5,6,7,8,9,10,11,12,13] rfl rfl ?_;refine bW [] ?_)|((with_reducible refine aQ ?_);refine aP [0,1,3,4,5,6,7,8,9,10,11,12,13] rfl rfl ?_;refine cJ [] ?_)|((with_reducible refine bM ?_);refine yA ?_;refine bC (bN (T:=28) rfl) rfl ?_)|((with_reducible refine aW ?_);refine yA ?_;refine bC (aR (T:=49) aB rfl rfl rfl) rfl ?_)|((with_reducible refine aF ?_);refine aJ (a1) aE rfl zby rfl rfl rfl rfl zcv rfl ztp ?_)|((with_reducible refine bL ?_);refine hQ (a1) aE rfl rfl zby rfl rfl rfl rfl zcv rfl ztp rfl ?_)|refine stA ?_|refine stD ?_|refine stE ?_|fail)
 exact hq.out):p:=h ⟨hq⟩
theorem dK0 (h:KeptC q->p:=by
 intro hq
 (first|refine aK [0,1,2,3,4,5,6,7,9,10,11,63] ?_|((with_reducible refine aQ (i:=2) ?_);refine aP [0,1,2,3,4,5,6,7,9,10,11,63] rfl rfl ?_;refine bW [] ?_)|((with_reducible refine aQ ?_);refine aP [0,1,2,3,4,5,6,7,9,10,11,63] rfl rfl ?_;refine cJ [] ?_)|((with_reducible refine bM ?_);refine yA ?_;(first|refine bC (bN (T:=61) rfl) rfl ?_|refine bC (bN (T:=49) rfl) rfl ?_))|((with_reducible refine aW ?_);refine yA ?_;(first|refine bC (aR (T:=61) aB rfl rfl rfl) rfl ?_|refine bC (aR (T:=49) aB rfl rfl rfl) rfl ?_))|((with_reducible refine bL ?_);refine qQ hnt aE zby rfl (by first|exact fO|exact eK cR fO) rfl (cT rfl rfl (cT rfl dZ (cT rfl dZ (cT rfl dZ (cT rfl dZ (cT rfl dZ uS)))))) ?_)|((with_reducible refine bL ?_);refine qP [4,5,6,7,8,9] hf aE rfl zby rfl rfl rfl (by repeat' (first|exact dD|refine cB rfl rfl rfl ?_|refine cB rfl setT_mp dO ?_)) rfl rfl aC9 rfl (by first|exact fO|exact eK cR fO) ?_)|refine iB ?_|refine fT ?_|refine stA ?_|refine stD ?_|refine stE ?_|fail)
 exact hq.out):p:=h ⟨hq⟩
theorem dK1 (h:KeptC q->p:=by
 intro hq
 (first|refine aK [0,2,3,4,5,6,7,8,9,26] ?_|((with_reducible refine aQ (i:=4) ?_);refine aP [0,2,3,4,5,6,7,8,9,26] rfl rfl ?_;refine bW [] ?_)|((with_reducible refine aQ (i:=12) ?_);refine aP [0,2,3,4,5,6,7,8,9,26] rfl rfl ?_;refine bW [] ?_)|((with_reducible refine aQ ?_);refine aP [0,2,3,4,5,6,7,8,9,26] rfl rfl ?_;refine cJ [] ?_)|((with_reducible refine iZ ?_);refine yE ?_;refine bC (aR (T:=49) aB rfl rfl rfl) rfl ?_)|((with_reducible refine aW ?_);refine yA ?_;refine bC (aR (T:=49) aB rfl rfl rfl) rfl ?_)|((with_reducible refine aF ?_);refine nR [8,3,4,5,6,7] hf aE rfl zby rfl rfl rfl rfl (by repeat' (first|exact dD|refine cB rfl rfl rfl ?_|refine cB rfl setT_mp dO ?_)) rfl rfl rfl (by first|exact fO|exact eK cR fO) (cE rfl rfl (cE rfl setT_mp.symm (cE rfl setT_mp.symm (cE rfl setT_mp.symm (cE rfl setT_mp.symm (cE rfl setT_mp.symm rC)))))) ?_)|((with_reducible refine nQ ?_);intro K hK hX)|(with_reducible refine qD ?_)|(refine dM ?_;refine c0 hac ?_)|refine stA ?_|refine stD ?_|refine stE ?_|fail)
 exact hq.out):p:=h ⟨hq⟩
theorem dK2 (h:KeptC q->p:=by
 intro hq
 (first|refine bE [0,2,3,4,5] ?_|((first|((with_reducible refine bP ?_);refine xA ?_)|((with_reducible refine cZ ?_);refine xD ?_));(first|((with_reducible refine bU ?_);(first|refine aL (pM (by kernel_rfl) (m:=3) rfl (by kernel_rfl) (by kernel_rfl) (by kernel_rfl) (by kernel_rfl) (by kernel_rfl) rfl rfl (hcx x) (hcx y) lx ly (cV8 hbxy)) ?_))|((with_reducible refine gO ?_);(first|refine aL (jL aB rfl rfl rfl rfl (by first|first|exact lN hx (Aq _)|exact lN hy (Aq _)|exact lN hx (by omega)|exact lN hy (by omega)|exact tL (by first|rfl|omega)|rfl) zln) ?_|refine aL (jK aB rfl rfl rfl (by first|first|exact lN hx (Aq _)|exact lN hy (Aq _)|exact lN hx (by omega)|exact lN hy (by omega)|exact tL (by first|rfl|omega)|rfl) zln) ?_))|((with_reducible refine jW ?_);(first|refine aL (s_slArri aB rfl rfl rfl rfl zbd zbd zle zle (by decide) (by first|first|exact lN hx (Aq _)|exact lN hy (Aq _)|exact lN hx (by omega)|exact lN hy (by omega)|exact tL (by first|rfl|omega)|rfl) zln) ?_))))|refine stA ?_|refine stD ?_|fail)
 exact hq.out):p:=h ⟨hq⟩
theorem dK3 (h:KeptC q->p:=by
 intro hq
 (first|refine bE (List.range 10) ?_|((first|((with_reducible refine bP ?_);refine xA ?_)|((with_reducible refine cZ ?_);refine xD ?_));(first|((with_reducible refine gO ?_);(first|refine aL (jB aB rfl rfl rfl rfl (by first|exact mM _ _ (by omega)|exact mM _ _ (CI _ (by decide)))) ?_|refine aL (gS aB rfl rfl rfl rfl (by first|exact mM _ _ (by omega)|exact mM _ _ (CI _ (by decide)))) ?_|refine aL (gR aB rfl rfl rfl (by first|exact mM _ _ (by omega)|exact mM _ _ (CI _ (by decide)))) ?_))|((with_reducible refine e_ix ?_);(first|refine aL (s_ixV1 aB rfl rfl zcj rfl rfl rfl rfl rfl zle (by first|exact mM _ _ (by omega)|exact mM _ _ (CI _ (by decide)))) ?_|refine aL (s_ixStr aB rfl rfl zcj rfl rfl (by first|exact mM _ _ (by omega)|exact mM _ _ (CI _ (by decide)))) ?_))))|((with_reducible refine fS ?_);(refine eQ aB aE rfl rfl rfl rfl rfl rfl (by first|exact cH8 _ _ (by omega)|exact A7 rfl|omega|(simp<;>omega)) ?_))|refine stA ?_|refine stD ?_|fail)
 exact hq.out):p:=h ⟨hq⟩
theorem bK7 (h:KeptC q->p:=by
 intro hq
 (first|refine fB [0,1,3,5,7,17,34,35,36,47,48,49] ?_|((with_reducible refine rA ?_);refine eY (by first|exact aE|exact (cI rfl rfl zgb)) (gV aB rfl rfl rfl rfl rfl rfl) ?_)|((with_reducible refine uK ?_);refine eY (by first|exact aE|exact (cI rfl rfl zgb)) (iT rfl) ?_)|((with_reducible refine lA ?_);refine eY (by first|exact aE|exact (cI rfl rfl zgb)) (mX rfl) ?_)|((with_reducible refine bM ?_);refine yA ?_;refine bC (bN rfl) rfl ?_)|refine stA ?_|refine stE ?_|fail)
 exact hq.out):p:=h ⟨hq⟩
theorem aH0 (h:KeptC q->p:=by
 intro hq
 (first|refine bE [0,1,3,4,5,6,7,8,51,52,53,81,82,83] ?_|((first|((with_reducible refine isA_lk ?_);refine xA ?_)|((with_reducible refine iQ ?_);refine xD ?_));refine aL (pO (k:=(⟨vt,vs'⟩:Src)) ktS aB rfl rfl iW rfl rfl rfl hok hoS hm) ?_)|(refine bZ ?_;refine c0 hcm ?_)|refine cH ?_|refine eE ?_|refine stA ?_|refine stD ?_|fail)
 exact hq.out):p:=h ⟨hq⟩
theorem cD3 (h:KeptC q->p:=by
 intro hq
 (first|refine aK [0,2,3,4,27] ?_|((with_reducible refine aW ?_);refine yA ?_;refine bC (aR aB rfl rfl rfl) rfl ?_)|((with_reducible refine aF ?_);refine aJ (a1) aE rfl zby rfl rfl rfl rfl zcv rfl ztp ?_)|((with_reducible refine aF ?_);refine aJ (a2) aE rfl zby rfl rfl rfl rfl zcv rfl ztp ?_)|((with_reducible refine aF ?_);refine aJ (a3) aE rfl zby rfl rfl rfl rfl zcv rfl ztp ?_)|((with_reducible refine aF ?_);refine aJ (a4) aE rfl zby rfl rfl rfl rfl zcv rfl ztp ?_)|((with_reducible refine aF ?_);refine aJ (a5) aE rfl zby rfl rfl rfl rfl zcv rfl ztp ?_)|refine stA ?_|fail)
 exact hq.out):p:=h ⟨hq⟩
theorem cD4 (h:KeptC q->p:=by
 intro hq
 (first|refine aK [0,2,3,17] ?_|((with_reducible refine aW ?_);refine yA ?_;refine bC (aR aB rfl rfl rfl) rfl ?_)|((with_reducible refine aF ?_);refine aJ (a1) aE rfl zby rfl rfl rfl rfl zcv rfl ztp ?_)|((with_reducible refine aF ?_);refine aJ (a2) aE rfl zby rfl rfl rfl rfl zcv rfl ztp ?_)|((with_reducible refine aF ?_);refine aJ (a3) aE rfl zby rfl rfl rfl rfl zcv rfl ztp ?_)|((with_reducible refine aF ?_);refine aJ (a4) aE rfl zby rfl rfl rfl rfl zcv rfl ztp ?_)|((with_reducible refine aF ?_);refine aJ (a5) aE rfl zby rfl rfl rfl rfl zcv rfl ztp ?_)|refine stA ?_|fail)
 exact hq.out):p:=h ⟨hq⟩
theorem dK4 (h:KeptC q->p:=by
 intro hq
 (first|refine aK [0,2,3,4,5,6,7,8,9,10,11] ?_|((with_reducible refine aQ (i:=5) ?_);refine aP [0,2,3,4,5,6,7,8,9,10,11] rfl rfl ?_;refine bW [] ?_)|((with_reducible refine aQ (i:=10) ?_);refine aP [0,2,3,4,5,6,7,8,9,10,11] rfl rfl ?_;refine bW [] ?_)|((with_reducible refine aQ ?_);refine aP [0,2,3,4,5,6,7,8,9,10,11] rfl rfl ?_;refine cJ [] ?_)|((with_reducible refine iZ ?_);refine yE ?_;refine bC (aR (T:=49) aB rfl rfl rfl) rfl ?_)|((with_reducible refine aW ?_);refine yA ?_;refine bC (aR (T:=49) aB rfl rfl rfl) rfl ?_)|((first|with_reducible refine aF ?_|with_reducible refine gG ?_|with_reducible refine bL ?_);(first|refine wA ?_|refine wN ?_|refine wD ?_|refine wE ?_);(first|refine cF hfo ?_))|(refine dM ?_;refine c0 hac ?_)|refine stA ?_|refine stD ?_|refine stE ?_|fail)
 exact hq.out):p:=h ⟨hq⟩
theorem mD (h:KeptC q->p:=by
 intro hq
 (first|refine bE [0,1,3,4,6,7,8,9,10,11,12,13,60] ?_|refine cH ?_|refine stA ?_|refine stD ?_|fail)
 exact hq.out):p:=h ⟨hq⟩
theorem cD5 (h:KeptC q->p:=by
 intro hq
 (first|refine fB [0,1,3,4,17] ?_|((with_reducible refine aF ?_);refine dI (i1) aE rfl zby rfl rfl zln rfl zcv (bO _) ?_)|((with_reducible refine bL ?_);refine gY (i1) aE rfl rfl zby rfl rfl zln rfl zcv (bO _) rfl ?_)|((with_reducible refine aF ?_);refine dI (i2) aE rfl zby rfl rfl zln rfl zcv (bO _) ?_)|((with_reducible refine bL ?_);refine gY (i2) aE rfl rfl zby rfl rfl zln rfl zcv (bO _) rfl ?_)|refine gX ?_|refine stA ?_|refine stE ?_|fail)
 exact hq.out):p:=h ⟨hq⟩
theorem cD6 (h:KeptC q->p:=by
 intro hq
 (first|refine bE [0,1,3,4,7,8,50] ?_|((first|((with_reducible refine isA_lk ?_);refine xA ?_)|((with_reducible refine iQ ?_);refine xD ?_));refine aL (rP (k:=plan) ktI aB rfl rfl iW rfl rfl rfl trivial (fun _ _=>trivial) hb) ?_)|((first|((with_reducible refine isA_lk ?_);refine xA ?_)|((with_reducible refine iQ ?_);refine xD ?_));refine aL (pO (k:=plan) ktI aB rfl rfl iW rfl rfl rfl trivial (fun _ _=>trivial) hc) ?_)|refine cH ?_|refine stA ?_|refine stD ?_|fail)
 exact hq.out):p:=h ⟨hq⟩
theorem bK8 (h:KeptC q->p:=by
 intro hq
 (first|refine bE [0,1,3,4,5,6,7,8,51,52,53,81,82,83] ?_|((first|((with_reducible refine isA_lk ?_);refine xA ?_)|((with_reducible refine iQ ?_);refine xD ?_));refine aL (pO (k:=(⟨vt,vc,vs'⟩:Ver)) ktV aB rfl rfl iW rfl rfl rfl hok hoV hm) ?_)|(refine bZ ?_;refine c0 hcm ?_)|refine cH ?_|refine eE ?_|refine stA ?_|refine stD ?_|fail)
 exact hq.out):p:=h ⟨hq⟩
theorem dK5 (h:KeptC q->p:=by
 intro hq
 (first|refine fB [0,1,3,4,5] ?_|((with_reducible refine aF ?_);refine dI (i1) aE rfl zby rfl rfl zln rfl zcv (bO _) ?_)|((with_reducible refine bL ?_);refine gY (i1) aE rfl rfl zby rfl rfl zln rfl zcv (bO _) rfl ?_)|((with_reducible refine aF ?_);refine dI (i2) aE rfl zby rfl rfl zln rfl zcv (bO _) ?_)|((with_reducible refine bL ?_);refine gY (i2) aE rfl rfl zby rfl rfl zln rfl zcv (bO _) rfl ?_)|((with_reducible refine aF ?_);refine dI (i3) aE rfl zby rfl rfl zln rfl zcv (bO _) ?_)|((with_reducible refine bL ?_);refine gY (i3) aE rfl rfl zby rfl rfl zln rfl zcv (bO _) rfl ?_)|refine gX ?_|refine stA ?_|refine stE ?_|fail)
 exact hq.out):p:=h ⟨hq⟩
theorem dK6 (h:KeptC q->p:=by
 intro hq
 (first|refine fB [0,1,3,4] ?_|((with_reducible refine aF ?_);refine dI (i1) aE rfl zby rfl rfl zln rfl zcv (bO _) ?_)|((with_reducible refine bL ?_);refine gY (i1) aE rfl rfl zby rfl rfl zln rfl zcv (bO _) rfl ?_)|((with_reducible refine aF ?_);refine dI (i2) aE rfl zby rfl rfl zln rfl zcv (bO _) ?_)|((with_reducible refine bL ?_);refine gY (i2) aE rfl rfl zby rfl rfl zln rfl zcv (bO _) rfl ?_)|((with_reducible refine aF ?_);refine dI (i3) aE rfl zby rfl rfl zln rfl zcv (bO _) ?_)|((with_reducible refine bL ?_);refine gY (i3) aE rfl rfl zby rfl rfl zln rfl zcv (bO _) rfl ?_)|refine gX ?_|refine stA ?_|refine stE ?_|fail)
 exact hq.out):p:=h ⟨hq⟩
theorem dK7 (h:KeptC q->p:=by
 intro hq
 (first|refine fB [0,1,3,5,7,17,34,35,36,47,48,49] ?_|((with_reducible refine rA ?_);refine eY (by first|exact aE|exact (cI rfl rfl zgb)) (gV aB rfl rfl rfl rfl rfl rfl) ?_)|((with_reducible refine uK ?_);refine eY (by first|exact aE|exact (cI rfl rfl zgb)) (iT rfl) ?_)|((with_reducible refine lA ?_);refine eY (by first|exact aE|exact (cI rfl rfl zgb)) (mX rfl) ?_)|((with_reducible refine bM ?_);refine yA ?_;refine bC (bN rfl) rfl ?_)|((with_reducible refine aP0 ?_);refine oU (k:=plan) ktI aB aE rfl rfl rfl rfl rfl rfl ztr (fun _ _=>trivial) ?_)|refine stA ?_|refine stE ?_|fail)
 exact hq.out):p:=h ⟨hq⟩
theorem zO (h:KeptC q->p:=by
 intro hq
 (first|refine bE [0,1,3,4,6,7,8,9,10,11,12,13,60] ?_|(refine bZ ?_;first|refine c0 hhas ?_|refine c0 hle ?_)|refine cH ?_|refine eE ?_|refine stA ?_|refine stD ?_|fail)
 exact hq.out):p:=h ⟨hq⟩
theorem bK9 (h:KeptC q->p:=by
 intro hq
 (first|refine bE [0,1,3,4,6,7,8,9,10,11,12,13,60] ?_|((with_reducible refine bM ?_);refine yA ?_;refine bC (bN rfl) rfl ?_)|((with_reducible refine aW ?_);refine yA ?_;refine bC (aR (T:=49) aB rfl rfl rfl) rfl ?_)|(refine bZ ?_;refine c0 hrd ?_)|refine cH ?_|refine stA ?_|refine stD ?_|fail)
 exact hq.out):p:=h ⟨hq⟩
theorem qF (h:KeptC q->p:=by
 intro hq
 (first|refine aK [0,1,2] ?_|((with_reducible refine bM ?_);refine yA ?_;refine bC (bN rfl) rfl ?_)|refine stA ?_|fail)
 exact hq.out):p:=h ⟨hq⟩
theorem bL0 (h:KeptC q->p:=by
 intro hq
 (first|refine bE [0,1,3,4,5,6,7,8,51,52,53,81,82,83] ?_|((first|((with_reducible refine isA_lk ?_);refine xA ?_)|((with_reducible refine iQ ?_);refine xD ?_));refine aL (pO (k:=(⟨vt,vs'⟩:Src)) ktS aB rfl rfl iW rfl rfl rfl hok hoS hm) ?_)|refine cH ?_|refine eE ?_|refine stA ?_|refine stD ?_|fail)
 exact hq.out):p:=h ⟨hq⟩
theorem dK8 (h:KeptC q->p:=by
 intro hq
 (first|refine aK [0,2,3] ?_|((with_reducible refine aF ?_);refine aJ (a1) aE rfl zby rfl rfl rfl rfl zcv rfl ztp ?_)|((with_reducible refine aF ?_);refine aJ (a2) aE rfl zby rfl rfl rfl rfl zcv rfl ztp ?_)|((with_reducible refine aF ?_);refine aJ (a3) aE rfl zby rfl rfl rfl rfl zcv rfl ztp ?_)|((with_reducible refine aF ?_);refine aJ (a4) aE rfl zby rfl rfl rfl rfl zcv rfl ztp ?_)|((with_reducible refine aF ?_);refine aJ (a5) aE rfl zby rfl rfl rfl rfl zcv rfl ztp ?_)|((with_reducible refine aF ?_);refine aJ (a6) aE rfl zby rfl rfl rfl rfl zcv rfl ztp ?_)|refine stA ?_|fail)
 exact hq.out):p:=h ⟨hq⟩
theorem sQ (h:KeptC q->p:=by
 intro hq
 (first|refine aK [0,1,2,3,4] ?_|((with_reducible refine bM ?_);refine yA ?_;refine bC (bN rfl) rfl ?_)|refine stA ?_|fail)
 exact hq.out):p:=h ⟨hq⟩
theorem wX (h:KeptC q->p:=by
 intro hq
 (first|refine bE [0,1,3,4,6,7,8,9,10,11,12,13,60] ?_|(refine bZ ?_;refine c0 hct ?_)|refine cH ?_|refine stA ?_|refine stD ?_|fail)
 exact hq.out):p:=h ⟨hq⟩
theorem zP (h:KeptC q->p:=by
 intro hq
 (first|refine bE [0,1,3,4,6,7,8,9,10,11,12,13,60] ?_|(refine bZ ?_;refine c0 hhas ?_)|refine cH ?_|refine eE ?_|refine stA ?_|refine stD ?_|fail)
 exact hq.out):p:=h ⟨hq⟩
theorem dK9 (h:KeptC q->p:=by
 intro hq
 (first|refine aK [0,2,3] ?_|((with_reducible refine aF ?_);refine aJ (a1) aE rfl zby rfl rfl rfl rfl zcv rfl ztp ?_)|((with_reducible refine aF ?_);refine aJ (a2) aE rfl zby rfl rfl rfl rfl zcv rfl ztp ?_)|((with_reducible refine aF ?_);refine aJ (a3) aE rfl zby rfl rfl rfl rfl zcv rfl ztp ?_)|((with_reducible refine aF ?_);refine aJ (a4) aE rfl zby rfl rfl rfl rfl zcv rfl ztp ?_)|((with_reducible refine aF ?_);refine aJ (a5) aE rfl zby rfl rfl rfl rfl zcv rfl ztp ?_)|refine stA ?_|fail)
 exact hq.out):p:=h ⟨hq⟩
theorem cD7 (h:KeptC q->p:=by
 intro hq
 (first|refine aK [0,2] ?_|((with_reducible refine wG ?_);(refine yV aB aE rfl rfl rfl rfl rfl rfl rfl rfl (by first|rfl|simp) rfl eD7 (by simp only [maxLen];omega) (by omega) ?_))|(((with_reducible refine bP ?_);refine xA ?_);(first|((with_reducible refine bU ?_);(first|refine aL (bA1 aB rfl rfl rfl rfl) ?_))))|refine stA ?_|fail)
 exact hq.out):p:=h ⟨hq⟩
theorem dL0 (h:KeptC q->p:=by
 intro hq
 (first|refine aK [0,2,3,4,5] ?_|(((with_reducible refine bP ?_);refine xA ?_);(first|((with_reducible refine bU ?_);(first|refine aL (bA2 hc8 rfl rfl) ?_|refine aL (aR4 rfl rfl h7 h63 hsh) ?_|refine aL (bR2 hsx hu hss rfl rfl) ?_|refine aL (aF0 (m:=1) rfl rfl rfl (by decide)) ?_|refine aL (bI7 (m:=2) (by decide) rfl rfl rfl) ?_))|((with_reducible refine qT ?_);(first|refine aL (gB aB rfl rfl rfl rfl (uT (by omega) (by omega))) ?_))))|refine eJ ?_|refine stA ?_|fail)
 exact hq.out):p:=h ⟨hq⟩
theorem dL1 (h:KeptC q->p:=by
 intro hq
 (first|refine bE [0,1,3,4,7,8,50] ?_|((first|((with_reducible refine isA_lk ?_);refine xA ?_)|((with_reducible refine iQ ?_);refine xD ?_));refine aL (rP (k:=plan) ktI aB rfl rfl iW rfl rfl rfl trivial (fun _ _=>trivial) hb) ?_)|((first|((with_reducible refine isA_lk ?_);refine xA ?_)|((with_reducible refine iQ ?_);refine xD ?_));refine aL (rP (k:=plan) ktI aB rfl rfl iW rfl rfl rfl trivial (fun _ _=>trivial) hc) ?_)|refine cH ?_|refine stA ?_|refine stD ?_|fail)
 exact hq.out):p:=h ⟨hq⟩
theorem dL2 (h:KeptC q->p:=by
 intro hq
 (first|refine aK [0,2,3,4,5,6] ?_|(((with_reducible refine bP ?_);refine xA ?_);(first|((with_reducible refine bU ?_);(first|refine aL (bA0 hc8 rfl rfl) ?_|refine aL (aR4 rfl rfl h7 h63 hsh) ?_|refine aL (bR2 hsx hu hss rfl rfl) ?_|refine aL (aF0 (m:=1) rfl rfl rfl (by decide)) ?_|refine aL (cS6 hss rfl rfl) ?_))|((with_reducible refine qT ?_);(first|refine aL (gB aB rfl rfl rfl rfl (uT (by omega) (by omega))) ?_))))|refine eJ ?_|refine stA ?_|fail)
 exact hq.out):p:=h ⟨hq⟩
theorem cD8 (h:KeptC q->p:=by
 intro hq
 (first|refine bE [0,1,3,4,5,6,7,8,51,52,53,81,82,83] ?_|((first|((with_reducible refine isA_lk ?_);refine xA ?_)|((with_reducible refine iQ ?_);refine xD ?_));refine aL (pO (k:=(⟨vt,vc,vs'⟩:Ver)) ktV aB rfl rfl iW rfl rfl rfl hok hoV hm) ?_)|refine cH ?_|refine eE ?_|refine stA ?_|refine stD ?_|fail)
 exact hq.out):p:=h ⟨hq⟩
theorem dL3 (h:KeptC q->p:=by
 intro hq
 (first|refine aK [0,2,3] ?_|((with_reducible refine aF ?_);refine aJ (a1) aE rfl zby rfl rfl rfl rfl zcv rfl ztp ?_)|((with_reducible refine aF ?_);refine aJ (a2) aE rfl zby rfl rfl rfl rfl zcv rfl ztp ?_)|((with_reducible refine aF ?_);refine aJ (a3) aE rfl zby rfl rfl rfl rfl zcv rfl ztp ?_)|((with_reducible refine aF ?_);refine aJ (a4) aE rfl zby rfl rfl rfl rfl zcv rfl ztp ?_)|refine stA ?_|fail)
 exact hq.out):p:=h ⟨hq⟩
theorem sR (h:KeptC q->p:=by
 intro hq
 (first|refine aK [0,1,2,4,5] ?_|(refine dK ?_;refine c0 hva ?_)|refine stA ?_|fail)
 exact hq.out):p:=h ⟨hq⟩
theorem aT4 (h:KeptC q->p:=by
 intro hq
 (first|refine bE [0,1,3,4,7,8,50] ?_|((with_reducible refine bM ?_);refine yA ?_;refine bC (bN rfl) rfl ?_)|refine cH ?_|refine stA ?_|refine stD ?_|fail)
 exact hq.out):p:=h ⟨hq⟩
theorem dL4 (h:KeptC q->p:=by
 intro hq
 (first|refine aK [0,1,3,4,5,6] ?_|((with_reducible refine aQ (i:=3) ?_);refine aP [0,1,3,4,5,6] rfl rfl ?_;refine bW [] ?_)|((with_reducible refine aQ ?_);refine aP [0,1,3,4,5,6] rfl rfl ?_;refine cJ [] ?_)|((with_reducible refine bM ?_);refine yA ?_;refine bC (bN rfl) rfl ?_)|(refine dM ?_;refine c0 hh ?_)|refine stA ?_|refine stD ?_|refine stE ?_|fail)
 exact hq.out):p:=h ⟨hq⟩
theorem dL5 (h:KeptC q->p:=by
 intro hq
 (first|refine bE [0,1,3,4,5] ?_|((first|((with_reducible refine bP ?_);refine xA ?_)|((with_reducible refine cZ ?_);refine xD ?_));(first|((with_reducible refine bU ?_);(first|refine aL (pM (by kernel_rfl) (m:=3) rfl (by kernel_rfl) (by kernel_rfl) (by kernel_rfl) (by kernel_rfl) (by kernel_rfl) rfl rfl (hcx x) (hcx v) lx lv (cV8 heq)) ?_))))|refine eE ?_|refine stA ?_|refine stD ?_|fail)
 exact hq.out):p:=h ⟨hq⟩
theorem dL6 (h:KeptC q->p:=by
 intro hq
 (first|refine bE [0,1,3,4,5] ?_|((first|((with_reducible refine bP ?_);refine xA ?_)|((with_reducible refine cZ ?_);refine xD ?_));(first|((with_reducible refine bU ?_);(first|refine aL (pM (by kernel_rfl) (m:=3) rfl (by kernel_rfl) (by kernel_rfl) (by kernel_rfl) (by kernel_rfl) (by kernel_rfl) rfl rfl (hcx x) (hcx v) lx lv (eO9 heq)) ?_))))|refine eE ?_|refine stA ?_|refine stD ?_|fail)
 exact hq.out):p:=h ⟨hq⟩
theorem dL7 (h:KeptC q->p:=by
 intro hq
 (first|refine bE [0,1,4,5] ?_|((first|((with_reducible refine bP ?_);refine xA ?_)|((with_reducible refine cZ ?_);refine xD ?_));(first|((with_reducible refine bU ?_);(first|refine aL (bI6 (by kernel_rfl) (m:=3) rfl (by kernel_rfl) (by kernel_rfl) (by kernel_rfl) (by kernel_rfl) (by kernel_rfl) rfl rfl (hcx x) (hcx x) lx lx uQ) ?_))))|refine eE ?_|refine stA ?_|refine stD ?_|fail)
 exact hq.out):p:=h ⟨hq⟩
theorem cD9 (h:KeptC q->p:=by
 intro hq
 (first|refine bE [0,1,3,4,5,6,7,8,9,10,11,12,13,14,15,16,17] ?_|((with_reducible refine aW ?_);refine yA ?_;refine bC (aR (T:=49) aB rfl rfl rfl) rfl ?_)|(refine bZ ?_;refine c0 hri ?_)|refine stA ?_|refine stD ?_|fail)
 exact hq.out):p:=h ⟨hq⟩
theorem cE0 (h:KeptC q->p:=by
 intro hq
 (first|refine aK [0,2,3] ?_|((with_reducible refine aF ?_);refine aJ (a1) aE rfl zby rfl rfl rfl rfl zcv rfl ztp ?_)|((with_reducible refine aF ?_);refine aJ (a2) aE rfl zby rfl rfl rfl rfl zcv rfl ztp ?_)|refine stA ?_|fail)
 exact hq.out):p:=h ⟨hq⟩
theorem aT5 (h:KeptC q->p:=by
 intro hq
 (first|refine bE [0,1,3,4,6,7,8,9,10,11,12,13,60] ?_|(refine bZ ?_;refine c0 hdn ?_)|refine cH ?_|refine stA ?_|refine stD ?_|fail)
 exact hq.out):p:=h ⟨hq⟩
theorem dL8 (h:KeptC q->p:=by
 intro hq
 (first|refine aK [0,1,4,6,7,8,9,10] ?_|(((with_reducible refine bP ?_);refine xA ?_);(first|((with_reducible refine qT ?_);(first|refine aL (cT0 aB rfl rfl rfl rfl) ?_))|((with_reducible refine bU ?_);(first|refine aL (dI3 hlt8 rfl rfl) ?_|refine aL (aF0 (m:=7) rfl rfl rfl (by decide)) ?_))))|refine stA ?_|fail)
 exact hq.out):p:=h ⟨hq⟩
theorem wY (h:KeptC q->p:=by
 intro hq
 (first|refine bE [0,1,3,4,7,8,50] ?_|refine cH ?_|refine stA ?_|refine stD ?_|fail)
 exact hq.out):p:=h ⟨hq⟩
theorem cE1 (h:KeptC q->p:=by
 intro hq
 (first|refine fB [0,1,2,3,15] ?_|((with_reducible refine bM ?_);refine yA ?_;refine bC (bN rfl) rfl ?_)|refine gX ?_|(refine iK ?_;first|refine c1 i1 ?_|refine c1 i2 ?_)|refine stA ?_|refine stE ?_|fail)
 exact hq.out):p:=h ⟨hq⟩
theorem dL9 (h:KeptC q->p:=by
 intro hq
 (first|refine bE [0,1,3,4,5,6,7,8,51,52,53,81,82,83] ?_|((first|((with_reducible refine isA_lk ?_);refine xA ?_)|((with_reducible refine iQ ?_);refine xD ?_));refine aL (rP (k:=(⟨vt,vs'⟩:Src)) ktS aB rfl rfl iW rfl rfl rfl hok hoS hm) ?_)|refine cH ?_|refine eE ?_|refine stA ?_|refine stD ?_|fail)
 exact hq.out):p:=h ⟨hq⟩
theorem dM0 (h:KeptC q->p:=by
 intro hq
 (first|refine fB [0,1,2,4,5] ?_|(refine iK ?_;first|refine c0 hva ?_|refine c1 hj ?_)|((first|((with_reducible refine bP ?_);refine xA ?_)|((with_reducible refine iR ?_);refine xE ?_));(first|((with_reducible refine aV6 ?_);(first|refine aL (bR1 rfl rfl hq3) ?_))))|refine stA ?_|refine stE ?_|fail)
 exact hq.out):p:=h ⟨hq⟩
theorem dM1 (h:KeptC q->p:=by
 intro hq
 (first|refine aK [0,1,3,4,13] ?_|((with_reducible refine aF ?_);refine dI (i1) aE rfl zby rfl rfl zln rfl zcv (bO _) ?_)|((with_reducible refine aF ?_);refine dI (i2) aE rfl zby rfl rfl zln rfl zcv (bO _) ?_)|refine vB ?_|(refine dK ?_;refine c0 hcl ?_)|refine stA ?_|fail)
 exact hq.out):p:=h ⟨hq⟩
theorem dM2 (h:KeptC q->p:=by
 intro hq
 (first|refine bE [0,1,3,4,7,8,50] ?_|((first|((with_reducible refine isA_lk ?_);refine xA ?_)|((with_reducible refine iQ ?_);refine xD ?_));refine aL (pO (k:=plan) ktI aB rfl rfl iW rfl rfl rfl trivial (fun _ _=>trivial) hb) ?_)|refine cH ?_|refine stA ?_|refine stD ?_|fail)
 exact hq.out):p:=h ⟨hq⟩
theorem dM3 (h:KeptC q->p:=by
 intro hq
 (first|refine bE (List.range 10) ?_|((with_reducible refine bM ?_);refine yA ?_;(first|refine bC (bN (T:=61) rfl) rfl ?_|refine bC (bN (T:=49) rfl) rfl ?_))|(refine bZ ?_;refine c0 hfo ?_)|refine cH ?_|refine eE ?_|refine stA ?_|refine stD ?_|fail)
 exact hq.out):p:=h ⟨hq⟩
theorem bL1 (h:KeptC q->p:=by
 intro hq
 (first|refine bE [0,1,2,4,5] ?_|(refine bZ ?_;first|refine c0 hva ?_|refine c0 hcl ?_|refine c1 hj ?_)|refine stA ?_|refine stD ?_|fail)
 exact hq.out):p:=h ⟨hq⟩
theorem cE2 (h:KeptC q->p:=by
 intro hq
 (first|refine aK [0,2] ?_|(((with_reducible refine bP ?_);refine xA ?_);(first|((with_reducible refine bU ?_);(first|refine aL (cT2 aB hp rfl rfl rfl rfl) ?_))))|refine stA ?_|fail)
 exact hq.out):p:=h ⟨hq⟩
theorem bL2 (h:KeptC q->p:=by
 intro hq
 (first|refine bE [0,1,3,4,5] ?_|((with_reducible refine bM ?_);refine yA ?_;refine bC (bN rfl) rfl ?_)|refine stA ?_|refine stD ?_|fail)
 exact hq.out):p:=h ⟨hq⟩
theorem cE3 (h:KeptC q->p:=by
 intro hq
 (first|refine aK [0,2] ?_|(((with_reducible refine bP ?_);refine xA ?_);(first|((with_reducible refine bU ?_);(first|refine aL (bA1 aB rfl rfl rfl rfl) ?_))))|refine stA ?_|fail)
 exact hq.out):p:=h ⟨hq⟩
theorem dM4 (h:KeptC q->p:=by
 intro hq
 (first|refine bE [0,1,3,4,5,6,7,8,9,10,11,12,13,14,15,16,17] ?_|((with_reducible refine aW ?_);refine yA ?_;refine bC (aR (T:=49) aB rfl rfl rfl) rfl ?_)|(refine bZ ?_;first|refine c0 hri ?_|refine c0 hre ?_)|refine stA ?_|refine stD ?_|fail)
 exact hq.out):p:=h ⟨hq⟩
theorem dM5 (h:KeptC q->p:=by
 intro hq
 (first|refine fB [0,2,3] ?_|((with_reducible refine aF ?_);refine aJ (a2) aE rfl zby rfl rfl rfl rfl zcv rfl ztp ?_)|((with_reducible refine bL ?_);refine hQ (a2) aE rfl rfl zby rfl rfl rfl rfl zcv rfl ztp rfl ?_)|refine stA ?_|refine stE ?_|fail)
 exact hq.out):p:=h ⟨hq⟩
theorem dM6 (h:KeptC q->p:=by
 intro hq
 (first|refine aK [0,2,3,4] ?_|(((with_reducible refine bP ?_);refine xA ?_);(first|((with_reducible refine bU ?_);(first|refine aL (eD0 (m:=128) (by decide) hx rfl rfl rfl) ?_|refine aL (bI7 (m:=128) (by decide) rfl rfl rfl) ?_))))|refine stA ?_|fail)
 exact hq.out):p:=h ⟨hq⟩
theorem bL3 (h:KeptC q->p:=by
 intro hq
 (first|refine bE [0,1,2,4,5] ?_|(refine bZ ?_;first|refine c0 hva ?_|refine c0 hcl ?_)|refine stA ?_|refine stD ?_|fail)
 exact hq.out):p:=h ⟨hq⟩
theorem bL4 (h:KeptC q->p:=by
 intro hq
 (first|refine aK [0,1,2,3] ?_|(refine dK ?_;first|refine c0 hva ?_|refine c0 hcl ?_|refine c1 hj ?_)|refine stA ?_|fail)
 exact hq.out):p:=h ⟨hq⟩
theorem dM7 (h:KeptC q->p:=by
 intro hq
 (first|refine aK [0,2,3,8] ?_|((with_reducible refine aF ?_);refine aJ (a1) aE rfl zby rfl rfl rfl rfl zcv rfl ztp ?_)|((with_reducible refine aF ?_);refine aJ (a2) aE rfl zby rfl rfl rfl rfl zcv rfl ztp ?_)|refine stA ?_|fail)
 exact hq.out):p:=h ⟨hq⟩
theorem aH1 (h:KeptC q->p:=by
 intro hq
 (first|refine aK [0,1,2,3] ?_|(refine dK ?_;refine c0 hva ?_)|refine stA ?_|fail)
 exact hq.out):p:=h ⟨hq⟩
theorem sS (h:KeptC q->p:=by
 intro hq
 (first|refine aK [0,2,3,4,5] ?_|refine stA ?_|fail)
 exact hq.out):p:=h ⟨hq⟩
theorem dM8 (h:KeptC q->p:=by
 intro hq
 (first|refine aK [0,1,2,3,4,5,7,14,15,16] ?_|((with_reducible refine aW ?_);refine yA ?_;refine bC (aR (T:=49) aB rfl rfl rfl) rfl ?_)|(refine dK ?_;refine c0 hcl ?_)|refine jO ?_|refine stA ?_|fail)
 exact hq.out):p:=h ⟨hq⟩
theorem aH2 (h:KeptC q->p:=by
 intro hq
 (first|refine bE (List.range 10) ?_|refine stA ?_|refine stD ?_|fail)
 exact hq.out):p:=h ⟨hq⟩
theorem bL5 (h:KeptC q->p:=by
 intro hq
 (first|refine aK [0,1,2,4,5] ?_|(refine dK ?_;first|refine c0 hva ?_|refine c0 hcl ?_)|refine stA ?_|fail)
 exact hq.out):p:=h ⟨hq⟩
theorem bL6 (h:KeptC q->p:=by
 intro hq
 (first|refine bE [0,1,3,4,5,6,7,8,51,52,53,81,82,83] ?_|refine cH ?_|refine stA ?_|refine stD ?_|fail)
 exact hq.out):p:=h ⟨hq⟩
theorem cE4 (h:KeptC q->p:=by
 intro hq
 (first|refine bE [0,1,3,4,6,7,8,9,10,11,12,13,60] ?_|(refine bZ ?_;refine c0 her ?_)|refine cH ?_|refine stA ?_|refine stD ?_|fail)
 exact hq.out):p:=h ⟨hq⟩
theorem bL7 (h:KeptC q->p:=by
 intro hq
 (first|refine aK [0,1,2,3] ?_|(refine dK ?_;first|refine c0 hva ?_|refine c0 hcl ?_)|refine stA ?_|fail)
 exact hq.out):p:=h ⟨hq⟩
theorem bL8 (h:KeptC q->p:=by
 intro hq
 (first|refine bE [0,1,2,4,5] ?_|(refine bZ ?_;refine c0 hva ?_)|refine stA ?_|refine stD ?_|fail)
 exact hq.out):p:=h ⟨hq⟩
theorem dM9 (h:KeptC q->p:=by
 intro hq
 (first|refine aK [0,1,4,6,12,13,14] ?_|((with_reducible refine aF ?_);refine dI (i2) aE rfl zby rfl rfl zln rfl zcv (bO _) ?_)|refine vB ?_|refine jO ?_|refine stA ?_|fail)
 exact hq.out):p:=h ⟨hq⟩
theorem dN0 (h:KeptC q->p:=by
 intro hq
 (first|refine aK [0,2,3,5,6,7,8] ?_|((with_reducible refine aW ?_);refine yA ?_;refine bC (aR (T:=49) aB rfl rfl rfl) rfl ?_)|refine eJ ?_|refine jO ?_|refine stA ?_|fail)
 exact hq.out):p:=h ⟨hq⟩
theorem dN1 (h:KeptC q->p:=by
 intro hq
 (first|refine bE [0,1,3,4,5,6,7,8,51,52,53,81,82,83] ?_|((with_reducible refine bM ?_);refine yA ?_;refine bC (bN rfl) rfl ?_)|refine cH ?_|refine stA ?_|refine stD ?_|fail)
 exact hq.out):p:=h ⟨hq⟩
theorem aH3 (h:KeptC q->p:=by
 intro hq
 (first|refine bE [0,1,4,5,6,7] ?_|refine stA ?_|refine stD ?_|fail)
 exact hq.out):p:=h ⟨hq⟩
theorem dN2 (h:KeptC q->p:=by
 intro hq
 (first|refine bE [0,1,3,4,5,6] ?_|((with_reducible refine bM ?_);refine yA ?_;refine bC (bN rfl) rfl ?_)|(refine bZ ?_;refine c0 hh ?_)|refine stA ?_|refine stD ?_|fail)
 exact hq.out):p:=h ⟨hq⟩
theorem dN3 (h:KeptC q->p:=by
 intro hq
 (first|refine aK [0,1,4,6,12,13,14] ?_|((with_reducible refine aF ?_);refine dI (i1) aE rfl zby rfl rfl zln rfl zcv (bO _) ?_)|refine vB ?_|refine stA ?_|fail)
 exact hq.out):p:=h ⟨hq⟩
theorem aH4 (h:KeptC q->p:=by
 intro hq
 (first|refine bE [0,1,4,5] ?_|refine stA ?_|refine stD ?_|fail)
 exact hq.out):p:=h ⟨hq⟩
theorem wZ (h:KeptC q->p:=by
 intro hq
 (first|refine aK [0,2,3,4] ?_|refine stA ?_|fail)
 exact hq.out):p:=h ⟨hq⟩
theorem dN4 (h:KeptC q->p:=by
 intro hq
 (first|refine bE [0,1,3,4,6,7,8,9,10,11,12,13,60] ?_|(refine bZ ?_;refine c0 hle ?_)|refine cH ?_|refine eE ?_|refine stA ?_|refine stD ?_|fail)
 exact hq.out):p:=h ⟨hq⟩
theorem cE5 (h:KeptC q->p:=by
 intro hq
 (first|refine aK [0,1,4,5,6] ?_|(refine dK ?_;first|refine c0 h1 ?_|refine c0 h2 ?_)|refine stA ?_|fail)
 exact hq.out):p:=h ⟨hq⟩
theorem bL9 (h:KeptC q->p:=by
 intro hq
 (first|refine bE [0,1,4,5,6,7] ?_|refine cH ?_|refine stA ?_|refine stD ?_|fail)
 exact hq.out):p:=h ⟨hq⟩
theorem dN5 (h:KeptC q->p:=by
 intro hq
 (first|refine aK [0,1,3,4] ?_|((with_reducible refine bM ?_);refine yA ?_;refine bC (bN rfl) rfl ?_)|(refine dK ?_;refine c0 hh ?_)|refine stA ?_|fail)
 exact hq.out):p:=h ⟨hq⟩
theorem dN6 (h:KeptC q->p:=by
 intro hq
 (first|refine fB [0,1,2,3] ?_|refine gX ?_|(refine iK ?_;first|refine c1 i1 ?_|refine c1 i2 ?_|refine c1 i3 ?_)|refine stA ?_|refine stE ?_|fail)
 exact hq.out):p:=h ⟨hq⟩
theorem aT6 (h:KeptC q->p:=by
 intro hq
 (first|refine aK [0,1,2,6,7] ?_|refine eJ ?_|refine stA ?_|fail)
 exact hq.out):p:=h ⟨hq⟩
theorem dN7 (h:KeptC q->p:=by
 intro hq
 (first|refine fB [0,1,2] ?_|refine gX ?_|(refine iK ?_;first|refine c1 i1 ?_|refine c1 i2 ?_|refine c1 i3 ?_)|refine stA ?_|refine stE ?_|fail)
 exact hq.out):p:=h ⟨hq⟩
theorem bM0 (h:KeptC q->p:=by
 intro hq
 (first|refine aK [0,1,2] ?_|(refine dK ?_;refine c0 hv ?_)|refine stA ?_|fail)
 exact hq.out):p:=h ⟨hq⟩
theorem dN8 (h:KeptC q->p:=by
 intro hq
 (first|refine aK [0,2,3,4,5,6] ?_|((with_reducible refine aF ?_);refine aJ (a1) aE rfl zby rfl rfl rfl rfl zcv rfl ztp ?_)|refine stA ?_|fail)
 exact hq.out):p:=h ⟨hq⟩
theorem dN9 (h:KeptC q->p:=by
 intro hq
 (first|refine bE [0,1,3,4,6,7,8,9,10,11,12,13,60] ?_|(refine bZ ?_;refine c0 hrm ?_)|refine cH ?_|refine stA ?_|refine stD ?_|fail)
 exact hq.out):p:=h ⟨hq⟩
theorem dO0 (h:KeptC q->p:=by
 intro hq
 (first|refine fB [0,1,2,4,5] ?_|(refine iK ?_;first|refine c0 hva ?_|refine c0 hcl ?_|refine c1 hj ?_)|refine stA ?_|refine stE ?_|fail)
 exact hq.out):p:=h ⟨hq⟩
theorem zR (h:KeptC q->p:=by
 intro hq
 (first|refine aK [0,1,2] ?_|refine stA ?_|fail)
 exact hq.out):p:=h ⟨hq⟩
theorem dO1 (h:KeptC q->p:=by
 intro hq
 (first|refine fB [0,2,3,4] ?_|refine gX ?_|(refine iK ?_;refine c1 i2 ?_)|refine cZ3 ?_|refine stA ?_|refine stE ?_|fail)
 exact hq.out):p:=h ⟨hq⟩
theorem dO2 (h:KeptC q->p:=by
 intro hq
 (first|refine aK [0,1,2,4,5] ?_|(refine dK ?_;first|refine c0 hva ?_|refine c0 hcl ?_|refine c1 hj ?_)|refine stA ?_|fail)
 exact hq.out):p:=h ⟨hq⟩
theorem dO3 (h:KeptC q->p:=by
 intro hq
 (first|refine bE [0,2,3,4,5,7,8,9,10,11,12,54] ?_|(refine bZ ?_;refine c0 sX ?_)|refine stA ?_|refine stD ?_|fail)
 exact hq.out):p:=h ⟨hq⟩
theorem aM3 (h:KeptC q->p:=by
 intro hq
 (first|refine aK [0,1,4,5,6] ?_|refine eJ ?_|refine stA ?_|fail)
 exact hq.out):p:=h ⟨hq⟩
theorem aM4 (h:KeptC q->p:=by
 intro hq
 (first|refine aK [0,2,3,4,5] ?_|refine eJ ?_|refine stA ?_|fail)
 exact hq.out):p:=h ⟨hq⟩
theorem cC9 (h:KeptC q->p:=by
 intro hq
 (first|refine aK [0,1,2,3] ?_|(refine dK ?_;first|refine c0 hcl ?_|refine c1 i1 ?_|refine c1 i2 ?_)|refine stA ?_|fail)
 exact hq.out):p:=h ⟨hq⟩
theorem cD0 (h:KeptC q->p:=by
 intro hq
 (first|refine bE [0,1,3,4,5,6] ?_|(refine bZ ?_;refine c0 hle ?_)|refine eE ?_|refine stA ?_|refine stD ?_|fail)
 exact hq.out):p:=h ⟨hq⟩
theorem cD1 (h:KeptC q->p:=by
 intro hq
 (first|refine aK [0,2,3,4,5] ?_|(refine dK ?_;refine c0 hins ?_)|refine eJ ?_|refine jO ?_|refine stA ?_|fail)
 exact hq.out):p:=h ⟨hq⟩
theorem aM5 (h:KeptC q->p:=by
 intro hq
 (first|refine bE [0,2,3,4,5] ?_|refine stA ?_|refine stD ?_|fail)
 exact hq.out):p:=h ⟨hq⟩
theorem zL (h:KeptC q->p:=by
 intro hq
 (first|refine aK [0,2,3,4,5,6] ?_|refine stA ?_|fail)
 exact hq.out):p:=h ⟨hq⟩
theorem zM (h:KeptC q->p:=by
 intro hq
 (first|refine aK [0,1,4,5,6] ?_|refine stA ?_|fail)
 exact hq.out):p:=h ⟨hq⟩
theorem aM6 (h:KeptC q->p:=by
 intro hq
 (first|refine aK [0,1,4,6,7,8,9,10] ?_|refine stA ?_|fail)
 exact hq.out):p:=h ⟨hq⟩
theorem cD2 (h:KeptC q->p:=by
 intro hq
 (first|refine aK [0,1,2,3] ?_|(refine dK ?_;first|refine c0 hva ?_|refine c1 hj ?_)|refine stA ?_|fail)
 exact hq.out):p:=h ⟨hq⟩
end
theorem aG {A B p q:Prop} (_:A) (_:B) (hq:q) (h:KeptC q->p:=by
 intro hq
 (first|refine hK _ _ _ _ ?_|refine hX _ _ _ _ _ dW8 ?_|fail)
 exact hq.out):p:=h ⟨hq⟩
section
variable {p:Prop}
include p
theorem dW9 (h:p:=by first|((refine dW rfl ?_ ?_ rfl<;>(repeat' (first|exact cO|exact cP|refine cG rfl (by first|rfl|(first|exact congrArg (fun x=>AV.c (iv x)) aA|exact congrArg (AObj.row _) hs2)|exact zeq) rfl ?_|refine bD rfl (by first|rfl|(first|exact congrArg (fun x=>AV.c (iv x)) aA|exact congrArg (AObj.row _) hs2)|exact zeq) rfl ?_|refine bD rfl (by first|rfl|(first|exact congrArg (fun x=>AV.c (iv x)) aA|exact congrArg (AObj.row _) hs2)) dO ?_)))<;>fail)|fail):p:=h
theorem dX0 (h:p:=by first|((refine dW rfl ?_ ?_ rfl<;>(repeat' (first|exact cO|exact cP|refine cG rfl (by first|rfl|(first|exact congrArg (fun x=>AV.c (iv x)) aA|exact congrArg (AObj.row _) hL)|exact zeq) rfl ?_|refine bD rfl (by first|rfl|(first|exact congrArg (fun x=>AV.c (iv x)) aA|exact congrArg (AObj.row _) hL)|exact zeq) rfl ?_|refine bD rfl (by first|rfl|(first|exact congrArg (fun x=>AV.c (iv x)) aA|exact congrArg (AObj.row _) hL)) dO ?_)))<;>fail)|fail):p:=h
theorem dX1 (h:p:=by first|((refine dW rfl ?_ ?_ rfl<;>(repeat' (first|exact cO|exact cP|refine cG rfl (by first|rfl|(first|rfl|exact congrArg (fun x:Int=>AV.c (iv x)) aA)|exact zeq) rfl ?_|refine bD rfl (by first|rfl|(first|rfl|exact congrArg (fun x:Int=>AV.c (iv x)) aA)|exact zeq) rfl ?_|refine bD rfl (by first|rfl|(first|rfl|exact congrArg (fun x:Int=>AV.c (iv x)) aA)) dO ?_)))<;>fail)|fail):p:=h
theorem cZ4 (h:p:=by first|((refine dW rfl ?_ ?_ rfl<;>(repeat' (first|exact cO|exact cP|refine cG rfl (by first|rfl|(first|rfl|exact congrArg (AObj.row _) aP4)|exact zeq) rfl ?_|refine bD rfl (by first|rfl|(first|rfl|exact congrArg (AObj.row _) aP4)|exact zeq) rfl ?_|refine bD rfl (by first|rfl|(first|rfl|exact congrArg (AObj.row _) aP4)) dO ?_)))<;>fail)|fail):p:=h
theorem iC (h:p:=by first|((first|assumption|with_reducible exact gd1 fK|with_reducible exact gd2 fK|with_reducible exact gd3 fK|with_reducible exact gd4 fK|with_reducible rfl|rfl|((first|with_reducible refine gd1 ?_|with_reducible refine gd2 ?_|with_reducible refine gd3 ?_|with_reducible refine gd4 ?_);omega)|(simp only [*]<;>fail)|fail)<;>fail)|fail):p:=h
theorem dX2 (h:p:=by first|((refine dW rfl ?_ ?_ rfl<;>(repeat' (first|exact cO|exact cP|refine cG rfl (by first|rfl|(first|rfl|(rw [ho0,hD0];rfl))|exact zeq) rfl ?_|refine bD rfl (by first|rfl|(first|rfl|(rw [ho0,hD0];rfl))|exact zeq) rfl ?_|refine bD rfl (by first|rfl|(first|rfl|(rw [ho0,hD0];rfl))) dO ?_)))<;>fail)|fail):p:=h
theorem eF1 (h:p:=by first|((refine fW [0,1,2,6] rfl rfl ?_ ?_ rfl rfl<;>(repeat' (first|exact dT|exact dD|refine dJ rfl aH8 rfl ?_|refine cB rfl aH8 rfl ?_)))<;>fail)|fail):p:=h
theorem eF5 (h:p:=by first|((refine dW rfl ?_ ?_ rfl<;>(repeat' (first|exact cO|exact cP|refine cG rfl (by first|rfl|(first|rfl|(rw [hf0,hF0]))|exact zeq) rfl ?_|refine bD rfl (by first|rfl|(first|rfl|(rw [hf0,hF0]))|exact zeq) rfl ?_|refine bD rfl (by first|rfl|(first|rfl|(rw [hf0,hF0]))) dO ?_)))<;>fail)|fail):p:=h
theorem eQ5 (h:p:=by first|((refine dW rfl ?_ ?_ rfl<;>(repeat' (first|exact cO|exact cP|refine cG rfl (by first|rfl|(first|rfl|(rw [hos,hs]))|exact zeq) rfl ?_|refine bD rfl (by first|rfl|(first|rfl|(rw [hos,hs]))|exact zeq) rfl ?_|refine bD rfl (by first|rfl|(first|rfl|(rw [hos,hs]))) dO ?_)))<;>fail)|fail):p:=h
theorem dO4 (h:p:=by first|((refine fW [0,3] rfl rfl ?_ ?_ rfl rfl<;>(repeat' (first|exact dT|exact dD|refine dJ rfl (by first|rfl|(exact congrArg (AObj.row 5) (rY l x _ aA))|exact zeq) rfl ?_|refine cB rfl (by first|rfl|(exact congrArg (AObj.row 5) (rY l x _ aA))|exact zeq) rfl ?_)))<;>fail)|fail):p:=h
theorem dO5 (h:p:=by first|((refine fW [2] rfl rfl ?_ ?_ rfl rfl<;>(repeat' (first|exact dT|exact dD|refine dJ rfl (by first|rfl|(exact congrArg (AObj.row 5) (rY l x _ aA))|exact zeq) rfl ?_|refine cB rfl (by first|rfl|(exact congrArg (AObj.row 5) (rY l x _ aA))|exact zeq) rfl ?_)))<;>fail)|fail):p:=h
theorem dO6 (h:p:=by first|((refine fW [0,3] rfl rfl ?_ ?_ rfl rfl<;>(repeat' (first|exact dT|exact dD|refine dJ rfl (by first|rfl|(exact congrArg (AObj.row 5) (rX l x hlt))|exact zeq) rfl ?_|refine cB rfl (by first|rfl|(exact congrArg (AObj.row 5) (rX l x hlt))|exact zeq) rfl ?_)))<;>fail)|fail):p:=h
theorem cE7 (h:p:=by first|((refine fW [2] rfl rfl ?_ ?_ rfl rfl<;>(repeat' (first|exact dT|exact dD|refine dJ rfl (by first|rfl|(exact congrArg (AObj.row 5) (bI _ _).symm)|exact zeq) rfl ?_|refine cB rfl (by first|rfl|(exact congrArg (AObj.row 5) (bI _ _).symm)|exact zeq) rfl ?_)))<;>fail)|fail):p:=h
theorem cE8 (h:p:=by first|((refine dW rfl ?_ ?_ rfl<;>(repeat' (first|exact cO|exact cP|refine cG rfl (by first|rfl|(exact congrArg (AObj.row _) (aO0 S 32 i hlt))|exact zeq) rfl ?_|refine bD rfl (by first|rfl|(exact congrArg (AObj.row _) (aO0 S 32 i hlt))|exact zeq) rfl ?_)))<;>fail)|fail):p:=h
theorem bM2 (h:p:=by first|((refine fW [0,4] rfl rfl ?_ ?_ rfl rfl<;>(repeat' (first|exact dT|exact dD|refine dJ rfl (by first|rfl|(exact congrArg (AObj.row _) hsn)|exact zeq) rfl ?_|refine cB rfl (by first|rfl|(exact congrArg (AObj.row _) hsn)|exact zeq) rfl ?_)))<;>fail)|fail):p:=h
theorem dF (h:p:=by first|((refine dW rfl ?_ ?_ rfl<;>(repeat' (first|exact cO|exact cP|refine cG rfl xF rfl ?_|refine bD rfl xF rfl ?_|refine bD rfl (by first|rfl|(rfl)) dO ?_)))<;>fail)|fail):p:=h
theorem cE9 (h:p:=by first|((refine dW rfl ?_ ?_ rfl<;>(repeat' (first|exact cO|exact cP|refine cG rfl (by first|rfl|(rw [cH9 _ _ _ hlt];rfl)|exact zeq) rfl ?_|refine bD rfl (by first|rfl|(rw [cH9 _ _ _ hlt];rfl)|exact zeq) rfl ?_)))<;>fail)|fail):p:=h
theorem dO7 (h:p:=by first|((first|rfl|(first|rfl|exact congrArg (fun x:Nat=>AV.c (iv x)) (by rw [t1])|exact congrArg (fun x:Nat=>AV.c (iv x)) aA|exact congrArg (fun x:Int=>AV.c (iv x)) aA|exact congrArg (fun x=>AObj.row _ (vrc x)) t2.symm)|exact zeq)<;>fail)|fail):p:=h
theorem dO8 (h:p:=by first|((refine fW [0,3] rfl rfl ?_ ?_ rfl rfl<;>(repeat' (first|exact dT|exact dD|refine dJ rfl xF rfl ?_|refine cB rfl xF rfl ?_)))<;>fail)|fail):p:=h
theorem dO9 (h:p:=by first|((first|rfl|(first|exact congrArg (fun x:Nat=>AV.c (iv x)) (by rw [s1,hkl])|exact congrArg (fun x:Nat=>AV.c (iv x)) aA|exact congrArg (fun x=>AObj.row _ (vrc x)) (by rw [s2,hkr]))|exact zeq)<;>fail)|fail):p:=h
theorem bM3 (h:p:=by first|((first|((repeat' (first|exact flcl_nil|exact yI _|exact flcl_int _ _|exact tC _|exact bO0|assumption|refine flcl_app ?_ ?_|refine flcl_cons ?_ ?_|refine aO3 ?_))<;>fail)|fail)<;>fail)|fail):p:=h
theorem cF0 (h:p:=by first|((first|assumption|with_reducible exact gd1 fK|with_reducible exact gd2 fK|with_reducible exact gd3 fK|with_reducible exact gd4 fK|with_reducible rfl)<;>fail)|fail):p:=h
theorem jF (h:p:=by first|((first|(simp only [Int.reduceAdd,Int.reduceSub,Int.reduceMul];exact w64 aA aA)|exact w64 aA aA|exact wu64 aA aA|exact wu8 aA aA|rfl)<;>fail)|fail):p:=h
theorem cF2 (h:p:=by first|((first|rfl|((first|with_reducible refine gd1 ?_|with_reducible refine gd2 ?_|with_reducible refine gd3 ?_|with_reducible refine gd4 ?_);omega)|(simp only [*]<;>fail)|fail)<;>fail)|fail):p:=h
theorem dP0 (h:p:=by first|((first|rfl|(first|rfl|exact congrArg (fun x:Nat=>AV.c (iv x)) aA|exact congrArg (fun x:Int=>AV.c (iv x)) aA|exact congrArg (AObj.row _) hset)|exact zeq)<;>fail)|fail):p:=h
theorem aH6 (h:p:=by first|((first|first|exact lN hx (Aq _)|exact lN hy (Aq _)|exact lN hx aA|exact lN hy aA|exact tL (by first|rfl|omega)|rfl)<;>fail)|fail):p:=h
theorem dP1 (h:p:=by first|((first|rfl|(first|rfl|exact congrArg (fun x=>AV.own 0 0 x 3 true) ho0.symm|exact congrArg (fun x=>AObj.row _ (vrc x)) hD0.symm)|exact zeq)<;>fail)|fail):p:=h
theorem dP2 (h:p:=by first|((first|rfl|(first|rfl|exact congrArg (fun x=>AV.own 0 0 x 3 true) hso.symm|exact congrArg (fun x=>AObj.row _ (vrc x)) hs.symm)|exact zeq)<;>fail)|fail):p:=h
theorem dP3 (h:p:=by first|((first|rfl|exact cO4 rfl rfl aA|exact cM0 aA|(simp<;>fail)|(congr 4;omega)|(congr 3;omega)|(congr 2;omega))<;>fail)|fail):p:=h
theorem dP4 (h:p:=by first|((first|rfl|(first|rfl|exact congrArg (fun x=>AV.own 2 0 x 3 true) hso.symm|exact congrArg (AObj.row _) hsc)|exact zeq)<;>fail)|fail):p:=h
theorem sT (h:p:=by first|((repeat' (first|exact dD|refine cB rfl rfl rfl ?_|refine cB rfl setT_mp dO ?_))<;>fail)|fail):p:=h
theorem dP5 (h:p:=by first|((first|rfl|(first|rfl|exact congrArg (AObj.row _) hg0.symm|exact congrArg (AObj.row _) hg0)|exact zeq)<;>fail)|fail):p:=h
theorem aH7 (h:p:=by first|((first|exact q64 aA aA aA|exact qu8 aA aA aA|rfl)<;>fail)|fail):p:=h
theorem dP6 (h:p:=by first|((first|rfl|(first|rfl|exact congrArg (fun x:Nat=>AV.c (iv x)) hD0.symm)|exact zeq)<;>fail)|fail):p:=h
theorem aT9 (h:p:=by first|((first|exact mM _ _ aA|exact eB2 _ aA|exact eB3 _ aA)<;>fail)|fail):p:=h
theorem aH8 (h:p:=by first|((first|rfl|(first|rfl|exact congrArg (AObj.row _) (by simpa using hsn))|exact zeq)<;>fail)|fail):p:=h
theorem cF3 (h:p:=by first|((first|assumption|exact Bi aA|(simp only [*]<;>fail)|fail)<;>fail)|fail):p:=h
theorem cF4 (h:p:=by first|((first|assumption|exact AP aA|(simp only [*]<;>fail)|fail)<;>fail)|fail):p:=h
theorem dP7 (h:p:=by first|((first|rfl|(exact congrArg (AObj.row 5) (cA0 l i aA))|exact zeq)<;>fail)|fail):p:=h
theorem dP8 (h:p:=by first|((first|rfl|(exact congrArg (fun l=>AObj.tab (aI ktV.kc l)) hst)|exact zeq)<;>fail)|fail):p:=h
theorem dP9 (h:p:=by first|((first|rfl|(exact congrArg (fun l=>AObj.tab (aI ktS.kc l)) hst)|exact zeq)<;>fail)|fail):p:=h
theorem dQ0 (h:p:=by first|((first|exact hfit|exact A7 rfl|omega|(simp<;>omega))<;>fail)|fail):p:=h
theorem dQ1 (h:p:=by first|((first|rfl|(exact congrArg (AObj.row 28) (aO0 S 32 i hlt))|exact zeq)<;>fail)|fail):p:=h
theorem dQ2 (h:p:=by first|((first|rfl|(exact congrArg (AObj.row _) (cU3 l i h0 hlt))|exact zeq)<;>fail)|fail):p:=h
theorem cF5 (h:p:=by first|((first|exact dU cR|exact dU gM|exact gP rfl rfl zln)<;>fail)|fail):p:=h
theorem dQ3 (h:p:=by first|((first|rfl|(exact congrArg (AObj.row 5) (cO2 S k i hlt))|exact zeq)<;>fail)|fail):p:=h
theorem dQ4 (h:p:=by first|((rw [sE (m:=frA.length) (k:=0) rfl rfl aA aN];simp)<;>fail)|fail):p:=h
theorem aU0 (h:p:=by first|((first|omega|exact A7 rfl|omega|(simp<;>omega))<;>fail)|fail):p:=h
theorem dQ5 (h:p:=by first|((first|rfl|(exact congrArg (AObj.row 5) (by simp [u8c]))|exact zeq)<;>fail)|fail):p:=h
theorem aH9 (h:p:=by first|((first|(simp only [Int.reduceTMod];rfl)|exact r64 aA|rfl)<;>fail)|fail):p:=h
theorem dQ6 (h:p:=by first|((first|rfl|(exact congrArg (AObj.row 5) (cP1 l k))|exact zeq)<;>fail)|fail):p:=h
theorem dQ7 (h:p:=by first|((first|rfl|(rw [show 8*k+8=8*(k+1) by omega])|exact zeq)<;>fail)|fail):p:=h
theorem aI0 (h:p:=by first|((first|rfl|exact eQ0 fK|(simp<;>fail)|fail)<;>fail)|fail):p:=h
theorem dQ8 (h:p:=by first|((first|rfl|with_reducible assumption|omega|(simp;omega))<;>fail)|fail):p:=h
theorem dQ9 (h:p:=by first|((first|exact A7 rfl|omega|(simp;omega))<;>fail)|fail):p:=h
theorem dR0 (h:p:=by first|((first|rfl|(exact dI6 l n k hl aA)|exact zeq)<;>fail)|fail):p:=h
theorem xC (h:p:=by first|((first|exact dU9|exact src_nil|exact cU6 rfl zln)<;>fail)|fail):p:=h
theorem nA (h:p:=by first|((first|(simp only [maxLen];omega)|(simp [maxLen];omega))<;>fail)|fail):p:=h
theorem tT (h:p:=by first|((first|fail|exact tL (by first|rfl|omega)|rfl)<;>fail)|fail):p:=h
theorem nW (h:p:=by first|((first|exact IsAgg.closed rfl rfl|exact IsAgg.mixed _)<;>fail)|fail):p:=h
theorem cF6 (h:p:=by first|((first|exact size_mk fK|assumption|rfl)<;>fail)|fail):p:=h
theorem eF0 (h:p:=by first|((first|exact hres|exact congrArg bv hb.symm|rw [hb])<;>fail)|fail):p:=h
theorem cF7 (h:p:=by first|((rw [AY,Ad aA])<;>fail)|fail):p:=h
theorem pR (h:p:=by first|((first|exact fO|exact eK cR fO)<;>fail)|fail):p:=h
theorem qO (h:p:=by first|((first|exact Parts.mixed _|exact Parts.closed _)<;>fail)|fail):p:=h
theorem tU (h:p:=by first|((first|exact aE|exact (cI rfl rfl zgb))<;>fail)|fail):p:=h
theorem cF8 (h:p:=by first|((first|exact w64 aA aA|rfl)<;>fail)|fail):p:=h
theorem cF9 (h:p:=by first|((first|exact toList_mk _|assumption|rfl)<;>fail)|fail):p:=h
theorem dG (h:p:=by first|((first|exact nD|exact dE7 rfl)<;>fail)|fail):p:=h
theorem cG0 (h:p:=by first|((rw [A0,hlisted];exact b4)<;>fail)|fail):p:=h
theorem aU1 (h:p:=by first|((rw [<- h];exact Af hxt)<;>fail)|fail):p:=h
theorem bM4 (h:p:=by exact ⟨cQ1,bH0,trivial⟩):p:=h
theorem bM5 (h:p:=by exact ⟨cQ0,bG9,trivial⟩):p:=h
theorem eF2 (h:p:=by exact ⟨cP3,bG4,trivial⟩):p:=h
theorem cG1 (h:p:=by exact ⟨cB2,bD2,trivial⟩):p:=h
theorem cG2 (h:p:=by first|((first|rfl|(simp<;>fail)|fail)<;>fail)|fail):p:=h
theorem tV (h:p:=by first|((rw [yY hx,BT];rfl)<;>fail)|fail):p:=h
theorem eF3 (h:p:=by exact ⟨cX6,bS7,trivial⟩):p:=h
theorem eF4 (h:p:=by exact ⟨dJ2,bZ8,trivial⟩):p:=h
theorem eF6 (h:p:=by exact ⟨dB0,bV7,trivial⟩):p:=h
theorem eF7 (h:p:=by exact ⟨cZ7,bU7,trivial⟩):p:=h
theorem eF8 (h:p:=by exact ⟨dH2,bY2,trivial⟩):p:=h
theorem aU2 (h:p:=by first|((rw [List.all_append,eE4];rfl)<;>fail)|fail):p:=h
theorem bM6 (h:p:=by first|((simp only [maxLen] at h63;omega)<;>fail)|fail):p:=h
theorem pS (h:p:=by first|((simp [Act.eval,Array.replicate])<;>fail)|fail):p:=h
theorem cG3 (h:p:=by first|((rw [hus.length,hcl,hszt,hs'])<;>fail)|fail):p:=h
theorem xF (h:p:=by first|((first|rfl|(rfl)|exact zeq)<;>fail)|fail):p:=h
theorem cG4 (h:p:=by first|((rw [Aa];omega)<;>fail)|fail):p:=h
theorem kE (h:p:=by first|((rw [As];omega)<;>fail)|fail):p:=h
theorem aI1 (h:p:=by first|((rw [A0];omega)<;>fail)|fail):p:=h
theorem aU3 (h:p:=by exact eE3 l i aA):p:=h
theorem aI2 (h:p:=by first|((rw [<- e1 id hid];exact hH)<;>fail)|fail):p:=h
theorem bM7 (h:p:=by first|((rw [<- e1 id' k2];exact k4)<;>fail)|fail):p:=h
theorem bM8 (h:p:=by first|((rw [<- hH id hid];exact hh)<;>fail)|fail):p:=h
theorem sU (h:p:=by exact dV0 l i aA):p:=h
theorem bM9 (h:p:=by first|((rw [<- e1 id k1];exact k3)<;>fail)|fail):p:=h
theorem bN0 (h:p:=by first|((rw [<- e1 id k1];exact k2)<;>fail)|fail):p:=h
theorem aA4 (h:p:=by first|((simp only [maxLen];omega)<;>fail)|fail):p:=h
theorem dR1 (h:p:=by first|((rw [e1 id hid];exact hH)<;>fail)|fail):p:=h
theorem mG (h:p:=by first|((rw [Tryz.ntmps258];rfl)<;>fail)|fail):p:=h
theorem mH (h:p:=by first|((rw [Tryz.ntmps255];rfl)<;>fail)|fail):p:=h
theorem vC (h:p:=by first|((rw [Tryz.ntmps144];rfl)<;>fail)|fail):p:=h
theorem mI (h:p:=by first|((rw [Tryz.ntmps216];rfl)<;>fail)|fail):p:=h
theorem aN0 (h:p:=by first|((rw [Tryz.ntmps175];rfl)<;>fail)|fail):p:=h
theorem aN1 (h:p:=by first|((rw [Tryz.ntmps225];rfl)<;>fail)|fail):p:=h
theorem aN2 (h:p:=by first|((rw [Tryz.ntmps227];rfl)<;>fail)|fail):p:=h
theorem vD (h:p:=by first|((rw [Tryz.ntmps146];rfl)<;>fail)|fail):p:=h
theorem zU (h:p:=by first|((rw [Tryz.ntmps183];rfl)<;>fail)|fail):p:=h
theorem gI (h:p:=by first|((rw [Tryz.ntmps134];rfl)<;>fail)|fail):p:=h
theorem zV (h:p:=by first|((rw [Tryz.ntmps222];rfl)<;>fail)|fail):p:=h
theorem mJ (h:p:=by first|((rw [Tryz.ntmps121];rfl)<;>fail)|fail):p:=h
theorem aN3 (h:p:=by first|((rw [Tryz.ntmps100];rfl)<;>fail)|fail):p:=h
theorem vE (h:p:=by first|((simpa [rI] using k)<;>fail)|fail):p:=h
theorem lG (h:p:=by first|((first|omega|decide)<;>fail)|fail):p:=h
theorem vF (h:p:=by first|((rw [Tryz.ntmps84];rfl)<;>fail)|fail):p:=h
theorem aN4 (h:p:=by first|((rw [Tryz.ntmps85];rfl)<;>fail)|fail):p:=h
theorem mK (h:p:=by first|((rw [Tryz.ntmps26];rfl)<;>fail)|fail):p:=h
theorem zW (h:p:=by exact eA6 _ _ _ hlt):p:=h
theorem tA (h:p:=by first|((rw [Tryz.ntmps61];rfl)<;>fail)|fail):p:=h
theorem nL (h:p:=by first|((rw [Tryz.ntmps67];rfl)<;>fail)|fail):p:=h
theorem vG (h:p:=by first|((rw [Tryz.ntmps66];rfl)<;>fail)|fail):p:=h
theorem zX (h:p:=by first|((rw [Tryz.ntmps63];rfl)<;>fail)|fail):p:=h
theorem nM (h:p:=by first|((rw [Tryz.ntmps27];rfl)<;>fail)|fail):p:=h
theorem qJ (h:p:=by first|((rw [Tryz.ntmps62];rfl)<;>fail)|fail):p:=h
theorem vH (h:p:=by first|((rw [Tryz.ntmps21];rfl)<;>fail)|fail):p:=h
theorem zY (h:p:=by first|((rw [Tryz.ntmps80];rfl)<;>fail)|fail):p:=h
theorem zZ (h:p:=by first|((rw [Tryz.ntmps74];rfl)<;>fail)|fail):p:=h
theorem vI (h:p:=by first|((rw [Tryz.ntmps24];rfl)<;>fail)|fail):p:=h
theorem qK (h:p:=by first|((rw [Tryz.ntmps64];rfl)<;>fail)|fail):p:=h
theorem vJ (h:p:=by first|((rw [Tryz.ntmps97];rfl)<;>fail)|fail):p:=h
theorem aA0 (h:p:=by first|((rw [Tryz.ntmps98];rfl)<;>fail)|fail):p:=h
theorem aA1 (h:p:=by first|((rw [Tryz.ntmps96];rfl)<;>fail)|fail):p:=h
theorem vK (h:p:=by first|((rw [Tryz.ntmps34];rfl)<;>fail)|fail):p:=h
theorem aN5 (h:p:=by first|((unfold okP;simp [t0])<;>fail)|fail):p:=h
theorem aN6 (h:p:=by first|((unfold okP;simp [n0])<;>fail)|fail):p:=h
theorem aN7 (h:p:=by first|((rw [Tryz.ntmps7];rfl)<;>fail)|fail):p:=h
theorem aN8 (h:p:=by first|((rw [<- e3];exact hw')<;>fail)|fail):p:=h
theorem jD (h:p:=by first|((have:=h.sz;omega)<;>fail)|fail):p:=h
theorem jP (h:p:=by first|((first|rfl|fail)<;>fail)|fail):p:=h
theorem lH (h:p:=by first|((dsimp only;omega)<;>fail)|fail):p:=h
theorem aA2 (h:p:=by first|((simp only;omega)<;>fail)|fail):p:=h
theorem aA3 (h:p:=by first|((simpa using hlt)<;>fail)|fail):p:=h
theorem jQ (h:p:=by first|((rw [<- hw1];rfl)<;>fail)|fail):p:=h
theorem qM (h:p:=by first|((simpa using hm')<;>fail)|fail):p:=h
theorem fY (h:p:=by first|((simpa using hl)<;>fail)|fail):p:=h
theorem vL (h:p:=by first|((simpa using hj)<;>fail)|fail):p:=h
theorem vM (h:p:=by first|((simpa using hi)<;>fail)|fail):p:=h
theorem vO (h:p:=by first|((simpa using ha)<;>fail)|fail):p:=h
theorem vP (h:p:=by first|((simpa using hx)<;>fail)|fail):p:=h
theorem oW (h:p:=by first|((simpa using h)<;>fail)|fail):p:=h
theorem fU (h:p:=by first|((simp;omega)<;>fail)|fail):p:=h
theorem kL (h:p:=by first|((rw [hX,hj])<;>fail)|fail):p:=h
theorem fK (h:p:=by assumption):p:=h
theorem aV (h:p:=by kernel_rfl):p:=h
theorem oX (h:p:=by first|((simp [lt])<;>fail)|fail):p:=h
theorem eS (h:p:=by first|((cases h)<;>fail)|fail):p:=h
theorem aN (h:p:=by decide):p:=h
theorem aA (h:p:=by omega):p:=h
theorem aU (h:p:=by first|((simp)<;>fail)|fail):p:=h
theorem eT (h:p:=by rfl):p:=h
theorem nX (h:p:=by exact ⟨k1,g,k2.trans hg,hu⟩):p:=h
theorem cG9 (h:p:=by exact .inl ⟨h1,h2,k2.trans h3,h4⟩):p:=h
theorem eF9 (h:p:=by refine Cy C5 ⟨fun hk id o hid hH=>hk id o hid dR1,fun hk id o hid hH=>hk id o hid aI2⟩):p:=h
theorem cH1 (h:p:=by exact hK' _ _ (next B _ _ ⟨M,k1,c2,fun t av ht=>Rep.ext k2 _ _ (c3 t av ht),c4.ext k2⟩)):p:=h
theorem eG0 (h:p:=by exact ⟨none,0,us,by rw [h4,h1],by omega,by simp [maxLen],hl,hus,hon,fun hn=>absurd hn aA⟩):p:=h
theorem eG1 (h:p:=by exact ⟨A,cp,us,h3,by omega,h4,hl,hus,hon,fun hn=>absurd hn aA⟩):p:=h
theorem eG2 (h:p:=by exact RepC.mono (fun b hb hl=>⟨⟨.inl hb,fun id o hid=>absurd hid oX⟩,hl,rfl⟩) _ _ hru):p:=h
theorem cZ5 (h:p:=by exact ((Below.refl _ _).drew).alloc (Ah _) _):p:=h
theorem dX3 (h:p:=by exact c1.inj q q' o o' g p1 r1 p3 r3 h6 h7):p:=h
theorem bN1 (h:p:=by exact .inl ⟨j+1,oj,by omega,by simpa using h2,h3,by simpa using h4⟩):p:=h
theorem bN2 (h:p:=by exact .inl ⟨0,o,by omega,rfl,by rw [hd,hdt],rfl⟩):p:=h
theorem cG5 (h:p:=by exact c4 t av h1 (fun j o' hj _=>hno j o' hj)):p:=h
theorem cG6 (h:p:=by exact ⟨M,hg.1,c2,fun t av ht=>Rep.ext hg.2 _ _ (c3 t av ht),c4.ext hg.2⟩):p:=h
theorem cG7 (h:p:=by exact ⟨j,AA.1 hj,by simpa using hp⟩):p:=h
theorem cG8 (h:p:=by exact tail_waits b3.1 b3.2 fU hinv _ j0 rfl hj0 (getD_in (hsize j0 hj0) hu0) i h hi):p:=h
theorem dR2 (h:p:=by exact (h1.obj _ _ (hn' id hid) (hH id o hH').1).lessR hls rfl (hH id o hH').2):p:=h
theorem dR3 (h:p:=by exact Cy C5 ⟨fun hk id o hid hH=>hk id o hid dR1,fun hk id o hid hH=>hk id o hid aI2⟩):p:=h
theorem dR4 (h:p:=by exact h5.ext hext (fun b hb=>e5 b (h5.lt b hb) (fun he=>h3 (c1.inj q id o _ b h1 hid h4 hoH hb he)))):p:=h
theorem aU5 (h:p:=by exact hK' undef _ M k2 k1 trivial):p:=h
theorem aU6 (h:p:=by exact .inr (.inl (At hc.fr.size h1))):p:=h
theorem cH0 (h:p:=by exact hK v w' M (g2.trans k2) k1 (RepC.mono hmon _ _ hv)):p:=h
theorem kF (h:p:=by refine dH5 zio ztr rfl rfl rfl rfl zln (ResL.one (ResA.tmp rfl))):p:=h
theorem aY (h:p:=by refine cV zio ztr rfl (ResL.one (ResA.tmp rfl)) zou):p:=h
theorem mL (h:p:=by refine cV zio ztr rfl (ResL.one zrs) zou):p:=h
theorem dS (h:p:=by exact ⟨i+1,by omega,by omega,dF⟩):p:=h
theorem aI3 (h:p:=by refine cV zio ztr rfl (ResL.one (ResA.tmp rfl)) (aK0 (fZ (gP rfl rfl hrl) (jG aA hRm)))):p:=h
theorem bN3 (h:p:=by exact ⟨i+1,by omega,by omega,eQ5⟩):p:=h
theorem dR (h:p:=by refine yP zio ztr rfl rfl (ResL.one (ResA.tmp rfl)) (aQ0 zfz rfl rfl)):p:=h
theorem fH (h:p:=by refine yP zio ztr rfl rfl (ResL.one zrs) (aQ0 zfz rfl rfl)):p:=h
theorem dR5 (h:p:=by refine yP zio ztr rfl rfl (ResL.one zrs) (aQ0 (dU hcv) rfl rfl)):p:=h
theorem dR6 (h:p:=by refine yP zio ztr rfl rfl (ResL.one zrs) (aQ0 (dU (mN hcvl)) rfl rfl)):p:=h
theorem dR7 (h:p:=by refine cV zio ztr rfl (ResL.three (ResA.tmp rfl) (ResA.tmp rfl) (ResA.tmp rfl)) (iM (aX zfz (aX zfz (aX zfz cS))))):p:=h
theorem dR8 (h:p:=by refine cV zio ztr rfl (ResL.three zrs (ResA.tmp rfl) (ResA.tmp rfl)) (iM (aX zfz (aX zfz (aX zfz cS))))):p:=h
theorem aA6 (h:p:=by refine bQ6 zio ztr rfl (ResF.mk zrs zrs (ResA.tmp rfl) (ResA.tmp rfl)) (iM (aX zfz (aX zfz (aX zfz (aX zfz cS)))))):p:=h
theorem gT (h:p:=by refine cV zio ztr rfl (ResL.two zrs (ResA.tmp rfl)) (iM (aX zfz (aX zfz cS)))):p:=h
theorem aU7 (h:p:=by refine bQ7 zio ztr rfl rfl rfl sT rfl ResL.none (cL6)):p:=h
theorem eR (h:p:=by refine bQ7 zio ztr rfl rfl rfl sT rfl (ResL.one (ResA.tmp rfl)) (zfz)):p:=h
theorem aU8 (h:p:=by exact ⟨hm,fun u h=>absurd h aA⟩):p:=h
theorem aU9 (h:p:=by refine cV zio ztr rfl (ResL.one (ResA.tmp rfl)) (aK0 (fZ (dU cR) (pT eF0)))):p:=h
theorem bN4 (h:p:=by refine cV zio eF2 rfl (ResL.three zrs zrs zrs) (iM (aX (fZ (gP rfl rfl hll) (jG e4 e5)) (aX (fZ (dU cR) (pT e6)) (aX (fZ (dU cR) (pT e7)) cS))))):p:=h
theorem aI4 (h:p:=by refine cV zio eF3 rfl (ResL.two zrs zrs) (iM (aX zfz (aX zfz cS)))):p:=h
theorem aV0 (h:p:=by refine cV zio eF4 rfl (ResL.two zrs zrs) (iM (aX zfz (aX zfz cS)))):p:=h
theorem cH2 (h:p:=by refine cV zio eF6 rfl (ResL.two zrs zrs) (iM (aX zfz (aX zfz cS)))):p:=h
theorem dR9 (h:p:=by refine cV zio (by exact ⟨cZ6,bU6,trivial⟩) rfl (ResL.two zrs zrs) (iM (aX zfz (aX zfz cS)))):p:=h
theorem aV1 (h:p:=by refine cV zio eF7 rfl (ResL.two zrs zrs) (iM (aX zfz (aX zfz cS)))):p:=h
theorem cH3 (h:p:=by refine cV zio eF8 rfl (ResL.two zrs zrs) (iM (aX zfz (aX zfz cS)))):p:=h
theorem cH4 (h:p:=by refine cV zio cG1 rfl (ResL.two zrs zrs) (iM (aX (dU (mN aP5)) (aX (dU cR) cS)))):p:=h
theorem dS0 (h:p:=by refine cV zio cG1 rfl (ResL.two zrs zrs) (iM (aX zfz (aX zfz cS)))):p:=h
theorem dS1 (h:p:=by refine bQ8 zio ztr rfl rfl rfl rfl (Ad aA) (ResL.one (ResA.tmp rfl))):p:=h
theorem xG (h:p:=by refine bQ6 zio ztr rfl (ResF.mk zrs (ResA.tmp rfl) zrs (ResA.tmp rfl)) (iM (aX zfz (aX zfz (aX zfz (aX zfz cS)))))):p:=h
theorem cH5 (h:p:=by refine cV zio ztr rfl (ResL.three (ResA.tmp rfl) (ResA.tmp rfl) zrs) (iM (aX (fZ (gP rfl rfl hll) (jG e4 e5)) (aX (fZ (dU cR) (pT e6)) (aX (fZ (dU cR) (pT e7)) cS))))):p:=h
theorem cH6 (h:p:=by refine cV zio ztr rfl (ResL.two (ResA.tmp rfl) (ResA.tmp rfl)) (iM (aX zfz (aX zfz cS)))):p:=h
theorem aV2 (h:p:=by refine cV zio ztr rfl (ResL.two zrs (ResA.tmp rfl)) (iM (aX (dU (mN aP5)) (aX (dU cR) cS)))):p:=h
end
end Go
namespace Go.Av
open Go Go.RowKit
section
inductive CV where
 | v (x:Value)
 | sl (size n:Nat) (cs:List CV)
 | agg (cs:List CV)
mutual
def RepC (ok : Nat -> Prop) (w : World) : CV -> Value -> Prop
  | .v x, u => u = x
  | .sl size n cs, u => ∃ A c us, u = .slice A n c /\ n <= c /\ c <= maxLen /\ cs.length = n * size /\ RepCs ok w cs us /\ (∀ u ∈ us, u.oneCell' = true) /\
      (0 < n -> ∃ b o, A = some ⟨b, o, none⟩ /\ ok b /\ b < w.heap.size /\ ∀ j x, us[j]? = some x -> w.cell? ⟨b, o + j, none⟩ = some x)
  | .agg cs, u => ∃ us, u = .agg us.toArray /\ RepCs ok w cs us /\ ∀ u ∈ us, u.oneCell' = true
def RepCs (ok:Nat->Prop) (w:World):List CV->List Value->Prop
 | [],us=>us=[]
 | c::cs,us=>∃u us',us=u::us'/\RepC ok w c u/\RepCs ok w cs us'
end
def kW (ok ok':Nat->Prop) (w w':World):Prop:=∀b,ok b->b<w.heap.size->ok' b/\b<w'.heap.size/\w'.heap[b]? = w.heap[b]?
mutual
theorem RepC.mono {ok ok':Nat->Prop} {w w':World} (h:kW ok ok' w w'):∀(c:CV) (u:Value),RepC ok w c u->RepC ok' w' c u
 | .v x,u,hu=>by simpa [RepC] using hu
 | .sl size n cs,u,hu=>by
  simp only [RepC] at hu ⊢
  obtain ⟨A,c,us,h1,h2,h3,h4,h5,h7,h6⟩:=hu
  refine ⟨A,c,us,h1,h2,h3,h4,RepCs.mono h cs us h5,h7,fun hn=>?_⟩
  obtain ⟨b,o,e,hb,hlt,hc⟩:=h6 hn
  obtain ⟨k1,k2,k3⟩:=h b hb hlt
  exact ⟨b,o,e,k1,k2,fun j x hx=>by rw [World.cell?_of_block (w:=w) k3];exact hc j x hx⟩
 | .agg cs,u,hu=>by
  simp only [RepC] at hu ⊢
  obtain ⟨us,h1,h2,h3⟩:=hu
  exact ⟨us,h1,RepCs.mono h cs us h2,h3⟩
theorem RepCs.mono {ok ok':Nat->Prop} {w w':World} (h:kW ok ok' w w'):∀(cs:List CV) (us:List Value),RepCs ok w cs us->RepCs ok' w' cs us
 | [],us,hu=>by simpa [RepCs] using hu
 | c::cs,us,hu=>by
  simp only [RepCs] at hu ⊢
  obtain ⟨u,us',h1,h2,h3⟩:=hu
  exact ⟨u,us',h1,RepC.mono h c u h2,RepCs.mono h cs us' h3⟩
end
section RepCs
variable {ok:Nat->Prop} {w:World}
theorem RepCs.length:∀{cs:List CV} {us:List Value},RepCs ok w cs us->us.length=cs.length
 | [],us,h=>by simp only [RepCs] at h;subst h;rfl
 | c::cs,us,h=>by
  simp only [RepCs] at h
  obtain ⟨u,us',rfl,_,h3⟩:=h
  simp [RepCs.length h3]
theorem RepCs.get:∀{cs:List CV} {us:List Value},RepCs ok w cs us->∀{j:Nat} {c:CV},cs[j]? = some c->∃u,us[j]? = some u/\RepC ok w c u
 | [],us,h,j,c,hc=>by simp at hc
 | c::cs,us,h,j,c',hc=>by
  simp only [RepCs] at h
  obtain ⟨u,us',rfl,h2,h3⟩:=h
  cases j with
  | zero=>simp at hc;subst hc;exact ⟨u,rfl,h2⟩
  | succ j=>simpa using RepCs.get h3 (by simpa using hc)
theorem RepCs.append:∀{cs ds:List CV} {us vs:List Value},RepCs ok w cs us->RepCs ok w ds vs->RepCs ok w (cs++ds) (us++vs)
 | [],ds,us,vs,h,k=>by simp only [RepCs] at h;subst h;simpa using k
 | c::cs,ds,us,vs,h,k=>by
  simp only [RepCs] at h
  obtain ⟨u,us',rfl,h2,h3⟩:=h
  exact ⟨u,us'++vs,rfl,h2,RepCs.append h3 k⟩
theorem RepCs.take:∀(n:Nat) {cs:List CV} {us:List Value},RepCs ok w cs us->RepCs ok w (cs.take n) (us.take n)
 | 0,cs,us,h=>by simp [RepCs]
 | n+1,[],us,h=>by simp only [RepCs] at h;subst h;simp [RepCs]
 | n+1,c::cs,us,h=>by
  simp only [RepCs] at h
  obtain ⟨u,us',rfl,h2,h3⟩:=h
  simp only [BH,RepCs]
  exact ⟨u,us'.take n,rfl,h2,RepCs.take n h3⟩
theorem RepCs.drop:∀(n:Nat) {cs:List CV} {us:List Value},RepCs ok w cs us->RepCs ok w (cs.drop n) (us.drop n)
 | 0,cs,us,h=>by simpa using h
 | n+1,[],us,h=>by simp only [RepCs] at h;subst h;simp [RepCs]
 | n+1,c::cs,us,h=>by
  simp only [RepCs] at h
  obtain ⟨u,us',rfl,h2,h3⟩:=h
  simpa using RepCs.drop n h3
theorem RepCs.set:∀{cs:List CV} {us:List Value},RepCs ok w cs us->∀(j:Nat) {c:CV} {u:Value},RepC ok w c u->RepCs ok w (cs.set j c) (us.set j u)
 | [],us,h,j,c,u,k=>by simp only [RepCs] at h;subst h;simp [RepCs]
 | c::cs,us,h,j,c',u',k=>by
  simp only [RepCs] at h
  obtain ⟨u,us',rfl,h2,h3⟩:=h
  cases j with
  | zero=>exact ⟨u',us',rfl,k,h3⟩
  | succ j=>exact ⟨u,us'.set j u',rfl,h2,RepCs.set h3 j k⟩
theorem RepCs.plain (vs:List Value):RepCs ok w (vs.map CV.v) vs:=by
 induction vs with
 | nil=>simp [RepCs]
 | cons v vs ih=>exact ⟨v,vs,rfl,rfl,ih⟩
theorem RepCs.of_plain {vs us:List Value} (h:RepCs ok w (vs.map CV.v) us):us=vs:=by
 induction vs generalizing us with
 | nil=>simpa [RepCs] using h
 | cons v vs ih =>
  simp only [AH,RepCs,RepC] at h
  obtain ⟨u,us',rfl,rfl,h3⟩:=h
  rw [ih h3]
end RepCs
def CV.one:CV->Bool
 | .v x=>x.oneCell'
 | .sl .. => true
 | .agg _=>false
theorem RepC.one {ok:Nat->Prop} {w:World} {c:CV} {u:Value} (h:RepC ok w c u) (h1:c.one=true):u.oneCell'=true/\u.cells = #[u]:=by
 cases c with
 | v x =>
  simp only [RepC] at h
  subst h
  simp only [CV.one] at h1
  refine ⟨h1,?_⟩
  cases u<;>simp_all [Value.oneCell',Value.cells]
 | sl size n cs =>
  simp only [RepC] at h
  obtain ⟨A,c,us,rfl,_⟩:=h
  exact ⟨rfl,rfl⟩
 | agg cs=>cases h1
theorem RepCs.one {ok:Nat->Prop} {w:World}:∀{cs:List CV} {us:List Value},RepCs ok w cs us->(∀c∈cs,c.one=true)->∀u∈us,u.oneCell'=true
 | [],us,h,_,u,hu=>by simp only [RepCs] at h;subst h;simp at hu
 | c::cs,us,h,h1,u,hu=>by
  simp only [RepCs] at h
  obtain ⟨u',us',rfl,h2,h3⟩:=h
  rcases A6.1 hu with rfl|hu
  ·exact (h2.one (h1 c aU)).1
  ·exact RepCs.one h3 (fun c hc=>h1 c (by simp [hc])) u hu
inductive AV where
 | c (x:CV)
 | ref (id off:Nat)
 | own (id off n size:Nat) (full:Bool)
 | ip (cs:List CV) (off:Nat)
 | agg (xs:List AV)
 | tup (xs:List AV)
 | fn (f:FuncId) (caps:List AV)
 | yld (id:Nat)
 | mh (id:Nat)
 | bm (f:FuncId) (id:Nat)
 | junk
structure Cx where
 dom:Nat->Prop
 M:Nat->Option Nat
 ok:Nat->Prop
 w:World
mutual
def Rep (C : Cx) : AV -> Value -> Prop
  | .c x, u => RepC C.ok C.w x u
  | .ref id off, u => C.dom id /\ ∃ g, C.M id = some g /\ u = .pointer (some ⟨g, off, none⟩)
  | .own id off n size full, u => C.dom id /\ ((n = 0 /\ off = 0 /\ C.M id = none /\ u = .slice none 0 0) \/
      (∃ g cp, C.M id = some g /\ u = .slice (some ⟨g, off, none⟩) n cp /\ n <= cp /\ cp <= maxLen /\ (full = true -> ∃ e, C.w.shape? g = some (e, off + cp * size))) \/
      (n = 0 /\ full = false /\ ∃ A cp, u = .slice A 0 cp /\ cp <= maxLen))
  | .ip cs off, u => ∃ b o us, u = .pointer (some ⟨b, o + off, none⟩) /\ C.ok b /\ b < C.w.heap.size /\ RepCs C.ok C.w cs us /\ (∀ u ∈ us, u.oneCell' = true) /\ ∀ j x, us[j]? = some x -> C.w.cell? ⟨b, o + j, none⟩ = some x
  | .agg xs, u => ∃ us, u = .agg us.toArray /\ RepL C xs us
  | .tup xs, u => ∃ us, u = .tuple us.toArray /\ RepL C xs us
  | .fn f caps, u => ∃ us, u = .func (.func f) #[] us.toArray /\ RepL C caps us
  | .yld id, u => C.dom id /\ ∃ g, C.M id = some g /\ u = .func (.yield g) #[] #[]
  | .mh id, u => C.dom id /\ ∃ g, C.M id = some g /\ u = .map (some g)
  | .bm f id, u => C.dom id /\ ∃ g, C.M id = some g /\ u = .func (.func f) #[.pointer (some ⟨g, 0, none⟩)] #[]
  | .junk, _ => True
def RepL (C:Cx):List AV->List Value->Prop
 | [],us=>us=[]
 | c::cs,us=>∃u us',us=u::us'/\Rep C c u/\RepL C cs us'
end
theorem shp {w w':World} (h:∀b x,w.shape? b=some x->w'.shape? b=some x):∀b e s,w.shape? b=some (e,s)->∃e',w'.shape? b=some (e',s):=fun b e s hs=>⟨e,h b _ hs⟩
structure Ext (C C':Cx):Prop where
 dom:∀id,C.dom id->C'.dom id/\C'.M id=C.M id
 ok:kW C.ok C'.ok C.w C'.w
 shape:∀b e s,C.w.shape? b=some (e,s)->∃e',C'.w.shape? b=some (e',s)
theorem Ext.refl (C:Cx):Ext C C:=⟨fun _ h=>⟨h,rfl⟩,fun _ h k=>⟨h,k,rfl⟩,shp fun _ _ h=>h⟩
theorem Ext.trans {A B C : Cx} (h : Ext A B) (k : Ext B C) : Ext A C :=
  ⟨fun id hd => ⟨(k.dom id (h.dom id hd).1).1, (k.dom id (h.dom id hd).1).2.trans (h.dom id hd).2⟩,
   fun b hb hl => let ⟨a1, a2, a3⟩ := h.ok b hb hl; let ⟨b1, b2, b3⟩ := k.ok b a1 a2; ⟨b1, b2, b3.trans a3⟩,
   fun b e s hx => let ⟨e1, h1⟩ := h.shape b e s hx; k.shape b e1 s h1⟩
mutual
theorem Rep.ext {C C':Cx} (h:Ext C C'):∀(x:AV) (u:Value),Rep C x u->Rep C' x u
 | .c x,u,hu=>by simp only [Rep] at hu ⊢;exact RepC.mono h.ok x u hu
 | .ref id off,u,hu=>by
  simp only [Rep] at hu ⊢
  obtain ⟨hd,g,hg,hu⟩:=hu
  obtain ⟨k1,k2⟩:=h.dom id hd
  exact nX
 | .own id off n size full,u,hu=>by
  simp only [Rep] at hu ⊢
  obtain ⟨hd,hu⟩:=hu
  obtain ⟨k1,k2⟩:=h.dom id hd
  refine ⟨k1,?_⟩
  rcases hu with ⟨h1,h2,h3,h4⟩|⟨g,cp,h1,h2,h3,h4,h5⟩|h6
  ·exact cG9
  ·exact .inr (.inl ⟨g,cp,k2.trans h1,h2,h3,h4,fun hf=>let ⟨e,he⟩:=h5 hf;h.shape _ e _ he⟩)
  ·exact .inr (.inr h6)
 | .ip cs off,u,hu=>by
  simp only [Rep] at hu ⊢
  obtain ⟨b,o,us,h1,h2,h3,h4,h6,h5⟩:=hu
  obtain ⟨k1,k2,k3⟩:=h.ok b h2 h3
  exact ⟨b,o,us,h1,k1,k2,RepCs.mono h.ok cs us h4,h6,fun j x hx=>by rw [World.cell?_of_block (w:=C.w) k3];exact h5 j x hx⟩
 | .agg xs,u,hu=>by
  simp only [Rep] at hu ⊢
  obtain ⟨us,h1,h2⟩:=hu
  exact ⟨us,h1,RepL.ext h xs us h2⟩
 | .tup xs,u,hu=>by
  simp only [Rep] at hu ⊢
  obtain ⟨us,h1,h2⟩:=hu
  exact ⟨us,h1,RepL.ext h xs us h2⟩
 | .fn f caps,u,hu=>by
  simp only [Rep] at hu ⊢
  obtain ⟨us,h1,h2⟩:=hu
  exact ⟨us,h1,RepL.ext h caps us h2⟩
 | .yld id,u,hu=>by
  simp only [Rep] at hu ⊢
  obtain ⟨hd,g,hg,hu⟩:=hu
  obtain ⟨k1,k2⟩:=h.dom id hd
  exact nX
 | .mh id,u,hu=>by
  simp only [Rep] at hu ⊢
  obtain ⟨hd,g,hg,hu⟩:=hu
  obtain ⟨k1,k2⟩:=h.dom id hd
  exact nX
 | .bm f id,u,hu=>by
  simp only [Rep] at hu ⊢
  obtain ⟨hd,g,hg,hu⟩:=hu
  obtain ⟨k1,k2⟩:=h.dom id hd
  exact nX
 | .junk,u,hu=>by simp only [Rep]
theorem RepL.ext {C C':Cx} (h:Ext C C'):∀(xs:List AV) (us:List Value),RepL C xs us->RepL C' xs us
 | [],us,hu=>by simpa [RepL] using hu
 | c::cs,us,hu=>by
  simp only [RepL] at hu ⊢
  obtain ⟨u,us',h1,h2,h3⟩:=hu
  exact ⟨u,us',h1,Rep.ext h c u h2,RepL.ext h cs us' h3⟩
end
section RepL
variable {C:Cx}
theorem RepL.length:∀{cs:List AV} {us:List Value},RepL C cs us->us.length=cs.length
 | [],us,h=>by simp only [RepL] at h;subst h;rfl
 | c::cs,us,h=>by
  simp only [RepL] at h
  obtain ⟨u,us',rfl,_,h3⟩:=h
  simp [RepL.length h3]
theorem RepL.get:∀{cs:List AV} {us:List Value},RepL C cs us->∀{j:Nat} {c:AV},cs[j]? = some c->∃u,us[j]? = some u/\Rep C c u
 | [],us,h,j,c,hc=>by simp at hc
 | c::cs,us,h,j,c',hc=>by
  simp only [RepL] at h
  obtain ⟨u,us',rfl,h2,h3⟩:=h
  cases j with
  | zero=>simp at hc;subst hc;exact ⟨u,rfl,h2⟩
  | succ j=>simpa using RepL.get h3 (by simpa using hc)
theorem RepL.set:∀{cs:List AV} {us:List Value},RepL C cs us->∀(j:Nat) {c:AV} {u:Value},Rep C c u->RepL C (cs.set j c) (us.set j u)
 | [],us,h,j,c,u,k=>by simp only [RepL] at h;subst h;simp [RepL]
 | c::cs,us,h,j,c',u',k=>by
  simp only [RepL] at h
  obtain ⟨u,us',rfl,h2,h3⟩:=h
  cases j with
  | zero=>exact ⟨u',us',rfl,k,h3⟩
  | succ j=>exact ⟨u,us'.set j u',rfl,h2,RepL.set h3 j k⟩
theorem RepL.take:∀(n:Nat) {cs:List AV} {us:List Value},RepL C cs us->RepL C (cs.take n) (us.take n)
 | 0,cs,us,h=>by simp [RepL]
 | n+1,[],us,h=>by simp only [RepL] at h;subst h;simp [RepL]
 | n+1,c::cs,us,h=>by
  simp only [RepL] at h
  obtain ⟨u,us',rfl,h2,h3⟩:=h
  simp only [BH,RepL]
  exact ⟨u,us'.take n,rfl,h2,RepL.take n h3⟩
theorem RepL.drop:∀(n:Nat) {cs:List AV} {us:List Value},RepL C cs us->RepL C (cs.drop n) (us.drop n)
 | 0,cs,us,h=>by simpa using h
 | n+1,[],us,h=>by simp only [RepL] at h;subst h;simp [RepL]
 | n+1,c::cs,us,h=>by
  simp only [RepL] at h
  obtain ⟨u,us',rfl,h2,h3⟩:=h
  simpa using RepL.drop n h3
theorem RepL.append:∀{cs ds:List AV} {us vs:List Value},RepL C cs us->RepL C ds vs->RepL C (cs++ds) (us++vs)
 | [],ds,us,vs,h,k=>by simp only [RepL] at h;subst h;simpa using k
 | c::cs,ds,us,vs,h,k=>by
  simp only [RepL] at h
  obtain ⟨u,us',rfl,h2,h3⟩:=h
  exact ⟨u,us'++vs,rfl,h2,RepL.append h3 k⟩
theorem RepL.ofC:∀{cs:List CV} {us:List Value},RepCs C.ok C.w cs us->RepL C (cs.map AV.c) us
 | [],us,h=>by simpa [RepCs,RepL] using h
 | c::cs,us,h=>by
  simp only [RepCs] at h
  obtain ⟨u,us',rfl,h2,h3⟩:=h
  exact ⟨u,us',rfl,h2,RepL.ofC h3⟩
theorem RepL.toC:∀{cs:List CV} {us:List Value},RepL C (cs.map AV.c) us->RepCs C.ok C.w cs us
 | [],us,h=>by simpa [RepCs,RepL] using h
 | c::cs,us,h=>by
  simp only [AH,RepL] at h
  obtain ⟨u,us',rfl,h2,h3⟩:=h
  exact ⟨u,us',rfl,h2,RepL.toC h3⟩
end RepL
def AV.one:AV->Bool
 | .c x=>x.one
 | .ref .. | .own .. | .ip .. | .fn .. | .yld .. | .mh .. | .bm .. => true
 | _=>false
theorem Rep.one {C:Cx} {x:AV} {u:Value} (h:Rep C x u) (h1:x.one=true):u.oneCell'=true/\u.cells = #[u]:=by
 cases x with
 | c x=>simp only [Rep] at h;exact h.one h1
 | ref id off=>simp only [Rep] at h;obtain ⟨_,g,_,rfl⟩:=h;exact ⟨rfl,rfl⟩
 | own id off n size full =>
  simp only [Rep] at h
  obtain ⟨_,⟨_,_,_,rfl⟩|⟨g,cp,_,rfl,_⟩|⟨_,_,A,cp,rfl,_⟩⟩:=h<;>exact ⟨rfl,rfl⟩
 | ip cs off=>simp only [Rep] at h;obtain ⟨b,o,us,rfl,_⟩:=h;exact ⟨rfl,rfl⟩
 | fn f caps=>simp only [Rep] at h;obtain ⟨us,rfl,_⟩:=h;exact ⟨rfl,rfl⟩
 | agg xs=>cases h1
 | tup xs=>cases h1
 | yld id=>simp only [Rep] at h;obtain ⟨_,g,_,rfl⟩:=h;exact ⟨rfl,rfl⟩
 | mh id=>simp only [Rep] at h;obtain ⟨_,g,_,rfl⟩:=h;exact ⟨rfl,rfl⟩
 | bm f id=>simp only [Rep] at h;obtain ⟨_,g,_,rfl⟩:=h;exact ⟨rfl,rfl⟩
 | junk=>cases h1
theorem RepL.one {C:Cx}:∀{cs:List AV} {us:List Value},RepL C cs us->cs.all AV.one=true->∀u∈us,u.oneCell'=true
 | [],us,h,_,u,hu=>by simp only [RepL] at h;subst h;simp at hu
 | c::cs,us,h,h1,u,hu=>by
  simp only [RepL] at h
  obtain ⟨u',us',rfl,h2,h3⟩:=h
  simp only [BA,Ar] at h1
  rcases A6.1 hu with rfl|hu
  ·exact (h2.one h1.1).1
  ·exact RepL.one h3 h1.2 u hu
def RepM (C:Cx):List (CV × AV)->List MapEntry->Prop
 | [],ms=>ms=[]
 | e::es,ms=>∃m ms',ms=m::ms'/\RepC C.ok C.w e.1 m.key/\Rep C e.2 m.val/\RepM C es ms'
theorem RepM.ext {C C':Cx} (h:Ext C C'):∀(es:List (CV × AV)) (ms:List MapEntry),RepM C es ms->RepM C' es ms
 | [],ms,hu=>hu
 | e::es,ms,hu=>by
  obtain ⟨m,ms',h1,h2,h3,h4⟩:=hu
  exact ⟨m,ms',h1,RepC.mono h.ok _ _ h2,Rep.ext h _ _ h3,RepM.ext h es ms' h4⟩
structure LC where
 ps:List Tmp
 asn:Code
 bd:Code
inductive AObj where
 | blk (T:TypeId) (cs:List AV)
 | row (T:TypeId) (cs:List CV)
 | lp (st:LoopState) (sz:Nat) (L:LC) (slots:List Nat) (xs:List AV)
 | dfr (op:Bool)
 | tab (es:List (CV × AV))
 | dead
def AObj.live:AObj->Option AObj
 | .blk T cs=>some (.blk T cs)
 | .row T cs=>some (.row T cs)
 | .lp b sz L sl xs=>some (.lp b sz L sl xs)
 | .dfr b=>some (.dfr b)
 | .tab es=>some (.tab es)
 | .dead=>none
theorem sD {o o':AObj} (h:o.live=some o'):o=o':=by cases o<;>simp [AObj.live] at h<;>exact h
def eQ8 (b:Bool):Option (List Deferred):=match b with|true=>some []|false=>none
def ObjRep (C:Cx) (g:Option Nat):AObj->Prop
 | .blk T cs=>∃k us,g=some k/\C.w.heap[k]? = some (.cells us.toArray T (0,0))/\RepL C cs us
 | .row T cs=>(g=none/\cs=[])\/∃k us vs,g=some k/\C.w.heap[k]? = some (.cells (us++vs).toArray T (0,0))/\RepCs C.ok C.w cs us/\∀u∈us,u.oneCell'=true
 | .lp st sz L slots xs=>∃k r,g=some k/\C.w.heap[k]? = some (.loop r)/\r.state=st/\r.pending=none/\r.params=L.ps.toArray/\r.assign=L.asn/\r.body=L.bd/\r.tmps.size=sz/\RepL C xs (slots.map fun s=>r.tmps.getD s undef)
 | .dfr b=>∃k,g=some k/\C.w.heap[k]? = some (.deferred (eQ8 b))
 | .tab es=>∃k ms t,g=some k/\C.w.heap[k]? = some (.map ms t)/\Go.MapKept.Stamped ms t/\RepM C es ms.toList
 | .dead=>False
theorem cC {w:World} {g:Nat} {o:Obj} (h:w.heap[g]? = some o):g<w.heap.size:=by
 rcases AE g w.heap.size with h1|h1
 ·exact h1
 ·rw [B5 h1] at h;cases h
theorem ObjRep.lt {C:Cx} {g:Option Nat} {o:AObj} (h:ObjRep C g o):∀k,g=some k->k<C.w.heap.size:=by
 intro k hk
 cases o with
 | blk T cs=>obtain ⟨k',us,rfl,h2,_⟩:=h;injection hk with hk;subst hk;exact cC h2
 | row T cs =>
  rcases h with ⟨h1,_⟩|⟨k',us,vs,rfl,h2,_⟩
  ·rw [h1] at hk;cases hk
  ·injection hk with hk;subst hk;exact cC h2
 | lp b sz L sl xs=>obtain ⟨k',r,rfl,h2,_⟩:=h;injection hk with hk;subst hk;exact cC h2
 | dfr b=>obtain ⟨k',rfl,h2⟩:=h;injection hk with hk;subst hk;exact cC h2
 | tab es=>obtain ⟨k',ms,t,rfl,h2,_⟩:=h;injection hk with hk;subst hk;exact cC h2
 | dead=>exact h.elim
theorem ObjRep.ext {C C':Cx} (h:Ext C C') {g:Option Nat} {o:AObj} (hg:∀k,g=some k->C'.w.heap[k]? = C.w.heap[k]?) (ho:ObjRep C g o):ObjRep C' g o:=by
 cases o with
 | blk T cs =>
  obtain ⟨k,us,rfl,h2,h3⟩:=ho
  exact ⟨k,us,rfl,(hg k rfl).trans h2,RepL.ext h cs us h3⟩
 | row T cs =>
  rcases ho with h1|⟨k,us,vs,rfl,h2,h3,h4⟩
  ·exact .inl h1
  ·exact .inr ⟨k,us,vs,rfl,(hg k rfl).trans h2,RepCs.mono h.ok cs us h3,h4⟩
 | lp b sz L sl xs =>
  obtain ⟨k,r,rfl,h2,h3,h4,h5,h6,h7,h8,h9⟩:=ho
  exact ⟨k,r,rfl,(hg k rfl).trans h2,h3,h4,h5,h6,h7,h8,RepL.ext h xs _ h9⟩
 | dfr b =>
  obtain ⟨k,rfl,h2⟩:=ho
  exact ⟨k,rfl,(hg k rfl).trans h2⟩
 | tab es =>
  obtain ⟨k,ms,t,rfl,h2,h3⟩:=ho
  exact ⟨k,ms,t,rfl,(hg k rfl).trans h2,h3.1,RepM.ext h es _ h3.2⟩
 | dead=>exact ho.elim
structure Bs where
 w0:World
 G:List Nat
 ok0:Nat->Prop
 fr:List Value
def bF (B:Bs) (dom:Nat->Prop) (M:Nat->Option Nat) (H:Nat->Option AObj) (b:Nat):Prop:=(B.ok0 b\/B.w0.heap.size<=b\/b∈B.G)/\∀id o,dom id->H id=some o->M id≠some b
structure FrB (w0:World) (G:List Nat) (w:World):Prop where
 os:w.os=w0.os
 tape:w.tape=w0.tape
 output:w.output=w0.output
 size:w0.heap.size<=w.heap.size
 block:∀k,k<w0.heap.size->k∉G->w.heap[k]? = w0.heap[k]?
theorem FrB.refl (w:World) (G:List Nat):FrB w G w:=⟨rfl,rfl,rfl,Ah _,fun _ _ _=>rfl⟩
theorem FrB.below {w0 w:World} (h:FrB w0 [] w):Below w0.heap.size w0 w:=⟨h.os,h.tape,h.output,h.size,fun k hk=>h.block k hk aU⟩
structure ConcH (B:Bs) (dom:Nat->Prop) (M:Nat->Option Nat) (H:Nat->Option AObj) (w:World):Prop where
 fr:FrB B.w0 B.G w
 obj:∀id o,dom id->H id=some o->ObjRep ⟨dom,M,bF B dom M H,w⟩ (M id) o
 inj:∀id id' o o' g,dom id->dom id'->H id=some o->H id'=some o'->M id=some g->M id'=some g->id=id'
 lo:∀id o g,dom id->H id=some o->M id=some g->B.w0.heap.size<=g\/g∈B.G
def ad (dom:Nat->Prop) (i j:Nat) (id:Nat):Prop:=dom id\/(i<=id/\id<j)
section
variable {w w':World} {B:Bs} {dom:Nat->Prop} {M M':Nat->Option Nat} {H:Nat->Option AObj}
theorem eC {w w':World} {b:Nat} (h:w'.heap[b]? = w.heap[b]?):w'.shape? b=w.shape? b:=by simp [World.shape?,h]
theorem jM {w:World} {b:Nat} {x:TypeId × Nat} (h:w.shape? b=some x):b<w.heap.size:=by
 unfold World.shape? at h
 split at h
 ·rename_i c e hh;exact cC hh
 ·cases h
theorem ConcH.grow (h : ConcH B dom M H w) (hb : Below w.heap.size w w') (i j : Nat) (hM : ∀ id, dom id -> M' id = M id) (hd : ∀ id, i <= id -> id < j -> ¬ dom id)
    (hn : ∀ id o, i <= id -> id < j -> H id = some o -> ∀ g, M' id = some g -> w.heap.size <= g)
    (hinj : ∀ id id' o o' g, i <= id -> id < j -> i <= id' -> id' < j -> H id = some o -> H id' = some o' -> M' id = some g -> M' id' = some g -> id = id')
    (ho : Ext ⟨dom, M, bF B dom M H, w⟩ ⟨ad dom i j, M', bF B (ad dom i j) M' H, w'⟩ -> ∀ id o, i <= id -> id < j -> H id = some o -> ObjRep ⟨ad dom i j, M', bF B (ad dom i j) M' H, w'⟩ (M' id) o) :
    ConcH B (ad dom i j) M' H w' /\ Ext ⟨dom, M, bF B dom M H, w⟩ ⟨ad dom i j, M', bF B (ad dom i j) M' H, w'⟩ := by
  have hext : Ext ⟨dom, M, bF B dom M H, w⟩ ⟨ad dom i j, M', bF B (ad dom i j) M' H, w'⟩ := by
    refine ⟨fun id hid => ⟨.inl hid, hM id hid⟩, fun b hb1 hb2 => ⟨⟨hb1.1, fun id o hid hH he => ?_⟩, A3 hb2 hb.size, hb.block b hb2⟩, shp fun b x hx => ?_⟩
    · rcases hid with hid | ⟨h1, h2⟩
      · exact hb1.2 id o hid hH ((hM id hid).symm.trans he)
      · have := hn id o h1 h2 hH b he
        simp only at hb2
        omega
    · rw [<- hx]
      exact eC (hb.block b (jM hx))
  refine ⟨⟨⟨hb.os.trans h.fr.os, hb.tape.trans h.fr.tape, hb.output.trans h.fr.output, At h.fr.size hb.size, fun k h1 h2 => (hb.block k (A3 h1 h.fr.size)).trans (h.fr.block k h1 h2)⟩, fun id o hid hH => ?_, fun id id' o o' g h1 h2 h3 h4 h5 h6 => ?_, fun id o g hid hH he => ?_⟩, hext⟩
  · rcases hid with hid | ⟨h1, h2⟩
    · rw [hM id hid]
      have h3 := h.obj id o hid hH
      exact h3.ext hext (fun k hk => hb.block k (h3.lt k hk))
    · exact ho hext id o h1 h2 hH
  · rcases h1 with h1 | h1 <;> rcases h2 with h2 | h2
    · exact h.inj id id' o o' g h1 h2 h3 h4 ((hM id h1).symm.trans h5) ((hM id' h2).symm.trans h6)
    · have k1 := hn id' o' h2.1 h2.2 h4 g h6
      have k2 := (h.obj id o h1 h3).lt g ((hM id h1).symm.trans h5)
      simp only at k2
      omega
    · have k1 := hn id o h1.1 h1.2 h3 g h5
      have k2 := (h.obj id' o' h2 h4).lt g ((hM id' h2).symm.trans h6)
      simp only at k2
      omega
    · exact hinj id id' o o' g h1.1 h1.2 h2.1 h2.2 h3 h4 h5 h6
  · rcases hid with hid | ⟨h1, h2⟩
    · exact h.lo id o g hid hH ((hM id hid).symm.trans he)
    · have := hn id o h1 h2 hH g he
      have := h.fr.size
      exact .inl aA
end
def lk:List (Nat × AObj)->Nat->Option AObj
 | [],_=>none
 | p::r,k=>match Nat.beq p.1 k with|true=>p.2.live|false=>lk r k
def lkE:List (Nat × AV)->Nat->Option AV
 | [],_=>none
 | (i,v)::r,k=>match Nat.beq i k with|true=>some v|false=>lkE r k
def evA (env:List (Nat × AV)):Operand->Option AV
 | .tmp t=>lkE env t
 | .const x=>some (.c (.v x))
 | .global _=>none
 | .func f=>some (.fn f [])
theorem cA (i : Nat) (o : AObj) (h : List (Nat × AObj)) (k : Nat) : lk ((i, o) :: h) k = if i = k then o.live else lk h k := by
  by_cases hk : i = k
  · subst hk; simp [lk, BP]
  · have : Nat.beq i k = false := by
      cases h : Nat.beq i k with
      | false => rfl
      | true => exact absurd (Ae h) hk
    simp only [lk]; rw [this]; simp [hk]
theorem eZ (i : Nat) (o : AV) (h : List (Nat × AV)) (k : Nat) : lkE ((i, o) :: h) k = if i = k then some o else lkE h k := by
  by_cases hk : i = k
  · subst hk; simp [lkE, BP]
  · have : Nat.beq i k = false := by
      cases h : Nat.beq i k with
      | false => rfl
      | true => exact absurd (Ae h) hk
    simp only [lkE]; rw [this]; simp [hk]
end
section
inductive TK where
 | bool|int (k:IntKind)|str|ptr|slice (e:TypeId)|array (n:Nat) (e:TypeId)|struct (fs:List (Nat × TypeId))|map (k e:TypeId)|func|iface|other
def aG4:TypeDesc->TK
 | .bool => .bool
 | .int k => .int k
 | .string => .str
 | .pointer _ => .ptr
 | .slice e => .slice e
 | .array n e => .array n e
 | .struct fs => .struct (fs.toList.map fun f=>(f.offset,f.type))
 | .map k e => .map k e
 | .func .. => .func
 | .interface _ => .iface
 | _ => .other
def TK.agg:TK->Bool
 | .struct _ | .array _ _=>true
 | _=>false
structure TyE where
 size:Nat
 bytes:Nat
 kind:TK
 zero:List Value
def TyOk (P:Program) (t:TypeId) (e:TyE):Prop :=
 (P.info? t).map (fun i=>(i.size,i.bytes,i.zero.map (·.cells.toList)))=some (e.size,e.bytes,some e.zero)/\(P.underlying t).map aG4=some e.kind
abbrev Tab:=List (TypeId × TyE)
def bQ (P:Program):Tab->Prop
 | []=>True
 | x::r=>TyOk P x.1 x.2/\bQ P r
def aS:Tab->TypeId->Option TyE
 | [],_=>none
 | (i,e)::r,k=>match Nat.beq i k with|true=>some e|false=>aS r k
theorem aM {P:Program} {t:TypeId} {e:TyE}:∀{tab:Tab},bQ P tab->aS tab t=some e->TyOk P t e
 | [],_,h=>by cases h
 | x::r,ht,h=>by
  unfold aS at h
  split at h
  ·rename_i he;injection h with h;subst h;rw [<- Ae he];exact ht.1
  ·exact aM ht.2 h
section Ty
variable {P:Program} {t:TypeId} {e:TyE}
section
variable (h:TyOk P t e)
include h
theorem TyOk.parts:∃i,P.info? t=some i/\i.size=e.size/\i.bytes=e.bytes/\∃z,i.zero=some z/\z.cells.toList=e.zero:=by
 obtain ⟨h1,_⟩:=h
 obtain ⟨i,hi,he⟩:=Ap.1 h1
 simp only [Prod.mk.injEq] at he
 obtain ⟨z,hz,he2⟩:=Ap.1 he.2.2
 exact ⟨i,hi,he.1,he.2.1,z,hz,he2⟩
theorem TyOk.sizeOf (w:World):(sizeOf t).run P w = .ok e.size w:=by
 obtain ⟨i,hi,hs,_⟩:=h.parts
 simp [Go.sizeOf,typeInfo,hi,hs]
theorem TyOk.und:∃d,P.underlying t=some d/\aG4 d=e.kind:=by
 obtain ⟨_,h2⟩:=h
 exact Ap.1 h2
theorem TyOk.isAgg (w:World):(isAgg t).run P w = .ok e.kind.agg w:=by
 obtain ⟨d,hd,hk⟩:=h.und
 unfold Go.isAgg
 rw [Sem.run_bind,run_underlying hd w,<- hk]
 cases d<;>simp [aG4,TK.agg]
theorem TyOk.slice {x:TypeId} (hk:e.kind = .slice x):P.underlying t=some (.slice x):=by
 obtain ⟨d,hd,hk'⟩:=h.und
 rw [hk] at hk'
 cases d<;>simp [aG4] at hk'
 subst hk';exact hd
theorem TyOk.array {n:Nat} {x:TypeId} (hk:e.kind = .array n x):P.underlying t=some (.array n x):=by
 obtain ⟨d,hd,hk'⟩:=h.und
 rw [hk] at hk'
 cases d<;>simp [aG4] at hk'
 obtain ⟨rfl,rfl⟩:=hk';exact hd
theorem TyOk.struct {fs:List (Nat × TypeId)} (hk:e.kind = .struct fs):∃fields:Array Field,P.underlying t=some (.struct fields)/\fields.toList.map (fun f=>(f.offset,f.type))=fs:=by
 obtain ⟨d,hd,hk'⟩:=h.und
 rw [hk] at hk'
 cases d<;>simp [aG4] at hk'
 exact ⟨_,hd,hk'⟩
theorem TyOk.int {k:IntKind} (hk:e.kind = .int k):P.underlying t=some (.int k):=by
 obtain ⟨d,hd,hk'⟩:=h.und
 rw [hk] at hk'
 cases d<;>simp [aG4] at hk'
 subst hk';exact hd
theorem TyOk.str (hk:e.kind = .str):P.underlying t=some .string:=by
 obtain ⟨d,hd,hk'⟩:=h.und
 rw [hk] at hk'
 cases d<;>simp [aG4] at hk'
 exact hd
theorem TyOk.bool (hk:e.kind = .bool):P.underlying t=some .bool:=by
 obtain ⟨d,hd,hk'⟩:=h.und
 rw [hk] at hk'
 cases d<;>simp [aG4] at hk'
 exact hd
theorem TyOk.field {fs:List (Nat × TypeId)} (hk:e.kind = .struct fs) {f off:Nat} {ft:TypeId} (hf:fs[f]? = some (off,ft)):∃(fields:Array Field) (fd:Field),P.underlying t=some (.struct fields)/\fields[f]? = some fd/\fd.offset=off/\fd.type=ft:=by
 obtain ⟨fields,h1,h2⟩:=h.struct hk
 rw [<- h2,Bv] at hf
 obtain ⟨fd,h3,h4⟩:=Ap.1 hf
 simp only [Prod.mk.injEq] at h4
 exact ⟨fields,fd,h1,by simpa using h3,h4.1,h4.2⟩
end
end Ty
theorem iG (b o j:Nat):(⟨b,o,none⟩:Addr).add j=⟨b,o+j,none⟩:=by
 unfold Addr.add;split<;>simp_all
abbrev Env:=List (Nat × AV)
abbrev aO:=List (Nat × AObj)
abbrev Evl:=Operand->Option AV
def Adds (P:Program) (o:Oper) (ev:Evl) (h:aO) (v:AV) (Δ : aO) (i j:Nat):Prop :=
 ∀(B:Bs) (dom:Nat->Prop) (M:Nat->Option Nat) (H:Nat->Option AObj) (w:World) (a:Act) (K:Act->World->Prop) (Q:Exit->Act->World->Prop),
  (∀id o,lk h id=some o->dom id->H id=some o)->(∀id,i<=id->id<j->¬dom id/\H id=lk Δ id) ->
  ConcH B dom M H w->(∀x av,ev x=some av->Rep ⟨dom,M,bF B dom M H,w⟩ av (a.eval x)) ->
  (∀u w' M',Ext ⟨dom,M,bF B dom M H,w⟩ ⟨ad dom i j,M',bF B (ad dom i j) M' H,w'⟩->ConcH B (ad dom i j) M' H w'->Rep ⟨ad dom i j,M',bF B (ad dom i j) M' H,w'⟩ v u->K (a.put o.dst u) w') ->
  o.wp P a w K Q
def Still (P:Program) (o:Oper) (ev:Evl) (h:aO) (v:AV):Prop :=
 ∀(B:Bs) (dom:Nat->Prop) (M:Nat->Option Nat) (H:Nat->Option AObj) (w:World) (a:Act),
  (∀id o,lk h id=some o->dom id->H id=some o)->ConcH B dom M H w->(∀x av,ev x=some av->Rep ⟨dom,M,bF B dom M H,w⟩ av (a.eval x)) ->
  ∃u,(execOp a.eval o).run P w = .ok (.value u) w/\Rep ⟨dom,M,bF B dom M H,w⟩ v u
theorem dY (dom:Nat->Prop) (i:Nat):ad dom i i=dom:=by
 funext id
 simp only [ad,BD]
 exact ⟨fun h=>h.elim (fun h=>h) (fun h=>by omega),.inl⟩
section
variable {P:Program} {o:Oper} {ev:Evl} {h:aO} {v:AV} {i:Nat}
theorem Still.adds (hs:Still P o ev h v):Adds P o ev h v [] i i:=by
 intro B dom M H w a K Q hh _ hc he hK
 obtain ⟨u,hr,hv⟩:=hs B dom M H w a hh hc he
 unfold Oper.wp
 rw [hr]
 simp only [Oper.upon]
 refine hK u w M ?_ ?_ ?_<;>rw [dY]
 ·exact Ext.refl _
 ·exact hc
 ·exact hv
theorem iO {obj : AObj} (hlv : obj.live = some obj) (hrun : ∀ (B : Bs) (dom : Nat -> Prop) (M : Nat -> Option Nat) (H : Nat -> Option AObj) (w : World) (a : Act),
    (∀ id o, lk h id = some o -> dom id -> H id = some o) -> ConcH B dom M H w -> (∀ x av, ev x = some av -> Rep ⟨dom, M, bF B dom M H, w⟩ av (a.eval x)) ->
    ∃ u w' m, (execOp a.eval o).run P w = .ok (.value u) w' /\ Below w.heap.size w w' /\ (∀ g, m = some g -> w.heap.size <= g) /\
      (∀ C, Ext ⟨dom, M, bF B dom M H, w⟩ C -> C.w = w' -> C.dom i -> C.M i = m -> ObjRep C m obj /\ Rep C v u)) : Adds P o ev h v [(i, obj)] i (i + 1) := by
  intro B dom M H w a K Q hh hn hc he hK
  obtain ⟨u, w', m, hr, hb, hm, hv⟩ := hrun B dom M H w a hh hc he
  unfold Oper.wp
  rw [hr]
  simp only [Oper.upon]
  have hi := hn i (Ah _) (Bk _)
  have e1 : H i = some obj := by rw [hi.2, cA, Ak rfl, hlv]
  let M' : Nat -> Option Nat := fun id => if id = i then m else M id
  have hM' : M' i = m := by simp [M']
  have hg := hc.grow hb i (i + 1) (M' := M') (fun id hid => by
      have : id ≠ i := fun e => hi.1 (e ▸ hid)
      simp [M', this]) (fun id h1 h2 => (hn id h1 h2).1)
    (fun id o h1 h2 h3 g hg => by
      obtain rfl : id = i := by omega
      rw [hM'] at hg
      exact hm g hg)
    (fun id id' o o' g h1 h2 h3 h4 => fun _ _ _ _ => by omega)
    (fun hext id o h1 h2 h3 => by
      obtain rfl : id = i := by omega
      rw [e1] at h3
      injection h3 with h3
      subst h3
      rw [hM']
      exact (hv _ hext rfl (.inr ⟨h1, h2⟩) hM').1)
  exact hK u w' M' hg.2 hg.1 (hv _ hg.2 rfl (.inr ⟨Ah _, Bk _⟩) hM').2
end
section ops
variable {P:Program} {tab:Tab} {ev:Evl} {h:aO} {d:Option Tmp} {T ty:TypeId} {x y z:Operand} {pos:String} {aft:Array Edge} {gd:Option (Nat × Bool)} {i:Nat}
theorem mX {v:AV} (hx:ev x=some v):Still P ⟨d,.move x,ty,pos,aft,gd⟩ ev h v:=by
 intro B dom M H w a hh hc he
 exact ⟨a.eval x,by simp [execOp],he x v hx⟩
theorem aE0 {v:AV} (hx:ev x=some v):Still P ⟨d,.assign x,ty,pos,aft,gd⟩ ev h v:=by
 intro B dom M H w a hh hc he
 exact ⟨a.eval x,by simp [execOp],he x v hx⟩
theorem yR {v:AV} (hc0:ev z=some (.c (.v (.bool true)))) (hx:ev x=some v):Still P ⟨d,.pick z x y,ty,pos,aft,gd⟩ ev h v:=by
 intro B dom M H w a hh hc he
 have h0:=he z _ hc0
 simp only [Rep,RepC] at h0
 exact ⟨a.eval x,by simp [execOp,h0,asBool],he x v hx⟩
theorem yQ {v:AV} (hc0:ev z=some (.c (.v (.bool false)))) (hy:ev y=some v):Still P ⟨d,.pick z x y,ty,pos,aft,gd⟩ ev h v:=by
 intro B dom M H w a hh hc he
 have h0:=he z _ hc0
 simp only [Rep,RepC] at h0
 exact ⟨a.eval y,by simp [execOp,h0,asBool],he y v hy⟩
section
variable {B : Bs} {dom : Nat -> Prop} {M : Nat -> Option Nat} {H : Nat -> Option AObj} {w : World} (hh : ∀ id o, lk h id = some o -> dom id -> H id = some o) (hc : ConcH B dom M H w) {id g : Nat}
include B dom M H w hh hc id g
theorem iL{T : TypeId} {cs : List AV}
    (ho : lk h id = some (.blk T cs)) (hd : dom id) (hM : M id = some g) : ∃ us, w.heap[g]? = some (.cells us.toArray T (0, 0)) /\ RepL ⟨dom, M, bF B dom M H, w⟩ cs us := by
  obtain ⟨k, us, h1, h2, h3⟩ := hc.obj id _ hd (hh id _ ho hd)
  rw [hM] at h1
  injection h1 with h1
  subst h1
  exact ⟨us, h2, h3⟩
theorem fI{T : TypeId} {cs : List CV}
    (ho : lk h id = some (.row T cs)) (hd : dom id) (hM : M id = some g) : ∃ us vs, w.heap[g]? = some (.cells (us ++ vs).toArray T (0, 0)) /\ RepCs (bF B dom M H) w cs us /\ ∀ u ∈ us, u.oneCell' = true := by
  rcases hc.obj id _ hd (hh id _ ho hd) with ⟨h1, _⟩ | ⟨k, us, vs, h1, h2, h3, h4⟩
  · rw [hM] at h1; cases h1
  · rw [hM] at h1
    injection h1 with h1
    subst h1
    exact ⟨us, vs, h2, h3, h4⟩
end
theorem nT {w:World} {g:Nat} {us:List Value} {T:TypeId} {fz:Nat × Nat} (h:w.heap[g]? = some (.cells us.toArray T fz)) (off:Nat):w.cell? ⟨g,off,none⟩=us[off]? := by
 simp [World.cell?,h]
theorem jE {w:World} {g:Nat} {us vs:List Value} {T:TypeId} {fz:Nat × Nat} (h:w.heap[g]? = some (.cells (us++vs).toArray T fz)) {off:Nat} {u:Value} (hu:us[off]? = some u):w.cell? ⟨g,off,none⟩=some u:=by
 rw [nT h,AL (Ag.1 hu).1]
 exact hu
theorem sI {w:World} {e:TyE} (hT:TyOk P T e) (hk:e.kind.agg=false) {p:Addr} {u:Value} (hp:w.cell? p=some u):(loadVar T p).run P w = .ok u w:=by
 have ha:=hT.isAgg w
 simp [loadVar,Sem.run_bind,ha,hk,hp]
theorem oN {w:World} {e:TyE} (hT:TyOk P T e) (hk:e.kind.agg=true) {g off:Nat} {us:List Value} (hl:us.length=e.size) (hp:∀j u,us[j]? = some u->w.cell? ⟨g,off+j,none⟩=some u):(loadVar T ⟨g,off,none⟩).run P w = .ok (.agg us.toArray) w:=by
 have ha:=hT.isAgg w
 have hs:=hT.sizeOf w
 have:=run_loadCells_list (P:=P) w ⟨g,off,none⟩ us (fun j v hj=>by rw [iG];exact hp j v hj)
 rw [hl] at this
 simp [loadVar,Sem.run_bind,ha,hk,hs,this]
section
variable (tb : bQ P tab) {e : TyE} (hT : aS tab T = some e) (hk : e.kind.agg = false)
include tb e hT hk
theorem jB {id off : Nat} {T' : TypeId} {cs : List AV} {v : AV} (hx : ev x = some (.ref id off)) (ho : lk h id = some (.blk T' cs)) (hv : cs[off]? = some v) :
    Still P ⟨d, .load T x, ty, pos, aft, gd⟩ ev h v := by
  intro B dom M H w a hh hc he
  have hp := he x _ hx
  simp only [Rep] at hp
  obtain ⟨hd, g, hM, hp⟩ := hp
  obtain ⟨us, h2, h3⟩ := iL hh hc ho hd hM
  obtain ⟨u, hu, hr⟩ := h3.get hv
  refine ⟨u, ?_, hr⟩
  have := sI (P := P) (w := w) (aM tb hT) hk (p := ⟨g, off, none⟩) (by rw [nT h2]; exact hu)
  simp [execOp, hp, Instr.loadAt, Instr.sureAddr, this]
theorem gS {id off : Nat} {T' : TypeId} {cs : List CV} {v : CV} (hx : ev x = some (.ref id off)) (ho : lk h id = some (.row T' cs)) (hv : cs[off]? = some v) :
    Still P ⟨d, .load T x, ty, pos, aft, gd⟩ ev h (.c v) := by
  intro B dom M H w a hh hc he
  have hp := he x _ hx
  simp only [Rep] at hp
  obtain ⟨hd, g, hM, hp⟩ := hp
  obtain ⟨us, vs, h2, h3, h30⟩ := fI hh hc ho hd hM
  obtain ⟨u, hu, hr⟩ := h3.get hv
  refine ⟨u, ?_, hr⟩
  have := sI (P := P) (w := w) (aM tb hT) hk (p := ⟨g, off, none⟩) (jE h2 hu)
  simp [execOp, hp, Instr.loadAt, Instr.sureAddr, this]
theorem gR {off : Nat} {cs : List CV} {v : CV} (hx : ev x = some (.ip cs off)) (hv : cs[off]? = some v) :
    Still P ⟨d, .load T x, ty, pos, aft, gd⟩ ev h (.c v) := by
  intro B dom M H w a hh hc he
  have hp := he x _ hx
  simp only [Rep] at hp
  obtain ⟨b, o, us, hp, h2, h3, h4, h40, h5⟩ := hp
  obtain ⟨u, hu, hr⟩ := h4.get hv
  refine ⟨u, ?_, hr⟩
  have := sI (P := P) (w := w) (aM tb hT) hk (p := ⟨b, o + off, none⟩) (h5 off u hu)
  simp [execOp, hp, Instr.loadAt, Instr.sureAddr, this]
end
def pZ:List AV->Option (List CV)
 | []=>some []
 | .c x::r=>match pZ r with|some cs=>some (x::cs)|none=>none
 | _::_=>none
theorem bK2:∀{xs:List AV} {cs:List CV},pZ xs=some cs->xs=cs.map AV.c
 | [],cs,h=>by simp [pZ] at h;subst h;rfl
 | .c x::r,cs,h=>by
  simp only [pZ] at h
  split at h
  ·rename_i cs' h';injection h with h;subst h;rw [bK2 h'];rfl
  ·cases h
 | .ref .. :: r,cs,h=>by simp [pZ] at h
 | .own .. :: r,cs,h=>by simp [pZ] at h
 | .ip .. :: r,cs,h=>by simp [pZ] at h
 | .agg .. :: r,cs,h=>by simp [pZ] at h
 | .tup .. :: r,cs,h=>by simp [pZ] at h
 | .fn .. :: r,cs,h=>by simp [pZ] at h
 | .yld .. :: r,cs,h=>by simp [pZ] at h
 | .mh .. :: r,cs,h=>by simp [pZ] at h
 | .bm .. :: r,cs,h=>by simp [pZ] at h
 | .junk::r,cs,h=>by simp [pZ] at h
inductive IsAgg:List AV->AV->Prop
 | closed {xs:List AV} {cs:List CV} (h:pZ xs=some cs) (h1:xs.all AV.one=true):IsAgg xs (.c (.agg cs))
 | mixed (xs:List AV):IsAgg xs (.agg xs)
theorem IsAgg.rep {C:Cx} {xs:List AV} {v:AV} (h:IsAgg xs v) {us:List Value} (hr:RepL C xs us):Rep C v (.agg us.toArray):=by
 cases h with
 | closed h h1 =>
  have h2:=hr.one h1
  rw [bK2 h] at hr;exact ⟨us,rfl,hr.toC,h2⟩
 | mixed=>exact ⟨us,rfl,hr⟩
inductive Parts:AV->List AV->Prop
 | closed (cs:List CV):Parts (.c (.agg cs)) (cs.map AV.c)
 | mixed (xs:List AV):Parts (.agg xs) xs
theorem Parts.rep {C:Cx} {xs:List AV} {v:AV} (h:Parts v xs) {u:Value} (hr:Rep C v u):∃us,u = .agg us.toArray/\RepL C xs us:=by
 cases h with
 | closed cs=>obtain ⟨us,h1,h2,_⟩:=hr;exact ⟨us,h1,RepL.ofC h2⟩
 | mixed=>exact hr
section
variable (tb : bQ P tab) {e : TyE} (hT : aS tab T = some e) (hk : e.kind.agg = true)
include tb e hT hk
theorem aR2 {id off : Nat} {T' : TypeId} {cs xs : List AV} {v : AV} (hx : ev x = some (.ref id off)) (ho : lk h id = some (.blk T' cs)) (hxs : (cs.drop off).take e.size = xs) (hl : xs.length = e.size) (hv : IsAgg xs v) :
    Still P ⟨d, .load T x, ty, pos, aft, gd⟩ ev h v := by
  intro B dom M H w a hh hc he
  have hp := he x _ hx
  simp only [Rep] at hp
  obtain ⟨hd, g, hM, hp⟩ := hp
  obtain ⟨us, h2, h3⟩ := iL hh hc ho hd hM
  have h4 := (h3.drop off).take e.size
  rw [hxs] at h4
  refine ⟨.agg ((us.drop off).take e.size).toArray, ?_, hv.rep h4⟩
  have := oN (P := P) (w := w) (aM tb hT) hk (g := g) (off := off) (us := (us.drop off).take e.size) (by rw [h4.length, hl]) (fun j u hj => by
    rw [nT h2]
    have hjk : j < e.size := by
      rcases AE j e.size with h1 | h1
      · exact h1
      · rw [AO kE] at hj; cases hj
    rwa [Be hjk, AR] at hj)
  simp [execOp, hp, Instr.loadAt, Instr.sureAddr, this]
theorem jL {id off : Nat} {T' : TypeId} {cs xs : List CV} (hx : ev x = some (.ref id off)) (ho : lk h id = some (.row T' cs)) (hxs : (cs.drop off).take e.size = xs) (hl : xs.length = e.size) :
    Still P ⟨d, .load T x, ty, pos, aft, gd⟩ ev h (.c (.agg xs)) := by
  intro B dom M H w a hh hc he
  have hp := he x _ hx
  simp only [Rep] at hp
  obtain ⟨hd, g, hM, hp⟩ := hp
  obtain ⟨us, vs, h2, h3, h30⟩ := fI hh hc ho hd hM
  have h4 := (h3.drop off).take e.size
  rw [hxs] at h4
  refine ⟨.agg ((us.drop off).take e.size).toArray, ?_, _, rfl, h4, fun u hu => h30 u (Bf (AI hu))⟩
  have := oN (P := P) (w := w) (aM tb hT) hk (g := g) (off := off) (us := (us.drop off).take e.size) (by rw [h4.length, hl]) (fun j u hj => by
    have hjk : j < e.size := by
      rcases AE j e.size with h1 | h1
      · exact h1
      · rw [AO kE] at hj; cases hj
    rw [Be hjk, AR] at hj
    exact jE h2 hj)
  simp [execOp, hp, Instr.loadAt, Instr.sureAddr, this]
theorem jK {off : Nat} {cs xs : List CV} (hx : ev x = some (.ip cs off)) (hxs : (cs.drop off).take e.size = xs) (hl : xs.length = e.size) :
    Still P ⟨d, .load T x, ty, pos, aft, gd⟩ ev h (.c (.agg xs)) := by
  intro B dom M H w a hh hc he
  have hp := he x _ hx
  simp only [Rep] at hp
  obtain ⟨b, o, us, hp, h2, h3, h4, h40, h5⟩ := hp
  have h6 := (h4.drop off).take e.size
  rw [hxs] at h6
  refine ⟨.agg ((us.drop off).take e.size).toArray, ?_, _, rfl, h6, fun u hu => h40 u (Bf (AI hu))⟩
  have := oN (P := P) (w := w) (aM tb hT) hk (g := b) (off := o + off) (us := (us.drop off).take e.size) (by rw [h6.length, hl]) (fun j u hj => by
    have hjk : j < e.size := by
      rcases AE j e.size with h1 | h1
      · exact h1
      · rw [AO kE] at hj; cases hj
    rw [Be hjk, AR] at hj
    rw [BO]
    exact h5 _ u hj)
  simp [execOp, hp, Instr.loadAt, Instr.sureAddr, this]
end
section
variable (tb : bQ P tab) {e e' : TyE} {fs : List (Nat × TypeId)} (hT : aS tab T = some e) (hk : e.kind = .struct fs) {f fo : Nat} {ft : TypeId} (hf : fs[f]? = some (fo, ft)) (hft : aS tab ft = some e') (hpos : Nat.beq e'.size 0 = false)
include tb e e' fs hT hk f fo ft hf hft hpos
theorem gV {id off : Nat} (hx : ev x = some (.ref id off)) :
    Still P ⟨d, .fieldAddr T x f, ty, pos, aft, gd⟩ ev h (.ref id (off + fo)) := by
  intro B dom M H w a hh hc he
  have hp := he x _ hx
  simp only [Rep] at hp
  obtain ⟨hd, g, hM, hp⟩ := hp
  obtain ⟨fields, fd, h1, h2, h3, h4⟩ := (aM tb hT).field hk hf
  refine ⟨.pointer (some ⟨g, off + fo, none⟩), ?_, hd, g, hM, rfl⟩
  have hsz : ¬ e'.size = 0 := fun h0 => by rw [h0] at hpos; cases hpos
  subst h3 h4
  have hs := (aM tb hft).sizeOf w
  simp [execOp, Instr.fieldAt, Sem.run_bind, run_underlying h1, h2, hp, Instr.sureAddr, fieldPlace, hs, hsz, iG]
theorem pN {cs : List CV} {off : Nat} (hx : ev x = some (.ip cs off)) :
    Still P ⟨d, .fieldAddr T x f, ty, pos, aft, gd⟩ ev h (.ip cs (off + fo)) := by
  intro B dom M H w a hh hc he
  have hp := he x _ hx
  simp only [Rep] at hp
  obtain ⟨b, o, us, hp, h2', h3', h4', h6', h5'⟩ := hp
  obtain ⟨fields, fd, h1, h2, h3, h4⟩ := (aM tb hT).field hk hf
  refine ⟨.pointer (some ⟨b, o + (off + fo), none⟩), ?_, b, o, us, rfl, h2', h3', h4', h6', h5'⟩
  have hsz : ¬ e'.size = 0 := fun h0 => by rw [h0] at hpos; cases hpos
  subst h3 h4
  have hs := (aM tb hft).sizeOf w
  simp [execOp, Instr.fieldAt, Sem.run_bind, run_underlying h1, h2, hp, Instr.sureAddr, fieldPlace, hs, hsz, iG, BO]
end
theorem wS {xs:List AV} {k:Nat} {u:AV} (hx:ev x=some (.tup xs)) (hu:xs[k]? = some u):Still P ⟨d,.extract x k,ty,pos,aft,gd⟩ ev h u:=by
 intro B dom M H w a hh hc he
 have hp:=he x _ hx
 simp only [Rep] at hp
 obtain ⟨us,h1,h2⟩:=hp
 obtain ⟨u',hu',hr⟩:=h2.get hu
 refine ⟨u',?_,hr⟩
 simp [execOp,Instr.extract,h1,hu']
theorem gD {C:Cx} {a:Act} (he:∀x av,ev x=some av->Rep C av (a.eval x)):∀{xs:List Operand} {vs:List AV},xs.map ev=vs.map some->RepL C vs (xs.map a.eval)
 | [],vs,h=>by cases vs with|nil=>simp [RepL]|cons v vs=>simp at h
 | x::xs,vs,h=>by
  cases vs with
  | nil=>simp at h
  | cons v vs =>
   simp only [AH,List.cons.injEq] at h
   exact ⟨_,_,rfl,he x v h.1,gD he h.2⟩
def pQ (ev:Evl):List Operand->Option (List AV)
 | []=>some []
 | x::r=>match ev x with
  | some v=>match pQ ev r with|some vs=>some (v::vs)|none=>none
  | none=>none
theorem mB:∀{xs:List Operand} {vs:List AV},pQ ev xs=some vs->xs.map ev=vs.map some
 | [],vs,h=>by simp [pQ] at h;subst h;rfl
 | x::r,vs,h=>by
  simp only [pQ] at h
  split at h
  ·rename_i v hv
   split at h
   ·rename_i ws hw
    injection h with h;subst h
    simp [hv,mB hw]
   ·cases h
  ·cases h
def eX (ev:Evl):List Operand->Option (List CV)
 | []=>some []
 | x::r=>match ev x with
  | some (.c v)=>match eX ev r with|some vs=>some (v::vs)|none=>none
  | _=>none
theorem yY:∀{xs:List Operand} {vs:List CV},eX ev xs=some vs->xs.map ev=vs.map (fun c=>some (AV.c c))
 | [],vs,h=>by simp [eX] at h;subst h;rfl
 | x::r,vs,h=>by
  simp only [eX] at h
  split at h
  ·rename_i v hv
   split at h
   ·rename_i ws hw
    injection h with h;subst h
    simp [hv,yY hw]
   ·cases h
  ·cases h
theorem tI {f:FuncId} {caps:List Operand} {vs:List AV} (hx:pQ ev caps=some vs):Still P ⟨d,.makeFunc (.func f) #[] caps.toArray,ty,pos,aft,gd⟩ ev h (.fn f vs):=by
 intro B dom M H w a hh hc he
 refine ⟨.func (.func f) #[] (caps.map a.eval).toArray,?_,_,rfl,gD he (mB hx)⟩
 simp [execOp,Instr.makeFunc]
theorem iT {id off:Nat} (hx:ev x=some (.ref id off)):Still P ⟨d,.nilCheck x,ty,pos,aft,gd⟩ ev h (.ref id off):=by
 intro B dom M H w a hh hc he
 have hp:=he x _ hx
 refine ⟨a.eval x,?_,hp⟩
 simp only [Rep] at hp
 obtain ⟨hd,g,hM,hp⟩:=hp
 simp [execOp,hp]
theorem kJ {op : BinOp} {T' : TypeId} {p q r : Value} (hx : ev x = some (.c (.v p))) (hy : ev y = some (.c (.v q))) (hg : ∀ w, (eqGuard op T x y p q).run P w = .ok () w) (hrun : ∀ w, (binOp op T p q).run P w = .ok r w) :
    Still P ⟨d, .binOp op T x y T', ty, pos, aft, gd⟩ ev h (.c (.v r)) := by
  intro B dom M H w a hh hc he
  have h1 := he x _ hx
  have h2 := he y _ hy
  simp only [Rep, RepC] at h1 h2
  refine ⟨r, ?_, rfl⟩
  simp [execOp, h1, h2, hg, hrun]
theorem eN {op:BinOp} {k k':IntKind} {m n:Int} (w:World):(eqGuard op T x y (.int k m) (.int k' n)).run P w = .ok () w:=by
 cases op<;>simp [eqGuard]
theorem bF6 {op:BinOp} {m n:Bool} (w:World):(eqGuard op T x y (.bool m) (.bool n)).run P w = .ok () w:=by
 cases op<;>simp [eqGuard]
theorem bV9 {op:BinOp} {m n:ByteArray} (w:World):(eqGuard op T x y (.string m) (.string n)).run P w = .ok () w:=by
 cases op<;>simp [eqGuard]
section ints
variable {T':TypeId} {k:IntKind} {m n r:Int} {b:Bool} (hx:ev x=some (.c (.v (.int k m)))) (hy:ev y=some (.c (.v (.int k n))))
include hx hy
theorem dU5 (hr:k.wrap (m+n)=r):Still P ⟨d,.binOp .add T x y T',ty,pos,aft,gd⟩ ev h (.c (.v (.int k r))):=kJ hx hy eN (fun w=>by simp [binOp,Op.intArith,hr])
theorem dU8 (hr:k.wrap (m-n)=r):Still P ⟨d,.binOp .sub T x y T',ty,pos,aft,gd⟩ ev h (.c (.v (.int k r))):=kJ hx hy eN (fun w=>by simp [binOp,Op.intArith,hr])
theorem dU6 (hr:k.wrap (m*n)=r):Still P ⟨d,.binOp .mul T x y T',ty,pos,aft,gd⟩ ev h (.c (.v (.int k r))):=kJ hx hy eN (fun w=>by simp [binOp,Op.intArith,hr])
theorem aE9 (h0:n≠0) (hr:k.wrap (m.tdiv n)=r):Still P ⟨d,.binOp .quo T x y T',ty,pos,aft,gd⟩ ev h (.c (.v (.int k r))):=kJ hx hy eN (fun w=>by simp [binOp,Op.intDiv,hr,h0])
theorem xW (h0:n≠0) (hr:m.tmod n=r):Still P ⟨d,.binOp .rem T x y T',ty,pos,aft,gd⟩ ev h (.c (.v (.int k r))):=kJ hx hy eN (fun w=>by simp [binOp,Op.intDiv,hr,h0])
theorem aD9 (hr:k.wrap (BitVec.ofInt k.bits m &&& BitVec.ofInt k.bits n).toNat=r):Still P ⟨d,.binOp .and T x y T',ty,pos,aft,gd⟩ ev h (.c (.v (.int k r))):=kJ hx hy eN (fun w=>by subst hr;simp [binOp,Op.intBits])
theorem bZ3 (hr:k.wrap (BitVec.ofInt k.bits m ||| BitVec.ofInt k.bits n).toNat=r):Still P ⟨d,.binOp .or T x y T',ty,pos,aft,gd⟩ ev h (.c (.v (.int k r))):=kJ hx hy eN (fun w=>by subst hr;simp [binOp,Op.intBits])
theorem bR3 (hr:k.wrap (BitVec.ofInt k.bits m ^^^ BitVec.ofInt k.bits n).toNat=r):Still P ⟨d,.binOp .xor T x y T',ty,pos,aft,gd⟩ ev h (.c (.v (.int k r))):=kJ hx hy eN (fun w=>by subst hr;simp [binOp,Op.intBits])
theorem eN6 (hr:decide (m=n)=b):Still P ⟨d,.binOp .eql T x y T',ty,pos,aft,gd⟩ ev h (.c (.v (.bool b))):=kJ hx hy eN (fun w=>by subst hr;simp [binOp,Op.intCmp];rfl)
theorem eO1 (hr:decide (m≠n)=b):Still P ⟨d,.binOp .neq T x y T',ty,pos,aft,gd⟩ ev h (.c (.v (.bool b))):=kJ hx hy eN (fun w=>by subst hr;simp [binOp,Op.intCmp,bne];rfl)
theorem eO0 (hr:decide (m<n)=b):Still P ⟨d,.binOp .lss T x y T',ty,pos,aft,gd⟩ ev h (.c (.v (.bool b))):=kJ hx hy eN (fun w=>by subst hr;simp [binOp,Op.intCmp])
theorem eN9 (hr:decide (m<=n)=b):Still P ⟨d,.binOp .leq T x y T',ty,pos,aft,gd⟩ ev h (.c (.v (.bool b))):=kJ hx hy eN (fun w=>by subst hr;simp [binOp,Op.intCmp])
theorem eN8 (hr:decide (n<m)=b):Still P ⟨d,.binOp .gtr T x y T',ty,pos,aft,gd⟩ ev h (.c (.v (.bool b))):=kJ hx hy eN (fun w=>by subst hr;simp [binOp,Op.intCmp])
theorem eN7 (hr:decide (n<=m)=b):Still P ⟨d,.binOp .geq T x y T',ty,pos,aft,gd⟩ ev h (.c (.v (.bool b))):=kJ hx hy eN (fun w=>by subst hr;simp [binOp,Op.intCmp])
end ints
section
variable {T' : TypeId} {k k' : IntKind} {m n r : Int} (hx : ev x = some (.c (.v (.int k m)))) (hy : ev y = some (.c (.v (.int k' n)))) (h0 : 0 <= n)
include T' k k' m n r hx hy h0
theorem bA5 (hr : k.wrap (m * 2 ^ (min n.toNat k.bits)) = r) : Still P ⟨d, .binOp .shl T x y T', ty, pos, aft, gd⟩ ev h (.c (.v (.int k r))) :=
  kJ hx hy eN (fun w => by have : ¬ n < 0 := by omega
                           subst hr; simp [binOp, Op.shift, this])
theorem bA6 (hr : m.fdiv (2 ^ (min n.toNat k.bits)) = r) : Still P ⟨d, .binOp .shr T x y T', ty, pos, aft, gd⟩ ev h (.c (.v (.int k r))) :=
  kJ hx hy eN (fun w => by have : ¬ n < 0 := by omega
                           subst hr; simp [binOp, Op.shift, this])
end
theorem eD3 {op:UnOp} {p r:Value} (hx:ev x=some (.c (.v p))) (hrun:∀w,(Op.unary op p).run P w = .ok r w):Still P ⟨d,.unOp op T x,ty,pos,aft,gd⟩ ev h (.c (.v r)):=by
 intro B dom M H w a hh hc he
 have h1:=he x _ hx
 simp only [Rep,RepC] at h1
 exact ⟨r,by simp [execOp,h1,hrun],rfl⟩
theorem cT8 {b c:Bool} (hx:ev x=some (.c (.v (.bool b)))) (hr:(!b)=c):Still P ⟨d,.unOp .not T x,ty,pos,aft,gd⟩ ev h (.c (.v (.bool c))):=eD3 hx (fun w=>by subst hr;simp [Op.unary])
theorem cT7 {k:IntKind} {m r:Int} (hx:ev x=some (.c (.v (.int k m)))) (hr:k.wrap (0-m)=r):Still P ⟨d,.unOp .neg T x,ty,pos,aft,gd⟩ ev h (.c (.v (.int k r))):=eD3 hx (fun w=>by subst hr;simp [Op.unary,Op.intArith])
theorem sK {k:IntKind} {m r:Int} (hx:ev x=some (.c (.v (.int k m)))) (hr:k.wrap (BitVec.ofInt k.bits (if k.signed then -1 else k.max) ^^^ BitVec.ofInt k.bits m).toNat=r):Still P ⟨d,.unOp .xor T x,ty,pos,aft,gd⟩ ev h (.c (.v (.int k r))):=eD3 hx (fun w=>by subst hr;simp [Op.unary,Op.intBits])
theorem gB (tb:bQ P tab) {S:TypeId} {e es:TyE} {k k':IntKind} {m r:Int} (hS:aS tab S=some es) (hT:aS tab T=some e) (hk:e.kind = .int k) (hx:ev x=some (.c (.v (.int k' m)))) (hr:k.wrap m=r):Still P ⟨d,.convert S T x,ty,pos,aft,gd⟩ ev h (.c (.v (.int k r))):=by
 intro B dom M H w a hh hc he
 have h1:=he x _ hx
 simp only [Rep,RepC] at h1
 refine ⟨.int k r,?_,rfl⟩
 obtain ⟨ds,hds,_⟩:=(aM tb hS).und
 simp [execOp,h1,convert,run_underlying hds,run_underlying ((aM tb hT).int hk),Conv.intToInt,hr]
end ops
end
section
def WF:Option Nat->Fence
 | none=>Fence.wide
 | some l=>Fence.wide.inRound l
def oF (o:Oper):Bool:=match o.op with | .defer _=>false|_=>true
def rI:Code->Bool
 | .seq a b=>rI a&&rI b
 | .cond _ a b=>rI a&&rI b
 | .block _ c=>rI c
 | .loop c=>rI c
 | .region _ ops false=>ops.toList.all oF
 | .region _ ops true=>ops.toList.all oF
 | .skip=>true
 | .ret=>true
 | .exit _=>true
 | _=>false
def wpG (P:Program) (c:Code) (Q:Exit->Act->World->Prop) (a:Act) (w:World):Prop:=∀rd:Option Nat,(rd=none\/rI c=true)->c.wpIn (WF rd) 0 P Q a w
def dJ7 (P:Program) (ops:Array Oper) (Q:Exit->Act->World->Prop) (l:List Oper) (a:Act) (w:World):Prop:=∀rd:Option Nat,(rd=none\/l.all oF=true)->wpListIn (WF rd) 0 P ops Q l a w
theorem bR9 (rd:Option Nat) (f:FuncId):(WF rd).fn f:=by cases rd<;>trivial
theorem cV9 (rd:Option Nat):(WF rd).depth=none:=by cases rd<;>rfl
theorem bS0 {n:Nat} (rd:Option Nat):(WF rd).depth.isSome=true->1<=n:=fun hh=>by simp [cV9] at hh
section
variable {rd:Option Nat} {n:Nat} {P:Program}
include rd n P
theorem cC5 {f:FuncId} {args:Array Value} {w:World} {R:Ending->World->Prop} (h:Calls P f args w R):CallsIn (WF rd) n P f args w R:=by
 have:=callsIn_wide (n:=n).2 h
 cases rd with
 | none=>exact this
 | some l=>exact this
theorem dH9 {row:String} {args:Array Value} {w:World} {R:Value->World->Prop} (h:Rows P row args w R):RowsIn (WF rd) n P row args w R:=by
 have:RowsIn Fence.wide n P row args w R:=fun c cs _=>let ⟨v,w',r,s⟩:=h c cs;⟨v,w',r,stepsIn_wide.2 s⟩
 cases rd with
 | none=>exact this
 | some l=>exact this
theorem bP0 {o:Oper} {a:Act} {w:World} {K:Act->World->Prop} {Q:Exit->Act->World->Prop} (hd:rd=none\/oF o=true) (h:o.wp P a w K Q):o.wpIn (WF rd) n P a w K Q:=by
 refine ⟨fun f _=>bR9 rd f,?_⟩
 have hs:o.semAt (WF rd).round a.eval=execOp a.eval o:=by
  rcases hd with rfl|hd
  ·rfl
  ·cases rd with
   | none=>rfl
   | some l=>exact Oper.semAt_eq _ _ _ (fun c hc=>by rw [oF,hc] at hd;cases hd)
 rw [hs]
 unfold Oper.wp at h
 generalize (execOp a.eval o).run P w=r at *
 cases r with
 | ok x w' =>
  cases x<;>simp only [Oper.upon,Oper.uponIn] at h ⊢ <;>
   first
    | exact h
    | exact ⟨bS0 rd,CallsIn.mono (cC5 h) (fun e w'' he=>by cases e<;>exact he)⟩
    | exact ⟨bS0 rd,dH9 h⟩
    | exact h.elim
 | halt x w'=>cases x<;>simp only [Oper.upon,Oper.uponIn] at h ⊢ <;> exact h
theorem cN8 {o:Oper} {a:Act} {w:World} {K:Act->World->Prop} {Q:Exit->Act->World->Prop} (hd:rd=none\/oF o=true) (h:o.wp P a w K (fun _ _ _=>False)):o.wpIn (WF rd) n P a w K Q:=by
 refine ⟨fun f _=>bR9 rd f,?_⟩
 have hh:=(bP0 (n:=n) hd h).2
 generalize (o.semAt (WF rd).round a.eval).run P w=r at *
 cases r with
 | ok x w' =>
  cases x<;>simp only [Oper.uponIn] at hh ⊢ <;>
   first
    | exact hh
    | exact hh.elim
    | exact ⟨hh.1,CallsIn.mono hh.2 (fun e w'' he=>by cases e<;>first|exact he|exact he.elim|exact (let ⟨_,_,h⟩:=he;h.elim))⟩
    | exact ⟨hh.1,RoundIn.mono hh.2 (fun e w'' he=>by cases e<;>first|exact he|exact he.elim|exact (let ⟨_,_,h⟩:=he;h.elim))⟩
 | halt x w'=>cases x<;>simp only [Oper.uponIn] at hh ⊢ <;> first|exact hh|exact hh.elim
theorem aS0 {ops:Array Oper} {i:Nat} {a:Act} {w:World} {K:Act->World->Prop} {Q:Exit->Act->World->Prop} (hd:rd=none\/∀o,ops[i]? = some o->oF o=true) (h:wpOp P ops (fun _ _ _=>False) i K a w):wpOpIn (WF rd) n P ops Q i K a w:=by
 unfold wpOp at h
 unfold wpOpIn
 cases ho:ops[i]? with
 | none=>rw [ho] at h;exact h
 | some o =>
  rw [ho] at h
  simp only at h ⊢
  split
  ·rename_i hw
   rw [Ak hw] at h
   rcases h with h|⟨_,_,_,h⟩
   ·exact cN8 (hd.imp id fun k=>k o ho) h
   ·exact h.elim
  ·rename_i hw
   rw [Aj hw] at h
   exact ⟨fun f _=>bR9 rd f,h⟩
end
theorem kB {F : Fence} {n : Nat} {P : Program} {md : Region.Mode} {ops : Array Oper} {Q' : Exit -> Act -> World -> Prop} : ∀ (l : List Oper) (k : Nat) (listed : Array Bool) (a : Act) (w : World), (∀ j, l[j]? = ops[k + j]?) ->
    Region.seqB md ops l.length k listed = true -> wpListIn F n P ops Q' l a w -> wpAnyIn F n P md ops Q' l.length listed a w
  | [], _, _, _, _, _, hB, h => ⟨by simpa [Region.seqB] using hB, h⟩
  | o :: l, k, listed, a, w, hl, hB, h => by
    have h0 : ops[k]? = some o := by simpa using (hl 0).symm
    simp only [Au, Region.seqB, Ar, Bq] at hB
    refine ⟨fun h1 => (by rw [hB.1] at h1; cases h1), fun i hi => ?_⟩
    rw [hB.1] at hi
    have hik : i = k := by simpa using hi
    subst hik
    have hw : wpOpIn F n P ops Q' i (wpListIn F n P ops Q' l) a w := by unfold wpOpIn; simp only [h0]; exact h
    exact wpOpIn_mono (fun a' w' h' => kB l (i + 1) _ a' w' (fun j => by have := hl (j + 1); simpa [BO, CP 1 j] using this) hB.2 h') hw
section rules
variable {P:Program} {Q:Exit->Act->World->Prop} {a:Act} {w:World}
theorem kR {c:Code} (h:wpG P c Q a w):c.wp P Q a w:=wpIn_wide.1 (h none (.inl rfl))
theorem oP {c:Code} {Q':Exit->Act->World->Prop} (h:wpG P c Q a w) (hq:∀e a w,Q e a w->Q' e a w):wpG P c Q' a w:=fun rd hr=>wpIn_mono (h rd hr) hq
theorem cW1 (h:Q .normal a w):wpG P .skip Q a w:=fun rd _=>wpIn_skip h
theorem dJ8 (h:Q .ret a w):wpG P .ret Q a w:=fun rd _=>wpIn_ret h
theorem cW0 {id:Nat} (h:Q (.exit id) a w):wpG P (.exit id) Q a w:=fun rd _=>wpIn_exit h
theorem bG3 {rd:Option Nat} {x y:Bool} (h:rd=none\/(x&&y)=true):(rd=none\/x=true)/\(rd=none\/y=true):=by
 rcases h with h|h
 ·exact ⟨.inl h,.inl h⟩
 ·rw [Ar] at h;exact ⟨.inr h.1,.inr h.2⟩
theorem dJ9 {x y:Code} (h:wpG P x (Exit.then (wpG P y Q) Q) a w):wpG P (.seq x y) Q a w:=fun rd hr=>by
 obtain ⟨h1,h2⟩:=bG3 hr
 exact wpIn_seq (wpIn_mono (h rd h1) fun e a w hq=>by cases e<;>first|exact hq rd h2|exact hq)
theorem bC7 {c:Operand} {x y:Code} {t:Bool} (hc:a.eval c = .bool t) (h:wpG P (if t then x else y) Q a w):wpG P (.cond c x y) Q a w:=fun rd hr=>by
 obtain ⟨h1,h2⟩:=bG3 hr
 refine wpIn_cond hc (h rd ?_)
 cases t
 ·exact h2
 ·exact h1
theorem cA3 {id:Nat} {c:Code} (h:wpG P c (Exit.inBlock id Q) a w):wpG P (.block id c) Q a w:=fun rd hr=>wpIn_block (h rd hr)
theorem bC8 {c : Code} (I : Act -> World -> Prop) (μ : Act -> World -> Nat) (h₀ : I a w)
    (round : ∀ a w, I a w -> wpG P c (Exit.then (fun a' w' => I a' w' /\ μ a' w' < μ a w) Q) a w) : wpG P (.loop c) Q a w := fun rd hr => wpIn_loop I μ h₀ fun a w hI => round a w hI rd hr
def nG (P:Program) (c:Code) (Q:Exit->Act->World->Prop):Nat->Act->World->Prop
 | 0,_,_=>False
 | n+1,a,w=>wpG P c (Exit.then (nG P c Q n) Q) a w
theorem aQ7 {c:Code} {n:Nat}:nG P c Q (n+1) a w=wpG P c (Exit.then (nG P c Q n) Q) a w:=rfl
theorem yC {c:Code} (n:Nat) (h:nG P c Q n a w):wpG P (.loop c) Q a w:=by
 classical
 refine bC8 (fun a w=>∃m,nG P c Q m a w) (fun a w=>if hI:∃m,nG P c Q m a w then Classical.choose (least hI) else 0) ⟨n,h⟩ fun a w hI=>?_
 obtain ⟨hm,hmin⟩:=Cn (least hI)
 have e:(if hI:∃m,nG P c Q m a w then Classical.choose (least hI) else 0)=Classical.choose (least hI):=dif_pos hI
 rw [e]
 generalize Classical.choose (least hI)=m at hm hmin
 cases m with
 | zero=>exact hm.elim
 | succ m =>
  refine oP hm fun ex a' w' hq=>?_
  cases ex with
  | normal =>
   have hJ:∃m,nG P c Q m a' w':=⟨m,hq⟩
   refine ⟨hJ,?_⟩
   rw [dif_pos hJ]
   have:=(Cn (least hJ)).2 m hq
   omega
  | _=>exact hq
where
 least {p:Nat->Prop} (hp:∃m,p m):∃m,p m/\∀k,p k->m<=k:=by
  obtain ⟨m,hm⟩:=hp
  induction m using Nat.strongRecOn with
  | _ m ih =>
   by_cases h:∃k,k<m/\p k
   ·obtain ⟨k,hk,hpk⟩:=h
    exact ih k hk hpk
   ·refine ⟨m,hm,fun k hk=>?_⟩
    rcases AE k m with h1|h1
    ·exact absurd ⟨k,h1,hk⟩ h
    ·exact h1
theorem aF8 {id:Nat} {l:List Oper} (h:dJ7 P l.toArray Q l a w):wpG P (.region id l.toArray false) Q a w:=fun rd hr=>wpIn_region_lit (h rd hr)
theorem eO {ops : Array Oper} {rest : List Oper} {o : Oper}
    (h : ∀ K : Act -> World -> Prop, (∀ a w, dJ7 P ops Q rest a w -> K a w) ->
      if Region.wanted o (yielded ops a.tmps) then o.wp P a w K Q else K (a.put o.dst undef) w) : dJ7 P ops Q (o :: rest) a w := fun rd hr => by
  rw [BA] at hr
  obtain ⟨h1, h2⟩ := bG3 hr
  refine wpListIn_step fun K hK => ?_
  have := h K (fun a w hl => hK a w (hl rd h2))
  split
  · rename_i hw; rw [Ak hw] at this; exact bP0 h1 this
  · rename_i hw; rw [Aj hw] at this; exact ⟨fun f _ => bR9 rd f, this⟩
end rules
def iX (P : Program) (fn : Func) (tmps : Array Value) (R : Ending -> World -> Prop) : List Deferred -> World -> Prop
  | [], w => ∃ v, (results fn tmps).run P w = .ok v w /\ R (.returned v) w
  | d :: ds, w => (∃ r w', d.target = .collected r /\ (Instr.takeDeferred r).run P w = .ok [] w' /\ iX P fn tmps R ds w') \/
      (∃ fv cap f args, d.target = .fn fv cap /\ (invoke d.target d.args).run P w = .ok (.enter f args) w /\ CallsD P f args .returning w fun e u' w' => (∃ v, e = .returned v) /\ u' = .returning /\ iX P fn tmps R ds w')
theorem sV {P : Program} {fn : Func} {tmps : Array Value} {R : Ending -> World -> Prop} : ∀ (ds : List Deferred) (w : World) (fr : Frame) (cs : List Frame), fr.mode = .returning -> fr.defers = ds -> fr.tmps = tmps -> P.funcs[fr.fn]? = some fn -> fr.kind = .normal -> iX P fn tmps R ds w ->
    ∃ e w' fr', R e w' /\ Comes P (lone fr cs w) (lone fr' cs w') e /\ fr'.fn = fr.fn /\ fr'.leaving P w' e := by
  intro ds
  induction ds with
  | nil =>
    intro w fr cs hu hd ht hf hk h
    obtain ⟨v, hr, hR⟩ := h
    exact ⟨.returned v, w, fr, hR, Steps.refl P _, rfl, hu, hd, hk, fn, hf, ht ▸ hr⟩
  | cons d ds ih =>
    intro w fr cs hu hd ht hf hk h
    rcases h with ⟨r, w', h1, h2, h3⟩ | ⟨fv, cap, f, args, h1, h2, h3⟩
    · have s1 := step_collected (cs := cs) (by rw [hu]; simp) hd h1 h2
      obtain ⟨e', w'', fr', hR', hs', hfn', hl'⟩ := ih w' { fr with defers := [] ++ ds } cs hu rfl ht hf hk h3
      exact ⟨e', w'', fr', hR', Comes.of_steps (.one s1) hs', hfn', hl'⟩
    · have s1 := step_defer (cs := cs) (by rw [hu]; simp) hd h1 h2
      obtain ⟨e, u', w', frX, ⟨⟨v, rfl⟩, rfl, hR⟩, hsteps, hkX, hgo⟩ := h3 { fr with defers := ds } cs hu
      have s2 := step_going_returned (c := { { fr with defers := ds } with mode := .returning }) (cs := cs) hkX hgo
      obtain ⟨e', w'', fr', hR', hs', hfn', hl'⟩ := ih w' { { { fr with defers := ds } with mode := .returning } with mode := settle .returning } cs rfl rfl ht hf hk hR
      exact ⟨e', w'', fr', hR', Comes.of_steps (.head s1 (Steps.trans hsteps (.one s2))) hs', hfn', hl'⟩
def dV8 (P:Program) (fn:Func) (R:Ending->World->Prop):Exit->Act->World->Prop
 | .normal,a,w=>iX P fn a.tmps R a.defers w
 | .ret,a,w=>iX P fn a.tmps R a.defers w
 | _,_,_=>False
theorem gW {P : Program} {f : FuncId} {fn : Func} {c : Code} {args : Array Value} {w : World} {R : Ending -> World -> Prop} (hf : P.funcs[f]? = some fn) (hb : fn.body = some c)
    (h : c.wp P (dV8 P fn R) { tmps := args ++ Array.replicate (fn.ntmps - args.size) undef, defers := [] } w) : Calls P f args w R := by
  intro cs
  let b : Frame := { (default : Frame) with fn := f, kind := .normal }
  have henter : Frame.enter P f args .normal = b.at { tmps := args ++ Array.replicate (fn.ntmps - args.size) undef, defers := [] } [.code c] := by
    simp [Frame.enter, Frame.at, hf, hb, b]
  obtain ⟨e, a', w', hq, harr⟩ := h b [] cs
  rw [<- henter] at harr
  cases e with
  | normal =>
    obtain ⟨e', w'', fr', hR, hs, hfn, hl⟩ := sV a'.defers w' { b.at a' [] with mode := .returning } cs rfl rfl rfl hf rfl hq
    exact ⟨e', w'', fr', hR, Comes.of_steps (Steps.trans harr (.one step_end)) hs, hfn, hl⟩
  | ret =>
    obtain ⟨todo, hs₀⟩ := harr
    obtain ⟨e', w'', fr', hR, hs, hfn, hl⟩ := sV a'.defers w' { b.at a' todo with mode := .returning } cs rfl rfl rfl hf rfl hq
    exact ⟨e', w'', fr', hR, Comes.of_steps hs₀ hs, hfn, hl⟩
  | panic chain => exact hq.elim
  | exit id => exact hq.elim
  | goto l => exact hq.elim
  | outgrown => exact hq.elim
theorem aM0 {l:List Oper} {p:Oper->Bool} (h:l.all p=true) {i:Nat} {o:Oper} (ho:l.toArray[i]? = some o):p o=true:=Aw.1 h o (Af (by simpa using ho))
end
section
abbrev cD:=List (Option FuncId × List AV)
def xB:FuncId:=1000000007
def cE6:List Value->Deferred
 | [.pointer (some p)]=>{target := .collected p.block,args := #[]}
 | us=>{target := .fn (.func 0) us.toArray,args := #[]}
def bN5 (f:FuncId) (us:List Value):Deferred:=match Nat.beq f xB with
 | false=>{target := .fn (.func f) us.toArray,args := #[]}
 | true=>cE6 us
theorem aA8 {f:FuncId} {us:List Value} (h:Nat.beq f xB=false):bN5 f us={target := .fn (.func f) us.toArray,args := #[]}:=by rw [bN5,h]
def DefRep (fr:List Value) (C:Cx):cD->List Deferred->Prop
 | [],ds=>ds=[]
 | (some f,caps)::r,ds=>∃us ds',ds=bN5 f us::ds'/\RepL C caps us/\DefRep fr C r ds'
 | (none,xs)::r,ds=>RepL C xs fr/\DefRep fr C r ds
theorem DefRep.ext {fr:List Value} {C C':Cx} (h:Ext C C'):∀{l:cD} {ds:List Deferred},DefRep fr C l ds->DefRep fr C' l ds
 | [],ds,hd=>hd
 | (some f,caps)::r,ds,hd=>by
  obtain ⟨us,ds',h1,h2,h3⟩:=hd
  exact ⟨us,ds',h1,RepL.ext h _ _ h2,DefRep.ext h h3⟩
 | (none,xs)::r,ds,hd=>⟨RepL.ext h _ _ hd.1,DefRep.ext h hd.2⟩
abbrev lt (n:Nat):Nat->Prop:=fun id=>id<n
def cx (B:Bs) (n:Nat) (M:Nat->Option Nat) (h:aO) (w:World):Cx:=⟨lt n,M,bF B (lt n) M (lk h),w⟩
def tN (B:Bs) (sz n:Nat) (env:Env) (h:aO) (dfs:cD) (a:Act) (w:World):Prop :=
 ∃M,ConcH B (lt n) M (lk h) w/\a.tmps.size=sz/\(∀t av,lkE env t=some av->Rep (cx B n M h w) av (a.tmps.getD t undef))/\DefRep B.fr (cx B n M h w) dfs a.defers
abbrev AK:=Exit->Nat->Env->aO->cD->Prop
def KC (B:Bs) (sz:Nat) (K:AK) (e:Exit) (a:Act) (w:World):Prop:=∃n env h dfs,K e n env h dfs/\tN B sz n env h dfs a w
def AW (P:Program) (sz:Nat) (c:Code) (K:AK) (n:Nat) (env:Env) (h:aO) (dfs:cD):Prop :=
 ∀B a w,tN B sz n env h dfs a w->wpG P c (KC B sz K) a w
def AWL (P:Program) (ops:Array Oper) (sz:Nat) (l:List Oper) (K:AK) (n:Nat) (env:Env) (h:aO) (dfs:cD):Prop :=
 ∀B a w,tN B sz n env h dfs a w->dJ7 P ops (KC B sz K) l a w
def bR7 (next:Nat->Env->aO->cD->Prop) (K:AK):AK
 | .normal,n,env,h,dfs=>next n env h dfs
 | e,n,env,h,dfs=>K e n env h dfs
def xM (id:Nat) (K:AK):AK
 | .exit id',n,env,h,dfs=>match Nat.beq id' id with|true=>K .normal n env h dfs|false=>K (.exit id') n env h dfs
 | e,n,env,h,dfs=>K e n env h dfs
section rules
variable {P:Program} {sz n:Nat} {env:Env} {h:aO} {dfs:cD} {K:AK}
theorem dV6 {x y:Code} (hx:AW P sz x (bR7 (AW P sz y K) K) n env h dfs):AW P sz (.seq x y) K n env h dfs:=by
 intro B a w hc
 refine dJ9 (oP (hx B a w hc) fun e a w hq=>?_)
 obtain ⟨n',env',h',d',hk,hc'⟩:=hq
 cases e<;>first|exact hk B a w hc'|exact ⟨n',env',h',d',hk,hc'⟩
theorem cY3 (hk:K .normal n env h dfs):AW P sz .skip K n env h dfs:=fun B a w hc=>cW1 ⟨n,env,h,dfs,hk,hc⟩
theorem dV5 (hk:K .ret n env h dfs):AW P sz .ret K n env h dfs:=fun B a w hc=>dJ8 ⟨n,env,h,dfs,hk,hc⟩
theorem cY0 {id:Nat} (hk:K (.exit id) n env h dfs):AW P sz (.exit id) K n env h dfs:=fun B a w hc=>cW0 ⟨n,env,h,dfs,hk,hc⟩
theorem cB8 {id:Nat} {c:Code} (hx:AW P sz c (xM id K) n env h dfs):AW P sz (.block id c) K n env h dfs:=by
 intro B a w hc
 refine cA3 (oP (hx B a w hc) fun e a w hq=>?_)
 obtain ⟨n',env',h',d',hk,hc'⟩:=hq
 cases e with
 | exit id' =>
  simp only [xM] at hk
  simp only [Exit.inBlock]
  split at hk
  ·rename_i he
   rw [Ak (Ae he)]
   exact ⟨n',env',h',d',hk,hc'⟩
  ·rename_i he
   rw [Aj (fun e=>by subst e;rw [BP] at he;cases he)]
   exact ⟨n',env',h',d',hk,hc'⟩
 | _=>exact ⟨n',env',h',d',hk,hc'⟩
theorem dN {B:Bs} {a:Act} {w:World} {M:Nat->Option Nat} (he:∀t av,lkE env t=some av->Rep (cx B n M h w) av (a.tmps.getD t undef)):∀x av,evA env x=some av->Rep (cx B n M h w) av (a.eval x):=by
 intro x av hx
 cases x with
 | tmp t=>exact he t av hx
 | const v=>simp only [evA,Option.some.injEq] at hx;subst hx;simp [Rep,RepC,Act.eval]
 | global g=>cases hx
 | func f=>simp only [evA,Option.some.injEq] at hx;subst hx;exact ⟨[],rfl,rfl⟩
section
variable {c:Operand} {x y:Code} {b:Bool} (hb:evA env c=some (.c (.v (.bool b))))
include c x y b hb
theorem bK4 (ht:b=true->AW P sz x K n env h dfs) (hf:b=false->AW P sz y K n env h dfs):AW P sz (.cond c x y) K n env h dfs:=by
 intro B a w hc
 obtain ⟨M,h1,h2,h3,h4⟩:=id hc
 have:=dN h3 c _ hb
 simp only [Rep,RepC] at this
 cases b with
 | true=>exact bC7 this (ht rfl B a w hc)
 | false=>exact bC7 this (hf rfl B a w hc)
theorem zC (hb':b=true) (ht:AW P sz x K n env h dfs):AW P sz (.cond c x y) K n env h dfs:=by
 subst hb';exact bK4 hb (fun _=>ht) (fun h=>by cases h)
theorem zB (hb':b=false) (ht:AW P sz y K n env h dfs):AW P sz (.cond c x y) K n env h dfs:=by
 subst hb';exact bK4 hb (fun h=>by cases h) (fun _=>ht)
end
def cU (n:Nat) (env:Env) (h:aO) (dfs:cD) (N:Nat) (E:Env) (Hp:aO) (D:cD):Prop:=∀B sz a w,tN B sz n env h dfs a w->tN B sz N E Hp D a w
theorem oR {c:Code} {N:Nat} {E:Env} {Hp:aO} {D:cD} (hw:cU n env h dfs N E Hp D) (hx:AW P sz c K N E Hp D):AW P sz c K n env h dfs:=fun B a w hc=>hx B a w (hw B sz a w hc)
theorem kN (p:Nat->Prop) (hp:∃m,p m):∃m,p m/\∀k,p k->m<=k:=by
 obtain ⟨m,hm⟩:=hp
 induction m using Nat.strongRecOn with
 | _ m ih =>
  by_cases h:∃k,k<m/\p k
  ·obtain ⟨k,hk,hpk⟩:=h
   exact ih k hk hpk
  ·refine ⟨m,hm,fun k hk=>?_⟩
   rcases AE k m with h1|h1
   ·exact absurd ⟨k,h1,hk⟩ h
   ·exact h1
theorem cY1 {ι : Type} {c : Code} (N : Nat) (E : ι -> Env) (Hp : ι -> aO) (D : cD) (Inv : ι -> Prop) (μ : ι -> Nat) (i0 : ι) (h0 : Inv i0) (hw : cU n env h dfs N (E i0) (Hp i0) D)
    (round : ∀ i, Inv i -> AW P sz c (bR7 (fun n' env' h' dfs' => ∃ j, Inv j /\ μ j < μ i /\ cU n' env' h' dfs' N (E j) (Hp j) D) K) N (E i) (Hp i) D) : AW P sz (.loop c) K n env h dfs := by
  intro B a w hc
  classical
  let I : Act -> World -> Prop := fun a w => ∃ i, Inv i /\ tN B sz N (E i) (Hp i) D a w
  let p : Act -> World -> Nat -> Prop := fun a w m => ∃ i, Inv i /\ tN B sz N (E i) (Hp i) D a w /\ μ i = m
  let μ' : Act -> World -> Nat := fun a w => if hI : ∃ m, p a w m then Classical.choose (kN _ hI) else 0
  refine bC8 I μ' ⟨i0, h0, hw B sz a w hc⟩ fun a w hI => ?_
  have hI' : ∃ m, p a w m := by
    obtain ⟨i, h1, h2⟩ := hI
    exact ⟨μ i, i, h1, h2, rfl⟩
  obtain ⟨⟨i, h1, h2, h3⟩, _⟩ := Cn (kN _ hI')
  have hm : μ' a w = μ i := by simp only [μ', dif_pos hI', h3]
  refine oP (round i h1 B a w h2) fun e a' w' hq => ?_
  obtain ⟨n', env', h', d', hk, hc'⟩ := hq
  cases e with
  | normal =>
    obtain ⟨j, hj1, hj2, hj3⟩ := hk
    have hcj := hj3 B sz a' w' hc'
    refine ⟨⟨j, hj1, hcj⟩, ?_⟩
    have hJ : ∃ m, p a' w' m := ⟨μ j, j, hj1, hcj, rfl⟩
    have : μ' a' w' <= μ j := by
      simp only [μ', dif_pos hJ]
      exact (Cn (kN _ hJ)).2 _ ⟨j, hj1, hcj, rfl⟩
    omega
  | _ => exact ⟨n', env', h', d', hk, hc'⟩
theorem rR {id:Nat} {l:List Oper} (hx:AWL P l.toArray sz l K n env h dfs):AW P sz (.region id l.toArray false) K n env h dfs:=fun B a w hc=>aF8 (hx B a w hc)
theorem cY5 {ops:Array Oper} (hk:K .normal n env h dfs):AWL P ops sz [] K n env h dfs:=fun B a w hc rd _=>⟨n,env,h,dfs,hk,hc⟩
def gJ (env:Env) (d:Option Tmp) (v:AV):Env:=match d with|some t=>(t,v)::env|none=>env
theorem nF {Δ h:aO} {k:Nat} {o:AObj} (ho:lk Δ k=some o):lk (Δ ++ h) k=some o:=by
 induction Δ with
 | nil=>cases ho
 | cons p Δ ih =>
  obtain ⟨i,q⟩:=p
  rw [AF,cA]
  rw [cA] at ho
  split
  ·rename_i e;rw [Ak e] at ho;exact ho
  ·rename_i e;rw [Aj e] at ho;exact ih ho
theorem lB {Δ h:aO} {k:Nat} (ho:∀p ∈ Δ,p.1≠k):lk (Δ ++ h) k=lk h k:=by
 induction Δ with
 | nil=>rfl
 | cons p Δ ih =>
  obtain ⟨i,q⟩:=p
  rw [AF,cA,Aj (ho (i,q) aU)]
  exact ih fun p hp=>ho p (by simp [hp])
theorem aX3 {n n':Nat} (h:n<=n'):ad (lt n) n n'=lt n':=by
 funext id
 simp only [ad,lt,BD]
 omega
theorem kV {B : Bs} {a : Act} {w w' : World} {M M' : Nat -> Option Nat} {n' : Nat} {h' : aO} (hs : a.tmps.size = sz) (he : ∀ t av, lkE env t = some av -> Rep (cx B n M h w) av (a.tmps.getD t undef))
    (hext : Ext (cx B n M h w) (cx B n' M' h' w')) {d : Option Tmp} {v : AV} {u : Value} (hd : ∀ t, d = some t -> t < sz) (hv : Rep (cx B n' M' h' w') v u) :
    (a.put d u).tmps.size = sz /\ (∀ t av, lkE (gJ env d v) t = some av -> Rep (cx B n' M' h' w') av ((a.put d u).tmps.getD t undef)) /\ (a.put d u).defers = a.defers := by
  cases d with
  | none => exact ⟨hs, fun t av ht => Rep.ext hext _ _ (he t av ht), rfl⟩
  | some k =>
    have hk := hd k rfl
    refine ⟨by simp [Act.put, hs], fun t av ht => ?_, rfl⟩
    simp only [gJ, eZ] at ht
    by_cases hkt : k = t
    · subst hkt
      rw [Ak rfl] at ht
      injection ht with ht
      subst ht
      simp only [Act.put]
      rw [show (a.tmps.setIfInBounds k u).getD k undef = u by simp [hs, hk]]
      exact hv
    · rw [Aj hkt] at ht
      simp only [Act.put]
      rw [show (a.tmps.setIfInBounds k u).getD t undef = a.tmps.getD t undef by simp [Ba hkt]]
      exact Rep.ext hext _ _ (he t av ht)
def guardA (ops:Array Oper) (env:Env) (o:Oper) (b:Bool):Prop :=
 match o.guard with
 | none=>b=true
 | some (j,want)=>∃t,(ops[j]?).bind (·.dst)=some t/\((∃c,lkE env t=some (.c (.v (.bool c)))/\(c==want)=b)\/(lkE env t=some (.c (.v undef))/\b=false))
theorem nJ {ops:Array Oper} {tmps:Array Value} {j t:Nat} (h1:(ops[j]?).bind (·.dst)=some t) (h4:tmps.getD t undef=undef):yielded ops tmps j=none:=by
 unfold yielded
 rw [h1]
 simp only [Al]
 cases hq:tmps[t]? with
 | none=>rfl
 | some q =>
  have:q=undef:=by rw [<- h4];simp [hq]
  subst this
  rfl
theorem guardA.wanted {ops : Array Oper} {o : Oper} {b : Bool} {B : Bs} {a : Act} {w : World} {M : Nat -> Option Nat} (hg : guardA ops env o b) (he : ∀ t av, lkE env t = some av -> Rep (cx B n M h w) av (a.tmps.getD t undef)):
    Region.wanted o (yielded ops a.tmps) = b := by
  unfold guardA at hg
  unfold Region.wanted
  cases hgd : o.guard with
  | none => rw [hgd] at hg; exact hg.symm
  | some p =>
    obtain ⟨j, want⟩ := p
    rw [hgd] at hg
    obtain ⟨t, h1, h2⟩ := hg
    rcases h2 with ⟨c, h2, h3⟩ | ⟨h2, rfl⟩
    rotate_left
    · have h4 := he t _ h2
      simp only [Rep, RepC] at h4
      simp [nJ h1 h4]
    have h4 := he t _ h2
    simp only [Rep, RepC] at h4
    have hlt : t < a.tmps.size := by
      rcases AE t a.tmps.size with h1 | h1
      · exact h1
      · simp [h1, undef] at h4
    have : yielded ops a.tmps j = some c := by
      unfold yielded
      rw [h1]
      have h5 : a.tmps[t]? = some (.bool c) := by
        rw [<- h4]
        simp [hlt]
      simp [h5]
    simp only [this]
    rw [<- h3]
    cases c <;> cases want <;> rfl
end rules
end
section
section steps
variable {P:Program} {sz n:Nat} {env:Env} {h:aO} {dfs:cD} {K:AK} {ops:Array Oper} {rest:List Oper} {o:Oper}
def iD (d:Option Tmp) (sz:Nat):Bool:=match d with|some t=>Nat.blt t sz|none=>true
theorem fD {d:Option Tmp} (h:iD d sz=true):∀t,d=some t->t<sz:=by
 intro t ht;subst ht;simpa [iD,AJ] using h
theorem tQ {v : AV} {Δ : aO} {n' : Nat} (hg : guardA ops env o true) (hd : iD o.dst sz = true) (hn : n <= n') (hA : Adds P o (evA env) h v Δ n n') (hcov : ∀ id, n <= id -> id < n' -> (lk Δ id).isSome = true) (hkeys : ∀ p ∈ Δ, n <= p.1)
    (next : AWL P ops sz rest K n' (gJ env o.dst v) (Δ ++ h) dfs) : AWL P ops sz (o :: rest) K n env h dfs := by
  intro B a w hc
  obtain ⟨M, h1, h2, h3, h4⟩ := hc
  refine eO fun K' hK' => ?_
  rw [Ak (hg.wanted h3)]
  have e1 : ∀ id, id < n -> lk (Δ ++ h) id = lk h id := fun id hid => lB fun p hp e => by have := hkeys p hp; omega
  have e2 : ∀ id, n <= id -> id < n' -> lk (Δ ++ h) id = lk Δ id := fun id h5 h6 => by
    obtain ⟨o', ho'⟩ := AN.1 (hcov id h5 h6)
    rw [nF ho', ho']
  have eok : bF B (lt n) M (lk (Δ ++ h)) = bF B (lt n) M (lk h) := by
    funext b
    unfold bF
    simp only [BD]
    exact eF9
  have h1' : ConcH B (lt n) M (lk (Δ ++ h)) w := by
    refine ⟨h1.fr, fun id o hid hH => ?_, fun id id' o o' g k1 k2 k3 k4 => h1.inj id id' o o' g k1 k2 bM9 bM7, fun id o g k1 k2 => h1.lo id o g k1 bN0⟩
    rw [eok]
    exact h1.obj id o hid aI2
  refine hA B (lt n) M (lk (Δ ++ h)) w a K' (KC B sz K) (fun id o k1 k2 => by rw [e1 id k2]; exact k1) (fun id k1 k2 => ⟨by simp only [lt]; omega, e2 id k1 k2⟩) h1' (by rw [eok]; exact dN h3) ?_
  intro u w' M' hext hcc hv
  rw [aX3 hn] at hext hcc hv
  rw [eok] at hext
  obtain ⟨p1, p2, p3⟩ := kV (h' := Δ ++ h) (M' := M') h2 h3 hext (fD hd) hv
  exact hK' _ _ (next B _ _ ⟨M', hcc, p1, p2, by rw [p3]; exact h4.ext hext⟩)
theorem bT5 {v:AV} (hg:guardA ops env o true) (hd:iD o.dst sz=true) (hA:Still P o (evA env) h v) (next:AWL P ops sz rest K n (gJ env o.dst v) h dfs):AWL P ops sz (o::rest) K n env h dfs :=
 tQ hg hd (Ah _) hA.adds (fun id h1 h2=>by omega) aU next
theorem cY4 {v:AV} (hg:guardA ops env o true) (hd:iD o.dst sz=true) (hA:Adds P o (evA env) h v [] n n) (next:AWL P ops sz rest K n (gJ env o.dst v) h dfs):AWL P ops sz (o::rest) K n env h dfs :=
 tQ hg hd (Ah _) hA (fun id h1 h2=>by omega) aU next
theorem cY6 {v:AV} {obj:AObj} (hlv:obj.live=some obj) (hg:guardA ops env o true) (hd:iD o.dst sz=true) (hA:Adds P o (evA env) h v [(n,obj)] n (n+1)) (next:AWL P ops sz rest K (n+1) (gJ env o.dst v) ((n,obj)::h) dfs):AWL P ops sz (o::rest) K n env h dfs :=
 tQ hg hd (BI _) hA (fun id h1 h2=>by
  obtain rfl:id=n:=by omega
  rw [cA,Ak rfl,hlv];rfl) aU next
theorem cC3 (hg:guardA ops env o false) (hd:iD o.dst sz=true) (next:AWL P ops sz rest K n (gJ env o.dst (.c (.v undef))) h dfs):AWL P ops sz (o::rest) K n env h dfs:=by
 intro B a w hc
 obtain ⟨M,h1,h2,h3,h4⟩:=hc
 refine eO fun K' hK'=>?_
 rw [Aj (by rw [hg.wanted h3];simp)]
 obtain ⟨p1,p2,p3⟩:=kV (v := .c (.v undef)) (u:=undef) h2 h3 (Ext.refl _) (fD hd) (by simp [Rep,RepC])
 exact hK' _ _ (next B _ _ ⟨M,h1,p1,p2,by rw [p3];exact h4⟩)
theorem aE {ops:Array Oper} {d:Option Tmp} {op:Op} {ty:TypeId} {pos:String} {aft:Array Edge}:guardA ops env ⟨d,op,ty,pos,aft,none⟩ true:=rfl
theorem cI {ops:Array Oper} {d:Option Tmp} {op:Op} {ty:TypeId} {pos:String} {aft:Array Edge} {j:Nat} {want b:Bool} {t:Tmp} {c:Bool} (h1:(ops[j]?).bind (·.dst)=some t) (h2:lkE env t=some (.c (.v (.bool c)))) (h3:(c==want)=b):guardA ops env ⟨d,op,ty,pos,aft,some (j,want)⟩ b:=⟨t,h1,.inl ⟨c,h2,h3⟩⟩
theorem aO7 {ops:Array Oper} {d:Option Tmp} {op:Op} {ty:TypeId} {pos:String} {aft:Array Edge} {j:Nat} {want:Bool} {t:Tmp} (h1:(ops[j]?).bind (·.dst)=some t) (h2:lkE env t=some (.c (.v undef))):guardA ops env ⟨d,op,ty,pos,aft,some (j,want)⟩ false:=⟨t,h1,.inr ⟨h2,rfl⟩⟩
theorem ConcH.turn {B : Bs} {M : Nat -> Option Nat} {w w' : World} (hc : ConcH B (lt n) M (lk h) w) {id g : Nat} {o o' : AObj} (hlv : o'.live = some o') (hid : id < n) (ho : lk h id = some o) (hM : M id = some g)
    (hos : w'.os = w.os) (htp : w'.tape = w.tape) (hou : w'.output = w.output) (hsz : w'.heap.size = w.heap.size) (hbl : ∀ k, k ≠ g -> w'.heap[k]? = w.heap[k]?) (hsh : w'.shape? g = w.shape? g)
    (hob : Ext (cx B n M h w) (cx B n M ((id, o') :: h) w') -> ObjRep (cx B n M ((id, o') :: h) w') (some g) o') :
    ConcH B (lt n) M (lk ((id, o') :: h)) w' /\ Ext (cx B n M h w) (cx B n M ((id, o') :: h) w') := by
  have hlk : ∀ k, k ≠ id -> lk ((id, o') :: h) k = lk h k := fun k hk => by rw [cA, Aj (fun e => hk e.symm)]
  have hlk0 : lk ((id, o') :: h) id = some o' := by rw [cA, Ak rfl, hlv]
  have hok : ∀ b, bF B (lt n) M (lk h) b -> bF B (lt n) M (lk ((id, o') :: h)) b /\ b ≠ g := fun b hb => by
    refine ⟨⟨hb.1, fun k ok hk hH he => ?_⟩, fun e => hb.2 id o hid ho (by rw [hM, e])⟩
    by_cases hki : k = id
    · subst hki; exact hb.2 k o hk ho he
    · rw [hlk k hki] at hH; exact hb.2 k ok hk hH he
  have hext : Ext (cx B n M h w) (cx B n M ((id, o') :: h) w') := by
    refine ⟨fun k hk => ⟨hk, rfl⟩, fun b hb hl => ⟨(hok b hb).1, by simp only [cx] at hl ⊢; omega, hbl b (hok b hb).2⟩, shp fun b x hx => ?_⟩
    simp only [cx] at hx ⊢
    by_cases hbg : b = g
    · subst hbg; rw [hsh]; exact hx
    · rw [eC (hbl b hbg)]; exact hx
  refine ⟨⟨⟨hos.trans hc.fr.os, htp.trans hc.fr.tape, hou.trans hc.fr.output, by rw [hsz]; exact hc.fr.size, fun k h1 h2 => ?_⟩, fun k ok hk hH => ?_, fun k k' ok ok' g' k1 k2 k3 k4 k5 k6 => ?_, fun k ok g' k1 k2 k3 => ?_⟩, hext⟩
  · rw [hbl k (fun e => ?_)]
    · exact hc.fr.block k h1 h2
    · subst e
      rcases hc.lo id o k hid ho hM with h3 | h3
      · omega
      · exact h2 h3
  · by_cases hki : k = id
    · subst hki
      rw [hlk0] at hH
      injection hH with hH
      subst hH
      rw [hM]
      exact hob hext
    · rw [hlk k hki] at hH
      have h3 := hc.obj k ok hk hH
      refine h3.ext hext (fun j hj => hbl j (fun e => ?_))
      subst e
      exact hki (hc.inj k id ok o j hk hid hH ho hj hM)
  · have get : ∀ k ok, lk ((id, o') :: h) k = some ok -> ∃ ok', lk h k = some ok' := fun k ok hk => by
      by_cases hki : k = id
      · subst hki; exact ⟨o, ho⟩
      · rw [hlk k hki] at hk; exact ⟨ok, hk⟩
    obtain ⟨q1, hq1⟩ := get k ok k3
    obtain ⟨q2, hq2⟩ := get k' ok' k4
    exact hc.inj k k' q1 q2 g' k1 k2 hq1 hq2 k5 k6
  · by_cases hki : k = id
    · subst hki; exact hc.lo k o g' hid ho k3
    · rw [hlk k hki] at k2; exact hc.lo k ok g' k1 k2 k3
theorem fE {w:World} {g:Nat} {us vs:List Value} {T:TypeId} {fz:Nat × Nat} (h:w.heap[g]? = some (.cells us.toArray T fz)) (hl:vs.length=us.length):(w.setRow g vs.toArray).shape? g=w.shape? g:=by
 unfold World.shape?
 rw [setRow_heap w g _ _ T _ h,h]
 simp [hl]
theorem gH {w : World} {T T' : TypeId} {e : TyE} (hT : TyOk P T e) {g off : Nat} {cur vs : List Value} {v : Value} (hg : w.heap[g]? = some (.cells cur.toArray T' (0, 0))) (hv : v.cells.toList = vs) (hk : vs.length = e.size) (hfit : off + vs.length <= cur.length) (h1 : ∀ u ∈ vs, u.oneCell' = true) :
    (storeVar T ⟨g, off, none⟩ v).run P w = .ok () (w.setRow g (cur.take off ++ vs ++ cur.drop (off + vs.length)).toArray) := by
  have hst := run_storeCells_at P g off T' vs 0 cur.toArray w hg (by simpa using hfit) h1
  have hs := hT.sizeOf w
  have hsz : v.cells.size = e.size := by rw [<- hk, <- hv]; simp
  simp only [storeVar, Sem.run_bind, hs, Result.andThen_ok]
  simp [hsz, hv, hst]
variable {tab:Tab} {T ty:TypeId} {x y:Operand} {pos:String} {aft:Array Edge} {gd:Option (Nat × Bool)}
section
variable (tb : bQ P tab) {e : TyE} (hg : guardA ops env ⟨none, .store T x y, ty, pos, aft, gd⟩ true) (hT : aS tab T = some e) (hk : Nat.beq e.size 1 = true) {id off : Nat} {T' : TypeId}
include tb e hg hT hk id off T'
theorem bD8 {cs : List AV} {v : AV} (hx : evA env x = some (.ref id off)) (hy : evA env y = some v) (h1 : v.one = true) (ho : lk h id = some (.blk T' cs)) (hfit : off < cs.length)
    (next : AWL P ops sz rest K n env ((id, .blk T' (cs.set off v)) :: h) dfs) : AWL P ops sz (⟨none, .store T x y, ty, pos, aft, gd⟩ :: rest) K n env h dfs := by
  intro B a w hc
  obtain ⟨M, c1, c2, c3, c4⟩ := hc
  refine eO fun K' hK' => ?_
  rw [Ak (hg.wanted c3)]
  have hp := dN c3 x _ hx
  have hv := dN c3 y _ hy
  simp only [Rep] at hp
  obtain ⟨hid, g, hM, hp⟩ := hp
  obtain ⟨us, hb, hus⟩ := iL (fun id o h _ => h) c1 ho hid hM
  obtain ⟨o1, o2⟩ := hv.one h1
  have hsz : e.size = 1 := Ae hk
  have hlen : off + 1 <= us.length := by rw [hus.length]; omega
  have hrun := gH (P := P) (w := w) (aM tb hT) (g := g) (off := off) (cur := us) (vs := [a.eval y]) (v := a.eval y) hb (by rw [o2]) (by simp [hsz]) hlen (by simpa using o1)
  have hset : us.take off ++ [a.eval y] ++ us.drop (off + [a.eval y].length) = us.set off (a.eval y) := by
    rw [BF]
    rw [Ak aA]
    simp
  rw [hset] at hrun
  unfold Oper.wp execOp
  simp only [hp, Instr.storeAt, Instr.sureAddr, Sem.run_bind, Sem.run_pure, Result.andThen_ok, hrun]
  obtain ⟨k1, k2⟩ := c1.turn (o' := .blk T' (cs.set off v)) (w' := w.setRow g (us.set off (a.eval y)).toArray) rfl hid ho hM rfl rfl rfl aU (fun k hk => setRow_other w g k _ hk) (fE hb aU)
    (fun hext => ⟨g, _, rfl, setRow_heap w g _ _ T' _ hb, RepL.ext hext _ _ (RepL.set hus off hv)⟩)
  simp only [Oper.upon, Act.put]
  exact cH1
theorem eQ {cs : List CV} {v : CV} (hx : evA env x = some (.ref id off)) (hy : evA env y = some (.c v)) (h1 : v.one = true) (ho : lk h id = some (.row T' cs)) (hfit : off < cs.length)
    (next : AWL P ops sz rest K n env ((id, .row T' (cs.set off v)) :: h) dfs) : AWL P ops sz (⟨none, .store T x y, ty, pos, aft, gd⟩ :: rest) K n env h dfs := by
  intro B a w hc
  obtain ⟨M, c1, c2, c3, c4⟩ := hc
  refine eO fun K' hK' => ?_
  rw [Ak (hg.wanted c3)]
  have hp := dN c3 x _ hx
  have hv := dN c3 y _ hy
  simp only [Rep] at hp hv
  obtain ⟨hid, g, hM, hp⟩ := hp
  obtain ⟨us, vs, hb, hus, hone⟩ := fI (fun id o h _ => h) c1 ho hid hM
  obtain ⟨o1, o2⟩ := hv.one h1
  have hsz : e.size = 1 := Ae hk
  have hul := hus.length
  have hlen : off + 1 <= (us ++ vs).length := by simp; omega
  have hrun := gH (P := P) (w := w) (aM tb hT) (g := g) (off := off) (cur := us ++ vs) (vs := [a.eval y]) (v := a.eval y) hb (by rw [o2]) (by simp [hsz]) hlen (by simpa using o1)
  have hset : (us ++ vs).take off ++ [a.eval y] ++ (us ++ vs).drop (off + [a.eval y].length) = us.set off (a.eval y) ++ vs := by
    rw [<- List.set_append_left _ _ aA, BF]
    rw [Ak fU]
    simp
  rw [hset] at hrun
  unfold Oper.wp execOp
  simp only [hp, Instr.storeAt, Instr.sureAddr, Sem.run_bind, Sem.run_pure, Result.andThen_ok, hrun]
  obtain ⟨k1, k2⟩ := c1.turn (o' := .row T' (cs.set off v)) (w' := w.setRow g (us.set off (a.eval y) ++ vs).toArray) rfl hid ho hM rfl rfl rfl aU (fun k hk => setRow_other w g k _ hk) (fE hb aU)
    (fun hext => .inr ⟨g, _, vs, rfl, setRow_heap w g _ _ T' _ hb, RepCs.mono hext.ok _ _ (RepCs.set hus off hv), fun u hu => (List.mem_or_eq_of_mem_set hu).elim (hone u) (fun e => e ▸ o1)⟩)
  simp only [Oper.upon, Act.put]
  exact cH1
end
def lay {α:Type} (cs:List α) (off:Nat) (vs:List α):List α:=cs.take off++vs++cs.drop (off+vs.length)
theorem aC6 {α:Type} (cs:List α) (off:Nat) (vs:List α) (h:off+vs.length<=cs.length):(lay cs off vs).length=cs.length:=by
 simp [lay];omega
theorem oD {α:Type} (cs vs:List α) (h:vs.length=cs.length):lay cs 0 vs=vs:=by simp [lay,h]
section
variable (tb : bQ P tab) {e : TyE} (hg : guardA ops env ⟨none, .store T x y, ty, pos, aft, gd⟩ true) (hT : aS tab T = some e) {id off : Nat} {T' : TypeId}
include tb e hg hT id off T'
theorem zF {cs xs cs' : List AV} {v : AV} (hx : evA env x = some (.ref id off)) (hy : evA env y = some v) (hp : Parts v xs) (hl : xs.length = e.size) (h1 : xs.all AV.one = true) (ho : lk h id = some (.blk T' cs)) (hfit : off + xs.length <= cs.length) (hcs : lay cs off xs = cs')
    (next : AWL P ops sz rest K n env ((id, .blk T' cs') :: h) dfs) : AWL P ops sz (⟨none, .store T x y, ty, pos, aft, gd⟩ :: rest) K n env h dfs := by
  intro B a w hc
  subst hcs
  obtain ⟨M, c1, c2, c3, c4⟩ := hc
  refine eO fun K' hK' => ?_
  rw [Ak (hg.wanted c3)]
  have hpt := dN c3 x _ hx
  simp only [Rep] at hpt
  obtain ⟨hid, g, hM, hpt⟩ := hpt
  obtain ⟨vs, hv, hvs⟩ := hp.rep (dN c3 y _ hy)
  obtain ⟨us, hb, hus⟩ := iL (fun id o h _ => h) c1 ho hid hM
  have hul := hus.length
  have hvl := hvs.length
  have hrun := gH (P := P) (w := w) (aM tb hT) (g := g) (off := off) (cur := us) (vs := vs) (v := a.eval y) hb (by rw [hv]; rfl) aA aA (hvs.one h1)
  unfold Oper.wp execOp
  simp only [hpt, Instr.storeAt, Instr.sureAddr, Sem.run_bind, Sem.run_pure, Result.andThen_ok, hrun]
  obtain ⟨k1, k2⟩ := c1.turn (o' := .blk T' (lay cs off xs)) (w' := w.setRow g (us.take off ++ vs ++ us.drop (off + vs.length)).toArray) rfl hid ho hM rfl rfl rfl aU (fun k hk => setRow_other w g k _ hk) (fE hb fU)
    (fun hext => ⟨g, _, rfl, setRow_heap w g _ _ T' _ hb, RepL.ext hext _ _ (by
      unfold lay
      rw [hvl]
      exact ((hus.take off).append hvs).append (hus.drop (off + xs.length)))⟩)
  simp only [Oper.upon, Act.put]
  exact cH1
theorem wW {cs xs cs' : List CV} (hx : evA env x = some (.ref id off)) (hy : evA env y = some (.c (.agg xs))) (hl : xs.length = e.size) (ho : lk h id = some (.row T' cs)) (hfit : off + xs.length <= cs.length) (hcs : lay cs off xs = cs')
    (next : AWL P ops sz rest K n env ((id, .row T' cs') :: h) dfs) : AWL P ops sz (⟨none, .store T x y, ty, pos, aft, gd⟩ :: rest) K n env h dfs := by
  intro B a w hc
  subst hcs
  obtain ⟨M, c1, c2, c3, c4⟩ := hc
  refine eO fun K' hK' => ?_
  rw [Ak (hg.wanted c3)]
  have hpt := dN c3 x _ hx
  have hvv := dN c3 y _ hy
  simp only [Rep, RepC] at hpt hvv
  obtain ⟨hid, g, hM, hpt⟩ := hpt
  obtain ⟨vs, hv, hvs, h1⟩ := hvv
  obtain ⟨us, ws, hb, hus, hone⟩ := fI (fun id o h _ => h) c1 ho hid hM
  have hul := hus.length
  have hvl := hvs.length
  have hrun := gH (P := P) (w := w) (aM tb hT) (g := g) (off := off) (cur := us ++ ws) (vs := vs) (v := a.eval y) hb (by rw [hv]; rfl) aA fU h1
  have hset : (us ++ ws).take off ++ vs ++ (us ++ ws).drop (off + vs.length) = (us.take off ++ vs ++ us.drop (off + vs.length)) ++ ws := by
    rw [AD aA, B7 aA]
    simp
  rw [hset] at hrun
  unfold Oper.wp execOp
  simp only [hpt, Instr.storeAt, Instr.sureAddr, Sem.run_bind, Sem.run_pure, Result.andThen_ok, hrun]
  obtain ⟨k1, k2⟩ := c1.turn (o' := .row T' (lay cs off xs)) (w' := w.setRow g ((us.take off ++ vs ++ us.drop (off + vs.length)) ++ ws).toArray) rfl hid ho hM rfl rfl rfl aU (fun k hk => setRow_other w g k _ hk) (fE hb fU)
    (fun hext => .inr ⟨g, _, ws, rfl, setRow_heap w g _ _ T' _ hb, RepCs.mono hext.ok _ _ (by
      unfold lay
      rw [hvl]
      exact ((hus.take off).append hvs).append (hus.drop (off + xs.length))), fun u hu => by
        rcases Az.1 hu with hu | hu
        · rcases Az.1 hu with hu | hu
          · exact hone u (AI hu)
          · exact h1 u hu
        · exact hone u (Bf hu)⟩)
  simp only [Oper.upon, Act.put]
  exact cH1
end
end steps
end
section
mutual
def AV.ltB (N:Nat):AV->Bool
 | .c _ | .ip _ _ | .junk=>true
 | .ref id _=>Nat.blt id N
 | .own id _ _ _ _=>Nat.blt id N
 | .agg xs=>AV.ltBs N xs
 | .tup xs=>AV.ltBs N xs
 | .fn _ xs=>AV.ltBs N xs
 | .yld id=>Nat.blt id N
 | .mh id=>Nat.blt id N
 | .bm _ id=>Nat.blt id N
def AV.ltBs (N:Nat):List AV->Bool
 | []=>true
 | x::xs=>AV.ltB N x&&AV.ltBs N xs
end
def AObj.ltB (N:Nat):AObj->Bool
 | .blk _ cs=>AV.ltBs N cs
 | .row _ _=>true
 | .lp _ _ _ _ xs=>AV.ltBs N xs
 | .dfr _=>true
 | .tab es=>es.all fun p=>p.2.ltB N
 | .dead=>true
structure Less (N:Nat) (C C':Cx):Prop where
 dom:∀id,id<N->C.dom id->C'.dom id/\C'.M id=C.M id
 ok:kW C.ok C'.ok C.w C'.w
 shape:∀b x,C.w.shape? b=some x->C'.w.shape? b=some x
mutual
theorem Rep.less {N:Nat} {C C':Cx} (h:Less N C C'):∀(x:AV) (u:Value),x.ltB N=true->Rep C x u->Rep C' x u
 | .c x,u,_,hu=>by simp only [Rep] at hu ⊢;exact RepC.mono h.ok x u hu
 | .ref id off,u,hl,hu=>by
  simp only [Rep] at hu ⊢
  simp only [AV.ltB,AJ] at hl
  obtain ⟨hd,g,hg,hu⟩:=hu
  obtain ⟨k1,k2⟩:=h.dom id hl hd
  exact nX
 | .own id off n size full,u,hl,hu=>by
  simp only [Rep] at hu ⊢
  simp only [AV.ltB,AJ] at hl
  obtain ⟨hd,hu⟩:=hu
  obtain ⟨k1,k2⟩:=h.dom id hl hd
  refine ⟨k1,?_⟩
  rcases hu with ⟨h1,h2,h3,h4⟩|⟨g,cp,h1,h2,h3,h4,h5⟩|h6
  ·exact cG9
  ·exact .inr (.inl ⟨g,cp,k2.trans h1,h2,h3,h4,fun hf=>let ⟨e,he⟩:=h5 hf;⟨e,h.shape _ _ he⟩⟩)
  ·exact .inr (.inr h6)
 | .ip cs off,u,_,hu=>by
  simp only [Rep] at hu ⊢
  obtain ⟨b,o,us,h1,h2,h3,h4,h6,h5⟩:=hu
  obtain ⟨k1,k2,k3⟩:=h.ok b h2 h3
  exact ⟨b,o,us,h1,k1,k2,RepCs.mono h.ok cs us h4,h6,fun j x hx=>by rw [World.cell?_of_block (w:=C.w) k3];exact h5 j x hx⟩
 | .agg xs,u,hl,hu=>by
  simp only [Rep] at hu ⊢
  obtain ⟨us,h1,h2⟩:=hu
  exact ⟨us,h1,RepL.less h xs us hl h2⟩
 | .tup xs,u,hl,hu=>by
  simp only [Rep] at hu ⊢
  obtain ⟨us,h1,h2⟩:=hu
  exact ⟨us,h1,RepL.less h xs us hl h2⟩
 | .fn f caps,u,hl,hu=>by
  simp only [Rep] at hu ⊢
  obtain ⟨us,h1,h2⟩:=hu
  exact ⟨us,h1,RepL.less h caps us hl h2⟩
 | .yld id,u,hl,hu=>by
  simp only [Rep] at hu ⊢
  simp only [AV.ltB,AJ] at hl
  obtain ⟨hd,g,hg,hu⟩:=hu
  obtain ⟨k1,k2⟩:=h.dom id hl hd
  exact nX
 | .mh id,u,hl,hu=>by
  simp only [Rep] at hu ⊢
  simp only [AV.ltB,AJ] at hl
  obtain ⟨hd,g,hg,hu⟩:=hu
  obtain ⟨k1,k2⟩:=h.dom id hl hd
  exact nX
 | .bm f id,u,hl,hu=>by
  simp only [Rep] at hu ⊢
  simp only [AV.ltB,AJ] at hl
  obtain ⟨hd,g,hg,hu⟩:=hu
  obtain ⟨k1,k2⟩:=h.dom id hl hd
  exact nX
 | .junk,u,_,hu=>by simp only [Rep]
theorem RepL.less {N:Nat} {C C':Cx} (h:Less N C C'):∀(xs:List AV) (us:List Value),AV.ltBs N xs=true->RepL C xs us->RepL C' xs us
 | [],us,_,hu=>by simpa [RepL] using hu
 | c::cs,us,hl,hu=>by
  simp only [RepL] at hu ⊢
  simp only [AV.ltBs,Ar] at hl
  obtain ⟨u,us',h1,h2,h3⟩:=hu
  exact ⟨u,us',h1,Rep.less h c u hl.1 h2,RepL.less h cs us' hl.2 h3⟩
end
theorem RepM.less {N:Nat} {C C':Cx} (h:Less N C C'):∀(es:List (CV × AV)) (ms:List MapEntry),(es.all fun p=>p.2.ltB N)=true->RepM C es ms->RepM C' es ms
 | [],ms,_,hu=>hu
 | e::es,ms,hl,hu=>by
  obtain ⟨m,ms',h1,h2,h3,h4⟩:=hu
  simp only [BA,Ar] at hl
  exact ⟨m,ms',h1,RepC.mono h.ok _ _ h2,Rep.less h _ _ hl.1 h3,RepM.less h es ms' hl.2 h4⟩
theorem ObjRep.less {N:Nat} {C C':Cx} (h:Less N C C') {g:Option Nat} {o:AObj} (hw:C'.w=C.w) (hl:o.ltB N=true) (ho:ObjRep C g o):ObjRep C' g o:=by
 cases o with
 | blk T cs =>
  obtain ⟨k,us,rfl,h2,h3⟩:=ho
  exact ⟨k,us,rfl,by rw [hw];exact h2,RepL.less h cs us hl h3⟩
 | row T cs =>
  rcases ho with h1|⟨k,us,vs,rfl,h2,h3,h4⟩
  ·exact .inl h1
  ·exact .inr ⟨k,us,vs,rfl,by rw [hw];exact h2,RepCs.mono h.ok cs us h3,h4⟩
 | lp b sz L sl xs =>
  obtain ⟨k,r,rfl,h2,h3,h4,h5,h6,h7,h8,h9⟩:=ho
  exact ⟨k,r,rfl,by rw [hw];exact h2,h3,h4,h5,h6,h7,h8,RepL.less h xs _ hl h9⟩
 | dfr b =>
  obtain ⟨k,rfl,h2⟩:=ho
  exact ⟨k,rfl,by rw [hw];exact h2⟩
 | tab es =>
  obtain ⟨k,ms,t,rfl,h2,h3⟩:=ho
  exact ⟨k,ms,t,rfl,by rw [hw];exact h2,h3.1,RepM.less h es _ hl h3.2⟩
 | dead=>exact ho.elim
def bK0 (env:Env) (N:Nat) (E:Env):Prop:=∀t av,lkE E t=some av->lkE env t=some av/\av.ltB N=true
def bK1 (h:aO) (N:Nat) (Hp:aO):Prop:=∀id o,lk Hp id=some o->lk h id=some o/\o.ltB N=true
theorem cO {env:Env} {N:Nat}:bK0 env N []:=fun t av h=>by cases h
theorem cG {env E:Env} {N t:Nat} {av av':AV} (h:lkE env t=some av') (he:av'=av) (hl:av.ltB N=true) (hr:bK0 env N E):bK0 env N ((t,av)::E):=by
 intro k x hk
 rw [eZ] at hk
 split at hk
 ·rename_i e;subst e he;injection hk with hk;subst hk;exact ⟨h,hl⟩
 ·exact hr k x hk
theorem cP {h:aO} {N:Nat}:bK1 h N []:=fun t av h=>by cases h
theorem bD {h Hp:aO} {N t:Nat} {o o':AObj} (hh:lk h t=some o') (he:o'=o) (hl:o.ltB N=true) (hr:bK1 h N Hp):bK1 h N ((t,o)::Hp):=by
 intro k x hk
 rw [cA] at hk
 split at hk
 ·rename_i e;subst e he;have hk:=sD hk;subst hk;exact ⟨hh,hl⟩
 ·exact hr k x hk
theorem DefRep.less {fr:List Value} {N:Nat} {C C':Cx} (h:Less N C C'):∀{l:cD} {ds:List Deferred},l.all (fun p=>AV.ltBs N p.2)=true->DefRep fr C l ds->DefRep fr C' l ds
 | [],ds,_,hd=>hd
 | (some f,caps)::r,ds,hl,hd=>by
  obtain ⟨us,ds',h1,h2,h3⟩:=hd
  simp only [BA,Ar] at hl
  exact ⟨us,ds',h1,RepL.less h _ _ hl.1 h2,DefRep.less h hl.2 h3⟩
 | (none,xs)::r,ds,hl,hd=>by
  simp only [BA,Ar] at hl
  exact ⟨RepL.less h _ _ hl.1 hd.1,DefRep.less h hl.2 hd.2⟩
theorem dW {n N:Nat} {env E:Env} {h Hp:aO} {dfs:cD} (hn:Nat.ble N n=true) (hE:bK0 env N E) (hH:bK1 h N Hp) (hD:dfs.all (fun p=>AV.ltBs N p.2)=true):cU n env h dfs N E Hp dfs:=by
 intro B sz a w hc
 obtain ⟨M,h1,h2,h3,h4⟩:=hc
 have hn':N<=n:=A7 hn
 have hok:∀b,bF B (lt n) M (lk h) b->bF B (lt N) M (lk Hp) b:=fun b hb=>⟨hb.1,fun id o hid hH' he=>hb.2 id o (A3 hid hn') (hH id o hH').1 he⟩
 have hls:Less N (cx B n M h w) (cx B N M Hp w):=⟨fun id hid _=>⟨hid,rfl⟩,fun b hb hl=>⟨hok b hb,hl,rfl⟩,fun _ _ h=>h⟩
 refine ⟨M,⟨h1.fr,fun id o hid hH'=>?_,fun id id' o o' g k1 k2 k3 k4=>h1.inj id id' o o' g (A3 k1 hn') (A3 k2 hn') (hH id o k3).1 (hH id' o' k4).1,fun id o g k1 k2=>h1.lo id o g (A3 k1 hn') (hH id o k2).1⟩,h2,fun t av ht=>?_,h4.less hls hD⟩
 ·exact (h1.obj id o (A3 hid hn') (hH id o hH').1).less hls rfl (hH id o hH').2
 ·exact Rep.less hls _ _ (hE t av ht).2 (h3 t av (hE t av ht).1)
def Cv (x y:CV):Prop:=∀ok w u,RepC ok w x u->RepC ok w y u
def CvL (x y:List CV):Prop:=∀ok w u,RepCs ok w x u->RepCs ok w y u
theorem cR {x:CV}:Cv x x:=fun _ _ _ h=>h
theorem pT {x y:CV} (h:x=y):Cv x y:=fun _ _ _ k=>h▸k
theorem gM {size:Nat}:Cv (.v (.slice none 0 0)) (.sl size 0 []):=fun ok w u h=>by
 simp only [RepC] at h ⊢
 exact ⟨none,0,[],h,Ah _,by simp [maxLen],by simp,by simp [RepCs],by simp,fun h=>absurd h aA⟩
theorem jG {size n n':Nat} {cs cs':List CV} (hn:n=n') (hc:cs=cs'):Cv (.sl size n cs) (.sl size n' cs'):=by subst hn hc;exact cR
theorem fO:CvL [] []:=fun _ _ _ h=>h
theorem eK {x y:CV} {xs ys:List CV} (h:Cv x y) (k:CvL xs ys):CvL (x::xs) (y::ys):=fun ok w u hu=>by
 simp only [RepCs] at hu ⊢
 obtain ⟨a,l,h1,h2,h3⟩:=hu
 exact ⟨a,l,h1,h ok w a h2,k ok w l h3⟩
theorem rV {x:List CV}:CvL x x:=fun _ _ _ h=>h
theorem mN {x y:List CV} (h:CvL x y):Cv (.agg x) (.agg y):=fun ok w u hu=>by
 simp only [RepC] at hu ⊢
 obtain ⟨us,h1,h2,h3⟩:=hu
 exact ⟨us,h1,h ok w us h2,h3⟩
def Frz (keep:List Nat) (h:aO) (v:AV) (x:CV):Prop :=
 ∀(B:Bs) (dom:Nat->Prop) (M:Nat->Option Nat) (H:Nat->Option AObj) (w:World) (u:Value),(∀id o,lk h id=some o->dom id->H id=some o)->(∀k∈keep,dom k/\∃o,H k=some o) ->
  ConcH B dom M H w->Rep ⟨dom,M,bF B dom M H,w⟩ v u->RepC (fun b=>(B.ok0 b\/B.w0.heap.size<=b\/b∈B.G)/\∀k∈keep,M k≠some b) w x u
def aL5 (keep:List Nat) (h:aO) (v:List AV) (x:List CV):Prop :=
 ∀(B:Bs) (dom:Nat->Prop) (M:Nat->Option Nat) (H:Nat->Option AObj) (w:World) (u:List Value),(∀id o,lk h id=some o->dom id->H id=some o)->(∀k∈keep,dom k/\∃o,H k=some o) ->
  ConcH B dom M H w->RepL ⟨dom,M,bF B dom M H,w⟩ v u->RepCs (fun b=>(B.ok0 b\/B.w0.heap.size<=b\/b∈B.G)/\∀k∈keep,M k≠some b) w x u
section frz
variable {keep:List Nat} {h:aO}
theorem dU {x y:CV} (hxy:Cv x y):Frz keep h (.c x) y:=by
 intro B dom M H w u hh hk hc hu
 simp only [Rep] at hu
 refine hxy _ _ _ (RepC.mono (fun b hb hl=>⟨⟨hb.1,fun k hkk he=>?_⟩,hl,rfl⟩) _ _ hu)
 obtain ⟨h1,o,h2⟩:=hk k hkk
 exact hb.2 k o h1 h2 he
theorem kT {id off n size : Nat} {full : Bool} {T : TypeId} {cs ys : List CV} (ho : lk h id = some (.row T cs)) (hk : keep.contains id = false) (hy : (cs.drop off).take (n * size) = ys) (hl : ys.length = n * size) : Frz keep h (.own id off n size full) (.sl size n ys) := by
  intro B dom M H w u hh hkp hc hu
  simp only [Rep] at hu
  obtain ⟨hd, hu⟩ := hu
  have hmono : ∀ b, bF B dom M H b -> (B.ok0 b \/ B.w0.heap.size <= b \/ b ∈ B.G) /\ ∀ k ∈ keep, M k ≠ some b := fun b hb => ⟨hb.1, fun k hkk he => by
    obtain ⟨h1, o, h2⟩ := hkp k hkk
    exact hb.2 k o h1 h2 he⟩
  have key : ∀ g, M id = some g -> ∃ us vs, w.heap[g]? = some (.cells (us ++ vs).toArray T (0, 0)) /\ RepCs (bF B dom M H) w cs us /\ ∀ u ∈ us, u.oneCell' = true := fun g hg => fI hh hc ho hd hg
  have hz : n = 0 -> ∃ us, RepCs (fun b => (B.ok0 b \/ B.w0.heap.size <= b \/ b ∈ B.G) /\ ∀ k ∈ keep, M k ≠ some b) w ys us /\ ∀ u ∈ us, u.oneCell' = true := fun h0 => by
    subst h0
    have : ys = [] := An fY
    subst this
    exact ⟨[], by simp [RepCs], by simp⟩
  rcases hu with ⟨h1, h2, h3, h4⟩ | ⟨g, cp, h1, h2, h3, h4, h5⟩ | ⟨h1, h2, A, cp, h3, h4⟩
  · obtain ⟨us, hus, hon⟩ := hz h1
    exact eG0
  · obtain ⟨us, vs, hb, hr, hon⟩ := key g h1
    have h6 := (hr.drop off).take (n * size)
    rw [hy] at h6
    refine ⟨some ⟨g, off, none⟩, cp, (us.drop off).take (n * size), h2, h3, h4, hl, RepCs.mono (fun b hb hl => ⟨hmono b hb, hl, rfl⟩) _ _ h6, fun u hu => hon u (Bf (AI hu)), fun hn => ⟨g, off, rfl, ⟨?_, fun k hkk he => ?_⟩, cC hb, fun j x hj => ?_⟩⟩
    · rcases hc.lo id _ g hd (hh id _ ho hd) h1 with h7 | h7
      · exact .inr (.inl h7)
      · exact .inr (.inr h7)
    · obtain ⟨k1, o, k2⟩ := hkp k hkk
      have := hc.inj k id o _ g k1 hd k2 (hh id _ ho hd) he h1
      subst this
      rw [List.contains_eq_mem] at hk
      simp at hk
      exact hk hkk
    · have hjk : j < n * size := by
        rcases AE j (n * size) with h1 | h1
        · exact h1
        · rw [AO kE] at hj; cases hj
      rw [Be hjk, AR] at hj
      exact jE hb hj
  · obtain ⟨us, hus, hon⟩ := hz h1
    subst h1
    exact eG1
theorem gP {id n size:Nat} {full:Bool} {T:TypeId} {cs:List CV} (ho:lk h id=some (.row T cs)) (hk:keep.contains id=false) (hl:cs.length=n*size):Frz keep h (.own id 0 n size full) (.sl size n cs) :=
 kT ho hk cF7 hl
theorem cS:aL5 keep h [] []:=fun B dom M H w u _ _ _ hu=>by simpa [RepL,RepCs] using hu
theorem aX {x:AV} {y:CV} {xs:List AV} {ys:List CV} (hx:Frz keep h x y) (hxs:aL5 keep h xs ys):aL5 keep h (x::xs) (y::ys):=by
 intro B dom M H w u hh hk hc hu
 simp only [RepL] at hu
 obtain ⟨a,l,h1,h2,h3⟩:=hu
 exact ⟨a,l,h1,hx B dom M H w a hh hk hc h2,hxs B dom M H w l hh hk hc h3⟩
theorem uB {xs:List AV} {ys:List CV} (h1':xs.all AV.one=true) (hx:aL5 keep h xs ys):Frz keep h (.agg xs) (.agg ys):=by
 intro B dom M H w u hh hk hc hu
 simp only [Rep] at hu
 obtain ⟨us,h1,h2⟩:=hu
 exact ⟨us,h1,hx B dom M H w us hh hk hc h2,h2.one h1'⟩
end frz
def AC (P:Program) (f:FuncId) (args:List CV) (r:AV) (hr:aO) (nr:Nat):Prop :=
 ∀(ok:Nat->Prop) (w:World) (vs:List Value),RepCs ok w args vs->Calls P f vs.toArray w fun e w'=>∃v M,e = .returned v/\ConcH ⟨w,[],ok,[]⟩ (lt nr) M (lk hr) w'/\Rep (cx ⟨w,[],ok,[]⟩ nr M hr w') r v
def aW1:Nat->List CV->Env
 | _,[]=>[]
 | k,x::xs=>(k,.c x)::aW1 (k+1) xs
theorem vX:∀{cs:List CV} {k t:Nat} {av:AV},lkE (aW1 k cs) t=some av->∃c,k<=t/\cs[t-k]? = some c/\av = .c c
 | [],k,t,av,h=>by cases h
 | c::cs,k,t,av,h=>by
  rw [aW1,eZ] at h
  split at h
  ·rename_i e;subst e;injection h with h;exact ⟨c,Ah _,by simp,h.symm⟩
  ·rename_i e
   obtain ⟨c',h1,h2,h3⟩:=vX h
   refine ⟨c',by omega,?_,h3⟩
   rw [show t-k=(t-(k+1))+1 by omega]
   simpa using h2
def pW (P:Program) (f:FuncId) (k:Nat):Prop :=
 ∀(us:List Value) (w:World),us.length=k->CallsD P f us.toArray .returning w fun e u' w'=>e = .returned (.tuple #[])/\u' = .returning/\w'=w
def Body (P : Program) (f : FuncId) : Prop := (P.funcs[f]?).map (fun fn => (fn.name == "runtime.NumGoroutine", fn.body.isNone)) = some (false, false)
theorem Body.run {P:Program} {f:FuncId} (h:Body P f) (args:Array Value) (w:World):(callFunc f args).run P w = .ok (.enter f args) w:=by
 obtain ⟨fn,h1,h2⟩:=Ap.1 h
 simp only [Prod.mk.injEq] at h2
 simp only [callFunc,Sem.run_bind,run_program,Result.andThen_ok,h1]
 simp [h2.1,h2.2]
def iJ (P:Program):aO->cD->Prop
 | _,[]=>True
 | h,(some f,caps)::r=>match Nat.beq f xB with
  | true=>(match caps with | [.ref id _]=>lk h id=some (.dfr true)/\iJ P ((id,.dfr false)::h) r|_=>False)
  | false=>pW P f caps.length/\Body P f/\iJ P h r
 | h,(none,_)::r=>iJ P h r
def gK:aO->cD->aO
 | h,[]=>h
 | h,(some f,caps)::r=>match Nat.beq f xB with
  | true=>match caps with | [.ref id _]=>gK ((id,.dfr false)::h) r|_=>h
  | false=>gK h r
 | h,(none,_)::r=>gK h r
inductive ResA (tab:Tab) (env:Env) (h:aO):ResultVar->AV->Prop
 | tmp {t:Tmp} {v:AV} (hv:lkE env t=some v):ResA tab env h (.tmp t) v
 | one {p:Tmp} {T T':TypeId} {id:Nat} {v:AV} {cs:List AV} {e:TyE} (hp:lkE env p=some (.ref id 0)) (hT:aS tab T=some e) (hk:e.kind.agg=false) (ho:lk h id=some (.blk T' cs)) (hv:cs[0]? = some v):ResA tab env h (.cell p T) v
 | agg {p:Tmp} {T T':TypeId} {id:Nat} {v:AV} {cs:List AV} {e:TyE} (hp:lkE env p=some (.ref id 0)) (hT:aS tab T=some e) (hk:e.kind.agg=true) (ho:lk h id=some (.blk T' cs)) (hl:Nat.beq cs.length e.size=true) (hv:IsAgg cs v):ResA tab env h (.cell p T) v
 | aggr {p:Tmp} {T T':TypeId} {id:Nat} {cs:List CV} {e:TyE} (hp:lkE env p=some (.ref id 0)) (hT:aS tab T=some e) (hk:e.kind.agg=true) (ho:lk h id=some (.row T' cs)) (hl:cs.length=e.size):ResA tab env h (.cell p T) (.c (.agg cs))
section ret
variable {P:Program} {tab:Tab} {env:Env} {h:aO} {n:Nat}
theorem ResA.run (tb : bQ P tab) {rv : ResultVar} {v : AV} (hr : ResA tab env h rv v) {B : Bs} {M : Nat -> Option Nat} {w : World} {tmps : Array Value} (hc : ConcH B (lt n) M (lk h) w) (he : ∀ t av, lkE env t = some av -> Rep (cx B n M h w) av (tmps.getD t undef)) :
    ∃ u, Rep (cx B n M h w) v u /\ (match rv with | .tmp t => tmps.getD t undef = u | .cell p T => ∃ q, tmps.getD p undef = .pointer (some q) /\ (loadVar T q).run P w = .ok u w) := by
  cases hr with
  | tmp hv => exact ⟨_, he _ _ hv, rfl⟩
  | one hp hT hk ho hv =>
    have := he _ _ hp
    simp only [Rep] at this
    obtain ⟨hid, g, hM, hq⟩ := this
    obtain ⟨us, hb, hus⟩ := iL (fun id o h _ => h) hc ho hid hM
    obtain ⟨u, hu, hru⟩ := hus.get hv
    exact ⟨u, hru, _, hq, sI (aM tb hT) hk (by rw [nT hb]; exact hu)⟩
  | agg hp hT hk ho hl hv =>
    rename_i p T T' id cs e
    have := he _ _ hp
    simp only [Rep] at this
    obtain ⟨hid, g, hM, hq⟩ := this
    obtain ⟨us, hb, hus⟩ := iL (fun id o h _ => h) hc ho hid hM
    exact ⟨_, hv.rep hus, _, hq, oN (aM tb hT) hk (us := us) (by rw [hus.length]; exact Ae hl) (fun j u hj => by rw [nT hb, Aq]; exact hj)⟩
  | aggr hp hT hk ho hl =>
    have := he _ _ hp
    simp only [Rep] at this
    obtain ⟨hid, g, hM, hq⟩ := this
    obtain ⟨us, vs, hb, hus, hon⟩ := fI (fun id o h _ => h) hc ho hid hM
    exact ⟨_, ⟨us, rfl, hus, hon⟩, _, hq, oN (aM tb hT) hk (us := us) (by rw [hus.length]; exact hl) (fun j u hj => by rw [Aq]; exact jE hb hj)⟩
inductive ResL (tab:Tab) (env:Env) (h:aO):List ResultVar->AV->Prop
 | none:ResL tab env h [] (.tup [])
 | one {r:ResultVar} {v:AV} (h1:ResA tab env h r v):ResL tab env h [r] v
 | two {r1 r2:ResultVar} {v1 v2:AV} (h1:ResA tab env h r1 v1) (h2:ResA tab env h r2 v2):ResL tab env h [r1,r2] (.tup [v1,v2])
 | three {r1 r2 r3:ResultVar} {v1 v2 v3:AV} (h1:ResA tab env h r1 v1) (h2:ResA tab env h r2 v2) (h3:ResA tab env h r3 v3):ResL tab env h [r1,r2,r3] (.tup [v1,v2,v3])
def Rd (P:Program) (tmps:Array Value) (w:World) (rv:ResultVar) (u:Value):Prop:=match rv with | .tmp t=>tmps[t]?.getD undef=u | .cell p T=>∃q,tmps[p]?.getD undef = .pointer (some q)/\(loadVar T q).run P w = .ok u w
theorem ResL.run (tb : bQ P tab) {fn : Func} {v : AV} (hr : ResL tab env h fn.results.toList v) {B : Bs} {M : Nat -> Option Nat} {w : World} {tmps : Array Value} (hc : ConcH B (lt n) M (lk h) w) (he : ∀ t av, lkE env t = some av -> Rep (cx B n M h w) av (tmps.getD t undef)) :
    ∃ u, Rep (cx B n M h w) v u /\ (results fn tmps).run P w = .ok u w := by
  have one : ∀ {rv : ResultVar} {v : AV}, ResA tab env h rv v -> ∃ u, Rep (cx B n M h w) v u /\ Rd P tmps w rv u := by
    intro rv v hA
    obtain ⟨u, h1, h2⟩ := hA.run tb hc he
    refine ⟨u, h1, ?_⟩
    cases rv with
    | tmp t => simpa [Rd] using h2
    | cell p T => obtain ⟨q, hq, hl⟩ := h2; exact ⟨q, by simpa using hq, hl⟩
  generalize hl : fn.results.toList = l at hr
  have hf : fn.results = l.toArray := by rw [<- hl]
  cases hr with
  | none => exact ⟨.tuple #[], ⟨[], rfl, rfl⟩, by simp [results, hf]⟩
  | one h1 =>
    obtain ⟨u, k1, k2⟩ := one h1
    refine ⟨u, k1, ?_⟩
    rename_i rv
    cases rv <;> simp only [Rd] at k2 <;> (try obtain ⟨q, hq, hl1⟩ := k2) <;> simp [results, hf, asAddr, *]
  | two h1 h2 =>
    obtain ⟨u1, k1, k2⟩ := one h1
    obtain ⟨u2, l1, l2⟩ := one h2
    refine ⟨.tuple #[u1, u2], ⟨[u1, u2], rfl, u1, [u2], rfl, k1, u2, [], rfl, l1, rfl⟩, ?_⟩
    rename_i r1 r2 v1 v2
    cases r1 <;> cases r2 <;> simp only [Rd] at k2 l2 <;> (try obtain ⟨q, hq, hl1⟩ := k2) <;> (try obtain ⟨q2, hq2, hl2⟩ := l2) <;> simp [results, hf, asAddr, *]
  | three h1 h2 h3 =>
    obtain ⟨u1, k1, k2⟩ := one h1
    obtain ⟨u2, l1, l2⟩ := one h2
    obtain ⟨u3, m1, m2⟩ := one h3
    refine ⟨.tuple #[u1, u2, u3], ⟨[u1, u2, u3], rfl, u1, [u2, u3], rfl, k1, u2, [u3], rfl, l1, u3, [], rfl, m1, rfl⟩, ?_⟩
    rename_i r1 r2 r3 v1 v2 v3
    cases r1 <;> cases r2 <;> cases r3 <;> simp only [Rd] at k2 l2 m2 <;> (try obtain ⟨q, hq, hl1⟩ := k2) <;> (try obtain ⟨q2, hq2, hl2⟩ := l2) <;> (try obtain ⟨q3, hq3, hl3⟩ := m2) <;> simp [results, hf, asAddr, *]
end ret
end
end Go.Av
namespace Go
abbrev Dm:=List UInt8
abbrev Dn:=Option (Nat × Bool)
abbrev Do:=List Value
abbrev Dp:=List Oper
abbrev Dq:=Array Oper
abbrev Dr:=List Nat
abbrev Ds:=Array Edge
abbrev Dt:=Option Tmp
abbrev Du:=TypeId
abbrev Dv:=Program
abbrev Dw:=IntKind
abbrev Dx:=Array TypeId
abbrev Dy:=List Operand
abbrev Dz:=Option Nat
abbrev D0:=Array Value
end Go
namespace Go.Av
abbrev D1:=List CV
abbrev D2:=List AV
end Go.Av
