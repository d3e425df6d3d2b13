/-
  Joined texts: T1 AvFz T9 AvSk T2 T3 T4 T5 T6 T7 T8. Lemmas; no statement of a law.
-/
import Derived.Laws.StructEq
import Derived.Test.YtccnhpaldmjkbaaM7
set_option linter.unusedSimpArgs false
set_option linter.unusedVariables false
namespace Go.Proofs.Ytccnhpaldmjkbaa
open Go Go.RowKit Go.Av
set_option maxRecDepth 100000
/-- The state of a tape: its numbers, how many, and the place. -/
def tpC (l : List Int) (n : Nat) (a : Int) : List CV := [.sl 1 n (intc .i64 l), iv a]
def shZ (x s : Int) : Int := if 0 < s then IntKind.i64.wrap ((BitVec.ofInt 64 (x.fdiv (2 ^ (min s.toNat 64))) ^^^ BitVec.ofInt 64 s).toNat : Int) else x
def remZ (y m : Int) : Int := (IntKind.i64.wrap (y.tmod m + m)).tmod m
def stopP (n : Nat) (a m : Int) : Prop := m < 2 ∨ n = 0 ∨ IntKind.i64.wrap (4 * (n : Int)) ≤ a
instance (n : Nat) (a m : Int) : Decidable (stopP n a m) := by unfold stopP; infer_instance
def nextX (l : List Int) (n : Nat) (a m : Int) : Int := if stopP n a m then 0 else remZ (shZ (l.getD (a % n).toNat 0) (a / n)) m
def nextA (n : Nat) (a m : Int) : Int := if stopP n a m then a else a + 1
theorem remZ_bounds (y m : Int) (hm : 2 ≤ m) (hm2 : m ≤ 4294967296) : 0 ≤ remZ y m ∧ remZ y m < m := by
  unfold remZ
  have h1 := Int.tmod_lt_of_pos y (b := m) (by omega)
  have h2 : -m < y.tmod m := by
    by_cases hy : 0 ≤ y
    · have := Int.tmod_nonneg m hy
      omega
    · have := Int.tmod_lt_of_pos (-y) (b := m) (by omega)
      rw [Int.neg_tmod] at this
      omega
  rw [w64 (by omega) (by omega)]
  exact ⟨Int.tmod_nonneg _ (by omega), Int.tmod_lt_of_pos _ (by omega)⟩
attribute [local irreducible] Still Adds AWL AW Drw DrwE EStep AC AWR Weak Frz Src RetK Out InK ItK AsK RdK RetT OutT ACT
set_option maxHeartbeats 4000000 in
theorem next_ok (l : List Int) (n : Nat) (a m : Int) (hn : l.length = n) (hnn : n ≤ maxLen) (ha0 : 0 ≤ a) (ha : a ≤ 9223372036854775807) (hm : m ≤ 4294967296) : ACT Try.prog 21 83 (tpC l n a) [iv m] (tpC l n (nextA n a m)) (iv (nextX l n a m)) := by
  have hml : n ≤ 9223372036854775807 := hnn
  clear hnn
  unfold nextX nextA tpC
  by_cases h1 : m < 2
  · have hs : stopP n a m := .inl h1
    rw [if_pos hs, if_pos hs]
    clear hs
    refine act_enter tabOk (sz := 78) Try.func21 rfl (by rw [Try.ntmps21]; rfl) ?_
    repeat' (first | ((with_reducible refine aw_seqk ?_); intro K hK hX) | ((with_reducible refine isC_reg ?_); refine aw_prune [0, 1, 4, 5, 6] rfl rfl ?_; with_reducible refine aw_region ?_) | ((with_reducible refine isC_draw ?_); refine aw_prune [0, 1, 4, 5, 6] rfl rfl ?_; refine aw_drwF [] ?_) | refine stA ?_ | refine stD ?_ | (refine hK _ _ _ _ ?_; clear hK hX K) | (refine hX _ _ _ _ _ (by simp) ?_; clear hK hX K))
    refine retT_mk zio ztr rfl rfl (ResL.one (ResA.tmp rfl)) (outT_c zfz rfl rfl)
  · by_cases h2 : n = 0
    · have hs : stopP n a m := .inr (.inl h2)
      rw [if_pos hs, if_pos hs]
      clear hs
      refine act_enter tabOk (sz := 78) Try.func21 rfl (by rw [Try.ntmps21]; rfl) ?_
      repeat' (first | ((with_reducible refine aw_seqk ?_); intro K hK hX) | ((with_reducible refine isC_reg ?_); refine aw_prune [0, 1, 4, 5, 6] rfl rfl ?_; with_reducible refine aw_region ?_) | ((with_reducible refine isC_draw ?_); refine aw_prune [0, 1, 4, 5, 6] rfl rfl ?_; refine aw_drwF [] ?_) | refine stA ?_ | refine stD ?_ | (refine hK _ _ _ _ ?_; clear hK hX K) | (refine hX _ _ _ _ _ (by simp) ?_; clear hK hX K))
      refine retT_mk zio ztr rfl rfl (ResL.one (ResA.tmp rfl)) (outT_c zfz rfl rfl)
    · by_cases h3 : IntKind.i64.wrap (4 * (n : Int)) ≤ a
      · have hs : stopP n a m := .inr (.inr h3)
        rw [if_pos hs, if_pos hs]
        clear hs
        refine act_enter tabOk (sz := 78) Try.func21 rfl (by rw [Try.ntmps21]; rfl) ?_
        repeat' (first | ((with_reducible refine aw_seqk ?_); intro K hK hX) | ((with_reducible refine isC_reg ?_); refine aw_prune [0, 1, 4, 5, 6] rfl rfl ?_; with_reducible refine aw_region ?_) | ((with_reducible refine isC_draw ?_); refine aw_prune [0, 1, 4, 5, 6] rfl rfl ?_; refine aw_drwF [] ?_) | refine stA ?_ | refine stD ?_ | (refine hK _ _ _ _ ?_; clear hK hX K) | (refine hX _ _ _ _ _ (by simp) ?_; clear hK hX K))
        refine retT_mk zio ztr rfl rfl (ResL.one (ResA.tmp rfl)) (outT_c zfz rfl rfl)
      · have hs : ¬ stopP n a m := fun h => h.elim h1 fun h => h.elim h2 h3
        have ha4 : a < 9223372036854775807 := by
          have : IntKind.i64.wrap (4 * (n : Int)) ≤ 9223372036854775807 := by rw [IntKind.wrap_i64]; omega
          omega
        rw [if_neg hs, if_neg hs]
        clear hs
        have hil : (intc .i64 l).length = n := by rw [intc_length, hn]
        obtain ⟨p, hp⟩ : ∃ p, (a % (n : Int)).toNat = p := ⟨_, rfl⟩
        have hm0 := Int.emod_nonneg a (b := (n : Int)) (by omega)
        have hm1 := Int.emod_lt_of_pos a (b := (n : Int)) (by omega)
        have hrem : a.tmod (n : Int) = (p : Int) := by rw [r64 ha0]; omega
        have hpn : p < n := by omega
        obtain ⟨sq, hsq⟩ : ∃ sq, a / (n : Int) = sq := ⟨_, rfl⟩
        have hs0 : 0 ≤ sq := by rw [← hsq]; exact Int.ediv_nonneg ha0 (by omega)
        have hs1 : sq ≤ a := by rw [← hsq]; exact Int.ediv_le_self _ ha0
        have hquo : IntKind.i64.wrap (a.tdiv (n : Int)) = sq := by rw [← hsq]; exact q64 ha0 (by omega) ha
        have hx := intc_at (getD_at (l := l) (i := p) (by omega))
        rw [hp, hsq]
        generalize l.getD p 0 = x at hx ⊢
        clear hm0 hm1 hsq hp
        unfold shZ remZ
        by_cases h4 : 0 < sq
        · rw [if_pos h4]
          refine act_enter tabOk (sz := 78) Try.func21 rfl (by rw [Try.ntmps21]; rfl) ?_
          repeat' (first | ((with_reducible refine aw_seqk ?_); intro K hK hX) | ((with_reducible refine isC_reg ?_); refine aw_prune [0, 1, 4, 5, 6] rfl rfl ?_; with_reducible refine aw_region ?_) | ((with_reducible refine isC_draw ?_); refine aw_prune [0, 1, 4, 5, 6] rfl rfl ?_; refine aw_drwF [] ?_) | ((first | ((with_reducible refine isA_any ?_); refine xA ?_) | ((with_reducible refine isDk_any ?_); refine xD ?_)); (first | ((with_reducible refine e_bin ?_); (first | refine ex_i (s_rem (k := .i64) rfl rfl (by omega) hrem) ?_ | refine ex_i (s_quo (k := .i64) rfl rfl (by omega) hquo) ?_)) | ((with_reducible refine e_conv ?_); (first | refine ex_i (s_convInt tabOk rfl rfl rfl rfl (wu64 (by omega) (by omega))) ?_)) | ((with_reducible refine e_load ?_); (first | refine ex_i (s_load1 tabOk rfl rfl rfl rfl (by (rw [Nat.mul_one]; exact hx))) ?_ | refine ex_i (s_load1r tabOk rfl rfl rfl rfl (by (rw [Nat.mul_one]; exact hx))) ?_ | refine ex_i (s_load1i tabOk rfl rfl rfl (by (rw [Nat.mul_one]; exact hx))) ?_)) | ((with_reducible refine e_ix ?_); (first | refine ex_i (s_ixV1 tabOk rfl rfl zcj rfl rfl rfl rfl rfl zle (by (rw [Nat.mul_one]; exact hx))) ?_ | refine ex_i (s_ixStr tabOk rfl rfl zcj rfl rfl (by (rw [Nat.mul_one]; exact hx))) ?_)))) | refine stA ?_ | refine stD ?_ | (refine hK _ _ _ _ ?_; clear hK hX K) | (refine hX _ _ _ _ _ (by simp) ?_; clear hK hX K))
          refine retT_mk zio ztr rfl rfl (ResL.one (ResA.tmp rfl)) (outT_c zfz rfl rfl)
        · rw [if_neg h4]
          refine act_enter tabOk (sz := 78) Try.func21 rfl (by rw [Try.ntmps21]; rfl) ?_
          repeat' (first | ((with_reducible refine aw_seqk ?_); intro K hK hX) | ((with_reducible refine isC_reg ?_); refine aw_prune [0, 1, 4, 5, 6] rfl rfl ?_; with_reducible refine aw_region ?_) | ((with_reducible refine isC_draw ?_); refine aw_prune [0, 1, 4, 5, 6] rfl rfl ?_; refine aw_drwF [] ?_) | ((first | ((with_reducible refine isA_any ?_); refine xA ?_) | ((with_reducible refine isDk_any ?_); refine xD ?_)); (first | ((with_reducible refine e_bin ?_); (first | refine ex_i (s_rem (k := .i64) rfl rfl (by omega) hrem) ?_ | refine ex_i (s_quo (k := .i64) rfl rfl (by omega) hquo) ?_)) | ((with_reducible refine e_load ?_); (first | refine ex_i (s_load1 tabOk rfl rfl rfl rfl (by (rw [Nat.mul_one]; exact hx))) ?_ | refine ex_i (s_load1r tabOk rfl rfl rfl rfl (by (rw [Nat.mul_one]; exact hx))) ?_ | refine ex_i (s_load1i tabOk rfl rfl rfl (by (rw [Nat.mul_one]; exact hx))) ?_)) | ((with_reducible refine e_ix ?_); (first | refine ex_i (s_ixV1 tabOk rfl rfl zcj rfl rfl rfl rfl rfl zle (by (rw [Nat.mul_one]; exact hx))) ?_ | refine ex_i (s_ixStr tabOk rfl rfl zcj rfl rfl (by (rw [Nat.mul_one]; exact hx))) ?_)))) | refine stA ?_ | refine stD ?_ | (refine hK _ _ _ _ ?_; clear hK hX K) | (refine hX _ _ _ _ _ (by simp) ?_; clear hK hX K))
          refine retT_mk zio ztr rfl rfl (ResL.one (ResA.tmp rfl)) (outT_c zfz rfl rfl)
end Go.Proofs.Ytccnhpaldmjkbaa
namespace Go.Av
open Go Go.RowKit
section
variable {n N m size id t : Nat} {full : Bool} {T : TypeId} {cs : List CV} {env : Env} {h : Heap} {dfs : Defs}
theorem weak_fz1 (hx : lkE env t = some (.own id 0 m size full)) (ho : lk h id = some (.row T cs)) (hl : cs.length = m * size) : Weak n env h dfs n ((t, .c (.sl size m cs)) :: env) ((id, .dead) :: h) dfs := by
  have hnone : lk ((id, AObj.dead) :: h) id = none := by rw [lk_cons, if_pos rfl]; rfl
  have hs : ∀ k o, lk ((id, AObj.dead) :: h) k = some o → lk h k = some o := fun k o hk => by
    rw [lk_cons] at hk
    split at hk
    · cases hk
    · exact hk
  intro B sz a w hc
  obtain ⟨M, c1, c2, c3, c4⟩ := hc
  have hext := fz_ext (B := B) (n := n) (M := M) (w := w) hs
  refine ⟨M, ⟨c1.fr, fun id o hid ho => (c1.obj id o hid (hs id o ho)).ext hext (fun _ _ => rfl), fun id id' o o' g k1 k2 k3 k4 => c1.inj id id' o o' g k1 k2 (hs id o k3) (hs id' o' k4), fun id o g k1 k2 => c1.lo id o g k1 (hs id o k2)⟩, c2, fun k av hk => ?_, c4.ext hext⟩
  rw [lkE_cons] at hk
  split at hk
  · rename_i e
    subst e
    injection hk with hk
    subst hk
    exact fz_ownW (Hp := (id, .dead) :: h) ho hnone hl B n M w _ hs c1 (c3 _ _ hx)
  · exact Rep.ext hext _ _ (c3 k av hk)
theorem awl_fz {P : Program} {ops : Array Oper} {sz : Nat} {l : List Oper} {K : AK} (t : Nat) (hx : lkE env t = some (.own id 0 m size full)) (ho : lk h id = some (.row T cs)) (hl : cs.length = m * size) (next : AWL P ops sz l K n ((t, .c (.sl size m cs)) :: env) ((id, .dead) :: h) dfs) : AWL P ops sz l K n env h dfs := awl_weak (weak_fz1 hx ho hl) next
theorem awl_fzE {P : Program} {ops : Array Oper} {sz m' : Nat} {cs' : List CV} {l : List Oper} {K : AK} (t : Nat) (hx : lkE env t = some (.own id 0 m size full)) (ho : lk h id = some (.row T cs)) (hl : cs.length = m * size) (hm : m = m') (hc : cs = cs') (next : AWL P ops sz l K n ((t, .c (.sl size m' cs')) :: env) ((id, .dead) :: h) dfs) : AWL P ops sz l K n env h dfs := by
  subst hm hc
  exact awl_weak (weak_fz1 hx ho hl) next
end
end Go.Av
namespace Go.Proofs.Ytccnhpaldmjkbaa
open Go Go.RowKit Go.Av
set_option maxRecDepth 100000
theorem nextX_bd (l : List Int) (n : Nat) (a m : Int) (hm : 2 ≤ m) (hm2 : m ≤ 4294967296) : 0 ≤ nextX l n a m ∧ nextX l n a m < m := by
  unfold nextX
  split
  · omega
  · exact remZ_bounds _ _ hm hm2
theorem nextA_bd (n : Nat) (a m : Int) (ha : 0 ≤ a) (ha2 : a ≤ 9223372036854775807) : 0 ≤ nextA n a m ∧ nextA n a m ≤ 9223372036854775807 := by
  unfold nextA
  split
  · omega
  · rename_i h
    have : ¬ IntKind.i64.wrap (4 * (n : Int)) ≤ a := fun h2 => h (.inr (.inr h2))
    have : IntKind.i64.wrap (4 * (n : Int)) ≤ 9223372036854775807 := by rw [IntKind.wrap_i64]; omega
    omega
def vI (n : Int) : Vl := ⟨1, n, []⟩
def vT (b : UInt8) : Vl := ⟨2, 0, [b]⟩
def shortV (x : Int) : Vl := [Vl.nul, vI 1, vI 2, vI 3, vT 97, vT 98].getD x.toNat Vl.nul
theorem okI (n : Int) (h1 : -4294967296 ≤ n) (h2 : n ≤ 4294967296) : okP (vI n) := .inr (.inl ⟨rfl, h1, h2, rfl⟩)
theorem okT (b : UInt8) : okP (vT b) := .inr (.inr ⟨rfl, rfl, by simp [vT]⟩)
theorem shortV_ok (x : Int) : okP (shortV x) := by
  unfold shortV
  rw [List.getD_eq_getElem?_getD]
  generalize x.toNat = k
  match k with
  | 0 => exact ok_nul
  | 1 => exact okI 1 (by decide) (by decide)
  | 2 => exact okI 2 (by decide) (by decide)
  | 3 => exact okI 3 (by decide) (by decide)
  | 4 => exact okT 97
  | 5 => exact okT 98
  | k + 6 => exact ok_nul
attribute [local irreducible] Still Adds AWL AW Drw DrwE EStep AC AWR Weak Frz Src RetK Out InK ItK AsK RdK RetT OutT ACT
set_option maxHeartbeats 4000000 in
theorem short_ok (l : List Int) (n : Nat) (a : Int) (hn : l.length = n) (hnn : n ≤ maxLen) (ha0 : 0 ≤ a) (ha : a ≤ 9223372036854775807) : ACT Try.prog 55 83 (tpC l n a) [] (tpC l n (nextA n a 6)) (.agg (shortV (nextX l n a 6)).c) := by
  have h1 := rint_ok 1
  rw [clV_ok (v := ⟨1, 1, []⟩) (okI 1 (by decide) (by decide))] at h1
  have h2 := rint_ok 2
  rw [clV_ok (v := ⟨1, 2, []⟩) (okI 2 (by decide) (by decide))] at h2
  have h3 := rint_ok 3
  rw [clV_ok (v := ⟨1, 3, []⟩) (okI 3 (by decide) (by decide))] at h3
  have h4 := rtext_ok [97]
  rw [clV_ok (v := ⟨2, 0, [97]⟩) (okT 97)] at h4
  have h5 := rtext_ok [98]
  rw [clV_ok (v := ⟨2, 0, [98]⟩) (okT 98)] at h5
  have hx := next_ok l n a 6 hn hnn ha0 ha (by decide)
  obtain ⟨b1, b2⟩ := nextX_bd l n a 6 (by decide) (by decide)
  generalize nextX l n a 6 = x at hx b1 b2 ⊢
  generalize nextA n a 6 = a1 at hx ⊢
  simp only [Vl.c] at h1 h2 h3 h4 h5
  rcases (show x = 0 ∨ x = 1 ∨ x = 2 ∨ x = 3 ∨ x = 4 ∨ x = 5 by omega) with e | e | e | e | e | e
  ·
    subst e
    refine act_enter tabOk (sz := 14) Try.func55 rfl (by rw [Try.ntmps55]; rfl) ?_
    repeat' (first | ((with_reducible refine aw_seqk ?_); intro K hK hX) | ((with_reducible refine isC_reg ?_); refine aw_prune [0, 2] rfl rfl ?_; with_reducible refine aw_region ?_) | ((with_reducible refine isA_call ?_); refine awl_callT (hx) g_none rfl zby rfl rfl rfl rfl zcv rfl ztp ?_) | ((with_reducible refine isA_call ?_); (first | refine zA ?_ | refine zN ?_); (first | refine c0 (h1) ?_ | refine c0 (h2) ?_ | refine c0 (h3) ?_ | refine c0 (h4) ?_ | refine c0 (h5) ?_)) | refine stA ?_ | (refine hK _ _ _ _ ?_; clear hK hX K) | (refine hX _ _ _ _ _ (by simp) ?_; clear hK hX K))
    refine retT_mk zio ztr rfl rfl (ResL.one zrs) (outT_c zfz rfl rfl)
  ·
    subst e
    refine act_enter tabOk (sz := 14) Try.func55 rfl (by rw [Try.ntmps55]; rfl) ?_
    repeat' (first | ((with_reducible refine aw_seqk ?_); intro K hK hX) | ((with_reducible refine isC_reg ?_); refine aw_prune [0, 2] rfl rfl ?_; with_reducible refine aw_region ?_) | ((with_reducible refine isA_call ?_); refine awl_callT (hx) g_none rfl zby rfl rfl rfl rfl zcv rfl ztp ?_) | ((with_reducible refine isA_call ?_); (first | refine zA ?_ | refine zN ?_); (first | refine c0 (h1) ?_ | refine c0 (h2) ?_ | refine c0 (h3) ?_ | refine c0 (h4) ?_ | refine c0 (h5) ?_)) | refine stA ?_ | (refine hK _ _ _ _ ?_; clear hK hX K) | (refine hX _ _ _ _ _ (by simp) ?_; clear hK hX K))
    refine retT_mk zio ztr rfl rfl (ResL.one zrs) (outT_c zfz rfl rfl)
  ·
    subst e
    refine act_enter tabOk (sz := 14) Try.func55 rfl (by rw [Try.ntmps55]; rfl) ?_
    repeat' (first | ((with_reducible refine aw_seqk ?_); intro K hK hX) | ((with_reducible refine isC_reg ?_); refine aw_prune [0, 2] rfl rfl ?_; with_reducible refine aw_region ?_) | ((with_reducible refine isA_call ?_); refine awl_callT (hx) g_none rfl zby rfl rfl rfl rfl zcv rfl ztp ?_) | ((with_reducible refine isA_call ?_); (first | refine zA ?_ | refine zN ?_); (first | refine c0 (h1) ?_ | refine c0 (h2) ?_ | refine c0 (h3) ?_ | refine c0 (h4) ?_ | refine c0 (h5) ?_)) | refine stA ?_ | (refine hK _ _ _ _ ?_; clear hK hX K) | (refine hX _ _ _ _ _ (by simp) ?_; clear hK hX K))
    refine retT_mk zio ztr rfl rfl (ResL.one zrs) (outT_c zfz rfl rfl)
  ·
    subst e
    refine act_enter tabOk (sz := 14) Try.func55 rfl (by rw [Try.ntmps55]; rfl) ?_
    repeat' (first | ((with_reducible refine aw_seqk ?_); intro K hK hX) | ((with_reducible refine isC_reg ?_); refine aw_prune [0, 2] rfl rfl ?_; with_reducible refine aw_region ?_) | ((with_reducible refine isA_call ?_); refine awl_callT (hx) g_none rfl zby rfl rfl rfl rfl zcv rfl ztp ?_) | ((with_reducible refine isA_call ?_); (first | refine zA ?_ | refine zN ?_); (first | refine c0 (h1) ?_ | refine c0 (h2) ?_ | refine c0 (h3) ?_ | refine c0 (h4) ?_ | refine c0 (h5) ?_)) | refine stA ?_ | (refine hK _ _ _ _ ?_; clear hK hX K) | (refine hX _ _ _ _ _ (by simp) ?_; clear hK hX K))
    refine retT_mk zio ztr rfl rfl (ResL.one zrs) (outT_c zfz rfl rfl)
  ·
    subst e
    refine act_enter tabOk (sz := 14) Try.func55 rfl (by rw [Try.ntmps55]; rfl) ?_
    repeat' (first | ((with_reducible refine aw_seqk ?_); intro K hK hX) | ((with_reducible refine isC_reg ?_); refine aw_prune [0, 2] rfl rfl ?_; with_reducible refine aw_region ?_) | ((with_reducible refine isA_call ?_); refine awl_callT (hx) g_none rfl zby rfl rfl rfl rfl zcv rfl ztp ?_) | ((with_reducible refine isA_call ?_); (first | refine zA ?_ | refine zN ?_); (first | refine c0 (h1) ?_ | refine c0 (h2) ?_ | refine c0 (h3) ?_ | refine c0 (h4) ?_ | refine c0 (h5) ?_)) | refine stA ?_ | (refine hK _ _ _ _ ?_; clear hK hX K) | (refine hX _ _ _ _ _ (by simp) ?_; clear hK hX K))
    refine retT_mk zio ztr rfl rfl (ResL.one zrs) (outT_c zfz rfl rfl)
  ·
    subst e
    refine act_enter tabOk (sz := 14) Try.func55 rfl (by rw [Try.ntmps55]; rfl) ?_
    repeat' (first | ((with_reducible refine aw_seqk ?_); intro K hK hX) | ((with_reducible refine isC_reg ?_); refine aw_prune [0, 2] rfl rfl ?_; with_reducible refine aw_region ?_) | ((with_reducible refine isA_call ?_); refine awl_callT (hx) g_none rfl zby rfl rfl rfl rfl zcv rfl ztp ?_) | ((with_reducible refine isA_call ?_); (first | refine zA ?_ | refine zN ?_); (first | refine c0 (h1) ?_ | refine c0 (h2) ?_ | refine c0 (h3) ?_ | refine c0 (h4) ?_ | refine c0 (h5) ?_)) | refine stA ?_ | (refine hK _ _ _ _ ?_; clear hK hX K) | (refine hX _ _ _ _ _ (by simp) ?_; clear hK hX K))
    refine retT_mk zio ztr rfl rfl (ResL.one zrs) (outT_c zfz rfl rfl)
end Go.Proofs.Ytccnhpaldmjkbaa
namespace Go.Av
open Go Go.RowKit
section
variable {P : Program} {sz n t : Nat} {env : Env} {h : Heap} {dfs : Defs} {K : AK} {ops : Array Oper} {rest : List Oper} {op : Op} {ty : TypeId} {pos : String} {aft : Array Edge} {gd : Option (Nat × Bool)}
/-- What is passed over leaves the undefined value. -/
theorem a_skipU (hg : guardA ops env ⟨some t, op, ty, pos, aft, gd⟩ false) (hd : Nat.blt t sz = true) (next : AWL P ops sz rest K n ((t, .c (.v undef)) :: env) h dfs) : AWL P ops sz (⟨some t, op, ty, pos, aft, gd⟩ :: rest) K n env h dfs := by
  intro B a w hc
  obtain ⟨M, h1, h2, h3, h4⟩ := hc
  refine wplg_step fun K' hK' => ?_
  rw [if_neg (by rw [hg.wanted h3]; simp)]
  obtain ⟨p1, p2, p3⟩ := put_env (d := some t) (v := .c (.v undef)) (u := undef) h2 h3 (Ext.refl _) (dstOk_spec (d := some t) hd) (by simp [Rep, RepC])
  exact hK' _ _ (next B _ _ ⟨M, h1, p1, p2, by rw [p3]; exact h4⟩)
/-- A guard whose own operation was passed over is not met. -/
theorem a_skip2 {j s : Nat} {want : Bool} (hs : (ops[j]?).bind (·.dst) = some s) (hv : lkE env s = some (.c (.v undef))) (hd : Nat.blt t sz = true) (next : AWL P ops sz rest K n ((t, .c (.v undef)) :: env) h dfs) : AWL P ops sz (⟨some t, op, ty, pos, aft, some (j, want)⟩ :: rest) K n env h dfs := by
  intro B a w hc
  obtain ⟨M, h1, h2, h3, h4⟩ := hc
  refine wplg_step fun K' hK' => ?_
  have hw : Region.wanted ⟨some t, op, ty, pos, aft, some (j, want)⟩ (yielded ops a.tmps) = false := by
    have h5 := h3 s _ hv
    simp only [Rep, RepC] at h5
    have : yielded ops a.tmps j = none := by
      unfold yielded
      rw [hs]
      simp only [Option.bind_some]
      cases hq : a.tmps[s]? with
      | none => rfl
      | some q =>
        have : q = undef := by rw [← h5]; simp [hq]
        subst this
        rfl
    simp [Region.wanted, this]
  rw [if_neg (by rw [hw]; simp)]
  obtain ⟨p1, p2, p3⟩ := put_env (d := some t) (v := .c (.v undef)) (u := undef) h2 h3 (Ext.refl _) (dstOk_spec (d := some t) hd) (by simp [Rep, RepC])
  exact hK' _ _ (next B _ _ ⟨M, h1, p1, p2, by rw [p3]; exact h4⟩)
end
end Go.Av
namespace Go.Proofs.Ytccnhpaldmjkbaa
open Go Go.RowKit Go.Av
set_option maxRecDepth 100000
section
variable {P : Program} {tab : Tab} {ev : Evl} {h : Heap} {d : Option Tmp} {T T' ty : TypeId} {x y : Operand} {pos : String} {aft : Array Edge} {gd : Option (Nat × Bool)}
theorem s_lssL {s t : List UInt8} {b : Bool} (hx : ev x = some (.c (sv s))) (hy : ev y = some (.c (sv t))) (hr : Op.bytesLess s t = b) : Still P ⟨d, .binOp .lss T x y T', ty, pos, aft, gd⟩ ev h (.c (.v (.bool b))) :=
  s_bin hx hy guard_str (fun w => by
    subst hr; simp only [binOp, Op.stringOp, toList_l]; rfl)
theorem less_cmp : ∀ (a b : List UInt8), Op.bytesLess a b = decide (Lib.compareBytes a b < 0)
  | [], [] => rfl
  | [], _ :: _ => rfl
  | _ :: _, [] => rfl
  | a :: x, b :: y => by
    have ih := less_cmp x y
    unfold Op.bytesLess Lib.compareBytes
    by_cases h1 : a < b
    · simp [h1]
    · by_cases h2 : b < a
      · have : ¬ a = b := fun e => by subst e; exact h1 h2
        simp [h1, h2, this]
      · have : a = b := by
          apply UInt8.toNat_inj.1
          have e1 : ¬ a.toNat < b.toNat := h1
          have e2 : ¬ b.toNat < a.toNat := h2
          omega
        subst this
        simp [h1, ih]
theorem cmpB_eq : ∀ (a b : List UInt8), Lib.compareBytes a b = 0 ↔ a = b
  | [], [] => by simp [Lib.compareBytes]
  | [], _ :: _ => by simp [Lib.compareBytes]
  | _ :: _, [] => by simp [Lib.compareBytes]
  | a :: x, b :: y => by
    have ih := cmpB_eq x y
    unfold Lib.compareBytes
    by_cases h1 : a < b
    · have : ¬ a = b := fun e => by subst e; exact absurd h1 (by show ¬ a.toNat < a.toNat; omega)
      simp [h1, this]
    · by_cases h2 : b < a
      · have : ¬ a = b := fun e => by subst e; exact h1 h2
        simp [h1, h2, this]
      · have : a = b := by
          apply UInt8.toNat_inj.1
          have e1 : ¬ a.toNat < b.toNat := h1
          have e2 : ¬ b.toNat < a.toNat := h2
          omega
        subst this
        simp [h1, ih]
theorem cmpB_range : ∀ (a b : List UInt8), Lib.compareBytes a b = -1 ∨ Lib.compareBytes a b = 0 ∨ Lib.compareBytes a b = 1
  | [], [] => by simp [Lib.compareBytes]
  | [], _ :: _ => by simp [Lib.compareBytes]
  | _ :: _, [] => by simp [Lib.compareBytes]
  | a :: x, b :: y => by
    have ih := cmpB_range x y
    unfold Lib.compareBytes
    split
    · simp
    · split
      · simp
      · exact ih
end
theorem flds : Try.prog.fieldsOf 43 = #[{ name := "Kind", type := 3, offset := 0, embedded := false, tag := "", pkgPath := "", byteOffset := 0 },
        { name := "Int", type := 2, offset := 1, embedded := false, tag := "", pkgPath := "", byteOffset := 8 },
        { name := "Text", type := 9, offset := 2, embedded := false, tag := "", pkgPath := "", byteOffset := 16 }] := by unfold Program.fieldsOf; rw [Try.underlying43]
theorem run_eqlV (a b : Vl) (w : World) : (binOp .eql 43 (.agg #[.int .i64 a.k, .int .i64 a.n, .string ⟨a.t.toArray⟩]) (.agg #[.int .i64 b.k, .int .i64 b.n, .string ⟨b.t.toArray⟩])).run Try.prog w = .ok (.bool (decide (a = b))) w := by
  have hu : Try.prog.underlying 43 = some (.struct (Try.prog.fieldsOf 43)) := by rw [flds]; exact Try.underlying43
  have g3 := fun (w : World) => run_equalIn_int (P := Try.prog) w 9998 3 .i64 .i64 a.k b.k Try.underlying3
  have g2 := fun (w : World) => run_equalIn_int (P := Try.prog) w 9998 2 .i64 .i64 a.n b.n Try.underlying2
  have g9 := fun (w : World) => run_equalIn_string (P := Try.prog) w 9998 9 ⟨a.t.toArray⟩ ⟨b.t.toArray⟩ Try.underlying9
  rw [run_eql_struct, run_equalIn_agg w 9999 43 _ _ hu (by kernel_rfl), flds]
  simp only [Op.eqFields, part, isAgg, Sem.run_bind, Sem.run_ite, run_underlying Try.underlying3, run_underlying Try.underlying2, run_underlying Try.underlying9, Result.andThen_ok, Sem.run_pure]
  simp only [ne_eq, String.reduceEq, not_false_eq_true, if_true, Bool.false_eq_true, if_false, List.getElem?_toArray, List.getElem?_cons_zero, List.getElem?_cons_succ, Sem.run_pure, Result.andThen_ok, g3, g2, g9, toList_l]
  obtain ⟨ak, an, at'⟩ := a
  obtain ⟨bk, bn, bt⟩ := b
  by_cases h1 : ak = bk
  · by_cases h2 : an = bn
    · by_cases h3 : at' = bt
      · simp [h1, h2, h3]
      · simp [h1, h2, h3]
    · simp [h1, h2]
  · simp [h1]
theorem s_eqlV {ev : Evl} {h : Heap} {d : Option Tmp} {T' ty : TypeId} {x y : Operand} {pos : String} {aft : Array Edge} {gd : Option (Nat × Bool)} {a b : Vl} {r : Bool} (hx : ev x = some (.c (.agg a.c))) (hy : ev y = some (.c (.agg b.c))) (hr : decide (a = b) = r) : Still Try.prog ⟨d, .binOp .eql 43 x y T', ty, pos, aft, gd⟩ ev h (.c (.v (.bool r))) := by
  intro B dom M H w s hh hc he
  have h1 := he x _ hx
  have h2 := he y _ hy
  simp only [Rep, RepC, Vl.c] at h1 h2
  obtain ⟨us, h1, h3, _⟩ := h1
  obtain ⟨vs, h2, h4, _⟩ := h2
  have h3 := RepCs.of_plain (vs := [.int .i64 a.k, .int .i64 a.n, .string ⟨a.t.toArray⟩]) h3
  have h4 := RepCs.of_plain (vs := [.int .i64 b.k, .int .i64 b.n, .string ⟨b.t.toArray⟩]) h4
  subst h3 h4
  refine ⟨_, ?_, rfl⟩
  have := run_eqlV a b w
  rw [hr] at this
  simp only [execOp, h1, h2, Sem.run_bind, guard_agg (P := Try.prog) w (by kernel_rfl : Try.prog.eqGuardType Try.prog.depth 43 = false), Result.andThen_ok]
  rw [this]
  rfl
attribute [local irreducible] Still Adds AWL AW Drw DrwE EStep AC AWR Weak Frz Src RetK Out InK ItK AsK RdK RetT OutT ACT
set_option maxHeartbeats 4000000 in
theorem rvcmp_ok (a b : Vl) : AC Try.prog 153 [.agg a.c, .agg b.c] (.c (iv (cmpV (clV a) (clV b)))) [] 0 := by
  have h1 := rclean_ok a
  have h2 := rclean_ok b
  have o1 := ok_cl a
  have o2 := ok_cl b
  obtain ⟨ak, an, at'⟩ := a
  obtain ⟨bk, bn, bt⟩ := b
  generalize clV ⟨ak, an, at'⟩ = x at h1 o1 ⊢
  generalize clV ⟨bk, bn, bt⟩ = y at h2 o2 ⊢
  obtain ⟨xk, xn, xt⟩ := x
  obtain ⟨yk, yn, yt⟩ := y
  simp only [Vl.c] at *
  unfold okP at o1 o2
  simp only at o1 o2
  obtain ⟨lb, hl⟩ : ∃ lb, Op.bytesLess xt yt = lb := ⟨_, rfl⟩
  have hlc := less_cmp xt yt
  rw [hl] at hlc
  have hc0 := cmpB_eq xt yt
  have hcr := cmpB_range xt yt
  unfold cmpV cmpZ
  dsimp only
  by_cases e : (⟨xk, xn, xt⟩ : Vl) = ⟨yk, yn, yt⟩
  · have e' := e
    simp only [Vl.mk.injEq] at e'
    obtain ⟨e1, e2, e3⟩ := e'
    have hz : (if xk ≠ yk then (if xk < yk then (-1 : Int) else if yk < xk then 1 else 0) else if xk = 1 then (if xn < yn then -1 else if yn < xn then 1 else 0) else if xk = 2 then Lib.compareBytes xt yt else 0) = 0 := by
      rw [if_neg (fun h => h e1), e2, hc0.2 e3]
      simp
    rw [hz]
    clear hz hlc hc0 hcr o1 o2
    refine ac_enter tabOk (sz := 38) Try.func153 rfl (by rw [Try.ntmps153]; rfl) ?_
    repeat' (first | ((with_reducible refine aw_seqk ?_); intro K hK hX) | ((with_reducible refine isC_reg ?_); refine aw_prune [0, 1, 2, 3, 4] rfl rfl ?_; with_reducible refine aw_region ?_) | ((with_reducible refine isC_draw ?_); refine aw_prune [0, 1, 2, 3, 4] rfl rfl ?_; refine aw_drwE [] ?_) | ((with_reducible refine isA_g ?_); refine a_skip2 rfl rfl rfl ?_) | ((with_reducible refine isA_g ?_); refine a_skipU (g_some rfl rfl zgd) rfl ?_) | ((first | with_reducible refine isA_call ?_ | with_reducible refine isE_call ?_); (first | refine zA ?_ | refine zN ?_ | refine zE ?_); (first | refine c0 (h1) ?_ | refine c0 (h2) ?_)) | ((first | ((with_reducible refine isA_any ?_); refine xA ?_) | ((with_reducible refine isEk_any ?_); refine xE ?_)); (first | ((with_reducible refine e_bin ?_); (first | refine ex_i (s_eqlV (a := ⟨xk, xn, xt⟩) (b := ⟨yk, yn, yt⟩) rfl rfl (decide_eq_true e)) ?_ | refine ex_i (s_lssL rfl rfl hl) ?_)))) | refine stA ?_ | refine stE ?_ | (refine hK _ _ _ _ ?_; clear hK hX K) | (refine hX _ _ _ _ _ (by simp) ?_; clear hK hX K))
    refine retK_mk zio ztr rfl (ResL.one (ResA.tmp rfl)) zou
  · have ne : ¬ (xk = yk ∧ xn = yn ∧ xt = yt) := fun h => e (by rw [h.1, h.2.1, h.2.2])
    by_cases k1 : xk = yk
    · rw [if_neg (fun h => h k1)]
      rcases o1 with ⟨p1, p2, p3⟩ | ⟨p1, p2, p2', p3⟩ | ⟨p1, p2, p3⟩
      · rcases o2 with ⟨q1, q2, q3⟩ | ⟨q1, q2, q2', q3⟩ | ⟨q1, q2, q3⟩
        · exact absurd ⟨k1, by omega, by rw [p3, q3]⟩ ne
        · omega
        · omega
      · have q3 : yt = [] := by rcases o2 with ⟨q1, q2, q3⟩ | ⟨q1, q2, q2', q3⟩ | ⟨q1, q2, q3⟩; omega; exact q3; omega
        have hlf : lb = false := by rw [← hl, p3, q3]; rfl
        have nn : xn ≠ yn := fun h => ne ⟨k1, h, by rw [p3, q3]⟩
        rw [hlf] at hl
        rw [if_pos p1]
        clear ne hlc hc0 hcr o2 hlf
        by_cases n1 : xn < yn
        · rw [if_pos n1]
          refine ac_enter tabOk (sz := 38) Try.func153 rfl (by rw [Try.ntmps153]; rfl) ?_
          repeat' (first | ((with_reducible refine aw_seqk ?_); intro K hK hX) | ((with_reducible refine isC_reg ?_); refine aw_prune [0, 1, 2, 3, 4] rfl rfl ?_; with_reducible refine aw_region ?_) | ((with_reducible refine isC_draw ?_); refine aw_prune [0, 1, 2, 3, 4] rfl rfl ?_; refine aw_drwE [] ?_) | ((with_reducible refine isA_g ?_); refine a_skip2 rfl rfl rfl ?_) | ((with_reducible refine isA_g ?_); refine a_skipU (g_some rfl rfl zgd) rfl ?_) | ((first | with_reducible refine isA_call ?_ | with_reducible refine isE_call ?_); (first | refine zA ?_ | refine zN ?_ | refine zE ?_); (first | refine c0 (h1) ?_ | refine c0 (h2) ?_)) | ((first | ((with_reducible refine isA_any ?_); refine xA ?_) | ((with_reducible refine isEk_any ?_); refine xE ?_)); (first | ((with_reducible refine e_bin ?_); (first | refine ex_i (s_eqlV (a := ⟨xk, xn, xt⟩) (b := ⟨yk, yn, yt⟩) rfl rfl (decide_eq_false e)) ?_ | refine ex_i (s_lssL rfl rfl hl) ?_)))) | refine stA ?_ | refine stE ?_ | (refine hK _ _ _ _ ?_; clear hK hX K) | (refine hX _ _ _ _ _ (by simp) ?_; clear hK hX K))
          refine retK_mk zio ztr rfl (ResL.one (ResA.tmp rfl)) zou
        · rw [if_neg n1, if_pos (by omega)]
          refine ac_enter tabOk (sz := 38) Try.func153 rfl (by rw [Try.ntmps153]; rfl) ?_
          repeat' (first | ((with_reducible refine aw_seqk ?_); intro K hK hX) | ((with_reducible refine isC_reg ?_); refine aw_prune [0, 1, 2, 3, 4] rfl rfl ?_; with_reducible refine aw_region ?_) | ((with_reducible refine isC_draw ?_); refine aw_prune [0, 1, 2, 3, 4] rfl rfl ?_; refine aw_drwE [] ?_) | ((with_reducible refine isA_g ?_); refine a_skip2 rfl rfl rfl ?_) | ((with_reducible refine isA_g ?_); refine a_skipU (g_some rfl rfl zgd) rfl ?_) | ((first | with_reducible refine isA_call ?_ | with_reducible refine isE_call ?_); (first | refine zA ?_ | refine zN ?_ | refine zE ?_); (first | refine c0 (h1) ?_ | refine c0 (h2) ?_)) | ((first | ((with_reducible refine isA_any ?_); refine xA ?_) | ((with_reducible refine isEk_any ?_); refine xE ?_)); (first | ((with_reducible refine e_bin ?_); (first | refine ex_i (s_eqlV (a := ⟨xk, xn, xt⟩) (b := ⟨yk, yn, yt⟩) rfl rfl (decide_eq_false e)) ?_ | refine ex_i (s_lssL rfl rfl hl) ?_)))) | refine stA ?_ | refine stE ?_ | (refine hK _ _ _ _ ?_; clear hK hX K) | (refine hX _ _ _ _ _ (by simp) ?_; clear hK hX K))
          refine retK_mk zio ztr rfl (ResL.one (ResA.tmp rfl)) zou
      · have q2 : yn = 0 := by rcases o2 with ⟨q1, q2, q3⟩ | ⟨q1, q2, q2', q3⟩ | ⟨q1, q2, q3⟩; omega; omega; exact q2
        have nt : xt ≠ yt := fun h => ne ⟨k1, by omega, h⟩
        rw [if_neg (by omega), if_pos p1]
        by_cases n1 : Lib.compareBytes xt yt < 0
        · have hz : Lib.compareBytes xt yt = -1 := by omega
          rw [hz]
          have hlt : lb = true := by rw [hlc]; exact decide_eq_true n1
          rw [hlt] at hl
          clear ne hlc hc0 hcr o2 hz n1
          refine ac_enter tabOk (sz := 38) Try.func153 rfl (by rw [Try.ntmps153]; rfl) ?_
          repeat' (first | ((with_reducible refine aw_seqk ?_); intro K hK hX) | ((with_reducible refine isC_reg ?_); refine aw_prune [0, 1, 2, 3, 4] rfl rfl ?_; with_reducible refine aw_region ?_) | ((with_reducible refine isC_draw ?_); refine aw_prune [0, 1, 2, 3, 4] rfl rfl ?_; refine aw_drwE [] ?_) | ((with_reducible refine isA_g ?_); refine a_skip2 rfl rfl rfl ?_) | ((with_reducible refine isA_g ?_); refine a_skipU (g_some rfl rfl zgd) rfl ?_) | ((first | with_reducible refine isA_call ?_ | with_reducible refine isE_call ?_); (first | refine zA ?_ | refine zN ?_ | refine zE ?_); (first | refine c0 (h1) ?_ | refine c0 (h2) ?_)) | ((first | ((with_reducible refine isA_any ?_); refine xA ?_) | ((with_reducible refine isEk_any ?_); refine xE ?_)); (first | ((with_reducible refine e_bin ?_); (first | refine ex_i (s_eqlV (a := ⟨xk, xn, xt⟩) (b := ⟨yk, yn, yt⟩) rfl rfl (decide_eq_false e)) ?_ | refine ex_i (s_lssL rfl rfl hl) ?_)))) | refine stA ?_ | refine stE ?_ | (refine hK _ _ _ _ ?_; clear hK hX K) | (refine hX _ _ _ _ _ (by simp) ?_; clear hK hX K))
          refine retK_mk zio ztr rfl (ResL.one (ResA.tmp rfl)) zou
        · have hz : Lib.compareBytes xt yt = 1 := by
            have : Lib.compareBytes xt yt ≠ 0 := fun h => nt (hc0.1 h)
            omega
          rw [hz]
          have hlt : lb = false := by rw [hlc]; exact decide_eq_false n1
          rw [hlt] at hl
          clear ne hlc hc0 hcr o2 hz n1
          refine ac_enter tabOk (sz := 38) Try.func153 rfl (by rw [Try.ntmps153]; rfl) ?_
          repeat' (first | ((with_reducible refine aw_seqk ?_); intro K hK hX) | ((with_reducible refine isC_reg ?_); refine aw_prune [0, 1, 2, 3, 4] rfl rfl ?_; with_reducible refine aw_region ?_) | ((with_reducible refine isC_draw ?_); refine aw_prune [0, 1, 2, 3, 4] rfl rfl ?_; refine aw_drwE [] ?_) | ((with_reducible refine isA_g ?_); refine a_skip2 rfl rfl rfl ?_) | ((with_reducible refine isA_g ?_); refine a_skipU (g_some rfl rfl zgd) rfl ?_) | ((first | with_reducible refine isA_call ?_ | with_reducible refine isE_call ?_); (first | refine zA ?_ | refine zN ?_ | refine zE ?_); (first | refine c0 (h1) ?_ | refine c0 (h2) ?_)) | ((first | ((with_reducible refine isA_any ?_); refine xA ?_) | ((with_reducible refine isEk_any ?_); refine xE ?_)); (first | ((with_reducible refine e_bin ?_); (first | refine ex_i (s_eqlV (a := ⟨xk, xn, xt⟩) (b := ⟨yk, yn, yt⟩) rfl rfl (decide_eq_false e)) ?_ | refine ex_i (s_lssL rfl rfl hl) ?_)))) | refine stA ?_ | refine stE ?_ | (refine hK _ _ _ _ ?_; clear hK hX K) | (refine hX _ _ _ _ _ (by simp) ?_; clear hK hX K))
          refine retK_mk zio ztr rfl (ResL.one (ResA.tmp rfl)) zou
    · rw [if_pos k1]
      clear ne hlc hc0 hcr o1 o2
      by_cases n1 : xk < yk
      · rw [if_pos n1]
        refine ac_enter tabOk (sz := 38) Try.func153 rfl (by rw [Try.ntmps153]; rfl) ?_
        repeat' (first | ((with_reducible refine aw_seqk ?_); intro K hK hX) | ((with_reducible refine isC_reg ?_); refine aw_prune [0, 1, 2, 3, 4] rfl rfl ?_; with_reducible refine aw_region ?_) | ((with_reducible refine isC_draw ?_); refine aw_prune [0, 1, 2, 3, 4] rfl rfl ?_; refine aw_drwE [] ?_) | ((with_reducible refine isA_g ?_); refine a_skip2 rfl rfl rfl ?_) | ((with_reducible refine isA_g ?_); refine a_skipU (g_some rfl rfl zgd) rfl ?_) | ((first | with_reducible refine isA_call ?_ | with_reducible refine isE_call ?_); (first | refine zA ?_ | refine zN ?_ | refine zE ?_); (first | refine c0 (h1) ?_ | refine c0 (h2) ?_)) | ((first | ((with_reducible refine isA_any ?_); refine xA ?_) | ((with_reducible refine isEk_any ?_); refine xE ?_)); (first | ((with_reducible refine e_bin ?_); (first | refine ex_i (s_eqlV (a := ⟨xk, xn, xt⟩) (b := ⟨yk, yn, yt⟩) rfl rfl (decide_eq_false e)) ?_ | refine ex_i (s_lssL rfl rfl hl) ?_)))) | refine stA ?_ | refine stE ?_ | (refine hK _ _ _ _ ?_; clear hK hX K) | (refine hX _ _ _ _ _ (by simp) ?_; clear hK hX K))
        refine retK_mk zio ztr rfl (ResL.one (ResA.tmp rfl)) zou
      · rw [if_neg n1, if_pos (by omega)]
        refine ac_enter tabOk (sz := 38) Try.func153 rfl (by rw [Try.ntmps153]; rfl) ?_
        repeat' (first | ((with_reducible refine aw_seqk ?_); intro K hK hX) | ((with_reducible refine isC_reg ?_); refine aw_prune [0, 1, 2, 3, 4] rfl rfl ?_; with_reducible refine aw_region ?_) | ((with_reducible refine isC_draw ?_); refine aw_prune [0, 1, 2, 3, 4] rfl rfl ?_; refine aw_drwE [] ?_) | ((with_reducible refine isA_g ?_); refine a_skip2 rfl rfl rfl ?_) | ((with_reducible refine isA_g ?_); refine a_skipU (g_some rfl rfl zgd) rfl ?_) | ((first | with_reducible refine isA_call ?_ | with_reducible refine isE_call ?_); (first | refine zA ?_ | refine zN ?_ | refine zE ?_); (first | refine c0 (h1) ?_ | refine c0 (h2) ?_)) | ((first | ((with_reducible refine isA_any ?_); refine xA ?_) | ((with_reducible refine isEk_any ?_); refine xE ?_)); (first | ((with_reducible refine e_bin ?_); (first | refine ex_i (s_eqlV (a := ⟨xk, xn, xt⟩) (b := ⟨yk, yn, yt⟩) rfl rfl (decide_eq_false e)) ?_ | refine ex_i (s_lssL rfl rfl hl) ?_)))) | refine stA ?_ | refine stE ?_ | (refine hK _ _ _ _ ?_; clear hK hX K) | (refine hX _ _ _ _ _ (by simp) ?_; clear hK hX K))
        refine retK_mk zio ztr rfl (ResL.one (ResA.tmp rfl)) zou
end Go.Proofs.Ytccnhpaldmjkbaa
namespace Go.Proofs.Ytccnhpaldmjkbaa
open Go Go.RowKit Go.Av
set_option maxRecDepth 100000
attribute [local irreducible] Still Adds AWL AW Drw DrwE EStep AC AWR Weak Frz Src RetK Out InK ItK AsK RdK RetT OutT ACT
open Classical in
set_option maxHeartbeats 4000000 in
theorem rvrow_ok (r : List Vl) (n : Nat) (hn : r.length = n) (hm : n ≤ maxLen) : AC Try.prog 110 [.sl 3 n (rc r)] (.c (bv (decide (rowP r)))) [] 0 := by
  have hrl : (rc r).length = n * 3 := by rw [rc_length, hn]
  by_cases b1 : n ≤ 16
  · by_cases b2 : ∀ v ∈ r, okP v
    · rw [decide_eq_true (show rowP r from ⟨by omega, b2⟩)]
      refine ac_enter tabOk (sz := 19) Try.func110 rfl (by rw [Try.ntmps110]; rfl) ?_
      repeat' (first | ((with_reducible refine aw_seqk ?_); intro K hK hX) | ((with_reducible refine isC_reg ?_); refine aw_prune [0, 2, 3] rfl rfl ?_; with_reducible refine aw_region ?_) | refine stA ?_ | (refine hK _ _ _ _ ?_; clear hK hX K) | (refine hX _ _ _ _ _ (by simp) ?_; clear hK hX K))
      refine aw_loopo [3] [] rfl rfl (fun i : Nat => [(3, .c (iv i))]) (fun i => []) (fun i => i ≤ n) (fun i => n - i) 0 (by omega) weakA ?_
      intro i hi K hK hX
      by_cases hlt : i < n
      · obtain ⟨v, hv⟩ : ∃ v, r[i]? = some v := ⟨r[i]'(by omega), List.getElem?_eq_getElem _⟩
        have hat := rc_at hv
        have hva := rvalid_ok v
        rw [okV_t (b2 v (List.mem_of_getElem? hv))] at hva
        obtain ⟨a, m, b⟩ := v
        simp only [Vl.c] at hat hva
        repeat' (first | ((with_reducible refine aw_seqk ?_); intro K hK hX) | ((with_reducible refine isC_reg ?_); refine aw_prune [0, 2, 3] rfl rfl ?_; with_reducible refine aw_region ?_) | ((with_reducible refine isA_call ?_); (first | refine zA ?_ | refine zN ?_); (first | refine c0 (hva) ?_)) | (((with_reducible refine isA_any ?_); refine xA ?_); (first | ((with_reducible refine e_load ?_); (first | refine ex_i (s_loadAr tabOk rfl rfl rfl rfl (by first | exact hat | exact whole0 (by first | rfl | omega) | rfl) zln) ?_ | refine ex_i (s_loadAi tabOk rfl rfl rfl (by first | exact hat | exact whole0 (by first | rfl | omega) | rfl) zln) ?_)) | ((with_reducible refine e_slice ?_); (first | refine ex_i (s_slArri tabOk rfl rfl rfl rfl zbd zbd zle zle (by decide) (by first | exact hat | exact whole0 (by first | rfl | omega) | rfl) zln) ?_)))) | refine stA ?_ | (refine hK _ _ _ _ ?_; clear hK hX K) | (refine hX _ _ _ _ _ (by simp) ?_; clear hK hX K))
        exact ⟨i + 1, by omega, by omega, weakA⟩
      · repeat' (first | ((with_reducible refine aw_seqk ?_); intro K hK hX) | ((with_reducible refine isC_reg ?_); refine aw_prune [0, 2, 3] rfl rfl ?_; with_reducible refine aw_region ?_) | refine stA ?_ | (refine hK _ _ _ _ ?_; clear hK hX K) | (refine hX _ _ _ _ _ (by simp) ?_; clear hK hX K))
        refine retK_mk zio ztr rfl (ResL.one (ResA.tmp rfl)) zou
    · rw [decide_eq_false (show ¬ rowP r from fun h => b2 h.2)]
      have hex : ∃ j, j < n ∧ (∀ v, r[j]? = some v → ¬ okP v) ∧ ∀ i, i < j → ∀ v, r[i]? = some v → okP v := by
        obtain ⟨v, hv, hnv⟩ : ∃ v ∈ r, ¬ okP v := Classical.byContradiction fun h => b2 fun v hv => Classical.byContradiction fun h2 => h ⟨v, hv, h2⟩
        obtain ⟨j0, hj0⟩ := List.mem_iff_getElem?.1 hv
        obtain ⟨j, h1, h2⟩ := exists_min (fun j => ∀ v, r[j]? = some v → ¬ okP v) ⟨j0, fun u hu => by rw [hj0] at hu; injection hu with hu; subst hu; exact hnv⟩
        refine ⟨j, ?_, h1, fun i hi v hv => Classical.byContradiction fun hnv => ?_⟩
        · have := h2 j0 (fun u hu => by rw [hj0] at hu; injection hu with hu; subst hu; exact hnv)
          have := (List.getElem?_eq_some_iff.1 hj0).1
          omega
        · have := h2 i (fun u hu => by rw [hv] at hu; injection hu with hu; subst hu; exact hnv)
          omega
      obtain ⟨q, hq, hq1, hq2⟩ := hex
      refine ac_enter tabOk (sz := 19) Try.func110 rfl (by rw [Try.ntmps110]; rfl) ?_
      repeat' (first | ((with_reducible refine aw_seqk ?_); intro K hK hX) | ((with_reducible refine isC_reg ?_); refine aw_prune [0, 2, 3] rfl rfl ?_; with_reducible refine aw_region ?_) | refine stA ?_ | (refine hK _ _ _ _ ?_; clear hK hX K) | (refine hX _ _ _ _ _ (by simp) ?_; clear hK hX K))
      refine aw_loopo [3] [] rfl rfl (fun i : Nat => [(3, .c (iv i))]) (fun i => []) (fun i => i ≤ q) (fun i => q - i) 0 (by omega) weakA ?_
      intro i hi K hK hX
      obtain ⟨v, hv⟩ : ∃ v, r[i]? = some v := ⟨r[i]'(by omega), List.getElem?_eq_getElem _⟩
      have hat := rc_at hv
      have hva := rvalid_ok v
      have hin : i < n := by omega
      by_cases hlt : i < q
      · rw [okV_t (hq2 i hlt v hv)] at hva
        obtain ⟨a, m, b⟩ := v
        simp only [Vl.c] at hat hva
        repeat' (first | ((with_reducible refine aw_seqk ?_); intro K hK hX) | ((with_reducible refine isC_reg ?_); refine aw_prune [0, 2, 3] rfl rfl ?_; with_reducible refine aw_region ?_) | ((with_reducible refine isA_call ?_); (first | refine zA ?_ | refine zN ?_); (first | refine c0 (hva) ?_)) | (((with_reducible refine isA_any ?_); refine xA ?_); (first | ((with_reducible refine e_load ?_); (first | refine ex_i (s_loadAr tabOk rfl rfl rfl rfl (by first | exact hat | exact whole0 (by first | rfl | omega) | rfl) zln) ?_ | refine ex_i (s_loadAi tabOk rfl rfl rfl (by first | exact hat | exact whole0 (by first | rfl | omega) | rfl) zln) ?_)) | ((with_reducible refine e_slice ?_); (first | refine ex_i (s_slArri tabOk rfl rfl rfl rfl zbd zbd zle zle (by decide) (by first | exact hat | exact whole0 (by first | rfl | omega) | rfl) zln) ?_)))) | refine stA ?_ | (refine hK _ _ _ _ ?_; clear hK hX K) | (refine hX _ _ _ _ _ (by simp) ?_; clear hK hX K))
        exact ⟨i + 1, by omega, by omega, weakA⟩
      · have hiq : i = q := by omega
        rw [okV_f (hq1 v (by rw [← hiq]; exact hv))] at hva
        obtain ⟨a, m, b⟩ := v
        simp only [Vl.c] at hat hva
        repeat' (first | ((with_reducible refine aw_seqk ?_); intro K hK hX) | ((with_reducible refine isC_reg ?_); refine aw_prune [0, 2, 3] rfl rfl ?_; with_reducible refine aw_region ?_) | ((with_reducible refine isA_call ?_); (first | refine zA ?_ | refine zN ?_); (first | refine c0 (hva) ?_)) | (((with_reducible refine isA_any ?_); refine xA ?_); (first | ((with_reducible refine e_load ?_); (first | refine ex_i (s_loadAr tabOk rfl rfl rfl rfl (by first | exact hat | exact whole0 (by first | rfl | omega) | rfl) zln) ?_ | refine ex_i (s_loadAi tabOk rfl rfl rfl (by first | exact hat | exact whole0 (by first | rfl | omega) | rfl) zln) ?_)) | ((with_reducible refine e_slice ?_); (first | refine ex_i (s_slArri tabOk rfl rfl rfl rfl zbd zbd zle zle (by decide) (by first | exact hat | exact whole0 (by first | rfl | omega) | rfl) zln) ?_)))) | refine stA ?_ | (refine hK _ _ _ _ ?_; clear hK hX K) | (refine hX _ _ _ _ _ (by simp) ?_; clear hK hX K))
        refine retK_mk zio ztr rfl (ResL.one (ResA.tmp rfl)) zou
  · rw [decide_eq_false (show ¬ rowP r from fun h => b1 (by have := h.1; omega))]
    refine ac_enter tabOk (sz := 19) Try.func110 rfl (by rw [Try.ntmps110]; rfl) ?_
    repeat' (first | ((with_reducible refine aw_seqk ?_); intro K hK hX) | ((with_reducible refine isC_reg ?_); refine aw_prune [0, 2, 3] rfl rfl ?_; with_reducible refine aw_region ?_) | refine stA ?_ | (refine hK _ _ _ _ ?_; clear hK hX K) | (refine hX _ _ _ _ _ (by simp) ?_; clear hK hX K))
    refine retK_mk zio ztr rfl (ResL.one (ResA.tmp rfl)) zou
theorem rcount_ok (n : Int) : AC Try.prog 111 [iv n] (.c (bv (decide (-262144 ≤ n ∧ n ≤ 262144)))) [] 0 := by
  by_cases h1 : -262144 ≤ n
  · by_cases h2 : n ≤ 262144
    · rw [decide_eq_true ⟨h1, h2⟩]
      refine ac_enter tabOk (sz := 9) Try.func111 rfl (by rw [Try.ntmps111]; rfl) ?_
      repeat' (first | ((with_reducible refine aw_seqk ?_); intro K hK hX) | ((with_reducible refine isC_reg ?_); refine aw_prune [0, 2] rfl rfl ?_; with_reducible refine aw_region ?_) | refine stA ?_ | (refine hK _ _ _ _ ?_; clear hK hX K) | (refine hX _ _ _ _ _ (by simp) ?_; clear hK hX K))
      refine retK_mk zio ztr rfl (ResL.one (ResA.tmp rfl)) zou
    · rw [decide_eq_false (by omega)]
      refine ac_enter tabOk (sz := 9) Try.func111 rfl (by rw [Try.ntmps111]; rfl) ?_
      repeat' (first | ((with_reducible refine aw_seqk ?_); intro K hK hX) | ((with_reducible refine isC_reg ?_); refine aw_prune [0, 2] rfl rfl ?_; with_reducible refine aw_region ?_) | refine stA ?_ | (refine hK _ _ _ _ ?_; clear hK hX K) | (refine hX _ _ _ _ _ (by simp) ?_; clear hK hX K))
      refine retK_mk zio ztr rfl (ResL.one (ResA.tmp rfl)) zou
  · rw [decide_eq_false (by omega)]
    refine ac_enter tabOk (sz := 9) Try.func111 rfl (by rw [Try.ntmps111]; rfl) ?_
    repeat' (first | ((with_reducible refine aw_seqk ?_); intro K hK hX) | ((with_reducible refine isC_reg ?_); refine aw_prune [0, 2] rfl rfl ?_; with_reducible refine aw_region ?_) | refine stA ?_ | (refine hK _ _ _ _ ?_; clear hK hX K) | (refine hX _ _ _ _ _ (by simp) ?_; clear hK hX K))
    refine retK_mk zio ztr rfl (ResL.one (ResA.tmp rfl)) zou
set_option maxHeartbeats 4000000 in
theorem rrcmp_ok (r s : List Vl) (n m : Nat) (hn : r.length = n) (hm : s.length = m) (hn2 : n ≤ maxLen) (hm2 : m ≤ maxLen) : AC Try.prog 118 [.sl 3 n (rc r), .sl 3 m (rc s)] (.c (iv (cmpR r s))) [] 0 := by
  have hrl : (rc r).length = n * 3 := by rw [rc_length, hn]
  have hsl : (rc s).length = m * 3 := by rw [rc_length, hm]
  have hml : n ≤ 9223372036854775807 := hn2
  have hml2 : m ≤ 9223372036854775807 := hm2
  clear hn2 hm2
  obtain ⟨k, hk⟩ : ∃ k, min n m = k := ⟨_, rfl⟩
  have hend := cmpR_end hn hm hk.symm
  generalize hz : cmpR r s = z
  refine ac_enter tabOk (sz := 43) Try.func118 rfl (by rw [Try.ntmps118]; rfl) ?_
  repeat' (first | ((with_reducible refine aw_seqk ?_); intro K hK hX) | ((with_reducible refine isC_reg ?_); refine aw_prune [0, 1, 4, 5, 6] rfl rfl ?_; with_reducible refine aw_region ?_) | ((with_reducible refine isC_draw ?_); refine aw_prune [0, 1, 4, 5, 6] rfl rfl ?_; refine aw_drwF [] ?_) | refine stA ?_ | refine stD ?_ | (refine hK _ _ _ _ ?_; clear hK hX K) | (refine hX _ _ _ _ _ (by simp) ?_; clear hK hX K))
  refine aw_loopo [5, 6] [] rfl rfl (fun i : Nat => [(5, .c (iv i))]) (fun i => []) (fun i => i ≤ k ∧ cmpR (r.drop i) (s.drop i) = z) (fun i => k - i) 0 ⟨by omega, hz⟩ weakA ?_
  rintro i ⟨hi, hzi⟩ K hK hX
  by_cases hlt : i < k
  · have in1 : i < n := by omega
    have im1 : i < m := by omega
    obtain ⟨a, ha⟩ : ∃ a, r[i]? = some a := ⟨r[i]'(by omega), List.getElem?_eq_getElem _⟩
    obtain ⟨b, hb⟩ : ∃ b, s[i]? = some b := ⟨s[i]'(by omega), List.getElem?_eq_getElem _⟩
    have hat := rc_at ha
    have hbt := rc_at hb
    have hv := rvcmp_ok a b
    rw [cmpR_step ha hb] at hzi
    obtain ⟨ak, an, at'⟩ := a
    obtain ⟨bk, bn, bt⟩ := b
    simp only [Vl.c] at hat hbt hv
    generalize cmpV (clV ⟨ak, an, at'⟩) (clV ⟨bk, bn, bt⟩) = c at hv hzi
    by_cases z0 : c = 0
    · rw [if_neg (fun h => h z0)] at hzi
      clear hend hz hk
      repeat' (first | ((with_reducible refine aw_seqk ?_); intro K hK hX) | ((with_reducible refine isC_reg ?_); refine aw_prune [0, 1, 4, 5, 6] rfl rfl ?_; with_reducible refine aw_region ?_) | ((with_reducible refine isC_draw ?_); refine aw_prune [0, 1, 4, 5, 6] rfl rfl ?_; refine aw_drwF [] ?_) | ((first | with_reducible refine isA_call ?_ | with_reducible refine isD_call ?_); (first | refine zA ?_ | refine zN ?_ | refine zD ?_); (first | refine c0 (hv) ?_)) | ((first | ((with_reducible refine isA_any ?_); refine xA ?_) | ((with_reducible refine isDk_any ?_); refine xD ?_)); (first | ((with_reducible refine e_load ?_); (first | refine ex_i (s_loadAr tabOk rfl rfl rfl rfl (by first | first | exact hat | exact hbt | exact whole0 (by first | rfl | omega) | rfl) zln) ?_ | refine ex_i (s_loadAi tabOk rfl rfl rfl (by first | first | exact hat | exact hbt | exact whole0 (by first | rfl | omega) | rfl) zln) ?_)) | ((with_reducible refine e_slice ?_); (first | refine ex_i (s_slArri tabOk rfl rfl rfl rfl zbd zbd zle zle (by decide) (by first | first | exact hat | exact hbt | exact whole0 (by first | rfl | omega) | rfl) zln) ?_)))) | refine stA ?_ | refine stD ?_ | (refine hK _ _ _ _ ?_; clear hK hX K) | (refine hX _ _ _ _ _ (by simp) ?_; clear hK hX K))
      exact ⟨i + 1, ⟨by omega, hzi⟩, by omega, weakA⟩
    · rw [if_pos z0] at hzi
      rw [hzi] at hv z0
      clear hend hz hk
      repeat' (first | ((with_reducible refine aw_seqk ?_); intro K hK hX) | ((with_reducible refine isC_reg ?_); refine aw_prune [0, 1, 4, 5, 6] rfl rfl ?_; with_reducible refine aw_region ?_) | ((with_reducible refine isC_draw ?_); refine aw_prune [0, 1, 4, 5, 6] rfl rfl ?_; refine aw_drwF [] ?_) | ((first | with_reducible refine isA_call ?_ | with_reducible refine isD_call ?_); (first | refine zA ?_ | refine zN ?_ | refine zD ?_); (first | refine c0 (hv) ?_)) | ((first | ((with_reducible refine isA_any ?_); refine xA ?_) | ((with_reducible refine isDk_any ?_); refine xD ?_)); (first | ((with_reducible refine e_load ?_); (first | refine ex_i (s_loadAr tabOk rfl rfl rfl rfl (by first | first | exact hat | exact hbt | exact whole0 (by first | rfl | omega) | rfl) zln) ?_ | refine ex_i (s_loadAi tabOk rfl rfl rfl (by first | first | exact hat | exact hbt | exact whole0 (by first | rfl | omega) | rfl) zln) ?_)) | ((with_reducible refine e_slice ?_); (first | refine ex_i (s_slArri tabOk rfl rfl rfl rfl zbd zbd zle zle (by decide) (by first | first | exact hat | exact hbt | exact whole0 (by first | rfl | omega) | rfl) zln) ?_)))) | refine stA ?_ | refine stD ?_ | (refine hK _ _ _ _ ?_; clear hK hX K) | (refine hX _ _ _ _ _ (by simp) ?_; clear hK hX K))
      refine retK_mk zio ztr rfl (ResL.one (ResA.tmp rfl)) zou
  · have hik : i = k := by omega
    rw [hik, hend] at hzi
    unfold cmpZ at hzi
    clear hend hz
    by_cases e1 : n < m
    · rw [if_pos (by omega)] at hzi
      have hin : ¬ i < n := by omega
      repeat' (first | ((with_reducible refine aw_seqk ?_); intro K hK hX) | ((with_reducible refine isC_reg ?_); refine aw_prune [0, 1, 4, 5, 6] rfl rfl ?_; with_reducible refine aw_region ?_) | ((with_reducible refine isC_draw ?_); refine aw_prune [0, 1, 4, 5, 6] rfl rfl ?_; refine aw_drwF [] ?_) | refine stA ?_ | refine stD ?_ | (refine hK _ _ _ _ ?_; clear hK hX K) | (refine hX _ _ _ _ _ (by simp) ?_; clear hK hX K))
      refine retK_mk zio ztr rfl (ResL.one (ResA.tmp rfl)) zou
    · by_cases e2 : m < n
      · rw [if_neg (by omega), if_pos (by omega)] at hzi
        have hin : i < n := by omega
        have him : ¬ i < m := by omega
        repeat' (first | ((with_reducible refine aw_seqk ?_); intro K hK hX) | ((with_reducible refine isC_reg ?_); refine aw_prune [0, 1, 4, 5, 6] rfl rfl ?_; with_reducible refine aw_region ?_) | ((with_reducible refine isC_draw ?_); refine aw_prune [0, 1, 4, 5, 6] rfl rfl ?_; refine aw_drwF [] ?_) | refine stA ?_ | refine stD ?_ | (refine hK _ _ _ _ ?_; clear hK hX K) | (refine hX _ _ _ _ _ (by simp) ?_; clear hK hX K))
        refine retK_mk zio ztr rfl (ResL.one (ResA.tmp rfl)) zou
      · rw [if_neg (by omega), if_neg (by omega)] at hzi
        have hin : ¬ i < n := by omega
        repeat' (first | ((with_reducible refine aw_seqk ?_); intro K hK hX) | ((with_reducible refine isC_reg ?_); refine aw_prune [0, 1, 4, 5, 6] rfl rfl ?_; with_reducible refine aw_region ?_) | ((with_reducible refine isC_draw ?_); refine aw_prune [0, 1, 4, 5, 6] rfl rfl ?_; refine aw_drwF [] ?_) | refine stA ?_ | refine stD ?_ | (refine hK _ _ _ _ ?_; clear hK hX K) | (refine hX _ _ _ _ _ (by simp) ?_; clear hK hX K))
        refine retK_mk zio ztr rfl (ResL.one (ResA.tmp rfl)) zou
end Go.Proofs.Ytccnhpaldmjkbaa
namespace Go.Proofs.Ytccnhpaldmjkbaa
open Go Go.RowKit Go.Av
set_option maxRecDepth 100000
def mergeE : List En → List En → List En
  | [], bt1 => bt1
  | a :: at1, [] => a :: at1
  | a :: at1, b :: bt1 => if cmpR a.r b.r < 0 then a :: mergeE at1 (b :: bt1) else if 0 < cmpR a.r b.r then b :: mergeE (a :: at1) bt1 else if a.n + b.n ≠ 0 then ⟨a.r, a.n + b.n⟩ :: mergeE at1 bt1 else mergeE at1 bt1
termination_by a b => a.length + b.length
theorem mergeE_nil (b : List En) : mergeE [] b = b := by rw [mergeE]
theorem mergeE_nil' (a : List En) : mergeE a [] = a := by cases a <;> rw [mergeE]
theorem drop_at {α : Type} {l : List α} {i : Nat} {x : α} (h : l[i]? = some x) : l.drop i = x :: l.drop (i + 1) := by
  obtain ⟨h1, h2⟩ := List.getElem?_eq_some_iff.1 h
  rw [List.drop_eq_getElem_cons h1, h2]
theorem drop_end {α : Type} {l : List α} {i n : Nat} (hn : l.length = n) (h : n ≤ i) : l.drop i = [] := List.drop_eq_nil_of_le (by omega)
section
variable {a b : List En} {i k n m : Nat} {x y : En}
theorem mg_right (hn : a.length = n) (hi : n ≤ i) (hy : b[k]? = some y) : mergeE (a.drop i) (b.drop k) = y :: mergeE (a.drop i) (b.drop (k + 1)) := by
  rw [drop_end hn hi, mergeE_nil, mergeE_nil, drop_at hy]
theorem mg_left (hm : b.length = m) (hk : m ≤ k) (hx : a[i]? = some x) : mergeE (a.drop i) (b.drop k) = x :: mergeE (a.drop (i + 1)) (b.drop k) := by
  rw [drop_end hm hk, mergeE_nil', mergeE_nil', drop_at hx]
theorem mg_lt (hx : a[i]? = some x) (hy : b[k]? = some y) (h : cmpR x.r y.r < 0) : mergeE (a.drop i) (b.drop k) = x :: mergeE (a.drop (i + 1)) (b.drop k) := by
  rw [drop_at hx, drop_at hy, mergeE, if_pos h]
theorem mg_gt (hx : a[i]? = some x) (hy : b[k]? = some y) (h : 0 < cmpR x.r y.r) : mergeE (a.drop i) (b.drop k) = y :: mergeE (a.drop i) (b.drop (k + 1)) := by
  rw [drop_at hx, drop_at hy, mergeE, if_neg (by omega), if_pos h]
theorem mg_eq (hx : a[i]? = some x) (hy : b[k]? = some y) (h : cmpR x.r y.r = 0) (hs : x.n + y.n ≠ 0) : mergeE (a.drop i) (b.drop k) = ⟨x.r, x.n + y.n⟩ :: mergeE (a.drop (i + 1)) (b.drop (k + 1)) := by
  rw [drop_at hx, drop_at hy, mergeE, if_neg (by omega), if_neg (by omega), if_pos hs]
theorem mg_no (hx : a[i]? = some x) (hy : b[k]? = some y) (h : cmpR x.r y.r = 0) (hs : x.n + y.n = 0) : mergeE (a.drop i) (b.drop k) = mergeE (a.drop (i + 1)) (b.drop (k + 1)) := by
  rw [drop_at hx, drop_at hy, mergeE, if_neg (by omega), if_neg (by omega), if_neg (fun h => h hs)]
end
theorem mergeE_length : ∀ (a b : List En), (mergeE a b).length ≤ a.length + b.length := by
  intro a b
  induction a, b using mergeE.induct with
  | case1 bt1 => rw [mergeE]; simp
  | case2 a at1 => rw [mergeE]; simp
  | case3 a at1 b bt1 h ih => rw [mergeE, if_pos h]; simp only [List.length_cons] at ih ⊢; omega
  | case4 a at1 b bt1 h h2 ih => rw [mergeE, if_neg h, if_pos h2]; simp only [List.length_cons] at ih ⊢; omega
  | case5 a at1 b bt1 h h2 h3 ih => rw [mergeE, if_neg h, if_neg h2, if_pos h3]; simp only [List.length_cons] at ih ⊢; omega
  | case6 a at1 b bt1 h h2 h3 ih => rw [mergeE, if_neg h, if_neg h2, if_neg h3]; simp only [List.length_cons] at ih ⊢; omega
theorem ec_app (a b : List En) : ec (a ++ b) = ec a ++ ec b := by simp [ec]
/-- The sum of all counts, without signs. -/
def absS (l : List En) : Nat := (l.map fun e => e.n.natAbs).sum
theorem absS_mem {l : List En} {e : En} (h : e ∈ l) : e.n.natAbs ≤ absS l := by
  induction l with
  | nil => cases h
  | cons x l ih =>
    unfold absS at ih ⊢
    simp only [List.map_cons, List.sum_cons]
    rcases List.mem_cons.1 h with rfl | h
    · omega
    · have := ih h; omega
theorem absS_cons (e : En) (l : List En) : absS (e :: l) = e.n.natAbs + absS l := by simp [absS]
theorem mergeE_abs : ∀ (a b : List En), absS (mergeE a b) ≤ absS a + absS b := by
  intro a b
  induction a, b using mergeE.induct with
  | case1 bt1 => rw [mergeE]; simp [absS]
  | case2 a at1 => rw [mergeE]; simp [absS]
  | case3 a at1 b bt1 h ih => rw [mergeE, if_pos h]; simp only [absS_cons] at ih ⊢; omega
  | case4 a at1 b bt1 h h2 ih => rw [mergeE, if_neg h, if_pos h2]; simp only [absS_cons] at ih ⊢; omega
  | case5 a at1 b bt1 h h2 h3 ih => rw [mergeE, if_neg h, if_neg h2, if_pos h3]; simp only [absS_cons] at ih ⊢; omega
  | case6 a at1 b bt1 h h2 h3 ih => rw [mergeE, if_neg h, if_neg h2, if_neg h3]; simp only [absS_cons] at ih ⊢; omega
theorem mergeE_rows : ∀ (a b : List En) (p : List Vl → Prop), (∀ e ∈ a, p e.r) → (∀ e ∈ b, p e.r) → ∀ e ∈ mergeE a b, p e.r := by
  intro a b p
  induction a, b using mergeE.induct with
  | case1 bt1 => intro _ h; rw [mergeE]; exact h
  | case2 a at1 => intro h _; rw [mergeE]; exact h
  | case3 a at1 b bt1 h ih =>
    intro h1 h2; rw [mergeE, if_pos h]
    intro e he
    rcases List.mem_cons.1 he with rfl | he
    · exact h1 _ (by simp)
    · exact ih (fun e he => h1 e (by simp [he])) h2 e he
  | case4 a at1 b bt1 h h2 ih =>
    intro h1 h3; rw [mergeE, if_neg h, if_pos h2]
    intro e he
    rcases List.mem_cons.1 he with rfl | he
    · exact h3 _ (by simp)
    · exact ih h1 (fun e he => h3 e (by simp [he])) e he
  | case5 a at1 b bt1 h h2 h3 ih =>
    intro h1 h4; rw [mergeE, if_neg h, if_neg h2, if_pos h3]
    intro e he
    rcases List.mem_cons.1 he with rfl | he
    · exact h1 a (by simp)
    · exact ih (fun e he => h1 e (by simp [he])) (fun e he => h4 e (by simp [he])) e he
  | case6 a at1 b bt1 h h2 h3 ih =>
    intro h1 h4; rw [mergeE, if_neg h, if_neg h2, if_neg h3]
    exact ih (fun e he => h1 e (by simp [he])) (fun e he => h4 e (by simp [he]))
end Go.Proofs.Ytccnhpaldmjkbaa
namespace Go.Proofs.Ytccnhpaldmjkbaa
open Go Go.RowKit Go.Av
set_option maxRecDepth 100000
theorem snoc_eq {o Z rest : List En} {x : En} (h : o ++ x :: rest = Z) : (o ++ [x]) ++ rest = Z := by rw [List.append_assoc]; exact h
theorem ec_snoc (o : List En) (x : En) : ec o ++ [x.c].flatten = ec (o ++ [x]) := by rw [ec_app]; simp [ec]
theorem AC.outT {P : Program} {f : FuncId} {args : List CV} {v r : AV} {h hr : Heap} {n nr : Nat} (hac : AC P f args v h n) (ho : Out n h v r hr nr) : AC P f args r hr nr := fun ok w vs hvs => (hac ok w vs hvs).mono (by
  rintro e w' ⟨u, M, rfl, hc, hu⟩
  obtain ⟨M', h1, h2⟩ := ho w ok M w' u hc hu
  exact ⟨u, M', rfl, h1, h2⟩)
attribute [local irreducible] Still Adds AWL AW Drw DrwE EStep AC AWR Weak Frz Src RetK Out InK ItK AsK RdK RetT OutT ACT
set_option maxHeartbeats 8000000 in
theorem merge_own (a b : List En) (n m N : Nat) (hn : a.length = n) (hm : b.length = m) (hnn : n ≤ 100000) (hmm : m ≤ 100000) (hfa : fitB a) (hfb : fitB b) (hba : absS a ≤ 1000000000000) (hbb : absS b ≤ 1000000000000) (hN : (mergeE a b).length = N) : AC Try.prog 67 [.sl 2 n (ec a), .sl 2 m (ec b)] (.own 0 0 N 2 true) [(0, .row 46 (ec (mergeE a b)))] 1 := by
  have hla : (ec a).length = n * 2 := by rw [ec_length, hn]
  have hlb : (ec b).length = m * 2 := by rw [ec_length, hm]
  have hNle := mergeE_length a b
  rw [hN, hn, hm] at hNle
  have hZl : (ec (mergeE a b)).length = N * 2 := by rw [ec_length, hN]
  generalize hZ : mergeE a b = Z at hN hZl ⊢
  refine ac_enter tabOk (sz := 93) Try.func67 rfl (by rw [Try.ntmps67]; rfl) ?_
  repeat' (first | ((with_reducible refine aw_seqk ?_); intro K hK hX) | ((with_reducible refine isC_reg ?_); refine aw_prune [0, 1, 4, 5, 6, 7, 8, 9] rfl rfl ?_; with_reducible refine aw_region ?_) | ((with_reducible refine isC_draw ?_); refine aw_prune [0, 1, 4, 5, 6, 7, 8, 9] rfl rfl ?_; refine aw_drwF [] ?_) | refine stA ?_ | refine stD ?_ | (refine hK _ _ _ _ ?_; clear hK hX K) | (refine hX _ _ _ _ _ (by simp) ?_; clear hK hX K))
  refine aw_nilown 5 46 2 rfl ?_
  refine aw_loopo [5, 6, 7, 8, 9] [0] rfl rfl (fun p : Nat × Nat × List En × Nat => [(5, .own 0 0 p.2.2.2 2 true), (6, .c (iv p.1)), (7, .c (iv p.2.1))]) (fun p => [(0, .row 46 (ec p.2.2.1))]) (fun p => p.1 ≤ n ∧ p.2.1 ≤ m ∧ p.2.2.1.length = p.2.2.2 ∧ p.2.2.1 ++ mergeE (a.drop p.1) (b.drop p.2.1) = Z) (fun p => (n - p.1) + (m - p.2.1)) (0, 0, [], 0) ⟨Nat.zero_le _, Nat.zero_le _, rfl, hZ⟩ weakA ?_
  rintro ⟨i, k, o, q⟩ ⟨hi, hk, hq, hst⟩ K hK hX
  dsimp only at hi hk hq hst ⊢
  have hlo : (ec o).length = q * 2 := by rw [ec_length, hq]
  have hqN : q ≤ N := by rw [← hN, ← hst, List.length_append, hq]; omega
  by_cases hin : i < n
  · obtain ⟨x, hx⟩ : ∃ x, a[i]? = some x := ⟨a[i]'(by omega), List.getElem?_eq_getElem _⟩
    have hax := ec_at hx
    have hxr := ec_row hx
    have hxn := ec_n hx
    have hxf := hfa x (List.mem_of_getElem? hx)
    have hxb := absS_mem (List.mem_of_getElem? hx)
    by_cases hkm : k < m
    · obtain ⟨y, hy⟩ : ∃ y, b[k]? = some y := ⟨b[k]'(by omega), List.getElem?_eq_getElem _⟩
      have hay := ec_at hy
      have hyr := ec_row hy
      have hyn := ec_n hy
      have hyf := hfb y (List.mem_of_getElem? hy)
      have hyb := absS_mem (List.mem_of_getElem? hy)
      have hc := rrcmp_ok x.r y.r x.r.length y.r.length rfl rfl hxf hyf
      by_cases c1' : cmpR x.r y.r < 0
      · rw [mg_lt hx hy c1'] at hst
        generalize cmpR x.r y.r = c at hc c1'
        obtain ⟨xr, xn⟩ := x
        obtain ⟨yr, yn⟩ := y
        simp only [En.c] at *
        clear hxf hyf hx hy hfa hfb
        repeat' (first | ((with_reducible refine aw_seqk ?_); intro K hK hX) | ((with_reducible refine isC_reg ?_); refine aw_prune [0, 1, 4, 5, 6, 7, 8, 9] rfl rfl ?_; with_reducible refine aw_region ?_) | ((with_reducible refine isC_draw ?_); refine aw_prune [0, 1, 4, 5, 6, 7, 8, 9] rfl rfl ?_; refine aw_drwF [] ?_) | ((first | with_reducible refine isA_call ?_ | with_reducible refine isD_call ?_); (first | refine zA ?_ | refine zN ?_ | refine zD ?_); (first | refine c0 (hc) ?_)) | ((first | ((with_reducible refine isA_any ?_); refine xA ?_) | ((with_reducible refine isDk_any ?_); refine xD ?_)); (first | ((with_reducible refine e_load ?_); (first | refine ex_i (s_load1 tabOk rfl rfl rfl rfl (by first | exact hxr | exact hyr | exact hxn | exact hyn)) ?_ | refine ex_i (s_load1r tabOk rfl rfl rfl rfl (by first | exact hxr | exact hyr | exact hxn | exact hyn)) ?_ | refine ex_i (s_load1i tabOk rfl rfl rfl (by first | exact hxr | exact hyr | exact hxn | exact hyn)) ?_ | refine ex_i (s_loadAr tabOk rfl rfl rfl rfl (by first | first | exact hax | exact hay | exact whole0 (by first | rfl | omega) | rfl) zln) ?_ | refine ex_i (s_loadAi tabOk rfl rfl rfl (by first | first | exact hax | exact hay | exact whole0 (by first | rfl | omega) | rfl) zln) ?_)) | ((with_reducible refine e_ix ?_); (first | refine ex_i (s_ixV1 tabOk rfl rfl zcj rfl rfl rfl rfl rfl zle (by first | exact hxr | exact hyr | exact hxn | exact hyn)) ?_ | refine ex_i (s_ixStr tabOk rfl rfl zcj rfl rfl (by first | exact hxr | exact hyr | exact hxn | exact hyn)) ?_)) | ((with_reducible refine e_slice ?_); (first | refine ex_i (s_slArri tabOk rfl rfl rfl rfl zbd zbd zle zle (by decide) (by first | first | exact hax | exact hay | exact whole0 (by first | rfl | omega) | rfl) zln) ?_)))) | refine stA ?_ | refine stD ?_ | (refine hK _ _ _ _ ?_; clear hK hX K) | (refine hX _ _ _ _ _ (by simp) ?_; clear hK hX K))
        exact ⟨(i + 1, k, o ++ [⟨xr, xn⟩], q + 1), ⟨by first | omega | (simp only; omega), by first | omega | (simp only; omega), by rw [List.length_append, hq]; rfl, snoc_eq hst⟩, by simp only; omega, (by refine weak_ren [2] rfl rfl ?_ ?_ rfl rfl <;> (repeat' (first | exact weakER_nil | exact weakHR_nil | refine weakER_cons rfl (by first | rfl | (exact congrArg (AObj.row 46) (ec_snoc o ⟨xr, xn⟩)) | exact zeq) rfl ?_ | refine weakHR_cons rfl (by first | rfl | (exact congrArg (AObj.row 46) (ec_snoc o ⟨xr, xn⟩)) | exact zeq) rfl ?_)))⟩
      · by_cases c2' : 0 < cmpR x.r y.r
        · rw [mg_gt hx hy c2'] at hst
          generalize cmpR x.r y.r = c at hc c1' c2'
          obtain ⟨xr, xn⟩ := x
          obtain ⟨yr, yn⟩ := y
          simp only [En.c] at *
          clear hxf hyf hx hy hfa hfb
          repeat' (first | ((with_reducible refine aw_seqk ?_); intro K hK hX) | ((with_reducible refine isC_reg ?_); refine aw_prune [0, 1, 4, 5, 6, 7, 8, 9] rfl rfl ?_; with_reducible refine aw_region ?_) | ((with_reducible refine isC_draw ?_); refine aw_prune [0, 1, 4, 5, 6, 7, 8, 9] rfl rfl ?_; refine aw_drwF [] ?_) | ((first | with_reducible refine isA_call ?_ | with_reducible refine isD_call ?_); (first | refine zA ?_ | refine zN ?_ | refine zD ?_); (first | refine c0 (hc) ?_)) | ((first | ((with_reducible refine isA_any ?_); refine xA ?_) | ((with_reducible refine isDk_any ?_); refine xD ?_)); (first | ((with_reducible refine e_load ?_); (first | refine ex_i (s_load1 tabOk rfl rfl rfl rfl (by first | exact hxr | exact hyr | exact hxn | exact hyn)) ?_ | refine ex_i (s_load1r tabOk rfl rfl rfl rfl (by first | exact hxr | exact hyr | exact hxn | exact hyn)) ?_ | refine ex_i (s_load1i tabOk rfl rfl rfl (by first | exact hxr | exact hyr | exact hxn | exact hyn)) ?_ | refine ex_i (s_loadAr tabOk rfl rfl rfl rfl (by first | first | exact hax | exact hay | exact whole0 (by first | rfl | omega) | rfl) zln) ?_ | refine ex_i (s_loadAi tabOk rfl rfl rfl (by first | first | exact hax | exact hay | exact whole0 (by first | rfl | omega) | rfl) zln) ?_)) | ((with_reducible refine e_ix ?_); (first | refine ex_i (s_ixV1 tabOk rfl rfl zcj rfl rfl rfl rfl rfl zle (by first | exact hxr | exact hyr | exact hxn | exact hyn)) ?_ | refine ex_i (s_ixStr tabOk rfl rfl zcj rfl rfl (by first | exact hxr | exact hyr | exact hxn | exact hyn)) ?_)) | ((with_reducible refine e_slice ?_); (first | refine ex_i (s_slArri tabOk rfl rfl rfl rfl zbd zbd zle zle (by decide) (by first | first | exact hax | exact hay | exact whole0 (by first | rfl | omega) | rfl) zln) ?_)))) | refine stA ?_ | refine stD ?_ | (refine hK _ _ _ _ ?_; clear hK hX K) | (refine hX _ _ _ _ _ (by simp) ?_; clear hK hX K))
          exact ⟨(i, k + 1, o ++ [⟨yr, yn⟩], q + 1), ⟨by first | omega | (simp only; omega), by first | omega | (simp only; omega), by rw [List.length_append, hq]; rfl, snoc_eq hst⟩, by simp only; omega, (by refine weak_ren [2] rfl rfl ?_ ?_ rfl rfl <;> (repeat' (first | exact weakER_nil | exact weakHR_nil | refine weakER_cons rfl (by first | rfl | (exact congrArg (AObj.row 46) (ec_snoc o ⟨yr, yn⟩)) | exact zeq) rfl ?_ | refine weakHR_cons rfl (by first | rfl | (exact congrArg (AObj.row 46) (ec_snoc o ⟨yr, yn⟩)) | exact zeq) rfl ?_)))⟩
        · have c0' : cmpR x.r y.r = 0 := by omega
          by_cases hs : x.n + y.n = 0
          · rw [mg_no hx hy c0' hs] at hst
            generalize cmpR x.r y.r = c at hc c1' c2' c0'
            obtain ⟨xr, xn⟩ := x
            obtain ⟨yr, yn⟩ := y
            simp only [En.c] at *
            clear hxf hyf hx hy hfa hfb
            repeat' (first | ((with_reducible refine aw_seqk ?_); intro K hK hX) | ((with_reducible refine isC_reg ?_); refine aw_prune [0, 1, 4, 5, 6, 7, 8, 9] rfl rfl ?_; with_reducible refine aw_region ?_) | ((with_reducible refine isC_draw ?_); refine aw_prune [0, 1, 4, 5, 6, 7, 8, 9] rfl rfl ?_; refine aw_drwF [] ?_) | ((first | with_reducible refine isA_call ?_ | with_reducible refine isD_call ?_); (first | refine zA ?_ | refine zN ?_ | refine zD ?_); (first | refine c0 (hc) ?_)) | ((first | ((with_reducible refine isA_any ?_); refine xA ?_) | ((with_reducible refine isDk_any ?_); refine xD ?_)); (first | ((with_reducible refine e_load ?_); (first | refine ex_i (s_load1 tabOk rfl rfl rfl rfl (by first | exact hxr | exact hyr | exact hxn | exact hyn)) ?_ | refine ex_i (s_load1r tabOk rfl rfl rfl rfl (by first | exact hxr | exact hyr | exact hxn | exact hyn)) ?_ | refine ex_i (s_load1i tabOk rfl rfl rfl (by first | exact hxr | exact hyr | exact hxn | exact hyn)) ?_ | refine ex_i (s_loadAr tabOk rfl rfl rfl rfl (by first | first | exact hax | exact hay | exact whole0 (by first | rfl | omega) | rfl) zln) ?_ | refine ex_i (s_loadAi tabOk rfl rfl rfl (by first | first | exact hax | exact hay | exact whole0 (by first | rfl | omega) | rfl) zln) ?_)) | ((with_reducible refine e_ix ?_); (first | refine ex_i (s_ixV1 tabOk rfl rfl zcj rfl rfl rfl rfl rfl zle (by first | exact hxr | exact hyr | exact hxn | exact hyn)) ?_ | refine ex_i (s_ixStr tabOk rfl rfl zcj rfl rfl (by first | exact hxr | exact hyr | exact hxn | exact hyn)) ?_)) | ((with_reducible refine e_slice ?_); (first | refine ex_i (s_slArri tabOk rfl rfl rfl rfl zbd zbd zle zle (by decide) (by first | first | exact hax | exact hay | exact whole0 (by first | rfl | omega) | rfl) zln) ?_)))) | refine stA ?_ | refine stD ?_ | (refine hK _ _ _ _ ?_; clear hK hX K) | (refine hX _ _ _ _ _ (by simp) ?_; clear hK hX K))
            exact ⟨(i + 1, k + 1, o, q), ⟨by first | omega | (simp only; omega), by first | omega | (simp only; omega), hq, hst⟩, by simp only; omega, weakA⟩
          · rw [mg_eq hx hy c0' hs] at hst
            generalize cmpR x.r y.r = c at hc c1' c2' c0'
            obtain ⟨xr, xn⟩ := x
            obtain ⟨yr, yn⟩ := y
            simp only [En.c] at *
            clear hxf hyf hx hy hfa hfb
            repeat' (first | ((with_reducible refine aw_seqk ?_); intro K hK hX) | ((with_reducible refine isC_reg ?_); refine aw_prune [0, 1, 4, 5, 6, 7, 8, 9] rfl rfl ?_; with_reducible refine aw_region ?_) | ((with_reducible refine isC_draw ?_); refine aw_prune [0, 1, 4, 5, 6, 7, 8, 9] rfl rfl ?_; refine aw_drwF [] ?_) | ((first | with_reducible refine isA_call ?_ | with_reducible refine isD_call ?_); (first | refine zA ?_ | refine zN ?_ | refine zD ?_); (first | refine c0 (hc) ?_)) | ((first | ((with_reducible refine isA_any ?_); refine xA ?_) | ((with_reducible refine isDk_any ?_); refine xD ?_)); (first | ((with_reducible refine e_load ?_); (first | refine ex_i (s_load1 tabOk rfl rfl rfl rfl (by first | exact hxr | exact hyr | exact hxn | exact hyn)) ?_ | refine ex_i (s_load1r tabOk rfl rfl rfl rfl (by first | exact hxr | exact hyr | exact hxn | exact hyn)) ?_ | refine ex_i (s_load1i tabOk rfl rfl rfl (by first | exact hxr | exact hyr | exact hxn | exact hyn)) ?_ | refine ex_i (s_loadAr tabOk rfl rfl rfl rfl (by first | first | exact hax | exact hay | exact whole0 (by first | rfl | omega) | rfl) zln) ?_ | refine ex_i (s_loadAi tabOk rfl rfl rfl (by first | first | exact hax | exact hay | exact whole0 (by first | rfl | omega) | rfl) zln) ?_)) | ((with_reducible refine e_ix ?_); (first | refine ex_i (s_ixV1 tabOk rfl rfl zcj rfl rfl rfl rfl rfl zle (by first | exact hxr | exact hyr | exact hxn | exact hyn)) ?_ | refine ex_i (s_ixStr tabOk rfl rfl zcj rfl rfl (by first | exact hxr | exact hyr | exact hxn | exact hyn)) ?_)) | ((with_reducible refine e_slice ?_); (first | refine ex_i (s_slArri tabOk rfl rfl rfl rfl zbd zbd zle zle (by decide) (by first | first | exact hax | exact hay | exact whole0 (by first | rfl | omega) | rfl) zln) ?_)))) | refine stA ?_ | refine stD ?_ | (refine hK _ _ _ _ ?_; clear hK hX K) | (refine hX _ _ _ _ _ (by simp) ?_; clear hK hX K))
            exact ⟨(i + 1, k + 1, o ++ [⟨xr, xn + yn⟩], q + 1), ⟨by first | omega | (simp only; omega), by first | omega | (simp only; omega), by rw [List.length_append, hq]; rfl, snoc_eq hst⟩, by simp only; omega, (by refine weak_ren [2] rfl rfl ?_ ?_ rfl rfl <;> (repeat' (first | exact weakER_nil | exact weakHR_nil | refine weakER_cons rfl (by first | rfl | (exact congrArg (AObj.row 46) (ec_snoc o ⟨xr, xn + yn⟩)) | exact zeq) rfl ?_ | refine weakHR_cons rfl (by first | rfl | (exact congrArg (AObj.row 46) (ec_snoc o ⟨xr, xn + yn⟩)) | exact zeq) rfl ?_)))⟩
    · have hkm2 : m ≤ k := by omega
      have hay : True := trivial
      have hyr : True := trivial
      have hyn : True := trivial
      rw [mg_left hm hkm2 hx] at hst
      obtain ⟨xr, xn⟩ := x
      simp only [En.c] at *
      clear hxf hx hfa hfb
      repeat' (first | ((with_reducible refine aw_seqk ?_); intro K hK hX) | ((with_reducible refine isC_reg ?_); refine aw_prune [0, 1, 4, 5, 6, 7, 8, 9] rfl rfl ?_; with_reducible refine aw_region ?_) | ((with_reducible refine isC_draw ?_); refine aw_prune [0, 1, 4, 5, 6, 7, 8, 9] rfl rfl ?_; refine aw_drwF [] ?_) | ((first | ((with_reducible refine isA_any ?_); refine xA ?_) | ((with_reducible refine isDk_any ?_); refine xD ?_)); (first | ((with_reducible refine e_load ?_); (first | refine ex_i (s_load1 tabOk rfl rfl rfl rfl (by first | exact hxr | exact hyr | exact hxn | exact hyn)) ?_ | refine ex_i (s_load1r tabOk rfl rfl rfl rfl (by first | exact hxr | exact hyr | exact hxn | exact hyn)) ?_ | refine ex_i (s_load1i tabOk rfl rfl rfl (by first | exact hxr | exact hyr | exact hxn | exact hyn)) ?_ | refine ex_i (s_loadAr tabOk rfl rfl rfl rfl (by first | first | exact hax | exact hay | exact whole0 (by first | rfl | omega) | rfl) zln) ?_ | refine ex_i (s_loadAi tabOk rfl rfl rfl (by first | first | exact hax | exact hay | exact whole0 (by first | rfl | omega) | rfl) zln) ?_)) | ((with_reducible refine e_ix ?_); (first | refine ex_i (s_ixV1 tabOk rfl rfl zcj rfl rfl rfl rfl rfl zle (by first | exact hxr | exact hyr | exact hxn | exact hyn)) ?_ | refine ex_i (s_ixStr tabOk rfl rfl zcj rfl rfl (by first | exact hxr | exact hyr | exact hxn | exact hyn)) ?_)) | ((with_reducible refine e_slice ?_); (first | refine ex_i (s_slArri tabOk rfl rfl rfl rfl zbd zbd zle zle (by decide) (by first | first | exact hax | exact hay | exact whole0 (by first | rfl | omega) | rfl) zln) ?_)))) | refine stA ?_ | refine stD ?_ | (refine hK _ _ _ _ ?_; clear hK hX K) | (refine hX _ _ _ _ _ (by simp) ?_; clear hK hX K))
      exact ⟨(i + 1, k, o ++ [⟨xr, xn⟩], q + 1), ⟨by first | omega | (simp only; omega), by first | omega | (simp only; omega), by rw [List.length_append, hq]; rfl, snoc_eq hst⟩, by simp only; omega, (by refine weak_ren [2] rfl rfl ?_ ?_ rfl rfl <;> (repeat' (first | exact weakER_nil | exact weakHR_nil | refine weakER_cons rfl (by first | rfl | (exact congrArg (AObj.row 46) (ec_snoc o ⟨xr, xn⟩)) | exact zeq) rfl ?_ | refine weakHR_cons rfl (by first | rfl | (exact congrArg (AObj.row 46) (ec_snoc o ⟨xr, xn⟩)) | exact zeq) rfl ?_)))⟩
  · by_cases hkm : k < m
    · obtain ⟨y, hy⟩ : ∃ y, b[k]? = some y := ⟨b[k]'(by omega), List.getElem?_eq_getElem _⟩
      have hay := ec_at hy
      have hyr := ec_row hy
      have hyn := ec_n hy
      have hax : True := trivial
      have hxr : True := trivial
      have hxn : True := trivial
      rw [mg_right hn (by omega) hy] at hst
      obtain ⟨yr, yn⟩ := y
      simp only [En.c] at *
      clear hy hfa hfb
      repeat' (first | ((with_reducible refine aw_seqk ?_); intro K hK hX) | ((with_reducible refine isC_reg ?_); refine aw_prune [0, 1, 4, 5, 6, 7, 8, 9] rfl rfl ?_; with_reducible refine aw_region ?_) | ((with_reducible refine isC_draw ?_); refine aw_prune [0, 1, 4, 5, 6, 7, 8, 9] rfl rfl ?_; refine aw_drwF [] ?_) | ((first | ((with_reducible refine isA_any ?_); refine xA ?_) | ((with_reducible refine isDk_any ?_); refine xD ?_)); (first | ((with_reducible refine e_load ?_); (first | refine ex_i (s_load1 tabOk rfl rfl rfl rfl (by first | exact hxr | exact hyr | exact hxn | exact hyn)) ?_ | refine ex_i (s_load1r tabOk rfl rfl rfl rfl (by first | exact hxr | exact hyr | exact hxn | exact hyn)) ?_ | refine ex_i (s_load1i tabOk rfl rfl rfl (by first | exact hxr | exact hyr | exact hxn | exact hyn)) ?_ | refine ex_i (s_loadAr tabOk rfl rfl rfl rfl (by first | first | exact hax | exact hay | exact whole0 (by first | rfl | omega) | rfl) zln) ?_ | refine ex_i (s_loadAi tabOk rfl rfl rfl (by first | first | exact hax | exact hay | exact whole0 (by first | rfl | omega) | rfl) zln) ?_)) | ((with_reducible refine e_ix ?_); (first | refine ex_i (s_ixV1 tabOk rfl rfl zcj rfl rfl rfl rfl rfl zle (by first | exact hxr | exact hyr | exact hxn | exact hyn)) ?_ | refine ex_i (s_ixStr tabOk rfl rfl zcj rfl rfl (by first | exact hxr | exact hyr | exact hxn | exact hyn)) ?_)) | ((with_reducible refine e_slice ?_); (first | refine ex_i (s_slArri tabOk rfl rfl rfl rfl zbd zbd zle zle (by decide) (by first | first | exact hax | exact hay | exact whole0 (by first | rfl | omega) | rfl) zln) ?_)))) | refine stA ?_ | refine stD ?_ | (refine hK _ _ _ _ ?_; clear hK hX K) | (refine hX _ _ _ _ _ (by simp) ?_; clear hK hX K))
      exact ⟨(i, k + 1, o ++ [⟨yr, yn⟩], q + 1), ⟨by first | omega | (simp only; omega), by first | omega | (simp only; omega), by rw [List.length_append, hq]; rfl, snoc_eq hst⟩, by simp only; omega, (by refine weak_ren [2] rfl rfl ?_ ?_ rfl rfl <;> (repeat' (first | exact weakER_nil | exact weakHR_nil | refine weakER_cons rfl (by first | rfl | (exact congrArg (AObj.row 46) (ec_snoc o ⟨yr, yn⟩)) | exact zeq) rfl ?_ | refine weakHR_cons rfl (by first | rfl | (exact congrArg (AObj.row 46) (ec_snoc o ⟨yr, yn⟩)) | exact zeq) rfl ?_)))⟩
    · rw [drop_end hn (by omega), drop_end hm (by omega), mergeE_nil, List.append_nil] at hst
      rw [hst] at hlo hq ⊢
      have hqN2 : q = N := by omega
      rw [hqN2] at hlo ⊢
      repeat' (first | ((with_reducible refine aw_seqk ?_); intro K hK hX) | ((with_reducible refine isC_reg ?_); refine aw_prune [0, 1, 4, 5, 6, 7, 8, 9] rfl rfl ?_; with_reducible refine aw_region ?_) | ((with_reducible refine isC_draw ?_); refine aw_prune [0, 1, 4, 5, 6, 7, 8, 9] rfl rfl ?_; refine aw_drwF [] ?_) | refine stA ?_ | refine stD ?_ | (refine hK _ _ _ _ ?_; clear hK hX K) | (refine hX _ _ _ _ _ (by simp) ?_; clear hK hX K))
      refine retK_mk zio ztr rfl (ResL.one (ResA.tmp rfl)) (out_own rfl rfl)
theorem merge_ok (a b : List En) (n m N : Nat) (hn : a.length = n) (hm : b.length = m) (hnn : n ≤ 100000) (hmm : m ≤ 100000) (hfa : fitB a) (hfb : fitB b) (hba : absS a ≤ 1000000000000) (hbb : absS b ≤ 1000000000000) (hN : (mergeE a b).length = N) : AC Try.prog 67 [.sl 2 n (ec a), .sl 2 m (ec b)] (.c (.sl 2 N (ec (mergeE a b)))) [] 0 := by
  have hZl : (ec (mergeE a b)).length = N * 2 := by rw [ec_length, hN]
  exact AC.outT (merge_own a b n m N hn hm hnn hmm hfa hfb hba hbb hN) (out_c (frz_ownW rfl rfl hZl))
end Go.Proofs.Ytccnhpaldmjkbaa
namespace Go.Proofs.Ytccnhpaldmjkbaa
open Go Go.RowKit Go.Av
set_option maxRecDepth 100000
def sortE (l : List En) : List En :=
  if h : l.length ≤ 1 then l.filter fun e => e.n ≠ 0
  else mergeE (sortE (l.take (l.length / 2))) (sortE (l.drop (l.length / 2)))
termination_by l.length
decreasing_by
  · rw [List.length_take]; omega
  · rw [List.length_drop]; omega
theorem sortE_big {l : List En} {n : Nat} (hn : l.length = n) (h : 1 < n) : sortE l = mergeE (sortE (l.take (n / 2))) (sortE (l.drop (n / 2))) := by
  subst hn
  rw [sortE, dif_neg (by omega)]
theorem ec_take : ∀ (l : List En) (k : Nat), (ec l).take (k * 2) = ec (l.take k)
  | [], k => by simp [ec]
  | e :: l, 0 => by simp [ec]
  | e :: l, k + 1 => by
    have := ec_take l k
    have hl : e.c.length = 2 := rfl
    unfold ec at this ⊢
    rw [List.take_succ_cons, List.flatMap_cons, List.flatMap_cons, show (k + 1) * 2 = e.c.length + k * 2 by rw [hl]; omega, List.take_length_add_append, this]
theorem ec_drop : ∀ (l : List En) (k : Nat), (ec l).drop (k * 2) = ec (l.drop k)
  | [], k => by simp [ec]
  | e :: l, 0 => by simp [ec]
  | e :: l, k + 1 => by
    have := ec_drop l k
    have hl : e.c.length = 2 := rfl
    unfold ec at this ⊢
    rw [List.drop_succ_cons, List.flatMap_cons, show (k + 1) * 2 = e.c.length + k * 2 by rw [hl]; omega, List.drop_length_add_append, this]
theorem absS_app (a b : List En) : absS (a ++ b) = absS a + absS b := by simp [absS]
theorem sortE_facts : ∀ (n : Nat) (l : List En), l.length ≤ n → (sortE l).length ≤ l.length ∧ absS (sortE l) ≤ absS l ∧ ∀ p : List Vl → Prop, (∀ e ∈ l, p e.r) → ∀ e ∈ sortE l, p e.r := by
  intro n
  induction n with
  | zero =>
    intro l h
    have : l = [] := List.eq_nil_of_length_eq_zero (by omega)
    subst this
    rw [sortE]
    simp [absS]
  | succ n ih =>
    intro l h
    by_cases h1 : l.length ≤ 1
    · rw [sortE, dif_pos h1]
      refine ⟨List.length_filter_le .., ?_, fun p hp e he => hp e (List.mem_filter.1 he).1⟩
      match l, h1 with
      | [], _ => simp [absS]
      | [e], _ =>
        by_cases h0 : e.n = 0
        · simp [absS, h0]
        · simp [absS, h0]
    · rw [sortE_big rfl (by omega)]
      obtain ⟨a1, a2, a3⟩ := ih (l.take (l.length / 2)) (by rw [List.length_take]; omega)
      obtain ⟨b1, b2, b3⟩ := ih (l.drop (l.length / 2)) (by rw [List.length_drop]; omega)
      have h3 := mergeE_length (sortE (l.take (l.length / 2))) (sortE (l.drop (l.length / 2)))
      have h4 := mergeE_abs (sortE (l.take (l.length / 2))) (sortE (l.drop (l.length / 2)))
      have h5 := absS_app (l.take (l.length / 2)) (l.drop (l.length / 2))
      rw [List.take_append_drop] at h5
      rw [List.length_take] at a1
      rw [List.length_drop] at b1
      exact ⟨by omega, by omega, fun p hp => mergeE_rows _ _ p (a3 p fun e he => hp e (List.mem_of_mem_take he)) (b3 p fun e he => hp e (List.mem_of_mem_drop he))⟩
attribute [local irreducible] Still Adds AWL AW Drw DrwE EStep AC AWR Weak Frz Src RetK Out InK ItK AsK RdK RetT OutT ACT
attribute [local simp] ec_take ec_drop ec_length
theorem AC.len {P : Program} {f : FuncId} {args : List CV} {N N' : Nat} {cs : List CV} (h : AC P f args (.c (.sl 2 N cs)) [] 0) (e : N = N') : AC P f args (.c (.sl 2 N' cs)) [] 0 := e ▸ h
set_option maxHeartbeats 8000000 in
theorem sort_ok (n : Nat) : ∀ (l : List En) (N : Nat), l.length = n → n ≤ 100000 → fitB l → absS l ≤ 1000000000000 → (sortE l).length = N → AC Try.prog 112 [.sl 2 n (ec l)] (.c (.sl 2 N (ec (sortE l)))) [] 0 := by
  induction n using Nat.strongRecOn with
  | _ n ih =>
  intro l N hn hnn hf hb hN
  have hll : (ec l).length = n * 2 := by rw [ec_length, hn]
  by_cases n0 : n = 0
  · subst n0
    have : l = [] := List.eq_nil_of_length_eq_zero hn
    subst this
    have e1 : sortE [] = [] := by rw [sortE]; rfl
    rw [e1] at hN ⊢
    obtain rfl : N = 0 := hN.symm
    clear ih
    refine ac_enter tabOk (sz := 31) Try.func112 rfl (by rw [Try.ntmps112]; rfl) ?_
    repeat' (first | ((with_reducible refine aw_seqk ?_); intro K hK hX) | ((with_reducible refine isC_reg ?_); refine aw_prune [0, 2] rfl rfl ?_; with_reducible refine aw_region ?_) | ((with_reducible refine isC_draw ?_); refine aw_prune [0, 2] rfl rfl ?_; refine aw_drwF [] ?_) | refine stA ?_ | refine stD ?_ | (refine hK _ _ _ _ ?_; clear hK hX K) | (refine hX _ _ _ _ _ (by simp) ?_; clear hK hX K))
    refine retK_mk zio ztr rfl (ResL.one (ResA.tmp rfl)) zou
  · by_cases n1 : n = 1
    · subst n1
      obtain ⟨e, rfl⟩ : ∃ e, l = [e] := by
        match l, hn with
        | [e], _ => exact ⟨e, rfl⟩
      have e1 : sortE [e] = [e].filter fun e => e.n ≠ 0 := by rw [sortE]; rfl
      rw [e1] at hN ⊢
      obtain ⟨r, c⟩ := e
      clear ih e1
      by_cases h0 : c = 0
      · have e2 : ([⟨r, c⟩] : List En).filter (fun e => e.n ≠ 0) = [] := by simp [h0]
        rw [e2] at hN ⊢
        obtain rfl : N = 0 := hN.symm
        refine ac_enter tabOk (sz := 31) Try.func112 rfl (by rw [Try.ntmps112]; rfl) ?_
        repeat' (first | ((with_reducible refine aw_seqk ?_); intro K hK hX) | ((with_reducible refine isC_reg ?_); refine aw_prune [0, 2] rfl rfl ?_; with_reducible refine aw_region ?_) | ((with_reducible refine isC_draw ?_); refine aw_prune [0, 2] rfl rfl ?_; refine aw_drwF [] ?_) | refine stA ?_ | refine stD ?_ | (refine hK _ _ _ _ ?_; clear hK hX K) | (refine hX _ _ _ _ _ (by simp) ?_; clear hK hX K))
        refine retK_mk zio ztr rfl (ResL.one (ResA.tmp rfl)) zou
      · have e2 : ([⟨r, c⟩] : List En).filter (fun e => e.n ≠ 0) = [⟨r, c⟩] := by simp [h0]
        rw [e2] at hN ⊢
        obtain rfl : N = 1 := hN.symm
        refine ac_enter tabOk (sz := 31) Try.func112 rfl (by rw [Try.ntmps112]; rfl) ?_
        repeat' (first | ((with_reducible refine aw_seqk ?_); intro K hK hX) | ((with_reducible refine isC_reg ?_); refine aw_prune [0, 2] rfl rfl ?_; with_reducible refine aw_region ?_) | ((with_reducible refine isC_draw ?_); refine aw_prune [0, 2] rfl rfl ?_; refine aw_drwF [] ?_) | ((first | with_reducible refine isA_bslice ?_ | with_reducible refine isD_bslice ?_); (first | refine wA ?_ | refine wD ?_); (first | refine ew_i (adds_closed (b_bslice0 tabOk rfl rfl rfl rfl rfl) zln) ?_ | refine ew_i (adds_closed (b_bslice tabOk rfl rfl rfl rfl rfl rfl rfl rfl rfl rfl rfl rfl (flatLF_ok rfl) (by first | rfl | exact all1 (by assumption) | (simp <;> fail) | fail) (by rfl)) zln) ?_)) | refine stA ?_ | refine stD ?_ | (refine hK _ _ _ _ ?_; clear hK hX K) | (refine hX _ _ _ _ _ (by simp) ?_; clear hK hX K))
        refine retK_mk zio ztr rfl (ResL.one (ResA.tmp rfl)) zou
    · obtain ⟨a1, a2, a3⟩ := sortE_facts (n / 2) (l.take (n / 2)) (by rw [List.length_take]; omega)
      obtain ⟨b1, b2, b3⟩ := sortE_facts n (l.drop (n / 2)) (by rw [List.length_drop]; omega)
      have h5 := absS_app (l.take (n / 2)) (l.drop (n / 2))
      rw [List.take_append_drop] at h5
      have l1 : (l.take (n / 2)).length = n / 2 := by rw [List.length_take]; omega
      have l2 : (l.drop (n / 2)).length = n - n / 2 := by rw [List.length_drop]; omega
      rw [l1] at a1
      rw [l2] at b1
      have f1 : fitB (l.take (n / 2)) := fun e he => hf e (List.mem_of_mem_take he)
      have f2 : fitB (l.drop (n / 2)) := fun e he => hf e (List.mem_of_mem_drop he)
      obtain ⟨N1, hN1⟩ : ∃ N1, (sortE (l.take (n / 2))).length = N1 := ⟨_, rfl⟩
      obtain ⟨N2, hN2⟩ : ∃ N2, (sortE (l.drop (n / 2))).length = N2 := ⟨_, rfl⟩
      have h1 := ih (n / 2) (by omega) (l.take (n / 2)) N1 l1 (by omega) f1 (by omega) hN1
      have h2 := ih (n - n / 2) (by omega) (l.drop (n / 2)) N2 l2 (by omega) f2 (by omega) hN2
      rw [sortE_big hn (by omega)] at hN ⊢
      have h3 := merge_ok (sortE (l.take (n / 2))) (sortE (l.drop (n / 2))) N1 N2 N hN1 hN2 (by omega) (by omega) (a3 (fun r => r.length ≤ maxLen) f1) (b3 (fun r => r.length ≤ maxLen) f2) (by omega) (by omega) hN
      have hq : IntKind.i64.wrap ((n : Int).tdiv 2) = ((n / 2 : Nat) : Int) := by rw [q64 (by omega) (by omega) (by omega)]; omega
      rw [← ec_take] at h1
      rw [← ec_drop] at h2
      have h2' := AC.args h2 (args' := [.sl 2 (n - n / 2) (((ec l).drop (n / 2 * 2)).take ((n - n / 2) * 2))]) (cvl_cons (cv_sl rfl (List.take_of_length_le (by rw [List.length_drop, hll]; omega))) cvl_nil)
      generalize sortE (l.take (n / 2)) = X at h1 h3 ⊢
      generalize sortE (l.drop (n / 2)) = Y at h2 h2' h3 ⊢
      clear ih a1 a2 a3 b1 b2 b3 h5 f1 f2
      refine ac_enter tabOk (sz := 31) Try.func112 rfl (by rw [Try.ntmps112]; rfl) ?_
      repeat' (first | ((with_reducible refine aw_seqk ?_); intro K hK hX) | ((with_reducible refine isC_reg ?_); refine aw_prune [0, 2] rfl rfl ?_; with_reducible refine aw_region ?_) | ((with_reducible refine isC_draw ?_); refine aw_prune [0, 2] rfl rfl ?_; refine aw_drwF [] ?_) | ((first | with_reducible refine isA_call ?_ | with_reducible refine isD_call ?_); (first | refine zA ?_ | refine zN ?_ | refine zD ?_); (first | refine c0 (h1) ?_ | refine c0 (h2') ?_ | refine c0 (h2) ?_ | refine c0 (h3) ?_)) | ((first | ((with_reducible refine isA_any ?_); refine xA ?_) | ((with_reducible refine isDk_any ?_); refine xD ?_)); (first | ((with_reducible refine e_bin ?_); (first | refine ex_i (s_quo (k := .i64) rfl rfl (by decide) hq) ?_)))) | refine stA ?_ | refine stD ?_ | (refine hK _ _ _ _ ?_; clear hK hX K) | (refine hX _ _ _ _ _ (by simp) ?_; clear hK hX K))
      refine retK_mk zio ztr rfl (ResL.one (ResA.tmp rfl)) zou
end Go.Proofs.Ytccnhpaldmjkbaa
namespace Go.Proofs.Ytccnhpaldmjkbaa
open Go Go.RowKit Go.Av
set_option maxRecDepth 100000
/-- A comparison by a total preorder. -/
structure GC {α : Type} (c : α → α → Int) : Prop where
  anti : ∀ x y, c y x = - c x y
  tr : ∀ x y z, c x y ≤ 0 → c y z ≤ 0 → c x z ≤ 0
section
variable {α : Type} {c : α → α → Int}
theorem GC.tr0 (h : GC c) {x y z : α} (h1 : c x y ≤ 0) (h2 : c y z ≤ 0) (h3 : c x z = 0) : c x y = 0 ∧ c y z = 0 := by
  have a1 := h.anti x z
  have a2 := h.anti x y
  have a3 := h.anti y z
  have b1 := h.tr y z x h2 (by omega)
  have b2 := h.tr z x y (by omega) h1
  omega
theorem GC.lt (h : GC c) {x y z : α} (h1 : c x y < 0) (h2 : c y z < 0) : c x z < 0 := by
  have b1 := h.tr x y z (by omega) (by omega)
  by_cases h3 : c x z = 0
  · have := h.tr0 (y := y) (by omega) (by omega) h3; omega
  · omega
theorem GC.eqlt (h : GC c) {x y z : α} (h1 : c x y = 0) (h2 : c y z < 0) : c x z < 0 := by
  have b1 := h.tr x y z (by omega) (by omega)
  by_cases h3 : c x z = 0
  · have := h.tr0 (y := y) (by omega) (by omega) h3; omega
  · omega
end
theorem gc_Z : GC cmpZ := by
  constructor
  · intro x y; unfold cmpZ; split <;> (try split) <;> omega
  · intro x y z; unfold cmpZ; split <;> (try split) <;> (try split) <;> (try split) <;> (try split) <;> (try split) <;> omega
theorem u8_eq {a b : UInt8} (h1 : ¬ a < b) (h2 : ¬ b < a) : a = b := by
  apply UInt8.toNat_inj.1
  have e1 : ¬ a.toNat < b.toNat := h1
  have e2 : ¬ b.toNat < a.toNat := h2
  omega
theorem gc_B : GC Lib.compareBytes := by
  constructor
  · intro x
    induction x with
    | nil => intro y; cases y <;> rfl
    | cons a x ih =>
      intro y
      cases y with
      | nil => rfl
      | cons b y =>
        unfold Lib.compareBytes
        by_cases h1 : a < b
        · have h2 : ¬ b < a := fun h => by have e1 : a.toNat < b.toNat := h1; have e2 : b.toNat < a.toNat := h; omega
          simp [h1, h2]
        · by_cases h2 : b < a
          · simp [h1, h2]
          · simp [h1, h2, ih y]
  · intro x
    induction x with
    | nil =>
      intro y z h1 h2
      cases z with
      | nil => simp [Lib.compareBytes]
      | cons c z => simp [Lib.compareBytes]
    | cons a x ih =>
      intro y z h1 h2
      cases y with
      | nil => simp [Lib.compareBytes] at h1
      | cons b y =>
        cases z with
        | nil => simp [Lib.compareBytes] at h2
        | cons c z =>
          unfold Lib.compareBytes at h1 h2 ⊢
          by_cases p1 : a < b
          · have e1 : a.toNat < b.toNat := p1
            by_cases p2 : b < c
            · have e2 : b.toNat < c.toNat := p2
              have : a < c := by show a.toNat < c.toNat; omega
              simp [this]
            · by_cases p3 : c < b
              · simp [p2, p3] at h2
              · have := u8_eq p2 p3
                subst this
                simp [p1]
          · by_cases p4 : b < a
            · simp [p1, p4] at h1
            · have := u8_eq p1 p4
              subst this
              by_cases p2 : a < c
              · simp [p2]
              · by_cases p3 : c < a
                · simp [p2, p3] at h2
                · simp [p1] at h1
                  simp [p2, p3] at h2 ⊢
                  exact ih y z h1 h2
theorem gc_V : GC cmpV := by
  constructor
  · intro x y
    unfold cmpV
    by_cases h1 : x.k = y.k
    · have e1 : ¬ (y.k ≠ x.k) := fun h => h h1.symm
      have e2 : ¬ (x.k ≠ y.k) := fun h => h h1
      rw [if_neg e1, if_neg e2, h1]
      by_cases h2 : y.k = 1
      · rw [if_pos h2, if_pos h2]; exact gc_Z.anti _ _
      · rw [if_neg h2, if_neg h2]
        by_cases h3 : y.k = 2
        · rw [if_pos h3, if_pos h3]; exact gc_B.anti _ _
        · rw [if_neg h3, if_neg h3]; rfl
    · rw [if_pos (fun h => h1 h.symm), if_pos h1]; exact gc_Z.anti _ _
  · intro x y z h1 h2
    unfold cmpV at h1 h2 ⊢
    by_cases e1 : x.k = y.k
    · by_cases e2 : y.k = z.k
      · have e3 := e1.trans e2
        rw [if_neg (fun h => h e1)] at h1
        rw [if_neg (fun h => h e2), ← e1] at h2
        rw [if_neg (fun h => h e3)]
        by_cases p1 : x.k = 1
        · rw [if_pos p1] at h1 h2 ⊢; exact gc_Z.tr _ _ _ h1 h2
        · rw [if_neg p1] at h1 h2 ⊢
          by_cases p2 : x.k = 2
          · rw [if_pos p2] at h1 h2 ⊢; exact gc_B.tr _ _ _ h1 h2
          · rw [if_neg p2]; omega
      · rw [if_pos e2] at h2
        rw [if_pos (by omega), e1]; exact h2
    · rw [if_pos e1] at h1
      by_cases e2 : y.k = z.k
      · rw [if_pos (by omega), ← e2]; exact h1
      · rw [if_pos e2] at h2
        have := gc_Z.tr _ _ _ h1 h2
        by_cases e3 : x.k = z.k
        · exfalso
          unfold cmpZ at h1 h2
          split at h1 <;> (try split at h1) <;> split at h2 <;> (try split at h2) <;> omega
        · rw [if_pos e3]; exact this
theorem gc_R : GC cmpR := by
  constructor
  · intro x
    induction x with
    | nil => intro y; cases y <;> rfl
    | cons a x ih =>
      intro y
      cases y with
      | nil => rfl
      | cons b y =>
        unfold cmpR
        have h := gc_V.anti (clV a) (clV b)
        by_cases h1 : cmpV (clV a) (clV b) = 0
        · rw [if_neg (by omega), if_neg (by omega)]; exact ih y
        · rw [if_pos (by omega), if_pos (by omega)]; exact h
  · intro x
    induction x with
    | nil =>
      intro y z h1 h2
      cases z with
      | nil => simp [cmpR]
      | cons c z => simp [cmpR]
    | cons a x ih =>
      intro y z h1 h2
      cases y with
      | nil => simp [cmpR] at h1
      | cons b y =>
        cases z with
        | nil => simp [cmpR] at h2
        | cons c z =>
          unfold cmpR at h1 h2 ⊢
          have q1 : cmpV (clV a) (clV b) ≤ 0 := by split at h1 <;> omega
          have q2 : cmpV (clV b) (clV c) ≤ 0 := by split at h2 <;> omega
          have q3 := gc_V.tr _ _ _ q1 q2
          by_cases q4 : cmpV (clV a) (clV c) = 0
          · obtain ⟨q5, q6⟩ := gc_V.tr0 q1 q2 q4
            rw [if_neg (by omega)] at h1 h2 ⊢
            exact ih y z h1 h2
          · rw [if_pos q4]; exact q3
theorem cmpR_self (r : List Vl) : cmpR r r = 0 := by have := gc_R.anti r r; omega
theorem cmpZ_eq {a b : Int} (h : cmpZ a b = 0) : a = b := by unfold cmpZ at h; split at h <;> (try split at h) <;> omega
theorem cmpV_eq {x y : Vl} (hx : okP x) (hy : okP y) (h : cmpV x y = 0) : x = y := by
  unfold cmpV at h
  obtain ⟨k, n, t⟩ := x
  obtain ⟨k', n', t'⟩ := y
  simp only [okP] at hx hy h
  by_cases e1 : k = k'
  · subst e1
    rw [if_neg (fun h => h rfl)] at h
    by_cases p1 : k = 1
    · rw [if_pos p1] at h
      have := cmpZ_eq h
      subst this
      rcases hx with ⟨a, _⟩ | ⟨_, _, _, a⟩ | ⟨a, _⟩
      · omega
      · rcases hy with ⟨b, _⟩ | ⟨_, _, _, b⟩ | ⟨b, _⟩
        · omega
        · rw [a, b]
        · omega
      · omega
    · rw [if_neg p1] at h
      by_cases p2 : k = 2
      · rw [if_pos p2] at h
        have := (cmpB_eq _ _).1 h
        subst this
        rcases hx with ⟨a, _⟩ | ⟨a, _⟩ | ⟨_, a, _⟩
        · omega
        · omega
        · rcases hy with ⟨b, _⟩ | ⟨b, _⟩ | ⟨_, b, _⟩
          · omega
          · omega
          · rw [a, b]
      · rcases hx with ⟨_, a1, a2⟩ | ⟨a, _⟩ | ⟨a, _⟩
        · rcases hy with ⟨_, b1, b2⟩ | ⟨b, _⟩ | ⟨b, _⟩
          · rw [a1, a2, b1, b2]
          · omega
          · omega
        · omega
        · omega
  · rw [if_pos e1] at h
    exact absurd (cmpZ_eq h) e1
theorem cmpR_eq : ∀ {r s : List Vl}, (∀ v ∈ r, okP v) → (∀ v ∈ s, okP v) → cmpR r s = 0 → r = s
  | [], [], _, _, _ => rfl
  | [], _ :: _, _, _, h => by simp [cmpR] at h
  | _ :: _, [], _, _, h => by simp [cmpR] at h
  | a :: r, b :: s, hr, hs, h => by
    unfold cmpR at h
    have ha := hr a (by simp)
    have hb := hs b (by simp)
    rw [clV_ok ha, clV_ok hb] at h
    by_cases h1 : cmpV a b = 0
    · rw [if_neg (by omega)] at h
      rw [cmpV_eq ha hb h1, cmpR_eq (fun v hv => hr v (by simp [hv])) (fun v hv => hs v (by simp [hv])) h]
    · rw [if_pos h1] at h; exact absurd h h1
/-- Ascending rows, all different. -/
def srtE (b : List En) : Prop := b.Pairwise fun e f => cmpR e.r f.r < 0
theorem mergeE_all (Q : En → Prop) (hQ : ∀ e f, Q e → Q f → cmpR e.r f.r = 0 → e.n + f.n ≠ 0 → Q ⟨e.r, e.n + f.n⟩) : ∀ (a b : List En), (∀ e ∈ a, Q e) → (∀ e ∈ b, Q e) → ∀ e ∈ mergeE a b, Q e := by
  intro a b
  induction a, b using mergeE.induct with
  | case1 bt1 => intro _ h; rw [mergeE]; exact h
  | case2 a at1 => intro h _; rw [mergeE]; exact h
  | case3 a at1 b bt1 h ih =>
    intro h1 h2; rw [mergeE, if_pos h]
    intro e he
    rcases List.mem_cons.1 he with rfl | he
    · exact h1 _ (by simp)
    · exact ih (fun e he => h1 e (by simp [he])) h2 e he
  | case4 a at1 b bt1 h h2 ih =>
    intro h1 h3; rw [mergeE, if_neg h, if_pos h2]
    intro e he
    rcases List.mem_cons.1 he with rfl | he
    · exact h3 _ (by simp)
    · exact ih h1 (fun e he => h3 e (by simp [he])) e he
  | case5 a at1 b bt1 h h2 h3 ih =>
    intro h1 h4; rw [mergeE, if_neg h, if_neg h2, if_pos h3]
    intro e he
    rcases List.mem_cons.1 he with rfl | he
    · exact hQ a b (h1 a (by simp)) (h4 b (by simp)) (by omega) h3
    · exact ih (fun e he => h1 e (by simp [he])) (fun e he => h4 e (by simp [he])) e he
  | case6 a at1 b bt1 h h2 h3 ih =>
    intro h1 h4; rw [mergeE, if_neg h, if_neg h2, if_neg h3]
    exact ih (fun e he => h1 e (by simp [he])) (fun e he => h4 e (by simp [he]))
theorem mergeE_srt : ∀ (a b : List En), srtE a → srtE b → srtE (mergeE a b) := by
  intro a b
  induction a, b using mergeE.induct with
  | case1 bt1 => intro _ h; rw [mergeE]; exact h
  | case2 a at1 => intro h _; rw [mergeE]; exact h
  | case3 a at1 b bt1 h ih =>
    intro h1 h2; rw [mergeE, if_pos h]
    obtain ⟨h3, h4⟩ := List.pairwise_cons.1 h1
    obtain ⟨h5, h6⟩ := List.pairwise_cons.1 h2
    refine List.pairwise_cons.2 ⟨mergeE_rows _ _ (fun r => cmpR a.r r < 0) h3 fun e he => ?_, ih h4 h2⟩
    rcases List.mem_cons.1 he with rfl | he
    · exact h
    · exact gc_R.lt h (h5 e he)
  | case4 a at1 b bt1 h h2 ih =>
    intro h1 h3; rw [mergeE, if_neg h, if_pos h2]
    obtain ⟨h4, h5⟩ := List.pairwise_cons.1 h1
    obtain ⟨h6, h7⟩ := List.pairwise_cons.1 h3
    have hba : cmpR b.r a.r < 0 := by have := gc_R.anti a.r b.r; omega
    refine List.pairwise_cons.2 ⟨mergeE_rows _ _ (fun r => cmpR b.r r < 0) (fun e he => ?_) h6, ih h1 h7⟩
    rcases List.mem_cons.1 he with rfl | he
    · exact hba
    · exact gc_R.lt hba (h4 e he)
  | case5 a at1 b bt1 h h2 h3 ih =>
    intro h1 h4; rw [mergeE, if_neg h, if_neg h2, if_pos h3]
    obtain ⟨h5, h6⟩ := List.pairwise_cons.1 h1
    obtain ⟨h7, h8⟩ := List.pairwise_cons.1 h4
    exact List.pairwise_cons.2 ⟨mergeE_rows _ _ (fun r => cmpR a.r r < 0) h5 fun e he => gc_R.eqlt (by omega) (h7 e he), ih h6 h8⟩
  | case6 a at1 b bt1 h h2 h3 ih =>
    intro h1 h4; rw [mergeE, if_neg h, if_neg h2, if_neg h3]
    exact ih (List.pairwise_cons.1 h1).2 (List.pairwise_cons.1 h4).2
theorem sortE_ind (C : List En → Prop) (h0 : ∀ l : List En, l.length ≤ 1 → C (l.filter fun e => e.n ≠ 0)) (h1 : ∀ a b : List En, C a → C b → C (mergeE a b)) : ∀ (n : Nat) (l : List En), l.length ≤ n → C (sortE l) := by
  intro n
  induction n with
  | zero => intro l hl; rw [sortE, dif_pos (by omega)]; exact h0 l (by omega)
  | succ n ih =>
    intro l hl
    by_cases hl1 : l.length ≤ 1
    · rw [sortE, dif_pos hl1]; exact h0 l hl1
    · rw [sortE_big rfl (by omega)]
      exact h1 _ _ (ih _ (by rw [List.length_take]; omega)) (ih _ (by rw [List.length_drop]; omega))
theorem sortE_srt (l : List En) : srtE (sortE l) := by
  refine sortE_ind srtE (fun l hl => ?_) (fun a b => mergeE_srt a b) l.length l (Nat.le_refl _)
  match l, hl with
  | [], _ => exact List.Pairwise.nil
  | [e], _ => exact List.Pairwise.sublist (List.filter_sublist) (List.pairwise_singleton _ _)
theorem sortE_all (Q : En → Prop) (hQ : ∀ e f, Q e → Q f → cmpR e.r f.r = 0 → e.n + f.n ≠ 0 → Q ⟨e.r, e.n + f.n⟩) : ∀ (n : Nat) (l : List En), l.length ≤ n → (∀ e ∈ l, e.n ≠ 0 → Q e) → ∀ e ∈ sortE l, Q e := by
  intro n
  induction n with
  | zero =>
    intro l hl h; rw [sortE, dif_pos (by omega)]
    intro e he
    obtain ⟨h1, h2⟩ := List.mem_filter.1 he
    exact h e h1 (by simpa using h2)
  | succ n ih =>
    intro l hl h
    by_cases hl1 : l.length ≤ 1
    · rw [sortE, dif_pos hl1]
      intro e he
      obtain ⟨h1, h2⟩ := List.mem_filter.1 he
      exact h e h1 (by simpa using h2)
    · rw [sortE_big rfl (by omega)]
      exact mergeE_all Q hQ _ _ (ih _ (by rw [List.length_take]; omega) fun e he => h e (List.mem_of_mem_take he)) (ih _ (by rw [List.length_drop]; omega) fun e he => h e (List.mem_of_mem_drop he))
/-- Sums over the rows. -/
def wsum (g : List Vl → Int) (b : List En) : Int := (b.map fun e => e.n * g e.r).sum
theorem wsum_cons (g : List Vl → Int) (e : En) (b : List En) : wsum g (e :: b) = e.n * g e.r + wsum g b := by simp [wsum]
theorem wsum_nil (g : List Vl → Int) : wsum g [] = 0 := rfl
theorem wsum_app (g : List Vl → Int) (a b : List En) : wsum g (a ++ b) = wsum g a + wsum g b := by simp [wsum]
def okR (b : List En) : Prop := ∀ e ∈ b, ∀ v ∈ e.r, okP v
theorem mergeE_wsum (g : List Vl → Int) : ∀ (a b : List En), okR a → okR b → wsum g (mergeE a b) = wsum g a + wsum g b := by
  intro a b
  induction a, b using mergeE.induct with
  | case1 bt1 => intro _ h; rw [mergeE, wsum_nil]; omega
  | case2 a at1 => intro h _; rw [mergeE, wsum_nil]; omega
  | case3 a at1 b bt1 h ih =>
    intro h1 h2; rw [mergeE, if_pos h, wsum_cons, ih (fun e he => h1 e (by simp [he])) h2, wsum_cons g a]; omega
  | case4 a at1 b bt1 h h2 ih =>
    intro h1 h3; rw [mergeE, if_neg h, if_pos h2, wsum_cons, ih h1 (fun e he => h3 e (by simp [he])), wsum_cons g b]; omega
  | case5 a at1 b bt1 h h2 h3 ih =>
    intro h1 h4
    rw [mergeE, if_neg h, if_neg h2, if_pos h3, wsum_cons, ih (fun e he => h1 e (by simp [he])) (fun e he => h4 e (by simp [he])), wsum_cons, wsum_cons]
    have : a.r = b.r := cmpR_eq (h1 a (by simp)) (h4 b (by simp)) (by omega)
    simp only
    rw [this, Int.add_mul]; omega
  | case6 a at1 b bt1 h h2 h3 ih =>
    intro h1 h4
    rw [mergeE, if_neg h, if_neg h2, if_neg h3, ih (fun e he => h1 e (by simp [he])) (fun e he => h4 e (by simp [he])), wsum_cons, wsum_cons]
    have : a.r = b.r := cmpR_eq (h1 a (by simp)) (h4 b (by simp)) (by omega)
    have h5 : a.n + b.n = 0 := by omega
    have : a.n * g a.r + b.n * g b.r = 0 := by rw [this, ← Int.add_mul, h5, Int.zero_mul]
    omega
/-- A valid bag without negative counts. -/
structure BagF (M : Nat) (b : List En) : Prop where
  srt : srtE b
  pos : ∀ e ∈ b, 0 < e.n
  row : ∀ e ∈ b, rowP e.r
  abs : absS b ≤ M
theorem BagF.len {M : Nat} {b : List En} (h : BagF M b) : b.length ≤ M := by
  have h1 := h.pos
  have h2 := h.abs
  clear h
  induction b generalizing M with
  | nil => simp
  | cons e b ih =>
    rw [absS_cons] at h2
    have := h1 e (by simp)
    have := ih (M := M - e.n.natAbs) (fun e he => h1 e (by simp [he])) (by omega)
    simp only [List.length_cons]; omega
theorem BagF.ok {M : Nat} {b : List En} (h : BagF M b) : okR b := fun e he v hv => (h.row e he).2 v hv
theorem BagF.fit {M : Nat} {b : List En} (h : BagF M b) : fitB b := fun e he => by have := (h.row e he).1; simp only [maxLen]; omega
theorem BagF.posP {M : Nat} {b : List En} (h : BagF M b) (hM : M ≤ 4096) : posP b := by
  refine ⟨⟨Nat.le_trans h.len hM, fun i hi e he => ?_⟩, fun e he => by have := h.pos e he; omega⟩
  have hm := List.mem_of_getElem? he
  have h1 := absS_mem hm
  have h2 := h.abs
  have h3 := h.pos e hm
  refine ⟨⟨by omega, by omega, h.row e hm⟩, by omega, fun f hi0 hf => ?_⟩
  obtain ⟨h4, h5⟩ := List.getElem?_eq_some_iff.1 he
  obtain ⟨h6, h7⟩ := List.getElem?_eq_some_iff.1 hf
  have := List.pairwise_iff_getElem.1 h.srt (i - 1) i h6 h4 (by omega)
  rw [h5, h7] at this
  exact this
theorem BagF.merge {M N : Nat} {a b : List En} (ha : BagF M a) (hb : BagF N b) : BagF (M + N) (mergeE a b) :=
  ⟨mergeE_srt _ _ ha.srt hb.srt, mergeE_all (fun e => 0 < e.n) (fun e f h1 h2 _ _ => by simp only at h1 h2 ⊢; omega) _ _ ha.pos hb.pos, mergeE_rows _ _ rowP ha.row hb.row, by have := mergeE_abs a b; have := ha.abs; have := hb.abs; omega⟩
theorem BagF.sort {M : Nat} {l : List En} (h1 : ∀ e ∈ l, 0 ≤ e.n) (h2 : ∀ e ∈ l, rowP e.r) (h3 : absS l ≤ M) : BagF M (sortE l) := by
  obtain ⟨_, f2, f3⟩ := sortE_facts l.length l (Nat.le_refl _)
  exact ⟨sortE_srt l, sortE_all (fun e => 0 < e.n) (fun e f h1 h2 _ _ => by simp only at h1 h2 ⊢; omega) l.length l (Nat.le_refl _) (fun e he h0 => by have := h1 e he; omega), f3 rowP h2, by omega⟩
end Go.Proofs.Ytccnhpaldmjkbaa
namespace Go.Proofs.Ytccnhpaldmjkbaa
open Go Go.RowKit Go.Av
set_option maxRecDepth 100000
/-- How many of a value's first places are a cell. -/
def cnt (w : Nat) (v : Vl) (p : Nat) : Nat → Nat
  | 0 => 0
  | i + 1 => cnt w v p i + (if placeV w v i = p then 1 else 0)
def hits (w d col p : Nat) (r : List Vl) : Int := if (cellV r col).k = 0 then 0 else (cnt w (cellV r col) p d : Int)
/-- An entry the other way round. -/
def En.neg (e : En) : En := ⟨e.r, -e.n⟩
def remN (w d col : Nat) (l : List Int) (b : List En) (i : Nat) : List Int := (b.take i).foldl (fun l e => stepE 0 w d col l e.neg) l
theorem wsum_bd {g : List Vl → Int} {D : Nat} (hg : ∀ r, 0 ≤ g r ∧ g r ≤ D) : ∀ {b : List En}, (∀ e ∈ b, 0 < e.n) → 0 ≤ wsum g b ∧ wsum g b ≤ (D : Int) * (absS b : Int)
  | [], _ => by simp [wsum, absS]
  | e :: b, h => by
    obtain ⟨h1, h2⟩ := wsum_bd hg (b := b) fun e he => h e (by simp [he])
    have h3 := h e (by simp)
    obtain ⟨g1, g2⟩ := hg e.r
    rw [wsum_cons, absS_cons]
    have a1 : 0 ≤ e.n * g e.r := Int.mul_nonneg (by omega) g1
    have a2 : e.n * g e.r ≤ e.n * D := Int.mul_le_mul_of_nonneg_left g2 (by omega)
    have a3 : (D : Int) * ((e.n.natAbs + absS b : Nat) : Int) = e.n * D + D * (absS b : Int) := by
      push_cast
      rw [Int.mul_add, Int.mul_comm (D : Int) (e.n.natAbs : Int)]
      have : (e.n.natAbs : Int) = e.n := by omega
      rw [this]
    omega
end Go.Proofs.Ytccnhpaldmjkbaa
