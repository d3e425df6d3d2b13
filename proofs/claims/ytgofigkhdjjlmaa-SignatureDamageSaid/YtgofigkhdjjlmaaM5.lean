/-
  Joined texts: D9 D10 D15 AvR DR D18 E1 EP D13 D20 D11 E2 E4 E7. Lemmas; no statement of a law.
-/
import Derived.ChangeOld
import Derived.ChangeSlices
import Derived.ShutString
import Derived.Test.YtgofigkhdjjlmaaM1
import Derived.Test.YtgofigkhdjjlmaaM2
import Derived.Test.YtgofigkhdjjlmaaM3
import Derived.Test.YtgofigkhdjjlmaaM4
/-
  Format and Parse (walk), as the program has them.
-/
set_option linter.unusedVariables false
set_option linter.unusedSimpArgs false
namespace Go.Proofs.Ytgofigkhdjjlmaa
open Go Go.RowKit Go.Av
set_option maxRecDepth 100000
theorem u8_ix (l : List UInt8) (i : Nat) (h : i < l.length) : (u8c l)[i]? = some (.v (.int .u8 ((l.getD i 0).toNat : Int))) := by
  have := u8_at l i h
  rwa [Nat.mul_one] at this
/-- Hexadecimal digits. -/
def hx (n : Nat) : UInt8 := [48, 49, 50, 51, 52, 53, 54, 55, 56, 57, 97, 98, 99, 100, 101, 102].getD n 0
theorem hex_at (m : Nat) (h : m < 16) : (⟨#[48, 49, 50, 51, 52, 53, 54, 55, 56, 57, 97, 98, 99, 100, 101, 102]⟩ : ByteArray).data[m]? = some (hx m) := by
  have : ∀ m : Fin 16, (⟨#[48, 49, 50, 51, 52, 53, 54, 55, 56, 57, 97, 98, 99, 100, 101, 102]⟩ : ByteArray).data[m.val]? = some (hx m.val) := by decide
  exact this ⟨m, h⟩
def fmt (l : List UInt8) : List UInt8 := l.flatMap fun b => [hx (b.toNat / 16), hx (b.toNat % 16)]
theorem fmt_length (l : List UInt8) : (fmt l).length = 2 * l.length := by
  induction l with
  | nil => rfl
  | cons b l ih => simp [fmt] at ih ⊢; omega
theorem fmt_step (l : List UInt8) (i : Nat) (h : i < l.length) : u8c (fmt (l.take i)) ++ [.v (.int .u8 ((hx ((l.getD i 0).toNat / 16)).toNat : Int)), .v (.int .u8 ((hx ((l.getD i 0).toNat % 16)).toNat : Int))] = u8c (fmt (l.take (i + 1))) := by
  rw [List.take_add_one, fmt, fmt, List.flatMap_append, u8c_app, List.getElem?_eq_getElem h]
  simp [u8c, List.getD, List.getElem?_eq_getElem h]
/-- A digit's value. -/
def dg (c : UInt8) : Option Nat := if 48 ≤ c.toNat ∧ c.toNat ≤ 57 then some (c.toNat - 48) else if 97 ≤ c.toNat ∧ c.toNat ≤ 102 then some (c.toNat - 87) else none
theorem dg_lt (c : UInt8) : (dg c).getD 0 < 16 := by
  unfold dg
  split
  · simp; omega
  · split
    · simp; omega
    · simp
def sb (s : ByteArray) (i : Nat) : UInt8 := s.data.getD i 0
theorem sb_at (s : ByteArray) (i : Nat) (h : i < s.size) : s.data[i]? = some (sb s i) := by
  have : i < s.data.size := h
  simp [sb, Array.getElem?_eq_getElem this]
def good (s : ByteArray) : Prop := s.size = 64 ∧ ∀ i, i < 64 → (dg (sb s i)).isSome = true
def dv (s : ByteArray) (i : Nat) : Nat := (dg (sb s i)).getD 0
def pb (s : ByteArray) (i : Nat) : UInt8 := UInt8.ofNat (dv s (2 * i) * 16 + dv s (2 * i + 1))
theorem pb_nat (s : ByteArray) (i : Nat) : (pb s i).toNat = dv s (2 * i) * 16 + dv s (2 * i + 1) := by
  have h1 := dg_lt (sb s (2 * i))
  have h2 := dg_lt (sb s (2 * i + 1))
  simp only [pb, UInt8.toNat_ofNat', dv]
  omega
open Classical in
noncomputable def pval (s : ByteArray) : List UInt8 := if good s then (List.range 32).map (pb s) else List.replicate 32 0
open Classical in
noncomputable def perr (s : ByteArray) : Int := if good s then 0 else 2
/-- A row of n bytes of which i are filled. -/
def flg (f : Nat → UInt8) (n i : Nat) : List UInt8 := (List.range i).map f ++ List.replicate (n - i) 0
theorem flg_length (f : Nat → UInt8) (n i : Nat) (h : i ≤ n) : (flg f n i).length = n := by simp [flg]; omega
theorem flg_full (f : Nat → UInt8) (n : Nat) : flg f n n = (List.range n).map f := by simp [flg]
theorem flg_set (f : Nat → UInt8) (n i : Nat) (h : i < n) : (u8c (flg f n i)).set (0 + i * 1) (.v (.int .u8 ((f i).toNat : Int))) = u8c (flg f n (i + 1)) := by
  rw [u8c_set, Nat.zero_add, Nat.mul_one]
  congr 1
  unfold flg
  rw [List.range_succ, List.map_append, List.set_append_right _ _ (by simp), List.length_map, List.length_range, Nat.sub_self, show n - i = (n - (i + 1)) + 1 by omega, List.replicate_succ, List.set_cons_zero]
  simp
section
variable {P : Program} {ev : Evl} {h : Heap} {d : Option Tmp} {T ty T' : TypeId} {x y : Operand} {pos : String} {aft : Array Edge} {gd : Option (Nat × Bool)}
theorem s_shr4 {b : Nat} {k : IntKind} (hx : ev x = some (.c (.v (.int .u8 (b : Int))))) (hy : ev y = some (.c (.v (.int k 4)))) : Still P ⟨d, .binOp .shr T x y T', ty, pos, aft, gd⟩ ev h (.c (.v (.int .u8 ((b / 16 : Nat) : Int)))) :=
  s_shr hx hy (by decide) (by
    show Int.fdiv (b : Int) (2 ^ (min 4 8)) = _
    rw [Int.fdiv_eq_ediv_of_nonneg _ (by decide)]
    simp)
theorem s_and15 {b : UInt8} (hx : ev x = some (.c (.v (.int .u8 (b.toNat : Int))))) (hy : ev y = some (.c (.v (.int .u8 15)))) : Still P ⟨d, .binOp .and T x y T', ty, pos, aft, gd⟩ ev h (.c (.v (.int .u8 ((b.toNat % 16 : Nat) : Int)))) :=
  s_and hx hy (by
    have : ∀ b : BitVec 8, IntKind.u8.wrap ((BitVec.ofInt 8 (b.toNat : Int) &&& BitVec.ofInt 8 15).toNat : Int) = ((b.toNat % 16 : Nat) : Int) := by decide
    exact this b.toBitVec)
theorem s_shl4 {a : Nat} {k : IntKind} (ha : a < 16) (hx : ev x = some (.c (.v (.int .u8 (a : Int))))) (hy : ev y = some (.c (.v (.int k 4)))) : Still P ⟨d, .binOp .shl T x y T', ty, pos, aft, gd⟩ ev h (.c (.v (.int .u8 ((a * 16 : Nat) : Int)))) :=
  s_shl hx hy (by decide) (by
    show IntKind.u8.wrap ((a : Int) * 2 ^ (min 4 8)) = _
    rw [wu8 (by simp; omega) (by simp; omega)]
    simp)
theorem s_or4 {a b : Nat} (ha : a < 16) (hb : b < 16) (hx : ev x = some (.c (.v (.int .u8 ((a * 16 : Nat) : Int))))) (hy : ev y = some (.c (.v (.int .u8 (b : Int))))) : Still P ⟨d, .binOp .or T x y T', ty, pos, aft, gd⟩ ev h (.c (.v (.int .u8 ((a * 16 + b : Nat) : Int)))) :=
  s_or hx hy (by
    have : ∀ a b : Fin 16, IntKind.u8.wrap ((BitVec.ofInt 8 ((a.val * 16 : Nat) : Int) ||| BitVec.ofInt 8 (b.val : Int)).toNat : Int) = ((a.val * 16 + b.val : Nat) : Int) := by decide
    exact this ⟨a, ha⟩ ⟨b, hb⟩)
end
attribute [local irreducible] Still Adds AWL AW Drw AC AWR Weak Frz Src RetK Out InK
set_option maxHeartbeats 4000000 in
theorem format_ok (l : List UInt8) (hl : l.length = 32) : AC Try.prog 35 [.agg (u8c l)] (.c (.v (.string ⟨(fmt l).toArray⟩))) [] 0 := by
  have hul : (u8c l).length = 32 := by rw [u8c_length, hl]
  refine ac_enter tabOk (sz := 23) Try.func35 rfl (by rw [Try.ntmps35]; rfl) ?_
  repeat' (first
    | ((with_reducible refine aw_seqk ?_); intro K hK hX)
    | ((with_reducible refine isC_reg ?_); refine aw_prune [0, 1, 2, 3, 5, 7, 8] rfl rfl ?_; with_reducible refine aw_region ?_)
    | ((with_reducible refine isC_draw ?_); refine aw_prune [0, 1, 2, 3, 5, 7, 8] rfl rfl ?_; refine aw_drwF [] ?_)
    | refine stA ?_
    | refine stD ?_
    | (refine hK _ _ _ _ ?_; clear hK hX K)
    | (refine hX _ _ _ _ _ (by simp) ?_; clear hK hX K))
  refine aw_loopk 2 (fun i : Nat => [(3, .own 1 0 (2 * i) 1 true), (7, .c (.agg (u8c l))), (8, .c (iv i))]) (fun i => [(0, .row 35 (u8c l)), (1, .row 5 (u8c (fmt (l.take i))))]) [] (fun i => i ≤ 32) (fun i => 32 - i) 0 (by omega) weakA ?_
  intro i hi K hK hX
  have hlen : (u8c (fmt (l.take i))).length = 2 * i := by rw [u8c_length, fmt_length, List.length_take]; omega
  have hb : (l.getD i 0).toNat < 256 := UInt8.toNat_lt _
  by_cases hlt : i < 32
  · repeat' (first
    | ((with_reducible refine aw_seqk ?_); intro K hK hX)
    | ((with_reducible refine isC_reg ?_); refine aw_prune [0, 1, 2, 3, 5, 7, 8] rfl rfl ?_; with_reducible refine aw_region ?_)
    | ((with_reducible refine isC_draw ?_); refine aw_prune [0, 1, 2, 3, 5, 7, 8] rfl rfl ?_; refine aw_drwF [] ?_)
    | ((first | ((with_reducible refine isA_any ?_); refine xA ?_) | ((with_reducible refine isDk_any ?_); refine xD ?_)); (first | ((with_reducible refine e_bin ?_); (first | refine ex_i (s_shr4 rfl rfl) ?_ | refine ex_i (s_and15 rfl rfl) ?_)) | ((with_reducible refine e_load ?_); (first | refine ex_i (s_load1 tabOk rfl rfl rfl rfl (by first | exact u8_ix l i (by omega) | exact hex_at _ (by omega))) ?_ | refine ex_i (s_load1r tabOk rfl rfl rfl rfl (by first | exact u8_ix l i (by omega) | exact hex_at _ (by omega))) ?_ | refine ex_i (s_load1i tabOk rfl rfl rfl (by first | exact u8_ix l i (by omega) | exact hex_at _ (by omega))) ?_)) | ((with_reducible refine e_ix ?_); (first | refine ex_i (s_ixV1 tabOk rfl rfl (by first | with_reducible exact cast_self _ | with_reducible exact cast_lit _ | exact nt (by omega) | rfl) rfl rfl rfl rfl rfl (by first | exact Nat.le_of_ble_eq_true rfl | omega | (simp; omega)) (by first | exact u8_ix l i (by omega) | exact hex_at _ (by omega))) ?_ | refine ex_i (s_ixStr tabOk rfl rfl (by first | with_reducible exact cast_self _ | with_reducible exact cast_lit _ | exact nt (by omega) | rfl) rfl rfl (by first | exact u8_ix l i (by omega) | exact hex_at _ (by omega))) ?_))))
    | refine stA ?_
    | refine stD ?_
    | (refine hK _ _ _ _ ?_; clear hK hX K)
    | (refine hX _ _ _ _ _ (by simp) ?_; clear hK hX K))
    exact ⟨i + 1, by omega, by omega, (by refine weak_ren [0, 3] rfl rfl ?_ ?_ rfl rfl <;> (repeat' (first | exact weakER_nil | exact weakHR_nil | refine weakER_cons rfl (by first | rfl | (exact congrArg (AObj.row 5) (fmt_step l i (by omega))) | exact own_eq rfl rfl (by omega) | exact int_eq (by omega) | (simp <;> fail) | (congr 4; omega) | (congr 3; omega) | (congr 2; omega)) rfl ?_ | refine weakHR_cons rfl (by first | rfl | (exact congrArg (AObj.row 5) (fmt_step l i (by omega))) | exact own_eq rfl rfl (by omega) | exact int_eq (by omega) | (simp <;> fail) | (congr 4; omega) | (congr 3; omega) | (congr 2; omega)) rfl ?_)))⟩
  · obtain rfl : i = 32 := by omega
    repeat' (first
    | ((with_reducible refine aw_seqk ?_); intro K hK hX)
    | ((with_reducible refine isC_reg ?_); refine aw_prune [0, 1, 2, 3, 5, 7, 8] rfl rfl ?_; with_reducible refine aw_region ?_)
    | ((with_reducible refine isC_draw ?_); refine aw_prune [0, 1, 2, 3, 5, 7, 8] rfl rfl ?_; refine aw_drwF [] ?_)
    | refine stA ?_
    | refine stD ?_
    | (refine hK _ _ _ _ ?_; clear hK hX K)
    | (refine hX _ _ _ _ _ (by simp) ?_; clear hK hX K))
    rw [List.take_of_length_le (by omega)]
    refine retK_mk (by first | exact .inl rfl | exact .inr rfl) (by exact trivial) rfl (ResL.one (ResA.tmp rfl)) (by first | exact out_c (by first | exact frz_c cv_rfl | exact frz_c cv_nil | exact frz_ownW rfl rfl (by first | rfl | with_reducible assumption | (simp <;> fail) | omega | (simp; omega) | assumption) | exact frz_eq (frz_c cv_rfl) (by first | rfl | (simp <;> fail) | fail)) | exact out_own rfl rfl)
set_option maxHeartbeats 4000000 in
theorem digit_ok (c : UInt8) : AC Try.prog 76 [.v (.int .u8 (c.toNat : Int))] (.tup [.c (.v (.int .u8 (((dg c).getD 0 : Nat) : Int))), .c (.v (.bool (dg c).isSome))]) [] 0 := by
  have hb : c.toNat < 256 := UInt8.toNat_lt _
  by_cases h1 : 48 ≤ c.toNat
  · have g1 : (decide ((48 : Int) ≤ (c.toNat : Int)) == true) = true := by rw [decide_eq_true (by omega)]; rfl
    by_cases h2 : c.toNat ≤ 57
    · have e : dg c = some (c.toNat - 48) := by unfold dg; rw [if_pos ⟨h1, h2⟩]
      rw [e]
      have hv : ((c.toNat - 48 : Nat) : Int) = (c.toNat : Int) - 48 := by omega
      show AC _ _ _ (.tup [.c (.v (.int .u8 ((c.toNat - 48 : Nat) : Int))), .c (.v (.bool true))]) _ _
      rw [hv]
      refine ac_enter tabOk (sz := 23) Try.func76 rfl (by rw [Try.ntmps76]; rfl) ?_
      repeat' (first
    | ((with_reducible refine aw_seqk ?_); intro K hK hX)
    | ((with_reducible refine isC_reg ?_); refine aw_prune [0, 2, 3] rfl rfl ?_; with_reducible refine aw_region ?_)
    | refine stA ?_
    | (refine hK _ _ _ _ ?_; clear hK hX K)
    | (refine hX _ _ _ _ _ (by simp) ?_; clear hK hX K))
      refine retK_mk (by first | exact .inl rfl | exact .inr rfl) (by exact trivial) rfl (ResL.two (ResA.tmp rfl) (ResA.tmp rfl)) (out_t (frzl_cons (by first | exact frz_c cv_rfl | exact frz_c cv_nil | exact frz_ownW rfl rfl (by first | rfl | with_reducible assumption | (simp <;> fail) | omega | (simp; omega) | assumption) | exact frz_eq (frz_c cv_rfl) (by first | rfl | (simp <;> fail) | fail)) (frzl_cons (by first | exact frz_c cv_rfl | exact frz_c cv_nil | exact frz_ownW rfl rfl (by first | rfl | with_reducible assumption | (simp <;> fail) | omega | (simp; omega) | assumption) | exact frz_eq (frz_c cv_rfl) (by first | rfl | (simp <;> fail) | fail)) frzl_nil)))
    · by_cases h3 : 97 ≤ c.toNat
      · have g3 : (decide ((97 : Int) ≤ (c.toNat : Int)) == true) = true := by rw [decide_eq_true (by omega)]; rfl
        by_cases h4 : c.toNat ≤ 102
        · have e : dg c = some (c.toNat - 87) := by unfold dg; rw [if_neg (by omega), if_pos ⟨h3, h4⟩]
          rw [e]
          have hv : ((c.toNat - 87 : Nat) : Int) = (c.toNat : Int) - 97 + 10 := by omega
          show AC _ _ _ (.tup [.c (.v (.int .u8 ((c.toNat - 87 : Nat) : Int))), .c (.v (.bool true))]) _ _
          rw [hv]
          refine ac_enter tabOk (sz := 23) Try.func76 rfl (by rw [Try.ntmps76]; rfl) ?_
          repeat' (first
    | ((with_reducible refine aw_seqk ?_); intro K hK hX)
    | ((with_reducible refine isC_reg ?_); refine aw_prune [0, 2, 3] rfl rfl ?_; with_reducible refine aw_region ?_)
    | refine stA ?_
    | (refine hK _ _ _ _ ?_; clear hK hX K)
    | (refine hX _ _ _ _ _ (by simp) ?_; clear hK hX K))
          refine retK_mk (by first | exact .inl rfl | exact .inr rfl) (by exact trivial) rfl (ResL.two (ResA.tmp rfl) (ResA.tmp rfl)) (out_t (frzl_cons (by first | exact frz_c cv_rfl | exact frz_c cv_nil | exact frz_ownW rfl rfl (by first | rfl | with_reducible assumption | (simp <;> fail) | omega | (simp; omega) | assumption) | exact frz_eq (frz_c cv_rfl) (by first | rfl | (simp <;> fail) | fail)) (frzl_cons (by first | exact frz_c cv_rfl | exact frz_c cv_nil | exact frz_ownW rfl rfl (by first | rfl | with_reducible assumption | (simp <;> fail) | omega | (simp; omega) | assumption) | exact frz_eq (frz_c cv_rfl) (by first | rfl | (simp <;> fail) | fail)) frzl_nil)))
        · have e : dg c = none := by unfold dg; rw [if_neg (by omega), if_neg (by omega)]
          rw [e]
          refine ac_enter tabOk (sz := 23) Try.func76 rfl (by rw [Try.ntmps76]; rfl) ?_
          repeat' (first
    | ((with_reducible refine aw_seqk ?_); intro K hK hX)
    | ((with_reducible refine isC_reg ?_); refine aw_prune [0, 2, 3] rfl rfl ?_; with_reducible refine aw_region ?_)
    | refine stA ?_
    | (refine hK _ _ _ _ ?_; clear hK hX K)
    | (refine hX _ _ _ _ _ (by simp) ?_; clear hK hX K))
          refine retK_mk (by first | exact .inl rfl | exact .inr rfl) (by exact trivial) rfl (ResL.two (ResA.tmp rfl) (ResA.tmp rfl)) (out_t (frzl_cons (by first | exact frz_c cv_rfl | exact frz_c cv_nil | exact frz_ownW rfl rfl (by first | rfl | with_reducible assumption | (simp <;> fail) | omega | (simp; omega) | assumption) | exact frz_eq (frz_c cv_rfl) (by first | rfl | (simp <;> fail) | fail)) (frzl_cons (by first | exact frz_c cv_rfl | exact frz_c cv_nil | exact frz_ownW rfl rfl (by first | rfl | with_reducible assumption | (simp <;> fail) | omega | (simp; omega) | assumption) | exact frz_eq (frz_c cv_rfl) (by first | rfl | (simp <;> fail) | fail)) frzl_nil)))
      · have g3 : (decide ((97 : Int) ≤ (c.toNat : Int)) == true) = false := by rw [decide_eq_false (by omega)]; rfl
        have e : dg c = none := by unfold dg; rw [if_neg (by omega), if_neg (by omega)]
        rw [e]
        refine ac_enter tabOk (sz := 23) Try.func76 rfl (by rw [Try.ntmps76]; rfl) ?_
        repeat' (first
    | ((with_reducible refine aw_seqk ?_); intro K hK hX)
    | ((with_reducible refine isC_reg ?_); refine aw_prune [0, 2, 3] rfl rfl ?_; with_reducible refine aw_region ?_)
    | refine stA ?_
    | (refine hK _ _ _ _ ?_; clear hK hX K)
    | (refine hX _ _ _ _ _ (by simp) ?_; clear hK hX K))
        refine retK_mk (by first | exact .inl rfl | exact .inr rfl) (by exact trivial) rfl (ResL.two (ResA.tmp rfl) (ResA.tmp rfl)) (out_t (frzl_cons (by first | exact frz_c cv_rfl | exact frz_c cv_nil | exact frz_ownW rfl rfl (by first | rfl | with_reducible assumption | (simp <;> fail) | omega | (simp; omega) | assumption) | exact frz_eq (frz_c cv_rfl) (by first | rfl | (simp <;> fail) | fail)) (frzl_cons (by first | exact frz_c cv_rfl | exact frz_c cv_nil | exact frz_ownW rfl rfl (by first | rfl | with_reducible assumption | (simp <;> fail) | omega | (simp; omega) | assumption) | exact frz_eq (frz_c cv_rfl) (by first | rfl | (simp <;> fail) | fail)) frzl_nil)))
  · have g1 : (decide ((48 : Int) ≤ (c.toNat : Int)) == true) = false := by rw [decide_eq_false (by omega)]; rfl
    have g3 : (decide ((97 : Int) ≤ (c.toNat : Int)) == true) = false := by rw [decide_eq_false (by omega)]; rfl
    have e : dg c = none := by unfold dg; rw [if_neg (by omega), if_neg (by omega)]
    rw [e]
    refine ac_enter tabOk (sz := 23) Try.func76 rfl (by rw [Try.ntmps76]; rfl) ?_
    repeat' (first
    | ((with_reducible refine aw_seqk ?_); intro K hK hX)
    | ((with_reducible refine isC_reg ?_); refine aw_prune [0, 2, 3] rfl rfl ?_; with_reducible refine aw_region ?_)
    | refine stA ?_
    | (refine hK _ _ _ _ ?_; clear hK hX K)
    | (refine hX _ _ _ _ _ (by simp) ?_; clear hK hX K))
    refine retK_mk (by first | exact .inl rfl | exact .inr rfl) (by exact trivial) rfl (ResL.two (ResA.tmp rfl) (ResA.tmp rfl)) (out_t (frzl_cons (by first | exact frz_c cv_rfl | exact frz_c cv_nil | exact frz_ownW rfl rfl (by first | rfl | with_reducible assumption | (simp <;> fail) | omega | (simp; omega) | assumption) | exact frz_eq (frz_c cv_rfl) (by first | rfl | (simp <;> fail) | fail)) (frzl_cons (by first | exact frz_c cv_rfl | exact frz_c cv_nil | exact frz_ownW rfl rfl (by first | rfl | with_reducible assumption | (simp <;> fail) | omega | (simp; omega) | assumption) | exact frz_eq (frz_c cv_rfl) (by first | rfl | (simp <;> fail) | fail)) frzl_nil)))
end Go.Proofs.Ytgofigkhdjjlmaa
/-
  Parse (walk), as the program has it.
-/
set_option linter.unusedVariables false
set_option linter.unusedSimpArgs false
namespace Go.Proofs.Ytgofigkhdjjlmaa
open Go Go.RowKit Go.Av
set_option maxRecDepth 100000
theorem parse_idle : Idle Try.prog 75 2 := by
  intro us w hl
  obtain ⟨u0, u1, rfl⟩ : ∃ u0 u1, us = [u0, u1] := by
    match us, hl with | [u0, u1], _ => exact ⟨u0, u1, rfl⟩
  refine callsD_of_wpS Try.func75 rfl fun c₀ cs hu => ?_
  apply wpS_seq
  apply wpS_region
  simp [wpOpsS, go_sem, recoverD, hu, Try.ntmps75, Exit.thenS]
  refine wpS_cond (t := false) (by simp [Act.eval, Array.replicate]) ?_
  simp only [Bool.false_eq_true, if_false]
  refine wpS_of_wp (wp_skip ?_)
  cases c₀
  simp_all [bodyPostS, results, Try.results75]
theorem parse_idle_b : Body Try.prog 75 := by unfold Body; kernel_rfl
theorem pval_good (s : ByteArray) (h : good s) : pval s = (List.range 32).map (pb s) := by unfold pval; rw [if_pos h]
theorem pval_bad (s : ByteArray) (h : ¬ good s) : pval s = List.replicate 32 0 := by unfold pval; rw [if_neg h]
theorem perr_good (s : ByteArray) (h : good s) : perr s = 0 := by unfold perr; rw [if_pos h]
theorem perr_bad (s : ByteArray) (h : ¬ good s) : perr s = 2 := by unfold perr; rw [if_neg h]
attribute [local irreducible] Still Adds AWL AW Drw AC AWR Weak Frz Src RetK Out InK
set_option maxHeartbeats 4000000 in
theorem parse_ok (s : ByteArray) : AC Try.prog 36 [.v (.string s)] (.tup [.c (.agg (u8c (pval s))), .c (iv (perr s))]) [] 0 := by
  by_cases hn : s.size = 64
  · refine ac_enter tabOk (sz := 50) Try.func36 rfl (by rw [Try.ntmps36]; rfl) ?_
    repeat' (first
    | ((with_reducible refine aw_seqk ?_); intro K hK hX)
    | ((with_reducible refine isC_reg ?_); refine aw_prune [0, 2, 3, 4, 5, 6, 7, 8, 9, 15] rfl rfl ?_; with_reducible refine aw_region ?_)
    | refine stA ?_
    | (refine hK _ _ _ _ ?_; clear hK hX K)
    | (refine hX _ _ _ _ _ (by simp) ?_; clear hK hX K))
    refine aw_loopk 3 (fun i : Nat => [(0, .c (.v (.string s))), (2, .ref 0 0), (3, .ref 1 0), (4, .ref 2 0), (15, .c (iv i))]) (fun i => [(0, .row 35 z32), (1, .blk 39 [.c (iv 0)]), (2, .row 35 (u8c (flg (pb s) 32 i)))]) _ (fun i => i ≤ 32 ∧ ∀ j, j < 2 * i → (dg (sb s j)).isSome = true) (fun i => 32 - i) 0 ⟨by omega, fun j hj => by omega⟩ weakA ?_
    rintro i ⟨hi, hd⟩ K hK hX
    have hlen : (u8c (flg (pb s) 32 i)).length = 32 := by rw [u8c_length, flg_length _ _ _ (by omega)]
    by_cases hlt : i < 32
    · repeat' (first
    | ((with_reducible refine aw_seqk ?_); intro K hK hX)
    | ((with_reducible refine isC_reg ?_); refine aw_prune [0, 2, 3, 4, 5, 6, 7, 8, 9, 15] rfl rfl ?_; with_reducible refine aw_region ?_)
    | ((with_reducible refine isA_call ?_); (first | refine zA ?_ | refine zN ?_); (first | refine c0 (digit_ok (sb s (2 * i))) ?_ | refine c0 (digit_ok (sb s (2 * i + 1))) ?_))
    | (((with_reducible refine isA_any ?_); refine xA ?_); (first | ((with_reducible refine e_load ?_); (first | refine ex_i (s_load1 tabOk rfl rfl rfl rfl (by exact sb_at s _ (by omega))) ?_ | refine ex_i (s_load1r tabOk rfl rfl rfl rfl (by exact sb_at s _ (by omega))) ?_ | refine ex_i (s_load1i tabOk rfl rfl rfl (by exact sb_at s _ (by omega))) ?_)) | ((with_reducible refine e_ix ?_); (first | refine ex_i (s_ixV1 tabOk rfl rfl (by first | with_reducible exact cast_self _ | with_reducible exact cast_lit _ | exact nt (by omega) | rfl) rfl rfl rfl rfl rfl (by first | exact Nat.le_of_ble_eq_true rfl | omega | (simp; omega)) (by exact sb_at s _ (by omega))) ?_ | refine ex_i (s_ixStr tabOk rfl rfl (by first | with_reducible exact cast_self _ | with_reducible exact cast_lit _ | exact nt (by omega) | rfl) rfl rfl (by exact sb_at s _ (by omega))) ?_))))
    | refine stA ?_
    | (refine hK _ _ _ _ ?_; clear hK hX K)
    | (refine hX _ _ _ _ _ (by simp) ?_; clear hK hX K))
      have n1 := dg_lt (sb s (2 * i))
      have n2 := dg_lt (sb s (2 * i + 1))
      by_cases d1 : (dg (sb s (2 * i))).isSome = true
      · have g1 : ((!(dg (sb s (2 * i))).isSome) == false) = true := by rw [d1]; rfl
        have p1 : (!(dg (sb s (2 * i))).isSome) = false := by rw [d1]; rfl
        by_cases d2 : (dg (sb s (2 * i + 1))).isSome = true
        · have p2 : (!(dg (sb s (2 * i + 1))).isSome) = false := by rw [d2]; rfl
          repeat' (first
    | ((with_reducible refine aw_seqk ?_); intro K hK hX)
    | ((with_reducible refine isC_reg ?_); refine aw_prune [0, 2, 3, 4, 5, 6, 7, 8, 9, 15] rfl rfl ?_; with_reducible refine aw_region ?_)
    | (((with_reducible refine isA_any ?_); refine xA ?_); (first | ((with_reducible refine e_bin ?_); (first | refine ex_i (s_shl4 n1 rfl rfl) ?_ | refine ex_i (s_or4 n1 n2 rfl rfl) ?_))))
    | ((with_reducible refine isA_store ?_); (refine awl_store1r tabOk g_none rfl rfl rfl rfl rfl rfl (by first | omega | exact Nat.le_of_ble_eq_true rfl | omega | (simp; omega)) ?_))
    | refine stA ?_
    | (refine hK _ _ _ _ ?_; clear hK hX K)
    | (refine hX _ _ _ _ _ (by simp) ?_; clear hK hX K))
          have hp := pb_nat s i
          simp only [dv] at hp
          rw [← hp]
          exact ⟨i + 1, ⟨by omega, fun j hj => by
            rcases Nat.lt_or_ge j (2 * i) with h | h
            · exact hd j h
            · rcases Nat.eq_or_lt_of_le h with h | h
              · rw [← h]; exact d1
              · rw [show j = 2 * i + 1 by omega]; exact d2⟩, by omega, (by refine weak_mk rfl ?_ ?_ rfl <;> (repeat' (first | exact weakE_nil | exact weakH_nil | refine weakE_cons rfl (by first | rfl | (exact congrArg (AObj.row 35) (flg_set (pb s) 32 i hlt)) | exact own_eq rfl rfl (by omega) | exact int_eq (by omega) | (simp <;> fail) | (congr 4; omega) | (congr 3; omega) | (congr 2; omega)) rfl ?_ | refine weakH_cons rfl (by first | rfl | (exact congrArg (AObj.row 35) (flg_set (pb s) 32 i hlt)) | exact own_eq rfl rfl (by omega) | exact int_eq (by omega) | (simp <;> fail) | (congr 4; omega) | (congr 3; omega) | (congr 2; omega)) rfl ?_)))⟩
        · have p2 : (!(dg (sb s (2 * i + 1))).isSome) = true := by cases h : (dg (sb s (2 * i + 1))).isSome <;> simp_all
          have hg : ¬ good s := fun h => d2 (h.2 _ (by omega))
          repeat' (first
    | ((with_reducible refine aw_seqk ?_); intro K hK hX)
    | ((with_reducible refine isC_reg ?_); refine aw_prune [0, 2, 3, 4, 5, 6, 7, 8, 9, 15] rfl rfl ?_; with_reducible refine aw_region ?_)
    | refine stA ?_
    | (refine hK _ _ _ _ ?_; clear hK hX K)
    | (refine hX _ _ _ _ _ (by simp) ?_; clear hK hX K))
          rw [pval_bad s hg, perr_bad s hg]
          refine retK_mk (by first | exact .inl rfl | exact .inr rfl) (by exact ⟨parse_idle, parse_idle_b, trivial⟩) rfl (ResL.two (by first | exact ResA.one rfl rfl rfl rfl rfl | exact ResA.agg rfl rfl rfl rfl rfl (by first | exact IsAgg.closed rfl rfl | exact IsAgg.mixed _) | exact ResA.aggr rfl rfl rfl rfl (by first | rfl | with_reducible assumption | (simp <;> fail) | omega | (simp; omega) | assumption)) (by first | exact ResA.one rfl rfl rfl rfl rfl | exact ResA.agg rfl rfl rfl rfl rfl (by first | exact IsAgg.closed rfl rfl | exact IsAgg.mixed _) | exact ResA.aggr rfl rfl rfl rfl (by first | rfl | with_reducible assumption | (simp <;> fail) | omega | (simp; omega) | assumption))) (out_t (frzl_cons (by first | exact frz_c cv_rfl | exact frz_c cv_nil | exact frz_ownW rfl rfl (by first | rfl | with_reducible assumption | (simp <;> fail) | omega | (simp; omega) | assumption) | exact frz_eq (frz_c cv_rfl) (by first | rfl | (simp <;> fail) | fail)) (frzl_cons (by first | exact frz_c cv_rfl | exact frz_c cv_nil | exact frz_ownW rfl rfl (by first | rfl | with_reducible assumption | (simp <;> fail) | omega | (simp; omega) | assumption) | exact frz_eq (frz_c cv_rfl) (by first | rfl | (simp <;> fail) | fail)) frzl_nil)))
      · have g1 : ((!(dg (sb s (2 * i))).isSome) == false) = false := by cases h : (dg (sb s (2 * i))).isSome <;> simp_all
        have p1 : (!(dg (sb s (2 * i))).isSome) = true := by cases h : (dg (sb s (2 * i))).isSome <;> simp_all
        have hg : ¬ good s := fun h => d1 (h.2 _ (by omega))
        repeat' (first
    | ((with_reducible refine aw_seqk ?_); intro K hK hX)
    | ((with_reducible refine isC_reg ?_); refine aw_prune [0, 2, 3, 4, 5, 6, 7, 8, 9, 15] rfl rfl ?_; with_reducible refine aw_region ?_)
    | refine stA ?_
    | (refine hK _ _ _ _ ?_; clear hK hX K)
    | (refine hX _ _ _ _ _ (by simp) ?_; clear hK hX K))
        rw [pval_bad s hg, perr_bad s hg]
        refine retK_mk (by first | exact .inl rfl | exact .inr rfl) (by exact ⟨parse_idle, parse_idle_b, trivial⟩) rfl (ResL.two (by first | exact ResA.one rfl rfl rfl rfl rfl | exact ResA.agg rfl rfl rfl rfl rfl (by first | exact IsAgg.closed rfl rfl | exact IsAgg.mixed _) | exact ResA.aggr rfl rfl rfl rfl (by first | rfl | with_reducible assumption | (simp <;> fail) | omega | (simp; omega) | assumption)) (by first | exact ResA.one rfl rfl rfl rfl rfl | exact ResA.agg rfl rfl rfl rfl rfl (by first | exact IsAgg.closed rfl rfl | exact IsAgg.mixed _) | exact ResA.aggr rfl rfl rfl rfl (by first | rfl | with_reducible assumption | (simp <;> fail) | omega | (simp; omega) | assumption))) (out_t (frzl_cons (by first | exact frz_c cv_rfl | exact frz_c cv_nil | exact frz_ownW rfl rfl (by first | rfl | with_reducible assumption | (simp <;> fail) | omega | (simp; omega) | assumption) | exact frz_eq (frz_c cv_rfl) (by first | rfl | (simp <;> fail) | fail)) (frzl_cons (by first | exact frz_c cv_rfl | exact frz_c cv_nil | exact frz_ownW rfl rfl (by first | rfl | with_reducible assumption | (simp <;> fail) | omega | (simp; omega) | assumption) | exact frz_eq (frz_c cv_rfl) (by first | rfl | (simp <;> fail) | fail)) frzl_nil)))
    · obtain rfl : i = 32 := by omega
      have hg : good s := ⟨hn, hd⟩
      repeat' (first
    | ((with_reducible refine aw_seqk ?_); intro K hK hX)
    | ((with_reducible refine isC_reg ?_); refine aw_prune [0, 2, 3, 4, 5, 6, 7, 8, 9, 15] rfl rfl ?_; with_reducible refine aw_region ?_)
    | refine stA ?_
    | (refine hK _ _ _ _ ?_; clear hK hX K)
    | (refine hX _ _ _ _ _ (by simp) ?_; clear hK hX K))
      rw [pval_good s hg, perr_good s hg, ← flg_full]
      refine retK_mk (by first | exact .inl rfl | exact .inr rfl) (by exact ⟨parse_idle, parse_idle_b, trivial⟩) rfl (ResL.two (by first | exact ResA.one rfl rfl rfl rfl rfl | exact ResA.agg rfl rfl rfl rfl rfl (by first | exact IsAgg.closed rfl rfl | exact IsAgg.mixed _) | exact ResA.aggr rfl rfl rfl rfl (by first | rfl | with_reducible assumption | (simp <;> fail) | omega | (simp; omega) | assumption)) (by first | exact ResA.one rfl rfl rfl rfl rfl | exact ResA.agg rfl rfl rfl rfl rfl (by first | exact IsAgg.closed rfl rfl | exact IsAgg.mixed _) | exact ResA.aggr rfl rfl rfl rfl (by first | rfl | with_reducible assumption | (simp <;> fail) | omega | (simp; omega) | assumption))) (out_t (frzl_cons (by first | exact frz_c cv_rfl | exact frz_c cv_nil | exact frz_ownW rfl rfl (by first | rfl | with_reducible assumption | (simp <;> fail) | omega | (simp; omega) | assumption) | exact frz_eq (frz_c cv_rfl) (by first | rfl | (simp <;> fail) | fail)) (frzl_cons (by first | exact frz_c cv_rfl | exact frz_c cv_nil | exact frz_ownW rfl rfl (by first | rfl | with_reducible assumption | (simp <;> fail) | omega | (simp; omega) | assumption) | exact frz_eq (frz_c cv_rfl) (by first | rfl | (simp <;> fail) | fail)) frzl_nil)))
  · have hg : ¬ good s := fun h => hn h.1
    have p1 : decide ((s.size : Int) ≠ 64) = true := decide_eq_true (by omega)
    rw [pval_bad s hg, perr_bad s hg]
    refine ac_enter tabOk (sz := 50) Try.func36 rfl (by rw [Try.ntmps36]; rfl) ?_
    repeat' (first
    | ((with_reducible refine aw_seqk ?_); intro K hK hX)
    | ((with_reducible refine isC_reg ?_); refine aw_prune [0, 2, 3, 4, 5, 6, 7, 8, 9, 15] rfl rfl ?_; with_reducible refine aw_region ?_)
    | refine stA ?_
    | (refine hK _ _ _ _ ?_; clear hK hX K)
    | (refine hX _ _ _ _ _ (by simp) ?_; clear hK hX K))
    refine retK_mk (by first | exact .inl rfl | exact .inr rfl) (by exact ⟨parse_idle, parse_idle_b, trivial⟩) rfl (ResL.two (by first | exact ResA.one rfl rfl rfl rfl rfl | exact ResA.agg rfl rfl rfl rfl rfl (by first | exact IsAgg.closed rfl rfl | exact IsAgg.mixed _) | exact ResA.aggr rfl rfl rfl rfl (by first | rfl | with_reducible assumption | (simp <;> fail) | omega | (simp; omega) | assumption)) (by first | exact ResA.one rfl rfl rfl rfl rfl | exact ResA.agg rfl rfl rfl rfl rfl (by first | exact IsAgg.closed rfl rfl | exact IsAgg.mixed _) | exact ResA.aggr rfl rfl rfl rfl (by first | rfl | with_reducible assumption | (simp <;> fail) | omega | (simp; omega) | assumption))) (out_t (frzl_cons (by first | exact frz_c cv_rfl | exact frz_c cv_nil | exact frz_ownW rfl rfl (by first | rfl | with_reducible assumption | (simp <;> fail) | omega | (simp; omega) | assumption) | exact frz_eq (frz_c cv_rfl) (by first | rfl | (simp <;> fail) | fail)) (frzl_cons (by first | exact frz_c cv_rfl | exact frz_c cv_nil | exact frz_ownW rfl rfl (by first | rfl | with_reducible assumption | (simp <;> fail) | omega | (simp; omega) | assumption) | exact frz_eq (frz_c cv_rfl) (by first | rfl | (simp <;> fail) | fail)) frzl_nil)))
end Go.Proofs.Ytgofigkhdjjlmaa
/-
  Format and Parse (walk), as the reference has them.
-/
set_option linter.unusedVariables false
set_option linter.unusedSimpArgs false
namespace Go.Proofs.Ytgofigkhdjjlmaa
open Go Go.RowKit Go.Av
set_option maxRecDepth 100000
def dgi (c : UInt8) : Int := match dg c with
  | some n => (n : Int)
  | none => -1
theorem dgi_some (c : UInt8) (h : (dg c).isSome = true) : dgi c = (((dg c).getD 0 : Nat) : Int) := by
  unfold dgi
  cases hd : dg c with
  | none => rw [hd] at h; cases h
  | some n => rfl
theorem dgi_none (c : UInt8) (h : ¬ (dg c).isSome = true) : dgi c = -1 := by
  unfold dgi
  cases hd : dg c with
  | none => rfl
  | some n => rw [hd] at h; exact absurd rfl h
section
variable {P : Program} {tab : Tab} {ev : Evl} {h : Heap} {d : Option Tmp} {T ty T' : TypeId} {x y : Operand} {pos : String} {aft : Array Edge} {gd : Option (Nat × Bool)}
theorem s_quo16 {b : UInt8} (hx : ev x = some (.c (.v (.int .u8 (b.toNat : Int))))) (hy : ev y = some (.c (.v (.int .u8 16)))) : Still P ⟨d, .binOp .quo T x y T', ty, pos, aft, gd⟩ ev h (.c (.v (.int .u8 ((b.toNat / 16 : Nat) : Int)))) :=
  s_quo hx hy (by decide) (by
    have := b.toNat_lt
    rw [qu8 (by omega) (by omega) (by omega)]
    omega)
theorem s_rem16 {b : UInt8} (hx : ev x = some (.c (.v (.int .u8 (b.toNat : Int))))) (hy : ev y = some (.c (.v (.int .u8 16)))) : Still P ⟨d, .binOp .rem T x y T', ty, pos, aft, gd⟩ ev h (.c (.v (.int .u8 ((b.toNat % 16 : Nat) : Int)))) :=
  s_rem hx hy (by decide) (by
    rw [r64 (by omega)]
    omega)
theorem hex_cut (a : Nat) (h : a < 16) : (⟨#[48, 49, 50, 51, 52, 53, 54, 55, 56, 57, 97, 98, 99, 100, 101, 102]⟩ : ByteArray).extract a (a + 1) = ⟨[hx a].toArray⟩ := by
  have : ∀ a : Fin 16, (⟨#[48, 49, 50, 51, 52, 53, 54, 55, 56, 57, 97, 98, 99, 100, 101, 102]⟩ : ByteArray).extract a.val (a.val + 1) = ⟨[hx a.val].toArray⟩ := by decide
  exact this ⟨a, h⟩
theorem s_slHex {a : Nat} {e : TyE} {lo hi : Operand} (ha : a < 16) (tb : TabOk P tab) (hT : tyLook tab T = some e) (hk : e.kind = .str) (hlo : ev lo = some (.c (.v (.int .u8 (a : Int))))) (hhi : ev hi = some (.c (.v (.int .u8 ((a : Int) + 1))))) (hX : ev x = some (.c (.v (.string ⟨#[48, 49, 50, 51, 52, 53, 54, 55, 56, 57, 97, 98, 99, 100, 101, 102]⟩)))) : Still P ⟨d, .slice T x (some lo) (some hi) none, ty, pos, aft, gd⟩ ev h (.c (.v (.string ⟨[hx a].toArray⟩))) := by
  have := s_slStr (P := P) (h := h) (d := d) (ty := ty) (pos := pos) (aft := aft) (gd := gd) (l := a) (r := a + 1) tb hT hk hX (Bd.yes hlo rfl) (Bd.yes hhi (by omega)) (by omega) (by show a + 1 ≤ 16; omega)
  rwa [hex_cut a ha] at this
theorem s_catL {l m : List UInt8} (hx : ev x = some (.c (.v (.string ⟨l.toArray⟩)))) (hy : ev y = some (.c (.v (.string ⟨m.toArray⟩)))) (hl : l.length + m.length ≤ 9223372036854775807) : Still P ⟨d, .binOp .add T x y T', ty, pos, aft, gd⟩ ev h (.c (.v (.string ⟨(l ++ m).toArray⟩))) :=
  s_cat hx hy (by show l.toArray.size + m.toArray.size ≤ _; simpa using hl) (by
    apply ByteArray.ext
    rw [ByteArray.data_append]
    simp)
end
theorem fmt_next (l : List UInt8) (i : Nat) (h : i < l.length) : fmt (l.take i) ++ [hx ((l.getD i 0).toNat / 16)] ++ [hx ((l.getD i 0).toNat % 16)] = fmt (l.take (i + 1)) := by
  rw [List.take_add_one, fmt, fmt, List.flatMap_append, List.getElem?_eq_getElem h]
  simp [List.getD, List.getElem?_eq_getElem h]
attribute [local irreducible] Still Adds AWL AW Drw AC AWR Weak Frz Src RetK Out InK
set_option maxHeartbeats 4000000 in
theorem rformat_ok (l : List UInt8) (hl : l.length = 32) : AC Try.prog 37 [.agg (u8c l)] (.c (.v (.string ⟨(fmt l).toArray⟩))) [] 0 := by
  have hul : (u8c l).length = 32 := by rw [u8c_length, hl]
  refine ac_enter tabOk (sz := 31) Try.func37 rfl (by rw [Try.ntmps37]; rfl) ?_
  repeat' (first
    | ((with_reducible refine aw_seqk ?_); intro K hK hX)
    | ((with_reducible refine isC_reg ?_); refine aw_prune [0, 1, 2, 3, 4, 5, 6] rfl rfl ?_; with_reducible refine aw_region ?_)
    | ((with_reducible refine isC_draw ?_); refine aw_prune [0, 1, 2, 3, 4, 5, 6] rfl rfl ?_; refine aw_drwF [] ?_)
    | refine stA ?_
    | refine stD ?_
    | (refine hK _ _ _ _ ?_; clear hK hX K)
    | (refine hX _ _ _ _ _ (by simp) ?_; clear hK hX K))
  refine aw_loopk 1 (fun i : Nat => [(1, .ref 0 0), (3, .c (.v (.string ⟨(fmt (l.take i)).toArray⟩))), (4, .c (iv i))]) (fun i => [(0, .row 35 (u8c l))]) [] (fun i => i ≤ 32) (fun i => 32 - i) 0 (by omega) weakA ?_
  intro i hi K hK hX
  have hlen : (fmt (l.take i)).length = 2 * i := by rw [fmt_length, List.length_take]; omega
  have hb : (l.getD i 0).toNat < 256 := UInt8.toNat_lt _
  by_cases hlt : i < 32
  · have n1 : (l.getD i 0).toNat / 16 < 16 := by omega
    have n2 : (l.getD i 0).toNat % 16 < 16 := by omega
    repeat' (first
    | ((with_reducible refine aw_seqk ?_); intro K hK hX)
    | ((with_reducible refine isC_reg ?_); refine aw_prune [0, 1, 2, 3, 4, 5, 6] rfl rfl ?_; with_reducible refine aw_region ?_)
    | ((with_reducible refine isC_draw ?_); refine aw_prune [0, 1, 2, 3, 4, 5, 6] rfl rfl ?_; refine aw_drwF [] ?_)
    | ((first | ((with_reducible refine isA_any ?_); refine xA ?_) | ((with_reducible refine isDk_any ?_); refine xD ?_)); (first | ((with_reducible refine e_bin ?_); (first | refine ex_i (s_quo16 rfl rfl) ?_ | refine ex_i (s_rem16 rfl rfl) ?_ | refine ex_i (s_catL rfl rfl (by simp [hlen]; omega)) ?_)) | ((with_reducible refine e_slice ?_); (first | refine ex_i (s_slHex n1 tabOk rfl rfl rfl rfl rfl) ?_ | refine ex_i (s_slHex n2 tabOk rfl rfl rfl rfl rfl) ?_)) | ((with_reducible refine e_load ?_); (first | refine ex_i (s_load1 tabOk rfl rfl rfl rfl (by exact u8_at0 l i (by omega))) ?_ | refine ex_i (s_load1r tabOk rfl rfl rfl rfl (by exact u8_at0 l i (by omega))) ?_ | refine ex_i (s_load1i tabOk rfl rfl rfl (by exact u8_at0 l i (by omega))) ?_)) | ((with_reducible refine e_ix ?_); (first | refine ex_i (s_ixV1 tabOk rfl rfl (by first | with_reducible exact cast_self _ | with_reducible exact cast_lit _ | exact nt (by omega) | rfl) rfl rfl rfl rfl rfl (by first | exact Nat.le_of_ble_eq_true rfl | omega | (simp; omega)) (by exact u8_at0 l i (by omega))) ?_ | refine ex_i (s_ixStr tabOk rfl rfl (by first | with_reducible exact cast_self _ | with_reducible exact cast_lit _ | exact nt (by omega) | rfl) rfl rfl (by exact u8_at0 l i (by omega))) ?_))))
    | refine stA ?_
    | refine stD ?_
    | (refine hK _ _ _ _ ?_; clear hK hX K)
    | (refine hX _ _ _ _ _ (by simp) ?_; clear hK hX K))
    rw [fmt_next l i (by omega)]
    exact ⟨i + 1, by omega, by omega, weakA⟩
  · obtain rfl : i = 32 := by omega
    repeat' (first
    | ((with_reducible refine aw_seqk ?_); intro K hK hX)
    | ((with_reducible refine isC_reg ?_); refine aw_prune [0, 1, 2, 3, 4, 5, 6] rfl rfl ?_; with_reducible refine aw_region ?_)
    | ((with_reducible refine isC_draw ?_); refine aw_prune [0, 1, 2, 3, 4, 5, 6] rfl rfl ?_; refine aw_drwF [] ?_)
    | refine stA ?_
    | refine stD ?_
    | (refine hK _ _ _ _ ?_; clear hK hX K)
    | (refine hX _ _ _ _ _ (by simp) ?_; clear hK hX K))
    rw [List.take_of_length_le (by omega)]
    refine retK_mk (by first | exact .inl rfl | exact .inr rfl) (by exact trivial) rfl (ResL.one (ResA.tmp rfl)) (by first | exact out_c (by first | exact frz_c cv_rfl | exact frz_c cv_nil | exact frz_ownW rfl rfl (by first | rfl | with_reducible assumption | (simp <;> fail) | omega | (simp; omega) | assumption) | exact frz_eq (frz_c cv_rfl) (by first | rfl | (simp <;> fail) | fail)) | exact out_own rfl rfl)
set_option maxHeartbeats 4000000 in
theorem rdigit_ok (c : UInt8) : AC Try.prog 77 [.v (.int .u8 (c.toNat : Int))] (.c (iv (dgi c))) [] 0 := by
  have hb : c.toNat < 256 := UInt8.toNat_lt _
  by_cases h1 : 48 ≤ c.toNat
  · have g1 : (decide ((48 : Int) ≤ (c.toNat : Int)) == true) = true := by rw [decide_eq_true (by omega)]; rfl
    by_cases h2 : c.toNat ≤ 57
    · have e : dgi c = (c.toNat : Int) - 48 := by unfold dgi dg; rw [if_pos ⟨h1, h2⟩]; simp only; omega
      rw [e]
      refine ac_enter tabOk (sz := 22) Try.func77 rfl (by rw [Try.ntmps77]; rfl) ?_
      repeat' (first
    | ((with_reducible refine aw_seqk ?_); intro K hK hX)
    | ((with_reducible refine isC_reg ?_); refine aw_prune [0, 2] rfl rfl ?_; with_reducible refine aw_region ?_)
    | refine stA ?_
    | (refine hK _ _ _ _ ?_; clear hK hX K)
    | (refine hX _ _ _ _ _ (by simp) ?_; clear hK hX K))
      refine retK_mk (by first | exact .inl rfl | exact .inr rfl) (by exact trivial) rfl (ResL.one (ResA.tmp rfl)) (by first | exact out_c (by first | exact frz_c cv_rfl | exact frz_c cv_nil | exact frz_ownW rfl rfl (by first | rfl | with_reducible assumption | (simp <;> fail) | omega | (simp; omega) | assumption) | exact frz_eq (frz_c cv_rfl) (by first | rfl | (simp <;> fail) | fail)) | exact out_own rfl rfl)
    · by_cases h3 : 97 ≤ c.toNat
      · have g3 : (decide ((97 : Int) ≤ (c.toNat : Int)) == true) = true := by rw [decide_eq_true (by omega)]; rfl
        by_cases h4 : c.toNat ≤ 102
        · have e : dgi c = (c.toNat : Int) - 97 + 10 := by unfold dgi dg; rw [if_neg (by omega), if_pos ⟨h3, h4⟩]; simp only; omega
          rw [e]
          refine ac_enter tabOk (sz := 22) Try.func77 rfl (by rw [Try.ntmps77]; rfl) ?_
          repeat' (first
    | ((with_reducible refine aw_seqk ?_); intro K hK hX)
    | ((with_reducible refine isC_reg ?_); refine aw_prune [0, 2] rfl rfl ?_; with_reducible refine aw_region ?_)
    | refine stA ?_
    | (refine hK _ _ _ _ ?_; clear hK hX K)
    | (refine hX _ _ _ _ _ (by simp) ?_; clear hK hX K))
          refine retK_mk (by first | exact .inl rfl | exact .inr rfl) (by exact trivial) rfl (ResL.one (ResA.tmp rfl)) (by first | exact out_c (by first | exact frz_c cv_rfl | exact frz_c cv_nil | exact frz_ownW rfl rfl (by first | rfl | with_reducible assumption | (simp <;> fail) | omega | (simp; omega) | assumption) | exact frz_eq (frz_c cv_rfl) (by first | rfl | (simp <;> fail) | fail)) | exact out_own rfl rfl)
        · have e : dgi c = -1 := by unfold dgi dg; rw [if_neg (by omega), if_neg (by omega)]
          rw [e]
          refine ac_enter tabOk (sz := 22) Try.func77 rfl (by rw [Try.ntmps77]; rfl) ?_
          repeat' (first
    | ((with_reducible refine aw_seqk ?_); intro K hK hX)
    | ((with_reducible refine isC_reg ?_); refine aw_prune [0, 2] rfl rfl ?_; with_reducible refine aw_region ?_)
    | refine stA ?_
    | (refine hK _ _ _ _ ?_; clear hK hX K)
    | (refine hX _ _ _ _ _ (by simp) ?_; clear hK hX K))
          refine retK_mk (by first | exact .inl rfl | exact .inr rfl) (by exact trivial) rfl (ResL.one (ResA.tmp rfl)) (by first | exact out_c (by first | exact frz_c cv_rfl | exact frz_c cv_nil | exact frz_ownW rfl rfl (by first | rfl | with_reducible assumption | (simp <;> fail) | omega | (simp; omega) | assumption) | exact frz_eq (frz_c cv_rfl) (by first | rfl | (simp <;> fail) | fail)) | exact out_own rfl rfl)
      · have g3 : (decide ((97 : Int) ≤ (c.toNat : Int)) == true) = false := by rw [decide_eq_false (by omega)]; rfl
        have e : dgi c = -1 := by unfold dgi dg; rw [if_neg (by omega), if_neg (by omega)]
        rw [e]
        refine ac_enter tabOk (sz := 22) Try.func77 rfl (by rw [Try.ntmps77]; rfl) ?_
        repeat' (first
    | ((with_reducible refine aw_seqk ?_); intro K hK hX)
    | ((with_reducible refine isC_reg ?_); refine aw_prune [0, 2] rfl rfl ?_; with_reducible refine aw_region ?_)
    | refine stA ?_
    | (refine hK _ _ _ _ ?_; clear hK hX K)
    | (refine hX _ _ _ _ _ (by simp) ?_; clear hK hX K))
        refine retK_mk (by first | exact .inl rfl | exact .inr rfl) (by exact trivial) rfl (ResL.one (ResA.tmp rfl)) (by first | exact out_c (by first | exact frz_c cv_rfl | exact frz_c cv_nil | exact frz_ownW rfl rfl (by first | rfl | with_reducible assumption | (simp <;> fail) | omega | (simp; omega) | assumption) | exact frz_eq (frz_c cv_rfl) (by first | rfl | (simp <;> fail) | fail)) | exact out_own rfl rfl)
  · have g1 : (decide ((48 : Int) ≤ (c.toNat : Int)) == true) = false := by rw [decide_eq_false (by omega)]; rfl
    have g3 : (decide ((97 : Int) ≤ (c.toNat : Int)) == true) = false := by rw [decide_eq_false (by omega)]; rfl
    have e : dgi c = -1 := by unfold dgi dg; rw [if_neg (by omega), if_neg (by omega)]
    rw [e]
    refine ac_enter tabOk (sz := 22) Try.func77 rfl (by rw [Try.ntmps77]; rfl) ?_
    repeat' (first
    | ((with_reducible refine aw_seqk ?_); intro K hK hX)
    | ((with_reducible refine isC_reg ?_); refine aw_prune [0, 2] rfl rfl ?_; with_reducible refine aw_region ?_)
    | refine stA ?_
    | (refine hK _ _ _ _ ?_; clear hK hX K)
    | (refine hX _ _ _ _ _ (by simp) ?_; clear hK hX K))
    refine retK_mk (by first | exact .inl rfl | exact .inr rfl) (by exact trivial) rfl (ResL.one (ResA.tmp rfl)) (by first | exact out_c (by first | exact frz_c cv_rfl | exact frz_c cv_nil | exact frz_ownW rfl rfl (by first | rfl | with_reducible assumption | (simp <;> fail) | omega | (simp; omega) | assumption) | exact frz_eq (frz_c cv_rfl) (by first | rfl | (simp <;> fail) | fail)) | exact out_own rfl rfl)
/-- The row after i digits. -/
def rpr (s : ByteArray) (i : Nat) : List UInt8 := if i % 2 = 0 then flg (pb s) 32 (i / 2) else (flg (pb s) 32 (i / 2)).set (i / 2) (UInt8.ofNat (dv s (2 * (i / 2))))
theorem flg_at (f : Nat → UInt8) (n j : Nat) (h : j < n) : (flg f n j).getD j 0 = 0 := by
  have h0 : 0 < n - j := by omega
  unfold flg List.getD
  rw [List.getElem?_append_right (by simp)]
  simp [h0]
theorem rpr_even (s : ByteArray) (j : Nat) : rpr s (2 * j) = flg (pb s) 32 j := by
  unfold rpr
  rw [if_pos (by omega), show 2 * j / 2 = j by omega]
theorem rpr_odd (s : ByteArray) (j : Nat) : rpr s (2 * j + 1) = (flg (pb s) 32 j).set j (UInt8.ofNat (dv s (2 * j))) := by
  unfold rpr
  rw [if_neg (by omega), show (2 * j + 1) / 2 = j by omega]
theorem even_at (s : ByteArray) (j : Nat) (h : j < 32) : (u8c (flg (pb s) 32 j))[0 + j * 1]? = some (.v (.int .u8 0)) := by
  rw [u8_at0 _ _ (by rw [flg_length _ _ _ (by omega)]; exact h), flg_at _ _ _ h]
  rfl
theorem odd_at (s : ByteArray) (j : Nat) (h : j < 32) : (u8c ((flg (pb s) 32 j).set j (UInt8.ofNat (dv s (2 * j)))))[0 + j * 1]? = some (.v (.int .u8 ((dv s (2 * j) : Nat) : Int))) := by
  have hl : (flg (pb s) 32 j).length = 32 := flg_length _ _ _ (by omega)
  have := dg_lt (sb s (2 * j))
  rw [u8_at0 _ _ (by rw [List.length_set, hl]; exact h)]
  have e : ((flg (pb s) 32 j).set j (UInt8.ofNat (dv s (2 * j)))).getD j 0 = UInt8.ofNat (dv s (2 * j)) := by
    simp [List.getD, hl, h]
  rw [e]
  congr 4
  simp only [UInt8.toNat_ofNat', dv]
  omega
theorem even_set (s : ByteArray) (j : Nat) (h : j < 32) : (u8c (flg (pb s) 32 j)).set (0 + j * 1) (.v (.int .u8 ((dv s (2 * j) : Nat) : Int))) = u8c (rpr s (2 * j + 1)) := by
  have := dg_lt (sb s (2 * j))
  have e : ((dv s (2 * j) : Nat) : Int) = ((UInt8.ofNat (dv s (2 * j))).toNat : Int) := by
    simp only [UInt8.toNat_ofNat', dv]
    omega
  rw [e, u8c_set, rpr_odd, Nat.zero_add, Nat.mul_one]
theorem odd_set (s : ByteArray) (j : Nat) (h : j < 32) : (u8c ((flg (pb s) 32 j).set j (UInt8.ofNat (dv s (2 * j))))).set (0 + j * 1) (.v (.int .u8 ((dv s (2 * j) * 16 + dv s (2 * j + 1) : Nat) : Int))) = u8c (rpr s (2 * (j + 1))) := by
  rw [← pb_nat, u8c_set, Nat.zero_add, Nat.mul_one, List.set_set, rpr_even]
  have := flg_set (pb s) 32 j h
  rw [u8c_set, Nat.zero_add, Nat.mul_one] at this
  exact this
set_option maxHeartbeats 4000000 in
theorem rparse_ok (s : ByteArray) : AC Try.prog 38 [.v (.string s)] (.tup [.c (.agg (u8c (pval s))), .c (iv (perr s))]) [] 0 := by
  by_cases hn : s.size = 64
  · refine ac_enter tabOk (sz := 35) Try.func38 rfl (by rw [Try.ntmps38]; rfl) ?_
    repeat' (first
    | ((with_reducible refine aw_seqk ?_); intro K hK hX)
    | ((with_reducible refine isC_reg ?_); refine aw_prune [0, 2, 3, 4, 5] rfl rfl ?_; with_reducible refine aw_region ?_)
    | ((with_reducible refine isC_draw ?_); refine aw_prune [0, 2, 3, 4, 5] rfl rfl ?_; refine aw_drwF [] ?_)
    | refine stA ?_
    | refine stD ?_
    | (refine hK _ _ _ _ ?_; clear hK hX K)
    | (refine hX _ _ _ _ _ (by simp) ?_; clear hK hX K))
    refine aw_loopk 2 (fun i : Nat => [(0, .c (.v (.string s))), (2, .ref 0 0), (4, .ref 1 0), (5, .c (iv i))]) (fun i => [(0, .row 35 z32), (1, .row 35 (u8c (rpr s i)))]) _ (fun i => i ≤ 64 ∧ ∀ j, j < i → (dg (sb s j)).isSome = true) (fun i => 64 - i) 0 ⟨by omega, fun j hj => by omega⟩ weakA ?_
    rintro i ⟨hi, hd⟩ K hK hX
    by_cases hlt : i < 64
    · have hall : ∀ (h : (dg (sb s i)).isSome = true), ∀ k, k < i + 1 → (dg (sb s k)).isSome = true := fun h k hk => by
        rcases Nat.lt_or_ge k i with h1 | h1
        · exact hd k h1
        · rw [show k = i by omega]; exact h
      by_cases d1 : (dg (sb s i)).isSome = true
      · have hc := rdigit_ok (sb s i)
        rw [dgi_some _ d1] at hc
        have n1 := dg_lt (sb s i)
        have hv : (dg (sb s i)).getD 0 = dv s i := rfl
        rw [hv] at hc n1
        rcases Nat.mod_two_eq_zero_or_one i with hp | hp
        · obtain ⟨j, rfl⟩ : ∃ j, i = 2 * j := ⟨i / 2, by omega⟩
          have hlen : (u8c (flg (pb s) 32 j)).length = 32 := by rw [u8c_length, flg_length _ _ _ (by omega)]
          rw [rpr_even]
          repeat' (first
    | ((with_reducible refine aw_seqk ?_); intro K hK hX)
    | ((with_reducible refine isC_reg ?_); refine aw_prune [0, 2, 3, 4, 5] rfl rfl ?_; with_reducible refine aw_region ?_)
    | ((with_reducible refine isC_draw ?_); refine aw_prune [0, 2, 3, 4, 5] rfl rfl ?_; refine aw_drwF [] ?_)
    | ((first | with_reducible refine isA_call ?_ | with_reducible refine isD_call ?_); (first | refine zA ?_ | refine zN ?_ | refine zD ?_); (first | refine c0 (hc) ?_))
    | ((first | ((with_reducible refine isA_any ?_); refine xA ?_) | ((with_reducible refine isDk_any ?_); refine xD ?_)); (first | ((with_reducible refine e_ixA ?_); (first | refine ex_i (s_ixA tabOk rfl rfl (show ((2 * j : Nat) : Int) / 2 = (j : Int) by omega) rfl rfl rfl (by omega)) ?_)) | ((with_reducible refine e_bin ?_); (first | refine ex_i (s_arit rfl rfl rfl (show IntKind.u8.wrap (0 + (dv s (2 * j) : Int)) = (dv s (2 * j) : Int) by rw [wu8 (by omega) (by omega)]; omega)) ?_)) | ((with_reducible refine e_load ?_); (first | refine ex_i (s_load1 tabOk rfl rfl rfl rfl (by first | exact sb_at s _ (by omega) | exact even_at s j (by omega))) ?_ | refine ex_i (s_load1r tabOk rfl rfl rfl rfl (by first | exact sb_at s _ (by omega) | exact even_at s j (by omega))) ?_ | refine ex_i (s_load1i tabOk rfl rfl rfl (by first | exact sb_at s _ (by omega) | exact even_at s j (by omega))) ?_)) | ((with_reducible refine e_ix ?_); (first | refine ex_i (s_ixV1 tabOk rfl rfl (by first | with_reducible exact cast_self _ | with_reducible exact cast_lit _ | exact nt (by omega) | rfl) rfl rfl rfl rfl rfl (by first | exact Nat.le_of_ble_eq_true rfl | omega | (simp; omega)) (by first | exact sb_at s _ (by omega) | exact even_at s j (by omega))) ?_ | refine ex_i (s_ixStr tabOk rfl rfl (by first | with_reducible exact cast_self _ | with_reducible exact cast_lit _ | exact nt (by omega) | rfl) rfl rfl (by first | exact sb_at s _ (by omega) | exact even_at s j (by omega))) ?_))))
    | ((with_reducible refine isA_store ?_); (refine awl_store1r tabOk g_none rfl rfl rfl rfl rfl rfl (by first | omega | exact Nat.le_of_ble_eq_true rfl | omega | (simp; omega)) ?_))
    | refine stA ?_
    | refine stD ?_
    | (refine hK _ _ _ _ ?_; clear hK hX K)
    | (refine hX _ _ _ _ _ (by simp) ?_; clear hK hX K))
          exact ⟨2 * j + 1, ⟨by omega, hall d1⟩, by omega, (by refine weak_mk rfl ?_ ?_ rfl <;> (repeat' (first | exact weakE_nil | exact weakH_nil | refine weakE_cons rfl (by first | rfl | (exact congrArg (AObj.row 35) (even_set s j (by omega))) | exact own_eq rfl rfl (by omega) | exact int_eq (by omega) | (simp <;> fail) | (congr 4; omega) | (congr 3; omega) | (congr 2; omega)) rfl ?_ | refine weakH_cons rfl (by first | rfl | (exact congrArg (AObj.row 35) (even_set s j (by omega))) | exact own_eq rfl rfl (by omega) | exact int_eq (by omega) | (simp <;> fail) | (congr 4; omega) | (congr 3; omega) | (congr 2; omega)) rfl ?_)))⟩
        · obtain ⟨j, rfl⟩ : ∃ j, i = 2 * j + 1 := ⟨i / 2, by omega⟩
          have n2 := dg_lt (sb s (2 * j))
          have n3 : dv s (2 * j) < 16 := n2
          have hlen : (u8c ((flg (pb s) 32 j).set j (UInt8.ofNat (dv s (2 * j))))).length = 32 := by rw [u8c_length, List.length_set, flg_length _ _ _ (by omega)]
          rw [rpr_odd]
          repeat' (first
    | ((with_reducible refine aw_seqk ?_); intro K hK hX)
    | ((with_reducible refine isC_reg ?_); refine aw_prune [0, 2, 3, 4, 5] rfl rfl ?_; with_reducible refine aw_region ?_)
    | ((with_reducible refine isC_draw ?_); refine aw_prune [0, 2, 3, 4, 5] rfl rfl ?_; refine aw_drwF [] ?_)
    | ((first | with_reducible refine isA_call ?_ | with_reducible refine isD_call ?_); (first | refine zA ?_ | refine zN ?_ | refine zD ?_); (first | refine c0 (hc) ?_))
    | ((first | ((with_reducible refine isA_any ?_); refine xA ?_) | ((with_reducible refine isDk_any ?_); refine xD ?_)); (first | ((with_reducible refine e_ixA ?_); (first | refine ex_i (s_ixA tabOk rfl rfl (show ((2 * j + 1 : Nat) : Int) / 2 = (j : Int) by omega) rfl rfl rfl (by omega)) ?_)) | ((with_reducible refine e_bin ?_); (first | refine ex_i (s_arit rfl rfl rfl (show IntKind.u8.wrap ((dv s (2 * j) : Int) * 16 + (dv s (2 * j + 1) : Int)) = ((dv s (2 * j) * 16 + dv s (2 * j + 1) : Nat) : Int) by rw [wu8 (by omega) (by omega)]; omega)) ?_)) | ((with_reducible refine e_load ?_); (first | refine ex_i (s_load1 tabOk rfl rfl rfl rfl (by first | exact sb_at s _ (by omega) | exact odd_at s j (by omega))) ?_ | refine ex_i (s_load1r tabOk rfl rfl rfl rfl (by first | exact sb_at s _ (by omega) | exact odd_at s j (by omega))) ?_ | refine ex_i (s_load1i tabOk rfl rfl rfl (by first | exact sb_at s _ (by omega) | exact odd_at s j (by omega))) ?_)) | ((with_reducible refine e_ix ?_); (first | refine ex_i (s_ixV1 tabOk rfl rfl (by first | with_reducible exact cast_self _ | with_reducible exact cast_lit _ | exact nt (by omega) | rfl) rfl rfl rfl rfl rfl (by first | exact Nat.le_of_ble_eq_true rfl | omega | (simp; omega)) (by first | exact sb_at s _ (by omega) | exact odd_at s j (by omega))) ?_ | refine ex_i (s_ixStr tabOk rfl rfl (by first | with_reducible exact cast_self _ | with_reducible exact cast_lit _ | exact nt (by omega) | rfl) rfl rfl (by first | exact sb_at s _ (by omega) | exact odd_at s j (by omega))) ?_))))
    | ((with_reducible refine isA_store ?_); (refine awl_store1r tabOk g_none rfl rfl rfl rfl rfl rfl (by first | omega | exact Nat.le_of_ble_eq_true rfl | omega | (simp; omega)) ?_))
    | refine stA ?_
    | refine stD ?_
    | (refine hK _ _ _ _ ?_; clear hK hX K)
    | (refine hX _ _ _ _ _ (by simp) ?_; clear hK hX K))
          exact ⟨2 * (j + 1), ⟨by omega, hall d1⟩, by omega, (by refine weak_mk rfl ?_ ?_ rfl <;> (repeat' (first | exact weakE_nil | exact weakH_nil | refine weakE_cons rfl (by first | rfl | (exact congrArg (AObj.row 35) (odd_set s j (by omega))) | exact own_eq rfl rfl (by omega) | exact int_eq (by omega) | (simp <;> fail) | (congr 4; omega) | (congr 3; omega) | (congr 2; omega)) rfl ?_ | refine weakH_cons rfl (by first | rfl | (exact congrArg (AObj.row 35) (odd_set s j (by omega))) | exact own_eq rfl rfl (by omega) | exact int_eq (by omega) | (simp <;> fail) | (congr 4; omega) | (congr 3; omega) | (congr 2; omega)) rfl ?_)))⟩
      · have hc := rdigit_ok (sb s i)
        rw [dgi_none _ d1] at hc
        have hg : ¬ good s := fun h => d1 (h.2 _ (by omega))
        repeat' (first
    | ((with_reducible refine aw_seqk ?_); intro K hK hX)
    | ((with_reducible refine isC_reg ?_); refine aw_prune [0, 2, 3, 4, 5] rfl rfl ?_; with_reducible refine aw_region ?_)
    | ((with_reducible refine isC_draw ?_); refine aw_prune [0, 2, 3, 4, 5] rfl rfl ?_; refine aw_drwF [] ?_)
    | ((first | with_reducible refine isA_call ?_ | with_reducible refine isD_call ?_); (first | refine zA ?_ | refine zN ?_ | refine zD ?_); (first | refine c0 (hc) ?_))
    | ((first | ((with_reducible refine isA_any ?_); refine xA ?_) | ((with_reducible refine isDk_any ?_); refine xD ?_)); (first | ((with_reducible refine e_load ?_); (first | refine ex_i (s_load1 tabOk rfl rfl rfl rfl (by exact sb_at s _ (by omega))) ?_ | refine ex_i (s_load1r tabOk rfl rfl rfl rfl (by exact sb_at s _ (by omega))) ?_ | refine ex_i (s_load1i tabOk rfl rfl rfl (by exact sb_at s _ (by omega))) ?_)) | ((with_reducible refine e_ix ?_); (first | refine ex_i (s_ixV1 tabOk rfl rfl (by first | with_reducible exact cast_self _ | with_reducible exact cast_lit _ | exact nt (by omega) | rfl) rfl rfl rfl rfl rfl (by first | exact Nat.le_of_ble_eq_true rfl | omega | (simp; omega)) (by exact sb_at s _ (by omega))) ?_ | refine ex_i (s_ixStr tabOk rfl rfl (by first | with_reducible exact cast_self _ | with_reducible exact cast_lit _ | exact nt (by omega) | rfl) rfl rfl (by exact sb_at s _ (by omega))) ?_))))
    | refine stA ?_
    | refine stD ?_
    | (refine hK _ _ _ _ ?_; clear hK hX K)
    | (refine hX _ _ _ _ _ (by simp) ?_; clear hK hX K))
        rw [pval_bad s hg, perr_bad s hg]
        refine retK_mk (by first | exact .inl rfl | exact .inr rfl) (by exact trivial) rfl (ResL.two (by first | exact ResA.one rfl rfl rfl rfl rfl | exact ResA.agg rfl rfl rfl rfl rfl (by first | exact IsAgg.closed rfl rfl | exact IsAgg.mixed _) | exact ResA.aggr rfl rfl rfl rfl (by first | rfl | with_reducible assumption | (simp <;> fail) | omega | (simp; omega) | assumption)) (ResA.tmp rfl)) (out_t (frzl_cons (by first | exact frz_c cv_rfl | exact frz_c cv_nil | exact frz_ownW rfl rfl (by first | rfl | with_reducible assumption | (simp <;> fail) | omega | (simp; omega) | assumption) | exact frz_eq (frz_c cv_rfl) (by first | rfl | (simp <;> fail) | fail)) (frzl_cons (by first | exact frz_c cv_rfl | exact frz_c cv_nil | exact frz_ownW rfl rfl (by first | rfl | with_reducible assumption | (simp <;> fail) | omega | (simp; omega) | assumption) | exact frz_eq (frz_c cv_rfl) (by first | rfl | (simp <;> fail) | fail)) frzl_nil)))
    · obtain rfl : i = 64 := by omega
      have hg : good s := ⟨hn, hd⟩
      have hlen : (u8c (rpr s 64)).length = 32 := by rw [show 64 = 2 * 32 from rfl, rpr_even, u8c_length, flg_length _ _ _ (by omega)]
      repeat' (first
    | ((with_reducible refine aw_seqk ?_); intro K hK hX)
    | ((with_reducible refine isC_reg ?_); refine aw_prune [0, 2, 3, 4, 5] rfl rfl ?_; with_reducible refine aw_region ?_)
    | ((with_reducible refine isC_draw ?_); refine aw_prune [0, 2, 3, 4, 5] rfl rfl ?_; refine aw_drwF [] ?_)
    | refine stA ?_
    | refine stD ?_
    | (refine hK _ _ _ _ ?_; clear hK hX K)
    | (refine hX _ _ _ _ _ (by simp) ?_; clear hK hX K))
      rw [pval_good s hg, perr_good s hg, ← flg_full, ← rpr_even]
      refine retK_mk (by first | exact .inl rfl | exact .inr rfl) (by exact trivial) rfl (ResL.two (by first | exact ResA.one rfl rfl rfl rfl rfl | exact ResA.agg rfl rfl rfl rfl rfl (by first | exact IsAgg.closed rfl rfl | exact IsAgg.mixed _) | exact ResA.aggr rfl rfl rfl rfl (by first | rfl | with_reducible assumption | (simp <;> fail) | omega | (simp; omega) | assumption)) (ResA.tmp rfl)) (out_t (frzl_cons (by first | exact frz_c cv_rfl | exact frz_c cv_nil | exact frz_ownW rfl rfl (by first | rfl | with_reducible assumption | (simp <;> fail) | omega | (simp; omega) | assumption) | exact frz_eq (frz_c cv_rfl) (by first | rfl | (simp <;> fail) | fail)) (frzl_cons (by first | exact frz_c cv_rfl | exact frz_c cv_nil | exact frz_ownW rfl rfl (by first | rfl | with_reducible assumption | (simp <;> fail) | omega | (simp; omega) | assumption) | exact frz_eq (frz_c cv_rfl) (by first | rfl | (simp <;> fail) | fail)) frzl_nil)))
  · have hg : ¬ good s := fun h => hn h.1
    have p1 : decide ((s.size : Int) ≠ 64) = true := decide_eq_true (by omega)
    rw [pval_bad s hg, perr_bad s hg]
    refine ac_enter tabOk (sz := 35) Try.func38 rfl (by rw [Try.ntmps38]; rfl) ?_
    repeat' (first
    | ((with_reducible refine aw_seqk ?_); intro K hK hX)
    | ((with_reducible refine isC_reg ?_); refine aw_prune [0, 2, 3, 4, 5] rfl rfl ?_; with_reducible refine aw_region ?_)
    | ((with_reducible refine isC_draw ?_); refine aw_prune [0, 2, 3, 4, 5] rfl rfl ?_; refine aw_drwF [] ?_)
    | refine stA ?_
    | refine stD ?_
    | (refine hK _ _ _ _ ?_; clear hK hX K)
    | (refine hX _ _ _ _ _ (by simp) ?_; clear hK hX K))
    refine retK_mk (by first | exact .inl rfl | exact .inr rfl) (by exact trivial) rfl (ResL.two (by first | exact ResA.one rfl rfl rfl rfl rfl | exact ResA.agg rfl rfl rfl rfl rfl (by first | exact IsAgg.closed rfl rfl | exact IsAgg.mixed _) | exact ResA.aggr rfl rfl rfl rfl (by first | rfl | with_reducible assumption | (simp <;> fail) | omega | (simp; omega) | assumption)) (ResA.tmp rfl)) (out_t (frzl_cons (by first | exact frz_c cv_rfl | exact frz_c cv_nil | exact frz_ownW rfl rfl (by first | rfl | with_reducible assumption | (simp <;> fail) | omega | (simp; omega) | assumption) | exact frz_eq (frz_c cv_rfl) (by first | rfl | (simp <;> fail) | fail)) (frzl_cons (by first | exact frz_c cv_rfl | exact frz_c cv_nil | exact frz_ownW rfl rfl (by first | rfl | with_reducible assumption | (simp <;> fail) | omega | (simp; omega) | assumption) | exact frz_eq (frz_c cv_rfl) (by first | rfl | (simp <;> fail) | fail)) frzl_nil)))
end Go.Proofs.Ytgofigkhdjjlmaa
/-
  How the arguments of a row read as closed values. For every program.
-/
set_option linter.unusedVariables false
set_option linter.unusedSimpArgs false
namespace Go.Av
open Go Go.RowKit

section
variable {H : Type} {enc : TypeId × Value → H} {P : Program} {W : World} {base : Nat} {sp : Nat → Bool} {held : Bool}
abbrev RC (W : World) (xs : List CV) (cs : List Value) : Prop := RepCs (fun _ => True) W xs cs ∧ ∀ u ∈ cs, u.oneCell' = true
/-- Whatever a reader reads at a type reads as closed values of this form. -/
def Opens (enc : TypeId × Value → H) (P : Program) (W : World) (base : Nat) (sp : Nat → Bool) (held : Bool) (t : TypeId) (R : List CV → Prop) : Prop :=
  ∀ fuel cs y, DataW.trod enc P W base sp held fuel t cs = some y → ∃ xs, RC W xs cs ∧ R xs

theorem RC.app {xs ys : List CV} {cs ds : List Value} (h : RC W xs cs) (k : RC W ys ds) : RC W (xs ++ ys) (cs ++ ds) :=
  ⟨h.1.append k.1, fun u hu => (List.mem_append.1 hu).elim (h.2 u) (k.2 u)⟩
theorem op_int {t : TypeId} {k : IntKind} (hu : P.underlying t = some (.int k)) : Opens enc P W base sp held t fun xs => ∃ m, xs = [.v (.int k m)] ∧ (Lit.int k m).wf = true := by
  intro fuel cs y h
  obtain ⟨n, rfl, _, hw⟩ := DataW.trod_int hu h
  exact ⟨[.v (.int k n)], ⟨⟨_, _, rfl, rfl, rfl⟩, by simp [Value.oneCell']⟩, n, rfl, hw⟩
theorem op_bool {t : TypeId} (hu : P.underlying t = some .bool) : Opens enc P W base sp held t fun xs => ∃ m, xs = [.v (.bool m)] := by
  intro fuel cs y h
  obtain ⟨n, rfl, _⟩ := DataW.trod_bool hu h
  exact ⟨[.v (.bool n)], ⟨⟨_, _, rfl, rfl, rfl⟩, by simp [Value.oneCell']⟩, n, rfl⟩
theorem op_str {t : TypeId} (hu : P.underlying t = some .string) : Opens enc P W base sp held t fun xs => ∃ s, xs = [.v (.string s)] ∧ s.size ≤ maxLen := by
  intro fuel cs y h
  obtain ⟨n, rfl, _, hs⟩ := DataW.trod_string hu h
  exact ⟨[.v (.string n)], ⟨⟨_, _, rfl, rfl, rfl⟩, by simp [Value.oneCell']⟩, n, rfl, hs⟩

theorem mapM_some {α β : Type} {f : α → Option β} : ∀ {L : List α} {ys : List β}, L.mapM f = some ys → ∀ x ∈ L, ∃ y, f x = some y
  | [], ys, h, x, hx => by cases hx
  | a :: L, ys, h, x, hx => by
    rw [List.mapM_cons] at h
    simp only [bind, Option.bind_eq_some_iff, pure, Option.some.injEq] at h
    obtain ⟨y, hy, zs, hz, rfl⟩ := h
    rcases List.mem_cons.1 hx with rfl | hx
    · exact ⟨y, hy⟩
    · exact mapM_some hz x hx

theorem rc_blocks {R : List CV → Prop} {s : Nat} : ∀ (n : Nat) {cs : List Value}, cs.length = n * s → (∀ i, i < n → ∃ xs, RC W xs ((cs.drop (i * s)).take s) ∧ R xs) → ∃ ls : List (List CV), ls.length = n ∧ RC W ls.flatten cs ∧ ∀ l ∈ ls, R l ∧ l.length = s
  | 0, cs, hl, _ => by
    have : cs = [] := List.eq_nil_of_length_eq_zero (by simpa using hl)
    subst this
    exact ⟨[], rfl, ⟨rfl, by simp⟩, by simp⟩
  | n + 1, cs, hl, h => by
    rw [Nat.succ_mul] at hl
    obtain ⟨xs, hx, hr⟩ := h 0 (by omega)
    rw [Nat.zero_mul, List.drop_zero] at hx
    obtain ⟨ls, h1, h2, h3⟩ := rc_blocks (R := R) (s := s) n (cs := cs.drop s) (by rw [List.length_drop]; omega) (fun i hi => by
      obtain ⟨ys, hy, hr⟩ := h (i + 1) (by omega)
      refine ⟨ys, ?_, hr⟩
      rw [List.drop_drop, show s + i * s = (i + 1) * s by rw [Nat.succ_mul]; omega]
      exact hy)
    refine ⟨xs :: ls, by simp [h1], ?_, fun l hl' => ?_⟩
    · have := hx.app h2
      rwa [List.take_append_drop] at this
    · rcases List.mem_cons.1 hl' with rfl | hl'
      · refine ⟨hr, ?_⟩
        rw [← hx.1.length, List.length_take]
        omega
      · exact h3 l hl'
theorem op_arr {t e : TypeId} {n s : Nat} {R : List CV → Prop} (hu : P.underlying t = some (.array n e)) (hs : P.cellsOf e = s) (hct : P.cellsOf t = n * s) (he : Opens enc P W base sp held e R) : Opens enc P W base sp held t fun xs => ∃ ls : List (List CV), xs = ls.flatten ∧ ls.length = n ∧ ∀ l ∈ ls, R l ∧ l.length = s := by
  intro fuel cs y h
  cases fuel with
  | zero => simp [DataW.trod] at h
  | succ m =>
    rw [DataW.trod_step] at h
    unfold DataW.trodStep at h
    simp only [hu] at h
    split at h
    · rename_i hl
      simp only [Option.map_eq_some_iff] at h
      obtain ⟨ys, hy, _⟩ := h
      rw [hs] at hy
      obtain ⟨ls, h1, h2, h3⟩ := rc_blocks (R := R) (s := s) n (cs := cs) (by rw [hl, hct]) (fun i hi => by
        obtain ⟨z, hz⟩ := mapM_some hy i (List.mem_range.2 hi)
        exact he m _ _ hz)
      exact ⟨_, h2, ls, rfl, h1, h3⟩
    · cases h
theorem cells_get {a : Addr} {n : Nat} {cs : List Value} (h : W.cells? base a n = some cs) : cs.length = n ∧ ∀ j, j < n → W.cell? (a.add j) = cs[j]? := by
  unfold World.cells? at h
  split at h
  · have key : ∀ (L : List Nat) (cs : List Value), L.mapM (fun i => W.cell? (a.add i)) = some cs → cs.length = L.length ∧ ∀ (j x : Nat), L[j]? = some x → W.cell? (a.add x) = cs[j]? := by
      intro L
      induction L with
      | nil => intro cs h; simp at h; subst h; simp
      | cons x L ih =>
        intro cs h
        rw [List.mapM_cons] at h
        simp only [bind, Option.bind_eq_some_iff, pure, Option.some.injEq] at h
        obtain ⟨y, hy, zs, hz, rfl⟩ := h
        obtain ⟨h1, h2⟩ := ih zs hz
        refine ⟨by simp [h1], fun j z hj => ?_⟩
        cases j with
        | zero => simp at hj; subst hj; simpa using hy
        | succ j => simpa using h2 j z (by simpa using hj)
    obtain ⟨h1, h2⟩ := key _ _ h
    exact ⟨by simpa using h1, fun j hj => h2 j j (by simp [hj])⟩
  · cases h
theorem addr_add (a : Addr) (i j : Nat) : (a.add i).add j = a.add (i + j) := by
  unfold Addr.add
  by_cases hi : i = 0 <;> by_cases hj : j = 0 <;> simp [hi, hj, Nat.add_assoc]
theorem rc_rows {R : List CV → Prop} {s : Nat} {a : Addr} : ∀ (n : Nat), (∀ i, i < n → ∃ ci xs, W.cells? base (a.add (i * s)) s = some ci ∧ RC W xs ci ∧ R xs) →
    ∃ (us : List Value) (ls : List (List CV)), us.length = n * s ∧ (∀ j, j < n * s → W.cell? (a.add j) = us[j]?) ∧ ls.length = n ∧ RC W ls.flatten us ∧ ∀ l ∈ ls, R l ∧ l.length = s
  | 0, _ => ⟨[], [], by simp, by simp, rfl, ⟨rfl, by simp⟩, by simp⟩
  | n + 1, h => by
    obtain ⟨us, ls, h1, h2, h3, h4, h5⟩ := rc_rows n (fun i hi => h i (by omega))
    obtain ⟨ci, xs, k1, k2, k3⟩ := h n (by omega)
    obtain ⟨k4, k5⟩ := cells_get k1
    refine ⟨us ++ ci, ls ++ [xs], by rw [List.length_append, h1, k4, Nat.succ_mul], fun j hj => ?_, by simp [h3], ?_, fun l hl => ?_⟩
    · rw [Nat.succ_mul] at hj
      rcases Nat.lt_or_ge j (n * s) with hlt | hge
      · rw [List.getElem?_append_left (by omega)]; exact h2 j hlt
      · rw [List.getElem?_append_right (by omega), h1, ← k5 (j - n * s) (by omega), addr_add]
        congr 2
        omega
    · have := h4.app k2
      simpa using this
    · rcases List.mem_append.1 hl with hl | hl
      · exact h5 l hl
      · rw [List.mem_singleton] at hl
        subst hl
        exact ⟨k3, by rw [← k2.1.length]; exact k4⟩
theorem spot_of_cell {x : Addr} {u : Value} (h : W.cell? x = some u) : x.spot = none ∧ x.block < W.heap.size := by
  unfold World.cell? at h
  split at h
  · rename_i cs t fz hb
    split at h
    · cases h
    · rename_i hsp
      exact ⟨by simpa using hsp, lt_of_block hb⟩
  · cases h
theorem op_slice {t e : TypeId} {s : Nat} {R : List CV → Prop} (hu : P.underlying t = some (.slice e)) (hs : P.cellsOf e = s) (h0 : 0 < s) (he : Opens enc P W base sp held e R) : Opens enc P W base sp held t fun xs => ∃ ls : List (List CV), xs = [.sl s ls.length ls.flatten] ∧ ls.length ≤ maxLen ∧ ∀ l ∈ ls, R l ∧ l.length = s := by
  intro fuel cs y h
  rcases DataW.trod_slice hu h with ⟨rfl, _⟩ | ⟨a, len, cap, elems, rest, n, _, rfl, rfl, hb, hl, hm, hlen, hel, hsp, hns⟩
  · refine ⟨[.sl s 0 []], ⟨⟨_, _, rfl, ?_, rfl⟩, by simp [Value.oneCell']⟩, [], rfl, by simp [maxLen], by simp⟩
    exact ⟨none, 0, [], rfl, Nat.le_refl _, by simp [maxLen], by simp, by simp [RepCs], by simp, fun h => absurd h (by omega)⟩
  · rw [hs] at hel
    obtain ⟨us, ls, h1, h2, h3, h4, h5⟩ := rc_rows (R := R) (s := s) (a := a) (W := W) (base := base) len (fun i hi => by
      have := hel i hi
      rw [List.getElem?_eq_getElem (by omega)] at this
      rw [Option.bind_eq_some_iff] at this
      obtain ⟨ci, k1, k2⟩ := this
      obtain ⟨xs, k3, k4⟩ := he _ _ _ k2
      exact ⟨ci, xs, k1, k3, k4⟩)
    refine ⟨[.sl s len ls.flatten], ⟨⟨_, _, rfl, ?_, rfl⟩, by simp [Value.oneCell']⟩, ls, by rw [h3], by omega, h5⟩
    have hfl : ls.flatten.length = len * s := by rw [← h4.1.length, h1]
    refine ⟨some a, cap, us, rfl, hl, hm, hfl, h4.1, h4.2, fun hn => ?_⟩
    have hpos : 0 < len * s := Nat.mul_pos hn h0
    have hc0 := h2 0 hpos
    rw [List.getElem?_eq_getElem (by omega)] at hc0
    obtain ⟨e1, e2⟩ := spot_of_cell hc0
    obtain ⟨b, o, spt⟩ := a
    simp only [Addr.add] at e1 e2
    subst e1
    refine ⟨b, o, rfl, trivial, e2, fun j x hj => ?_⟩
    have hjl : j < len * s := by
      rw [← h1]
      exact (List.getElem?_eq_some_iff.1 hj).1
    have := h2 j hjl
    rw [hj, add_mk] at this
    exact this
/-- Fields one after the other, from a place on. -/
def OpF (enc : TypeId × Value → H) (P : Program) (W : World) (base : Nat) (sp : Nat → Bool) (held : Bool) (off : Nat) (fs : List Field) (R : List CV → Prop) : Prop :=
  ∀ (fuel : Nat) (cs : List Value) ys, fs.mapM (fun f => DataW.trod enc P W base sp held fuel f.type ((cs.drop f.offset).take (P.cellsOf f.type))) = some ys → cs.length = off + (fs.map fun f => P.cellsOf f.type).sum → ∃ xs, RC W xs (cs.drop off) ∧ R xs
theorem opf_nil {off : Nat} : OpF enc P W base sp held off [] fun xs => xs = [] := by
  intro fuel cs ys h hl
  simp at hl
  exact ⟨[], ⟨by rw [List.drop_of_length_le (by omega)]; rfl, by rw [List.drop_of_length_le (by omega)]; simp⟩, rfl⟩
theorem opf_cons {off s : Nat} {f : Field} {fs : List Field} {R1 R2 : List CV → Prop} (hoff : f.offset = off) (hs : P.cellsOf f.type = s) (he : Opens enc P W base sp held f.type R1) (hr : OpF enc P W base sp held (off + s) fs R2) : OpF enc P W base sp held off (f :: fs) fun xs => ∃ a b, xs = a ++ b ∧ R1 a ∧ R2 b := by
  intro fuel cs ys h hl
  rw [List.mapM_cons] at h
  simp only [bind, Option.bind_eq_some_iff, pure, Option.some.injEq] at h
  obtain ⟨y, hy, zs, hz, rfl⟩ := h
  simp only [List.map_cons, List.sum_cons, hs] at hl
  obtain ⟨b, h1, h2⟩ := hr fuel cs zs hz (by omega)
  obtain ⟨a, h3, h4⟩ := he _ _ _ hy
  refine ⟨a ++ b, ?_, a, b, rfl, h4, h2⟩
  rw [hoff, hs] at h3
  have := h3.app h1
  rw [← List.drop_drop, List.take_append_drop] at this
  exact this
theorem op_struct {t : TypeId} {fs : List Field} {R : List CV → Prop} (hu : P.underlying t = some (.struct fs.toArray)) (hc : P.cellsOf t = (fs.map fun f => P.cellsOf f.type).sum) (hf : OpF enc P W base sp held 0 fs R) : Opens enc P W base sp held t R := by
  intro fuel cs y h
  cases fuel with
  | zero => simp [DataW.trod] at h
  | succ m =>
    rw [DataW.trod_step] at h
    unfold DataW.trodStep at h
    simp only [hu] at h
    split at h
    · rename_i hl
      simp only [Option.map_eq_some_iff] at h
      obtain ⟨ys, hy, _⟩ := h
      obtain ⟨xs, h1, h2⟩ := hf m cs ys (by simpa using hy) (by rw [hl, hc]; omega)
      rw [List.drop_zero] at h1
      exact ⟨xs, h1, h2⟩
    · cases h

/-- One-cell arguments and aggregates. -/
theorem arg_one {t : TypeId} {v : Value} {d : DataW H} {p : List MemPlace} {R : List CV → Prop} (he : Opens enc P W base sp held t R) (h : DataW.Trod enc P W base sp held t v d p) (hv : v.cells = #[v]) : ∃ x, RepC (fun _ => True) W x v ∧ R [x] := by
  obtain ⟨fuel, hf⟩ := h
  rw [hv] at hf
  obtain ⟨xs, h1, h2⟩ := he _ _ _ hf
  obtain ⟨h1, _⟩ := h1
  cases xs with
  | nil => simp [RepCs] at h1
  | cons x xs =>
    simp only [RepCs] at h1
    obtain ⟨u, us, e, h3, h4⟩ := h1
    injection e with e1 e2
    subst e1 e2
    cases xs with
    | nil => exact ⟨x, h3, h2⟩
    | cons y ys => simp [RepCs] at h4
theorem arg_agg {t : TypeId} {cs : Array Value} {d : DataW H} {p : List MemPlace} {R : List CV → Prop} (he : Opens enc P W base sp held t R) (h : DataW.Trod enc P W base sp held t (.agg cs) d p) : ∃ xs, RepC (fun _ => True) W (.agg xs) (.agg cs) ∧ R xs := by
  obtain ⟨fuel, hf⟩ := h
  obtain ⟨xs, h1, h2⟩ := he _ _ _ hf
  exact ⟨xs, ⟨cs.toList, by simp, h1.1, h1.2⟩, h2⟩
end
end Go.Av
/-
  How the arguments of the digest's rows read. Plain.
-/
set_option linter.unusedVariables false
namespace Go.Proofs.Ytgofigkhdjjlmaa
open Go Go.RowKit Go.Av

theorem rd_u64 {x : CV} (h : ∃ m, [x] = [CV.v (.int .u64 m)] ∧ (Lit.int .u64 m).wf = true) : ∃ w : BitVec 64, x = wv w := by
  obtain ⟨m, h1, h2⟩ := h
  injection h1 with h1 _
  have := bounds_u64 h2
  refine ⟨BitVec.ofNat 64 m.toNat, ?_⟩
  rw [h1]
  show CV.v (.int .u64 m) = .v (.int .u64 ((BitVec.ofNat 64 m.toNat).toNat : Int))
  rw [BitVec.toNat_ofNat, Nat.mod_eq_of_lt (by omega)]
  congr 2
  omega
theorem rd_int {x : CV} (h : ∃ m, [x] = [CV.v (.int .i64 m)] ∧ (Lit.int .i64 m).wf = true) : ∃ m : Int, x = iv m ∧ -9223372036854775808 ≤ m ∧ m ≤ 9223372036854775807 := by
  obtain ⟨m, h1, h2⟩ := h
  injection h1 with h1 _
  have := bounds_i64 h2
  exact ⟨m, h1, by omega, by omega⟩
theorem rd_str {x : CV} (h : ∃ s, [x] = [CV.v (.string s)] ∧ s.size ≤ maxLen) : ∃ s : ByteArray, x = .v (.string s) ∧ s.size ≤ maxLen := by
  obtain ⟨m, h1, h2⟩ := h
  injection h1 with h1 _
  exact ⟨m, h1, h2⟩
theorem u8_flat : ∀ (ls : List (List CV)), (∀ l ∈ ls, ∃ m, l = [CV.v (.int .u8 m)] ∧ (Lit.int .u8 m).wf = true) → ∃ l : List UInt8, ls.flatten = u8c l ∧ l.length = ls.length
  | [], _ => ⟨[], rfl, rfl⟩
  | c :: ls, h => by
    obtain ⟨m, rfl, hw⟩ := h c (by simp)
    obtain ⟨l, h1, h2⟩ := u8_flat ls (fun d hd => h d (by simp [hd]))
    have := bounds_u8 hw
    refine ⟨UInt8.ofNat m.toNat :: l, ?_, by simp [h2]⟩
    rw [List.flatten_cons, h1]
    show _ = CV.v (.int .u8 ((UInt8.ofNat m.toNat).toNat : Int)) :: u8c l
    have e : ((UInt8.ofNat m.toNat).toNat : Int) = m := by
      rw [UInt8.toNat_ofNat']
      omega
    rw [e]
    rfl
theorem rd_bytes {x : CV} (h : ∃ ls : List (List CV), [x] = [CV.sl 1 ls.length ls.flatten] ∧ ls.length ≤ maxLen ∧ ∀ l ∈ ls, (∃ m, l = [CV.v (.int .u8 m)] ∧ (Lit.int .u8 m).wf = true) ∧ l.length = 1) : ∃ l : List UInt8, x = .sl 1 l.length (u8c l) ∧ l.length ≤ maxLen := by
  obtain ⟨ls, h1, h2, h3⟩ := h
  injection h1 with h1 _
  obtain ⟨l, h4, h5⟩ := u8_flat ls (fun c hc => (h3 c hc).1)
  exact ⟨l, by rw [h1, h4, h5], by omega⟩
theorem rd_dig {xs : List CV} {n : Nat} (h : ∃ ls : List (List CV), xs = ls.flatten ∧ ls.length = n ∧ ∀ l ∈ ls, (∃ m, l = [CV.v (.int .u8 m)] ∧ (Lit.int .u8 m).wf = true) ∧ l.length = 1) : ∃ l : List UInt8, xs = u8c l ∧ l.length = n := by
  obtain ⟨ls, h1, h2, h3⟩ := h
  obtain ⟨l, h4, h5⟩ := u8_flat ls (fun c hc => (h3 c hc).1)
  exact ⟨l, by rw [h1, h4], by omega⟩
theorem rd_w5 {xs : List CV} (h : ∃ ls : List (List CV), xs = ls.flatten ∧ ls.length = 5 ∧ ∀ l ∈ ls, (∃ m, l = [CV.v (.int .u64 m)] ∧ (Lit.int .u64 m).wf = true) ∧ l.length = 1) : ∃ s : S5, xs = s.cs := by
  obtain ⟨ls, h1, h2, h3⟩ := h
  match ls, h2 with
  | [a, b, c, d, e], _ =>
    have g : ∀ l ∈ [a, b, c, d, e], ∃ w : BitVec 64, l = [wv w] := fun l hl => by
      obtain ⟨⟨m, rfl, hw⟩, _⟩ := h3 l hl
      obtain ⟨w, hw⟩ := rd_u64 ⟨m, rfl, hw⟩
      exact ⟨w, by rw [hw]⟩
    obtain ⟨wa, rfl⟩ := g a (by simp)
    obtain ⟨wb, rfl⟩ := g b (by simp)
    obtain ⟨wc, rfl⟩ := g c (by simp)
    obtain ⟨wd, rfl⟩ := g d (by simp)
    obtain ⟨we, rfl⟩ := g e (by simp)
    exact ⟨⟨wa, wb, wc, wd, we⟩, h1⟩
end Go.Proofs.Ytgofigkhdjjlmaa
/-
  The digits of a message (walk), as the reference has them; lists of numbers compared; the laws SignatureDigits, SignatureChecks.
-/
set_option linter.unusedVariables false
set_option linter.unusedSimpArgs false
namespace Go.Proofs.Ytgofigkhdjjlmaa
open Go Go.RowKit Go.Av
set_option maxRecDepth 100000
def dfst (D : List UInt8) (i : Nat) : List Int := (List.range i).map fun j => (dgt D j : Int)
theorem dfst_length (D : List UInt8) (i : Nat) : (dfst D i).length = i := by simp [dfst]
theorem dgt_even (D : List UInt8) (i : Nat) : dgt D (2 * i) = (D.getD i 0).toNat / 16 := by
  unfold dgt
  rw [if_pos (by omega), show 2 * i / 2 = i by omega]
theorem dgt_odd (D : List UInt8) (i : Nat) : dgt D (2 * i + 1) = (D.getD i 0).toNat % 16 := by
  unfold dgt
  rw [if_neg (by omega), show (2 * i + 1) / 2 = i by omega]
theorem dfst_step (D : List UInt8) (i : Nat) : intc .i64 (dfst D (2 * i)) ++ [.v (.int .i64 (((D.getD i 0).toNat / 16 : Nat) : Int)), .v (.int .i64 (((D.getD i 0).toNat % 16 : Nat) : Int))] = intc .i64 (dfst D (2 * (i + 1))) := by
  rw [← dgt_even, ← dgt_odd]
  simp [dfst, intc, show 2 * (i + 1) = 2 * i + 1 + 1 by omega, List.range_succ]
theorem ckN_step (D : List UInt8) (i : Nat) : (ckN D (2 * i) : Int) + 15 - (((D.getD i 0).toNat / 16 : Nat) : Int) + 15 - (((D.getD i 0).toNat % 16 : Nat) : Int) = ((ckN D (2 * (i + 1)) : Nat) : Int) := by
  have h1 := dgt_le D (2 * i)
  have h2 := dgt_le D (2 * i + 1)
  rw [← dgt_even, ← dgt_odd]
  simp only [show 2 * (i + 1) = 2 * i + 1 + 1 by omega, ckN]
  omega
theorem digs_eq (D : List UInt8) : intc .i64 (dfst D 32) ++ [.v (.int .i64 ((ckN D 32 / 256 : Nat) : Int)), .v (.int .i64 ((ckN D 32 / 16 % 16 : Nat) : Int)), .v (.int .i64 ((ckN D 32 % 16 : Nat) : Int))] = intc .i64 (digs D) := by
  have hc := ckN_le D 32
  have e : digs D = dfst D 32 ++ [((ckN D 32 / 256 : Nat) : Int), ((ckN D 32 / 16 % 16 : Nat) : Int), ((ckN D 32 % 16 : Nat) : Int)] := by
    unfold digs dfst
    rw [show 35 = 32 + 1 + 1 + 1 from rfl, List.range_succ, List.range_succ, List.range_succ]
    simp only [List.map_append, List.map_cons, List.map_nil, List.append_assoc, List.cons_append, List.nil_append]
    have h1 : (List.range 32).map (fun j => (dall D j : Int)) = (List.range 32).map fun j => (dgt D j : Int) := by
      apply List.map_congr_left
      intro j hj
      have := List.mem_range.1 hj
      simp only [dall, if_pos this]
    have a1 : dall D 32 = ckN D 32 / 256 := by
      unfold dall
      rw [if_neg (by omega)]
      show ckN D 32 / 256 % 16 = _
      omega
    have a2 : dall D (32 + 1) = ckN D 32 / 16 % 16 := by
      unfold dall
      exact if_neg (by omega)
    have a3 : dall D (32 + 1 + 1) = ckN D 32 % 16 := by
      have h2 : dall D (32 + 1 + 1) = ckN D 32 / 1 % 16 := by
        unfold dall
        exact if_neg (by omega)
      rw [h2, Nat.div_one]
    rw [h1, ← a1, ← a2, ← a3]
  rw [e]
  simp [intc]
theorem int_at (l : List Int) (i : Nat) (h : i < l.length) : (intc .i64 l)[i * 1]? = some (.v (.int .i64 (l.getD i 0))) := by
  rw [Nat.mul_one]
  simp [intc, List.getD, List.getElem?_eq_getElem h]
theorem int_at0 (l : List Int) (i : Nat) (h : i < l.length) : (intc .i64 l)[0 + i * 1]? = some (.v (.int .i64 (l.getD i 0))) := by
  rw [Nat.zero_add]; exact int_at l i h
theorem digs_length (D : List UInt8) : (digs D).length = 35 := by simp [digs]
theorem digs_get (D : List UInt8) (i : Nat) (h : i < 35) : (digs D).getD i 0 = (dall D i : Int) := by
  simp [digs, List.getD, h]
theorem dall_le (D : List UInt8) (j : Nat) : dall D j ≤ 15 := by
  unfold dall
  split
  · exact dgt_le D j
  · omega
section
variable {P : Program} {ev : Evl} {h : Heap} {d : Option Tmp} {T ty T' : TypeId} {x y : Operand} {pos : String} {aft : Array Edge} {gd : Option (Nat × Bool)}
theorem s_quoN {b m : Nat} (hm : 0 < m) (hb : b < 9223372036854775808) {Y : Int} (hY : Y = (m : Int)) (hx : ev x = some (.c (.v (.int .i64 (b : Int))))) (hy : ev y = some (.c (.v (.int .i64 Y)))) : Still P ⟨d, .binOp .quo T x y T', ty, pos, aft, gd⟩ ev h (.c (.v (.int .i64 ((b / m : Nat) : Int)))) :=
  s_quo hx hy (by omega) (by
    subst hY
    rw [q64 (by omega) (by omega) (by omega)]
    simp)
theorem s_remN {b m : Nat} (hm : 0 < m) {Y : Int} (hY : Y = (m : Int)) (hx : ev x = some (.c (.v (.int .i64 (b : Int))))) (hy : ev y = some (.c (.v (.int .i64 Y)))) : Still P ⟨d, .binOp .rem T x y T', ty, pos, aft, gd⟩ ev h (.c (.v (.int .i64 ((b % m : Nat) : Int)))) :=
  s_rem hx hy (by omega) (by
    subst hY
    rw [r64 (by omega)]
    simp)
end
attribute [local irreducible] Still Adds AWL AW Drw AC AWR Weak Frz Src RetK Out InK permute
set_option maxHeartbeats 4000000 in
theorem rdigits_ok (l : List UInt8) (n : Nat) (hl : l.length = n) (hm : n ≤ 1000000) : AC Try.prog 29 [.sl 1 n (u8c l)] (.own 0 0 35 1 true) [(0, .row 3 (intc .i64 (digs (sum 390#64 l))))] 1 := by
  have hDl := sum_length 390#64 l
  have hsu := rsum_ok 390#64 l n hl (by omega)
  generalize sum 390#64 l = D at *
  have hu : (u8c D).length = 32 := by rw [u8c_length, hDl]
  refine ac_enter tabOk (sz := 47) Try.func29 rfl (by rw [Try.ntmps29]; rfl) ?_
  repeat' (first
    | ((with_reducible refine aw_seqk ?_); intro K hK hX)
    | ((with_reducible refine isC_reg ?_); refine aw_prune [0, 2, 3, 4, 5, 6, 7, 8] rfl rfl ?_; with_reducible refine aw_region ?_)
    | ((with_reducible refine isC_draw ?_); refine aw_prune [0, 2, 3, 4, 5, 6, 7, 8] rfl rfl ?_; refine aw_drwF [] ?_)
    | ((first | with_reducible refine isA_call ?_ | with_reducible refine isD_call ?_); (first | refine zA ?_ | refine zN ?_ | refine zD ?_); (first | refine c0 (hsu) ?_))
    | refine stA ?_
    | refine stD ?_
    | (refine hK _ _ _ _ ?_; clear hK hX K)
    | (refine hX _ _ _ _ _ (by simp) ?_; clear hK hX K))
  refine aw_nilown 4 3 1 rfl ?_
  refine aw_loopk 2 (fun i : Nat => [(3, .ref 0 0), (4, .own 1 0 (2 * i) 1 true), (5, .c (iv (ckN D (2 * i)))), (6, .c (iv i))]) (fun i => [(0, .row 35 (u8c D)), (1, .row 3 (intc .i64 (dfst D (2 * i))))]) [] (fun i => i ≤ 16) (fun i => 16 - i) 0 (by omega) weakA ?_
  intro i hi K hK hX
  have hlen : (intc .i64 (dfst D (2 * i))).length = 2 * i := by rw [intc_length, dfst_length]
  have hc := ckN_le D (2 * i)
  have hb := (D.getD i 0).toNat_lt
  by_cases hlt : i < 16
  · repeat' (first
    | ((with_reducible refine aw_seqk ?_); intro K hK hX)
    | ((with_reducible refine isC_reg ?_); refine aw_prune [0, 2, 3, 4, 5, 6, 7, 8] rfl rfl ?_; with_reducible refine aw_region ?_)
    | ((with_reducible refine isC_draw ?_); refine aw_prune [0, 2, 3, 4, 5, 6, 7, 8] rfl rfl ?_; refine aw_drwF [] ?_)
    | ((first | ((with_reducible refine isA_any ?_); refine xA ?_) | ((with_reducible refine isDk_any ?_); refine xD ?_)); (first | ((with_reducible refine e_bin ?_); (first | refine ex_i (s_quo16 rfl rfl) ?_ | refine ex_i (s_rem16 rfl rfl) ?_)) | ((with_reducible refine e_load ?_); (first | refine ex_i (s_load1 tabOk rfl rfl rfl rfl (by exact u8_at0 D i (by omega))) ?_ | refine ex_i (s_load1r tabOk rfl rfl rfl rfl (by exact u8_at0 D i (by omega))) ?_ | refine ex_i (s_load1i tabOk rfl rfl rfl (by exact u8_at0 D i (by omega))) ?_)) | ((with_reducible refine e_ix ?_); (first | refine ex_i (s_ixV1 tabOk rfl rfl (by first | with_reducible exact cast_self _ | with_reducible exact cast_lit _ | exact nt (by omega) | rfl) rfl rfl rfl rfl rfl (by first | exact Nat.le_of_ble_eq_true rfl | omega | (simp; omega)) (by exact u8_at0 D i (by omega))) ?_ | refine ex_i (s_ixStr tabOk rfl rfl (by first | with_reducible exact cast_self _ | with_reducible exact cast_lit _ | exact nt (by omega) | rfl) rfl rfl (by exact u8_at0 D i (by omega))) ?_))))
    | refine stA ?_
    | refine stD ?_
    | (refine hK _ _ _ _ ?_; clear hK hX K)
    | (refine hX _ _ _ _ _ (by simp) ?_; clear hK hX K))
    rw [ckN_step]
    exact ⟨i + 1, by omega, by omega, (by refine weak_ren [0, 3] rfl rfl ?_ ?_ rfl rfl <;> (repeat' (first | exact weakER_nil | exact weakHR_nil | refine weakER_cons rfl (by first | rfl | (exact congrArg (AObj.row 3) (dfst_step D i)) | exact own_eq rfl rfl (by omega) | exact int_eq (by omega) | (simp <;> fail) | (congr 4; omega) | (congr 3; omega) | (congr 2; omega)) rfl ?_ | refine weakHR_cons rfl (by first | rfl | (exact congrArg (AObj.row 3) (dfst_step D i)) | exact own_eq rfl rfl (by omega) | exact int_eq (by omega) | (simp <;> fail) | (congr 4; omega) | (congr 3; omega) | (congr 2; omega)) rfl ?_)))⟩
  · obtain rfl : i = 16 := by omega
    have hc2 : ckN D (2 * 16) < 9223372036854775808 := by omega
    have hc3 : ckN D (2 * 16) / 16 < 9223372036854775808 := by omega
    repeat' (first
    | ((with_reducible refine aw_seqk ?_); intro K hK hX)
    | ((with_reducible refine isC_reg ?_); refine aw_prune [0, 2, 3, 4, 5, 6, 7, 8] rfl rfl ?_; with_reducible refine aw_region ?_)
    | ((with_reducible refine isC_draw ?_); refine aw_prune [0, 2, 3, 4, 5, 6, 7, 8] rfl rfl ?_; refine aw_drwF [] ?_)
    | ((first | ((with_reducible refine isA_any ?_); refine xA ?_) | ((with_reducible refine isDk_any ?_); refine xD ?_)); (first | ((with_reducible refine e_bin ?_); (first | refine ex_i (s_quoN (m := 256) (by decide) hc2 rfl rfl rfl) ?_ | refine ex_i (s_quoN (m := 16) (by decide) hc2 rfl rfl rfl) ?_ | refine ex_i (s_remN (m := 16) (by decide) rfl rfl rfl) ?_))))
    | refine stA ?_
    | refine stD ?_
    | (refine hK _ _ _ _ ?_; clear hK hX K)
    | (refine hX _ _ _ _ _ (by simp) ?_; clear hK hX K))
    rw [show (intc .i64 (dfst D (2 * 16)) ++ [[CV.v (Value.int IntKind.i64 ((ckN D (2 * 16) / 256 : Nat) : Int))], [CV.v (.int .i64 ((ckN D (2 * 16) / 16 % 16 : Nat) : Int))], [CV.v (.int .i64 ((ckN D (2 * 16) % 16 : Nat) : Int))]].flatten) = intc .i64 (digs D) from digs_eq D]
    refine retK_mk (by first | exact .inl rfl | exact .inr rfl) (by exact trivial) rfl (ResL.one (ResA.tmp rfl)) (by first | exact out_c (by first | exact frz_c cv_rfl | exact frz_c cv_nil | exact frz_ownW rfl rfl (by first | rfl | with_reducible assumption | (simp <;> fail) | omega | (simp; omega) | assumption) | exact frz_eq (frz_c cv_rfl) (by first | rfl | (simp <;> fail) | fail)) | exact out_own rfl rfl)
end Go.Proofs.Ytgofigkhdjjlmaa
/-
  Integers as bytes (walk), as the program and as the reference have them.
-/
set_option linter.unusedVariables false
set_option linter.unusedSimpArgs false
namespace Go.Proofs.Ytgofigkhdjjlmaa
open Go Go.RowKit Go.Av
set_option maxRecDepth 100000
/-- Groups of seven bits. -/
def encN (x : Nat) : List UInt8 := if h : x < 128 then [UInt8.ofNat x] else UInt8.ofNat (x % 128 + 128) :: encN (x / 128)
termination_by x
decreasing_by omega
theorem encN_lt {x : Nat} (h : x < 128) : encN x = [UInt8.ofNat x] := by rw [encN, dif_pos h]
theorem encN_ge {x : Nat} (h : ¬ x < 128) : encN x = UInt8.ofNat (x % 128 + 128) :: encN (x / 128) := by rw [encN, dif_neg h]
theorem encN_len : ∀ (k x : Nat), x < 128 ^ (k + 1) → (encN x).length ≤ k + 1
  | 0, x, h => by rw [encN_lt (by omega)]; simp
  | k + 1, x, h => by
    by_cases hx : x < 128
    · rw [encN_lt hx]; simp
    · rw [encN_ge hx, List.length_cons]
      have := encN_len k (x / 128) (by rw [Nat.div_lt_iff_lt_mul (by decide)]; rw [Nat.pow_succ] at h; omega)
      omega
theorem encN_pos (x : Nat) : 0 < (encN x).length := by
  by_cases hx : x < 128
  · rw [encN_lt hx]; simp
  · rw [encN_ge hx]; simp
def zig (n : Int) : BitVec 64 := if n < 0 then ~~~(BitVec.ofInt 64 n <<< 1) else BitVec.ofInt 64 n <<< 1
def enc (n : Int) : List UInt8 := encN (zig n).toNat
theorem enc_len (n : Int) : (enc n).length ≤ 10 := encN_len 9 _ (Nat.lt_of_lt_of_le (zig n).isLt (by decide))
theorem enc_pos (n : Int) : 0 < (enc n).length := encN_pos _
abbrev uv (x : Nat) : CV := .v (.int .u64 (x : Int))
theorem enc_step (l : List UInt8) (x : Nat) (r : Int) (hr : r = ((x % 128 + 128 : Nat) : Int)) : u8c l ++ [.v (.int .u8 r)] = u8c (l ++ [UInt8.ofNat (x % 128 + 128)]) := by
  subst hr
  rw [u8c_app]
  congr 1
  show _ = [CV.v (.int .u8 ((UInt8.ofNat (x % 128 + 128)).toNat : Int))]
  rw [UInt8.toNat_ofNat', show (x % 128 + 128) % 2 ^ 8 = x % 128 + 128 by omega]
theorem enc_last (l : List UInt8) (x : Nat) (hx : x < 128) : u8c l ++ [.v (.int .u8 (x : Int))] = u8c (l ++ [UInt8.ofNat x]) := by
  rw [u8c_app]
  congr 1
  show _ = [CV.v (.int .u8 ((UInt8.ofNat x).toNat : Int))]
  rw [UInt8.toNat_ofNat', Nat.mod_eq_of_lt (by omega)]
section
variable {P : Program} {tab : Tab} {ev : Evl} {h : Heap} {d : Option Tmp} {T ty T' : TypeId} {x y : Operand} {pos : String} {aft : Array Edge} {gd : Option (Nat × Bool)}
theorem wu64' {m : Int} (h1 : 0 ≤ m) (h2 : m < 18446744073709551616) : IntKind.u64.wrap m = m := by rw [IntKind.wrap_u64]; omega
theorem s_quoU {b m : Nat} (hm : 0 < m) (hb : b < 18446744073709551616) {Y : Int} (hY : Y = (m : Int)) (hx : ev x = some (.c (.v (.int .u64 (b : Int))))) (hy : ev y = some (.c (.v (.int .u64 Y)))) : Still P ⟨d, .binOp .quo T x y T', ty, pos, aft, gd⟩ ev h (.c (uv (b / m))) :=
  s_quo hx hy (by omega) (by
    subst hY
    have hlt := Nat.div_le_self b m
    rw [Int.tdiv_eq_ediv_of_nonneg (by omega), ← Int.natCast_ediv]
    generalize b / m = q at hlt
    exact wu64' (by omega) (by omega))
theorem s_remU {b m : Nat} (hm : 0 < m) {Y : Int} (hY : Y = (m : Int)) (hx : ev x = some (.c (.v (.int .u64 (b : Int))))) (hy : ev y = some (.c (.v (.int .u64 Y)))) : Still P ⟨d, .binOp .rem T x y T', ty, pos, aft, gd⟩ ev h (.c (uv (b % m))) :=
  s_rem hx hy (by omega) (by
    subst hY
    rw [Int.tmod_eq_emod_of_nonneg (by omega), ← Int.natCast_emod])
theorem s_shrU {b m : Nat} {k : IntKind} {Y : Int} (hx : ev x = some (.c (.v (.int .u64 (b : Int))))) (hy : ev y = some (.c (.v (.int k Y)))) (hY : Y = (m : Int)) (hm : m < 64) : Still P ⟨d, .binOp .shr T x y T', ty, pos, aft, gd⟩ ev h (.c (uv (b / 2 ^ m))) :=
  s_shr hx hy (by omega) (by
    subst hY
    have e : min ((m : Int).toNat) IntKind.u64.bits = m := by
      show min ((m : Int).toNat) 64 = m
      omega
    rw [e, Int.fdiv_eq_ediv_of_nonneg _ (Int.le_of_lt (Int.pow_pos (by decide)))]
    simp)
theorem s_convU8 (tb : TabOk P tab) {S : TypeId} {e es : TyE} {b : Nat} (hS : tyLook tab S = some es) (hT : tyLook tab T = some e) (hk : e.kind = .int .u8) (hx : ev x = some (.c (.v (.int .u64 (b : Int))))) : Still P ⟨d, .convert S T x, ty, pos, aft, gd⟩ ev h (.c (.v (.int .u8 ((b % 256 : Nat) : Int)))) :=
  s_convInt tb hS hT hk hx (by rw [IntKind.wrap_u8]; omega)
theorem s_or128 {b : Nat} (hb : b < 256) (hx : ev x = some (.c (.v (.int .u8 (b : Int))))) (hy : ev y = some (.c (.v (.int .u8 128)))) : Still P ⟨d, .binOp .or T x y T', ty, pos, aft, gd⟩ ev h (.c (.v (.int .u8 ((b % 128 + 128 : Nat) : Int)))) :=
  s_or hx hy (by
    have key : ∀ b : Fin 256, IntKind.u8.wrap ((BitVec.ofInt 8 ((b.val : Nat) : Int) ||| BitVec.ofInt 8 128).toNat : Int) = ((b.val % 128 + 128 : Nat) : Int) := by decide +kernel
    exact key ⟨b, hb⟩)
end
attribute [local irreducible] Still Adds AWL AW Drw AC AWR Weak Frz Src RetK Out InK
attribute [local simp] u8c_take u8c_drop u8c_app
theorem encN_len10 {l : List UInt8} {m x k : Nat} {n : Int} (h : l ++ encN x = enc n) (hl : l.length = m) (hk : (enc n).length = k) : m + (encN x).length = k ∧ k ≤ 10 ∧ 0 < (encN x).length := by
  have h1 := enc_len n
  have h2 := encN_pos x
  rw [← h, List.length_append] at hk h1
  omega
set_option maxHeartbeats 4000000 in
theorem rint_ok (n : Int) (hn : -9223372036854775808 ≤ n ∧ n ≤ 9223372036854775807) (k : Nat) (hk : (enc n).length = k) : AC Try.prog 111 [iv n] (.own 0 0 k 1 true) [(0, .row 5 (u8c (enc n)))] 1 := by
  by_cases h0 : n < 0
  · have hz : (~~~(BitVec.ofInt 64 n <<< 1)) = zig n := by unfold zig; rw [if_pos h0]
    refine ac_enter tabOk (sz := 29) Try.func111 rfl (by rw [Try.ntmps111]; rfl) ?_
    repeat' (first
    | ((with_reducible refine aw_seqk ?_); intro K hK hX)
    | ((with_reducible refine isC_reg ?_); refine aw_prune [0, 2, 3, 4] rfl rfl ?_; with_reducible refine aw_region ?_)
    | refine stA ?_
    | (refine hK _ _ _ _ ?_; clear hK hX K)
    | (refine hX _ _ _ _ _ (by simp) ?_; clear hK hX K))
    rw [hz]
    have hzl := (zig n).isLt
    have hz0 : [] ++ encN (zig n).toNat = enc n := rfl
    generalize (zig n).toNat = z at hzl hz0
    refine aw_loopk 1 (fun p : List UInt8 × Nat × Nat => [(3, .c (uv p.2.2)), (4, .own 0 0 p.2.1 1 true)]) (fun p => [(0, .row 5 (u8c p.1))]) [] (fun p => p.1.length = p.2.1 ∧ p.1 ++ encN p.2.2 = enc n ∧ p.2.2 < 18446744073709551616) (fun p => p.2.2) ([], 0, z) ⟨rfl, hz0, hzl⟩ weakA ?_
    rintro ⟨l, m, x⟩ ⟨hl, he, hx⟩ K hK hX
    dsimp only at hl he hx hK ⊢
    have hul : (u8c l).length = m := by rw [u8c_length, hl]
    obtain ⟨hk1, hk2, hk3⟩ := encN_len10 he hl hk
    by_cases hlt : x < 128
    · repeat' (first
    | ((with_reducible refine aw_seqk ?_); intro K hK hX)
    | ((with_reducible refine isC_reg ?_); refine aw_prune [0, 2, 3, 4] rfl rfl ?_; with_reducible refine aw_region ?_)
    | refine stA ?_
    | (refine hK _ _ _ _ ?_; clear hK hX K)
    | (refine hX _ _ _ _ _ (by simp) ?_; clear hK hX K))
      rw [encN_lt hlt] at he hk1
      have e1 : m + 1 = k := by simpa using hk1
      rw [e1, show u8c l ++ [[CV.v (.int .u8 (x : Int))]].flatten = u8c (enc n) from by rw [← he]; exact enc_last l x hlt]
      refine retK_mk (by first | exact .inl rfl | exact .inr rfl) (by exact trivial) rfl (ResL.one (ResA.tmp rfl)) (by first | exact out_c (by first | exact frz_c cv_rfl | exact frz_c cv_nil | exact frz_ownW rfl rfl (by first | rfl | with_reducible assumption | (simp <;> fail) | omega | (simp; omega) | assumption) | exact frz_eq (frz_c cv_rfl) (by first | rfl | (simp <;> fail) | fail)) | exact out_own rfl rfl)
    · repeat' (first
    | ((with_reducible refine aw_seqk ?_); intro K hK hX)
    | ((with_reducible refine isC_reg ?_); refine aw_prune [0, 2, 3, 4] rfl rfl ?_; with_reducible refine aw_region ?_)
    | (((with_reducible refine isA_any ?_); refine xA ?_); (first | ((with_reducible refine e_bin ?_); (first | refine ex_i (s_quoU (m := 128) (by decide) hx rfl rfl rfl) ?_ | refine ex_i (s_remU (m := 128) (by decide) rfl rfl rfl) ?_))))
    | refine stA ?_
    | (refine hK _ _ _ _ ?_; clear hK hX K)
    | (refine hX _ _ _ _ _ (by simp) ?_; clear hK hX K))
      rw [encN_ge hlt] at he
      refine ⟨(l ++ [UInt8.ofNat (x % 128 + 128)], m + 1, x / 128), ⟨by simp [hl], by simpa using he, by simp only; omega⟩, by simp only; omega, ?_⟩
      exact (by refine weak_ren [2] rfl rfl ?_ ?_ rfl rfl <;> (repeat' (first | exact weakER_nil | exact weakHR_nil | refine weakER_cons rfl (by first | rfl | (exact congrArg (AObj.row 5) (enc_step l x _ (by omega))) | exact own_eq rfl rfl (by omega) | exact int_eq (by omega) | (simp <;> fail) | (congr 4; omega) | (congr 3; omega) | (congr 2; omega)) rfl ?_ | refine weakHR_cons rfl (by first | rfl | (exact congrArg (AObj.row 5) (enc_step l x _ (by omega))) | exact own_eq rfl rfl (by omega) | exact int_eq (by omega) | (simp <;> fail) | (congr 4; omega) | (congr 3; omega) | (congr 2; omega)) rfl ?_)))
  · have hz : (BitVec.ofInt 64 n <<< 1) = zig n := by unfold zig; rw [if_neg h0]
    refine ac_enter tabOk (sz := 29) Try.func111 rfl (by rw [Try.ntmps111]; rfl) ?_
    repeat' (first
    | ((with_reducible refine aw_seqk ?_); intro K hK hX)
    | ((with_reducible refine isC_reg ?_); refine aw_prune [0, 2, 3, 4] rfl rfl ?_; with_reducible refine aw_region ?_)
    | refine stA ?_
    | (refine hK _ _ _ _ ?_; clear hK hX K)
    | (refine hX _ _ _ _ _ (by simp) ?_; clear hK hX K))
    rw [hz]
    have hzl := (zig n).isLt
    have hz0 : [] ++ encN (zig n).toNat = enc n := rfl
    generalize (zig n).toNat = z at hzl hz0
    refine aw_loopk 1 (fun p : List UInt8 × Nat × Nat => [(3, .c (uv p.2.2)), (4, .own 0 0 p.2.1 1 true)]) (fun p => [(0, .row 5 (u8c p.1))]) [] (fun p => p.1.length = p.2.1 ∧ p.1 ++ encN p.2.2 = enc n ∧ p.2.2 < 18446744073709551616) (fun p => p.2.2) ([], 0, z) ⟨rfl, hz0, hzl⟩ weakA ?_
    rintro ⟨l, m, x⟩ ⟨hl, he, hx⟩ K hK hX
    dsimp only at hl he hx hK ⊢
    have hul : (u8c l).length = m := by rw [u8c_length, hl]
    obtain ⟨hk1, hk2, hk3⟩ := encN_len10 he hl hk
    by_cases hlt : x < 128
    · repeat' (first
    | ((with_reducible refine aw_seqk ?_); intro K hK hX)
    | ((with_reducible refine isC_reg ?_); refine aw_prune [0, 2, 3, 4] rfl rfl ?_; with_reducible refine aw_region ?_)
    | refine stA ?_
    | (refine hK _ _ _ _ ?_; clear hK hX K)
    | (refine hX _ _ _ _ _ (by simp) ?_; clear hK hX K))
      rw [encN_lt hlt] at he hk1
      have e1 : m + 1 = k := by simpa using hk1
      rw [e1, show u8c l ++ [[CV.v (.int .u8 (x : Int))]].flatten = u8c (enc n) from by rw [← he]; exact enc_last l x hlt]
      refine retK_mk (by first | exact .inl rfl | exact .inr rfl) (by exact trivial) rfl (ResL.one (ResA.tmp rfl)) (by first | exact out_c (by first | exact frz_c cv_rfl | exact frz_c cv_nil | exact frz_ownW rfl rfl (by first | rfl | with_reducible assumption | (simp <;> fail) | omega | (simp; omega) | assumption) | exact frz_eq (frz_c cv_rfl) (by first | rfl | (simp <;> fail) | fail)) | exact out_own rfl rfl)
    · repeat' (first
    | ((with_reducible refine aw_seqk ?_); intro K hK hX)
    | ((with_reducible refine isC_reg ?_); refine aw_prune [0, 2, 3, 4] rfl rfl ?_; with_reducible refine aw_region ?_)
    | (((with_reducible refine isA_any ?_); refine xA ?_); (first | ((with_reducible refine e_bin ?_); (first | refine ex_i (s_quoU (m := 128) (by decide) hx rfl rfl rfl) ?_ | refine ex_i (s_remU (m := 128) (by decide) rfl rfl rfl) ?_))))
    | refine stA ?_
    | (refine hK _ _ _ _ ?_; clear hK hX K)
    | (refine hX _ _ _ _ _ (by simp) ?_; clear hK hX K))
      rw [encN_ge hlt] at he
      refine ⟨(l ++ [UInt8.ofNat (x % 128 + 128)], m + 1, x / 128), ⟨by simp [hl], by simpa using he, by simp only; omega⟩, by simp only; omega, ?_⟩
      exact (by refine weak_ren [2] rfl rfl ?_ ?_ rfl rfl <;> (repeat' (first | exact weakER_nil | exact weakHR_nil | refine weakER_cons rfl (by first | rfl | (exact congrArg (AObj.row 5) (enc_step l x _ (by omega))) | exact own_eq rfl rfl (by omega) | exact int_eq (by omega) | (simp <;> fail) | (congr 4; omega) | (congr 3; omega) | (congr 2; omega)) rfl ?_ | refine weakHR_cons rfl (by first | rfl | (exact congrArg (AObj.row 5) (enc_step l x _ (by omega))) | exact own_eq rfl rfl (by omega) | exact int_eq (by omega) | (simp <;> fail) | (congr 4; omega) | (congr 3; omega) | (congr 2; omega)) rfl ?_)))
set_option maxHeartbeats 4000000 in
theorem ints_ok (n : Int) (hn : -9223372036854775808 ≤ n ∧ n ≤ 9223372036854775807) (k : Nat) (hk : (enc n).length = k) : AC Try.prog 119 [.v (.slice none 0 0), .sl 1 1 [iv n]] (.own 0 0 k 1 true) [(0, .row 5 (u8c (enc n)))] 1 := by
  by_cases h0 : n < 0
  · have hz : (~~~(BitVec.ofInt 64 n <<< 1)) = zig n := by unfold zig; rw [if_pos h0]
    refine ac_enter tabOk (sz := 38) Try.func119 rfl (by rw [Try.ntmps119]; rfl) ?_
    repeat' (first
    | ((with_reducible refine aw_seqk ?_); intro K hK hX)
    | ((with_reducible refine isC_reg ?_); refine aw_prune [0, 1, 4, 6, 7, 8, 9, 10] rfl rfl ?_; with_reducible refine aw_region ?_)
    | refine stA ?_
    | (refine hK _ _ _ _ ?_; clear hK hX K)
    | (refine hX _ _ _ _ _ (by simp) ?_; clear hK hX K))
    refine aw_rounds 2 ?_
    repeat' (first
    | ((with_reducible refine aw_seqk ?_); intro K hK hX)
    | ((with_reducible refine isC_reg ?_); refine aw_prune [0, 1, 4, 6, 7, 8, 9, 10] rfl rfl ?_; with_reducible refine aw_region ?_)
    | (refine awr_k ?_; intro K hK hX)
    | refine stA ?_
    | (refine hK _ _ _ _ ?_; clear hK hX K)
    | (refine hX _ _ _ _ _ (by simp) ?_; clear hK hX K))
    rw [hz]
    have hzl := (zig n).isLt
    have hz0 : [] ++ encN (zig n).toNat = enc n := rfl
    generalize (zig n).toNat = z at hzl hz0
    refine aw_nilown 0 5 1 rfl ?_
    refine aw_loopk 1 (fun p : List UInt8 × Nat × Nat => [(0, .own 0 0 p.2.1 1 true), (7, .c (uv p.2.2)), (8, .c (.sl 1 1 [iv n])), (9, .c (iv 1)), (10, .c (iv 0))]) (fun p => [(0, .row 5 (u8c p.1))]) [] (fun p => p.1.length = p.2.1 ∧ p.1 ++ encN p.2.2 = enc n ∧ p.2.2 < 18446744073709551616) (fun p => p.2.2) ([], 0, z) ⟨rfl, hz0, hzl⟩ weakA ?_
    rintro ⟨l, m, x⟩ ⟨hl, he, hx⟩ K hK hX
    dsimp only at hl he hx hK ⊢
    have hul : (u8c l).length = m := by rw [u8c_length, hl]
    obtain ⟨hk1, hk2, hk3⟩ := encN_len10 he hl hk
    by_cases hlt : x < 128
    · repeat' (first
    | ((with_reducible refine aw_seqk ?_); intro K hK hX)
    | ((with_reducible refine isC_reg ?_); refine aw_prune [0, 1, 4, 6, 7, 8, 9, 10] rfl rfl ?_; with_reducible refine aw_region ?_)
    | (refine awr_k ?_; intro K hK hX)
    | refine stA ?_
    | (refine hK _ _ _ _ ?_; clear hK hX K)
    | (refine hX _ _ _ _ _ (by simp) ?_; clear hK hX K))
      rw [encN_lt hlt] at he hk1
      have e1 : m + 1 = k := by simpa using hk1
      rw [e1, show u8c l ++ [[CV.v (.int .u8 (x : Int))]].flatten = u8c (enc n) from by rw [← he]; exact enc_last l x hlt]
      refine retK_mk (by first | exact .inl rfl | exact .inr rfl) (by exact trivial) rfl (ResL.one (ResA.tmp rfl)) (by first | exact out_c (by first | exact frz_c cv_rfl | exact frz_c cv_nil | exact frz_ownW rfl rfl (by first | rfl | with_reducible assumption | (simp <;> fail) | omega | (simp; omega) | assumption) | exact frz_eq (frz_c cv_rfl) (by first | rfl | (simp <;> fail) | fail)) | exact out_own rfl rfl)
    · have hx7 : x / 2 ^ 7 = x / 128 := rfl
      have hm7 : x % 256 % 128 + 128 = x % 128 + 128 := by omega
      have hlt8 : x % 256 < 256 := by omega
      repeat' (first
    | ((with_reducible refine aw_seqk ?_); intro K hK hX)
    | ((with_reducible refine isC_reg ?_); refine aw_prune [0, 1, 4, 6, 7, 8, 9, 10] rfl rfl ?_; with_reducible refine aw_region ?_)
    | (((with_reducible refine isA_any ?_); refine xA ?_); (first | ((with_reducible refine e_conv ?_); (first | refine ex_i (s_convU8 tabOk rfl rfl rfl rfl) ?_)) | ((with_reducible refine e_bin ?_); (first | refine ex_i (s_or128 hlt8 rfl rfl) ?_ | refine ex_i (s_shrU (m := 7) rfl rfl rfl (by decide)) ?_))))
    | refine stA ?_
    | (refine hK _ _ _ _ ?_; clear hK hX K)
    | (refine hX _ _ _ _ _ (by simp) ?_; clear hK hX K))
      rw [encN_ge hlt] at he
      refine ⟨(l ++ [UInt8.ofNat (x % 128 + 128)], m + 1, x / 128), ⟨by simp [hl], by simpa using he, by simp only; omega⟩, by simp only; omega, ?_⟩
      exact (by refine weak_ren [2] rfl rfl ?_ ?_ rfl rfl <;> (repeat' (first | exact weakER_nil | exact weakHR_nil | refine weakER_cons rfl (by first | rfl | (exact congrArg (AObj.row 5) (enc_step l x _ (by omega))) | exact own_eq rfl rfl (by omega) | exact int_eq (by omega) | (simp <;> fail) | (congr 4; omega) | (congr 3; omega) | (congr 2; omega)) rfl ?_ | refine weakHR_cons rfl (by first | rfl | (exact congrArg (AObj.row 5) (enc_step l x _ (by omega))) | exact own_eq rfl rfl (by omega) | exact int_eq (by omega) | (simp <;> fail) | (congr 4; omega) | (congr 3; omega) | (congr 2; omega)) rfl ?_)))
  · have hz : (BitVec.ofInt 64 n <<< 1) = zig n := by unfold zig; rw [if_neg h0]
    refine ac_enter tabOk (sz := 38) Try.func119 rfl (by rw [Try.ntmps119]; rfl) ?_
    repeat' (first
    | ((with_reducible refine aw_seqk ?_); intro K hK hX)
    | ((with_reducible refine isC_reg ?_); refine aw_prune [0, 1, 4, 6, 7, 8, 9, 10] rfl rfl ?_; with_reducible refine aw_region ?_)
    | refine stA ?_
    | (refine hK _ _ _ _ ?_; clear hK hX K)
    | (refine hX _ _ _ _ _ (by simp) ?_; clear hK hX K))
    refine aw_rounds 2 ?_
    repeat' (first
    | ((with_reducible refine aw_seqk ?_); intro K hK hX)
    | ((with_reducible refine isC_reg ?_); refine aw_prune [0, 1, 4, 6, 7, 8, 9, 10] rfl rfl ?_; with_reducible refine aw_region ?_)
    | (refine awr_k ?_; intro K hK hX)
    | refine stA ?_
    | (refine hK _ _ _ _ ?_; clear hK hX K)
    | (refine hX _ _ _ _ _ (by simp) ?_; clear hK hX K))
    rw [hz]
    have hzl := (zig n).isLt
    have hz0 : [] ++ encN (zig n).toNat = enc n := rfl
    generalize (zig n).toNat = z at hzl hz0
    refine aw_nilown 0 5 1 rfl ?_
    refine aw_loopk 1 (fun p : List UInt8 × Nat × Nat => [(0, .own 0 0 p.2.1 1 true), (7, .c (uv p.2.2)), (8, .c (.sl 1 1 [iv n])), (9, .c (iv 1)), (10, .c (iv 0))]) (fun p => [(0, .row 5 (u8c p.1))]) [] (fun p => p.1.length = p.2.1 ∧ p.1 ++ encN p.2.2 = enc n ∧ p.2.2 < 18446744073709551616) (fun p => p.2.2) ([], 0, z) ⟨rfl, hz0, hzl⟩ weakA ?_
    rintro ⟨l, m, x⟩ ⟨hl, he, hx⟩ K hK hX
    dsimp only at hl he hx hK ⊢
    have hul : (u8c l).length = m := by rw [u8c_length, hl]
    obtain ⟨hk1, hk2, hk3⟩ := encN_len10 he hl hk
    by_cases hlt : x < 128
    · repeat' (first
    | ((with_reducible refine aw_seqk ?_); intro K hK hX)
    | ((with_reducible refine isC_reg ?_); refine aw_prune [0, 1, 4, 6, 7, 8, 9, 10] rfl rfl ?_; with_reducible refine aw_region ?_)
    | (refine awr_k ?_; intro K hK hX)
    | refine stA ?_
    | (refine hK _ _ _ _ ?_; clear hK hX K)
    | (refine hX _ _ _ _ _ (by simp) ?_; clear hK hX K))
      rw [encN_lt hlt] at he hk1
      have e1 : m + 1 = k := by simpa using hk1
      rw [e1, show u8c l ++ [[CV.v (.int .u8 (x : Int))]].flatten = u8c (enc n) from by rw [← he]; exact enc_last l x hlt]
      refine retK_mk (by first | exact .inl rfl | exact .inr rfl) (by exact trivial) rfl (ResL.one (ResA.tmp rfl)) (by first | exact out_c (by first | exact frz_c cv_rfl | exact frz_c cv_nil | exact frz_ownW rfl rfl (by first | rfl | with_reducible assumption | (simp <;> fail) | omega | (simp; omega) | assumption) | exact frz_eq (frz_c cv_rfl) (by first | rfl | (simp <;> fail) | fail)) | exact out_own rfl rfl)
    · have hx7 : x / 2 ^ 7 = x / 128 := rfl
      have hm7 : x % 256 % 128 + 128 = x % 128 + 128 := by omega
      have hlt8 : x % 256 < 256 := by omega
      repeat' (first
    | ((with_reducible refine aw_seqk ?_); intro K hK hX)
    | ((with_reducible refine isC_reg ?_); refine aw_prune [0, 1, 4, 6, 7, 8, 9, 10] rfl rfl ?_; with_reducible refine aw_region ?_)
    | (((with_reducible refine isA_any ?_); refine xA ?_); (first | ((with_reducible refine e_conv ?_); (first | refine ex_i (s_convU8 tabOk rfl rfl rfl rfl) ?_)) | ((with_reducible refine e_bin ?_); (first | refine ex_i (s_or128 hlt8 rfl rfl) ?_ | refine ex_i (s_shrU (m := 7) rfl rfl rfl (by decide)) ?_))))
    | refine stA ?_
    | (refine hK _ _ _ _ ?_; clear hK hX K)
    | (refine hX _ _ _ _ _ (by simp) ?_; clear hK hX K))
      rw [encN_ge hlt] at he
      refine ⟨(l ++ [UInt8.ofNat (x % 128 + 128)], m + 1, x / 128), ⟨by simp [hl], by simpa using he, by simp only; omega⟩, by simp only; omega, ?_⟩
      exact (by refine weak_ren [2] rfl rfl ?_ ?_ rfl rfl <;> (repeat' (first | exact weakER_nil | exact weakHR_nil | refine weakER_cons rfl (by first | rfl | (exact congrArg (AObj.row 5) (enc_step l x _ (by omega))) | exact own_eq rfl rfl (by omega) | exact int_eq (by omega) | (simp <;> fail) | (congr 4; omega) | (congr 3; omega) | (congr 2; omega)) rfl ?_ | refine weakHR_cons rfl (by first | rfl | (exact congrArg (AObj.row 5) (enc_step l x _ (by omega))) | exact own_eq rfl rfl (by omega) | exact int_eq (by omega) | (simp <;> fail) | (congr 4; omega) | (congr 3; omega) | (congr 2; omega)) rfl ?_)))
set_option maxHeartbeats 4000000 in
theorem extend_ok (a b : List UInt8) (m k q : Nat) (ha : a.length = m) (hb : b.length = k) (hk : 0 < k) (hm : m ≤ 1000000) (hk2 : k ≤ 1000000) (hq : m + k = q) : AC Try.prog 118 [.sl 1 m (u8c a), .sl 1 k (u8c b)] (.own 0 0 q 1 true) [(0, .row 5 (u8c (a ++ b)))] 1 := by
  subst hq
  refine ac_enter tabOk (sz := 13) Try.func118 rfl (by rw [Try.ntmps118]; rfl) ?_
  repeat' (first
    | ((with_reducible refine aw_seqk ?_); intro K hK hX)
    | ((with_reducible refine isC_reg ?_); refine aw_prune [0, 1, 4] rfl rfl ?_; with_reducible refine aw_region ?_)
    | (refine awl_ext3 tabOk rfl rfl rfl rfl rfl rfl rfl rfl rfl rfl rfl rfl rfl rfl rfl src_c hk (by simp only [maxLen]; omega) (by show (m + k) * 1 ≤ _; omega) ?_)
    | refine stA ?_
    | (refine hK _ _ _ _ ?_; clear hK hX K)
    | (refine hX _ _ _ _ _ (by simp) ?_; clear hK hX K))
  rw [← u8c_app]
  refine retK_mk (by first | exact .inl rfl | exact .inr rfl) (by exact trivial) rfl (ResL.one (ResA.tmp rfl)) (by first | exact out_c (by first | exact frz_c cv_rfl | exact frz_c cv_nil | exact frz_ownW rfl rfl (by first | rfl | with_reducible assumption | (simp <;> fail) | omega | (simp; omega) | assumption) | exact frz_eq (frz_c cv_rfl) (by first | rfl | (simp <;> fail) | fail)) | exact out_own rfl rfl)
theorem apint_idle : Idle Try.prog 117 0 := by
  intro us w hl
  obtain ⟨_, rfl⟩ : ∃ _ : Unit, us = [] := by
    match us, hl with | [], _ => exact ⟨(), rfl⟩
  refine callsD_of_wpS Try.func117 rfl fun c₀ cs hu => ?_
  apply wpS_region
  simp [wpOpsS, go_sem, recoverD, hu, Try.ntmps117, Exit.thenS]
  cases c₀
  simp_all [bodyPostS, results, Try.results117]
theorem apint_idle_b : Body Try.prog 117 := by unfold Body; kernel_rfl
set_option maxHeartbeats 4000000 in
theorem appint_ok (a : List UInt8) (m : Nat) (n : Int) (hn : -9223372036854775808 ≤ n ∧ n ≤ 9223372036854775807) (k q : Nat) (ha : a.length = m) (hm : m ≤ 1000000) (hk : (enc n).length = k) (hq : m + k = q) : AC Try.prog 116 [.sl 1 m (u8c a), iv n] (.own 0 0 q 1 true) [(0, .row 5 (u8c (a ++ enc n)))] 1 := by
  have h1 := enc_len n
  have h2 := enc_pos n
  have hue : (u8c (enc n)).length = k := by rw [u8c_length, hk]
  have hie := ints_ok n hn k hk
  have hex := extend_ok a (enc n) m k q ha hk (by omega) hm (by omega) hq
  refine ac_enter tabOk (sz := 10) Try.func116 rfl (by rw [Try.ntmps116]; rfl) ?_
  repeat' (first
    | ((with_reducible refine aw_seqk ?_); intro K hK hX)
    | ((with_reducible refine isC_reg ?_); refine aw_prune [0, 1, 4] rfl rfl ?_; with_reducible refine aw_region ?_)
    | ((with_reducible refine isA_call ?_); (refine yA ?_); (first | refine cF1 (hie) ?_ | refine cF1 (hex) ?_))
    | refine stA ?_
    | (refine hK _ _ _ _ ?_; clear hK hX K)
    | (refine hX _ _ _ _ _ (by simp) ?_; clear hK hX K))
  refine retK_mk (by first | exact .inl rfl | exact .inr rfl) (by exact ⟨apint_idle, apint_idle_b, trivial⟩) rfl (ResL.one (ResA.tmp rfl)) (by first | exact out_c (by first | exact frz_c cv_rfl | exact frz_c cv_nil | exact frz_ownW rfl rfl (by first | rfl | with_reducible assumption | (simp <;> fail) | omega | (simp; omega) | assumption) | exact frz_eq (frz_c cv_rfl) (by first | rfl | (simp <;> fail) | fail)) | exact out_own rfl rfl)
end Go.Proofs.Ytgofigkhdjjlmaa
/-
  Lists of digests; trees of digests. Plain.
-/
set_option linter.unusedVariables false
set_option linter.unusedSimpArgs false
namespace Go.Proofs.Ytgofigkhdjjlmaa
open Go Go.RowKit Go.Av
/-- Lists of digests as cells. -/
def all32 (L : List (List UInt8)) : Prop := ∀ d ∈ L, d.length = 32
def dc (L : List (List UInt8)) : List CV := u8c L.flatten
theorem flat_len : ∀ {L : List (List UInt8)}, all32 L → L.flatten.length = L.length * 32
  | [], _ => rfl
  | d :: L, h => by
    rw [List.flatten_cons, List.length_append, h d (by simp), flat_len (L := L) (fun x hx => h x (by simp [hx])), List.length_cons]
    omega
theorem dc_length {L : List (List UInt8)} {n : Nat} (h : all32 L) (hn : L.length = n) : (dc L).length = n * 32 := by rw [dc, u8c_length, flat_len h, hn]
theorem flat_at : ∀ {L : List (List UInt8)} (i : Nat), all32 L → i < L.length → (L.flatten.drop (i * 32)).take 32 = L.getD i []
  | [], i, _, h => by simp at h
  | d :: L, 0, h, _ => by
    have := h d (by simp)
    simp [List.take_append_of_le_length, this]
  | d :: L, i + 1, h, hi => by
    have hd := h d (by simp)
    have := flat_at (L := L) i (fun x hx => h x (by simp [hx])) (by simpa using hi)
    rw [List.flatten_cons, show (i + 1) * 32 = d.length + i * 32 by omega, List.drop_append]
    simp only [Nat.add_sub_cancel_left, List.getD_cons_succ]
    rw [List.drop_of_length_le (by omega), List.nil_append]
    exact this
theorem dig_at {L : List (List UInt8)} (h : all32 L) (i : Nat) (hi : i < L.length) : ((dc L).drop (i * 32)).take 32 = u8c (L.getD i []) := by
  rw [dc, u8c_drop, u8c_take, flat_at i h hi]
theorem dig_at0 {L : List (List UInt8)} (h : all32 L) (i : Nat) (hi : i < L.length) : ((dc L).drop (0 + i * 32)).take 32 = u8c (L.getD i []) := by rw [Nat.zero_add]; exact dig_at h i hi
theorem getD32 {L : List (List UInt8)} (h : all32 L) (i : Nat) (hi : i < L.length) : (L.getD i []).length = 32 := by
  rw [List.getD_eq_getElem?_getD, List.getElem?_eq_getElem hi]
  exact h _ (List.getElem_mem hi)
/-- The tree. -/
def nodeD (x : List UInt8) : List UInt8 := sum 380#64 x
def joinD (a b : List UInt8) : List UInt8 := sum 381#64 (a ++ b)
def sealD (t : List UInt8) (n : Nat) : List UInt8 := sum 382#64 (t ++ enc (n : Int))
theorem nodeD_length (x : List UInt8) : (nodeD x).length = 32 := sum_length _ _
theorem joinD_length (a b : List UInt8) : (joinD a b).length = 32 := sum_length _ _
theorem sealD_length (t : List UInt8) (n : Nat) : (sealD t n).length = 32 := sum_length _ _
def zero32 : List UInt8 := List.replicate 32 0
/-- The way up: what is reached, and how many siblings were used. -/
def apl (S : List (List UInt8)) (n i used : Nat) (x : List UInt8) : Option (List UInt8 × Nat) :=
  if h : n ≤ 1 then some (x, used)
  else if i % 2 = 1 ∨ i + 1 < n then
    if used < S.length then apl S ((n + 1) / 2) (i / 2) (used + 1) (if i % 2 = 1 then joinD (S.getD used []) x else joinD x (S.getD used []))
    else none
  else apl S ((n + 1) / 2) (i / 2) used x
termination_by n
decreasing_by all_goals omega
theorem apl_end {S : List (List UInt8)} {n i used : Nat} {x : List UInt8} (h : n ≤ 1) : apl S n i used x = some (x, used) := by rw [apl, dif_pos h]
theorem apl_out {S : List (List UInt8)} {n i used : Nat} {x : List UInt8} (h : ¬ n ≤ 1) (h1 : i % 2 = 1 ∨ i + 1 < n) (h2 : ¬ used < S.length) : apl S n i used x = none := by rw [apl, dif_neg h, if_pos h1, if_neg h2]
theorem apl_odd {S : List (List UInt8)} {n i used : Nat} {x : List UInt8} (h : ¬ n ≤ 1) (h1 : i % 2 = 1) (h2 : used < S.length) : apl S n i used x = apl S ((n + 1) / 2) (i / 2) (used + 1) (joinD (S.getD used []) x) := by rw [apl, dif_neg h, if_pos (.inl h1), if_pos h2, if_pos h1]
theorem apl_even {S : List (List UInt8)} {n i used : Nat} {x : List UInt8} (h : ¬ n ≤ 1) (h1 : i % 2 = 0) (h3 : i + 1 < n) (h2 : used < S.length) : apl S n i used x = apl S ((n + 1) / 2) (i / 2) (used + 1) (joinD x (S.getD used [])) := by rw [apl, dif_neg h, if_pos (.inr h3), if_pos h2, if_neg (by omega)]
theorem apl_lone {S : List (List UInt8)} {n i used : Nat} {x : List UInt8} (h : ¬ n ≤ 1) (h1 : i % 2 = 0) (h3 : ¬ i + 1 < n) : apl S n i used x = apl S ((n + 1) / 2) (i / 2) used x := by rw [apl, dif_neg h, if_neg (by omega)]
/-- Apply: the digest and the error. -/
def badP (i c : Int) : Bool := decide (c < 1) || decide (4096 < c) || decide (i < 0) || decide (c ≤ i)
def appP (leaf : List UInt8) (i c : Int) (S : List (List UInt8)) : List UInt8 × Nat :=
  if badP i c = true then (zero32, 1) else
  match apl S c.toNat i.toNat 0 (nodeD leaf) with
  | none => (zero32, 1)
  | some (x, u) => if u = S.length then (sealD x c.toNat, 0) else (zero32, 1)
theorem appP_length (leaf : List UInt8) (i c : Int) (S : List (List UInt8)) : (appP leaf i c S).1.length = 32 := by
  unfold appP
  split
  · rfl
  · split
    · rfl
    · split
      · exact sealD_length _ _
      · rfl
end Go.Proofs.Ytgofigkhdjjlmaa
/-
  Slices put together; Keyed and Expand (walk), as the program has them.
-/
set_option linter.unusedVariables false
set_option linter.unusedSimpArgs false
namespace Go.Proofs.Ytgofigkhdjjlmaa
open Go Go.RowKit Go.Av
set_option maxRecDepth 100000
theorem keyed_idle : Idle Try.prog 81 0 := by
  intro us w hl
  obtain ⟨_, rfl⟩ : ∃ _ : Unit, us = [] := by
    match us, hl with | [], _ => exact ⟨(), rfl⟩
  refine callsD_of_wpS Try.func81 rfl fun c₀ cs hu => ?_
  apply wpS_region
  simp [wpOpsS, go_sem, recoverD, hu, Try.ntmps81, Exit.thenS]
  cases c₀
  simp_all [bodyPostS, results, Try.results81]
theorem keyed_idle_b : Body Try.prog 81 := by unfold Body; kernel_rfl
theorem expand_idle : Idle Try.prog 78 2 := by
  intro us w hl
  obtain ⟨u0, u1, rfl⟩ : ∃ u0 u1, us = [u0, u1] := by
    match us, hl with | [u0, u1], _ => exact ⟨u0, u1, rfl⟩
  refine callsD_of_wpS Try.func78 rfl fun c₀ cs hu => ?_
  apply wpS_seq
  apply wpS_region
  simp [wpOpsS, go_sem, recoverD, hu, Try.ntmps78, Exit.thenS]
  refine wpS_cond (t := false) (by simp [Act.eval, Array.replicate]) ?_
  simp only [Bool.false_eq_true, if_false]
  refine wpS_of_wp (wp_skip ?_)
  cases c₀
  simp_all [bodyPostS, results, Try.results78]
theorem expand_idle_b : Body Try.prog 78 := by unfold Body; kernel_rfl
attribute [local irreducible] Still Adds AWL AW Drw AC AWR Weak Frz Src RetK Out InK
attribute [local simp] u8c_take u8c_drop u8c_app
set_option maxHeartbeats 4000000 in
theorem grow_ok (k : Nat) (h0 : 0 < k) (hk : k ≤ 1000000000) : AC Try.prog 110 [.v (.slice none 0 0), iv k] (.own 0 0 0 1 true) [(0, .row 5 [])] 1 := by
  refine ac_enter tabOk (sz := 27) Try.func110 rfl (by rw [Try.ntmps110]; rfl) ?_
  repeat' (first
    | ((with_reducible refine aw_seqk ?_); intro K hK hX)
    | ((with_reducible refine isC_reg ?_); refine aw_prune [0, 1, 4] rfl rfl ?_; with_reducible refine aw_region ?_)
    | refine stA ?_
    | (refine hK _ _ _ _ ?_; clear hK hX K)
    | (refine hX _ _ _ _ _ (by simp) ?_; clear hK hX K))
  refine retK_mk (by first | exact .inl rfl | exact .inr rfl) (by exact trivial) rfl (ResL.one (ResA.tmp rfl)) (by first | exact out_c (by first | exact frz_c cv_rfl | exact frz_c cv_nil | exact frz_ownW rfl rfl (by first | rfl | with_reducible assumption | (simp <;> fail) | omega | (simp; omega) | assumption) | exact frz_eq (frz_c cv_rfl) (by first | rfl | (simp <;> fail) | fail)) | exact out_own rfl rfl)
set_option maxHeartbeats 4000000 in
theorem concat_ok (a b : List UInt8) (m n : Nat) (ha : a.length = m) (hb : b.length = n) (h0 : 0 < m) (hk : m + n ≤ 1000000000) : AC Try.prog 80 [.sl 1 2 [.sl 1 m (u8c a), .sl 1 n (u8c b)]] (.own 0 0 (m + n) 1 true) [(0, .row 5 (u8c (a ++ b)))] 1 := by
  have hua : (u8c a).length = m := by rw [u8c_length, ha]
  have hub : (u8c b).length = n := by rw [u8c_length, hb]
  refine ac_enter tabOk (sz := 36) Try.func80 rfl (by rw [Try.ntmps80]; rfl) ?_
  repeat' (first
    | ((with_reducible refine aw_seqk ?_); intro K hK hX)
    | ((with_reducible refine isC_reg ?_); refine aw_prune [0, 2, 3, 5, 6, 8, 9, 10, 11, 25, 26, 27] rfl rfl ?_; with_reducible refine aw_region ?_)
    | ((with_reducible refine isC_loop ?_); refine aw_rounds 3 ?_)
    | (refine awr_k ?_; intro K hK hX)
    | ((with_reducible refine isA_call ?_); (first | refine zA ?_ | refine zN ?_); (first | refine c1 (grow_ok (m + n) (by omega) (by omega)) ?_))
    | refine stA ?_
    | (refine hK _ _ _ _ ?_; clear hK hX K)
    | (refine hX _ _ _ _ _ (by simp) ?_; clear hK hX K))
  rw [show 0 + m + n = m + n by omega, List.nil_append, ← u8c_app]
  refine retK_mk (by first | exact .inl rfl | exact .inr rfl) (by exact trivial) rfl (ResL.one (ResA.tmp rfl)) (by first | exact out_c (by first | exact frz_c cv_rfl | exact frz_c cv_nil | exact frz_ownW rfl rfl (by first | rfl | with_reducible assumption | (simp <;> fail) | omega | (simp; omega) | assumption) | exact frz_eq (frz_c cv_rfl) (by first | rfl | (simp <;> fail) | fail)) | exact out_own rfl rfl)
set_option maxHeartbeats 4000000 in
theorem keyed_ok (dom : BitVec 64) (k l : List UInt8) (n : Nat) (hk : k.length = 32) (hl : l.length = n) (hm : n ≤ 100000000) : AC Try.prog 44 [wv dom, .agg (u8c k), .sl 1 n (u8c l)] (.c (.agg (u8c (sum dom (k ++ l))))) [] 0 := by
  have hua : (u8c k).length = 32 := by rw [u8c_length, hk]
  have hub : (u8c l).length = n := by rw [u8c_length, hl]
  have hus : (u8c (sum dom (k ++ l))).length = 32 := by rw [u8c_length, sum_length]
  have hukl : (u8c (k ++ l)).length = 32 + n := by rw [u8c_length, List.length_append]; omega
  refine ac_enter tabOk (sz := 13) Try.func44 rfl (by rw [Try.ntmps44]; rfl) ?_
  repeat' (first
    | ((with_reducible refine aw_seqk ?_); intro K hK hX)
    | ((with_reducible refine isC_reg ?_); refine aw_prune [0, 1, 2, 4, 6] rfl rfl ?_; with_reducible refine aw_region ?_)
    | refine stA ?_
    | (refine hK _ _ _ _ ?_; clear hK hX K)
    | (refine hX _ _ _ _ _ (by simp) ?_; clear hK hX K))
  refine awl_weak (weak_fz (E := [(6, .ref 1 0), (7, .c (wv dom)), (8, .c (.sl 1 32 (u8c k))), (9, .c (.sl 1 n (u8c l)))]) (Hp := [(1, .row 35 z32)]) (by repeat' (first | exact FzE.nil | refine FzE.cons rfl ?_ ?_ | exact fz_same | exact fz_ref rfl rfl | exact fz_ownW rfl rfl (by first | rfl | with_reducible assumption | (simp <;> fail) | omega | (simp; omega) | assumption) | exact fz_own rfl rfl (by first | exact whole0 (by first | rfl | omega) | rfl) (by first | rfl | with_reducible assumption | (simp <;> fail) | omega | (simp; omega) | assumption))) (by repeat' (first | exact trivial | refine ⟨rfl, ?_⟩))) ?_
  repeat' (first
    | ((with_reducible refine aw_seqk ?_); intro K hK hX)
    | ((with_reducible refine isC_reg ?_); refine aw_prune [0, 1, 2, 4, 6] rfl rfl ?_; with_reducible refine aw_region ?_)
    | ((with_reducible refine isA_call ?_); (first | refine wA ?_ | refine wN ?_); (first | refine cF (sum_ok dom (k ++ l) (32 + n) (by simp; omega) (by simp only [maxLen]; omega)) ?_))
    | ((with_reducible refine isA_call ?_); (refine yA ?_); (first | refine cF1 (concat_ok k l 32 n hk hl (by decide) (by omega)) ?_))
    | refine stA ?_
    | (refine hK _ _ _ _ ?_; clear hK hX K)
    | (refine hX _ _ _ _ _ (by simp) ?_; clear hK hX K))
  refine retK_mk (by first | exact .inl rfl | exact .inr rfl) (by exact ⟨keyed_idle, keyed_idle_b, trivial⟩) rfl (ResL.one (by first | exact ResA.one rfl rfl rfl rfl rfl | exact ResA.agg rfl rfl rfl rfl rfl (by first | exact IsAgg.closed rfl rfl | exact IsAgg.mixed _) | exact ResA.aggr rfl rfl rfl rfl (by first | rfl | with_reducible assumption | (simp <;> fail) | omega | (simp; omega) | assumption))) (by first | exact out_c (by first | exact frz_c cv_rfl | exact frz_c cv_nil | exact frz_ownW rfl rfl (by first | rfl | with_reducible assumption | (simp <;> fail) | omega | (simp; omega) | assumption) | exact frz_eq (frz_c cv_rfl) (by first | rfl | (simp <;> fail) | fail)) | exact out_own rfl rfl)
theorem zc_u8 (n : Nat) : zc [Value.int .u8 0] n = u8c (List.replicate n 0) := by
  induction n with
  | zero => rfl
  | succ n ih =>
    simp only [zc, List.replicate_succ, List.flatten_cons, u8c, List.map_cons] at ih ⊢
    rw [ih]
    rfl
set_option maxHeartbeats 4000000 in
theorem expand_ok (dom : BitVec 64) (k : List UInt8) (n : Nat) (hk : k.length = 32) (hm : n ≤ 4096) : AC Try.prog 39 [wv dom, .agg (u8c k), iv n] (.tup [.c (.sl 1 n (u8c (outB (absorb dom k) n))), .c (iv 0)]) [] 0 := by
  have hua : (u8c k).length = 32 := by rw [u8c_length, hk]
  have g1 : (decide ((n : Int) < 0) == false) = true := by rw [decide_eq_false (by omega)]; rfl
  refine ac_enter tabOk (sz := 24) Try.func39 rfl (by rw [Try.ntmps39]; rfl) ?_
  repeat' (first
    | ((with_reducible refine aw_seqk ?_); intro K hK hX)
    | ((with_reducible refine isC_reg ?_); refine aw_prune [0, 1, 2, 4, 6, 7, 8] rfl rfl ?_; with_reducible refine aw_region ?_)
    | ((with_reducible refine isA_call ?_); (first | refine wA ?_ | refine wN ?_); (first | refine cF (absorb_ok dom k 32 hk (by decide)) ?_))
    | ((first | with_reducible refine isA_call ?_ | with_reducible refine isA_callv ?_); refine awl_inl tabOk [0, 1, 2, 3, 4, 5, 6, 7, 8, 9, 10, 11, 12, 13, 14, 15, 16, 17, 18, 19, 20, 21, 22, 23, 24, 25, 26, 27, 28, 29] g_none rfl rfl (by unfold Body; kernel_rfl) Try.func71 rfl rfl rfl (szf := 30) (by rw [Try.ntmps71]; rfl) rfl ?_)
    | refine stA ?_
    | (refine hK _ _ _ _ ?_; clear hK hX K)
    | (refine hX _ _ _ _ _ (by simp) ?_; clear hK hX K)
    | (first | refine inK_some (by first | exact .inl rfl | exact .inr rfl) (by exact trivial) rfl rfl ResL.none ?_ | refine inK_none (by first | exact .inl rfl | exact .inr rfl) (by exact trivial) rfl rfl ResL.none ?_))
  generalize hS : absorb dom k = S
  refine aw_loopk 5 (fun i : Nat => [(1, .own 3 0 n 1 true), (2, .ref 4 0), (6, .c (iv n)), (7, .c (iv i))]) (fun i => [(0, .row 35 (u8c k)), (1, .blk 22 [.c (.v (.slice none 0 0))]), (2, .blk 39 [.c (iv 0)]), (3, .row 5 (u8c (fil S n i))), (4, .row 30 (stAt S i).cs)]) _ (fun i => i ≤ n) (fun i => n - i) 0 (by omega) (by refine weak_mk rfl ?_ ?_ rfl <;> (repeat' (first | exact weakE_nil | exact weakH_nil | refine weakE_cons rfl (by first | rfl | (exact congrArg (AObj.row 5) (by rw [fil_zero]; exact zc_u8 n)) | exact own_eq rfl rfl (by omega) | exact int_eq (by omega) | (simp <;> fail) | (congr 4; omega) | (congr 3; omega) | (congr 2; omega)) rfl ?_ | refine weakH_cons rfl (by first | rfl | (exact congrArg (AObj.row 5) (by rw [fil_zero]; exact zc_u8 n)) | exact own_eq rfl rfl (by omega) | exact int_eq (by omega) | (simp <;> fail) | (congr 4; omega) | (congr 3; omega) | (congr 2; omega)) rfl ?_))) ?_
  intro i hi K hK hX
  by_cases hlt : i < n
  · skip
    have hlen : (u8c (fil S n i)).length = n := by rw [u8c_length, fil_length _ _ _ (by omega)]
    by_cases h0 : 0 < i
    · have g1 : (decide ((0 : Int) < (i : Int)) == true) = true := by rw [decide_eq_true (by omega)]; rfl
      by_cases h8 : i % 8 = 0
      · repeat' (first
    | ((with_reducible refine aw_seqk ?_); intro K hK hX)
    | ((with_reducible refine isC_reg ?_); refine aw_prune [0, 1, 2, 4, 6, 7, 8] rfl rfl ?_; with_reducible refine aw_region ?_)
    | ((with_reducible refine isA_call ?_); (first | refine zA ?_ | refine zN ?_); (first | refine c0 (permute_ok (stAt S i)) ?_))
    | ((first | with_reducible refine isA_call ?_ | with_reducible refine isA_callv ?_); refine awl_inl tabOk [0, 1, 2, 3, 4, 5, 6, 7, 8, 9, 10, 11, 12, 13, 14, 15, 16, 17, 18, 19, 20, 21, 22, 23, 24, 25, 26, 27, 28, 29] g_none rfl rfl (by unfold Body; kernel_rfl) Try.func71 rfl rfl rfl (szf := 30) (by rw [Try.ntmps71]; rfl) rfl ?_)
    | (((with_reducible refine isA_any ?_); refine xA ?_); (first | ((with_reducible refine e_bin ?_); (first | refine ex_i (s_shrW rfl isW_rfl rfl (show 8 * ((i : Int) % 8) = ((8 * (i % 8) : Nat) : Int) by omega)) ?_))))
    | ((with_reducible refine isA_store ?_); (refine awl_store1r tabOk g_none rfl rfl rfl rfl rfl rfl (by first | omega | exact Nat.le_of_ble_eq_true rfl | omega | (simp; omega)) ?_))
    | refine stA ?_
    | (refine hK _ _ _ _ ?_; clear hK hX K)
    | (refine hX _ _ _ _ _ (by simp) ?_; clear hK hX K)
    | (first | refine inK_some (by first | exact .inl rfl | exact .inr rfl) (by exact trivial) rfl rfl ResL.none ?_ | refine inK_none (by first | exact .inl rfl | exact .inr rfl) (by exact trivial) rfl rfl ResL.none ?_))
        rw [stAt_next S i ⟨h0, h8⟩]
        exact ⟨i + 1, by omega, by omega, (by refine weak_mk rfl ?_ ?_ rfl <;> (repeat' (first | exact weakE_nil | exact weakH_nil | refine weakE_cons rfl (by first | rfl | (exact congrArg (AObj.row 5) (fil_set S n i hlt)) | exact own_eq rfl rfl (by omega) | exact int_eq (by omega) | (simp <;> fail) | (congr 4; omega) | (congr 3; omega) | (congr 2; omega)) rfl ?_ | refine weakH_cons rfl (by first | rfl | (exact congrArg (AObj.row 5) (fil_set S n i hlt)) | exact own_eq rfl rfl (by omega) | exact int_eq (by omega) | (simp <;> fail) | (congr 4; omega) | (congr 3; omega) | (congr 2; omega)) rfl ?_)))⟩
      · repeat' (first
    | ((with_reducible refine aw_seqk ?_); intro K hK hX)
    | ((with_reducible refine isC_reg ?_); refine aw_prune [0, 1, 2, 4, 6, 7, 8] rfl rfl ?_; with_reducible refine aw_region ?_)
    | ((first | with_reducible refine isA_call ?_ | with_reducible refine isA_callv ?_); refine awl_inl tabOk [0, 1, 2, 3, 4, 5, 6, 7, 8, 9, 10, 11, 12, 13, 14, 15, 16, 17, 18, 19, 20, 21, 22, 23, 24, 25, 26, 27, 28, 29] g_none rfl rfl (by unfold Body; kernel_rfl) Try.func71 rfl rfl rfl (szf := 30) (by rw [Try.ntmps71]; rfl) rfl ?_)
    | (((with_reducible refine isA_any ?_); refine xA ?_); (first | ((with_reducible refine e_bin ?_); (first | refine ex_i (s_shrW rfl isW_rfl rfl (show 8 * ((i : Int) % 8) = ((8 * (i % 8) : Nat) : Int) by omega)) ?_))))
    | ((with_reducible refine isA_store ?_); (refine awl_store1r tabOk g_none rfl rfl rfl rfl rfl rfl (by first | omega | exact Nat.le_of_ble_eq_true rfl | omega | (simp; omega)) ?_))
    | refine stA ?_
    | (refine hK _ _ _ _ ?_; clear hK hX K)
    | (refine hX _ _ _ _ _ (by simp) ?_; clear hK hX K)
    | (first | refine inK_some (by first | exact .inl rfl | exact .inr rfl) (by exact trivial) rfl rfl ResL.none ?_ | refine inK_none (by first | exact .inl rfl | exact .inr rfl) (by exact trivial) rfl rfl ResL.none ?_))
        rw [stAt_same S i (fun h => h8 h.2)]
        exact ⟨i + 1, by omega, by omega, (by refine weak_mk rfl ?_ ?_ rfl <;> (repeat' (first | exact weakE_nil | exact weakH_nil | refine weakE_cons rfl (by first | rfl | (exact congrArg (AObj.row 5) (fil_set S n i hlt)) | exact own_eq rfl rfl (by omega) | exact int_eq (by omega) | (simp <;> fail) | (congr 4; omega) | (congr 3; omega) | (congr 2; omega)) rfl ?_ | refine weakH_cons rfl (by first | rfl | (exact congrArg (AObj.row 5) (fil_set S n i hlt)) | exact own_eq rfl rfl (by omega) | exact int_eq (by omega) | (simp <;> fail) | (congr 4; omega) | (congr 3; omega) | (congr 2; omega)) rfl ?_)))⟩
    · have g1 : (decide ((0 : Int) < (i : Int)) == true) = false := by rw [decide_eq_false (by omega)]; rfl
      repeat' (first
    | ((with_reducible refine aw_seqk ?_); intro K hK hX)
    | ((with_reducible refine isC_reg ?_); refine aw_prune [0, 1, 2, 4, 6, 7, 8] rfl rfl ?_; with_reducible refine aw_region ?_)
    | ((first | with_reducible refine isA_call ?_ | with_reducible refine isA_callv ?_); refine awl_inl tabOk [0, 1, 2, 3, 4, 5, 6, 7, 8, 9, 10, 11, 12, 13, 14, 15, 16, 17, 18, 19, 20, 21, 22, 23, 24, 25, 26, 27, 28, 29] g_none rfl rfl (by unfold Body; kernel_rfl) Try.func71 rfl rfl rfl (szf := 30) (by rw [Try.ntmps71]; rfl) rfl ?_)
    | (((with_reducible refine isA_any ?_); refine xA ?_); (first | ((with_reducible refine e_bin ?_); (first | refine ex_i (s_shrW rfl isW_rfl rfl (show 8 * ((i : Int) % 8) = ((8 * (i % 8) : Nat) : Int) by omega)) ?_))))
    | ((with_reducible refine isA_store ?_); (refine awl_store1r tabOk g_none rfl rfl rfl rfl rfl rfl (by first | omega | exact Nat.le_of_ble_eq_true rfl | omega | (simp; omega)) ?_))
    | refine stA ?_
    | (refine hK _ _ _ _ ?_; clear hK hX K)
    | (refine hX _ _ _ _ _ (by simp) ?_; clear hK hX K)
    | (first | refine inK_some (by first | exact .inl rfl | exact .inr rfl) (by exact trivial) rfl rfl ResL.none ?_ | refine inK_none (by first | exact .inl rfl | exact .inr rfl) (by exact trivial) rfl rfl ResL.none ?_))
      rw [stAt_same S i (fun h => h0 h.1)]
      exact ⟨i + 1, by omega, by omega, (by refine weak_mk rfl ?_ ?_ rfl <;> (repeat' (first | exact weakE_nil | exact weakH_nil | refine weakE_cons rfl (by first | rfl | (exact congrArg (AObj.row 5) (fil_set S n i hlt)) | exact own_eq rfl rfl (by omega) | exact int_eq (by omega) | (simp <;> fail) | (congr 4; omega) | (congr 3; omega) | (congr 2; omega)) rfl ?_ | refine weakH_cons rfl (by first | rfl | (exact congrArg (AObj.row 5) (fil_set S n i hlt)) | exact own_eq rfl rfl (by omega) | exact int_eq (by omega) | (simp <;> fail) | (congr 4; omega) | (congr 3; omega) | (congr 2; omega)) rfl ?_)))⟩
  · obtain rfl : i = n := by omega
    repeat' (first
    | ((with_reducible refine aw_seqk ?_); intro K hK hX)
    | ((with_reducible refine isC_reg ?_); refine aw_prune [0, 1, 2, 4, 6, 7, 8] rfl rfl ?_; with_reducible refine aw_region ?_)
    | ((first | with_reducible refine isA_call ?_ | with_reducible refine isA_callv ?_); refine awl_inl tabOk [0, 1, 2, 3, 4, 5, 6, 7, 8, 9, 10, 11, 12, 13, 14, 15, 16, 17, 18, 19, 20, 21, 22, 23, 24, 25, 26, 27, 28, 29] g_none rfl rfl (by unfold Body; kernel_rfl) Try.func71 rfl rfl rfl (szf := 30) (by rw [Try.ntmps71]; rfl) rfl ?_)
    | refine stA ?_
    | (refine hK _ _ _ _ ?_; clear hK hX K)
    | (refine hX _ _ _ _ _ (by simp) ?_; clear hK hX K)
    | (first | refine inK_some (by first | exact .inl rfl | exact .inr rfl) (by exact trivial) rfl rfl ResL.none ?_ | refine inK_none (by first | exact .inl rfl | exact .inr rfl) (by exact trivial) rfl rfl ResL.none ?_))
    rw [fil_full]
    subst hS
    have hlen : (u8c (outB (absorb dom k) i)).length = i := by rw [u8c_length, outB_length]
    refine retK_mk (by first | exact .inl rfl | exact .inr rfl) (by exact ⟨expand_idle, expand_idle_b, trivial⟩) rfl (ResL.two (by first | exact ResA.one rfl rfl rfl rfl rfl | exact ResA.agg rfl rfl rfl rfl rfl (by first | exact IsAgg.closed rfl rfl | exact IsAgg.mixed _) | exact ResA.aggr rfl rfl rfl rfl (by first | rfl | with_reducible assumption | (simp <;> fail) | omega | (simp; omega) | assumption)) (by first | exact ResA.one rfl rfl rfl rfl rfl | exact ResA.agg rfl rfl rfl rfl rfl (by first | exact IsAgg.closed rfl rfl | exact IsAgg.mixed _) | exact ResA.aggr rfl rfl rfl rfl (by first | rfl | with_reducible assumption | (simp <;> fail) | omega | (simp; omega) | assumption))) (out_t (frzl_cons (by first | exact frz_c cv_rfl | exact frz_c cv_nil | exact frz_ownW rfl rfl (by first | rfl | with_reducible assumption | (simp <;> fail) | omega | (simp; omega) | assumption) | exact frz_eq (frz_c cv_rfl) (by first | rfl | (simp <;> fail) | fail)) (frzl_cons (by first | exact frz_c cv_rfl | exact frz_c cv_nil | exact frz_ownW rfl rfl (by first | rfl | with_reducible assumption | (simp <;> fail) | omega | (simp; omega) | assumption) | exact frz_eq (frz_c cv_rfl) (by first | rfl | (simp <;> fail) | fail)) frzl_nil)))
set_option maxHeartbeats 4000000 in
theorem expand_bad (dom : BitVec 64) (k : List UInt8) (n : Int) (hk : k.length = 32) (hm : n < 0 ∨ 4096 < n) : AC Try.prog 39 [wv dom, .agg (u8c k), iv n] (.tup [.c (.v (.slice none 0 0)), .c (iv 1)]) [] 0 := by
  have hua : (u8c k).length = 32 := by rw [u8c_length, hk]
  by_cases h0 : n < 0
  · have g1 : (decide (n < 0) == false) = false := by rw [decide_eq_true h0]; rfl
    refine ac_enter tabOk (sz := 24) Try.func39 rfl (by rw [Try.ntmps39]; rfl) ?_
    repeat' (first
    | ((with_reducible refine aw_seqk ?_); intro K hK hX)
    | ((with_reducible refine isC_reg ?_); refine aw_prune [0, 1, 2, 4, 6, 7, 8] rfl rfl ?_; with_reducible refine aw_region ?_)
    | refine stA ?_
    | (refine hK _ _ _ _ ?_; clear hK hX K)
    | (refine hX _ _ _ _ _ (by simp) ?_; clear hK hX K))
    refine retK_mk (by first | exact .inl rfl | exact .inr rfl) (by exact ⟨expand_idle, expand_idle_b, trivial⟩) rfl (ResL.two (by first | exact ResA.one rfl rfl rfl rfl rfl | exact ResA.agg rfl rfl rfl rfl rfl (by first | exact IsAgg.closed rfl rfl | exact IsAgg.mixed _) | exact ResA.aggr rfl rfl rfl rfl (by first | rfl | with_reducible assumption | (simp <;> fail) | omega | (simp; omega) | assumption)) (by first | exact ResA.one rfl rfl rfl rfl rfl | exact ResA.agg rfl rfl rfl rfl rfl (by first | exact IsAgg.closed rfl rfl | exact IsAgg.mixed _) | exact ResA.aggr rfl rfl rfl rfl (by first | rfl | with_reducible assumption | (simp <;> fail) | omega | (simp; omega) | assumption))) (out_t (frzl_cons (by first | exact frz_c cv_rfl | exact frz_c cv_nil | exact frz_ownW rfl rfl (by first | rfl | with_reducible assumption | (simp <;> fail) | omega | (simp; omega) | assumption) | exact frz_eq (frz_c cv_rfl) (by first | rfl | (simp <;> fail) | fail)) (frzl_cons (by first | exact frz_c cv_rfl | exact frz_c cv_nil | exact frz_ownW rfl rfl (by first | rfl | with_reducible assumption | (simp <;> fail) | omega | (simp; omega) | assumption) | exact frz_eq (frz_c cv_rfl) (by first | rfl | (simp <;> fail) | fail)) frzl_nil)))
  · have g1 : (decide (n < 0) == false) = true := by rw [decide_eq_false h0]; rfl
    refine ac_enter tabOk (sz := 24) Try.func39 rfl (by rw [Try.ntmps39]; rfl) ?_
    repeat' (first
    | ((with_reducible refine aw_seqk ?_); intro K hK hX)
    | ((with_reducible refine isC_reg ?_); refine aw_prune [0, 1, 2, 4, 6, 7, 8] rfl rfl ?_; with_reducible refine aw_region ?_)
    | refine stA ?_
    | (refine hK _ _ _ _ ?_; clear hK hX K)
    | (refine hX _ _ _ _ _ (by simp) ?_; clear hK hX K))
    refine retK_mk (by first | exact .inl rfl | exact .inr rfl) (by exact ⟨expand_idle, expand_idle_b, trivial⟩) rfl (ResL.two (by first | exact ResA.one rfl rfl rfl rfl rfl | exact ResA.agg rfl rfl rfl rfl rfl (by first | exact IsAgg.closed rfl rfl | exact IsAgg.mixed _) | exact ResA.aggr rfl rfl rfl rfl (by first | rfl | with_reducible assumption | (simp <;> fail) | omega | (simp; omega) | assumption)) (by first | exact ResA.one rfl rfl rfl rfl rfl | exact ResA.agg rfl rfl rfl rfl rfl (by first | exact IsAgg.closed rfl rfl | exact IsAgg.mixed _) | exact ResA.aggr rfl rfl rfl rfl (by first | rfl | with_reducible assumption | (simp <;> fail) | omega | (simp; omega) | assumption))) (out_t (frzl_cons (by first | exact frz_c cv_rfl | exact frz_c cv_nil | exact frz_ownW rfl rfl (by first | rfl | with_reducible assumption | (simp <;> fail) | omega | (simp; omega) | assumption) | exact frz_eq (frz_c cv_rfl) (by first | rfl | (simp <;> fail) | fail)) (frzl_cons (by first | exact frz_c cv_rfl | exact frz_c cv_nil | exact frz_ownW rfl rfl (by first | rfl | with_reducible assumption | (simp <;> fail) | omega | (simp; omega) | assumption) | exact frz_eq (frz_c cv_rfl) (by first | rfl | (simp <;> fail) | fail)) frzl_nil)))
end Go.Proofs.Ytgofigkhdjjlmaa
/-
  Pair (walk), as the reference and as the program have it.
-/
set_option linter.unusedVariables false
set_option linter.unusedSimpArgs false
namespace Go.Proofs.Ytgofigkhdjjlmaa
open Go Go.RowKit Go.Av
set_option maxRecDepth 100000
theorem pair_idle : Idle Try.prog 79 0 := by
  intro us w hl
  obtain ⟨_, rfl⟩ : ∃ _ : Unit, us = [] := by
    match us, hl with | [], _ => exact ⟨(), rfl⟩
  refine callsD_of_wpS Try.func79 rfl fun c₀ cs hu => ?_
  apply wpS_region
  simp [wpOpsS, go_sem, recoverD, hu, Try.ntmps79, Exit.thenS]
  cases c₀
  simp_all [bodyPostS, results, Try.results79]
theorem pair_idle_b : Body Try.prog 79 := by unfold Body; kernel_rfl
attribute [local irreducible] Still Adds AWL AW Drw AC AWR Weak Frz Src RetK Out InK permute
attribute [local simp] u8c_take u8c_drop u8c_app
set_option maxHeartbeats 4000000 in
theorem rpair_ok (dom : BitVec 64) (a b : List UInt8) (ha : a.length = 32) (hb : b.length = 32) : AC Try.prog 43 [wv dom, .agg (u8c a), .agg (u8c b)] (.c (.agg (u8c (sum dom (a ++ b))))) [] 0 := by
  have hua : (u8c a).length = 32 := by rw [u8c_length, ha]
  have hub : (u8c b).length = 32 := by rw [u8c_length, hb]
  refine ac_enter tabOk (sz := 14) Try.func43 rfl (by rw [Try.ntmps43]; rfl) ?_
  repeat' (first
    | ((with_reducible refine aw_seqk ?_); intro K hK hX)
    | ((with_reducible refine isC_reg ?_); refine aw_prune [0, 1, 2, 4, 5, 6] rfl rfl ?_; with_reducible refine aw_region ?_)
    | ((with_reducible refine isC_draw ?_); refine aw_prune [0, 1, 2, 4, 5, 6] rfl rfl ?_; refine aw_drwF [] ?_)
    | (refine drw_endX [0] (by kernel_rfl) (by kernel_rfl) (by kernel_rfl) rfl ?_)
    | (refine k_only ?_)
    | ((first | with_reducible refine isA_call ?_ | with_reducible refine isD_call ?_); (first | refine wA ?_ | refine wN ?_ | refine wD ?_); (first | refine cF (rsum_ok dom (a ++ b) 64 (by simp; omega) (by decide)) ?_))
    | ((first | with_reducible refine isA_call ?_ | with_reducible refine isD_call ?_); (first | refine zA ?_ | refine zN ?_ | refine zD ?_); (first | refine c1 (bytes_ok a ha) ?_ | refine c1 (bytes_ok b hb) ?_))
    | refine stA ?_
    | refine stD ?_
    | (refine hK _ _ _ _ ?_; clear hK hX K)
    | (refine hX _ _ _ _ _ (by simp) ?_; clear hK hX K))
  have hus : (u8c (sum dom (a ++ b))).length = 32 := by rw [u8c_length, sum_length]
  refine retK_mk (by first | exact .inl rfl | exact .inr rfl) (by exact trivial) rfl (ResL.one (by first | exact ResA.one rfl rfl rfl rfl rfl | exact ResA.agg rfl rfl rfl rfl rfl (by first | exact IsAgg.closed rfl rfl | exact IsAgg.mixed _) | exact ResA.aggr rfl rfl rfl rfl (by first | rfl | with_reducible assumption | (simp <;> fail) | omega | (simp; omega) | assumption))) (by first | exact out_c (by first | exact frz_c cv_rfl | exact frz_c cv_nil | exact frz_ownW rfl rfl (by first | rfl | with_reducible assumption | (simp <;> fail) | omega | (simp; omega) | assumption) | exact frz_eq (frz_c cv_rfl) (by first | rfl | (simp <;> fail) | fail)) | exact out_own rfl rfl)
set_option maxHeartbeats 4000000 in
theorem pair_ok (dom : BitVec 64) (a b : List UInt8) (ha : a.length = 32) (hb : b.length = 32) : AC Try.prog 42 [wv dom, .agg (u8c a), .agg (u8c b)] (.c (.agg (u8c (sum dom (a ++ b))))) [] 0 := by
  have hua : (u8c a).length = 32 := by rw [u8c_length, ha]
  have hub : (u8c b).length = 32 := by rw [u8c_length, hb]
  have huab : (u8c (a ++ b)).length = 64 := by rw [u8c_length, List.length_append]; omega
  have hus : (u8c (sum dom (a ++ b))).length = 32 := by rw [u8c_length, sum_length]
  refine ac_enter tabOk (sz := 13) Try.func42 rfl (by rw [Try.ntmps42]; rfl) ?_
  repeat' (first
    | ((with_reducible refine aw_seqk ?_); intro K hK hX)
    | ((with_reducible refine isC_reg ?_); refine aw_prune [0, 1, 2, 4, 5, 6] rfl rfl ?_; with_reducible refine aw_region ?_)
    | refine stA ?_
    | refine stD ?_
    | (refine hK _ _ _ _ ?_; clear hK hX K)
    | (refine hX _ _ _ _ _ (by simp) ?_; clear hK hX K))
  refine aw_weak (weak_fz (E := [(0, .c (wv dom)), (4, .ip (u8c a) 0), (5, .ip (u8c b) 0), (6, .ref 2 0)]) (Hp := [(2, .row 35 z32)]) (by repeat' (first | exact FzE.nil | refine FzE.cons rfl ?_ ?_ | exact fz_same | exact fz_ref rfl rfl | exact fz_ownW rfl rfl (by first | rfl | with_reducible assumption | (simp <;> fail) | omega | (simp; omega) | assumption) | exact fz_own rfl rfl (by first | exact whole0 (by first | rfl | omega) | rfl) (by first | rfl | with_reducible assumption | (simp <;> fail) | omega | (simp; omega) | assumption))) (by repeat' (first | exact trivial | refine ⟨rfl, ?_⟩))) ?_
  repeat' (first
    | ((with_reducible refine aw_seqk ?_); intro K hK hX)
    | ((with_reducible refine isC_reg ?_); refine aw_prune [0, 1, 2, 4, 5, 6] rfl rfl ?_; with_reducible refine aw_region ?_)
    | ((with_reducible refine isC_draw ?_); refine aw_prune [0, 1, 2, 4, 5, 6] rfl rfl ?_; refine aw_drwF [] ?_)
    | ((first | with_reducible refine isA_call ?_ | with_reducible refine isD_call ?_); (first | refine wA ?_ | refine wN ?_ | refine wD ?_); (first | refine cF (sum_ok dom (a ++ b) 64 (by simp; omega) (by decide)) ?_))
    | ((first | with_reducible refine isA_call ?_ | with_reducible refine isD_call ?_); (first | refine yA ?_ | refine yD ?_); (first | refine cF1 (concat_ok a b 32 32 ha hb (by decide) (by decide)) ?_))
    | refine stA ?_
    | refine stD ?_
    | (refine hK _ _ _ _ ?_; clear hK hX K)
    | (refine hX _ _ _ _ _ (by simp) ?_; clear hK hX K))
  refine retK_mk (by first | exact .inl rfl | exact .inr rfl) (by exact ⟨pair_idle, pair_idle_b, trivial⟩) rfl (ResL.one (by first | exact ResA.one rfl rfl rfl rfl rfl | exact ResA.agg rfl rfl rfl rfl rfl (by first | exact IsAgg.closed rfl rfl | exact IsAgg.mixed _) | exact ResA.aggr rfl rfl rfl rfl (by first | rfl | with_reducible assumption | (simp <;> fail) | omega | (simp; omega) | assumption))) (by first | exact out_c (by first | exact frz_c cv_rfl | exact frz_c cv_nil | exact frz_ownW rfl rfl (by first | rfl | with_reducible assumption | (simp <;> fail) | omega | (simp; omega) | assumption) | exact frz_eq (frz_c cv_rfl) (by first | rfl | (simp <;> fail) | fail)) | exact out_own rfl rfl)
end Go.Proofs.Ytgofigkhdjjlmaa
/-
  The sanity check of the layer (walk), and the plain laws for it.
-/
set_option linter.unusedVariables false
set_option linter.unusedSimpArgs false
namespace Go.Proofs.Ytgofigkhdjjlmaa
open Go Go.RowKit Go.Av
set_option maxRecDepth 100000
theorem hx_dg (n : Nat) (h : n < 16) : dg (hx n) = some n := by
  have : ∀ n : Fin 16, dg (hx n.val) = some n.val := by decide
  exact this ⟨n, h⟩
theorem fmt_at : ∀ (l : List UInt8) (i : Nat), i < l.length → (fmt l)[2 * i]? = some (hx ((l.getD i 0).toNat / 16)) ∧ (fmt l)[2 * i + 1]? = some (hx ((l.getD i 0).toNat % 16))
  | [], i, h => by simp at h
  | b :: l, 0, h => by simp [fmt]
  | b :: l, i + 1, h => by
    have := fmt_at l i (by simpa using h)
    simp only [fmt, List.flatMap_cons, List.cons_append, List.nil_append, show 2 * (i + 1) = 2 * i + 2 by omega, show 2 * i + 2 + 1 = 2 * i + 1 + 2 by omega, List.getElem?_cons_succ, List.getD_cons_succ] at this ⊢
    exact this
theorem sb_fmt (l : List UInt8) (i : Nat) (h : i < l.length) : sb ⟨(fmt l).toArray⟩ (2 * i) = hx ((l.getD i 0).toNat / 16) ∧ sb ⟨(fmt l).toArray⟩ (2 * i + 1) = hx ((l.getD i 0).toNat % 16) := by
  obtain ⟨h1, h2⟩ := fmt_at l i h
  constructor
  · simp only [sb, Array.getD_eq_getD_getElem?, List.getElem?_toArray, h1, Option.getD_some]
  · simp only [sb, Array.getD_eq_getD_getElem?, List.getElem?_toArray, h2, Option.getD_some]
theorem dg_fmt (l : List UInt8) (i : Nat) (h : i < l.length) : dg (sb ⟨(fmt l).toArray⟩ (2 * i)) = some ((l.getD i 0).toNat / 16) ∧ dg (sb ⟨(fmt l).toArray⟩ (2 * i + 1)) = some ((l.getD i 0).toNat % 16) := by
  obtain ⟨h1, h2⟩ := sb_fmt l i h
  have := (l.getD i 0).toNat_lt
  rw [h1, h2]
  exact ⟨hx_dg _ (by omega), hx_dg _ (by omega)⟩
theorem good_fmt (l : List UInt8) (hl : l.length = 32) : good ⟨(fmt l).toArray⟩ := by
  refine ⟨?_, fun i hi => ?_⟩
  · show (fmt l).toArray.size = 64
    rw [List.size_toArray, fmt_length, hl]
  · obtain ⟨h1, h2⟩ := dg_fmt l (i / 2) (by omega)
    rcases Nat.mod_two_eq_zero_or_one i with h | h
    · rw [show i = 2 * (i / 2) by omega, h1]; rfl
    · rw [show i = 2 * (i / 2) + 1 by omega, h2]; rfl
theorem pb_fmt (l : List UInt8) (i : Nat) (h : i < l.length) : pb ⟨(fmt l).toArray⟩ i = l.getD i 0 := by
  obtain ⟨h1, h2⟩ := dg_fmt l i h
  have := (l.getD i 0).toNat_lt
  apply UInt8.toNat.inj
  rw [pb_nat]
  simp only [dv, h1, h2, Option.getD_some]
  omega
theorem pval_fmt (l : List UInt8) (hl : l.length = 32) : pval ⟨(fmt l).toArray⟩ = l := by
  rw [pval_good _ (good_fmt l hl)]
  apply List.ext_getElem (by simp [hl])
  intro i h1 h2
  rw [List.getElem_map, List.getElem_range, pb_fmt l i h2]
  simp [List.getD, List.getElem?_eq_getElem h2]
theorem perr_fmt (l : List UInt8) (hl : l.length = 32) : perr ⟨(fmt l).toArray⟩ = 0 := perr_good _ (good_fmt l hl)
theorem sum1_ne : sum 1#64 [] ≠ List.replicate 32 0 := by decide +kernel
theorem u8c_int (l : List UInt8) : u8c l = intc .u8 (l.map fun b => (b.toNat : Int)) := by simp [u8c, intc]
theorem u8_inj (l l' : List UInt8) : (l.map fun b => (b.toNat : Int)) = (l'.map fun b => (b.toNat : Int)) ↔ l = l' := by
  constructor
  · intro h
    exact (List.map_inj_right (fun a b hab => by
      have : a.toNat = b.toNat := by omega
      exact UInt8.toNat.inj this)).1 h
  · rintro rfl; rfl
section
variable {P : Program} {tab : Tab} {ev : Evl} {h : Heap} {d : Option Tmp} {T ty T' E n : Nat} {x y : Operand} {pos : String} {aft : Array Edge} {gd : Option (Nat × Bool)} {e e' : TyE} {l l' : List UInt8} {cs cs' : List CV} {b : Bool} (tb : TabOk P tab) (hg : P.eqGuardType P.depth T = false) (hT : tyLook tab T = some e) (hk : e.kind = .array n E) (hE : tyLook tab E = some e') (hke : e'.kind = .int .u8) (hs : Nat.beq e'.size 1 = true) (hx : ev x = some (.c (.agg cs))) (hy : ev y = some (.c (.agg cs'))) (hcx : cs = u8c l) (hcy : cs' = u8c l') (hlx : l.length = n) (hly : l'.length = n)
include tb hg hT hk hE hke hs hx hy hcx hcy hlx hly
theorem s_eqlU (hb : decide (l = l') = b) : Still P ⟨d, .binOp .eql T x y T', ty, pos, aft, gd⟩ ev h (.c (.v (.bool b))) :=
  s_eqlA tb hg hT hk hE hke hs hx hy (hcx.trans (u8c_int l)) (hcy.trans (u8c_int l')) (by rw [List.length_map]; exact hlx) (by rw [List.length_map]; exact hly) (by rw [← hb]; exact decide_eq_decide.2 (u8_inj l l'))
theorem s_neqU (hb : (!decide (l = l')) = b) : Still P ⟨d, .binOp .neq T x y T', ty, pos, aft, gd⟩ ev h (.c (.v (.bool b))) :=
  s_neqA tb hg hT hk hE hke hs hx hy (hcx.trans (u8c_int l)) (hcy.trans (u8c_int l')) (by rw [List.length_map]; exact hlx) (by rw [List.length_map]; exact hly) (by rw [← hb]; exact congrArg (!·) (decide_eq_decide.2 (u8_inj l l')))
end
attribute [local irreducible] Still Adds AWL AW Drw AC AWR Weak Frz Src RetK Out InK
set_option maxHeartbeats 4000000 in
theorem awake_ok : AC Try.prog 32 [] (.c (.v (.bool true))) [] 0 := by
  have hs : (sum 1#64 []).length = 32 := sum_length _ _
  have hus : (u8c (sum 1#64 [])).length = 32 := by rw [u8c_length, hs]
  have hpa := parse_ok ⟨(fmt (sum 1#64 [])).toArray⟩
  rw [pval_fmt _ hs, perr_fmt _ hs] at hpa
  have hne := sum1_ne
  have hne' : (!decide (sum 1#64 [] = List.replicate 32 0)) = true := by rw [decide_eq_false hne]; rfl
  clear hne
  have hsu := sum_ok 1#64 [] 0 rfl (by decide)
  have hrs := rsum_ok 1#64 [] 0 rfl (by decide)
  generalize sum 1#64 [] = D at *
  refine ac_enter tabOk (sz := 28) Try.func32 rfl (by rw [Try.ntmps32]; rfl) ?_
  repeat' (first
    | ((with_reducible refine aw_seqk ?_); intro K hK hX)
    | ((with_reducible refine isC_reg ?_); refine aw_prune [0, 1, 2, 3] rfl rfl ?_; with_reducible refine aw_region ?_)
    | ((with_reducible refine isC_draw ?_); refine aw_prune [0, 1, 2, 3] rfl rfl ?_; refine aw_drwF [] ?_)
    | ((first | with_reducible refine isA_call ?_ | with_reducible refine isD_call ?_); (first | refine zA ?_ | refine zN ?_ | refine zD ?_); (first | refine c0 (hsu) ?_ | refine c0 (hrs) ?_ | refine c0 (format_ok D hs) ?_ | refine c0 (hpa) ?_))
    | ((first | ((with_reducible refine isA_any ?_); refine xA ?_) | ((with_reducible refine isDk_any ?_); refine xD ?_)); (first | ((with_reducible refine e_bin ?_); (first | refine ex_i (s_eqlU tabOk (by kernel_rfl) rfl rfl rfl rfl rfl rfl rfl rfl rfl hs hs (decide_eq_true rfl)) ?_ | refine ex_i (s_neqU tabOk (by kernel_rfl) rfl rfl rfl rfl rfl rfl rfl rfl (l' := List.replicate 32 0) rfl hs rfl hne') ?_))))
    | refine stA ?_
    | refine stD ?_
    | (refine hK _ _ _ _ ?_; clear hK hX K)
    | (refine hX _ _ _ _ _ (by simp) ?_; clear hK hX K))
  refine retK_mk (by first | exact .inl rfl | exact .inr rfl) (by exact trivial) rfl (ResL.one (ResA.tmp rfl)) (by first | exact out_c (by first | exact frz_c cv_rfl | exact frz_c cv_nil | exact frz_ownW rfl rfl (by first | rfl | with_reducible assumption | (simp <;> fail) | omega | (simp; omega) | assumption) | exact frz_eq (frz_c cv_rfl) (by first | rfl | (simp <;> fail) | fail)) | exact out_own rfl rfl)
end Go.Proofs.Ytgofigkhdjjlmaa
/-
  Nodes, roots, Apply and Verify of trees (walk), as the program and as the reference have them.
-/
set_option linter.unusedVariables false
set_option linter.unusedSimpArgs false
namespace Go.Proofs.Ytgofigkhdjjlmaa
open Go Go.RowKit Go.Av
set_option maxRecDepth 100000
section
variable {P : Program} {tab : Tab} {ev : Evl} {h : Heap} {d : Option Tmp} {T ty T' : TypeId} {x y : Operand} {pos : String} {aft : Array Edge} {gd : Option (Nat × Bool)}
theorem xor1 (i : Nat) : i ^^^ 1 = if i % 2 = 0 then i + 1 else i - 1 := by
  have h1 := Nat.xor_div_two_pow (a := i) (b := 1) (n := 1)
  have h2 := Nat.xor_mod_two_pow (a := i) (b := 1) (n := 1)
  rw [Nat.pow_one] at h1 h2
  have h1' : (i ^^^ 1) / 2 = i / 2 := by rw [h1]; simp
  rcases Nat.mod_two_eq_zero_or_one i with h | h
  · rw [h] at h2
    have h2' : (i ^^^ 1) % 2 = 1 := h2
    rw [if_pos h]
    omega
  · rw [h] at h2
    have h2' : (i ^^^ 1) % 2 = 0 := h2
    rw [if_neg (by omega)]
    omega
theorem s_xor1 {b c : Nat} (hb : b < 1000000) (hc : (if b % 2 = 0 then b + 1 else b - 1) = c) (hx : ev x = some (.c (.v (.int .i64 (b : Int))))) (hy : ev y = some (.c (.v (.int .i64 1)))) : Still P ⟨d, .binOp .xor T x y T', ty, pos, aft, gd⟩ ev h (.c (.v (.int .i64 (c : Int)))) :=
  s_xor hx hy (by
    subst hc
    show IntKind.i64.wrap ((BitVec.ofInt 64 (b : Int) ^^^ BitVec.ofInt 64 1).toNat : Int) = _
    have e1 : BitVec.ofInt 64 (b : Int) = BitVec.ofNat 64 b := by simp
    have e2 : BitVec.ofInt 64 1 = BitVec.ofNat 64 1 := by decide
    have e3 : (BitVec.ofNat 64 b ^^^ BitVec.ofNat 64 1).toNat = if b % 2 = 0 then b + 1 else b - 1 := by
      rw [BitVec.toNat_xor, BitVec.toNat_ofNat, BitVec.toNat_ofNat, Nat.mod_eq_of_lt (by omega)]
      exact xor1 b
    rw [e1, e2, e3]
    split <;> exact w64 (by omega) (by omega))
end
attribute [local irreducible] Still Adds AWL AW Drw AC AWR Weak Frz Src RetK Out InK permute
attribute [local simp] u8c_take u8c_drop u8c_app
set_option maxHeartbeats 4000000 in
theorem node_ok (x : List UInt8) (hx : x.length = 32) : AC Try.prog 102 [.agg (u8c x)] (.c (.agg (u8c (nodeD x)))) [] 0 := by
  have hux : (u8c x).length = 32 := by rw [u8c_length, hx]
  have hk := keyed_ok 380#64 x [] 0 hx rfl (by decide)
  rw [List.append_nil] at hk
  have hus : (u8c (nodeD x)).length = 32 := by rw [u8c_length, nodeD_length]
  unfold nodeD at *
  refine ac_enter tabOk (sz := 5) Try.func102 rfl (by rw [Try.ntmps102]; rfl) ?_
  repeat' (first
    | ((with_reducible refine aw_seqk ?_); intro K hK hX)
    | ((with_reducible refine isC_reg ?_); refine aw_prune [0, 1, 2] rfl rfl ?_; with_reducible refine aw_region ?_)
    | ((with_reducible refine isA_call ?_); (first | refine zA ?_ | refine zN ?_); (first | refine c0 (hk) ?_))
    | refine stA ?_
    | (refine hK _ _ _ _ ?_; clear hK hX K)
    | (refine hX _ _ _ _ _ (by simp) ?_; clear hK hX K))
  refine retK_mk (by first | exact .inl rfl | exact .inr rfl) (by exact trivial) rfl (ResL.one (by first | exact ResA.one rfl rfl rfl rfl rfl | exact ResA.agg rfl rfl rfl rfl rfl (by first | exact IsAgg.closed rfl rfl | exact IsAgg.mixed _) | exact ResA.aggr rfl rfl rfl rfl (by first | rfl | with_reducible assumption | (simp <;> fail) | omega | (simp; omega) | assumption))) (by first | exact out_c (by first | exact frz_c cv_rfl | exact frz_c cv_nil | exact frz_ownW rfl rfl (by first | rfl | with_reducible assumption | (simp <;> fail) | omega | (simp; omega) | assumption) | exact frz_eq (frz_c cv_rfl) (by first | rfl | (simp <;> fail) | fail)) | exact out_own rfl rfl)
set_option maxHeartbeats 4000000 in
theorem rnode_ok (x : List UInt8) (hx : x.length = 32) : AC Try.prog 97 [.agg (u8c x)] (.c (.agg (u8c (nodeD x)))) [] 0 := by
  have hux : (u8c x).length = 32 := by rw [u8c_length, hx]
  have hk := rkeyed_ok 380#64 x [] 0 hx rfl (by decide)
  rw [List.append_nil] at hk
  have hus : (u8c (nodeD x)).length = 32 := by rw [u8c_length, nodeD_length]
  unfold nodeD at *
  refine ac_enter tabOk (sz := 5) Try.func97 rfl (by rw [Try.ntmps97]; rfl) ?_
  repeat' (first
    | ((with_reducible refine aw_seqk ?_); intro K hK hX)
    | ((with_reducible refine isC_reg ?_); refine aw_prune [0, 1, 2] rfl rfl ?_; with_reducible refine aw_region ?_)
    | ((with_reducible refine isA_call ?_); (first | refine zA ?_ | refine zN ?_); (first | refine c0 (hk) ?_))
    | refine stA ?_
    | (refine hK _ _ _ _ ?_; clear hK hX K)
    | (refine hX _ _ _ _ _ (by simp) ?_; clear hK hX K))
  refine retK_mk (by first | exact .inl rfl | exact .inr rfl) (by exact trivial) rfl (ResL.one (by first | exact ResA.one rfl rfl rfl rfl rfl | exact ResA.agg rfl rfl rfl rfl rfl (by first | exact IsAgg.closed rfl rfl | exact IsAgg.mixed _) | exact ResA.aggr rfl rfl rfl rfl (by first | rfl | with_reducible assumption | (simp <;> fail) | omega | (simp; omega) | assumption))) (by first | exact out_c (by first | exact frz_c cv_rfl | exact frz_c cv_nil | exact frz_ownW rfl rfl (by first | rfl | with_reducible assumption | (simp <;> fail) | omega | (simp; omega) | assumption) | exact frz_eq (frz_c cv_rfl) (by first | rfl | (simp <;> fail) | fail)) | exact out_own rfl rfl)
set_option maxHeartbeats 4000000 in
theorem rjoin_ok (x y : List UInt8) (hx : x.length = 32) (hy : y.length = 32) : AC Try.prog 103 [.agg (u8c x), .agg (u8c y)] (.c (.agg (u8c (joinD x y)))) [] 0 := by
  have hux : (u8c x).length = 32 := by rw [u8c_length, hx]
  have huy : (u8c y).length = 32 := by rw [u8c_length, hy]
  have hk := rpair_ok 381#64 x y hx hy
  have hus : (u8c (joinD x y)).length = 32 := by rw [u8c_length, joinD_length]
  unfold joinD at *
  refine ac_enter tabOk (sz := 8) Try.func103 rfl (by rw [Try.ntmps103]; rfl) ?_
  repeat' (first
    | ((with_reducible refine aw_seqk ?_); intro K hK hX)
    | ((with_reducible refine isC_reg ?_); refine aw_prune [0, 1, 2, 3, 4] rfl rfl ?_; with_reducible refine aw_region ?_)
    | ((with_reducible refine isA_call ?_); (first | refine zA ?_ | refine zN ?_); (first | refine c0 (hk) ?_))
    | refine stA ?_
    | (refine hK _ _ _ _ ?_; clear hK hX K)
    | (refine hX _ _ _ _ _ (by simp) ?_; clear hK hX K))
  refine retK_mk (by first | exact .inl rfl | exact .inr rfl) (by exact trivial) rfl (ResL.one (by first | exact ResA.one rfl rfl rfl rfl rfl | exact ResA.agg rfl rfl rfl rfl rfl (by first | exact IsAgg.closed rfl rfl | exact IsAgg.mixed _) | exact ResA.aggr rfl rfl rfl rfl (by first | rfl | with_reducible assumption | (simp <;> fail) | omega | (simp; omega) | assumption))) (by first | exact out_c (by first | exact frz_c cv_rfl | exact frz_c cv_nil | exact frz_ownW rfl rfl (by first | rfl | with_reducible assumption | (simp <;> fail) | omega | (simp; omega) | assumption) | exact frz_eq (frz_c cv_rfl) (by first | rfl | (simp <;> fail) | fail)) | exact out_own rfl rfl)
set_option maxHeartbeats 4000000 in
theorem seal_ok (x : List UInt8) (n : Nat) (hx : x.length = 32) (hn : n ≤ 100000) : AC Try.prog 96 [.agg (u8c x), iv n] (.c (.agg (u8c (sealD x n)))) [] 0 := by
  have hux : (u8c x).length = 32 := by rw [u8c_length, hx]
  have hl := enc_len (n : Int)
  have he := appint_ok [] 0 (n : Int) (by omega) _ _ rfl (by decide) rfl rfl
  rw [Nat.zero_add] at he
  have hue : (u8c (enc (n : Int))).length = (enc (n : Int)).length := u8c_length _
  have hk := keyed_ok 382#64 x (enc (n : Int)) _ hx rfl (by omega)
  have hus : (u8c (sealD x n)).length = 32 := by rw [u8c_length, sealD_length]
  unfold sealD at *
  rw [List.nil_append] at he
  generalize (enc (n : Int)).length = k at *
  refine ac_enter tabOk (sz := 9) Try.func96 rfl (by rw [Try.ntmps96]; rfl) ?_
  repeat' (first
    | ((with_reducible refine aw_seqk ?_); intro K hK hX)
    | ((with_reducible refine isC_reg ?_); refine aw_prune [0, 1, 2, 4] rfl rfl ?_; with_reducible refine aw_region ?_)
    | ((with_reducible refine isC_draw ?_); refine aw_prune [0, 1, 2, 4] rfl rfl ?_; refine aw_drwF [] ?_)
    | ((first | with_reducible refine isA_call ?_ | with_reducible refine isD_call ?_); (first | refine wA ?_ | refine wN ?_ | refine wD ?_); (first | refine cF (hk) ?_))
    | ((first | with_reducible refine isA_call ?_ | with_reducible refine isD_call ?_); (first | refine zA ?_ | refine zN ?_ | refine zD ?_); (first | refine c1 (he) ?_))
    | refine stA ?_
    | refine stD ?_
    | (refine hK _ _ _ _ ?_; clear hK hX K)
    | (refine hX _ _ _ _ _ (by simp) ?_; clear hK hX K))
  refine retK_mk (by first | exact .inl rfl | exact .inr rfl) (by exact trivial) rfl (ResL.one (by first | exact ResA.one rfl rfl rfl rfl rfl | exact ResA.agg rfl rfl rfl rfl rfl (by first | exact IsAgg.closed rfl rfl | exact IsAgg.mixed _) | exact ResA.aggr rfl rfl rfl rfl (by first | rfl | with_reducible assumption | (simp <;> fail) | omega | (simp; omega) | assumption))) (by first | exact out_c (by first | exact frz_c cv_rfl | exact frz_c cv_nil | exact frz_ownW rfl rfl (by first | rfl | with_reducible assumption | (simp <;> fail) | omega | (simp; omega) | assumption) | exact frz_eq (frz_c cv_rfl) (by first | rfl | (simp <;> fail) | fail)) | exact out_own rfl rfl)
set_option maxHeartbeats 4000000 in
theorem rroot_ok (x : List UInt8) (n : Nat) (hx : x.length = 32) (hn : n ≤ 100000) : AC Try.prog 99 [.agg (u8c x), iv n] (.c (.agg (u8c (sealD x n)))) [] 0 := by
  have hux : (u8c x).length = 32 := by rw [u8c_length, hx]
  have hl := enc_len (n : Int)
  have he := rint_ok (n : Int) (by omega) _ rfl
  have hue : (u8c (enc (n : Int))).length = (enc (n : Int)).length := u8c_length _
  have hk := rkeyed_ok 382#64 x (enc (n : Int)) _ hx rfl (by omega)
  have hus : (u8c (sealD x n)).length = 32 := by rw [u8c_length, sealD_length]
  unfold sealD at *
  generalize (enc (n : Int)).length = k at *
  refine ac_enter tabOk (sz := 9) Try.func99 rfl (by rw [Try.ntmps99]; rfl) ?_
  repeat' (first
    | ((with_reducible refine aw_seqk ?_); intro K hK hX)
    | ((with_reducible refine isC_reg ?_); refine aw_prune [0, 1, 2, 4] rfl rfl ?_; with_reducible refine aw_region ?_)
    | ((with_reducible refine isC_draw ?_); refine aw_prune [0, 1, 2, 4] rfl rfl ?_; refine aw_drwF [] ?_)
    | ((first | with_reducible refine isA_call ?_ | with_reducible refine isD_call ?_); (first | refine wA ?_ | refine wN ?_ | refine wD ?_); (first | refine cF (hk) ?_))
    | ((first | with_reducible refine isA_call ?_ | with_reducible refine isD_call ?_); (first | refine zA ?_ | refine zN ?_ | refine zD ?_); (first | refine c1 (he) ?_))
    | refine stA ?_
    | refine stD ?_
    | (refine hK _ _ _ _ ?_; clear hK hX K)
    | (refine hX _ _ _ _ _ (by simp) ?_; clear hK hX K))
  refine retK_mk (by first | exact .inl rfl | exact .inr rfl) (by exact trivial) rfl (ResL.one (by first | exact ResA.one rfl rfl rfl rfl rfl | exact ResA.agg rfl rfl rfl rfl rfl (by first | exact IsAgg.closed rfl rfl | exact IsAgg.mixed _) | exact ResA.aggr rfl rfl rfl rfl (by first | rfl | with_reducible assumption | (simp <;> fail) | omega | (simp; omega) | assumption))) (by first | exact out_c (by first | exact frz_c cv_rfl | exact frz_c cv_nil | exact frz_ownW rfl rfl (by first | rfl | with_reducible assumption | (simp <;> fail) | omega | (simp; omega) | assumption) | exact frz_eq (frz_c cv_rfl) (by first | rfl | (simp <;> fail) | fail)) | exact out_own rfl rfl)
end Go.Proofs.Ytgofigkhdjjlmaa
/-
  Links of chains and leaves of last links (walk), as the program and as the reference have them.
-/
set_option linter.unusedVariables false
set_option linter.unusedSimpArgs false
namespace Go.Proofs.Ytgofigkhdjjlmaa
open Go Go.RowKit Go.Av
set_option maxRecDepth 100000
def linkN : Nat → List UInt8 → List UInt8
  | 0, x => x
  | n + 1, x => sum 392#64 (linkN n x)
theorem linkN_length {x : List UInt8} (hx : x.length = 32) : ∀ n, (linkN n x).length = 32
  | 0 => hx
  | _ + 1 => sum_length _ _
theorem linkN_step (n : Nat) (x : List UInt8) : sum 392#64 (linkN n x) = linkN (n + 1) x := rfl
def leafD (L : List (List UInt8)) : List UInt8 := sum 393#64 L.flatten
theorem leafD_length (L : List (List UInt8)) : (leafD L).length = 32 := sum_length _ _
theorem take_flat {L : List (List UInt8)} {i : Nat} (hi : i < L.length) : (L.take (i + 1)).flatten = (L.take i).flatten ++ L.getD i [] := by
  rw [List.take_add_one, List.getElem?_eq_getElem hi, List.flatten_append, List.getD_eq_getElem?_getD, List.getElem?_eq_getElem hi]
  simp
theorem take_flat_u {L : List (List UInt8)} {i : Nat} (hi : i < L.length) : u8c (L.take i).flatten ++ u8c (L.getD i []) = u8c (L.take (i + 1)).flatten := by rw [take_flat hi, u8c_app]
theorem take_flat_len {L : List (List UInt8)} (h : all32 L) {i : Nat} (hi : i ≤ L.length) : (u8c (L.take i).flatten).length = i * 32 := by
  rw [u8c_length, flat_len (fun d hd => h d (List.mem_of_mem_take hd)), List.length_take, Nat.min_eq_left hi]
attribute [local irreducible] Still Adds AWL AW Drw DrwE EStep AC AWR Weak Frz Src RetK Out InK permute
attribute [local simp] u8c_take u8c_drop u8c_app
set_option maxHeartbeats 4000000 in
theorem walk_ok (x : List UInt8) (n : Nat) (hx : x.length = 32) (hn : n ≤ 100000) : AC Try.prog 85 [.agg (u8c x), iv n] (.c (.agg (u8c (linkN n x)))) [] 0 := by
  have hux : (u8c x).length = 32 := by rw [u8c_length, hx]
  refine ac_enter tabOk (sz := 12) Try.func85 rfl (by rw [Try.ntmps85]; rfl) ?_
  repeat' (first
    | ((with_reducible refine aw_seqk ?_); intro K hK hX)
    | ((with_reducible refine isC_reg ?_); refine aw_prune [0, 1, 2, 4, 5, 6] rfl rfl ?_; with_reducible refine aw_region ?_)
    | refine stA ?_
    | (refine hK _ _ _ _ ?_; clear hK hX K)
    | (refine hX _ _ _ _ _ (by simp) ?_; clear hK hX K))
  refine aw_loopk 2 (fun i : Nat => [(2, .ref 0 0), (4, .ref 1 0), (5, .c (iv n)), (6, .c (iv i))]) (fun i => [(0, .row 35 (u8c (linkN i x))), (1, .row 35 z32)]) [] (fun i => i ≤ n) (fun i => n - i) 0 (by omega) weakA ?_
  intro i hi K hK hX
  have hxi := linkN_length hx i
  have hui : (u8c (linkN i x)).length = 32 := by rw [u8c_length, hxi]
  by_cases hlt : i < n
  · have hk := keyed_ok 392#64 (linkN i x) [] 0 hxi rfl (by decide)
    rw [List.append_nil, linkN_step] at hk
    have hui' : (u8c (linkN (i + 1) x)).length = 32 := by rw [u8c_length, linkN_length hx]
    repeat' (first
    | ((with_reducible refine aw_seqk ?_); intro K hK hX)
    | ((with_reducible refine isC_reg ?_); refine aw_prune [0, 1, 2, 4, 5, 6] rfl rfl ?_; with_reducible refine aw_region ?_)
    | ((with_reducible refine isA_call ?_); (first | refine zA ?_ | refine zN ?_); (first | refine c0 (hk) ?_))
    | refine stA ?_
    | (refine hK _ _ _ _ ?_; clear hK hX K)
    | (refine hX _ _ _ _ _ (by simp) ?_; clear hK hX K))
    exact ⟨i + 1, by omega, by omega, weakA⟩
  · have hin : i = n := by omega
    repeat' (first
    | ((with_reducible refine aw_seqk ?_); intro K hK hX)
    | ((with_reducible refine isC_reg ?_); refine aw_prune [0, 1, 2, 4, 5, 6] rfl rfl ?_; with_reducible refine aw_region ?_)
    | refine stA ?_
    | (refine hK _ _ _ _ ?_; clear hK hX K)
    | (refine hX _ _ _ _ _ (by simp) ?_; clear hK hX K))
    rw [← hin]
    refine retK_mk (by first | exact .inl rfl | exact .inr rfl) (by exact trivial) rfl (ResL.one (by first | exact ResA.one rfl rfl rfl rfl rfl | exact ResA.agg rfl rfl rfl rfl rfl (by first | exact IsAgg.closed rfl rfl | exact IsAgg.mixed _) | exact ResA.aggr rfl rfl rfl rfl (by first | rfl | with_reducible assumption | (simp <;> fail) | omega | (simp; omega) | assumption))) (by first | exact out_c (by first | exact frz_c cv_rfl | exact frz_c cv_nil | exact frz_ownW rfl rfl (by first | rfl | with_reducible assumption | (simp <;> fail) | omega | (simp; omega) | assumption) | exact frz_eq (frz_c cv_rfl) (by first | rfl | (simp <;> fail) | fail)) | exact out_own rfl rfl)
set_option maxHeartbeats 4000000 in
theorem rlinks_ok (x : List UInt8) (n : Nat) (hx : x.length = 32) (hn : n ≤ 100000) : AC Try.prog 87 [.agg (u8c x), iv n] (.c (.agg (u8c (linkN n x)))) [] 0 := by
  have hux : (u8c x).length = 32 := by rw [u8c_length, hx]
  refine ac_enter tabOk (sz := 14) Try.func87 rfl (by rw [Try.ntmps87]; rfl) ?_
  repeat' (first
    | ((with_reducible refine aw_seqk ?_); intro K hK hX)
    | ((with_reducible refine isC_reg ?_); refine aw_prune [0, 1, 2, 4, 5] rfl rfl ?_; with_reducible refine aw_region ?_)
    | refine stA ?_
    | (refine hK _ _ _ _ ?_; clear hK hX K)
    | (refine hX _ _ _ _ _ (by simp) ?_; clear hK hX K))
  refine aw_loopk 2 (fun i : Nat => [(1, .c (iv n)), (2, .ref 0 0), (4, .ref 1 0), (5, .c (iv i))]) (fun i => [(0, .row 35 (u8c (linkN i x))), (1, .row 35 z32)]) [] (fun i => i ≤ n) (fun i => n - i) 0 (by omega) weakA ?_
  intro i hi K hK hX
  have hxi := linkN_length hx i
  have hui : (u8c (linkN i x)).length = 32 := by rw [u8c_length, hxi]
  by_cases hlt : i < n
  · have hk := rkeyed_ok 392#64 (linkN i x) [] 0 hxi rfl (by decide)
    rw [List.append_nil, linkN_step] at hk
    have hui' : (u8c (linkN (i + 1) x)).length = 32 := by rw [u8c_length, linkN_length hx]
    repeat' (first
    | ((with_reducible refine aw_seqk ?_); intro K hK hX)
    | ((with_reducible refine isC_reg ?_); refine aw_prune [0, 1, 2, 4, 5] rfl rfl ?_; with_reducible refine aw_region ?_)
    | ((with_reducible refine isA_call ?_); (first | refine zA ?_ | refine zN ?_); (first | refine c0 (hk) ?_))
    | refine stA ?_
    | (refine hK _ _ _ _ ?_; clear hK hX K)
    | (refine hX _ _ _ _ _ (by simp) ?_; clear hK hX K))
    exact ⟨i + 1, by omega, by omega, weakA⟩
  · have hin : i = n := by omega
    repeat' (first
    | ((with_reducible refine aw_seqk ?_); intro K hK hX)
    | ((with_reducible refine isC_reg ?_); refine aw_prune [0, 1, 2, 4, 5] rfl rfl ?_; with_reducible refine aw_region ?_)
    | refine stA ?_
    | (refine hK _ _ _ _ ?_; clear hK hX K)
    | (refine hX _ _ _ _ _ (by simp) ?_; clear hK hX K))
    rw [← hin]
    refine retK_mk (by first | exact .inl rfl | exact .inr rfl) (by exact trivial) rfl (ResL.one (by first | exact ResA.one rfl rfl rfl rfl rfl | exact ResA.agg rfl rfl rfl rfl rfl (by first | exact IsAgg.closed rfl rfl | exact IsAgg.mixed _) | exact ResA.aggr rfl rfl rfl rfl (by first | rfl | with_reducible assumption | (simp <;> fail) | omega | (simp; omega) | assumption))) (by first | exact out_c (by first | exact frz_c cv_rfl | exact frz_c cv_nil | exact frz_ownW rfl rfl (by first | rfl | with_reducible assumption | (simp <;> fail) | omega | (simp; omega) | assumption) | exact frz_eq (frz_c cv_rfl) (by first | rfl | (simp <;> fail) | fail)) | exact out_own rfl rfl)
set_option maxHeartbeats 4000000 in
theorem leaf_ok (L : List (List UInt8)) (m : Nat) (hL : all32 L) (hm : L.length = m) (hmm : m ≤ 100000) : AC Try.prog 86 [.sl 32 m (dc L)] (.c (.agg (u8c (leafD L)))) [] 0 := by
  have hdl := dc_length hL hm
  refine ac_enter tabOk (sz := 22) Try.func86 rfl (by rw [Try.ntmps86]; rfl) ?_
  repeat' (first
    | ((with_reducible refine aw_seqk ?_); intro K hK hX)
    | ((with_reducible refine isC_reg ?_); refine aw_prune [0, 2, 3, 5, 10, 11, 12] rfl rfl ?_; with_reducible refine aw_region ?_)
    | refine stA ?_
    | (refine hK _ _ _ _ ?_; clear hK hX K)
    | (refine hX _ _ _ _ _ (by simp) ?_; clear hK hX K))
  refine aw_loopk 2 (fun i : Nat => [(2, .ref 0 0), (3, .own 1 0 (i * 32) 1 true), (10, .c (.sl 32 m (dc L))), (11, .c (iv m)), (12, .c (iv i))]) (fun i => [(0, .row 35 z32), (1, .row 5 (u8c (L.take i).flatten))]) [] (fun i => i ≤ m) (fun i => m - i) 0 (by omega) weakA ?_
  intro i hi K hK hX
  have hli := take_flat_len hL (show i ≤ L.length by omega)
  by_cases hlt : i < m
  · have hd := getD32 hL i (by omega)
    have hda := dig_at hL i (by omega)
    have htf := take_flat_u (L := L) (i := i) (by omega)
    generalize L.getD i [] = d at hd hda htf
    have hud : (u8c d).length = 32 := by rw [u8c_length, hd]
    repeat' (first
    | ((with_reducible refine aw_seqk ?_); intro K hK hX)
    | ((with_reducible refine isC_reg ?_); refine aw_prune [0, 2, 3, 5, 10, 11, 12] rfl rfl ?_; with_reducible refine aw_region ?_)
    | (((with_reducible refine isA_any ?_); refine xA ?_); (first | ((with_reducible refine e_load ?_); (first | refine ex_i (s_loadAr tabOk rfl rfl rfl rfl (by first | exact hda | exact whole0 (by first | rfl | omega) | rfl) (by first | rfl | with_reducible assumption | (simp <;> fail) | omega | (simp; omega) | assumption)) ?_ | refine ex_i (s_loadAi tabOk rfl rfl rfl (by first | exact hda | exact whole0 (by first | rfl | omega) | rfl) (by first | rfl | with_reducible assumption | (simp <;> fail) | omega | (simp; omega) | assumption)) ?_)) | ((with_reducible refine e_slice ?_); (first | refine ex_i (s_slArri tabOk rfl rfl rfl rfl (by first | exact Bd.no | exact Bd.yes rfl (by first | with_reducible exact cast_self _ | with_reducible exact cast_lit _ | exact nt (by omega) | rfl)) (by first | exact Bd.no | exact Bd.yes rfl (by first | with_reducible exact cast_self _ | with_reducible exact cast_lit _ | exact nt (by omega) | rfl)) (by first | exact Nat.le_of_ble_eq_true rfl | omega | (simp; omega)) (by first | exact Nat.le_of_ble_eq_true rfl | omega | (simp; omega)) (by decide) (by first | exact hda | exact whole0 (by first | rfl | omega) | rfl) (by first | rfl | with_reducible assumption | (simp <;> fail) | omega | (simp; omega) | assumption)) ?_))))
    | refine stA ?_
    | (refine hK _ _ _ _ ?_; clear hK hX K)
    | (refine hX _ _ _ _ _ (by simp) ?_; clear hK hX K))
    exact ⟨i + 1, by omega, by omega, (by refine weak_ren [0, 3] rfl rfl ?_ ?_ rfl rfl <;> (repeat' (first | exact weakER_nil | exact weakHR_nil | refine weakER_cons rfl (by first | rfl | (exact congrArg (AObj.row 5) htf) | exact own_eq rfl rfl (by omega) | exact int_eq (by omega) | (simp <;> fail) | (congr 4; omega) | (congr 3; omega) | (congr 2; omega)) rfl ?_ | refine weakHR_cons rfl (by first | rfl | (exact congrArg (AObj.row 5) htf) | exact own_eq rfl rfl (by omega) | exact int_eq (by omega) | (simp <;> fail) | (congr 4; omega) | (congr 3; omega) | (congr 2; omega)) rfl ?_)))⟩
  · have him : i = m := by omega
    have hfl : (L.take i).flatten = L.flatten := by rw [him, ← hm, List.take_length]
    have hll : L.flatten.length = i * 32 := by rw [flat_len hL, hm, him]
    have hk := sum_ok 393#64 L.flatten (i * 32) hll (by simp only [maxLen]; omega)
    have hus : (u8c (leafD L)).length = 32 := by rw [u8c_length, leafD_length]
    rw [hfl] at hli ⊢
    unfold leafD at *
    repeat' (first
    | ((with_reducible refine aw_seqk ?_); intro K hK hX)
    | ((with_reducible refine isC_reg ?_); refine aw_prune [0, 2, 3, 5, 10, 11, 12] rfl rfl ?_; with_reducible refine aw_region ?_)
    | ((with_reducible refine isA_call ?_); (first | refine wA ?_ | refine wN ?_); (first | refine cF (hk) ?_))
    | refine stA ?_
    | (refine hK _ _ _ _ ?_; clear hK hX K)
    | (refine hX _ _ _ _ _ (by simp) ?_; clear hK hX K))
    refine retK_mk (by first | exact .inl rfl | exact .inr rfl) (by exact trivial) rfl (ResL.one (by first | exact ResA.one rfl rfl rfl rfl rfl | exact ResA.agg rfl rfl rfl rfl rfl (by first | exact IsAgg.closed rfl rfl | exact IsAgg.mixed _) | exact ResA.aggr rfl rfl rfl rfl (by first | rfl | with_reducible assumption | (simp <;> fail) | omega | (simp; omega) | assumption))) (by first | exact out_c (by first | exact frz_c cv_rfl | exact frz_c cv_nil | exact frz_ownW rfl rfl (by first | rfl | with_reducible assumption | (simp <;> fail) | omega | (simp; omega) | assumption) | exact frz_eq (frz_c cv_rfl) (by first | rfl | (simp <;> fail) | fail)) | exact out_own rfl rfl)
set_option maxHeartbeats 4000000 in
theorem rleaf_ok (L : List (List UInt8)) (m : Nat) (hL : all32 L) (hm : L.length = m) (hmm : m ≤ 100000) : AC Try.prog 89 [.sl 32 m (dc L)] (.c (.agg (u8c (leafD L)))) [] 0 := by
  have hdl := dc_length hL hm
  refine ac_enter tabOk (sz := 21) Try.func89 rfl (by rw [Try.ntmps89]; rfl) ?_
  repeat' (first
    | ((with_reducible refine aw_seqk ?_); intro K hK hX)
    | ((with_reducible refine isC_reg ?_); refine aw_prune [0, 2, 3, 4] rfl rfl ?_; with_reducible refine aw_region ?_)
    | refine stA ?_
    | (refine hK _ _ _ _ ?_; clear hK hX K)
    | (refine hX _ _ _ _ _ (by simp) ?_; clear hK hX K))
  refine aw_loopk 2 (fun i : Nat => [(0, .c (.sl 32 m (dc L))), (2, .ref 0 0), (3, .own 1 0 (i * 32) 1 true), (4, .c (iv i))]) (fun i => [(0, .row 35 z32), (1, .row 5 (u8c (L.take i).flatten))]) [] (fun i => i ≤ m) (fun i => m - i) 0 (by omega) weakA ?_
  intro i hi K hK hX
  have hli := take_flat_len hL (show i ≤ L.length by omega)
  by_cases hlt : i < m
  · have hd := getD32 hL i (by omega)
    have hda := dig_at hL i (by omega)
    have htf := take_flat_u (L := L) (i := i) (by omega)
    generalize L.getD i [] = d at hd hda htf
    have hud : (u8c d).length = 32 := by rw [u8c_length, hd]
    repeat' (first
    | ((with_reducible refine aw_seqk ?_); intro K hK hX)
    | ((with_reducible refine isC_reg ?_); refine aw_prune [0, 2, 3, 4] rfl rfl ?_; with_reducible refine aw_region ?_)
    | ((with_reducible refine isA_call ?_); (first | refine zA ?_ | refine zN ?_); (first | refine c1 (bytes_ok d hd) ?_))
    | (((with_reducible refine isA_any ?_); refine xA ?_); (first | ((with_reducible refine e_load ?_); (first | refine ex_i (s_loadAr tabOk rfl rfl rfl rfl (by first | exact hda | exact whole0 (by first | rfl | omega) | rfl) (by first | rfl | with_reducible assumption | (simp <;> fail) | omega | (simp; omega) | assumption)) ?_ | refine ex_i (s_loadAi tabOk rfl rfl rfl (by first | exact hda | exact whole0 (by first | rfl | omega) | rfl) (by first | rfl | with_reducible assumption | (simp <;> fail) | omega | (simp; omega) | assumption)) ?_)) | ((with_reducible refine e_slice ?_); (first | refine ex_i (s_slArri tabOk rfl rfl rfl rfl (by first | exact Bd.no | exact Bd.yes rfl (by first | with_reducible exact cast_self _ | with_reducible exact cast_lit _ | exact nt (by omega) | rfl)) (by first | exact Bd.no | exact Bd.yes rfl (by first | with_reducible exact cast_self _ | with_reducible exact cast_lit _ | exact nt (by omega) | rfl)) (by first | exact Nat.le_of_ble_eq_true rfl | omega | (simp; omega)) (by first | exact Nat.le_of_ble_eq_true rfl | omega | (simp; omega)) (by decide) (by first | exact hda | exact whole0 (by first | rfl | omega) | rfl) (by first | rfl | with_reducible assumption | (simp <;> fail) | omega | (simp; omega) | assumption)) ?_))))
    | refine stA ?_
    | (refine hK _ _ _ _ ?_; clear hK hX K)
    | (refine hX _ _ _ _ _ (by simp) ?_; clear hK hX K))
    exact ⟨i + 1, by omega, by omega, (by refine weak_ren [0, 3] rfl rfl ?_ ?_ rfl rfl <;> (repeat' (first | exact weakER_nil | exact weakHR_nil | refine weakER_cons rfl (by first | rfl | (exact congrArg (AObj.row 5) htf) | exact own_eq rfl rfl (by omega) | exact int_eq (by omega) | (simp <;> fail) | (congr 4; omega) | (congr 3; omega) | (congr 2; omega)) rfl ?_ | refine weakHR_cons rfl (by first | rfl | (exact congrArg (AObj.row 5) htf) | exact own_eq rfl rfl (by omega) | exact int_eq (by omega) | (simp <;> fail) | (congr 4; omega) | (congr 3; omega) | (congr 2; omega)) rfl ?_)))⟩
  · have him : i = m := by omega
    have hfl : (L.take i).flatten = L.flatten := by rw [him, ← hm, List.take_length]
    have hll : L.flatten.length = i * 32 := by rw [flat_len hL, hm, him]
    have hk := rsum_ok 393#64 L.flatten (i * 32) hll (by omega)
    have hus : (u8c (leafD L)).length = 32 := by rw [u8c_length, leafD_length]
    rw [hfl] at hli ⊢
    unfold leafD at *
    repeat' (first
    | ((with_reducible refine aw_seqk ?_); intro K hK hX)
    | ((with_reducible refine isC_reg ?_); refine aw_prune [0, 2, 3, 4] rfl rfl ?_; with_reducible refine aw_region ?_)
    | ((with_reducible refine isA_call ?_); (first | refine wA ?_ | refine wN ?_); (first | refine cF (hk) ?_))
    | refine stA ?_
    | (refine hK _ _ _ _ ?_; clear hK hX K)
    | (refine hX _ _ _ _ _ (by simp) ?_; clear hK hX K))
    refine retK_mk (by first | exact .inl rfl | exact .inr rfl) (by exact trivial) rfl (ResL.one (by first | exact ResA.one rfl rfl rfl rfl rfl | exact ResA.agg rfl rfl rfl rfl rfl (by first | exact IsAgg.closed rfl rfl | exact IsAgg.mixed _) | exact ResA.aggr rfl rfl rfl rfl (by first | rfl | with_reducible assumption | (simp <;> fail) | omega | (simp; omega) | assumption))) (by first | exact out_c (by first | exact frz_c cv_rfl | exact frz_c cv_nil | exact frz_ownW rfl rfl (by first | rfl | with_reducible assumption | (simp <;> fail) | omega | (simp; omega) | assumption) | exact frz_eq (frz_c cv_rfl) (by first | rfl | (simp <;> fail) | fail)) | exact out_own rfl rfl)
end Go.Proofs.Ytgofigkhdjjlmaa
/-
  Levels of trees, roots (plain; walk of the reference).
-/
set_option linter.unusedVariables false
set_option linter.unusedSimpArgs false
namespace Go.Proofs.Ytgofigkhdjjlmaa
open Go Go.RowKit Go.Av
set_option maxRecDepth 100000
/-- The next level. -/
def upD : List (List UInt8) → List (List UInt8)
  | a :: b :: r => joinD a b :: upD r
  | l => l
theorem upD_length : ∀ L : List (List UInt8), (upD L).length = (L.length + 1) / 2
  | [] => rfl
  | [_] => by simp [upD]
  | a :: b :: r => by
    simp only [upD, List.length_cons, upD_length r]
    omega
theorem upD_all : ∀ {L : List (List UInt8)}, all32 L → all32 (upD L)
  | [], h => h
  | [_], h => h
  | a :: b :: r, h => fun d hd => by
    simp only [upD] at hd
    rcases List.mem_cons.1 hd with rfl | hd
    · exact joinD_length _ _
    · exact upD_all (L := r) (fun x hx => h x (by simp [hx])) d hd
theorem upD_even : ∀ {L : List (List UInt8)} {j : Nat}, 2 * j + 1 < L.length → (upD L).getD j [] = joinD (L.getD (2 * j) []) (L.getD (2 * j + 1) [])
  | [], j, h => by simp at h
  | [_], j, h => by simp at h
  | a :: b :: r, 0, h => rfl
  | a :: b :: r, j + 1, h => by
    simp only [upD, List.getD_cons_succ, show 2 * (j + 1) = 2 * j + 1 + 1 by omega]
    exact upD_even (L := r) (by simp at h; omega)
theorem upD_last : ∀ {L : List (List UInt8)} {j : Nat}, L.length = 2 * j + 1 → (upD L).getD j [] = L.getD (2 * j) []
  | [], j, h => by simp at h
  | [a], j, h => by
    obtain rfl : j = 0 := by simp at h; omega
    rfl
  | a :: b :: r, 0, h => by simp at h
  | a :: b :: r, j + 1, h => by
    simp only [upD, List.getD_cons_succ, show 2 * (j + 1) = 2 * j + 1 + 1 by omega]
    exact upD_last (L := r) (by simp at h; omega)
/-- The top. -/
def topD (L : List (List UInt8)) : List UInt8 := if h : L.length ≤ 1 then L.getD 0 zero32 else topD (upD L)
termination_by L.length
decreasing_by rw [upD_length]; omega
theorem topD_end {L : List (List UInt8)} (h : L.length ≤ 1) : topD L = L.getD 0 zero32 := by rw [topD, dif_pos h]
theorem topD_up {L : List (List UInt8)} (h : ¬ L.length ≤ 1) : topD L = topD (upD L) := by rw [topD, dif_neg h]
theorem topD_length : ∀ (n : Nat) {L : List (List UInt8)}, L.length ≤ n → all32 L → (topD L).length = 32 := by
  intro n
  induction n with
  | zero =>
    intro L h hL
    have h0 : L = [] := List.eq_nil_of_length_eq_zero (by omega)
    rw [topD_end (by omega), h0]
    rfl
  | succ n ih =>
    intro L h hL
    by_cases h1 : L.length ≤ 1
    · rw [topD_end h1]
      match L, h1, hL with
      | [], _, _ => rfl
      | [a], _, hL => exact hL a (by simp)
    · rw [topD_up h1]
      exact ih (by rw [upD_length]; omega) (upD_all hL)
def rootD (L : List (List UInt8)) : List UInt8 := sealD (topD (L.map nodeD)) L.length
theorem nodes_all (L : List (List UInt8)) : all32 (L.map nodeD) := fun d hd => by
  obtain ⟨x, _, rfl⟩ := List.mem_map.1 hd
  exact nodeD_length x
theorem nodes_get {L : List (List UInt8)} {i : Nat} (h : i < L.length) : (L.map nodeD).getD i [] = nodeD (L.getD i []) := by
  simp [List.getD, h]
/-- The siblings of a place, from the bottom up. -/
def sibD (L : List (List UInt8)) (i : Nat) : List (List UInt8) := if h : L.length ≤ 1 then [] else
  (if i % 2 = 1 then [L.getD (i - 1) []] else if i + 1 < L.length then [L.getD (i + 1) []] else []) ++ sibD (upD L) (i / 2)
termination_by L.length
decreasing_by rw [upD_length]; omega
theorem sibD_end {L : List (List UInt8)} {i : Nat} (h : L.length ≤ 1) : sibD L i = [] := by rw [sibD, dif_pos h]
theorem sibD_odd {L : List (List UInt8)} {i : Nat} (h : ¬ L.length ≤ 1) (h1 : i % 2 = 1) : sibD L i = L.getD (i - 1) [] :: sibD (upD L) (i / 2) := by rw [sibD, dif_neg h, if_pos h1]; rfl
theorem sibD_even {L : List (List UInt8)} {i : Nat} (h : ¬ L.length ≤ 1) (h1 : ¬ i % 2 = 1) (h2 : i + 1 < L.length) : sibD L i = L.getD (i + 1) [] :: sibD (upD L) (i / 2) := by rw [sibD, dif_neg h, if_neg h1, if_pos h2]; rfl
theorem sibD_lone {L : List (List UInt8)} {i : Nat} (h : ¬ L.length ≤ 1) (h1 : ¬ i % 2 = 1) (h2 : ¬ i + 1 < L.length) : sibD L i = sibD (upD L) (i / 2) := by rw [sibD, dif_neg h, if_neg h1, if_neg h2]; rfl
theorem sibD_all : ∀ (n : Nat) {L : List (List UInt8)} {i : Nat}, L.length ≤ n → all32 L → i < L.length → all32 (sibD L i) ∧ (sibD L i).length ≤ n := by
  intro n
  induction n with
  | zero => intro L i h hL hi; omega
  | succ n ih =>
    intro L i h hL hi
    by_cases h1 : L.length ≤ 1
    · rw [sibD_end h1]; exact ⟨fun d hd => by (cases hd), by simp⟩
    · have hu := upD_length L
      obtain ⟨k1, k2⟩ := ih (L := upD L) (i := i / 2) (by omega) (upD_all hL) (by omega)
      by_cases h2 : i % 2 = 1
      · rw [sibD_odd h1 h2]
        refine ⟨fun d hd => ?_, by simp; omega⟩
        rcases List.mem_cons.1 hd with rfl | hd
        · exact getD32 hL _ (by omega)
        · exact k1 d hd
      · by_cases h3 : i + 1 < L.length
        · rw [sibD_even h1 h2 h3]
          refine ⟨fun d hd => ?_, by simp; omega⟩
          rcases List.mem_cons.1 hd with rfl | hd
          · exact getD32 hL _ h3
          · exact k1 d hd
        · rw [sibD_lone h1 h2 h3]
          exact ⟨k1, by omega⟩
theorem upD_set_odd : ∀ {L : List (List UInt8)} {j : Nat} {x : List UInt8}, 2 * j + 1 < L.length → upD (L.set (2 * j + 1) x) = (upD L).set j (joinD (L.getD (2 * j + 1 - 1) []) x)
  | [], j, x, h => by simp at h
  | [_], j, x, h => by simp at h
  | a :: b :: r, 0, x, h => rfl
  | a :: b :: r, j + 1, x, h => by
    have ih := upD_set_odd (L := r) (j := j) (x := x) (by simp at h; omega)
    rw [show 2 * (j + 1) + 1 = 2 * j + 1 + 1 + 1 by omega]
    simp only [List.set_cons_succ, upD, ih]
    rfl
theorem upD_set_even : ∀ {L : List (List UInt8)} {j : Nat} {x : List UInt8}, 2 * j + 1 < L.length → upD (L.set (2 * j) x) = (upD L).set j (joinD x (L.getD (2 * j + 1) []))
  | [], j, x, h => by simp at h
  | [_], j, x, h => by simp at h
  | a :: b :: r, 0, x, h => rfl
  | a :: b :: r, j + 1, x, h => by
    have ih := upD_set_even (L := r) (j := j) (x := x) (by simp at h; omega)
    rw [show 2 * (j + 1) = 2 * j + 1 + 1 by omega]
    simp only [List.set_cons_succ, upD, ih]
    rfl
theorem upD_set_last : ∀ {L : List (List UInt8)} {j : Nat} {x : List UInt8}, L.length = 2 * j + 1 → upD (L.set (2 * j) x) = (upD L).set j x
  | [], j, x, h => by simp at h
  | [a], j, x, h => by
    obtain rfl : j = 0 := by simp at h; omega
    rfl
  | a :: b :: r, 0, x, h => by simp at h
  | a :: b :: r, j + 1, x, h => by
    have ih := upD_set_last (L := r) (j := j) (x := x) (by simp at h; omega)
    rw [show 2 * (j + 1) = 2 * j + 1 + 1 by omega]
    simp only [List.set_cons_succ, upD, ih]
/-- The proof of a place leads from any digest there to the top of the level in which it stands there. -/
theorem apl_sib : ∀ (n : Nat) {L : List (List UInt8)} {i : Nat} (pre : List (List UInt8)) (x : List UInt8), L.length ≤ n → i < L.length → apl (pre ++ sibD L i) L.length i pre.length x = some (topD (L.set i x), (pre ++ sibD L i).length) := by
  intro n
  induction n with
  | zero => intro L i pre x h hi; omega
  | succ n ih =>
    intro L i pre x h hi
    by_cases h1 : L.length ≤ 1
    · rw [apl_end h1, sibD_end h1, topD_end (by simpa using h1)]
      obtain rfl : i = 0 := by omega
      match L, hi with
      | a :: r, _ => simp
    · have hu := upD_length L
      have hset : ∀ y, (upD L).set (i / 2) y = (upD L).set (i / 2) y := fun _ => rfl
      by_cases h2 : i % 2 = 1
      · obtain ⟨j, rfl⟩ : ∃ j, i = 2 * j + 1 := ⟨i / 2, by omega⟩
        rw [sibD_odd h1 h2, apl_odd h1 h2 (by simp)]
        have ih' := ih (L := upD L) (i := j) (pre ++ [L.getD (2 * j + 1 - 1) []]) (joinD (L.getD (2 * j + 1 - 1) []) x) (by omega) (by omega)
        rw [hu] at ih'
        simp only [List.append_assoc, List.cons_append, List.nil_append, List.length_append, List.length_cons, List.length_nil] at ih' ⊢
        rw [show (2 * j + 1) / 2 = j by omega, show (pre ++ L.getD (2 * j + 1 - 1) [] :: sibD (upD L) j).getD pre.length [] = L.getD (2 * j + 1 - 1) [] by simp]
        rw [show pre.length + (0 + 1) = pre.length + 1 by omega] at ih'
        rw [ih', topD_up (L := L.set (2 * j + 1) x) (by rw [List.length_set]; exact h1), upD_set_odd hi]
      · by_cases h3 : i + 1 < L.length
        · obtain ⟨j, rfl⟩ : ∃ j, i = 2 * j := ⟨i / 2, by omega⟩
          rw [sibD_even h1 h2 h3, apl_even h1 (by omega) h3 (by simp)]
          have ih' := ih (L := upD L) (i := j) (pre ++ [L.getD (2 * j + 1) []]) (joinD x (L.getD (2 * j + 1) [])) (by omega) (by omega)
          rw [hu] at ih'
          simp only [List.append_assoc, List.cons_append, List.nil_append, List.length_append, List.length_cons, List.length_nil] at ih' ⊢
          rw [show (2 * j) / 2 = j by omega, show (pre ++ L.getD (2 * j + 1) [] :: sibD (upD L) j).getD pre.length [] = L.getD (2 * j + 1) [] by simp]
          rw [show pre.length + (0 + 1) = pre.length + 1 by omega] at ih'
          rw [ih', topD_up (L := L.set (2 * j) x) (by rw [List.length_set]; exact h1), upD_set_even h3]
        · obtain ⟨j, rfl⟩ : ∃ j, i = 2 * j := ⟨i / 2, by omega⟩
          have ih' := ih (L := upD L) (i := j) pre x (by omega) (by omega)
          rw [sibD_lone h1 h2 h3, apl_lone h1 (by omega) h3]
          rw [hu] at ih'
          rw [show (2 * j) / 2 = j by omega, ih', topD_up (L := L.set (2 * j) x) (by rw [List.length_set]; exact h1), upD_set_last (by omega)]
end Go.Proofs.Ytgofigkhdjjlmaa
