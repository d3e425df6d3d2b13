/-
  Format and Parse (walk), as the program has them.
-/
import Derived.Test.YtgofigkhdjjlmaaD6
import Derived.Test.YtgofigkhdjjlmaaWK
import Derived.Test.YtgofigkhdjjlmaaAvS
import Derived.Test.YtgofigkhdjjlmaaAvT
set_option linter.unusedVariables false
set_option linter.unusedSimpArgs false
namespace Go.Proofs.Ytgofigkhdjjlmaa
open Go Go.RowKit Go.Av
set_option maxRecDepth 100000
theorem u8_ix (l : List UInt8) (i : Nat) (h : i < l.length) : (u8c l)[i]? = some (.v (.int .u8 ((l.getD i 0).toNat : Int))) := by
  have := u8_at l i h
  rwa [Nat.mul_one] at this
/-- Hexadecimal digits. -/
def hx (n : Nat) : UInt8 := [48, 49, 50, 51, 52, 53, 54, 55, 56, 57, 97, 98, 99, 100, 101, 102].getD n 0
theorem hex_at (m : Nat) (h : m < 16) : (⟨#[48, 49, 50, 51, 52, 53, 54, 55, 56, 57, 97, 98, 99, 100, 101, 102]⟩ : ByteArray).data[m]? = some (hx m) := by
  have : ∀ m : Fin 16, (⟨#[48, 49, 50, 51, 52, 53, 54, 55, 56, 57, 97, 98, 99, 100, 101, 102]⟩ : ByteArray).data[m.val]? = some (hx m.val) := by decide
  exact this ⟨m, h⟩
def fmt (l : List UInt8) : List UInt8 := l.flatMap fun b => [hx (b.toNat / 16), hx (b.toNat % 16)]
theorem fmt_length (l : List UInt8) : (fmt l).length = 2 * l.length := by
  induction l with
  | nil => rfl
  | cons b l ih => simp [fmt] at ih ⊢; omega
theorem fmt_step (l : List UInt8) (i : Nat) (h : i < l.length) : u8c (fmt (l.take i)) ++ [.v (.int .u8 ((hx ((l.getD i 0).toNat / 16)).toNat : Int)), .v (.int .u8 ((hx ((l.getD i 0).toNat % 16)).toNat : Int))] = u8c (fmt (l.take (i + 1))) := by
  rw [List.take_add_one, fmt, fmt, List.flatMap_append, u8c_app, List.getElem?_eq_getElem h]
  simp [u8c, List.getD, List.getElem?_eq_getElem h]
/-- A digit's value. -/
def dg (c : UInt8) : Option Nat := if 48 ≤ c.toNat ∧ c.toNat ≤ 57 then some (c.toNat - 48) else if 97 ≤ c.toNat ∧ c.toNat ≤ 102 then some (c.toNat - 87) else none
theorem dg_lt (c : UInt8) : (dg c).getD 0 < 16 := by
  unfold dg
  split
  · simp; omega
  · split
    · simp; omega
    · simp
def sb (s : ByteArray) (i : Nat) : UInt8 := s.data.getD i 0
theorem sb_at (s : ByteArray) (i : Nat) (h : i < s.size) : s.data[i]? = some (sb s i) := by
  have : i < s.data.size := h
  simp [sb, Array.getElem?_eq_getElem this]
def good (s : ByteArray) : Prop := s.size = 64 ∧ ∀ i, i < 64 → (dg (sb s i)).isSome = true
def dv (s : ByteArray) (i : Nat) : Nat := (dg (sb s i)).getD 0
def pb (s : ByteArray) (i : Nat) : UInt8 := UInt8.ofNat (dv s (2 * i) * 16 + dv s (2 * i + 1))
theorem pb_nat (s : ByteArray) (i : Nat) : (pb s i).toNat = dv s (2 * i) * 16 + dv s (2 * i + 1) := by
  have h1 := dg_lt (sb s (2 * i))
  have h2 := dg_lt (sb s (2 * i + 1))
  simp only [pb, UInt8.toNat_ofNat', dv]
  omega
open Classical in
noncomputable def pval (s : ByteArray) : List UInt8 := if good s then (List.range 32).map (pb s) else List.replicate 32 0
open Classical in
noncomputable def perr (s : ByteArray) : Int := if good s then 0 else 2
/-- A row of n bytes of which i are filled. -/
def flg (f : Nat → UInt8) (n i : Nat) : List UInt8 := (List.range i).map f ++ List.replicate (n - i) 0
theorem flg_length (f : Nat → UInt8) (n i : Nat) (h : i ≤ n) : (flg f n i).length = n := by simp [flg]; omega
theorem flg_full (f : Nat → UInt8) (n : Nat) : flg f n n = (List.range n).map f := by simp [flg]
theorem flg_set (f : Nat → UInt8) (n i : Nat) (h : i < n) : (u8c (flg f n i)).set (0 + i * 1) (.v (.int .u8 ((f i).toNat : Int))) = u8c (flg f n (i + 1)) := by
  rw [u8c_set, Nat.zero_add, Nat.mul_one]
  congr 1
  unfold flg
  rw [List.range_succ, List.map_append, List.set_append_right _ _ (by simp), List.length_map, List.length_range, Nat.sub_self, show n - i = (n - (i + 1)) + 1 by omega, List.replicate_succ, List.set_cons_zero]
  simp
section
variable {P : Program} {ev : Evl} {h : Heap} {d : Option Tmp} {T ty T' : TypeId} {x y : Operand} {pos : String} {aft : Array Edge} {gd : Option (Nat × Bool)}
theorem s_shr4 {b : Nat} {k : IntKind} (hx : ev x = some (.c (.v (.int .u8 (b : Int))))) (hy : ev y = some (.c (.v (.int k 4)))) : Still P ⟨d, .binOp .shr T x y T', ty, pos, aft, gd⟩ ev h (.c (.v (.int .u8 ((b / 16 : Nat) : Int)))) :=
  s_shr hx hy (by decide) (by
    show Int.fdiv (b : Int) (2 ^ (min 4 8)) = _
    rw [Int.fdiv_eq_ediv_of_nonneg _ (by decide)]
    simp)
theorem s_and15 {b : UInt8} (hx : ev x = some (.c (.v (.int .u8 (b.toNat : Int))))) (hy : ev y = some (.c (.v (.int .u8 15)))) : Still P ⟨d, .binOp .and T x y T', ty, pos, aft, gd⟩ ev h (.c (.v (.int .u8 ((b.toNat % 16 : Nat) : Int)))) :=
  s_and hx hy (by
    have : ∀ b : BitVec 8, IntKind.u8.wrap ((BitVec.ofInt 8 (b.toNat : Int) &&& BitVec.ofInt 8 15).toNat : Int) = ((b.toNat % 16 : Nat) : Int) := by decide
    exact this b.toBitVec)
theorem s_shl4 {a : Nat} {k : IntKind} (ha : a < 16) (hx : ev x = some (.c (.v (.int .u8 (a : Int))))) (hy : ev y = some (.c (.v (.int k 4)))) : Still P ⟨d, .binOp .shl T x y T', ty, pos, aft, gd⟩ ev h (.c (.v (.int .u8 ((a * 16 : Nat) : Int)))) :=
  s_shl hx hy (by decide) (by
    show IntKind.u8.wrap ((a : Int) * 2 ^ (min 4 8)) = _
    rw [wu8 (by simp; omega) (by simp; omega)]
    simp)
theorem s_or4 {a b : Nat} (ha : a < 16) (hb : b < 16) (hx : ev x = some (.c (.v (.int .u8 ((a * 16 : Nat) : Int))))) (hy : ev y = some (.c (.v (.int .u8 (b : Int))))) : Still P ⟨d, .binOp .or T x y T', ty, pos, aft, gd⟩ ev h (.c (.v (.int .u8 ((a * 16 + b : Nat) : Int)))) :=
  s_or hx hy (by
    have : ∀ a b : Fin 16, IntKind.u8.wrap ((BitVec.ofInt 8 ((a.val * 16 : Nat) : Int) ||| BitVec.ofInt 8 (b.val : Int)).toNat : Int) = ((a.val * 16 + b.val : Nat) : Int) := by decide
    exact this ⟨a, ha⟩ ⟨b, hb⟩)
end
attribute [local irreducible] Still Adds AWL AW Drw AC AWR Weak Frz Src RetK Out InK
set_option maxHeartbeats 4000000 in
theorem format_ok (l : List UInt8) (hl : l.length = 32) : AC Try.prog 35 [.agg (u8c l)] (.c (.v (.string ⟨(fmt l).toArray⟩))) [] 0 := by
  have hul : (u8c l).length = 32 := by rw [u8c_length, hl]
  refine ac_enter tabOk (sz := 23) Try.func35 rfl (by rw [Try.ntmps35]; rfl) ?_
  repeat' (first
    | ((with_reducible refine aw_seqk ?_); intro K hK hX)
    | ((with_reducible refine isC_reg ?_); refine aw_prune [0, 1, 2, 3, 5, 7, 8] rfl rfl ?_; with_reducible refine aw_region ?_)
    | ((with_reducible refine isC_draw ?_); refine aw_prune [0, 1, 2, 3, 5, 7, 8] rfl rfl ?_; refine aw_drwF [] ?_)
    | refine stA ?_
    | refine stD ?_
    | (refine hK _ _ _ _ ?_; clear hK hX K)
    | (refine hX _ _ _ _ _ (by simp) ?_; clear hK hX K))
  refine aw_loopk 2 (fun i : Nat => [(3, .own 1 0 (2 * i) 1 true), (7, .c (.agg (u8c l))), (8, .c (iv i))]) (fun i => [(0, .row 35 (u8c l)), (1, .row 5 (u8c (fmt (l.take i))))]) [] (fun i => i ≤ 32) (fun i => 32 - i) 0 (by omega) weakA ?_
  intro i hi K hK hX
  have hlen : (u8c (fmt (l.take i))).length = 2 * i := by rw [u8c_length, fmt_length, List.length_take]; omega
  have hb : (l.getD i 0).toNat < 256 := UInt8.toNat_lt _
  by_cases hlt : i < 32
  · repeat' (first
    | ((with_reducible refine aw_seqk ?_); intro K hK hX)
    | ((with_reducible refine isC_reg ?_); refine aw_prune [0, 1, 2, 3, 5, 7, 8] rfl rfl ?_; with_reducible refine aw_region ?_)
    | ((with_reducible refine isC_draw ?_); refine aw_prune [0, 1, 2, 3, 5, 7, 8] rfl rfl ?_; refine aw_drwF [] ?_)
    | ((first | ((with_reducible refine isA_any ?_); refine xA ?_) | ((with_reducible refine isDk_any ?_); refine xD ?_)); (first | ((with_reducible refine e_bin ?_); (first | refine ex_i (s_shr4 rfl rfl) ?_ | refine ex_i (s_and15 rfl rfl) ?_)) | ((with_reducible refine e_load ?_); (first | refine ex_i (s_load1 tabOk rfl rfl rfl rfl (by first | exact u8_ix l i (by omega) | exact hex_at _ (by omega))) ?_ | refine ex_i (s_load1r tabOk rfl rfl rfl rfl (by first | exact u8_ix l i (by omega) | exact hex_at _ (by omega))) ?_ | refine ex_i (s_load1i tabOk rfl rfl rfl (by first | exact u8_ix l i (by omega) | exact hex_at _ (by omega))) ?_)) | ((with_reducible refine e_ix ?_); (first | refine ex_i (s_ixV1 tabOk rfl rfl (by first | with_reducible exact cast_self _ | with_reducible exact cast_lit _ | exact nt (by omega) | rfl) rfl rfl rfl rfl rfl (by first | exact Nat.le_of_ble_eq_true rfl | omega | (simp; omega)) (by first | exact u8_ix l i (by omega) | exact hex_at _ (by omega))) ?_ | refine ex_i (s_ixStr tabOk rfl rfl (by first | with_reducible exact cast_self _ | with_reducible exact cast_lit _ | exact nt (by omega) | rfl) rfl rfl (by first | exact u8_ix l i (by omega) | exact hex_at _ (by omega))) ?_))))
    | refine stA ?_
    | refine stD ?_
    | (refine hK _ _ _ _ ?_; clear hK hX K)
    | (refine hX _ _ _ _ _ (by simp) ?_; clear hK hX K))
    exact ⟨i + 1, by omega, by omega, (by refine weak_ren [0, 3] rfl rfl ?_ ?_ rfl rfl <;> (repeat' (first | exact weakER_nil | exact weakHR_nil | refine weakER_cons rfl (by first | rfl | (exact congrArg (AObj.row 5) (fmt_step l i (by omega))) | exact own_eq rfl rfl (by omega) | exact int_eq (by omega) | (simp <;> fail) | (congr 4; omega) | (congr 3; omega) | (congr 2; omega)) rfl ?_ | refine weakHR_cons rfl (by first | rfl | (exact congrArg (AObj.row 5) (fmt_step l i (by omega))) | exact own_eq rfl rfl (by omega) | exact int_eq (by omega) | (simp <;> fail) | (congr 4; omega) | (congr 3; omega) | (congr 2; omega)) rfl ?_)))⟩
  · obtain rfl : i = 32 := by omega
    repeat' (first
    | ((with_reducible refine aw_seqk ?_); intro K hK hX)
    | ((with_reducible refine isC_reg ?_); refine aw_prune [0, 1, 2, 3, 5, 7, 8] rfl rfl ?_; with_reducible refine aw_region ?_)
    | ((with_reducible refine isC_draw ?_); refine aw_prune [0, 1, 2, 3, 5, 7, 8] rfl rfl ?_; refine aw_drwF [] ?_)
    | refine stA ?_
    | refine stD ?_
    | (refine hK _ _ _ _ ?_; clear hK hX K)
    | (refine hX _ _ _ _ _ (by simp) ?_; clear hK hX K))
    rw [List.take_of_length_le (by omega)]
    refine retK_mk (by first | exact .inl rfl | exact .inr rfl) (by exact trivial) (ResL.one (ResA.tmp rfl)) (by first | exact out_c (by first | exact frz_c cv_rfl | exact frz_c cv_nil | exact frz_ownW rfl rfl (by first | rfl | with_reducible assumption | (simp <;> fail) | omega | (simp; omega) | assumption) | exact frz_eq (frz_c cv_rfl) (by first | rfl | (simp <;> fail) | fail)) | exact out_own rfl rfl)
set_option maxHeartbeats 4000000 in
theorem digit_ok (c : UInt8) : AC Try.prog 76 [.v (.int .u8 (c.toNat : Int))] (.tup [.c (.v (.int .u8 (((dg c).getD 0 : Nat) : Int))), .c (.v (.bool (dg c).isSome))]) [] 0 := by
  have hb : c.toNat < 256 := UInt8.toNat_lt _
  by_cases h1 : 48 ≤ c.toNat
  · have g1 : (decide ((48 : Int) ≤ (c.toNat : Int)) == true) = true := by rw [decide_eq_true (by omega)]; rfl
    by_cases h2 : c.toNat ≤ 57
    · have e : dg c = some (c.toNat - 48) := by unfold dg; rw [if_pos ⟨h1, h2⟩]
      rw [e]
      have hv : ((c.toNat - 48 : Nat) : Int) = (c.toNat : Int) - 48 := by omega
      show AC _ _ _ (.tup [.c (.v (.int .u8 ((c.toNat - 48 : Nat) : Int))), .c (.v (.bool true))]) _ _
      rw [hv]
      refine ac_enter tabOk (sz := 23) Try.func76 rfl (by rw [Try.ntmps76]; rfl) ?_
      repeat' (first
    | ((with_reducible refine aw_seqk ?_); intro K hK hX)
    | ((with_reducible refine isC_reg ?_); refine aw_prune [0, 2, 3] rfl rfl ?_; with_reducible refine aw_region ?_)
    | refine stA ?_
    | (refine hK _ _ _ _ ?_; clear hK hX K)
    | (refine hX _ _ _ _ _ (by simp) ?_; clear hK hX K))
      refine retK_mk (by first | exact .inl rfl | exact .inr rfl) (by exact trivial) (ResL.two (ResA.tmp rfl) (ResA.tmp rfl)) (out_t (frzl_cons (by first | exact frz_c cv_rfl | exact frz_c cv_nil | exact frz_ownW rfl rfl (by first | rfl | with_reducible assumption | (simp <;> fail) | omega | (simp; omega) | assumption) | exact frz_eq (frz_c cv_rfl) (by first | rfl | (simp <;> fail) | fail)) (frzl_cons (by first | exact frz_c cv_rfl | exact frz_c cv_nil | exact frz_ownW rfl rfl (by first | rfl | with_reducible assumption | (simp <;> fail) | omega | (simp; omega) | assumption) | exact frz_eq (frz_c cv_rfl) (by first | rfl | (simp <;> fail) | fail)) frzl_nil)))
    · by_cases h3 : 97 ≤ c.toNat
      · have g3 : (decide ((97 : Int) ≤ (c.toNat : Int)) == true) = true := by rw [decide_eq_true (by omega)]; rfl
        by_cases h4 : c.toNat ≤ 102
        · have e : dg c = some (c.toNat - 87) := by unfold dg; rw [if_neg (by omega), if_pos ⟨h3, h4⟩]
          rw [e]
          have hv : ((c.toNat - 87 : Nat) : Int) = (c.toNat : Int) - 97 + 10 := by omega
          show AC _ _ _ (.tup [.c (.v (.int .u8 ((c.toNat - 87 : Nat) : Int))), .c (.v (.bool true))]) _ _
          rw [hv]
          refine ac_enter tabOk (sz := 23) Try.func76 rfl (by rw [Try.ntmps76]; rfl) ?_
          repeat' (first
    | ((with_reducible refine aw_seqk ?_); intro K hK hX)
    | ((with_reducible refine isC_reg ?_); refine aw_prune [0, 2, 3] rfl rfl ?_; with_reducible refine aw_region ?_)
    | refine stA ?_
    | (refine hK _ _ _ _ ?_; clear hK hX K)
    | (refine hX _ _ _ _ _ (by simp) ?_; clear hK hX K))
          refine retK_mk (by first | exact .inl rfl | exact .inr rfl) (by exact trivial) (ResL.two (ResA.tmp rfl) (ResA.tmp rfl)) (out_t (frzl_cons (by first | exact frz_c cv_rfl | exact frz_c cv_nil | exact frz_ownW rfl rfl (by first | rfl | with_reducible assumption | (simp <;> fail) | omega | (simp; omega) | assumption) | exact frz_eq (frz_c cv_rfl) (by first | rfl | (simp <;> fail) | fail)) (frzl_cons (by first | exact frz_c cv_rfl | exact frz_c cv_nil | exact frz_ownW rfl rfl (by first | rfl | with_reducible assumption | (simp <;> fail) | omega | (simp; omega) | assumption) | exact frz_eq (frz_c cv_rfl) (by first | rfl | (simp <;> fail) | fail)) frzl_nil)))
        · have e : dg c = none := by unfold dg; rw [if_neg (by omega), if_neg (by omega)]
          rw [e]
          refine ac_enter tabOk (sz := 23) Try.func76 rfl (by rw [Try.ntmps76]; rfl) ?_
          repeat' (first
    | ((with_reducible refine aw_seqk ?_); intro K hK hX)
    | ((with_reducible refine isC_reg ?_); refine aw_prune [0, 2, 3] rfl rfl ?_; with_reducible refine aw_region ?_)
    | refine stA ?_
    | (refine hK _ _ _ _ ?_; clear hK hX K)
    | (refine hX _ _ _ _ _ (by simp) ?_; clear hK hX K))
          refine retK_mk (by first | exact .inl rfl | exact .inr rfl) (by exact trivial) (ResL.two (ResA.tmp rfl) (ResA.tmp rfl)) (out_t (frzl_cons (by first | exact frz_c cv_rfl | exact frz_c cv_nil | exact frz_ownW rfl rfl (by first | rfl | with_reducible assumption | (simp <;> fail) | omega | (simp; omega) | assumption) | exact frz_eq (frz_c cv_rfl) (by first | rfl | (simp <;> fail) | fail)) (frzl_cons (by first | exact frz_c cv_rfl | exact frz_c cv_nil | exact frz_ownW rfl rfl (by first | rfl | with_reducible assumption | (simp <;> fail) | omega | (simp; omega) | assumption) | exact frz_eq (frz_c cv_rfl) (by first | rfl | (simp <;> fail) | fail)) frzl_nil)))
      · have g3 : (decide ((97 : Int) ≤ (c.toNat : Int)) == true) = false := by rw [decide_eq_false (by omega)]; rfl
        have e : dg c = none := by unfold dg; rw [if_neg (by omega), if_neg (by omega)]
        rw [e]
        refine ac_enter tabOk (sz := 23) Try.func76 rfl (by rw [Try.ntmps76]; rfl) ?_
        repeat' (first
    | ((with_reducible refine aw_seqk ?_); intro K hK hX)
    | ((with_reducible refine isC_reg ?_); refine aw_prune [0, 2, 3] rfl rfl ?_; with_reducible refine aw_region ?_)
    | refine stA ?_
    | (refine hK _ _ _ _ ?_; clear hK hX K)
    | (refine hX _ _ _ _ _ (by simp) ?_; clear hK hX K))
        refine retK_mk (by first | exact .inl rfl | exact .inr rfl) (by exact trivial) (ResL.two (ResA.tmp rfl) (ResA.tmp rfl)) (out_t (frzl_cons (by first | exact frz_c cv_rfl | exact frz_c cv_nil | exact frz_ownW rfl rfl (by first | rfl | with_reducible assumption | (simp <;> fail) | omega | (simp; omega) | assumption) | exact frz_eq (frz_c cv_rfl) (by first | rfl | (simp <;> fail) | fail)) (frzl_cons (by first | exact frz_c cv_rfl | exact frz_c cv_nil | exact frz_ownW rfl rfl (by first | rfl | with_reducible assumption | (simp <;> fail) | omega | (simp; omega) | assumption) | exact frz_eq (frz_c cv_rfl) (by first | rfl | (simp <;> fail) | fail)) frzl_nil)))
  · have g1 : (decide ((48 : Int) ≤ (c.toNat : Int)) == true) = false := by rw [decide_eq_false (by omega)]; rfl
    have g3 : (decide ((97 : Int) ≤ (c.toNat : Int)) == true) = false := by rw [decide_eq_false (by omega)]; rfl
    have e : dg c = none := by unfold dg; rw [if_neg (by omega), if_neg (by omega)]
    rw [e]
    refine ac_enter tabOk (sz := 23) Try.func76 rfl (by rw [Try.ntmps76]; rfl) ?_
    repeat' (first
    | ((with_reducible refine aw_seqk ?_); intro K hK hX)
    | ((with_reducible refine isC_reg ?_); refine aw_prune [0, 2, 3] rfl rfl ?_; with_reducible refine aw_region ?_)
    | refine stA ?_
    | (refine hK _ _ _ _ ?_; clear hK hX K)
    | (refine hX _ _ _ _ _ (by simp) ?_; clear hK hX K))
    refine retK_mk (by first | exact .inl rfl | exact .inr rfl) (by exact trivial) (ResL.two (ResA.tmp rfl) (ResA.tmp rfl)) (out_t (frzl_cons (by first | exact frz_c cv_rfl | exact frz_c cv_nil | exact frz_ownW rfl rfl (by first | rfl | with_reducible assumption | (simp <;> fail) | omega | (simp; omega) | assumption) | exact frz_eq (frz_c cv_rfl) (by first | rfl | (simp <;> fail) | fail)) (frzl_cons (by first | exact frz_c cv_rfl | exact frz_c cv_nil | exact frz_ownW rfl rfl (by first | rfl | with_reducible assumption | (simp <;> fail) | omega | (simp; omega) | assumption) | exact frz_eq (frz_c cv_rfl) (by first | rfl | (simp <;> fail) | fail)) frzl_nil)))
end Go.Proofs.Ytgofigkhdjjlmaa
