/-
  Format and Parse (walk), as the reference has them.
-/
import Derived.Test.YtgofigkhdjjlmaaD10
import Derived.Test.YtgofigkhdjjlmaaWK
import Derived.Test.YtgofigkhdjjlmaaAvS
import Derived.Test.YtgofigkhdjjlmaaAvT
set_option linter.unusedVariables false
set_option linter.unusedSimpArgs false
namespace Go.Proofs.Ytgofigkhdjjlmaa
open Go Go.RowKit Go.Av
set_option maxRecDepth 100000
def dgi (c : UInt8) : Int := match dg c with
  | some n => (n : Int)
  | none => -1
theorem dgi_some (c : UInt8) (h : (dg c).isSome = true) : dgi c = (((dg c).getD 0 : Nat) : Int) := by
  unfold dgi
  cases hd : dg c with
  | none => rw [hd] at h; cases h
  | some n => rfl
theorem dgi_none (c : UInt8) (h : ¬ (dg c).isSome = true) : dgi c = -1 := by
  unfold dgi
  cases hd : dg c with
  | none => rfl
  | some n => rw [hd] at h; exact absurd rfl h
section
variable {P : Program} {tab : Tab} {ev : Evl} {h : Heap} {d : Option Tmp} {T ty T' : TypeId} {x y : Operand} {pos : String} {aft : Array Edge} {gd : Option (Nat × Bool)}
theorem s_quo16 {b : UInt8} (hx : ev x = some (.c (.v (.int .u8 (b.toNat : Int))))) (hy : ev y = some (.c (.v (.int .u8 16)))) : Still P ⟨d, .binOp .quo T x y T', ty, pos, aft, gd⟩ ev h (.c (.v (.int .u8 ((b.toNat / 16 : Nat) : Int)))) :=
  s_quo hx hy (by decide) (by
    have := b.toNat_lt
    rw [qu8 (by omega) (by omega) (by omega)]
    omega)
theorem s_rem16 {b : UInt8} (hx : ev x = some (.c (.v (.int .u8 (b.toNat : Int))))) (hy : ev y = some (.c (.v (.int .u8 16)))) : Still P ⟨d, .binOp .rem T x y T', ty, pos, aft, gd⟩ ev h (.c (.v (.int .u8 ((b.toNat % 16 : Nat) : Int)))) :=
  s_rem hx hy (by decide) (by
    rw [r64 (by omega)]
    omega)
theorem hex_cut (a : Nat) (h : a < 16) : (⟨#[48, 49, 50, 51, 52, 53, 54, 55, 56, 57, 97, 98, 99, 100, 101, 102]⟩ : ByteArray).extract a (a + 1) = ⟨[hx a].toArray⟩ := by
  have : ∀ a : Fin 16, (⟨#[48, 49, 50, 51, 52, 53, 54, 55, 56, 57, 97, 98, 99, 100, 101, 102]⟩ : ByteArray).extract a.val (a.val + 1) = ⟨[hx a.val].toArray⟩ := by decide
  exact this ⟨a, h⟩
theorem s_slHex {a : Nat} {e : TyE} {lo hi : Operand} (ha : a < 16) (tb : TabOk P tab) (hT : tyLook tab T = some e) (hk : e.kind = .str) (hlo : ev lo = some (.c (.v (.int .u8 (a : Int))))) (hhi : ev hi = some (.c (.v (.int .u8 ((a : Int) + 1))))) (hX : ev x = some (.c (.v (.string ⟨#[48, 49, 50, 51, 52, 53, 54, 55, 56, 57, 97, 98, 99, 100, 101, 102]⟩)))) : Still P ⟨d, .slice T x (some lo) (some hi) none, ty, pos, aft, gd⟩ ev h (.c (.v (.string ⟨[hx a].toArray⟩))) := by
  have := s_slStr (P := P) (h := h) (d := d) (ty := ty) (pos := pos) (aft := aft) (gd := gd) (l := a) (r := a + 1) tb hT hk hX (Bd.yes hlo rfl) (Bd.yes hhi (by omega)) (by omega) (by show a + 1 ≤ 16; omega)
  rwa [hex_cut a ha] at this
theorem s_catL {l m : List UInt8} (hx : ev x = some (.c (.v (.string ⟨l.toArray⟩)))) (hy : ev y = some (.c (.v (.string ⟨m.toArray⟩)))) (hl : l.length + m.length ≤ 9223372036854775807) : Still P ⟨d, .binOp .add T x y T', ty, pos, aft, gd⟩ ev h (.c (.v (.string ⟨(l ++ m).toArray⟩))) :=
  s_cat hx hy (by show l.toArray.size + m.toArray.size ≤ _; simpa using hl) (by
    apply ByteArray.ext
    rw [ByteArray.data_append]
    simp)
end
theorem fmt_next (l : List UInt8) (i : Nat) (h : i < l.length) : fmt (l.take i) ++ [hx ((l.getD i 0).toNat / 16)] ++ [hx ((l.getD i 0).toNat % 16)] = fmt (l.take (i + 1)) := by
  rw [List.take_add_one, fmt, fmt, List.flatMap_append, List.getElem?_eq_getElem h]
  simp [List.getD, List.getElem?_eq_getElem h]
attribute [local irreducible] Still Adds AWL AW Drw AC AWR Weak Frz Src RetK Out InK
set_option maxHeartbeats 4000000 in
theorem rformat_ok (l : List UInt8) (hl : l.length = 32) : AC Try.prog 37 [.agg (u8c l)] (.c (.v (.string ⟨(fmt l).toArray⟩))) [] 0 := by
  have hul : (u8c l).length = 32 := by rw [u8c_length, hl]
  refine ac_enter tabOk (sz := 31) Try.func37 rfl (by rw [Try.ntmps37]; rfl) ?_
  repeat' (first
    | ((with_reducible refine aw_seqk ?_); intro K hK hX)
    | ((with_reducible refine isC_reg ?_); refine aw_prune [0, 1, 2, 3, 4, 5, 6] rfl rfl ?_; with_reducible refine aw_region ?_)
    | ((with_reducible refine isC_draw ?_); refine aw_prune [0, 1, 2, 3, 4, 5, 6] rfl rfl ?_; refine aw_drwF [] ?_)
    | refine stA ?_
    | refine stD ?_
    | (refine hK _ _ _ _ ?_; clear hK hX K)
    | (refine hX _ _ _ _ _ (by simp) ?_; clear hK hX K))
  refine aw_loopk 1 (fun i : Nat => [(1, .ref 0 0), (3, .c (.v (.string ⟨(fmt (l.take i)).toArray⟩))), (4, .c (iv i))]) (fun i => [(0, .row 35 (u8c l))]) [] (fun i => i ≤ 32) (fun i => 32 - i) 0 (by omega) weakA ?_
  intro i hi K hK hX
  have hlen : (fmt (l.take i)).length = 2 * i := by rw [fmt_length, List.length_take]; omega
  have hb : (l.getD i 0).toNat < 256 := UInt8.toNat_lt _
  by_cases hlt : i < 32
  · have n1 : (l.getD i 0).toNat / 16 < 16 := by omega
    have n2 : (l.getD i 0).toNat % 16 < 16 := by omega
    repeat' (first
    | ((with_reducible refine aw_seqk ?_); intro K hK hX)
    | ((with_reducible refine isC_reg ?_); refine aw_prune [0, 1, 2, 3, 4, 5, 6] rfl rfl ?_; with_reducible refine aw_region ?_)
    | ((with_reducible refine isC_draw ?_); refine aw_prune [0, 1, 2, 3, 4, 5, 6] rfl rfl ?_; refine aw_drwF [] ?_)
    | ((first | ((with_reducible refine isA_any ?_); refine xA ?_) | ((with_reducible refine isDk_any ?_); refine xD ?_)); (first | ((with_reducible refine e_bin ?_); (first | refine ex_i (s_quo16 rfl rfl) ?_ | refine ex_i (s_rem16 rfl rfl) ?_ | refine ex_i (s_catL rfl rfl (by simp [hlen]; omega)) ?_)) | ((with_reducible refine e_slice ?_); (first | refine ex_i (s_slHex n1 tabOk rfl rfl rfl rfl rfl) ?_ | refine ex_i (s_slHex n2 tabOk rfl rfl rfl rfl rfl) ?_)) | ((with_reducible refine e_load ?_); (first | refine ex_i (s_load1 tabOk rfl rfl rfl rfl (by exact u8_at0 l i (by omega))) ?_ | refine ex_i (s_load1r tabOk rfl rfl rfl rfl (by exact u8_at0 l i (by omega))) ?_ | refine ex_i (s_load1i tabOk rfl rfl rfl (by exact u8_at0 l i (by omega))) ?_)) | ((with_reducible refine e_ix ?_); (first | refine ex_i (s_ixV1 tabOk rfl rfl (by first | with_reducible exact cast_self _ | with_reducible exact cast_lit _ | exact nt (by omega) | rfl) rfl rfl rfl rfl rfl (by first | exact Nat.le_of_ble_eq_true rfl | omega | (simp; omega)) (by exact u8_at0 l i (by omega))) ?_ | refine ex_i (s_ixStr tabOk rfl rfl (by first | with_reducible exact cast_self _ | with_reducible exact cast_lit _ | exact nt (by omega) | rfl) rfl rfl (by exact u8_at0 l i (by omega))) ?_))))
    | refine stA ?_
    | refine stD ?_
    | (refine hK _ _ _ _ ?_; clear hK hX K)
    | (refine hX _ _ _ _ _ (by simp) ?_; clear hK hX K))
    rw [fmt_next l i (by omega)]
    exact ⟨i + 1, by omega, by omega, weakA⟩
  · obtain rfl : i = 32 := by omega
    repeat' (first
    | ((with_reducible refine aw_seqk ?_); intro K hK hX)
    | ((with_reducible refine isC_reg ?_); refine aw_prune [0, 1, 2, 3, 4, 5, 6] rfl rfl ?_; with_reducible refine aw_region ?_)
    | ((with_reducible refine isC_draw ?_); refine aw_prune [0, 1, 2, 3, 4, 5, 6] rfl rfl ?_; refine aw_drwF [] ?_)
    | refine stA ?_
    | refine stD ?_
    | (refine hK _ _ _ _ ?_; clear hK hX K)
    | (refine hX _ _ _ _ _ (by simp) ?_; clear hK hX K))
    rw [List.take_of_length_le (by omega)]
    refine retK_mk (by first | exact .inl rfl | exact .inr rfl) (by exact trivial) (ResL.one (ResA.tmp rfl)) (by first | exact out_c (by first | exact frz_c cv_rfl | exact frz_c cv_nil | exact frz_ownW rfl rfl (by first | rfl | with_reducible assumption | (simp <;> fail) | omega | (simp; omega) | assumption) | exact frz_eq (frz_c cv_rfl) (by first | rfl | (simp <;> fail) | fail)) | exact out_own rfl rfl)
set_option maxHeartbeats 4000000 in
theorem rdigit_ok (c : UInt8) : AC Try.prog 77 [.v (.int .u8 (c.toNat : Int))] (.c (iv (dgi c))) [] 0 := by
  have hb : c.toNat < 256 := UInt8.toNat_lt _
  by_cases h1 : 48 ≤ c.toNat
  · have g1 : (decide ((48 : Int) ≤ (c.toNat : Int)) == true) = true := by rw [decide_eq_true (by omega)]; rfl
    by_cases h2 : c.toNat ≤ 57
    · have e : dgi c = (c.toNat : Int) - 48 := by unfold dgi dg; rw [if_pos ⟨h1, h2⟩]; simp only; omega
      rw [e]
      refine ac_enter tabOk (sz := 22) Try.func77 rfl (by rw [Try.ntmps77]; rfl) ?_
      repeat' (first
    | ((with_reducible refine aw_seqk ?_); intro K hK hX)
    | ((with_reducible refine isC_reg ?_); refine aw_prune [0, 2] rfl rfl ?_; with_reducible refine aw_region ?_)
    | refine stA ?_
    | (refine hK _ _ _ _ ?_; clear hK hX K)
    | (refine hX _ _ _ _ _ (by simp) ?_; clear hK hX K))
      refine retK_mk (by first | exact .inl rfl | exact .inr rfl) (by exact trivial) (ResL.one (ResA.tmp rfl)) (by first | exact out_c (by first | exact frz_c cv_rfl | exact frz_c cv_nil | exact frz_ownW rfl rfl (by first | rfl | with_reducible assumption | (simp <;> fail) | omega | (simp; omega) | assumption) | exact frz_eq (frz_c cv_rfl) (by first | rfl | (simp <;> fail) | fail)) | exact out_own rfl rfl)
    · by_cases h3 : 97 ≤ c.toNat
      · have g3 : (decide ((97 : Int) ≤ (c.toNat : Int)) == true) = true := by rw [decide_eq_true (by omega)]; rfl
        by_cases h4 : c.toNat ≤ 102
        · have e : dgi c = (c.toNat : Int) - 97 + 10 := by unfold dgi dg; rw [if_neg (by omega), if_pos ⟨h3, h4⟩]; simp only; omega
          rw [e]
          refine ac_enter tabOk (sz := 22) Try.func77 rfl (by rw [Try.ntmps77]; rfl) ?_
          repeat' (first
    | ((with_reducible refine aw_seqk ?_); intro K hK hX)
    | ((with_reducible refine isC_reg ?_); refine aw_prune [0, 2] rfl rfl ?_; with_reducible refine aw_region ?_)
    | refine stA ?_
    | (refine hK _ _ _ _ ?_; clear hK hX K)
    | (refine hX _ _ _ _ _ (by simp) ?_; clear hK hX K))
          refine retK_mk (by first | exact .inl rfl | exact .inr rfl) (by exact trivial) (ResL.one (ResA.tmp rfl)) (by first | exact out_c (by first | exact frz_c cv_rfl | exact frz_c cv_nil | exact frz_ownW rfl rfl (by first | rfl | with_reducible assumption | (simp <;> fail) | omega | (simp; omega) | assumption) | exact frz_eq (frz_c cv_rfl) (by first | rfl | (simp <;> fail) | fail)) | exact out_own rfl rfl)
        · have e : dgi c = -1 := by unfold dgi dg; rw [if_neg (by omega), if_neg (by omega)]
          rw [e]
          refine ac_enter tabOk (sz := 22) Try.func77 rfl (by rw [Try.ntmps77]; rfl) ?_
          repeat' (first
    | ((with_reducible refine aw_seqk ?_); intro K hK hX)
    | ((with_reducible refine isC_reg ?_); refine aw_prune [0, 2] rfl rfl ?_; with_reducible refine aw_region ?_)
    | refine stA ?_
    | (refine hK _ _ _ _ ?_; clear hK hX K)
    | (refine hX _ _ _ _ _ (by simp) ?_; clear hK hX K))
          refine retK_mk (by first | exact .inl rfl | exact .inr rfl) (by exact trivial) (ResL.one (ResA.tmp rfl)) (by first | exact out_c (by first | exact frz_c cv_rfl | exact frz_c cv_nil | exact frz_ownW rfl rfl (by first | rfl | with_reducible assumption | (simp <;> fail) | omega | (simp; omega) | assumption) | exact frz_eq (frz_c cv_rfl) (by first | rfl | (simp <;> fail) | fail)) | exact out_own rfl rfl)
      · have g3 : (decide ((97 : Int) ≤ (c.toNat : Int)) == true) = false := by rw [decide_eq_false (by omega)]; rfl
        have e : dgi c = -1 := by unfold dgi dg; rw [if_neg (by omega), if_neg (by omega)]
        rw [e]
        refine ac_enter tabOk (sz := 22) Try.func77 rfl (by rw [Try.ntmps77]; rfl) ?_
        repeat' (first
    | ((with_reducible refine aw_seqk ?_); intro K hK hX)
    | ((with_reducible refine isC_reg ?_); refine aw_prune [0, 2] rfl rfl ?_; with_reducible refine aw_region ?_)
    | refine stA ?_
    | (refine hK _ _ _ _ ?_; clear hK hX K)
    | (refine hX _ _ _ _ _ (by simp) ?_; clear hK hX K))
        refine retK_mk (by first | exact .inl rfl | exact .inr rfl) (by exact trivial) (ResL.one (ResA.tmp rfl)) (by first | exact out_c (by first | exact frz_c cv_rfl | exact frz_c cv_nil | exact frz_ownW rfl rfl (by first | rfl | with_reducible assumption | (simp <;> fail) | omega | (simp; omega) | assumption) | exact frz_eq (frz_c cv_rfl) (by first | rfl | (simp <;> fail) | fail)) | exact out_own rfl rfl)
  · have g1 : (decide ((48 : Int) ≤ (c.toNat : Int)) == true) = false := by rw [decide_eq_false (by omega)]; rfl
    have g3 : (decide ((97 : Int) ≤ (c.toNat : Int)) == true) = false := by rw [decide_eq_false (by omega)]; rfl
    have e : dgi c = -1 := by unfold dgi dg; rw [if_neg (by omega), if_neg (by omega)]
    rw [e]
    refine ac_enter tabOk (sz := 22) Try.func77 rfl (by rw [Try.ntmps77]; rfl) ?_
    repeat' (first
    | ((with_reducible refine aw_seqk ?_); intro K hK hX)
    | ((with_reducible refine isC_reg ?_); refine aw_prune [0, 2] rfl rfl ?_; with_reducible refine aw_region ?_)
    | refine stA ?_
    | (refine hK _ _ _ _ ?_; clear hK hX K)
    | (refine hX _ _ _ _ _ (by simp) ?_; clear hK hX K))
    refine retK_mk (by first | exact .inl rfl | exact .inr rfl) (by exact trivial) (ResL.one (ResA.tmp rfl)) (by first | exact out_c (by first | exact frz_c cv_rfl | exact frz_c cv_nil | exact frz_ownW rfl rfl (by first | rfl | with_reducible assumption | (simp <;> fail) | omega | (simp; omega) | assumption) | exact frz_eq (frz_c cv_rfl) (by first | rfl | (simp <;> fail) | fail)) | exact out_own rfl rfl)
/-- The row after i digits. -/
def rpr (s : ByteArray) (i : Nat) : List UInt8 := if i % 2 = 0 then flg (pb s) 32 (i / 2) else (flg (pb s) 32 (i / 2)).set (i / 2) (UInt8.ofNat (dv s (2 * (i / 2))))
theorem flg_at (f : Nat → UInt8) (n j : Nat) (h : j < n) : (flg f n j).getD j 0 = 0 := by
  have h0 : 0 < n - j := by omega
  unfold flg List.getD
  rw [List.getElem?_append_right (by simp)]
  simp [h0]
theorem rpr_even (s : ByteArray) (j : Nat) : rpr s (2 * j) = flg (pb s) 32 j := by
  unfold rpr
  rw [if_pos (by omega), show 2 * j / 2 = j by omega]
theorem rpr_odd (s : ByteArray) (j : Nat) : rpr s (2 * j + 1) = (flg (pb s) 32 j).set j (UInt8.ofNat (dv s (2 * j))) := by
  unfold rpr
  rw [if_neg (by omega), show (2 * j + 1) / 2 = j by omega]
theorem even_at (s : ByteArray) (j : Nat) (h : j < 32) : (u8c (flg (pb s) 32 j))[0 + j * 1]? = some (.v (.int .u8 0)) := by
  rw [u8_at0 _ _ (by rw [flg_length _ _ _ (by omega)]; exact h), flg_at _ _ _ h]
  rfl
theorem odd_at (s : ByteArray) (j : Nat) (h : j < 32) : (u8c ((flg (pb s) 32 j).set j (UInt8.ofNat (dv s (2 * j)))))[0 + j * 1]? = some (.v (.int .u8 ((dv s (2 * j) : Nat) : Int))) := by
  have hl : (flg (pb s) 32 j).length = 32 := flg_length _ _ _ (by omega)
  have := dg_lt (sb s (2 * j))
  rw [u8_at0 _ _ (by rw [List.length_set, hl]; exact h)]
  have e : ((flg (pb s) 32 j).set j (UInt8.ofNat (dv s (2 * j)))).getD j 0 = UInt8.ofNat (dv s (2 * j)) := by
    simp [List.getD, hl, h]
  rw [e]
  congr 4
  simp only [UInt8.toNat_ofNat', dv]
  omega
theorem even_set (s : ByteArray) (j : Nat) (h : j < 32) : (u8c (flg (pb s) 32 j)).set (0 + j * 1) (.v (.int .u8 ((dv s (2 * j) : Nat) : Int))) = u8c (rpr s (2 * j + 1)) := by
  have := dg_lt (sb s (2 * j))
  have e : ((dv s (2 * j) : Nat) : Int) = ((UInt8.ofNat (dv s (2 * j))).toNat : Int) := by
    simp only [UInt8.toNat_ofNat', dv]
    omega
  rw [e, u8c_set, rpr_odd, Nat.zero_add, Nat.mul_one]
theorem odd_set (s : ByteArray) (j : Nat) (h : j < 32) : (u8c ((flg (pb s) 32 j).set j (UInt8.ofNat (dv s (2 * j))))).set (0 + j * 1) (.v (.int .u8 ((dv s (2 * j) * 16 + dv s (2 * j + 1) : Nat) : Int))) = u8c (rpr s (2 * (j + 1))) := by
  rw [← pb_nat, u8c_set, Nat.zero_add, Nat.mul_one, List.set_set, rpr_even]
  have := flg_set (pb s) 32 j h
  rw [u8c_set, Nat.zero_add, Nat.mul_one] at this
  exact this
set_option maxHeartbeats 4000000 in
theorem rparse_ok (s : ByteArray) : AC Try.prog 38 [.v (.string s)] (.tup [.c (.agg (u8c (pval s))), .c (iv (perr s))]) [] 0 := by
  by_cases hn : s.size = 64
  · refine ac_enter tabOk (sz := 35) Try.func38 rfl (by rw [Try.ntmps38]; rfl) ?_
    repeat' (first
    | ((with_reducible refine aw_seqk ?_); intro K hK hX)
    | ((with_reducible refine isC_reg ?_); refine aw_prune [0, 2, 3, 4, 5] rfl rfl ?_; with_reducible refine aw_region ?_)
    | ((with_reducible refine isC_draw ?_); refine aw_prune [0, 2, 3, 4, 5] rfl rfl ?_; refine aw_drwF [] ?_)
    | refine stA ?_
    | refine stD ?_
    | (refine hK _ _ _ _ ?_; clear hK hX K)
    | (refine hX _ _ _ _ _ (by simp) ?_; clear hK hX K))
    refine aw_loopk 2 (fun i : Nat => [(0, .c (.v (.string s))), (2, .ref 0 0), (4, .ref 1 0), (5, .c (iv i))]) (fun i => [(0, .row 35 z32), (1, .row 35 (u8c (rpr s i)))]) _ (fun i => i ≤ 64 ∧ ∀ j, j < i → (dg (sb s j)).isSome = true) (fun i => 64 - i) 0 ⟨by omega, fun j hj => by omega⟩ weakA ?_
    rintro i ⟨hi, hd⟩ K hK hX
    by_cases hlt : i < 64
    · have hall : ∀ (h : (dg (sb s i)).isSome = true), ∀ k, k < i + 1 → (dg (sb s k)).isSome = true := fun h k hk => by
        rcases Nat.lt_or_ge k i with h1 | h1
        · exact hd k h1
        · rw [show k = i by omega]; exact h
      by_cases d1 : (dg (sb s i)).isSome = true
      · have hc := rdigit_ok (sb s i)
        rw [dgi_some _ d1] at hc
        have n1 := dg_lt (sb s i)
        have hv : (dg (sb s i)).getD 0 = dv s i := rfl
        rw [hv] at hc n1
        rcases Nat.mod_two_eq_zero_or_one i with hp | hp
        · obtain ⟨j, rfl⟩ : ∃ j, i = 2 * j := ⟨i / 2, by omega⟩
          have hlen : (u8c (flg (pb s) 32 j)).length = 32 := by rw [u8c_length, flg_length _ _ _ (by omega)]
          rw [rpr_even]
          repeat' (first
    | ((with_reducible refine aw_seqk ?_); intro K hK hX)
    | ((with_reducible refine isC_reg ?_); refine aw_prune [0, 2, 3, 4, 5] rfl rfl ?_; with_reducible refine aw_region ?_)
    | ((with_reducible refine isC_draw ?_); refine aw_prune [0, 2, 3, 4, 5] rfl rfl ?_; refine aw_drwF [] ?_)
    | ((first | with_reducible refine isA_call ?_ | with_reducible refine isD_call ?_); (first | refine zA ?_ | refine zN ?_ | refine zD ?_); (first | refine c0 (hc) ?_))
    | ((first | ((with_reducible refine isA_any ?_); refine xA ?_) | ((with_reducible refine isDk_any ?_); refine xD ?_)); (first | ((with_reducible refine e_ixA ?_); (first | refine ex_i (s_ixA tabOk rfl rfl (show ((2 * j : Nat) : Int) / 2 = (j : Int) by omega) rfl rfl rfl (by omega)) ?_)) | ((with_reducible refine e_bin ?_); (first | refine ex_i (s_arit rfl rfl rfl (show IntKind.u8.wrap (0 + (dv s (2 * j) : Int)) = (dv s (2 * j) : Int) by rw [wu8 (by omega) (by omega)]; omega)) ?_)) | ((with_reducible refine e_load ?_); (first | refine ex_i (s_load1 tabOk rfl rfl rfl rfl (by first | exact sb_at s _ (by omega) | exact even_at s j (by omega))) ?_ | refine ex_i (s_load1r tabOk rfl rfl rfl rfl (by first | exact sb_at s _ (by omega) | exact even_at s j (by omega))) ?_ | refine ex_i (s_load1i tabOk rfl rfl rfl (by first | exact sb_at s _ (by omega) | exact even_at s j (by omega))) ?_)) | ((with_reducible refine e_ix ?_); (first | refine ex_i (s_ixV1 tabOk rfl rfl (by first | with_reducible exact cast_self _ | with_reducible exact cast_lit _ | exact nt (by omega) | rfl) rfl rfl rfl rfl rfl (by first | exact Nat.le_of_ble_eq_true rfl | omega | (simp; omega)) (by first | exact sb_at s _ (by omega) | exact even_at s j (by omega))) ?_ | refine ex_i (s_ixStr tabOk rfl rfl (by first | with_reducible exact cast_self _ | with_reducible exact cast_lit _ | exact nt (by omega) | rfl) rfl rfl (by first | exact sb_at s _ (by omega) | exact even_at s j (by omega))) ?_))))
    | ((with_reducible refine isA_store ?_); (refine awl_store1r tabOk g_none rfl rfl rfl rfl rfl rfl (by first | omega | exact Nat.le_of_ble_eq_true rfl | omega | (simp; omega)) ?_))
    | refine stA ?_
    | refine stD ?_
    | (refine hK _ _ _ _ ?_; clear hK hX K)
    | (refine hX _ _ _ _ _ (by simp) ?_; clear hK hX K))
          exact ⟨2 * j + 1, ⟨by omega, hall d1⟩, by omega, (by refine weak_mk rfl ?_ ?_ rfl <;> (repeat' (first | exact weakE_nil | exact weakH_nil | refine weakE_cons rfl (by first | rfl | (exact congrArg (AObj.row 35) (even_set s j (by omega))) | exact own_eq rfl rfl (by omega) | exact int_eq (by omega) | (simp <;> fail) | (congr 4; omega) | (congr 3; omega) | (congr 2; omega)) rfl ?_ | refine weakH_cons rfl (by first | rfl | (exact congrArg (AObj.row 35) (even_set s j (by omega))) | exact own_eq rfl rfl (by omega) | exact int_eq (by omega) | (simp <;> fail) | (congr 4; omega) | (congr 3; omega) | (congr 2; omega)) rfl ?_)))⟩
        · obtain ⟨j, rfl⟩ : ∃ j, i = 2 * j + 1 := ⟨i / 2, by omega⟩
          have n2 := dg_lt (sb s (2 * j))
          have n3 : dv s (2 * j) < 16 := n2
          have hlen : (u8c ((flg (pb s) 32 j).set j (UInt8.ofNat (dv s (2 * j))))).length = 32 := by rw [u8c_length, List.length_set, flg_length _ _ _ (by omega)]
          rw [rpr_odd]
          repeat' (first
    | ((with_reducible refine aw_seqk ?_); intro K hK hX)
    | ((with_reducible refine isC_reg ?_); refine aw_prune [0, 2, 3, 4, 5] rfl rfl ?_; with_reducible refine aw_region ?_)
    | ((with_reducible refine isC_draw ?_); refine aw_prune [0, 2, 3, 4, 5] rfl rfl ?_; refine aw_drwF [] ?_)
    | ((first | with_reducible refine isA_call ?_ | with_reducible refine isD_call ?_); (first | refine zA ?_ | refine zN ?_ | refine zD ?_); (first | refine c0 (hc) ?_))
    | ((first | ((with_reducible refine isA_any ?_); refine xA ?_) | ((with_reducible refine isDk_any ?_); refine xD ?_)); (first | ((with_reducible refine e_ixA ?_); (first | refine ex_i (s_ixA tabOk rfl rfl (show ((2 * j + 1 : Nat) : Int) / 2 = (j : Int) by omega) rfl rfl rfl (by omega)) ?_)) | ((with_reducible refine e_bin ?_); (first | refine ex_i (s_arit rfl rfl rfl (show IntKind.u8.wrap ((dv s (2 * j) : Int) * 16 + (dv s (2 * j + 1) : Int)) = ((dv s (2 * j) * 16 + dv s (2 * j + 1) : Nat) : Int) by rw [wu8 (by omega) (by omega)]; omega)) ?_)) | ((with_reducible refine e_load ?_); (first | refine ex_i (s_load1 tabOk rfl rfl rfl rfl (by first | exact sb_at s _ (by omega) | exact odd_at s j (by omega))) ?_ | refine ex_i (s_load1r tabOk rfl rfl rfl rfl (by first | exact sb_at s _ (by omega) | exact odd_at s j (by omega))) ?_ | refine ex_i (s_load1i tabOk rfl rfl rfl (by first | exact sb_at s _ (by omega) | exact odd_at s j (by omega))) ?_)) | ((with_reducible refine e_ix ?_); (first | refine ex_i (s_ixV1 tabOk rfl rfl (by first | with_reducible exact cast_self _ | with_reducible exact cast_lit _ | exact nt (by omega) | rfl) rfl rfl rfl rfl rfl (by first | exact Nat.le_of_ble_eq_true rfl | omega | (simp; omega)) (by first | exact sb_at s _ (by omega) | exact odd_at s j (by omega))) ?_ | refine ex_i (s_ixStr tabOk rfl rfl (by first | with_reducible exact cast_self _ | with_reducible exact cast_lit _ | exact nt (by omega) | rfl) rfl rfl (by first | exact sb_at s _ (by omega) | exact odd_at s j (by omega))) ?_))))
    | ((with_reducible refine isA_store ?_); (refine awl_store1r tabOk g_none rfl rfl rfl rfl rfl rfl (by first | omega | exact Nat.le_of_ble_eq_true rfl | omega | (simp; omega)) ?_))
    | refine stA ?_
    | refine stD ?_
    | (refine hK _ _ _ _ ?_; clear hK hX K)
    | (refine hX _ _ _ _ _ (by simp) ?_; clear hK hX K))
          exact ⟨2 * (j + 1), ⟨by omega, hall d1⟩, by omega, (by refine weak_mk rfl ?_ ?_ rfl <;> (repeat' (first | exact weakE_nil | exact weakH_nil | refine weakE_cons rfl (by first | rfl | (exact congrArg (AObj.row 35) (odd_set s j (by omega))) | exact own_eq rfl rfl (by omega) | exact int_eq (by omega) | (simp <;> fail) | (congr 4; omega) | (congr 3; omega) | (congr 2; omega)) rfl ?_ | refine weakH_cons rfl (by first | rfl | (exact congrArg (AObj.row 35) (odd_set s j (by omega))) | exact own_eq rfl rfl (by omega) | exact int_eq (by omega) | (simp <;> fail) | (congr 4; omega) | (congr 3; omega) | (congr 2; omega)) rfl ?_)))⟩
      · have hc := rdigit_ok (sb s i)
        rw [dgi_none _ d1] at hc
        have hg : ¬ good s := fun h => d1 (h.2 _ (by omega))
        repeat' (first
    | ((with_reducible refine aw_seqk ?_); intro K hK hX)
    | ((with_reducible refine isC_reg ?_); refine aw_prune [0, 2, 3, 4, 5] rfl rfl ?_; with_reducible refine aw_region ?_)
    | ((with_reducible refine isC_draw ?_); refine aw_prune [0, 2, 3, 4, 5] rfl rfl ?_; refine aw_drwF [] ?_)
    | ((first | with_reducible refine isA_call ?_ | with_reducible refine isD_call ?_); (first | refine zA ?_ | refine zN ?_ | refine zD ?_); (first | refine c0 (hc) ?_))
    | ((first | ((with_reducible refine isA_any ?_); refine xA ?_) | ((with_reducible refine isDk_any ?_); refine xD ?_)); (first | ((with_reducible refine e_load ?_); (first | refine ex_i (s_load1 tabOk rfl rfl rfl rfl (by exact sb_at s _ (by omega))) ?_ | refine ex_i (s_load1r tabOk rfl rfl rfl rfl (by exact sb_at s _ (by omega))) ?_ | refine ex_i (s_load1i tabOk rfl rfl rfl (by exact sb_at s _ (by omega))) ?_)) | ((with_reducible refine e_ix ?_); (first | refine ex_i (s_ixV1 tabOk rfl rfl (by first | with_reducible exact cast_self _ | with_reducible exact cast_lit _ | exact nt (by omega) | rfl) rfl rfl rfl rfl rfl (by first | exact Nat.le_of_ble_eq_true rfl | omega | (simp; omega)) (by exact sb_at s _ (by omega))) ?_ | refine ex_i (s_ixStr tabOk rfl rfl (by first | with_reducible exact cast_self _ | with_reducible exact cast_lit _ | exact nt (by omega) | rfl) rfl rfl (by exact sb_at s _ (by omega))) ?_))))
    | refine stA ?_
    | refine stD ?_
    | (refine hK _ _ _ _ ?_; clear hK hX K)
    | (refine hX _ _ _ _ _ (by simp) ?_; clear hK hX K))
        rw [pval_bad s hg, perr_bad s hg]
        refine retK_mk (by first | exact .inl rfl | exact .inr rfl) (by exact trivial) (ResL.two (by first | exact ResA.one rfl rfl rfl rfl rfl | exact ResA.agg rfl rfl rfl rfl rfl (by first | exact IsAgg.closed rfl rfl | exact IsAgg.mixed _) | exact ResA.aggr rfl rfl rfl rfl (by first | rfl | with_reducible assumption | (simp <;> fail) | omega | (simp; omega) | assumption)) (ResA.tmp rfl)) (out_t (frzl_cons (by first | exact frz_c cv_rfl | exact frz_c cv_nil | exact frz_ownW rfl rfl (by first | rfl | with_reducible assumption | (simp <;> fail) | omega | (simp; omega) | assumption) | exact frz_eq (frz_c cv_rfl) (by first | rfl | (simp <;> fail) | fail)) (frzl_cons (by first | exact frz_c cv_rfl | exact frz_c cv_nil | exact frz_ownW rfl rfl (by first | rfl | with_reducible assumption | (simp <;> fail) | omega | (simp; omega) | assumption) | exact frz_eq (frz_c cv_rfl) (by first | rfl | (simp <;> fail) | fail)) frzl_nil)))
    · obtain rfl : i = 64 := by omega
      have hg : good s := ⟨hn, hd⟩
      have hlen : (u8c (rpr s 64)).length = 32 := by rw [show 64 = 2 * 32 from rfl, rpr_even, u8c_length, flg_length _ _ _ (by omega)]
      repeat' (first
    | ((with_reducible refine aw_seqk ?_); intro K hK hX)
    | ((with_reducible refine isC_reg ?_); refine aw_prune [0, 2, 3, 4, 5] rfl rfl ?_; with_reducible refine aw_region ?_)
    | ((with_reducible refine isC_draw ?_); refine aw_prune [0, 2, 3, 4, 5] rfl rfl ?_; refine aw_drwF [] ?_)
    | refine stA ?_
    | refine stD ?_
    | (refine hK _ _ _ _ ?_; clear hK hX K)
    | (refine hX _ _ _ _ _ (by simp) ?_; clear hK hX K))
      rw [pval_good s hg, perr_good s hg, ← flg_full, ← rpr_even]
      refine retK_mk (by first | exact .inl rfl | exact .inr rfl) (by exact trivial) (ResL.two (by first | exact ResA.one rfl rfl rfl rfl rfl | exact ResA.agg rfl rfl rfl rfl rfl (by first | exact IsAgg.closed rfl rfl | exact IsAgg.mixed _) | exact ResA.aggr rfl rfl rfl rfl (by first | rfl | with_reducible assumption | (simp <;> fail) | omega | (simp; omega) | assumption)) (ResA.tmp rfl)) (out_t (frzl_cons (by first | exact frz_c cv_rfl | exact frz_c cv_nil | exact frz_ownW rfl rfl (by first | rfl | with_reducible assumption | (simp <;> fail) | omega | (simp; omega) | assumption) | exact frz_eq (frz_c cv_rfl) (by first | rfl | (simp <;> fail) | fail)) (frzl_cons (by first | exact frz_c cv_rfl | exact frz_c cv_nil | exact frz_ownW rfl rfl (by first | rfl | with_reducible assumption | (simp <;> fail) | omega | (simp; omega) | assumption) | exact frz_eq (frz_c cv_rfl) (by first | rfl | (simp <;> fail) | fail)) frzl_nil)))
  · have hg : ¬ good s := fun h => hn h.1
    have p1 : decide ((s.size : Int) ≠ 64) = true := decide_eq_true (by omega)
    rw [pval_bad s hg, perr_bad s hg]
    refine ac_enter tabOk (sz := 35) Try.func38 rfl (by rw [Try.ntmps38]; rfl) ?_
    repeat' (first
    | ((with_reducible refine aw_seqk ?_); intro K hK hX)
    | ((with_reducible refine isC_reg ?_); refine aw_prune [0, 2, 3, 4, 5] rfl rfl ?_; with_reducible refine aw_region ?_)
    | ((with_reducible refine isC_draw ?_); refine aw_prune [0, 2, 3, 4, 5] rfl rfl ?_; refine aw_drwF [] ?_)
    | refine stA ?_
    | refine stD ?_
    | (refine hK _ _ _ _ ?_; clear hK hX K)
    | (refine hX _ _ _ _ _ (by simp) ?_; clear hK hX K))
    refine retK_mk (by first | exact .inl rfl | exact .inr rfl) (by exact trivial) (ResL.two (by first | exact ResA.one rfl rfl rfl rfl rfl | exact ResA.agg rfl rfl rfl rfl rfl (by first | exact IsAgg.closed rfl rfl | exact IsAgg.mixed _) | exact ResA.aggr rfl rfl rfl rfl (by first | rfl | with_reducible assumption | (simp <;> fail) | omega | (simp; omega) | assumption)) (ResA.tmp rfl)) (out_t (frzl_cons (by first | exact frz_c cv_rfl | exact frz_c cv_nil | exact frz_ownW rfl rfl (by first | rfl | with_reducible assumption | (simp <;> fail) | omega | (simp; omega) | assumption) | exact frz_eq (frz_c cv_rfl) (by first | rfl | (simp <;> fail) | fail)) (frzl_cons (by first | exact frz_c cv_rfl | exact frz_c cv_nil | exact frz_ownW rfl rfl (by first | rfl | with_reducible assumption | (simp <;> fail) | omega | (simp; omega) | assumption) | exact frz_eq (frz_c cv_rfl) (by first | rfl | (simp <;> fail) | fail)) frzl_nil)))
end Go.Proofs.Ytgofigkhdjjlmaa
