/-
  Integers as bytes (walk), as the program and as the reference have them.
-/
import Derived.Test.YtgofigkhdjjlmaaD18
import Derived.Test.YtgofigkhdjjlmaaWK
import Derived.Test.YtgofigkhdjjlmaaAvP
import Derived.Test.YtgofigkhdjjlmaaAvQ
import Derived.Test.YtgofigkhdjjlmaaAvT
set_option linter.unusedVariables false
set_option linter.unusedSimpArgs false
namespace Go.Proofs.Ytgofigkhdjjlmaa
open Go Go.RowKit Go.Av
set_option maxRecDepth 100000
/-- Groups of seven bits. -/
def encN (x : Nat) : List UInt8 := if h : x < 128 then [UInt8.ofNat x] else UInt8.ofNat (x % 128 + 128) :: encN (x / 128)
termination_by x
decreasing_by omega
theorem encN_lt {x : Nat} (h : x < 128) : encN x = [UInt8.ofNat x] := by rw [encN, dif_pos h]
theorem encN_ge {x : Nat} (h : ¬ x < 128) : encN x = UInt8.ofNat (x % 128 + 128) :: encN (x / 128) := by rw [encN, dif_neg h]
theorem encN_len : ∀ (k x : Nat), x < 128 ^ (k + 1) → (encN x).length ≤ k + 1
  | 0, x, h => by rw [encN_lt (by omega)]; simp
  | k + 1, x, h => by
    by_cases hx : x < 128
    · rw [encN_lt hx]; simp
    · rw [encN_ge hx, List.length_cons]
      have := encN_len k (x / 128) (by rw [Nat.div_lt_iff_lt_mul (by decide)]; rw [Nat.pow_succ] at h; omega)
      omega
theorem encN_pos (x : Nat) : 0 < (encN x).length := by
  by_cases hx : x < 128
  · rw [encN_lt hx]; simp
  · rw [encN_ge hx]; simp
def zig (n : Int) : BitVec 64 := if n < 0 then ~~~(BitVec.ofInt 64 n <<< 1) else BitVec.ofInt 64 n <<< 1
def enc (n : Int) : List UInt8 := encN (zig n).toNat
theorem enc_len (n : Int) : (enc n).length ≤ 10 := encN_len 9 _ (Nat.lt_of_lt_of_le (zig n).isLt (by decide))
theorem enc_pos (n : Int) : 0 < (enc n).length := encN_pos _
abbrev uv (x : Nat) : CV := .v (.int .u64 (x : Int))
theorem enc_step (l : List UInt8) (x : Nat) (r : Int) (hr : r = ((x % 128 + 128 : Nat) : Int)) : u8c l ++ [.v (.int .u8 r)] = u8c (l ++ [UInt8.ofNat (x % 128 + 128)]) := by
  subst hr
  rw [u8c_app]
  congr 1
  show _ = [CV.v (.int .u8 ((UInt8.ofNat (x % 128 + 128)).toNat : Int))]
  rw [UInt8.toNat_ofNat', show (x % 128 + 128) % 2 ^ 8 = x % 128 + 128 by omega]
theorem enc_last (l : List UInt8) (x : Nat) (hx : x < 128) : u8c l ++ [.v (.int .u8 (x : Int))] = u8c (l ++ [UInt8.ofNat x]) := by
  rw [u8c_app]
  congr 1
  show _ = [CV.v (.int .u8 ((UInt8.ofNat x).toNat : Int))]
  rw [UInt8.toNat_ofNat', Nat.mod_eq_of_lt (by omega)]
section
variable {P : Program} {tab : Tab} {ev : Evl} {h : Heap} {d : Option Tmp} {T ty T' : TypeId} {x y : Operand} {pos : String} {aft : Array Edge} {gd : Option (Nat × Bool)}
theorem wu64' {m : Int} (h1 : 0 ≤ m) (h2 : m < 18446744073709551616) : IntKind.u64.wrap m = m := by rw [IntKind.wrap_u64]; omega
theorem s_quoU {b m : Nat} (hm : 0 < m) (hb : b < 18446744073709551616) {Y : Int} (hY : Y = (m : Int)) (hx : ev x = some (.c (.v (.int .u64 (b : Int))))) (hy : ev y = some (.c (.v (.int .u64 Y)))) : Still P ⟨d, .binOp .quo T x y T', ty, pos, aft, gd⟩ ev h (.c (uv (b / m))) :=
  s_quo hx hy (by omega) (by
    subst hY
    have hlt := Nat.div_le_self b m
    rw [Int.tdiv_eq_ediv_of_nonneg (by omega), ← Int.natCast_ediv]
    generalize b / m = q at hlt
    exact wu64' (by omega) (by omega))
theorem s_remU {b m : Nat} (hm : 0 < m) {Y : Int} (hY : Y = (m : Int)) (hx : ev x = some (.c (.v (.int .u64 (b : Int))))) (hy : ev y = some (.c (.v (.int .u64 Y)))) : Still P ⟨d, .binOp .rem T x y T', ty, pos, aft, gd⟩ ev h (.c (uv (b % m))) :=
  s_rem hx hy (by omega) (by
    subst hY
    rw [Int.tmod_eq_emod_of_nonneg (by omega), ← Int.natCast_emod])
theorem s_shrU {b m : Nat} {k : IntKind} {Y : Int} (hx : ev x = some (.c (.v (.int .u64 (b : Int))))) (hy : ev y = some (.c (.v (.int k Y)))) (hY : Y = (m : Int)) (hm : m < 64) : Still P ⟨d, .binOp .shr T x y T', ty, pos, aft, gd⟩ ev h (.c (uv (b / 2 ^ m))) :=
  s_shr hx hy (by omega) (by
    subst hY
    have e : min ((m : Int).toNat) IntKind.u64.bits = m := by
      show min ((m : Int).toNat) 64 = m
      omega
    rw [e, Int.fdiv_eq_ediv_of_nonneg _ (Int.le_of_lt (Int.pow_pos (by decide)))]
    simp)
theorem s_convU8 (tb : TabOk P tab) {S : TypeId} {e es : TyE} {b : Nat} (hS : tyLook tab S = some es) (hT : tyLook tab T = some e) (hk : e.kind = .int .u8) (hx : ev x = some (.c (.v (.int .u64 (b : Int))))) : Still P ⟨d, .convert S T x, ty, pos, aft, gd⟩ ev h (.c (.v (.int .u8 ((b % 256 : Nat) : Int)))) :=
  s_convInt tb hS hT hk hx (by rw [IntKind.wrap_u8]; omega)
theorem s_or128 {b : Nat} (hb : b < 256) (hx : ev x = some (.c (.v (.int .u8 (b : Int))))) (hy : ev y = some (.c (.v (.int .u8 128)))) : Still P ⟨d, .binOp .or T x y T', ty, pos, aft, gd⟩ ev h (.c (.v (.int .u8 ((b % 128 + 128 : Nat) : Int)))) :=
  s_or hx hy (by
    have key : ∀ b : Fin 256, IntKind.u8.wrap ((BitVec.ofInt 8 ((b.val : Nat) : Int) ||| BitVec.ofInt 8 128).toNat : Int) = ((b.val % 128 + 128 : Nat) : Int) := by decide +kernel
    exact key ⟨b, hb⟩)
end
attribute [local irreducible] Still Adds AWL AW Drw AC AWR Weak Frz Src RetK Out InK
attribute [local simp] u8c_take u8c_drop u8c_app
theorem encN_len10 {l : List UInt8} {m x k : Nat} {n : Int} (h : l ++ encN x = enc n) (hl : l.length = m) (hk : (enc n).length = k) : m + (encN x).length = k ∧ k ≤ 10 ∧ 0 < (encN x).length := by
  have h1 := enc_len n
  have h2 := encN_pos x
  rw [← h, List.length_append] at hk h1
  omega
set_option maxHeartbeats 4000000 in
theorem rint_ok (n : Int) (hn : -9223372036854775808 ≤ n ∧ n ≤ 9223372036854775807) (k : Nat) (hk : (enc n).length = k) : AC Try.prog 111 [iv n] (.own 0 0 k 1 true) [(0, .row 5 (u8c (enc n)))] 1 := by
  by_cases h0 : n < 0
  · have hz : (~~~(BitVec.ofInt 64 n <<< 1)) = zig n := by unfold zig; rw [if_pos h0]
    refine ac_enter tabOk (sz := 29) Try.func111 rfl (by rw [Try.ntmps111]; rfl) ?_
    repeat' (first
    | ((with_reducible refine aw_seqk ?_); intro K hK hX)
    | ((with_reducible refine isC_reg ?_); refine aw_prune [0, 2, 3, 4] rfl rfl ?_; with_reducible refine aw_region ?_)
    | refine stA ?_
    | (refine hK _ _ _ _ ?_; clear hK hX K)
    | (refine hX _ _ _ _ _ (by simp) ?_; clear hK hX K))
    rw [hz]
    have hzl := (zig n).isLt
    have hz0 : [] ++ encN (zig n).toNat = enc n := rfl
    generalize (zig n).toNat = z at hzl hz0
    refine aw_loopk 1 (fun p : List UInt8 × Nat × Nat => [(3, .c (uv p.2.2)), (4, .own 0 0 p.2.1 1 true)]) (fun p => [(0, .row 5 (u8c p.1))]) [] (fun p => p.1.length = p.2.1 ∧ p.1 ++ encN p.2.2 = enc n ∧ p.2.2 < 18446744073709551616) (fun p => p.2.2) ([], 0, z) ⟨rfl, hz0, hzl⟩ weakA ?_
    rintro ⟨l, m, x⟩ ⟨hl, he, hx⟩ K hK hX
    dsimp only at hl he hx hK ⊢
    have hul : (u8c l).length = m := by rw [u8c_length, hl]
    obtain ⟨hk1, hk2, hk3⟩ := encN_len10 he hl hk
    by_cases hlt : x < 128
    · repeat' (first
    | ((with_reducible refine aw_seqk ?_); intro K hK hX)
    | ((with_reducible refine isC_reg ?_); refine aw_prune [0, 2, 3, 4] rfl rfl ?_; with_reducible refine aw_region ?_)
    | refine stA ?_
    | (refine hK _ _ _ _ ?_; clear hK hX K)
    | (refine hX _ _ _ _ _ (by simp) ?_; clear hK hX K))
      rw [encN_lt hlt] at he hk1
      have e1 : m + 1 = k := by simpa using hk1
      rw [e1, show u8c l ++ [[CV.v (.int .u8 (x : Int))]].flatten = u8c (enc n) from by rw [← he]; exact enc_last l x hlt]
      refine retK_mk (by first | exact .inl rfl | exact .inr rfl) (by exact trivial) (ResL.one (ResA.tmp rfl)) (by first | exact out_c (by first | exact frz_c cv_rfl | exact frz_c cv_nil | exact frz_ownW rfl rfl (by first | rfl | with_reducible assumption | (simp <;> fail) | omega | (simp; omega) | assumption) | exact frz_eq (frz_c cv_rfl) (by first | rfl | (simp <;> fail) | fail)) | exact out_own rfl rfl)
    · repeat' (first
    | ((with_reducible refine aw_seqk ?_); intro K hK hX)
    | ((with_reducible refine isC_reg ?_); refine aw_prune [0, 2, 3, 4] rfl rfl ?_; with_reducible refine aw_region ?_)
    | (((with_reducible refine isA_any ?_); refine xA ?_); (first | ((with_reducible refine e_bin ?_); (first | refine ex_i (s_quoU (m := 128) (by decide) hx rfl rfl rfl) ?_ | refine ex_i (s_remU (m := 128) (by decide) rfl rfl rfl) ?_))))
    | refine stA ?_
    | (refine hK _ _ _ _ ?_; clear hK hX K)
    | (refine hX _ _ _ _ _ (by simp) ?_; clear hK hX K))
      rw [encN_ge hlt] at he
      refine ⟨(l ++ [UInt8.ofNat (x % 128 + 128)], m + 1, x / 128), ⟨by simp [hl], by simpa using he, by simp only; omega⟩, by simp only; omega, ?_⟩
      exact (by refine weak_ren [2] rfl rfl ?_ ?_ rfl rfl <;> (repeat' (first | exact weakER_nil | exact weakHR_nil | refine weakER_cons rfl (by first | rfl | (exact congrArg (AObj.row 5) (enc_step l x _ (by omega))) | exact own_eq rfl rfl (by omega) | exact int_eq (by omega) | (simp <;> fail) | (congr 4; omega) | (congr 3; omega) | (congr 2; omega)) rfl ?_ | refine weakHR_cons rfl (by first | rfl | (exact congrArg (AObj.row 5) (enc_step l x _ (by omega))) | exact own_eq rfl rfl (by omega) | exact int_eq (by omega) | (simp <;> fail) | (congr 4; omega) | (congr 3; omega) | (congr 2; omega)) rfl ?_)))
  · have hz : (BitVec.ofInt 64 n <<< 1) = zig n := by unfold zig; rw [if_neg h0]
    refine ac_enter tabOk (sz := 29) Try.func111 rfl (by rw [Try.ntmps111]; rfl) ?_
    repeat' (first
    | ((with_reducible refine aw_seqk ?_); intro K hK hX)
    | ((with_reducible refine isC_reg ?_); refine aw_prune [0, 2, 3, 4] rfl rfl ?_; with_reducible refine aw_region ?_)
    | refine stA ?_
    | (refine hK _ _ _ _ ?_; clear hK hX K)
    | (refine hX _ _ _ _ _ (by simp) ?_; clear hK hX K))
    rw [hz]
    have hzl := (zig n).isLt
    have hz0 : [] ++ encN (zig n).toNat = enc n := rfl
    generalize (zig n).toNat = z at hzl hz0
    refine aw_loopk 1 (fun p : List UInt8 × Nat × Nat => [(3, .c (uv p.2.2)), (4, .own 0 0 p.2.1 1 true)]) (fun p => [(0, .row 5 (u8c p.1))]) [] (fun p => p.1.length = p.2.1 ∧ p.1 ++ encN p.2.2 = enc n ∧ p.2.2 < 18446744073709551616) (fun p => p.2.2) ([], 0, z) ⟨rfl, hz0, hzl⟩ weakA ?_
    rintro ⟨l, m, x⟩ ⟨hl, he, hx⟩ K hK hX
    dsimp only at hl he hx hK ⊢
    have hul : (u8c l).length = m := by rw [u8c_length, hl]
    obtain ⟨hk1, hk2, hk3⟩ := encN_len10 he hl hk
    by_cases hlt : x < 128
    · repeat' (first
    | ((with_reducible refine aw_seqk ?_); intro K hK hX)
    | ((with_reducible refine isC_reg ?_); refine aw_prune [0, 2, 3, 4] rfl rfl ?_; with_reducible refine aw_region ?_)
    | refine stA ?_
    | (refine hK _ _ _ _ ?_; clear hK hX K)
    | (refine hX _ _ _ _ _ (by simp) ?_; clear hK hX K))
      rw [encN_lt hlt] at he hk1
      have e1 : m + 1 = k := by simpa using hk1
      rw [e1, show u8c l ++ [[CV.v (.int .u8 (x : Int))]].flatten = u8c (enc n) from by rw [← he]; exact enc_last l x hlt]
      refine retK_mk (by first | exact .inl rfl | exact .inr rfl) (by exact trivial) (ResL.one (ResA.tmp rfl)) (by first | exact out_c (by first | exact frz_c cv_rfl | exact frz_c cv_nil | exact frz_ownW rfl rfl (by first | rfl | with_reducible assumption | (simp <;> fail) | omega | (simp; omega) | assumption) | exact frz_eq (frz_c cv_rfl) (by first | rfl | (simp <;> fail) | fail)) | exact out_own rfl rfl)
    · repeat' (first
    | ((with_reducible refine aw_seqk ?_); intro K hK hX)
    | ((with_reducible refine isC_reg ?_); refine aw_prune [0, 2, 3, 4] rfl rfl ?_; with_reducible refine aw_region ?_)
    | (((with_reducible refine isA_any ?_); refine xA ?_); (first | ((with_reducible refine e_bin ?_); (first | refine ex_i (s_quoU (m := 128) (by decide) hx rfl rfl rfl) ?_ | refine ex_i (s_remU (m := 128) (by decide) rfl rfl rfl) ?_))))
    | refine stA ?_
    | (refine hK _ _ _ _ ?_; clear hK hX K)
    | (refine hX _ _ _ _ _ (by simp) ?_; clear hK hX K))
      rw [encN_ge hlt] at he
      refine ⟨(l ++ [UInt8.ofNat (x % 128 + 128)], m + 1, x / 128), ⟨by simp [hl], by simpa using he, by simp only; omega⟩, by simp only; omega, ?_⟩
      exact (by refine weak_ren [2] rfl rfl ?_ ?_ rfl rfl <;> (repeat' (first | exact weakER_nil | exact weakHR_nil | refine weakER_cons rfl (by first | rfl | (exact congrArg (AObj.row 5) (enc_step l x _ (by omega))) | exact own_eq rfl rfl (by omega) | exact int_eq (by omega) | (simp <;> fail) | (congr 4; omega) | (congr 3; omega) | (congr 2; omega)) rfl ?_ | refine weakHR_cons rfl (by first | rfl | (exact congrArg (AObj.row 5) (enc_step l x _ (by omega))) | exact own_eq rfl rfl (by omega) | exact int_eq (by omega) | (simp <;> fail) | (congr 4; omega) | (congr 3; omega) | (congr 2; omega)) rfl ?_)))
set_option maxHeartbeats 4000000 in
theorem ints_ok (n : Int) (hn : -9223372036854775808 ≤ n ∧ n ≤ 9223372036854775807) (k : Nat) (hk : (enc n).length = k) : AC Try.prog 119 [.v (.slice none 0 0), .sl 1 1 [iv n]] (.own 0 0 k 1 true) [(0, .row 5 (u8c (enc n)))] 1 := by
  by_cases h0 : n < 0
  · have hz : (~~~(BitVec.ofInt 64 n <<< 1)) = zig n := by unfold zig; rw [if_pos h0]
    refine ac_enter tabOk (sz := 38) Try.func119 rfl (by rw [Try.ntmps119]; rfl) ?_
    repeat' (first
    | ((with_reducible refine aw_seqk ?_); intro K hK hX)
    | ((with_reducible refine isC_reg ?_); refine aw_prune [0, 1, 4, 6, 7, 8, 9, 10] rfl rfl ?_; with_reducible refine aw_region ?_)
    | refine stA ?_
    | (refine hK _ _ _ _ ?_; clear hK hX K)
    | (refine hX _ _ _ _ _ (by simp) ?_; clear hK hX K))
    refine aw_rounds 2 ?_
    repeat' (first
    | ((with_reducible refine aw_seqk ?_); intro K hK hX)
    | ((with_reducible refine isC_reg ?_); refine aw_prune [0, 1, 4, 6, 7, 8, 9, 10] rfl rfl ?_; with_reducible refine aw_region ?_)
    | (refine awr_k ?_; intro K hK hX)
    | refine stA ?_
    | (refine hK _ _ _ _ ?_; clear hK hX K)
    | (refine hX _ _ _ _ _ (by simp) ?_; clear hK hX K))
    rw [hz]
    have hzl := (zig n).isLt
    have hz0 : [] ++ encN (zig n).toNat = enc n := rfl
    generalize (zig n).toNat = z at hzl hz0
    refine aw_nilown 0 5 1 rfl ?_
    refine aw_loopk 1 (fun p : List UInt8 × Nat × Nat => [(0, .own 0 0 p.2.1 1 true), (7, .c (uv p.2.2)), (8, .c (.sl 1 1 [iv n])), (9, .c (iv 1)), (10, .c (iv 0))]) (fun p => [(0, .row 5 (u8c p.1))]) [] (fun p => p.1.length = p.2.1 ∧ p.1 ++ encN p.2.2 = enc n ∧ p.2.2 < 18446744073709551616) (fun p => p.2.2) ([], 0, z) ⟨rfl, hz0, hzl⟩ weakA ?_
    rintro ⟨l, m, x⟩ ⟨hl, he, hx⟩ K hK hX
    dsimp only at hl he hx hK ⊢
    have hul : (u8c l).length = m := by rw [u8c_length, hl]
    obtain ⟨hk1, hk2, hk3⟩ := encN_len10 he hl hk
    by_cases hlt : x < 128
    · repeat' (first
    | ((with_reducible refine aw_seqk ?_); intro K hK hX)
    | ((with_reducible refine isC_reg ?_); refine aw_prune [0, 1, 4, 6, 7, 8, 9, 10] rfl rfl ?_; with_reducible refine aw_region ?_)
    | (refine awr_k ?_; intro K hK hX)
    | refine stA ?_
    | (refine hK _ _ _ _ ?_; clear hK hX K)
    | (refine hX _ _ _ _ _ (by simp) ?_; clear hK hX K))
      rw [encN_lt hlt] at he hk1
      have e1 : m + 1 = k := by simpa using hk1
      rw [e1, show u8c l ++ [[CV.v (.int .u8 (x : Int))]].flatten = u8c (enc n) from by rw [← he]; exact enc_last l x hlt]
      refine retK_mk (by first | exact .inl rfl | exact .inr rfl) (by exact trivial) (ResL.one (ResA.tmp rfl)) (by first | exact out_c (by first | exact frz_c cv_rfl | exact frz_c cv_nil | exact frz_ownW rfl rfl (by first | rfl | with_reducible assumption | (simp <;> fail) | omega | (simp; omega) | assumption) | exact frz_eq (frz_c cv_rfl) (by first | rfl | (simp <;> fail) | fail)) | exact out_own rfl rfl)
    · have hx7 : x / 2 ^ 7 = x / 128 := rfl
      have hm7 : x % 256 % 128 + 128 = x % 128 + 128 := by omega
      have hlt8 : x % 256 < 256 := by omega
      repeat' (first
    | ((with_reducible refine aw_seqk ?_); intro K hK hX)
    | ((with_reducible refine isC_reg ?_); refine aw_prune [0, 1, 4, 6, 7, 8, 9, 10] rfl rfl ?_; with_reducible refine aw_region ?_)
    | (((with_reducible refine isA_any ?_); refine xA ?_); (first | ((with_reducible refine e_conv ?_); (first | refine ex_i (s_convU8 tabOk rfl rfl rfl rfl) ?_)) | ((with_reducible refine e_bin ?_); (first | refine ex_i (s_or128 hlt8 rfl rfl) ?_ | refine ex_i (s_shrU (m := 7) rfl rfl rfl (by decide)) ?_))))
    | refine stA ?_
    | (refine hK _ _ _ _ ?_; clear hK hX K)
    | (refine hX _ _ _ _ _ (by simp) ?_; clear hK hX K))
      rw [encN_ge hlt] at he
      refine ⟨(l ++ [UInt8.ofNat (x % 128 + 128)], m + 1, x / 128), ⟨by simp [hl], by simpa using he, by simp only; omega⟩, by simp only; omega, ?_⟩
      exact (by refine weak_ren [2] rfl rfl ?_ ?_ rfl rfl <;> (repeat' (first | exact weakER_nil | exact weakHR_nil | refine weakER_cons rfl (by first | rfl | (exact congrArg (AObj.row 5) (enc_step l x _ (by omega))) | exact own_eq rfl rfl (by omega) | exact int_eq (by omega) | (simp <;> fail) | (congr 4; omega) | (congr 3; omega) | (congr 2; omega)) rfl ?_ | refine weakHR_cons rfl (by first | rfl | (exact congrArg (AObj.row 5) (enc_step l x _ (by omega))) | exact own_eq rfl rfl (by omega) | exact int_eq (by omega) | (simp <;> fail) | (congr 4; omega) | (congr 3; omega) | (congr 2; omega)) rfl ?_)))
  · have hz : (BitVec.ofInt 64 n <<< 1) = zig n := by unfold zig; rw [if_neg h0]
    refine ac_enter tabOk (sz := 38) Try.func119 rfl (by rw [Try.ntmps119]; rfl) ?_
    repeat' (first
    | ((with_reducible refine aw_seqk ?_); intro K hK hX)
    | ((with_reducible refine isC_reg ?_); refine aw_prune [0, 1, 4, 6, 7, 8, 9, 10] rfl rfl ?_; with_reducible refine aw_region ?_)
    | refine stA ?_
    | (refine hK _ _ _ _ ?_; clear hK hX K)
    | (refine hX _ _ _ _ _ (by simp) ?_; clear hK hX K))
    refine aw_rounds 2 ?_
    repeat' (first
    | ((with_reducible refine aw_seqk ?_); intro K hK hX)
    | ((with_reducible refine isC_reg ?_); refine aw_prune [0, 1, 4, 6, 7, 8, 9, 10] rfl rfl ?_; with_reducible refine aw_region ?_)
    | (refine awr_k ?_; intro K hK hX)
    | refine stA ?_
    | (refine hK _ _ _ _ ?_; clear hK hX K)
    | (refine hX _ _ _ _ _ (by simp) ?_; clear hK hX K))
    rw [hz]
    have hzl := (zig n).isLt
    have hz0 : [] ++ encN (zig n).toNat = enc n := rfl
    generalize (zig n).toNat = z at hzl hz0
    refine aw_nilown 0 5 1 rfl ?_
    refine aw_loopk 1 (fun p : List UInt8 × Nat × Nat => [(0, .own 0 0 p.2.1 1 true), (7, .c (uv p.2.2)), (8, .c (.sl 1 1 [iv n])), (9, .c (iv 1)), (10, .c (iv 0))]) (fun p => [(0, .row 5 (u8c p.1))]) [] (fun p => p.1.length = p.2.1 ∧ p.1 ++ encN p.2.2 = enc n ∧ p.2.2 < 18446744073709551616) (fun p => p.2.2) ([], 0, z) ⟨rfl, hz0, hzl⟩ weakA ?_
    rintro ⟨l, m, x⟩ ⟨hl, he, hx⟩ K hK hX
    dsimp only at hl he hx hK ⊢
    have hul : (u8c l).length = m := by rw [u8c_length, hl]
    obtain ⟨hk1, hk2, hk3⟩ := encN_len10 he hl hk
    by_cases hlt : x < 128
    · repeat' (first
    | ((with_reducible refine aw_seqk ?_); intro K hK hX)
    | ((with_reducible refine isC_reg ?_); refine aw_prune [0, 1, 4, 6, 7, 8, 9, 10] rfl rfl ?_; with_reducible refine aw_region ?_)
    | (refine awr_k ?_; intro K hK hX)
    | refine stA ?_
    | (refine hK _ _ _ _ ?_; clear hK hX K)
    | (refine hX _ _ _ _ _ (by simp) ?_; clear hK hX K))
      rw [encN_lt hlt] at he hk1
      have e1 : m + 1 = k := by simpa using hk1
      rw [e1, show u8c l ++ [[CV.v (.int .u8 (x : Int))]].flatten = u8c (enc n) from by rw [← he]; exact enc_last l x hlt]
      refine retK_mk (by first | exact .inl rfl | exact .inr rfl) (by exact trivial) (ResL.one (ResA.tmp rfl)) (by first | exact out_c (by first | exact frz_c cv_rfl | exact frz_c cv_nil | exact frz_ownW rfl rfl (by first | rfl | with_reducible assumption | (simp <;> fail) | omega | (simp; omega) | assumption) | exact frz_eq (frz_c cv_rfl) (by first | rfl | (simp <;> fail) | fail)) | exact out_own rfl rfl)
    · have hx7 : x / 2 ^ 7 = x / 128 := rfl
      have hm7 : x % 256 % 128 + 128 = x % 128 + 128 := by omega
      have hlt8 : x % 256 < 256 := by omega
      repeat' (first
    | ((with_reducible refine aw_seqk ?_); intro K hK hX)
    | ((with_reducible refine isC_reg ?_); refine aw_prune [0, 1, 4, 6, 7, 8, 9, 10] rfl rfl ?_; with_reducible refine aw_region ?_)
    | (((with_reducible refine isA_any ?_); refine xA ?_); (first | ((with_reducible refine e_conv ?_); (first | refine ex_i (s_convU8 tabOk rfl rfl rfl rfl) ?_)) | ((with_reducible refine e_bin ?_); (first | refine ex_i (s_or128 hlt8 rfl rfl) ?_ | refine ex_i (s_shrU (m := 7) rfl rfl rfl (by decide)) ?_))))
    | refine stA ?_
    | (refine hK _ _ _ _ ?_; clear hK hX K)
    | (refine hX _ _ _ _ _ (by simp) ?_; clear hK hX K))
      rw [encN_ge hlt] at he
      refine ⟨(l ++ [UInt8.ofNat (x % 128 + 128)], m + 1, x / 128), ⟨by simp [hl], by simpa using he, by simp only; omega⟩, by simp only; omega, ?_⟩
      exact (by refine weak_ren [2] rfl rfl ?_ ?_ rfl rfl <;> (repeat' (first | exact weakER_nil | exact weakHR_nil | refine weakER_cons rfl (by first | rfl | (exact congrArg (AObj.row 5) (enc_step l x _ (by omega))) | exact own_eq rfl rfl (by omega) | exact int_eq (by omega) | (simp <;> fail) | (congr 4; omega) | (congr 3; omega) | (congr 2; omega)) rfl ?_ | refine weakHR_cons rfl (by first | rfl | (exact congrArg (AObj.row 5) (enc_step l x _ (by omega))) | exact own_eq rfl rfl (by omega) | exact int_eq (by omega) | (simp <;> fail) | (congr 4; omega) | (congr 3; omega) | (congr 2; omega)) rfl ?_)))
set_option maxHeartbeats 4000000 in
theorem extend_ok (a b : List UInt8) (m k q : Nat) (ha : a.length = m) (hb : b.length = k) (hk : 0 < k) (hm : m ≤ 1000000) (hk2 : k ≤ 1000000) (hq : m + k = q) : AC Try.prog 118 [.sl 1 m (u8c a), .sl 1 k (u8c b)] (.own 0 0 q 1 true) [(0, .row 5 (u8c (a ++ b)))] 1 := by
  subst hq
  refine ac_enter tabOk (sz := 13) Try.func118 rfl (by rw [Try.ntmps118]; rfl) ?_
  repeat' (first
    | ((with_reducible refine aw_seqk ?_); intro K hK hX)
    | ((with_reducible refine isC_reg ?_); refine aw_prune [0, 1, 4] rfl rfl ?_; with_reducible refine aw_region ?_)
    | (refine awl_ext3 tabOk rfl rfl rfl rfl rfl rfl rfl rfl rfl rfl rfl rfl rfl rfl rfl src_c hk (by simp only [maxLen]; omega) (by show (m + k) * 1 ≤ _; omega) ?_)
    | refine stA ?_
    | (refine hK _ _ _ _ ?_; clear hK hX K)
    | (refine hX _ _ _ _ _ (by simp) ?_; clear hK hX K))
  rw [← u8c_app]
  refine retK_mk (by first | exact .inl rfl | exact .inr rfl) (by exact trivial) (ResL.one (ResA.tmp rfl)) (by first | exact out_c (by first | exact frz_c cv_rfl | exact frz_c cv_nil | exact frz_ownW rfl rfl (by first | rfl | with_reducible assumption | (simp <;> fail) | omega | (simp; omega) | assumption) | exact frz_eq (frz_c cv_rfl) (by first | rfl | (simp <;> fail) | fail)) | exact out_own rfl rfl)
theorem apint_idle : Idle Try.prog 117 0 := by
  intro us w hl
  obtain ⟨_, rfl⟩ : ∃ _ : Unit, us = [] := by
    match us, hl with | [], _ => exact ⟨(), rfl⟩
  refine callsD_of_wpS Try.func117 rfl fun c₀ cs hu => ?_
  apply wpS_region
  simp [wpOpsS, go_sem, recoverD, hu, Try.ntmps117, Exit.thenS]
  cases c₀
  simp_all [bodyPostS, results, Try.results117]
theorem apint_idle_b : Body Try.prog 117 := by unfold Body; kernel_rfl
set_option maxHeartbeats 4000000 in
theorem appint_ok (a : List UInt8) (m : Nat) (n : Int) (hn : -9223372036854775808 ≤ n ∧ n ≤ 9223372036854775807) (k q : Nat) (ha : a.length = m) (hm : m ≤ 1000000) (hk : (enc n).length = k) (hq : m + k = q) : AC Try.prog 116 [.sl 1 m (u8c a), iv n] (.own 0 0 q 1 true) [(0, .row 5 (u8c (a ++ enc n)))] 1 := by
  have h1 := enc_len n
  have h2 := enc_pos n
  have hue : (u8c (enc n)).length = k := by rw [u8c_length, hk]
  have hie := ints_ok n hn k hk
  have hex := extend_ok a (enc n) m k q ha hk (by omega) hm (by omega) hq
  refine ac_enter tabOk (sz := 10) Try.func116 rfl (by rw [Try.ntmps116]; rfl) ?_
  repeat' (first
    | ((with_reducible refine aw_seqk ?_); intro K hK hX)
    | ((with_reducible refine isC_reg ?_); refine aw_prune [0, 1, 4] rfl rfl ?_; with_reducible refine aw_region ?_)
    | ((with_reducible refine isA_call ?_); (refine yA ?_); (first | refine cF1 (hie) ?_ | refine cF1 (hex) ?_))
    | refine stA ?_
    | (refine hK _ _ _ _ ?_; clear hK hX K)
    | (refine hX _ _ _ _ _ (by simp) ?_; clear hK hX K))
  refine retK_mk (by first | exact .inl rfl | exact .inr rfl) (by exact ⟨apint_idle, apint_idle_b, trivial⟩) (ResL.one (ResA.tmp rfl)) (by first | exact out_c (by first | exact frz_c cv_rfl | exact frz_c cv_nil | exact frz_ownW rfl rfl (by first | rfl | with_reducible assumption | (simp <;> fail) | omega | (simp; omega) | assumption) | exact frz_eq (frz_c cv_rfl) (by first | rfl | (simp <;> fail) | fail)) | exact out_own rfl rfl)
end Go.Proofs.Ytgofigkhdjjlmaa
