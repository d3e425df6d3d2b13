/-
  Joined texts: AvU6 U14 U15. Lemmas; no statement of a law.
-/
import Derived.Lib.BitFns
import Derived.Test.YtccnhpaldmjkbaaGreatM5
set_option linter.unusedSimpArgs false
set_option linter.unusedVariables false
/-
  Numbers of 64 bits as naturals: what the operations give; a division by two digits. For every program.
-/
namespace Go.Av
open Go Go.RowKit
abbrev uN (a : Nat) : AV := .c (.v (.int .u64 (a : Int)))
theorem wrapU {a r : Nat} (hr : a % 18446744073709551616 = r) : IntKind.u64.wrap (a : Int) = (r : Int) := by
  rw [IntKind.wrap_u64]; omega
section
variable {P : Program} {tab : Tab} {ev : Evl} {h : Heap} {d : Option Tmp} {T T' ty : TypeId} {x y : Operand} {pos : String} {aft : Array Edge} {gd : Option (Nat × Bool)} {a b m r : Nat}
theorem u_add (hr : (a + b) % 18446744073709551616 = r) (hx : ev x = some (uN a)) (hy : ev y = some (uN b)) : Still P ⟨d, .binOp .add T x y T', ty, pos, aft, gd⟩ ev h (uN r) :=
  s_arit hx hy (op := .add) rfl (by have := wrapU hr; rw [Int.natCast_add] at this; exact this)
theorem u_mul (hr : (a * b) % 18446744073709551616 = r) (hx : ev x = some (uN a)) (hy : ev y = some (uN b)) : Still P ⟨d, .binOp .mul T x y T', ty, pos, aft, gd⟩ ev h (uN r) :=
  s_arit hx hy (op := .mul) rfl (by have := wrapU hr; rw [Int.natCast_mul] at this; exact this)
theorem u_sub (hb : b ≤ 18446744073709551616) (hr : (a + 18446744073709551616 - b) % 18446744073709551616 = r) (hx : ev x = some (uN a)) (hy : ev y = some (uN b)) : Still P ⟨d, .binOp .sub T x y T', ty, pos, aft, gd⟩ ev h (uN r) :=
  s_arit hx hy (op := .sub) rfl (by rw [IntKind.wrap_u64]; omega)
theorem u_quo (hb : 0 < b) (ha : a < 18446744073709551616) (hr : a / b = r) (hx : ev x = some (uN a)) (hy : ev y = some (uN b)) : Still P ⟨d, .binOp .quo T x y T', ty, pos, aft, gd⟩ ev h (uN r) :=
  s_quo hx hy (by omega) (by
    have e : (a : Int).tdiv (b : Int) = (r : Int) := by rw [← hr]; simp
    rw [e]
    have h2 := Nat.div_le_self a b
    exact wrapU (by rw [Nat.mod_eq_of_lt (by omega)]))
theorem u_rem (hb : 0 < b) (hr : a % b = r) (hx : ev x = some (uN a)) (hy : ev y = some (uN b)) : Still P ⟨d, .binOp .rem T x y T', ty, pos, aft, gd⟩ ev h (uN r) :=
  s_rem hx hy (by omega) (by rw [Int.tmod_eq_emod_of_nonneg (by omega), ← Int.natCast_emod, hr])
theorem u_shr {k : IntKind} (hm : m ≤ 64) (hr : a / 2 ^ m = r) (hx : ev x = some (uN a)) (hy : ev y = some (.c (.v (.int k (m : Int))))) : Still P ⟨d, .binOp .shr T x y T', ty, pos, aft, gd⟩ ev h (uN r) :=
  s_shr hx hy (by omega) (by
    rw [show min ((m : Int)).toNat IntKind.u64.bits = m by simp [IntKind.bits]; omega, Int.fdiv_eq_ediv_of_nonneg _ (by exact Int.le_of_lt (Int.pow_pos (by omega)))]
    rw [← hr, Int.natCast_ediv, Int.natCast_pow]
    rfl)
theorem u_shl {k : IntKind} (hm : m ≤ 64) (hr : (a * 2 ^ m) % 18446744073709551616 = r) (hx : ev x = some (uN a)) (hy : ev y = some (.c (.v (.int k (m : Int))))) : Still P ⟨d, .binOp .shl T x y T', ty, pos, aft, gd⟩ ev h (uN r) :=
  s_shl hx hy (by omega) (by
    rw [show min ((m : Int)).toNat IntKind.u64.bits = m by simp [IntKind.bits]; omega]
    have := wrapU hr
    rw [Int.natCast_mul, Int.natCast_pow] at this
    exact this)
theorem ofInt_nat (a : Nat) : BitVec.ofInt 64 (a : Int) = BitVec.ofNat 64 a := by simp
theorem u_and {M : Nat} (ha : a < 18446744073709551616) (hM : M < 64) (hr : a % 2 ^ M = r) (hb : b = 2 ^ M - 1) (hx : ev x = some (uN a)) (hy : ev y = some (uN b)) : Still P ⟨d, .binOp .and T x y T', ty, pos, aft, gd⟩ ev h (uN r) :=
  s_and hx hy (by
    show IntKind.u64.wrap ((BitVec.ofInt 64 (a : Int) &&& BitVec.ofInt 64 (b : Int)).toNat : Int) = _
    have hp : 2 ^ M < 2 ^ 64 := Nat.pow_lt_pow_right (by omega) hM
    have hp0 : 0 < 2 ^ M := Nat.pow_pos (by omega)
    rw [ofInt_nat, ofInt_nat, BitVec.toNat_and, BitVec.toNat_ofNat, BitVec.toNat_ofNat, Nat.mod_eq_of_lt (by omega), Nat.mod_eq_of_lt (by omega), hb, Nat.and_two_pow_sub_one_eq_mod, hr]
    have := Nat.mod_lt a hp0
    exact wrapU (Nat.mod_eq_of_lt (by omega)))
theorem u_or {M : Nat} (h1 : 2 ^ M ∣ a) (h2 : b < 2 ^ M) (hs : a + b < 18446744073709551616) (hr : a + b = r) (hx : ev x = some (uN a)) (hy : ev y = some (uN b)) : Still P ⟨d, .binOp .or T x y T', ty, pos, aft, gd⟩ ev h (uN r) :=
  s_or hx hy (by
    show IntKind.u64.wrap ((BitVec.ofInt 64 (a : Int) ||| BitVec.ofInt 64 (b : Int)).toNat : Int) = _
    obtain ⟨c, rfl⟩ := h1
    rw [ofInt_nat, ofInt_nat, BitVec.toNat_or, BitVec.toNat_ofNat, BitVec.toNat_ofNat, Nat.mod_eq_of_lt (by omega), Nat.mod_eq_of_lt (by omega), ← Nat.two_pow_add_eq_or_of_lt h2]
    exact wrapU (by rw [hr]; exact Nat.mod_eq_of_lt (by omega)))
end
/-! One digit of a division. -/
theorem dv_lt {D u e : Nat} (hu : u < D) (he : e < 4294967296) : (u * 4294967296 + e) / D < 4294967296 := by
  rw [Nat.div_lt_iff_lt_mul (by omega)]
  have : (u + 1) * 4294967296 ≤ D * 4294967296 := Nat.mul_le_mul_right _ hu
  rw [Nat.mul_comm 4294967296 D]
  omega
theorem dv_test {v1 v0 u e q r : Nat} (h : q * v1 + r = u) : (u * 4294967296 + e < q * (v1 * 4294967296 + v0)) ↔ (r * 4294967296 + e < q * v0) := by
  rw [Nat.mul_add, ← Nat.mul_assoc]
  generalize q * v1 = a at *
  generalize q * v0 = b
  omega
theorem dv_gt {D N q : Nat} (hD : 0 < D) : N / D < q ↔ N < q * D := Nat.div_lt_iff_lt_mul hD
theorem dv_init {v1 v0 u e : Nat} (hv : 0 < v1) (he : e < 4294967296) : (u * 4294967296 + e) / (v1 * 4294967296 + v0) ≤ u / v1 := by
  have h1 : (u * 4294967296 + e) / (v1 * 4294967296 + v0) ≤ (u * 4294967296 + e) / (4294967296 * v1) := Nat.div_le_div_left (by omega) (by omega)
  rw [← Nat.div_div_eq_div_mul] at h1
  rw [show (u * 4294967296 + e) / 4294967296 = u by omega] at h1
  exact h1
theorem dv_stop {v1 v0 u e q r : Nat} (hv : v0 < 4294967296) (hu : u < v1 * 4294967296 + v0) (h : q * v1 + r = u) (hr : 4294967296 ≤ r) (he : e < 4294967296) : q ≤ (u * 4294967296 + e) / (v1 * 4294967296 + v0) := by
  have hq : q < 4294967296 := by
    refine Classical.byContradiction fun hc => ?_
    have : 4294967296 * v1 ≤ q * v1 := Nat.mul_le_mul_right _ (by omega)
    omega
  rw [Nat.le_div_iff_mul_le (by omega)]
  refine Classical.byContradiction fun hc => ?_
  have h1 := (dv_test (v0 := v0) (e := e) h).1 (by omega)
  have h2 : q * v0 ≤ 4294967295 * 4294967295 := Nat.mul_le_mul (by omega) (by omega)
  omega
/-- The two digits together. -/
theorem dv_two {u e1 e0 D Q R : Nat} (hD : 0 < D) (hQ : (u * 4294967296 + e1) / D = Q) (hR : (u * 4294967296 + e1) % D = R) : (u * 18446744073709551616 + (e1 * 4294967296 + e0)) / D = Q * 4294967296 + (R * 4294967296 + e0) / D := by
  have h1 := Nat.div_add_mod (u * 4294967296 + e1) D
  rw [hQ, hR] at h1
  have h2 : u * 18446744073709551616 + (e1 * 4294967296 + e0) = D * (Q * 4294967296) + (R * 4294967296 + e0) := by
    rw [← Nat.mul_assoc]
    omega
  rw [h2, Nat.mul_add_div hD]
theorem dv_shift {hi lo y s : Nat} (hs : s ≤ 64) (hlo : lo < 18446744073709551616) : ((hi * 2 ^ s + lo / 2 ^ (64 - s)) * 18446744073709551616 + (lo * 2 ^ s) % 18446744073709551616) = (hi * 18446744073709551616 + lo) * 2 ^ s := by
  have h1 : (18446744073709551616 : Nat) = 2 ^ (64 - s) * 2 ^ s := by rw [← Nat.pow_add, show 64 - s + s = 64 by omega]
  have h2 : lo / 2 ^ (64 - s) = (lo * 2 ^ s) / 18446744073709551616 := by
    rw [h1, Nat.mul_div_mul_right _ _ (Nat.pow_pos (by omega))]
  have h3 := Nat.div_add_mod (lo * 2 ^ s) 18446744073709551616
  rw [h2, Nat.add_mul (hi * 18446744073709551616)]
  rw [Nat.mul_right_comm hi]
  generalize lo * 2 ^ s = z at *
  generalize hi * 2 ^ s = t at *
  rw [Nat.add_mul]
  omega
theorem bitLen_lt : ∀ (f x : Nat), x < 2 ^ f → x < 2 ^ Lib.bitLenAux f x
  | 0, x, h => by
    simp at h
    subst h
    simp [Lib.bitLenAux]
  | f + 1, x, h => by
    unfold Lib.bitLenAux
    by_cases h0 : x = 0
    · subst h0; simp
    · rw [if_neg h0]
      have := bitLen_lt f (x / 2) (by rw [Nat.pow_succ] at h; omega)
      rw [Nat.add_comm, Nat.pow_succ]
      omega
theorem bitLen_ge : ∀ (f x : Nat), x < 2 ^ f → 0 < x → 2 ^ Lib.bitLenAux f x ≤ 2 * x
  | 0, x, h, h0 => by simp at h; omega
  | f + 1, x, h, h0 => by
    unfold Lib.bitLenAux
    rw [if_neg (by omega)]
    by_cases h1 : x / 2 = 0
    · rw [h1]
      have : Lib.bitLenAux f 0 = 0 := by cases f <;> simp [Lib.bitLenAux]
      rw [this]
      simp
      omega
    · have := bitLen_ge f (x / 2) (by rw [Nat.pow_succ] at h; omega) (by omega)
      rw [Nat.add_comm, Nat.pow_succ]
      omega
/-- The shift that brings a divisor to the left end. -/
theorem norm_bd {y : Nat} (h0 : 0 < y) (h : y < 18446744073709551616) : Lib.bitLen y ≤ 64 ∧ y * 2 ^ (64 - Lib.bitLen y) < 18446744073709551616 ∧ 9223372036854775808 ≤ y * 2 ^ (64 - Lib.bitLen y) := by
  have h1 := bitLen_lt 64 y h
  have h2 := bitLen_ge 64 y h h0
  have h3 : Lib.bitLen y ≤ 64 := Lib.bitLen_le y 64 (by omega) h
  unfold Lib.bitLen at *
  generalize Lib.bitLenAux 64 y = L at *
  have h4 : 2 ^ L * 2 ^ (64 - L) = 18446744073709551616 := by rw [← Nat.pow_add, show L + (64 - L) = 64 by omega]
  have h5 : 0 < 2 ^ (64 - L) := Nat.pow_pos (by omega)
  refine ⟨h3, ?_, ?_⟩
  · rw [← h4]
    exact Nat.mul_lt_mul_of_pos_right h1 h5
  · have h6 : 2 ^ L * 2 ^ (64 - L) ≤ 2 * y * 2 ^ (64 - L) := Nat.mul_le_mul_right _ h2
    rw [h4, Nat.mul_assoc] at h6
    omega
end Go.Av
/-
  Numbers of 128 bits (walk): products and quotients as the library has them.
-/
namespace Go.Proofs.YtccnhpaldmjkbaaGreat
open Go Go.RowKit Go.Av
set_option maxRecDepth 100000
abbrev un (a : Nat) : CV := .v (.int .u64 (a : Int))
theorem len64_ok (y : Nat) (h : y < 18446744073709551616) : AC Tryz.prog 172 [un y] (.c (iv (Lib.bitLen y))) [] 0 := by
  intro ok w vs hvs
  simp only [RepCs, RepC] at hvs
  obtain ⟨u, us', rfl, rfl, rfl⟩ := hvs
  have h1 := calls_of_every_depth fun D => Go.Proofs.AnySM.bits_Len64In { Tryz.srtI with } D (y : Int) w (by omega) (by omega)
  refine h1.mono ?_
  rintro e w' ⟨rfl, rfl⟩
  exact ⟨_, fun _ => none, rfl, ⟨FrB.refl _ _, fun id o hid _ => absurd hid (by simp [lt]), fun id id' o o' g h1 => absurd h1 (by simp [lt]), fun id o g hid => absurd hid (by simp [lt])⟩, rfl⟩
attribute [local irreducible] Still Adds AWL AW Drw DrwE EStep AC AWR Weak Frz Src RetK Out InK ItK AsK RdK RetT OutT ACT
theorem lz64_ok (y s : Nat) (h : y < 18446744073709551616) (hs : 64 - Lib.bitLen y = s) (hb : Lib.bitLen y ≤ 64) : AC Tryz.prog 187 [un y] (.c (iv s)) [] 0 := by
  have h1 := len64_ok y h
  generalize Lib.bitLen y = b at *
  have hsub : IntKind.i64.wrap (64 - (b : Int)) = (s : Int) := by rw [IntKind.wrap_i64]; omega
  refine ac_enter tabOk (sz := 6) Tryz.func187 rfl (by rw [Tryz.ntmps187]; rfl) ?_
  repeat' (first | ((with_reducible refine aw_seqk ?_); intro K hK hX) | ((with_reducible refine isC_reg ?_); refine aw_prune [0, 2] rfl rfl ?_; with_reducible refine aw_region ?_) | ((with_reducible refine isA_call ?_); (first | refine zA ?_ | refine zN ?_); (first | refine c0 (h1) ?_)) | (((with_reducible refine isA_any ?_); refine xA ?_); (first | ((with_reducible refine e_bin ?_); (first | refine ex_i (s_arit64 rfl rfl rfl hsub) ?_)))) | refine stA ?_ | (refine hK _ _ _ _ ?_; clear hK hX K) | (refine hX _ _ _ _ _ (by simp) ?_; clear hK hX K))
  refine retK_mk zio ztr rfl (ResL.one (ResA.tmp rfl)) zou
set_option maxHeartbeats 4000000 in
theorem mul64_ok (x : Nat) (hx : x < 4294967296) : AC Tryz.prog 156 [un x, un 4611686018427387904] (.tup [.c (un (x / 4)), .c (un (x * 4611686018427387904 % 18446744073709551616))]) [] 0 := by
  obtain ⟨a, ha⟩ : ∃ a, x * 1073741824 = a := ⟨_, rfl⟩
  obtain ⟨q, hq⟩ : ∃ q, x / 4 = q := ⟨_, rfl⟩
  have e10 : (x * 1073741824) % 18446744073709551616 = a := by omega
  have e11 : (0 + a) % 18446744073709551616 = a := by omega
  have e13 : a / 2 ^ 32 = q := by show a / 4294967296 = q; omega
  have e14 : (0 + q) % 18446744073709551616 = q := by omega
  obtain ⟨z, hz⟩ : ∃ z, x * 4611686018427387904 % 18446744073709551616 = z := ⟨_, rfl⟩
  rw [hq, hz]
  have e1 : x % 2 ^ 32 = x := by show x % 4294967296 = x; omega
  have e2 : x / 2 ^ 32 = 0 := by show x / 4294967296 = 0; omega
  have e3 : 4611686018427387904 % 2 ^ 32 = 0 := by decide
  have e4 : 4611686018427387904 / 2 ^ 32 = 1073741824 := by decide
  have e5 : (x * 0) % 18446744073709551616 = 0 := by simp
  have e6 : (0 * 0) % 18446744073709551616 = 0 := by decide
  have e7 : 0 / 2 ^ 32 = 0 := by decide
  have e8 : (0 + 0) % 18446744073709551616 = 0 := by decide
  have e9 : 0 % 2 ^ 32 = 0 := by decide
  have e12 : (0 * 1073741824) % 18446744073709551616 = 0 := by decide
  have b32 : (4294967295 : Nat) = 2 ^ 32 - 1 := by decide
  refine ac_enter tabOk (sz := 51) Tryz.func156 rfl (by rw [Tryz.ntmps156]; rfl) ?_
  repeat' (first | ((with_reducible refine aw_seqk ?_); intro K hK hX) | ((with_reducible refine isC_reg ?_); refine aw_prune [0, 1, 4, 5, 6, 7, 8, 9, 10, 11, 12, 13] rfl rfl ?_; with_reducible refine aw_region ?_) | (((with_reducible refine isA_any ?_); refine xA ?_); (first | ((with_reducible refine e_bin ?_); (first | refine ex_i (u_and (by omega) (by decide) e1 b32 rfl rfl) ?_ | refine ex_i (u_shr (by decide) e2 rfl rfl) ?_ | refine ex_i (u_and (by decide) (by decide) e3 b32 rfl rfl) ?_ | refine ex_i (u_shr (by decide) e4 rfl rfl) ?_ | refine ex_i (u_mul e5 rfl rfl) ?_ | refine ex_i (u_mul e6 rfl rfl) ?_ | refine ex_i (u_shr (by decide) e7 rfl rfl) ?_ | refine ex_i (u_add e8 rfl rfl) ?_ | refine ex_i (u_and (by decide) (by decide) e9 b32 rfl rfl) ?_ | refine ex_i (u_mul e10 rfl rfl) ?_ | refine ex_i (u_add e11 rfl rfl) ?_ | refine ex_i (u_mul e12 rfl rfl) ?_ | refine ex_i (u_shr (by decide) e13 rfl rfl) ?_ | refine ex_i (u_add e14 rfl rfl) ?_ | refine ex_i (u_mul hz rfl rfl) ?_)))) | refine stA ?_ | (refine hK _ _ _ _ ?_; clear hK hX K) | (refine hX _ _ _ _ _ (by simp) ?_; clear hK hX K))
  refine retK_mk zio ztr rfl (ResL.two (ResA.tmp rfl) (ResA.tmp rfl)) (out_t (frzl_cons zfz (frzl_cons zfz frzl_nil)))
end Go.Proofs.YtccnhpaldmjkbaaGreat
/-
  Quotients of 128 bits (walk), as the library has them.
-/
namespace Go.Proofs.YtccnhpaldmjkbaaGreat
open Go Go.RowKit Go.Av
set_option maxRecDepth 100000
theorem modU {a : Nat} (h : a < 18446744073709551616) : a % 18446744073709551616 = a := Nat.mod_eq_of_lt h
/-- What is left, with wrapped products. -/
theorem leftU {N Q D R : Nat} (h : D * Q + R = N) (hR : R < 18446744073709551616) : (N % 18446744073709551616 + 18446744073709551616 - (Q * D) % 18446744073709551616) % 18446744073709551616 = R := by
  rw [Nat.mul_comm Q D]
  generalize D * Q = p at *
  omega
theorem q_bd {Q1 Q2 : Nat} (h1 : Q1 < 4294967296) (h2 : Q2 < 4294967296) : Q1 * 4294967296 + Q2 < 18446744073709551616 := by omega
theorem mul_bd {q v : Nat} (hq : q < 4294967296) (hv : v < 4294967296) : q * v < 18446744073709551616 := by
  have : q * v ≤ 4294967295 * 4294967295 := Nat.mul_le_mul (by omega) (by omega)
  omega
attribute [local irreducible] Still Adds AWL AW Drw DrwE EStep AC AWR Weak Frz Src RetK Out InK ItK AsK RdK RetT OutT ACT
set_option maxHeartbeats 8000000 in
theorem div64_ok (hi lo y : Nat) (hy : hi < y) (hyW : y < 18446744073709551616) (hlo : lo < 18446744073709551616) : ∃ rr : Nat, AC Tryz.prog 157 [un hi, un lo, un y] (.tup [.c (un ((hi * 18446744073709551616 + lo) / y)), .c (un rr)]) [] 0 := by
  by_cases h0 : hi = 0
  · subst h0
    refine ⟨lo % y, ?_⟩
    rw [Nat.zero_mul, Nat.zero_add]
    obtain ⟨q, hq⟩ : ∃ q, lo / y = q := ⟨_, rfl⟩
    obtain ⟨r, hr⟩ : ∃ r, lo % y = r := ⟨_, rfl⟩
    rw [hq, hr]
    refine ac_enter tabOk (sz := 135) Tryz.func157 rfl (by rw [Tryz.ntmps157]; rfl) ?_
    repeat' (first | ((with_reducible refine aw_seqk ?_); intro K hK hX) | ((with_reducible refine isC_reg ?_); refine aw_prune [0, 1, 2, 6, 7, 8, 9, 10, 11, 12, 13, 14, 15, 16, 17, 18] rfl rfl ?_; with_reducible refine aw_region ?_) | ((with_reducible refine isC_draw ?_); refine aw_prune [0, 1, 2, 6, 7, 8, 9, 10, 11, 12, 13, 14, 15, 16, 17, 18] rfl rfl ?_; refine aw_drwF [] ?_) | ((first | ((with_reducible refine isA_any ?_); refine xA ?_) | ((with_reducible refine isDk_any ?_); refine xD ?_)); (first | ((with_reducible refine e_bin ?_); (first | refine ex_i (u_quo (by omega) (by omega) hq rfl rfl) ?_ | refine ex_i (u_rem (by omega) hr rfl rfl) ?_)))) | refine stA ?_ | refine stD ?_ | (refine hK _ _ _ _ ?_; clear hK hX K) | (refine hX _ _ _ _ _ (by simp) ?_; clear hK hX K))
    refine retK_mk zio ztr rfl (ResL.two (ResA.tmp rfl) (ResA.tmp rfl)) (out_t (frzl_cons zfz (frzl_cons zfz frzl_nil)))
  · obtain ⟨n1, n2, n3⟩ := norm_bd (y := y) (by omega) hyW
    obtain ⟨s, hs⟩ : ∃ s, 64 - Lib.bitLen y = s := ⟨_, rfl⟩
    have hz := lz64_ok y s hyW hs n1
    rw [hs] at n2 n3
    have hs64 : s ≤ 64 := by omega
    have hsc : IntKind.u64.wrap (s : Int) = (s : Int) := by rw [IntKind.wrap_u64]; omega
    have hs0 : 0 < 2 ^ s := Nat.pow_pos (by omega)
    obtain ⟨D, hD⟩ : ∃ D, y * 2 ^ s = D := ⟨_, rfl⟩
    rw [hD] at n2 n3
    have k1 : (y * 2 ^ s) % 18446744073709551616 = D := by rw [hD]; exact modU n2
    obtain ⟨v1, hv1⟩ : ∃ v1, D / 4294967296 = v1 := ⟨_, rfl⟩
    obtain ⟨v0, hv0e⟩ : ∃ v0, D % 4294967296 = v0 := ⟨_, rfl⟩
    have hDv : D = v1 * 4294967296 + v0 := by omega
    have hv0 : v0 < 4294967296 := by omega
    have hv1a : 2147483648 ≤ v1 := by omega
    have hv1b : v1 < 4294967296 := by omega
    have k2 : D / 2 ^ 32 = v1 := hv1
    have k3 : D % 2 ^ 32 = v0 := hv0e
    have b32 : (4294967295 : Nat) = 2 ^ 32 - 1 := by decide
    obtain ⟨A1, hA1⟩ : ∃ A1, hi * 2 ^ s = A1 := ⟨_, rfl⟩
    obtain ⟨A2, hA2⟩ : ∃ A2, lo / 2 ^ (64 - s) = A2 := ⟨_, rfl⟩
    obtain ⟨w, hw⟩ : ∃ w, (lo * 2 ^ s) % 18446744073709551616 = w := ⟨_, rfl⟩
    have hwW : w < 18446744073709551616 := by rw [← hw]; exact Nat.mod_lt _ (by decide)
    have hT := dv_shift (hi := hi) (y := y) hs64 hlo
    rw [hA1, hA2, hw] at hT
    have hA1D : A1 < D := by rw [← hA1, ← hD]; exact Nat.mul_lt_mul_of_pos_right hy hs0
    have hTD : (hi * 18446744073709551616 + lo) * 2 ^ s < D * 18446744073709551616 := by
      rw [← hD, Nat.mul_right_comm]
      refine Nat.mul_lt_mul_of_pos_right ?_ hs0
      have : (hi + 1) * 18446744073709551616 ≤ y * 18446744073709551616 := Nat.mul_le_mul_right _ hy
      omega
    rw [← hT] at hTD
    obtain ⟨u, hu⟩ : ∃ u, A1 + A2 = u := ⟨_, rfl⟩
    rw [hu] at hT hTD
    have huD : u < D := by omega
    have hA2s : A2 < 2 ^ s := by
      rw [← hA2, Nat.div_lt_iff_lt_mul (Nat.pow_pos (by omega)), ← Nat.pow_add, show s + (64 - s) = 64 by omega]
      exact hlo
    have k4 : (hi * 2 ^ s) % 18446744073709551616 = A1 := by rw [hA1]; exact modU (by omega)
    have k5 : (64 + 18446744073709551616 - s) % 18446744073709551616 = 64 - s := by omega
    have hdv : 2 ^ s ∣ A1 := ⟨hi, by rw [← hA1, Nat.mul_comm]⟩
    obtain ⟨e1, he1⟩ : ∃ e1, w / 4294967296 = e1 := ⟨_, rfl⟩
    obtain ⟨e0, he0e⟩ : ∃ e0, w % 4294967296 = e0 := ⟨_, rfl⟩
    have k6 : w / 2 ^ 32 = e1 := he1
    have k7 : w % 2 ^ 32 = e0 := he0e
    have hwe : w = e1 * 4294967296 + e0 := by omega
    have he1b : e1 < 4294967296 := by omega
    have he0 : e0 < 4294967296 := by omega
    have hD0 : 0 < D := by omega
    -- the digits
    obtain ⟨Q1, hQ1⟩ : ∃ Q1, (u * 4294967296 + e1) / D = Q1 := ⟨_, rfl⟩
    obtain ⟨R1, hR1⟩ : ∃ R1, (u * 4294967296 + e1) % D = R1 := ⟨_, rfl⟩
    obtain ⟨Q2, hQ2⟩ : ∃ Q2, (R1 * 4294967296 + e0) / D = Q2 := ⟨_, rfl⟩
    have hR1D : R1 < D := by rw [← hR1]; exact Nat.mod_lt _ hD0
    have hQ1B : Q1 < 4294967296 := by rw [← hQ1]; exact dv_lt huD he1b
    have hQ2B : Q2 < 4294967296 := by rw [← hQ2]; exact dv_lt hR1D he0
    have k15 : (Q1 * 4294967296 + Q2) % 18446744073709551616 = Q1 * 4294967296 + Q2 := modU (q_bd hQ1B hQ2B)
    have k14 : (Q1 * 4294967296) % 18446744073709551616 = Q1 * 4294967296 := modU (Nat.lt_of_le_of_lt (Nat.le_add_right _ Q2) (q_bd hQ1B hQ2B))
    have hres : (hi * 18446744073709551616 + lo) / y = Q1 * 4294967296 + Q2 := by
      rw [← Nat.mul_div_mul_right _ _ hs0, hD, ← hT, hwe, dv_two hD0 hQ1 hR1, hQ2]
    obtain ⟨q0, hq0⟩ : ∃ q0, u / v1 = q0 := ⟨_, rfl⟩
    obtain ⟨r0, hr0⟩ : ∃ r0, u % v1 = r0 := ⟨_, rfl⟩
    have hqr0 : q0 * v1 + r0 = u := by have := Nat.div_add_mod u v1; rw [hq0, hr0, Nat.mul_comm] at this; exact this
    have hr0b : r0 < v1 := by rw [← hr0]; exact Nat.mod_lt _ (by omega)
    have hge0 : Q1 ≤ q0 := by rw [← hQ1, ← hq0, hDv]; exact dv_init (by omega) he1b
    obtain ⟨m0, hm0⟩ : ∃ m0, q0 * v1 = m0 := ⟨_, rfl⟩
    have k8 : (q0 * v1) % 18446744073709551616 = m0 := by rw [hm0]; exact modU (by omega)
    have k9 : (u + 18446744073709551616 - m0) % 18446744073709551616 = r0 := by omega
    have hq0u : q0 ≤ u := by rw [← hq0]; exact Nat.div_le_self ..
    obtain ⟨N1, hN1⟩ : ∃ N1, (u * 4294967296) % 18446744073709551616 = N1 := ⟨_, rfl⟩
    have k10 : (N1 + e1) % 18446744073709551616 = (u * 4294967296 + e1) % 18446744073709551616 := by omega
    obtain ⟨N2, hN2⟩ : ∃ N2, (u * 4294967296 + e1) % 18446744073709551616 = N2 := ⟨_, rfl⟩
    rw [hN2] at k10
    obtain ⟨X1, hX1⟩ : ∃ X1, (Q1 * D) % 18446744073709551616 = X1 := ⟨_, rfl⟩
    have k11 : (N2 + 18446744073709551616 - X1) % 18446744073709551616 = R1 := by
      have h9 := Nat.div_add_mod (u * 4294967296 + e1) D
      rw [hQ1, hR1] at h9
      have := leftU h9 (by omega)
      rw [hN2, hX1] at this
      exact this
    have hX1W : X1 ≤ 18446744073709551616 := by rw [← hX1]; exact Nat.le_of_lt (Nat.mod_lt _ (by decide))
    -- the second digit's start
    obtain ⟨q3, hq3⟩ : ∃ q3, R1 / v1 = q3 := ⟨_, rfl⟩
    obtain ⟨r3, hr3⟩ : ∃ r3, R1 % v1 = r3 := ⟨_, rfl⟩
    have hqr3 : q3 * v1 + r3 = R1 := by have := Nat.div_add_mod R1 v1; rw [hq3, hr3, Nat.mul_comm] at this; exact this
    have hr3b : r3 < v1 := by rw [← hr3]; exact Nat.mod_lt _ (by omega)
    have hge3 : Q2 ≤ q3 := by rw [← hQ2, ← hq3, hDv]; exact dv_init (by omega) he0
    obtain ⟨m3, hm3⟩ : ∃ m3, q3 * v1 = m3 := ⟨_, rfl⟩
    have k12 : (q3 * v1) % 18446744073709551616 = m3 := by rw [hm3]; exact modU (by omega)
    have k13 : (R1 + 18446744073709551616 - m3) % 18446744073709551616 = r3 := by omega
    have hq3u : q3 ≤ R1 := by rw [← hq3]; exact Nat.div_le_self ..
    -- the end
    obtain ⟨N3, hN3⟩ : ∃ N3, (R1 * 4294967296) % 18446744073709551616 = N3 := ⟨_, rfl⟩
    obtain ⟨N4, hN4⟩ : ∃ N4, (N3 + e0) % 18446744073709551616 = N4 := ⟨_, rfl⟩
    obtain ⟨X2, hX2⟩ : ∃ X2, (Q2 * D) % 18446744073709551616 = X2 := ⟨_, rfl⟩
    have hX2W : X2 ≤ 18446744073709551616 := by rw [← hX2]; exact Nat.le_of_lt (Nat.mod_lt _ (by decide))
    obtain ⟨N5, hN5⟩ : ∃ N5, (N4 + 18446744073709551616 - X2) % 18446744073709551616 = N5 := ⟨_, rfl⟩
    obtain ⟨rr, hrr⟩ : ∃ rr, N5 / 2 ^ s = rr := ⟨_, rfl⟩
    refine ⟨rr, ?_⟩
    rw [hres]
    have huW : u < 18446744073709551616 := by omega
    have hR1W : R1 < 18446744073709551616 := by omega
    have hDW : D < 18446744073709551616 := n2
    have hv1p : 0 < v1 := by omega
    clear hT hTD hres hwW n1 hs hD hA1D
    refine ac_enter tabOk (sz := 135) Tryz.func157 rfl (by rw [Tryz.ntmps157]; rfl) ?_
    repeat' (first | ((with_reducible refine aw_seqk ?_); intro K hK hX) | ((with_reducible refine isC_reg ?_); refine aw_prune [0, 1, 2, 6, 7, 8, 9, 10, 11, 12, 13, 14, 15, 16, 17, 18] rfl rfl ?_; with_reducible refine aw_region ?_) | ((with_reducible refine isC_draw ?_); refine aw_prune [0, 1, 2, 6, 7, 8, 9, 10, 11, 12, 13, 14, 15, 16, 17, 18] rfl rfl ?_; refine aw_drwF [] ?_) | ((first | with_reducible refine isA_call ?_ | with_reducible refine isD_call ?_); (first | refine zA ?_ | refine zN ?_ | refine zD ?_); (first | refine c0 (hz) ?_)) | ((first | ((with_reducible refine isA_any ?_); refine xA ?_) | ((with_reducible refine isDk_any ?_); refine xD ?_)); (first | ((with_reducible refine e_conv ?_); (first | refine ex_i (s_convInt tabOk rfl rfl rfl rfl hsc) ?_)) | ((with_reducible refine e_bin ?_); (first | refine ex_i (u_shl hs64 k1 rfl rfl) ?_ | refine ex_i (u_shr (by decide) k2 rfl rfl) ?_ | refine ex_i (u_and hDW (by decide) k3 b32 rfl rfl) ?_ | refine ex_i (u_shl hs64 k4 rfl rfl) ?_ | refine ex_i (u_sub (a := 64) (by omega) k5 rfl rfl) ?_ | refine ex_i (u_shr (by omega) hA2 rfl rfl) ?_ | refine ex_i (u_or hdv hA2s (by omega) hu rfl rfl) ?_ | refine ex_i (u_shl hs64 hw rfl rfl) ?_ | refine ex_i (u_shr (by decide) k6 rfl rfl) ?_ | refine ex_i (u_and (by omega) (by decide) k7 b32 rfl rfl) ?_ | refine ex_i (u_quo hv1p huW hq0 rfl rfl) ?_ | refine ex_i (u_mul k8 rfl rfl) ?_ | refine ex_i (u_sub (by omega) k9 rfl rfl) ?_)))) | refine stA ?_ | refine stD ?_ | (refine hK _ _ _ _ ?_; clear hK hX K) | (refine hX _ _ _ _ _ (by simp) ?_; clear hK hX K))
    clear k1 k2 k3 k4 k5 hA2 hdv hA2s hu hw k6 k7 hq0 k8 k9 hwe he1 he0e hv1 hv0e hr0
    revert K
    intro K0 hK0 hX0
    have hTail : ∀ env : Env, lkE env 2 = some (uN D) → lkE env 8 = some (.c (.v (.int .u64 (s : Int)))) → lkE env 9 = some (uN v1) → lkE env 10 = some (uN v0) → lkE env 11 = some (uN u) → lkE env 13 = some (uN e1) → lkE env 14 = some (uN e0) → lkE env 15 = some (uN Q1) → K0 .normal 0 env [] [] := by
      intro env g2 g8 g9 g10 g11 g13 g14 g15
      refine hK0 _ _ _ _ ?_
      refine aw_weak (weak_mk (E := [(2, uN D), (8, .c (.v (.int .u64 (s : Int)))), (9, uN v1), (10, uN v0), (11, uN u), (13, uN e1), (14, uN e0), (15, uN Q1)]) (Hp := []) (N := 0) rfl (weakE_cons g2 rfl rfl (weakE_cons g8 rfl rfl (weakE_cons g9 rfl rfl (weakE_cons g10 rfl rfl (weakE_cons g11 rfl rfl (weakE_cons g13 rfl rfl (weakE_cons g14 rfl rfl (weakE_cons g15 rfl rfl weakE_nil)))))))) weakH_nil rfl) ?_
      clear g2 g8 g9 g10 g11 g13 g14 g15 hK0 hX0 K0
      repeat' (first | ((with_reducible refine aw_seqk ?_); intro K hK hX) | ((with_reducible refine isC_reg ?_); refine aw_prune [0, 1, 2, 6, 7, 8, 9, 10, 11, 12, 13, 14, 15, 16, 17, 18] rfl rfl ?_; with_reducible refine aw_region ?_) | ((with_reducible refine isC_draw ?_); refine aw_prune [0, 1, 2, 6, 7, 8, 9, 10, 11, 12, 13, 14, 15, 16, 17, 18] rfl rfl ?_; refine aw_drwF [] ?_) | ((first | ((with_reducible refine isA_any ?_); refine xA ?_) | ((with_reducible refine isDk_any ?_); refine xD ?_)); (first | ((with_reducible refine e_bin ?_); (first | refine ex_i (u_mul hN1 rfl rfl) ?_ | refine ex_i (u_add k10 rfl rfl) ?_ | refine ex_i (u_mul hX1 rfl rfl) ?_ | refine ex_i (u_sub hX1W k11 rfl rfl) ?_ | refine ex_i (u_quo hv1p hR1W hq3 rfl rfl) ?_ | refine ex_i (u_mul k12 rfl rfl) ?_ | refine ex_i (u_sub (by omega) k13 rfl rfl) ?_)))) | refine stA ?_ | refine stD ?_ | (refine hK _ _ _ _ ?_; clear hK hX K) | (refine hX _ _ _ _ _ (by simp) ?_; clear hK hX K))
      clear hN1 k10 hN2 hX1 k11 hX1W hq3 k12 k13 hm3 hqr0 hr0b hge0 hq0u hQ1 hm0 hr3 hA1
      revert K
      intro K1 hK1 hX1'
      have hTail2 : ∀ env : Env, lkE env 2 = some (uN D) → lkE env 8 = some (.c (.v (.int .u64 (s : Int)))) → lkE env 14 = some (uN e0) → lkE env 15 = some (uN Q1) → lkE env 17 = some (uN R1) → lkE env 18 = some (uN Q2) → K1 .normal 0 env [] [] := by
        intro env g2 g8 g14 g15 g17 g18
        refine hK1 _ _ _ _ ?_
        refine aw_weak (weak_mk (E := [(2, uN D), (8, .c (.v (.int .u64 (s : Int)))), (14, uN e0), (15, uN Q1), (17, uN R1), (18, uN Q2)]) (Hp := []) (N := 0) rfl (weakE_cons g2 rfl rfl (weakE_cons g8 rfl rfl (weakE_cons g14 rfl rfl (weakE_cons g15 rfl rfl (weakE_cons g17 rfl rfl (weakE_cons g18 rfl rfl weakE_nil)))))) weakH_nil rfl) ?_
        clear g2 g8 g14 g15 g17 g18 hK1 hX1' K1
        repeat' (first | ((with_reducible refine aw_seqk ?_); intro K hK hX) | ((with_reducible refine isC_reg ?_); refine aw_prune [0, 1, 2, 6, 7, 8, 9, 10, 11, 12, 13, 14, 15, 16, 17, 18] rfl rfl ?_; with_reducible refine aw_region ?_) | ((with_reducible refine isC_draw ?_); refine aw_prune [0, 1, 2, 6, 7, 8, 9, 10, 11, 12, 13, 14, 15, 16, 17, 18] rfl rfl ?_; refine aw_drwF [] ?_) | ((first | ((with_reducible refine isA_any ?_); refine xA ?_) | ((with_reducible refine isDk_any ?_); refine xD ?_)); (first | ((with_reducible refine e_bin ?_); (first | refine ex_i (u_mul k14 rfl rfl) ?_ | refine ex_i (u_add k15 rfl rfl) ?_ | refine ex_i (u_mul hN3 rfl rfl) ?_ | refine ex_i (u_add hN4 rfl rfl) ?_ | refine ex_i (u_mul hX2 rfl rfl) ?_ | refine ex_i (u_sub hX2W hN5 rfl rfl) ?_ | refine ex_i (u_shr hs64 hrr rfl rfl) ?_)))) | refine stA ?_ | refine stD ?_ | (refine hK _ _ _ _ ?_; clear hK hX K) | (refine hX _ _ _ _ _ (by simp) ?_; clear hK hX K))
        refine retK_mk zio ztr rfl (ResL.two (ResA.tmp rfl) (ResA.tmp rfl)) (out_t (frzl_cons zfz (frzl_cons zfz frzl_nil)))
      clear hN3 hN4 hX2 hX2W hN5 hrr k14 k15 hsc
      refine aw_loopo [16, 18, 97, 98, 99, 100, 101] [] rfl rfl (fun p : Nat × Nat => [(18, uN p.1), (16, uN p.2)]) (fun p => []) (fun p => Q2 ≤ p.1 ∧ p.1 * v1 + p.2 = R1 ∧ p.2 < 4294967296 ∧ p.1 < 18446744073709551616) (fun p => p.1) (q3, r3) ⟨hge3, hqr3, by simp only; omega, by simp only; omega⟩ weakA ?_
      rintro ⟨q, r⟩ ⟨j1, hqr, j3, j4⟩ K hK hX
      dsimp only at j1 hqr j3 j4 ⊢
      clear hqr3 hr3b hge3 hq3u
      by_cases hgt : Q2 < q
      · have hgtN := (dv_gt (N := R1 * 4294967296 + e0) (D := D) (q := q) hD0).1 (by rw [hQ2]; exact hgt)
        rw [hDv] at hgtN
        have htest := (dv_test (v1 := v1) (v0 := v0) (e := e0) hqr).1 hgtN
        have hs1 : Unit → (q + 18446744073709551616 - 1) % 18446744073709551616 = q - 1 := fun _ => by omega
        have hs2 : Unit → (r + v1) % 18446744073709551616 = r + v1 := fun _ => modU (by omega)
        have hqr' : (q - 1) * v1 + (r + v1) = R1 := by
          obtain ⟨k, rfl⟩ : ∃ k, q = k + 1 := ⟨q - 1, by omega⟩
          rw [Nat.add_sub_cancel]
          rw [Nat.add_mul, Nat.one_mul] at hqr
          omega
        have hq1 : q - 1 < 18446744073709551616 := by omega
        have hq2 : q - 1 < q := by omega
        have hq3 : Q2 ≤ q - 1 := by omega
        by_cases hqB : 4294967296 ≤ q
        · clear htest hgtN
          by_cases hbr : 4294967296 ≤ r + v1
          · have hst := dv_stop (v0 := v0) (e := e0) hv0 (by rw [← hDv]; exact hR1D) hqr' hbr he0
            rw [← hDv, hQ2] at hst
            have hqe : q - 1 = Q2 := by omega
            rw [hqe] at hs1
            clear hst hqr hqr'
            repeat' (first | ((with_reducible refine aw_seqk ?_); intro K hK hX) | ((with_reducible refine isC_reg ?_); refine aw_prune [0, 1, 2, 6, 7, 8, 9, 10, 11, 12, 13, 14, 15, 16, 17, 18] rfl rfl ?_; with_reducible refine aw_region ?_) | ((with_reducible refine isC_draw ?_); refine aw_prune [0, 1, 2, 6, 7, 8, 9, 10, 11, 12, 13, 14, 15, 16, 17, 18] rfl rfl ?_; refine aw_drwF [] ?_) | ((first | ((with_reducible refine isA_any ?_); refine xA ?_) | ((with_reducible refine isDk_any ?_); refine xD ?_)); (first | ((with_reducible refine e_bin ?_); (first | refine ex_i (u_sub (b := 1) (by decide) (hs1 ()) rfl rfl) ?_ | refine ex_i (u_add (hs2 ()) rfl rfl) ?_)))) | refine stA ?_ | refine stD ?_ | (refine hK _ _ _ _ ?_; clear hK hX K) | (refine hX _ _ _ _ _ (by simp) ?_; clear hK hX K))
            exact hTail2 _ rfl rfl rfl rfl rfl rfl
          · have hbr2 : r + v1 < 4294967296 := by omega
            clear hqr
            repeat' (first | ((with_reducible refine aw_seqk ?_); intro K hK hX) | ((with_reducible refine isC_reg ?_); refine aw_prune [0, 1, 2, 6, 7, 8, 9, 10, 11, 12, 13, 14, 15, 16, 17, 18] rfl rfl ?_; with_reducible refine aw_region ?_) | ((with_reducible refine isC_draw ?_); refine aw_prune [0, 1, 2, 6, 7, 8, 9, 10, 11, 12, 13, 14, 15, 16, 17, 18] rfl rfl ?_; refine aw_drwF [] ?_) | ((first | ((with_reducible refine isA_any ?_); refine xA ?_) | ((with_reducible refine isDk_any ?_); refine xD ?_)); (first | ((with_reducible refine e_bin ?_); (first | refine ex_i (u_sub (b := 1) (by decide) (hs1 ()) rfl rfl) ?_ | refine ex_i (u_add (hs2 ()) rfl rfl) ?_)))) | refine stA ?_ | refine stD ?_ | (refine hK _ _ _ _ ?_; clear hK hX K) | (refine hX _ _ _ _ _ (by simp) ?_; clear hK hX K))
            exact ⟨(q - 1, r + v1), ⟨hq3, hqr', hbr2, hq1⟩, hq2, weakA⟩
        · have hp1 := modU (mul_bd (by omega : q < 4294967296) hv0)
          have hp2 : Unit → (4294967296 * r) % 18446744073709551616 = 4294967296 * r := fun _ => modU (by omega)
          have hp3 : Unit → (4294967296 * r + e0) % 18446744073709551616 = 4294967296 * r + e0 := fun _ => modU (by omega)
          obtain ⟨p, hp⟩ : ∃ p, q * v0 = p := ⟨_, rfl⟩
          rw [hp] at htest hp1
          have hp0 : Unit → (q * v0) % 18446744073709551616 = p := fun _ => by rw [hp]; exact hp1
          clear hgtN hp hp1
          by_cases hbr : 4294967296 ≤ r + v1
          · have hst := dv_stop (v0 := v0) (e := e0) hv0 (by rw [← hDv]; exact hR1D) hqr' hbr he0
            rw [← hDv, hQ2] at hst
            have hqe : q - 1 = Q2 := by omega
            rw [hqe] at hs1
            clear hst hqr hqr'
            repeat' (first | ((with_reducible refine aw_seqk ?_); intro K hK hX) | ((with_reducible refine isC_reg ?_); refine aw_prune [0, 1, 2, 6, 7, 8, 9, 10, 11, 12, 13, 14, 15, 16, 17, 18] rfl rfl ?_; with_reducible refine aw_region ?_) | ((with_reducible refine isC_draw ?_); refine aw_prune [0, 1, 2, 6, 7, 8, 9, 10, 11, 12, 13, 14, 15, 16, 17, 18] rfl rfl ?_; refine aw_drwF [] ?_) | ((first | ((with_reducible refine isA_any ?_); refine xA ?_) | ((with_reducible refine isDk_any ?_); refine xD ?_)); (first | ((with_reducible refine e_bin ?_); (first | refine ex_i (u_mul (hp0 ()) rfl rfl) ?_ | refine ex_i (u_mul (hp2 ()) rfl rfl) ?_ | refine ex_i (u_add (hp3 ()) rfl rfl) ?_ | refine ex_i (u_sub (b := 1) (by decide) (hs1 ()) rfl rfl) ?_ | refine ex_i (u_add (hs2 ()) rfl rfl) ?_)))) | refine stA ?_ | refine stD ?_ | (refine hK _ _ _ _ ?_; clear hK hX K) | (refine hX _ _ _ _ _ (by simp) ?_; clear hK hX K))
            exact hTail2 _ rfl rfl rfl rfl rfl rfl
          · have hbr2 : r + v1 < 4294967296 := by omega
            clear hqr
            repeat' (first | ((with_reducible refine aw_seqk ?_); intro K hK hX) | ((with_reducible refine isC_reg ?_); refine aw_prune [0, 1, 2, 6, 7, 8, 9, 10, 11, 12, 13, 14, 15, 16, 17, 18] rfl rfl ?_; with_reducible refine aw_region ?_) | ((with_reducible refine isC_draw ?_); refine aw_prune [0, 1, 2, 6, 7, 8, 9, 10, 11, 12, 13, 14, 15, 16, 17, 18] rfl rfl ?_; refine aw_drwF [] ?_) | ((first | ((with_reducible refine isA_any ?_); refine xA ?_) | ((with_reducible refine isDk_any ?_); refine xD ?_)); (first | ((with_reducible refine e_bin ?_); (first | refine ex_i (u_mul (hp0 ()) rfl rfl) ?_ | refine ex_i (u_mul (hp2 ()) rfl rfl) ?_ | refine ex_i (u_add (hp3 ()) rfl rfl) ?_ | refine ex_i (u_sub (b := 1) (by decide) (hs1 ()) rfl rfl) ?_ | refine ex_i (u_add (hs2 ()) rfl rfl) ?_)))) | refine stA ?_ | refine stD ?_ | (refine hK _ _ _ _ ?_; clear hK hX K) | (refine hX _ _ _ _ _ (by simp) ?_; clear hK hX K))
            exact ⟨(q - 1, r + v1), ⟨hq3, hqr', hbr2, hq1⟩, hq2, weakA⟩
      · have hqe : q = Q2 := by omega
        have hng : ¬ r * 4294967296 + e0 < q * v0 := fun h => hgt (by
          have := (dv_test (v1 := v1) (v0 := v0) (e := e0) hqr).2 h
          rw [← hDv] at this
          rw [← hQ2]
          exact (dv_gt hD0).2 this)
        have hqB : q < 4294967296 := by omega
        have hp1 := modU (mul_bd hqB hv0)
        have hp2 : Unit → (4294967296 * r) % 18446744073709551616 = 4294967296 * r := fun _ => modU (by omega)
        have hp3 : Unit → (4294967296 * r + e0) % 18446744073709551616 = 4294967296 * r + e0 := fun _ => modU (by omega)
        obtain ⟨p, hp⟩ : ∃ p, q * v0 = p := ⟨_, rfl⟩
        rw [hp] at hng hp1
        have hp0 : Unit → (q * v0) % 18446744073709551616 = p := fun _ => by rw [hp]; exact hp1
        clear hp hp1 hqr hgt
        rw [hqe] at hp0 hqB ⊢
        repeat' (first | ((with_reducible refine aw_seqk ?_); intro K hK hX) | ((with_reducible refine isC_reg ?_); refine aw_prune [0, 1, 2, 6, 7, 8, 9, 10, 11, 12, 13, 14, 15, 16, 17, 18] rfl rfl ?_; with_reducible refine aw_region ?_) | ((with_reducible refine isC_draw ?_); refine aw_prune [0, 1, 2, 6, 7, 8, 9, 10, 11, 12, 13, 14, 15, 16, 17, 18] rfl rfl ?_; refine aw_drwF [] ?_) | ((first | ((with_reducible refine isA_any ?_); refine xA ?_) | ((with_reducible refine isDk_any ?_); refine xD ?_)); (first | ((with_reducible refine e_bin ?_); (first | refine ex_i (u_mul (hp0 ()) rfl rfl) ?_ | refine ex_i (u_mul (hp2 ()) rfl rfl) ?_ | refine ex_i (u_add (hp3 ()) rfl rfl) ?_)))) | refine stA ?_ | refine stD ?_ | (refine hK _ _ _ _ ?_; clear hK hX K) | (refine hX _ _ _ _ _ (by simp) ?_; clear hK hX K))
        exact hTail2 _ rfl rfl rfl rfl rfl rfl
    clear hN1 k10 hN2 hX1 k11 hX1W hq3 k12 k13 hN3 hN4 hX2 hX2W hN5 hrr hm3 hqr3 hr3b hge3 hq3u hQ2 hR1 k14 k15 hm0 hsc hz
    refine aw_loopo [15, 16, 62, 63, 64, 65, 66] [] rfl rfl (fun p : Nat × Nat => [(15, uN p.1), (16, uN p.2)]) (fun p => []) (fun p => Q1 ≤ p.1 ∧ p.1 * v1 + p.2 = u ∧ p.2 < 4294967296 ∧ p.1 < 18446744073709551616) (fun p => p.1) (q0, r0) ⟨hge0, hqr0, by simp only; omega, by simp only; omega⟩ weakA ?_
    rintro ⟨q, r⟩ ⟨j1, hqr, j3, j4⟩ K hK hX
    dsimp only at j1 hqr j3 j4 ⊢
    clear hqr0 hr0b hge0 hq0u
    by_cases hgt : Q1 < q
    · have hgtN := (dv_gt (N := u * 4294967296 + e1) (D := D) (q := q) hD0).1 (by rw [hQ1]; exact hgt)
      rw [hDv] at hgtN
      have htest := (dv_test (v1 := v1) (v0 := v0) (e := e1) hqr).1 hgtN
      have hs1 : Unit → (q + 18446744073709551616 - 1) % 18446744073709551616 = q - 1 := fun _ => by omega
      have hs2 : Unit → (r + v1) % 18446744073709551616 = r + v1 := fun _ => modU (by omega)
      have hqr' : (q - 1) * v1 + (r + v1) = u := by
        obtain ⟨k, rfl⟩ : ∃ k, q = k + 1 := ⟨q - 1, by omega⟩
        rw [Nat.add_sub_cancel]
        rw [Nat.add_mul, Nat.one_mul] at hqr
        omega
      have hq1 : q - 1 < 18446744073709551616 := by omega
      have hq2 : q - 1 < q := by omega
      have hq3 : Q1 ≤ q - 1 := by omega
      by_cases hqB : 4294967296 ≤ q
      · clear htest hgtN
        by_cases hbr : 4294967296 ≤ r + v1
        · have hst := dv_stop (v0 := v0) (e := e1) hv0 (by rw [← hDv]; exact huD) hqr' hbr he1b
          rw [← hDv, hQ1] at hst
          have hqe : q - 1 = Q1 := by omega
          rw [hqe] at hs1
          clear hst hqr hqr'
          repeat' (first | ((with_reducible refine aw_seqk ?_); intro K hK hX) | ((with_reducible refine isC_reg ?_); refine aw_prune [0, 1, 2, 6, 7, 8, 9, 10, 11, 12, 13, 14, 15, 16, 17, 18] rfl rfl ?_; with_reducible refine aw_region ?_) | ((with_reducible refine isC_draw ?_); refine aw_prune [0, 1, 2, 6, 7, 8, 9, 10, 11, 12, 13, 14, 15, 16, 17, 18] rfl rfl ?_; refine aw_drwF [] ?_) | ((first | ((with_reducible refine isA_any ?_); refine xA ?_) | ((with_reducible refine isDk_any ?_); refine xD ?_)); (first | ((with_reducible refine e_bin ?_); (first | refine ex_i (u_sub (b := 1) (by decide) (hs1 ()) rfl rfl) ?_ | refine ex_i (u_add (hs2 ()) rfl rfl) ?_)))) | refine stA ?_ | refine stD ?_ | (refine hK _ _ _ _ ?_; clear hK hX K) | (refine hX _ _ _ _ _ (by simp) ?_; clear hK hX K))
          exact hTail _ rfl rfl rfl rfl rfl rfl rfl rfl
        · have hbr2 : r + v1 < 4294967296 := by omega
          clear hqr
          repeat' (first | ((with_reducible refine aw_seqk ?_); intro K hK hX) | ((with_reducible refine isC_reg ?_); refine aw_prune [0, 1, 2, 6, 7, 8, 9, 10, 11, 12, 13, 14, 15, 16, 17, 18] rfl rfl ?_; with_reducible refine aw_region ?_) | ((with_reducible refine isC_draw ?_); refine aw_prune [0, 1, 2, 6, 7, 8, 9, 10, 11, 12, 13, 14, 15, 16, 17, 18] rfl rfl ?_; refine aw_drwF [] ?_) | ((first | ((with_reducible refine isA_any ?_); refine xA ?_) | ((with_reducible refine isDk_any ?_); refine xD ?_)); (first | ((with_reducible refine e_bin ?_); (first | refine ex_i (u_sub (b := 1) (by decide) (hs1 ()) rfl rfl) ?_ | refine ex_i (u_add (hs2 ()) rfl rfl) ?_)))) | refine stA ?_ | refine stD ?_ | (refine hK _ _ _ _ ?_; clear hK hX K) | (refine hX _ _ _ _ _ (by simp) ?_; clear hK hX K))
          exact ⟨(q - 1, r + v1), ⟨hq3, hqr', hbr2, hq1⟩, hq2, weakA⟩
      · have hp1 := modU (mul_bd (by omega : q < 4294967296) hv0)
        have hp2 : Unit → (4294967296 * r) % 18446744073709551616 = 4294967296 * r := fun _ => modU (by omega)
        have hp3 : Unit → (4294967296 * r + e1) % 18446744073709551616 = 4294967296 * r + e1 := fun _ => modU (by omega)
        obtain ⟨p, hp⟩ : ∃ p, q * v0 = p := ⟨_, rfl⟩
        rw [hp] at htest hp1
        have hp0 : Unit → (q * v0) % 18446744073709551616 = p := fun _ => by rw [hp]; exact hp1
        clear hgtN hp hp1
        by_cases hbr : 4294967296 ≤ r + v1
        · have hst := dv_stop (v0 := v0) (e := e1) hv0 (by rw [← hDv]; exact huD) hqr' hbr he1b
          rw [← hDv, hQ1] at hst
          have hqe : q - 1 = Q1 := by omega
          rw [hqe] at hs1
          clear hst hqr hqr'
          repeat' (first | ((with_reducible refine aw_seqk ?_); intro K hK hX) | ((with_reducible refine isC_reg ?_); refine aw_prune [0, 1, 2, 6, 7, 8, 9, 10, 11, 12, 13, 14, 15, 16, 17, 18] rfl rfl ?_; with_reducible refine aw_region ?_) | ((with_reducible refine isC_draw ?_); refine aw_prune [0, 1, 2, 6, 7, 8, 9, 10, 11, 12, 13, 14, 15, 16, 17, 18] rfl rfl ?_; refine aw_drwF [] ?_) | ((first | ((with_reducible refine isA_any ?_); refine xA ?_) | ((with_reducible refine isDk_any ?_); refine xD ?_)); (first | ((with_reducible refine e_bin ?_); (first | refine ex_i (u_mul (hp0 ()) rfl rfl) ?_ | refine ex_i (u_mul (hp2 ()) rfl rfl) ?_ | refine ex_i (u_add (hp3 ()) rfl rfl) ?_ | refine ex_i (u_sub (b := 1) (by decide) (hs1 ()) rfl rfl) ?_ | refine ex_i (u_add (hs2 ()) rfl rfl) ?_)))) | refine stA ?_ | refine stD ?_ | (refine hK _ _ _ _ ?_; clear hK hX K) | (refine hX _ _ _ _ _ (by simp) ?_; clear hK hX K))
          exact hTail _ rfl rfl rfl rfl rfl rfl rfl rfl
        · have hbr2 : r + v1 < 4294967296 := by omega
          clear hqr
          repeat' (first | ((with_reducible refine aw_seqk ?_); intro K hK hX) | ((with_reducible refine isC_reg ?_); refine aw_prune [0, 1, 2, 6, 7, 8, 9, 10, 11, 12, 13, 14, 15, 16, 17, 18] rfl rfl ?_; with_reducible refine aw_region ?_) | ((with_reducible refine isC_draw ?_); refine aw_prune [0, 1, 2, 6, 7, 8, 9, 10, 11, 12, 13, 14, 15, 16, 17, 18] rfl rfl ?_; refine aw_drwF [] ?_) | ((first | ((with_reducible refine isA_any ?_); refine xA ?_) | ((with_reducible refine isDk_any ?_); refine xD ?_)); (first | ((with_reducible refine e_bin ?_); (first | refine ex_i (u_mul (hp0 ()) rfl rfl) ?_ | refine ex_i (u_mul (hp2 ()) rfl rfl) ?_ | refine ex_i (u_add (hp3 ()) rfl rfl) ?_ | refine ex_i (u_sub (b := 1) (by decide) (hs1 ()) rfl rfl) ?_ | refine ex_i (u_add (hs2 ()) rfl rfl) ?_)))) | refine stA ?_ | refine stD ?_ | (refine hK _ _ _ _ ?_; clear hK hX K) | (refine hX _ _ _ _ _ (by simp) ?_; clear hK hX K))
          exact ⟨(q - 1, r + v1), ⟨hq3, hqr', hbr2, hq1⟩, hq2, weakA⟩
    · have hqe : q = Q1 := by omega
      have hng : ¬ r * 4294967296 + e1 < q * v0 := fun h => hgt (by
        have := (dv_test (v1 := v1) (v0 := v0) (e := e1) hqr).2 h
        rw [← hDv] at this
        rw [← hQ1]
        exact (dv_gt hD0).2 this)
      have hqB : q < 4294967296 := by omega
      have hp1 := modU (mul_bd hqB hv0)
      have hp2 : Unit → (4294967296 * r) % 18446744073709551616 = 4294967296 * r := fun _ => modU (by omega)
      have hp3 : Unit → (4294967296 * r + e1) % 18446744073709551616 = 4294967296 * r + e1 := fun _ => modU (by omega)
      obtain ⟨p, hp⟩ : ∃ p, q * v0 = p := ⟨_, rfl⟩
      rw [hp] at hng hp1
      have hp0 : Unit → (q * v0) % 18446744073709551616 = p := fun _ => by rw [hp]; exact hp1
      clear hp hp1 hqr hgt
      rw [hqe] at hp0 hqB ⊢
      repeat' (first | ((with_reducible refine aw_seqk ?_); intro K hK hX) | ((with_reducible refine isC_reg ?_); refine aw_prune [0, 1, 2, 6, 7, 8, 9, 10, 11, 12, 13, 14, 15, 16, 17, 18] rfl rfl ?_; with_reducible refine aw_region ?_) | ((with_reducible refine isC_draw ?_); refine aw_prune [0, 1, 2, 6, 7, 8, 9, 10, 11, 12, 13, 14, 15, 16, 17, 18] rfl rfl ?_; refine aw_drwF [] ?_) | ((first | ((with_reducible refine isA_any ?_); refine xA ?_) | ((with_reducible refine isDk_any ?_); refine xD ?_)); (first | ((with_reducible refine e_bin ?_); (first | refine ex_i (u_mul (hp0 ()) rfl rfl) ?_ | refine ex_i (u_mul (hp2 ()) rfl rfl) ?_ | refine ex_i (u_add (hp3 ()) rfl rfl) ?_)))) | refine stA ?_ | refine stD ?_ | (refine hK _ _ _ _ ?_; clear hK hX K) | (refine hX _ _ _ _ _ (by simp) ?_; clear hK hX K))
      exact hTail _ rfl rfl rfl rfl rfl rfl rfl rfl
end Go.Proofs.YtccnhpaldmjkbaaGreat
