/-
  Words of 64 bits and bytes over abstract values. For every program.
-/
import Derived.Test.YtgofigkhdjjlmaaAvK
set_option linter.unusedVariables false
set_option linter.unusedSimpArgs false
namespace Go.Av
open Go Go.RowKit

/-- The integer p is the word x. -/
def IsW (p : Int) (x : BitVec 64) : Prop := p = (x.toNat : Int)
theorem isW_rfl {x : BitVec 64} : IsW (x.toNat : Int) x := rfl
theorem isW_lit {n : Nat} (h : Nat.blt n 18446744073709551616 = true) : IsW (n : Int) (BitVec.ofNat 64 n) := by
  have : n < 18446744073709551616 := by simpa using h
  simp only [IsW, BitVec.toNat_ofNat]
  rw [Nat.mod_eq_of_lt (by omega)]
theorem isW_num {n : Nat} (h : Nat.blt n 18446744073709551616 = true) : IsW (OfNat.ofNat n : Int) (BitVec.ofNat 64 n) := isW_lit h
theorem IsW.ofInt {p : Int} {x : BitVec 64} (h : IsW p x) : BitVec.ofInt 64 p = x := by
  unfold IsW at h
  subst h
  apply BitVec.eq_of_toNat_eq
  simp only [BitVec.toNat_ofInt]
  have := x.isLt
  omega
theorem wrapW (x : BitVec 64) : IntKind.u64.wrap (x.toNat : Int) = (x.toNat : Int) := by
  have := x.isLt
  rw [IntKind.wrap_u64]; omega
section
variable {P : Program} {tab : Tab} {ev : Evl} {h : Heap} {d : Option Tmp} {T ty T' : TypeId} {X Y : Operand} {pos : String} {aft : Array Edge} {gd : Option (Nat × Bool)} {p q : Int} {x y : BitVec 64} (hX : ev X = some (.c (.v (.int .u64 p)))) (hp : IsW p x)
include hX hp
theorem s_xorW (hY : ev Y = some (.c (.v (.int .u64 q)))) (hq : IsW q y) : Still P ⟨d, .binOp .xor T X Y T', ty, pos, aft, gd⟩ ev h (.c (.v (.int .u64 ((x ^^^ y).toNat : Int)))) :=
  s_xor hX hY (by show IntKind.u64.wrap ((BitVec.ofInt 64 p ^^^ BitVec.ofInt 64 q).toNat : Int) = _; rw [hp.ofInt, hq.ofInt, wrapW])
theorem s_andW (hY : ev Y = some (.c (.v (.int .u64 q)))) (hq : IsW q y) : Still P ⟨d, .binOp .and T X Y T', ty, pos, aft, gd⟩ ev h (.c (.v (.int .u64 ((x &&& y).toNat : Int)))) :=
  s_and hX hY (by show IntKind.u64.wrap ((BitVec.ofInt 64 p &&& BitVec.ofInt 64 q).toNat : Int) = _; rw [hp.ofInt, hq.ofInt, wrapW])
theorem s_orW (hY : ev Y = some (.c (.v (.int .u64 q)))) (hq : IsW q y) : Still P ⟨d, .binOp .or T X Y T', ty, pos, aft, gd⟩ ev h (.c (.v (.int .u64 ((x ||| y).toNat : Int)))) :=
  s_or hX hY (by show IntKind.u64.wrap ((BitVec.ofInt 64 p ||| BitVec.ofInt 64 q).toNat : Int) = _; rw [hp.ofInt, hq.ofInt, wrapW])
theorem s_addW (hY : ev Y = some (.c (.v (.int .u64 q)))) (hq : IsW q y) : Still P ⟨d, .binOp .add T X Y T', ty, pos, aft, gd⟩ ev h (.c (.v (.int .u64 ((x + y).toNat : Int)))) :=
  s_add hX hY (by unfold IsW at hp hq; subst hp hq; rw [IntKind.wrap_u64, BitVec.toNat_add]; omega)
theorem s_mulW (hY : ev Y = some (.c (.v (.int .u64 q)))) (hq : IsW q y) : Still P ⟨d, .binOp .mul T X Y T', ty, pos, aft, gd⟩ ev h (.c (.v (.int .u64 ((x * y).toNat : Int)))) :=
  s_mul hX hY (by unfold IsW at hp hq; subst hp hq; rw [IntKind.wrap_u64, BitVec.toNat_mul, ← Int.natCast_mul]; omega)
theorem s_subW (hY : ev Y = some (.c (.v (.int .u64 q)))) (hq : IsW q y) : Still P ⟨d, .binOp .sub T X Y T', ty, pos, aft, gd⟩ ev h (.c (.v (.int .u64 ((x - y).toNat : Int)))) :=
  s_sub hX hY (by unfold IsW at hp hq; subst hp hq; have := x.isLt; have := y.isLt; rw [IntKind.wrap_u64, BitVec.toNat_sub]; omega)
theorem s_complW : Still P ⟨d, .unOp .xor T X, ty, pos, aft, gd⟩ ev h (.c (.v (.int .u64 ((~~~x).toNat : Int)))) :=
  s_compl hX (by
    show IntKind.u64.wrap ((BitVec.ofInt 64 18446744073709551615 ^^^ BitVec.ofInt 64 p).toNat : Int) = _
    rw [hp.ofInt, show BitVec.ofInt 64 18446744073709551615 = BitVec.allOnes 64 by decide, BitVec.allOnes_xor, wrapW])
theorem s_shlW {k : IntKind} {r : Int} {m : Nat} (hY : ev Y = some (.c (.v (.int k r)))) (hr : r = (m : Int)) : Still P ⟨d, .binOp .shl T X Y T', ty, pos, aft, gd⟩ ev h (.c (.v (.int .u64 ((x <<< m).toNat : Int)))) :=
  s_shl hX hY (by omega) (by
    unfold IsW at hp; subst hp hr
    simp only [Int.toNat_natCast, show IntKind.u64.bits = 64 from rfl]
    rw [IntKind.wrap_u64, BitVec.toNat_shiftLeft, Nat.shiftLeft_eq]
    rcases Nat.lt_or_ge m 64 with h | h
    · rw [Nat.min_eq_left (by omega)]
      rw [show ((x.toNat : Int) * 2 ^ m) = ((x.toNat * 2 ^ m : Nat) : Int) by simp]
      omega
    · rw [Nat.min_eq_right h, show ((x.toNat : Int) * 2 ^ 64) = ((x.toNat * 2 ^ 64 : Nat) : Int) by simp]
      have h1 : x.toNat * 2 ^ m = (x.toNat * 2 ^ (m - 64)) * 2 ^ 64 := by rw [Nat.mul_assoc, ← Nat.pow_add]; congr 2; omega
      have h2 : x.toNat * 2 ^ m % 2 ^ 64 = 0 := by rw [h1]; exact Nat.mul_mod_left _ _
      rw [h2]
      have h3 : x.toNat * 2 ^ 64 % 2 ^ 64 = 0 := Nat.mul_mod_left _ _
      omega)
theorem s_shrW {k : IntKind} {r : Int} {m : Nat} (hY : ev Y = some (.c (.v (.int k r)))) (hr : r = (m : Int)) : Still P ⟨d, .binOp .shr T X Y T', ty, pos, aft, gd⟩ ev h (.c (.v (.int .u64 ((x >>> m).toNat : Int)))) :=
  s_shr hX hY (by omega) (by
    unfold IsW at hp; subst hp hr
    simp only [Int.toNat_natCast, show IntKind.u64.bits = 64 from rfl]
    rw [BitVec.toNat_ushiftRight, Nat.shiftRight_eq_div_pow, Int.fdiv_eq_ediv_of_nonneg _ (by exact Int.pow_nonneg (by decide))]
    rcases Nat.lt_or_ge m 64 with h | h
    · rw [Nat.min_eq_left (by omega)]; simp
    · rw [Nat.min_eq_right h]
      have := x.isLt
      have h1 : x.toNat / 2 ^ m = 0 := Nat.div_eq_of_lt (Nat.lt_of_lt_of_le this (Nat.pow_le_pow_right (by decide) h))
      have h2 : x.toNat / 2 ^ 64 = 0 := Nat.div_eq_of_lt this
      rw [h1]
      rw [show ((2 : Int) ^ 64) = ((2 ^ 64 : Nat) : Int) by simp, ← Int.natCast_ediv, h2])
theorem s_convWB (tb : TabOk P tab) {S : TypeId} {e es : TyE} (hS : tyLook tab S = some es) (hT : tyLook tab T = some e) (hk : e.kind = .int .u8) : Still P ⟨d, .convert S T X, ty, pos, aft, gd⟩ ev h (.c (.v (.int .u8 ((UInt8.ofBitVec (x.setWidth 8)).toNat : Int)))) :=
  s_convInt tb hS hT hk hX (by
    unfold IsW at hp; subst hp
    have := x.isLt
    rw [IntKind.wrap_u8]
    simp)
theorem s_convWW (tb : TabOk P tab) {S : TypeId} {e es : TyE} (hS : tyLook tab S = some es) (hT : tyLook tab T = some e) (hk : e.kind = .int .u64) : Still P ⟨d, .convert S T X, ty, pos, aft, gd⟩ ev h (.c (.v (.int .u64 (x.toNat : Int)))) :=
  s_convInt tb hS hT hk hX (by unfold IsW at hp; subst hp; exact wrapW x)
end
theorem s_convBW {P : Program} {tab : Tab} {ev : Evl} {h : Heap} {d : Option Tmp} {T ty S : TypeId} {X : Operand} {pos : String} {aft : Array Edge} {gd : Option (Nat × Bool)} {b : UInt8} (hX : ev X = some (.c (.v (.int .u8 (b.toNat : Int))))) (tb : TabOk P tab) {e es : TyE} (hS : tyLook tab S = some es) (hT : tyLook tab T = some e) (hk : e.kind = .int .u64) : Still P ⟨d, .convert S T X, ty, pos, aft, gd⟩ ev h (.c (.v (.int .u64 ((b.toBitVec.setWidth 64).toNat : Int)))) :=
  s_convInt tb hS hT hk hX (by
    have := b.toNat_lt
    rw [IntKind.wrap_u64]
    simp
    omega)
theorem s_convIW {P : Program} {tab : Tab} {ev : Evl} {h : Heap} {d : Option Tmp} {T ty S : TypeId} {X : Operand} {pos : String} {aft : Array Edge} {gd : Option (Nat × Bool)} {m : Int} {k : IntKind} (hX : ev X = some (.c (.v (.int k m)))) (tb : TabOk P tab) {e es : TyE} (hS : tyLook tab S = some es) (hT : tyLook tab T = some e) (hk : e.kind = .int .u64) : Still P ⟨d, .convert S T X, ty, pos, aft, gd⟩ ev h (.c (.v (.int .u64 ((BitVec.ofInt 64 m).toNat : Int)))) :=
  s_convInt tb hS hT hk hX (by
    rw [IntKind.wrap_u64]
    simp only [BitVec.toNat_ofInt]
    omega)
end Go.Av
