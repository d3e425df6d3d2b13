/-
  Plain: words of bytes, absorbing, squeezing. No program in sight.
-/
import Derived.Test.YtgofigkhdjjlmaaD2
import Derived.Test.YtgofigkhdjjlmaaAvZ
set_option linter.unusedVariables false
set_option linter.unusedSimpArgs false
namespace Go.Proofs.Ytgofigkhdjjlmaa
open Go Go.RowKit Go.Av

/-- The little-endian number of the first i bytes. -/
def wdN (l : List UInt8) : Nat → BitVec 64
  | 0 => 0#64
  | i + 1 => wdN l i ||| (((l.getD i 0).toBitVec.setWidth 64) <<< (8 * i))
def xorA (s : S5) (x : BitVec 64) : S5 := { s with a := s.a ^^^ x }
/-- The state after k whole words. -/
def absK (s : S5) (l : List UInt8) : Nat → S5
  | 0 => s
  | k + 1 => permute (xorA (absK s l k) (wdN ((l.drop (8 * k)).take 8) 8))
def pad8 (r : List UInt8) : List UInt8 := r ++ 1 :: List.replicate (7 - r.length) 0
def start (dom : BitVec 64) : S5 := permute ⟨dom, 1#64, 2#64, 3#64, 4#64⟩
def absorb (dom : BitVec 64) (l : List UInt8) : S5 := permute (xorA (absK (start dom) l (l.length / 8)) (wdN (pad8 (l.drop (8 * (l.length / 8)))) 8))
def padR (l : List UInt8) : List UInt8 := l ++ 1 :: List.replicate (7 - l.length % 8) 0
theorem pad8_length (r : List UInt8) (h : r.length < 8) : (pad8 r).length = 8 := by simp [pad8]; omega
theorem padR_length (l : List UInt8) : (padR l).length = 8 * (l.length / 8 + 1) := by simp [padR]; omega
theorem padR_drop (l : List UInt8) : (padR l).drop (8 * (l.length / 8)) = pad8 (l.drop (8 * (l.length / 8))) := by
  have h : 8 * (l.length / 8) ≤ l.length := by omega
  unfold padR pad8
  rw [List.drop_append_of_le_length h, List.length_drop]
  congr 3
  omega
theorem padR_take (l : List UInt8) (j : Nat) (h : j < l.length / 8) : ((padR l).drop (8 * j)).take 8 = (l.drop (8 * j)).take 8 := by
  unfold padR
  rw [List.drop_append_of_le_length (by omega), List.take_append_of_le_length (by rw [List.length_drop]; omega)]
theorem absK_padR (s : S5) (l : List UInt8) : ∀ j, j ≤ l.length / 8 → absK s (padR l) j = absK s l j
  | 0, _ => rfl
  | j + 1, h => by
    simp only [absK]
    rw [absK_padR s l j (by omega), padR_take l j (by omega)]
theorem absorb_padR (dom : BitVec 64) (l : List UInt8) : absK (start dom) (padR l) (l.length / 8 + 1) = absorb dom l := by
  simp only [absK]
  rw [absK_padR _ l _ (Nat.le_refl _), padR_drop, List.take_of_length_le (by
    rw [pad8_length]
    · exact Nat.le_refl _
    · rw [List.length_drop]; omega)]
  rfl
/-- The bytes of the sequence from a state on. -/
def permN : Nat → S5 → S5
  | 0, s => s
  | k + 1, s => permute (permN k s)
def byteAt (s : S5) (i : Nat) : UInt8 := UInt8.ofBitVec (((permN (i / 8) s).a >>> (8 * (i % 8))).setWidth 8)
def outB (s : S5) (n : Nat) : List UInt8 := (List.range n).map (byteAt s)
theorem outB_length (s : S5) (n : Nat) : (outB s n).length = n := by simp [outB]
theorem outB_succ (s : S5) (n : Nat) : outB s (n + 1) = outB s n ++ [byteAt s n] := by simp [outB, List.range_succ]
theorem outB_take (s : S5) (n m : Nat) (h : n ≤ m) : (outB s m).take n = outB s n := by
  simp only [outB, ← List.map_take, List.take_range, Nat.min_eq_left h]
def sum (dom : BitVec 64) (l : List UInt8) : List UInt8 := outB (absorb dom l) 32
theorem sum_length (dom : BitVec 64) (l : List UInt8) : (sum dom l).length = 32 := outB_length _ _
/-- A row that is filled from the front. -/
theorem fill_succ (l z : List UInt8) (x : UInt8) (i : Nat) (h : l.length = i) (hz : i < z.length) : (l ++ z.drop i).set i x = (l ++ [x]) ++ z.drop (i + 1) := by
  rw [List.set_append_right _ _ (by omega), show i - l.length = 0 by omega]
  have : z.drop i = z[i] :: z.drop (i + 1) := List.drop_eq_getElem_cons hz
  rw [this, List.set_cons_zero, List.append_assoc]
  rfl
end Go.Proofs.Ytgofigkhdjjlmaa
