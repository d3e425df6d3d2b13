/-
  Small lemmas for the walk's own steps. For every program.
-/
import Derived.Test.YtgofigkhdjjlmaaAvI
set_option linter.unusedVariables false
namespace Go.Av
open Go Go.RowKit
section
variable {next : Nat → Env → Heap → Defs → Prop} {K : AK} {n : Nat} {env : Env} {h : Heap} {dfs : Defs} {id id' : Nat}
theorem k_then (hk : next n env h dfs) : thenA next K .normal n env h dfs := hk
theorem k_thenX (hk : K (.exit id) n env h dfs) : thenA next K (.exit id) n env h dfs := hk
theorem k_thenR (hk : K .ret n env h dfs) : thenA next K .ret n env h dfs := hk
theorem k_blk (hk : K .normal n env h dfs) : inBlk id K .normal n env h dfs := hk
theorem k_blkR (hk : K .ret n env h dfs) : inBlk id K .ret n env h dfs := hk
theorem k_blkH (hb : Nat.beq id' id = true) (hk : K .normal n env h dfs) : inBlk id K (.exit id') n env h dfs := by simp only [inBlk, hb]; exact hk
theorem k_blkM (hb : Nat.beq id' id = false) (hk : K (.exit id') n env h dfs) : inBlk id K (.exit id') n env h dfs := by simp only [inBlk, hb]; exact hk
end
theorem w64 {x : Int} (h1 : -9223372036854775808 ≤ x) (h2 : x ≤ 9223372036854775807) : IntKind.i64.wrap x = x := by rw [IntKind.wrap_i64]; omega
theorem wu64 {x : Int} (h1 : 0 ≤ x) (h2 : x ≤ 18446744073709551615) : IntKind.u64.wrap x = x := by rw [IntKind.wrap_u64]; omega
theorem wu8 {x : Int} (h1 : 0 ≤ x) (h2 : x ≤ 255) : IntKind.u8.wrap x = x := by rw [IntKind.wrap_u8]; omega
theorem q64 {x y : Int} (h0 : 0 ≤ x) (hy : 0 < y) (h2 : x ≤ 9223372036854775807) : IntKind.i64.wrap (x.tdiv y) = x / y := by
  rw [Int.tdiv_eq_ediv_of_nonneg h0]
  have h3 : 0 ≤ x / y := Int.ediv_nonneg h0 (by omega)
  have h4 : x / y ≤ x := Int.ediv_le_self _ h0
  exact w64 (by omega) (by omega)
theorem qu8 {x y : Int} (h0 : 0 ≤ x) (hy : 0 < y) (h2 : x ≤ 255) : IntKind.u8.wrap (x.tdiv y) = x / y := by
  rw [Int.tdiv_eq_ediv_of_nonneg h0]
  have h3 : 0 ≤ x / y := Int.ediv_nonneg h0 (by omega)
  have h4 : x / y ≤ x := Int.ediv_le_self _ h0
  exact wu8 (by omega) (by omega)
theorem r64 {x y : Int} (h0 : 0 ≤ x) : x.tmod y = x % y := Int.tmod_eq_emod_of_nonneg h0
theorem nt {j : Int} (h : 0 ≤ j) : j = (j.toNat : Int) := by omega
theorem whole0 {α : Type} {cs : List α} {k : Nat} (h : cs.length = k) : (cs.drop 0).take k = cs := by rw [List.drop_zero, List.take_of_length_le (by omega)]
end Go.Av
