/-
  Plain: a row of bytes that came in reads as a list of bytes. For every world.
-/
import Derived.Test.YtddlgdppfeeplaaOps
set_option linter.unusedVariables false
namespace Go.Er
open Go Go.RowKit

theorem bytes_of_row {w : World} {a : Option Addr} {len cap : Nat} {zs : List Int}
    (h : (a = none ∧ len = 0 ∧ cap = 0 ∧ zs = []) ∨ ∃ x, a = some x ∧ len ≤ cap ∧ cap ≤ maxLen ∧ zs.length = cap ∧ (∀ i, i < zs.length → w.cell? (x.add i) = some (.int .u8 (zs.getD i 0))) ∧ ∀ n ∈ zs, (Lit.int .u8 n).wf = true) :
    ∃ l : List UInt8, SlR w 0 w.heap.size 1 a len cap (u8s l) := by
  rcases h with ⟨rfl, rfl, rfl, rfl⟩ | ⟨x, rfl, h1, h2, h3, h4, h5⟩
  · exact ⟨[], SlR.nil _ _ _ _⟩
  · refine ⟨(zs.take len).map fun n => UInt8.ofNat n.toNat, h1, h2, by rw [u8s_length, List.length_map, List.length_take]; omega, fun hn => ?_⟩
    have hc0 := h4 0 (by omega)
    have hs : x.spot = none := by
      have : x.add 0 = x := by simp [Addr.add]
      rw [this] at hc0
      unfold World.cell? at hc0
      split at hc0
      · split at hc0
        · cases hc0
        · rename_i hsp; simpa using hsp
      · cases hc0
    obtain ⟨b, o, sp⟩ := x
    simp only at hs
    subst hs
    have hlt := lt_of_cell hc0
    rw [add_mk] at hlt
    refine ⟨b, o, rfl, Nat.zero_le _, hlt, fun j u hu => ?_⟩
    have hj : j < len := by
      rcases Nat.lt_or_ge j len with h | h
      · exact h
      · rw [List.getElem?_eq_none (by simp [u8s]; omega)] at hu; cases hu
    have hjz : j < zs.length := by omega
    have := h4 j hjz
    rw [add_mk] at this
    rw [this]
    have hw := h5 zs[j] (List.getElem_mem hjz)
    have hb : 0 ≤ zs[j] ∧ zs[j] ≤ 255 := by
      have := (Go.bounds_u8 hw)
      omega
    simp [u8s, List.getElem?_take_of_lt hj, List.getElem?_eq_getElem hjz] at hu
    subst hu
    simp only [List.getD, List.getElem?_eq_getElem hjz, Option.getD_some, Option.some.injEq, Value.int.injEq, true_and]
    omega
end Go.Er
