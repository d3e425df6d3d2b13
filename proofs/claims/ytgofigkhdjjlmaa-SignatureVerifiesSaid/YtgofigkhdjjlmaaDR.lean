/-
  How the arguments of the digest's rows read. Plain.
-/
import Derived.Test.YtgofigkhdjjlmaaD2
import Derived.Test.YtgofigkhdjjlmaaAvR
set_option linter.unusedVariables false
namespace Go.Proofs.Ytgofigkhdjjlmaa
open Go Go.RowKit Go.Av

theorem rd_u64 {x : CV} (h : ∃ m, [x] = [CV.v (.int .u64 m)] ∧ (Lit.int .u64 m).wf = true) : ∃ w : BitVec 64, x = wv w := by
  obtain ⟨m, h1, h2⟩ := h
  injection h1 with h1 _
  have := bounds_u64 h2
  refine ⟨BitVec.ofNat 64 m.toNat, ?_⟩
  rw [h1]
  show CV.v (.int .u64 m) = .v (.int .u64 ((BitVec.ofNat 64 m.toNat).toNat : Int))
  rw [BitVec.toNat_ofNat, Nat.mod_eq_of_lt (by omega)]
  congr 2
  omega
theorem rd_int {x : CV} (h : ∃ m, [x] = [CV.v (.int .i64 m)] ∧ (Lit.int .i64 m).wf = true) : ∃ m : Int, x = iv m ∧ -9223372036854775808 ≤ m ∧ m ≤ 9223372036854775807 := by
  obtain ⟨m, h1, h2⟩ := h
  injection h1 with h1 _
  have := bounds_i64 h2
  exact ⟨m, h1, by omega, by omega⟩
theorem rd_str {x : CV} (h : ∃ s, [x] = [CV.v (.string s)] ∧ s.size ≤ maxLen) : ∃ s : ByteArray, x = .v (.string s) ∧ s.size ≤ maxLen := by
  obtain ⟨m, h1, h2⟩ := h
  injection h1 with h1 _
  exact ⟨m, h1, h2⟩
theorem u8_flat : ∀ (ls : List (List CV)), (∀ l ∈ ls, ∃ m, l = [CV.v (.int .u8 m)] ∧ (Lit.int .u8 m).wf = true) → ∃ l : List UInt8, ls.flatten = u8c l ∧ l.length = ls.length
  | [], _ => ⟨[], rfl, rfl⟩
  | c :: ls, h => by
    obtain ⟨m, rfl, hw⟩ := h c (by simp)
    obtain ⟨l, h1, h2⟩ := u8_flat ls (fun d hd => h d (by simp [hd]))
    have := bounds_u8 hw
    refine ⟨UInt8.ofNat m.toNat :: l, ?_, by simp [h2]⟩
    rw [List.flatten_cons, h1]
    show _ = CV.v (.int .u8 ((UInt8.ofNat m.toNat).toNat : Int)) :: u8c l
    have e : ((UInt8.ofNat m.toNat).toNat : Int) = m := by
      rw [UInt8.toNat_ofNat']
      omega
    rw [e]
    rfl
theorem rd_bytes {x : CV} (h : ∃ ls : List (List CV), [x] = [CV.sl 1 ls.length ls.flatten] ∧ ls.length ≤ maxLen ∧ ∀ l ∈ ls, (∃ m, l = [CV.v (.int .u8 m)] ∧ (Lit.int .u8 m).wf = true) ∧ l.length = 1) : ∃ l : List UInt8, x = .sl 1 l.length (u8c l) ∧ l.length ≤ maxLen := by
  obtain ⟨ls, h1, h2, h3⟩ := h
  injection h1 with h1 _
  obtain ⟨l, h4, h5⟩ := u8_flat ls (fun c hc => (h3 c hc).1)
  exact ⟨l, by rw [h1, h4, h5], by omega⟩
theorem rd_dig {xs : List CV} {n : Nat} (h : ∃ ls : List (List CV), xs = ls.flatten ∧ ls.length = n ∧ ∀ l ∈ ls, (∃ m, l = [CV.v (.int .u8 m)] ∧ (Lit.int .u8 m).wf = true) ∧ l.length = 1) : ∃ l : List UInt8, xs = u8c l ∧ l.length = n := by
  obtain ⟨ls, h1, h2, h3⟩ := h
  obtain ⟨l, h4, h5⟩ := u8_flat ls (fun c hc => (h3 c hc).1)
  exact ⟨l, by rw [h1, h4], by omega⟩
theorem rd_w5 {xs : List CV} (h : ∃ ls : List (List CV), xs = ls.flatten ∧ ls.length = 5 ∧ ∀ l ∈ ls, (∃ m, l = [CV.v (.int .u64 m)] ∧ (Lit.int .u64 m).wf = true) ∧ l.length = 1) : ∃ s : S5, xs = s.cs := by
  obtain ⟨ls, h1, h2, h3⟩ := h
  match ls, h2 with
  | [a, b, c, d, e], _ =>
    have g : ∀ l ∈ [a, b, c, d, e], ∃ w : BitVec 64, l = [wv w] := fun l hl => by
      obtain ⟨⟨m, rfl, hw⟩, _⟩ := h3 l hl
      obtain ⟨w, hw⟩ := rd_u64 ⟨m, rfl, hw⟩
      exact ⟨w, by rw [hw]⟩
    obtain ⟨wa, rfl⟩ := g a (by simp)
    obtain ⟨wb, rfl⟩ := g b (by simp)
    obtain ⟨wc, rfl⟩ := g c (by simp)
    obtain ⟨wd, rfl⟩ := g d (by simp)
    obtain ⟨we, rfl⟩ := g e (by simp)
    exact ⟨⟨wa, wb, wc, wd, we⟩, h1⟩
end Go.Proofs.Ytgofigkhdjjlmaa
