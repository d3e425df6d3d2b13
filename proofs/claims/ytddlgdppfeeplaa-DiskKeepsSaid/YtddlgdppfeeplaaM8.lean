/-
  Joined texts: GR. Lemmas; no statement of a law.
-/
import Derived.Test.YtddlgdppfeeplaaM1
import Derived.Test.YtddlgdppfeeplaaM2
import Derived.Test.YtddlgdppfeeplaaM3
import Derived.Test.YtddlgdppfeeplaaM4
import Derived.Test.YtddlgdppfeeplaaM5
import Derived.Test.YtddlgdppfeeplaaM6
import Derived.Test.YtddlgdppfeeplaaM7
/-
  How the arguments of the disk's rows read. Plain.
-/
set_option linter.unusedVariables false
namespace Go.Proofs.Ytddlgdppfeeplaa
open Go Go.RowKit Go.Av
theorem rd_int {xs : List CV} (h : ∃ m, xs = [CV.v (.int .i64 m)] ∧ (Lit.int .i64 m).wf = true) : ∃ m : Int, xs = [iv m] ∧ -9223372036854775808 ≤ m ∧ m ≤ 9223372036854775807 := by
  obtain ⟨m, h1, h2⟩ := h
  have := bounds_i64 h2
  exact ⟨m, h1, by omega, by omega⟩
theorem u8_flat : ∀ (ls : List (List CV)), (∀ l ∈ ls, ∃ m, l = [CV.v (.int .u8 m)] ∧ (Lit.int .u8 m).wf = true) → ∃ l : List UInt8, ls.flatten = u8c l ∧ l.length = ls.length
  | [], _ => ⟨[], rfl, rfl⟩
  | c :: ls, h => by
    obtain ⟨m, rfl, hw⟩ := h c (by simp)
    obtain ⟨l, h1, h2⟩ := u8_flat ls (fun d hd => h d (by simp [hd]))
    have := bounds_u8 hw
    refine ⟨UInt8.ofNat m.toNat :: l, ?_, by simp [h2]⟩
    rw [List.flatten_cons, h1]
    show _ = CV.v (.int .u8 ((UInt8.ofNat m.toNat).toNat : Int)) :: u8c l
    have e : ((UInt8.ofNat m.toNat).toNat : Int) = m := by
      rw [UInt8.toNat_ofNat']
      omega
    rw [e]
    rfl
theorem rd_bytes {xs : List CV} (h : ∃ ls : List (List CV), xs = [CV.sl 1 ls.length ls.flatten] ∧ ls.length ≤ maxLen ∧ ∀ l ∈ ls, (∃ m, l = [CV.v (.int .u8 m)] ∧ (Lit.int .u8 m).wf = true) ∧ l.length = 1) : ∃ l : List UInt8, xs = [.sl 1 l.length (u8c l)] ∧ l.length ≤ maxLen := by
  obtain ⟨ls, h1, h2, h3⟩ := h
  obtain ⟨l, h4, h5⟩ := u8_flat ls (fun c hc => (h3 c hc).1)
  exact ⟨l, by rw [h1, h4, h5], by omega⟩
abbrev RInt (xs : List CV) : Prop := ∃ m, xs = [CV.v (.int .i64 m)] ∧ (Lit.int .i64 m).wf = true
abbrev RByt (xs : List CV) : Prop := ∃ ls : List (List CV), xs = [CV.sl 1 ls.length ls.flatten] ∧ ls.length ≤ maxLen ∧ ∀ l ∈ ls, (∃ m, l = [CV.v (.int .u8 m)] ∧ (Lit.int .u8 m).wf = true) ∧ l.length = 1
theorem acts_flat : ∀ (ls : List (List CV)), (∀ l ∈ ls, ∃ a b, l = a ++ b ∧ RInt a ∧ ∃ a b', b = a ++ b' ∧ RInt a ∧ ∃ a b'', b' = a ++ b'' ∧ RByt a ∧ b'' = []) → ∃ L : List Ac, ls.flatten = acsC L ∧ L.length = ls.length ∧ wideA L
  | [], _ => ⟨[], rfl, rfl, fun a h => by cases h⟩
  | c :: ls, h => by
    obtain ⟨a1, b1, rfl, h1, a2, b2, rfl, h2, a3, b3, rfl, h3, rfl⟩ := h c (by simp)
    obtain ⟨kd, rfl, k1, k2⟩ := rd_int h1
    obtain ⟨n, rfl, n1, n2⟩ := rd_int h2
    obtain ⟨bs, rfl, _⟩ := rd_bytes h3
    obtain ⟨L, e1, e2, e3⟩ := acts_flat ls (fun d hd => h d (by simp [hd]))
    refine ⟨⟨kd, n, bs⟩ :: L, ?_, by simp [e2], fun a ha => ?_⟩
    · rw [List.flatten_cons, e1]
      simp [acsC, acC, List.flatMap_cons]
    · rcases List.mem_cons.1 ha with rfl | ha
      · exact ⟨⟨k1, k2⟩, n1, n2⟩
      · exact e3 a ha
theorem rd_acts {xs : List CV} (h : ∃ ls : List (List CV), xs = [CV.sl 3 ls.length ls.flatten] ∧ ls.length ≤ maxLen ∧ ∀ l ∈ ls, (∃ a b, l = a ++ b ∧ RInt a ∧ ∃ a b', b = a ++ b' ∧ RInt a ∧ ∃ a b'', b' = a ++ b'' ∧ RByt a ∧ b'' = []) ∧ l.length = 3) : ∃ L : List Ac, xs = [.sl 3 L.length (acsC L)] ∧ L.length ≤ maxLen ∧ wideA L := by
  obtain ⟨ls, h1, h2, h3⟩ := h
  obtain ⟨L, h4, h5, h6⟩ := acts_flat ls (fun c hc => (h3 c hc).1)
  exact ⟨L, by rw [h1, h4, h5], by omega, h6⟩
theorem one_eq {x y : CV} (h : [x] = [y]) : x = y := by injection h
end Go.Proofs.Ytddlgdppfeeplaa
