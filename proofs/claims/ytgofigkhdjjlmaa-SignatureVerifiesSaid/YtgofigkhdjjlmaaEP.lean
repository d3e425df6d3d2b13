/-
  Lists of digests; trees of digests. Plain.
-/
import Derived.Test.YtgofigkhdjjlmaaE1
set_option linter.unusedVariables false
set_option linter.unusedSimpArgs false
namespace Go.Proofs.Ytgofigkhdjjlmaa
open Go Go.RowKit Go.Av
/-- Lists of digests as cells. -/
def all32 (L : List (List UInt8)) : Prop := ∀ d ∈ L, d.length = 32
def dc (L : List (List UInt8)) : List CV := u8c L.flatten
theorem flat_len : ∀ {L : List (List UInt8)}, all32 L → L.flatten.length = L.length * 32
  | [], _ => rfl
  | d :: L, h => by
    rw [List.flatten_cons, List.length_append, h d (by simp), flat_len (L := L) (fun x hx => h x (by simp [hx])), List.length_cons]
    omega
theorem dc_length {L : List (List UInt8)} {n : Nat} (h : all32 L) (hn : L.length = n) : (dc L).length = n * 32 := by rw [dc, u8c_length, flat_len h, hn]
theorem flat_at : ∀ {L : List (List UInt8)} (i : Nat), all32 L → i < L.length → (L.flatten.drop (i * 32)).take 32 = L.getD i []
  | [], i, _, h => by simp at h
  | d :: L, 0, h, _ => by
    have := h d (by simp)
    simp [List.take_append_of_le_length, this]
  | d :: L, i + 1, h, hi => by
    have hd := h d (by simp)
    have := flat_at (L := L) i (fun x hx => h x (by simp [hx])) (by simpa using hi)
    rw [List.flatten_cons, show (i + 1) * 32 = d.length + i * 32 by omega, List.drop_append]
    simp only [Nat.add_sub_cancel_left, List.getD_cons_succ]
    rw [List.drop_of_length_le (by omega), List.nil_append]
    exact this
theorem dig_at {L : List (List UInt8)} (h : all32 L) (i : Nat) (hi : i < L.length) : ((dc L).drop (i * 32)).take 32 = u8c (L.getD i []) := by
  rw [dc, u8c_drop, u8c_take, flat_at i h hi]
theorem dig_at0 {L : List (List UInt8)} (h : all32 L) (i : Nat) (hi : i < L.length) : ((dc L).drop (0 + i * 32)).take 32 = u8c (L.getD i []) := by rw [Nat.zero_add]; exact dig_at h i hi
theorem getD32 {L : List (List UInt8)} (h : all32 L) (i : Nat) (hi : i < L.length) : (L.getD i []).length = 32 := by
  rw [List.getD_eq_getElem?_getD, List.getElem?_eq_getElem hi]
  exact h _ (List.getElem_mem hi)
/-- The tree. -/
def nodeD (x : List UInt8) : List UInt8 := sum 380#64 x
def joinD (a b : List UInt8) : List UInt8 := sum 381#64 (a ++ b)
def sealD (t : List UInt8) (n : Nat) : List UInt8 := sum 382#64 (t ++ enc (n : Int))
theorem nodeD_length (x : List UInt8) : (nodeD x).length = 32 := sum_length _ _
theorem joinD_length (a b : List UInt8) : (joinD a b).length = 32 := sum_length _ _
theorem sealD_length (t : List UInt8) (n : Nat) : (sealD t n).length = 32 := sum_length _ _
def zero32 : List UInt8 := List.replicate 32 0
/-- The way up: what is reached, and how many siblings were used. -/
def apl (S : List (List UInt8)) (n i used : Nat) (x : List UInt8) : Option (List UInt8 × Nat) :=
  if h : n ≤ 1 then some (x, used)
  else if i % 2 = 1 ∨ i + 1 < n then
    if used < S.length then apl S ((n + 1) / 2) (i / 2) (used + 1) (if i % 2 = 1 then joinD (S.getD used []) x else joinD x (S.getD used []))
    else none
  else apl S ((n + 1) / 2) (i / 2) used x
termination_by n
decreasing_by all_goals omega
theorem apl_end {S : List (List UInt8)} {n i used : Nat} {x : List UInt8} (h : n ≤ 1) : apl S n i used x = some (x, used) := by rw [apl, dif_pos h]
theorem apl_out {S : List (List UInt8)} {n i used : Nat} {x : List UInt8} (h : ¬ n ≤ 1) (h1 : i % 2 = 1 ∨ i + 1 < n) (h2 : ¬ used < S.length) : apl S n i used x = none := by rw [apl, dif_neg h, if_pos h1, if_neg h2]
theorem apl_odd {S : List (List UInt8)} {n i used : Nat} {x : List UInt8} (h : ¬ n ≤ 1) (h1 : i % 2 = 1) (h2 : used < S.length) : apl S n i used x = apl S ((n + 1) / 2) (i / 2) (used + 1) (joinD (S.getD used []) x) := by rw [apl, dif_neg h, if_pos (.inl h1), if_pos h2, if_pos h1]
theorem apl_even {S : List (List UInt8)} {n i used : Nat} {x : List UInt8} (h : ¬ n ≤ 1) (h1 : i % 2 = 0) (h3 : i + 1 < n) (h2 : used < S.length) : apl S n i used x = apl S ((n + 1) / 2) (i / 2) (used + 1) (joinD x (S.getD used [])) := by rw [apl, dif_neg h, if_pos (.inr h3), if_pos h2, if_neg (by omega)]
theorem apl_lone {S : List (List UInt8)} {n i used : Nat} {x : List UInt8} (h : ¬ n ≤ 1) (h1 : i % 2 = 0) (h3 : ¬ i + 1 < n) : apl S n i used x = apl S ((n + 1) / 2) (i / 2) used x := by rw [apl, dif_neg h, if_neg (by omega)]
/-- Apply: the digest and the error. -/
def badP (i c : Int) : Bool := decide (c < 1) || decide (4096 < c) || decide (i < 0) || decide (c ≤ i)
def appP (leaf : List UInt8) (i c : Int) (S : List (List UInt8)) : List UInt8 × Nat :=
  if badP i c = true then (zero32, 1) else
  match apl S c.toNat i.toNat 0 (nodeD leaf) with
  | none => (zero32, 1)
  | some (x, u) => if u = S.length then (sealD x c.toNat, 0) else (zero32, 1)
theorem appP_length (leaf : List UInt8) (i c : Int) (S : List (List UInt8)) : (appP leaf i c S).1.length = 32 := by
  unfold appP
  split
  · rfl
  · split
    · rfl
    · split
      · exact sealD_length _ _
      · rfl
end Go.Proofs.Ytgofigkhdjjlmaa
