/-
  Joined texts: RI. Lemmas; no statement of a law.
-/
import Derived.SizedLaws
import Derived.Test.YtccnhpaldmjkbaaGreatQ14
set_option linter.unusedVariables false
namespace Go.Av
open Go Go.RowKit
theorem arg_reach {H : Type} {enc : TypeId × Value → H} {P : Program} {W : World} {base : Nat} {sp : Nat → Bool} {held : Bool} {t e : TypeId} {A : Option Addr} {n c k j : Nat} {d : DataW H} {p : List MemPlace} {ts : List TypeId} {ds : List (DataW H)} (hu : P.underlying t = some (.slice e)) (hk : P.bytesOf e = k) (h : DataW.Trod enc P W base sp held t (.slice A n c) d p)
    (hsz : (DataW.weightsEach P ts ds).all (· ≤ reachBytes) = true) (ht : ts[j]? = some t) (hd : ds[j]? = some d) : n * k ≤ 140737488351232 := by
  obtain ⟨fuel, hf⟩ := h
  rw [show (Value.slice A n c).cells.toList = [Value.slice A n c] from rfl] at hf
  rcases DataW.trod_slice hu hf with ⟨h1, _⟩ | ⟨a, len, cap, elems, rest, m, _, h1, h2, _, _, _, hlen, _⟩
  · injection h1 with h1
    injection h1 with _ h1
    rw [h1]
    omega
  · injection h1 with h1
    injection h1 with _ h1
    injection h2 with h2 _
    subst h2
    have := sized_slice hsz ht hd hu
    rw [hk] at this
    simp only [List.length_map, reachBytes] at this
    have h3 : elems.length * k ≤ (elems.length + rest.length) * k := Nat.mul_le_mul_right _ (by omega)
    rw [h1, ← hlen]
    omega
theorem len_of {ok : Nat → Prop} {W : World} {s n len cap : Nat} {cs : List CV} {A : Option Addr} (h : RepC ok W (.sl s n cs) (.slice A len cap)) : len = n := by
  simp only [RepC] at h
  obtain ⟨A', c, us, e, _⟩ := h
  injection e
theorem rZ : ∀ (ls : List (List CV)), (∀ l ∈ ls, ∃ m, l = [CV.v (.int .i64 m)] ∧ (Lit.int .i64 m).wf = true) → ∃ L : List Int, ls.flatten = intc .i64 L ∧ L.length = ls.length
  | [], _ => ⟨[], rfl, rfl⟩
  | c :: ls, h => by
    obtain ⟨m, rfl, hw⟩ := h c (by simp)
    obtain ⟨L, h1, h2⟩ := rZ ls (fun d hd => h d (by simp [hd]))
    exact ⟨m :: L, by rw [List.flatten_cons, h1]; rfl, by simp [h2]⟩
theorem rd_ints {x : CV} (h : ∃ ls : List (List CV), [x] = [CV.sl 1 ls.length ls.flatten] ∧ ls.length ≤ maxLen ∧ ∀ l ∈ ls, (∃ m, l = [CV.v (.int .i64 m)] ∧ (Lit.int .i64 m).wf = true) ∧ l.length = 1) : ∃ L : List Int, x = .sl 1 L.length (intc .i64 L) ∧ L.length ≤ maxLen := by
  obtain ⟨ls, h1, h2, h3⟩ := h
  obtain ⟨L, h4, h5⟩ := rZ ls (fun c hc => (h3 c hc).1)
  exact ⟨L, by injection h1 with h1; rw [h1, h4, h5], by omega⟩
end Go.Av
