/-
  Joined texts: RP. Lemmas; no statement of a law.
-/
import Derived.Test.YtccnhpaldmjkbaaGreatQ15
import Derived.Test.YtccnhpaldmjkbaaGreatQ22
set_option linter.unusedVariables false
namespace Go.Proofs.YtccnhpaldmjkbaaGreat
open Go Go.RowKit Go.Av
def RdV (l : List CV) : Prop := ∃ a b, l = a ++ b ∧ (∃ m, a = [CV.v (.int .i64 m)] ∧ (Lit.int .i64 m).wf = true) ∧ ∃ c d, b = c ++ d ∧ (∃ m, c = [CV.v (.int .i64 m)] ∧ (Lit.int .i64 m).wf = true) ∧ ∃ e f, d = e ++ f ∧ (∃ s : ByteArray, e = [CV.v (.string s)] ∧ s.size ≤ maxLen) ∧ f = []
def RdP (l : List CV) : Prop := ∃ a b, l = a ++ b ∧ (∃ s : ByteArray, a = [CV.v (.string s)] ∧ s.size ≤ maxLen) ∧ ∃ c d, b = c ++ d ∧ (∃ ls : List (List CV), c = [CV.sl 3 ls.length ls.flatten] ∧ ls.length ≤ maxLen ∧ ∀ l ∈ ls, RdV l ∧ l.length = 3) ∧ ∃ e f, d = e ++ f ∧ (∃ m, e = [CV.v (.int .i64 m)] ∧ (Lit.int .i64 m).wf = true) ∧ f = []
theorem str_of (t : ByteArray) : ∃ s : List UInt8, t = ⟨s.toArray⟩ ∧ t.size = s.length := ⟨t.data.toList, by cases t; simp, by cases t; simp [ByteArray.size]⟩
theorem rd_val {l : List CV} (h : RdV l) : ∃ v : Vl, l = v.c := by
  obtain ⟨a, b, rfl, ⟨m, rfl, _⟩, c, d, rfl, ⟨k, rfl, _⟩, e, f, rfl, ⟨t, rfl, _⟩, rfl⟩ := h
  obtain ⟨s, rfl, _⟩ := str_of t
  exact ⟨⟨m, k, s⟩, rfl⟩
theorem rd_vals : ∀ (ls : List (List CV)), (∀ l ∈ ls, RdV l ∧ l.length = 3) → ∃ r : List Vl, ls.flatten = rc r ∧ r.length = ls.length
  | [], _ => ⟨[], rfl, rfl⟩
  | c :: ls, h => by
    obtain ⟨v, rfl⟩ := rd_val (h c (by simp)).1
    obtain ⟨r, h1, h2⟩ := rd_vals ls fun d hd => h d (by simp [hd])
    exact ⟨v :: r, by rw [List.flatten_cons, h1]; rfl, by simp [h2]⟩
theorem rd_post {l : List CV} (h : RdP l) : ∃ x : Po, l = x.c ∧ x.w.length ≤ maxLen ∧ x.r.length ≤ maxLen := by
  obtain ⟨a, b, rfl, ⟨t, rfl, ht⟩, c, d, rfl, ⟨ls, rfl, hl, hls⟩, e, f, rfl, ⟨k, rfl, _⟩, rfl⟩ := h
  obtain ⟨s, rfl, hs⟩ := str_of t
  obtain ⟨r, h1, h2⟩ := rd_vals ls hls
  exact ⟨⟨s, r, k⟩, by rw [h1, ← h2]; rfl, by show s.length ≤ maxLen; omega, by show r.length ≤ maxLen; omega⟩
theorem wK : ∀ (ls : List (List CV)), (∀ l ∈ ls, RdP l ∧ l.length = 3) → ∃ p : List Po, ls.flatten = pc p ∧ p.length = ls.length ∧ ∀ x ∈ p, x.w.length ≤ maxLen ∧ x.r.length ≤ maxLen
  | [], _ => ⟨[], rfl, rfl, fun x hx => (by cases hx)⟩
  | c :: ls, h => by
    obtain ⟨v, rfl, hv⟩ := rd_post (h c (by simp)).1
    obtain ⟨r, h1, h2, h3⟩ := wK ls fun d hd => h d (by simp [hd])
    exact ⟨v :: r, by rw [List.flatten_cons, h1]; rfl, by simp [h2], fun x hx => (List.mem_cons.1 hx).elim (fun e => e ▸ hv) (h3 x)⟩
theorem rd_posts {x : CV} (h : ∃ ls : List (List CV), [x] = [CV.sl 3 ls.length ls.flatten] ∧ ls.length ≤ maxLen ∧ ∀ l ∈ ls, RdP l ∧ l.length = 3) : ∃ p : List Po, x = .sl 3 p.length (pc p) ∧ p.length ≤ maxLen ∧ ∀ x ∈ p, x.w.length ≤ maxLen ∧ x.r.length ≤ maxLen := by
  obtain ⟨ls, h1, h2, h3⟩ := h
  obtain ⟨p, h4, h5, h6⟩ := wK ls h3
  exact ⟨p, by injection h1 with h1; rw [h1, h4, h5], by omega, h6⟩
end Go.Proofs.YtccnhpaldmjkbaaGreat
