/-
  Joined texts: Z7 T4. Lemmas; no statement of a law.
-/
import Derived.Test.YtccnhpaldmjkbaaGreatM7
set_option linter.unusedSimpArgs false
set_option linter.unusedVariables false
/-
  Valid and positive bags (walk), as the reference has them.
-/
namespace Go.Proofs.YtccnhpaldmjkbaaGreat
open Go Go.RowKit Go.Av
set_option maxRecDepth 100000
attribute [local irreducible] Still Adds AWL AW Drw DrwE EStep AC AWR Weak Frz Src RetK Out InK ItK AsK RdK RetT OutT ACT
end Go.Proofs.YtccnhpaldmjkbaaGreat
/-
  Sums of lists of entries. Plain.
-/
namespace Go.Proofs.YtccnhpaldmjkbaaGreat
open Go Go.RowKit Go.Av
set_option maxRecDepth 100000
def mergeE : List En → List En → List En
  | [], bt1 => bt1
  | a :: at1, [] => a :: at1
  | a :: at1, b :: bt1 => if cmpR a.r b.r < 0 then a :: mergeE at1 (b :: bt1) else if 0 < cmpR a.r b.r then b :: mergeE (a :: at1) bt1 else if a.n + b.n ≠ 0 then ⟨a.r, a.n + b.n⟩ :: mergeE at1 bt1 else mergeE at1 bt1
termination_by a b => a.length + b.length
theorem mergeE_nil (b : List En) : mergeE [] b = b := by rw [mergeE]
theorem mergeE_nil' (a : List En) : mergeE a [] = a := by cases a <;> rw [mergeE]
theorem drop_at {α : Type} {l : List α} {i : Nat} {x : α} (h : l[i]? = some x) : l.drop i = x :: l.drop (i + 1) := by
  obtain ⟨h1, h2⟩ := List.getElem?_eq_some_iff.1 h
  rw [List.drop_eq_getElem_cons h1, h2]
theorem drop_end {α : Type} {l : List α} {i n : Nat} (hn : l.length = n) (h : n ≤ i) : l.drop i = [] := List.drop_eq_nil_of_le (by omega)
section
variable {a b : List En} {i k n m : Nat} {x y : En}
theorem mg_right (hn : a.length = n) (hi : n ≤ i) (hy : b[k]? = some y) : mergeE (a.drop i) (b.drop k) = y :: mergeE (a.drop i) (b.drop (k + 1)) := by
  rw [drop_end hn hi, mergeE_nil, mergeE_nil, drop_at hy]
theorem mg_left (hm : b.length = m) (hk : m ≤ k) (hx : a[i]? = some x) : mergeE (a.drop i) (b.drop k) = x :: mergeE (a.drop (i + 1)) (b.drop k) := by
  rw [drop_end hm hk, mergeE_nil', mergeE_nil', drop_at hx]
theorem mg_lt (hx : a[i]? = some x) (hy : b[k]? = some y) (h : cmpR x.r y.r < 0) : mergeE (a.drop i) (b.drop k) = x :: mergeE (a.drop (i + 1)) (b.drop k) := by
  rw [drop_at hx, drop_at hy, mergeE, if_pos h]
theorem mg_gt (hx : a[i]? = some x) (hy : b[k]? = some y) (h : 0 < cmpR x.r y.r) : mergeE (a.drop i) (b.drop k) = y :: mergeE (a.drop i) (b.drop (k + 1)) := by
  rw [drop_at hx, drop_at hy, mergeE, if_neg (by omega), if_pos h]
theorem mg_eq (hx : a[i]? = some x) (hy : b[k]? = some y) (h : cmpR x.r y.r = 0) (hs : x.n + y.n ≠ 0) : mergeE (a.drop i) (b.drop k) = ⟨x.r, x.n + y.n⟩ :: mergeE (a.drop (i + 1)) (b.drop (k + 1)) := by
  rw [drop_at hx, drop_at hy, mergeE, if_neg (by omega), if_neg (by omega), if_pos hs]
theorem mg_no (hx : a[i]? = some x) (hy : b[k]? = some y) (h : cmpR x.r y.r = 0) (hs : x.n + y.n = 0) : mergeE (a.drop i) (b.drop k) = mergeE (a.drop (i + 1)) (b.drop (k + 1)) := by
  rw [drop_at hx, drop_at hy, mergeE, if_neg (by omega), if_neg (by omega), if_neg (fun h => h hs)]
end
theorem mergeE_length : ∀ (a b : List En), (mergeE a b).length ≤ a.length + b.length := by
  intro a b
  induction a, b using mergeE.induct with
  | case1 bt1 => rw [mergeE]; simp
  | case2 a at1 => rw [mergeE]; simp
  | case3 a at1 b bt1 h ih => rw [mergeE, if_pos h]; simp only [List.length_cons] at ih ⊢; omega
  | case4 a at1 b bt1 h h2 ih => rw [mergeE, if_neg h, if_pos h2]; simp only [List.length_cons] at ih ⊢; omega
  | case5 a at1 b bt1 h h2 h3 ih => rw [mergeE, if_neg h, if_neg h2, if_pos h3]; simp only [List.length_cons] at ih ⊢; omega
  | case6 a at1 b bt1 h h2 h3 ih => rw [mergeE, if_neg h, if_neg h2, if_neg h3]; simp only [List.length_cons] at ih ⊢; omega
theorem ec_app (a b : List En) : ec (a ++ b) = ec a ++ ec b := by simp [ec]
/-- The sum of all counts, without signs. -/
def absS (l : List En) : Nat := (l.map fun e => e.n.natAbs).sum
theorem absS_mem {l : List En} {e : En} (h : e ∈ l) : e.n.natAbs ≤ absS l := by
  induction l with
  | nil => cases h
  | cons x l ih =>
    unfold absS at ih ⊢
    simp only [List.map_cons, List.sum_cons]
    rcases List.mem_cons.1 h with rfl | h
    · omega
    · have := ih h; omega
theorem absS_cons (e : En) (l : List En) : absS (e :: l) = e.n.natAbs + absS l := by simp [absS]
theorem mergeE_abs : ∀ (a b : List En), absS (mergeE a b) ≤ absS a + absS b := by
  intro a b
  induction a, b using mergeE.induct with
  | case1 bt1 => rw [mergeE]; simp [absS]
  | case2 a at1 => rw [mergeE]; simp [absS]
  | case3 a at1 b bt1 h ih => rw [mergeE, if_pos h]; simp only [absS_cons] at ih ⊢; omega
  | case4 a at1 b bt1 h h2 ih => rw [mergeE, if_neg h, if_pos h2]; simp only [absS_cons] at ih ⊢; omega
  | case5 a at1 b bt1 h h2 h3 ih => rw [mergeE, if_neg h, if_neg h2, if_pos h3]; simp only [absS_cons] at ih ⊢; omega
  | case6 a at1 b bt1 h h2 h3 ih => rw [mergeE, if_neg h, if_neg h2, if_neg h3]; simp only [absS_cons] at ih ⊢; omega
theorem mergeE_rows : ∀ (a b : List En) (p : List Vl → Prop), (∀ e ∈ a, p e.r) → (∀ e ∈ b, p e.r) → ∀ e ∈ mergeE a b, p e.r := by
  intro a b p
  induction a, b using mergeE.induct with
  | case1 bt1 => intro _ h; rw [mergeE]; exact h
  | case2 a at1 => intro h _; rw [mergeE]; exact h
  | case3 a at1 b bt1 h ih =>
    intro h1 h2; rw [mergeE, if_pos h]
    intro e he
    rcases List.mem_cons.1 he with rfl | he
    · exact h1 _ (by simp)
    · exact ih (fun e he => h1 e (by simp [he])) h2 e he
  | case4 a at1 b bt1 h h2 ih =>
    intro h1 h3; rw [mergeE, if_neg h, if_pos h2]
    intro e he
    rcases List.mem_cons.1 he with rfl | he
    · exact h3 _ (by simp)
    · exact ih h1 (fun e he => h3 e (by simp [he])) e he
  | case5 a at1 b bt1 h h2 h3 ih =>
    intro h1 h4; rw [mergeE, if_neg h, if_neg h2, if_pos h3]
    intro e he
    rcases List.mem_cons.1 he with rfl | he
    · exact h1 a (by simp)
    · exact ih (fun e he => h1 e (by simp [he])) (fun e he => h4 e (by simp [he])) e he
  | case6 a at1 b bt1 h h2 h3 ih =>
    intro h1 h4; rw [mergeE, if_neg h, if_neg h2, if_neg h3]
    exact ih (fun e he => h1 e (by simp [he])) (fun e he => h4 e (by simp [he]))
end Go.Proofs.YtccnhpaldmjkbaaGreat
