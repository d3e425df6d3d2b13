/-
  Joined texts: JA. Lemmas; no statement of a law.
-/
import Derived.Test.YtccnhpaldmjkbaaGreatQ12
import Derived.Test.YtccnhpaldmjkbaaGreatQ26
set_option linter.unusedSimpArgs false
set_option linter.unusedVariables false
namespace Go.Proofs.YtccnhpaldmjkbaaGreat
open Go Go.RowKit Go.Av
set_option maxRecDepth 100000
theorem pc_set : ∀ {l : List Po} {k : Nat} {y : Po} (s : Int), l[k]? = some y → (pc l).set (k * 3 + 2) (iv s) = pc (l.set k ⟨y.w, y.r, s⟩)
  | [], k, y, s, h => by simp at h
  | z :: l, 0, y, s, h => by
    simp at h
    subst h
    rfl
  | z :: l, k + 1, y, s, h => by
    have ih := pc_set (l := l) (k := k) s (by simpa using h)
    have e : pc (z :: l) = [sv z.w, .sl 3 z.r.length (rc z.r), iv z.n] ++ pc l := rfl
    rw [e, show (k + 1) * 3 + 2 = (k * 3 + 2) + 3 by omega]
    simp only [List.cons_append, List.nil_append, List.set_cons_succ, ih]
    rfl
attribute [local irreducible] Still Adds AWL AW Drw DrwE EStep AC AWR Weak Frz Src RetK Out InK ItK AsK RdK
end Go.Proofs.YtccnhpaldmjkbaaGreat
