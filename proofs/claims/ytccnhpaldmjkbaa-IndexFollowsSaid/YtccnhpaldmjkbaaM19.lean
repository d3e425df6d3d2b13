/-
  Joined texts: Z7. Lemmas; no statement of a law.
-/
import Derived.Test.YtccnhpaldmjkbaaM10
set_option linter.unusedSimpArgs false
set_option linter.unusedVariables false
/-
  Valid and positive bags (walk), as the reference has them.
-/
namespace Go.Proofs.Ytccnhpaldmjkbaa
open Go Go.RowKit Go.Av
set_option maxRecDepth 100000
attribute [local irreducible] Still Adds AWL AW Drw DrwE EStep AC AWR Weak Frz Src RetK Out InK ItK AsK RdK RetT OutT ACT
end Go.Proofs.Ytccnhpaldmjkbaa
