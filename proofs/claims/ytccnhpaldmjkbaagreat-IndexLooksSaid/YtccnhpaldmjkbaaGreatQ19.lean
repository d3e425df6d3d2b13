/-
  Joined texts: Z13. Lemmas; no statement of a law.
-/
import Derived.Test.YtccnhpaldmjkbaaGreatQ18
set_option linter.unusedSimpArgs false
set_option linter.unusedVariables false
namespace Go.Proofs.YtccnhpaldmjkbaaGreat
open Go Go.RowKit Go.Av
set_option maxRecDepth 100000
def spcV (x : Int) : Int := [262144, 262145, -262145].getD x.toNat 0
attribute [local irreducible] Still Adds AWL AW Drw DrwE EStep AC AWR Weak Frz Src RetK Out InK ItK AsK RdK RetT OutT ACT ACS RetS ACP RetP
end Go.Proofs.YtccnhpaldmjkbaaGreat
