/-
  Joined texts: Z9. Lemmas; no statement of a law.
-/
import Derived.Test.YtccnhpaldmjkbaaGreatQ11
import Derived.Test.YtccnhpaldmjkbaaGreatQ12
set_option linter.unusedSimpArgs false
set_option linter.unusedVariables false
namespace Go.Proofs.YtccnhpaldmjkbaaGreat
open Go Go.RowKit Go.Av
set_option maxRecDepth 100000
theorem ACT.args {P : Program} {f : FuncId} {T : TypeId} {c0 args args' c1 : List CV} {r : CV} (h : ACT P f T c0 args c1 r) (hc : CvL args' args) : ACT P f T c0 args' c1 r := fun ok w g us0 vs h1 h2 h3 h4 => h ok w g us0 vs h1 h2 h3 (hc _ _ _ h4)
def spnV (x : Int) : Int := [-1, 0, 1, 2, 1073741824, 1073741825, 4611686018427387903, 4611686018427387904].getD x.toNat 0
def spwV (x : Int) : Int := [0, -1, 7, 1024, 1025].getD x.toNat 0
def spdV (x : Int) : Int := [0, 1, 2, 8, 9].getD x.toNat 0
attribute [local irreducible] Still Adds AWL AW Drw DrwE EStep AC AWR Weak Frz Src RetK Out InK ItK AsK RdK RetT OutT ACT ACS RetS ACP RetP
end Go.Proofs.YtccnhpaldmjkbaaGreat
