/-
  Joined texts: H12. Lemmas; no statement of a law.
-/
import Derived.Test.YtccnhpaldmjkbaaM6
set_option linter.unusedSimpArgs false
set_option linter.unusedVariables false
namespace Go.Proofs.Ytccnhpaldmjkbaa
open Go Go.RowKit Go.Av
set_option maxRecDepth 100000
section
variable {P : Program} {ev : Evl} {h : Heap} {d : Option Tmp} {T T' ty : TypeId} {x y : Operand} {pos : String} {aft : Array Edge} {gd : Option (Nat × Bool)}
end
/-- The text "a". -/
def vA : Vl := ⟨2, 0, [97]⟩
def bA : List En := [⟨[vA], 3⟩]
def cA : List Int := [0, 0, 0, 3, 3, 0, 0, 0]
attribute [local irreducible] Still Adds AWL AW Drw DrwE EStep AC AWR Weak Frz Src RetK Out InK ItK AsK RdK
end Go.Proofs.Ytccnhpaldmjkbaa
