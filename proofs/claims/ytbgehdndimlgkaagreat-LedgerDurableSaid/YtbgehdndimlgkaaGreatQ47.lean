/-
  Lemmas for laws of the ledger; no statement of a law.
-/
import Derived.Test.YtbgehdndimlgkaaGreatQ42
import Derived.Test.YtbgehdndimlgkaaGreatQ44
set_option linter.unusedSimpArgs false
set_option linter.unusedVariables false
namespace Go.Proofs.YtbgehdndimlgkaaGreat
open Go Go.RowKit Go.Av
set_option maxRecDepth 100000
section
variable {P:Program} {tab:Tab} {ev:Evl} {h:aO} {d:Option Tmp} {T ty T':TypeId} {x y:Operand} {pos:String} {aft:Array Edge} {gd:Option (Nat × Bool)}
end
theorem bG8 {l:List LEn} (h:uN l) (hw:∀e∈l,e.wf∧aQ e.k):OkL l:=fun e he=>⟨(hw e he).1,(hw e he).2,qM (h.2 e he)⟩
attribute [local irreducible] Still Adds AWL AW Drw bT bW AC AWR cL Frz Go.Av.Src dC Out InK ItK AsK RdK eI eE ACT ACA eL ACG fE lec
end Go.Proofs.YtbgehdndimlgkaaGreat
