/-
  Lemmas for laws of the ledger; no statement of a law.
-/
import Derived.Test.YtbgehdndimlgkaaGreatQ42
set_option linter.unusedVariables false
namespace Go.Proofs.YtbgehdndimlgkaaGreat
open Go Go.RowKit Go.Av
theorem qd_int {x:CV} (h:qI [x]):∃m,x=iv m∧aQ m:=by
 obtain ⟨m,h1,h2⟩:=lG h
 injection h1 with h1 _
 exact ⟨m,h1,h2⟩
theorem qd_bytes {x:CV} (h:qL 1 qU [x]):∃b:List UInt8,x = .sl 1 b.length (u8c b)∧b.length≤maxLen:=by
 obtain ⟨ls,h1,h2,h3⟩:=h
 obtain ⟨p,h4,h5⟩:=aZ5 ls h3
 exact ⟨p,by injection h1 with h1;rw [h1,h4,h5],by omega⟩
theorem eH4 {xs:List CV} (h:qA 2 1 qI xs):∃a b,xs=[iv a,iv b]∧aQ a∧aQ b:=by
 obtain ⟨ls,rfl,h2,h3⟩:=h
 match ls,h2,h3 with
 | [x,y],_,h3 =>
  obtain ⟨a,rfl,ha⟩:=lG (h3 x aP).1
  obtain ⟨b,rfl,hb⟩:=lG (h3 y aP).1
  exact ⟨a,b,rfl,ha,hb⟩
end Go.Proofs.YtbgehdndimlgkaaGreat
