/- Lemmas for laws of the ledger. -/
import Derived.Test.YtbgehdndimlgkaaGreatP24
set_option linter.all false
namespace Go.Av
open Go
def AWS (P:D0) (sz:Nat) (c:Code) (K:AK) (n:Nat) (env:Env) (h:aQ) (dfs:cK):Prop:=AW P sz c K n env h dfs
section
variable {P:D0} {sz n:Nat} {K:AK} {env:Env} {h:aQ} {dfs:cK} {ops:Dv} {b:Bool} {c d e f:Code}
theorem kO (hx:AW P sz c K n env h dfs):AWS P sz c K n env h dfs:=hx
theorem uY (k:Nat) (hx:AWS P sz (.seq (.region k ops b) c) K n env h dfs):AW P sz (.seq (.region k ops b) c) K n env h dfs:=hx
theorem uZ (k:Nat) (hx:AWS P sz (.seq (.seq (.region k ops b) c) d) K n env h dfs):AW P sz (.seq (.seq (.region k ops b) c) d) K n env h dfs:=hx
end
theorem sE {l:Dw}:([]:aQ).map (fun p=>(sg l p.1,p.2.mp (sg l)))=[]:=rfl
theorem cL {l:Dw} {i j:Nat} {o o':AObj} {h1 hm:aQ} (hi:sg l i=j) (ho:o.mp (sg l)=o') (ht:h1.map (fun p=>(sg l p.1,p.2.mp (sg l)))=hm):((i,o)::h1).map (fun p=>(sg l p.1,p.2.mp (sg l)))=(j,o')::hm:=by
 rw [AI,ht]
 simp only [hi,ho]
def fW:Code->Code
 | .seq _ b=>b
 | c=>c
def eZ0:Code->Code
 | .seq a _=>a
 | c=>c
end Go.Av
