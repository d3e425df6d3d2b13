/- Lemmas for laws of the ledger. -/
import Derived.Test.YtbgehdndimlgkaaGreatR24
set_option linter.all false
namespace Go.Av
open Go
def AWS (P:Dl) (sz:Nat) (c:Code) (K:AK) (n:Nat) (env:Env) (h:aO) (dfs:cA):Prop:=AW P sz c K n env h dfs
section
variable {P:Dl} {sz n:Nat} {K:AK} {env:Env} {h:aO} {dfs:cA} {ops:Df} {b:Bool} {c d e f:Code}
theorem qT (hx:AW P sz c K n env h dfs):AWS P sz c K n env h dfs:=hx
theorem aV4 (k:Nat) (hx:AWS P sz (.seq (.region k ops b) c) K n env h dfs):AW P sz (.seq (.region k ops b) c) K n env h dfs:=hx
theorem aV5 (k:Nat) (hx:AWS P sz (.seq (.seq (.region k ops b) c) d) K n env h dfs):AW P sz (.seq (.seq (.region k ops b) c) d) K n env h dfs:=hx
end
theorem pB {l:Dg}:([]:aO).map (fun p=>(sg l p.1,p.2.mp (sg l)))=[]:=rfl
theorem cB {l:Dg} {i j:Nat} {o o':AObj} {h1 hm:aO} (hi:sg l i=j) (ho:o.mp (sg l)=o') (ht:h1.map (fun p=>(sg l p.1,p.2.mp (sg l)))=hm):((i,o)::h1).map (fun p=>(sg l p.1,p.2.mp (sg l)))=(j,o')::hm:=by
 rw [AF,ht]
 simp only [hi,ho]
def jR:Code->Code
 | .seq _ b=>b
 | c=>c
def eF4:Code->Code
 | .seq a _=>a
 | c=>c
end Go.Av
