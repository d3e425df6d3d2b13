/- Lemmas for laws of the ledger. -/
import Derived.Test.YtbgehdndimlgkaaGreatV24
set_option linter.all false
namespace Go.Av
open Go
def AWS (P:Di) (sz:Nat) (c:Code) (K:AK) (n:Nat) (env:Env) (h:aL) (dfs:bM):Prop:=AW P sz c K n env h dfs
section
variable {P:Di} {sz n:Nat} {K:AK} {env:Env} {h:aL} {dfs:bM} {ops:Dd} {b:Bool} {c d e f:Code}
theorem pT (hx:AW P sz c K n env h dfs):AWS P sz c K n env h dfs:=hx
theorem aO8 (k:Nat) (hx:AWS P sz (.seq (.region k ops b) c) K n env h dfs):AW P sz (.seq (.region k ops b) c) K n env h dfs:=hx
theorem aO9 (k:Nat) (hx:AWS P sz (.seq (.seq (.region k ops b) c) d) K n env h dfs):AW P sz (.seq (.seq (.region k ops b) c) d) K n env h dfs:=hx
end
theorem kX {l:De}:([]:aL).map (fun p=>(sg l p.1,p.2.mp (sg l)))=[]:=rfl
theorem bB {l:De} {i j:Nat} {o o':AObj} {h1 hm:aL} (hi:sg l i=j) (ho:o.mp (sg l)=o') (ht:h1.map (fun p=>(sg l p.1,p.2.mp (sg l)))=hm):((i,o)::h1).map (fun p=>(sg l p.1,p.2.mp (sg l)))=(j,o')::hm:=by
 rw [AD,ht]
 simp only [hi,ho]
def iZ:Code->Code
 | .seq _ b=>b
 | c=>c
def dU5:Code->Code
 | .seq a _=>a
 | c=>c
end Go.Av
