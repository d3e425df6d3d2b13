/- Lemmas for laws of the ledger. -/
import Derived.Test.YtbgehdndimlgkaaGreatS24
set_option linter.all false
namespace Go.Av
open Go
def AWS (P:Dv) (sz:Nat) (c:Code) (K:AK) (n:Nat) (env:Env) (h:aO) (dfs:cD):Prop:=AW P sz c K n env h dfs
section
variable {P:Dv} {sz n:Nat} {K:AK} {env:Env} {h:aO} {dfs:cD} {ops:Dq} {b:Bool} {c d e f:Code}
theorem kK (hx:AW P sz c K n env h dfs):AWS P sz c K n env h dfs:=hx
theorem vQ (k:Nat) (hx:AWS P sz (.seq (.region k ops b) c) K n env h dfs):AW P sz (.seq (.region k ops b) c) K n env h dfs:=hx
theorem vR (k:Nat) (hx:AWS P sz (.seq (.seq (.region k ops b) c) d) K n env h dfs):AW P sz (.seq (.seq (.region k ops b) c) d) K n env h dfs:=hx
end
theorem rC {l:Dr}:([]:aO).map (fun p=>(sg l p.1,p.2.mp (sg l)))=[]:=rfl
theorem cE {l:Dr} {i j:Nat} {o o':AObj} {h1 hm:aO} (hi:sg l i=j) (ho:o.mp (sg l)=o') (ht:h1.map (fun p=>(sg l p.1,p.2.mp (sg l)))=hm):((i,o)::h1).map (fun p=>(sg l p.1,p.2.mp (sg l)))=(j,o')::hm:=by
 rw [AH,ht]
 simp only [hi,ho]
def fM:Code->Code
 | .seq _ b=>b
 | c=>c
def eQ3:Code->Code
 | .seq a _=>a
 | c=>c
end Go.Av
