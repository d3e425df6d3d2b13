/-
  Lemmas for laws of the ledger; no statement of a law.
-/
import Derived.Test.YtbgehdndimlgkaaGreatQ24
set_option linter.unusedVariables false
namespace Go.Av
open Go
def AWS (P:Program) (sz:Nat) (c:Code) (K:AK) (n:Nat) (env:Env) (h:aO) (dfs:bZ):Prop:=AW P sz c K n env h dfs
section
variable {P:Program} {sz n:Nat} {K:AK} {env:Env} {h:aO} {dfs:bZ} {ops:Array Oper} {b:Bool} {c d e f:Code}
theorem rU (hx:AW P sz c K n env h dfs):AWS P sz c K n env h dfs:=hx
theorem aX2 (k:Nat) (hx:AWS P sz (.seq (.region k ops b) c) K n env h dfs):AW P sz (.seq (.region k ops b) c) K n env h dfs:=hx
theorem aX3 (k:Nat) (hx:AWS P sz (.seq (.seq (.region k ops b) c) d) K n env h dfs):AW P sz (.seq (.seq (.region k ops b) c) d) K n env h dfs:=hx
end
theorem pS {l:List Nat}:([]:aO).map (fun p=>(sg l p.1,p.2.mp (sg l)))=[]:=rfl
theorem cA {l:List Nat} {i j:Nat} {o o':AObj} {h1 hm:aO} (hi:sg l i=j) (ho:o.mp (sg l)=o') (ht:h1.map (fun p=>(sg l p.1,p.2.mp (sg l)))=hm):((i,o)::h1).map (fun p=>(sg l p.1,p.2.mp (sg l)))=(j,o')::hm:=by
 rw [List.map_cons,ht]
 simp only [hi,ho]
def jY:Code→Code
 | .seq _ b=>b
 | c=>c
def eJ9:Code→Code
 | .seq a _=>a
 | c=>c
end Go.Av
