import Derived.Test.YtbgehdndimlgkaaGreatQ24
set_option linter.unusedVariables false
namespace Go.Av
open Go
def AWS (P:Program) (sz:Nat) (c:Code) (K:AK) (n:Nat) (env:Env) (h:aO) (dfs:bX):Prop:=AW P sz c K n env h dfs
section
variable {P:Program} {sz n:Nat} {K:AK} {env:Env} {h:aO} {dfs:bX} {ops:Array Oper} {b:Bool} {c d e f:Code}
theorem jU (hx:AW P sz c K n env h dfs):AWS P sz c K n env h dfs:=hx
theorem tV (k:Nat) (hx:AWS P sz (.seq (.region k ops b) c) K n env h dfs):AW P sz (.seq (.region k ops b) c) K n env h dfs:=hx
theorem tW (k:Nat) (hx:AWS P sz (.seq (.seq (.region k ops b) c) d) K n env h dfs):AW P sz (.seq (.seq (.region k ops b) c) d) K n env h dfs:=hx
end
theorem kJ {l:List Nat}:([]:aO).map (fun p=>(sg l p.1,p.2.mp (sg l)))=[]:=rfl
theorem bD {l:List Nat} {i j:Nat} {o o':AObj} {h1 hm:aO} (hi:sg l i=j) (ho:o.mp (sg l)=o') (ht:h1.map (fun p=>(sg l p.1,p.2.mp (sg l)))=hm):((i,o)::h1).map (fun p=>(sg l p.1,p.2.mp (sg l)))=(j,o')::hm:=by
 rw [List.map_cons,ht]
 simp only [hi,ho]
def fS:Code→Code
 | .seq _ b=>b
 | c=>c
def eF7:Code→Code
 | .seq a _=>a
 | c=>c
end Go.Av
