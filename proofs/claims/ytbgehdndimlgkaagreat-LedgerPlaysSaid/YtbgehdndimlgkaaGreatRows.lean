/-
  No cell of these rows narrows 'for every input' (looked for: loops, veiled, ifaces, maps, wideKeys, modest, calm, conditions, laid).
  DERIVED. THE GIVEN ROWS OF THIS SEAT. 9 by the template 'for every input the law returns true; each argument reads behind the call as it read before'; 0 by the template 'total and deterministic' (their statements: YtbgehdndimlgkaaGreatTotals.lean).
  GIVEN WITH THE SEED: the statements are not yours to turn. If you find one false, say at which input.
  Laid BY PROGRAM, IN A SANDBOX (cutbox-rows.mjs): the forced cells as the released guide's own fill.sh prints them over the translation ea6af6679497869e… (all of the seat's roots in one cut). By AI agents, Wed Nov 11 2026. No macro, syntax, notation, axiom, sorry.
-/
import Derived.Test.YtbgehdndimlgkaaGreatChecked
import GoSem.Claim
import GoSem.ClaimJoined
import GoSem.ClaimMapViews
import Derived.JoinedTies
import Derived.KernelRfl
namespace Go.Proofs.YtbgehdndimlgkaaGreat
/- THE CELL 'sum', in the pinned program and in every row, IS THE sha256 OF THE DUMP (.gsa) THAT YtbgehdndimlgkaaGreatProg.lean LOADS. Nothing in Lean hashes anything: it is a label: what it is worth is what the hold of that sum in a sandbox is worth. -/
noncomputable def Tryz.pinned : Pinned := { name := "ytbgehdndimlgkaagreat", sum := "ea6af6679497869e8d5b9a02dafdcb89fcb0dd6190215154a56b73fb3ae843c6", checked := Tryz.checked }
namespace Rows
def none {H : Type} : Left H := { results := [], args := [] }

/-- 'erasurelaw33.LedgerParses': WHATEVER THE INPUT: true; the input reads as it did. -/
def ledgerParsesSpec : ChangeSpec := { name := "ledgerParses", fn := fun _ => fun
  | [d1, d2, d3] => { results := [.lit (.bool true)], args := [d1, d2, d3] }
  | _ => none }
def ledgerParsesRow : OpenClaim := { program := "ytbgehdndimlgkaagreat", sum := "ea6af6679497869e8d5b9a02dafdcb89fcb0dd6190215154a56b73fb3ae843c6", func := "erasure/erasurelaw33.LedgerParses", spec := "ledgerParses", unfollowed := true, recurses := true, plainKeys := false, apart := false }
def LedgerParsesSaid : Prop := ledgerParsesRow.holds Tryz.pinned (OpenSpec.ofChange ledgerParsesSpec)

/-- ITS FALSE NEIGHBOUR: 'it returns false'. Refute it at one input. -/
def ledgerParsesWrong : ChangeSpec := { name := "ledgerParses", fn := fun _ => fun
  | [d1, d2, d3] => { results := [.lit (.bool false)], args := [d1, d2, d3] }
  | _ => none }
def LedgerParsesWrongFalsely : Prop := ledgerParsesRow.holds Tryz.pinned (OpenSpec.ofChange ledgerParsesWrong)

/-- 'erasurelaw33.LedgerCuts': WHATEVER THE INPUT: true; the input reads as it did. -/
def ledgerCutsSpec : ChangeSpec := { name := "ledgerCuts", fn := fun _ => fun
  | [d1, d2] => { results := [.lit (.bool true)], args := [d1, d2] }
  | _ => none }
def ledgerCutsRow : OpenClaim := { program := "ytbgehdndimlgkaagreat", sum := "ea6af6679497869e8d5b9a02dafdcb89fcb0dd6190215154a56b73fb3ae843c6", func := "erasure/erasurelaw33.LedgerCuts", spec := "ledgerCuts", unfollowed := true, recurses := true, plainKeys := false, apart := false }
def LedgerCutsSaid : Prop := ledgerCutsRow.holds Tryz.pinned (OpenSpec.ofChange ledgerCutsSpec)

/-- ITS FALSE NEIGHBOUR: 'it returns false'. Refute it at one input. -/
def ledgerCutsWrong : ChangeSpec := { name := "ledgerCuts", fn := fun _ => fun
  | [d1, d2] => { results := [.lit (.bool false)], args := [d1, d2] }
  | _ => none }
def LedgerCutsWrongFalsely : Prop := ledgerCutsRow.holds Tryz.pinned (OpenSpec.ofChange ledgerCutsWrong)

/-- 'erasurelaw33.LedgerReopens': WHATEVER THE INPUT: true; the input reads as it did. -/
def ledgerReopensSpec : ChangeSpec := { name := "ledgerReopens", fn := fun _ => fun
  | [d1, d2] => { results := [.lit (.bool true)], args := [d1, d2] }
  | _ => none }
def ledgerReopensRow : OpenClaim := { program := "ytbgehdndimlgkaagreat", sum := "ea6af6679497869e8d5b9a02dafdcb89fcb0dd6190215154a56b73fb3ae843c6", func := "erasure/erasurelaw33.LedgerReopens", spec := "ledgerReopens", unfollowed := true, recurses := true, plainKeys := false, apart := false }
def LedgerReopensSaid : Prop := ledgerReopensRow.holds Tryz.pinned (OpenSpec.ofChange ledgerReopensSpec)

/-- ITS FALSE NEIGHBOUR: 'it returns false'. Refute it at one input. -/
def ledgerReopensWrong : ChangeSpec := { name := "ledgerReopens", fn := fun _ => fun
  | [d1, d2] => { results := [.lit (.bool false)], args := [d1, d2] }
  | _ => none }
def LedgerReopensWrongFalsely : Prop := ledgerReopensRow.holds Tryz.pinned (OpenSpec.ofChange ledgerReopensWrong)

/-- 'erasurelaw33.LedgerGrows': WHATEVER THE INPUT: true; the input reads as it did. -/
def ledgerGrowsSpec : ChangeSpec := { name := "ledgerGrows", fn := fun _ => fun
  | [d1, d2] => { results := [.lit (.bool true)], args := [d1, d2] }
  | _ => none }
def ledgerGrowsRow : OpenClaim := { program := "ytbgehdndimlgkaagreat", sum := "ea6af6679497869e8d5b9a02dafdcb89fcb0dd6190215154a56b73fb3ae843c6", func := "erasure/erasurelaw33.LedgerGrows", spec := "ledgerGrows", unfollowed := true, recurses := true, plainKeys := false, apart := false }
def LedgerGrowsSaid : Prop := ledgerGrowsRow.holds Tryz.pinned (OpenSpec.ofChange ledgerGrowsSpec)

/-- ITS FALSE NEIGHBOUR: 'it returns false'. Refute it at one input. -/
def ledgerGrowsWrong : ChangeSpec := { name := "ledgerGrows", fn := fun _ => fun
  | [d1, d2] => { results := [.lit (.bool false)], args := [d1, d2] }
  | _ => none }
def LedgerGrowsWrongFalsely : Prop := ledgerGrowsRow.holds Tryz.pinned (OpenSpec.ofChange ledgerGrowsWrong)

/-- 'erasurelaw33.LedgerPlays': WHATEVER THE INPUT: true; the input reads as it did. -/
def ledgerPlaysSpec : ChangeSpec := { name := "ledgerPlays", fn := fun _ => fun
  | [d] => { results := [.lit (.bool true)], args := [d] }
  | _ => none }
def ledgerPlaysRow : OpenClaim := { program := "ytbgehdndimlgkaagreat", sum := "ea6af6679497869e8d5b9a02dafdcb89fcb0dd6190215154a56b73fb3ae843c6", func := "erasure/erasurelaw33.LedgerPlays", spec := "ledgerPlays", unfollowed := true, recurses := true, plainKeys := false, apart := false }
def LedgerPlaysSaid : Prop := ledgerPlaysRow.holds Tryz.pinned (OpenSpec.ofChange ledgerPlaysSpec)

/-- ITS FALSE NEIGHBOUR: 'it returns false'. Refute it at one input. -/
def ledgerPlaysWrong : ChangeSpec := { name := "ledgerPlays", fn := fun _ => fun
  | [d] => { results := [.lit (.bool false)], args := [d] }
  | _ => none }
def LedgerPlaysWrongFalsely : Prop := ledgerPlaysRow.holds Tryz.pinned (OpenSpec.ofChange ledgerPlaysWrong)

/-- 'erasurelaw33.LedgerDurable': WHATEVER THE INPUT: true; the input reads as it did. -/
def ledgerDurableSpec : ChangeSpec := { name := "ledgerDurable", fn := fun _ => fun
  | [d1, d2, d3] => { results := [.lit (.bool true)], args := [d1, d2, d3] }
  | _ => none }
def ledgerDurableRow : OpenClaim := { program := "ytbgehdndimlgkaagreat", sum := "ea6af6679497869e8d5b9a02dafdcb89fcb0dd6190215154a56b73fb3ae843c6", func := "erasure/erasurelaw33.LedgerDurable", spec := "ledgerDurable", unfollowed := true, recurses := true, plainKeys := false, apart := false }
def LedgerDurableSaid : Prop := ledgerDurableRow.holds Tryz.pinned (OpenSpec.ofChange ledgerDurableSpec)

/-- ITS FALSE NEIGHBOUR: 'it returns false'. Refute it at one input. -/
def ledgerDurableWrong : ChangeSpec := { name := "ledgerDurable", fn := fun _ => fun
  | [d1, d2, d3] => { results := [.lit (.bool false)], args := [d1, d2, d3] }
  | _ => none }
def LedgerDurableWrongFalsely : Prop := ledgerDurableRow.holds Tryz.pinned (OpenSpec.ofChange ledgerDurableWrong)

/-- 'erasurelaw33.LedgerOrder': WHATEVER THE INPUT: true; the input reads as it did. -/
def ledgerOrderSpec : ChangeSpec := { name := "ledgerOrder", fn := fun _ => fun
  | [d] => { results := [.lit (.bool true)], args := [d] }
  | _ => none }
def ledgerOrderRow : OpenClaim := { program := "ytbgehdndimlgkaagreat", sum := "ea6af6679497869e8d5b9a02dafdcb89fcb0dd6190215154a56b73fb3ae843c6", func := "erasure/erasurelaw33.LedgerOrder", spec := "ledgerOrder", unfollowed := true, recurses := true, plainKeys := false, apart := false }
def LedgerOrderSaid : Prop := ledgerOrderRow.holds Tryz.pinned (OpenSpec.ofChange ledgerOrderSpec)

/-- ITS FALSE NEIGHBOUR: 'it returns false'. Refute it at one input. -/
def ledgerOrderWrong : ChangeSpec := { name := "ledgerOrder", fn := fun _ => fun
  | [d] => { results := [.lit (.bool false)], args := [d] }
  | _ => none }
def LedgerOrderWrongFalsely : Prop := ledgerOrderRow.holds Tryz.pinned (OpenSpec.ofChange ledgerOrderWrong)

/-- 'erasurelaw33.LedgerPlans': WHATEVER THE INPUT: true; the input reads as it did. -/
def ledgerPlansSpec : ChangeSpec := { name := "ledgerPlans", fn := fun _ => fun
  | [d] => { results := [.lit (.bool true)], args := [d] }
  | _ => none }
def ledgerPlansRow : OpenClaim := { program := "ytbgehdndimlgkaagreat", sum := "ea6af6679497869e8d5b9a02dafdcb89fcb0dd6190215154a56b73fb3ae843c6", func := "erasure/erasurelaw33.LedgerPlans", spec := "ledgerPlans", unfollowed := true, recurses := true, plainKeys := false, apart := false }
def LedgerPlansSaid : Prop := ledgerPlansRow.holds Tryz.pinned (OpenSpec.ofChange ledgerPlansSpec)

/-- ITS FALSE NEIGHBOUR: 'it returns false'. Refute it at one input. -/
def ledgerPlansWrong : ChangeSpec := { name := "ledgerPlans", fn := fun _ => fun
  | [d] => { results := [.lit (.bool false)], args := [d] }
  | _ => none }
def LedgerPlansWrongFalsely : Prop := ledgerPlansRow.holds Tryz.pinned (OpenSpec.ofChange ledgerPlansWrong)

/-- 'erasurelaw33.LedgerFolds': WHATEVER THE INPUT: true; the input reads as it did. -/
def ledgerFoldsSpec : ChangeSpec := { name := "ledgerFolds", fn := fun _ => fun
  | [d1, d2] => { results := [.lit (.bool true)], args := [d1, d2] }
  | _ => none }
def ledgerFoldsRow : OpenClaim := { program := "ytbgehdndimlgkaagreat", sum := "ea6af6679497869e8d5b9a02dafdcb89fcb0dd6190215154a56b73fb3ae843c6", func := "erasure/erasurelaw33.LedgerFolds", spec := "ledgerFolds", unfollowed := true, recurses := true, plainKeys := false, apart := false }
def LedgerFoldsSaid : Prop := ledgerFoldsRow.holds Tryz.pinned (OpenSpec.ofChange ledgerFoldsSpec)

/-- ITS FALSE NEIGHBOUR: 'it returns false'. Refute it at one input. -/
def ledgerFoldsWrong : ChangeSpec := { name := "ledgerFolds", fn := fun _ => fun
  | [d1, d2] => { results := [.lit (.bool false)], args := [d1, d2] }
  | _ => none }
def LedgerFoldsWrongFalsely : Prop := ledgerFoldsRow.holds Tryz.pinned (OpenSpec.ofChange ledgerFoldsWrong)

/- THE SECOND FORM. 'bulk': how many values and letters a reading holds, each counted each time it is reached (what is shared counts as often as it is met; a slice's spare places count too). A statement '..UptoSaid' is the law's where the arguments, and the package variables that the reading takes, are together of bulk at most 1048576: NARROWER than '..Said'. Prove '..Said' where nothing that the law and all that it calls make is longer than what came in: it says more and counts as full. Else prove '..UptoSaid'. A law counts once. -/
mutual
def uptoBulk {H : Type} : DataW H → Nat
  | .lit (.string bytes) => bytes.length + 1
  | .lit _ => 1
  | .nil => 1
  | .ptr d => uptoBulk d + 1
  | .slice elems spare => uptoBulkAll elems + uptoBulkAll spare + 1
  | .agg parts => uptoBulkAll parts + 1
  | .iface _ d => uptoBulk d + 1
  | .map entries => uptoBulkEntries entries + 1
  | .held _ => 1
def uptoBulkAll {H : Type} : List (DataW H) → Nat
  | [] => 0
  | d :: r => uptoBulk d + uptoBulkAll r
def uptoBulkEntries {H : Type} : List (Lit × DataW H) → Nat
  | [] => 0
  | x :: r => uptoBulkEntry x + uptoBulkEntries r
def uptoBulkEntry {H : Type} : Lit × DataW H → Nat
  | (.string bytes, d) => bytes.length + uptoBulk d + 1
  | (_, d) => uptoBulk d + 1
 end
def uptoSmall : (H : Type) → List (DataW H) → Bool := fun _ ds => decide (uptoBulkAll ds ≤ 1048576)
def OpenSpec.upto (s : _root_.Go.ChangeSpec) : _root_.Go.OpenSpec := { _root_.Go.OpenSpec.ofChange s with cond := some uptoSmall }

/-- 'erasurelaw33.LedgerParses', WHERE WHAT IT READS IS OF BULK AT MOST 1048576: true; the input reads as it did. -/
def ledgerParsesUptoRow : OpenClaim := { program := "ytbgehdndimlgkaagreat", sum := "ea6af6679497869e8d5b9a02dafdcb89fcb0dd6190215154a56b73fb3ae843c6", func := "erasure/erasurelaw33.LedgerParses", spec := "ledgerParses", unfollowed := true, recurses := true, plainKeys := false, apart := false, narrowed := true }
def LedgerParsesUptoSaid : Prop := ledgerParsesUptoRow.holds Tryz.pinned (OpenSpec.upto ledgerParsesSpec)

/-- 'erasurelaw33.LedgerCuts', WHERE WHAT IT READS IS OF BULK AT MOST 1048576: true; the input reads as it did. -/
def ledgerCutsUptoRow : OpenClaim := { program := "ytbgehdndimlgkaagreat", sum := "ea6af6679497869e8d5b9a02dafdcb89fcb0dd6190215154a56b73fb3ae843c6", func := "erasure/erasurelaw33.LedgerCuts", spec := "ledgerCuts", unfollowed := true, recurses := true, plainKeys := false, apart := false, narrowed := true }
def LedgerCutsUptoSaid : Prop := ledgerCutsUptoRow.holds Tryz.pinned (OpenSpec.upto ledgerCutsSpec)

/-- 'erasurelaw33.LedgerReopens', WHERE WHAT IT READS IS OF BULK AT MOST 1048576: true; the input reads as it did. -/
def ledgerReopensUptoRow : OpenClaim := { program := "ytbgehdndimlgkaagreat", sum := "ea6af6679497869e8d5b9a02dafdcb89fcb0dd6190215154a56b73fb3ae843c6", func := "erasure/erasurelaw33.LedgerReopens", spec := "ledgerReopens", unfollowed := true, recurses := true, plainKeys := false, apart := false, narrowed := true }
def LedgerReopensUptoSaid : Prop := ledgerReopensUptoRow.holds Tryz.pinned (OpenSpec.upto ledgerReopensSpec)

/-- 'erasurelaw33.LedgerGrows', WHERE WHAT IT READS IS OF BULK AT MOST 1048576: true; the input reads as it did. -/
def ledgerGrowsUptoRow : OpenClaim := { program := "ytbgehdndimlgkaagreat", sum := "ea6af6679497869e8d5b9a02dafdcb89fcb0dd6190215154a56b73fb3ae843c6", func := "erasure/erasurelaw33.LedgerGrows", spec := "ledgerGrows", unfollowed := true, recurses := true, plainKeys := false, apart := false, narrowed := true }
def LedgerGrowsUptoSaid : Prop := ledgerGrowsUptoRow.holds Tryz.pinned (OpenSpec.upto ledgerGrowsSpec)

/-- 'erasurelaw33.LedgerPlays', WHERE WHAT IT READS IS OF BULK AT MOST 1048576: true; the input reads as it did. -/
def ledgerPlaysUptoRow : OpenClaim := { program := "ytbgehdndimlgkaagreat", sum := "ea6af6679497869e8d5b9a02dafdcb89fcb0dd6190215154a56b73fb3ae843c6", func := "erasure/erasurelaw33.LedgerPlays", spec := "ledgerPlays", unfollowed := true, recurses := true, plainKeys := false, apart := false, narrowed := true }
def LedgerPlaysUptoSaid : Prop := ledgerPlaysUptoRow.holds Tryz.pinned (OpenSpec.upto ledgerPlaysSpec)

/-- 'erasurelaw33.LedgerDurable', WHERE WHAT IT READS IS OF BULK AT MOST 1048576: true; the input reads as it did. -/
def ledgerDurableUptoRow : OpenClaim := { program := "ytbgehdndimlgkaagreat", sum := "ea6af6679497869e8d5b9a02dafdcb89fcb0dd6190215154a56b73fb3ae843c6", func := "erasure/erasurelaw33.LedgerDurable", spec := "ledgerDurable", unfollowed := true, recurses := true, plainKeys := false, apart := false, narrowed := true }
def LedgerDurableUptoSaid : Prop := ledgerDurableUptoRow.holds Tryz.pinned (OpenSpec.upto ledgerDurableSpec)

/-- 'erasurelaw33.LedgerOrder', WHERE WHAT IT READS IS OF BULK AT MOST 1048576: true; the input reads as it did. -/
def ledgerOrderUptoRow : OpenClaim := { program := "ytbgehdndimlgkaagreat", sum := "ea6af6679497869e8d5b9a02dafdcb89fcb0dd6190215154a56b73fb3ae843c6", func := "erasure/erasurelaw33.LedgerOrder", spec := "ledgerOrder", unfollowed := true, recurses := true, plainKeys := false, apart := false, narrowed := true }
def LedgerOrderUptoSaid : Prop := ledgerOrderUptoRow.holds Tryz.pinned (OpenSpec.upto ledgerOrderSpec)

/-- 'erasurelaw33.LedgerPlans', WHERE WHAT IT READS IS OF BULK AT MOST 1048576: true; the input reads as it did. -/
def ledgerPlansUptoRow : OpenClaim := { program := "ytbgehdndimlgkaagreat", sum := "ea6af6679497869e8d5b9a02dafdcb89fcb0dd6190215154a56b73fb3ae843c6", func := "erasure/erasurelaw33.LedgerPlans", spec := "ledgerPlans", unfollowed := true, recurses := true, plainKeys := false, apart := false, narrowed := true }
def LedgerPlansUptoSaid : Prop := ledgerPlansUptoRow.holds Tryz.pinned (OpenSpec.upto ledgerPlansSpec)

/-- 'erasurelaw33.LedgerFolds', WHERE WHAT IT READS IS OF BULK AT MOST 1048576: true; the input reads as it did. -/
def ledgerFoldsUptoRow : OpenClaim := { program := "ytbgehdndimlgkaagreat", sum := "ea6af6679497869e8d5b9a02dafdcb89fcb0dd6190215154a56b73fb3ae843c6", func := "erasure/erasurelaw33.LedgerFolds", spec := "ledgerFolds", unfollowed := true, recurses := true, plainKeys := false, apart := false, narrowed := true }
def LedgerFoldsUptoSaid : Prop := ledgerFoldsUptoRow.holds Tryz.pinned (OpenSpec.upto ledgerFoldsSpec)

end Rows
end Go.Proofs.YtbgehdndimlgkaaGreat
