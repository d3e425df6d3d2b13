/-
  No cell of these rows narrows 'for every input' (looked for: loops, veiled, ifaces, maps, wideKeys, modest, calm, conditions, laid).
  DERIVED. THE GIVEN ROWS OF THIS SEAT. 6 by the template 'for every input the law returns true; each argument reads behind the call as it read before'; 0 by the template 'total and deterministic' (their statements: YtddlgdppfeeplaaTotals.lean).
  GIVEN WITH THE SEED: the statements are not yours to turn. If you find one false, say at which input.
  Laid BY PROGRAM, IN A SANDBOX (cutbox-rows.mjs): the forced cells as the released guide's own fill.sh prints them over the translation 36257c551dd11883… (all of the seat's roots in one cut). By AI agents, Wed Nov 11 2026. No macro, syntax, notation, axiom, sorry.
-/
import Derived.Test.YtddlgdppfeeplaaChecked
import GoSem.Claim
import GoSem.ClaimJoined
import GoSem.ClaimMapViews
import Derived.JoinedTies
import Derived.KernelRfl
namespace Go.Proofs.Ytddlgdppfeeplaa
/- THE CELL 'sum', in the pinned program and in every row, IS THE sha256 OF THE DUMP (.gsa) THAT YtddlgdppfeeplaaProg.lean LOADS. Nothing in Lean hashes anything: it is a label: what it is worth is what the hold of that sum in a sandbox is worth. -/
noncomputable def Try.pinned : Pinned := { name := "ytddlgdppfeeplaa", sum := "36257c551dd118834ea430cf906a091e1b91f9a67e01b1e61a0388188fadad66", checked := Try.checked }
namespace Rows
def none {H : Type} : Left H := { results := [], args := [] }

/-- 'erasurelaw32.DiskLimit': WHATEVER THE INPUT: true; the input reads as it did. -/
def diskLimitSpec : ChangeSpec := { name := "diskLimit", fn := fun _ => fun
  | [d1, d2] => { results := [.lit (.bool true)], args := [d1, d2] }
  | _ => none }
def diskLimitRow : OpenClaim := { program := "ytddlgdppfeeplaa", sum := "36257c551dd118834ea430cf906a091e1b91f9a67e01b1e61a0388188fadad66", func := "erasure/erasurelaw32.DiskLimit", spec := "diskLimit", unfollowed := true, recurses := true, apart := false }
def DiskLimitSaid : Prop := diskLimitRow.holds Try.pinned (OpenSpec.ofChange diskLimitSpec)

/-- ITS FALSE NEIGHBOUR: 'it returns false'. Refute it at one input. -/
def diskLimitWrong : ChangeSpec := { name := "diskLimit", fn := fun _ => fun
  | [d1, d2] => { results := [.lit (.bool false)], args := [d1, d2] }
  | _ => none }
def DiskLimitWrongFalsely : Prop := diskLimitRow.holds Try.pinned (OpenSpec.ofChange diskLimitWrong)

/-- 'erasurelaw32.DiskWhole': WHATEVER THE INPUT: true; the input reads as it did. -/
def diskWholeSpec : ChangeSpec := { name := "diskWhole", fn := fun _ => fun
  | [d1, d2, d3] => { results := [.lit (.bool true)], args := [d1, d2, d3] }
  | _ => none }
def diskWholeRow : OpenClaim := { program := "ytddlgdppfeeplaa", sum := "36257c551dd118834ea430cf906a091e1b91f9a67e01b1e61a0388188fadad66", func := "erasure/erasurelaw32.DiskWhole", spec := "diskWhole", unfollowed := true, recurses := true, apart := false }
def DiskWholeSaid : Prop := diskWholeRow.holds Try.pinned (OpenSpec.ofChange diskWholeSpec)

/-- ITS FALSE NEIGHBOUR: 'it returns false'. Refute it at one input. -/
def diskWholeWrong : ChangeSpec := { name := "diskWhole", fn := fun _ => fun
  | [d1, d2, d3] => { results := [.lit (.bool false)], args := [d1, d2, d3] }
  | _ => none }
def DiskWholeWrongFalsely : Prop := diskWholeRow.holds Try.pinned (OpenSpec.ofChange diskWholeWrong)

/-- 'erasurelaw32.DiskPlays': WHATEVER THE INPUT: true; the input reads as it did. -/
def diskPlaysSpec : ChangeSpec := { name := "diskPlays", fn := fun _ => fun
  | [d] => { results := [.lit (.bool true)], args := [d] }
  | _ => none }
def diskPlaysRow : OpenClaim := { program := "ytddlgdppfeeplaa", sum := "36257c551dd118834ea430cf906a091e1b91f9a67e01b1e61a0388188fadad66", func := "erasure/erasurelaw32.DiskPlays", spec := "diskPlays", unfollowed := true, recurses := true, apart := false }
def DiskPlaysSaid : Prop := diskPlaysRow.holds Try.pinned (OpenSpec.ofChange diskPlaysSpec)

/-- ITS FALSE NEIGHBOUR: 'it returns false'. Refute it at one input. -/
def diskPlaysWrong : ChangeSpec := { name := "diskPlays", fn := fun _ => fun
  | [d] => { results := [.lit (.bool false)], args := [d] }
  | _ => none }
def DiskPlaysWrongFalsely : Prop := diskPlaysRow.holds Try.pinned (OpenSpec.ofChange diskPlaysWrong)

/-- 'erasurelaw32.DiskRaw': WHATEVER THE INPUT: true; the input reads as it did. -/
def diskRawSpec : ChangeSpec := { name := "diskRaw", fn := fun _ => fun
  | [d1, d2] => { results := [.lit (.bool true)], args := [d1, d2] }
  | _ => none }
def diskRawRow : OpenClaim := { program := "ytddlgdppfeeplaa", sum := "36257c551dd118834ea430cf906a091e1b91f9a67e01b1e61a0388188fadad66", func := "erasure/erasurelaw32.DiskRaw", spec := "diskRaw", unfollowed := true, recurses := true, apart := false }
def DiskRawSaid : Prop := diskRawRow.holds Try.pinned (OpenSpec.ofChange diskRawSpec)

/-- ITS FALSE NEIGHBOUR: 'it returns false'. Refute it at one input. -/
def diskRawWrong : ChangeSpec := { name := "diskRaw", fn := fun _ => fun
  | [d1, d2] => { results := [.lit (.bool false)], args := [d1, d2] }
  | _ => none }
def DiskRawWrongFalsely : Prop := diskRawRow.holds Try.pinned (OpenSpec.ofChange diskRawWrong)

/-- 'erasurelaw32.DiskKeeps': WHATEVER THE INPUT: true; the input reads as it did. -/
def diskKeepsSpec : ChangeSpec := { name := "diskKeeps", fn := fun _ => fun
  | [d1, d2] => { results := [.lit (.bool true)], args := [d1, d2] }
  | _ => none }
def diskKeepsRow : OpenClaim := { program := "ytddlgdppfeeplaa", sum := "36257c551dd118834ea430cf906a091e1b91f9a67e01b1e61a0388188fadad66", func := "erasure/erasurelaw32.DiskKeeps", spec := "diskKeeps", unfollowed := true, recurses := true, apart := false }
def DiskKeepsSaid : Prop := diskKeepsRow.holds Try.pinned (OpenSpec.ofChange diskKeepsSpec)

/-- ITS FALSE NEIGHBOUR: 'it returns false'. Refute it at one input. -/
def diskKeepsWrong : ChangeSpec := { name := "diskKeeps", fn := fun _ => fun
  | [d1, d2] => { results := [.lit (.bool false)], args := [d1, d2] }
  | _ => none }
def DiskKeepsWrongFalsely : Prop := diskKeepsRow.holds Try.pinned (OpenSpec.ofChange diskKeepsWrong)

/-- 'erasurelaw32.DiskDown': WHATEVER THE INPUT: true; the input reads as it did. -/
def diskDownSpec : ChangeSpec := { name := "diskDown", fn := fun _ => fun
  | [d1, d2, d3] => { results := [.lit (.bool true)], args := [d1, d2, d3] }
  | _ => none }
def diskDownRow : OpenClaim := { program := "ytddlgdppfeeplaa", sum := "36257c551dd118834ea430cf906a091e1b91f9a67e01b1e61a0388188fadad66", func := "erasure/erasurelaw32.DiskDown", spec := "diskDown", unfollowed := true, recurses := true, apart := false }
def DiskDownSaid : Prop := diskDownRow.holds Try.pinned (OpenSpec.ofChange diskDownSpec)

/-- ITS FALSE NEIGHBOUR: 'it returns false'. Refute it at one input. -/
def diskDownWrong : ChangeSpec := { name := "diskDown", fn := fun _ => fun
  | [d1, d2, d3] => { results := [.lit (.bool false)], args := [d1, d2, d3] }
  | _ => none }
def DiskDownWrongFalsely : Prop := diskDownRow.holds Try.pinned (OpenSpec.ofChange diskDownWrong)

/- THE SECOND FORM. 'bulk': how many values and letters a reading holds, each counted each time it is reached (what is shared counts as often as it is met; a slice's spare places count too). A statement '..UptoSaid' is the law's where the arguments, and the package variables that the reading takes, are together of bulk at most 1048576: NARROWER than '..Said'. Prove '..Said' where nothing that the law and all that it calls make is longer than what came in: it says more and counts as full. Else prove '..UptoSaid'. A law counts once. -/
mutual
def uptoBulk {H : Type} : DataW H → Nat
  | .lit (.string bytes) => bytes.length + 1
  | .lit _ => 1
  | .nil => 1
  | .ptr d => uptoBulk d + 1
  | .slice elems spare => uptoBulkAll elems + uptoBulkAll spare + 1
  | .agg parts => uptoBulkAll parts + 1
  | .iface _ d => uptoBulk d + 1
  | .map entries => uptoBulkEntries entries + 1
  | .held _ => 1
def uptoBulkAll {H : Type} : List (DataW H) → Nat
  | [] => 0
  | d :: r => uptoBulk d + uptoBulkAll r
def uptoBulkEntries {H : Type} : List (Lit × DataW H) → Nat
  | [] => 0
  | x :: r => uptoBulkEntry x + uptoBulkEntries r
def uptoBulkEntry {H : Type} : Lit × DataW H → Nat
  | (.string bytes, d) => bytes.length + uptoBulk d + 1
  | (_, d) => uptoBulk d + 1
 end
def uptoSmall : (H : Type) → List (DataW H) → Bool := fun _ ds => decide (uptoBulkAll ds ≤ 1048576)
def OpenSpec.upto (s : _root_.Go.ChangeSpec) : _root_.Go.OpenSpec := { _root_.Go.OpenSpec.ofChange s with cond := some uptoSmall }

/-- 'erasurelaw32.DiskLimit', WHERE WHAT IT READS IS OF BULK AT MOST 1048576: true; the input reads as it did. -/
def diskLimitUptoRow : OpenClaim := { program := "ytddlgdppfeeplaa", sum := "36257c551dd118834ea430cf906a091e1b91f9a67e01b1e61a0388188fadad66", func := "erasure/erasurelaw32.DiskLimit", spec := "diskLimit", unfollowed := true, recurses := true, apart := false, narrowed := true }
def DiskLimitUptoSaid : Prop := diskLimitUptoRow.holds Try.pinned (OpenSpec.upto diskLimitSpec)

/-- 'erasurelaw32.DiskWhole', WHERE WHAT IT READS IS OF BULK AT MOST 1048576: true; the input reads as it did. -/
def diskWholeUptoRow : OpenClaim := { program := "ytddlgdppfeeplaa", sum := "36257c551dd118834ea430cf906a091e1b91f9a67e01b1e61a0388188fadad66", func := "erasure/erasurelaw32.DiskWhole", spec := "diskWhole", unfollowed := true, recurses := true, apart := false, narrowed := true }
def DiskWholeUptoSaid : Prop := diskWholeUptoRow.holds Try.pinned (OpenSpec.upto diskWholeSpec)

/-- 'erasurelaw32.DiskPlays', WHERE WHAT IT READS IS OF BULK AT MOST 1048576: true; the input reads as it did. -/
def diskPlaysUptoRow : OpenClaim := { program := "ytddlgdppfeeplaa", sum := "36257c551dd118834ea430cf906a091e1b91f9a67e01b1e61a0388188fadad66", func := "erasure/erasurelaw32.DiskPlays", spec := "diskPlays", unfollowed := true, recurses := true, apart := false, narrowed := true }
def DiskPlaysUptoSaid : Prop := diskPlaysUptoRow.holds Try.pinned (OpenSpec.upto diskPlaysSpec)

/-- 'erasurelaw32.DiskRaw', WHERE WHAT IT READS IS OF BULK AT MOST 1048576: true; the input reads as it did. -/
def diskRawUptoRow : OpenClaim := { program := "ytddlgdppfeeplaa", sum := "36257c551dd118834ea430cf906a091e1b91f9a67e01b1e61a0388188fadad66", func := "erasure/erasurelaw32.DiskRaw", spec := "diskRaw", unfollowed := true, recurses := true, apart := false, narrowed := true }
def DiskRawUptoSaid : Prop := diskRawUptoRow.holds Try.pinned (OpenSpec.upto diskRawSpec)

/-- 'erasurelaw32.DiskKeeps', WHERE WHAT IT READS IS OF BULK AT MOST 1048576: true; the input reads as it did. -/
def diskKeepsUptoRow : OpenClaim := { program := "ytddlgdppfeeplaa", sum := "36257c551dd118834ea430cf906a091e1b91f9a67e01b1e61a0388188fadad66", func := "erasure/erasurelaw32.DiskKeeps", spec := "diskKeeps", unfollowed := true, recurses := true, apart := false, narrowed := true }
def DiskKeepsUptoSaid : Prop := diskKeepsUptoRow.holds Try.pinned (OpenSpec.upto diskKeepsSpec)

/-- 'erasurelaw32.DiskDown', WHERE WHAT IT READS IS OF BULK AT MOST 1048576: true; the input reads as it did. -/
def diskDownUptoRow : OpenClaim := { program := "ytddlgdppfeeplaa", sum := "36257c551dd118834ea430cf906a091e1b91f9a67e01b1e61a0388188fadad66", func := "erasure/erasurelaw32.DiskDown", spec := "diskDown", unfollowed := true, recurses := true, apart := false, narrowed := true }
def DiskDownUptoSaid : Prop := diskDownUptoRow.holds Try.pinned (OpenSpec.upto diskDownSpec)

end Rows
end Go.Proofs.Ytddlgdppfeeplaa
