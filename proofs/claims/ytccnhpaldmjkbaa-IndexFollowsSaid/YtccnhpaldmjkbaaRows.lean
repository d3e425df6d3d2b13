/-
  No cell of these rows narrows 'for every input' (looked for: loops, veiled, ifaces, maps, wideKeys, modest, calm, conditions, laid).
  DERIVED. THE GIVEN ROWS OF THIS SEAT. 11 by the template 'for every input the law returns true; each argument reads behind the call as it read before'; 0 by the template 'total and deterministic' (their statements: YtccnhpaldmjkbaaTotals.lean).
  GIVEN WITH THE SEED: the statements are not yours to turn. If you find one false, say at which input.
  Laid BY PROGRAM, IN A SANDBOX (cutbox-rows.mjs): the forced cells as the released guide's own fill.sh prints them over the translation 326d462b76ebdc16… (all of the seat's roots in one cut). By AI agents, Wed Nov 11 2026. No macro, syntax, notation, axiom, sorry.
-/
import Derived.Test.YtccnhpaldmjkbaaChecked
import GoSem.Claim
import GoSem.ClaimJoined
import GoSem.ClaimMapViews
import Derived.JoinedTies
import Derived.KernelRfl
namespace Go.Proofs.Ytccnhpaldmjkbaa
/- THE CELL 'sum', in the pinned program and in every row, IS THE sha256 OF THE DUMP (.gsa) THAT YtccnhpaldmjkbaaProg.lean LOADS. Nothing in Lean hashes anything: it is a label: what it is worth is what the hold of that sum in a sandbox is worth. -/
noncomputable def Try.pinned : Pinned := { name := "ytccnhpaldmjkbaa", sum := "326d462b76ebdc1630de58533c9abcb6600f72f5fb20e9a2a505ebcdae0d6777", checked := Try.checked }
namespace Rows
def none {H : Type} : Left H := { results := [], args := [] }

/-- 'erasurelaw13.IndexWords': WHATEVER THE INPUT: true; the input reads as it did. -/
def indexWordsSpec : ChangeSpec := { name := "indexWords", fn := fun _ => fun
  | [d] => { results := [.lit (.bool true)], args := [d] }
  | _ => none }
def indexWordsRow : OpenClaim := { program := "ytccnhpaldmjkbaa", sum := "326d462b76ebdc1630de58533c9abcb6600f72f5fb20e9a2a505ebcdae0d6777", func := "erasure/erasurelaw13.IndexWords", spec := "indexWords", inPlace := ["internal/bytealg.abigen_runtime_cmpstring"], unfollowed := true, recurses := true, apart := false }
def IndexWordsSaid : Prop := indexWordsRow.holds Try.pinned (OpenSpec.ofChange indexWordsSpec)

/-- ITS FALSE NEIGHBOUR: 'it returns false'. Refute it at one input. -/
def indexWordsWrong : ChangeSpec := { name := "indexWords", fn := fun _ => fun
  | [d] => { results := [.lit (.bool false)], args := [d] }
  | _ => none }
def IndexWordsWrongFalsely : Prop := indexWordsRow.holds Try.pinned (OpenSpec.ofChange indexWordsWrong)

/-- 'erasurelaw13.IndexBuild': WHATEVER THE INPUT: true; the input reads as it did. -/
def indexBuildSpec : ChangeSpec := { name := "indexBuild", fn := fun _ => fun
  | [d1, d2] => { results := [.lit (.bool true)], args := [d1, d2] }
  | _ => none }
def indexBuildRow : OpenClaim := { program := "ytccnhpaldmjkbaa", sum := "326d462b76ebdc1630de58533c9abcb6600f72f5fb20e9a2a505ebcdae0d6777", func := "erasure/erasurelaw13.IndexBuild", spec := "indexBuild", inPlace := ["internal/bytealg.abigen_runtime_cmpstring"], unfollowed := true, recurses := true, apart := false }
def IndexBuildSaid : Prop := indexBuildRow.holds Try.pinned (OpenSpec.ofChange indexBuildSpec)

/-- ITS FALSE NEIGHBOUR: 'it returns false'. Refute it at one input. -/
def indexBuildWrong : ChangeSpec := { name := "indexBuild", fn := fun _ => fun
  | [d1, d2] => { results := [.lit (.bool false)], args := [d1, d2] }
  | _ => none }
def IndexBuildWrongFalsely : Prop := indexBuildRow.holds Try.pinned (OpenSpec.ofChange indexBuildWrong)

/-- 'erasurelaw13.IndexFinds': WHATEVER THE INPUT: true; the input reads as it did. -/
def indexFindsSpec : ChangeSpec := { name := "indexFinds", fn := fun _ => fun
  | [d] => { results := [.lit (.bool true)], args := [d] }
  | _ => none }
def indexFindsRow : OpenClaim := { program := "ytccnhpaldmjkbaa", sum := "326d462b76ebdc1630de58533c9abcb6600f72f5fb20e9a2a505ebcdae0d6777", func := "erasure/erasurelaw13.IndexFinds", spec := "indexFinds", inPlace := ["internal/bytealg.abigen_runtime_cmpstring"], unfollowed := true, recurses := true, apart := false }
def IndexFindsSaid : Prop := indexFindsRow.holds Try.pinned (OpenSpec.ofChange indexFindsSpec)

/-- ITS FALSE NEIGHBOUR: 'it returns false'. Refute it at one input. -/
def indexFindsWrong : ChangeSpec := { name := "indexFinds", fn := fun _ => fun
  | [d] => { results := [.lit (.bool false)], args := [d] }
  | _ => none }
def IndexFindsWrongFalsely : Prop := indexFindsRow.holds Try.pinned (OpenSpec.ofChange indexFindsWrong)

/-- 'erasurelaw13.IndexFollows': WHATEVER THE INPUT: true; the input reads as it did. -/
def indexFollowsSpec : ChangeSpec := { name := "indexFollows", fn := fun _ => fun
  | [d] => { results := [.lit (.bool true)], args := [d] }
  | _ => none }
def indexFollowsRow : OpenClaim := { program := "ytccnhpaldmjkbaa", sum := "326d462b76ebdc1630de58533c9abcb6600f72f5fb20e9a2a505ebcdae0d6777", func := "erasure/erasurelaw13.IndexFollows", spec := "indexFollows", inPlace := ["internal/bytealg.abigen_runtime_cmpstring"], unfollowed := true, recurses := true, apart := false }
def IndexFollowsSaid : Prop := indexFollowsRow.holds Try.pinned (OpenSpec.ofChange indexFollowsSpec)

/-- ITS FALSE NEIGHBOUR: 'it returns false'. Refute it at one input. -/
def indexFollowsWrong : ChangeSpec := { name := "indexFollows", fn := fun _ => fun
  | [d] => { results := [.lit (.bool false)], args := [d] }
  | _ => none }
def IndexFollowsWrongFalsely : Prop := indexFollowsRow.holds Try.pinned (OpenSpec.ofChange indexFollowsWrong)

/-- 'erasurelaw12.SketchHash': WHATEVER THE INPUT: true; the input reads as it did. -/
def sketchHashSpec : ChangeSpec := { name := "sketchHash", fn := fun _ => fun
  | [d1, d2] => { results := [.lit (.bool true)], args := [d1, d2] }
  | _ => none }
def sketchHashRow : OpenClaim := { program := "ytccnhpaldmjkbaa", sum := "326d462b76ebdc1630de58533c9abcb6600f72f5fb20e9a2a505ebcdae0d6777", func := "erasure/erasurelaw12.SketchHash", spec := "sketchHash", inPlace := ["internal/bytealg.abigen_runtime_cmpstring"], unfollowed := true, recurses := true, named := ["math/bits.divideError", "math/bits.overflowError"], apart := false }
def SketchHashSaid : Prop := sketchHashRow.holds Try.pinned (OpenSpec.ofChange sketchHashSpec)

/-- ITS FALSE NEIGHBOUR: 'it returns false'. Refute it at one input. -/
def sketchHashWrong : ChangeSpec := { name := "sketchHash", fn := fun _ => fun
  | [d1, d2] => { results := [.lit (.bool false)], args := [d1, d2] }
  | _ => none }
def SketchHashWrongFalsely : Prop := sketchHashRow.holds Try.pinned (OpenSpec.ofChange sketchHashWrong)

/-- 'erasurelaw12.SketchForgets': WHATEVER THE INPUT: true; the input reads as it did. -/
def sketchForgetsSpec : ChangeSpec := { name := "sketchForgets", fn := fun _ => fun
  | [d] => { results := [.lit (.bool true)], args := [d] }
  | _ => none }
def sketchForgetsRow : OpenClaim := { program := "ytccnhpaldmjkbaa", sum := "326d462b76ebdc1630de58533c9abcb6600f72f5fb20e9a2a505ebcdae0d6777", func := "erasure/erasurelaw12.SketchForgets", spec := "sketchForgets", inPlace := ["internal/bytealg.abigen_runtime_cmpstring"], unfollowed := true, recurses := true, named := ["math/bits.divideError", "math/bits.overflowError"], apart := false }
def SketchForgetsSaid : Prop := sketchForgetsRow.holds Try.pinned (OpenSpec.ofChange sketchForgetsSpec)

/-- ITS FALSE NEIGHBOUR: 'it returns false'. Refute it at one input. -/
def sketchForgetsWrong : ChangeSpec := { name := "sketchForgets", fn := fun _ => fun
  | [d] => { results := [.lit (.bool false)], args := [d] }
  | _ => none }
def SketchForgetsWrongFalsely : Prop := sketchForgetsRow.holds Try.pinned (OpenSpec.ofChange sketchForgetsWrong)

/-- 'erasurelaw12.SketchBounds': WHATEVER THE INPUT: true; the input reads as it did. -/
def sketchBoundsSpec : ChangeSpec := { name := "sketchBounds", fn := fun _ => fun
  | [d] => { results := [.lit (.bool true)], args := [d] }
  | _ => none }
def sketchBoundsRow : OpenClaim := { program := "ytccnhpaldmjkbaa", sum := "326d462b76ebdc1630de58533c9abcb6600f72f5fb20e9a2a505ebcdae0d6777", func := "erasure/erasurelaw12.SketchBounds", spec := "sketchBounds", inPlace := ["internal/bytealg.abigen_runtime_cmpstring"], unfollowed := true, recurses := true, named := ["math/bits.divideError", "math/bits.overflowError"], apart := false }
def SketchBoundsSaid : Prop := sketchBoundsRow.holds Try.pinned (OpenSpec.ofChange sketchBoundsSpec)

/-- ITS FALSE NEIGHBOUR: 'it returns false'. Refute it at one input. -/
def sketchBoundsWrong : ChangeSpec := { name := "sketchBounds", fn := fun _ => fun
  | [d] => { results := [.lit (.bool false)], args := [d] }
  | _ => none }
def SketchBoundsWrongFalsely : Prop := sketchBoundsRow.holds Try.pinned (OpenSpec.ofChange sketchBoundsWrong)

/-- 'erasurelaw12.SketchSupport': WHATEVER THE INPUT: true; the input reads as it did. -/
def sketchSupportSpec : ChangeSpec := { name := "sketchSupport", fn := fun _ => fun
  | [d] => { results := [.lit (.bool true)], args := [d] }
  | _ => none }
def sketchSupportRow : OpenClaim := { program := "ytccnhpaldmjkbaa", sum := "326d462b76ebdc1630de58533c9abcb6600f72f5fb20e9a2a505ebcdae0d6777", func := "erasure/erasurelaw12.SketchSupport", spec := "sketchSupport", inPlace := ["internal/bytealg.abigen_runtime_cmpstring"], unfollowed := true, recurses := true, named := ["math/bits.divideError", "math/bits.overflowError"], apart := false }
def SketchSupportSaid : Prop := sketchSupportRow.holds Try.pinned (OpenSpec.ofChange sketchSupportSpec)

/-- ITS FALSE NEIGHBOUR: 'it returns false'. Refute it at one input. -/
def sketchSupportWrong : ChangeSpec := { name := "sketchSupport", fn := fun _ => fun
  | [d] => { results := [.lit (.bool false)], args := [d] }
  | _ => none }
def SketchSupportWrongFalsely : Prop := sketchSupportRow.holds Try.pinned (OpenSpec.ofChange sketchSupportWrong)

/-- 'erasurelaw12.SketchOrder': WHATEVER THE INPUT: true; the input reads as it did. -/
def sketchOrderSpec : ChangeSpec := { name := "sketchOrder", fn := fun _ => fun
  | [d] => { results := [.lit (.bool true)], args := [d] }
  | _ => none }
def sketchOrderRow : OpenClaim := { program := "ytccnhpaldmjkbaa", sum := "326d462b76ebdc1630de58533c9abcb6600f72f5fb20e9a2a505ebcdae0d6777", func := "erasure/erasurelaw12.SketchOrder", spec := "sketchOrder", inPlace := ["internal/bytealg.abigen_runtime_cmpstring"], unfollowed := true, recurses := true, named := ["math/bits.divideError", "math/bits.overflowError"], apart := false }
def SketchOrderSaid : Prop := sketchOrderRow.holds Try.pinned (OpenSpec.ofChange sketchOrderSpec)

/-- ITS FALSE NEIGHBOUR: 'it returns false'. Refute it at one input. -/
def sketchOrderWrong : ChangeSpec := { name := "sketchOrder", fn := fun _ => fun
  | [d] => { results := [.lit (.bool false)], args := [d] }
  | _ => none }
def SketchOrderWrongFalsely : Prop := sketchOrderRow.holds Try.pinned (OpenSpec.ofChange sketchOrderWrong)

/-- 'erasurelaw12.SketchMerge': WHATEVER THE INPUT: true; the input reads as it did. -/
def sketchMergeSpec : ChangeSpec := { name := "sketchMerge", fn := fun _ => fun
  | [d] => { results := [.lit (.bool true)], args := [d] }
  | _ => none }
def sketchMergeRow : OpenClaim := { program := "ytccnhpaldmjkbaa", sum := "326d462b76ebdc1630de58533c9abcb6600f72f5fb20e9a2a505ebcdae0d6777", func := "erasure/erasurelaw12.SketchMerge", spec := "sketchMerge", inPlace := ["internal/bytealg.abigen_runtime_cmpstring"], unfollowed := true, recurses := true, named := ["math/bits.divideError", "math/bits.overflowError"], apart := false }
def SketchMergeSaid : Prop := sketchMergeRow.holds Try.pinned (OpenSpec.ofChange sketchMergeSpec)

/-- ITS FALSE NEIGHBOUR: 'it returns false'. Refute it at one input. -/
def sketchMergeWrong : ChangeSpec := { name := "sketchMerge", fn := fun _ => fun
  | [d] => { results := [.lit (.bool false)], args := [d] }
  | _ => none }
def SketchMergeWrongFalsely : Prop := sketchMergeRow.holds Try.pinned (OpenSpec.ofChange sketchMergeWrong)

/-- 'erasurelaw13.IndexAll': WHATEVER THE INPUT: true; the input reads as it did. -/
def indexAllSpec : ChangeSpec := { name := "indexAll", fn := fun _ => fun
  | [d] => { results := [.lit (.bool true)], args := [d] }
  | _ => none }
def indexAllRow : OpenClaim := { program := "ytccnhpaldmjkbaa", sum := "326d462b76ebdc1630de58533c9abcb6600f72f5fb20e9a2a505ebcdae0d6777", func := "erasure/erasurelaw13.IndexAll", spec := "indexAll", inPlace := ["internal/bytealg.abigen_runtime_cmpstring"], unfollowed := true, recurses := true, apart := false }
def IndexAllSaid : Prop := indexAllRow.holds Try.pinned (OpenSpec.ofChange indexAllSpec)

/-- ITS FALSE NEIGHBOUR: 'it returns false'. Refute it at one input. -/
def indexAllWrong : ChangeSpec := { name := "indexAll", fn := fun _ => fun
  | [d] => { results := [.lit (.bool false)], args := [d] }
  | _ => none }
def IndexAllWrongFalsely : Prop := indexAllRow.holds Try.pinned (OpenSpec.ofChange indexAllWrong)

/- THE SECOND FORM. 'bulk': how many values and letters a reading holds, each counted each time it is reached (what is shared counts as often as it is met; a slice's spare places count too). A statement '..UptoSaid' is the law's where the arguments, and the package variables that the reading takes, are together of bulk at most 1048576: NARROWER than '..Said'. Prove '..Said' where nothing that the law and all that it calls make is longer than what came in: it says more and counts as full. Else prove '..UptoSaid'. A law counts once. -/
mutual
def uptoBulk {H : Type} : DataW H → Nat
  | .lit (.string bytes) => bytes.length + 1
  | .lit _ => 1
  | .nil => 1
  | .ptr d => uptoBulk d + 1
  | .slice elems spare => uptoBulkAll elems + uptoBulkAll spare + 1
  | .agg parts => uptoBulkAll parts + 1
  | .iface _ d => uptoBulk d + 1
  | .map entries => uptoBulkEntries entries + 1
  | .held _ => 1
def uptoBulkAll {H : Type} : List (DataW H) → Nat
  | [] => 0
  | d :: r => uptoBulk d + uptoBulkAll r
def uptoBulkEntries {H : Type} : List (Lit × DataW H) → Nat
  | [] => 0
  | x :: r => uptoBulkEntry x + uptoBulkEntries r
def uptoBulkEntry {H : Type} : Lit × DataW H → Nat
  | (.string bytes, d) => bytes.length + uptoBulk d + 1
  | (_, d) => uptoBulk d + 1
 end
def uptoSmall : (H : Type) → List (DataW H) → Bool := fun _ ds => decide (uptoBulkAll ds ≤ 1048576)
def OpenSpec.upto (s : _root_.Go.ChangeSpec) : _root_.Go.OpenSpec := { _root_.Go.OpenSpec.ofChange s with cond := some uptoSmall }

/-- 'erasurelaw13.IndexWords', WHERE WHAT IT READS IS OF BULK AT MOST 1048576: true; the input reads as it did. -/
def indexWordsUptoRow : OpenClaim := { program := "ytccnhpaldmjkbaa", sum := "326d462b76ebdc1630de58533c9abcb6600f72f5fb20e9a2a505ebcdae0d6777", func := "erasure/erasurelaw13.IndexWords", spec := "indexWords", inPlace := ["internal/bytealg.abigen_runtime_cmpstring"], unfollowed := true, recurses := true, apart := false, narrowed := true }
def IndexWordsUptoSaid : Prop := indexWordsUptoRow.holds Try.pinned (OpenSpec.upto indexWordsSpec)

/-- 'erasurelaw13.IndexBuild', WHERE WHAT IT READS IS OF BULK AT MOST 1048576: true; the input reads as it did. -/
def indexBuildUptoRow : OpenClaim := { program := "ytccnhpaldmjkbaa", sum := "326d462b76ebdc1630de58533c9abcb6600f72f5fb20e9a2a505ebcdae0d6777", func := "erasure/erasurelaw13.IndexBuild", spec := "indexBuild", inPlace := ["internal/bytealg.abigen_runtime_cmpstring"], unfollowed := true, recurses := true, apart := false, narrowed := true }
def IndexBuildUptoSaid : Prop := indexBuildUptoRow.holds Try.pinned (OpenSpec.upto indexBuildSpec)

/-- 'erasurelaw13.IndexFinds', WHERE WHAT IT READS IS OF BULK AT MOST 1048576: true; the input reads as it did. -/
def indexFindsUptoRow : OpenClaim := { program := "ytccnhpaldmjkbaa", sum := "326d462b76ebdc1630de58533c9abcb6600f72f5fb20e9a2a505ebcdae0d6777", func := "erasure/erasurelaw13.IndexFinds", spec := "indexFinds", inPlace := ["internal/bytealg.abigen_runtime_cmpstring"], unfollowed := true, recurses := true, apart := false, narrowed := true }
def IndexFindsUptoSaid : Prop := indexFindsUptoRow.holds Try.pinned (OpenSpec.upto indexFindsSpec)

/-- 'erasurelaw13.IndexFollows', WHERE WHAT IT READS IS OF BULK AT MOST 1048576: true; the input reads as it did. -/
def indexFollowsUptoRow : OpenClaim := { program := "ytccnhpaldmjkbaa", sum := "326d462b76ebdc1630de58533c9abcb6600f72f5fb20e9a2a505ebcdae0d6777", func := "erasure/erasurelaw13.IndexFollows", spec := "indexFollows", inPlace := ["internal/bytealg.abigen_runtime_cmpstring"], unfollowed := true, recurses := true, apart := false, narrowed := true }
def IndexFollowsUptoSaid : Prop := indexFollowsUptoRow.holds Try.pinned (OpenSpec.upto indexFollowsSpec)

/-- 'erasurelaw12.SketchHash', WHERE WHAT IT READS IS OF BULK AT MOST 1048576: true; the input reads as it did. -/
def sketchHashUptoRow : OpenClaim := { program := "ytccnhpaldmjkbaa", sum := "326d462b76ebdc1630de58533c9abcb6600f72f5fb20e9a2a505ebcdae0d6777", func := "erasure/erasurelaw12.SketchHash", spec := "sketchHash", inPlace := ["internal/bytealg.abigen_runtime_cmpstring"], unfollowed := true, recurses := true, named := ["math/bits.divideError", "math/bits.overflowError"], apart := false, narrowed := true }
def SketchHashUptoSaid : Prop := sketchHashUptoRow.holds Try.pinned (OpenSpec.upto sketchHashSpec)

/-- 'erasurelaw12.SketchForgets', WHERE WHAT IT READS IS OF BULK AT MOST 1048576: true; the input reads as it did. -/
def sketchForgetsUptoRow : OpenClaim := { program := "ytccnhpaldmjkbaa", sum := "326d462b76ebdc1630de58533c9abcb6600f72f5fb20e9a2a505ebcdae0d6777", func := "erasure/erasurelaw12.SketchForgets", spec := "sketchForgets", inPlace := ["internal/bytealg.abigen_runtime_cmpstring"], unfollowed := true, recurses := true, named := ["math/bits.divideError", "math/bits.overflowError"], apart := false, narrowed := true }
def SketchForgetsUptoSaid : Prop := sketchForgetsUptoRow.holds Try.pinned (OpenSpec.upto sketchForgetsSpec)

/-- 'erasurelaw12.SketchBounds', WHERE WHAT IT READS IS OF BULK AT MOST 1048576: true; the input reads as it did. -/
def sketchBoundsUptoRow : OpenClaim := { program := "ytccnhpaldmjkbaa", sum := "326d462b76ebdc1630de58533c9abcb6600f72f5fb20e9a2a505ebcdae0d6777", func := "erasure/erasurelaw12.SketchBounds", spec := "sketchBounds", inPlace := ["internal/bytealg.abigen_runtime_cmpstring"], unfollowed := true, recurses := true, named := ["math/bits.divideError", "math/bits.overflowError"], apart := false, narrowed := true }
def SketchBoundsUptoSaid : Prop := sketchBoundsUptoRow.holds Try.pinned (OpenSpec.upto sketchBoundsSpec)

/-- 'erasurelaw12.SketchSupport', WHERE WHAT IT READS IS OF BULK AT MOST 1048576: true; the input reads as it did. -/
def sketchSupportUptoRow : OpenClaim := { program := "ytccnhpaldmjkbaa", sum := "326d462b76ebdc1630de58533c9abcb6600f72f5fb20e9a2a505ebcdae0d6777", func := "erasure/erasurelaw12.SketchSupport", spec := "sketchSupport", inPlace := ["internal/bytealg.abigen_runtime_cmpstring"], unfollowed := true, recurses := true, named := ["math/bits.divideError", "math/bits.overflowError"], apart := false, narrowed := true }
def SketchSupportUptoSaid : Prop := sketchSupportUptoRow.holds Try.pinned (OpenSpec.upto sketchSupportSpec)

/-- 'erasurelaw12.SketchOrder', WHERE WHAT IT READS IS OF BULK AT MOST 1048576: true; the input reads as it did. -/
def sketchOrderUptoRow : OpenClaim := { program := "ytccnhpaldmjkbaa", sum := "326d462b76ebdc1630de58533c9abcb6600f72f5fb20e9a2a505ebcdae0d6777", func := "erasure/erasurelaw12.SketchOrder", spec := "sketchOrder", inPlace := ["internal/bytealg.abigen_runtime_cmpstring"], unfollowed := true, recurses := true, named := ["math/bits.divideError", "math/bits.overflowError"], apart := false, narrowed := true }
def SketchOrderUptoSaid : Prop := sketchOrderUptoRow.holds Try.pinned (OpenSpec.upto sketchOrderSpec)

/-- 'erasurelaw12.SketchMerge', WHERE WHAT IT READS IS OF BULK AT MOST 1048576: true; the input reads as it did. -/
def sketchMergeUptoRow : OpenClaim := { program := "ytccnhpaldmjkbaa", sum := "326d462b76ebdc1630de58533c9abcb6600f72f5fb20e9a2a505ebcdae0d6777", func := "erasure/erasurelaw12.SketchMerge", spec := "sketchMerge", inPlace := ["internal/bytealg.abigen_runtime_cmpstring"], unfollowed := true, recurses := true, named := ["math/bits.divideError", "math/bits.overflowError"], apart := false, narrowed := true }
def SketchMergeUptoSaid : Prop := sketchMergeUptoRow.holds Try.pinned (OpenSpec.upto sketchMergeSpec)

/-- 'erasurelaw13.IndexAll', WHERE WHAT IT READS IS OF BULK AT MOST 1048576: true; the input reads as it did. -/
def indexAllUptoRow : OpenClaim := { program := "ytccnhpaldmjkbaa", sum := "326d462b76ebdc1630de58533c9abcb6600f72f5fb20e9a2a505ebcdae0d6777", func := "erasure/erasurelaw13.IndexAll", spec := "indexAll", inPlace := ["internal/bytealg.abigen_runtime_cmpstring"], unfollowed := true, recurses := true, apart := false, narrowed := true }
def IndexAllUptoSaid : Prop := indexAllUptoRow.holds Try.pinned (OpenSpec.upto indexAllSpec)

end Rows
end Go.Proofs.Ytccnhpaldmjkbaa
