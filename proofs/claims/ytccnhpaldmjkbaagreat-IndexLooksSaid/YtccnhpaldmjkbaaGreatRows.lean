/-
  No cell of these rows narrows 'for every input' (looked for: loops, veiled, ifaces, maps, wideKeys, modest, calm, conditions, laid).
  DERIVED. THE GIVEN ROWS OF THIS SEAT. 6 by the template 'for every input the law returns true; each argument reads behind the call as it read before'; 0 by the template 'total and deterministic' (their statements: YtccnhpaldmjkbaaGreatTotals.lean).
  GIVEN WITH THE SEED: the statements are not yours to turn. If you find one false, say at which input.
  Laid BY PROGRAM, IN A SANDBOX (cutbox-rows.mjs): the forced cells as the released guide's own fill.sh prints them over the translation 62b116c9cec2a483… (all of the seat's roots in one cut). By AI agents, Wed Nov 11 2026. No macro, syntax, notation, axiom, sorry.
-/
import Derived.Test.YtccnhpaldmjkbaaGreatChecked
import GoSem.Claim
import GoSem.ClaimJoined
import GoSem.ClaimMapViews
import Derived.JoinedTies
import Derived.KernelRfl
namespace Go.Proofs.YtccnhpaldmjkbaaGreat
/- THE CELL 'sum', in the pinned program and in every row, IS THE sha256 OF THE DUMP (.gsa) THAT YtccnhpaldmjkbaaGreatProg.lean LOADS. Nothing in Lean hashes anything: it is a label: what it is worth is what the hold of that sum in a sandbox is worth. -/
noncomputable def Tryz.pinned : Pinned := { name := "ytccnhpaldmjkbaagreat", sum := "62b116c9cec2a483e48adbfe8f734adba5666a670f7f8e1e7526aa76ad167068", checked := Tryz.checked }
namespace Rows
def none {H : Type} : Left H := { results := [], args := [] }

/-- 'erasurelaw13.IndexChange': WHATEVER THE INPUT: true; the input reads as it did. -/
def indexChangeSpec : ChangeSpec := { name := "indexChange", fn := fun _ => fun
  | [d1, d2] => { results := [.lit (.bool true)], args := [d1, d2] }
  | _ => none }
def indexChangeRow : OpenClaim := { program := "ytccnhpaldmjkbaagreat", sum := "62b116c9cec2a483e48adbfe8f734adba5666a670f7f8e1e7526aa76ad167068", func := "erasure/erasurelaw13.IndexChange", spec := "indexChange", inPlace := ["internal/bytealg.abigen_runtime_cmpstring"], unfollowed := true, recurses := true, apart := false }
def IndexChangeSaid : Prop := indexChangeRow.holds Tryz.pinned (OpenSpec.ofChange indexChangeSpec)

/-- ITS FALSE NEIGHBOUR: 'it returns false'. Refute it at one input. -/
def indexChangeWrong : ChangeSpec := { name := "indexChange", fn := fun _ => fun
  | [d1, d2] => { results := [.lit (.bool false)], args := [d1, d2] }
  | _ => none }
def IndexChangeWrongFalsely : Prop := indexChangeRow.holds Tryz.pinned (OpenSpec.ofChange indexChangeWrong)

/-- 'erasurelaw12.SketchValid': WHATEVER THE INPUT: true; the input reads as it did. -/
def sketchValidSpec : ChangeSpec := { name := "sketchValid", fn := fun _ => fun
  | [d1, d2, d3] => { results := [.lit (.bool true)], args := [d1, d2, d3] }
  | _ => none }
def sketchValidRow : OpenClaim := { program := "ytccnhpaldmjkbaagreat", sum := "62b116c9cec2a483e48adbfe8f734adba5666a670f7f8e1e7526aa76ad167068", func := "erasure/erasurelaw12.SketchValid", spec := "sketchValid", inPlace := ["internal/bytealg.abigen_runtime_cmpstring"], unfollowed := true, recurses := true, named := ["math/bits.divideError", "math/bits.overflowError"], apart := false }
def SketchValidSaid : Prop := sketchValidRow.holds Tryz.pinned (OpenSpec.ofChange sketchValidSpec)

/-- ITS FALSE NEIGHBOUR: 'it returns false'. Refute it at one input. -/
def sketchValidWrong : ChangeSpec := { name := "sketchValid", fn := fun _ => fun
  | [d1, d2, d3] => { results := [.lit (.bool false)], args := [d1, d2, d3] }
  | _ => none }
def SketchValidWrongFalsely : Prop := sketchValidRow.holds Tryz.pinned (OpenSpec.ofChange sketchValidWrong)

/-- 'erasurelaw12.SketchBuild': WHATEVER THE INPUT: true; the input reads as it did. -/
def sketchBuildSpec : ChangeSpec := { name := "sketchBuild", fn := fun _ => fun
  | [d] => { results := [.lit (.bool true)], args := [d] }
  | _ => none }
def sketchBuildRow : OpenClaim := { program := "ytccnhpaldmjkbaagreat", sum := "62b116c9cec2a483e48adbfe8f734adba5666a670f7f8e1e7526aa76ad167068", func := "erasure/erasurelaw12.SketchBuild", spec := "sketchBuild", inPlace := ["internal/bytealg.abigen_runtime_cmpstring"], unfollowed := true, recurses := true, named := ["math/bits.divideError", "math/bits.overflowError"], apart := false }
def SketchBuildSaid : Prop := sketchBuildRow.holds Tryz.pinned (OpenSpec.ofChange sketchBuildSpec)

/-- ITS FALSE NEIGHBOUR: 'it returns false'. Refute it at one input. -/
def sketchBuildWrong : ChangeSpec := { name := "sketchBuild", fn := fun _ => fun
  | [d] => { results := [.lit (.bool false)], args := [d] }
  | _ => none }
def SketchBuildWrongFalsely : Prop := sketchBuildRow.holds Tryz.pinned (OpenSpec.ofChange sketchBuildWrong)

/-- 'erasurelaw12.SketchChanges': WHATEVER THE INPUT: true; the input reads as it did. -/
def sketchChangesSpec : ChangeSpec := { name := "sketchChanges", fn := fun _ => fun
  | [d1, d2, d3] => { results := [.lit (.bool true)], args := [d1, d2, d3] }
  | _ => none }
def sketchChangesRow : OpenClaim := { program := "ytccnhpaldmjkbaagreat", sum := "62b116c9cec2a483e48adbfe8f734adba5666a670f7f8e1e7526aa76ad167068", func := "erasure/erasurelaw12.SketchChanges", spec := "sketchChanges", inPlace := ["internal/bytealg.abigen_runtime_cmpstring"], unfollowed := true, recurses := true, named := ["math/bits.divideError", "math/bits.overflowError"], apart := false }
def SketchChangesSaid : Prop := sketchChangesRow.holds Tryz.pinned (OpenSpec.ofChange sketchChangesSpec)

/-- ITS FALSE NEIGHBOUR: 'it returns false'. Refute it at one input. -/
def sketchChangesWrong : ChangeSpec := { name := "sketchChanges", fn := fun _ => fun
  | [d1, d2, d3] => { results := [.lit (.bool false)], args := [d1, d2, d3] }
  | _ => none }
def SketchChangesWrongFalsely : Prop := sketchChangesRow.holds Tryz.pinned (OpenSpec.ofChange sketchChangesWrong)

/-- 'erasurelaw13.IndexLooks': WHATEVER THE INPUT: true; the input reads as it did. -/
def indexLooksSpec : ChangeSpec := { name := "indexLooks", fn := fun _ => fun
  | [d1, d2, d3] => { results := [.lit (.bool true)], args := [d1, d2, d3] }
  | _ => none }
def indexLooksRow : OpenClaim := { program := "ytccnhpaldmjkbaagreat", sum := "62b116c9cec2a483e48adbfe8f734adba5666a670f7f8e1e7526aa76ad167068", func := "erasure/erasurelaw13.IndexLooks", spec := "indexLooks", inPlace := ["internal/bytealg.abigen_runtime_cmpstring"], unfollowed := true, recurses := true, apart := false }
def IndexLooksSaid : Prop := indexLooksRow.holds Tryz.pinned (OpenSpec.ofChange indexLooksSpec)

/-- ITS FALSE NEIGHBOUR: 'it returns false'. Refute it at one input. -/
def indexLooksWrong : ChangeSpec := { name := "indexLooks", fn := fun _ => fun
  | [d1, d2, d3] => { results := [.lit (.bool false)], args := [d1, d2, d3] }
  | _ => none }
def IndexLooksWrongFalsely : Prop := indexLooksRow.holds Tryz.pinned (OpenSpec.ofChange indexLooksWrong)

/-- 'erasurelaw13.IndexForgets': WHATEVER THE INPUT: true; the input reads as it did. -/
def indexForgetsSpec : ChangeSpec := { name := "indexForgets", fn := fun _ => fun
  | [d] => { results := [.lit (.bool true)], args := [d] }
  | _ => none }
def indexForgetsRow : OpenClaim := { program := "ytccnhpaldmjkbaagreat", sum := "62b116c9cec2a483e48adbfe8f734adba5666a670f7f8e1e7526aa76ad167068", func := "erasure/erasurelaw13.IndexForgets", spec := "indexForgets", inPlace := ["internal/bytealg.abigen_runtime_cmpstring"], unfollowed := true, recurses := true, apart := false }
def IndexForgetsSaid : Prop := indexForgetsRow.holds Tryz.pinned (OpenSpec.ofChange indexForgetsSpec)

/-- ITS FALSE NEIGHBOUR: 'it returns false'. Refute it at one input. -/
def indexForgetsWrong : ChangeSpec := { name := "indexForgets", fn := fun _ => fun
  | [d] => { results := [.lit (.bool false)], args := [d] }
  | _ => none }
def IndexForgetsWrongFalsely : Prop := indexForgetsRow.holds Tryz.pinned (OpenSpec.ofChange indexForgetsWrong)

/- THE SECOND FORM. 'bulk': how many values and letters a reading holds, each counted each time it is reached (what is shared counts as often as it is met; a slice's spare places count too). A statement '..UptoSaid' is the law's where the arguments, and the package variables that the reading takes, are together of bulk at most 1048576: NARROWER than '..Said'. Prove '..Said' where nothing that the law and all that it calls make is longer than what came in: it says more and counts as full. Else prove '..UptoSaid'. A law counts once. -/
mutual
def uptoBulk {H : Type} : DataW H → Nat
  | .lit (.string bytes) => bytes.length + 1
  | .lit _ => 1
  | .nil => 1
  | .ptr d => uptoBulk d + 1
  | .slice elems spare => uptoBulkAll elems + uptoBulkAll spare + 1
  | .agg parts => uptoBulkAll parts + 1
  | .iface _ d => uptoBulk d + 1
  | .map entries => uptoBulkEntries entries + 1
  | .held _ => 1
def uptoBulkAll {H : Type} : List (DataW H) → Nat
  | [] => 0
  | d :: r => uptoBulk d + uptoBulkAll r
def uptoBulkEntries {H : Type} : List (Lit × DataW H) → Nat
  | [] => 0
  | x :: r => uptoBulkEntry x + uptoBulkEntries r
def uptoBulkEntry {H : Type} : Lit × DataW H → Nat
  | (.string bytes, d) => bytes.length + uptoBulk d + 1
  | (_, d) => uptoBulk d + 1
 end
def uptoSmall : (H : Type) → List (DataW H) → Bool := fun _ ds => decide (uptoBulkAll ds ≤ 1048576)
def OpenSpec.upto (s : _root_.Go.ChangeSpec) : _root_.Go.OpenSpec := { _root_.Go.OpenSpec.ofChange s with cond := some uptoSmall }

/-- 'erasurelaw13.IndexChange', WHERE WHAT IT READS IS OF BULK AT MOST 1048576: true; the input reads as it did. -/
def indexChangeUptoRow : OpenClaim := { program := "ytccnhpaldmjkbaagreat", sum := "62b116c9cec2a483e48adbfe8f734adba5666a670f7f8e1e7526aa76ad167068", func := "erasure/erasurelaw13.IndexChange", spec := "indexChange", inPlace := ["internal/bytealg.abigen_runtime_cmpstring"], unfollowed := true, recurses := true, apart := false, narrowed := true }
def IndexChangeUptoSaid : Prop := indexChangeUptoRow.holds Tryz.pinned (OpenSpec.upto indexChangeSpec)

/-- 'erasurelaw12.SketchValid', WHERE WHAT IT READS IS OF BULK AT MOST 1048576: true; the input reads as it did. -/
def sketchValidUptoRow : OpenClaim := { program := "ytccnhpaldmjkbaagreat", sum := "62b116c9cec2a483e48adbfe8f734adba5666a670f7f8e1e7526aa76ad167068", func := "erasure/erasurelaw12.SketchValid", spec := "sketchValid", inPlace := ["internal/bytealg.abigen_runtime_cmpstring"], unfollowed := true, recurses := true, named := ["math/bits.divideError", "math/bits.overflowError"], apart := false, narrowed := true }
def SketchValidUptoSaid : Prop := sketchValidUptoRow.holds Tryz.pinned (OpenSpec.upto sketchValidSpec)

/-- 'erasurelaw12.SketchBuild', WHERE WHAT IT READS IS OF BULK AT MOST 1048576: true; the input reads as it did. -/
def sketchBuildUptoRow : OpenClaim := { program := "ytccnhpaldmjkbaagreat", sum := "62b116c9cec2a483e48adbfe8f734adba5666a670f7f8e1e7526aa76ad167068", func := "erasure/erasurelaw12.SketchBuild", spec := "sketchBuild", inPlace := ["internal/bytealg.abigen_runtime_cmpstring"], unfollowed := true, recurses := true, named := ["math/bits.divideError", "math/bits.overflowError"], apart := false, narrowed := true }
def SketchBuildUptoSaid : Prop := sketchBuildUptoRow.holds Tryz.pinned (OpenSpec.upto sketchBuildSpec)

/-- 'erasurelaw12.SketchChanges', WHERE WHAT IT READS IS OF BULK AT MOST 1048576: true; the input reads as it did. -/
def sketchChangesUptoRow : OpenClaim := { program := "ytccnhpaldmjkbaagreat", sum := "62b116c9cec2a483e48adbfe8f734adba5666a670f7f8e1e7526aa76ad167068", func := "erasure/erasurelaw12.SketchChanges", spec := "sketchChanges", inPlace := ["internal/bytealg.abigen_runtime_cmpstring"], unfollowed := true, recurses := true, named := ["math/bits.divideError", "math/bits.overflowError"], apart := false, narrowed := true }
def SketchChangesUptoSaid : Prop := sketchChangesUptoRow.holds Tryz.pinned (OpenSpec.upto sketchChangesSpec)

/-- 'erasurelaw13.IndexLooks', WHERE WHAT IT READS IS OF BULK AT MOST 1048576: true; the input reads as it did. -/
def indexLooksUptoRow : OpenClaim := { program := "ytccnhpaldmjkbaagreat", sum := "62b116c9cec2a483e48adbfe8f734adba5666a670f7f8e1e7526aa76ad167068", func := "erasure/erasurelaw13.IndexLooks", spec := "indexLooks", inPlace := ["internal/bytealg.abigen_runtime_cmpstring"], unfollowed := true, recurses := true, apart := false, narrowed := true }
def IndexLooksUptoSaid : Prop := indexLooksUptoRow.holds Tryz.pinned (OpenSpec.upto indexLooksSpec)

/-- 'erasurelaw13.IndexForgets', WHERE WHAT IT READS IS OF BULK AT MOST 1048576: true; the input reads as it did. -/
def indexForgetsUptoRow : OpenClaim := { program := "ytccnhpaldmjkbaagreat", sum := "62b116c9cec2a483e48adbfe8f734adba5666a670f7f8e1e7526aa76ad167068", func := "erasure/erasurelaw13.IndexForgets", spec := "indexForgets", inPlace := ["internal/bytealg.abigen_runtime_cmpstring"], unfollowed := true, recurses := true, apart := false, narrowed := true }
def IndexForgetsUptoSaid : Prop := indexForgetsUptoRow.holds Tryz.pinned (OpenSpec.upto indexForgetsSpec)

end Rows
end Go.Proofs.YtccnhpaldmjkbaaGreat
