/-
  Joined texts: IQ I9. Lemmas; no statement of a law.
-/
import Derived.Test.YtccnhpaldmjkbaaGreatM21
set_option linter.unusedSimpArgs false
set_option linter.unusedVariables false
/-
  Postings added one by one, as the reference does it. Plain.
-/
namespace Go.Proofs.YtccnhpaldmjkbaaGreat
open Go Go.RowKit Go.Av
set_option maxRecDepth 100000
def idxP : List Po → Po → Nat
  | [], _ => 0
  | y :: l, x => if cmpP y x < 0 then idxP l x + 1 else 0
/-- The reference's list after some pairs. -/
def foldP (p0 : List Po) (ps : List (Wd × En)) : List Po := (ps.map mkPo).foldl addR p0
end Go.Proofs.YtccnhpaldmjkbaaGreat
/-
  Postings added one by one (walk): the reference's less, add (of a new posting), postings and Build.
-/
namespace Go.Proofs.YtccnhpaldmjkbaaGreat
open Go Go.RowKit Go.Av
set_option maxRecDepth 100000
attribute [local irreducible] Still Adds AWL AW Drw DrwE EStep AC AWR Weak Frz Src RetK Out InK ItK AsK RdK
/-- The reference's list ahead of word j of entry i. -/
def atP (p0 : List Po) (col : Nat) (b : List En) (i : Nat) (e : En) (j : Nat) : List Po := foldP p0 (prs col (b.take i) ++ ((wdsE col e.r).take j).map fun w => (w, e))
def AddC (l : List Po) (x : Po) : Prop := AC Tryz.prog 107 [.sl 3 l.length (pc l), .agg x.c] (.c (.sl 3 (addR l x).length (pc (addR l x)))) [] 0
end Go.Proofs.YtccnhpaldmjkbaaGreat
