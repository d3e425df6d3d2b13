/-
  Joined texts: AvDr AvSf LyF SF J1. Lemmas; no statement of a law.
-/
import Derived.Lone
import Derived.Calls
import Derived.Shelf.SlSortCmp.WholeK
import Derived.Shelf.SlSortCmp.NoneTotal
import Derived.Test.YtccnhpaldmjkbaaProg
import Derived.Test.YtccnhpaldmjkbaaM10
import Derived.Test.YtccnhpaldmjkbaaM22
import Derived.Test.YtccnhpaldmjkbaaM24
set_option linter.unusedSimpArgs false
set_option linter.unusedVariables false
namespace Go.Av
open Go
def RW {α : Type} : Result α → World
  | .ok _ w => w
  | .halt _ w => w
/-- What a step of a goroutine leaves has not fewer draws. -/
def GUp (d : Nat) : GStep → Prop
  | .go _ w _ => d ≤ w.drawn
  | .comm _ _ _ _ w _ => d ≤ w.drawn
  | .spawn _ _ w _ => d ≤ w.drawn
  | .count _ w _ => d ≤ w.drawn
  | .timer _ _ w _ => d ≤ w.drawn
  | .alone _ _ w _ => d ≤ w.drawn
  | .newcoro _ _ _ w _ => d ≤ w.drawn
  | .coroswitch _ _ _ w _ => d ≤ w.drawn
  | .collect _ w _ => d ≤ w.drawn
  | .watch _ w _ => d ≤ w.drawn
  | .ended _ _ _ => True
theorem GUp.after {d : Nat} {es : Array Event} {s : GStep} (h : GUp d s) : GUp d (s.after es) := by cases s <;> exact h
theorem GUp.le {d e : Nat} {s : GStep} (h : GUp e s) (hd : d ≤ e) : GUp d s := by
  cases s <;> first | trivial | exact Nat.le_trans hd h
end Go.Av
namespace Go.Av
open Go Go.RowKit Go.Sort
open Go.Proofs (ltOf sortWorldK)
section flat
variable {α : Type} [Inhabited α] {enc : α → List Value} {k : Nat}
end flat
section split
variable {ok : Nat → Prop} {w : World} {X : Type} {encX : X → List CV} {pX : X → Prop}
/-- An element: what it stands for, and its cells. -/
abbrev El (ok : Nat → Prop) (w : World) (encX : X → List CV) (pX : X → Prop) : Type := {p : X × List Value // pX p.1 ∧ RepCs ok w (encX p.1) p.2 ∧ ∀ u ∈ p.2, u.oneCell' = true}
end split
/-- The shelf's sort with a closure at this program. -/
def SortFC (P : Program) (f gcl : FuncId) (size : Nat) : Prop :=
  ∀ {α : Type} [Inhabited α] (enc : α → List Value) (_ : ∀ x, (enc x).length = size) (_ : ∀ x, ∀ v ∈ enc x, v.oneCell' = true) (cf : α → α → Int) (_ : SWO (ltOf cf)) (blk cap : Nat) (d : Array α) (w : World),
    Go.Proofs.CmpLays P gcl #[] enc size cf blk 0 d.size w → HoldsK enc size w blk 0 d → blk < w.heap.size → d.size < 4611686018427387904 →
    Calls P f #[.slice (some ⟨blk, 0, none⟩) d.size cap, .func (.func gcl) #[] #[]] w fun e w' => e = .returned (.tuple #[]) ∧ ∃ d' n os, PermIn 0 d.size d d' ∧ SortedIn (ltOf cf) 0 d.size d' ∧ w' = sortWorldK enc size w blk 0 n d' os
section call
variable {P : Program} {sz n : Nat} {env : Env} {h : Heap} {dfs : Defs} {K : AK} {ops : Array Oper} {rest : List Oper} {ev : Evl} {d : Option Tmp} {ty : TypeId} {pos : String} {aft : Array Edge} {gd : Option (Nat × Bool)} {i : Nat} {f gcl : FuncId} {x0 y : Operand} {ats : Array TypeId} {E : TypeId} {c0 c0' c1 : List CV} {r : AV} {id size m : Nat}
end call
end Go.Av
namespace Go.Proofs.Ytccnhpaldmjkbaa
open Go.Shelf Go.Proofs
def Try.srtF_ren : Go.Shelf.Ren := ⟨fun | 6 => 103 | 15 => 108 | 14 => 133 | 28 => 146 | 29 => 147 | 20 => 158 | 21 => 159 | 22 => 160 | 23 => 161 | 24 => 162 | 25 => 163 | 26 => 164 | 27 => 165 | 46 => 186 | 47 => 169 | 48 => 170 | 49 => 187 | 50 => 188 | 57 => 194 | n => n, fun | 22 => 30 | 24 => 46 | 25 => 121 | 3 => 3 | 39 => 86 | 0 => 0 | 53 => 157 | 55 => 56 | 4 => 4 | 46 => 150 | 45 => 149 | 50 => 116 | 5 => 5 | 9 => 9 | 66 => 170 | 70 => 174 | 76 => 186 | 77 => 187 | n => n, fun | n => n⟩
end Go.Proofs.Ytccnhpaldmjkbaa
namespace Go.Proofs.Ytccnhpaldmjkbaa
open Go Go.RowKit Go.Av
set_option maxRecDepth 100000
end Go.Proofs.Ytccnhpaldmjkbaa
namespace Go.Proofs.Ytccnhpaldmjkbaa
open Go Go.RowKit Go.Av
set_option maxRecDepth 100000
def Mt.cc (m : Mt) : List CV := [.sl 3 m.r.length (rc m.r), iv m.c, iv m.n]
def fc (F : List Mt) : List CV := F.flatMap Mt.cc
def wtab (D : List Wd) : List (Value × CV) := D.map fun w => (.string ⟨w.toArray⟩, bv true)
def ptab (F : List Mt) : List (Value × CV) := F.zipIdx.map fun m => (.string ⟨(encR m.1.r).toArray⟩, iv m.2)
theorem valP_facts {p : List Po} (hv : valP p) : (p.Pairwise fun x y => cmpP x y < 0) ∧ ∀ x ∈ p, wordQ x.w ∧ rowP x.r ∧ 1 ≤ x.n ∧ x.n ≤ 262144 := by
  have h2 : ∀ x ∈ p, wordQ x.w ∧ rowP x.r ∧ 1 ≤ x.n ∧ x.n ≤ 262144 := fun x hx => by
    obtain ⟨i, hi⟩ := List.mem_iff_getElem?.1 hx
    obtain ⟨a, b, c, d, _⟩ := hv i (List.getElem?_eq_some_iff.1 hi).1 x hi
    exact ⟨a, b, c, d⟩
  refine ⟨?_, h2⟩
  have h3 : ∀ i, i < p.length → ∀ x y, 0 < i → p[i - 1]? = some y → p[i]? = some x → cmpP y x < 0 := fun i hi x y h0 hy hx => (hv i hi x hx).2.2.2.2 y h0 hy
  clear hv h2
  induction p with
  | nil => exact List.Pairwise.nil
  | cons e b ih =>
    have ih := ih fun i hi x y h0 hy hx => by
      obtain ⟨j, rfl⟩ : ∃ j, i = j + 1 := ⟨i - 1, by omega⟩
      exact h3 (j + 1 + 1) (by simpa using hi) x y (by omega) (by simpa using hy) (by simpa using hx)
    refine List.pairwise_cons.2 ⟨?_, ih⟩
    match b, ih with
    | [], _ => exact fun f hf => by cases hf
    | f :: b, ih =>
      have h4 : cmpP e f < 0 := h3 1 (by simp) f e (by omega) rfl rfl
      intro g hg
      rcases List.mem_cons.1 hg with rfl | hg
      · exact h4
      · exact gc_P.lt h4 ((List.pairwise_cons.1 ih).1 g hg)
/-- The entries found, up to a place. -/
def selE (k : Nat) (F : List Mt) : List En := (F.filter fun m => decide (k ≤ m.c)).map fun m => ⟨m.r, m.n⟩
attribute [local irreducible] Still Adds AWL AW Drw DrwE EStep AC AWR Weak Frz Src RetK Out InK ItK AsK RdK
end Go.Proofs.Ytccnhpaldmjkbaa
