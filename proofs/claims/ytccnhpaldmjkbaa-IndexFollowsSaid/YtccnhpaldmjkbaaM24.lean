/-
  Joined texts: AvMg JP. Lemmas; no statement of a law.
-/
import Derived.Test.YtccnhpaldmjkbaaM20
set_option linter.unusedSimpArgs false
set_option linter.unusedVariables false
namespace Go.Av
open Go Go.RowKit Go.MapKept
def tabG (L : List (Value × CV)) : List (CV × AV) := L.map fun s => (.v s.1, .c s.2)
section
variable {P : Program} {tab : Tab} {ev : Evl} {h : Heap} {d : Option Tmp} {T ty : TypeId} {x y z : Operand} {pos : String} {aft : Array Edge} {gd : Option (Nat × Bool)} {i id : Nat} {es : List (CV × AV)}
end
section
variable {P : Program} {sz n : Nat} {env : Env} {h : Heap} {dfs : Defs} {K : AK} {ops : Array Oper} {rest : List Oper} {d : Option Tmp} {T ty : TypeId} {x y z : Operand} {pos : String} {aft : Array Edge} {gd : Option (Nat × Bool)} {b : Bool}
end
end Go.Av
namespace Go.Proofs.Ytccnhpaldmjkbaa
open Go Go.RowKit Go.Av
set_option maxRecDepth 100000
/-- A row that was met: the row, the number of its postings, their least count. -/
structure Mt where
  r : List Vl
  c : Nat
  n : Int
def okW (ws : List Wd) (w : Wd) : Prop := ws = [] ∨ w ∈ ws
instance (ws : List Wd) (w : Wd) : Decidable (okW ws w) := by unfold okW; infer_instance
def putF : List Mt → Po → List Mt
  | [], x => [⟨x.r, 1, x.n⟩]
  | m :: F, x => if m.r = x.r then ⟨m.r, m.c + 1, min m.n x.n⟩ :: F else m :: putF F x
def fndF (ws : List Wd) (F : List Mt) (x : Po) : List Mt := if okW ws x.w then putF F x else F
def fnd (ws : List Wd) (q : List Po) : List Mt := q.foldl (fndF ws) []
/-- The postings of a row among those that are looked at. -/
def mine (ws : List Wd) (q : List Po) (r : List Vl) : List Po := q.filter fun x => decide (okW ws x.w ∧ x.r = r)
structure FndP (ws : List Wd) (q : List Po) (F : List Mt) : Prop where
  nd : (F.map (·.r)).Nodup
  cnt : ∀ m ∈ F, m.c = (mine ws q m.r).length ∧ (∃ x ∈ mine ws q m.r, x.n = m.n) ∧ ∀ x ∈ mine ws q m.r, m.n ≤ x.n
  all : ∀ x ∈ q, okW ws x.w → x.r ∈ F.map (·.r)
/-- The different words, in the order in which they came. -/
def addW (D : List Wd) (w : Wd) : List Wd := if w ∈ D then D else D ++ [w]
def dedW (ws : List Wd) : List Wd := ws.foldl addW []
def srchL (p : List Po) (ws : List Wd) : List En := ((fnd ws p).filter fun m => decide ((dedW ws).length ≤ m.c)).map fun m => ⟨m.r, m.n⟩
def leE (a b : En) : Bool := decide (cmpR a.r b.r ≤ 0)
def srchP (p : List Po) (ws : List Wd) : List En := (srchL p ws).mergeSort leE
structure Hit (ws : List Wd) (p : List Po) (e : En) : Prop where
  some : ∃ x ∈ mine ws p e.r, x.n = e.n
  le : ∀ x ∈ mine ws p e.r, e.n ≤ x.n
  all : ∀ w ∈ ws, ∃ x ∈ p, x.w = w ∧ x.r = e.r
theorem Hit.of {ws us : List Wd} {p : List Po} {e : En} (h : ∀ w, w ∈ ws ↔ w ∈ us) (hh : Hit ws p e) : Hit us p e := by
  have hm : mine ws p e.r = mine us p e.r := by
    unfold mine
    refine List.filter_congr fun x _ => ?_
    have : okW ws x.w ↔ okW us x.w := by
      unfold okW
      rw [h x.w]
      refine or_congr ⟨fun e0 => ?_, fun e0 => ?_⟩ Iff.rfl
      · exact List.eq_nil_iff_forall_not_mem.2 fun w hw => by have := (h w).2 hw; rw [e0] at this; cases this
      · exact List.eq_nil_iff_forall_not_mem.2 fun w hw => by have := (h w).1 hw; rw [e0] at this; cases this
    simp only [this]
  obtain ⟨h1, h2, h3⟩ := hh
  rw [hm] at h1 h2
  exact ⟨h1, h2, fun w hw => h3 w ((h w).2 hw)⟩
end Go.Proofs.Ytccnhpaldmjkbaa
