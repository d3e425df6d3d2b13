/-
  Joined texts: AvSk AvQ3. Lemmas; no statement of a law.
-/
import Derived.Test.YtccnhpaldmjkbaaGreatQ3
set_option linter.unusedSimpArgs false
set_option linter.unusedVariables false
namespace Go.Av
open Go Go.RowKit
section
variable {P : Program} {sz n t : Nat} {env : Env} {h : Heap} {dfs : Defs} {K : AK} {ops : Array Oper} {rest : List Oper} {op : Op} {ty : TypeId} {pos : String} {aft : Array Edge} {gd : Option (Nat × Bool)}
theorem iT (hg : guardA ops env ⟨some t, op, ty, pos, aft, gd⟩ false) (hd : Nat.blt t sz = true) (next : AWL P ops sz rest K n ((t, .c (.v undef)) :: env) h dfs) : AWL P ops sz (⟨some t, op, ty, pos, aft, gd⟩ :: rest) K n env h dfs := by
  intro B a w hc
  obtain ⟨M, h1, h2, h3, h4⟩ := hc
  refine dM fun K' hK' => ?_
  rw [if_neg (by rw [hg.wanted h3]; simp)]
  obtain ⟨p1, p2, p3⟩ := iZ (d := some t) (v := .c (.v undef)) (u := undef) h2 h3 (Ext.refl _) (dP (d := some t) hd) (by simp [Rep, RepC])
  exact hK' _ _ (next B _ _ ⟨M, h1, p1, p2, by rw [p3]; exact h4⟩)
theorem iS {j s : Nat} {want : Bool} (hs : (ops[j]?).bind (·.dst) = some s) (hv : lkE env s = some (.c (.v undef))) (hd : Nat.blt t sz = true) (next : AWL P ops sz rest K n ((t, .c (.v undef)) :: env) h dfs) : AWL P ops sz (⟨some t, op, ty, pos, aft, some (j, want)⟩ :: rest) K n env h dfs := by
  intro B a w hc
  obtain ⟨M, h1, h2, h3, h4⟩ := hc
  refine dM fun K' hK' => ?_
  have hw : Region.wanted ⟨some t, op, ty, pos, aft, some (j, want)⟩ (yielded ops a.tmps) = false := by
    have h5 := h3 s _ hv
    simp only [Rep, RepC] at h5
    have : yielded ops a.tmps j = none := by
      unfold yielded
      rw [hs]
      simp only [Option.bind_some]
      cases hq : a.tmps[s]? with
      | none => rfl
      | some q =>
        have : q = undef := by rw [← h5]; simp [hq]
        subst this
        rfl
    simp [Region.wanted, this]
  rw [if_neg (by rw [hw]; simp)]
  obtain ⟨p1, p2, p3⟩ := iZ (d := some t) (v := .c (.v undef)) (u := undef) h2 h3 (Ext.refl _) (dP (d := some t) hd) (by simp [Rep, RepC])
  exact hK' _ _ (next B _ _ ⟨M, h1, p1, p2, by rw [p3]; exact h4⟩)
end
end Go.Av
namespace Go.Av
open Go Go.RowKit
def lateB : Op → Bool
  | .move _ => true
  | .extract _ _ => true
  | _ => false
def moveB3 (l : List Oper) (i : Nat) : Bool := match l[i]? with
  | some o => lateB o.op && (List.range l.length).all fun j => Nat.beq j i || Region.waitsFor .any l.toArray j i || Region.waitsFor .any l.toArray i j || (match l[j]? with | some oj => o.apart l.toArray oj | none => true)
  | none => false
def drawXB3 (l : List Oper) (m : Nat) (fs : List Nat) : Bool :=
  Nat.ble m l.length && headB l.toArray (l.take m) && (Nat.beq m l.length || (sinkXB l.toArray m fs && Region.chainB .any l.toArray m)) && Region.seqB .any l.toArray (l.length - m) m (doneL m (l.length - m)) && fs.all (fun i => Nat.blt i m && moveB3 l i) && selB l

def autoFs (l : List Oper) (m : Nat) : List Nat := (List.range m).filter fun i => moveB3 l i && !(List.range (m + 1)).any fun j => decide (i < j) && Region.waitsFor .any l.toArray j i
end Go.Av
