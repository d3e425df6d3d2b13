/-
  A nil slice as an own row without cells. For every program.
-/
import Derived.Test.YtgofigkhdjjlmaaAvS
set_option linter.unusedVariables false
namespace Go.Av
open Go Go.RowKit
theorem weak_nilown {n t size : Nat} {env : Env} {h : Heap} {dfs : Defs} (T : TypeId) (hx : lkE env t = some (.c (.v (.slice none 0 0)))) : Weak n env h dfs (n + 1) ((t, .own n 0 0 size true) :: env) ((n, .row T []) :: h) dfs := by
  intro B sz a w hc
  obtain ⟨M, c1, c2, c3, c4⟩ := hc
  have e1 : ∀ id, id < n → lk ((n, .row T []) :: h) id = lk h id := fun id hid => by rw [lk_cons, if_neg (by omega)]
  have e2 : lk ((n, AObj.row T []) :: h) n = some (.row T []) := by rw [lk_cons, if_pos rfl]; rfl
  have eok : okOf B (lt n) M (lk ((n, .row T []) :: h)) = okOf B (lt n) M (lk h) := by
    funext b
    unfold okOf
    simp only [eq_iff_iff]
    exact and_congr Iff.rfl ⟨fun hk id o hid hH => hk id o hid (by rw [e1 id hid]; exact hH), fun hk id o hid hH => hk id o hid (by rw [← e1 id hid]; exact hH)⟩
  have h1' : ConcH B (lt n) M (lk ((n, .row T []) :: h)) w := by
    refine ⟨c1.fr, fun id o hid hH => ?_, fun id id' o o' g k1 k2 k3 k4 => c1.inj id id' o o' g k1 k2 (by rw [← e1 id k1]; exact k3) (by rw [← e1 id' k2]; exact k4), fun id o g k1 k2 => c1.lo id o g k1 (by rw [← e1 id k1]; exact k2)⟩
    rw [eok]
    exact c1.obj id o hid (by rw [← e1 id hid]; exact hH)
  let M' : Nat → Option Nat := fun id => if id = n then none else M id
  have hMn : M' n = none := by simp [M']
  have hg := h1'.grow (Below.refl w.heap.size w) n (n + 1) (M' := M') (fun id hid => by
      have : ¬ id = n := by simp only [lt] at hid; omega
      simp [M', this]) (fun id k1 k2 => by simp only [lt]; omega)
    (fun id o k1 k2 k3 g hg => by obtain rfl : id = n := by omega
                                  rw [hMn] at hg; cases hg)
    (fun id id' o o' g k1 k2 k3 k4 _ _ _ _ => by omega)
    (fun hext id o k1 k2 k3 => by
      obtain rfl : id = n := by omega
      rw [e2] at k3
      injection k3 with k3
      subst k3
      exact .inl ⟨hMn, rfl⟩)
  rw [lt_ad (Nat.le_succ n)] at hg
  have hext : Ext (cx B n M h w) (cx B (n + 1) M' ((n, .row T []) :: h) w) := by
    have := hg.2
    rw [eok] at this
    exact this
  refine ⟨M', hg.1, c2, fun k av hk => ?_, c4.ext hext⟩
  rw [lkE_cons] at hk
  split at hk
  · rename_i e
    subst e
    injection hk with hk
    subst hk
    have := c3 _ _ hx
    simp only [Rep, RepC] at this
    exact ⟨Nat.lt_succ_self n, .inl ⟨rfl, rfl, hMn, this⟩⟩
  · exact Rep.ext hext _ _ (c3 k av hk)
theorem aw_nilown {P : Program} {sz n : Nat} {c : Code} {K : AK} {env : Env} {h : Heap} {dfs : Defs} (t : Nat) (T : TypeId) (size : Nat) (hx : lkE env t = some (.c (.v (.slice none 0 0)))) (next : AW P sz c K (n + 1) ((t, .own n 0 0 size true) :: env) ((n, .row T []) :: h) dfs) : AW P sz c K n env h dfs := aw_weak (weak_nilown T hx) next
end Go.Av
