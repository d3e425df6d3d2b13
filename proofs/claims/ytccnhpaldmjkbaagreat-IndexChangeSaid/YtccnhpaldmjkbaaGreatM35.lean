/-
  Joined texts: JC. Lemmas; no statement of a law.
-/
import Derived.Test.YtccnhpaldmjkbaaGreatM32
import Derived.Test.YtccnhpaldmjkbaaGreatM33
set_option linter.unusedSimpArgs false
set_option linter.unusedVariables false
/-
  The reference's postings on top of a valid index: every add is within bounds (plain).
-/
namespace Go.Proofs.YtccnhpaldmjkbaaGreat
open Go Go.RowKit Go.Av
set_option maxRecDepth 100000
theorem nY {p : List Po} (hv : valP p) : (∀ y ∈ p, y.w.length ≤ 32) ∧ GoodE (p.map Po.e) := by
  obtain ⟨h1, h2⟩ := dX hv
  have hw : ∀ y ∈ p, y.w.length ≤ 32 := fun y hy => (h2 y hy).1.2.1
  refine ⟨hw, ⟨?_, ?_, ?_⟩⟩
  · exact List.pairwise_map.2 (h1.imp_of_mem fun {a b} ha hb h => by rw [← gI (hw a ha) (hw b hb)]; exact h)
  · intro e he v hvv
    obtain ⟨y, hy, rfl⟩ := List.mem_map.1 he
    rcases List.mem_cons.1 hvv with rfl | h
    · exact .inr (.inr ⟨rfl, rfl, hw y hy⟩)
    · exact (h2 y hy).2.1.2 v h
  · intro e he
    obtain ⟨y, hy, rfl⟩ := List.mem_map.1 he
    have := (h2 y hy).2.2.1
    show y.n ≠ 0
    omega
theorem bagP_ent {d : List En} (hd : bagP d) : ∀ e ∈ d, entP e := fun e he => by
  obtain ⟨i, hi⟩ := List.mem_iff_getElem?.1 he
  exact (hd.2 i (List.getElem?_eq_some_iff.1 hi).1 e hi).1
theorem fY {p : List Po} {d : List En} {col : Nat} (hv : valP p) (hd : bagP d) : foldP p (prs col d) = mergeP p (postP (prs col d)) := post_ref (nY hv).1 (nY hv).2 (nS hd)
theorem foldl_abs : ∀ (xs p : List Po), (∀ y ∈ p, y.w.length ≤ 32) → (∀ y ∈ xs, y.w.length ≤ 32) → absS ((xs.foldl addR p).map Po.e) ≤ absS (p.map Po.e) + absS (xs.map Po.e)
  | [], p, _, _ => by simp [absS]
  | x :: xs, p, hp, hx => by
    have h1 := hx x (by simp)
    have h2 := foldl_abs xs (addR p x) (lK (fun w => w.length ≤ 32) hp h1) fun y hy => hx y (by simp [hy])
    rw [addR_e hp h1] at h2
    have h3 := jM (p.map Po.e) [x.e]
    rw [dN] at h3
    rw [List.foldl_cons, List.map_cons, dN]
    have h4 : absS ([] : List En) = 0 := rfl
    omega
theorem abs_le {D : Nat} : ∀ {l : List En}, (∀ e ∈ l, e.n.natAbs ≤ D) → absS l ≤ D * l.length
  | [], _ => by simp [absS]
  | e :: l, h => by
    have h1 := h e (by simp)
    have h2 := abs_le (D := D) (l := l) fun e he => h e (by simp [he])
    rw [dN, List.length_cons, Nat.mul_succ]
    omega
theorem atP_bd {p : List Po} {d : List En} {col i j : Nat} {e : En} (hn : p.length ≤ 500000) (hv : valP p) (hd : bagP d) (hi : d[i]? = some e) : (∀ y ∈ atP p col d i e j, y.r.length ≤ 16 ∧ y.w.length ≤ 32 ∧ -4000000000000000000 ≤ y.n ∧ y.n ≤ 4000000000000000000) ∧ (atP p col d i e j).length ≤ 2000000 := by
  obtain ⟨g1, g2⟩ := dX hv
  have hr := bagP_ent hd
  have hem := List.mem_of_getElem? hi
  have hps : ∀ q ∈ prs col (d.take i) ++ ((wdsE col e.r).take j).map fun w => (w, e), q.2 ∈ d ∧ q.1.length ≤ 32 := fun q hq => by
    rcases List.mem_append.1 hq with hq | hq
    · obtain ⟨k1, k2⟩ := fR hq
      have k3 := List.mem_of_mem_take k1
      exact ⟨k3, ((eD (hr q.2 k3).2.2.2).2 _ k2).1⟩
    · obtain ⟨w, hw, rfl⟩ := List.mem_map.1 hq
      exact ⟨hem, ((eD (hr e hem).2.2.2).2 _ (List.mem_of_mem_take hw)).1⟩
  have hlen : (prs col (d.take i) ++ ((wdsE col e.r).take j).map fun w => (w, e)).length ≤ 200000 := by
    have h2 := cR (col := col) (b := d.take i) (fun e he => (hr e (List.mem_of_mem_take he)).2.2.2)
    have h3 := (eD (col := col) (hr e hem).2.2.2).1
    have h4 := hd.1
    rw [List.length_append, List.length_map, List.length_take]
    rw [List.length_take] at h2
    omega
  unfold atP
  generalize prs col (d.take i) ++ ((wdsE col e.r).take j).map (fun w => (w, e)) = ps at *
  have hfl := kS p ps
  have hw := nY hv
  refine ⟨?_, by omega⟩
  have hrl : ∀ y ∈ foldP p ps, y.r.length ≤ 16 ∧ y.w.length ≤ 32 := nK (fun y => y.r.length ≤ 16 ∧ y.w.length ≤ 32) (fun y x hy _ => hy) (fun y hy => ⟨(g2 y hy).2.1.1, hw.1 y hy⟩) ps fun q hq => ⟨(hr q.2 (hps q hq).1).2.2.1, (hps q hq).2⟩
  have hab := foldl_abs (ps.map mkPo) p hw.1 fun y hy => by
    obtain ⟨q, hq, rfl⟩ := List.mem_map.1 hy
    exact (hps q hq).2
  have h1 := abs_le (D := 262144) (l := p.map Po.e) fun e he => by
    obtain ⟨y, hy, rfl⟩ := List.mem_map.1 he
    obtain ⟨_, _, k3, k4⟩ := g2 y hy
    show y.n.natAbs ≤ 262144
    omega
  have h2 := abs_le (D := 262144) (l := (ps.map mkPo).map Po.e) fun e he => by
    obtain ⟨y, hy, rfl⟩ := List.mem_map.1 he
    obtain ⟨q, hq, rfl⟩ := List.mem_map.1 hy
    obtain ⟨k3, k4, _⟩ := hr q.2 (hps q hq).1
    show q.2.n.natAbs ≤ 262144
    omega
  rw [List.length_map] at h1
  rw [List.length_map, List.length_map] at h2
  intro y hy
  obtain ⟨a1, a2⟩ := hrl y hy
  have h3 := eI (List.mem_map_of_mem (f := Po.e) hy)
  have h4 : y.e.n = y.n := rfl
  rw [h4] at h3
  have h5 : absS ((foldP p ps).map Po.e) ≤ absS (p.map Po.e) + absS ((ps.map mkPo).map Po.e) := hab
  exact ⟨a1, a2, by omega, by omega⟩
theorem add_all {p : List Po} {d : List En} {col : Nat} (hn : p.length ≤ 500000) (hv : valP p) (hd : bagP d) : ∀ i j e w, d[i]? = some e → (wdsE col e.r)[j]? = some w → AddC (atP p col d i e j) (mkPo (w, e)) := fun i j e w hi hj => by
  obtain ⟨h1, h2⟩ := atP_bd (j := j) (col := col) hn hv hd hi
  have hr := bagP_ent hd e (List.mem_of_getElem? hi)
  obtain ⟨k3, k4, k5⟩ := hr
  have e1 : (mkPo (w, e)).n = e.n := rfl
  have e2 : (mkPo (w, e)).r = e.r := rfl
  exact padd_ok _ _ _ rfl h2 (fun y hy => by have := (h1 y hy).1; simp only [maxLen]; omega) (by have := k5.1; rw [e2]; simp only [maxLen]; omega) (fun y hy => (h1 y hy).2.2) (by rw [e1]; omega)
end Go.Proofs.YtccnhpaldmjkbaaGreat
