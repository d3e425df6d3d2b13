/-
  Plain lemmas on slices that are read, bytes and owned rows: no program in sight. For every world.
-/
import Derived.WalkKit
import Derived.ProofKit
import Derived.Handy
import Derived.WalkLawsBesides
import Derived.WalkSpells
import Derived.Laws.CopyOwn
import Derived.Lib.Hide
import Derived.Deep.AppendLies
import Derived.Maps.AppendAt
import Derived.Laws.BytesArg
import Derived.Deep.Draws
set_option linter.unusedVariables false
set_option linter.unusedSimpArgs false
namespace Go.Er
open Go Go.RowKit

/-- The slice value with address A, length n, capacity c reads in w as the cells xs, each element of `size` cells; it lies in the blocks from lo on and ahead of hi. -/
def SlR (w : World) (lo hi size : Nat) (A : Option Addr) (n c : Nat) (xs : List Value) : Prop :=
  n ≤ c ∧ c ≤ maxLen ∧ xs.length = n * size ∧ (0 < n → ∃ b o, A = some ⟨b, o, none⟩ ∧ lo ≤ b ∧ b < hi ∧ ∀ j u, xs[j]? = some u → w.cell? ⟨b, o + j, none⟩ = some u)

/-- In the blocks from lo on and ahead of hi, w' is as w. -/
def Same (lo hi : Nat) (w w' : World) : Prop := ∀ k, lo ≤ k → k < hi → w'.heap[k]? = w.heap[k]?

theorem Same.refl (lo hi : Nat) (w : World) : Same lo hi w w := fun _ _ _ => rfl
theorem Same.trans {lo hi : Nat} {a b c : World} (h : Same lo hi a b) (k : Same lo hi b c) : Same lo hi a c := fun i h1 h2 => (k i h1 h2).trans (h i h1 h2)
theorem Same.of_below {lo hi : Nat} {w w' : World} (hb : Below w.heap.size w w') (hh : hi ≤ w.heap.size) : Same lo hi w w' := fun k _ h2 => hb.block k (by omega)

theorem add_mk (b o j : Nat) : (⟨b, o, none⟩ : Addr).add j = ⟨b, o + j, none⟩ := by
  unfold Addr.add; split <;> simp_all

theorem lt_of_cell {w : World} {a : Addr} {v : Value} (h : w.cell? a = some v) : a.block < w.heap.size := World.block_lt_of_cell? w a h
theorem lt_of_block {w : World} {g : Nat} {o : Obj} (h : w.heap[g]? = some o) : g < w.heap.size := by
  rcases Nat.lt_or_ge g w.heap.size with h1 | h1
  · exact h1
  · rw [Array.getElem?_eq_none h1] at h; cases h

section SlR
variable {w w' : World} {lo hi size : Nat} {A : Option Addr} {n c : Nat} {xs : List Value}

theorem SlR.same (h : SlR w lo hi size A n c xs) (hk : Same lo hi w w') : SlR w' lo hi size A n c xs := by
  obtain ⟨h1, h2, h3, h4⟩ := h
  refine ⟨h1, h2, h3, fun hn => ?_⟩
  obtain ⟨b, o, rfl, hl, hs, hc⟩ := h4 hn
  exact ⟨b, o, rfl, hl, hs, fun j u hu => by rw [World.cell?_of_block (w := w) (hk b hl hs)]; exact hc j u hu⟩

theorem SlR.mono {lo' hi' : Nat} (h : SlR w lo hi size A n c xs) (hl : lo' ≤ lo) (hh : hi ≤ hi') : SlR w lo' hi' size A n c xs := by
  obtain ⟨h1, h2, h3, h4⟩ := h
  refine ⟨h1, h2, h3, fun hn => ?_⟩
  obtain ⟨b, o, rfl, h5, hs, hc⟩ := h4 hn
  exact ⟨b, o, rfl, by omega, by omega, hc⟩

theorem SlR.nil (w : World) (lo hi size : Nat) : SlR w lo hi size none 0 0 [] := ⟨Nat.le_refl _, Nat.zero_le _, by simp, fun h => absurd h (by omega)⟩

theorem SlR.own {base : Nat} {e : TypeId} (h : w.ownsRow base e size (.slice A n c) n xs) : SlR w base w.heap.size size A n c xs := by
  obtain ⟨h1, h2⟩ := h
  rcases h2 with ⟨hv, rfl⟩ | ⟨g, cap, cur, hv, hb, hh, hnc, hcm, hcs, ht⟩
  · injection hv with e1 e2 e3
    subst e1 e3
    exact ⟨Nat.le_refl _, by simp [maxLen], h1, fun h => absurd h (by omega)⟩
  · injection hv with e1 e2 e3
    subst e1 e3
    refine ⟨hnc, hcm, h1, fun _ => ⟨g, 0, rfl, hb, lt_of_block hh, fun j u hu => ?_⟩⟩
    rw [← ht] at hu
    have hj : j < n * size := by
      rcases Nat.lt_or_ge j (n * size) with h | h
      · exact h
      · rw [List.getElem?_eq_none (by rw [List.length_take]; omega)] at hu; cases hu
    rw [List.getElem?_take_of_lt hj] at hu
    simp only [World.cell?, hh]
    simpa using hu

theorem SlR.len (h : SlR w lo hi size A n c xs) : xs.length = n * size := h.2.2.1

theorem SlR.at_ (h : SlR w lo hi 1 A n c xs) {k : Nat} (hk : k < n) : ∃ b o u, A = some ⟨b, o, none⟩ ∧ lo ≤ b ∧ b < hi ∧ xs[k]? = some u ∧ w.cell? ⟨b, o + k, none⟩ = some u := by
  obtain ⟨b, o, rfl, hl, hs, hc⟩ := h.2.2.2 (by omega)
  have hlen : k < xs.length := by have := h.len; omega
  exact ⟨b, o, xs[k], rfl, hl, hs, List.getElem?_eq_getElem hlen, hc k _ (List.getElem?_eq_getElem hlen)⟩

/-- The first k elements. -/
theorem SlR.take (h : SlR w lo hi size A n c xs) (k : Nat) (hk : k ≤ n) : SlR w lo hi size A k c (xs.take (k * size)) := by
  obtain ⟨h1, h2, h3, h4⟩ := h
  have hks : k * size ≤ n * size := Nat.mul_le_mul_right _ hk
  refine ⟨by omega, h2, by rw [List.length_take]; omega, fun hn => ?_⟩
  obtain ⟨b, o, rfl, hl, hs, hc⟩ := h4 (by omega)
  refine ⟨b, o, rfl, hl, hs, fun j u hu => hc j u ?_⟩
  rcases Nat.lt_or_ge j (k * size) with h | h
  · rwa [List.getElem?_take_of_lt h] at hu
  · rw [List.getElem?_eq_none (by rw [List.length_take]; omega)] at hu; cases hu

/-- The capacity cut: x[:n:k]. -/
theorem SlR.cap (h : SlR w lo hi size A n c xs) (k : Nat) (hk : n ≤ k) (hc : k ≤ maxLen) : SlR w lo hi size A n k xs := ⟨hk, hc, h.2.2⟩

/-- From element k on: the model keeps the address where the capacity ends. -/
theorem SlR.drop (h : SlR w lo hi size A n c xs) (k : Nat) (hk : k ≤ n) :
    SlR w lo hi size (if c = k then A else A.map (·.add (k * size))) (n - k) (c - k) (xs.drop (k * size)) := by
  obtain ⟨h1, h2, h3, h4⟩ := h
  refine ⟨by omega, by omega, by rw [List.length_drop, h3, Nat.sub_mul], fun hn => ?_⟩
  obtain ⟨b, o, rfl, hl, hs, hc⟩ := h4 (by omega)
  rw [if_neg (by omega)]
  refine ⟨b, o + k * size, by simp [add_mk], hl, hs, fun j u hu => ?_⟩
  rw [Nat.add_assoc]
  exact hc _ u (by rw [← hu, List.getElem?_drop])
end SlR

/-- A fact on memory that hangs on the blocks from lo on and ahead of hi alone. -/
structure Fct where
  lo : Nat
  hi : Nat
  p : World → Prop
  dep : ∀ w w', Same lo hi w w' → p w → p w'

def Fct.sl (lo hi size : Nat) (A : Option Addr) (n c : Nat) (xs : List Value) : Fct := ⟨lo, hi, fun w => SlR w lo hi size A n c xs, fun _ _ h k => k.same h⟩

/-- Something of the call's own: the block that it lies in (none: it is nil), and what is known of it, which hangs on that block alone. -/
structure Own where
  g : Option Nat
  p : World → Prop
  dep : ∀ w w', (∀ k, g = some k → w'.heap[k]? = w.heap[k]?) → p w → p w'
  lt : ∀ w, p w → ∀ k, g = some k → k < w.heap.size

/-- A block that is known whole: its number, its type, its cells. -/
def Own.blk (g : Nat) (t : TypeId) (cs : List Value) : Own where
  g := some g
  p := fun w => w.heap[g]? = some (.cells cs.toArray t (0, 0))
  dep := fun _ _ h hp => (h g rfl).trans hp
  lt := fun _ hp k hk => by injection hk with hk; subst hk; exact lt_of_block hp

/-- A slice of the call's own, nil or not: its value v, of n elements of `size` cells each, holds the cells xs. -/
def Own.row (e : TypeId) (size : Nat) (v : Value) (n : Nat) (xs : List Value) : Own where
  g := v.ownBlock
  p := fun w => w.ownsRow 0 e size v n xs
  dep := fun w w' h hp => by
    obtain ⟨h1, h2⟩ := hp
    refine ⟨h1, ?_⟩
    rcases h2 with h2 | ⟨g, cap, cur, hv, hb, hh, hr⟩
    · exact .inl h2
    · refine .inr ⟨g, cap, cur, hv, hb, ?_, hr⟩
      rw [h g (by rw [hv]; rfl)]
      exact hh
  lt := fun _ hp k hk => (hp.lt k hk).2

/-- What the walk knows of the world: nothing that was there at w0 has turned; what is the call's own; facts on memory that nothing of the call's own lies in. -/
structure St (w0 : World) (L : List Own) (F : List Fct) (w : World) : Prop where
  below : Below w0.heap.size w0 w
  own : ∀ p ∈ L, p.p w ∧ ∀ k, p.g = some k → w0.heap.size ≤ k
  nodup : L.Pairwise fun p q => ∀ k, p.g = some k → q.g ≠ some k
  facts : ∀ f ∈ F, f.p w ∧ f.hi ≤ w.heap.size ∧ ∀ p ∈ L, ∀ k, p.g = some k → k < f.lo ∨ f.hi ≤ k

theorem St.init (w : World) : St w [] [] w := ⟨Below.refl _ _, by simp, by simp, by simp⟩

theorem St.arg {w : World} {F : List Fct} (h : St w [] F w) (f : Fct) (hp : f.p w) (hh : f.hi ≤ w.heap.size) : St w [] (f :: F) w :=
  ⟨h.below, by simp, by simp, fun f' hf' => by
    rcases List.mem_cons.1 hf' with rfl | hf'
    · exact ⟨hp, hh, by simp⟩
    · exact h.facts f' hf'⟩

section St
variable {w0 w w1 w' : World} {L : List Own} {F : List Fct}
theorem St.fact (h : St w0 L F w) (i : Nat) {f : Fct} (hf : F[i]? = some f) : f.p w := (h.facts f (List.mem_of_getElem? hf)).1
theorem St.fhi (h : St w0 L F w) (i : Nat) {f : Fct} (hf : F[i]? = some f) : f.hi ≤ w.heap.size := (h.facts f (List.mem_of_getElem? hf)).2.1
theorem St.at_ (h : St w0 L F w) (i : Nat) {p : Own} (hp : L[i]? = some p) : p.p w := (h.own p (List.mem_of_getElem? hp)).1
theorem St.lo_ (h : St w0 L F w) (i : Nat) {p : Own} (hp : L[i]? = some p) : ∀ k, p.g = some k → w0.heap.size ≤ k := (h.own p (List.mem_of_getElem? hp)).2
theorem St.blk (h : St w0 L F w) (i : Nat) {g : Nat} {t : TypeId} {cs : List Value} (hp : L[i]? = some (.blk g t cs)) : w.heap[g]? = some (.cells cs.toArray t (0, 0)) := h.at_ i hp
theorem St.size (h : St w0 L F w) : w0.heap.size ≤ w.heap.size := h.below.size

/-- A draw. -/
theorem St.drew (h : St w0 L F w) : St w0 L F w.drew :=
  ⟨h.below.drew, fun p hp => ⟨p.dep w _ (fun _ _ => rfl) (h.own p hp).1, (h.own p hp).2⟩, h.nodup, fun f hf => ⟨f.dep w _ (fun _ _ _ => rfl) (h.facts f hf).1, (h.facts f hf).2⟩⟩
theorem St.drewN (h : St w0 L F w) (n : Nat) : St w0 L F (w.drewN n) :=
  ⟨⟨h.below.os, h.below.tape, h.below.output, h.below.size, h.below.block⟩, fun p hp => ⟨p.dep w _ (fun _ _ => rfl) (h.own p hp).1, (h.own p hp).2⟩, h.nodup, fun f hf => ⟨f.dep w _ (fun _ _ _ => rfl) (h.facts f hf).1, (h.facts f hf).2⟩⟩

/-- A call that turns nothing that was there. -/
theorem St.call (h : St w0 L F w) (hb : Below w.heap.size w w1) : St w0 L F w1 := by
  refine ⟨h.below.trans (hb.mono h.size), fun p hp => ⟨?_, (h.own p hp).2⟩, h.nodup, fun f hf => ?_⟩
  · exact p.dep w w1 (fun k hk => hb.block k (p.lt w (h.own p hp).1 k hk)) (h.own p hp).1
  · obtain ⟨h1, h2, h3⟩ := h.facts f hf
    exact ⟨f.dep w w1 (Same.of_below hb h2) h1, Nat.le_trans h2 hb.size, h3⟩

/-- .. and what it handed back is a fact more. -/
theorem St.more (h : St w0 L F w) (hb : Below w.heap.size w w1) (f : Fct) (hp : f.p w1) (hlo : w.heap.size ≤ f.lo) (hhi : f.hi ≤ w1.heap.size) : St w0 L (f :: F) w1 := by
  have h1 := h.call hb
  refine ⟨h1.below, h1.own, h1.nodup, fun f' hf' => ?_⟩
  rcases List.mem_cons.1 hf' with rfl | hf'
  · exact ⟨hp, hhi, fun p hp k hk => .inl (by have := p.lt w (h.own p hp).1 k hk; omega)⟩
  · exact h1.facts f' hf'

theorem St.more2 (h : St w0 L F w) (hb : Below w.heap.size w w1) (f f' : Fct) (hp : f.p w1) (hp' : f'.p w1) (hlo : w.heap.size ≤ f.lo) (hhi : f.hi ≤ w1.heap.size) (hlo' : w.heap.size ≤ f'.lo) (hhi' : f'.hi ≤ w1.heap.size) : St w0 L (f :: f' :: F) w1 := by
  have h1 := h.more hb f' hp' hlo' hhi'
  refine ⟨h1.below, h1.own, h1.nodup, fun f' hf' => ?_⟩
  rcases List.mem_cons.1 hf' with rfl | hf'
  · exact ⟨hp, hhi, fun p hp k hk => .inl (by have := p.lt w (h.own p hp).1 k hk; omega)⟩
  · exact h1.facts f' hf'

/-- What follows from a fact is a fact, of the same range. -/
theorem St.also (h : St w0 L F w) (i : Nat) {f : Fct} (hf : F[i]? = some f) (f' : Fct) (hp : f'.p w) (hlo : f.lo ≤ f'.lo) (hhi : f'.hi ≤ f.hi) : St w0 L (f' :: F) w := by
  refine ⟨h.below, h.own, h.nodup, fun f2 hf2 => ?_⟩
  rcases List.mem_cons.1 hf2 with rfl | hf2
  · obtain ⟨_, h2, h3⟩ := h.facts f (List.mem_of_getElem? hf)
    exact ⟨hp, by omega, fun p hp k hk => by have := h3 p hp k hk; omega⟩
  · exact h.facts f2 hf2

/-- A new thing of the call's own, in a new block or nil. -/
theorem St.new (h : St w0 L F w) (hg : w.grownBy w' none) (q : Own) (hq : q.p w') (hn : ∀ k, q.g = some k → w.heap.size ≤ k) : St w0 (q :: L) F w' := by
  have hb : Below w.heap.size w w' := ⟨hg.os, hg.tape, hg.output, hg.size, fun k hk => hg.block k hk (by simp)⟩
  have h1 := h.call hb
  refine ⟨h1.below, fun p hp => ?_, List.pairwise_cons.2 ⟨fun p hp k hk hk2 => ?_, h.nodup⟩, fun f hf => ?_⟩
  · rcases List.mem_cons.1 hp with rfl | hp
    · exact ⟨hq, fun k hk => Nat.le_trans h.size (hn k hk)⟩
    · exact h1.own p hp
  · have := p.lt w (h.own p hp).1 k hk2
    have := hn k hk
    omega
  · obtain ⟨h2, h3, h4⟩ := h1.facts f hf
    refine ⟨h2, h3, fun p hp k hk => ?_⟩
    rcases List.mem_cons.1 hp with rfl | hp
    · have := (h.facts f hf).2.1
      have := hn k hk
      exact .inr (by omega)
    · exact h4 p hp k hk

theorem St.alloc (h : St w0 L F w) (t : TypeId) (cs : List Value) : St w0 (.blk w.heap.size t cs :: L) F (w.alloc (.cells cs.toArray t)) :=
  h.new (World.grownBy_alloc w _ none) (.blk w.heap.size t cs) (heap_alloc_new w _) (fun k hk => by injection hk with hk; omega)

/-- Something of the call's own is turned into something else, in its own block or a new one. -/
theorem St.upd (h : St w0 L F w) (i : Nat) {p : Own} (hp : L[i]? = some p) (hg : w.grownBy w' p.g) (q : Own) (hq : q.p w') (hn : ∀ k, q.g = some k → p.g = some k ∨ w.heap.size ≤ k) : St w0 (L.set i q) F w' := by
  have hi : i < L.length := by
    rcases Nat.lt_or_ge i L.length with h1 | h1
    · exact h1
    · rw [List.getElem?_eq_none h1] at hp; cases hp
  have ei : L[i] = p := by simpa [List.getElem?_eq_getElem hi] using hp
  have hnd := h.nodup
  rw [List.pairwise_iff_getElem] at hnd
  have hother : ∀ j (hj : j < L.length), j ≠ i → ∀ k, L[j].g = some k → some k ≠ p.g := by
    intro j hj hji k hk he
    rcases Nat.lt_or_gt_of_ne hji with hlt | hlt
    · exact hnd j i hj hi hlt k hk (by rw [ei, he])
    · exact hnd i j hi hj hlt k (by rw [ei, ← he]) hk
  have hk_lt : ∀ j (hj : j < L.length), ∀ k, L[j].g = some k → k < w.heap.size := fun j hj k hk => (L[j]).lt w (h.own _ (List.getElem_mem hj)).1 k hk
  have hmem : ∀ r ∈ L.set i q, r = q ∨ ∃ j, ∃ hj : j < L.length, j ≠ i ∧ r = L[j] := by
    intro r hr
    obtain ⟨j, hj, he⟩ := List.mem_iff_getElem.1 hr
    rw [List.length_set] at hj
    rw [List.getElem_set] at he
    by_cases hij : i = j
    · rw [if_pos hij] at he; exact .inl he.symm
    · rw [if_neg hij] at he; exact .inr ⟨j, hj, fun e => hij e.symm, he.symm⟩
  have hqlo : ∀ k, q.g = some k → w0.heap.size ≤ k := fun k hk => by
    rcases hn k hk with e | e
    · exact h.lo_ i hp k e
    · exact Nat.le_trans h.size e
  refine ⟨h.below.grown hg h.size (fun k hk => h.lo_ i hp k hk), fun r hr => ?_, ?_, fun f hf => ?_⟩
  · rcases hmem r hr with rfl | ⟨j, hj, hji, rfl⟩
    · exact ⟨hq, hqlo⟩
    · have ho := h.own _ (List.getElem_mem hj)
      exact ⟨(L[j]).dep w w' (fun k hk => hg.block k (hk_lt j hj k hk) (hother j hj hji k hk)) ho.1, ho.2⟩
  · rw [List.pairwise_iff_getElem]
    intro j1 j2 h1 h2 hlt k hk1 hk2
    rw [List.length_set] at h1 h2
    rw [List.getElem_set] at hk1 hk2
    by_cases e1 : i = j1
    · subst e1
      rw [if_pos rfl] at hk1
      rw [if_neg (by omega)] at hk2
      rcases hn k hk1 with e | e
      · exact hother j2 h2 (by omega) k hk2 e.symm
      · have := hk_lt j2 h2 k hk2; omega
    · rw [if_neg e1] at hk1
      by_cases e2 : i = j2
      · subst e2
        rw [if_pos rfl] at hk2
        rcases hn k hk2 with e | e
        · exact hother j1 h1 (by omega) k hk1 e.symm
        · have := hk_lt j1 h1 k hk1; omega
      · rw [if_neg e2] at hk2
        exact hnd j1 j2 h1 h2 hlt k hk1 hk2
  · obtain ⟨h1, h2, h3⟩ := h.facts f hf
    refine ⟨f.dep w w' (fun k hk1 hk2 => hg.block k (by omega) (fun e => by have := h3 p (List.mem_of_getElem? hp) k e.symm; omega)) h1, Nat.le_trans h2 hg.size, fun r hr k hk => ?_⟩
    rcases hmem r hr with rfl | ⟨j, hj, hji, rfl⟩
    · rcases hn k hk with e | e
      · exact h3 p (List.mem_of_getElem? hp) k e
      · exact .inr (by omega)
    · exact h3 _ (List.getElem_mem hj) k hk

theorem grownBy_setRow (w : World) (g : Nat) (cs : Array Value) : w.grownBy (w.setRow g cs) (some g) :=
  ⟨rfl, rfl, rfl, by simp, fun k _ hk => setRow_other w g k _ (fun e => hk (by rw [e]))⟩

/-- The row of the own block number i is turned. -/
theorem St.setRow (h : St w0 L F w) (i : Nat) {g : Nat} {t : TypeId} {cs : List Value} (hp : L[i]? = some (.blk g t cs)) (cs' : List Value) : St w0 (L.set i (.blk g t cs')) F (w.setRow g cs'.toArray) :=
  h.upd i hp (grownBy_setRow w g _) (.blk g t cs') (setRow_heap w g _ _ t _ (h.blk i hp)) (fun k hk => .inl hk)

/-- A thing of the call's own is let go. -/
theorem St.drop1 {p : Own} (h : St w0 (p :: L) F w) : St w0 L F w :=
  ⟨h.below, fun q hq => h.own q (List.mem_cons_of_mem _ hq), (List.pairwise_cons.1 h.nodup).2, fun f hf => ⟨(h.facts f hf).1, (h.facts f hf).2.1, fun q hq => (h.facts f hf).2.2 q (List.mem_cons_of_mem _ hq)⟩⟩
end St

def u8s (l : List UInt8) : List Value := l.map fun b => .int .u8 b.toNat
theorem u8s_length (l : List UInt8) : (u8s l).length = l.length := by simp [u8s]
theorem u8s_append (a b : List UInt8) : u8s (a ++ b) = u8s a ++ u8s b := by simp [u8s]
theorem u8s_take (a : List UInt8) (k : Nat) : (u8s a).take k = u8s (a.take k) := by simp [u8s]
theorem u8s_drop (a : List UInt8) (k : Nat) : (u8s a).drop k = u8s (a.drop k) := by simp [u8s]
theorem u8s_one (l : List UInt8) : ∀ v ∈ u8s l, v.oneCell' = true := by
  intro v hv; simp [u8s] at hv; obtain ⟨b, _, rfl⟩ := hv; rfl

theorem splice_two {α : Type} (Z X Y : List α) (h : Z.length = X.length + Y.length) : splice (splice Z 0 X) X.length Y = X ++ Y := by
  simp [splice, h]

end Go.Er
