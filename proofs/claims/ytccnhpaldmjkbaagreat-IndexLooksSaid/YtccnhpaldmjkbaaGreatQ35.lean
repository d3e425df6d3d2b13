/-
  Joined texts: JK. Lemmas; no statement of a law.
-/
import Derived.Test.YtccnhpaldmjkbaaGreatQ30
set_option linter.unusedSimpArgs false
set_option linter.unusedVariables false
namespace Go.Proofs.YtccnhpaldmjkbaaGreat
open Go Go.RowKit Go.Av
set_option maxRecDepth 100000
def idxE : List En → List Vl → Nat
  | [], _ => 0
  | e :: l, r => if cmpR e.r r < 0 then idxE l r + 1 else 0
theorem idxE_le : ∀ (l : List En) (r : List Vl), idxE l r ≤ l.length
  | [], r => Nat.le_refl _
  | y :: l, r => by
    have := idxE_le l r
    rw [idxE]
    split
    · rw [List.length_cons]; omega
    · omega
theorem idxE_lt : ∀ {l : List En} {r : List Vl} {y : En} {k : Nat}, k < idxE l r → l[k]? = some y → cmpR y.r r < 0
  | [], r, y, k, h, _ => by simp [idxE] at h
  | z :: l, r, y, k, h, hy => by
    rw [idxE] at h
    split at h
    · rename_i hz
      cases k with
      | zero => simp at hy; subst hy; exact hz
      | succ k => exact idxE_lt (l := l) (k := k) (by omega) (by simpa using hy)
    · omega
theorem idxE_at : ∀ {l : List En} {r : List Vl} {y : En}, l[idxE l r]? = some y → ¬ cmpR y.r r < 0
  | [], r, y, h => by simp at h
  | z :: l, r, y, h => by
    rw [idxE] at h
    split at h
    · exact idxE_at (l := l) (by simpa using h)
    · rename_i hz
      simp at h; subst h; exact hz
def insR : List En → Po → List En
  | [], x => [⟨x.r, x.n⟩]
  | e :: L, x => if cmpR e.r x.r < 0 then e :: insR L x else if 0 < cmpR e.r x.r then ⟨x.r, x.n⟩ :: e :: L else ⟨e.r, min e.n x.n⟩ :: L
theorem vR : ∀ (l : List En) (x : Po), (∀ y, l[idxE l x.r]? = some y → cmpR y.r x.r ≠ 0) → insR l x = l.take (idxE l x.r) ++ ⟨x.r, x.n⟩ :: l.drop (idxE l x.r)
  | [], x, _ => rfl
  | z :: l, x, h => by
    rw [insR, idxE]
    rw [idxE] at h
    split
    · rename_i hz
      rw [if_pos hz] at h
      rw [vR l x fun y hy => h y (by simpa using hy)]; rfl
    · rename_i hz
      rw [if_neg hz] at h
      have := h z (by simp)
      rw [if_pos (by omega)]; rfl
theorem vS : ∀ {l : List En} {x : Po} {y : En}, l[idxE l x.r]? = some y → cmpR y.r x.r = 0 → insR l x = l.set (idxE l x.r) ⟨y.r, min y.n x.n⟩
  | [], x, y, h, _ => by simp at h
  | z :: l, x, y, h, h0 => by
    rw [insR, idxE]
    rw [idxE] at h
    split
    · rename_i hz
      rw [if_pos hz] at h
      rw [vS (l := l) (by simpa using h) h0]; rfl
    · rename_i hz
      rw [if_neg hz] at h
      have : z = y := by simpa using h
      subst this
      rw [if_neg (by omega)]; rfl
theorem pY : ∀ {l : List En} {x : Po} {e : En}, e ∈ insR l x → e.r = x.r ∨ ∃ f ∈ l, f.r = e.r
  | [], x, e, h => .inl (by rw [List.mem_singleton.1 h])
  | z :: l, x, e, h => by
    rw [insR] at h
    split at h
    · rcases List.mem_cons.1 h with rfl | h
      · exact .inr ⟨e, by simp, rfl⟩
      · rcases pY h with h | ⟨f, h1, h2⟩
        · exact .inl h
        · exact .inr ⟨f, by simp [h1], h2⟩
    · split at h
      · rcases List.mem_cons.1 h with rfl | h
        · exact .inl rfl
        · exact .inr ⟨e, h, rfl⟩
      · rcases List.mem_cons.1 h with rfl | h
        · exact .inr ⟨z, by simp, rfl⟩
        · exact .inr ⟨e, by simp [h], rfl⟩
theorem vO : ∀ {l : List En} {x : Po}, (∀ v ∈ x.r, okP v) → (∀ f ∈ l, ∀ v ∈ f.r, okP v) → (∃ e ∈ insR l x, e.r = x.r) ∧ ∀ f ∈ l, ∃ e ∈ insR l x, e.r = f.r
  | [], x, _, _ => ⟨⟨⟨x.r, x.n⟩, by simp [insR], rfl⟩, fun f hf => by cases hf⟩
  | z :: l, x, hx, hl => by
    obtain ⟨⟨e, h1, h2⟩, h3⟩ := vO (l := l) (x := x) hx fun f hf => hl f (by simp [hf])
    rw [insR]
    split
    · refine ⟨⟨e, by simp [h1], h2⟩, fun f hf => ?_⟩
      rcases List.mem_cons.1 hf with rfl | hf
      · exact ⟨f, by simp, rfl⟩
      · obtain ⟨g, h4, h5⟩ := h3 f hf
        exact ⟨g, by simp [h4], h5⟩
    · split
      · refine ⟨⟨⟨x.r, x.n⟩, by simp, rfl⟩, fun f hf => ⟨f, by simp only [List.mem_cons] at hf ⊢; exact .inr hf, rfl⟩⟩
      · rename_i a b
        have := fB (hl z (by simp)) hx (by omega)
        refine ⟨⟨⟨z.r, min z.n x.n⟩, by simp, this⟩, fun f hf => ?_⟩
        rcases List.mem_cons.1 hf with rfl | hf
        · exact ⟨⟨f.r, min f.n x.n⟩, by simp, rfl⟩
        · exact ⟨f, by simp [hf], rfl⟩
theorem vQ : ∀ {l : List En} {x : Po}, srtE l → (∀ v ∈ x.r, okP v) → (∀ f ∈ l, ∀ v ∈ f.r, okP v) → ∀ e ∈ insR l x, (e ∈ l ∧ e.r ≠ x.r) ∨ (e.r = x.r ∧ ((∃ f ∈ l, f.r = x.r ∧ e.n = min f.n x.n) ∨ ((∀ f ∈ l, f.r ≠ x.r) ∧ e.n = x.n)))
  | [], x, _, _, _, e, h => .inr (by rw [List.mem_singleton.1 h]; exact ⟨rfl, .inr ⟨fun f hf => (by cases hf), rfl⟩⟩)
  | z :: l, x, hs, hx, hl, e, h => by
    obtain ⟨hs1, hs2⟩ := List.pairwise_cons.1 hs
    have ih := vQ (l := l) (x := x) hs2 hx fun f hf => hl f (by simp [hf])
    rw [insR] at h
    split at h
    · rename_i hz
      have hzx : z.r ≠ x.r := fun e => by rw [e, dE] at hz; omega
      rcases List.mem_cons.1 h with rfl | h
      · exact .inl ⟨by simp, hzx⟩
      · rcases ih e h with ⟨a, b⟩ | ⟨a, ⟨f, f1, f2, f3⟩ | ⟨f1, f2⟩⟩
        · exact .inl ⟨by simp [a], b⟩
        · exact .inr ⟨a, .inl ⟨f, by simp [f1], f2, f3⟩⟩
        · refine .inr ⟨a, .inr ⟨fun f hf => ?_, f2⟩⟩
          rcases List.mem_cons.1 hf with rfl | hf
          · exact hzx
          · exact f1 f hf
    · split at h
      · rename_i _ hz
        have hno : ∀ f ∈ z :: l, f.r ≠ x.r := fun f hf hfx => by
          rcases List.mem_cons.1 hf with rfl | hf
          · rw [hfx, dE] at hz; omega
          · have := hs1 f hf
            rw [hfx] at this
            omega
        rcases List.mem_cons.1 h with rfl | h
        · exact .inr ⟨rfl, .inr ⟨hno, rfl⟩⟩
        · exact .inl ⟨h, hno e h⟩
      · rename_i a b
        have hzx := fB (hl z (by simp)) hx (by omega)
        rcases List.mem_cons.1 h with rfl | h
        · exact .inr ⟨hzx, .inl ⟨z, by simp, hzx, rfl⟩⟩
        · refine .inl ⟨by simp [h], fun hex => ?_⟩
          have := hs1 e h
          rw [hex, hzx, dE] at this
          omega
theorem vU : ∀ {l : List En} {x : Po}, srtE l → (∀ v ∈ x.r, okP v) → (∀ f ∈ l, ∀ v ∈ f.r, okP v) → srtE (insR l x)
  | [], x, _, _, _ => List.pairwise_singleton _ _
  | z :: l, x, hs, hx, hl => by
    obtain ⟨hs1, hs2⟩ := List.pairwise_cons.1 hs
    have ih := vU (l := l) (x := x) hs2 hx fun f hf => hl f (by simp [hf])
    rw [insR]
    split
    · rename_i hz
      refine List.pairwise_cons.2 ⟨fun e he => ?_, ih⟩
      rcases pY he with h | ⟨f, h1, h2⟩
      · rw [h]; exact hz
      · rw [← h2]; exact hs1 f h1
    · split
      · rename_i _ hz
        have hxz : cmpR x.r z.r < 0 := by have := gc_R.anti z.r x.r; omega
        refine List.pairwise_cons.2 ⟨fun e he => ?_, hs⟩
        rcases List.mem_cons.1 he with rfl | he
        · exact hxz
        · exact gc_R.lt hxz (hs1 e he)
      · refine List.pairwise_cons.2 ⟨fun e he => hs1 e he, hs2⟩
def rowsP (p : List Po) : List En := p.foldl insR []
theorem gK (q : List Po) (x : Po) : rowsP (q ++ [x]) = insR (rowsP q) x := by unfold rowsP; rw [List.foldl_append]; rfl
theorem zT {p : List Po} {i : Nat} {x : Po} (h : p[i]? = some x) : rowsP (p.take (i + 1)) = insR (rowsP (p.take i)) x := by
  rw [List.take_add_one, h, Option.toList_some, gK]
structure RowsI (q : List Po) : Prop where
  srt : srtE (rowsP q)
  row : ∀ e ∈ rowsP q, ∃ x ∈ q, x.r = e.r
  hit : ∀ e ∈ rowsP q, (∃ x ∈ q, x.r = e.r ∧ x.n = e.n) ∧ ∀ x ∈ q, x.r = e.r → e.n ≤ x.n
  all : ∀ x ∈ q, ∃ e ∈ rowsP q, e.r = x.r
theorem wR (q : List Po) : (∀ x ∈ q, ∀ v ∈ x.r, okP v) → RowsI q := by
  refine snocI (p := fun q => (∀ x ∈ q, ∀ v ∈ x.r, okP v) → RowsI q) (fun _ => ⟨List.Pairwise.nil, fun e he => (by cases he), fun e he => (by cases he), fun e he => (by cases he)⟩) (fun q x ih ho => ?_) q
  obtain ⟨h1, h2, h3, h4⟩ := ih fun y hy => ho y (by simp [hy])
  have hx := ho x (by simp)
  have hl : ∀ f ∈ rowsP q, ∀ v ∈ f.r, okP v := fun f hf => by
    obtain ⟨y, y1, y2⟩ := h2 f hf
    rw [← y2]; exact ho y (by simp [y1])
  obtain ⟨k1, k2⟩ := vO hx hl
  have hm := vQ h1 hx hl
  rw [← gK] at k1 k2 hm
  refine ⟨by rw [gK]; exact vU h1 hx hl, fun e he => ?_, fun e he => ?_, fun y hy => ?_⟩
  · rcases hm e he with ⟨a, _⟩ | ⟨a, _⟩
    · obtain ⟨y, y1, y2⟩ := h2 e a
      exact ⟨y, by simp [y1], y2⟩
    · exact ⟨x, by simp, a.symm⟩
  · rcases hm e he with ⟨a, b⟩ | ⟨a, ⟨f, f1, f2, f3⟩ | ⟨f1, f2⟩⟩
    · obtain ⟨⟨y, y1, y2⟩, y3⟩ := h3 e a
      refine ⟨⟨y, by simp [y1], y2⟩, fun z hz hzr => ?_⟩
      rcases List.mem_append.1 hz with hz | hz
      · exact y3 z hz hzr
      · rw [List.mem_singleton.1 hz] at hzr
        exact absurd hzr.symm b
    · obtain ⟨⟨y, y1, y2, y4⟩, y3⟩ := h3 f f1
      refine ⟨?_, fun z hz hzr => ?_⟩
      · by_cases hle : f.n ≤ x.n
        · exact ⟨y, by simp [y1], by rw [y2, f2, a], by omega⟩
        · exact ⟨x, by simp, a.symm, by omega⟩
      · rcases List.mem_append.1 hz with hz | hz
        · have := y3 z hz (by rw [hzr, a, f2])
          omega
        · rw [List.mem_singleton.1 hz]; omega
    · refine ⟨⟨x, by simp, a.symm, f2.symm⟩, fun z hz hzr => ?_⟩
      rcases List.mem_append.1 hz with hz | hz
      · obtain ⟨g, g1, g2⟩ := h4 z hz
        exact absurd (g2.trans (hzr.trans a)) (f1 g g1)
      · rw [List.mem_singleton.1 hz]; omega
  · rcases List.mem_append.1 hy with hy | hy
    · obtain ⟨g, g1, g2⟩ := h4 y hy
      obtain ⟨e, e1, e2⟩ := k2 g g1
      exact ⟨e, e1, e2.trans g2⟩
    · rw [List.mem_singleton.1 hy]; exact k1
theorem vP : ∀ (l : List En) (x : Po), (insR l x).length ≤ l.length + 1
  | [], x => Nat.le_refl _
  | z :: l, x => by
    have := vP l x
    rw [insR]
    split
    · rw [List.length_cons, List.length_cons]; omega
    · split
      · rw [List.length_cons]; omega
      · rw [List.length_cons, List.length_cons]; omega
theorem rowsP_len (q : List Po) : (rowsP q).length ≤ q.length := by
  refine snocI (p := fun q => (rowsP q).length ≤ q.length) (Nat.le_refl _) (fun q x ih => ?_) q
  have := vP (rowsP q) x
  rw [gK, List.length_append, List.length_singleton]; omega
theorem vN {ws : List Wd} {p : List Po} {e f : En} (he : Hit ws p e) (hf : Hit ws p f) (h : e.r = f.r) : e = f := by
  obtain ⟨⟨x, x1, x2⟩, x3, _⟩ := he
  obtain ⟨⟨y, y1, y2⟩, y3, _⟩ := hf
  rw [h] at x1 x3
  have h1 := x3 y y1
  have h2 := y3 x x1
  obtain ⟨er, en⟩ := e
  obtain ⟨fr, fn⟩ := f
  simp only at *
  rw [h, show en = fn by omega]
theorem wQ {p : List Po} (hp : p.Pairwise fun x y => cmpP x y < 0) (ho : ∀ x ∈ p, ∀ v ∈ x.r, okP v) : rowsP p = srchP p [] := by
  obtain ⟨h1, h2, h3, h4⟩ := wR p ho
  have hh : ∀ e ∈ rowsP p, Hit [] p e := fun e he => by
    obtain ⟨⟨x, x1, x2, x4⟩, x3⟩ := h3 e he
    refine ⟨⟨x, mine_mem.2 ⟨x1, .inl rfl, x2⟩, x4⟩, fun y hy => ?_, fun w hw => (by cases hw)⟩
    obtain ⟨y1, _, y2⟩ := mine_mem.1 hy
    exact x3 y y1 y2
  refine lS hp ho h1 fun e => ⟨hh e, fun he => ?_⟩
  obtain ⟨x, x1, x2⟩ := he.some
  obtain ⟨y1, _, y2⟩ := mine_mem.1 x1
  obtain ⟨f, f1, f2⟩ := h4 x y1
  rw [vN he (hh f f1) (y2.symm.trans f2.symm)]
  exact f1
def bothK (e : En) (b : List En) : List En := (b.filter fun f => decide (cmpR e.r f.r = 0)).map fun f => ⟨e.r, min e.n f.n⟩
def bothM (a b : List En) : List En := a.flatMap fun e => bothK e b
theorem yM {e f : En} {b : List En} {j : Nat} (h : b[j]? = some f) : bothK e (b.take (j + 1)) = if cmpR e.r f.r = 0 then bothK e (b.take j) ++ [⟨e.r, min e.n f.n⟩] else bothK e (b.take j) := by
  unfold bothK
  rw [List.take_add_one, h, Option.toList_some, List.filter_append]
  by_cases hw : cmpR e.r f.r = 0
  · rw [if_pos hw, List.filter_cons, if_pos (decide_eq_true hw), List.map_append]; rfl
  · rw [if_neg hw, List.filter_cons, if_neg (fun h => hw (of_decide_eq_true h))]; simp
theorem yN {a b : List En} {k : Nat} {e : En} (h : a[k]? = some e) : bothM (a.take (k + 1)) b = bothM (a.take k) b ++ bothK e b := by
  unfold bothM
  rw [List.take_add_one, h, Option.toList_some, List.flatMap_append]
  simp
theorem bothK_mem {e g : En} {b : List En} : g ∈ bothK e b ↔ ∃ f ∈ b, cmpR e.r f.r = 0 ∧ g = ⟨e.r, min e.n f.n⟩ := by
  unfold bothK
  constructor
  · intro h
    obtain ⟨f, hf, rfl⟩ := List.mem_map.1 h
    obtain ⟨h1, h2⟩ := List.mem_filter.1 hf
    exact ⟨f, h1, of_decide_eq_true h2, rfl⟩
  · rintro ⟨f, h1, h2, rfl⟩
    exact List.mem_map.2 ⟨f, List.mem_filter.2 ⟨h1, decide_eq_true h2⟩, rfl⟩
theorem bothM_mem {a b : List En} {g : En} : g ∈ bothM a b ↔ ∃ e ∈ a, ∃ f ∈ b, cmpR e.r f.r = 0 ∧ g = ⟨e.r, min e.n f.n⟩ := by
  unfold bothM
  rw [List.mem_flatMap]
  exact ⟨fun ⟨e, h1, h2⟩ => ⟨e, h1, bothK_mem.1 h2⟩, fun ⟨e, h1, h2⟩ => ⟨e, h1, bothK_mem.2 h2⟩⟩
theorem rL {e : En} {b : List En} (hb : srtE b) (he : ∀ v ∈ e.r, okP v) (ho : ∀ f ∈ b, ∀ v ∈ f.r, okP v) : (bothK e b).length ≤ 1 := by
  unfold bothK
  rw [List.length_map]
  have h : (b.filter fun f => decide (cmpR e.r f.r = 0)).Pairwise fun _ _ => False := by
    refine (List.Pairwise.and_mem.1 (hb.filter _)).imp fun {x y} ⟨hx, hy, h⟩ => ?_
    obtain ⟨x1, x2⟩ := List.mem_filter.1 hx
    obtain ⟨y1, y2⟩ := List.mem_filter.1 hy
    have e1 := fB he (ho x x1) (of_decide_eq_true x2)
    have e2 := fB he (ho y y1) (of_decide_eq_true y2)
    rw [← e1, ← e2, dE] at h
    omega
  generalize b.filter (fun f => decide (cmpR e.r f.r = 0)) = L at h ⊢
  match L, h with
  | [], _ => exact Nat.zero_le _
  | [_], _ => exact Nat.le_refl _
  | x :: y :: l, h => exact False.elim ((List.pairwise_cons.1 h).1 y (by simp))
theorem bothM_srt {a b : List En} (ha : srtE a) (hb : srtE b) (oa : ∀ f ∈ a, ∀ v ∈ f.r, okP v) (ob : ∀ f ∈ b, ∀ v ∈ f.r, okP v) : srtE (bothM a b) := by
  unfold srtE bothM
  rw [List.pairwise_flatMap]
  refine ⟨fun e he => ?_, ha.imp fun {x y} h g hg g' hg' => ?_⟩
  · have h1 := rL hb (oa e he) ob
    match bothK e b, h1 with
    | [], _ => exact List.Pairwise.nil
    | [_], _ => exact List.pairwise_singleton _ _
    | x :: y :: l, h => simp at h
  · obtain ⟨f, _, _, rfl⟩ := bothK_mem.1 hg
    obtain ⟨f', _, _, rfl⟩ := bothK_mem.1 hg'
    exact h
theorem rM {a b : List En} (hb : srtE b) (oa : ∀ f ∈ a, ∀ v ∈ f.r, okP v) (ob : ∀ f ∈ b, ∀ v ∈ f.r, okP v) : (bothM a b).length ≤ a.length := by
  induction a with
  | nil => exact Nat.zero_le _
  | cons e a ih =>
    have h1 := rL hb (oa e (by simp)) ob
    have h2 := ih fun f hf => oa f (by simp [hf])
    have h3 : bothM (e :: a) b = bothK e b ++ bothM a b := by unfold bothM; rw [List.flatMap_cons]
    rw [h3, List.length_append, List.length_cons]
    omega
theorem po_uniq {p : List Po} (hp : p.Pairwise fun x y => cmpP x y < 0) {x y : Po} (hx : x ∈ p) (hy : y ∈ p) (h1 : x.w = y.w) (h2 : x.r = y.r) : x = y := by
  obtain ⟨i, hi⟩ := List.mem_iff_getElem?.1 hx
  obtain ⟨j, hj⟩ := List.mem_iff_getElem?.1 hy
  obtain ⟨i1, i2⟩ := List.getElem?_eq_some_iff.1 hi
  obtain ⟨j1, j2⟩ := List.getElem?_eq_some_iff.1 hj
  have hc := mY h1 h2
  have hc2 := mY h1.symm h2.symm
  rcases Nat.lt_trichotomy i j with h | h | h
  · have := List.pairwise_iff_getElem.1 hp i j i1 j1 h
    rw [i2, j2] at this; omega
  · subst h; rw [hi] at hj; injection hj
  · have := List.pairwise_iff_getElem.1 hp j i j1 i1 h
    rw [i2, j2] at this; omega
theorem lk_hit {p : List Po} (hp : p.Pairwise fun x y => cmpP x y < 0) {w : Wd} {e : En} : e ∈ lkP p w ↔ Hit [w] p e := by
  have hw : ∀ y : Po, okW [w] y.w ↔ y.w = w := fun y => by unfold okW; simp
  rw [lk_mem]
  constructor
  · rintro ⟨x, x1, x2, x3, x4⟩
    refine ⟨⟨x, mine_mem.2 ⟨x1, (hw x).2 x2, x3⟩, x4⟩, fun y hy => ?_, fun u hu => ⟨x, x1, x2.trans (List.mem_singleton.1 hu).symm, x3⟩⟩
    obtain ⟨y1, y2, y3⟩ := mine_mem.1 hy
    have := po_uniq hp x1 y1 (x2.trans ((hw y).1 y2).symm) (x3.trans y3.symm)
    rw [← this]; omega
  · rintro ⟨⟨x, x1, x2⟩, _, _⟩
    obtain ⟨y1, y2, y3⟩ := mine_mem.1 x1
    exact ⟨x, y1, (hw x).1 y2, y3, x2⟩
theorem lk_srch {p : List Po} (hp : p.Pairwise fun x y => cmpP x y < 0) (ho : ∀ x ∈ p, ∀ v ∈ x.r, okP v) (w : Wd) : lkP p w = srchP p [w] :=
  lS hp ho (zK hp w) fun _ => lk_hit hp
theorem lk_ok {p : List Po} (ho : ∀ x ∈ p, ∀ v ∈ x.r, okP v) (w : Wd) : ∀ e ∈ lkP p w, ∀ v ∈ e.r, okP v := fun e he => by
  obtain ⟨x, x1, _, x3, _⟩ := lk_mem.1 he
  rw [← x3]; exact ho x x1
theorem uE {p : List Po} {ws : List Wd} (hp : p.Pairwise fun x y => cmpP x y < 0) (ho : ∀ x ∈ p, ∀ v ∈ x.r, okP v) : ∀ e ∈ srchP p ws, ∀ v ∈ e.r, okP v := fun e he => by
  obtain ⟨x, hx, _⟩ := ((fN hp e).1 he).some
  obtain ⟨x1, _, x3⟩ := mine_mem.1 hx
  rw [← x3]; exact ho x x1
theorem srch_more {p : List Po} (hp : p.Pairwise fun x y => cmpP x y < 0) (ho : ∀ x ∈ p, ∀ v ∈ x.r, okP v) {us : List Wd} (h0 : us ≠ []) (u : Wd) : bothM (srchP p us) (lkP p u) = srchP p (us ++ [u]) := by
  have hf : ∀ e ∈ bothM (srchP p us) (lkP p u), Hit (us ++ [u]) p e := fun g hg => by
    obtain ⟨e, he, f, hf, hr, rfl⟩ := bothM_mem.1 hg
    have hr := fB (uE hp ho e he) (lk_ok ho u f hf) hr
    obtain ⟨⟨x, x1, x2⟩, x3, x4⟩ := (fN hp e).1 he
    obtain ⟨y, y1, y2, y3, y4⟩ := lk_mem.1 hf
    obtain ⟨z1, z2, z3⟩ := mine_mem.1 x1
    have z2 : x.w ∈ us := z2.elim (fun h => absurd h h0) id
    refine ⟨?_, fun z hz => ?_, fun w hw => ?_⟩
    · by_cases hle : e.n ≤ f.n
      · exact ⟨x, mine_mem.2 ⟨z1, .inr (by simp [z2]), z3⟩, by show x.n = min e.n f.n; omega⟩
      · exact ⟨y, mine_mem.2 ⟨y1, .inr (by simp [y2]), y3.trans hr.symm⟩, by show y.n = min e.n f.n; omega⟩
    · obtain ⟨q1, q2, q3⟩ := mine_mem.1 hz
      show min e.n f.n ≤ z.n
      rcases q2 with q2 | q2
      · simp at q2
      · rcases List.mem_append.1 q2 with q2 | q2
        · have := x3 z (mine_mem.2 ⟨q1, .inr q2, q3⟩)
          omega
        · have := po_uniq hp y1 q1 (y2.trans (List.mem_singleton.1 q2).symm) (y3.trans (hr.symm.trans q3.symm))
          rw [← this]; omega
    · rcases List.mem_append.1 hw with hw | hw
      · exact x4 w hw
      · exact ⟨y, y1, y2.trans (List.mem_singleton.1 hw).symm, y3.trans hr.symm⟩
  refine lS hp ho (bothM_srt (sQ ho) (zK hp u) (uE hp ho) (lk_ok ho u)) fun e => ⟨hf e, fun he => ?_⟩
  have h1 := (srch_row hp h0 e.r).2 fun w hw => he.all w (by simp [hw])
  obtain ⟨g, g1, g2⟩ := List.mem_map.1 h1
  obtain ⟨y, y1, y2, y3⟩ := he.all u (by simp)
  have hk : (⟨g.r, min g.n y.n⟩ : En) ∈ bothM (srchP p us) (lkP p u) := bothM_mem.2 ⟨g, g1, ⟨y.r, y.n⟩, lk_mem.2 ⟨y, y1, y2, rfl, rfl⟩, by show cmpR g.r y.r = 0; rw [g2, y3, dE], rfl⟩
  rw [vN he (hf _ hk) g2.symm]
  exact hk
end Go.Proofs.YtccnhpaldmjkbaaGreat
