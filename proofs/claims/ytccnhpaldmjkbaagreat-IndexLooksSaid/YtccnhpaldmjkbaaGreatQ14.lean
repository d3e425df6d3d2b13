/-
  Joined texts: AvR. Lemmas; no statement of a law.
-/
import Derived.ChangeOld
import Derived.ChangeSlices
import Derived.ShutString
import Derived.Test.YtccnhpaldmjkbaaGreatQ2
set_option linter.unusedSimpArgs false
set_option linter.unusedVariables false
namespace Go.Av
open Go Go.RowKit

section
variable {H : Type} {enc : TypeId × Value → H} {P : Program} {W : World} {base : Nat} {sp : Nat → Bool} {held : Bool}
abbrev RC (W : World) (xs : List CV) (cs : List Value) : Prop := RepCs (fun _ => True) W xs cs ∧ ∀ u ∈ cs, u.oneCell' = true
def Opens (enc : TypeId × Value → H) (P : Program) (W : World) (base : Nat) (sp : Nat → Bool) (held : Bool) (t : TypeId) (R : List CV → Prop) : Prop :=
  ∀ fuel cs y, DataW.trod enc P W base sp held fuel t cs = some y → ∃ xs, RC W xs cs ∧ R xs

theorem RC.app {xs ys : List CV} {cs ds : List Value} (h : RC W xs cs) (k : RC W ys ds) : RC W (xs ++ ys) (cs ++ ds) :=
  ⟨h.1.append k.1, fun u hu => (List.mem_append.1 hu).elim (h.2 u) (k.2 u)⟩
theorem op_int {t : TypeId} {k : IntKind} (hu : P.underlying t = some (.int k)) : Opens enc P W base sp held t fun xs => ∃ m, xs = [.v (.int k m)] ∧ (Lit.int k m).wf = true := by
  intro fuel cs y h
  obtain ⟨n, rfl, _, hw⟩ := DataW.trod_int hu h
  exact ⟨[.v (.int k n)], ⟨⟨_, _, rfl, rfl, rfl⟩, by simp [Value.oneCell']⟩, n, rfl, hw⟩
theorem op_bool {t : TypeId} (hu : P.underlying t = some .bool) : Opens enc P W base sp held t fun xs => ∃ m, xs = [.v (.bool m)] := by
  intro fuel cs y h
  obtain ⟨n, rfl, _⟩ := DataW.trod_bool hu h
  exact ⟨[.v (.bool n)], ⟨⟨_, _, rfl, rfl, rfl⟩, by simp [Value.oneCell']⟩, n, rfl⟩
theorem op_str {t : TypeId} (hu : P.underlying t = some .string) : Opens enc P W base sp held t fun xs => ∃ s, xs = [.v (.string s)] ∧ s.size ≤ maxLen := by
  intro fuel cs y h
  obtain ⟨n, rfl, _, hs⟩ := DataW.trod_string hu h
  exact ⟨[.v (.string n)], ⟨⟨_, _, rfl, rfl, rfl⟩, by simp [Value.oneCell']⟩, n, rfl, hs⟩

theorem sC {α β : Type} {f : α → Option β} : ∀ {L : List α} {ys : List β}, L.mapM f = some ys → ∀ x ∈ L, ∃ y, f x = some y
  | [], ys, h, x, hx => by cases hx
  | a :: L, ys, h, x, hx => by
    rw [List.mapM_cons] at h
    simp only [bind, Option.bind_eq_some_iff, pure, Option.some.injEq] at h
    obtain ⟨y, hy, zs, hz, rfl⟩ := h
    rcases List.mem_cons.1 hx with rfl | hx
    · exact ⟨y, hy⟩
    · exact sC hz x hx

theorem sF {R : List CV → Prop} {s : Nat} : ∀ (n : Nat) {cs : List Value}, cs.length = n * s → (∀ i, i < n → ∃ xs, RC W xs ((cs.drop (i * s)).take s) ∧ R xs) → ∃ ls : List (List CV), ls.length = n ∧ RC W ls.flatten cs ∧ ∀ l ∈ ls, R l ∧ l.length = s
  | 0, cs, hl, _ => by
    have : cs = [] := List.eq_nil_of_length_eq_zero (by simpa using hl)
    subst this
    exact ⟨[], rfl, ⟨rfl, by simp⟩, by simp⟩
  | n + 1, cs, hl, h => by
    rw [Nat.succ_mul] at hl
    obtain ⟨xs, hx, hr⟩ := h 0 (by omega)
    rw [Nat.zero_mul, List.drop_zero] at hx
    obtain ⟨ls, h1, h2, h3⟩ := sF (R := R) (s := s) n (cs := cs.drop s) (by rw [List.length_drop]; omega) (fun i hi => by
      obtain ⟨ys, hy, hr⟩ := h (i + 1) (by omega)
      refine ⟨ys, ?_, hr⟩
      rw [List.drop_drop, show s + i * s = (i + 1) * s by rw [Nat.succ_mul]; omega]
      exact hy)
    refine ⟨xs :: ls, by simp [h1], ?_, fun l hl' => ?_⟩
    · have := hx.app h2
      rwa [List.take_append_drop] at this
    · rcases List.mem_cons.1 hl' with rfl | hl'
      · refine ⟨hr, ?_⟩
        rw [← hx.1.length, List.length_take]
        omega
      · exact h3 l hl'
theorem op_arr {t e : TypeId} {n s : Nat} {R : List CV → Prop} (hu : P.underlying t = some (.array n e)) (hs : P.cellsOf e = s) (hct : P.cellsOf t = n * s) (he : Opens enc P W base sp held e R) : Opens enc P W base sp held t fun xs => ∃ ls : List (List CV), xs = ls.flatten ∧ ls.length = n ∧ ∀ l ∈ ls, R l ∧ l.length = s := by
  intro fuel cs y h
  cases fuel with
  | zero => simp [DataW.trod] at h
  | succ m =>
    rw [DataW.trod_step] at h
    unfold DataW.trodStep at h
    simp only [hu] at h
    split at h
    · rename_i hl
      simp only [Option.map_eq_some_iff] at h
      obtain ⟨ys, hy, _⟩ := h
      rw [hs] at hy
      obtain ⟨ls, h1, h2, h3⟩ := sF (R := R) (s := s) n (cs := cs) (by rw [hl, hct]) (fun i hi => by
        obtain ⟨z, hz⟩ := sC hy i (List.mem_range.2 hi)
        exact he m _ _ hz)
      exact ⟨_, h2, ls, rfl, h1, h3⟩
    · cases h
theorem cells_get {a : Addr} {n : Nat} {cs : List Value} (h : W.cells? base a n = some cs) : cs.length = n ∧ ∀ j, j < n → W.cell? (a.add j) = cs[j]? := by
  unfold World.cells? at h
  split at h
  · have key : ∀ (L : List Nat) (cs : List Value), L.mapM (fun i => W.cell? (a.add i)) = some cs → cs.length = L.length ∧ ∀ (j x : Nat), L[j]? = some x → W.cell? (a.add x) = cs[j]? := by
      intro L
      induction L with
      | nil => intro cs h; simp at h; subst h; simp
      | cons x L ih =>
        intro cs h
        rw [List.mapM_cons] at h
        simp only [bind, Option.bind_eq_some_iff, pure, Option.some.injEq] at h
        obtain ⟨y, hy, zs, hz, rfl⟩ := h
        obtain ⟨h1, h2⟩ := ih zs hz
        refine ⟨by simp [h1], fun j z hj => ?_⟩
        cases j with
        | zero => simp at hj; subst hj; simpa using hy
        | succ j => simpa using h2 j z (by simpa using hj)
    obtain ⟨h1, h2⟩ := key _ _ h
    exact ⟨by simpa using h1, fun j hj => h2 j j (by simp [hj])⟩
  · cases h
theorem addr_add (a : Addr) (i j : Nat) : (a.add i).add j = a.add (i + j) := by
  unfold Addr.add
  by_cases hi : i = 0 <;> by_cases hj : j = 0 <;> simp [hi, hj, Nat.add_assoc]
theorem rc_rows {R : List CV → Prop} {s : Nat} {a : Addr} : ∀ (n : Nat), (∀ i, i < n → ∃ ci xs, W.cells? base (a.add (i * s)) s = some ci ∧ RC W xs ci ∧ R xs) →
    ∃ (us : List Value) (ls : List (List CV)), us.length = n * s ∧ (∀ j, j < n * s → W.cell? (a.add j) = us[j]?) ∧ ls.length = n ∧ RC W ls.flatten us ∧ ∀ l ∈ ls, R l ∧ l.length = s
  | 0, _ => ⟨[], [], by simp, by simp, rfl, ⟨rfl, by simp⟩, by simp⟩
  | n + 1, h => by
    obtain ⟨us, ls, h1, h2, h3, h4, h5⟩ := rc_rows n (fun i hi => h i (by omega))
    obtain ⟨ci, xs, k1, k2, k3⟩ := h n (by omega)
    obtain ⟨k4, k5⟩ := cells_get k1
    refine ⟨us ++ ci, ls ++ [xs], by rw [List.length_append, h1, k4, Nat.succ_mul], fun j hj => ?_, by simp [h3], ?_, fun l hl => ?_⟩
    · rw [Nat.succ_mul] at hj
      rcases Nat.lt_or_ge j (n * s) with hlt | hge
      · rw [List.getElem?_append_left (by omega)]; exact h2 j hlt
      · rw [List.getElem?_append_right (by omega), h1, ← k5 (j - n * s) (by omega), addr_add]
        congr 2
        omega
    · have := h4.app k2
      simpa using this
    · rcases List.mem_append.1 hl with hl | hl
      · exact h5 l hl
      · rw [List.mem_singleton] at hl
        subst hl
        exact ⟨k3, by rw [← k2.1.length]; exact k4⟩
theorem uD {x : Addr} {u : Value} (h : W.cell? x = some u) : x.spot = none ∧ x.block < W.heap.size := by
  unfold World.cell? at h
  split at h
  · rename_i cs t fz hb
    split at h
    · cases h
    · rename_i hsp
      exact ⟨by simpa using hsp, bN hb⟩
  · cases h
theorem op_slice {t e : TypeId} {s : Nat} {R : List CV → Prop} (hu : P.underlying t = some (.slice e)) (hs : P.cellsOf e = s) (h0 : 0 < s) (he : Opens enc P W base sp held e R) : Opens enc P W base sp held t fun xs => ∃ ls : List (List CV), xs = [.sl s ls.length ls.flatten] ∧ ls.length ≤ maxLen ∧ ∀ l ∈ ls, R l ∧ l.length = s := by
  intro fuel cs y h
  rcases DataW.trod_slice hu h with ⟨rfl, _⟩ | ⟨a, len, cap, elems, rest, n, _, rfl, rfl, hb, hl, hm, hlen, hel, hsp, hns⟩
  · refine ⟨[.sl s 0 []], ⟨⟨_, _, rfl, ?_, rfl⟩, by simp [Value.oneCell']⟩, [], rfl, by simp [maxLen], by simp⟩
    exact ⟨none, 0, [], rfl, Nat.le_refl _, by simp [maxLen], by simp, by simp [RepCs], by simp, fun h => absurd h (by omega)⟩
  · rw [hs] at hel
    obtain ⟨us, ls, h1, h2, h3, h4, h5⟩ := rc_rows (R := R) (s := s) (a := a) (W := W) (base := base) len (fun i hi => by
      have := hel i hi
      rw [List.getElem?_eq_getElem (by omega)] at this
      rw [Option.bind_eq_some_iff] at this
      obtain ⟨ci, k1, k2⟩ := this
      obtain ⟨xs, k3, k4⟩ := he _ _ _ k2
      exact ⟨ci, xs, k1, k3, k4⟩)
    refine ⟨[.sl s len ls.flatten], ⟨⟨_, _, rfl, ?_, rfl⟩, by simp [Value.oneCell']⟩, ls, by rw [h3], by omega, h5⟩
    have hfl : ls.flatten.length = len * s := by rw [← h4.1.length, h1]
    refine ⟨some a, cap, us, rfl, hl, hm, hfl, h4.1, h4.2, fun hn => ?_⟩
    have hpos : 0 < len * s := Nat.mul_pos hn h0
    have hc0 := h2 0 hpos
    rw [List.getElem?_eq_getElem (by omega)] at hc0
    obtain ⟨e1, e2⟩ := uD hc0
    obtain ⟨b, o, spt⟩ := a
    simp only [Addr.add] at e1 e2
    subst e1
    refine ⟨b, o, rfl, trivial, e2, fun j x hj => ?_⟩
    have hjl : j < len * s := by
      rw [← h1]
      exact (List.getElem?_eq_some_iff.1 hj).1
    have := h2 j hjl
    rw [hj, gG] at this
    exact this
def OpF (enc : TypeId × Value → H) (P : Program) (W : World) (base : Nat) (sp : Nat → Bool) (held : Bool) (off : Nat) (fs : List Field) (R : List CV → Prop) : Prop :=
  ∀ (fuel : Nat) (cs : List Value) ys, fs.mapM (fun f => DataW.trod enc P W base sp held fuel f.type ((cs.drop f.offset).take (P.cellsOf f.type))) = some ys → cs.length = off + (fs.map fun f => P.cellsOf f.type).sum → ∃ xs, RC W xs (cs.drop off) ∧ R xs
theorem opf_nil {off : Nat} : OpF enc P W base sp held off [] fun xs => xs = [] := by
  intro fuel cs ys h hl
  simp at hl
  exact ⟨[], ⟨by rw [List.drop_of_length_le (by omega)]; rfl, by rw [List.drop_of_length_le (by omega)]; simp⟩, rfl⟩
theorem opf_cons {off s : Nat} {f : Field} {fs : List Field} {R1 R2 : List CV → Prop} (hoff : f.offset = off) (hs : P.cellsOf f.type = s) (he : Opens enc P W base sp held f.type R1) (hr : OpF enc P W base sp held (off + s) fs R2) : OpF enc P W base sp held off (f :: fs) fun xs => ∃ a b, xs = a ++ b ∧ R1 a ∧ R2 b := by
  intro fuel cs ys h hl
  rw [List.mapM_cons] at h
  simp only [bind, Option.bind_eq_some_iff, pure, Option.some.injEq] at h
  obtain ⟨y, hy, zs, hz, rfl⟩ := h
  simp only [List.map_cons, List.sum_cons, hs] at hl
  obtain ⟨b, h1, h2⟩ := hr fuel cs zs hz (by omega)
  obtain ⟨a, h3, h4⟩ := he _ _ _ hy
  refine ⟨a ++ b, ?_, a, b, rfl, h4, h2⟩
  rw [hoff, hs] at h3
  have := h3.app h1
  rw [← List.drop_drop, List.take_append_drop] at this
  exact this
theorem op_struct {t : TypeId} {fs : List Field} {R : List CV → Prop} (hu : P.underlying t = some (.struct fs.toArray)) (hc : P.cellsOf t = (fs.map fun f => P.cellsOf f.type).sum) (hf : OpF enc P W base sp held 0 fs R) : Opens enc P W base sp held t R := by
  intro fuel cs y h
  cases fuel with
  | zero => simp [DataW.trod] at h
  | succ m =>
    rw [DataW.trod_step] at h
    unfold DataW.trodStep at h
    simp only [hu] at h
    split at h
    · rename_i hl
      simp only [Option.map_eq_some_iff] at h
      obtain ⟨ys, hy, _⟩ := h
      obtain ⟨xs, h1, h2⟩ := hf m cs ys (by simpa using hy) (by rw [hl, hc]; omega)
      rw [List.drop_zero] at h1
      exact ⟨xs, h1, h2⟩
    · cases h

theorem arg_one {t : TypeId} {v : Value} {d : DataW H} {p : List MemPlace} {R : List CV → Prop} (he : Opens enc P W base sp held t R) (h : DataW.Trod enc P W base sp held t v d p) (hv : v.cells = #[v]) : ∃ x, RepC (fun _ => True) W x v ∧ R [x] := by
  obtain ⟨fuel, hf⟩ := h
  rw [hv] at hf
  obtain ⟨xs, h1, h2⟩ := he _ _ _ hf
  obtain ⟨h1, _⟩ := h1
  cases xs with
  | nil => simp [RepCs] at h1
  | cons x xs =>
    simp only [RepCs] at h1
    obtain ⟨u, us, e, h3, h4⟩ := h1
    injection e with e1 e2
    subst e1 e2
    cases xs with
    | nil => exact ⟨x, h3, h2⟩
    | cons y ys => simp [RepCs] at h4
theorem arg_agg {t : TypeId} {cs : Array Value} {d : DataW H} {p : List MemPlace} {R : List CV → Prop} (he : Opens enc P W base sp held t R) (h : DataW.Trod enc P W base sp held t (.agg cs) d p) : ∃ xs, RepC (fun _ => True) W (.agg xs) (.agg cs) ∧ R xs := by
  obtain ⟨fuel, hf⟩ := h
  obtain ⟨xs, h1, h2⟩ := he _ _ _ hf
  exact ⟨xs, ⟨cs.toList, by simp, h1.1, h1.2⟩, h2⟩
end
end Go.Av
