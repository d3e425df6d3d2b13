/-
  Abstract values: closed values (contents, no addresses), values of a call's own memory, what a world is worth. For every program.
-/
import Derived.WalkKit
import Derived.ProofKit
import Derived.Handy
import Derived.WalkLawsBesides
import Derived.WalkSpells
import Derived.Laws.CopyOwn
import Derived.Lib.Hide
import Derived.Deep.AppendLies
import Derived.Maps.AppendAt
import Derived.Laws.BytesArg
import Derived.Deep.Draws
import Derived.Defers
import Derived.Recover
import Derived.Orders
import Derived.OrdersHeld
import Derived.StillTail
set_option linter.unusedVariables false
set_option linter.unusedSimpArgs false
namespace Go.Av
open Go Go.RowKit

/-- Closed values: a value of one cell; a slice that is only read (cells of an element, length, cells); a struct or an array. -/
inductive CV where
  | v (x : Value)
  | sl (size n : Nat) (cs : List CV)
  | agg (cs : List CV)

mutual
def RepC (ok : Nat → Prop) (w : World) : CV → Value → Prop
  | .v x, u => u = x
  | .sl size n cs, u => ∃ A c us, u = .slice A n c ∧ n ≤ c ∧ c ≤ maxLen ∧ cs.length = n * size ∧ RepCs ok w cs us ∧ (∀ u ∈ us, u.oneCell' = true) ∧
      (0 < n → ∃ b o, A = some ⟨b, o, none⟩ ∧ ok b ∧ b < w.heap.size ∧ ∀ j x, us[j]? = some x → w.cell? ⟨b, o + j, none⟩ = some x)
  | .agg cs, u => ∃ us, u = .agg us.toArray ∧ RepCs ok w cs us ∧ ∀ u ∈ us, u.oneCell' = true
def RepCs (ok : Nat → Prop) (w : World) : List CV → List Value → Prop
  | [], us => us = []
  | c :: cs, us => ∃ u us', us = u :: us' ∧ RepC ok w c u ∧ RepCs ok w cs us'
end

/-- What is read stays as it is. -/
def Keeps (ok ok' : Nat → Prop) (w w' : World) : Prop := ∀ b, ok b → b < w.heap.size → ok' b ∧ b < w'.heap.size ∧ w'.heap[b]? = w.heap[b]?

mutual
theorem RepC.mono {ok ok' : Nat → Prop} {w w' : World} (h : Keeps ok ok' w w') : ∀ (c : CV) (u : Value), RepC ok w c u → RepC ok' w' c u
  | .v x, u, hu => by simpa [RepC] using hu
  | .sl size n cs, u, hu => by
    simp only [RepC] at hu ⊢
    obtain ⟨A, c, us, h1, h2, h3, h4, h5, h7, h6⟩ := hu
    refine ⟨A, c, us, h1, h2, h3, h4, RepCs.mono h cs us h5, h7, fun hn => ?_⟩
    obtain ⟨b, o, e, hb, hlt, hc⟩ := h6 hn
    obtain ⟨k1, k2, k3⟩ := h b hb hlt
    exact ⟨b, o, e, k1, k2, fun j x hx => by rw [World.cell?_of_block (w := w) k3]; exact hc j x hx⟩
  | .agg cs, u, hu => by
    simp only [RepC] at hu ⊢
    obtain ⟨us, h1, h2, h3⟩ := hu
    exact ⟨us, h1, RepCs.mono h cs us h2, h3⟩
theorem RepCs.mono {ok ok' : Nat → Prop} {w w' : World} (h : Keeps ok ok' w w') : ∀ (cs : List CV) (us : List Value), RepCs ok w cs us → RepCs ok' w' cs us
  | [], us, hu => by simpa [RepCs] using hu
  | c :: cs, us, hu => by
    simp only [RepCs] at hu ⊢
    obtain ⟨u, us', h1, h2, h3⟩ := hu
    exact ⟨u, us', h1, RepC.mono h c u h2, RepCs.mono h cs us' h3⟩
end

section RepCs
variable {ok : Nat → Prop} {w : World}
theorem RepCs.length : ∀ {cs : List CV} {us : List Value}, RepCs ok w cs us → us.length = cs.length
  | [], us, h => by simp only [RepCs] at h; subst h; rfl
  | c :: cs, us, h => by
    simp only [RepCs] at h
    obtain ⟨u, us', rfl, _, h3⟩ := h
    simp [RepCs.length h3]
theorem RepCs.get : ∀ {cs : List CV} {us : List Value}, RepCs ok w cs us → ∀ {j : Nat} {c : CV}, cs[j]? = some c → ∃ u, us[j]? = some u ∧ RepC ok w c u
  | [], us, h, j, c, hc => by simp at hc
  | c :: cs, us, h, j, c', hc => by
    simp only [RepCs] at h
    obtain ⟨u, us', rfl, h2, h3⟩ := h
    cases j with
    | zero => simp at hc; subst hc; exact ⟨u, rfl, h2⟩
    | succ j => simpa using RepCs.get h3 (by simpa using hc)
theorem RepCs.append : ∀ {cs ds : List CV} {us vs : List Value}, RepCs ok w cs us → RepCs ok w ds vs → RepCs ok w (cs ++ ds) (us ++ vs)
  | [], ds, us, vs, h, k => by simp only [RepCs] at h; subst h; simpa using k
  | c :: cs, ds, us, vs, h, k => by
    simp only [RepCs] at h
    obtain ⟨u, us', rfl, h2, h3⟩ := h
    exact ⟨u, us' ++ vs, rfl, h2, RepCs.append h3 k⟩
theorem RepCs.take : ∀ (n : Nat) {cs : List CV} {us : List Value}, RepCs ok w cs us → RepCs ok w (cs.take n) (us.take n)
  | 0, cs, us, h => by simp [RepCs]
  | n + 1, [], us, h => by simp only [RepCs] at h; subst h; simp [RepCs]
  | n + 1, c :: cs, us, h => by
    simp only [RepCs] at h
    obtain ⟨u, us', rfl, h2, h3⟩ := h
    simp only [List.take_succ_cons, RepCs]
    exact ⟨u, us'.take n, rfl, h2, RepCs.take n h3⟩
theorem RepCs.drop : ∀ (n : Nat) {cs : List CV} {us : List Value}, RepCs ok w cs us → RepCs ok w (cs.drop n) (us.drop n)
  | 0, cs, us, h => by simpa using h
  | n + 1, [], us, h => by simp only [RepCs] at h; subst h; simp [RepCs]
  | n + 1, c :: cs, us, h => by
    simp only [RepCs] at h
    obtain ⟨u, us', rfl, h2, h3⟩ := h
    simpa using RepCs.drop n h3
theorem RepCs.set : ∀ {cs : List CV} {us : List Value}, RepCs ok w cs us → ∀ (j : Nat) {c : CV} {u : Value}, RepC ok w c u → RepCs ok w (cs.set j c) (us.set j u)
  | [], us, h, j, c, u, k => by simp only [RepCs] at h; subst h; simp [RepCs]
  | c :: cs, us, h, j, c', u', k => by
    simp only [RepCs] at h
    obtain ⟨u, us', rfl, h2, h3⟩ := h
    cases j with
    | zero => exact ⟨u', us', rfl, k, h3⟩
    | succ j => exact ⟨u, us'.set j u', rfl, h2, RepCs.set h3 j k⟩
theorem RepCs.plain (vs : List Value) : RepCs ok w (vs.map CV.v) vs := by
  induction vs with
  | nil => simp [RepCs]
  | cons v vs ih => exact ⟨v, vs, rfl, rfl, ih⟩
theorem RepCs.of_plain {vs us : List Value} (h : RepCs ok w (vs.map CV.v) us) : us = vs := by
  induction vs generalizing us with
  | nil => simpa [RepCs] using h
  | cons v vs ih =>
    simp only [List.map_cons, RepCs, RepC] at h
    obtain ⟨u, us', rfl, rfl, h3⟩ := h
    rw [ih h3]
end RepCs

/-- One cell, as far as the form shows. -/
def CV.one : CV → Bool
  | .v x => x.oneCell'
  | .sl .. => true
  | .agg _ => false
theorem RepC.one {ok : Nat → Prop} {w : World} {c : CV} {u : Value} (h : RepC ok w c u) (h1 : c.one = true) : u.oneCell' = true ∧ u.cells = #[u] := by
  cases c with
  | v x =>
    simp only [RepC] at h
    subst h
    simp only [CV.one] at h1
    refine ⟨h1, ?_⟩
    cases u <;> simp_all [Value.oneCell', Value.cells]
  | sl size n cs =>
    simp only [RepC] at h
    obtain ⟨A, c, us, rfl, _⟩ := h
    exact ⟨rfl, rfl⟩
  | agg cs => cases h1
theorem RepCs.one {ok : Nat → Prop} {w : World} : ∀ {cs : List CV} {us : List Value}, RepCs ok w cs us → (∀ c ∈ cs, c.one = true) → ∀ u ∈ us, u.oneCell' = true
  | [], us, h, _, u, hu => by simp only [RepCs] at h; subst h; simp at hu
  | c :: cs, us, h, h1, u, hu => by
    simp only [RepCs] at h
    obtain ⟨u', us', rfl, h2, h3⟩ := h
    rcases List.mem_cons.1 hu with rfl | hu
    · exact (h2.one (h1 c (by simp))).1
    · exact RepCs.one h3 (fun c hc => h1 c (by simp [hc])) u hu

/-- Values of a frame: closed; a pointer into an own block; a slice over an own row; a pointer into a row that is only read; mixed structs, tuples and closures; nothing known. -/
inductive AV where
  | c (x : CV)
  | ref (id off : Nat)
  | own (id off n size : Nat) (full : Bool)
  | ip (cs : List CV) (off : Nat)
  | agg (xs : List AV)
  | tup (xs : List AV)
  | fn (f : FuncId) (caps : List AV)
  | junk

/-- What a concrete reading of abstract values hangs on. -/
structure Cx where
  dom : Nat → Prop
  M : Nat → Option Nat
  ok : Nat → Prop
  w : World

mutual
def Rep (C : Cx) : AV → Value → Prop
  | .c x, u => RepC C.ok C.w x u
  | .ref id off, u => C.dom id ∧ ∃ g, C.M id = some g ∧ u = .pointer (some ⟨g, off, none⟩)
  | .own id off n size full, u => C.dom id ∧ ((n = 0 ∧ off = 0 ∧ C.M id = none ∧ u = .slice none 0 0) ∨
      (∃ g cp, C.M id = some g ∧ u = .slice (some ⟨g, off, none⟩) n cp ∧ n ≤ cp ∧ cp ≤ maxLen ∧ (full = true → ∃ e, C.w.shape? g = some (e, off + cp * size))) ∨
      (n = 0 ∧ full = false ∧ ∃ A cp, u = .slice A 0 cp ∧ cp ≤ maxLen))
  | .ip cs off, u => ∃ b o us, u = .pointer (some ⟨b, o + off, none⟩) ∧ C.ok b ∧ b < C.w.heap.size ∧ RepCs C.ok C.w cs us ∧ (∀ u ∈ us, u.oneCell' = true) ∧ ∀ j x, us[j]? = some x → C.w.cell? ⟨b, o + j, none⟩ = some x
  | .agg xs, u => ∃ us, u = .agg us.toArray ∧ RepL C xs us
  | .tup xs, u => ∃ us, u = .tuple us.toArray ∧ RepL C xs us
  | .fn f caps, u => ∃ us, u = .func (.func f) #[] us.toArray ∧ RepL C caps us
  | .junk, _ => True
def RepL (C : Cx) : List AV → List Value → Prop
  | [], us => us = []
  | c :: cs, us => ∃ u us', us = u :: us' ∧ Rep C c u ∧ RepL C cs us'
end

structure Ext (C C' : Cx) : Prop where
  dom : ∀ id, C.dom id → C'.dom id ∧ C'.M id = C.M id
  ok : Keeps C.ok C'.ok C.w C'.w
  shape : ∀ b x, C.w.shape? b = some x → C'.w.shape? b = some x

theorem Ext.refl (C : Cx) : Ext C C := ⟨fun _ h => ⟨h, rfl⟩, fun _ h k => ⟨h, k, rfl⟩, fun _ _ h => h⟩
theorem Ext.trans {A B C : Cx} (h : Ext A B) (k : Ext B C) : Ext A C :=
  ⟨fun id hd => ⟨(k.dom id (h.dom id hd).1).1, (k.dom id (h.dom id hd).1).2.trans (h.dom id hd).2⟩,
   fun b hb hl => let ⟨a1, a2, a3⟩ := h.ok b hb hl; let ⟨b1, b2, b3⟩ := k.ok b a1 a2; ⟨b1, b2, b3.trans a3⟩,
   fun b x hx => k.shape b x (h.shape b x hx)⟩

mutual
theorem Rep.ext {C C' : Cx} (h : Ext C C') : ∀ (x : AV) (u : Value), Rep C x u → Rep C' x u
  | .c x, u, hu => by simp only [Rep] at hu ⊢; exact RepC.mono h.ok x u hu
  | .ref id off, u, hu => by
    simp only [Rep] at hu ⊢
    obtain ⟨hd, g, hg, hu⟩ := hu
    obtain ⟨k1, k2⟩ := h.dom id hd
    exact ⟨k1, g, k2.trans hg, hu⟩
  | .own id off n size full, u, hu => by
    simp only [Rep] at hu ⊢
    obtain ⟨hd, hu⟩ := hu
    obtain ⟨k1, k2⟩ := h.dom id hd
    refine ⟨k1, ?_⟩
    rcases hu with ⟨h1, h2, h3, h4⟩ | ⟨g, cp, h1, h2, h3, h4, h5⟩ | h6
    · exact .inl ⟨h1, h2, k2.trans h3, h4⟩
    · exact .inr (.inl ⟨g, cp, k2.trans h1, h2, h3, h4, fun hf => let ⟨e, he⟩ := h5 hf; ⟨e, h.shape _ _ he⟩⟩)
    · exact .inr (.inr h6)
  | .ip cs off, u, hu => by
    simp only [Rep] at hu ⊢
    obtain ⟨b, o, us, h1, h2, h3, h4, h6, h5⟩ := hu
    obtain ⟨k1, k2, k3⟩ := h.ok b h2 h3
    exact ⟨b, o, us, h1, k1, k2, RepCs.mono h.ok cs us h4, h6, fun j x hx => by rw [World.cell?_of_block (w := C.w) k3]; exact h5 j x hx⟩
  | .agg xs, u, hu => by
    simp only [Rep] at hu ⊢
    obtain ⟨us, h1, h2⟩ := hu
    exact ⟨us, h1, RepL.ext h xs us h2⟩
  | .tup xs, u, hu => by
    simp only [Rep] at hu ⊢
    obtain ⟨us, h1, h2⟩ := hu
    exact ⟨us, h1, RepL.ext h xs us h2⟩
  | .fn f caps, u, hu => by
    simp only [Rep] at hu ⊢
    obtain ⟨us, h1, h2⟩ := hu
    exact ⟨us, h1, RepL.ext h caps us h2⟩
  | .junk, u, hu => by simp only [Rep]
theorem RepL.ext {C C' : Cx} (h : Ext C C') : ∀ (xs : List AV) (us : List Value), RepL C xs us → RepL C' xs us
  | [], us, hu => by simpa [RepL] using hu
  | c :: cs, us, hu => by
    simp only [RepL] at hu ⊢
    obtain ⟨u, us', h1, h2, h3⟩ := hu
    exact ⟨u, us', h1, Rep.ext h c u h2, RepL.ext h cs us' h3⟩
end

section RepL
variable {C : Cx}
theorem RepL.length : ∀ {cs : List AV} {us : List Value}, RepL C cs us → us.length = cs.length
  | [], us, h => by simp only [RepL] at h; subst h; rfl
  | c :: cs, us, h => by
    simp only [RepL] at h
    obtain ⟨u, us', rfl, _, h3⟩ := h
    simp [RepL.length h3]
theorem RepL.get : ∀ {cs : List AV} {us : List Value}, RepL C cs us → ∀ {j : Nat} {c : AV}, cs[j]? = some c → ∃ u, us[j]? = some u ∧ Rep C c u
  | [], us, h, j, c, hc => by simp at hc
  | c :: cs, us, h, j, c', hc => by
    simp only [RepL] at h
    obtain ⟨u, us', rfl, h2, h3⟩ := h
    cases j with
    | zero => simp at hc; subst hc; exact ⟨u, rfl, h2⟩
    | succ j => simpa using RepL.get h3 (by simpa using hc)
theorem RepL.set : ∀ {cs : List AV} {us : List Value}, RepL C cs us → ∀ (j : Nat) {c : AV} {u : Value}, Rep C c u → RepL C (cs.set j c) (us.set j u)
  | [], us, h, j, c, u, k => by simp only [RepL] at h; subst h; simp [RepL]
  | c :: cs, us, h, j, c', u', k => by
    simp only [RepL] at h
    obtain ⟨u, us', rfl, h2, h3⟩ := h
    cases j with
    | zero => exact ⟨u', us', rfl, k, h3⟩
    | succ j => exact ⟨u, us'.set j u', rfl, h2, RepL.set h3 j k⟩
theorem RepL.take : ∀ (n : Nat) {cs : List AV} {us : List Value}, RepL C cs us → RepL C (cs.take n) (us.take n)
  | 0, cs, us, h => by simp [RepL]
  | n + 1, [], us, h => by simp only [RepL] at h; subst h; simp [RepL]
  | n + 1, c :: cs, us, h => by
    simp only [RepL] at h
    obtain ⟨u, us', rfl, h2, h3⟩ := h
    simp only [List.take_succ_cons, RepL]
    exact ⟨u, us'.take n, rfl, h2, RepL.take n h3⟩
theorem RepL.drop : ∀ (n : Nat) {cs : List AV} {us : List Value}, RepL C cs us → RepL C (cs.drop n) (us.drop n)
  | 0, cs, us, h => by simpa using h
  | n + 1, [], us, h => by simp only [RepL] at h; subst h; simp [RepL]
  | n + 1, c :: cs, us, h => by
    simp only [RepL] at h
    obtain ⟨u, us', rfl, h2, h3⟩ := h
    simpa using RepL.drop n h3
theorem RepL.append : ∀ {cs ds : List AV} {us vs : List Value}, RepL C cs us → RepL C ds vs → RepL C (cs ++ ds) (us ++ vs)
  | [], ds, us, vs, h, k => by simp only [RepL] at h; subst h; simpa using k
  | c :: cs, ds, us, vs, h, k => by
    simp only [RepL] at h
    obtain ⟨u, us', rfl, h2, h3⟩ := h
    exact ⟨u, us' ++ vs, rfl, h2, RepL.append h3 k⟩
theorem RepL.ofC : ∀ {cs : List CV} {us : List Value}, RepCs C.ok C.w cs us → RepL C (cs.map AV.c) us
  | [], us, h => by simpa [RepCs, RepL] using h
  | c :: cs, us, h => by
    simp only [RepCs] at h
    obtain ⟨u, us', rfl, h2, h3⟩ := h
    exact ⟨u, us', rfl, h2, RepL.ofC h3⟩
theorem RepL.toC : ∀ {cs : List CV} {us : List Value}, RepL C (cs.map AV.c) us → RepCs C.ok C.w cs us
  | [], us, h => by simpa [RepCs, RepL] using h
  | c :: cs, us, h => by
    simp only [List.map_cons, RepL] at h
    obtain ⟨u, us', rfl, h2, h3⟩ := h
    exact ⟨u, us', rfl, h2, RepL.toC h3⟩
end RepL

def AV.one : AV → Bool
  | .c x => x.one
  | .ref .. | .own .. | .ip .. | .fn .. => true
  | _ => false
theorem Rep.one {C : Cx} {x : AV} {u : Value} (h : Rep C x u) (h1 : x.one = true) : u.oneCell' = true ∧ u.cells = #[u] := by
  cases x with
  | c x => simp only [Rep] at h; exact h.one h1
  | ref id off => simp only [Rep] at h; obtain ⟨_, g, _, rfl⟩ := h; exact ⟨rfl, rfl⟩
  | own id off n size full =>
    simp only [Rep] at h
    obtain ⟨_, ⟨_, _, _, rfl⟩ | ⟨g, cp, _, rfl, _⟩ | ⟨_, _, A, cp, rfl, _⟩⟩ := h <;> exact ⟨rfl, rfl⟩
  | ip cs off => simp only [Rep] at h; obtain ⟨b, o, us, rfl, _⟩ := h; exact ⟨rfl, rfl⟩
  | fn f caps => simp only [Rep] at h; obtain ⟨us, rfl, _⟩ := h; exact ⟨rfl, rfl⟩
  | agg xs => cases h1
  | tup xs => cases h1
  | junk => cases h1
theorem RepL.one {C : Cx} : ∀ {cs : List AV} {us : List Value}, RepL C cs us → cs.all AV.one = true → ∀ u ∈ us, u.oneCell' = true
  | [], us, h, _, u, hu => by simp only [RepL] at h; subst h; simp at hu
  | c :: cs, us, h, h1, u, hu => by
    simp only [RepL] at h
    obtain ⟨u', us', rfl, h2, h3⟩ := h
    simp only [List.all_cons, Bool.and_eq_true] at h1
    rcases List.mem_cons.1 hu with rfl | hu
    · exact (h2.one h1.1).1
    · exact RepL.one h3 h1.2 u hu

/-- Objects of a call's own: a block of a fixed size that is known whole; a row of which the first cells are known, closed. -/
inductive AObj where
  | blk (T : TypeId) (cs : List AV)
  | row (T : TypeId) (cs : List CV)
  | dead

def AObj.live : AObj → Option AObj
  | .blk T cs => some (.blk T cs)
  | .row T cs => some (.row T cs)
  | .dead => none
theorem live_eq {o o' : AObj} (h : o.live = some o') : o = o' := by cases o <;> simp [AObj.live] at h <;> exact h

def ObjRep (C : Cx) (g : Option Nat) : AObj → Prop
  | .blk T cs => ∃ k us, g = some k ∧ C.w.heap[k]? = some (.cells us.toArray T (0, 0)) ∧ RepL C cs us
  | .row T cs => (g = none ∧ cs = []) ∨ ∃ k us vs, g = some k ∧ C.w.heap[k]? = some (.cells (us ++ vs).toArray T (0, 0)) ∧ RepCs C.ok C.w cs us ∧ ∀ u ∈ us, u.oneCell' = true
  | .dead => False

theorem lt_of_block {w : World} {g : Nat} {o : Obj} (h : w.heap[g]? = some o) : g < w.heap.size := by
  rcases Nat.lt_or_ge g w.heap.size with h1 | h1
  · exact h1
  · rw [Array.getElem?_eq_none h1] at h; cases h

theorem ObjRep.lt {C : Cx} {g : Option Nat} {o : AObj} (h : ObjRep C g o) : ∀ k, g = some k → k < C.w.heap.size := by
  intro k hk
  cases o with
  | blk T cs => obtain ⟨k', us, rfl, h2, _⟩ := h; injection hk with hk; subst hk; exact lt_of_block h2
  | row T cs =>
    rcases h with ⟨h1, _⟩ | ⟨k', us, vs, rfl, h2, _⟩
    · rw [h1] at hk; cases hk
    · injection hk with hk; subst hk; exact lt_of_block h2
  | dead => exact h.elim

theorem ObjRep.ext {C C' : Cx} (h : Ext C C') {g : Option Nat} {o : AObj} (hg : ∀ k, g = some k → C'.w.heap[k]? = C.w.heap[k]?) (ho : ObjRep C g o) : ObjRep C' g o := by
  cases o with
  | blk T cs =>
    obtain ⟨k, us, rfl, h2, h3⟩ := ho
    exact ⟨k, us, rfl, (hg k rfl).trans h2, RepL.ext h cs us h3⟩
  | row T cs =>
    rcases ho with h1 | ⟨k, us, vs, rfl, h2, h3, h4⟩
    · exact .inl h1
    · exact .inr ⟨k, us, vs, rfl, (hg k rfl).trans h2, RepCs.mono h.ok cs us h3, h4⟩
  | dead => exact ho.elim

/-- The base of a call: the world at its start, the blocks that it may turn, the blocks that it may read, the values of the frames that wait. -/
structure Bs where
  w0 : World
  G : List Nat
  ok0 : Nat → Prop
  fr : List Value

/-- Blocks that may be read, and in which no object of the own heap lies. -/
def okOf (B : Bs) (dom : Nat → Prop) (M : Nat → Option Nat) (H : Nat → Option AObj) (b : Nat) : Prop := (B.ok0 b ∨ B.w0.heap.size ≤ b ∨ b ∈ B.G) ∧ ∀ id o, dom id → H id = some o → M id ≠ some b

/-- Nothing that was there at w0 has turned, but the blocks in G. -/
structure FrB (w0 : World) (G : List Nat) (w : World) : Prop where
  os : w.os = w0.os
  tape : w.tape = w0.tape
  output : w.output = w0.output
  size : w0.heap.size ≤ w.heap.size
  block : ∀ k, k < w0.heap.size → k ∉ G → w.heap[k]? = w0.heap[k]?

theorem FrB.refl (w : World) (G : List Nat) : FrB w G w := ⟨rfl, rfl, rfl, Nat.le_refl _, fun _ _ _ => rfl⟩
theorem FrB.below {w0 w : World} (h : FrB w0 [] w) : Below w0.heap.size w0 w := ⟨h.os, h.tape, h.output, h.size, fun k hk => h.block k hk (by simp)⟩

/-- The world holds the own heap H of the ids in dom, at the blocks that M tells. -/
structure ConcH (B : Bs) (dom : Nat → Prop) (M : Nat → Option Nat) (H : Nat → Option AObj) (w : World) : Prop where
  fr : FrB B.w0 B.G w
  obj : ∀ id o, dom id → H id = some o → ObjRep ⟨dom, M, okOf B dom M H, w⟩ (M id) o
  inj : ∀ id id' o o' g, dom id → dom id' → H id = some o → H id' = some o' → M id = some g → M id' = some g → id = id'
  lo : ∀ id o g, dom id → H id = some o → M id = some g → B.w0.heap.size ≤ g ∨ g ∈ B.G

def ad (dom : Nat → Prop) (i j : Nat) (id : Nat) : Prop := dom id ∨ (i ≤ id ∧ id < j)

section
variable {w w' : World} {B : Bs} {dom : Nat → Prop} {M M' : Nat → Option Nat} {H : Nat → Option AObj}

theorem shape_same {w w' : World} {b : Nat} (h : w'.heap[b]? = w.heap[b]?) : w'.shape? b = w.shape? b := by simp [World.shape?, h]
theorem shape_lt {w : World} {b : Nat} {x : TypeId × Nat} (h : w.shape? b = some x) : b < w.heap.size := by
  unfold World.shape? at h
  split at h
  · rename_i c e hh; exact lt_of_block hh
  · cases h

/-- New ids, new blocks; the world has only grown. -/
theorem ConcH.grow (h : ConcH B dom M H w) (hb : Below w.heap.size w w') (i j : Nat) (hM : ∀ id, dom id → M' id = M id) (hd : ∀ id, i ≤ id → id < j → ¬ dom id)
    (hn : ∀ id o, i ≤ id → id < j → H id = some o → ∀ g, M' id = some g → w.heap.size ≤ g)
    (hinj : ∀ id id' o o' g, i ≤ id → id < j → i ≤ id' → id' < j → H id = some o → H id' = some o' → M' id = some g → M' id' = some g → id = id')
    (ho : Ext ⟨dom, M, okOf B dom M H, w⟩ ⟨ad dom i j, M', okOf B (ad dom i j) M' H, w'⟩ → ∀ id o, i ≤ id → id < j → H id = some o → ObjRep ⟨ad dom i j, M', okOf B (ad dom i j) M' H, w'⟩ (M' id) o) :
    ConcH B (ad dom i j) M' H w' ∧ Ext ⟨dom, M, okOf B dom M H, w⟩ ⟨ad dom i j, M', okOf B (ad dom i j) M' H, w'⟩ := by
  have hext : Ext ⟨dom, M, okOf B dom M H, w⟩ ⟨ad dom i j, M', okOf B (ad dom i j) M' H, w'⟩ := by
    refine ⟨fun id hid => ⟨.inl hid, hM id hid⟩, fun b hb1 hb2 => ⟨⟨hb1.1, fun id o hid hH he => ?_⟩, Nat.lt_of_lt_of_le hb2 hb.size, hb.block b hb2⟩, fun b x hx => ?_⟩
    · rcases hid with hid | ⟨h1, h2⟩
      · exact hb1.2 id o hid hH ((hM id hid).symm.trans he)
      · have := hn id o h1 h2 hH b he
        simp only at hb2
        omega
    · rw [← hx]
      exact shape_same (hb.block b (shape_lt hx))
  refine ⟨⟨⟨hb.os.trans h.fr.os, hb.tape.trans h.fr.tape, hb.output.trans h.fr.output, Nat.le_trans h.fr.size hb.size, fun k h1 h2 => (hb.block k (Nat.lt_of_lt_of_le h1 h.fr.size)).trans (h.fr.block k h1 h2)⟩, fun id o hid hH => ?_, fun id id' o o' g h1 h2 h3 h4 h5 h6 => ?_, fun id o g hid hH he => ?_⟩, hext⟩
  · rcases hid with hid | ⟨h1, h2⟩
    · rw [hM id hid]
      have h3 := h.obj id o hid hH
      exact h3.ext hext (fun k hk => hb.block k (h3.lt k hk))
    · exact ho hext id o h1 h2 hH
  · rcases h1 with h1 | h1 <;> rcases h2 with h2 | h2
    · exact h.inj id id' o o' g h1 h2 h3 h4 ((hM id h1).symm.trans h5) ((hM id' h2).symm.trans h6)
    · have k1 := hn id' o' h2.1 h2.2 h4 g h6
      have k2 := (h.obj id o h1 h3).lt g ((hM id h1).symm.trans h5)
      simp only at k2
      omega
    · have k1 := hn id o h1.1 h1.2 h3 g h5
      have k2 := (h.obj id' o' h2 h4).lt g ((hM id' h2).symm.trans h6)
      simp only at k2
      omega
    · exact hinj id id' o o' g h1.1 h1.2 h2.1 h2.2 h3 h4 h5 h6
  · rcases hid with hid | ⟨h1, h2⟩
    · exact h.lo id o g hid hH ((hM id hid).symm.trans he)
    · have := hn id o h1 h2 hH g he
      have := h.fr.size
      exact .inl (by omega)
end

def lk : List (Nat × AObj) → Nat → Option AObj
  | [], _ => none
  | p :: r, k => match Nat.beq p.1 k with | true => p.2.live | false => lk r k
def lkE : List (Nat × AV) → Nat → Option AV
  | [], _ => none
  | (i, v) :: r, k => match Nat.beq i k with | true => some v | false => lkE r k
def evA (env : List (Nat × AV)) : Operand → Option AV
  | .tmp t => lkE env t
  | .const x => some (.c (.v x))
  | .global _ => none
  | .func f => some (.fn f [])

theorem lk_cons (i : Nat) (o : AObj) (h : List (Nat × AObj)) (k : Nat) : lk ((i, o) :: h) k = if i = k then o.live else lk h k := by
  by_cases hk : i = k
  · subst hk; simp [lk, Nat.beq_refl]
  · have : Nat.beq i k = false := by
      cases h : Nat.beq i k with
      | false => rfl
      | true => exact absurd (Nat.eq_of_beq_eq_true h) hk
    simp only [lk]; rw [this]; simp [hk]
theorem lkE_cons (i : Nat) (o : AV) (h : List (Nat × AV)) (k : Nat) : lkE ((i, o) :: h) k = if i = k then some o else lkE h k := by
  by_cases hk : i = k
  · subst hk; simp [lkE, Nat.beq_refl]
  · have : Nat.beq i k = false := by
      cases h : Nat.beq i k with
      | false => rfl
      | true => exact absurd (Nat.eq_of_beq_eq_true h) hk
    simp only [lkE]; rw [this]; simp [hk]
end Go.Av
