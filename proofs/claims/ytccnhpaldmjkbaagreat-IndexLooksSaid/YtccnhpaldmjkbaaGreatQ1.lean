/-
  Joined texts: AvA AvB AvL AvC AvD AvE AvF AvG. Lemmas; no statement of a law.
-/
import Derived.MapKept
import Derived.WalkKit
import Derived.ProofKit
import Derived.Handy
import Derived.WalkLawsBesides
import Derived.WalkSpells
import Derived.Laws.CopyOwn
import Derived.Lib.Hide
import Derived.Deep.AppendLies
import Derived.Maps.AppendAt
import Derived.Laws.BytesArg
import Derived.Deep.Draws
import Derived.Defers
import Derived.Recover
import Derived.Orders
import Derived.OrdersHeld
import Derived.StillTail
import Derived.OrdersIn
import Derived.TacticsIn
import Derived.LoopNIn
import Derived.RangeFuncIn
import Derived.RangeFuncNested
import Derived.RangeFuncLeaves
import Derived.Stop.BytesEq
import Derived.Lib.ConvBytes
set_option linter.unusedSimpArgs false
set_option linter.unusedVariables false
namespace Go.Av
open Go Go.RowKit

inductive CV where
  | v (x : Value)
  | sl (size n : Nat) (cs : List CV)
  | agg (cs : List CV)

mutual
def RepC (ok : Nat → Prop) (w : World) : CV → Value → Prop
  | .v x, u => u = x
  | .sl size n cs, u => ∃ A c us, u = .slice A n c ∧ n ≤ c ∧ c ≤ maxLen ∧ cs.length = n * size ∧ RepCs ok w cs us ∧ (∀ u ∈ us, u.oneCell' = true) ∧
      (0 < n → ∃ b o, A = some ⟨b, o, none⟩ ∧ ok b ∧ b < w.heap.size ∧ ∀ j x, us[j]? = some x → w.cell? ⟨b, o + j, none⟩ = some x)
  | .agg cs, u => ∃ us, u = .agg us.toArray ∧ RepCs ok w cs us ∧ ∀ u ∈ us, u.oneCell' = true
def RepCs (ok : Nat → Prop) (w : World) : List CV → List Value → Prop
  | [], us => us = []
  | c :: cs, us => ∃ u us', us = u :: us' ∧ RepC ok w c u ∧ RepCs ok w cs us'
end

def Keeps (ok ok' : Nat → Prop) (w w' : World) : Prop := ∀ b, ok b → b < w.heap.size → ok' b ∧ b < w'.heap.size ∧ w'.heap[b]? = w.heap[b]?

mutual
theorem RepC.mono {ok ok' : Nat → Prop} {w w' : World} (h : Keeps ok ok' w w') : ∀ (c : CV) (u : Value), RepC ok w c u → RepC ok' w' c u
  | .v x, u, hu => by simpa [RepC] using hu
  | .sl size n cs, u, hu => by
    simp only [RepC] at hu ⊢
    obtain ⟨A, c, us, h1, h2, h3, h4, h5, h7, h6⟩ := hu
    refine ⟨A, c, us, h1, h2, h3, h4, RepCs.mono h cs us h5, h7, fun hn => ?_⟩
    obtain ⟨b, o, e, hb, hlt, hc⟩ := h6 hn
    obtain ⟨k1, k2, k3⟩ := h b hb hlt
    exact ⟨b, o, e, k1, k2, fun j x hx => by rw [World.cell?_of_block (w := w) k3]; exact hc j x hx⟩
  | .agg cs, u, hu => by
    simp only [RepC] at hu ⊢
    obtain ⟨us, h1, h2, h3⟩ := hu
    exact ⟨us, h1, RepCs.mono h cs us h2, h3⟩
theorem RepCs.mono {ok ok' : Nat → Prop} {w w' : World} (h : Keeps ok ok' w w') : ∀ (cs : List CV) (us : List Value), RepCs ok w cs us → RepCs ok' w' cs us
  | [], us, hu => by simpa [RepCs] using hu
  | c :: cs, us, hu => by
    simp only [RepCs] at hu ⊢
    obtain ⟨u, us', h1, h2, h3⟩ := hu
    exact ⟨u, us', h1, RepC.mono h c u h2, RepCs.mono h cs us' h3⟩
end

section RepCs
variable {ok : Nat → Prop} {w : World}
theorem RepCs.length : ∀ {cs : List CV} {us : List Value}, RepCs ok w cs us → us.length = cs.length
  | [], us, h => by simp only [RepCs] at h; subst h; rfl
  | c :: cs, us, h => by
    simp only [RepCs] at h
    obtain ⟨u, us', rfl, _, h3⟩ := h
    simp [RepCs.length h3]
theorem RepCs.get : ∀ {cs : List CV} {us : List Value}, RepCs ok w cs us → ∀ {j : Nat} {c : CV}, cs[j]? = some c → ∃ u, us[j]? = some u ∧ RepC ok w c u
  | [], us, h, j, c, hc => by simp at hc
  | c :: cs, us, h, j, c', hc => by
    simp only [RepCs] at h
    obtain ⟨u, us', rfl, h2, h3⟩ := h
    cases j with
    | zero => simp at hc; subst hc; exact ⟨u, rfl, h2⟩
    | succ j => simpa using RepCs.get h3 (by simpa using hc)
theorem RepCs.append : ∀ {cs ds : List CV} {us vs : List Value}, RepCs ok w cs us → RepCs ok w ds vs → RepCs ok w (cs ++ ds) (us ++ vs)
  | [], ds, us, vs, h, k => by simp only [RepCs] at h; subst h; simpa using k
  | c :: cs, ds, us, vs, h, k => by
    simp only [RepCs] at h
    obtain ⟨u, us', rfl, h2, h3⟩ := h
    exact ⟨u, us' ++ vs, rfl, h2, RepCs.append h3 k⟩
theorem RepCs.take : ∀ (n : Nat) {cs : List CV} {us : List Value}, RepCs ok w cs us → RepCs ok w (cs.take n) (us.take n)
  | 0, cs, us, h => by simp [RepCs]
  | n + 1, [], us, h => by simp only [RepCs] at h; subst h; simp [RepCs]
  | n + 1, c :: cs, us, h => by
    simp only [RepCs] at h
    obtain ⟨u, us', rfl, h2, h3⟩ := h
    simp only [List.take_succ_cons, RepCs]
    exact ⟨u, us'.take n, rfl, h2, RepCs.take n h3⟩
theorem RepCs.drop : ∀ (n : Nat) {cs : List CV} {us : List Value}, RepCs ok w cs us → RepCs ok w (cs.drop n) (us.drop n)
  | 0, cs, us, h => by simpa using h
  | n + 1, [], us, h => by simp only [RepCs] at h; subst h; simp [RepCs]
  | n + 1, c :: cs, us, h => by
    simp only [RepCs] at h
    obtain ⟨u, us', rfl, h2, h3⟩ := h
    simpa using RepCs.drop n h3
theorem RepCs.set : ∀ {cs : List CV} {us : List Value}, RepCs ok w cs us → ∀ (j : Nat) {c : CV} {u : Value}, RepC ok w c u → RepCs ok w (cs.set j c) (us.set j u)
  | [], us, h, j, c, u, k => by simp only [RepCs] at h; subst h; simp [RepCs]
  | c :: cs, us, h, j, c', u', k => by
    simp only [RepCs] at h
    obtain ⟨u, us', rfl, h2, h3⟩ := h
    cases j with
    | zero => exact ⟨u', us', rfl, k, h3⟩
    | succ j => exact ⟨u, us'.set j u', rfl, h2, RepCs.set h3 j k⟩
theorem RepCs.plain (vs : List Value) : RepCs ok w (vs.map CV.v) vs := by
  induction vs with
  | nil => simp [RepCs]
  | cons v vs ih => exact ⟨v, vs, rfl, rfl, ih⟩
theorem RepCs.of_plain {vs us : List Value} (h : RepCs ok w (vs.map CV.v) us) : us = vs := by
  induction vs generalizing us with
  | nil => simpa [RepCs] using h
  | cons v vs ih =>
    simp only [List.map_cons, RepCs, RepC] at h
    obtain ⟨u, us', rfl, rfl, h3⟩ := h
    rw [ih h3]
end RepCs

def CV.one : CV → Bool
  | .v x => x.oneCell'
  | .sl .. => true
  | .agg _ => false
theorem RepC.one {ok : Nat → Prop} {w : World} {c : CV} {u : Value} (h : RepC ok w c u) (h1 : c.one = true) : u.oneCell' = true ∧ u.cells = #[u] := by
  cases c with
  | v x =>
    simp only [RepC] at h
    subst h
    simp only [CV.one] at h1
    refine ⟨h1, ?_⟩
    cases u <;> simp_all [Value.oneCell', Value.cells]
  | sl size n cs =>
    simp only [RepC] at h
    obtain ⟨A, c, us, rfl, _⟩ := h
    exact ⟨rfl, rfl⟩
  | agg cs => cases h1
theorem RepCs.one {ok : Nat → Prop} {w : World} : ∀ {cs : List CV} {us : List Value}, RepCs ok w cs us → (∀ c ∈ cs, c.one = true) → ∀ u ∈ us, u.oneCell' = true
  | [], us, h, _, u, hu => by simp only [RepCs] at h; subst h; simp at hu
  | c :: cs, us, h, h1, u, hu => by
    simp only [RepCs] at h
    obtain ⟨u', us', rfl, h2, h3⟩ := h
    rcases List.mem_cons.1 hu with rfl | hu
    · exact (h2.one (h1 c (by simp))).1
    · exact RepCs.one h3 (fun c hc => h1 c (by simp [hc])) u hu

inductive AV where
  | c (x : CV)
  | ref (id off : Nat)
  | own (id off n size : Nat) (full : Bool)
  | ip (cs : List CV) (off : Nat)
  | agg (xs : List AV)
  | tup (xs : List AV)
  | fn (f : FuncId) (caps : List AV)
  | yld (id : Nat)
  | mh (id : Nat)
  | junk

structure Cx where
  dom : Nat → Prop
  M : Nat → Option Nat
  ok : Nat → Prop
  w : World

mutual
def Rep (C : Cx) : AV → Value → Prop
  | .c x, u => RepC C.ok C.w x u
  | .ref id off, u => C.dom id ∧ ∃ g, C.M id = some g ∧ u = .pointer (some ⟨g, off, none⟩)
  | .own id off n size full, u => C.dom id ∧ ((n = 0 ∧ off = 0 ∧ C.M id = none ∧ u = .slice none 0 0) ∨
      (∃ g cp, C.M id = some g ∧ u = .slice (some ⟨g, off, none⟩) n cp ∧ n ≤ cp ∧ cp ≤ maxLen ∧ (full = true → ∃ e, C.w.shape? g = some (e, off + cp * size))) ∨
      (n = 0 ∧ full = false ∧ ∃ A cp, u = .slice A 0 cp ∧ cp ≤ maxLen))
  | .ip cs off, u => ∃ b o us, u = .pointer (some ⟨b, o + off, none⟩) ∧ C.ok b ∧ b < C.w.heap.size ∧ RepCs C.ok C.w cs us ∧ (∀ u ∈ us, u.oneCell' = true) ∧ ∀ j x, us[j]? = some x → C.w.cell? ⟨b, o + j, none⟩ = some x
  | .agg xs, u => ∃ us, u = .agg us.toArray ∧ RepL C xs us
  | .tup xs, u => ∃ us, u = .tuple us.toArray ∧ RepL C xs us
  | .fn f caps, u => ∃ us, u = .func (.func f) #[] us.toArray ∧ RepL C caps us
  | .yld id, u => C.dom id ∧ ∃ g, C.M id = some g ∧ u = .func (.yield g) #[] #[]
  | .mh id, u => C.dom id ∧ ∃ g, C.M id = some g ∧ u = .map (some g)
  | .junk, _ => True
def RepL (C : Cx) : List AV → List Value → Prop
  | [], us => us = []
  | c :: cs, us => ∃ u us', us = u :: us' ∧ Rep C c u ∧ RepL C cs us'
end

structure Ext (C C' : Cx) : Prop where
  dom : ∀ id, C.dom id → C'.dom id ∧ C'.M id = C.M id
  ok : Keeps C.ok C'.ok C.w C'.w
  shape : ∀ b x, C.w.shape? b = some x → C'.w.shape? b = some x

theorem Ext.refl (C : Cx) : Ext C C := ⟨fun _ h => ⟨h, rfl⟩, fun _ h k => ⟨h, k, rfl⟩, fun _ _ h => h⟩
theorem Ext.trans {A B C : Cx} (h : Ext A B) (k : Ext B C) : Ext A C :=
  ⟨fun id hd => ⟨(k.dom id (h.dom id hd).1).1, (k.dom id (h.dom id hd).1).2.trans (h.dom id hd).2⟩,
   fun b hb hl => let ⟨a1, a2, a3⟩ := h.ok b hb hl; let ⟨b1, b2, b3⟩ := k.ok b a1 a2; ⟨b1, b2, b3.trans a3⟩,
   fun b x hx => k.shape b x (h.shape b x hx)⟩

mutual
theorem Rep.ext {C C' : Cx} (h : Ext C C') : ∀ (x : AV) (u : Value), Rep C x u → Rep C' x u
  | .c x, u, hu => by simp only [Rep] at hu ⊢; exact RepC.mono h.ok x u hu
  | .ref id off, u, hu => by
    simp only [Rep] at hu ⊢
    obtain ⟨hd, g, hg, hu⟩ := hu
    obtain ⟨k1, k2⟩ := h.dom id hd
    exact ⟨k1, g, k2.trans hg, hu⟩
  | .own id off n size full, u, hu => by
    simp only [Rep] at hu ⊢
    obtain ⟨hd, hu⟩ := hu
    obtain ⟨k1, k2⟩ := h.dom id hd
    refine ⟨k1, ?_⟩
    rcases hu with ⟨h1, h2, h3, h4⟩ | ⟨g, cp, h1, h2, h3, h4, h5⟩ | h6
    · exact .inl ⟨h1, h2, k2.trans h3, h4⟩
    · exact .inr (.inl ⟨g, cp, k2.trans h1, h2, h3, h4, fun hf => let ⟨e, he⟩ := h5 hf; ⟨e, h.shape _ _ he⟩⟩)
    · exact .inr (.inr h6)
  | .ip cs off, u, hu => by
    simp only [Rep] at hu ⊢
    obtain ⟨b, o, us, h1, h2, h3, h4, h6, h5⟩ := hu
    obtain ⟨k1, k2, k3⟩ := h.ok b h2 h3
    exact ⟨b, o, us, h1, k1, k2, RepCs.mono h.ok cs us h4, h6, fun j x hx => by rw [World.cell?_of_block (w := C.w) k3]; exact h5 j x hx⟩
  | .agg xs, u, hu => by
    simp only [Rep] at hu ⊢
    obtain ⟨us, h1, h2⟩ := hu
    exact ⟨us, h1, RepL.ext h xs us h2⟩
  | .tup xs, u, hu => by
    simp only [Rep] at hu ⊢
    obtain ⟨us, h1, h2⟩ := hu
    exact ⟨us, h1, RepL.ext h xs us h2⟩
  | .fn f caps, u, hu => by
    simp only [Rep] at hu ⊢
    obtain ⟨us, h1, h2⟩ := hu
    exact ⟨us, h1, RepL.ext h caps us h2⟩
  | .yld id, u, hu => by
    simp only [Rep] at hu ⊢
    obtain ⟨hd, g, hg, hu⟩ := hu
    obtain ⟨k1, k2⟩ := h.dom id hd
    exact ⟨k1, g, k2.trans hg, hu⟩
  | .mh id, u, hu => by
    simp only [Rep] at hu ⊢
    obtain ⟨hd, g, hg, hu⟩ := hu
    obtain ⟨k1, k2⟩ := h.dom id hd
    exact ⟨k1, g, k2.trans hg, hu⟩
  | .junk, u, hu => by simp only [Rep]
theorem RepL.ext {C C' : Cx} (h : Ext C C') : ∀ (xs : List AV) (us : List Value), RepL C xs us → RepL C' xs us
  | [], us, hu => by simpa [RepL] using hu
  | c :: cs, us, hu => by
    simp only [RepL] at hu ⊢
    obtain ⟨u, us', h1, h2, h3⟩ := hu
    exact ⟨u, us', h1, Rep.ext h c u h2, RepL.ext h cs us' h3⟩
end

section RepL
variable {C : Cx}
theorem RepL.length : ∀ {cs : List AV} {us : List Value}, RepL C cs us → us.length = cs.length
  | [], us, h => by simp only [RepL] at h; subst h; rfl
  | c :: cs, us, h => by
    simp only [RepL] at h
    obtain ⟨u, us', rfl, _, h3⟩ := h
    simp [RepL.length h3]
theorem RepL.get : ∀ {cs : List AV} {us : List Value}, RepL C cs us → ∀ {j : Nat} {c : AV}, cs[j]? = some c → ∃ u, us[j]? = some u ∧ Rep C c u
  | [], us, h, j, c, hc => by simp at hc
  | c :: cs, us, h, j, c', hc => by
    simp only [RepL] at h
    obtain ⟨u, us', rfl, h2, h3⟩ := h
    cases j with
    | zero => simp at hc; subst hc; exact ⟨u, rfl, h2⟩
    | succ j => simpa using RepL.get h3 (by simpa using hc)
theorem RepL.set : ∀ {cs : List AV} {us : List Value}, RepL C cs us → ∀ (j : Nat) {c : AV} {u : Value}, Rep C c u → RepL C (cs.set j c) (us.set j u)
  | [], us, h, j, c, u, k => by simp only [RepL] at h; subst h; simp [RepL]
  | c :: cs, us, h, j, c', u', k => by
    simp only [RepL] at h
    obtain ⟨u, us', rfl, h2, h3⟩ := h
    cases j with
    | zero => exact ⟨u', us', rfl, k, h3⟩
    | succ j => exact ⟨u, us'.set j u', rfl, h2, RepL.set h3 j k⟩
theorem RepL.take : ∀ (n : Nat) {cs : List AV} {us : List Value}, RepL C cs us → RepL C (cs.take n) (us.take n)
  | 0, cs, us, h => by simp [RepL]
  | n + 1, [], us, h => by simp only [RepL] at h; subst h; simp [RepL]
  | n + 1, c :: cs, us, h => by
    simp only [RepL] at h
    obtain ⟨u, us', rfl, h2, h3⟩ := h
    simp only [List.take_succ_cons, RepL]
    exact ⟨u, us'.take n, rfl, h2, RepL.take n h3⟩
theorem RepL.drop : ∀ (n : Nat) {cs : List AV} {us : List Value}, RepL C cs us → RepL C (cs.drop n) (us.drop n)
  | 0, cs, us, h => by simpa using h
  | n + 1, [], us, h => by simp only [RepL] at h; subst h; simp [RepL]
  | n + 1, c :: cs, us, h => by
    simp only [RepL] at h
    obtain ⟨u, us', rfl, h2, h3⟩ := h
    simpa using RepL.drop n h3
theorem RepL.append : ∀ {cs ds : List AV} {us vs : List Value}, RepL C cs us → RepL C ds vs → RepL C (cs ++ ds) (us ++ vs)
  | [], ds, us, vs, h, k => by simp only [RepL] at h; subst h; simpa using k
  | c :: cs, ds, us, vs, h, k => by
    simp only [RepL] at h
    obtain ⟨u, us', rfl, h2, h3⟩ := h
    exact ⟨u, us' ++ vs, rfl, h2, RepL.append h3 k⟩
theorem RepL.ofC : ∀ {cs : List CV} {us : List Value}, RepCs C.ok C.w cs us → RepL C (cs.map AV.c) us
  | [], us, h => by simpa [RepCs, RepL] using h
  | c :: cs, us, h => by
    simp only [RepCs] at h
    obtain ⟨u, us', rfl, h2, h3⟩ := h
    exact ⟨u, us', rfl, h2, RepL.ofC h3⟩
theorem RepL.toC : ∀ {cs : List CV} {us : List Value}, RepL C (cs.map AV.c) us → RepCs C.ok C.w cs us
  | [], us, h => by simpa [RepCs, RepL] using h
  | c :: cs, us, h => by
    simp only [List.map_cons, RepL] at h
    obtain ⟨u, us', rfl, h2, h3⟩ := h
    exact ⟨u, us', rfl, h2, RepL.toC h3⟩
end RepL

def AV.one : AV → Bool
  | .c x => x.one
  | .ref .. | .own .. | .ip .. | .fn .. | .yld .. | .mh .. => true
  | _ => false
theorem Rep.one {C : Cx} {x : AV} {u : Value} (h : Rep C x u) (h1 : x.one = true) : u.oneCell' = true ∧ u.cells = #[u] := by
  cases x with
  | c x => simp only [Rep] at h; exact h.one h1
  | ref id off => simp only [Rep] at h; obtain ⟨_, g, _, rfl⟩ := h; exact ⟨rfl, rfl⟩
  | own id off n size full =>
    simp only [Rep] at h
    obtain ⟨_, ⟨_, _, _, rfl⟩ | ⟨g, cp, _, rfl, _⟩ | ⟨_, _, A, cp, rfl, _⟩⟩ := h <;> exact ⟨rfl, rfl⟩
  | ip cs off => simp only [Rep] at h; obtain ⟨b, o, us, rfl, _⟩ := h; exact ⟨rfl, rfl⟩
  | fn f caps => simp only [Rep] at h; obtain ⟨us, rfl, _⟩ := h; exact ⟨rfl, rfl⟩
  | agg xs => cases h1
  | tup xs => cases h1
  | yld id => simp only [Rep] at h; obtain ⟨_, g, _, rfl⟩ := h; exact ⟨rfl, rfl⟩
  | mh id => simp only [Rep] at h; obtain ⟨_, g, _, rfl⟩ := h; exact ⟨rfl, rfl⟩
  | junk => cases h1
theorem RepL.one {C : Cx} : ∀ {cs : List AV} {us : List Value}, RepL C cs us → cs.all AV.one = true → ∀ u ∈ us, u.oneCell' = true
  | [], us, h, _, u, hu => by simp only [RepL] at h; subst h; simp at hu
  | c :: cs, us, h, h1, u, hu => by
    simp only [RepL] at h
    obtain ⟨u', us', rfl, h2, h3⟩ := h
    simp only [List.all_cons, Bool.and_eq_true] at h1
    rcases List.mem_cons.1 hu with rfl | hu
    · exact (h2.one h1.1).1
    · exact RepL.one h3 h1.2 u hu

def RepM (C : Cx) : List (CV × AV) → List MapEntry → Prop
  | [], ms => ms = []
  | e :: es, ms => ∃ m ms', ms = m :: ms' ∧ RepC C.ok C.w e.1 m.key ∧ Rep C e.2 m.val ∧ RepM C es ms'
theorem RepM.ext {C C' : Cx} (h : Ext C C') : ∀ (es : List (CV × AV)) (ms : List MapEntry), RepM C es ms → RepM C' es ms
  | [], ms, hu => hu
  | e :: es, ms, hu => by
    obtain ⟨m, ms', h1, h2, h3, h4⟩ := hu
    exact ⟨m, ms', h1, RepC.mono h.ok _ _ h2, Rep.ext h _ _ h3, RepM.ext h es ms' h4⟩
structure LC where
  ps : List Tmp
  asn : Code
  bd : Code
inductive AObj where
  | blk (T : TypeId) (cs : List AV)
  | row (T : TypeId) (cs : List CV)
  | lp (st : LoopState) (sz : Nat) (L : LC) (slots : List Nat) (xs : List AV)
  | dfr (op : Bool)
  | tab (es : List (CV × AV))
  | dead

def AObj.live : AObj → Option AObj
  | .blk T cs => some (.blk T cs)
  | .row T cs => some (.row T cs)
  | .lp b sz L sl xs => some (.lp b sz L sl xs)
  | .dfr b => some (.dfr b)
  | .tab es => some (.tab es)
  | .dead => none
theorem fT {o o' : AObj} (h : o.live = some o') : o = o' := by cases o <;> simp [AObj.live] at h <;> exact h

def dfrO (b : Bool) : Option (List Deferred) := match b with | true => some [] | false => none
def ObjRep (C : Cx) (g : Option Nat) : AObj → Prop
  | .blk T cs => ∃ k us, g = some k ∧ C.w.heap[k]? = some (.cells us.toArray T (0, 0)) ∧ RepL C cs us
  | .row T cs => (g = none ∧ cs = []) ∨ ∃ k us vs, g = some k ∧ C.w.heap[k]? = some (.cells (us ++ vs).toArray T (0, 0)) ∧ RepCs C.ok C.w cs us ∧ ∀ u ∈ us, u.oneCell' = true
  | .lp st sz L slots xs => ∃ k r, g = some k ∧ C.w.heap[k]? = some (.loop r) ∧ r.state = st ∧ r.pending = none ∧ r.params = L.ps.toArray ∧ r.assign = L.asn ∧ r.body = L.bd ∧ r.tmps.size = sz ∧ RepL C xs (slots.map fun s => r.tmps.getD s undef)
  | .dfr b => ∃ k, g = some k ∧ C.w.heap[k]? = some (.deferred (dfrO b))
  | .tab es => ∃ k ms t, g = some k ∧ C.w.heap[k]? = some (.map ms t) ∧ Go.MapKept.Stamped ms t ∧ RepM C es ms.toList
  | .dead => False

theorem bN {w : World} {g : Nat} {o : Obj} (h : w.heap[g]? = some o) : g < w.heap.size := by
  rcases Nat.lt_or_ge g w.heap.size with h1 | h1
  · exact h1
  · rw [Array.getElem?_eq_none h1] at h; cases h

theorem ObjRep.lt {C : Cx} {g : Option Nat} {o : AObj} (h : ObjRep C g o) : ∀ k, g = some k → k < C.w.heap.size := by
  intro k hk
  cases o with
  | blk T cs => obtain ⟨k', us, rfl, h2, _⟩ := h; injection hk with hk; subst hk; exact bN h2
  | row T cs =>
    rcases h with ⟨h1, _⟩ | ⟨k', us, vs, rfl, h2, _⟩
    · rw [h1] at hk; cases hk
    · injection hk with hk; subst hk; exact bN h2
  | lp b sz L sl xs => obtain ⟨k', r, rfl, h2, _⟩ := h; injection hk with hk; subst hk; exact bN h2
  | dfr b => obtain ⟨k', rfl, h2⟩ := h; injection hk with hk; subst hk; exact bN h2
  | tab es => obtain ⟨k', ms, t, rfl, h2, _⟩ := h; injection hk with hk; subst hk; exact bN h2
  | dead => exact h.elim

theorem ObjRep.ext {C C' : Cx} (h : Ext C C') {g : Option Nat} {o : AObj} (hg : ∀ k, g = some k → C'.w.heap[k]? = C.w.heap[k]?) (ho : ObjRep C g o) : ObjRep C' g o := by
  cases o with
  | blk T cs =>
    obtain ⟨k, us, rfl, h2, h3⟩ := ho
    exact ⟨k, us, rfl, (hg k rfl).trans h2, RepL.ext h cs us h3⟩
  | row T cs =>
    rcases ho with h1 | ⟨k, us, vs, rfl, h2, h3, h4⟩
    · exact .inl h1
    · exact .inr ⟨k, us, vs, rfl, (hg k rfl).trans h2, RepCs.mono h.ok cs us h3, h4⟩
  | lp b sz L sl xs =>
    obtain ⟨k, r, rfl, h2, h3, h4, h5, h6, h7, h8, h9⟩ := ho
    exact ⟨k, r, rfl, (hg k rfl).trans h2, h3, h4, h5, h6, h7, h8, RepL.ext h xs _ h9⟩
  | dfr b =>
    obtain ⟨k, rfl, h2⟩ := ho
    exact ⟨k, rfl, (hg k rfl).trans h2⟩
  | tab es =>
    obtain ⟨k, ms, t, rfl, h2, h3⟩ := ho
    exact ⟨k, ms, t, rfl, (hg k rfl).trans h2, h3.1, RepM.ext h es _ h3.2⟩
  | dead => exact ho.elim

structure Bs where
  w0 : World
  G : List Nat
  ok0 : Nat → Prop
  fr : List Value

def okOf (B : Bs) (dom : Nat → Prop) (M : Nat → Option Nat) (H : Nat → Option AObj) (b : Nat) : Prop := (B.ok0 b ∨ B.w0.heap.size ≤ b ∨ b ∈ B.G) ∧ ∀ id o, dom id → H id = some o → M id ≠ some b

structure FrB (w0 : World) (G : List Nat) (w : World) : Prop where
  os : w.os = w0.os
  tape : w.tape = w0.tape
  output : w.output = w0.output
  size : w0.heap.size ≤ w.heap.size
  block : ∀ k, k < w0.heap.size → k ∉ G → w.heap[k]? = w0.heap[k]?

theorem FrB.refl (w : World) (G : List Nat) : FrB w G w := ⟨rfl, rfl, rfl, Nat.le_refl _, fun _ _ _ => rfl⟩
theorem FrB.below {w0 w : World} (h : FrB w0 [] w) : Below w0.heap.size w0 w := ⟨h.os, h.tape, h.output, h.size, fun k hk => h.block k hk (by simp)⟩

structure ConcH (B : Bs) (dom : Nat → Prop) (M : Nat → Option Nat) (H : Nat → Option AObj) (w : World) : Prop where
  fr : FrB B.w0 B.G w
  obj : ∀ id o, dom id → H id = some o → ObjRep ⟨dom, M, okOf B dom M H, w⟩ (M id) o
  inj : ∀ id id' o o' g, dom id → dom id' → H id = some o → H id' = some o' → M id = some g → M id' = some g → id = id'
  lo : ∀ id o g, dom id → H id = some o → M id = some g → B.w0.heap.size ≤ g ∨ g ∈ B.G

def ad (dom : Nat → Prop) (i j : Nat) (id : Nat) : Prop := dom id ∨ (i ≤ id ∧ id < j)

section
variable {w w' : World} {B : Bs} {dom : Nat → Prop} {M M' : Nat → Option Nat} {H : Nat → Option AObj}

theorem eA {w w' : World} {b : Nat} (h : w'.heap[b]? = w.heap[b]?) : w'.shape? b = w.shape? b := by simp [World.shape?, h]
theorem kE {w : World} {b : Nat} {x : TypeId × Nat} (h : w.shape? b = some x) : b < w.heap.size := by
  unfold World.shape? at h
  split at h
  · rename_i c e hh; exact bN hh
  · cases h

theorem ConcH.grow (h : ConcH B dom M H w) (hb : Below w.heap.size w w') (i j : Nat) (hM : ∀ id, dom id → M' id = M id) (hd : ∀ id, i ≤ id → id < j → ¬ dom id)
    (hn : ∀ id o, i ≤ id → id < j → H id = some o → ∀ g, M' id = some g → w.heap.size ≤ g)
    (hinj : ∀ id id' o o' g, i ≤ id → id < j → i ≤ id' → id' < j → H id = some o → H id' = some o' → M' id = some g → M' id' = some g → id = id')
    (ho : Ext ⟨dom, M, okOf B dom M H, w⟩ ⟨ad dom i j, M', okOf B (ad dom i j) M' H, w'⟩ → ∀ id o, i ≤ id → id < j → H id = some o → ObjRep ⟨ad dom i j, M', okOf B (ad dom i j) M' H, w'⟩ (M' id) o) :
    ConcH B (ad dom i j) M' H w' ∧ Ext ⟨dom, M, okOf B dom M H, w⟩ ⟨ad dom i j, M', okOf B (ad dom i j) M' H, w'⟩ := by
  have hext : Ext ⟨dom, M, okOf B dom M H, w⟩ ⟨ad dom i j, M', okOf B (ad dom i j) M' H, w'⟩ := by
    refine ⟨fun id hid => ⟨.inl hid, hM id hid⟩, fun b hb1 hb2 => ⟨⟨hb1.1, fun id o hid hH he => ?_⟩, Nat.lt_of_lt_of_le hb2 hb.size, hb.block b hb2⟩, fun b x hx => ?_⟩
    · rcases hid with hid | ⟨h1, h2⟩
      · exact hb1.2 id o hid hH ((hM id hid).symm.trans he)
      · have := hn id o h1 h2 hH b he
        simp only at hb2
        omega
    · rw [← hx]
      exact eA (hb.block b (kE hx))
  refine ⟨⟨⟨hb.os.trans h.fr.os, hb.tape.trans h.fr.tape, hb.output.trans h.fr.output, Nat.le_trans h.fr.size hb.size, fun k h1 h2 => (hb.block k (Nat.lt_of_lt_of_le h1 h.fr.size)).trans (h.fr.block k h1 h2)⟩, fun id o hid hH => ?_, fun id id' o o' g h1 h2 h3 h4 h5 h6 => ?_, fun id o g hid hH he => ?_⟩, hext⟩
  · rcases hid with hid | ⟨h1, h2⟩
    · rw [hM id hid]
      have h3 := h.obj id o hid hH
      exact h3.ext hext (fun k hk => hb.block k (h3.lt k hk))
    · exact ho hext id o h1 h2 hH
  · rcases h1 with h1 | h1 <;> rcases h2 with h2 | h2
    · exact h.inj id id' o o' g h1 h2 h3 h4 ((hM id h1).symm.trans h5) ((hM id' h2).symm.trans h6)
    · have k1 := hn id' o' h2.1 h2.2 h4 g h6
      have k2 := (h.obj id o h1 h3).lt g ((hM id h1).symm.trans h5)
      simp only at k2
      omega
    · have k1 := hn id o h1.1 h1.2 h3 g h5
      have k2 := (h.obj id' o' h2 h4).lt g ((hM id' h2).symm.trans h6)
      simp only at k2
      omega
    · exact hinj id id' o o' g h1.1 h1.2 h2.1 h2.2 h3 h4 h5 h6
  · rcases hid with hid | ⟨h1, h2⟩
    · exact h.lo id o g hid hH ((hM id hid).symm.trans he)
    · have := hn id o h1 h2 hH g he
      have := h.fr.size
      exact .inl (by omega)
end

def lk : List (Nat × AObj) → Nat → Option AObj
  | [], _ => none
  | p :: r, k => match Nat.beq p.1 k with | true => p.2.live | false => lk r k
def lkE : List (Nat × AV) → Nat → Option AV
  | [], _ => none
  | (i, v) :: r, k => match Nat.beq i k with | true => some v | false => lkE r k
def evA (env : List (Nat × AV)) : Operand → Option AV
  | .tmp t => lkE env t
  | .const x => some (.c (.v x))
  | .global _ => none
  | .func f => some (.fn f [])

theorem bD (i : Nat) (o : AObj) (h : List (Nat × AObj)) (k : Nat) : lk ((i, o) :: h) k = if i = k then o.live else lk h k := by
  by_cases hk : i = k
  · subst hk; simp [lk, Nat.beq_refl]
  · have : Nat.beq i k = false := by
      cases h : Nat.beq i k with
      | false => rfl
      | true => exact absurd (Nat.eq_of_beq_eq_true h) hk
    simp only [lk]; rw [this]; simp [hk]
theorem cW (i : Nat) (o : AV) (h : List (Nat × AV)) (k : Nat) : lkE ((i, o) :: h) k = if i = k then some o else lkE h k := by
  by_cases hk : i = k
  · subst hk; simp [lkE, Nat.beq_refl]
  · have : Nat.beq i k = false := by
      cases h : Nat.beq i k with
      | false => rfl
      | true => exact absurd (Nat.eq_of_beq_eq_true h) hk
    simp only [lkE]; rw [this]; simp [hk]
end Go.Av
namespace Go.Av
open Go Go.RowKit

inductive TK where
  | bool | int (k : IntKind) | str | ptr | slice (e : TypeId) | array (n : Nat) (e : TypeId) | struct (fs : List (Nat × TypeId)) | map (k e : TypeId) | func | iface | other
def tkOf : TypeDesc → TK
  | .bool => .bool
  | .int k => .int k
  | .string => .str
  | .pointer _ => .ptr
  | .slice e => .slice e
  | .array n e => .array n e
  | .struct fs => .struct (fs.toList.map fun f => (f.offset, f.type))
  | .map k e => .map k e
  | .func .. => .func
  | .interface _ => .iface
  | _ => .other
def TK.agg : TK → Bool
  | .struct _ | .array _ _ => true
  | _ => false

structure TyE where
  size : Nat
  bytes : Nat
  kind : TK
  zero : List Value

def TyOk (P : Program) (t : TypeId) (e : TyE) : Prop :=
  (P.info? t).map (fun i => (i.size, i.bytes, i.zero.map (·.cells.toList))) = some (e.size, e.bytes, some e.zero) ∧ (P.underlying t).map tkOf = some e.kind

abbrev Tab := List (TypeId × TyE)
def TabOk (P : Program) : Tab → Prop
  | [] => True
  | x :: r => TyOk P x.1 x.2 ∧ TabOk P r
def tyLook : Tab → TypeId → Option TyE
  | [], _ => none
  | (i, e) :: r, k => match Nat.beq i k with | true => some e | false => tyLook r k

theorem aS {P : Program} {t : TypeId} {e : TyE} : ∀ {tab : Tab}, TabOk P tab → tyLook tab t = some e → TyOk P t e
  | [], _, h => by cases h
  | x :: r, ht, h => by
    unfold tyLook at h
    split at h
    · rename_i he; injection h with h; subst h; rw [← Nat.eq_of_beq_eq_true he]; exact ht.1
    · exact aS ht.2 h

section Ty
variable {P : Program} {t : TypeId} {e : TyE}
theorem TyOk.parts (h : TyOk P t e) : ∃ i, P.info? t = some i ∧ i.size = e.size ∧ i.bytes = e.bytes ∧ ∃ z, i.zero = some z ∧ z.cells.toList = e.zero := by
  obtain ⟨h1, _⟩ := h
  obtain ⟨i, hi, he⟩ := Option.map_eq_some_iff.1 h1
  simp only [Prod.mk.injEq] at he
  obtain ⟨z, hz, he2⟩ := Option.map_eq_some_iff.1 he.2.2
  exact ⟨i, hi, he.1, he.2.1, z, hz, he2⟩
theorem TyOk.sizeOf (h : TyOk P t e) (w : World) : (sizeOf t).run P w = .ok e.size w := by
  obtain ⟨i, hi, hs, _⟩ := h.parts
  simp [Go.sizeOf, typeInfo, hi, hs]
theorem TyOk.und (h : TyOk P t e) : ∃ d, P.underlying t = some d ∧ tkOf d = e.kind := by
  obtain ⟨_, h2⟩ := h
  exact Option.map_eq_some_iff.1 h2
theorem TyOk.isAgg (h : TyOk P t e) (w : World) : (isAgg t).run P w = .ok e.kind.agg w := by
  obtain ⟨d, hd, hk⟩ := h.und
  unfold Go.isAgg
  rw [Sem.run_bind, run_underlying hd w, ← hk]
  cases d <;> simp [tkOf, TK.agg]
theorem TyOk.slice (h : TyOk P t e) {x : TypeId} (hk : e.kind = .slice x) : P.underlying t = some (.slice x) := by
  obtain ⟨d, hd, hk'⟩ := h.und
  rw [hk] at hk'
  cases d <;> simp [tkOf] at hk'
  subst hk'; exact hd
theorem TyOk.array (h : TyOk P t e) {n : Nat} {x : TypeId} (hk : e.kind = .array n x) : P.underlying t = some (.array n x) := by
  obtain ⟨d, hd, hk'⟩ := h.und
  rw [hk] at hk'
  cases d <;> simp [tkOf] at hk'
  obtain ⟨rfl, rfl⟩ := hk'; exact hd
theorem TyOk.struct (h : TyOk P t e) {fs : List (Nat × TypeId)} (hk : e.kind = .struct fs) : ∃ fields : Array Field, P.underlying t = some (.struct fields) ∧ fields.toList.map (fun f => (f.offset, f.type)) = fs := by
  obtain ⟨d, hd, hk'⟩ := h.und
  rw [hk] at hk'
  cases d <;> simp [tkOf] at hk'
  exact ⟨_, hd, hk'⟩
theorem TyOk.int (h : TyOk P t e) {k : IntKind} (hk : e.kind = .int k) : P.underlying t = some (.int k) := by
  obtain ⟨d, hd, hk'⟩ := h.und
  rw [hk] at hk'
  cases d <;> simp [tkOf] at hk'
  subst hk'; exact hd
theorem TyOk.str (h : TyOk P t e) (hk : e.kind = .str) : P.underlying t = some .string := by
  obtain ⟨d, hd, hk'⟩ := h.und
  rw [hk] at hk'
  cases d <;> simp [tkOf] at hk'
  exact hd
theorem TyOk.bool (h : TyOk P t e) (hk : e.kind = .bool) : P.underlying t = some .bool := by
  obtain ⟨d, hd, hk'⟩ := h.und
  rw [hk] at hk'
  cases d <;> simp [tkOf] at hk'
  exact hd
theorem TyOk.field (h : TyOk P t e) {fs : List (Nat × TypeId)} (hk : e.kind = .struct fs) {f off : Nat} {ft : TypeId} (hf : fs[f]? = some (off, ft)) : ∃ (fields : Array Field) (fd : Field), P.underlying t = some (.struct fields) ∧ fields[f]? = some fd ∧ fd.offset = off ∧ fd.type = ft := by
  obtain ⟨fields, h1, h2⟩ := h.struct hk
  rw [← h2, List.getElem?_map] at hf
  obtain ⟨fd, h3, h4⟩ := Option.map_eq_some_iff.1 hf
  simp only [Prod.mk.injEq] at h4
  exact ⟨fields, fd, h1, by simpa using h3, h4.1, h4.2⟩
end Ty

theorem gG (b o j : Nat) : (⟨b, o, none⟩ : Addr).add j = ⟨b, o + j, none⟩ := by
  unfold Addr.add; split <;> simp_all

abbrev Env := List (Nat × AV)
abbrev Heap := List (Nat × AObj)
abbrev Evl := Operand → Option AV

def Adds (P : Program) (o : Oper) (ev : Evl) (h : Heap) (v : AV) (Δ : Heap) (i j : Nat) : Prop :=
  ∀ (B : Bs) (dom : Nat → Prop) (M : Nat → Option Nat) (H : Nat → Option AObj) (w : World) (a : Act) (K : Act → World → Prop) (Q : Exit → Act → World → Prop),
    (∀ id o, lk h id = some o → dom id → H id = some o) → (∀ id, i ≤ id → id < j → ¬ dom id ∧ H id = lk Δ id) →
    ConcH B dom M H w → (∀ x av, ev x = some av → Rep ⟨dom, M, okOf B dom M H, w⟩ av (a.eval x)) →
    (∀ u w' M', Ext ⟨dom, M, okOf B dom M H, w⟩ ⟨ad dom i j, M', okOf B (ad dom i j) M' H, w'⟩ → ConcH B (ad dom i j) M' H w' → Rep ⟨ad dom i j, M', okOf B (ad dom i j) M' H, w'⟩ v u → K (a.put o.dst u) w') →
    o.wp P a w K Q

def Still (P : Program) (o : Oper) (ev : Evl) (h : Heap) (v : AV) : Prop :=
  ∀ (B : Bs) (dom : Nat → Prop) (M : Nat → Option Nat) (H : Nat → Option AObj) (w : World) (a : Act),
    (∀ id o, lk h id = some o → dom id → H id = some o) → ConcH B dom M H w → (∀ x av, ev x = some av → Rep ⟨dom, M, okOf B dom M H, w⟩ av (a.eval x)) →
    ∃ u, (execOp a.eval o).run P w = .ok (.value u) w ∧ Rep ⟨dom, M, okOf B dom M H, w⟩ v u

theorem cQ (dom : Nat → Prop) (i : Nat) : ad dom i i = dom := by
  funext id
  simp only [ad, eq_iff_iff]
  exact ⟨fun h => h.elim (fun h => h) (fun h => by omega), .inl⟩

section
variable {P : Program} {o : Oper} {ev : Evl} {h : Heap} {v : AV} {i : Nat}

theorem Still.adds (hs : Still P o ev h v) : Adds P o ev h v [] i i := by
  intro B dom M H w a K Q hh _ hc he hK
  obtain ⟨u, hr, hv⟩ := hs B dom M H w a hh hc he
  unfold Oper.wp
  rw [hr]
  simp only [Oper.upon]
  refine hK u w M ?_ ?_ ?_ <;> rw [cQ]
  · exact Ext.refl _
  · exact hc
  · exact hv

theorem adds_new (hrun : ∀ (B : Bs) (dom : Nat → Prop) (M : Nat → Option Nat) (H : Nat → Option AObj) (w : World) (a : Act),
    (∀ id o, lk h id = some o → dom id → H id = some o) → ConcH B dom M H w → (∀ x av, ev x = some av → Rep ⟨dom, M, okOf B dom M H, w⟩ av (a.eval x)) →
    ∃ u w', (execOp a.eval o).run P w = .ok (.value u) w' ∧ Below w.heap.size w w' ∧ (∀ C, Ext ⟨dom, M, okOf B dom M H, w⟩ C → C.w = w' → (∀ b, w.heap.size ≤ b → C.ok b) → Rep C v u)) : Adds P o ev h v [] i i := by
  intro B dom M H w a K Q hh _ hc he hK
  obtain ⟨u, w', hr, hb, hv⟩ := hrun B dom M H w a hh hc he
  unfold Oper.wp
  rw [hr]
  simp only [Oper.upon]
  have hg := hc.grow hb i i (M' := M) (fun _ _ => rfl) (fun id h1 h2 => by omega) (fun id o h1 h2 => by omega) (fun id id' o o' g h1 h2 => by omega) (fun _ id o h1 h2 => by omega)
  refine hK u w' M hg.2 hg.1 (hv _ hg.2 rfl fun b hb => ⟨.inr (.inl (Nat.le_trans hc.fr.size hb)), fun id o hid hH he => ?_⟩)
  rw [cQ] at hid
  have := (hc.obj id o hid hH).lt b he
  simp only at this
  omega

theorem iA {obj : AObj} (hlv : obj.live = some obj) (hrun : ∀ (B : Bs) (dom : Nat → Prop) (M : Nat → Option Nat) (H : Nat → Option AObj) (w : World) (a : Act),
    (∀ id o, lk h id = some o → dom id → H id = some o) → ConcH B dom M H w → (∀ x av, ev x = some av → Rep ⟨dom, M, okOf B dom M H, w⟩ av (a.eval x)) →
    ∃ u w' m, (execOp a.eval o).run P w = .ok (.value u) w' ∧ Below w.heap.size w w' ∧ (∀ g, m = some g → w.heap.size ≤ g) ∧
      (∀ C, Ext ⟨dom, M, okOf B dom M H, w⟩ C → C.w = w' → C.dom i → C.M i = m → ObjRep C m obj ∧ Rep C v u)) : Adds P o ev h v [(i, obj)] i (i + 1) := by
  intro B dom M H w a K Q hh hn hc he hK
  obtain ⟨u, w', m, hr, hb, hm, hv⟩ := hrun B dom M H w a hh hc he
  unfold Oper.wp
  rw [hr]
  simp only [Oper.upon]
  have hi := hn i (Nat.le_refl _) (Nat.lt_succ_self _)
  have e1 : H i = some obj := by rw [hi.2, bD, if_pos rfl, hlv]
  let M' : Nat → Option Nat := fun id => if id = i then m else M id
  have hM' : M' i = m := by simp [M']
  have hg := hc.grow hb i (i + 1) (M' := M') (fun id hid => by
      have : id ≠ i := fun e => hi.1 (e ▸ hid)
      simp [M', this]) (fun id h1 h2 => (hn id h1 h2).1)
    (fun id o h1 h2 h3 g hg => by
      obtain rfl : id = i := by omega
      rw [hM'] at hg
      exact hm g hg)
    (fun id id' o o' g h1 h2 h3 h4 => fun _ _ _ _ => by omega)
    (fun hext id o h1 h2 h3 => by
      obtain rfl : id = i := by omega
      rw [e1] at h3
      injection h3 with h3
      subst h3
      rw [hM']
      exact (hv _ hext rfl (.inr ⟨h1, h2⟩) hM').1)
  exact hK u w' M' hg.2 hg.1 (hv _ hg.2 rfl (.inr ⟨Nat.le_refl _, Nat.lt_succ_self _⟩) hM').2
end

section ops
variable {P : Program} {tab : Tab} {ev : Evl} {h : Heap} {d : Option Tmp} {T ty : TypeId} {x y z : Operand} {pos : String} {aft : Array Edge} {gd : Option (Nat × Bool)} {i : Nat}

theorem kD {v : AV} (hx : ev x = some v) : Still P ⟨d, .move x, ty, pos, aft, gd⟩ ev h v := by
  intro B dom M H w a hh hc he
  exact ⟨a.eval x, by simp [execOp], he x v hx⟩
theorem qO {v : AV} (hx : ev x = some v) : Still P ⟨d, .assign x, ty, pos, aft, gd⟩ ev h v := by
  intro B dom M H w a hh hc he
  exact ⟨a.eval x, by simp [execOp], he x v hx⟩
theorem oU {v : AV} (hc0 : ev z = some (.c (.v (.bool true)))) (hx : ev x = some v) : Still P ⟨d, .pick z x y, ty, pos, aft, gd⟩ ev h v := by
  intro B dom M H w a hh hc he
  have h0 := he z _ hc0
  simp only [Rep, RepC] at h0
  exact ⟨a.eval x, by simp [execOp, h0, asBool], he x v hx⟩
theorem oT {v : AV} (hc0 : ev z = some (.c (.v (.bool false)))) (hy : ev y = some v) : Still P ⟨d, .pick z x y, ty, pos, aft, gd⟩ ev h v := by
  intro B dom M H w a hh hc he
  have h0 := he z _ hc0
  simp only [Rep, RepC] at h0
  exact ⟨a.eval y, by simp [execOp, h0, asBool], he y v hy⟩

theorem eN {B : Bs} {dom : Nat → Prop} {M : Nat → Option Nat} {H : Nat → Option AObj} {w : World} (hh : ∀ id o, lk h id = some o → dom id → H id = some o) (hc : ConcH B dom M H w) {id g : Nat} {T : TypeId} {cs : List AV}
    (ho : lk h id = some (.blk T cs)) (hd : dom id) (hM : M id = some g) : ∃ us, w.heap[g]? = some (.cells us.toArray T (0, 0)) ∧ RepL ⟨dom, M, okOf B dom M H, w⟩ cs us := by
  obtain ⟨k, us, h1, h2, h3⟩ := hc.obj id _ hd (hh id _ ho hd)
  rw [hM] at h1
  injection h1 with h1
  subst h1
  exact ⟨us, h2, h3⟩
theorem eE {B : Bs} {dom : Nat → Prop} {M : Nat → Option Nat} {H : Nat → Option AObj} {w : World} (hh : ∀ id o, lk h id = some o → dom id → H id = some o) (hc : ConcH B dom M H w) {id g : Nat} {T : TypeId} {cs : List CV}
    (ho : lk h id = some (.row T cs)) (hd : dom id) (hM : M id = some g) : ∃ us vs, w.heap[g]? = some (.cells (us ++ vs).toArray T (0, 0)) ∧ RepCs (okOf B dom M H) w cs us ∧ ∀ u ∈ us, u.oneCell' = true := by
  rcases hc.obj id _ hd (hh id _ ho hd) with ⟨h1, _⟩ | ⟨k, us, vs, h1, h2, h3, h4⟩
  · rw [hM] at h1; cases h1
  · rw [hM] at h1
    injection h1 with h1
    subst h1
    exact ⟨us, vs, h2, h3, h4⟩

theorem iD {w : World} {g : Nat} {us : List Value} {T : TypeId} {fz : Nat × Nat} (h : w.heap[g]? = some (.cells us.toArray T fz)) (off : Nat) : w.cell? ⟨g, off, none⟩ = us[off]? := by
  simp [World.cell?, h]
theorem eY {w : World} {g : Nat} {us vs : List Value} {T : TypeId} {fz : Nat × Nat} (h : w.heap[g]? = some (.cells (us ++ vs).toArray T fz)) {off : Nat} {u : Value} (hu : us[off]? = some u) : w.cell? ⟨g, off, none⟩ = some u := by
  rw [iD h, List.getElem?_append_left (List.getElem?_eq_some_iff.1 hu).1]
  exact hu

theorem kQ {w : World} {e : TyE} (hT : TyOk P T e) (hk : e.kind.agg = false) {p : Addr} {u : Value} (hp : w.cell? p = some u) : (loadVar T p).run P w = .ok u w := by
  have ha := hT.isAgg w
  simp [loadVar, Sem.run_bind, ha, hk, hp]
theorem iO {w : World} {e : TyE} (hT : TyOk P T e) (hk : e.kind.agg = true) {g off : Nat} {us : List Value} (hl : us.length = e.size) (hp : ∀ j u, us[j]? = some u → w.cell? ⟨g, off + j, none⟩ = some u) : (loadVar T ⟨g, off, none⟩).run P w = .ok (.agg us.toArray) w := by
  have ha := hT.isAgg w
  have hs := hT.sizeOf w
  have := run_loadCells_list (P := P) w ⟨g, off, none⟩ us (fun j v hj => by rw [gG]; exact hp j v hj)
  rw [hl] at this
  simp [loadVar, Sem.run_bind, ha, hk, hs, this]

theorem aR (tb : TabOk P tab) {e : TyE} (hT : tyLook tab T = some e) (hk : e.kind.agg = false) {id off : Nat} {T' : TypeId} {cs : List AV} {v : AV} (hx : ev x = some (.ref id off)) (ho : lk h id = some (.blk T' cs)) (hv : cs[off]? = some v) :
    Still P ⟨d, .load T x, ty, pos, aft, gd⟩ ev h v := by
  intro B dom M H w a hh hc he
  have hp := he x _ hx
  simp only [Rep] at hp
  obtain ⟨hd, g, hM, hp⟩ := hp
  obtain ⟨us, h2, h3⟩ := eN hh hc ho hd hM
  obtain ⟨u, hu, hr⟩ := h3.get hv
  refine ⟨u, ?_, hr⟩
  have := kQ (P := P) (w := w) (aS tb hT) hk (p := ⟨g, off, none⟩) (by rw [iD h2]; exact hu)
  simp [execOp, hp, Instr.loadAt, Instr.sureAddr, this]
theorem aN (tb : TabOk P tab) {e : TyE} (hT : tyLook tab T = some e) (hk : e.kind.agg = false) {id off : Nat} {T' : TypeId} {cs : List CV} {v : CV} (hx : ev x = some (.ref id off)) (ho : lk h id = some (.row T' cs)) (hv : cs[off]? = some v) :
    Still P ⟨d, .load T x, ty, pos, aft, gd⟩ ev h (.c v) := by
  intro B dom M H w a hh hc he
  have hp := he x _ hx
  simp only [Rep] at hp
  obtain ⟨hd, g, hM, hp⟩ := hp
  obtain ⟨us, vs, h2, h3, h30⟩ := eE hh hc ho hd hM
  obtain ⟨u, hu, hr⟩ := h3.get hv
  refine ⟨u, ?_, hr⟩
  have := kQ (P := P) (w := w) (aS tb hT) hk (p := ⟨g, off, none⟩) (eY h2 hu)
  simp [execOp, hp, Instr.loadAt, Instr.sureAddr, this]
theorem aM (tb : TabOk P tab) {e : TyE} (hT : tyLook tab T = some e) (hk : e.kind.agg = false) {off : Nat} {cs : List CV} {v : CV} (hx : ev x = some (.ip cs off)) (hv : cs[off]? = some v) :
    Still P ⟨d, .load T x, ty, pos, aft, gd⟩ ev h (.c v) := by
  intro B dom M H w a hh hc he
  have hp := he x _ hx
  simp only [Rep] at hp
  obtain ⟨b, o, us, hp, h2, h3, h4, h40, h5⟩ := hp
  obtain ⟨u, hu, hr⟩ := h4.get hv
  refine ⟨u, ?_, hr⟩
  have := kQ (P := P) (w := w) (aS tb hT) hk (p := ⟨b, o + off, none⟩) (h5 off u hu)
  simp [execOp, hp, Instr.loadAt, Instr.sureAddr, this]

def allC : List AV → Option (List CV)
  | [] => some []
  | .c x :: r => match allC r with | some cs => some (x :: cs) | none => none
  | _ :: _ => none
theorem allC_eq : ∀ {xs : List AV} {cs : List CV}, allC xs = some cs → xs = cs.map AV.c
  | [], cs, h => by simp [allC] at h; subst h; rfl
  | .c x :: r, cs, h => by
    simp only [allC] at h
    split at h
    · rename_i cs' h'; injection h with h; subst h; rw [allC_eq h']; rfl
    · cases h
  | .ref .. :: r, cs, h => by simp [allC] at h
  | .own .. :: r, cs, h => by simp [allC] at h
  | .ip .. :: r, cs, h => by simp [allC] at h
  | .agg .. :: r, cs, h => by simp [allC] at h
  | .tup .. :: r, cs, h => by simp [allC] at h
  | .fn .. :: r, cs, h => by simp [allC] at h
  | .yld .. :: r, cs, h => by simp [allC] at h
  | .mh .. :: r, cs, h => by simp [allC] at h
  | .junk :: r, cs, h => by simp [allC] at h

inductive IsAgg : List AV → AV → Prop
  | closed {xs : List AV} {cs : List CV} (h : allC xs = some cs) (h1 : xs.all AV.one = true) : IsAgg xs (.c (.agg cs))
  | mixed (xs : List AV) : IsAgg xs (.agg xs)
theorem IsAgg.rep {C : Cx} {xs : List AV} {v : AV} (h : IsAgg xs v) {us : List Value} (hr : RepL C xs us) : Rep C v (.agg us.toArray) := by
  cases h with
  | closed h h1 =>
    have h2 := hr.one h1
    rw [allC_eq h] at hr; exact ⟨us, rfl, hr.toC, h2⟩
  | mixed => exact ⟨us, rfl, hr⟩
inductive Parts : AV → List AV → Prop
  | closed (cs : List CV) : Parts (.c (.agg cs)) (cs.map AV.c)
  | mixed (xs : List AV) : Parts (.agg xs) xs
theorem Parts.rep {C : Cx} {xs : List AV} {v : AV} (h : Parts v xs) {u : Value} (hr : Rep C v u) : ∃ us, u = .agg us.toArray ∧ RepL C xs us := by
  cases h with
  | closed cs => obtain ⟨us, h1, h2, _⟩ := hr; exact ⟨us, h1, RepL.ofC h2⟩
  | mixed => exact hr

theorem tT (tb : TabOk P tab) {e : TyE} (hT : tyLook tab T = some e) (hk : e.kind.agg = true) {id off : Nat} {T' : TypeId} {cs xs : List AV} {v : AV} (hx : ev x = some (.ref id off)) (ho : lk h id = some (.blk T' cs)) (hxs : (cs.drop off).take e.size = xs) (hl : xs.length = e.size) (hv : IsAgg xs v) :
    Still P ⟨d, .load T x, ty, pos, aft, gd⟩ ev h v := by
  intro B dom M H w a hh hc he
  have hp := he x _ hx
  simp only [Rep] at hp
  obtain ⟨hd, g, hM, hp⟩ := hp
  obtain ⟨us, h2, h3⟩ := eN hh hc ho hd hM
  have h4 := (h3.drop off).take e.size
  rw [hxs] at h4
  refine ⟨.agg ((us.drop off).take e.size).toArray, ?_, hv.rep h4⟩
  have := iO (P := P) (w := w) (aS tb hT) hk (g := g) (off := off) (us := (us.drop off).take e.size) (by rw [h4.length, hl]) (fun j u hj => by
    rw [iD h2]
    have hjk : j < e.size := by
      rcases Nat.lt_or_ge j e.size with h1 | h1
      · exact h1
      · rw [List.getElem?_eq_none (by rw [List.length_take]; omega)] at hj; cases hj
    rwa [List.getElem?_take_of_lt hjk, List.getElem?_drop] at hj)
  simp [execOp, hp, Instr.loadAt, Instr.sureAddr, this]
theorem aW (tb : TabOk P tab) {e : TyE} (hT : tyLook tab T = some e) (hk : e.kind.agg = true) {id off : Nat} {T' : TypeId} {cs xs : List CV} (hx : ev x = some (.ref id off)) (ho : lk h id = some (.row T' cs)) (hxs : (cs.drop off).take e.size = xs) (hl : xs.length = e.size) :
    Still P ⟨d, .load T x, ty, pos, aft, gd⟩ ev h (.c (.agg xs)) := by
  intro B dom M H w a hh hc he
  have hp := he x _ hx
  simp only [Rep] at hp
  obtain ⟨hd, g, hM, hp⟩ := hp
  obtain ⟨us, vs, h2, h3, h30⟩ := eE hh hc ho hd hM
  have h4 := (h3.drop off).take e.size
  rw [hxs] at h4
  refine ⟨.agg ((us.drop off).take e.size).toArray, ?_, _, rfl, h4, fun u hu => h30 u (List.mem_of_mem_drop (List.mem_of_mem_take hu))⟩
  have := iO (P := P) (w := w) (aS tb hT) hk (g := g) (off := off) (us := (us.drop off).take e.size) (by rw [h4.length, hl]) (fun j u hj => by
    have hjk : j < e.size := by
      rcases Nat.lt_or_ge j e.size with h1 | h1
      · exact h1
      · rw [List.getElem?_eq_none (by rw [List.length_take]; omega)] at hj; cases hj
    rw [List.getElem?_take_of_lt hjk, List.getElem?_drop] at hj
    exact eY h2 hj)
  simp [execOp, hp, Instr.loadAt, Instr.sureAddr, this]
theorem aV (tb : TabOk P tab) {e : TyE} (hT : tyLook tab T = some e) (hk : e.kind.agg = true) {off : Nat} {cs xs : List CV} (hx : ev x = some (.ip cs off)) (hxs : (cs.drop off).take e.size = xs) (hl : xs.length = e.size) :
    Still P ⟨d, .load T x, ty, pos, aft, gd⟩ ev h (.c (.agg xs)) := by
  intro B dom M H w a hh hc he
  have hp := he x _ hx
  simp only [Rep] at hp
  obtain ⟨b, o, us, hp, h2, h3, h4, h40, h5⟩ := hp
  have h6 := (h4.drop off).take e.size
  rw [hxs] at h6
  refine ⟨.agg ((us.drop off).take e.size).toArray, ?_, _, rfl, h6, fun u hu => h40 u (List.mem_of_mem_drop (List.mem_of_mem_take hu))⟩
  have := iO (P := P) (w := w) (aS tb hT) hk (g := b) (off := o + off) (us := (us.drop off).take e.size) (by rw [h6.length, hl]) (fun j u hj => by
    have hjk : j < e.size := by
      rcases Nat.lt_or_ge j e.size with h1 | h1
      · exact h1
      · rw [List.getElem?_eq_none (by rw [List.length_take]; omega)] at hj; cases hj
    rw [List.getElem?_take_of_lt hjk, List.getElem?_drop] at hj
    rw [Nat.add_assoc]
    exact h5 _ u hj)
  simp [execOp, hp, Instr.loadAt, Instr.sureAddr, this]

theorem kC (tb : TabOk P tab) {e e' : TyE} {fs : List (Nat × TypeId)} (hT : tyLook tab T = some e) (hk : e.kind = .struct fs) {f fo : Nat} {ft : TypeId} (hf : fs[f]? = some (fo, ft)) (hft : tyLook tab ft = some e') (hpos : Nat.beq e'.size 0 = false) {id off : Nat} (hx : ev x = some (.ref id off)) :
    Still P ⟨d, .fieldAddr T x f, ty, pos, aft, gd⟩ ev h (.ref id (off + fo)) := by
  intro B dom M H w a hh hc he
  have hp := he x _ hx
  simp only [Rep] at hp
  obtain ⟨hd, g, hM, hp⟩ := hp
  obtain ⟨fields, fd, h1, h2, h3, h4⟩ := (aS tb hT).field hk hf
  refine ⟨.pointer (some ⟨g, off + fo, none⟩), ?_, hd, g, hM, rfl⟩
  have hsz : ¬ e'.size = 0 := fun h0 => by rw [h0] at hpos; cases hpos
  subst h3 h4
  have hs := (aS tb hft).sizeOf w
  simp [execOp, Instr.fieldAt, Sem.run_bind, run_underlying h1, h2, hp, Instr.sureAddr, fieldPlace, hs, hsz, gG]
theorem jB (tb : TabOk P tab) {e e' : TyE} {fs : List (Nat × TypeId)} (hT : tyLook tab T = some e) (hk : e.kind = .struct fs) {f fo : Nat} {ft : TypeId} (hf : fs[f]? = some (fo, ft)) (hft : tyLook tab ft = some e') (hpos : Nat.beq e'.size 0 = false) {cs : List CV} {off : Nat} (hx : ev x = some (.ip cs off)) :
    Still P ⟨d, .fieldAddr T x f, ty, pos, aft, gd⟩ ev h (.ip cs (off + fo)) := by
  intro B dom M H w a hh hc he
  have hp := he x _ hx
  simp only [Rep] at hp
  obtain ⟨b, o, us, hp, h2', h3', h4', h6', h5'⟩ := hp
  obtain ⟨fields, fd, h1, h2, h3, h4⟩ := (aS tb hT).field hk hf
  refine ⟨.pointer (some ⟨b, o + (off + fo), none⟩), ?_, b, o, us, rfl, h2', h3', h4', h6', h5'⟩
  have hsz : ¬ e'.size = 0 := fun h0 => by rw [h0] at hpos; cases hpos
  subst h3 h4
  have hs := (aS tb hft).sizeOf w
  simp [execOp, Instr.fieldAt, Sem.run_bind, run_underlying h1, h2, hp, Instr.sureAddr, fieldPlace, hs, hsz, gG, Nat.add_assoc]

theorem nL {xs : List AV} {k : Nat} {u : AV} (hx : ev x = some (.tup xs)) (hu : xs[k]? = some u) : Still P ⟨d, .extract x k, ty, pos, aft, gd⟩ ev h u := by
  intro B dom M H w a hh hc he
  have hp := he x _ hx
  simp only [Rep] at hp
  obtain ⟨us, h1, h2⟩ := hp
  obtain ⟨u', hu', hr⟩ := h2.get hu
  refine ⟨u', ?_, hr⟩
  simp [execOp, Instr.extract, h1, hu']

theorem eI {C : Cx} {a : Act} (he : ∀ x av, ev x = some av → Rep C av (a.eval x)) : ∀ {xs : List Operand} {vs : List AV}, xs.map ev = vs.map some → RepL C vs (xs.map a.eval)
  | [], vs, h => by cases vs with | nil => simp [RepL] | cons v vs => simp at h
  | x :: xs, vs, h => by
    cases vs with
    | nil => simp at h
    | cons v vs =>
      simp only [List.map_cons, List.cons.injEq] at h
      exact ⟨_, _, rfl, he x v h.1, eI he h.2⟩

def argsA (ev : Evl) : List Operand → Option (List AV)
  | [] => some []
  | x :: r => match ev x with
    | some v => match argsA ev r with | some vs => some (v :: vs) | none => none
    | none => none
theorem iB : ∀ {xs : List Operand} {vs : List AV}, argsA ev xs = some vs → xs.map ev = vs.map some
  | [], vs, h => by simp [argsA] at h; subst h; rfl
  | x :: r, vs, h => by
    simp only [argsA] at h
    split at h
    · rename_i v hv
      split at h
      · rename_i ws hw
        injection h with h; subst h
        simp [hv, iB hw]
      · cases h
    · cases h
def argsC (ev : Evl) : List Operand → Option (List CV)
  | [] => some []
  | x :: r => match ev x with
    | some (.c v) => match argsC ev r with | some vs => some (v :: vs) | none => none
    | _ => none
theorem fU : ∀ {xs : List Operand} {vs : List CV}, argsC ev xs = some vs → xs.map ev = vs.map (fun c => some (AV.c c))
  | [], vs, h => by simp [argsC] at h; subst h; rfl
  | x :: r, vs, h => by
    simp only [argsC] at h
    split at h
    · rename_i v hv
      split at h
      · rename_i ws hw
        injection h with h; subst h
        simp [hv, fU hw]
      · cases h
    · cases h
theorem lP {f : FuncId} {caps : List Operand} {vs : List AV} (hx : argsA ev caps = some vs) : Still P ⟨d, .makeFunc (.func f) #[] caps.toArray, ty, pos, aft, gd⟩ ev h (.fn f vs) := by
  intro B dom M H w a hh hc he
  refine ⟨.func (.func f) #[] (caps.map a.eval).toArray, ?_, _, rfl, eI he (iB hx)⟩
  simp [execOp, Instr.makeFunc]

theorem lQ {id off : Nat} (hx : ev x = some (.ref id off)) : Still P ⟨d, .nilCheck x, ty, pos, aft, gd⟩ ev h (.ref id off) := by
  intro B dom M H w a hh hc he
  have hp := he x _ hx
  refine ⟨a.eval x, ?_, hp⟩
  simp only [Rep] at hp
  obtain ⟨hd, g, hM, hp⟩ := hp
  simp [execOp, hp]
theorem fJ {op : BinOp} {T' : TypeId} {p q r : Value} (hx : ev x = some (.c (.v p))) (hy : ev y = some (.c (.v q))) (hg : ∀ w, (eqGuard op T x y p q).run P w = .ok () w) (hrun : ∀ w, (binOp op T p q).run P w = .ok r w) :
    Still P ⟨d, .binOp op T x y T', ty, pos, aft, gd⟩ ev h (.c (.v r)) := by
  intro B dom M H w a hh hc he
  have h1 := he x _ hx
  have h2 := he y _ hy
  simp only [Rep, RepC] at h1 h2
  refine ⟨r, ?_, rfl⟩
  simp [execOp, h1, h2, hg, hrun]
theorem cY {op : BinOp} {k k' : IntKind} {m n : Int} (w : World) : (eqGuard op T x y (.int k m) (.int k' n)).run P w = .ok () w := by
  cases op <;> simp [eqGuard]
theorem zF {op : BinOp} {m n : Bool} (w : World) : (eqGuard op T x y (.bool m) (.bool n)).run P w = .ok () w := by
  cases op <;> simp [eqGuard]
theorem nD {op : BinOp} {m n : ByteArray} (w : World) : (eqGuard op T x y (.string m) (.string n)).run P w = .ok () w := by
  cases op <;> simp [eqGuard]

section ints
variable {T' : TypeId} {k : IntKind} {m n r : Int} {b : Bool} (hx : ev x = some (.c (.v (.int k m)))) (hy : ev y = some (.c (.v (.int k n))))
include hx hy
theorem s_add (hr : k.wrap (m + n) = r) : Still P ⟨d, .binOp .add T x y T', ty, pos, aft, gd⟩ ev h (.c (.v (.int k r))) := fJ hx hy cY (fun w => by simp [binOp, Op.intArith, hr])
theorem s_sub (hr : k.wrap (m - n) = r) : Still P ⟨d, .binOp .sub T x y T', ty, pos, aft, gd⟩ ev h (.c (.v (.int k r))) := fJ hx hy cY (fun w => by simp [binOp, Op.intArith, hr])
theorem s_mul (hr : k.wrap (m * n) = r) : Still P ⟨d, .binOp .mul T x y T', ty, pos, aft, gd⟩ ev h (.c (.v (.int k r))) := fJ hx hy cY (fun w => by simp [binOp, Op.intArith, hr])
theorem mK (h0 : n ≠ 0) (hr : k.wrap (m.tdiv n) = r) : Still P ⟨d, .binOp .quo T x y T', ty, pos, aft, gd⟩ ev h (.c (.v (.int k r))) := fJ hx hy cY (fun w => by simp [binOp, Op.intDiv, hr, h0])
theorem oD (h0 : n ≠ 0) (hr : m.tmod n = r) : Still P ⟨d, .binOp .rem T x y T', ty, pos, aft, gd⟩ ev h (.c (.v (.int k r))) := fJ hx hy cY (fun w => by simp [binOp, Op.intDiv, hr, h0])
theorem s_xor (hr : k.wrap (BitVec.ofInt k.bits m ^^^ BitVec.ofInt k.bits n).toNat = r) : Still P ⟨d, .binOp .xor T x y T', ty, pos, aft, gd⟩ ev h (.c (.v (.int k r))) := fJ hx hy cY (fun w => by subst hr; simp [binOp, Op.intBits])
theorem s_eql (hr : decide (m = n) = b) : Still P ⟨d, .binOp .eql T x y T', ty, pos, aft, gd⟩ ev h (.c (.v (.bool b))) := fJ hx hy cY (fun w => by subst hr; simp [binOp, Op.intCmp]; rfl)
theorem s_neq (hr : decide (m ≠ n) = b) : Still P ⟨d, .binOp .neq T x y T', ty, pos, aft, gd⟩ ev h (.c (.v (.bool b))) := fJ hx hy cY (fun w => by subst hr; simp [binOp, Op.intCmp, bne]; rfl)
theorem s_lss (hr : decide (m < n) = b) : Still P ⟨d, .binOp .lss T x y T', ty, pos, aft, gd⟩ ev h (.c (.v (.bool b))) := fJ hx hy cY (fun w => by subst hr; simp [binOp, Op.intCmp])
theorem s_leq (hr : decide (m ≤ n) = b) : Still P ⟨d, .binOp .leq T x y T', ty, pos, aft, gd⟩ ev h (.c (.v (.bool b))) := fJ hx hy cY (fun w => by subst hr; simp [binOp, Op.intCmp])
theorem s_gtr (hr : decide (n < m) = b) : Still P ⟨d, .binOp .gtr T x y T', ty, pos, aft, gd⟩ ev h (.c (.v (.bool b))) := fJ hx hy cY (fun w => by subst hr; simp [binOp, Op.intCmp])
theorem s_geq (hr : decide (n ≤ m) = b) : Still P ⟨d, .binOp .geq T x y T', ty, pos, aft, gd⟩ ev h (.c (.v (.bool b))) := fJ hx hy cY (fun w => by subst hr; simp [binOp, Op.intCmp])
end ints
theorem s_shl {T' : TypeId} {k k' : IntKind} {m n r : Int} (hx : ev x = some (.c (.v (.int k m)))) (hy : ev y = some (.c (.v (.int k' n)))) (h0 : 0 ≤ n) (hr : k.wrap (m * 2 ^ (min n.toNat k.bits)) = r) : Still P ⟨d, .binOp .shl T x y T', ty, pos, aft, gd⟩ ev h (.c (.v (.int k r))) :=
  fJ hx hy cY (fun w => by have : ¬ n < 0 := by omega
                           subst hr; simp [binOp, Op.shift, this])
theorem s_shr {T' : TypeId} {k k' : IntKind} {m n r : Int} (hx : ev x = some (.c (.v (.int k m)))) (hy : ev y = some (.c (.v (.int k' n)))) (h0 : 0 ≤ n) (hr : m.fdiv (2 ^ (min n.toNat k.bits)) = r) : Still P ⟨d, .binOp .shr T x y T', ty, pos, aft, gd⟩ ev h (.c (.v (.int k r))) :=
  fJ hx hy cY (fun w => by have : ¬ n < 0 := by omega
                           subst hr; simp [binOp, Op.shift, this])

theorem s_un {op : UnOp} {p r : Value} (hx : ev x = some (.c (.v p))) (hrun : ∀ w, (Op.unary op p).run P w = .ok r w) : Still P ⟨d, .unOp op T x, ty, pos, aft, gd⟩ ev h (.c (.v r)) := by
  intro B dom M H w a hh hc he
  have h1 := he x _ hx
  simp only [Rep, RepC] at h1
  exact ⟨r, by simp [execOp, h1, hrun], rfl⟩
theorem s_not {b c : Bool} (hx : ev x = some (.c (.v (.bool b)))) (hr : (!b) = c) : Still P ⟨d, .unOp .not T x, ty, pos, aft, gd⟩ ev h (.c (.v (.bool c))) := s_un hx (fun w => by subst hr; simp [Op.unary])
theorem iP (tb : TabOk P tab) {S : TypeId} {e es : TyE} {k k' : IntKind} {m r : Int} (hS : tyLook tab S = some es) (hT : tyLook tab T = some e) (hk : e.kind = .int k) (hx : ev x = some (.c (.v (.int k' m)))) (hr : k.wrap m = r) : Still P ⟨d, .convert S T x, ty, pos, aft, gd⟩ ev h (.c (.v (.int k r))) := by
  intro B dom M H w a hh hc he
  have h1 := he x _ hx
  simp only [Rep, RepC] at h1
  refine ⟨.int k r, ?_, rfl⟩
  obtain ⟨ds, hds, _⟩ := (aS tb hS).und
  simp [execOp, h1, convert, run_underlying hds, run_underlying ((aS tb hT).int hk), Conv.intToInt, hr]
end ops
end Go.Av
namespace Go.Av
open Go Go.RowKit

def WF : Option Nat → Fence
  | none => Fence.wide
  | some l => Fence.wide.inRound l
def noDef (o : Oper) : Bool := match o.op with | .defer _ => false | _ => true
def plainC : Code → Bool
  | .seq a b => plainC a && plainC b
  | .cond _ a b => plainC a && plainC b
  | .block _ c => plainC c
  | .loop c => plainC c
  | .region _ ops false => ops.toList.all noDef
  | .region _ ops true => ops.toList.all noDef
  | .skip => true
  | .ret => true
  | .exit _ => true
  | _ => false
def wpG (P : Program) (c : Code) (Q : Exit → Act → World → Prop) (a : Act) (w : World) : Prop := ∀ rd : Option Nat, (rd = none ∨ plainC c = true) → c.wpIn (WF rd) 0 P Q a w
def wpLG (P : Program) (ops : Array Oper) (Q : Exit → Act → World → Prop) (l : List Oper) (a : Act) (w : World) : Prop := ∀ rd : Option Nat, (rd = none ∨ l.all noDef = true) → wpListIn (WF rd) 0 P ops Q l a w

theorem wf_fn (rd : Option Nat) (f : FuncId) : (WF rd).fn f := by cases rd <;> trivial
theorem wf_depth (rd : Option Nat) : (WF rd).depth = none := by cases rd <;> rfl
theorem wf_room {n : Nat} (rd : Option Nat) : (WF rd).depth.isSome = true → 1 ≤ n := fun hh => by simp [wf_depth] at hh
theorem calls_in {rd : Option Nat} {n : Nat} {P : Program} {f : FuncId} {args : Array Value} {w : World} {R : Ending → World → Prop} (h : Calls P f args w R) : CallsIn (WF rd) n P f args w R := by
  have := callsIn_wide (n := n).2 h
  cases rd with
  | none => exact this
  | some l => exact this
theorem rows_in {rd : Option Nat} {n : Nat} {P : Program} {row : String} {args : Array Value} {w : World} {R : Value → World → Prop} (h : Rows P row args w R) : RowsIn (WF rd) n P row args w R := by
  have : RowsIn Fence.wide n P row args w R := fun c cs _ => let ⟨v, w', r, s⟩ := h c cs; ⟨v, w', r, stepsIn_wide.2 s⟩
  cases rd with
  | none => exact this
  | some l => exact this
theorem oper_in {rd : Option Nat} {n : Nat} {P : Program} {o : Oper} {a : Act} {w : World} {K : Act → World → Prop} {Q : Exit → Act → World → Prop} (hd : rd = none ∨ noDef o = true) (h : o.wp P a w K Q) : o.wpIn (WF rd) n P a w K Q := by
  refine ⟨fun f _ => wf_fn rd f, ?_⟩
  have hs : o.semAt (WF rd).round a.eval = execOp a.eval o := by
    rcases hd with rfl | hd
    · rfl
    · cases rd with
      | none => rfl
      | some l => exact Oper.semAt_eq _ _ _ (fun c hc => by rw [noDef, hc] at hd; cases hd)
  rw [hs]
  unfold Oper.wp at h
  generalize (execOp a.eval o).run P w = r at *
  cases r with
  | ok x w' =>
    cases x <;> simp only [Oper.upon, Oper.uponIn] at h ⊢ <;>
      first
        | exact h
        | exact ⟨wf_room rd, CallsIn.mono (calls_in h) (fun e w'' he => by cases e <;> exact he)⟩
        | exact ⟨wf_room rd, rows_in h⟩
        | exact h.elim
  | halt x w' => cases x <;> simp only [Oper.upon, Oper.uponIn] at h ⊢ <;> exact h
theorem oper_inF {rd : Option Nat} {n : Nat} {P : Program} {o : Oper} {a : Act} {w : World} {K : Act → World → Prop} {Q : Exit → Act → World → Prop} (hd : rd = none ∨ noDef o = true) (h : o.wp P a w K (fun _ _ _ => False)) : o.wpIn (WF rd) n P a w K Q := by
  refine ⟨fun f _ => wf_fn rd f, ?_⟩
  have hh := (oper_in (n := n) hd h).2
  generalize (o.semAt (WF rd).round a.eval).run P w = r at *
  cases r with
  | ok x w' =>
    cases x <;> simp only [Oper.uponIn] at hh ⊢ <;>
      first
        | exact hh
        | exact hh.elim
        | exact ⟨hh.1, CallsIn.mono hh.2 (fun e w'' he => by cases e <;> first | exact he | exact he.elim | exact (let ⟨_, _, h⟩ := he; h.elim))⟩
        | exact ⟨hh.1, RoundIn.mono hh.2 (fun e w'' he => by cases e <;> first | exact he | exact he.elim | exact (let ⟨_, _, h⟩ := he; h.elim))⟩
  | halt x w' => cases x <;> simp only [Oper.uponIn] at hh ⊢ <;> first | exact hh | exact hh.elim
theorem uM {rd : Option Nat} {n : Nat} {P : Program} {ops : Array Oper} {i : Nat} {a : Act} {w : World} {K : Act → World → Prop} {Q : Exit → Act → World → Prop} (hd : rd = none ∨ ∀ o, ops[i]? = some o → noDef o = true) (h : wpOp P ops (fun _ _ _ => False) i K a w) : wpOpIn (WF rd) n P ops Q i K a w := by
  unfold wpOp at h
  unfold wpOpIn
  cases ho : ops[i]? with
  | none => rw [ho] at h; exact h
  | some o =>
    rw [ho] at h
    simp only at h ⊢
    split
    · rename_i hw
      rw [if_pos hw] at h
      rcases h with h | ⟨_, _, _, h⟩
      · exact oper_inF (hd.imp id fun k => k o ho) h
      · exact h.elim
    · rename_i hw
      rw [if_neg hw] at h
      exact ⟨fun f _ => wf_fn rd f, h⟩
theorem fG {F : Fence} {n : Nat} {P : Program} {md : Region.Mode} {ops : Array Oper} {Q' : Exit → Act → World → Prop} : ∀ (l : List Oper) (k : Nat) (listed : Array Bool) (a : Act) (w : World), (∀ j, l[j]? = ops[k + j]?) →
    Region.seqB md ops l.length k listed = true → wpListIn F n P ops Q' l a w → wpAnyIn F n P md ops Q' l.length listed a w
  | [], _, _, _, _, _, hB, h => ⟨by simpa [Region.seqB] using hB, h⟩
  | o :: l, k, listed, a, w, hl, hB, h => by
    have h0 : ops[k]? = some o := by simpa using (hl 0).symm
    simp only [List.length_cons, Region.seqB, Bool.and_eq_true, decide_eq_true_eq] at hB
    refine ⟨fun h1 => (by rw [hB.1] at h1; cases h1), fun i hi => ?_⟩
    rw [hB.1] at hi
    have hik : i = k := by simpa using hi
    subst hik
    have hw : wpOpIn F n P ops Q' i (wpListIn F n P ops Q' l) a w := by unfold wpOpIn; simp only [h0]; exact h
    exact wpOpIn_mono (fun a' w' h' => fG l (i + 1) _ a' w' (fun j => by have := hl (j + 1); simpa [Nat.add_assoc, Nat.add_comm 1 j] using this) hB.2 h') hw

section rules
variable {P : Program} {Q : Exit → Act → World → Prop} {a : Act} {w : World}
theorem iR {c : Code} (h : wpG P c Q a w) : c.wp P Q a w := wpIn_wide.1 (h none (.inl rfl))
theorem rB {c : Code} {Q' : Exit → Act → World → Prop} (h : wpG P c Q a w) (hq : ∀ e a w, Q e a w → Q' e a w) : wpG P c Q' a w := fun rd hr => wpIn_mono (h rd hr) hq
theorem wpg_skip (h : Q .normal a w) : wpG P .skip Q a w := fun rd _ => wpIn_skip h
theorem wpg_ret (h : Q .ret a w) : wpG P .ret Q a w := fun rd _ => wpIn_ret h
theorem wpg_exit {id : Nat} (h : Q (.exit id) a w) : wpG P (.exit id) Q a w := fun rd _ => wpIn_exit h
theorem plain2 {rd : Option Nat} {x y : Bool} (h : rd = none ∨ (x && y) = true) : (rd = none ∨ x = true) ∧ (rd = none ∨ y = true) := by
  rcases h with h | h
  · exact ⟨.inl h, .inl h⟩
  · rw [Bool.and_eq_true] at h; exact ⟨.inr h.1, .inr h.2⟩
theorem wpg_seq {x y : Code} (h : wpG P x (Exit.then (wpG P y Q) Q) a w) : wpG P (.seq x y) Q a w := fun rd hr => by
  obtain ⟨h1, h2⟩ := plain2 hr
  exact wpIn_seq (wpIn_mono (h rd h1) fun e a w hq => by cases e <;> first | exact hq rd h2 | exact hq)
theorem xX {c : Operand} {x y : Code} {t : Bool} (hc : a.eval c = .bool t) (h : wpG P (if t then x else y) Q a w) : wpG P (.cond c x y) Q a w := fun rd hr => by
  obtain ⟨h1, h2⟩ := plain2 hr
  refine wpIn_cond hc (h rd ?_)
  cases t
  · exact h2
  · exact h1
theorem wpg_block {id : Nat} {c : Code} (h : wpG P c (Exit.inBlock id Q) a w) : wpG P (.block id c) Q a w := fun rd hr => wpIn_block (h rd hr)
theorem wpg_loop {c : Code} (I : Act → World → Prop) (μ : Act → World → Nat) (h₀ : I a w)
    (round : ∀ a w, I a w → wpG P c (Exit.then (fun a' w' => I a' w' ∧ μ a' w' < μ a w) Q) a w) : wpG P (.loop c) Q a w := fun rd hr => wpIn_loop I μ h₀ fun a w hI => round a w hI rd hr
def roundsG (P : Program) (c : Code) (Q : Exit → Act → World → Prop) : Nat → Act → World → Prop
  | 0, _, _ => False
  | n + 1, a, w => wpG P c (Exit.then (roundsG P c Q n) Q) a w
theorem rC {id : Nat} {l : List Oper} (h : wpLG P l.toArray Q l a w) : wpG P (.region id l.toArray false) Q a w := fun rd hr => wpIn_region_lit (h rd hr)
theorem dM {ops : Array Oper} {rest : List Oper} {o : Oper}
    (h : ∀ K : Act → World → Prop, (∀ a w, wpLG P ops Q rest a w → K a w) →
      if Region.wanted o (yielded ops a.tmps) then o.wp P a w K Q else K (a.put o.dst undef) w) : wpLG P ops Q (o :: rest) a w := fun rd hr => by
  rw [List.all_cons] at hr
  obtain ⟨h1, h2⟩ := plain2 hr
  refine wpListIn_step fun K hK => ?_
  have := h K (fun a w hl => hK a w (hl rd h2))
  split
  · rename_i hw; rw [if_pos hw] at this; exact oper_in h1 this
  · rename_i hw; rw [if_neg hw] at this; exact ⟨fun f _ => wf_fn rd f, this⟩
end rules
def LeavesM (P : Program) (fn : Func) (tmps : Array Value) (R : Ending → World → Prop) : List Deferred → World → Prop
  | [], w => ∃ v, (results fn tmps).run P w = .ok v w ∧ R (.returned v) w
  | d :: ds, w => (∃ r w', d.target = .collected r ∧ (Instr.takeDeferred r).run P w = .ok [] w' ∧ LeavesM P fn tmps R ds w') ∨
      (∃ fv cap f args, d.target = .fn fv cap ∧ (invoke d.target d.args).run P w = .ok (.enter f args) w ∧ CallsD P f args .returning w fun e u' w' => (∃ v, e = .returned v) ∧ u' = .returning ∧ LeavesM P fn tmps R ds w')
theorem kT {P : Program} {fn : Func} {tmps : Array Value} {R : Ending → World → Prop} : ∀ (ds : List Deferred) (w : World) (fr : Frame) (cs : List Frame), fr.mode = .returning → fr.defers = ds → fr.tmps = tmps → P.funcs[fr.fn]? = some fn → fr.kind = .normal → LeavesM P fn tmps R ds w →
    ∃ e w' fr', R e w' ∧ Comes P (lone fr cs w) (lone fr' cs w') e ∧ fr'.fn = fr.fn ∧ fr'.leaving P w' e := by
  intro ds
  induction ds with
  | nil =>
    intro w fr cs hu hd ht hf hk h
    obtain ⟨v, hr, hR⟩ := h
    exact ⟨.returned v, w, fr, hR, Steps.refl P _, rfl, hu, hd, hk, fn, hf, ht ▸ hr⟩
  | cons d ds ih =>
    intro w fr cs hu hd ht hf hk h
    rcases h with ⟨r, w', h1, h2, h3⟩ | ⟨fv, cap, f, args, h1, h2, h3⟩
    · have s1 := step_collected (cs := cs) (by rw [hu]; simp) hd h1 h2
      obtain ⟨e', w'', fr', hR', hs', hfn', hl'⟩ := ih w' { fr with defers := [] ++ ds } cs hu rfl ht hf hk h3
      exact ⟨e', w'', fr', hR', Comes.of_steps (.one s1) hs', hfn', hl'⟩
    · have s1 := step_defer (cs := cs) (by rw [hu]; simp) hd h1 h2
      obtain ⟨e, u', w', frX, ⟨⟨v, rfl⟩, rfl, hR⟩, hsteps, hkX, hgo⟩ := h3 { fr with defers := ds } cs hu
      have s2 := step_going_returned (c := { { fr with defers := ds } with mode := .returning }) (cs := cs) hkX hgo
      obtain ⟨e', w'', fr', hR', hs', hfn', hl'⟩ := ih w' { { { fr with defers := ds } with mode := .returning } with mode := settle .returning } cs rfl rfl ht hf hk hR
      exact ⟨e', w'', fr', hR', Comes.of_steps (.head s1 (Steps.trans hsteps (.one s2))) hs', hfn', hl'⟩
def bodyPM (P : Program) (fn : Func) (R : Ending → World → Prop) : Exit → Act → World → Prop
  | .normal, a, w => LeavesM P fn a.tmps R a.defers w
  | .ret, a, w => LeavesM P fn a.tmps R a.defers w
  | _, _, _ => False
theorem eX {P : Program} {f : FuncId} {fn : Func} {c : Code} {args : Array Value} {w : World} {R : Ending → World → Prop} (hf : P.funcs[f]? = some fn) (hb : fn.body = some c)
    (h : c.wp P (bodyPM P fn R) { tmps := args ++ Array.replicate (fn.ntmps - args.size) undef, defers := [] } w) : Calls P f args w R := by
  intro cs
  let b : Frame := { (default : Frame) with fn := f, kind := .normal }
  have henter : Frame.enter P f args .normal = b.at { tmps := args ++ Array.replicate (fn.ntmps - args.size) undef, defers := [] } [.code c] := by
    simp [Frame.enter, Frame.at, hf, hb, b]
  obtain ⟨e, a', w', hq, harr⟩ := h b [] cs
  rw [← henter] at harr
  cases e with
  | normal =>
    obtain ⟨e', w'', fr', hR, hs, hfn, hl⟩ := kT a'.defers w' { b.at a' [] with mode := .returning } cs rfl rfl rfl hf rfl hq
    exact ⟨e', w'', fr', hR, Comes.of_steps (Steps.trans harr (.one step_end)) hs, hfn, hl⟩
  | ret =>
    obtain ⟨todo, hs₀⟩ := harr
    obtain ⟨e', w'', fr', hR, hs, hfn, hl⟩ := kT a'.defers w' { b.at a' todo with mode := .returning } cs rfl rfl rfl hf rfl hq
    exact ⟨e', w'', fr', hR, Comes.of_steps hs₀ hs, hfn, hl⟩
  | panic chain => exact hq.elim
  | exit id => exact hq.elim
  | goto l => exact hq.elim
  | outgrown => exact hq.elim
theorem tA {l : List Oper} {p : Oper → Bool} (h : l.all p = true) {i : Nat} {o : Oper} (ho : l.toArray[i]? = some o) : p o = true := List.all_eq_true.1 h o (List.mem_of_getElem? (by simpa using ho))
end Go.Av
namespace Go.Av
open Go Go.RowKit

abbrev Defs := List (Option FuncId × List AV)
def collF : FuncId := 1000000007
def collOf : List Value → Deferred
  | [.pointer (some p)] => { target := .collected p.block, args := #[] }
  | us => { target := .fn (.func 0) us.toArray, args := #[] }
def defOf (f : FuncId) (us : List Value) : Deferred := match Nat.beq f collF with
  | false => { target := .fn (.func f) us.toArray, args := #[] }
  | true => collOf us
theorem pL {f : FuncId} {us : List Value} (h : Nat.beq f collF = false) : defOf f us = { target := .fn (.func f) us.toArray, args := #[] } := by rw [defOf, h]
def DefRep (fr : List Value) (C : Cx) : Defs → List Deferred → Prop
  | [], ds => ds = []
  | (some f, caps) :: r, ds => ∃ us ds', ds = defOf f us :: ds' ∧ RepL C caps us ∧ DefRep fr C r ds'
  | (none, xs) :: r, ds => RepL C xs fr ∧ DefRep fr C r ds
theorem DefRep.ext {fr : List Value} {C C' : Cx} (h : Ext C C') : ∀ {l : Defs} {ds : List Deferred}, DefRep fr C l ds → DefRep fr C' l ds
  | [], ds, hd => hd
  | (some f, caps) :: r, ds, hd => by
    obtain ⟨us, ds', h1, h2, h3⟩ := hd
    exact ⟨us, ds', h1, RepL.ext h _ _ h2, DefRep.ext h h3⟩
  | (none, xs) :: r, ds, hd => ⟨RepL.ext h _ _ hd.1, DefRep.ext h hd.2⟩

abbrev lt (n : Nat) : Nat → Prop := fun id => id < n
def cx (B : Bs) (n : Nat) (M : Nat → Option Nat) (h : Heap) (w : World) : Cx := ⟨lt n, M, okOf B (lt n) M (lk h), w⟩

def Conc (B : Bs) (sz n : Nat) (env : Env) (h : Heap) (dfs : Defs) (a : Act) (w : World) : Prop :=
  ∃ M, ConcH B (lt n) M (lk h) w ∧ a.tmps.size = sz ∧ (∀ t av, lkE env t = some av → Rep (cx B n M h w) av (a.tmps.getD t undef)) ∧ DefRep B.fr (cx B n M h w) dfs a.defers

abbrev AK := Exit → Nat → Env → Heap → Defs → Prop
def KC (B : Bs) (sz : Nat) (K : AK) (e : Exit) (a : Act) (w : World) : Prop := ∃ n env h dfs, K e n env h dfs ∧ Conc B sz n env h dfs a w
def AW (P : Program) (sz : Nat) (c : Code) (K : AK) (n : Nat) (env : Env) (h : Heap) (dfs : Defs) : Prop :=
  ∀ B a w, Conc B sz n env h dfs a w → wpG P c (KC B sz K) a w
def AWL (P : Program) (ops : Array Oper) (sz : Nat) (l : List Oper) (K : AK) (n : Nat) (env : Env) (h : Heap) (dfs : Defs) : Prop :=
  ∀ B a w, Conc B sz n env h dfs a w → wpLG P ops (KC B sz K) l a w

def thenA (next : Nat → Env → Heap → Defs → Prop) (K : AK) : AK
  | .normal, n, env, h, dfs => next n env h dfs
  | e, n, env, h, dfs => K e n env h dfs
def inBlk (id : Nat) (K : AK) : AK
  | .exit id', n, env, h, dfs => match Nat.beq id' id with | true => K .normal n env h dfs | false => K (.exit id') n env h dfs
  | e, n, env, h, dfs => K e n env h dfs

section rules
variable {P : Program} {sz n : Nat} {env : Env} {h : Heap} {dfs : Defs} {K : AK}

theorem aw_seq {x y : Code} (hx : AW P sz x (thenA (AW P sz y K) K) n env h dfs) : AW P sz (.seq x y) K n env h dfs := by
  intro B a w hc
  refine wpg_seq (rB (hx B a w hc) fun e a w hq => ?_)
  obtain ⟨n', env', h', d', hk, hc'⟩ := hq
  cases e <;> first | exact hk B a w hc' | exact ⟨n', env', h', d', hk, hc'⟩
theorem aw_skip (hk : K .normal n env h dfs) : AW P sz .skip K n env h dfs := fun B a w hc => wpg_skip ⟨n, env, h, dfs, hk, hc⟩
theorem aw_ret (hk : K .ret n env h dfs) : AW P sz .ret K n env h dfs := fun B a w hc => wpg_ret ⟨n, env, h, dfs, hk, hc⟩
theorem aw_exit {id : Nat} (hk : K (.exit id) n env h dfs) : AW P sz (.exit id) K n env h dfs := fun B a w hc => wpg_exit ⟨n, env, h, dfs, hk, hc⟩
theorem aw_block {id : Nat} {c : Code} (hx : AW P sz c (inBlk id K) n env h dfs) : AW P sz (.block id c) K n env h dfs := by
  intro B a w hc
  refine wpg_block (rB (hx B a w hc) fun e a w hq => ?_)
  obtain ⟨n', env', h', d', hk, hc'⟩ := hq
  cases e with
  | exit id' =>
    simp only [inBlk] at hk
    simp only [Exit.inBlock]
    split at hk
    · rename_i he
      rw [if_pos (Nat.eq_of_beq_eq_true he)]
      exact ⟨n', env', h', d', hk, hc'⟩
    · rename_i he
      rw [if_neg (fun e => by subst e; rw [Nat.beq_refl] at he; cases he)]
      exact ⟨n', env', h', d', hk, hc'⟩
  | _ => exact ⟨n', env', h', d', hk, hc'⟩
theorem dH {B : Bs} {a : Act} {w : World} {M : Nat → Option Nat} (he : ∀ t av, lkE env t = some av → Rep (cx B n M h w) av (a.tmps.getD t undef)) : ∀ x av, evA env x = some av → Rep (cx B n M h w) av (a.eval x) := by
  intro x av hx
  cases x with
  | tmp t => exact he t av hx
  | const v => simp only [evA, Option.some.injEq] at hx; subst hx; simp [Rep, RepC, Act.eval]
  | global g => cases hx
  | func f => simp only [evA, Option.some.injEq] at hx; subst hx; exact ⟨[], rfl, rfl⟩
theorem aw_cond {c : Operand} {x y : Code} {b : Bool} (hb : evA env c = some (.c (.v (.bool b)))) (ht : b = true → AW P sz x K n env h dfs) (hf : b = false → AW P sz y K n env h dfs) : AW P sz (.cond c x y) K n env h dfs := by
  intro B a w hc
  obtain ⟨M, h1, h2, h3, h4⟩ := id hc
  have := dH h3 c _ hb
  simp only [Rep, RepC] at this
  cases b with
  | true => exact xX this (ht rfl B a w hc)
  | false => exact xX this (hf rfl B a w hc)
theorem pD {c : Operand} {x y : Code} {b : Bool} (hb : evA env c = some (.c (.v (.bool b)))) (hb' : b = true) (ht : AW P sz x K n env h dfs) : AW P sz (.cond c x y) K n env h dfs := by
  subst hb'; exact aw_cond hb (fun _ => ht) (fun h => by cases h)
theorem pC {c : Operand} {x y : Code} {b : Bool} (hb : evA env c = some (.c (.v (.bool b)))) (hb' : b = false) (ht : AW P sz y K n env h dfs) : AW P sz (.cond c x y) K n env h dfs := by
  subst hb'; exact aw_cond hb (fun h => by cases h) (fun _ => ht)

def Weak (n : Nat) (env : Env) (h : Heap) (dfs : Defs) (N : Nat) (E : Env) (Hp : Heap) (D : Defs) : Prop := ∀ B sz a w, Conc B sz n env h dfs a w → Conc B sz N E Hp D a w

theorem fQ {c : Code} {N : Nat} {E : Env} {Hp : Heap} {D : Defs} (hw : Weak n env h dfs N E Hp D) (hx : AW P sz c K N E Hp D) : AW P sz c K n env h dfs := fun B a w hc => hx B a w (hw B sz a w hc)
theorem dX (p : Nat → Prop) (hp : ∃ m, p m) : ∃ m, p m ∧ ∀ k, p k → m ≤ k := by
  obtain ⟨m, hm⟩ := hp
  induction m using Nat.strongRecOn with
  | _ m ih =>
    by_cases h : ∃ k, k < m ∧ p k
    · obtain ⟨k, hk, hpk⟩ := h
      exact ih k hk hpk
    · refine ⟨m, hm, fun k hk => ?_⟩
      rcases Nat.lt_or_ge k m with h1 | h1
      · exact absurd ⟨k, h1, hk⟩ h
      · exact h1

theorem aw_loop {ι : Type} {c : Code} (N : Nat) (E : ι → Env) (Hp : ι → Heap) (D : Defs) (Inv : ι → Prop) (μ : ι → Nat) (i0 : ι) (h0 : Inv i0) (hw : Weak n env h dfs N (E i0) (Hp i0) D)
    (round : ∀ i, Inv i → AW P sz c (thenA (fun n' env' h' dfs' => ∃ j, Inv j ∧ μ j < μ i ∧ Weak n' env' h' dfs' N (E j) (Hp j) D) K) N (E i) (Hp i) D) : AW P sz (.loop c) K n env h dfs := by
  intro B a w hc
  classical
  let I : Act → World → Prop := fun a w => ∃ i, Inv i ∧ Conc B sz N (E i) (Hp i) D a w
  let p : Act → World → Nat → Prop := fun a w m => ∃ i, Inv i ∧ Conc B sz N (E i) (Hp i) D a w ∧ μ i = m
  let μ' : Act → World → Nat := fun a w => if hI : ∃ m, p a w m then Classical.choose (dX _ hI) else 0
  refine wpg_loop I μ' ⟨i0, h0, hw B sz a w hc⟩ fun a w hI => ?_
  have hI' : ∃ m, p a w m := by
    obtain ⟨i, h1, h2⟩ := hI
    exact ⟨μ i, i, h1, h2, rfl⟩
  obtain ⟨⟨i, h1, h2, h3⟩, _⟩ := Classical.choose_spec (dX _ hI')
  have hm : μ' a w = μ i := by simp only [μ', dif_pos hI', h3]
  refine rB (round i h1 B a w h2) fun e a' w' hq => ?_
  obtain ⟨n', env', h', d', hk, hc'⟩ := hq
  cases e with
  | normal =>
    obtain ⟨j, hj1, hj2, hj3⟩ := hk
    have hcj := hj3 B sz a' w' hc'
    refine ⟨⟨j, hj1, hcj⟩, ?_⟩
    have hJ : ∃ m, p a' w' m := ⟨μ j, j, hj1, hcj, rfl⟩
    have : μ' a' w' ≤ μ j := by
      simp only [μ', dif_pos hJ]
      exact (Classical.choose_spec (dX _ hJ)).2 _ ⟨j, hj1, hcj, rfl⟩
    omega
  | _ => exact ⟨n', env', h', d', hk, hc'⟩

theorem fL {id : Nat} {l : List Oper} (hx : AWL P l.toArray sz l K n env h dfs) : AW P sz (.region id l.toArray false) K n env h dfs := fun B a w hc => rC (hx B a w hc)
theorem awl_nil {ops : Array Oper} (hk : K .normal n env h dfs) : AWL P ops sz [] K n env h dfs := fun B a w hc rd _ => ⟨n, env, h, dfs, hk, hc⟩

def putE (env : Env) (d : Option Tmp) (v : AV) : Env := match d with | some t => (t, v) :: env | none => env

theorem gQ {Δ h : Heap} {k : Nat} {o : AObj} (ho : lk Δ k = some o) : lk (Δ ++ h) k = some o := by
  induction Δ with
  | nil => cases ho
  | cons p Δ ih =>
    obtain ⟨i, q⟩ := p
    rw [List.cons_append, bD]
    rw [bD] at ho
    split
    · rename_i e; rw [if_pos e] at ho; exact ho
    · rename_i e; rw [if_neg e] at ho; exact ih ho
theorem fW {Δ h : Heap} {k : Nat} (ho : ∀ p ∈ Δ, p.1 ≠ k) : lk (Δ ++ h) k = lk h k := by
  induction Δ with
  | nil => rfl
  | cons p Δ ih =>
    obtain ⟨i, q⟩ := p
    rw [List.cons_append, bD, if_neg (ho (i, q) (by simp))]
    exact ih fun p hp => ho p (by simp [hp])

theorem wB {n n' : Nat} (h : n ≤ n') : ad (lt n) n n' = lt n' := by
  funext id
  simp only [ad, lt, eq_iff_iff]
  omega

theorem iZ {B : Bs} {a : Act} {w w' : World} {M M' : Nat → Option Nat} {n' : Nat} {h' : Heap} (hs : a.tmps.size = sz) (he : ∀ t av, lkE env t = some av → Rep (cx B n M h w) av (a.tmps.getD t undef))
    (hext : Ext (cx B n M h w) (cx B n' M' h' w')) {d : Option Tmp} {v : AV} {u : Value} (hd : ∀ t, d = some t → t < sz) (hv : Rep (cx B n' M' h' w') v u) :
    (a.put d u).tmps.size = sz ∧ (∀ t av, lkE (putE env d v) t = some av → Rep (cx B n' M' h' w') av ((a.put d u).tmps.getD t undef)) ∧ (a.put d u).defers = a.defers := by
  cases d with
  | none => exact ⟨hs, fun t av ht => Rep.ext hext _ _ (he t av ht), rfl⟩
  | some k =>
    have hk := hd k rfl
    refine ⟨by simp [Act.put, hs], fun t av ht => ?_, rfl⟩
    simp only [putE, cW] at ht
    by_cases hkt : k = t
    · subst hkt
      rw [if_pos rfl] at ht
      injection ht with ht
      subst ht
      simp only [Act.put]
      rw [show (a.tmps.setIfInBounds k u).getD k undef = u by simp [hs, hk]]
      exact hv
    · rw [if_neg hkt] at ht
      simp only [Act.put]
      rw [show (a.tmps.setIfInBounds k u).getD t undef = a.tmps.getD t undef by simp [Array.getElem?_setIfInBounds_ne hkt]]
      exact Rep.ext hext _ _ (he t av ht)

def guardA (ops : Array Oper) (env : Env) (o : Oper) (b : Bool) : Prop :=
  match o.guard with
  | none => b = true
  | some (j, want) => ∃ t, (ops[j]?).bind (·.dst) = some t ∧ ((∃ c, lkE env t = some (.c (.v (.bool c))) ∧ (c == want) = b) ∨ (lkE env t = some (.c (.v undef)) ∧ b = false))
theorem gY {ops : Array Oper} {tmps : Array Value} {j t : Nat} (h1 : (ops[j]?).bind (·.dst) = some t) (h4 : tmps.getD t undef = undef) : yielded ops tmps j = none := by
  unfold yielded
  rw [h1]
  simp only [Option.bind_some]
  cases hq : tmps[t]? with
  | none => rfl
  | some q =>
    have : q = undef := by rw [← h4]; simp [hq]
    subst this
    rfl

theorem guardA.wanted {ops : Array Oper} {o : Oper} {b : Bool} {B : Bs} {a : Act} {w : World} {M : Nat → Option Nat} (hg : guardA ops env o b) (he : ∀ t av, lkE env t = some av → Rep (cx B n M h w) av (a.tmps.getD t undef)):
    Region.wanted o (yielded ops a.tmps) = b := by
  unfold guardA at hg
  unfold Region.wanted
  cases hgd : o.guard with
  | none => rw [hgd] at hg; exact hg.symm
  | some p =>
    obtain ⟨j, want⟩ := p
    rw [hgd] at hg
    obtain ⟨t, h1, h2⟩ := hg
    rcases h2 with ⟨c, h2, h3⟩ | ⟨h2, rfl⟩
    rotate_left
    · have h4 := he t _ h2
      simp only [Rep, RepC] at h4
      simp [gY h1 h4]
    have h4 := he t _ h2
    simp only [Rep, RepC] at h4
    have hlt : t < a.tmps.size := by
      rcases Nat.lt_or_ge t a.tmps.size with h1 | h1
      · exact h1
      · simp [h1, undef] at h4
    have : yielded ops a.tmps j = some c := by
      unfold yielded
      rw [h1]
      have h5 : a.tmps[t]? = some (.bool c) := by
        rw [← h4]
        simp [hlt]
      simp [h5]
    simp only [this]
    rw [← h3]
    cases c <;> cases want <;> rfl
end rules
end Go.Av
namespace Go.Av
open Go Go.RowKit

section steps
variable {P : Program} {sz n : Nat} {env : Env} {h : Heap} {dfs : Defs} {K : AK} {ops : Array Oper} {rest : List Oper} {o : Oper}

def dstOk (d : Option Tmp) (sz : Nat) : Bool := match d with | some t => Nat.blt t sz | none => true
theorem dP {d : Option Tmp} (h : dstOk d sz = true) : ∀ t, d = some t → t < sz := by
  intro t ht; subst ht; simpa [dstOk, Nat.blt_eq] using h

theorem lV {v : AV} {Δ : Heap} {n' : Nat} (hg : guardA ops env o true) (hd : dstOk o.dst sz = true) (hn : n ≤ n') (hA : Adds P o (evA env) h v Δ n n') (hcov : ∀ id, n ≤ id → id < n' → (lk Δ id).isSome = true) (hkeys : ∀ p ∈ Δ, n ≤ p.1)
    (next : AWL P ops sz rest K n' (putE env o.dst v) (Δ ++ h) dfs) : AWL P ops sz (o :: rest) K n env h dfs := by
  intro B a w hc
  obtain ⟨M, h1, h2, h3, h4⟩ := hc
  refine dM fun K' hK' => ?_
  rw [if_pos (hg.wanted h3)]
  have e1 : ∀ id, id < n → lk (Δ ++ h) id = lk h id := fun id hid => fW fun p hp e => by have := hkeys p hp; omega
  have e2 : ∀ id, n ≤ id → id < n' → lk (Δ ++ h) id = lk Δ id := fun id h5 h6 => by
    obtain ⟨o', ho'⟩ := Option.isSome_iff_exists.1 (hcov id h5 h6)
    rw [gQ ho', ho']
  have eok : okOf B (lt n) M (lk (Δ ++ h)) = okOf B (lt n) M (lk h) := by
    funext b
    unfold okOf
    simp only [eq_iff_iff]
    refine and_congr Iff.rfl ⟨fun hk id o hid hH => hk id o hid (by rw [e1 id hid]; exact hH), fun hk id o hid hH => hk id o hid (by rw [← e1 id hid]; exact hH)⟩
  have h1' : ConcH B (lt n) M (lk (Δ ++ h)) w := by
    refine ⟨h1.fr, fun id o hid hH => ?_, fun id id' o o' g k1 k2 k3 k4 => h1.inj id id' o o' g k1 k2 (by rw [← e1 id k1]; exact k3) (by rw [← e1 id' k2]; exact k4), fun id o g k1 k2 => h1.lo id o g k1 (by rw [← e1 id k1]; exact k2)⟩
    rw [eok]
    exact h1.obj id o hid (by rw [← e1 id hid]; exact hH)
  refine hA B (lt n) M (lk (Δ ++ h)) w a K' (KC B sz K) (fun id o k1 k2 => by rw [e1 id k2]; exact k1) (fun id k1 k2 => ⟨by simp only [lt]; omega, e2 id k1 k2⟩) h1' (by rw [eok]; exact dH h3) ?_
  intro u w' M' hext hcc hv
  rw [wB hn] at hext hcc hv
  rw [eok] at hext
  obtain ⟨p1, p2, p3⟩ := iZ (h' := Δ ++ h) (M' := M') h2 h3 hext (dP hd) hv
  exact hK' _ _ (next B _ _ ⟨M', hcc, p1, p2, by rw [p3]; exact h4.ext hext⟩)

theorem rK {v : AV} (hg : guardA ops env o true) (hd : dstOk o.dst sz = true) (hA : Still P o (evA env) h v) (next : AWL P ops sz rest K n (putE env o.dst v) h dfs) : AWL P ops sz (o :: rest) K n env h dfs :=
  lV hg hd (Nat.le_refl _) hA.adds (fun id h1 h2 => by omega) (by simp) next
theorem awl_new {v : AV} (hg : guardA ops env o true) (hd : dstOk o.dst sz = true) (hA : Adds P o (evA env) h v [] n n) (next : AWL P ops sz rest K n (putE env o.dst v) h dfs) : AWL P ops sz (o :: rest) K n env h dfs :=
  lV hg hd (Nat.le_refl _) hA (fun id h1 h2 => by omega) (by simp) next
theorem awl_one {v : AV} {obj : AObj} (hlv : obj.live = some obj) (hg : guardA ops env o true) (hd : dstOk o.dst sz = true) (hA : Adds P o (evA env) h v [(n, obj)] n (n + 1)) (next : AWL P ops sz rest K (n + 1) (putE env o.dst v) ((n, obj) :: h) dfs) : AWL P ops sz (o :: rest) K n env h dfs :=
  lV hg hd (Nat.le_succ _) hA (fun id h1 h2 => by
    obtain rfl : id = n := by omega
    rw [bD, if_pos rfl, hlv]; rfl) (by simp) next

theorem awl_skip (hg : guardA ops env o false) (hd : dstOk o.dst sz = true) (next : AWL P ops sz rest K n (putE env o.dst (.c (.v undef))) h dfs) : AWL P ops sz (o :: rest) K n env h dfs := by
  intro B a w hc
  obtain ⟨M, h1, h2, h3, h4⟩ := hc
  refine dM fun K' hK' => ?_
  rw [if_neg (by rw [hg.wanted h3]; simp)]
  obtain ⟨p1, p2, p3⟩ := iZ (v := .c (.v undef)) (u := undef) h2 h3 (Ext.refl _) (dP hd) (by simp [Rep, RepC])
  exact hK' _ _ (next B _ _ ⟨M, h1, p1, p2, by rw [p3]; exact h4⟩)

theorem aL {ops : Array Oper} {d : Option Tmp} {op : Op} {ty : TypeId} {pos : String} {aft : Array Edge} : guardA ops env ⟨d, op, ty, pos, aft, none⟩ true := rfl
theorem bP {ops : Array Oper} {d : Option Tmp} {op : Op} {ty : TypeId} {pos : String} {aft : Array Edge} {j : Nat} {want b : Bool} {t : Tmp} {c : Bool} (h1 : (ops[j]?).bind (·.dst) = some t) (h2 : lkE env t = some (.c (.v (.bool c)))) (h3 : (c == want) = b) : guardA ops env ⟨d, op, ty, pos, aft, some (j, want)⟩ b := ⟨t, h1, .inl ⟨c, h2, h3⟩⟩
theorem tJ {ops : Array Oper} {d : Option Tmp} {op : Op} {ty : TypeId} {pos : String} {aft : Array Edge} {j : Nat} {want : Bool} {t : Tmp} (h1 : (ops[j]?).bind (·.dst) = some t) (h2 : lkE env t = some (.c (.v undef))) : guardA ops env ⟨d, op, ty, pos, aft, some (j, want)⟩ false := ⟨t, h1, .inr ⟨h2, rfl⟩⟩

theorem ConcH.turn {B : Bs} {M : Nat → Option Nat} {w w' : World} (hc : ConcH B (lt n) M (lk h) w) {id g : Nat} {o o' : AObj} (hlv : o'.live = some o') (hid : id < n) (ho : lk h id = some o) (hM : M id = some g)
    (hos : w'.os = w.os) (htp : w'.tape = w.tape) (hou : w'.output = w.output) (hsz : w'.heap.size = w.heap.size) (hbl : ∀ k, k ≠ g → w'.heap[k]? = w.heap[k]?) (hsh : w'.shape? g = w.shape? g)
    (hob : Ext (cx B n M h w) (cx B n M ((id, o') :: h) w') → ObjRep (cx B n M ((id, o') :: h) w') (some g) o') :
    ConcH B (lt n) M (lk ((id, o') :: h)) w' ∧ Ext (cx B n M h w) (cx B n M ((id, o') :: h) w') := by
  have hlk : ∀ k, k ≠ id → lk ((id, o') :: h) k = lk h k := fun k hk => by rw [bD, if_neg (fun e => hk e.symm)]
  have hlk0 : lk ((id, o') :: h) id = some o' := by rw [bD, if_pos rfl, hlv]
  have hok : ∀ b, okOf B (lt n) M (lk h) b → okOf B (lt n) M (lk ((id, o') :: h)) b ∧ b ≠ g := fun b hb => by
    refine ⟨⟨hb.1, fun k ok hk hH he => ?_⟩, fun e => hb.2 id o hid ho (by rw [hM, e])⟩
    by_cases hki : k = id
    · subst hki; exact hb.2 k o hk ho he
    · rw [hlk k hki] at hH; exact hb.2 k ok hk hH he
  have hext : Ext (cx B n M h w) (cx B n M ((id, o') :: h) w') := by
    refine ⟨fun k hk => ⟨hk, rfl⟩, fun b hb hl => ⟨(hok b hb).1, by simp only [cx] at hl ⊢; omega, hbl b (hok b hb).2⟩, fun b x hx => ?_⟩
    simp only [cx] at hx ⊢
    by_cases hbg : b = g
    · subst hbg; rw [hsh]; exact hx
    · rw [eA (hbl b hbg)]; exact hx
  refine ⟨⟨⟨hos.trans hc.fr.os, htp.trans hc.fr.tape, hou.trans hc.fr.output, by rw [hsz]; exact hc.fr.size, fun k h1 h2 => ?_⟩, fun k ok hk hH => ?_, fun k k' ok ok' g' k1 k2 k3 k4 k5 k6 => ?_, fun k ok g' k1 k2 k3 => ?_⟩, hext⟩
  · rw [hbl k (fun e => ?_)]
    · exact hc.fr.block k h1 h2
    · subst e
      rcases hc.lo id o k hid ho hM with h3 | h3
      · omega
      · exact h2 h3
  · by_cases hki : k = id
    · subst hki
      rw [hlk0] at hH
      injection hH with hH
      subst hH
      rw [hM]
      exact hob hext
    · rw [hlk k hki] at hH
      have h3 := hc.obj k ok hk hH
      refine h3.ext hext (fun j hj => hbl j (fun e => ?_))
      subst e
      exact hki (hc.inj k id ok o j hk hid hH ho hj hM)
  · have get : ∀ k ok, lk ((id, o') :: h) k = some ok → ∃ ok', lk h k = some ok' := fun k ok hk => by
      by_cases hki : k = id
      · subst hki; exact ⟨o, ho⟩
      · rw [hlk k hki] at hk; exact ⟨ok, hk⟩
    obtain ⟨q1, hq1⟩ := get k ok k3
    obtain ⟨q2, hq2⟩ := get k' ok' k4
    exact hc.inj k k' q1 q2 g' k1 k2 hq1 hq2 k5 k6
  · by_cases hki : k = id
    · subst hki; exact hc.lo k o g' hid ho k3
    · rw [hlk k hki] at k2; exact hc.lo k ok g' k1 k2 k3

theorem eJ {w : World} {g : Nat} {us vs : List Value} {T : TypeId} {fz : Nat × Nat} (h : w.heap[g]? = some (.cells us.toArray T fz)) (hl : vs.length = us.length) : (w.setRow g vs.toArray).shape? g = w.shape? g := by
  unfold World.shape?
  rw [setRow_heap w g _ _ T _ h, h]
  simp [hl]

theorem fD {w : World} {T T' : TypeId} {e : TyE} (hT : TyOk P T e) {g off : Nat} {cur vs : List Value} {v : Value} (hg : w.heap[g]? = some (.cells cur.toArray T' (0, 0))) (hv : v.cells.toList = vs) (hk : vs.length = e.size) (hfit : off + vs.length ≤ cur.length) (h1 : ∀ u ∈ vs, u.oneCell' = true) :
    (storeVar T ⟨g, off, none⟩ v).run P w = .ok () (w.setRow g (cur.take off ++ vs ++ cur.drop (off + vs.length)).toArray) := by
  have hst := run_storeCells_at P g off T' vs 0 cur.toArray w hg (by simpa using hfit) h1
  have hs := hT.sizeOf w
  have hsz : v.cells.size = e.size := by rw [← hk, ← hv]; simp
  simp only [storeVar, Sem.run_bind, hs, Result.andThen_ok]
  simp [hsz, hv, hst]

variable {tab : Tab} {T ty : TypeId} {x y : Operand} {pos : String} {aft : Array Edge} {gd : Option (Nat × Bool)}

theorem yL (tb : TabOk P tab) {e : TyE} (hg : guardA ops env ⟨none, .store T x y, ty, pos, aft, gd⟩ true) (hT : tyLook tab T = some e) (hk : Nat.beq e.size 1 = true) {id off : Nat} {T' : TypeId} {cs : List AV} {v : AV} (hx : evA env x = some (.ref id off)) (hy : evA env y = some v) (h1 : v.one = true) (ho : lk h id = some (.blk T' cs)) (hfit : off < cs.length)
    (next : AWL P ops sz rest K n env ((id, .blk T' (cs.set off v)) :: h) dfs) : AWL P ops sz (⟨none, .store T x y, ty, pos, aft, gd⟩ :: rest) K n env h dfs := by
  intro B a w hc
  obtain ⟨M, c1, c2, c3, c4⟩ := hc
  refine dM fun K' hK' => ?_
  rw [if_pos (hg.wanted c3)]
  have hp := dH c3 x _ hx
  have hv := dH c3 y _ hy
  simp only [Rep] at hp
  obtain ⟨hid, g, hM, hp⟩ := hp
  obtain ⟨us, hb, hus⟩ := eN (fun id o h _ => h) c1 ho hid hM
  obtain ⟨o1, o2⟩ := hv.one h1
  have hsz : e.size = 1 := Nat.eq_of_beq_eq_true hk
  have hlen : off + 1 ≤ us.length := by rw [hus.length]; omega
  have hrun := fD (P := P) (w := w) (aS tb hT) (g := g) (off := off) (cur := us) (vs := [a.eval y]) (v := a.eval y) hb (by rw [o2]) (by simp [hsz]) hlen (by simpa using o1)
  have hset : us.take off ++ [a.eval y] ++ us.drop (off + [a.eval y].length) = us.set off (a.eval y) := by
    rw [List.set_eq_take_append_cons_drop]
    rw [if_pos (by omega)]
    simp
  rw [hset] at hrun
  unfold Oper.wp execOp
  simp only [hp, Instr.storeAt, Instr.sureAddr, Sem.run_bind, Sem.run_pure, Result.andThen_ok, hrun]
  obtain ⟨k1, k2⟩ := c1.turn (o' := .blk T' (cs.set off v)) (w' := w.setRow g (us.set off (a.eval y)).toArray) rfl hid ho hM rfl rfl rfl (by simp) (fun k hk => setRow_other w g k _ hk) (eJ hb (by simp))
    (fun hext => ⟨g, _, rfl, setRow_heap w g _ _ T' _ hb, RepL.ext hext _ _ (RepL.set hus off hv)⟩)
  simp only [Oper.upon, Act.put]
  exact hK' _ _ (next B _ _ ⟨M, k1, c2, fun t av ht => Rep.ext k2 _ _ (c3 t av ht), c4.ext k2⟩)

theorem eT (tb : TabOk P tab) {e : TyE} (hg : guardA ops env ⟨none, .store T x y, ty, pos, aft, gd⟩ true) (hT : tyLook tab T = some e) (hk : Nat.beq e.size 1 = true) {id off : Nat} {T' : TypeId} {cs : List CV} {v : CV} (hx : evA env x = some (.ref id off)) (hy : evA env y = some (.c v)) (h1 : v.one = true) (ho : lk h id = some (.row T' cs)) (hfit : off < cs.length)
    (next : AWL P ops sz rest K n env ((id, .row T' (cs.set off v)) :: h) dfs) : AWL P ops sz (⟨none, .store T x y, ty, pos, aft, gd⟩ :: rest) K n env h dfs := by
  intro B a w hc
  obtain ⟨M, c1, c2, c3, c4⟩ := hc
  refine dM fun K' hK' => ?_
  rw [if_pos (hg.wanted c3)]
  have hp := dH c3 x _ hx
  have hv := dH c3 y _ hy
  simp only [Rep] at hp hv
  obtain ⟨hid, g, hM, hp⟩ := hp
  obtain ⟨us, vs, hb, hus, hone⟩ := eE (fun id o h _ => h) c1 ho hid hM
  obtain ⟨o1, o2⟩ := hv.one h1
  have hsz : e.size = 1 := Nat.eq_of_beq_eq_true hk
  have hul := hus.length
  have hlen : off + 1 ≤ (us ++ vs).length := by simp; omega
  have hrun := fD (P := P) (w := w) (aS tb hT) (g := g) (off := off) (cur := us ++ vs) (vs := [a.eval y]) (v := a.eval y) hb (by rw [o2]) (by simp [hsz]) hlen (by simpa using o1)
  have hset : (us ++ vs).take off ++ [a.eval y] ++ (us ++ vs).drop (off + [a.eval y].length) = us.set off (a.eval y) ++ vs := by
    rw [← List.set_append_left _ _ (by omega), List.set_eq_take_append_cons_drop]
    rw [if_pos (by simp; omega)]
    simp
  rw [hset] at hrun
  unfold Oper.wp execOp
  simp only [hp, Instr.storeAt, Instr.sureAddr, Sem.run_bind, Sem.run_pure, Result.andThen_ok, hrun]
  obtain ⟨k1, k2⟩ := c1.turn (o' := .row T' (cs.set off v)) (w' := w.setRow g (us.set off (a.eval y) ++ vs).toArray) rfl hid ho hM rfl rfl rfl (by simp) (fun k hk => setRow_other w g k _ hk) (eJ hb (by simp))
    (fun hext => .inr ⟨g, _, vs, rfl, setRow_heap w g _ _ T' _ hb, RepCs.mono hext.ok _ _ (RepCs.set hus off hv), fun u hu => (List.mem_or_eq_of_mem_set hu).elim (hone u) (fun e => e ▸ o1)⟩)
  simp only [Oper.upon, Act.put]
  exact hK' _ _ (next B _ _ ⟨M, k1, c2, fun t av ht => Rep.ext k2 _ _ (c3 t av ht), c4.ext k2⟩)

def lay {α : Type} (cs : List α) (off : Nat) (vs : List α) : List α := cs.take off ++ vs ++ cs.drop (off + vs.length)
theorem qA {α : Type} (cs : List α) (off : Nat) (vs : List α) (h : off + vs.length ≤ cs.length) : (lay cs off vs).length = cs.length := by
  simp [lay]; omega
theorem nG {α : Type} (cs vs : List α) (h : vs.length = cs.length) : lay cs 0 vs = vs := by simp [lay, h]

theorem dO (tb : TabOk P tab) {e : TyE} (hg : guardA ops env ⟨none, .store T x y, ty, pos, aft, gd⟩ true) (hT : tyLook tab T = some e) {id off : Nat} {T' : TypeId} {cs xs cs' : List AV} {v : AV} (hx : evA env x = some (.ref id off)) (hy : evA env y = some v) (hp : Parts v xs) (hl : xs.length = e.size) (h1 : xs.all AV.one = true) (ho : lk h id = some (.blk T' cs)) (hfit : off + xs.length ≤ cs.length) (hcs : lay cs off xs = cs')
    (next : AWL P ops sz rest K n env ((id, .blk T' cs') :: h) dfs) : AWL P ops sz (⟨none, .store T x y, ty, pos, aft, gd⟩ :: rest) K n env h dfs := by
  intro B a w hc
  subst hcs
  obtain ⟨M, c1, c2, c3, c4⟩ := hc
  refine dM fun K' hK' => ?_
  rw [if_pos (hg.wanted c3)]
  have hpt := dH c3 x _ hx
  simp only [Rep] at hpt
  obtain ⟨hid, g, hM, hpt⟩ := hpt
  obtain ⟨vs, hv, hvs⟩ := hp.rep (dH c3 y _ hy)
  obtain ⟨us, hb, hus⟩ := eN (fun id o h _ => h) c1 ho hid hM
  have hul := hus.length
  have hvl := hvs.length
  have hrun := fD (P := P) (w := w) (aS tb hT) (g := g) (off := off) (cur := us) (vs := vs) (v := a.eval y) hb (by rw [hv]; rfl) (by omega) (by omega) (hvs.one h1)
  unfold Oper.wp execOp
  simp only [hpt, Instr.storeAt, Instr.sureAddr, Sem.run_bind, Sem.run_pure, Result.andThen_ok, hrun]
  obtain ⟨k1, k2⟩ := c1.turn (o' := .blk T' (lay cs off xs)) (w' := w.setRow g (us.take off ++ vs ++ us.drop (off + vs.length)).toArray) rfl hid ho hM rfl rfl rfl (by simp) (fun k hk => setRow_other w g k _ hk) (eJ hb (by simp; omega))
    (fun hext => ⟨g, _, rfl, setRow_heap w g _ _ T' _ hb, RepL.ext hext _ _ (by
      unfold lay
      rw [hvl]
      exact ((hus.take off).append hvs).append (hus.drop (off + xs.length)))⟩)
  simp only [Oper.upon, Act.put]
  exact hK' _ _ (next B _ _ ⟨M, k1, c2, fun t av ht => Rep.ext k2 _ _ (c3 t av ht), c4.ext k2⟩)
end steps
end Go.Av
namespace Go.Av
open Go Go.RowKit

mutual
def AV.ltB (N : Nat) : AV → Bool
  | .c _ | .ip _ _ | .junk => true
  | .ref id _ => Nat.blt id N
  | .own id _ _ _ _ => Nat.blt id N
  | .agg xs => AV.ltBs N xs
  | .tup xs => AV.ltBs N xs
  | .fn _ xs => AV.ltBs N xs
  | .yld id => Nat.blt id N
  | .mh id => Nat.blt id N
def AV.ltBs (N : Nat) : List AV → Bool
  | [] => true
  | x :: xs => AV.ltB N x && AV.ltBs N xs
end
def AObj.ltB (N : Nat) : AObj → Bool
  | .blk _ cs => AV.ltBs N cs
  | .row _ _ => true
  | .lp _ _ _ _ xs => AV.ltBs N xs
  | .dfr _ => true
  | .tab es => es.all fun p => p.2.ltB N
  | .dead => true

structure Less (N : Nat) (C C' : Cx) : Prop where
  dom : ∀ id, id < N → C.dom id → C'.dom id ∧ C'.M id = C.M id
  ok : Keeps C.ok C'.ok C.w C'.w
  shape : ∀ b x, C.w.shape? b = some x → C'.w.shape? b = some x
mutual
theorem Rep.less {N : Nat} {C C' : Cx} (h : Less N C C') : ∀ (x : AV) (u : Value), x.ltB N = true → Rep C x u → Rep C' x u
  | .c x, u, _, hu => by simp only [Rep] at hu ⊢; exact RepC.mono h.ok x u hu
  | .ref id off, u, hl, hu => by
    simp only [Rep] at hu ⊢
    simp only [AV.ltB, Nat.blt_eq] at hl
    obtain ⟨hd, g, hg, hu⟩ := hu
    obtain ⟨k1, k2⟩ := h.dom id hl hd
    exact ⟨k1, g, k2.trans hg, hu⟩
  | .own id off n size full, u, hl, hu => by
    simp only [Rep] at hu ⊢
    simp only [AV.ltB, Nat.blt_eq] at hl
    obtain ⟨hd, hu⟩ := hu
    obtain ⟨k1, k2⟩ := h.dom id hl hd
    refine ⟨k1, ?_⟩
    rcases hu with ⟨h1, h2, h3, h4⟩ | ⟨g, cp, h1, h2, h3, h4, h5⟩ | h6
    · exact .inl ⟨h1, h2, k2.trans h3, h4⟩
    · exact .inr (.inl ⟨g, cp, k2.trans h1, h2, h3, h4, fun hf => let ⟨e, he⟩ := h5 hf; ⟨e, h.shape _ _ he⟩⟩)
    · exact .inr (.inr h6)
  | .ip cs off, u, _, hu => by
    simp only [Rep] at hu ⊢
    obtain ⟨b, o, us, h1, h2, h3, h4, h6, h5⟩ := hu
    obtain ⟨k1, k2, k3⟩ := h.ok b h2 h3
    exact ⟨b, o, us, h1, k1, k2, RepCs.mono h.ok cs us h4, h6, fun j x hx => by rw [World.cell?_of_block (w := C.w) k3]; exact h5 j x hx⟩
  | .agg xs, u, hl, hu => by
    simp only [Rep] at hu ⊢
    obtain ⟨us, h1, h2⟩ := hu
    exact ⟨us, h1, RepL.less h xs us hl h2⟩
  | .tup xs, u, hl, hu => by
    simp only [Rep] at hu ⊢
    obtain ⟨us, h1, h2⟩ := hu
    exact ⟨us, h1, RepL.less h xs us hl h2⟩
  | .fn f caps, u, hl, hu => by
    simp only [Rep] at hu ⊢
    obtain ⟨us, h1, h2⟩ := hu
    exact ⟨us, h1, RepL.less h caps us hl h2⟩
  | .yld id, u, hl, hu => by
    simp only [Rep] at hu ⊢
    simp only [AV.ltB, Nat.blt_eq] at hl
    obtain ⟨hd, g, hg, hu⟩ := hu
    obtain ⟨k1, k2⟩ := h.dom id hl hd
    exact ⟨k1, g, k2.trans hg, hu⟩
  | .mh id, u, hl, hu => by
    simp only [Rep] at hu ⊢
    simp only [AV.ltB, Nat.blt_eq] at hl
    obtain ⟨hd, g, hg, hu⟩ := hu
    obtain ⟨k1, k2⟩ := h.dom id hl hd
    exact ⟨k1, g, k2.trans hg, hu⟩
  | .junk, u, _, hu => by simp only [Rep]
theorem RepL.less {N : Nat} {C C' : Cx} (h : Less N C C') : ∀ (xs : List AV) (us : List Value), AV.ltBs N xs = true → RepL C xs us → RepL C' xs us
  | [], us, _, hu => by simpa [RepL] using hu
  | c :: cs, us, hl, hu => by
    simp only [RepL] at hu ⊢
    simp only [AV.ltBs, Bool.and_eq_true] at hl
    obtain ⟨u, us', h1, h2, h3⟩ := hu
    exact ⟨u, us', h1, Rep.less h c u hl.1 h2, RepL.less h cs us' hl.2 h3⟩
end
theorem RepM.less {N : Nat} {C C' : Cx} (h : Less N C C') : ∀ (es : List (CV × AV)) (ms : List MapEntry), (es.all fun p => p.2.ltB N) = true → RepM C es ms → RepM C' es ms
  | [], ms, _, hu => hu
  | e :: es, ms, hl, hu => by
    obtain ⟨m, ms', h1, h2, h3, h4⟩ := hu
    simp only [List.all_cons, Bool.and_eq_true] at hl
    exact ⟨m, ms', h1, RepC.mono h.ok _ _ h2, Rep.less h _ _ hl.1 h3, RepM.less h es ms' hl.2 h4⟩
theorem ObjRep.less {N : Nat} {C C' : Cx} (h : Less N C C') {g : Option Nat} {o : AObj} (hw : C'.w = C.w) (hl : o.ltB N = true) (ho : ObjRep C g o) : ObjRep C' g o := by
  cases o with
  | blk T cs =>
    obtain ⟨k, us, rfl, h2, h3⟩ := ho
    exact ⟨k, us, rfl, by rw [hw]; exact h2, RepL.less h cs us hl h3⟩
  | row T cs =>
    rcases ho with h1 | ⟨k, us, vs, rfl, h2, h3, h4⟩
    · exact .inl h1
    · exact .inr ⟨k, us, vs, rfl, by rw [hw]; exact h2, RepCs.mono h.ok cs us h3, h4⟩
  | lp b sz L sl xs =>
    obtain ⟨k, r, rfl, h2, h3, h4, h5, h6, h7, h8, h9⟩ := ho
    exact ⟨k, r, rfl, by rw [hw]; exact h2, h3, h4, h5, h6, h7, h8, RepL.less h xs _ hl h9⟩
  | dfr b =>
    obtain ⟨k, rfl, h2⟩ := ho
    exact ⟨k, rfl, by rw [hw]; exact h2⟩
  | tab es =>
    obtain ⟨k, ms, t, rfl, h2, h3⟩ := ho
    exact ⟨k, ms, t, rfl, by rw [hw]; exact h2, h3.1, RepM.less h es _ hl h3.2⟩
  | dead => exact ho.elim

def WeakE (env : Env) (N : Nat) (E : Env) : Prop := ∀ t av, lkE E t = some av → lkE env t = some av ∧ av.ltB N = true
def WeakH (h : Heap) (N : Nat) (Hp : Heap) : Prop := ∀ id o, lk Hp id = some o → lk h id = some o ∧ o.ltB N = true
theorem bG {env : Env} {N : Nat} : WeakE env N [] := fun t av h => by cases h
theorem aZ {env E : Env} {N t : Nat} {av av' : AV} (h : lkE env t = some av') (he : av' = av) (hl : av.ltB N = true) (hr : WeakE env N E) : WeakE env N ((t, av) :: E) := by
  intro k x hk
  rw [cW] at hk
  split at hk
  · rename_i e; subst e he; injection hk with hk; subst hk; exact ⟨h, hl⟩
  · exact hr k x hk
theorem bM {h : Heap} {N : Nat} : WeakH h N [] := fun t av h => by cases h
theorem aY {h Hp : Heap} {N t : Nat} {o o' : AObj} (hh : lk h t = some o') (he : o' = o) (hl : o.ltB N = true) (hr : WeakH h N Hp) : WeakH h N ((t, o) :: Hp) := by
  intro k x hk
  rw [bD] at hk
  split at hk
  · rename_i e; subst e he; have hk := fT hk; subst hk; exact ⟨hh, hl⟩
  · exact hr k x hk

theorem DefRep.less {fr : List Value} {N : Nat} {C C' : Cx} (h : Less N C C') : ∀ {l : Defs} {ds : List Deferred}, l.all (fun p => AV.ltBs N p.2) = true → DefRep fr C l ds → DefRep fr C' l ds
  | [], ds, _, hd => hd
  | (some f, caps) :: r, ds, hl, hd => by
    obtain ⟨us, ds', h1, h2, h3⟩ := hd
    simp only [List.all_cons, Bool.and_eq_true] at hl
    exact ⟨us, ds', h1, RepL.less h _ _ hl.1 h2, DefRep.less h hl.2 h3⟩
  | (none, xs) :: r, ds, hl, hd => by
    simp only [List.all_cons, Bool.and_eq_true] at hl
    exact ⟨RepL.less h _ _ hl.1 hd.1, DefRep.less h hl.2 hd.2⟩

theorem bZ {n N : Nat} {env E : Env} {h Hp : Heap} {dfs : Defs} (hn : Nat.ble N n = true) (hE : WeakE env N E) (hH : WeakH h N Hp) (hD : dfs.all (fun p => AV.ltBs N p.2) = true) : Weak n env h dfs N E Hp dfs := by
  intro B sz a w hc
  obtain ⟨M, h1, h2, h3, h4⟩ := hc
  have hn' : N ≤ n := Nat.le_of_ble_eq_true hn
  have hok : ∀ b, okOf B (lt n) M (lk h) b → okOf B (lt N) M (lk Hp) b := fun b hb => ⟨hb.1, fun id o hid hH' he => hb.2 id o (Nat.lt_of_lt_of_le hid hn') (hH id o hH').1 he⟩
  have hls : Less N (cx B n M h w) (cx B N M Hp w) := ⟨fun id hid _ => ⟨hid, rfl⟩, fun b hb hl => ⟨hok b hb, hl, rfl⟩, fun _ _ h => h⟩
  refine ⟨M, ⟨h1.fr, fun id o hid hH' => ?_, fun id id' o o' g k1 k2 k3 k4 => h1.inj id id' o o' g (Nat.lt_of_lt_of_le k1 hn') (Nat.lt_of_lt_of_le k2 hn') (hH id o k3).1 (hH id' o' k4).1, fun id o g k1 k2 => h1.lo id o g (Nat.lt_of_lt_of_le k1 hn') (hH id o k2).1⟩, h2, fun t av ht => ?_, h4.less hls hD⟩
  · exact (h1.obj id o (Nat.lt_of_lt_of_le hid hn') (hH id o hH').1).less hls rfl (hH id o hH').2
  · exact Rep.less hls _ _ (hE t av ht).2 (h3 t av (hE t av ht).1)

def Cv (x y : CV) : Prop := ∀ ok w u, RepC ok w x u → RepC ok w y u
def CvL (x y : List CV) : Prop := ∀ ok w u, RepCs ok w x u → RepCs ok w y u
theorem bL {x : CV} : Cv x x := fun _ _ _ h => h
theorem cV {x y : CV} (h : x = y) : Cv x y := fun _ _ _ k => h ▸ k
theorem eB {size : Nat} : Cv (.v (.slice none 0 0)) (.sl size 0 []) := fun ok w u h => by
  simp only [RepC] at h ⊢
  exact ⟨none, 0, [], h, Nat.le_refl _, by simp [maxLen], by simp, by simp [RepCs], by simp, fun h => absurd h (by omega)⟩
theorem dA {size n n' : Nat} {cs cs' : List CV} (hn : n = n') (hc : cs = cs') : Cv (.sl size n cs) (.sl size n' cs') := by subst hn hc; exact bL
theorem gO : CvL [] [] := fun _ _ _ h => h
theorem dF {x y : CV} {xs ys : List CV} (h : Cv x y) (k : CvL xs ys) : CvL (x :: xs) (y :: ys) := fun ok w u hu => by
  simp only [RepCs] at hu ⊢
  obtain ⟨a, l, h1, h2, h3⟩ := hu
  exact ⟨a, l, h1, h ok w a h2, k ok w l h3⟩
theorem kK {x : List CV} : CvL x x := fun _ _ _ h => h
def Frz (keep : List Nat) (h : Heap) (v : AV) (x : CV) : Prop :=
  ∀ (B : Bs) (dom : Nat → Prop) (M : Nat → Option Nat) (H : Nat → Option AObj) (w : World) (u : Value), (∀ id o, lk h id = some o → dom id → H id = some o) → (∀ k ∈ keep, dom k ∧ ∃ o, H k = some o) →
    ConcH B dom M H w → Rep ⟨dom, M, okOf B dom M H, w⟩ v u → RepC (fun b => (B.ok0 b ∨ B.w0.heap.size ≤ b ∨ b ∈ B.G) ∧ ∀ k ∈ keep, M k ≠ some b) w x u
def FrzL (keep : List Nat) (h : Heap) (v : List AV) (x : List CV) : Prop :=
  ∀ (B : Bs) (dom : Nat → Prop) (M : Nat → Option Nat) (H : Nat → Option AObj) (w : World) (u : List Value), (∀ id o, lk h id = some o → dom id → H id = some o) → (∀ k ∈ keep, dom k ∧ ∃ o, H k = some o) →
    ConcH B dom M H w → RepL ⟨dom, M, okOf B dom M H, w⟩ v u → RepCs (fun b => (B.ok0 b ∨ B.w0.heap.size ≤ b ∨ b ∈ B.G) ∧ ∀ k ∈ keep, M k ≠ some b) w x u
section frz
variable {keep : List Nat} {h : Heap}
theorem bY {x y : CV} (hxy : Cv x y) : Frz keep h (.c x) y := by
  intro B dom M H w u hh hk hc hu
  simp only [Rep] at hu
  refine hxy _ _ _ (RepC.mono (fun b hb hl => ⟨⟨hb.1, fun k hkk he => ?_⟩, hl, rfl⟩) _ _ hu)
  obtain ⟨h1, o, h2⟩ := hk k hkk
  exact hb.2 k o h1 h2 he
theorem gP {id off n size : Nat} {full : Bool} {T : TypeId} {cs ys : List CV} (ho : lk h id = some (.row T cs)) (hk : keep.contains id = false) (hy : (cs.drop off).take (n * size) = ys) (hl : ys.length = n * size) : Frz keep h (.own id off n size full) (.sl size n ys) := by
  intro B dom M H w u hh hkp hc hu
  simp only [Rep] at hu
  obtain ⟨hd, hu⟩ := hu
  have hmono : ∀ b, okOf B dom M H b → (B.ok0 b ∨ B.w0.heap.size ≤ b ∨ b ∈ B.G) ∧ ∀ k ∈ keep, M k ≠ some b := fun b hb => ⟨hb.1, fun k hkk he => by
    obtain ⟨h1, o, h2⟩ := hkp k hkk
    exact hb.2 k o h1 h2 he⟩
  have key : ∀ g, M id = some g → ∃ us vs, w.heap[g]? = some (.cells (us ++ vs).toArray T (0, 0)) ∧ RepCs (okOf B dom M H) w cs us ∧ ∀ u ∈ us, u.oneCell' = true := fun g hg => eE hh hc ho hd hg
  have hz : n = 0 → ∃ us, RepCs (fun b => (B.ok0 b ∨ B.w0.heap.size ≤ b ∨ b ∈ B.G) ∧ ∀ k ∈ keep, M k ≠ some b) w ys us ∧ ∀ u ∈ us, u.oneCell' = true := fun h0 => by
    subst h0
    have : ys = [] := List.eq_nil_of_length_eq_zero (by simpa using hl)
    subst this
    exact ⟨[], by simp [RepCs], by simp⟩
  rcases hu with ⟨h1, h2, h3, h4⟩ | ⟨g, cp, h1, h2, h3, h4, h5⟩ | ⟨h1, h2, A, cp, h3, h4⟩
  · obtain ⟨us, hus, hon⟩ := hz h1
    exact ⟨none, 0, us, by rw [h4, h1], by omega, by simp [maxLen], hl, hus, hon, fun hn => absurd hn (by omega)⟩
  · obtain ⟨us, vs, hb, hr, hon⟩ := key g h1
    have h6 := (hr.drop off).take (n * size)
    rw [hy] at h6
    refine ⟨some ⟨g, off, none⟩, cp, (us.drop off).take (n * size), h2, h3, h4, hl, RepCs.mono (fun b hb hl => ⟨hmono b hb, hl, rfl⟩) _ _ h6, fun u hu => hon u (List.mem_of_mem_drop (List.mem_of_mem_take hu)), fun hn => ⟨g, off, rfl, ⟨?_, fun k hkk he => ?_⟩, bN hb, fun j x hj => ?_⟩⟩
    · rcases hc.lo id _ g hd (hh id _ ho hd) h1 with h7 | h7
      · exact .inr (.inl h7)
      · exact .inr (.inr h7)
    · obtain ⟨k1, o, k2⟩ := hkp k hkk
      have := hc.inj k id o _ g k1 hd k2 (hh id _ ho hd) he h1
      subst this
      rw [List.contains_eq_mem] at hk
      simp at hk
      exact hk hkk
    · have hjk : j < n * size := by
        rcases Nat.lt_or_ge j (n * size) with h1 | h1
        · exact h1
        · rw [List.getElem?_eq_none (by rw [List.length_take]; omega)] at hj; cases hj
      rw [List.getElem?_take_of_lt hjk, List.getElem?_drop] at hj
      exact eY hb hj
  · obtain ⟨us, hus, hon⟩ := hz h1
    subst h1
    exact ⟨A, cp, us, h3, by omega, h4, hl, hus, hon, fun hn => absurd hn (by omega)⟩
theorem cD {id n size : Nat} {full : Bool} {T : TypeId} {cs : List CV} (ho : lk h id = some (.row T cs)) (hk : keep.contains id = false) (hl : cs.length = n * size) : Frz keep h (.own id 0 n size full) (.sl size n cs) :=
  gP ho hk (by rw [List.drop_zero, List.take_of_length_le (by omega)]) hl
theorem dG : FrzL keep h [] [] := fun B dom M H w u _ _ _ hu => by simpa [RepL, RepCs] using hu
theorem bV {x : AV} {y : CV} {xs : List AV} {ys : List CV} (hx : Frz keep h x y) (hxs : FrzL keep h xs ys) : FrzL keep h (x :: xs) (y :: ys) := by
  intro B dom M H w u hh hk hc hu
  simp only [RepL] at hu
  obtain ⟨a, l, h1, h2, h3⟩ := hu
  exact ⟨a, l, h1, hx B dom M H w a hh hk hc h2, hxs B dom M H w l hh hk hc h3⟩
end frz

def AC (P : Program) (f : FuncId) (args : List CV) (r : AV) (hr : Heap) (nr : Nat) : Prop :=
  ∀ (ok : Nat → Prop) (w : World) (vs : List Value), RepCs ok w args vs → Calls P f vs.toArray w fun e w' => ∃ v M, e = .returned v ∧ ConcH ⟨w, [], ok, []⟩ (lt nr) M (lk hr) w' ∧ Rep (cx ⟨w, [], ok, []⟩ nr M hr w') r v

def enumE : Nat → List CV → Env
  | _, [] => []
  | k, x :: xs => (k, .c x) :: enumE (k + 1) xs
theorem rR : ∀ {cs : List CV} {k t : Nat} {av : AV}, lkE (enumE k cs) t = some av → ∃ c, k ≤ t ∧ cs[t - k]? = some c ∧ av = .c c
  | [], k, t, av, h => by cases h
  | c :: cs, k, t, av, h => by
    rw [enumE, cW] at h
    split at h
    · rename_i e; subst e; injection h with h; exact ⟨c, Nat.le_refl _, by simp, h.symm⟩
    · rename_i e
      obtain ⟨c', h1, h2, h3⟩ := rR h
      refine ⟨c', by omega, ?_, h3⟩
      rw [show t - k = (t - (k + 1)) + 1 by omega]
      simpa using h2

def Idle (P : Program) (f : FuncId) (k : Nat) : Prop :=
  ∀ (us : List Value) (w : World), us.length = k → CallsD P f us.toArray .returning w fun e u' w' => e = .returned (.tuple #[]) ∧ u' = .returning ∧ w' = w
def Body (P : Program) (f : FuncId) : Prop := (P.funcs[f]?).map (fun fn => (fn.name == "runtime.NumGoroutine", fn.body.isNone)) = some (false, false)
theorem Body.run {P : Program} {f : FuncId} (h : Body P f) (args : Array Value) (w : World) : (callFunc f args).run P w = .ok (.enter f args) w := by
  obtain ⟨fn, h1, h2⟩ := Option.map_eq_some_iff.1 h
  simp only [Prod.mk.injEq] at h2
  simp only [callFunc, Sem.run_bind, run_program, Result.andThen_ok, h1]
  simp [h2.1, h2.2]
def IdleD (P : Program) : Heap → Defs → Prop
  | _, [] => True
  | h, (some f, caps) :: r => match Nat.beq f collF with
    | true => (match caps with | [.ref id _] => lk h id = some (.dfr true) ∧ IdleD P ((id, .dfr false) :: h) r | _ => False)
    | false => Idle P f caps.length ∧ Body P f ∧ IdleD P h r
  | h, (none, _) :: r => IdleD P h r
def endD : Heap → Defs → Heap
  | h, [] => h
  | h, (some f, caps) :: r => match Nat.beq f collF with
    | true => match caps with | [.ref id _] => endD ((id, .dfr false) :: h) r | _ => h
    | false => endD h r
  | h, (none, _) :: r => endD h r

inductive ResA (tab : Tab) (env : Env) (h : Heap) : ResultVar → AV → Prop
  | tmp {t : Tmp} {v : AV} (hv : lkE env t = some v) : ResA tab env h (.tmp t) v
  | one {p : Tmp} {T T' : TypeId} {id : Nat} {v : AV} {cs : List AV} {e : TyE} (hp : lkE env p = some (.ref id 0)) (hT : tyLook tab T = some e) (hk : e.kind.agg = false) (ho : lk h id = some (.blk T' cs)) (hv : cs[0]? = some v) : ResA tab env h (.cell p T) v
  | agg {p : Tmp} {T T' : TypeId} {id : Nat} {v : AV} {cs : List AV} {e : TyE} (hp : lkE env p = some (.ref id 0)) (hT : tyLook tab T = some e) (hk : e.kind.agg = true) (ho : lk h id = some (.blk T' cs)) (hl : Nat.beq cs.length e.size = true) (hv : IsAgg cs v) : ResA tab env h (.cell p T) v
  | aggr {p : Tmp} {T T' : TypeId} {id : Nat} {cs : List CV} {e : TyE} (hp : lkE env p = some (.ref id 0)) (hT : tyLook tab T = some e) (hk : e.kind.agg = true) (ho : lk h id = some (.row T' cs)) (hl : cs.length = e.size) : ResA tab env h (.cell p T) (.c (.agg cs))

section ret
variable {P : Program} {tab : Tab} {env : Env} {h : Heap} {n : Nat}
theorem ResA.run (tb : TabOk P tab) {rv : ResultVar} {v : AV} (hr : ResA tab env h rv v) {B : Bs} {M : Nat → Option Nat} {w : World} {tmps : Array Value} (hc : ConcH B (lt n) M (lk h) w) (he : ∀ t av, lkE env t = some av → Rep (cx B n M h w) av (tmps.getD t undef)) :
    ∃ u, Rep (cx B n M h w) v u ∧ (match rv with | .tmp t => tmps.getD t undef = u | .cell p T => ∃ q, tmps.getD p undef = .pointer (some q) ∧ (loadVar T q).run P w = .ok u w) := by
  cases hr with
  | tmp hv => exact ⟨_, he _ _ hv, rfl⟩
  | one hp hT hk ho hv =>
    have := he _ _ hp
    simp only [Rep] at this
    obtain ⟨hid, g, hM, hq⟩ := this
    obtain ⟨us, hb, hus⟩ := eN (fun id o h _ => h) hc ho hid hM
    obtain ⟨u, hu, hru⟩ := hus.get hv
    exact ⟨u, hru, _, hq, kQ (aS tb hT) hk (by rw [iD hb]; exact hu)⟩
  | agg hp hT hk ho hl hv =>
    rename_i p T T' id cs e
    have := he _ _ hp
    simp only [Rep] at this
    obtain ⟨hid, g, hM, hq⟩ := this
    obtain ⟨us, hb, hus⟩ := eN (fun id o h _ => h) hc ho hid hM
    exact ⟨_, hv.rep hus, _, hq, iO (aS tb hT) hk (us := us) (by rw [hus.length]; exact Nat.eq_of_beq_eq_true hl) (fun j u hj => by rw [iD hb, Nat.zero_add]; exact hj)⟩
  | aggr hp hT hk ho hl =>
    have := he _ _ hp
    simp only [Rep] at this
    obtain ⟨hid, g, hM, hq⟩ := this
    obtain ⟨us, vs, hb, hus, hon⟩ := eE (fun id o h _ => h) hc ho hid hM
    exact ⟨_, ⟨us, rfl, hus, hon⟩, _, hq, iO (aS tb hT) hk (us := us) (by rw [hus.length]; exact hl) (fun j u hj => by rw [Nat.zero_add]; exact eY hb hj)⟩

inductive ResL (tab : Tab) (env : Env) (h : Heap) : List ResultVar → AV → Prop
  | none : ResL tab env h [] (.tup [])
  | one {r : ResultVar} {v : AV} (h1 : ResA tab env h r v) : ResL tab env h [r] v
  | two {r1 r2 : ResultVar} {v1 v2 : AV} (h1 : ResA tab env h r1 v1) (h2 : ResA tab env h r2 v2) : ResL tab env h [r1, r2] (.tup [v1, v2])
  | three {r1 r2 r3 : ResultVar} {v1 v2 v3 : AV} (h1 : ResA tab env h r1 v1) (h2 : ResA tab env h r2 v2) (h3 : ResA tab env h r3 v3) : ResL tab env h [r1, r2, r3] (.tup [v1, v2, v3])

def Rd (P : Program) (tmps : Array Value) (w : World) (rv : ResultVar) (u : Value) : Prop := match rv with | .tmp t => tmps[t]?.getD undef = u | .cell p T => ∃ q, tmps[p]?.getD undef = .pointer (some q) ∧ (loadVar T q).run P w = .ok u w
theorem ResL.run (tb : TabOk P tab) {fn : Func} {v : AV} (hr : ResL tab env h fn.results.toList v) {B : Bs} {M : Nat → Option Nat} {w : World} {tmps : Array Value} (hc : ConcH B (lt n) M (lk h) w) (he : ∀ t av, lkE env t = some av → Rep (cx B n M h w) av (tmps.getD t undef)) :
    ∃ u, Rep (cx B n M h w) v u ∧ (results fn tmps).run P w = .ok u w := by
  have one : ∀ {rv : ResultVar} {v : AV}, ResA tab env h rv v → ∃ u, Rep (cx B n M h w) v u ∧ Rd P tmps w rv u := by
    intro rv v hA
    obtain ⟨u, h1, h2⟩ := hA.run tb hc he
    refine ⟨u, h1, ?_⟩
    cases rv with
    | tmp t => simpa [Rd] using h2
    | cell p T => obtain ⟨q, hq, hl⟩ := h2; exact ⟨q, by simpa using hq, hl⟩
  generalize hl : fn.results.toList = l at hr
  have hf : fn.results = l.toArray := by rw [← hl]
  cases hr with
  | none => exact ⟨.tuple #[], ⟨[], rfl, rfl⟩, by simp [results, hf]⟩
  | one h1 =>
    obtain ⟨u, k1, k2⟩ := one h1
    refine ⟨u, k1, ?_⟩
    rename_i rv
    cases rv <;> simp only [Rd] at k2 <;> (try obtain ⟨q, hq, hl1⟩ := k2) <;> simp [results, hf, asAddr, *]
  | two h1 h2 =>
    obtain ⟨u1, k1, k2⟩ := one h1
    obtain ⟨u2, l1, l2⟩ := one h2
    refine ⟨.tuple #[u1, u2], ⟨[u1, u2], rfl, u1, [u2], rfl, k1, u2, [], rfl, l1, rfl⟩, ?_⟩
    rename_i r1 r2 v1 v2
    cases r1 <;> cases r2 <;> simp only [Rd] at k2 l2 <;> (try obtain ⟨q, hq, hl1⟩ := k2) <;> (try obtain ⟨q2, hq2, hl2⟩ := l2) <;> simp [results, hf, asAddr, *]
  | three h1 h2 h3 =>
    obtain ⟨u1, k1, k2⟩ := one h1
    obtain ⟨u2, l1, l2⟩ := one h2
    obtain ⟨u3, m1, m2⟩ := one h3
    refine ⟨.tuple #[u1, u2, u3], ⟨[u1, u2, u3], rfl, u1, [u2, u3], rfl, k1, u2, [u3], rfl, l1, u3, [], rfl, m1, rfl⟩, ?_⟩
    rename_i r1 r2 r3 v1 v2 v3
    cases r1 <;> cases r2 <;> cases r3 <;> simp only [Rd] at k2 l2 m2 <;> (try obtain ⟨q, hq, hl1⟩ := k2) <;> (try obtain ⟨q2, hq2, hl2⟩ := l2) <;> (try obtain ⟨q3, hq3, hl3⟩ := m2) <;> simp [results, hf, asAddr, *]
end ret
end Go.Av
namespace Go.Av
open Go Go.RowKit

def Out (n : Nat) (h : Heap) (v r : AV) (hr : Heap) (nr : Nat) : Prop :=
  ∀ (w0 : World) (ok : Nat → Prop) (M : Nat → Option Nat) (w : World) (u : Value), ConcH ⟨w0, [], ok, []⟩ (lt n) M (lk h) w → Rep (cx ⟨w0, [], ok, []⟩ n M h w) v u →
    ∃ M', ConcH ⟨w0, [], ok, []⟩ (lt nr) M' (lk hr) w ∧ Rep (cx ⟨w0, [], ok, []⟩ nr M' hr w) r u

theorem iV {w0 w : World} {ok : Nat → Prop} {M : Nat → Option Nat} {H : Nat → Option AObj} (h : FrB w0 [] w) : ConcH ⟨w0, [], ok, []⟩ (lt 0) M H w :=
  ⟨h, fun id o hid => absurd hid (by simp [lt]), fun id id' o o' g hid => absurd hid (by simp [lt]), fun id o g hid => absurd hid (by simp [lt])⟩

theorem cE {n : Nat} {h : Heap} {v : AV} {x : CV} (hf : Frz [] h v x) : Out n h v (.c x) [] 0 := by
  intro w0 ok M w u hc hu
  refine ⟨M, iV hc.fr, ?_⟩
  have := hf _ _ _ _ _ u (fun id o h _ => h) (by simp) hc hu
  exact RepC.mono (fun b hb hl => ⟨⟨by simpa using hb.1, fun id o hid => absurd hid (by simp [lt])⟩, hl, rfl⟩) _ _ this
theorem jG {n : Nat} {h : Heap} {vs : List AV} {xs : List CV} (hf : FrzL [] h vs xs) : Out n h (.tup vs) (.tup (xs.map AV.c)) [] 0 := by
  intro w0 ok M w u hc hu
  refine ⟨M, iV hc.fr, ?_⟩
  simp only [Rep, cx] at hu
  obtain ⟨us, h1, h2⟩ := hu
  have := hf _ _ _ _ _ us (fun id o h _ => h) (by simp) hc h2
  exact ⟨us, h1, RepL.ofC (RepCs.mono (fun b hb hl => ⟨⟨by simpa using hb.1, fun id o hid => absurd hid (by simp [lt])⟩, hl, rfl⟩) _ _ this)⟩

theorem nodup_inj {l : List Nat} (hnd : l.Nodup) {i j : Nat} (hi : i < l.length) (hj : j < l.length) (he : l[i] = l[j]) : i = j := by
  rw [List.nodup_iff_pairwise_ne, List.pairwise_iff_getElem] at hnd
  rcases Nat.lt_trichotomy i j with h | h | h
  · exact absurd he (hnd i j hi hj h)
  · exact h
  · exact absurd he.symm (hnd j i hj hi h)
def KeepH (σ : List Nat) (h hr : Heap) (n : Nat) : Prop := ∀ i k, σ[i]? = some k → k < n ∧ ∃ T cs, lk h k = some (.row T cs) ∧ lk hr i = some (.row T cs)
def Ren (σ : List Nat) (h : Heap) (v r : AV) : Prop :=
  ∀ (w0 : World) (ok : Nat → Prop) (n : Nat) (M : Nat → Option Nat) (w : World) (u : Value) (hr : Heap), KeepH σ h hr n → ConcH ⟨w0, [], ok, []⟩ (lt n) M (lk h) w → Rep (cx ⟨w0, [], ok, []⟩ n M h w) v u → Rep (cx ⟨w0, [], ok, []⟩ σ.length (fun i => (σ[i]?).bind M) hr w) r u
def RenL (σ : List Nat) (h : Heap) (v r : List AV) : Prop :=
  ∀ (w0 : World) (ok : Nat → Prop) (n : Nat) (M : Nat → Option Nat) (w : World) (u : List Value) (hr : Heap), KeepH σ h hr n → ConcH ⟨w0, [], ok, []⟩ (lt n) M (lk h) w → RepL (cx ⟨w0, [], ok, []⟩ n M h w) v u → RepL (cx ⟨w0, [], ok, []⟩ σ.length (fun i => (σ[i]?).bind M) hr w) r u
section ren
variable {σ : List Nat} {h : Heap}
theorem ren_own {i k off n size : Nat} {full : Bool} (hi : σ[i]? = some k) : Ren σ h (.own k off n size full) (.own i off n size full) := by
  intro w0 ok n' M w u hr hk hc hu
  simp only [Rep, cx] at hu ⊢
  have hM : (σ[i]?).bind M = M k := by rw [hi]; rfl
  refine ⟨(List.getElem?_eq_some_iff.1 hi).1, ?_⟩
  rw [hM]
  exact hu.2
theorem out_ren {n : Nat} {v r : AV} {hr : Heap} (hnd : σ.Nodup) (hk : KeepH σ h hr n) (hren : Ren σ h v r) : Out n h v r hr σ.length := by
  intro w0 ok M w u hc hu
  refine ⟨fun i => (σ[i]?).bind M, ⟨hc.fr, fun id o hid hH => ?_, fun id id' o o' g k1 k2 k3 k4 k5 k6 => ?_, fun id o g k1 k2 k3 => ?_⟩, hren w0 ok n M w u hr hk hc hu⟩
  · obtain ⟨k, hs⟩ : ∃ k, σ[id]? = some k := ⟨σ[id], List.getElem?_eq_getElem hid⟩
    obtain ⟨h1, T, cs, h2, h3⟩ := hk id k hs
    rw [hH] at h3
    injection h3 with h3
    subst h3
    have := hc.obj k _ h1 h2
    show ObjRep _ ((σ[id]?).bind M) _
    rw [hs]
    rcases this with k1 | ⟨g, us, vs, k1, k2, k3, k4⟩
    · exact .inl k1
    · refine .inr ⟨g, us, vs, k1, k2, RepCs.mono (fun b hb hl => ⟨⟨hb.1, fun id' o' hid' hH' he => ?_⟩, hl, rfl⟩) _ _ k3, k4⟩
      obtain ⟨k', hs'⟩ : ∃ k, σ[id']? = some k := ⟨σ[id'], List.getElem?_eq_getElem hid'⟩
      obtain ⟨h1', T', cs', h2', h3'⟩ := hk id' k' hs'
      simp only [hs'] at he
      exact hb.2 k' _ h1' h2' he
  · obtain ⟨k, hs⟩ : ∃ k, σ[id]? = some k := ⟨σ[id], List.getElem?_eq_getElem k1⟩
    obtain ⟨k', hs'⟩ : ∃ k, σ[id']? = some k := ⟨σ[id'], List.getElem?_eq_getElem k2⟩
    obtain ⟨h1, T, cs, h2, h3⟩ := hk id k hs
    obtain ⟨h1', T', cs', h2', h3'⟩ := hk id' k' hs'
    simp only [hs, hs'] at k5 k6
    have := hc.inj k k' _ _ g h1 h1' h2 h2' k5 k6
    subst this
    have e1 := (List.getElem?_eq_some_iff.1 hs)
    have e2 := (List.getElem?_eq_some_iff.1 hs')
    exact nodup_inj hnd e1.1 e2.1 (e1.2.trans e2.2.symm)
  · obtain ⟨k, hs⟩ : ∃ k, σ[id]? = some k := ⟨σ[id], List.getElem?_eq_getElem k1⟩
    obtain ⟨h1, T, cs, h2, h3⟩ := hk id k hs
    simp only [hs] at k3
    exact hc.lo k _ g h1 h2 k3
theorem keep1 {k n : Nat} {T : TypeId} {cs : List CV} (hk : Nat.blt k n = true) (h1 : lk h k = some (.row T cs)) : KeepH [k] h [(0, .row T cs)] n := by
  intro i j hi
  have : i = 0 := by
    rcases Nat.eq_zero_or_pos i with h | h
    · exact h
    · rw [List.getElem?_eq_none (by simp; omega)] at hi; cases hi
  subst this
  simp at hi
  subst hi
  exact ⟨by simpa using hk, T, cs, h1, rfl⟩
theorem oP {k n m size : Nat} {full : Bool} {T : TypeId} {cs : List CV} (hk : Nat.blt k n = true) (h1 : lk h k = some (.row T cs)) : Out n h (.own k 0 m size full) (.own 0 0 m size full) [(0, .row T cs)] 1 :=
  out_ren (σ := [k]) (by simp) (keep1 hk h1) (ren_own rfl)
end ren

def RetK (P : Program) (tab : Tab) (rs : List ResultVar) (r : AV) (hr : Heap) (nr : Nat) : AK :=
  fun e n env h dfs => (e = .normal ∨ e = .ret) ∧ IdleD P h dfs ∧ ∃ v, ResL tab env (endD h dfs) rs v ∧ Out n (endD h dfs) v r hr nr
theorem aK {P : Program} {tab : Tab} {rs : List ResultVar} {r v : AV} {hr h h' : Heap} {nr n : Nat} {e : Exit} {env : Env} {dfs : Defs} (he : e = .normal ∨ e = .ret) (hd : IdleD P h dfs) (hh : endD h dfs = h') (hv : ResL tab env h' rs v) (ho : Out n h' v r hr nr) : RetK P tab rs r hr nr e n env h dfs := ⟨he, hd, v, hh ▸ hv, hh ▸ ho⟩

theorem shape_put {w : World} {g : Nat} {o o' : Obj} (h : w.heap[g]? = some o) (h1 : o.isCells = false) (h2 : o'.isCells = false) : (w.putObj g o').shape? g = w.shape? g := by
  unfold World.shape?
  rw [World.putObj_heap_same (bN h), h]
  have k1 : ∀ c e z, o ≠ .cells c e z := fun c e z hh => by subst hh; exact absurd h1 (by simp [Obj.isCells])
  have k2 : ∀ c e z, o' ≠ .cells c e z := fun c e z hh => by subst hh; exact absurd h2 (by simp [Obj.isCells])
  cases o <;> cases o' <;> first | rfl | exact absurd rfl (k1 _ _ _) | exact absurd rfl (k2 _ _ _)
theorem turn_put {B : Bs} {M : Nat → Option Nat} {w : World} {n : Nat} {h : Heap} (hc : ConcH B (lt n) M (lk h) w) {id g : Nat} {o o' : AObj} {q q' : Obj} (hlv : o'.live = some o') (hid : id < n) (ho : lk h id = some o) (hM : M id = some g) (hq : w.heap[g]? = some q) (h1 : q.isCells = false) (h2 : q'.isCells = false)
    (hob : Ext (cx B n M h w) (cx B n M ((id, o') :: h) (w.putObj g q')) → ObjRep (cx B n M ((id, o') :: h) (w.putObj g q')) (some g) o') :
    ConcH B (lt n) M (lk ((id, o') :: h)) (w.putObj g q') ∧ Ext (cx B n M h w) (cx B n M ((id, o') :: h) (w.putObj g q')) :=
  hc.turn hlv hid ho hM rfl rfl rfl (by simp [World.putObj]) (fun k hk => World.putObj_heap_other (fun e => hk e)) (shape_put hq h1 h2) hob
theorem dU {P : Program} {fn : Func} {tmps : Array Value} {R : Ending → World → Prop} {fr : List Value} {B : Bs} {n : Nat} {M : Nat → Option Nat} : ∀ {dfs : Defs} {ds : List Deferred} {h : Heap} {w : World}, IdleD P h dfs → ConcH B (lt n) M (lk h) w → DefRep fr (cx B n M h w) dfs ds →
    (∀ w', ConcH B (lt n) M (lk (endD h dfs)) w' → Ext (cx B n M h w) (cx B n M (endD h dfs) w') → ∃ v, (results fn tmps).run P w' = .ok v w' ∧ R (.returned v) w') → LeavesM P fn tmps R ds w
  | [], ds, h, w, _, hc, hd, hr => by simp only [DefRep] at hd; subst hd; exact hr w hc (Ext.refl _)
  | (none, xs) :: r, ds, h, w, hi, hc, hd, hr => dU (dfs := r) hi hc hd.2 hr
  | (some f, caps) :: r, ds, h, w, hi, hc, hd, hr => by
    obtain ⟨us, ds', rfl, h2, h3⟩ := hd
    cases hf : Nat.beq f collF with
    | false =>
      simp only [IdleD, hf] at hi
      obtain ⟨i1, i2, i3⟩ := hi
      simp only [endD, hf] at hr
      refine .inr ⟨.func f, us.toArray, f, us.toArray, by rw [pL hf], by rw [pL hf]; simp only [invoke]; rw [Body.run i2]; simp, (i1 us w h2.length).mono ?_⟩
      rintro e u' w' ⟨rfl, rfl, rfl⟩
      exact ⟨⟨_, rfl⟩, rfl, dU i3 hc h3 hr⟩
    | true =>
      simp only [IdleD, hf] at hi
      simp only [endD, hf] at hr
      split at hi
      · rename_i caps' id off
        obtain ⟨i1, i3⟩ := hi
        simp only [RepL, Rep] at h2
        obtain ⟨u, us', rfl, ⟨hid, g, hM, rfl⟩, rfl⟩ := h2
        have hM : M id = some g := hM
        have ho := hc.obj id _ hid i1
        rw [hM] at ho
        obtain ⟨k, hk, hb⟩ := ho
        injection hk with hk
        subst hk
        have hb : w.heap[g]? = some (.deferred (some [])) := hb
        obtain ⟨t1, t2⟩ := turn_put hc (o' := .dfr false) (q' := .deferred none) rfl hid i1 hM hb rfl rfl (fun _ => ⟨g, rfl, World.putObj_heap_same (bN hb)⟩)
        exact .inl ⟨g, _, by simp only [defOf, hf, collOf], run_takeDeferred hb, dU i3 t1 (h3.ext t2) (fun w' k1 k2 => hr w' k1 (t2.trans k2))⟩
      · exact hi.elim

theorem aJ {P : Program} {tab : Tab} (tb : TabOk P tab) {f : FuncId} {fn : Func} {c : Code} {args : List CV} {r : AV} {hr : Heap} {nr sz : Nat} (hf : P.funcs[f]? = some fn) (hb : fn.body = some c) (hsz : max fn.ntmps args.length = sz)
    (hx : AW P sz c (RetK P tab fn.results.toList r hr nr) 0 (enumE 0 args) [] []) : AC P f args r hr nr := by
  intro ok w vs hvs
  have hlen := hvs.length
  refine eX hf hb (wp_mono (iR (hx ⟨w, [], ok, []⟩ _ w ⟨fun _ => none, iV (FrB.refl _ _), ?_, ?_, ?_⟩)) ?_)
  · simp; omega
  · intro t av ht
    obtain ⟨c', h1, h2, rfl⟩ := rR ht
    rw [Nat.sub_zero] at h2
    obtain ⟨u, hu, hru⟩ := hvs.get h2
    have : (vs.toArray ++ Array.replicate (fn.ntmps - vs.toArray.size) undef).getD t undef = u := by
      have hlt := (List.getElem?_eq_some_iff.1 hu).1
      have h9 := (List.getElem?_eq_some_iff.1 hu).2
      simp [Array.getElem?_append, hlt, h9]
    rw [this]
    simp only [Rep]
    exact RepC.mono (fun b hb hl => ⟨⟨.inl hb, fun id o hid => absurd hid (by simp [lt])⟩, hl, rfl⟩) _ _ hru
  · rfl
  · intro e a w' hq
    obtain ⟨n, env, h, dfs, ⟨h1, h2, v, h3, h4⟩, M, c1, c2, c3, c4⟩ := hq
    have : LeavesM P fn a.tmps (fun e w' => ∃ v M, e = .returned v ∧ ConcH ⟨w, [], ok, []⟩ (lt nr) M (lk hr) w' ∧ Rep (cx ⟨w, [], ok, []⟩ nr M hr w') r v) a.defers w' := by
      refine dU h2 c1 c4 fun w2 d1 d2 => ?_
      obtain ⟨u, k1, k2⟩ := h3.run tb d1 (fun t av ht => Rep.ext d2 _ _ (c3 t av ht))
      obtain ⟨M', k3, k4⟩ := h4 w ok M w2 u d1 k1
      exact ⟨u, k2, u, M', rfl, k3, k4⟩
    rcases h1 with rfl | rfl <;> exact this

theorem AC.args {P : Program} {f : FuncId} {args args' : List CV} {r : AV} {hr : Heap} {nr : Nat} (h : AC P f args r hr nr) (hc : CvL args' args) : AC P f args' r hr nr := fun ok w vs hvs => h ok w vs (hc ok w vs hvs)
mutual
def AV.sh (k : Nat) : AV → AV
  | .c x => .c x
  | .ip cs off => .ip cs off
  | .junk => .junk
  | .ref id off => .ref (k + id) off
  | .own id off n size full => .own (k + id) off n size full
  | .agg xs => .agg (AV.shs k xs)
  | .tup xs => .tup (AV.shs k xs)
  | .fn f xs => .fn f (AV.shs k xs)
  | .yld id => .yld (k + id)
  | .mh id => .mh (k + id)
def AV.shs (k : Nat) : List AV → List AV
  | [] => []
  | x :: xs => AV.sh k x :: AV.shs k xs
end
structure Shf (k : Nat) (C C' : Cx) : Prop where
  dom : ∀ id, C.dom id → C'.dom (k + id) ∧ C'.M (k + id) = C.M id
  ok : Keeps C.ok C'.ok C.w C'.w
  shape : ∀ b x, C.w.shape? b = some x → C'.w.shape? b = some x
mutual
theorem Rep.sh {k : Nat} {C C' : Cx} (h : Shf k C C') : ∀ (x : AV) (u : Value), Rep C x u → Rep C' (x.sh k) u
  | .c x, u, hu => by simp only [Rep, AV.sh] at hu ⊢; exact RepC.mono h.ok x u hu
  | .ref id off, u, hu => by
    simp only [Rep, AV.sh] at hu ⊢
    obtain ⟨hd, g, hg, hu⟩ := hu
    obtain ⟨k1, k2⟩ := h.dom id hd
    exact ⟨k1, g, k2.trans hg, hu⟩
  | .own id off n size full, u, hu => by
    simp only [Rep, AV.sh] at hu ⊢
    obtain ⟨hd, hu⟩ := hu
    obtain ⟨k1, k2⟩ := h.dom id hd
    refine ⟨k1, ?_⟩
    rcases hu with ⟨h1, h2, h3, h4⟩ | ⟨g, cp, h1, h2, h3, h4, h5⟩ | h6
    · exact .inl ⟨h1, h2, k2.trans h3, h4⟩
    · exact .inr (.inl ⟨g, cp, k2.trans h1, h2, h3, h4, fun hf => let ⟨e, he⟩ := h5 hf; ⟨e, h.shape _ _ he⟩⟩)
    · exact .inr (.inr h6)
  | .ip cs off, u, hu => by
    simp only [Rep, AV.sh] at hu ⊢
    obtain ⟨b, o, us, h1, h2, h3, h4, h6, h5⟩ := hu
    obtain ⟨k1, k2, k3⟩ := h.ok b h2 h3
    exact ⟨b, o, us, h1, k1, k2, RepCs.mono h.ok cs us h4, h6, fun j x hx => by rw [World.cell?_of_block (w := C.w) k3]; exact h5 j x hx⟩
  | .agg xs, u, hu => by
    simp only [Rep, AV.sh] at hu ⊢
    obtain ⟨us, h1, h2⟩ := hu
    exact ⟨us, h1, RepL.sh h xs us h2⟩
  | .tup xs, u, hu => by
    simp only [Rep, AV.sh] at hu ⊢
    obtain ⟨us, h1, h2⟩ := hu
    exact ⟨us, h1, RepL.sh h xs us h2⟩
  | .fn f caps, u, hu => by
    simp only [Rep, AV.sh] at hu ⊢
    obtain ⟨us, h1, h2⟩ := hu
    exact ⟨us, h1, RepL.sh h caps us h2⟩
  | .yld id, u, hu => by
    simp only [Rep, AV.sh] at hu ⊢
    obtain ⟨hd, g, hg, hu⟩ := hu
    obtain ⟨k1, k2⟩ := h.dom id hd
    exact ⟨k1, g, k2.trans hg, hu⟩
  | .mh id, u, hu => by
    simp only [Rep, AV.sh] at hu ⊢
    obtain ⟨hd, g, hg, hu⟩ := hu
    obtain ⟨k1, k2⟩ := h.dom id hd
    exact ⟨k1, g, k2.trans hg, hu⟩
  | .junk, u, hu => by simp only [Rep, AV.sh]
theorem RepL.sh {k : Nat} {C C' : Cx} (h : Shf k C C') : ∀ (xs : List AV) (us : List Value), RepL C xs us → RepL C' (AV.shs k xs) us
  | [], us, hu => by simpa [RepL, AV.shs] using hu
  | c :: cs, us, hu => by
    simp only [RepL, AV.shs] at hu ⊢
    obtain ⟨u, us', h1, h2, h3⟩ := hu
    exact ⟨u, us', h1, Rep.sh h c u h2, RepL.sh h cs us' h3⟩
end
theorem RepM.sh {k : Nat} {C C' : Cx} (h : Shf k C C') : ∀ (es : List (CV × AV)) (ms : List MapEntry), RepM C es ms → RepM C' (es.map fun p => (p.1, p.2.sh k)) ms
  | [], ms, hu => hu
  | e :: es, ms, hu => by
    obtain ⟨m, ms', h1, h2, h3, h4⟩ := hu
    exact ⟨m, ms', h1, RepC.mono h.ok _ _ h2, Rep.sh h _ _ h3, RepM.sh h es ms' h4⟩
def AObj.sh (k : Nat) : AObj → AObj
  | .blk T cs => .blk T (AV.shs k cs)
  | .row T cs => .row T cs
  | .lp b sz L sl xs => .lp b sz L sl (AV.shs k xs)
  | .dfr b => .dfr b
  | .tab es => .tab (es.map fun p => (p.1, p.2.sh k))
  | .dead => .dead
def shH (k : Nat) : Heap → Heap
  | [] => []
  | p :: r => (k + p.1, p.2.sh k) :: shH k r
theorem uB {k : Nat} : ∀ {h : Heap} {id : Nat}, lk (shH k h) (k + id) = (lk h id).map (AObj.sh k)
  | [], id => rfl
  | p :: r, id => by
    obtain ⟨i, o⟩ := p
    rw [shH, bD, bD]
    by_cases hi : i = id
    · subst hi; cases o <;> simp [AObj.sh, AObj.live]
    · rw [if_neg (by omega), if_neg hi]; exact uB
theorem wY {k : Nat} : ∀ {h : Heap}, ∀ p ∈ shH k h, k ≤ p.1
  | [], p, hp => by cases hp
  | q :: r, p, hp => by
    rw [shH] at hp
    rcases List.mem_cons.1 hp with rfl | hp
    · simp
    · exact wY p hp
def covB (hr : Heap) (nr : Nat) : Bool := hr.all (fun p => Nat.blt p.1 nr) && (List.range nr).all fun i => (lk hr i).isSome
theorem covB_lt : ∀ {hr : Heap} {nr id : Nat}, hr.all (fun p => Nat.blt p.1 nr) = true → (lk hr id).isSome = true → id < nr
  | [], nr, id, _, h => by cases h
  | p :: r, nr, id, ha, h => by
    obtain ⟨i, o⟩ := p
    simp only [List.all_cons, Bool.and_eq_true, Nat.blt_eq] at ha
    rw [bD] at h
    split at h
    · rename_i e; subst e; exact ha.1
    · exact covB_lt (by simpa using ha.2) h
theorem mZ {hr : Heap} {nr : Nat} (h : covB hr nr = true) (id : Nat) : id < nr ↔ (lk hr id).isSome = true := by
  simp only [covB, Bool.and_eq_true] at h
  constructor
  · intro hid
    exact List.all_eq_true.1 h.2 id (List.mem_range.2 hid)
  · exact covB_lt h.1

section call
variable {P : Program} {ev : Evl} {h : Heap} {d : Option Tmp} {ty : TypeId} {pos : String} {aft : Array Edge} {gd : Option (Nat × Bool)} {i : Nat} {f : FuncId} {xs : List Operand} {ats : Array TypeId} {r : AV} {hr : Heap} {nr : Nat}

theorem kI {cs cs' : List CV} (hb : Body P f) (hx : argsC ev xs = some cs) (hac : AC P f cs' r hr nr) (hcv : CvL cs cs') (hcov : covB hr nr = true) :
    Adds P ⟨d, .call ⟨.value (.func f), xs.toArray, ats⟩, ty, pos, aft, gd⟩ ev h (r.sh i) (shH i hr) i (i + nr) := by
  intro B dom M H w a K Q hh hn hc he hK
  have hargs : RepCs (okOf B dom M H) w cs (xs.map a.eval) := RepL.toC (C := ⟨dom, M, okOf B dom M H, w⟩) (eI he (by rw [fU hx, List.map_map]; rfl))
  unfold Oper.wp execOp
  simp only [resolve, Deferred.ofValue, Act.eval, invoke, Sem.run_bind, Sem.run_pure, Result.andThen_ok, List.map_toArray, Array.append_empty, Body.run hb, Oper.upon]
  rw [show (#[] ++ (List.map a.eval xs).toArray : Array Value) = (List.map a.eval xs).toArray by simp]
  refine (hac _ w _ (hcv _ _ _ hargs)).mono ?_
  rintro e w' ⟨v, Mc, rfl, hcc, hv⟩
  simp only
  have hbl := hcc.fr.below
  let M' : Nat → Option Nat := fun id => if i ≤ id ∧ id < i + nr then Mc (id - i) else M id
  have hM1 : ∀ id, dom id → M' id = M id := fun id hid => by
    have : ¬ (i ≤ id ∧ id < i + nr) := fun h => (hn id h.1 h.2).1 hid
    simp [M', this]
  have hM2 : ∀ id, id < nr → M' (i + id) = Mc id := fun id hid => by
    have : i ≤ i + id ∧ i + id < i + nr := by omega
    simp [M', this]
  have hH : ∀ id, id < nr → H (i + id) = (lk hr id).map (AObj.sh i) := fun id hid => by
    rw [(hn (i + id) (by omega) (by omega)).2, uB]
  have hsplit : ∀ id, i ≤ id → id < i + nr → ∃ k, id = i + k ∧ k < nr := fun id h1 h2 => ⟨id - i, by omega, by omega⟩
  have hobj : ∀ k, k < nr → ∃ o, lk hr k = some o ∧ H (i + k) = some (o.sh i) := fun k hk => by
    have := (mZ hcov k).1 hk
    obtain ⟨o, ho⟩ := Option.isSome_iff_exists.1 this
    exact ⟨o, ho, by rw [hH k hk, ho]; rfl⟩
  have hnew : ∀ k g, k < nr → Mc k = some g → w.heap.size ≤ g := fun k g hk hg => by
    obtain ⟨o, ho, _⟩ := hobj k hk
    rcases hcc.lo k o g hk ho hg with h1 | h1
    · exact h1
    · cases h1
  have hshf : Ext ⟨dom, M, okOf B dom M H, w⟩ ⟨ad dom i (i + nr), M', okOf B (ad dom i (i + nr)) M' H, w'⟩ → Shf i (cx ⟨w, [], okOf B dom M H, []⟩ nr Mc hr w') ⟨ad dom i (i + nr), M', okOf B (ad dom i (i + nr)) M' H, w'⟩ := fun hext => by
    refine ⟨fun id hid => ⟨.inr ⟨by omega, by simp only [cx, lt] at hid; omega⟩, hM2 id hid⟩, fun b hb hl => ⟨?_, hl, rfl⟩, fun _ _ h => h⟩
    obtain ⟨hb1, hb2⟩ := hb
    refine ⟨?_, fun id o hid hH' he' => ?_⟩
    · rcases hb1 with hb1 | hb1 | hb1
      · exact hb1.1
      · exact .inr (.inl (Nat.le_trans hc.fr.size hb1))
      · cases hb1
    · rcases hid with hid | ⟨h1, h2⟩
      · have e1 := (hM1 id hid).symm.trans he'
        rcases hb1 with hb1 | hb1 | hb1
        · exact hb1.2 id o hid hH' e1
        · have := (hc.obj id o hid hH').lt b e1
          simp only at this hb1
          omega
        · cases hb1
      · obtain ⟨k, rfl, hk⟩ := hsplit id h1 h2
        obtain ⟨o', ho', _⟩ := hobj k hk
        exact hb2 k o' hk ho' ((hM2 k hk).symm.trans he')
  have hg := hc.grow hbl i (i + nr) (M' := M') hM1 (fun id h1 h2 => (hn id h1 h2).1)
    (fun id o h1 h2 h3 g hg => by
      obtain ⟨k, rfl, hk⟩ := hsplit id h1 h2
      exact hnew k g hk ((hM2 k hk).symm.trans hg))
    (fun id id' o o' g h1 h2 h3 h4 h5 h6 h7 h8 => by
      obtain ⟨k, rfl, hk⟩ := hsplit id h1 h2
      obtain ⟨k', rfl, hk'⟩ := hsplit id' h3 h4
      obtain ⟨q, hq, _⟩ := hobj k hk
      obtain ⟨q', hq', _⟩ := hobj k' hk'
      rw [hcc.inj k k' q q' g hk hk' hq hq' ((hM2 k hk).symm.trans h7) ((hM2 k' hk').symm.trans h8)])
    (fun hext id o h1 h2 h3 => by
      obtain ⟨k, rfl, hk⟩ := hsplit id h1 h2
      obtain ⟨q, hq, hq2⟩ := hobj k hk
      rw [hq2] at h3
      injection h3 with h3
      subst h3
      rw [hM2 k hk]
      have := hcc.obj k q hk hq
      cases q with
      | blk T cs =>
        obtain ⟨g, us, k1, k2, k3⟩ := this
        exact ⟨g, us, k1, k2, RepL.sh (hshf hext) _ _ k3⟩
      | row T cs =>
        rcases this with k1 | ⟨g, us, vs, k1, k2, k3, k4⟩
        · exact .inl k1
        · exact .inr ⟨g, us, vs, k1, k2, RepCs.mono (hshf hext).ok _ _ k3, k4⟩
      | lp b sz L sl xs =>
        obtain ⟨g, r, k1, h2, h3, h4, h5, h6, h7, h8, h9⟩ := this
        exact ⟨g, r, k1, h2, h3, h4, h5, h6, h7, h8, RepL.sh (hshf hext) _ _ h9⟩
      | dfr b => exact this
      | tab es =>
        obtain ⟨g, ms, t, k1, k2, k3⟩ := this
        exact ⟨g, ms, t, k1, k2, k3.1, RepM.sh (hshf hext) _ _ k3.2⟩
      | dead => exact this.elim)
  exact hK v w' M' hg.2 hg.1 (Rep.sh (hshf hg.2) _ _ hv)
end call

section
variable {P : Program} {sz n : Nat} {env : Env} {h : Heap} {dfs : Defs} {K : AK} {ops : Array Oper} {rest : List Oper} {d : Option Tmp} {ty : TypeId} {pos : String} {aft : Array Edge} {gd : Option (Nat × Bool)} {f : FuncId} {xs : List Operand} {ats : Array TypeId} {r : AV} {hr : Heap} {nr : Nat}
theorem uY {cs cs' : List CV} (hg : guardA ops env ⟨d, .call ⟨.value (.func f), xs.toArray, ats⟩, ty, pos, aft, gd⟩ true) (hd : dstOk d sz = true) (hb : Body P f) (hx : argsC (evA env) xs = some cs) (hac : AC P f cs' r hr nr) (hcv : CvL cs cs') (hcov : covB hr nr = true)
    (next : AWL P ops sz rest K (n + nr) (putE env d (r.sh n)) (shH n hr ++ h) dfs) : AWL P ops sz (⟨d, .call ⟨.value (.func f), xs.toArray, ats⟩, ty, pos, aft, gd⟩ :: rest) K n env h dfs :=
  lV hg hd (Nat.le_add_right _ _) (kI hb hx hac hcv hcov) (fun id h1 h2 => by
    have := (mZ hcov (id - n)).1 (by omega)
    obtain ⟨o, ho⟩ := Option.isSome_iff_exists.1 this
    rw [show id = n + (id - n) by omega, uB, ho]; rfl) wY next
end
end Go.Av
namespace Go.Av
open Go Go.RowKit

def sizeF (tab : Tab) (E : TypeId) : Option Nat := match tyLook tab E with | some ⟨size, _, _, _⟩ => some size | none => none
section ops
variable {P : Program} {tab : Tab} {ev : Evl} {h : Heap} {d : Option Tmp} {T ty : TypeId} {x y z : Operand} {pos : String} {aft : Array Edge} {gd : Option (Nat × Bool)} {i : Nat}

theorem own_some {C : Cx} {id off n size : Nat} {full : Bool} {u : Value} (h : Rep C (.own id off n size full) u) (hn : 0 < n) : C.dom id ∧ ∃ g cp, C.M id = some g ∧ u = .slice (some ⟨g, off, none⟩) n cp ∧ n ≤ cp ∧ cp ≤ maxLen ∧ (full = true → ∃ e, C.w.shape? g = some (e, off + cp * size)) := by
  simp only [Rep] at h
  obtain ⟨hd, ⟨h1, _⟩ | h2 | ⟨h3, _⟩⟩ := h
  · omega
  · exact ⟨hd, h2⟩
  · omega

section index
variable {e e' : TyE} {k : IntKind} {j : Int} {m : Nat} (tb : TabOk P tab) (hT : tyLook tab T = some e) (hy : ev y = some (.c (.v (.int k j)))) (hj : j = (m : Int))
include tb hT hy hj
theorem s_ixC {E n size : Nat} {cs : List CV} (hk : e.kind = .slice E) (hE : tyLook tab E = some e') (hs : Nat.beq e'.size size = true) (hx : ev x = some (.c (.sl size n cs))) (hm : m < n) : Still P ⟨d, .indexAddr T x y, ty, pos, aft, gd⟩ ev h (.ip cs (m * size)) := by
  intro B dom M H w a hh hc he
  have h1 := he x _ hx
  have h2 := he y _ hy
  simp only [Rep, RepC] at h1 h2
  obtain ⟨A, c, us, h3, h4, h5, h6, h7, h70, h8⟩ := h1
  obtain ⟨b, o, rfl, hb, hl, hcell⟩ := h8 (by omega)
  refine ⟨.pointer (some ⟨b, o + m * size, none⟩), ?_, b, o, us, rfl, hb, hl, h7, h70, hcell⟩
  have hsz := (aS tb hE).sizeOf w
  rw [Nat.eq_of_beq_eq_true hs] at hsz
  subst hj
  have q1 : (0 : Int) ≤ (m : Int) ∧ (m : Int) < (n : Int) := by omega
  simp [execOp, Instr.indexAt, h2, h3, asIntOf, Sem.run_bind, run_underlying ((aS tb hT).slice hk), hm, hsz, gG]
theorem s_ixO {E id off n size : Nat} {full : Bool} (hk : e.kind = .slice E) (hE : tyLook tab E = some e') (hs : Nat.beq e'.size size = true) (hx : ev x = some (.own id off n size full)) (hm : m < n) : Still P ⟨d, .indexAddr T x y, ty, pos, aft, gd⟩ ev h (.ref id (off + m * size)) := by
  intro B dom M H w a hh hc he
  obtain ⟨hd, g, cp, h1, h3, _⟩ := own_some (he x _ hx) (by omega)
  have h2 := he y _ hy
  simp only [Rep, RepC] at h2
  refine ⟨.pointer (some ⟨g, off + m * size, none⟩), ?_, hd, g, h1, rfl⟩
  have hsz := (aS tb hE).sizeOf w
  rw [Nat.eq_of_beq_eq_true hs] at hsz
  subst hj
  simp [execOp, Instr.indexAt, h2, h3, asIntOf, Sem.run_bind, run_underlying ((aS tb hT).slice hk), hm, hsz, gG]
theorem aQ {s : ByteArray} {b : UInt8} (hk : e.kind = .str) (hx : ev x = some (.c (.v (.string s)))) (hv : s.data[m]? = some b) : Still P ⟨d, .index T x y, ty, pos, aft, gd⟩ ev h (.c (.v (.int .u8 b.toNat))) := by
  intro B dom M H w a hh hc he
  have h1 := he x _ hx
  have h2 := he y _ hy
  simp only [Rep, RepC] at h1 h2
  refine ⟨.int .u8 b.toNat, ?_, rfl⟩
  subst hj
  have hlt : m < s.size := (Array.getElem?_eq_some_iff.1 hv).1
  have hb : s[m] = b := (Array.getElem?_eq_some_iff.1 hv).2
  have hb' : s[m]? = some b := by rw [getElem?_pos s m hlt, hb]
  simp [execOp, Instr.index, h1, h2, asIntOf, Sem.run_bind, run_underlying ((aS tb hT).str hk), hb']
end index

inductive Bd (ev : Evl) (dflt : Nat) : Option Operand → Nat → Prop
  | no : Bd ev dflt none dflt
  | yes {x : Operand} {k : IntKind} {j : Int} {m : Nat} (hx : ev x = some (.c (.v (.int k j)))) (hj : j = (m : Int)) : Bd ev dflt (some x) m

theorem Bd.run {dflt m y : Nat} {lo : Option Operand} {C : Cx} {a : Act} {w : World} (hb : Bd ev dflt lo m) (he : ∀ x av, ev x = some av → Rep C av (a.eval x)) (code : BoundsCode) (hm : m ≤ y) :
    (match lo.map a.eval with | some v => Instr.sliceBound v y code | none => (pure dflt : Sem Nat)).run P w = .ok m w := by
  cases hb with
  | no => rfl
  | yes hx hj =>
    have h1 := he _ _ hx
    simp only [Rep, RepC] at h1
    subst hj
    have : (0 : Int) ≤ (m : Int) ∧ (m : Int) ≤ (y : Int) := by omega
    simp [h1, Instr.sliceBound, asIntOf, hm]

theorem lM {n c l r : Nat} {lo hi : Option Operand} {C : Cx} {a : Act} {w : World} (b : Bool) (he : ∀ x av, ev x = some av → Rep C av (a.eval x)) (hlo : Bd ev 0 lo l) (hhi : Bd ev n hi r) (hlr : l ≤ r) (hrc : r ≤ c) :
    (Instr.sliceBounds b n c (lo.map a.eval) (hi.map a.eval) none).run P w = .ok (l, r, c) w := by
  have h1 := hlo.run (P := P) (w := w) (y := r) he .sliceB hlr
  have h2 := hhi.run (P := P) (w := w) (y := c) he (if b then .sliceAcap else .sliceAlen) hrc
  unfold Instr.sliceBounds
  simp only [Sem.run_bind, Sem.run_pure, Result.andThen_ok]
  cases hi with
  | none =>
    cases hhi
    cases lo with
    | none => cases hlo; simp
    | some q => simp only [Option.map_some] at h1 ⊢; simp [h1]
  | some p =>
    simp only [Option.map_some] at h2 ⊢
    cases lo with
    | none => cases hlo; simp [h2]
    | some q => simp only [Option.map_some] at h1 ⊢; simp [h1, h2]

section slice
variable {e e' : TyE} {E n l r size : Nat} {lo hi : Option Operand} (tb : TabOk P tab) (hT : tyLook tab T = some e) (hk : e.kind = .slice E) (hE : tyLook tab E = some e') (hs : Nat.beq e'.size size = true) (hlo : Bd ev 0 lo l) (hhi : Bd ev n hi r) (hlr : l ≤ r) (hr : r ≤ n)
include tb hT hk hE hs hlo hhi hlr hr
theorem s_slC {cs ys : List CV} (hx : ev x = some (.c (.sl size n cs))) (hys : (cs.drop (l * size)).take ((r - l) * size) = ys) : Still P ⟨d, .slice T x lo hi none, ty, pos, aft, gd⟩ ev h (.c (.sl size (r - l) ys)) := by
  intro B dom M H w a hh hc he
  have h1 := he x _ hx
  simp only [Rep, RepC] at h1
  obtain ⟨A, c, us, h3, h4, h5, h6, h7, h70, h8⟩ := h1
  have hb := lM (P := P) (w := w) (c := c) true he hlo hhi hlr (by omega)
  have hsz := (aS tb hE).sizeOf w
  rw [Nat.eq_of_beq_eq_true hs] at hsz
  have h9 := (h7.drop (l * size)).take ((r - l) * size)
  rw [hys] at h9
  have hmul : (r - l) * size + l * size ≤ n * size := by
    rw [← Nat.add_mul]; exact Nat.mul_le_mul_right _ (by omega)
  refine ⟨.slice (if c = l then A else A.map (·.add (l * size))) (r - l) (c - l), ?_, _, _, (us.drop (l * size)).take ((r - l) * size), rfl, by omega, by omega, ?_, h9, fun u hu => h70 u (List.mem_of_mem_drop (List.mem_of_mem_take hu)), fun hn => ?_⟩
  · have hund := (aS tb hT).slice hk
    simp [execOp, Instr.sliceAt, Instr.slice, h3, Sem.run_bind, run_underlying hund, hb, hsz]
  · rw [← hys, List.length_take, List.length_drop, h6]
    omega
  · obtain ⟨b, o, rfl, hb1, hl1, hcell⟩ := h8 (by omega)
    refine ⟨b, o + l * size, by rw [if_neg (by omega)]; simp [gG], hb1, hl1, fun j u hj => ?_⟩
    have hjk : j < (r - l) * size := by
      rcases Nat.lt_or_ge j ((r - l) * size) with h1 | h1
      · exact h1
      · rw [List.getElem?_eq_none (by rw [List.length_take]; omega)] at hj; cases hj
    rw [List.getElem?_take_of_lt hjk, List.getElem?_drop] at hj
    rw [Nat.add_assoc]
    exact hcell _ u hj
theorem s_slO {id off : Nat} {full : Bool} (hx : ev x = some (.own id off n size full)) : Still P ⟨d, .slice T x lo hi none, ty, pos, aft, gd⟩ ev h (.own id (off + l * size) (r - l) size false) := by
  intro B dom M H w a hh hc he
  have h1 := he x _ hx
  have hsz := (aS tb hE).sizeOf w
  rw [Nat.eq_of_beq_eq_true hs] at hsz
  have hund := (aS tb hT).slice hk
  simp only [Rep] at h1
  obtain ⟨hd, h1⟩ := h1
  have key : ∀ A c, a.eval x = .slice A n c → n ≤ c → (execOp a.eval ⟨d, .slice T x lo hi none, ty, pos, aft, gd⟩).run P w = .ok (.value (.slice (if c = l then A else A.map (·.add (l * size))) (r - l) (c - l))) w := fun A c h3 h4 => by
    have hb := lM (P := P) (w := w) (c := c) true he hlo hhi hlr (by omega)
    simp [execOp, Instr.sliceAt, Instr.slice, h3, Sem.run_bind, run_underlying hund, hb, hsz]
  rcases h1 with ⟨h1, h2, h3, h4⟩ | ⟨g, cp, h1, h2, h3, h4, h5⟩ | ⟨h1, h2, A, cp, h3, h4⟩
  · subst h1
    obtain rfl : l = 0 := by omega
    obtain rfl : r = 0 := by omega
    refine ⟨_, key none 0 h4 (Nat.le_refl _), hd, .inr (.inr ⟨rfl, rfl, none, 0, ?_, by simp [maxLen]⟩)⟩
    simp
  · by_cases hlr' : l < r
    · refine ⟨_, key _ cp h2 h3, hd, .inr (.inl ⟨g, cp - l, h1, ?_, by omega, by omega, by simp⟩)⟩
      rw [if_neg (by omega)]
      simp [gG]
    · refine ⟨_, key _ cp h2 h3, hd, .inr (.inr ?_)⟩
      rw [show r - l = 0 by omega]
      exact ⟨rfl, rfl, _, _, rfl, by omega⟩
  · subst h1
    obtain rfl : l = 0 := by omega
    obtain rfl : r = 0 := by omega
    exact ⟨_, key A cp h3 (Nat.zero_le _), hd, .inr (.inr ⟨rfl, rfl, _, _, rfl, by omega⟩)⟩
end slice
theorem zY {e e' : TyE} {E n r size id off : Nat} {hi : Option Operand} (tb : TabOk P tab) (hT : tyLook tab T = some e) (hk : e.kind = .slice E) (hE : tyLook tab E = some e') (hs : Nat.beq e'.size size = true) (hhi : Bd ev n hi r) (hr : r ≤ n) {full : Bool} (hx : ev x = some (.own id off n size full)) (hfull : full = true) : Still P ⟨d, .slice T x none hi none, ty, pos, aft, gd⟩ ev h (.own id off r size true) := by
  intro B dom M H w a hh hc he
  have h1 := he x _ hx
  have hsz := (aS tb hE).sizeOf w
  rw [Nat.eq_of_beq_eq_true hs] at hsz
  have hund := (aS tb hT).slice hk
  simp only [Rep] at h1
  obtain ⟨hd, h1⟩ := h1
  have key : ∀ A c, a.eval x = .slice A n c → n ≤ c → (execOp a.eval ⟨d, .slice T x none hi none, ty, pos, aft, gd⟩).run P w = .ok (.value (.slice A r c)) w := fun A c h3 h4 => by
    have hb := lM (P := P) (w := w) (c := c) (l := 0) true he Bd.no hhi (Nat.zero_le _) (by omega)
    simp only [Option.map_none] at hb
    simp [execOp, Instr.sliceAt, Instr.slice, h3, Sem.run_bind, run_underlying hund, hb, hsz]
    cases A with
    | none => simp
    | some p => simp [Addr.add]
  rcases h1 with ⟨h1, h2, h3, h4⟩ | ⟨g, cp, h1, h2, h3, h4, h5⟩ | ⟨h1, h2, _⟩
  · subst h1
    obtain rfl : r = 0 := by omega
    exact ⟨_, key none 0 h4 (Nat.le_refl _), hd, .inl ⟨rfl, h2, h3, rfl⟩⟩
  · exact ⟨_, key _ cp h2 h3, hd, .inr (.inl ⟨g, cp, h1, rfl, by omega, h4, fun _ => h5 hfull⟩)⟩
  · rw [hfull] at h2; cases h2
theorem zV {e : TyE} {E n size : Nat} {cs : List CV} (tb : TabOk P tab) (hT : tyLook tab T = some e) (hk : e.kind = .slice E) (hx : ev x = some (.c (.sl size n cs))) : Still P ⟨d, .call ⟨.builtin .len, #[x], #[T]⟩, ty, pos, aft, gd⟩ ev h (.c (.v (.int .i64 n))) := by
  intro B dom M H w a hh hc he
  have h1 := he x _ hx
  simp only [Rep, RepC] at h1
  obtain ⟨A, c, us, h3, _⟩ := h1
  refine ⟨_, ?_, rfl⟩
  simp [execOp, resolve, invoke, builtin, Builtin.len_, h3, run_underlying ((aS tb hT).slice hk), goInt]
theorem zW {e : TyE} {E id off n size : Nat} {full : Bool} (tb : TabOk P tab) (hT : tyLook tab T = some e) (hk : e.kind = .slice E) (hx : ev x = some (.own id off n size full)) : Still P ⟨d, .call ⟨.builtin .len, #[x], #[T]⟩, ty, pos, aft, gd⟩ ev h (.c (.v (.int .i64 n))) := by
  intro B dom M H w a hh hc he
  have h1 := he x _ hx
  have : ∃ A c, a.eval x = .slice A n c := by
    simp only [Rep] at h1
    obtain ⟨_, ⟨h1, _, _, h4⟩ | ⟨g, cp, _, h2, _⟩ | ⟨h1, _, A, cp, h3, _⟩⟩ := h1
    · exact ⟨none, 0, by rw [h4, h1]⟩
    · exact ⟨_, _, h2⟩
    · exact ⟨A, cp, by rw [h3, h1]⟩
  obtain ⟨A, c, h3⟩ := this
  refine ⟨_, ?_, rfl⟩
  simp [execOp, resolve, invoke, builtin, Builtin.len_, h3, run_underlying ((aS tb hT).slice hk), goInt]
theorem zX {e : TyE} {s : ByteArray} (tb : TabOk P tab) (hT : tyLook tab T = some e) (hk : e.kind = .str) (hx : ev x = some (.c (.v (.string s)))) : Still P ⟨d, .call ⟨.builtin .len, #[x], #[T]⟩, ty, pos, aft, gd⟩ ev h (.c (.v (.int .i64 s.size))) := by
  intro B dom M H w a hh hc he
  have h1 := he x _ hx
  simp only [Rep, RepC] at h1
  refine ⟨_, ?_, rfl⟩
  simp [execOp, resolve, invoke, builtin, Builtin.len_, h1, run_underlying ((aS tb hT).str hk), goInt]
theorem kW {k : IntKind} {p q r : Int} {ts : Array TypeId} (hx : ev x = some (.c (.v (.int k p)))) (hy : ev y = some (.c (.v (.int k q)))) (hr : (if q < p then q else p) = r) : Still P ⟨d, .call ⟨.builtin .min, #[x, y], ts⟩, ty, pos, aft, gd⟩ ev h (.c (.v (.int k r))) := by
  intro B dom M H w a hh hc he
  have h1 := he x _ hx
  have h2 := he y _ hy
  simp only [Rep, RepC] at h1 h2
  refine ⟨_, ?_, rfl⟩
  subst hr
  simp [execOp, resolve, invoke, builtin, Builtin.min_, Builtin.min2, h1, h2]
theorem tS {T' : TypeId} {s t : ByteArray} {b : Bool} (hx : ev x = some (.c (.v (.string s)))) (hy : ev y = some (.c (.v (.string t)))) (hr : decide (s.toList = t.toList) = b) : Still P ⟨d, .binOp .eql T x y T', ty, pos, aft, gd⟩ ev h (.c (.v (.bool b))) :=
  fJ hx hy nD (fun w => by
    have : (s.toList == t.toList) = decide (s.toList = t.toList) := by rw [Bool.eq_iff_iff]; simp
    subst hr; simp only [binOp, Op.stringOp, this]; rfl)
theorem tW {T' : TypeId} {s t : ByteArray} {b : Bool} (hx : ev x = some (.c (.v (.string s)))) (hy : ev y = some (.c (.v (.string t)))) (hr : (!decide (s.toList = t.toList)) = b) : Still P ⟨d, .binOp .neq T x y T', ty, pos, aft, gd⟩ ev h (.c (.v (.bool b))) :=
  fJ hx hy nD (fun w => by
    have : (s.toList == t.toList) = decide (s.toList = t.toList) := by rw [Bool.eq_iff_iff]; simp
    subst hr; simp only [binOp, Op.stringOp, this]; rfl)
theorem tU {T' : TypeId} {e : TyE} {p q b : Bool} (tb : TabOk P tab) (hT : tyLook tab T = some e) (hk : e.kind = .bool) (hx : ev x = some (.c (.v (.bool p)))) (hy : ev y = some (.c (.v (.bool q)))) (hr : (!(p == q)) = b) : Still P ⟨d, .binOp .neq T x y T', ty, pos, aft, gd⟩ ev h (.c (.v (.bool b))) :=
  fJ hx hy zF (fun w => by subst hr; simp [binOp, run_equal_bool w T p q ((aS tb hT).bool hk)])

def u8c (l : List UInt8) : List CV := l.map fun b => .v (.int .u8 b.toNat)
theorem cZ (l : List UInt8) : (u8c l).length = l.length := by simp [u8c]
theorem gD (a b : List UInt8) : u8c (a ++ b) = u8c a ++ u8c b := by simp [u8c]
theorem qY (a : List UInt8) (k : Nat) : (u8c a).take k = u8c (a.take k) := by simp [u8c]
theorem qX (a : List UInt8) (k : Nat) : (u8c a).drop k = u8c (a.drop k) := by simp [u8c]
theorem sW (l : List UInt8) : u8c l = (l.map fun b => Value.int .u8 b.toNat).map CV.v := by simp [u8c]
theorem u8c_get {l : List UInt8} {j : Nat} {b : UInt8} (h : l[j]? = some b) : (u8c l)[j]? = some (.v (.int .u8 b.toNat)) := by simp [u8c, h]
def intc (k : IntKind) (l : List Int) : List CV := l.map fun n => .v (.int k n)
theorem nX (k : IntKind) (l : List Int) : (intc k l).length = l.length := by simp [intc]
theorem run_tostr {w : World} {src E dst : TypeId} (hs : P.underlying src = some (.slice E)) (he : P.underlying E = some (.int .u8)) (hd : P.underlying dst = some .string) {ok : Nat → Prop} {l : List UInt8} {n : Nat} {u : Value} (hu : RepC ok w (.sl 1 n (u8c l)) u) :
    (convert src dst u).run P w = .ok (.string ⟨l.toArray⟩) w := by
  simp only [RepC] at hu
  obtain ⟨A, c, us, rfl, h2, h3, h4, h5, _, h6⟩ := hu
  rw [sW] at h5
  have h5 := h5.of_plain
  subst h5
  have hlen : l.length = n := by simpa [u8c] using h4
  rcases Nat.eq_zero_or_pos n with h0 | h0
  · subst h0
    obtain rfl : l = [] := List.eq_nil_of_length_eq_zero hlen
    rcases A with _ | ad
    · rw [run_convert_bytes_nil w src E hs he 0 c dst hd]; rfl
    · rw [run_convert_bytes_string w src dst E _ 0 c hs he hd]
      simp [Conv.bytesToString, loadCells, loadCellsFrom]
      rfl
  · obtain ⟨b, o, rfl, _, _, hc⟩ := h6 h0
    have := run_convert_bytes_arg (P := P) w src E hs he b o n c (l.map fun b => (b.toNat : Int)) (by simpa using hlen) (fun i hi => by
      rw [hc i (.int .u8 (l[i]'(by omega)).toNat) (by simp [List.getElem?_eq_getElem (show i < l.length by omega)])]
      simp [List.getD, List.getElem?_eq_getElem (show i < l.length by omega)]) dst hd
    rw [this]
    congr 2
    simp only [strOfNums]
    congr 1
    simp only [List.map_map, Array.mk.injEq]
    have : ((fun n : Int => UInt8.ofNat n.toNat) ∘ fun b : UInt8 => (b.toNat : Int)) = id := by
      funext b
      simp
    rw [this, List.map_id]
theorem tY {S : TypeId} {e e' es : TyE} {E n : Nat} {v : AV} {l : List UInt8} (tb : TabOk P tab) (hS : tyLook tab S = some es) (hks : es.kind = .slice E) (hE : tyLook tab E = some e') (hke : e'.kind = .int .u8) (hT : tyLook tab T = some e) (hk : e.kind = .str) (hx : ev x = some v) (hf : Frz [] h v (.sl 1 n (u8c l))) : Still P ⟨d, .convert S T x, ty, pos, aft, gd⟩ ev h (.c (.v (.string ⟨l.toArray⟩))) := by
  intro B dom M H w a hh hc he
  have h1 := hf B dom M H w _ hh (by simp) hc (he x _ hx)
  refine ⟨_, ?_, rfl⟩
  have := run_tostr (P := P) ((aS tb hS).slice hks) ((aS tb hE).int hke) ((aS tb hT).str hk) h1
  simp [execOp, this]

theorem rW {op : BinOp} {xs ys : Array Value} (w : World) (hg : P.eqGuardType P.depth T = false) : (eqGuard op T x y (.agg xs) (.agg ys)).run P w = .ok () w := by
  cases op <;> simp [eqGuard, hg]
section eqarr
variable {T' E n : Nat} {e e' : TyE} {k : IntKind} {xs ys : List Int} {cs cs' : List CV} {b : Bool} (tb : TabOk P tab) (hg : P.eqGuardType P.depth T = false) (hT : tyLook tab T = some e) (hk : e.kind = .array n E) (hE : tyLook tab E = some e') (hke : e'.kind = .int k) (hs : Nat.beq e'.size 1 = true) (hx : ev x = some (.c (.agg cs))) (hy : ev y = some (.c (.agg cs'))) (hcx : cs = intc k xs) (hcy : cs' = intc k ys) (hlx : xs.length = n) (hly : ys.length = n)
include tb hg hT hk hE hke hs hx hy hcx hcy hlx hly
end eqarr
end ops
end Go.Av
