/-
  Weakening with other names for the objects of the own memory. For every program.
-/
import Derived.Test.YtgofigkhdjjlmaaAvZ
set_option linter.unusedVariables false
set_option linter.unusedSimpArgs false
set_option linter.unusedSectionVars false
namespace Go.Av
open Go Go.RowKit
mutual
def AV.mp (σ : Nat → Nat) : AV → AV
  | .c x => .c x
  | .ip cs off => .ip cs off
  | .junk => .junk
  | .ref id off => .ref (σ id) off
  | .own id off n size full => .own (σ id) off n size full
  | .agg xs => .agg (AV.mps σ xs)
  | .tup xs => .tup (AV.mps σ xs)
  | .fn f xs => .fn f (AV.mps σ xs)
def AV.mps (σ : Nat → Nat) : List AV → List AV
  | [] => []
  | x :: xs => AV.mp σ x :: AV.mps σ xs
end
structure LessR (N : Nat) (σ : Nat → Nat) (C C' : Cx) : Prop where
  dom : ∀ id, id < N → C.dom (σ id) → C'.dom id ∧ C'.M id = C.M (σ id)
  ok : Keeps C.ok C'.ok C.w C'.w
  shape : ∀ b x, C.w.shape? b = some x → C'.w.shape? b = some x
mutual
theorem Rep.lessR {N : Nat} {σ : Nat → Nat} {C C' : Cx} (h : LessR N σ C C') : ∀ (x : AV) (u : Value), x.ltB N = true → Rep C (x.mp σ) u → Rep C' x u
  | .c x, u, _, hu => by simp only [Rep, AV.mp] at hu ⊢; exact RepC.mono h.ok x u hu
  | .ref id off, u, hl, hu => by
    simp only [Rep, AV.mp] at hu ⊢
    simp only [AV.ltB, Nat.blt_eq] at hl
    obtain ⟨hd, g, hg, hu⟩ := hu
    obtain ⟨k1, k2⟩ := h.dom id hl hd
    exact ⟨k1, g, k2.trans hg, hu⟩
  | .own id off n size full, u, hl, hu => by
    simp only [Rep, AV.mp] at hu ⊢
    simp only [AV.ltB, Nat.blt_eq] at hl
    obtain ⟨hd, hu⟩ := hu
    obtain ⟨k1, k2⟩ := h.dom id hl hd
    refine ⟨k1, ?_⟩
    rcases hu with ⟨h1, h2, h3, h4⟩ | ⟨g, cp, h1, h2, h3, h4, h5⟩ | h6
    · exact .inl ⟨h1, h2, k2.trans h3, h4⟩
    · exact .inr (.inl ⟨g, cp, k2.trans h1, h2, h3, h4, fun hf => let ⟨e, he⟩ := h5 hf; ⟨e, h.shape _ _ he⟩⟩)
    · exact .inr (.inr h6)
  | .ip cs off, u, _, hu => by
    simp only [Rep, AV.mp] at hu ⊢
    obtain ⟨b, o, us, h1, h2, h3, h4, h6, h5⟩ := hu
    obtain ⟨k1, k2, k3⟩ := h.ok b h2 h3
    exact ⟨b, o, us, h1, k1, k2, RepCs.mono h.ok cs us h4, h6, fun j x hx => by rw [World.cell?_of_block (w := C.w) k3]; exact h5 j x hx⟩
  | .agg xs, u, hl, hu => by
    simp only [Rep, AV.mp] at hu ⊢
    obtain ⟨us, h1, h2⟩ := hu
    exact ⟨us, h1, RepL.lessR h xs us hl h2⟩
  | .tup xs, u, hl, hu => by
    simp only [Rep, AV.mp] at hu ⊢
    obtain ⟨us, h1, h2⟩ := hu
    exact ⟨us, h1, RepL.lessR h xs us hl h2⟩
  | .fn f caps, u, hl, hu => by
    simp only [Rep, AV.mp] at hu ⊢
    obtain ⟨us, h1, h2⟩ := hu
    exact ⟨us, h1, RepL.lessR h caps us hl h2⟩
  | .junk, u, _, hu => by simp only [Rep]
theorem RepL.lessR {N : Nat} {σ : Nat → Nat} {C C' : Cx} (h : LessR N σ C C') : ∀ (xs : List AV) (us : List Value), AV.ltBs N xs = true → RepL C (AV.mps σ xs) us → RepL C' xs us
  | [], us, _, hu => by simpa [RepL, AV.mps] using hu
  | c :: cs, us, hl, hu => by
    simp only [RepL, AV.mps] at hu ⊢
    simp only [AV.ltBs, Bool.and_eq_true] at hl
    obtain ⟨u, us', h1, h2, h3⟩ := hu
    exact ⟨u, us', h1, Rep.lessR h c u hl.1 h2, RepL.lessR h cs us' hl.2 h3⟩
end
def AObj.mp (σ : Nat → Nat) : AObj → AObj
  | .blk T cs => .blk T (AV.mps σ cs)
  | .row T cs => .row T cs
  | .dead => .dead
theorem ObjRep.lessR {N : Nat} {σ : Nat → Nat} {C C' : Cx} (h : LessR N σ C C') {g : Option Nat} {o : AObj} (hw : C'.w = C.w) (hl : o.ltB N = true) (ho : ObjRep C g (o.mp σ)) : ObjRep C' g o := by
  cases o with
  | blk T cs =>
    obtain ⟨k, us, rfl, h2, h3⟩ := ho
    exact ⟨k, us, rfl, by rw [hw]; exact h2, RepL.lessR h cs us hl h3⟩
  | row T cs =>
    rcases ho with h1 | ⟨k, us, vs, rfl, h2, h3, h4⟩
    · exact .inl h1
    · exact .inr ⟨k, us, vs, rfl, by rw [hw]; exact h2, RepCs.mono h.ok cs us h3, h4⟩
  | dead => exact ho.elim
def WeakER (σ : Nat → Nat) (env : Env) (N : Nat) (E : Env) : Prop := ∀ t av, lkE E t = some av → lkE env t = some (av.mp σ) ∧ av.ltB N = true
def WeakHR (σ : Nat → Nat) (h : Heap) (N : Nat) (Hp : Heap) : Prop := ∀ id o, lk Hp id = some o → lk h (σ id) = some (o.mp σ) ∧ o.ltB N = true
section
variable {σ : Nat → Nat}
theorem weakER_nil {env : Env} {N : Nat} : WeakER σ env N [] := fun t av h => by cases h
theorem weakER_cons {env E : Env} {N t : Nat} {av av' : AV} (h : lkE env t = some av') (he : av' = av.mp σ) (hl : av.ltB N = true) (hr : WeakER σ env N E) : WeakER σ env N ((t, av) :: E) := by
  intro k x hk
  rw [lkE_cons] at hk
  split at hk
  · rename_i e; subst e; injection hk with hk; subst hk; exact ⟨h.trans (by rw [he]), hl⟩
  · exact hr k x hk
theorem weakHR_nil {h : Heap} {N : Nat} : WeakHR σ h N [] := fun t av h => by cases h
theorem weakHR_cons {h Hp : Heap} {N t : Nat} {o o' : AObj} (hh : lk h (σ t) = some o') (he : o' = o.mp σ) (hl : o.ltB N = true) (hr : WeakHR σ h N Hp) : WeakHR σ h N ((t, o) :: Hp) := by
  intro k x hk
  rw [lk_cons] at hk
  split at hk
  · rename_i e; subst e; have hk := live_eq hk; subst hk; exact ⟨hh.trans (by rw [he]), hl⟩
  · exact hr k x hk
theorem DefRep.lessR {fr : List Value} {N : Nat} {C C' : Cx} (h : LessR N σ C C') : ∀ {l : Defs} {ds : List Deferred}, l.all (fun p => AV.ltBs N p.2) = true → DefRep fr C (l.map fun p => (p.1, AV.mps σ p.2)) ds → DefRep fr C' l ds
  | [], ds, _, hd => hd
  | (some f, caps) :: r, ds, hl, hd => by
    obtain ⟨us, ds', h1, h2, h3⟩ := hd
    simp only [List.all_cons, Bool.and_eq_true] at hl
    exact ⟨us, ds', h1, RepL.lessR h _ _ hl.1 h2, DefRep.lessR h hl.2 h3⟩
  | (none, xs) :: r, ds, hl, hd => by
    simp only [List.all_cons, Bool.and_eq_true] at hl
    exact ⟨RepL.lessR h _ _ hl.1 hd.1, DefRep.lessR h hl.2 hd.2⟩
end
def sg (l : List Nat) (i : Nat) : Nat := match l, i with
  | [], _ => 0
  | x :: _, 0 => x
  | _ :: r, i + 1 => sg r i
/-- The new object i was the object l[i]. -/
theorem weak_ren (l : List Nat) {n N : Nat} {env E : Env} {h Hp : Heap} {dfs D : Defs} (hN : (List.range N).all (fun i => Nat.blt (sg l i) n) = true) (hinj : (List.range N).all (fun i => (List.range N).all fun j => Nat.beq i j || !Nat.beq (sg l i) (sg l j)) = true)
    (hE : WeakER (sg l) env N E) (hH : WeakHR (sg l) h N Hp) (hD : D.all (fun p => AV.ltBs N p.2) = true) (hD' : dfs = D.map fun p => (p.1, AV.mps (sg l) p.2)) : Weak n env h dfs N E Hp D := by
  intro B sz a w hc
  subst hD'
  obtain ⟨M, h1, h2, h3, h4⟩ := hc
  have hn' : ∀ i, i < N → sg l i < n := fun i hi => by
    have := List.all_eq_true.1 hN i (List.mem_range.2 hi)
    simpa using this
  have hi' : ∀ i j, i < N → j < N → sg l i = sg l j → i = j := fun i j hi hj e => by
    have := List.all_eq_true.1 (List.all_eq_true.1 hinj i (List.mem_range.2 hi)) j (List.mem_range.2 hj)
    simp only [Bool.or_eq_true, Bool.not_eq_true'] at this
    rcases this with h | h
    · exact Nat.eq_of_beq_eq_true h
    · rw [e, Nat.beq_refl] at h; cases h
  let M' : Nat → Option Nat := fun i => M (sg l i)
  have hok : ∀ b, okOf B (lt n) M (lk h) b → okOf B (lt N) M' (lk Hp) b := fun b hb => ⟨hb.1, fun id o hid hH' he => hb.2 (sg l id) _ (hn' id hid) (hH id o hH').1 he⟩
  have hls : LessR N (sg l) (cx B n M h w) (cx B N M' Hp w) := ⟨fun id hid _ => ⟨hid, rfl⟩, fun b hb hl => ⟨hok b hb, hl, rfl⟩, fun _ _ h => h⟩
  refine ⟨M', ⟨h1.fr, fun id o hid hH' => ?_, fun id id' o o' g k1 k2 k3 k4 k5 k6 => hi' id id' k1 k2 (h1.inj _ _ _ _ g (hn' id k1) (hn' id' k2) (hH id o k3).1 (hH id' o' k4).1 k5 k6), fun id o g k1 k2 => h1.lo _ _ g (hn' id k1) (hH id o k2).1⟩, h2, fun t av ht => ?_, h4.lessR hls hD⟩
  · exact (h1.obj _ _ (hn' id hid) (hH id o hH').1).lessR hls rfl (hH id o hH').2
  · exact Rep.lessR hls _ _ (hE t av ht).2 (h3 t _ (hE t av ht).1)
section makes
variable {P : Program} {tab : Tab} {ev : Evl} {h : Heap} {d : Option Tmp} {T ty : TypeId} {x y : Operand} {pos : String} {aft : Array Edge} {gd : Option (Nat × Bool)} {i : Nat} {e e' : TyE} {E size : Nat} (tb : TabOk P tab) (hT : tyLook tab T = some e) (hk : e.kind = .slice E) (hs0 : sizeF tab E = some size) (hE : tyLook tab E = some e')
include tb hT hk hs0 hE
theorem b_bslice0 (hs : Nat.beq e'.size size = true) : Adds P ⟨d, .buildSlice T 0 #[], ty, pos, aft, gd⟩ ev h (.own i 0 0 size true) [(i, .row E [])] i (i + 1) := a_bslice0 tb hT hk hE hs
theorem b_make {l c : Nat} {cs : List CV} {kl kc : IntKind} {I J : Int} (hs : Nat.beq e'.size size = true) (hz : Nat.beq e'.zero.length size = true) (h1' : e'.zero.all Value.oneCell' = true) (hp : Nat.blt 0 size = true) (hx : ev x = some (.c (.v (.int kl I)))) (hy : ev y = some (.c (.v (.int kc J)))) (hI : I = (l : Int)) (hJ : J = (c : Int))
    (hlc : l ≤ c) (hb : e'.bytes * c ≤ 281474976710656) (hc : c ≤ maxLen) (hcs : zc e'.zero l = cs) : Adds P ⟨d, .makeSlice T x y, ty, pos, aft, gd⟩ ev h (.own i 0 l size true) [(i, .row E cs)] i (i + 1) := a_make tb hT hk hE hs hz h1' hp hx hy hI hJ hlc hb hc hcs
theorem b_bslice {n : Nat} {parts : List (Nat × Operand)} {cs : List CV} {ls : List (List CV)} {all : List CV} (hs : Nat.beq e'.size size = true) (hz : Nat.beq e'.zero.length size = true) (hp : Nat.blt 0 size = true) (hpt : parts = enumF 0 (parts.map (·.2))) (hn : Nat.beq (parts.map (·.2)).length n = true) (h0 : Nat.blt 0 n = true) (hle : Nat.ble (n * size) 16777216 = true)
    (hx : argsC ev (parts.map (·.2)) = some cs) (hfl : FlatL cs ls) (hsz : ls.all (fun l => Nat.beq l.length size) = true) (hall : ls.flatten = all) : Adds P ⟨d, .buildSlice T n parts.toArray, ty, pos, aft, gd⟩ ev h (.own i 0 n size true) [(i, .row E all)] i (i + 1) := a_bslice tb hT hk hE hs hz hp hpt hn h0 hle hx hfl hsz hall
theorem b_appendN {m : Nat} {vy : AV} {ys : List CV} (hs : Nat.beq e'.size size = true) (hz : Nat.beq e'.zero.length size = true)
    (hx : ev x = some (.c (.v (.slice none 0 0)))) (hy : ev y = some vy) (hf : Src h vy size m ys) (h63 : m ≤ maxLen) (hb : m * e'.bytes ≤ 140737488355328) :
    Adds P ⟨d, .call ⟨.builtin .append, #[x, y], #[T, T]⟩, ty, pos, aft, gd⟩ ev h (.own i 0 m size true) [(i, .row E ys)] i (i + 1) := a_appendN tb hT hk hE hs hz hx hy hf h63 hb
end makes
theorem own_eq {id id' off off' n n' size : Nat} {full : Bool} (h1 : id = id') (h2 : off = off') (h3 : n = n') : AV.own id off n size full = AV.own id' off' n' size full := by subst h1 h2 h3; rfl
theorem int_eq {k : IntKind} {m n : Int} (h : m = n) : AV.c (.v (.int k m)) = .c (.v (.int k n)) := by subst h; rfl
theorem sl_eq {size n n' : Nat} {cs cs' : List CV} (h : n = n') (hc : cs = cs') : AV.c (.sl size n cs) = .c (.sl size n' cs') := by subst h hc; rfl
theorem frz_u8 {keep : List Nat} {h : Heap} {id off n a m : Nat} {full : Bool} {T : TypeId} {l : List UInt8} (ho : lk h id = some (.row T (u8c l))) (hk : keep.contains id = false) (h1 : off = a) (h2 : n = m) (h3 : a + m ≤ l.length) : Frz keep h (.own id off n 1 full) (.sl 1 m (u8c ((l.drop a).take m))) := by
  subst h1 h2
  exact frz_own ho hk (by rw [Nat.mul_one, u8c_drop, u8c_take]) (by rw [u8c_length, List.length_take, List.length_drop]; omega)
theorem cast_self (m : Nat) : (m : Int) = (m : Int) := rfl
theorem cast_lit (n : Nat) : (OfNat.ofNat n : Int) = ((OfNat.ofNat n : Nat) : Int) := rfl
/-- Lists put together, whole. -/
def flatF' : List (List CV) → Option (List CV)
  | [] => some []
  | l :: r => match flatF' r with | some x => some (l ++ x) | none => none
end Go.Av
