/-
  The walk over abstract values: weakening, closed readings of own memory, functions and calls. For every program.
-/
import Derived.Test.YtgofigkhdjjlmaaAvD
set_option linter.unusedVariables false
set_option linter.unusedSimpArgs false
namespace Go.Av
open Go Go.RowKit

mutual
def AV.ltB (N : Nat) : AV → Bool
  | .c _ | .ip _ _ | .junk => true
  | .ref id _ => Nat.blt id N
  | .own id _ _ _ _ => Nat.blt id N
  | .agg xs => AV.ltBs N xs
  | .tup xs => AV.ltBs N xs
  | .fn _ xs => AV.ltBs N xs
def AV.ltBs (N : Nat) : List AV → Bool
  | [] => true
  | x :: xs => AV.ltB N x && AV.ltBs N xs
end
def AObj.ltB (N : Nat) : AObj → Bool
  | .blk _ cs => AV.ltBs N cs
  | .row _ _ => true
  | .dead => true

structure Less (N : Nat) (C C' : Cx) : Prop where
  dom : ∀ id, id < N → C.dom id → C'.dom id ∧ C'.M id = C.M id
  ok : Keeps C.ok C'.ok C.w C'.w
  shape : ∀ b x, C.w.shape? b = some x → C'.w.shape? b = some x
mutual
theorem Rep.less {N : Nat} {C C' : Cx} (h : Less N C C') : ∀ (x : AV) (u : Value), x.ltB N = true → Rep C x u → Rep C' x u
  | .c x, u, _, hu => by simp only [Rep] at hu ⊢; exact RepC.mono h.ok x u hu
  | .ref id off, u, hl, hu => by
    simp only [Rep] at hu ⊢
    simp only [AV.ltB, Nat.blt_eq] at hl
    obtain ⟨hd, g, hg, hu⟩ := hu
    obtain ⟨k1, k2⟩ := h.dom id hl hd
    exact ⟨k1, g, k2.trans hg, hu⟩
  | .own id off n size full, u, hl, hu => by
    simp only [Rep] at hu ⊢
    simp only [AV.ltB, Nat.blt_eq] at hl
    obtain ⟨hd, hu⟩ := hu
    obtain ⟨k1, k2⟩ := h.dom id hl hd
    refine ⟨k1, ?_⟩
    rcases hu with ⟨h1, h2, h3, h4⟩ | ⟨g, cp, h1, h2, h3, h4, h5⟩ | h6
    · exact .inl ⟨h1, h2, k2.trans h3, h4⟩
    · exact .inr (.inl ⟨g, cp, k2.trans h1, h2, h3, h4, fun hf => let ⟨e, he⟩ := h5 hf; ⟨e, h.shape _ _ he⟩⟩)
    · exact .inr (.inr h6)
  | .ip cs off, u, _, hu => by
    simp only [Rep] at hu ⊢
    obtain ⟨b, o, us, h1, h2, h3, h4, h6, h5⟩ := hu
    obtain ⟨k1, k2, k3⟩ := h.ok b h2 h3
    exact ⟨b, o, us, h1, k1, k2, RepCs.mono h.ok cs us h4, h6, fun j x hx => by rw [World.cell?_of_block (w := C.w) k3]; exact h5 j x hx⟩
  | .agg xs, u, hl, hu => by
    simp only [Rep] at hu ⊢
    obtain ⟨us, h1, h2⟩ := hu
    exact ⟨us, h1, RepL.less h xs us hl h2⟩
  | .tup xs, u, hl, hu => by
    simp only [Rep] at hu ⊢
    obtain ⟨us, h1, h2⟩ := hu
    exact ⟨us, h1, RepL.less h xs us hl h2⟩
  | .fn f caps, u, hl, hu => by
    simp only [Rep] at hu ⊢
    obtain ⟨us, h1, h2⟩ := hu
    exact ⟨us, h1, RepL.less h caps us hl h2⟩
  | .junk, u, _, hu => by simp only [Rep]
theorem RepL.less {N : Nat} {C C' : Cx} (h : Less N C C') : ∀ (xs : List AV) (us : List Value), AV.ltBs N xs = true → RepL C xs us → RepL C' xs us
  | [], us, _, hu => by simpa [RepL] using hu
  | c :: cs, us, hl, hu => by
    simp only [RepL] at hu ⊢
    simp only [AV.ltBs, Bool.and_eq_true] at hl
    obtain ⟨u, us', h1, h2, h3⟩ := hu
    exact ⟨u, us', h1, Rep.less h c u hl.1 h2, RepL.less h cs us' hl.2 h3⟩
end
theorem ObjRep.less {N : Nat} {C C' : Cx} (h : Less N C C') {g : Option Nat} {o : AObj} (hw : C'.w = C.w) (hl : o.ltB N = true) (ho : ObjRep C g o) : ObjRep C' g o := by
  cases o with
  | blk T cs =>
    obtain ⟨k, us, rfl, h2, h3⟩ := ho
    exact ⟨k, us, rfl, by rw [hw]; exact h2, RepL.less h cs us hl h3⟩
  | row T cs =>
    rcases ho with h1 | ⟨k, us, vs, rfl, h2, h3, h4⟩
    · exact .inl h1
    · exact .inr ⟨k, us, vs, rfl, by rw [hw]; exact h2, RepCs.mono h.ok cs us h3, h4⟩
  | dead => exact ho.elim

def WeakE (env : Env) (N : Nat) (E : Env) : Prop := ∀ t av, lkE E t = some av → lkE env t = some av ∧ av.ltB N = true
def WeakH (h : Heap) (N : Nat) (Hp : Heap) : Prop := ∀ id o, lk Hp id = some o → lk h id = some o ∧ o.ltB N = true
theorem weakE_nil {env : Env} {N : Nat} : WeakE env N [] := fun t av h => by cases h
theorem weakE_cons {env E : Env} {N t : Nat} {av av' : AV} (h : lkE env t = some av') (he : av' = av) (hl : av.ltB N = true) (hr : WeakE env N E) : WeakE env N ((t, av) :: E) := by
  intro k x hk
  rw [lkE_cons] at hk
  split at hk
  · rename_i e; subst e he; injection hk with hk; subst hk; exact ⟨h, hl⟩
  · exact hr k x hk
theorem weakH_nil {h : Heap} {N : Nat} : WeakH h N [] := fun t av h => by cases h
theorem weakH_cons {h Hp : Heap} {N t : Nat} {o o' : AObj} (hh : lk h t = some o') (he : o' = o) (hl : o.ltB N = true) (hr : WeakH h N Hp) : WeakH h N ((t, o) :: Hp) := by
  intro k x hk
  rw [lk_cons] at hk
  split at hk
  · rename_i e; subst e he; have hk := live_eq hk; subst hk; exact ⟨hh, hl⟩
  · exact hr k x hk

theorem DefRep.less {fr : List Value} {N : Nat} {C C' : Cx} (h : Less N C C') : ∀ {l : Defs} {ds : List Deferred}, l.all (fun p => AV.ltBs N p.2) = true → DefRep fr C l ds → DefRep fr C' l ds
  | [], ds, _, hd => hd
  | (some f, caps) :: r, ds, hl, hd => by
    obtain ⟨us, ds', h1, h2, h3⟩ := hd
    simp only [List.all_cons, Bool.and_eq_true] at hl
    exact ⟨us, ds', h1, RepL.less h _ _ hl.1 h2, DefRep.less h hl.2 h3⟩
  | (none, xs) :: r, ds, hl, hd => by
    simp only [List.all_cons, Bool.and_eq_true] at hl
    exact ⟨RepL.less h _ _ hl.1 hd.1, DefRep.less h hl.2 hd.2⟩

theorem weak_mk {n N : Nat} {env E : Env} {h Hp : Heap} {dfs : Defs} (hn : Nat.ble N n = true) (hE : WeakE env N E) (hH : WeakH h N Hp) (hD : dfs.all (fun p => AV.ltBs N p.2) = true) : Weak n env h dfs N E Hp dfs := by
  intro B sz a w hc
  obtain ⟨M, h1, h2, h3, h4⟩ := hc
  have hn' : N ≤ n := Nat.le_of_ble_eq_true hn
  have hok : ∀ b, okOf B (lt n) M (lk h) b → okOf B (lt N) M (lk Hp) b := fun b hb => ⟨hb.1, fun id o hid hH' he => hb.2 id o (Nat.lt_of_lt_of_le hid hn') (hH id o hH').1 he⟩
  have hls : Less N (cx B n M h w) (cx B N M Hp w) := ⟨fun id hid _ => ⟨hid, rfl⟩, fun b hb hl => ⟨hok b hb, hl, rfl⟩, fun _ _ h => h⟩
  refine ⟨M, ⟨h1.fr, fun id o hid hH' => ?_, fun id id' o o' g k1 k2 k3 k4 => h1.inj id id' o o' g (Nat.lt_of_lt_of_le k1 hn') (Nat.lt_of_lt_of_le k2 hn') (hH id o k3).1 (hH id' o' k4).1, fun id o g k1 k2 => h1.lo id o g (Nat.lt_of_lt_of_le k1 hn') (hH id o k2).1⟩, h2, fun t av ht => ?_, h4.less hls hD⟩
  · exact (h1.obj id o (Nat.lt_of_lt_of_le hid hn') (hH id o hH').1).less hls rfl (hH id o hH').2
  · exact Rep.less hls _ _ (hE t av ht).2 (h3 t av (hE t av ht).1)

/-- Closed values that read alike. -/
def Cv (x y : CV) : Prop := ∀ ok w u, RepC ok w x u → RepC ok w y u
def CvL (x y : List CV) : Prop := ∀ ok w u, RepCs ok w x u → RepCs ok w y u
theorem cv_rfl {x : CV} : Cv x x := fun _ _ _ h => h
theorem cv_eq {x y : CV} (h : x = y) : Cv x y := fun _ _ _ k => h ▸ k
theorem cv_nil {size : Nat} : Cv (.v (.slice none 0 0)) (.sl size 0 []) := fun ok w u h => by
  simp only [RepC] at h ⊢
  exact ⟨none, 0, [], h, Nat.le_refl _, by simp [maxLen], by simp, by simp [RepCs], by simp, fun h => absurd h (by omega)⟩
theorem cv_sl {size n n' : Nat} {cs cs' : List CV} (hn : n = n') (hc : cs = cs') : Cv (.sl size n cs) (.sl size n' cs') := by subst hn hc; exact cv_rfl
theorem cvl_nil : CvL [] [] := fun _ _ _ h => h
theorem cvl_cons {x y : CV} {xs ys : List CV} (h : Cv x y) (k : CvL xs ys) : CvL (x :: xs) (y :: ys) := fun ok w u hu => by
  simp only [RepCs] at hu ⊢
  obtain ⟨a, l, h1, h2, h3⟩ := hu
  exact ⟨a, l, h1, h ok w a h2, k ok w l h3⟩
theorem cvl_rfl {x : List CV} : CvL x x := fun _ _ _ h => h
theorem cv_agg {x y : List CV} (h : CvL x y) : Cv (.agg x) (.agg y) := fun ok w u hu => by
  simp only [RepC] at hu ⊢
  obtain ⟨us, h1, h2, h3⟩ := hu
  exact ⟨us, h1, h ok w us h2, h3⟩

/-- What an own value reads as, closed, where the ids in keep stay own. -/
def Frz (keep : List Nat) (h : Heap) (v : AV) (x : CV) : Prop :=
  ∀ (B : Bs) (dom : Nat → Prop) (M : Nat → Option Nat) (H : Nat → Option AObj) (w : World) (u : Value), (∀ id o, lk h id = some o → dom id → H id = some o) → (∀ k ∈ keep, dom k ∧ ∃ o, H k = some o) →
    ConcH B dom M H w → Rep ⟨dom, M, okOf B dom M H, w⟩ v u → RepC (fun b => (B.ok0 b ∨ B.w0.heap.size ≤ b ∨ b ∈ B.G) ∧ ∀ k ∈ keep, M k ≠ some b) w x u
def FrzL (keep : List Nat) (h : Heap) (v : List AV) (x : List CV) : Prop :=
  ∀ (B : Bs) (dom : Nat → Prop) (M : Nat → Option Nat) (H : Nat → Option AObj) (w : World) (u : List Value), (∀ id o, lk h id = some o → dom id → H id = some o) → (∀ k ∈ keep, dom k ∧ ∃ o, H k = some o) →
    ConcH B dom M H w → RepL ⟨dom, M, okOf B dom M H, w⟩ v u → RepCs (fun b => (B.ok0 b ∨ B.w0.heap.size ≤ b ∨ b ∈ B.G) ∧ ∀ k ∈ keep, M k ≠ some b) w x u
section frz
variable {keep : List Nat} {h : Heap}
theorem frz_c {x y : CV} (hxy : Cv x y) : Frz keep h (.c x) y := by
  intro B dom M H w u hh hk hc hu
  simp only [Rep] at hu
  refine hxy _ _ _ (RepC.mono (fun b hb hl => ⟨⟨hb.1, fun k hkk he => ?_⟩, hl, rfl⟩) _ _ hu)
  obtain ⟨h1, o, h2⟩ := hk k hkk
  exact hb.2 k o h1 h2 he
theorem frz_own {id off n size : Nat} {full : Bool} {T : TypeId} {cs ys : List CV} (ho : lk h id = some (.row T cs)) (hk : keep.contains id = false) (hy : (cs.drop off).take (n * size) = ys) (hl : ys.length = n * size) : Frz keep h (.own id off n size full) (.sl size n ys) := by
  intro B dom M H w u hh hkp hc hu
  simp only [Rep] at hu
  obtain ⟨hd, hu⟩ := hu
  have hmono : ∀ b, okOf B dom M H b → (B.ok0 b ∨ B.w0.heap.size ≤ b ∨ b ∈ B.G) ∧ ∀ k ∈ keep, M k ≠ some b := fun b hb => ⟨hb.1, fun k hkk he => by
    obtain ⟨h1, o, h2⟩ := hkp k hkk
    exact hb.2 k o h1 h2 he⟩
  have key : ∀ g, M id = some g → ∃ us vs, w.heap[g]? = some (.cells (us ++ vs).toArray T (0, 0)) ∧ RepCs (okOf B dom M H) w cs us ∧ ∀ u ∈ us, u.oneCell' = true := fun g hg => obj_row hh hc ho hd hg
  have hz : n = 0 → ∃ us, RepCs (fun b => (B.ok0 b ∨ B.w0.heap.size ≤ b ∨ b ∈ B.G) ∧ ∀ k ∈ keep, M k ≠ some b) w ys us ∧ ∀ u ∈ us, u.oneCell' = true := fun h0 => by
    subst h0
    have : ys = [] := List.eq_nil_of_length_eq_zero (by simpa using hl)
    subst this
    exact ⟨[], by simp [RepCs], by simp⟩
  rcases hu with ⟨h1, h2, h3, h4⟩ | ⟨g, cp, h1, h2, h3, h4, h5⟩ | ⟨h1, h2, A, cp, h3, h4⟩
  · obtain ⟨us, hus, hon⟩ := hz h1
    exact ⟨none, 0, us, by rw [h4, h1], by omega, by simp [maxLen], hl, hus, hon, fun hn => absurd hn (by omega)⟩
  · obtain ⟨us, vs, hb, hr, hon⟩ := key g h1
    have h6 := (hr.drop off).take (n * size)
    rw [hy] at h6
    refine ⟨some ⟨g, off, none⟩, cp, (us.drop off).take (n * size), h2, h3, h4, hl, RepCs.mono (fun b hb hl => ⟨hmono b hb, hl, rfl⟩) _ _ h6, fun u hu => hon u (List.mem_of_mem_drop (List.mem_of_mem_take hu)), fun hn => ⟨g, off, rfl, ⟨?_, fun k hkk he => ?_⟩, lt_of_block hb, fun j x hj => ?_⟩⟩
    · rcases hc.lo id _ g hd (hh id _ ho hd) h1 with h7 | h7
      · exact .inr (.inl h7)
      · exact .inr (.inr h7)
    · obtain ⟨k1, o, k2⟩ := hkp k hkk
      have := hc.inj k id o _ g k1 hd k2 (hh id _ ho hd) he h1
      subst this
      rw [List.contains_eq_mem] at hk
      simp at hk
      exact hk hkk
    · have hjk : j < n * size := by
        rcases Nat.lt_or_ge j (n * size) with h1 | h1
        · exact h1
        · rw [List.getElem?_eq_none (by rw [List.length_take]; omega)] at hj; cases hj
      rw [List.getElem?_take_of_lt hjk, List.getElem?_drop] at hj
      exact cell_row hb hj
  · obtain ⟨us, hus, hon⟩ := hz h1
    subst h1
    exact ⟨A, cp, us, h3, by omega, h4, hl, hus, hon, fun hn => absurd hn (by omega)⟩
theorem frz_ownW {id n size : Nat} {full : Bool} {T : TypeId} {cs : List CV} (ho : lk h id = some (.row T cs)) (hk : keep.contains id = false) (hl : cs.length = n * size) : Frz keep h (.own id 0 n size full) (.sl size n cs) :=
  frz_own ho hk (by rw [List.drop_zero, List.take_of_length_le (by omega)]) hl
theorem frzl_nil : FrzL keep h [] [] := fun B dom M H w u _ _ _ hu => by simpa [RepL, RepCs] using hu
theorem frzl_cons {x : AV} {y : CV} {xs : List AV} {ys : List CV} (hx : Frz keep h x y) (hxs : FrzL keep h xs ys) : FrzL keep h (x :: xs) (y :: ys) := by
  intro B dom M H w u hh hk hc hu
  simp only [RepL] at hu
  obtain ⟨a, l, h1, h2, h3⟩ := hu
  exact ⟨a, l, h1, hx B dom M H w a hh hk hc h2, hxs B dom M H w l hh hk hc h3⟩
theorem frz_agg {xs : List AV} {ys : List CV} (h1' : xs.all AV.one = true) (hx : FrzL keep h xs ys) : Frz keep h (.agg xs) (.agg ys) := by
  intro B dom M H w u hh hk hc hu
  simp only [Rep] at hu
  obtain ⟨us, h1, h2⟩ := hu
  exact ⟨us, h1, hx B dom M H w us hh hk hc h2, h2.one h1'⟩
theorem frz_eq {x : AV} {y z : CV} (h1 : Frz keep h x y) (h2 : y = z) : Frz keep h x z := h2 ▸ h1
end frz

/-- A function's contract: what it returns for closed arguments, with the own rows that it hands over. -/
def AC (P : Program) (f : FuncId) (args : List CV) (r : AV) (hr : Heap) (nr : Nat) : Prop :=
  ∀ (ok : Nat → Prop) (w : World) (vs : List Value), RepCs ok w args vs → Calls P f vs.toArray w fun e w' => ∃ v M, e = .returned v ∧ ConcH ⟨w, [], ok, []⟩ (lt nr) M (lk hr) w' ∧ Rep (cx ⟨w, [], ok, []⟩ nr M hr w') r v

def enumE : Nat → List CV → Env
  | _, [] => []
  | k, x :: xs => (k, .c x) :: enumE (k + 1) xs
theorem enumE_get : ∀ {cs : List CV} {k t : Nat} {av : AV}, lkE (enumE k cs) t = some av → ∃ c, k ≤ t ∧ cs[t - k]? = some c ∧ av = .c c
  | [], k, t, av, h => by cases h
  | c :: cs, k, t, av, h => by
    rw [enumE, lkE_cons] at h
    split at h
    · rename_i e; subst e; injection h with h; exact ⟨c, Nat.le_refl _, by simp, h.symm⟩
    · rename_i e
      obtain ⟨c', h1, h2, h3⟩ := enumE_get h
      refine ⟨c', by omega, ?_, h3⟩
      rw [show t - k = (t - (k + 1)) + 1 by omega]
      simpa using h2

/-- A deferred closure that does nothing where nothing panics. -/
def Idle (P : Program) (f : FuncId) (k : Nat) : Prop :=
  ∀ (us : List Value) (w : World), us.length = k → CallsD P f us.toArray .returning w fun e u' w' => e = .returned (.tuple #[]) ∧ u' = .returning ∧ w' = w
def Body (P : Program) (f : FuncId) : Prop := (P.funcs[f]?).map (fun fn => (fn.name == "runtime.NumGoroutine", fn.body.isNone)) = some (false, false)
theorem Body.run {P : Program} {f : FuncId} (h : Body P f) (args : Array Value) (w : World) : (callFunc f args).run P w = .ok (.enter f args) w := by
  obtain ⟨fn, h1, h2⟩ := Option.map_eq_some_iff.1 h
  simp only [Prod.mk.injEq] at h2
  simp only [callFunc, Sem.run_bind, run_program, Result.andThen_ok, h1]
  simp [h2.1, h2.2]
def IdleD (P : Program) : Defs → Prop
  | [] => True
  | (some f, caps) :: r => Idle P f caps.length ∧ Body P f ∧ IdleD P r
  | (none, _) :: r => IdleD P r

/-- What result variables read as. -/
inductive ResA (tab : Tab) (env : Env) (h : Heap) : ResultVar → AV → Prop
  | tmp {t : Tmp} {v : AV} (hv : lkE env t = some v) : ResA tab env h (.tmp t) v
  | one {p : Tmp} {T T' : TypeId} {id : Nat} {v : AV} {cs : List AV} {e : TyE} (hp : lkE env p = some (.ref id 0)) (hT : tyLook tab T = some e) (hk : e.kind.agg = false) (ho : lk h id = some (.blk T' cs)) (hv : cs[0]? = some v) : ResA tab env h (.cell p T) v
  | agg {p : Tmp} {T T' : TypeId} {id : Nat} {v : AV} {cs : List AV} {e : TyE} (hp : lkE env p = some (.ref id 0)) (hT : tyLook tab T = some e) (hk : e.kind.agg = true) (ho : lk h id = some (.blk T' cs)) (hl : Nat.beq cs.length e.size = true) (hv : IsAgg cs v) : ResA tab env h (.cell p T) v
  | aggr {p : Tmp} {T T' : TypeId} {id : Nat} {cs : List CV} {e : TyE} (hp : lkE env p = some (.ref id 0)) (hT : tyLook tab T = some e) (hk : e.kind.agg = true) (ho : lk h id = some (.row T' cs)) (hl : cs.length = e.size) : ResA tab env h (.cell p T) (.c (.agg cs))

section ret
variable {P : Program} {tab : Tab} {env : Env} {h : Heap} {n : Nat}
theorem ResA.run (tb : TabOk P tab) {rv : ResultVar} {v : AV} (hr : ResA tab env h rv v) {B : Bs} {M : Nat → Option Nat} {w : World} {tmps : Array Value} (hc : ConcH B (lt n) M (lk h) w) (he : ∀ t av, lkE env t = some av → Rep (cx B n M h w) av (tmps.getD t undef)) :
    ∃ u, Rep (cx B n M h w) v u ∧ (match rv with | .tmp t => tmps.getD t undef = u | .cell p T => ∃ q, tmps.getD p undef = .pointer (some q) ∧ (loadVar T q).run P w = .ok u w) := by
  cases hr with
  | tmp hv => exact ⟨_, he _ _ hv, rfl⟩
  | one hp hT hk ho hv =>
    have := he _ _ hp
    simp only [Rep] at this
    obtain ⟨hid, g, hM, hq⟩ := this
    obtain ⟨us, hb, hus⟩ := obj_blk (fun id o h _ => h) hc ho hid hM
    obtain ⟨u, hu, hru⟩ := hus.get hv
    exact ⟨u, hru, _, hq, run_load1 (tyLook_ok tb hT) hk (by rw [cell_blk hb]; exact hu)⟩
  | agg hp hT hk ho hl hv =>
    rename_i p T T' id cs e
    have := he _ _ hp
    simp only [Rep] at this
    obtain ⟨hid, g, hM, hq⟩ := this
    obtain ⟨us, hb, hus⟩ := obj_blk (fun id o h _ => h) hc ho hid hM
    exact ⟨_, hv.rep hus, _, hq, run_loadA (tyLook_ok tb hT) hk (us := us) (by rw [hus.length]; exact Nat.eq_of_beq_eq_true hl) (fun j u hj => by rw [cell_blk hb, Nat.zero_add]; exact hj)⟩
  | aggr hp hT hk ho hl =>
    have := he _ _ hp
    simp only [Rep] at this
    obtain ⟨hid, g, hM, hq⟩ := this
    obtain ⟨us, vs, hb, hus, hon⟩ := obj_row (fun id o h _ => h) hc ho hid hM
    exact ⟨_, ⟨us, rfl, hus, hon⟩, _, hq, run_loadA (tyLook_ok tb hT) hk (us := us) (by rw [hus.length]; exact hl) (fun j u hj => by rw [Nat.zero_add]; exact cell_row hb hj)⟩

inductive ResL (tab : Tab) (env : Env) (h : Heap) : List ResultVar → AV → Prop
  | none : ResL tab env h [] (.tup [])
  | one {r : ResultVar} {v : AV} (h1 : ResA tab env h r v) : ResL tab env h [r] v
  | two {r1 r2 : ResultVar} {v1 v2 : AV} (h1 : ResA tab env h r1 v1) (h2 : ResA tab env h r2 v2) : ResL tab env h [r1, r2] (.tup [v1, v2])
  | three {r1 r2 r3 : ResultVar} {v1 v2 v3 : AV} (h1 : ResA tab env h r1 v1) (h2 : ResA tab env h r2 v2) (h3 : ResA tab env h r3 v3) : ResL tab env h [r1, r2, r3] (.tup [v1, v2, v3])

def Rd (P : Program) (tmps : Array Value) (w : World) (rv : ResultVar) (u : Value) : Prop := match rv with | .tmp t => tmps[t]?.getD undef = u | .cell p T => ∃ q, tmps[p]?.getD undef = .pointer (some q) ∧ (loadVar T q).run P w = .ok u w
theorem ResL.run (tb : TabOk P tab) {fn : Func} {v : AV} (hr : ResL tab env h fn.results.toList v) {B : Bs} {M : Nat → Option Nat} {w : World} {tmps : Array Value} (hc : ConcH B (lt n) M (lk h) w) (he : ∀ t av, lkE env t = some av → Rep (cx B n M h w) av (tmps.getD t undef)) :
    ∃ u, Rep (cx B n M h w) v u ∧ (results fn tmps).run P w = .ok u w := by
  have one : ∀ {rv : ResultVar} {v : AV}, ResA tab env h rv v → ∃ u, Rep (cx B n M h w) v u ∧ Rd P tmps w rv u := by
    intro rv v hA
    obtain ⟨u, h1, h2⟩ := hA.run tb hc he
    refine ⟨u, h1, ?_⟩
    cases rv with
    | tmp t => simpa [Rd] using h2
    | cell p T => obtain ⟨q, hq, hl⟩ := h2; exact ⟨q, by simpa using hq, hl⟩
  generalize hl : fn.results.toList = l at hr
  have hf : fn.results = l.toArray := by rw [← hl]
  cases hr with
  | none => exact ⟨.tuple #[], ⟨[], rfl, rfl⟩, by simp [results, hf]⟩
  | one h1 =>
    obtain ⟨u, k1, k2⟩ := one h1
    refine ⟨u, k1, ?_⟩
    rename_i rv
    cases rv <;> simp only [Rd] at k2 <;> (try obtain ⟨q, hq, hl1⟩ := k2) <;> simp [results, hf, asAddr, *]
  | two h1 h2 =>
    obtain ⟨u1, k1, k2⟩ := one h1
    obtain ⟨u2, l1, l2⟩ := one h2
    refine ⟨.tuple #[u1, u2], ⟨[u1, u2], rfl, u1, [u2], rfl, k1, u2, [], rfl, l1, rfl⟩, ?_⟩
    rename_i r1 r2 v1 v2
    cases r1 <;> cases r2 <;> simp only [Rd] at k2 l2 <;> (try obtain ⟨q, hq, hl1⟩ := k2) <;> (try obtain ⟨q2, hq2, hl2⟩ := l2) <;> simp [results, hf, asAddr, *]
  | three h1 h2 h3 =>
    obtain ⟨u1, k1, k2⟩ := one h1
    obtain ⟨u2, l1, l2⟩ := one h2
    obtain ⟨u3, m1, m2⟩ := one h3
    refine ⟨.tuple #[u1, u2, u3], ⟨[u1, u2, u3], rfl, u1, [u2, u3], rfl, k1, u2, [u3], rfl, l1, u3, [], rfl, m1, rfl⟩, ?_⟩
    rename_i r1 r2 r3 v1 v2 v3
    cases r1 <;> cases r2 <;> cases r3 <;> simp only [Rd] at k2 l2 m2 <;> (try obtain ⟨q, hq, hl1⟩ := k2) <;> (try obtain ⟨q2, hq2, hl2⟩ := l2) <;> (try obtain ⟨q3, hq3, hl3⟩ := m2) <;> simp [results, hf, asAddr, *]
end ret
end Go.Av
