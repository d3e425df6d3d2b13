/-
  The walk over abstract values: how a function is entered and left, and how it is called. For every program.
-/
import Derived.Test.YtgofigkhdjjlmaaAvE
set_option linter.unusedVariables false
set_option linter.unusedSimpArgs false
namespace Go.Av
open Go Go.RowKit

/-- What is handed over at the end of a call. -/
def Out (n : Nat) (h : Heap) (v r : AV) (hr : Heap) (nr : Nat) : Prop :=
  ∀ (w0 : World) (ok : Nat → Prop) (M : Nat → Option Nat) (w : World) (u : Value), ConcH ⟨w0, [], ok, []⟩ (lt n) M (lk h) w → Rep (cx ⟨w0, [], ok, []⟩ n M h w) v u →
    ∃ M', ConcH ⟨w0, [], ok, []⟩ (lt nr) M' (lk hr) w ∧ Rep (cx ⟨w0, [], ok, []⟩ nr M' hr w) r u

theorem concH_none {w0 w : World} {ok : Nat → Prop} {M : Nat → Option Nat} {H : Nat → Option AObj} (h : FrB w0 [] w) : ConcH ⟨w0, [], ok, []⟩ (lt 0) M H w :=
  ⟨h, fun id o hid => absurd hid (by simp [lt]), fun id id' o o' g hid => absurd hid (by simp [lt]), fun id o g hid => absurd hid (by simp [lt])⟩

theorem out_c {n : Nat} {h : Heap} {v : AV} {x : CV} (hf : Frz [] h v x) : Out n h v (.c x) [] 0 := by
  intro w0 ok M w u hc hu
  refine ⟨M, concH_none hc.fr, ?_⟩
  have := hf _ _ _ _ _ u (fun id o h _ => h) (by simp) hc hu
  exact RepC.mono (fun b hb hl => ⟨⟨by simpa using hb.1, fun id o hid => absurd hid (by simp [lt])⟩, hl, rfl⟩) _ _ this
theorem out_t {n : Nat} {h : Heap} {vs : List AV} {xs : List CV} (hf : FrzL [] h vs xs) : Out n h (.tup vs) (.tup (xs.map AV.c)) [] 0 := by
  intro w0 ok M w u hc hu
  refine ⟨M, concH_none hc.fr, ?_⟩
  simp only [Rep, cx] at hu
  obtain ⟨us, h1, h2⟩ := hu
  have := hf _ _ _ _ _ us (fun id o h _ => h) (by simp) hc h2
  exact ⟨us, h1, RepL.ofC (RepCs.mono (fun b hb hl => ⟨⟨by simpa using hb.1, fun id o hid => absurd hid (by simp [lt])⟩, hl, rfl⟩) _ _ this)⟩

theorem nodup_inj {l : List Nat} (hnd : l.Nodup) {i j : Nat} (hi : i < l.length) (hj : j < l.length) (he : l[i] = l[j]) : i = j := by
  rw [List.nodup_iff_pairwise_ne, List.pairwise_iff_getElem] at hnd
  rcases Nat.lt_trichotomy i j with h | h | h
  · exact absurd he (hnd i j hi hj h)
  · exact h
  · exact absurd he.symm (hnd j i hj hi h)
/-- Rows that stay own: the new id i was σ[i]. -/
def KeepH (σ : List Nat) (h hr : Heap) (n : Nat) : Prop := ∀ i k, σ[i]? = some k → k < n ∧ ∃ T cs, lk h k = some (.row T cs) ∧ lk hr i = some (.row T cs)
def Ren (σ : List Nat) (h : Heap) (v r : AV) : Prop :=
  ∀ (w0 : World) (ok : Nat → Prop) (n : Nat) (M : Nat → Option Nat) (w : World) (u : Value) (hr : Heap), KeepH σ h hr n → ConcH ⟨w0, [], ok, []⟩ (lt n) M (lk h) w → Rep (cx ⟨w0, [], ok, []⟩ n M h w) v u → Rep (cx ⟨w0, [], ok, []⟩ σ.length (fun i => (σ[i]?).bind M) hr w) r u
def RenL (σ : List Nat) (h : Heap) (v r : List AV) : Prop :=
  ∀ (w0 : World) (ok : Nat → Prop) (n : Nat) (M : Nat → Option Nat) (w : World) (u : List Value) (hr : Heap), KeepH σ h hr n → ConcH ⟨w0, [], ok, []⟩ (lt n) M (lk h) w → RepL (cx ⟨w0, [], ok, []⟩ n M h w) v u → RepL (cx ⟨w0, [], ok, []⟩ σ.length (fun i => (σ[i]?).bind M) hr w) r u
section ren
variable {σ : List Nat} {h : Heap}
theorem ren_c {v : AV} {x : CV} (hf : Frz σ h v x) : Ren σ h v (.c x) := by
  intro w0 ok n M w u hr hk hc hu
  have := hf _ _ _ _ _ u (fun id o h _ => h) (fun k hkm => by
    obtain ⟨i, hi⟩ := List.mem_iff_getElem?.1 hkm
    obtain ⟨h1, T, cs, h2, _⟩ := hk i k hi
    exact ⟨h1, _, h2⟩) hc hu
  refine RepC.mono (fun b hb hl => ⟨⟨by simpa using hb.1, fun id o hid hH he => ?_⟩, hl, rfl⟩) _ _ this
  simp only at he
  cases hs : σ[id]? with
  | none => rw [hs] at he; cases he
  | some k =>
    rw [hs] at he
    exact hb.2 k (List.mem_of_getElem? hs) he
theorem ren_own {i k off n size : Nat} {full : Bool} (hi : σ[i]? = some k) : Ren σ h (.own k off n size full) (.own i off n size full) := by
  intro w0 ok n' M w u hr hk hc hu
  simp only [Rep, cx] at hu ⊢
  have hM : (σ[i]?).bind M = M k := by rw [hi]; rfl
  refine ⟨(List.getElem?_eq_some_iff.1 hi).1, ?_⟩
  rw [hM]
  exact hu.2
theorem renl_nil : RenL σ h [] [] := fun w0 ok n M w u hr hk hc hu => by simpa [RepL] using hu
theorem renl_cons {x y : AV} {xs ys : List AV} (hx : Ren σ h x y) (hxs : RenL σ h xs ys) : RenL σ h (x :: xs) (y :: ys) := by
  intro w0 ok n M w u hr hk hc hu
  simp only [RepL] at hu
  obtain ⟨a, l, h1, h2, h3⟩ := hu
  exact ⟨a, l, h1, hx w0 ok n M w a hr hk hc h2, hxs w0 ok n M w l hr hk hc h3⟩
theorem ren_tup {xs ys : List AV} (hx : RenL σ h xs ys) : Ren σ h (.tup xs) (.tup ys) := by
  intro w0 ok n M w u hr hk hc hu
  simp only [Rep] at hu
  obtain ⟨us, h1, h2⟩ := hu
  exact ⟨us, h1, hx w0 ok n M w us hr hk hc h2⟩
theorem ren_agg {xs ys : List AV} (hx : RenL σ h xs ys) : Ren σ h (.agg xs) (.agg ys) := by
  intro w0 ok n M w u hr hk hc hu
  simp only [Rep] at hu
  obtain ⟨us, h1, h2⟩ := hu
  exact ⟨us, h1, hx w0 ok n M w us hr hk hc h2⟩
theorem out_ren {n : Nat} {v r : AV} {hr : Heap} (hnd : σ.Nodup) (hk : KeepH σ h hr n) (hren : Ren σ h v r) : Out n h v r hr σ.length := by
  intro w0 ok M w u hc hu
  refine ⟨fun i => (σ[i]?).bind M, ⟨hc.fr, fun id o hid hH => ?_, fun id id' o o' g k1 k2 k3 k4 k5 k6 => ?_, fun id o g k1 k2 k3 => ?_⟩, hren w0 ok n M w u hr hk hc hu⟩
  · obtain ⟨k, hs⟩ : ∃ k, σ[id]? = some k := ⟨σ[id], List.getElem?_eq_getElem hid⟩
    obtain ⟨h1, T, cs, h2, h3⟩ := hk id k hs
    rw [hH] at h3
    injection h3 with h3
    subst h3
    have := hc.obj k _ h1 h2
    show ObjRep _ ((σ[id]?).bind M) _
    rw [hs]
    rcases this with k1 | ⟨g, us, vs, k1, k2, k3, k4⟩
    · exact .inl k1
    · refine .inr ⟨g, us, vs, k1, k2, RepCs.mono (fun b hb hl => ⟨⟨hb.1, fun id' o' hid' hH' he => ?_⟩, hl, rfl⟩) _ _ k3, k4⟩
      obtain ⟨k', hs'⟩ : ∃ k, σ[id']? = some k := ⟨σ[id'], List.getElem?_eq_getElem hid'⟩
      obtain ⟨h1', T', cs', h2', h3'⟩ := hk id' k' hs'
      simp only [hs'] at he
      exact hb.2 k' _ h1' h2' he
  · obtain ⟨k, hs⟩ : ∃ k, σ[id]? = some k := ⟨σ[id], List.getElem?_eq_getElem k1⟩
    obtain ⟨k', hs'⟩ : ∃ k, σ[id']? = some k := ⟨σ[id'], List.getElem?_eq_getElem k2⟩
    obtain ⟨h1, T, cs, h2, h3⟩ := hk id k hs
    obtain ⟨h1', T', cs', h2', h3'⟩ := hk id' k' hs'
    simp only [hs, hs'] at k5 k6
    have := hc.inj k k' _ _ g h1 h1' h2 h2' k5 k6
    subst this
    have e1 := (List.getElem?_eq_some_iff.1 hs)
    have e2 := (List.getElem?_eq_some_iff.1 hs')
    exact nodup_inj hnd e1.1 e2.1 (e1.2.trans e2.2.symm)
  · obtain ⟨k, hs⟩ : ∃ k, σ[id]? = some k := ⟨σ[id], List.getElem?_eq_getElem k1⟩
    obtain ⟨h1, T, cs, h2, h3⟩ := hk id k hs
    simp only [hs] at k3
    exact hc.lo k _ g h1 h2 k3
theorem keep1 {k n : Nat} {T : TypeId} {cs : List CV} (hk : Nat.blt k n = true) (h1 : lk h k = some (.row T cs)) : KeepH [k] h [(0, .row T cs)] n := by
  intro i j hi
  have : i = 0 := by
    rcases Nat.eq_zero_or_pos i with h | h
    · exact h
    · rw [List.getElem?_eq_none (by simp; omega)] at hi; cases hi
  subst this
  simp at hi
  subst hi
  exact ⟨by simpa using hk, T, cs, h1, rfl⟩
theorem out_own {k n m size : Nat} {full : Bool} {T : TypeId} {cs : List CV} (hk : Nat.blt k n = true) (h1 : lk h k = some (.row T cs)) : Out n h (.own k 0 m size full) (.own 0 0 m size full) [(0, .row T cs)] 1 :=
  out_ren (σ := [k]) (by simp) (keep1 hk h1) (ren_own rfl)
end ren

def RetK (P : Program) (tab : Tab) (rs : List ResultVar) (r : AV) (hr : Heap) (nr : Nat) : AK :=
  fun e n env h dfs => (e = .normal ∨ e = .ret) ∧ IdleD P dfs ∧ ∃ v, ResL tab env h rs v ∧ Out n h v r hr nr
theorem retK_mk {P : Program} {tab : Tab} {rs : List ResultVar} {r v : AV} {hr h : Heap} {nr n : Nat} {e : Exit} {env : Env} {dfs : Defs} (he : e = .normal ∨ e = .ret) (hd : IdleD P dfs) (hv : ResL tab env h rs v) (ho : Out n h v r hr nr) : RetK P tab rs r hr nr e n env h dfs := ⟨he, hd, v, hv, ho⟩

theorem leaves_idle {P : Program} {fn : Func} {tmps : Array Value} {R : Ending → World → Prop} {fr : List Value} {C : Cx} : ∀ {dfs : Defs} {ds : List Deferred} {w : World}, IdleD P dfs → DefRep fr C dfs ds → (∃ v, (results fn tmps).run P w = .ok v w ∧ R (.returned v) w) → Leaves P fn tmps R ds .returning w
  | [], ds, w, _, hd, hr => by simp only [DefRep] at hd; subst hd; exact hr
  | (none, xs) :: r, ds, w, hi, hd, hr => leaves_idle (dfs := r) hi hd.2 hr
  | (some f, caps) :: r, ds, w, hi, hd, hr => by
    obtain ⟨us, ds', rfl, h2, h3⟩ := hd
    obtain ⟨i1, i2, i3⟩ := hi
    refine leaves_cons (by simp) (f := f) (args := us.toArray) (by simp only [invoke]; rw [Body.run i2]; simp) ((i1 us w h2.length).mono ?_)
    rintro e u' w' ⟨rfl, rfl, rfl⟩
    exact leaves_idle i3 h3 hr

theorem ac_enter {P : Program} {tab : Tab} (tb : TabOk P tab) {f : FuncId} {fn : Func} {c : Code} {args : List CV} {r : AV} {hr : Heap} {nr sz : Nat} (hf : P.funcs[f]? = some fn) (hb : fn.body = some c) (hsz : max fn.ntmps args.length = sz)
    (hx : AW P sz c (RetK P tab fn.results.toList r hr nr) 0 (enumE 0 args) [] []) : AC P f args r hr nr := by
  intro ok w vs hvs
  have hlen := hvs.length
  refine calls_of_wp_defers hf hb (wp_mono (hx ⟨w, [], ok, []⟩ _ w ⟨fun _ => none, concH_none (FrB.refl _ _), ?_, ?_, ?_⟩) ?_)
  · simp; omega
  · intro t av ht
    obtain ⟨c', h1, h2, rfl⟩ := enumE_get ht
    rw [Nat.sub_zero] at h2
    obtain ⟨u, hu, hru⟩ := hvs.get h2
    have : (vs.toArray ++ Array.replicate (fn.ntmps - vs.toArray.size) undef).getD t undef = u := by
      have hlt := (List.getElem?_eq_some_iff.1 hu).1
      have h9 := (List.getElem?_eq_some_iff.1 hu).2
      simp [Array.getElem?_append, hlt, h9]
    rw [this]
    simp only [Rep]
    exact RepC.mono (fun b hb hl => ⟨⟨.inl hb, fun id o hid => absurd hid (by simp [lt])⟩, hl, rfl⟩) _ _ hru
  · rfl
  · intro e a w' hq
    obtain ⟨n, env, h, dfs, ⟨h1, h2, v, h3, h4⟩, M, c1, c2, c3, c4⟩ := hq
    have : Leaves P fn a.tmps (fun e w' => ∃ v M, e = .returned v ∧ ConcH ⟨w, [], ok, []⟩ (lt nr) M (lk hr) w' ∧ Rep (cx ⟨w, [], ok, []⟩ nr M hr w') r v) a.defers .returning w' := by
      refine leaves_idle h2 c4 ?_
      obtain ⟨u, k1, k2⟩ := h3.run tb c1 c3
      obtain ⟨M', k3, k4⟩ := h4 w ok M w' u c1 k1
      exact ⟨u, k2, u, M', rfl, k3, k4⟩
    rcases h1 with rfl | rfl <;> exact this

/-- A contract under other words for the arguments and the result. -/
theorem AC.args {P : Program} {f : FuncId} {args args' : List CV} {r : AV} {hr : Heap} {nr : Nat} (h : AC P f args r hr nr) (hc : CvL args' args) : AC P f args' r hr nr := fun ok w vs hvs => h ok w vs (hc ok w vs hvs)
theorem AC.eq {P : Program} {f : FuncId} {args : List CV} {r r' : AV} {hr hr' : Heap} {nr : Nat} (h : AC P f args r hr nr) (hc : r = r') (hh : hr = hr') : AC P f args r' hr' nr := hc ▸ hh ▸ h

mutual
def AV.sh (k : Nat) : AV → AV
  | .c x => .c x
  | .ip cs off => .ip cs off
  | .junk => .junk
  | .ref id off => .ref (k + id) off
  | .own id off n size full => .own (k + id) off n size full
  | .agg xs => .agg (AV.shs k xs)
  | .tup xs => .tup (AV.shs k xs)
  | .fn f xs => .fn f (AV.shs k xs)
def AV.shs (k : Nat) : List AV → List AV
  | [] => []
  | x :: xs => AV.sh k x :: AV.shs k xs
end
structure Shf (k : Nat) (C C' : Cx) : Prop where
  dom : ∀ id, C.dom id → C'.dom (k + id) ∧ C'.M (k + id) = C.M id
  ok : Keeps C.ok C'.ok C.w C'.w
  shape : ∀ b x, C.w.shape? b = some x → C'.w.shape? b = some x
mutual
theorem Rep.sh {k : Nat} {C C' : Cx} (h : Shf k C C') : ∀ (x : AV) (u : Value), Rep C x u → Rep C' (x.sh k) u
  | .c x, u, hu => by simp only [Rep, AV.sh] at hu ⊢; exact RepC.mono h.ok x u hu
  | .ref id off, u, hu => by
    simp only [Rep, AV.sh] at hu ⊢
    obtain ⟨hd, g, hg, hu⟩ := hu
    obtain ⟨k1, k2⟩ := h.dom id hd
    exact ⟨k1, g, k2.trans hg, hu⟩
  | .own id off n size full, u, hu => by
    simp only [Rep, AV.sh] at hu ⊢
    obtain ⟨hd, hu⟩ := hu
    obtain ⟨k1, k2⟩ := h.dom id hd
    refine ⟨k1, ?_⟩
    rcases hu with ⟨h1, h2, h3, h4⟩ | ⟨g, cp, h1, h2, h3, h4, h5⟩ | h6
    · exact .inl ⟨h1, h2, k2.trans h3, h4⟩
    · exact .inr (.inl ⟨g, cp, k2.trans h1, h2, h3, h4, fun hf => let ⟨e, he⟩ := h5 hf; ⟨e, h.shape _ _ he⟩⟩)
    · exact .inr (.inr h6)
  | .ip cs off, u, hu => by
    simp only [Rep, AV.sh] at hu ⊢
    obtain ⟨b, o, us, h1, h2, h3, h4, h6, h5⟩ := hu
    obtain ⟨k1, k2, k3⟩ := h.ok b h2 h3
    exact ⟨b, o, us, h1, k1, k2, RepCs.mono h.ok cs us h4, h6, fun j x hx => by rw [World.cell?_of_block (w := C.w) k3]; exact h5 j x hx⟩
  | .agg xs, u, hu => by
    simp only [Rep, AV.sh] at hu ⊢
    obtain ⟨us, h1, h2⟩ := hu
    exact ⟨us, h1, RepL.sh h xs us h2⟩
  | .tup xs, u, hu => by
    simp only [Rep, AV.sh] at hu ⊢
    obtain ⟨us, h1, h2⟩ := hu
    exact ⟨us, h1, RepL.sh h xs us h2⟩
  | .fn f caps, u, hu => by
    simp only [Rep, AV.sh] at hu ⊢
    obtain ⟨us, h1, h2⟩ := hu
    exact ⟨us, h1, RepL.sh h caps us h2⟩
  | .junk, u, hu => by simp only [Rep, AV.sh]
theorem RepL.sh {k : Nat} {C C' : Cx} (h : Shf k C C') : ∀ (xs : List AV) (us : List Value), RepL C xs us → RepL C' (AV.shs k xs) us
  | [], us, hu => by simpa [RepL, AV.shs] using hu
  | c :: cs, us, hu => by
    simp only [RepL, AV.shs] at hu ⊢
    obtain ⟨u, us', h1, h2, h3⟩ := hu
    exact ⟨u, us', h1, Rep.sh h c u h2, RepL.sh h cs us' h3⟩
end
def AObj.sh (k : Nat) : AObj → AObj
  | .blk T cs => .blk T (AV.shs k cs)
  | .row T cs => .row T cs
  | .dead => .dead
def shH (k : Nat) : Heap → Heap
  | [] => []
  | p :: r => (k + p.1, p.2.sh k) :: shH k r
theorem shH_lk {k : Nat} : ∀ {h : Heap} {id : Nat}, lk (shH k h) (k + id) = (lk h id).map (AObj.sh k)
  | [], id => rfl
  | p :: r, id => by
    obtain ⟨i, o⟩ := p
    rw [shH, lk_cons, lk_cons]
    by_cases hi : i = id
    · subst hi; cases o <;> simp [AObj.sh, AObj.live]
    · rw [if_neg (by omega), if_neg hi]; exact shH_lk
theorem shH_none {k : Nat} : ∀ {h : Heap} {id : Nat}, id < k → lk (shH k h) id = none
  | [], id, _ => rfl
  | p :: r, id, hid => by
    rw [shH, lk_cons, if_neg (by omega)]; exact shH_none hid

theorem shH_keys {k : Nat} : ∀ {h : Heap}, ∀ p ∈ shH k h, k ≤ p.1
  | [], p, hp => by cases hp
  | q :: r, p, hp => by
    rw [shH] at hp
    rcases List.mem_cons.1 hp with rfl | hp
    · simp
    · exact shH_keys p hp
/-- Every id ahead of nr is there, and no other. -/
def covB (hr : Heap) (nr : Nat) : Bool := hr.all (fun p => Nat.blt p.1 nr) && (List.range nr).all fun i => (lk hr i).isSome
theorem covB_lt : ∀ {hr : Heap} {nr id : Nat}, hr.all (fun p => Nat.blt p.1 nr) = true → (lk hr id).isSome = true → id < nr
  | [], nr, id, _, h => by cases h
  | p :: r, nr, id, ha, h => by
    obtain ⟨i, o⟩ := p
    simp only [List.all_cons, Bool.and_eq_true, Nat.blt_eq] at ha
    rw [lk_cons] at h
    split at h
    · rename_i e; subst e; exact ha.1
    · exact covB_lt (by simpa using ha.2) h
theorem covB_spec {hr : Heap} {nr : Nat} (h : covB hr nr = true) (id : Nat) : id < nr ↔ (lk hr id).isSome = true := by
  simp only [covB, Bool.and_eq_true] at h
  constructor
  · intro hid
    exact List.all_eq_true.1 h.2 id (List.mem_range.2 hid)
  · exact covB_lt h.1

section call
variable {P : Program} {ev : Evl} {h : Heap} {d : Option Tmp} {ty : TypeId} {pos : String} {aft : Array Edge} {gd : Option (Nat × Bool)} {i : Nat} {f : FuncId} {xs : List Operand} {ats : Array TypeId} {r : AV} {hr : Heap} {nr : Nat}

theorem adds_call {cs cs' : List CV} (hb : Body P f) (hx : argsC ev xs = some cs) (hac : AC P f cs' r hr nr) (hcv : CvL cs cs') (hcov : covB hr nr = true) :
    Adds P ⟨d, .call ⟨.value (.func f), xs.toArray, ats⟩, ty, pos, aft, gd⟩ ev h (r.sh i) (shH i hr) i (i + nr) := by
  intro B dom M H w a K Q hh hn hc he hK
  have hargs : RepCs (okOf B dom M H) w cs (xs.map a.eval) := RepL.toC (C := ⟨dom, M, okOf B dom M H, w⟩) (evs_rep he (by rw [argsC_eq hx, List.map_map]; rfl))
  unfold Oper.wp execOp
  simp only [resolve, Deferred.ofValue, Act.eval, invoke, Sem.run_bind, Sem.run_pure, Result.andThen_ok, List.map_toArray, Array.append_empty, Body.run hb, Oper.upon]
  rw [show (#[] ++ (List.map a.eval xs).toArray : Array Value) = (List.map a.eval xs).toArray by simp]
  refine (hac _ w _ (hcv _ _ _ hargs)).mono ?_
  rintro e w' ⟨v, Mc, rfl, hcc, hv⟩
  simp only
  have hbl := hcc.fr.below
  let M' : Nat → Option Nat := fun id => if i ≤ id ∧ id < i + nr then Mc (id - i) else M id
  have hM1 : ∀ id, dom id → M' id = M id := fun id hid => by
    have : ¬ (i ≤ id ∧ id < i + nr) := fun h => (hn id h.1 h.2).1 hid
    simp [M', this]
  have hM2 : ∀ id, id < nr → M' (i + id) = Mc id := fun id hid => by
    have : i ≤ i + id ∧ i + id < i + nr := by omega
    simp [M', this]
  have hH : ∀ id, id < nr → H (i + id) = (lk hr id).map (AObj.sh i) := fun id hid => by
    rw [(hn (i + id) (by omega) (by omega)).2, shH_lk]
  have hsplit : ∀ id, i ≤ id → id < i + nr → ∃ k, id = i + k ∧ k < nr := fun id h1 h2 => ⟨id - i, by omega, by omega⟩
  have hobj : ∀ k, k < nr → ∃ o, lk hr k = some o ∧ H (i + k) = some (o.sh i) := fun k hk => by
    have := (covB_spec hcov k).1 hk
    obtain ⟨o, ho⟩ := Option.isSome_iff_exists.1 this
    exact ⟨o, ho, by rw [hH k hk, ho]; rfl⟩
  have hnew : ∀ k g, k < nr → Mc k = some g → w.heap.size ≤ g := fun k g hk hg => by
    obtain ⟨o, ho, _⟩ := hobj k hk
    rcases hcc.lo k o g hk ho hg with h1 | h1
    · exact h1
    · cases h1
  have hshf : Ext ⟨dom, M, okOf B dom M H, w⟩ ⟨ad dom i (i + nr), M', okOf B (ad dom i (i + nr)) M' H, w'⟩ → Shf i (cx ⟨w, [], okOf B dom M H, []⟩ nr Mc hr w') ⟨ad dom i (i + nr), M', okOf B (ad dom i (i + nr)) M' H, w'⟩ := fun hext => by
    refine ⟨fun id hid => ⟨.inr ⟨by omega, by simp only [cx, lt] at hid; omega⟩, hM2 id hid⟩, fun b hb hl => ⟨?_, hl, rfl⟩, fun _ _ h => h⟩
    obtain ⟨hb1, hb2⟩ := hb
    refine ⟨?_, fun id o hid hH' he' => ?_⟩
    · rcases hb1 with hb1 | hb1 | hb1
      · exact hb1.1
      · exact .inr (.inl (Nat.le_trans hc.fr.size hb1))
      · cases hb1
    · rcases hid with hid | ⟨h1, h2⟩
      · have e1 := (hM1 id hid).symm.trans he'
        rcases hb1 with hb1 | hb1 | hb1
        · exact hb1.2 id o hid hH' e1
        · have := (hc.obj id o hid hH').lt b e1
          simp only at this hb1
          omega
        · cases hb1
      · obtain ⟨k, rfl, hk⟩ := hsplit id h1 h2
        obtain ⟨o', ho', _⟩ := hobj k hk
        exact hb2 k o' hk ho' ((hM2 k hk).symm.trans he')
  have hg := hc.grow hbl i (i + nr) (M' := M') hM1 (fun id h1 h2 => (hn id h1 h2).1)
    (fun id o h1 h2 h3 g hg => by
      obtain ⟨k, rfl, hk⟩ := hsplit id h1 h2
      exact hnew k g hk ((hM2 k hk).symm.trans hg))
    (fun id id' o o' g h1 h2 h3 h4 h5 h6 h7 h8 => by
      obtain ⟨k, rfl, hk⟩ := hsplit id h1 h2
      obtain ⟨k', rfl, hk'⟩ := hsplit id' h3 h4
      obtain ⟨q, hq, _⟩ := hobj k hk
      obtain ⟨q', hq', _⟩ := hobj k' hk'
      rw [hcc.inj k k' q q' g hk hk' hq hq' ((hM2 k hk).symm.trans h7) ((hM2 k' hk').symm.trans h8)])
    (fun hext id o h1 h2 h3 => by
      obtain ⟨k, rfl, hk⟩ := hsplit id h1 h2
      obtain ⟨q, hq, hq2⟩ := hobj k hk
      rw [hq2] at h3
      injection h3 with h3
      subst h3
      rw [hM2 k hk]
      have := hcc.obj k q hk hq
      cases q with
      | blk T cs =>
        obtain ⟨g, us, k1, k2, k3⟩ := this
        exact ⟨g, us, k1, k2, RepL.sh (hshf hext) _ _ k3⟩
      | row T cs =>
        rcases this with k1 | ⟨g, us, vs, k1, k2, k3, k4⟩
        · exact .inl k1
        · exact .inr ⟨g, us, vs, k1, k2, RepCs.mono (hshf hext).ok _ _ k3, k4⟩
      | dead => exact this.elim)
  exact hK v w' M' hg.2 hg.1 (Rep.sh (hshf hg.2) _ _ hv)
end call

section
variable {P : Program} {sz n : Nat} {env : Env} {h : Heap} {dfs : Defs} {K : AK} {ops : Array Oper} {rest : List Oper} {d : Option Tmp} {ty : TypeId} {pos : String} {aft : Array Edge} {gd : Option (Nat × Bool)} {f : FuncId} {xs : List Operand} {ats : Array TypeId} {r : AV} {hr : Heap} {nr : Nat}
/-- A call, in the text's order. -/
theorem awl_call {cs cs' : List CV} (hg : guardA ops env ⟨d, .call ⟨.value (.func f), xs.toArray, ats⟩, ty, pos, aft, gd⟩ true) (hd : dstOk d sz = true) (hb : Body P f) (hx : argsC (evA env) xs = some cs) (hac : AC P f cs' r hr nr) (hcv : CvL cs cs') (hcov : covB hr nr = true)
    (next : AWL P ops sz rest K (n + nr) (putE env d (r.sh n)) (shH n hr ++ h) dfs) : AWL P ops sz (⟨d, .call ⟨.value (.func f), xs.toArray, ats⟩, ty, pos, aft, gd⟩ :: rest) K n env h dfs :=
  awl_adds hg hd (Nat.le_add_right _ _) (adds_call hb hx hac hcv hcov) (fun id h1 h2 => by
    have := (covB_spec hcov (id - n)).1 (by omega)
    obtain ⟨o, ho⟩ := Option.isSome_iff_exists.1 this
    rw [show id = n + (id - n) by omega, shH_lk, ho]; rfl) shH_keys next
end
end Go.Av
