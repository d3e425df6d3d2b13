/-
  The walk over abstract values: code, loops, functions, calls. For every program.
-/
import Derived.Test.YtgofigkhdjjlmaaAvB
set_option linter.unusedVariables false
set_option linter.unusedSimpArgs false
namespace Go.Av
open Go Go.RowKit

/-- Deferred closures, and what the waiting frames hold (none). -/
abbrev Defs := List (Option FuncId × List AV)
def DefRep (fr : List Value) (C : Cx) : Defs → List Deferred → Prop
  | [], ds => ds = []
  | (some f, caps) :: r, ds => ∃ us ds', ds = { target := .fn (.func f) us.toArray, args := #[] } :: ds' ∧ RepL C caps us ∧ DefRep fr C r ds'
  | (none, xs) :: r, ds => RepL C xs fr ∧ DefRep fr C r ds
theorem DefRep.ext {fr : List Value} {C C' : Cx} (h : Ext C C') : ∀ {l : Defs} {ds : List Deferred}, DefRep fr C l ds → DefRep fr C' l ds
  | [], ds, hd => hd
  | (some f, caps) :: r, ds, hd => by
    obtain ⟨us, ds', h1, h2, h3⟩ := hd
    exact ⟨us, ds', h1, RepL.ext h _ _ h2, DefRep.ext h h3⟩
  | (none, xs) :: r, ds, hd => ⟨RepL.ext h _ _ hd.1, DefRep.ext h hd.2⟩

abbrev lt (n : Nat) : Nat → Prop := fun id => id < n
def cx (B : Bs) (n : Nat) (M : Nat → Option Nat) (h : Heap) (w : World) : Cx := ⟨lt n, M, okOf B (lt n) M (lk h), w⟩

def Conc (B : Bs) (sz n : Nat) (env : Env) (h : Heap) (dfs : Defs) (a : Act) (w : World) : Prop :=
  ∃ M, ConcH B (lt n) M (lk h) w ∧ a.tmps.size = sz ∧ (∀ t av, lkE env t = some av → Rep (cx B n M h w) av (a.tmps.getD t undef)) ∧ DefRep B.fr (cx B n M h w) dfs a.defers

abbrev AK := Exit → Nat → Env → Heap → Defs → Prop
def KC (B : Bs) (sz : Nat) (K : AK) (e : Exit) (a : Act) (w : World) : Prop := ∃ n env h dfs, K e n env h dfs ∧ Conc B sz n env h dfs a w
def AW (P : Program) (sz : Nat) (c : Code) (K : AK) (n : Nat) (env : Env) (h : Heap) (dfs : Defs) : Prop :=
  ∀ B a w, Conc B sz n env h dfs a w → c.wp P (KC B sz K) a w
def AWL (P : Program) (ops : Array Oper) (sz : Nat) (l : List Oper) (K : AK) (n : Nat) (env : Env) (h : Heap) (dfs : Defs) : Prop :=
  ∀ B a w, Conc B sz n env h dfs a w → wpList P ops (KC B sz K) l a w

def thenA (next : Nat → Env → Heap → Defs → Prop) (K : AK) : AK
  | .normal, n, env, h, dfs => next n env h dfs
  | e, n, env, h, dfs => K e n env h dfs
def inBlk (id : Nat) (K : AK) : AK
  | .exit id', n, env, h, dfs => match Nat.beq id' id with | true => K .normal n env h dfs | false => K (.exit id') n env h dfs
  | e, n, env, h, dfs => K e n env h dfs

section rules
variable {P : Program} {sz n : Nat} {env : Env} {h : Heap} {dfs : Defs} {K : AK}

theorem aw_seq {x y : Code} (hx : AW P sz x (thenA (AW P sz y K) K) n env h dfs) : AW P sz (.seq x y) K n env h dfs := by
  intro B a w hc
  refine wp_seq (wp_mono (hx B a w hc) fun e a w hq => ?_)
  obtain ⟨n', env', h', d', hk, hc'⟩ := hq
  cases e <;> first | exact hk B a w hc' | exact ⟨n', env', h', d', hk, hc'⟩
theorem aw_skip (hk : K .normal n env h dfs) : AW P sz .skip K n env h dfs := fun B a w hc => wp_skip ⟨n, env, h, dfs, hk, hc⟩
theorem aw_ret (hk : K .ret n env h dfs) : AW P sz .ret K n env h dfs := fun B a w hc => wp_ret ⟨n, env, h, dfs, hk, hc⟩
theorem aw_exit {id : Nat} (hk : K (.exit id) n env h dfs) : AW P sz (.exit id) K n env h dfs := fun B a w hc => wp_exit ⟨n, env, h, dfs, hk, hc⟩
theorem aw_block {id : Nat} {c : Code} (hx : AW P sz c (inBlk id K) n env h dfs) : AW P sz (.block id c) K n env h dfs := by
  intro B a w hc
  refine wp_block (wp_mono (hx B a w hc) fun e a w hq => ?_)
  obtain ⟨n', env', h', d', hk, hc'⟩ := hq
  cases e with
  | exit id' =>
    simp only [inBlk] at hk
    simp only [Exit.inBlock]
    split at hk
    · rename_i he
      rw [if_pos (Nat.eq_of_beq_eq_true he)]
      exact ⟨n', env', h', d', hk, hc'⟩
    · rename_i he
      rw [if_neg (fun e => by subst e; rw [Nat.beq_refl] at he; cases he)]
      exact ⟨n', env', h', d', hk, hc'⟩
  | _ => exact ⟨n', env', h', d', hk, hc'⟩
theorem rep_eval {B : Bs} {a : Act} {w : World} {M : Nat → Option Nat} (he : ∀ t av, lkE env t = some av → Rep (cx B n M h w) av (a.tmps.getD t undef)) : ∀ x av, evA env x = some av → Rep (cx B n M h w) av (a.eval x) := by
  intro x av hx
  cases x with
  | tmp t => exact he t av hx
  | const v => simp only [evA, Option.some.injEq] at hx; subst hx; simp [Rep, RepC, Act.eval]
  | global g => cases hx
  | func f => simp only [evA, Option.some.injEq] at hx; subst hx; exact ⟨[], rfl, rfl⟩
theorem aw_cond {c : Operand} {x y : Code} {b : Bool} (hb : evA env c = some (.c (.v (.bool b)))) (ht : b = true → AW P sz x K n env h dfs) (hf : b = false → AW P sz y K n env h dfs) : AW P sz (.cond c x y) K n env h dfs := by
  intro B a w hc
  obtain ⟨M, h1, h2, h3, h4⟩ := id hc
  have := rep_eval h3 c _ hb
  simp only [Rep, RepC] at this
  cases b with
  | true => exact wp_cond this (ht rfl B a w hc)
  | false => exact wp_cond this (hf rfl B a w hc)
theorem aw_condT {c : Operand} {x y : Code} {b : Bool} (hb : evA env c = some (.c (.v (.bool b)))) (hb' : b = true) (ht : AW P sz x K n env h dfs) : AW P sz (.cond c x y) K n env h dfs := by
  subst hb'; exact aw_cond hb (fun _ => ht) (fun h => by cases h)
theorem aw_condF {c : Operand} {x y : Code} {b : Bool} (hb : evA env c = some (.c (.v (.bool b)))) (hb' : b = false) (ht : AW P sz y K n env h dfs) : AW P sz (.cond c x y) K n env h dfs := by
  subst hb'; exact aw_cond hb (fun h => by cases h) (fun _ => ht)

/-- What is known less of. -/
def Weak (n : Nat) (env : Env) (h : Heap) (dfs : Defs) (N : Nat) (E : Env) (Hp : Heap) (D : Defs) : Prop := ∀ B sz a w, Conc B sz n env h dfs a w → Conc B sz N E Hp D a w

theorem aw_weak {c : Code} {N : Nat} {E : Env} {Hp : Heap} {D : Defs} (hw : Weak n env h dfs N E Hp D) (hx : AW P sz c K N E Hp D) : AW P sz c K n env h dfs := fun B a w hc => hx B a w (hw B sz a w hc)
theorem aw_mono {c : Code} {K' : AK} (hx : AW P sz c K' n env h dfs) (hk : ∀ e n env h dfs, K' e n env h dfs → K e n env h dfs) : AW P sz c K n env h dfs := by
  intro B a w hc
  refine wp_mono (hx B a w hc) fun e a w hq => ?_
  obtain ⟨n', env', h', d', hk', hc'⟩ := hq
  exact ⟨n', env', h', d', hk _ _ _ _ _ hk', hc'⟩

theorem exists_min (p : Nat → Prop) (hp : ∃ m, p m) : ∃ m, p m ∧ ∀ k, p k → m ≤ k := by
  obtain ⟨m, hm⟩ := hp
  induction m using Nat.strongRecOn with
  | _ m ih =>
    by_cases h : ∃ k, k < m ∧ p k
    · obtain ⟨k, hk, hpk⟩ := h
      exact ih k hk hpk
    · refine ⟨m, hm, fun k hk => ?_⟩
      rcases Nat.lt_or_ge k m with h1 | h1
      · exact absurd ⟨k, h1, hk⟩ h
      · exact h1

theorem aw_loop {ι : Type} {c : Code} (N : Nat) (E : ι → Env) (Hp : ι → Heap) (D : Defs) (Inv : ι → Prop) (μ : ι → Nat) (i0 : ι) (h0 : Inv i0) (hw : Weak n env h dfs N (E i0) (Hp i0) D)
    (round : ∀ i, Inv i → AW P sz c (thenA (fun n' env' h' dfs' => ∃ j, Inv j ∧ μ j < μ i ∧ Weak n' env' h' dfs' N (E j) (Hp j) D) K) N (E i) (Hp i) D) : AW P sz (.loop c) K n env h dfs := by
  intro B a w hc
  classical
  let I : Act → World → Prop := fun a w => ∃ i, Inv i ∧ Conc B sz N (E i) (Hp i) D a w
  let p : Act → World → Nat → Prop := fun a w m => ∃ i, Inv i ∧ Conc B sz N (E i) (Hp i) D a w ∧ μ i = m
  let μ' : Act → World → Nat := fun a w => if hI : ∃ m, p a w m then Classical.choose (exists_min _ hI) else 0
  refine wp_loop I μ' ⟨i0, h0, hw B sz a w hc⟩ fun a w hI => ?_
  have hI' : ∃ m, p a w m := by
    obtain ⟨i, h1, h2⟩ := hI
    exact ⟨μ i, i, h1, h2, rfl⟩
  obtain ⟨⟨i, h1, h2, h3⟩, _⟩ := Classical.choose_spec (exists_min _ hI')
  have hm : μ' a w = μ i := by simp only [μ', dif_pos hI', h3]
  refine wp_mono (round i h1 B a w h2) fun e a' w' hq => ?_
  obtain ⟨n', env', h', d', hk, hc'⟩ := hq
  cases e with
  | normal =>
    obtain ⟨j, hj1, hj2, hj3⟩ := hk
    have hcj := hj3 B sz a' w' hc'
    refine ⟨⟨j, hj1, hcj⟩, ?_⟩
    have hJ : ∃ m, p a' w' m := ⟨μ j, j, hj1, hcj, rfl⟩
    have : μ' a' w' ≤ μ j := by
      simp only [μ', dif_pos hJ]
      exact (Classical.choose_spec (exists_min _ hJ)).2 _ ⟨j, hj1, hcj, rfl⟩
    omega
  | _ => exact ⟨n', env', h', d', hk, hc'⟩

/-- A region in the text's order. -/
theorem aw_region {id : Nat} {l : List Oper} (hx : AWL P l.toArray sz l K n env h dfs) : AW P sz (.region id l.toArray false) K n env h dfs := fun B a w hc => wp_region_lit (hx B a w hc)
theorem awl_nil {ops : Array Oper} (hk : K .normal n env h dfs) : AWL P ops sz [] K n env h dfs := fun B a w hc => ⟨n, env, h, dfs, hk, hc⟩

def putE (env : Env) (d : Option Tmp) (v : AV) : Env := match d with | some t => (t, v) :: env | none => env

theorem lk_app_some {Δ h : Heap} {k : Nat} {o : AObj} (ho : lk Δ k = some o) : lk (Δ ++ h) k = some o := by
  induction Δ with
  | nil => cases ho
  | cons p Δ ih =>
    obtain ⟨i, q⟩ := p
    rw [List.cons_append, lk_cons]
    rw [lk_cons] at ho
    split
    · rename_i e; rw [if_pos e] at ho; exact ho
    · rename_i e; rw [if_neg e] at ho; exact ih ho
theorem lk_app_none {Δ h : Heap} {k : Nat} (ho : ∀ p ∈ Δ, p.1 ≠ k) : lk (Δ ++ h) k = lk h k := by
  induction Δ with
  | nil => rfl
  | cons p Δ ih =>
    obtain ⟨i, q⟩ := p
    rw [List.cons_append, lk_cons, if_neg (ho (i, q) (by simp))]
    exact ih fun p hp => ho p (by simp [hp])

theorem lt_ad {n n' : Nat} (h : n ≤ n') : ad (lt n) n n' = lt n' := by
  funext id
  simp only [ad, lt, eq_iff_iff]
  omega

theorem put_env {B : Bs} {a : Act} {w w' : World} {M M' : Nat → Option Nat} {n' : Nat} {h' : Heap} (hs : a.tmps.size = sz) (he : ∀ t av, lkE env t = some av → Rep (cx B n M h w) av (a.tmps.getD t undef))
    (hext : Ext (cx B n M h w) (cx B n' M' h' w')) {d : Option Tmp} {v : AV} {u : Value} (hd : ∀ t, d = some t → t < sz) (hv : Rep (cx B n' M' h' w') v u) :
    (a.put d u).tmps.size = sz ∧ (∀ t av, lkE (putE env d v) t = some av → Rep (cx B n' M' h' w') av ((a.put d u).tmps.getD t undef)) ∧ (a.put d u).defers = a.defers := by
  cases d with
  | none => exact ⟨hs, fun t av ht => Rep.ext hext _ _ (he t av ht), rfl⟩
  | some k =>
    have hk := hd k rfl
    refine ⟨by simp [Act.put, hs], fun t av ht => ?_, rfl⟩
    simp only [putE, lkE_cons] at ht
    by_cases hkt : k = t
    · subst hkt
      rw [if_pos rfl] at ht
      injection ht with ht
      subst ht
      simp only [Act.put]
      rw [show (a.tmps.setIfInBounds k u).getD k undef = u by simp [hs, hk]]
      exact hv
    · rw [if_neg hkt] at ht
      simp only [Act.put]
      rw [show (a.tmps.setIfInBounds k u).getD t undef = a.tmps.getD t undef by simp [Array.getElem?_setIfInBounds_ne hkt]]
      exact Rep.ext hext _ _ (he t av ht)

/-- The guard of an operation, by what is known. -/
def guardA (ops : Array Oper) (env : Env) (o : Oper) (b : Bool) : Prop :=
  match o.guard with
  | none => b = true
  | some (j, want) => ∃ t c, (ops[j]?).bind (·.dst) = some t ∧ lkE env t = some (.c (.v (.bool c))) ∧ (c == want) = b

theorem guardA.wanted {ops : Array Oper} {o : Oper} {b : Bool} {B : Bs} {a : Act} {w : World} {M : Nat → Option Nat} (hg : guardA ops env o b) (he : ∀ t av, lkE env t = some av → Rep (cx B n M h w) av (a.tmps.getD t undef)):
    Region.wanted o (yielded ops a.tmps) = b := by
  unfold guardA at hg
  unfold Region.wanted
  cases hgd : o.guard with
  | none => rw [hgd] at hg; exact hg.symm
  | some p =>
    obtain ⟨j, want⟩ := p
    rw [hgd] at hg
    obtain ⟨t, c, h1, h2, h3⟩ := hg
    have h4 := he t _ h2
    simp only [Rep, RepC] at h4
    have hlt : t < a.tmps.size := by
      rcases Nat.lt_or_ge t a.tmps.size with h1 | h1
      · exact h1
      · simp [h1, undef] at h4
    have : yielded ops a.tmps j = some c := by
      unfold yielded
      rw [h1]
      have h5 : a.tmps[t]? = some (.bool c) := by
        rw [← h4]
        simp [hlt]
      simp [h5]
    simp only [this]
    rw [← h3]
    cases c <;> cases want <;> rfl
end rules
end Go.Av
