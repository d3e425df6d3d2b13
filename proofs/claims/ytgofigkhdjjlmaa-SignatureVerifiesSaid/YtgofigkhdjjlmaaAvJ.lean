/-
  Regions that draw their order, over abstract values: what reads or makes memory comes in any order, the rest in the text's. For every program.
-/
import Derived.Test.YtgofigkhdjjlmaaAvW
import Derived.LoopN
set_option linter.unusedVariables false
set_option linter.unusedSimpArgs false
namespace Go.Av
open Go Go.RowKit

def memB : List Nat → Nat → Bool
  | [], _ => false
  | x :: r, t => match Nat.beq x t with | true => true | false => memB r t
theorem memB_mem : ∀ {l : List Nat} {t : Nat}, memB l t = true → t ∈ l
  | [], t, h => by cases h
  | x :: r, t, h => by
    unfold memB at h
    split at h
    · rename_i e; rw [Nat.eq_of_beq_eq_true e]; simp
    · exact List.mem_cons_of_mem _ (memB_mem h)
def evT (ts : List Nat) (env : Env) : Evl
  | .tmp t => match memB ts t with | true => lkE env t | false => none
  | .const x => some (.c (.v x))
  | .global _ => none
  | .func f => some (.fn f [])

theorem lk_mem : ∀ {h : Heap} {id : Nat} {o : AObj}, lk h id = some o → ∃ p ∈ h, p.1 = id
  | [], id, o, h => by cases h
  | p :: r, id, o, h => by
    obtain ⟨i, q⟩ := p
    rw [lk_cons] at h
    split at h
    · rename_i e; exact ⟨(i, q), by simp, e⟩
    · obtain ⟨p, hp, he⟩ := lk_mem h
      exact ⟨p, by simp [hp], he⟩

/-- The head's operations in the text's order, and what each yields. -/
inductive Chain (P : Program) (ops : Array Oper) : List Oper → Env → Heap → Nat → List AV → List Nat → Env → Heap → Nat → Prop
  | nil {env : Env} {h : Heap} {n : Nat} : Chain P ops [] env h n [] [n] env h n
  | add {o : Oper} {os : List Oper} {env E : Env} {h Δ H : Heap} {n n' N : Nat} {v : AV} {vs : List AV} {ns : List Nat} (hg : guardA ops env o true) (hn : n ≤ n') (hA : Adds P o (evT (o.looksAt ops) env) h v Δ n n') (hcov : ∀ id, n ≤ id → id < n' → (lk Δ id).isSome = true) (hkeys : ∀ p ∈ Δ, n ≤ p.1 ∧ p.1 < n')
      (hr : Chain P ops os (putE env o.dst v) (Δ ++ h) n' vs ns E H N) : Chain P ops (o :: os) env h n (v :: vs) (n :: ns) E H N
  | skip {o : Oper} {os : List Oper} {env E : Env} {h H : Heap} {n N : Nat} {vs : List AV} {ns : List Nat} (hg : guardA ops env o false)
      (hr : Chain P ops os (putE env o.dst .junk) h n vs ns E H N) : Chain P ops (o :: os) env h n (.junk :: vs) (n :: ns) E H N

theorem Chain.le {P : Program} {ops : Array Oper} {l : List Oper} {env E : Env} {h H : Heap} {n N : Nat} {vs : List AV} {ns : List Nat} (hc : Chain P ops l env h n vs ns E H N) : n ≤ N ∧ ns[0]? = some n ∧ ns.length = l.length + 1 ∧ vs.length = l.length ∧ ns[l.length]? = some N ∧ ∀ id, id < n → lk H id = lk h id := by
  induction hc with
  | nil => exact ⟨Nat.le_refl _, rfl, rfl, rfl, rfl, fun _ _ => rfl⟩
  | add hg hn hA hcov hkeys hr ih =>
    obtain ⟨h1, h2, h3, h4, h5, h6⟩ := ih
    refine ⟨by omega, rfl, by simp [h3], by simp [h4], by simpa using h5, fun id hid => ?_⟩
    rw [h6 id (by omega)]
    exact lk_app_none fun p hp e => by have := (hkeys p hp).1; omega
  | skip hg hr ih =>
    obtain ⟨h1, h2, h3, h4, h5, h6⟩ := ih
    exact ⟨h1, rfl, by simp [h3], by simp [h4], by simpa using h5, h6⟩

/-- The step of one operation of the head. -/
structure StepAt (P : Program) (ops : Array Oper) (l : List Oper) (env0 : Env) (vs : List AV) (ns : List Nat) (H : Heap) (N i : Nat) (o : Oper) (env : Env) (h Δ : Heap) (n n' : Nat) (v : AV) : Prop where
  step : (guardA ops env o true ∧ Adds P o (evT (o.looksAt ops) env) h v Δ n n') ∨ (guardA ops env o false ∧ v = .junk ∧ n' = n)
  hv : vs[i]? = some v
  hn : ns[i]? = some n
  hn' : ns[i + 1]? = some n'
  le : n ≤ n' ∧ n' ≤ N
  env : ∀ t av, lkE env t = some av → (∃ j oj, j < i ∧ l[j]? = some oj ∧ oj.dst = some t ∧ vs[j]? = some av) ∨ (lkE env0 t = some av ∧ ∀ j oj, j < i → l[j]? = some oj → oj.dst ≠ some t)
  old : ∀ id, id < n → lk H id = lk h id
  new : ∀ id, n ≤ id → id < n' → lk H id = lk Δ id
  keys : ∀ p ∈ h, p.1 < n

theorem Chain.get {P : Program} {ops : Array Oper} {l : List Oper} {env E : Env} {h H : Heap} {n N : Nat} {vs : List AV} {ns : List Nat} (hc : Chain P ops l env h n vs ns E H N) :
    (∀ p ∈ h, p.1 < n) → ∀ i o, l[i]? = some o → ∃ env' h' Δ n1 n2 v, StepAt P ops l env vs ns H N i o env' h' Δ n1 n2 v := by
  induction hc with
  | nil => intro _ i o hi; simp at hi
  | @add o os env E h Δ H n n' N v vs ns hg hn hA hcov hkeys hr ih =>
    intro hk0 i o' hi
    have hk1 : ∀ p ∈ Δ ++ h, p.1 < n' := fun p hp => (List.mem_append.1 hp).elim (fun hp => (hkeys p hp).2) (fun hp => by have := hk0 p hp; omega)
    have hle := hr.le
    cases i with
    | zero =>
      simp at hi; subst hi
      refine ⟨env, h, Δ, n, n', v, .inl ⟨hg, hA⟩, rfl, rfl, by simpa using hle.2.1, ⟨hn, hle.1⟩, fun t av ht => .inr ⟨ht, fun j oj hj => by omega⟩, fun id hid => ?_, fun id h1 h2 => ?_, hk0⟩
      · rw [hle.2.2.2.2.2 id (by omega)]
        exact lk_app_none fun p hp e => by have := (hkeys p hp).1; omega
      · rw [hle.2.2.2.2.2 id (by omega)]
        obtain ⟨q, hq⟩ := Option.isSome_iff_exists.1 (hcov id h1 h2)
        rw [lk_app_some hq, hq]
    | succ i =>
      obtain ⟨env', h', Δ', n1, n2, v', s⟩ := ih hk1 i o' (by simpa using hi)
      refine ⟨env', h', Δ', n1, n2, v', s.step, by simpa using s.hv, by simpa using s.hn, by simpa using s.hn', s.le, fun t av ht => ?_, s.old, s.new, s.keys⟩
      rcases s.env t av ht with ⟨j, oj, h1, h2, h3, h4⟩ | ⟨h1, h2⟩
      · exact .inl ⟨j + 1, oj, by omega, by simpa using h2, h3, by simpa using h4⟩
      · cases hd : o.dst with
        | none =>
          rw [hd] at h1
          exact .inr ⟨h1, fun j oj hj hl => by
            cases j with
            | zero => simp at hl; subst hl; rw [hd]; simp
            | succ j => exact h2 j oj (by omega) (by simpa using hl)⟩
        | some d =>
          rw [hd] at h1
          simp only [putE, lkE_cons] at h1
          by_cases hdt : d = t
          · rw [if_pos hdt] at h1
            injection h1 with h1
            subst h1
            exact .inl ⟨0, o, by omega, rfl, by rw [hd, hdt], rfl⟩
          · rw [if_neg hdt] at h1
            exact .inr ⟨h1, fun j oj hj hl => by
              cases j with
              | zero => simp at hl; subst hl; rw [hd]; intro e; exact hdt (Option.some.inj e)
              | succ j => exact h2 j oj (by omega) (by simpa using hl)⟩
  | @skip o os env E h H n N vs ns hg hr ih =>
    intro hk0 i o' hi
    have hle := hr.le
    cases i with
    | zero =>
      simp at hi; subst hi
      exact ⟨env, h, [], n, n, .junk, .inr ⟨hg, rfl, rfl⟩, rfl, rfl, by simpa using hle.2.1, ⟨Nat.le_refl _, hle.1⟩, fun t av ht => .inr ⟨ht, fun j oj hj => by omega⟩, fun id hid => hle.2.2.2.2.2 id hid, fun id h1 h2 => by omega, hk0⟩
    | succ i =>
      obtain ⟨env', h', Δ', n1, n2, v', s⟩ := ih hk0 i o' (by simpa using hi)
      refine ⟨env', h', Δ', n1, n2, v', s.step, by simpa using s.hv, by simpa using s.hn, by simpa using s.hn', s.le, fun t av ht => ?_, s.old, s.new, s.keys⟩
      rcases s.env t av ht with ⟨j, oj, h1, h2, h3, h4⟩ | ⟨h1, h2⟩
      · exact .inl ⟨j + 1, oj, by omega, by simpa using h2, h3, by simpa using h4⟩
      · cases hd : o.dst with
        | none =>
          rw [hd] at h1
          exact .inr ⟨h1, fun j oj hj hl => by
            cases j with
            | zero => simp at hl; subst hl; rw [hd]; simp
            | succ j => exact h2 j oj (by omega) (by simpa using hl)⟩
        | some d =>
          rw [hd] at h1
          simp only [putE, lkE_cons] at h1
          by_cases hdt : d = t
          · rw [if_pos hdt] at h1
            injection h1 with h1
            subst h1
            exact .inl ⟨0, o, by omega, rfl, by rw [hd, hdt], rfl⟩
          · rw [if_neg hdt] at h1
            exact .inr ⟨h1, fun j oj hj hl => by
              cases j with
              | zero => simp at hl; subst hl; rw [hd]; intro e; exact hdt (Option.some.inj e)
              | succ j => exact h2 j oj (by omega) (by simpa using hl)⟩

/-- What the end of the chain knows of the slots. -/
theorem Chain.envEnd {P : Program} {ops : Array Oper} {l : List Oper} {env E : Env} {h H : Heap} {n N : Nat} {vs : List AV} {ns : List Nat} (hc : Chain P ops l env h n vs ns E H N) :
    ∀ t av, lkE E t = some av → (∃ j oj, j < l.length ∧ l[j]? = some oj ∧ oj.dst = some t ∧ vs[j]? = some av) ∨ (lkE env t = some av ∧ ∀ (j : Nat) (oj : Oper), l[j]? = some oj → oj.dst ≠ some t) := by
  have key : ∀ {o : Oper} {os : List Oper} {env E : Env} {v : AV} {vs : List AV}, (∀ t av, lkE E t = some av → (∃ j oj, j < os.length ∧ os[j]? = some oj ∧ oj.dst = some t ∧ vs[j]? = some av) ∨ (lkE (putE env o.dst v) t = some av ∧ ∀ (j : Nat) (oj : Oper), os[j]? = some oj → oj.dst ≠ some t)) →
      ∀ t av, lkE E t = some av → (∃ j oj, j < (o :: os).length ∧ (o :: os)[j]? = some oj ∧ oj.dst = some t ∧ (v :: vs)[j]? = some av) ∨ (lkE env t = some av ∧ ∀ (j : Nat) (oj : Oper), (o :: os)[j]? = some oj → oj.dst ≠ some t) := by
    intro o os env E v vs ih t av ht
    rcases ih t av ht with ⟨j, oj, h1, h2, h3, h4⟩ | ⟨h1, h2⟩
    · exact .inl ⟨j + 1, oj, by simp; omega, by simpa using h2, h3, by simpa using h4⟩
    · cases hd : o.dst with
      | none =>
        rw [hd] at h1
        exact .inr ⟨h1, fun j oj hl => by
          cases j with
          | zero => simp at hl; subst hl; rw [hd]; simp
          | succ j => exact h2 j oj (by simpa using hl)⟩
      | some d =>
        rw [hd] at h1
        simp only [putE, lkE_cons] at h1
        by_cases hdt : d = t
        · rw [if_pos hdt] at h1
          injection h1 with h1
          subst h1
          exact .inl ⟨0, o, by simp, rfl, by rw [hd, hdt], rfl⟩
        · rw [if_neg hdt] at h1
          exact .inr ⟨h1, fun j oj hl => by
            cases j with
            | zero => simp at hl; subst hl; rw [hd]; intro e; exact hdt (Option.some.inj e)
            | succ j => exact h2 j oj (by simpa using hl)⟩
  induction hc with
  | nil => intro t av ht; exact .inr ⟨ht, fun j oj hl => by simp at hl⟩
  | add hg hn hA hcov hkeys hr ih => exact key ih
  | skip hg hr ih => exact key ih

/-- The head's form, for the kernel. -/
def dstsB (l : List Oper) (t : Nat) : Bool := l.any fun o => match o.dst with | some d => Nat.beq d t | none => false
def uniqB : List Oper → Bool
  | [] => true
  | o :: r => (match o.dst with | some d => !dstsB r d | none => true) && uniqB r
def edgeB (o : Oper) (j : Nat) : Bool := o.after.any fun e => Region.binds .any e && Nat.beq e.on j
def needB (l : List Oper) (o : Oper) (t : Nat) : Bool := !dstsB l t || (List.range l.length).any fun j => (match l[j]? with | some oj => (match oj.dst with | some d => Nat.beq d t | none => false) && edgeB o j | none => false)
def headB (ops : Array Oper) (l : List Oper) : Bool :=
  uniqB l && (List.range l.length).all fun i => match l[i]? with
    | some o => (o.after.all fun e => !Region.binds .any e || Nat.blt e.on i) && (o.looksAt ops).all fun t => needB l o t
    | none => true
def doneL (m k : Nat) : Array Bool := (List.replicate m true ++ List.replicate k false).toArray
def drawB (l : List Oper) (m : Nat) : Bool :=
  Nat.ble m l.length && headB l.toArray (l.take m) && (Nat.beq m l.length || (Region.sinkB .any l.toArray m && Region.chainB .any l.toArray m)) && Region.seqB .any l.toArray (l.length - m) m (doneL m (l.length - m))

theorem dstsB_spec {l : List Oper} {t : Nat} (h : dstsB l t = false) : ∀ (j : Nat) (oj : Oper), l[j]? = some oj → oj.dst ≠ some t := by
  intro j oj hj hd
  have := List.any_eq_false.1 h oj (List.mem_of_getElem? hj)
  rw [hd] at this
  simp [Nat.beq_refl] at this
theorem uniqB_spec : ∀ {l : List Oper}, uniqB l = true → ∀ {i j : Nat} {oi oj : Oper} {t : Nat}, l[i]? = some oi → l[j]? = some oj → oi.dst = some t → oj.dst = some t → i = j
  | [], h, i, j, oi, oj, t, hi, hj, h1, h2 => by simp at hi
  | o :: r, h, i, j, oi, oj, t, hi, hj, h1, h2 => by
    simp only [uniqB, Bool.and_eq_true] at h
    cases i with
    | zero =>
      cases j with
      | zero => rfl
      | succ j =>
        simp at hi hj
        subst hi
        have h3 := h.1
        rw [h1] at h3
        exact absurd h2 (dstsB_spec (by simpa using h3) j oj hj)
    | succ i =>
      cases j with
      | zero =>
        simp at hi hj
        subst hj
        have h3 := h.1
        rw [h2] at h3
        exact absurd h1 (dstsB_spec (by simpa using h3) i oi hi)
      | succ j => exact congrArg Nat.succ (uniqB_spec h.2 (by simpa using hi) (by simpa using hj) h1 h2)
/-- The ids that are there once the listed operations of the head are done. -/
def domL (n0 : Nat) (ns : List Nat) (m : Nat) (listed : Array Bool) (id : Nat) : Prop := id < n0 ∨ ∃ j a b, j < m ∧ listed.getD j false = true ∧ ns[j]? = some a ∧ ns[j + 1]? = some b ∧ a ≤ id ∧ id < b

def InvL (B : Bs) (sz n0 : Nat) (env0 : Env) (dfs : Defs) (l : List Oper) (vs : List AV) (ns : List Nat) (H : Heap) (listed : Array Bool) (a : Act) (w : World) : Prop :=
  ∃ M, ConcH B (domL n0 ns l.length listed) M (lk H) w ∧ a.tmps.size = sz ∧
    (∀ j o t v, l[j]? = some o → listed.getD j false = true → o.dst = some t → vs[j]? = some v → Rep ⟨domL n0 ns l.length listed, M, okOf B (domL n0 ns l.length listed) M (lk H), w⟩ v (a.tmps.getD t undef)) ∧
    (∀ t av, lkE env0 t = some av → (∀ (j : Nat) (o : Oper), l[j]? = some o → listed.getD j false = true → o.dst ≠ some t) → Rep ⟨domL n0 ns l.length listed, M, okOf B (domL n0 ns l.length listed) M (lk H), w⟩ av (a.tmps.getD t undef)) ∧
    DefRep B.fr ⟨domL n0 ns l.length listed, M, okOf B (domL n0 ns l.length listed) M (lk H), w⟩ dfs a.defers

theorem headB_spec {ops : Array Oper} {l : List Oper} (h : headB ops l = true) {i : Nat} {o : Oper} (hi : l[i]? = some o) : (∀ e ∈ o.after, Region.binds .any e = true → e.on < i) ∧ (∀ t ∈ o.looksAt ops, needB l o t = true) := by
  simp only [headB, Bool.and_eq_true, List.all_eq_true] at h
  have hlt := (List.getElem?_eq_some_iff.1 hi).1
  have h1 := h.2 i (List.mem_range.2 hlt)
  simp only [hi, Bool.and_eq_true] at h1
  refine ⟨fun e he hb => ?_, fun t ht => List.all_eq_true.1 h1.2 t ht⟩
  have h2 := Array.all_eq_true'.1 h1.1 e he
  rw [hb] at h2
  simpa [Nat.blt_eq] using h2
theorem needB_spec {l : List Oper} {o : Oper} {t : Nat} (h : needB l o t = true) : (∀ (j : Nat) (oj : Oper), l[j]? = some oj → oj.dst ≠ some t) ∨ ∃ j oj, l[j]? = some oj ∧ oj.dst = some t ∧ ∃ e ∈ o.after, Region.binds .any e = true ∧ e.on = j := by
  simp only [needB, Bool.or_eq_true, Bool.not_eq_true'] at h
  rcases h with h | h
  · exact .inl (dstsB_spec h)
  · obtain ⟨j, _, hj⟩ := List.any_eq_true.1 h
    split at hj
    · rename_i oj hoj
      simp only [Bool.and_eq_true] at hj
      obtain ⟨h1, h2⟩ := hj
      unfold edgeB at h2
      obtain ⟨e, he, h3⟩ := Array.any_eq_true'.1 h2
      simp only [Bool.and_eq_true] at h3
      split at h1
      · rename_i d hd
        exact .inr ⟨j, oj, hoj, by rw [hd, Nat.eq_of_beq_eq_true h1], e, he, h3.1, Nat.eq_of_beq_eq_true h3.2⟩
      · cases h1
    · cases hj

section perm
variable {P : Program} {ops : Array Oper} {B : Bs} {sz n0 N : Nat} {env0 E : Env} {h0 H : Heap} {dfs : Defs} {l : List Oper} {vs : List AV} {ns : List Nat} {listed : Array Bool}

theorem ns_mono {P : Program} {ops : Array Oper} {l : List Oper} {env E : Env} {h H : Heap} {n N : Nat} {vs : List AV} {ns : List Nat} (hc : Chain P ops l env h n vs ns E H N) : ∀ {i j a b : Nat}, i ≤ j → ns[i]? = some a → ns[j]? = some b → a ≤ b := by
  induction hc with
  | nil =>
    intro i j a b hij ha hb
    cases i with
    | zero => cases j with | zero => simp at ha hb; omega | succ j => simp at hb
    | succ i => simp at ha
  | @add o os env E h Δ H n n' N v vs ns hg hn hA hcov hkeys hr ih =>
    intro i j a b hij ha hb
    cases i with
    | zero =>
      cases j with
      | zero => simp at ha hb; omega
      | succ j =>
        simp at ha hb
        have := ih (Nat.zero_le j) hr.le.2.1 hb
        omega
    | succ i =>
      cases j with
      | zero => omega
      | succ j => exact ih (i := i) (j := j) (by omega) (by simpa using ha) (by simpa using hb)
  | @skip o os env E h H n N vs ns hg hr ih =>
    intro i j a b hij ha hb
    cases i with
    | zero =>
      cases j with
      | zero => simp at ha hb; omega
      | succ j =>
        simp at ha hb
        have := ih (Nat.zero_le j) hr.le.2.1 hb
        omega
    | succ i =>
      cases j with
      | zero => omega
      | succ j => exact ih (i := i) (j := j) (by omega) (by simpa using ha) (by simpa using hb)

theorem domL_set {m i a b : Nat} (hi : i < m) (hs : listed.getD i true = false) (ha : ns[i]? = some a) (hb : ns[i + 1]? = some b) : domL n0 ns m (listed.setIfInBounds i true) = ad (domL n0 ns m listed) a b := by
  have hsz : i < listed.size := by
    rcases Nat.lt_or_ge i listed.size with h | h
    · exact h
    · simp [Array.getElem?_eq_none h] at hs
  funext id
  simp only [domL, ad, eq_iff_iff]
  constructor
  · rintro (h | ⟨j, a', b', h1, h2, h3, h4, h5, h6⟩)
    · exact .inl (.inl h)
    · by_cases hij : i = j
      · subst hij
        rw [ha] at h3; rw [hb] at h4
        injection h3 with h3; injection h4 with h4
        exact .inr (by omega)
      · rw [getD_set_ne false hij] at h2
        exact .inl (.inr ⟨j, a', b', h1, h2, h3, h4, h5, h6⟩)
  · rintro ((h | ⟨j, a', b', h1, h2, h3, h4, h5, h6⟩) | ⟨h1, h2⟩)
    · exact .inl h
    · exact .inr ⟨j, a', b', h1, getD_set_true h2, h3, h4, h5, h6⟩
    · exact .inr ⟨i, a, b, hi, by simp [hsz], ha, hb, h1, h2⟩

/-- One operation of the head, whenever it comes up. -/
theorem step_L (hc : Chain P ops l env0 h0 n0 vs ns E H N) (hB : headB ops l = true) (hk0 : ∀ p ∈ h0, p.1 < n0) (hsz : ∀ (j : Nat) (oj : Oper) (t : Nat), l[j]? = some oj → oj.dst = some t → t < sz) (hops : ∀ (j : Nat) (oj : Oper), l[j]? = some oj → ops[j]? = some oj) {Q : Exit → Act → World → Prop} {i : Nat} {o : Oper} {a : Act} {w : World} (hi : l[i]? = some o) (hr : i ∈ Region.ready .any ops listed) (hinv : InvL B sz n0 env0 dfs l vs ns H listed a w)
    {K : Act → World → Prop} (hK : ∀ a' w', InvL B sz n0 env0 dfs l vs ns H (listed.setIfInBounds i true) a' w' → K a' w') : wpOp P ops Q i K a w := by
  obtain ⟨M, c1, c2, c3, c4, c5⟩ := hinv
  obtain ⟨env', h', Δ, n1, n2, v, s⟩ := hc.get hk0 i o hi
  have hlt := (List.getElem?_eq_some_iff.1 hi).1
  have hun := (mem_ready.1 hr).1
  have hall : ∀ e ∈ o.after, Region.binds .any e = true → listed.getD e.on false = true := by
    obtain ⟨_, o', ho', hall⟩ := mem_ready.1 hr
    rw [hops i o hi] at ho'
    injection ho' with ho'
    subst ho'
    exact hall
  have hlistsz : i < listed.size := by
    rcases Nat.lt_or_ge i listed.size with h | h
    · exact h
    · simp [Array.getElem?_eq_none h] at hun
  have hb := headB_spec hB hi
  have hu := (show uniqB l = true by simp only [headB, Bool.and_eq_true] at hB; exact hB.1)
  -- what the operation looks at
  have look : ∀ t av, t ∈ o.looksAt ops → lkE env' t = some av → Rep ⟨domL n0 ns l.length listed, M, okOf B (domL n0 ns l.length listed) M (lk H), w⟩ av (a.tmps.getD t undef) := by
    intro t av ht hav
    rcases needB_spec (hb.2 t ht) with hno | ⟨j, oj, hj, hdj, e, he, heb, hej⟩
    · rcases s.env t av hav with ⟨j, oj, h1, h2, h3, h4⟩ | ⟨h1, h2⟩
      · exact absurd h3 (hno j oj h2)
      · exact c4 t av h1 (fun j o' hj _ => hno j o' hj)
    · have hlj := hall e he heb
      rw [hej] at hlj
      have hji : j < i := by have := hb.1 e he heb; omega
      rcases s.env t av hav with ⟨j', oj', h1, h2, h3, h4⟩ | ⟨h1, h2⟩
      · have := uniqB_spec hu h2 hj h3 hdj
        subst this
        exact c3 j' oj' t av h2 hlj h3 h4
      · exact absurd hdj (h2 j oj hji hj)
  have hdset := domL_set (n0 := n0) (m := l.length) hlt hun s.hn s.hn'
  -- the state behind it
  have fin : ∀ u w' M', Ext ⟨domL n0 ns l.length listed, M, okOf B (domL n0 ns l.length listed) M (lk H), w⟩ ⟨domL n0 ns l.length (listed.setIfInBounds i true), M', okOf B (domL n0 ns l.length (listed.setIfInBounds i true)) M' (lk H), w'⟩ → ConcH B (domL n0 ns l.length (listed.setIfInBounds i true)) M' (lk H) w' → Rep ⟨domL n0 ns l.length (listed.setIfInBounds i true), M', okOf B (domL n0 ns l.length (listed.setIfInBounds i true)) M' (lk H), w'⟩ v u → K (a.put o.dst u) w' := by
    intro u w' M' hext hcc hv
    refine hK _ _ ⟨M', hcc, ?_, fun j oj t vj hj hl hd hvj => ?_, fun t av hav hno => ?_, ?_⟩
    · cases hd : o.dst with
      | none => simpa [Act.put] using c2
      | some d => simp [Act.put, c2]
    · by_cases hij : i = j
      · subst hij
        rw [hi] at hj; injection hj with hj; subst hj
        rw [s.hv] at hvj; injection hvj with hvj; subst hvj
        have ht := hsz i o t hi hd
        rw [hd]
        simp only [Act.put]
        rw [show (a.tmps.setIfInBounds t u).getD t undef = u by simp [c2, ht]]
        exact hv
      · rw [getD_set_ne false hij] at hl
        have h1 := c3 j oj t vj hj hl hd hvj
        have hne : ∀ d, o.dst = some d → d ≠ t := fun d hdd e => hij (uniqB_spec hu hi hj (by rw [hdd, e]) hd)
        cases hdo : o.dst with
        | none => simpa [Act.put] using Rep.ext hext _ _ h1
        | some d =>
          simp only [Act.put]
          rw [show (a.tmps.setIfInBounds d u).getD t undef = a.tmps.getD t undef by simp [Array.getElem?_setIfInBounds_ne (hne d hdo)]]
          exact Rep.ext hext _ _ h1
    · have hself : o.dst ≠ some t := hno i o hi (by simp [hlistsz])
      have h1 := c4 t av hav (fun j oj hj hl => hno j oj hj (getD_set_true hl))
      cases hdo : o.dst with
      | none => simpa [Act.put] using Rep.ext hext _ _ h1
      | some d =>
        have hne : d ≠ t := fun e => hself (by rw [hdo, e])
        simp only [Act.put]
        rw [show (a.tmps.setIfInBounds d u).getD t undef = a.tmps.getD t undef by simp [Array.getElem?_setIfInBounds_ne hne]]
        exact Rep.ext hext _ _ h1
    · have : (a.put o.dst u).defers = a.defers := by cases o.dst <;> rfl
      rw [this]
      exact c5.ext hext
  unfold wpOp
  rw [hops i o hi]
  simp only
  -- the guard
  have gd : ∀ b, guardA ops env' o b → Region.wanted o (yielded ops a.tmps) = b := by
    intro b hg
    unfold guardA at hg
    unfold Region.wanted
    cases hgd : o.guard with
    | none => rw [hgd] at hg; exact hg.symm
    | some p =>
      obtain ⟨j, want⟩ := p
      rw [hgd] at hg
      obtain ⟨t, c, h1, h2, h3⟩ := hg
      have h4 := look t _ (by
        unfold Oper.looksAt
        rw [hgd]
        exact List.mem_append_right _ (by simp [h1])) h2
      simp only [Rep, RepC] at h4
      have hlt : t < a.tmps.size := by
        rcases Nat.lt_or_ge t a.tmps.size with h1 | h1
        · exact h1
        · simp [h1, undef] at h4
      have : yielded ops a.tmps j = some c := by
        unfold yielded
        rw [h1]
        have h5 : a.tmps[t]? = some (.bool c) := by
          rw [← h4]
          simp [hlt]
        simp [h5]
      simp only [this]
      rw [← h3]
      cases c <;> cases want <;> rfl
  rcases s.step with ⟨hg, hA⟩ | ⟨hg, rfl, rfl⟩
  · rw [gd true hg, if_pos rfl]
    refine .inl (hA B (domL n0 ns l.length listed) M (lk H) w a K Q (fun id ob k1 k2 => ?_) (fun id k1 k2 => ⟨?_, s.new id k1 k2⟩) c1 (fun x av hx => ?_) ?_)
    · -- an object of the text's heap is there
      rcases Nat.lt_or_ge id n1 with h1 | h1
      · rw [s.old id h1]; exact k1
      · obtain ⟨p, hp, hpi⟩ := lk_mem k1
        have := s.keys p hp
        omega
    · rintro (h1 | ⟨j, p, q, h1, h2, h3, h4, h5, h6⟩)
      · have := ns_mono hc (Nat.zero_le i) hc.le.2.1 s.hn
        omega
      · have hij : i ≠ j := fun e => by subst e; rw [getD_both hun] at h2; cases h2
        rcases Nat.lt_or_gt_of_ne hij with h7 | h7
        · have := ns_mono hc (show i + 1 ≤ j by omega) s.hn' h3
          omega
        · have := ns_mono hc (show j + 1 ≤ i by omega) h4 s.hn
          omega
    · cases x with
      | tmp t =>
        simp only [evT] at hx
        split at hx
        · rename_i hm
          exact look t av (memB_mem hm) hx
        · cases hx
      | const x => simp only [evT, Option.some.injEq] at hx; subst hx; simp [Rep, RepC, Act.eval]
      | global g => cases hx
      | func f => simp only [evT, Option.some.injEq] at hx; subst hx; exact ⟨[], rfl, rfl⟩
    · intro u w' M' hext hcc hv
      rw [← hdset] at hext hcc hv
      exact fin u w' M' hext hcc hv
  · rw [gd false hg, if_neg (by simp)]
    have hds2 : domL n0 ns l.length (listed.setIfInBounds i true) = domL n0 ns l.length listed := by rw [hdset, ad_self]
    refine fin undef w M ?_ ?_ ?_
    · rw [hds2]; exact Ext.refl _
    · rw [hds2]; exact c1
    · simp [Rep]

theorem initL {w : World} {a : Act} {k : Nat} (hc : Chain P ops l env0 h0 n0 vs ns E H N) (h : Conc B sz n0 env0 h0 dfs a w) : InvL B sz n0 env0 dfs l vs ns H (Array.replicate k false) a w := by
  obtain ⟨M, c1, c2, c3, c4⟩ := h
  have hd : domL n0 ns l.length (Array.replicate k false) = lt n0 := by
    funext id
    simp only [domL, lt, eq_iff_iff]
    refine ⟨fun h => h.elim (fun h => h) ?_, .inl⟩
    rintro ⟨j, p, q, h1, h2, _⟩
    rw [getD_replicate_false] at h2
    cases h2
  have hle := hc.le
  have hH : ∀ id, id < n0 → lk H id = lk h0 id := hle.2.2.2.2.2
  have eok : okOf B (lt n0) M (lk H) = okOf B (lt n0) M (lk h0) := by
    funext b
    unfold okOf
    simp only [eq_iff_iff]
    refine and_congr Iff.rfl ⟨fun hk id o hid hh => hk id o hid (by rw [hH id hid]; exact hh), fun hk id o hid hh => hk id o hid (by rw [← hH id hid]; exact hh)⟩
  refine ⟨M, ?_, c2, (fun j o t v hj hl => by rw [getD_replicate_false] at hl; cases hl), fun t av hav _ => ?_, ?_⟩
  · rw [hd]
    refine ⟨c1.fr, fun id o hid hh => ?_, fun id id' o o' g k1 k2 k3 k4 => c1.inj id id' o o' g k1 k2 (by rw [← hH id k1]; exact k3) (by rw [← hH id' k2]; exact k4), fun id o g k1 k2 => c1.lo id o g k1 (by rw [← hH id k1]; exact k2)⟩
    rw [eok]
    exact c1.obj id o hid (by rw [← hH id hid]; exact hh)
  · rw [hd, eok]; exact c3 t av hav
  · rw [hd, eok]; exact c4

theorem endL {w : World} {a : Act} (hc : Chain P ops l env0 h0 n0 vs ns E H N) (hall : ∀ j, j < l.length → listed.getD j false = true) (h : InvL B sz n0 env0 dfs l vs ns H listed a w) : Conc B sz N E H dfs a w := by
  obtain ⟨M, c1, c2, c3, c4, c5⟩ := h
  have hle := hc.le
  have hd : domL n0 ns l.length listed = lt N := by
    funext id
    simp only [domL, lt, eq_iff_iff]
    constructor
    · rintro (h | ⟨j, p, q, h1, h2, h3, h4, h5, h6⟩)
      · omega
      · have := ns_mono hc (show j + 1 ≤ l.length by omega) h4 hle.2.2.2.2.1
        omega
    · intro hid
      rcases Nat.lt_or_ge id n0 with h | h
      · exact .inl h
      · -- the first place whose bound is past id
        have : ∀ k, k ≤ l.length → (∃ b, ns[k]? = some b ∧ id < b) → ∃ j a b, j < l.length ∧ ns[j]? = some a ∧ ns[j + 1]? = some b ∧ a ≤ id ∧ id < b := by
          intro k
          induction k with
          | zero =>
            rintro _ ⟨b, hb, hlt⟩
            rw [hle.2.1] at hb
            injection hb with hb
            omega
          | succ k ih =>
            rintro hk ⟨b, hb, hlt⟩
            have hkl : k < ns.length := by rw [hle.2.2.1]; omega
            by_cases hq : ns[k] ≤ id
            · exact ⟨k, ns[k], b, by omega, List.getElem?_eq_getElem hkl, hb, hq, hlt⟩
            · exact ih (by omega) ⟨ns[k], List.getElem?_eq_getElem hkl, by omega⟩
        obtain ⟨j, p, q, h1, h2, h3, h4, h5⟩ := this l.length (Nat.le_refl _) ⟨N, hle.2.2.2.2.1, hid⟩
        exact .inr ⟨j, p, q, h1, hall j h1, h2, h3, h4, h5⟩
  rw [hd] at c1 c3 c4 c5
  refine ⟨M, c1, c2, fun t av ht => ?_, c5⟩
  rcases hc.envEnd t av ht with ⟨j, oj, h1, h2, h3, h4⟩ | ⟨h1, h2⟩
  · exact c3 j oj t av h2 (hall j h1) h3 h4
  · exact c4 t av h1 (fun j o hj _ => h2 j o hj)
end perm

def dstsOk (l : List Oper) (sz : Nat) : Bool := l.all fun o => dstOk o.dst sz
def keysB (h : Heap) (n : Nat) : Bool := h.all fun p => Nat.blt p.1 n

theorem countL_zero {listed : Array Bool} : ∀ (m : Nat), (List.range m).countP (fun j => !listed.getD j false) = 0 → ∀ j, j < m → listed.getD j false = true := by
  intro m h j hj
  rw [List.countP_eq_zero] at h
  have := h j (List.mem_range.2 hj)
  simpa using this
theorem countL_set {listed : Array Bool} {i : Nat} : ∀ (m : Nat), i < m → listed.getD i true = false → (List.range m).countP (fun j => !listed.getD j false) = (List.range m).countP (fun j => !(listed.setIfInBounds i true).getD j false) + 1 := by
  intro m hi hun
  have hsz : i < listed.size := by
    rcases Nat.lt_or_ge i listed.size with h | h
    · exact h
    · simp [Array.getElem?_eq_none h] at hun
  induction m with
  | zero => omega
  | succ m ih =>
    rw [List.range_succ, List.countP_append, List.countP_append]
    by_cases him : i = m
    · subst him
      have h1 : (List.range i).countP (fun j => !listed.getD j false) = (List.range i).countP (fun j => !(listed.setIfInBounds i true).getD j false) := by
        apply List.countP_congr
        intro j hj
        have := List.mem_range.1 hj
        rw [getD_set_ne false (by omega)]
      have h2 : listed.getD i false = false := getD_both hun
      have h3 : (listed.setIfInBounds i true).getD i false = true := by simp [hsz]
      rw [h1]
      simp only [List.countP_singleton, h2, h3]
      simp
    · rw [ih (by omega)]
      have : (listed.setIfInBounds i true).getD m false = listed.getD m false := getD_set_ne false him
      simp only [List.countP_singleton, this]
      omega

theorem aw_draw {P : Program} {sz n0 N : Nat} {env0 E : Env} {h0 H : Heap} {dfs : Defs} {K : AK} {id : Nat} {l : List Oper} {vs : List AV} {ns : List Nat} (m : Nat) (hm : P.follows .mixedOrders = true) (hB : drawB l m = true) (hsz : dstsOk (l.take m) sz = true) (hk0 : keysB h0 n0 = true)
    (hc : Chain P l.toArray (l.take m) env0 h0 n0 vs ns E H N) (next : AWL P l.toArray sz (l.drop m) K N E H dfs) : AW P sz (.region id l.toArray true) K n0 env0 h0 dfs := by
  intro B a w hcc
  simp only [drawB, Bool.and_eq_true, Bool.or_eq_true] at hB
  obtain ⟨⟨⟨b1, b2⟩, b3⟩, b4⟩ := hB
  have hml : m ≤ l.length := Nat.le_of_ble_eq_true b1
  have htl : (l.take m).length = m := by simp; omega
  have hk0' : ∀ p ∈ h0, p.1 < n0 := fun p hp => by simpa [Nat.blt_eq] using List.all_eq_true.1 hk0 p hp
  have hsz' : ∀ (j : Nat) (oj : Oper) (t : Nat), (l.take m)[j]? = some oj → oj.dst = some t → t < sz := fun j oj t hj hd => by
    have := List.all_eq_true.1 hsz oj (List.mem_of_getElem? hj)
    exact dstOk_spec this t hd
  have hops : ∀ (j : Nat) (oj : Oper), (l.take m)[j]? = some oj → l.toArray[j]? = some oj := fun j oj hj => by
    rw [List.getElem?_take] at hj
    split at hj
    · simpa using hj
    · cases hj
  refine wp_region_any hm ?_
  -- the world behind the draw
  have hdrew : Conc B sz n0 env0 h0 dfs a { w with drawn := w.drawn + 1 } := by
    obtain ⟨M, c1, c2, c3, c4⟩ := hcc
    have hbel : Below w.heap.size w { w with drawn := w.drawn + 1 } := (Below.refl _ _).drew
    have hg := c1.grow hbel n0 n0 (M' := M) (fun _ _ => rfl) (fun id h1 h2 => by omega) (fun id o h1 h2 => by omega) (fun id id' o o' g h1 h2 => by omega) (fun _ id o h1 h2 => by omega)
    rw [ad_self] at hg
    exact ⟨M, hg.1, c2, fun t av ht => Rep.ext hg.2 _ _ (c3 t av ht), c4.ext hg.2⟩
  have key : ∀ (f : Nat) (listed : Array Bool) (a : Act) (w : World), (List.range m).countP (fun j => !listed.getD j false) = f → HeadInv .any l.toArray m listed → InvL B sz n0 env0 dfs (l.take m) vs ns H listed a w →
      wpAny P .any l.toArray (KC B sz K) (f + (l.length - m)) listed a w := by
    intro f
    induction f with
    | zero =>
      intro listed a w hcnt hinv hI
      have hall := countL_zero m hcnt
      have hlisted : listed = doneL m (l.length - m) := by
        apply Array.ext
        · rw [hinv.size]; simp [doneL]; omega
        · intro j h1 h2
          rw [hinv.size] at h1
          simp only [List.size_toArray] at h1
          by_cases hj : j < m
          · have := hall j hj
            simp [hinv.size, h1] at this
            simp [doneL, hj, this, List.getElem_append]
          · have := hinv.tail j (by omega) (by simpa using h1)
            simp [hinv.size, h1] at this
            simp [doneL, hj, this, List.getElem_append]
      rw [Nat.zero_add]
      have hconc := endL hc (by rw [htl]; exact hall) hI
      have := wpAny_of_seq (P := P) (ops := l.toArray) (md := .any) (Q' := KC B sz K) (l.drop m) m listed a w (fun j => by simp [List.getElem?_drop]) (by rw [List.length_drop, hlisted]; exact b4) (next B a w hconc)
      rwa [List.length_drop] at this
    | succ f ih =>
      intro listed a w hcnt hinv hI
      rw [show f + 1 + (l.length - m) = (f + (l.length - m)) + 1 by omega]
      -- some operation of the head is still to come
      have hex : ∃ j, j < m ∧ listed.getD j false = false := by
        have hpos : 0 < (List.range m).countP (fun j => !listed.getD j false) := by omega
        obtain ⟨j, hj, hp⟩ := List.countP_pos_iff.1 hpos
        exact ⟨j, List.mem_range.1 hj, by simpa using hp⟩
      have hsize : ∀ j, j < m → j < listed.size := fun j hj => by rw [hinv.size]; simp; omega
      have hready : Region.ready .any l.toArray listed ≠ [] := by
        obtain ⟨j0, hj0, hu0⟩ := hex
        obtain ⟨j, ⟨hj, hu⟩, hmin⟩ := exists_min (fun j => j < m ∧ listed.getD j false = false) ⟨j0, hj0, hu0⟩
        have hjl : j < (l.take m).length := by omega
        have hb := headB_spec b2 (List.getElem?_eq_getElem hjl)
        have hr : j ∈ Region.ready .any l.toArray listed := by
          refine mem_ready.2 ⟨getD_in (hsize j hj) hu, (l.take m)[j], hops j _ (List.getElem?_eq_getElem hjl), fun e he hbn => ?_⟩
          have hlt := hb.1 e he hbn
          cases hle : listed.getD e.on false with
          | true => rfl
          | false => have := hmin e.on ⟨by omega, hle⟩; omega
        intro h0; rw [h0] at hr; cases hr
      refine ⟨fun h => absurd h hready, fun i hi => ?_⟩
      have him : i < m := by
        rcases Nat.lt_or_ge i m with h | h
        · exact h
        · exfalso
          obtain ⟨_, oi, hoi, _⟩ := mem_ready.1 hi
          have hil : i < l.length := by simpa using (Array.getElem?_eq_some_iff.1 hoi).1
          rcases b3 with b3 | b3
          · have := Nat.eq_of_beq_eq_true b3; omega
          · obtain ⟨j0, hj0, hu0⟩ := hex
            exact tail_waits b3.1 b3.2 (by simp; omega) hinv _ j0 rfl hj0 (getD_in (hsize j0 hj0) hu0) i h hi
      have hil : i < (l.take m).length := by omega
      refine step_L hc b2 hk0' hsz' hops (List.getElem?_eq_getElem hil) hi hI fun a' w' hI' => ?_
      refine ih _ a' w' ?_ (hinv.set hi him) hI'
      have := countL_set m him (mem_ready.1 hi).1
      omega
  have hcount : (List.range m).countP (fun j => !(Array.replicate l.toArray.size false).getD j false) = m := by
    rw [List.countP_eq_length.2 (fun j hj => by rw [getD_replicate_false]; rfl), List.length_range]
  have := key m (Array.replicate l.toArray.size false) a _ hcount ⟨by simp, (fun j oj hj hl => by rw [getD_replicate_false] at hl; cases hl), fun t h1 h2 => by simp at h2; simp [h2]⟩ (initL hc hdrew)
  rw [show m + (l.length - m) = l.toArray.size by simp; omega] at this
  exact this
end Go.Av
