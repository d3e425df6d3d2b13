/-
  Regions that draw their order and write in the midst: of two operations that look at one object, and of which one writes it, one waits for the other. For every program.
-/
import Derived.Test.YtgofigkhdjjlmaaAvN
set_option linter.unusedVariables false
set_option linter.unusedSimpArgs false
namespace Go.Av
open Go Go.RowKit

/-- What an operation looks at or makes, and the object that it writes, with what it is then (none: used up). -/
abbrev Wr := Option (Nat × Option AObj)
abbrev Eat := List Nat × Wr
def ov (c : Wr) (H : Nat → Option AObj) (id : Nat) : Option AObj := match c with
  | none => H id
  | some (k, x) => if id = k then x else H id
theorem ov_none (H : Nat → Option AObj) : ov none H = H := rfl
theorem ov_ne {c : Wr} {H : Nat → Option AObj} {id : Nat} (h : ∀ x, c ≠ some (id, x)) : ov c H id = H id := by
  unfold ov
  split
  · rfl
  · rename_i k x
    rw [if_neg (fun e => h x (by rw [e]))]
theorem ov_eq {H : Nat → Option AObj} {id : Nat} {x : Option AObj} : ov (some (id, x)) H id = x := by simp [ov]
theorem ov_congr {c : Wr} {H H' : Nat → Option AObj} {id : Nat} (h : H id = H' id) : ov c H id = ov c H' id := by
  unfold ov
  split
  · exact h
  · split
    · rfl
    · exact h
/-- The objects once some of the operations are done. -/
def HV : List Eat → Nat → (Nat → Bool) → (Nat → Option AObj) → Nat → Option AObj
  | [], _, _, G => G
  | e :: es, j, p, G => HV es (j + 1) p (match p j with | true => ov e.2 G | false => G)
theorem hv_congr : ∀ (es : List Eat) (j : Nat) (p p' : Nat → Bool) (G G' : Nat → Option AObj) (id : Nat), (∀ k T x, es[k]? = some (T, some (id, x)) → p (j + k) = p' (j + k)) → G id = G' id → HV es j p G id = HV es j p' G' id
  | [], j, p, p', G, G', id, _, h => h
  | (T, c) :: es, j, p, p', G, G', id, hk, h => by
    unfold HV
    refine hv_congr es (j + 1) p p' _ _ id (fun k T x hx => by have := hk (k + 1) T x (by simpa using hx); rwa [show j + (k + 1) = j + 1 + k by omega] at this) ?_
    by_cases hc : ∃ x, c = some (id, x)
    · obtain ⟨x, rfl⟩ := hc
      have := hk 0 T x rfl
      rw [Nat.add_zero] at this
      rw [this]
      cases p' j with
      | true => exact ov_congr h
      | false => exact h
    · have hn : ∀ x, c ≠ some (id, x) := fun x e => hc ⟨x, e⟩
      have e1 : (match p j with | true => ov c G | false => G) id = G id := by
        cases p j with
        | true => exact ov_ne hn
        | false => rfl
      have e2 : (match p' j with | true => ov c G' | false => G') id = G' id := by
        cases p' j with
        | true => exact ov_ne hn
        | false => rfl
      exact e1.trans (h.trans e2.symm)
theorem hv_none : ∀ (es : List Eat) (j : Nat) (G : Nat → Option AObj), HV es j (fun _ => false) G = G
  | [], j, G => rfl
  | e :: es, j, G => by unfold HV; exact hv_none es (j + 1) G
theorem hv_same {es : List Eat} {j : Nat} {p : Nat → Bool} {G : Nat → Option AObj} {id : Nat} (h : ∀ k T x, es[k]? = some (T, some (id, x)) → p (j + k) = false) : HV es j p G id = G id := by
  rw [hv_congr es j p (fun _ => false) G G id h rfl, hv_none]
theorem hv_app : ∀ (a b : List Eat) (j : Nat) (p : Nat → Bool) (G : Nat → Option AObj), HV (a ++ b) j p G = HV b (j + a.length) p (HV a j p G)
  | [], b, j, p, G => rfl
  | e :: a, b, j, p, G => by
    show HV (a ++ b) (j + 1) p _ = HV b (j + (a.length + 1)) p (HV a (j + 1) p _)
    rw [hv_app a b (j + 1) p _, show j + 1 + a.length = j + (a.length + 1) by omega]
theorem hv_split {es : List Eat} {i : Nat} {e : Eat} (hi : es[i]? = some e) (p : Nat → Bool) (G : Nat → Option AObj) : HV es 0 p G = HV (es.drop (i + 1)) (i + 1) p (match p i with | true => ov e.2 (HV (es.take i) 0 p G) | false => HV (es.take i) 0 p G) := by
  have hlt := (List.getElem?_eq_some_iff.1 hi).1
  have hs : es = es.take i ++ e :: es.drop (i + 1) := by
    have := List.getElem?_eq_some_iff.1 hi
    obtain ⟨h1, rfl⟩ := this
    simp
  conv => lhs; rw [hs]
  rw [hv_app, List.length_take, Nat.min_eq_left (by omega), Nat.zero_add]
  rfl
/-- One more is done: its write comes on top. -/
theorem hv_set {es : List Eat} {i : Nat} {T : List Nat} {c : Wr} (hi : es[i]? = some (T, c)) {p p' : Nat → Bool} (hp : p i = false) (hp' : p' i = true) (hne : ∀ j, j ≠ i → p' j = p j) (hlate : ∀ k x, c = some (k, x) → ∀ j T' x', i < j → es[j]? = some (T', some (k, x')) → p j = false) (G : Nat → Option AObj) : HV es 0 p' G = ov c (HV es 0 p G) := by
  funext id
  rw [hv_split hi p G, hv_split hi p' G, hp, hp']
  have etake : HV (es.take i) 0 p' G id = HV (es.take i) 0 p G id := hv_congr _ _ _ _ _ _ _ (fun k T x hk => by
    rw [Nat.zero_add]
    exact hne k (fun e => by subst e; simp [List.getElem?_take] at hk)) rfl
  by_cases hc : ∃ x, c = some (id, x)
  · obtain ⟨x, rfl⟩ := hc
    rw [ov_eq, hv_same (fun k T' x' hk => ?_)]
    · exact ov_eq
    · rw [List.getElem?_drop] at hk
      rw [hne _ (by omega)]
      exact hlate id x rfl _ T' x' (by omega) hk
  · have hn : ∀ x, c ≠ some (id, x) := fun x e => hc ⟨x, e⟩
    rw [ov_ne hn]
    exact hv_congr _ _ _ _ _ _ _ (fun k T x _ => hne _ (by omega)) ((ov_ne hn).trans etake)
/-- What is there at the turn of an operation is what the text says. -/
theorem hv_at {es : List Eat} {i : Nat} {e : Eat} (hi : es[i]? = some e) {p : Nat → Bool} (hp : p i = false) {id : Nat} (hearly : ∀ j T x, j < i → es[j]? = some (T, some (id, x)) → p j = true) (hlate : ∀ j T x, i < j → es[j]? = some (T, some (id, x)) → p j = false) (G : Nat → Option AObj) : HV es 0 p G id = HV (es.take i) 0 (fun _ => true) G id := by
  rw [hv_split hi p G, hp, hv_same (fun k T x hk => by rw [List.getElem?_drop] at hk; exact hlate _ T x (by omega) hk)]
  refine hv_congr _ _ _ _ _ _ _ (fun k T x hk => ?_) rfl
  rw [List.getElem?_take] at hk
  split at hk
  · rw [Nat.zero_add]; exact hearly k T x (by omega) hk
  · cases hk
/-- The operation yields v, has added the objects Δ, and has written the object c. -/
def EStep (P : Program) (o : Oper) (ev : Evl) (h : Heap) (v : AV) (Δ : Heap) (c : Wr) (i j : Nat) : Prop :=
  ∀ (B : Bs) (dom : Nat → Prop) (M : Nat → Option Nat) (H : Nat → Option AObj) (w : World) (a : Act) (K : Act → World → Prop) (Q : Exit → Act → World → Prop),
    (∀ id o, lk h id = some o → dom id → H id = some o) → (∀ id, i ≤ id → id < j → ¬ dom id ∧ H id = lk Δ id) →
    ConcH B dom M H w → (∀ x av, ev x = some av → Rep ⟨dom, M, okOf B dom M H, w⟩ av (a.eval x)) →
    (∀ u w' M', Ext ⟨dom, M, okOf B dom M H, w⟩ ⟨ad dom i j, M', okOf B (ad dom i j) M' (ov c H), w'⟩ → ConcH B (ad dom i j) M' (ov c H) w' → Rep ⟨ad dom i j, M', okOf B (ad dom i j) M' (ov c H), w'⟩ v u → K (a.put o.dst u) w') →
    o.wp P a w K Q
theorem Adds.est {P : Program} {o : Oper} {ev : Evl} {h : Heap} {v : AV} {Δ : Heap} {i j : Nat} (hA : Adds P o ev h v Δ i j) : EStep P o ev h v Δ none i j := hA
/-- The heap that the text goes on with. -/
def wrH (c : Wr) (h : Heap) : Heap := match c with
  | none => h
  | some (k, none) => (k, .dead) :: h
  | some (k, some o) => (k, o) :: h
def wrOk : Wr → Prop
  | some (_, some o) => o.live = some o
  | _ => True
theorem wrH_lk {c : Wr} (hc : wrOk c) (h : Heap) (id : Nat) : lk (wrH c h) id = ov c (lk h) id := by
  match c, hc with
  | none, _ => rfl
  | some (k, none), _ =>
    show lk ((k, .dead) :: h) id = _
    rw [lk_cons]
    by_cases hk : k = id
    · subst hk; rw [if_pos rfl, ov_eq]; rfl
    · rw [if_neg hk, ov_ne (fun x e => hk (congrArg Prod.fst (Option.some.inj e)))]
  | some (k, some o), hl =>
    show lk ((k, o) :: h) id = _
    rw [lk_cons]
    by_cases hk : k = id
    · subst hk; rw [if_pos rfl, ov_eq]; exact hl
    · rw [if_neg hk, ov_ne (fun x e => hk (congrArg Prod.fst (Option.some.inj e)))]

theorem hv_off : ∀ (es : List Eat) (i j : Nat) (G : Nat → Option AObj) {id : Nat}, HV es i (fun _ => true) G id = HV es j (fun _ => true) G id
  | [], i, j, G, id => rfl
  | e :: es, i, j, G, id => by unfold HV; exact hv_off es (i + 1) (j + 1) _

/-- The head's operations in the text's order, and what each yields. -/
inductive ChainE (P : Program) (ops : Array Oper) : List Oper → Env → Heap → Nat → List AV → List Nat → List Eat → (Nat → Option AObj) → Env → Heap → Nat → Prop
  | nil {env : Env} {h : Heap} {n : Nat} {G : Nat → Option AObj} (hG : ∀ id, id < n → G id = lk h id) : ChainE P ops [] env h n [] [n] [] G env h n
  | add {o : Oper} {os : List Oper} {env E : Env} {h hr Δ H : Heap} {n n' N : Nat} {v : AV} {vs : List AV} {ns : List Nat} {es : List Eat} {G : Nat → Option AObj} {T : List Nat} {c : Wr} (hG : ∀ id, id < n → G id = lk h id) (hG' : ∀ id, n ≤ id → id < n' → G id = lk Δ id) (hg : guardA ops env o true) (hn : n ≤ n') (hsub : ∀ id o, lk hr id = some o → lk h id = some o ∧ id ∈ T) (hT : ∀ p ∈ Δ, p.1 ∈ T) (hc : wrOk c) (hcT : ∀ k x, c = some (k, x) → k ∈ T ∧ k < n) (hA : EStep P o (evT (o.looksAt ops) env) hr v Δ c n n') (hcov : ∀ id, n ≤ id → id < n' → (lk Δ id).isSome = true) (hkeys : ∀ p ∈ Δ, n ≤ p.1 ∧ p.1 < n')
      (hr : ChainE P ops os (putE env o.dst v) (wrH c (Δ ++ h)) n' vs ns es (ov c G) E H N) : ChainE P ops (o :: os) env h n (v :: vs) (n :: ns) ((T, c) :: es) G E H N
  | skip {o : Oper} {os : List Oper} {env E : Env} {h H : Heap} {n N : Nat} {vs : List AV} {ns : List Nat} {es : List Eat} {G : Nat → Option AObj} (hG : ∀ id, id < n → G id = lk h id) (hg : guardA ops env o false)
      (hr : ChainE P ops os (putE env o.dst .junk) h n vs ns es G E H N) : ChainE P ops (o :: os) env h n (.junk :: vs) (n :: ns) (([], none) :: es) G E H N

theorem ChainE.le {P : Program} {ops : Array Oper} {l : List Oper} {env E : Env} {h H : Heap} {n N : Nat} {vs : List AV} {ns : List Nat} {es : List Eat} {G : Nat → Option AObj} (hc : ChainE P ops l env h n vs ns es G E H N) : n ≤ N ∧ ns[0]? = some n ∧ ns.length = l.length + 1 ∧ vs.length = l.length ∧ ns[l.length]? = some N ∧ (∀ id, id < n → G id = lk h id) ∧ (∀ id, id < N → lk H id = HV es 0 (fun _ => true) G id) := by
  induction hc with
  | nil hG => exact ⟨Nat.le_refl _, rfl, rfl, rfl, rfl, hG, fun id hid => (hG id hid).symm⟩
  | add hG hG' hg hn hsub hT hc hcT hA hcov hkeys hr ih =>
    obtain ⟨h1, h2, h3, h4, h5, h6, h7⟩ := ih
    exact ⟨by omega, rfl, by simp [h3], by simp [h4], by simpa using h5, hG, fun id hid => (h7 id hid).trans (hv_off _ _ _ _)⟩
  | skip hG hg hr ih =>
    obtain ⟨h1, h2, h3, h4, h5, h6, h7⟩ := ih
    exact ⟨h1, rfl, by simp [h3], by simp [h4], by simpa using h5, hG, fun id hid => (h7 id hid).trans (hv_off _ _ _ _)⟩
/-- The step of one operation of the head. -/
structure StepE (P : Program) (ops : Array Oper) (l : List Oper) (env0 : Env) (vs : List AV) (ns : List Nat) (es : List Eat) (G : Nat → Option AObj) (N i : Nat) (o : Oper) (env : Env) (h hr Δ : Heap) (n n' : Nat) (v : AV) (T : List Nat) (c : Wr) : Prop where
  step : (guardA ops env o true ∧ (∀ id o, lk hr id = some o → lk h id = some o ∧ id ∈ T) ∧ (∀ id, n ≤ id → id < n' → id ∈ T) ∧ (∀ k x, c = some (k, x) → k ∈ T) ∧ EStep P o (evT (o.looksAt ops) env) hr v Δ c n n') ∨ (guardA ops env o false ∧ v = .junk ∧ n' = n ∧ c = none)
  hv : vs[i]? = some v
  hn : ns[i]? = some n
  hn' : ns[i + 1]? = some n'
  he : es[i]? = some (T, c)
  le : n ≤ n' ∧ n' ≤ N
  env : ∀ t av, lkE env t = some av → (∃ j oj, j < i ∧ l[j]? = some oj ∧ oj.dst = some t ∧ vs[j]? = some av) ∨ (lkE env0 t = some av ∧ ∀ j oj, j < i → l[j]? = some oj → oj.dst ≠ some t)
  old : ∀ id, id < n → HV (es.take i) 0 (fun _ => true) G id = lk h id
  new : ∀ id, n ≤ id → id < n' → G id = lk Δ id
  keys : ∀ p ∈ h, p.1 < n

theorem ChainE.wrs {P : Program} {ops : Array Oper} {l : List Oper} {env E : Env} {h H : Heap} {n N : Nat} {vs : List AV} {ns : List Nat} {es : List Eat} {G : Nat → Option AObj} (hc : ChainE P ops l env h n vs ns es G E H N) : ∀ (j : Nat) (T : List Nat) (k : Nat) (x : Option AObj) (a : Nat), es[j]? = some (T, some (k, x)) → ns[j]? = some a → k < a := by
  induction hc with
  | nil hG => intro j T k x a hj; simp at hj
  | add hG hG' hg hn hsub hT hc hcT hA hcov hkeys hr ih =>
    intro j T k x a hj ha
    cases j with
    | zero =>
      simp at hj ha
      subst ha
      exact (hcT k x hj.2).2
    | succ j => exact ih j T k x a (by simpa using hj) (by simpa using ha)
  | skip hG hg hr ih =>
    intro j T k x a hj ha
    cases j with
    | zero => simp at hj
    | succ j => exact ih j T k x a (by simpa using hj) (by simpa using ha)
theorem ns_monoE {P : Program} {ops : Array Oper} {l : List Oper} {env E : Env} {h H : Heap} {n N : Nat} {vs : List AV} {ns : List Nat} {es : List Eat} {G : Nat → Option AObj} (hc : ChainE P ops l env h n vs ns es G E H N) : ∀ {i j a b : Nat}, i ≤ j → ns[i]? = some a → ns[j]? = some b → a ≤ b := by
  induction hc with
  | nil hG =>
    intro i j a b hij ha hb
    cases i with
    | zero => cases j with | zero => simp at ha hb; omega | succ j => simp at hb
    | succ i => simp at ha
  | @add o os env E h hq Δ H n n' N v vs ns es G T c hG hG' hg hn hsub hT hc hcT hA hcov hkeys hr ih =>
    intro i j a b hij ha hb
    cases i with
    | zero =>
      cases j with
      | zero => simp at ha hb; omega
      | succ j =>
        simp at ha hb
        have := ih (Nat.zero_le j) hr.le.2.1 hb
        omega
    | succ i =>
      cases j with
      | zero => omega
      | succ j => exact ih (i := i) (j := j) (by omega) (by simpa using ha) (by simpa using hb)
  | @skip o os env E h H n N vs ns es G hG hg hr ih =>
    intro i j a b hij ha hb
    cases i with
    | zero =>
      cases j with
      | zero => simp at ha hb; omega
      | succ j =>
        simp at ha hb
        have := ih (Nat.zero_le j) hr.le.2.1 hb
        omega
    | succ i =>
      cases j with
      | zero => omega
      | succ j => exact ih (i := i) (j := j) (by omega) (by simpa using ha) (by simpa using hb)

theorem ChainE.get {P : Program} {ops : Array Oper} {l : List Oper} {env E : Env} {h H : Heap} {n N : Nat} {vs : List AV} {ns : List Nat} {es : List Eat} {G : Nat → Option AObj} (hc : ChainE P ops l env h n vs ns es G E H N) :
    (∀ p ∈ h, p.1 < n) → ∀ i o, l[i]? = some o → ∃ env' h' hr Δ n1 n2 v T c, StepE P ops l env vs ns es G N i o env' h' hr Δ n1 n2 v T c := by
  induction hc with
  | nil hG => intro _ i o hi; simp at hi
  | @add o os env E h hq Δ H n n' N v vs ns es G T c hG hG' hg hn hsub hT hc hcT hA hcov hkeys hr ih =>
    intro hk0 i o' hi
    have hk1 : ∀ p ∈ wrH c (Δ ++ h), p.1 < n' := fun p hp => by
      have key : ∀ p ∈ Δ ++ h, p.1 < n' := fun p hp => (List.mem_append.1 hp).elim (fun hp => (hkeys p hp).2) (fun hp => by have := hk0 p hp; omega)
      match c, hcT, hp with
      | none, _, hp => exact key p hp
      | some (k, none), hcT, hp =>
        rcases List.mem_cons.1 hp with rfl | hp
        · have := (hcT k none rfl).2; simp only; omega
        · exact key p hp
      | some (k, some o), hcT, hp =>
        rcases List.mem_cons.1 hp with rfl | hp
        · have := (hcT k (some o) rfl).2; simp only; omega
        · exact key p hp
    have hle := hr.le
    cases i with
    | zero =>
      simp at hi; subst hi
      exact ⟨env, h, hq, Δ, n, n', v, T, c, .inl ⟨hg, hsub, (fun id k1 k2 => by
        obtain ⟨q, hq⟩ := Option.isSome_iff_exists.1 (hcov id k1 k2)
        obtain ⟨p, hp, rfl⟩ := lk_mem hq
        exact hT p hp), (fun k x e => (hcT k x e).1), hA⟩, rfl, rfl, by simpa using hle.2.1, rfl, ⟨hn, hle.1⟩, fun t av ht => .inr ⟨ht, fun j oj hj => by omega⟩, hG, hG', hk0⟩
    | succ i =>
      obtain ⟨env', h', hq', Δ', n1, n2, v', T', c', s⟩ := ih hk1 i o' (by simpa using hi)
      refine ⟨env', h', hq', Δ', n1, n2, v', T', c', s.step, by simpa using s.hv, by simpa using s.hn, by simpa using s.hn', by simpa using s.he, s.le, fun t av ht => ?_, fun id hid => ?_, fun id k1 k2 => ?_, s.keys⟩
      rotate_left
      · rw [List.take_succ_cons]
        exact (hv_off _ 1 0 _).trans (s.old id hid)
      · have hle1 := ns_monoE hr (Nat.zero_le i) hle.2.1 s.hn
        rw [← s.new id k1 k2, ov_ne (fun x e => by have := (hcT id x e).2; omega)]
      rcases s.env t av ht with ⟨j, oj, h1, h2, h3, h4⟩ | ⟨h1, h2⟩
      · exact .inl ⟨j + 1, oj, by omega, by simpa using h2, h3, by simpa using h4⟩
      · cases hd : o.dst with
        | none =>
          rw [hd] at h1
          exact .inr ⟨h1, fun j oj hj hl => by
            cases j with
            | zero => simp at hl; subst hl; rw [hd]; simp
            | succ j => exact h2 j oj (by omega) (by simpa using hl)⟩
        | some d =>
          rw [hd] at h1
          simp only [putE, lkE_cons] at h1
          by_cases hdt : d = t
          · rw [if_pos hdt] at h1
            injection h1 with h1
            subst h1
            exact .inl ⟨0, o, by omega, rfl, by rw [hd, hdt], rfl⟩
          · rw [if_neg hdt] at h1
            exact .inr ⟨h1, fun j oj hj hl => by
              cases j with
              | zero => simp at hl; subst hl; rw [hd]; intro e; exact hdt (Option.some.inj e)
              | succ j => exact h2 j oj (by omega) (by simpa using hl)⟩
  | @skip o os env E h H n N vs ns es G hG hg hr ih =>
    intro hk0 i o' hi
    have hle := hr.le
    cases i with
    | zero =>
      simp at hi; subst hi
      exact ⟨env, h, [], [], n, n, .junk, [], none, .inr ⟨hg, rfl, rfl, rfl⟩, rfl, rfl, by simpa using hle.2.1, rfl, ⟨Nat.le_refl _, hle.1⟩, fun t av ht => .inr ⟨ht, fun j oj hj => by omega⟩, hG, fun id h1 h2 => by omega, hk0⟩
    | succ i =>
      obtain ⟨env', h', hq', Δ', n1, n2, v', T', c', s⟩ := ih hk0 i o' (by simpa using hi)
      refine ⟨env', h', hq', Δ', n1, n2, v', T', c', s.step, by simpa using s.hv, by simpa using s.hn, by simpa using s.hn', by simpa using s.he, s.le, fun t av ht => ?_, fun id hid => ?_, s.new, s.keys⟩
      rotate_left
      · rw [List.take_succ_cons]
        exact (hv_off _ 1 0 _).trans (s.old id hid)
      rcases s.env t av ht with ⟨j, oj, h1, h2, h3, h4⟩ | ⟨h1, h2⟩
      · exact .inl ⟨j + 1, oj, by omega, by simpa using h2, h3, by simpa using h4⟩
      · cases hd : o.dst with
        | none =>
          rw [hd] at h1
          exact .inr ⟨h1, fun j oj hj hl => by
            cases j with
            | zero => simp at hl; subst hl; rw [hd]; simp
            | succ j => exact h2 j oj (by omega) (by simpa using hl)⟩
        | some d =>
          rw [hd] at h1
          simp only [putE, lkE_cons] at h1
          by_cases hdt : d = t
          · rw [if_pos hdt] at h1
            injection h1 with h1
            subst h1
            exact .inl ⟨0, o, by omega, rfl, by rw [hd, hdt], rfl⟩
          · rw [if_neg hdt] at h1
            exact .inr ⟨h1, fun j oj hj hl => by
              cases j with
              | zero => simp at hl; subst hl; rw [hd]; intro e; exact hdt (Option.some.inj e)
              | succ j => exact h2 j oj (by omega) (by simpa using hl)⟩

/-- What the end of the chain knows of the slots. -/
theorem ChainE.envEnd {P : Program} {ops : Array Oper} {l : List Oper} {env E : Env} {h H : Heap} {n N : Nat} {vs : List AV} {ns : List Nat} {es : List Eat} {G : Nat → Option AObj} (hc : ChainE P ops l env h n vs ns es G E H N) :
    ∀ t av, lkE E t = some av → (∃ j oj, j < l.length ∧ l[j]? = some oj ∧ oj.dst = some t ∧ vs[j]? = some av) ∨ (lkE env t = some av ∧ ∀ (j : Nat) (oj : Oper), l[j]? = some oj → oj.dst ≠ some t) := by
  have key : ∀ {o : Oper} {os : List Oper} {env E : Env} {v : AV} {vs : List AV}, (∀ t av, lkE E t = some av → (∃ j oj, j < os.length ∧ os[j]? = some oj ∧ oj.dst = some t ∧ vs[j]? = some av) ∨ (lkE (putE env o.dst v) t = some av ∧ ∀ (j : Nat) (oj : Oper), os[j]? = some oj → oj.dst ≠ some t)) →
      ∀ t av, lkE E t = some av → (∃ j oj, j < (o :: os).length ∧ (o :: os)[j]? = some oj ∧ oj.dst = some t ∧ (v :: vs)[j]? = some av) ∨ (lkE env t = some av ∧ ∀ (j : Nat) (oj : Oper), (o :: os)[j]? = some oj → oj.dst ≠ some t) := by
    intro o os env E v vs ih t av ht
    rcases ih t av ht with ⟨j, oj, h1, h2, h3, h4⟩ | ⟨h1, h2⟩
    · exact .inl ⟨j + 1, oj, by simp; omega, by simpa using h2, h3, by simpa using h4⟩
    · cases hd : o.dst with
      | none =>
        rw [hd] at h1
        exact .inr ⟨h1, fun j oj hl => by
          cases j with
          | zero => simp at hl; subst hl; rw [hd]; simp
          | succ j => exact h2 j oj (by simpa using hl)⟩
      | some d =>
        rw [hd] at h1
        simp only [putE, lkE_cons] at h1
        by_cases hdt : d = t
        · rw [if_pos hdt] at h1
          injection h1 with h1
          subst h1
          exact .inl ⟨0, o, by simp, rfl, by rw [hd, hdt], rfl⟩
        · rw [if_neg hdt] at h1
          exact .inr ⟨h1, fun j oj hl => by
            cases j with
            | zero => simp at hl; subst hl; rw [hd]; intro e; exact hdt (Option.some.inj e)
            | succ j => exact h2 j oj (by simpa using hl)⟩
  induction hc with
  | nil hG => intro t av ht; exact .inr ⟨ht, fun j oj hl => by simp at hl⟩
  | add hG hG' hg hn hsub hT hc hcT hA hcov hkeys hr ih => exact key ih
  | skip hG hg hr ih => exact key ih

theorem ChainE.lenE {P : Program} {ops : Array Oper} {l : List Oper} {env E : Env} {h H : Heap} {n N : Nat} {vs : List AV} {ns : List Nat} {es : List Eat} {G : Nat → Option AObj} (hc : ChainE P ops l env h n vs ns es G E H N) : es.length = l.length := by
  induction hc with
  | nil hG => rfl
  | add hG hG' hg hn hsub hT hc hcT hA hcov hkeys hr ih => simp [ih]
  | skip hG hg hr ih => simp [ih]
/-- Of two that look at an object of which one writes it, one waits for the other. -/
def eatB (l : List Oper) (es : List Eat) : Bool :=
  (List.range es.length).all fun i => (List.range es.length).all fun j => Nat.beq i j || match es[i]?, es[j]?, l[i]?, l[j]? with
    | some (T, _), some (_, some (k, _)), some oi, some oj => !memB T k || edgeB oj i || edgeB oi j
    | _, _, _, _ => true
theorem memB_of : ∀ {l : List Nat} {t : Nat}, t ∈ l → memB l t = true
  | x :: r, t, h => by
    unfold memB
    split
    · rfl
    · rename_i hb
      rcases List.mem_cons.1 h with rfl | h
      · rw [Nat.beq_refl] at hb; cases hb
      · exact memB_of h
theorem eatB_spec {l : List Oper} {es : List Eat} (h : eatB l es = true) {i j k : Nat} {T T' : List Nat} {c : Wr} {x : Option AObj} {oi oj : Oper} (hij : i ≠ j) (hi : es[i]? = some (T, c)) (hj : es[j]? = some (T', some (k, x))) (hk : k ∈ T) (hoi : l[i]? = some oi) (hoj : l[j]? = some oj) : edgeB oj i = true ∨ edgeB oi j = true := by
  have h1 := List.all_eq_true.1 h i (List.mem_range.2 (List.getElem?_eq_some_iff.1 hi).1)
  have h2 := List.all_eq_true.1 h1 j (List.mem_range.2 (List.getElem?_eq_some_iff.1 hj).1)
  rw [hi, hj, hoi, hoj] at h2
  have hne : Nat.beq i j = false := by
    cases hb : Nat.beq i j with
    | false => rfl
    | true => exact absurd (Nat.eq_of_beq_eq_true hb) hij
  simp only [hne, Bool.false_or, memB_of hk, Bool.not_true, Bool.or_eq_true] at h2
  exact h2
abbrev lst (listed : Array Bool) (j : Nat) : Bool := listed.getD j false

def InvE (B : Bs) (sz n0 : Nat) (env0 : Env) (dfs : Defs) (l : List Oper) (vs : List AV) (ns : List Nat) (es : List Eat) (G : Nat → Option AObj) (listed : Array Bool) (a : Act) (w : World) : Prop :=
  ∃ M, ConcH B (domL n0 ns l.length listed) M (HV es 0 (lst listed) G) w ∧ a.tmps.size = sz ∧
    (∀ j o t v, l[j]? = some o → listed.getD j false = true → o.dst = some t → vs[j]? = some v → Rep ⟨domL n0 ns l.length listed, M, okOf B (domL n0 ns l.length listed) M (HV es 0 (lst listed) G), w⟩ v (a.tmps.getD t undef)) ∧
    (∀ t av, lkE env0 t = some av → (∀ (j : Nat) (o : Oper), l[j]? = some o → listed.getD j false = true → o.dst ≠ some t) → Rep ⟨domL n0 ns l.length listed, M, okOf B (domL n0 ns l.length listed) M (HV es 0 (lst listed) G), w⟩ av (a.tmps.getD t undef)) ∧
    DefRep B.fr ⟨domL n0 ns l.length listed, M, okOf B (domL n0 ns l.length listed) M (HV es 0 (lst listed) G), w⟩ dfs a.defers

section perm
variable {P : Program} {ops : Array Oper} {B : Bs} {sz n0 N : Nat} {env0 E : Env} {h0 H : Heap} {dfs : Defs} {l : List Oper} {vs : List AV} {ns : List Nat} {es : List Eat} {G : Nat → Option AObj} {listed : Array Bool}

/-- One operation of the head, whenever it comes up. -/
theorem step_E (hc : ChainE P ops l env0 h0 n0 vs ns es G E H N) (hB : headB ops l = true) (hE : eatB l es = true) (hcl : ∀ (j : Nat) (oj : Oper), l[j]? = some oj → listed.getD j false = true → ∀ e ∈ oj.after, Region.binds .any e = true → listed.getD e.on false = true) (hk0 : ∀ p ∈ h0, p.1 < n0) (hsz : ∀ (j : Nat) (oj : Oper) (t : Nat), l[j]? = some oj → oj.dst = some t → t < sz) (hops : ∀ (j : Nat) (oj : Oper), l[j]? = some oj → ops[j]? = some oj) {Q : Exit → Act → World → Prop} {i : Nat} {o : Oper} {a : Act} {w : World} (hi : l[i]? = some o) (hr : i ∈ Region.ready .any ops listed) (hinv : InvE B sz n0 env0 dfs l vs ns es G listed a w)
    {K : Act → World → Prop} (hK : ∀ a' w', InvE B sz n0 env0 dfs l vs ns es G (listed.setIfInBounds i true) a' w' → K a' w') : wpOp P ops Q i K a w := by
  obtain ⟨M, c1, c2, c3, c4, c5⟩ := hinv
  obtain ⟨env', h', hq, Δ, n1, n2, v, T, c, s⟩ := hc.get hk0 i o hi
  have hlt := (List.getElem?_eq_some_iff.1 hi).1
  have hun := (mem_ready.1 hr).1
  have hall : ∀ e ∈ o.after, Region.binds .any e = true → listed.getD e.on false = true := by
    obtain ⟨_, o', ho', hall⟩ := mem_ready.1 hr
    rw [hops i o hi] at ho'
    injection ho' with ho'
    subst ho'
    exact hall
  have hlistsz : i < listed.size := by
    rcases Nat.lt_or_ge i listed.size with h | h
    · exact h
    · simp [Array.getElem?_eq_none h] at hun
  have hb := headB_spec hB hi
  have hu := (show uniqB l = true by simp only [headB, Bool.and_eq_true] at hB; exact hB.1)
  -- what the operation looks at
  have look : ∀ t av, t ∈ o.looksAt ops → lkE env' t = some av → Rep ⟨domL n0 ns l.length listed, M, okOf B (domL n0 ns l.length listed) M (HV es 0 (lst listed) G), w⟩ av (a.tmps.getD t undef) := by
    intro t av ht hav
    rcases needB_spec (hb.2 t ht) with hno | ⟨j, oj, hj, hdj, e, he, heb, hej⟩
    · rcases s.env t av hav with ⟨j, oj, h1, h2, h3, h4⟩ | ⟨h1, h2⟩
      · exact absurd h3 (hno j oj h2)
      · exact c4 t av h1 (fun j o' hj _ => hno j o' hj)
    · have hlj := hall e he heb
      rw [hej] at hlj
      have hji : j < i := by have := hb.1 e he heb; omega
      rcases s.env t av hav with ⟨j', oj', h1, h2, h3, h4⟩ | ⟨h1, h2⟩
      · have := uniqB_spec hu h2 hj h3 hdj
        subst this
        exact c3 j' oj' t av h2 hlj h3 h4
      · exact absurd hdj (h2 j oj hji hj)
  have hdset := domL_set (n0 := n0) (m := l.length) hlt hun s.hn s.hn'
  -- the state behind it
  have fin : ∀ u w' M', Ext ⟨domL n0 ns l.length listed, M, okOf B (domL n0 ns l.length listed) M (HV es 0 (lst listed) G), w⟩ ⟨domL n0 ns l.length (listed.setIfInBounds i true), M', okOf B (domL n0 ns l.length (listed.setIfInBounds i true)) M' (HV es 0 (lst (listed.setIfInBounds i true)) G), w'⟩ → ConcH B (domL n0 ns l.length (listed.setIfInBounds i true)) M' (HV es 0 (lst (listed.setIfInBounds i true)) G) w' → Rep ⟨domL n0 ns l.length (listed.setIfInBounds i true), M', okOf B (domL n0 ns l.length (listed.setIfInBounds i true)) M' (HV es 0 (lst (listed.setIfInBounds i true)) G), w'⟩ v u → K (a.put o.dst u) w' := by
    intro u w' M' hext hcc hv
    refine hK _ _ ⟨M', hcc, ?_, fun j oj t vj hj hl hd hvj => ?_, fun t av hav hno => ?_, ?_⟩
    · cases hd : o.dst with
      | none => simpa [Act.put] using c2
      | some d => simp [Act.put, c2]
    · by_cases hij : i = j
      · subst hij
        rw [hi] at hj; injection hj with hj; subst hj
        rw [s.hv] at hvj; injection hvj with hvj; subst hvj
        have ht := hsz i o t hi hd
        rw [hd]
        simp only [Act.put]
        rw [show (a.tmps.setIfInBounds t u).getD t undef = u by simp [c2, ht]]
        exact hv
      · rw [getD_set_ne false hij] at hl
        have h1 := c3 j oj t vj hj hl hd hvj
        have hne : ∀ d, o.dst = some d → d ≠ t := fun d hdd e => hij (uniqB_spec hu hi hj (by rw [hdd, e]) hd)
        cases hdo : o.dst with
        | none => simpa [Act.put] using Rep.ext hext _ _ h1
        | some d =>
          simp only [Act.put]
          rw [show (a.tmps.setIfInBounds d u).getD t undef = a.tmps.getD t undef by simp [Array.getElem?_setIfInBounds_ne (hne d hdo)]]
          exact Rep.ext hext _ _ h1
    · have hself : o.dst ≠ some t := hno i o hi (by simp [hlistsz])
      have h1 := c4 t av hav (fun j oj hj hl => hno j oj hj (getD_set_true hl))
      cases hdo : o.dst with
      | none => simpa [Act.put] using Rep.ext hext _ _ h1
      | some d =>
        have hne : d ≠ t := fun e => hself (by rw [hdo, e])
        simp only [Act.put]
        rw [show (a.tmps.setIfInBounds d u).getD t undef = a.tmps.getD t undef by simp [Array.getElem?_setIfInBounds_ne hne]]
        exact Rep.ext hext _ _ h1
    · have : (a.put o.dst u).defers = a.defers := by cases o.dst <;> rfl
      rw [this]
      exact c5.ext hext
  -- who writes what it looks at has come, or waits
  have hpi : lst listed i = false := getD_both hun
  have order : ∀ id, id ∈ T → ∀ j T' x, j ≠ i → es[j]? = some (T', some (id, x)) → (j < i ∧ lst listed j = true) ∨ (i < j ∧ lst listed j = false) := by
    intro id hid j T' x hji hj
    have hjl : j < l.length := by rw [← hc.lenE]; exact (List.getElem?_eq_some_iff.1 hj).1
    have hoj := List.getElem?_eq_getElem hjl
    rcases eatB_spec hE (Ne.symm hji) s.he hj hid hi hoj with he | he
    · unfold edgeB at he
      obtain ⟨e, he, h3⟩ := Array.any_eq_true'.1 he
      simp only [Bool.and_eq_true] at h3
      have hlt2 := (headB_spec hB hoj).1 e he h3.1
      rw [Nat.eq_of_beq_eq_true h3.2] at hlt2
      refine .inr ⟨hlt2, ?_⟩
      cases hl : lst listed j with
      | false => rfl
      | true =>
        have h4 := hcl j _ hoj hl e he h3.1
        rw [Nat.eq_of_beq_eq_true h3.2] at h4
        exact absurd (h4.symm.trans hpi) (by simp)
    · unfold edgeB at he
      obtain ⟨e, he, h3⟩ := Array.any_eq_true'.1 he
      simp only [Bool.and_eq_true] at h3
      have hlt2 := hb.1 e he h3.1
      have h4 := hall e he h3.1
      rw [Nat.eq_of_beq_eq_true h3.2] at hlt2 h4
      exact .inl ⟨hlt2, h4⟩
  have hset : (∀ k x, c = some (k, x) → k ∈ T) → HV es 0 (lst (listed.setIfInBounds i true)) G = ov c (HV es 0 (lst listed) G) := fun hcT =>
    hv_set s.he hpi (by simp [lst, hlistsz]) (fun j hj => getD_set_ne false (Ne.symm hj)) (fun k x hk j T' x' hij hj => by
      rcases order k (hcT k x hk) j T' x' (by omega) hj with ⟨h1, _⟩ | ⟨_, h2⟩
      · omega
      · exact h2) G
  have hat : ∀ id, id ∈ T → HV es 0 (lst listed) G id = HV (es.take i) 0 (fun _ => true) G id := fun id hid =>
    hv_at s.he hpi (fun j T' x hji hj => by
      rcases order id hid j T' x (by omega) hj with ⟨_, h2⟩ | ⟨h1, _⟩
      · exact h2
      · omega) (fun j T' x hij hj => by
      rcases order id hid j T' x (by omega) hj with ⟨h1, _⟩ | ⟨_, h2⟩
      · omega
      · exact h2) G
  unfold wpOp
  rw [hops i o hi]
  simp only
  -- the guard
  have gd : ∀ b, guardA ops env' o b → Region.wanted o (yielded ops a.tmps) = b := by
    intro b hg
    unfold guardA at hg
    unfold Region.wanted
    cases hgd : o.guard with
    | none => rw [hgd] at hg; exact hg.symm
    | some p =>
      obtain ⟨j, want⟩ := p
      rw [hgd] at hg
      obtain ⟨t, c, h1, h2, h3⟩ := hg
      have h4 := look t _ (by
        unfold Oper.looksAt
        rw [hgd]
        exact List.mem_append_right _ (by simp [h1])) h2
      simp only [Rep, RepC] at h4
      have hlt : t < a.tmps.size := by
        rcases Nat.lt_or_ge t a.tmps.size with h1 | h1
        · exact h1
        · simp [h1, undef] at h4
      have : yielded ops a.tmps j = some c := by
        unfold yielded
        rw [h1]
        have h5 : a.tmps[t]? = some (.bool c) := by
          rw [← h4]
          simp [hlt]
        simp [h5]
      simp only [this]
      rw [← h3]
      cases c <;> cases want <;> rfl
  rcases s.step with ⟨hg, hsub, hnT, hcT, hA⟩ | ⟨hg, rfl, rfl, rfl⟩
  · rw [gd true hg, if_pos rfl]
    refine .inl (hA B (domL n0 ns l.length listed) M (HV es 0 (lst listed) G) w a K Q (fun id ob k1 k2 => ?_) (fun id k1 k2 => ⟨?_, ?newid⟩) c1 (fun x av hx => ?_) ?_)
    · -- an object of the text's heap is there
      obtain ⟨k1, hidT⟩ := hsub id ob k1
      rw [hat id hidT]
      rcases Nat.lt_or_ge id n1 with h1 | h1
      · rw [s.old id h1]; exact k1
      · obtain ⟨p, hp, hpi⟩ := lk_mem k1
        have := s.keys p hp
        omega
    case newid =>
      rw [hat id (hnT id k1 k2), hv_same, s.new id k1 k2]
      intro k T' x hk
      exfalso
      rw [List.getElem?_take] at hk
      split at hk
      · rename_i hki
        have hkn : k < ns.length := by rw [hc.le.2.2.1]; omega
        have h1 := hc.wrs k T' id x _ hk (List.getElem?_eq_getElem hkn)
        have h2 := ns_monoE hc (show k ≤ i by omega) (List.getElem?_eq_getElem hkn) s.hn
        omega
      · cases hk
    · rintro (h1 | ⟨j, p, q, h1, h2, h3, h4, h5, h6⟩)
      · have := ns_monoE hc (Nat.zero_le i) hc.le.2.1 s.hn
        omega
      · have hij : i ≠ j := fun e => by subst e; rw [getD_both hun] at h2; cases h2
        rcases Nat.lt_or_gt_of_ne hij with h7 | h7
        · have := ns_monoE hc (show i + 1 ≤ j by omega) s.hn' h3
          omega
        · have := ns_monoE hc (show j + 1 ≤ i by omega) h4 s.hn
          omega
    · cases x with
      | tmp t =>
        simp only [evT] at hx
        split at hx
        · rename_i hm
          exact look t av (memB_mem hm) hx
        · cases hx
      | const x => simp only [evT, Option.some.injEq] at hx; subst hx; simp [Rep, RepC, Act.eval]
      | global g => cases hx
      | func f => simp only [evT, Option.some.injEq] at hx; subst hx; exact ⟨[], rfl, rfl⟩
    · intro u w' M' hext hcc hv
      rw [← hdset, ← hset hcT] at hext hcc hv
      exact fin u w' M' hext hcc hv
  · rw [gd false hg, if_neg (by simp)]
    have hds2 : domL n0 ns l.length (listed.setIfInBounds i true) = domL n0 ns l.length listed := by rw [hdset, ad_self]
    have hhe := hset (fun k x e => by cases e)
    rw [ov_none] at hhe
    refine fin undef w M ?_ ?_ ?_
    · rw [hds2, hhe]; exact Ext.refl _
    · rw [hds2, hhe]; exact c1
    · simp [Rep]

theorem initE {w : World} {a : Act} {k : Nat} (hc : ChainE P ops l env0 h0 n0 vs ns es G E H N) (h : Conc B sz n0 env0 h0 dfs a w) : InvE B sz n0 env0 dfs l vs ns es G (Array.replicate k false) a w := by
  obtain ⟨M, c1, c2, c3, c4⟩ := h
  have hd : domL n0 ns l.length (Array.replicate k false) = lt n0 := by
    funext id
    simp only [domL, lt, eq_iff_iff]
    refine ⟨fun h => h.elim (fun h => h) ?_, .inl⟩
    rintro ⟨j, p, q, h1, h2, _⟩
    rw [getD_replicate_false] at h2
    cases h2
  have hle := hc.le
  have hHE : HV es 0 (lst (Array.replicate k false)) G = G := by
    funext id
    exact hv_same (fun j T x _ => getD_replicate_false _ _)
  have hH : ∀ id, id < n0 → G id = lk h0 id := hle.2.2.2.2.2.1
  have eok : okOf B (lt n0) M (G) = okOf B (lt n0) M (lk h0) := by
    funext b
    unfold okOf
    simp only [eq_iff_iff]
    refine and_congr Iff.rfl ⟨fun hk id o hid hh => hk id o hid (by rw [hH id hid]; exact hh), fun hk id o hid hh => hk id o hid (by rw [← hH id hid]; exact hh)⟩
  unfold InvE
  rw [hHE]
  refine ⟨M, ?_, c2, (fun j o t v hj hl => by rw [getD_replicate_false] at hl; cases hl), fun t av hav _ => ?_, ?_⟩
  · rw [hd]
    refine ⟨c1.fr, fun id o hid hh => ?_, fun id id' o o' g k1 k2 k3 k4 => c1.inj id id' o o' g k1 k2 (by rw [← hH id k1]; exact k3) (by rw [← hH id' k2]; exact k4), fun id o g k1 k2 => c1.lo id o g k1 (by rw [← hH id k1]; exact k2)⟩
    rw [eok]
    exact c1.obj id o hid (by rw [← hH id hid]; exact hh)
  · rw [hd, eok]; exact c3 t av hav
  · rw [hd, eok]; exact c4

theorem endE {w : World} {a : Act} (hc : ChainE P ops l env0 h0 n0 vs ns es G E H N) (hall : ∀ j, j < l.length → listed.getD j false = true) (h : InvE B sz n0 env0 dfs l vs ns es G listed a w) : Conc B sz N E H dfs a w := by
  obtain ⟨M, c1, c2, c3, c4, c5⟩ := h
  have hle := hc.le
  have hd : domL n0 ns l.length listed = lt N := by
    funext id
    simp only [domL, lt, eq_iff_iff]
    constructor
    · rintro (h | ⟨j, p, q, h1, h2, h3, h4, h5, h6⟩)
      · omega
      · have := ns_monoE hc (show j + 1 ≤ l.length by omega) h4 hle.2.2.2.2.1
        omega
    · intro hid
      rcases Nat.lt_or_ge id n0 with h | h
      · exact .inl h
      · -- the first place whose bound is past id
        have : ∀ k, k ≤ l.length → (∃ b, ns[k]? = some b ∧ id < b) → ∃ j a b, j < l.length ∧ ns[j]? = some a ∧ ns[j + 1]? = some b ∧ a ≤ id ∧ id < b := by
          intro k
          induction k with
          | zero =>
            rintro _ ⟨b, hb, hlt⟩
            rw [hle.2.1] at hb
            injection hb with hb
            omega
          | succ k ih =>
            rintro hk ⟨b, hb, hlt⟩
            have hkl : k < ns.length := by rw [hle.2.2.1]; omega
            by_cases hq : ns[k] ≤ id
            · exact ⟨k, ns[k], b, by omega, List.getElem?_eq_getElem hkl, hb, hq, hlt⟩
            · exact ih (by omega) ⟨ns[k], List.getElem?_eq_getElem hkl, by omega⟩
        obtain ⟨j, p, q, h1, h2, h3, h4, h5⟩ := this l.length (Nat.le_refl _) ⟨N, hle.2.2.2.2.1, hid⟩
        exact .inr ⟨j, p, q, h1, hall j h1, h2, h3, h4, h5⟩
  have hHE : ∀ id, id < N → HV es 0 (lst listed) G id = lk H id := fun id hid => by
    rw [hle.2.2.2.2.2.2 id hid]
    refine hv_congr _ _ _ _ _ _ _ (fun k T x hk => ?_) rfl
    rw [Nat.zero_add]
    exact hall k (by rw [← hc.lenE]; exact (List.getElem?_eq_some_iff.1 hk).1)
  rw [hd] at c1
  rw [hd] at c3 c4 c5
  have eok : okOf B (lt N) M (HV es 0 (lst listed) G) = okOf B (lt N) M (lk H) := by
    funext b
    unfold okOf
    simp only [eq_iff_iff]
    refine and_congr Iff.rfl ⟨fun hk id o hid hh => hk id o hid (by rw [hHE id hid]; exact hh), fun hk id o hid hh => hk id o hid (by rw [← hHE id hid]; exact hh)⟩
  rw [eok] at c3 c4 c5
  have c1' : ConcH B (lt N) M (lk H) w := by
    refine ⟨c1.fr, fun id o hid hh => ?_, fun id id' o o' g k1 k2 k3 k4 => c1.inj id id' o o' g k1 k2 (by rw [hHE id k1]; exact k3) (by rw [hHE id' k2]; exact k4), fun id o g k1 k2 => c1.lo id o g k1 (by rw [hHE id k1]; exact k2)⟩
    have := c1.obj id o hid (by rw [hHE id hid]; exact hh)
    rwa [eok] at this
  refine ⟨M, c1', c2, fun t av ht => ?_, c5⟩
  rcases hc.envEnd t av ht with ⟨j, oj, h1, h2, h3, h4⟩ | ⟨h1, h2⟩
  · exact c3 j oj t av h2 (hall j h1) h3 h4
  · exact c4 t av h1 (fun j o hj _ => h2 j o hj)
end perm

theorem aw_drawE {P : Program} {sz n0 N : Nat} {env0 E : Env} {h0 H : Heap} {dfs : Defs} {K : AK} {id : Nat} {l : List Oper} {vs : List AV} {ns : List Nat} {es : List Eat} {G : Nat → Option AObj} (m : Nat) (hm : P.follows .mixedOrders = true) (hB : drawB l m = true) (hE : eatB (l.take m) es = true) (hsz : dstsOk (l.take m) sz = true) (hk0 : keysB h0 n0 = true)
    (hc : ChainE P l.toArray (l.take m) env0 h0 n0 vs ns es G E H N) (next : AWL P l.toArray sz (l.drop m) K N E H dfs) : AW P sz (.region id l.toArray true) K n0 env0 h0 dfs := by
  intro B a w hcc
  simp only [drawB, Bool.and_eq_true, Bool.or_eq_true] at hB
  obtain ⟨⟨⟨b1, b2⟩, b3⟩, b4⟩ := hB
  have hml : m ≤ l.length := Nat.le_of_ble_eq_true b1
  have htl : (l.take m).length = m := by simp; omega
  have hk0' : ∀ p ∈ h0, p.1 < n0 := fun p hp => by simpa [Nat.blt_eq] using List.all_eq_true.1 hk0 p hp
  have hsz' : ∀ (j : Nat) (oj : Oper) (t : Nat), (l.take m)[j]? = some oj → oj.dst = some t → t < sz := fun j oj t hj hd => by
    have := List.all_eq_true.1 hsz oj (List.mem_of_getElem? hj)
    exact dstOk_spec this t hd
  have hops : ∀ (j : Nat) (oj : Oper), (l.take m)[j]? = some oj → l.toArray[j]? = some oj := fun j oj hj => by
    rw [List.getElem?_take] at hj
    split at hj
    · simpa using hj
    · cases hj
  refine wp_region_any hm ?_
  -- the world behind the draw
  have hdrew : Conc B sz n0 env0 h0 dfs a { w with drawn := w.drawn + 1 } := by
    obtain ⟨M, c1, c2, c3, c4⟩ := hcc
    have hbel : Below w.heap.size w { w with drawn := w.drawn + 1 } := (Below.refl _ _).drew
    have hg := c1.grow hbel n0 n0 (M' := M) (fun _ _ => rfl) (fun id h1 h2 => by omega) (fun id o h1 h2 => by omega) (fun id id' o o' g h1 h2 => by omega) (fun _ id o h1 h2 => by omega)
    rw [ad_self] at hg
    exact ⟨M, hg.1, c2, fun t av ht => Rep.ext hg.2 _ _ (c3 t av ht), c4.ext hg.2⟩
  have key : ∀ (f : Nat) (listed : Array Bool) (a : Act) (w : World), (List.range m).countP (fun j => !listed.getD j false) = f → HeadInv .any l.toArray m listed → InvE B sz n0 env0 dfs (l.take m) vs ns es G listed a w →
      wpAny P .any l.toArray (KC B sz K) (f + (l.length - m)) listed a w := by
    intro f
    induction f with
    | zero =>
      intro listed a w hcnt hinv hI
      have hall := countL_zero m hcnt
      have hlisted : listed = doneL m (l.length - m) := by
        apply Array.ext
        · rw [hinv.size]; simp [doneL]; omega
        · intro j h1 h2
          rw [hinv.size] at h1
          simp only [List.size_toArray] at h1
          by_cases hj : j < m
          · have := hall j hj
            simp [hinv.size, h1] at this
            simp [doneL, hj, this, List.getElem_append]
          · have := hinv.tail j (by omega) (by simpa using h1)
            simp [hinv.size, h1] at this
            simp [doneL, hj, this, List.getElem_append]
      rw [Nat.zero_add]
      have hconc := endE hc (by rw [htl]; exact hall) hI
      have := wpAny_of_seq (P := P) (ops := l.toArray) (md := .any) (Q' := KC B sz K) (l.drop m) m listed a w (fun j => by simp [List.getElem?_drop]) (by rw [List.length_drop, hlisted]; exact b4) (next B a w hconc)
      rwa [List.length_drop] at this
    | succ f ih =>
      intro listed a w hcnt hinv hI
      rw [show f + 1 + (l.length - m) = (f + (l.length - m)) + 1 by omega]
      -- some operation of the head is still to come
      have hex : ∃ j, j < m ∧ listed.getD j false = false := by
        have hpos : 0 < (List.range m).countP (fun j => !listed.getD j false) := by omega
        obtain ⟨j, hj, hp⟩ := List.countP_pos_iff.1 hpos
        exact ⟨j, List.mem_range.1 hj, by simpa using hp⟩
      have hsize : ∀ j, j < m → j < listed.size := fun j hj => by rw [hinv.size]; simp; omega
      have hready : Region.ready .any l.toArray listed ≠ [] := by
        obtain ⟨j0, hj0, hu0⟩ := hex
        obtain ⟨j, ⟨hj, hu⟩, hmin⟩ := exists_min (fun j => j < m ∧ listed.getD j false = false) ⟨j0, hj0, hu0⟩
        have hjl : j < (l.take m).length := by omega
        have hb := headB_spec b2 (List.getElem?_eq_getElem hjl)
        have hr : j ∈ Region.ready .any l.toArray listed := by
          refine mem_ready.2 ⟨getD_in (hsize j hj) hu, (l.take m)[j], hops j _ (List.getElem?_eq_getElem hjl), fun e he hbn => ?_⟩
          have hlt := hb.1 e he hbn
          cases hle : listed.getD e.on false with
          | true => rfl
          | false => have := hmin e.on ⟨by omega, hle⟩; omega
        intro h0; rw [h0] at hr; cases hr
      refine ⟨fun h => absurd h hready, fun i hi => ?_⟩
      have him : i < m := by
        rcases Nat.lt_or_ge i m with h | h
        · exact h
        · exfalso
          obtain ⟨_, oi, hoi, _⟩ := mem_ready.1 hi
          have hil : i < l.length := by simpa using (Array.getElem?_eq_some_iff.1 hoi).1
          rcases b3 with b3 | b3
          · have := Nat.eq_of_beq_eq_true b3; omega
          · obtain ⟨j0, hj0, hu0⟩ := hex
            exact tail_waits b3.1 b3.2 (by simp; omega) hinv _ j0 rfl hj0 (getD_in (hsize j0 hj0) hu0) i h hi
      have hil : i < (l.take m).length := by omega
      refine step_E hc b2 hE (fun j oj hj hl e he hb => hinv.closed j oj (hops j oj hj) hl e he hb) hk0' hsz' hops (List.getElem?_eq_getElem hil) hi hI fun a' w' hI' => ?_
      refine ih _ a' w' ?_ (hinv.set hi him) hI'
      have := countL_set m him (mem_ready.1 hi).1
      omega
  have hcount : (List.range m).countP (fun j => !(Array.replicate l.toArray.size false).getD j false) = m := by
    rw [List.countP_eq_length.2 (fun j hj => by rw [getD_replicate_false]; rfl), List.length_range]
  have := key m (Array.replicate l.toArray.size false) a _ hcount ⟨by simp, (fun j oj hj hl => by rw [getD_replicate_false] at hl; cases hl), fun t h1 h2 => by simp at h2; simp [h2]⟩ (initE hc hdrew)
  rw [show m + (l.length - m) = l.toArray.size by simp; omega] at this
  exact this
end Go.Av
