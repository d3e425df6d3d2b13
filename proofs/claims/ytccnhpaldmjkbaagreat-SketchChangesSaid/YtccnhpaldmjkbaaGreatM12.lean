/-
  Joined texts: AvM3 T12 U7 U11p U17p. Lemmas; no statement of a law.
-/
import Derived.Test.YtccnhpaldmjkbaaGreatM11
set_option linter.unusedSimpArgs false
set_option linter.unusedVariables false
/-
  Regions that draw their order and write in the midst, where one operation may wait for another by a chain of edges. For every program.
-/
namespace Go.Av
open Go Go.RowKit
def chainG : Ground → Bool
  | .chain => true
  | .phase => true
  | _ => false
/-- The operation waits for the one at place i, by an edge or by a chain of calls. -/
def chB (l : List Oper) : Nat → Oper → Nat → Bool
  | 0, _, _ => false
  | f + 1, o, i => o.after.any fun e => Region.binds .any e && (Nat.beq e.on i || (chainG e.ground && match l[e.on]? with | some o' => chB l f o' i | none => false))
theorem chB_spec {l : List Oper} {p : Nat → Prop} (hlt : ∀ (j : Nat) (oj : Oper), l[j]? = some oj → ∀ e ∈ oj.after, Region.binds .any e = true → e.on < j) (hcl : ∀ (j : Nat) (oj : Oper), l[j]? = some oj → p j → ∀ e ∈ oj.after, Region.binds .any e = true → p e.on) : ∀ {f : Nat} {o : Oper} {i : Nat}, chB l f o i = true →
    ((∀ e ∈ o.after, Region.binds .any e = true → p e.on) → p i) ∧ ∀ j, l[j]? = some o → i < j ∧ (p j → p i)
  | 0, o, i, h => by cases h
  | f + 1, o, i, h => by
    unfold chB at h
    obtain ⟨e, he, h3⟩ := Array.any_eq_true'.1 h
    simp only [Bool.and_eq_true, Bool.or_eq_true] at h3
    obtain ⟨hb, h3⟩ := h3
    rcases h3 with h3 | ⟨_, h3⟩
    · rw [← Nat.eq_of_beq_eq_true h3]
      exact ⟨fun k => k e he hb, fun j hj => ⟨hlt j o hj e he hb, fun hp => hcl j o hj hp e he hb⟩⟩
    · split at h3
      · rename_i o' ho'
        obtain ⟨_, q2⟩ := chB_spec hlt hcl (f := f) h3
        obtain ⟨q3, q4⟩ := q2 e.on ho'
        exact ⟨fun k => q4 (k e he hb), fun j hj => ⟨Nat.lt_trans q3 (hlt j o hj e he hb), fun hp => q4 (hcl j o hj hp e he hb)⟩⟩
      · cases h3
def eatC (l : List Oper) (es : List Eat) : Bool :=
  (List.range es.length).all fun i => (List.range es.length).all fun j => Nat.beq i j || match es[i]?, es[j]?, l[i]?, l[j]? with
    | some (T, _), some (_, some (k, _)), some oi, some oj => !memB T k || chB l 12 oj i || chB l 12 oi j
    | _, _, _, _ => true
theorem eatC_spec {l : List Oper} {es : List Eat} (h : eatC l es = true) {i j k : Nat} {T T' : List Nat} {c : Wr} {x : Option AObj} {oi oj : Oper} (hij : i ≠ j) (hi : es[i]? = some (T, c)) (hj : es[j]? = some (T', some (k, x))) (hk : k ∈ T) (hoi : l[i]? = some oi) (hoj : l[j]? = some oj) : chB l 12 oj i = true ∨ chB l 12 oi j = true := by
  have h1 := List.all_eq_true.1 h i (List.mem_range.2 (List.getElem?_eq_some_iff.1 hi).1)
  have h2 := List.all_eq_true.1 h1 j (List.mem_range.2 (List.getElem?_eq_some_iff.1 hj).1)
  rw [hi, hj, hoi, hoj] at h2
  have hne : Nat.beq i j = false := by
    cases hb : Nat.beq i j with
    | false => rfl
    | true => exact absurd (Nat.eq_of_beq_eq_true hb) hij
  simp only [hne, Bool.false_or, memB_of hk, Bool.not_true, Bool.or_eq_true] at h2
  exact h2
section perm
variable {P : Program} {ops : Array Oper} {B : Bs} {sz n0 N : Nat} {env0 E : Env} {h0 H : Heap} {dfs : Defs} {l : List Oper} {vs : List AV} {ns : List Nat} {es : List Eat} {G : Nat → Option AObj} {listed : Array Bool}

/-- One operation of the head, whenever it comes up. -/
theorem step_E3 (hc : ChainE P ops l env0 h0 n0 vs ns es G E H N) (hB : headB ops l = true) (hE : eatC l es = true) (hcl : ∀ (j : Nat) (oj : Oper), l[j]? = some oj → listed.getD j false = true → ∀ e ∈ oj.after, Region.binds .any e = true → listed.getD e.on false = true) (hk0 : ∀ p ∈ h0, p.1 < n0) (hsz : ∀ (j : Nat) (oj : Oper) (t : Nat), l[j]? = some oj → oj.dst = some t → t < sz) (hops : ∀ (j : Nat) (oj : Oper), l[j]? = some oj → ops[j]? = some oj) {Q : Exit → Act → World → Prop} {i : Nat} {o : Oper} {a : Act} {w : World} (hi : l[i]? = some o) (hr : i ∈ Region.ready .any ops listed) (hinv : InvE B sz n0 env0 dfs l vs ns es G listed a w)
    {K : Act → World → Prop} (hK : ∀ a' w', InvE B sz n0 env0 dfs l vs ns es G (listed.setIfInBounds i true) a' w' → K a' w') : wpOp P ops Q i K a w := by
  obtain ⟨M, c1, c2, c3, c4, c5⟩ := hinv
  obtain ⟨env', h', hq, Δ, n1, n2, v, T, c, s⟩ := hc.get hk0 i o hi
  have hlt := (List.getElem?_eq_some_iff.1 hi).1
  have hun := (mem_ready.1 hr).1
  have hall : ∀ e ∈ o.after, Region.binds .any e = true → listed.getD e.on false = true := by
    obtain ⟨_, o', ho', hall⟩ := mem_ready.1 hr
    rw [hops i o hi] at ho'
    injection ho' with ho'
    subst ho'
    exact hall
  have hlistsz : i < listed.size := by
    rcases Nat.lt_or_ge i listed.size with h | h
    · exact h
    · simp [Array.getElem?_eq_none h] at hun
  have hb := headB_spec hB hi
  have hu := (show uniqB l = true by simp only [headB, Bool.and_eq_true] at hB; exact hB.1)
  -- what the operation looks at
  have look : ∀ t av, t ∈ o.looksAt ops → lkE env' t = some av → Rep ⟨domL n0 ns l.length listed, M, okOf B (domL n0 ns l.length listed) M (HV es 0 (lst listed) G), w⟩ av (a.tmps.getD t undef) := by
    intro t av ht hav
    rcases needB_spec (hb.2 t ht) with hno | ⟨j, oj, hj, hdj, e, he, heb, hej⟩
    · rcases s.env t av hav with ⟨j, oj, h1, h2, h3, h4⟩ | ⟨h1, h2⟩
      · exact absurd h3 (hno j oj h2)
      · exact c4 t av h1 (fun j o' hj _ => hno j o' hj)
    · have hlj := hall e he heb
      rw [hej] at hlj
      have hji : j < i := by have := hb.1 e he heb; omega
      rcases s.env t av hav with ⟨j', oj', h1, h2, h3, h4⟩ | ⟨h1, h2⟩
      · have := uniqB_spec hu h2 hj h3 hdj
        subst this
        exact c3 j' oj' t av h2 hlj h3 h4
      · exact absurd hdj (h2 j oj hji hj)
  have hdset := domL_set (n0 := n0) (m := l.length) hlt hun s.hn s.hn'
  -- the state behind it
  have fin : ∀ u w' M', Ext ⟨domL n0 ns l.length listed, M, okOf B (domL n0 ns l.length listed) M (HV es 0 (lst listed) G), w⟩ ⟨domL n0 ns l.length (listed.setIfInBounds i true), M', okOf B (domL n0 ns l.length (listed.setIfInBounds i true)) M' (HV es 0 (lst (listed.setIfInBounds i true)) G), w'⟩ → ConcH B (domL n0 ns l.length (listed.setIfInBounds i true)) M' (HV es 0 (lst (listed.setIfInBounds i true)) G) w' → Rep ⟨domL n0 ns l.length (listed.setIfInBounds i true), M', okOf B (domL n0 ns l.length (listed.setIfInBounds i true)) M' (HV es 0 (lst (listed.setIfInBounds i true)) G), w'⟩ v u → K (a.put o.dst u) w' := by
    intro u w' M' hext hcc hv
    refine hK _ _ ⟨M', hcc, ?_, fun j oj t vj hj hl hd hvj => ?_, fun t av hav hno => ?_, ?_⟩
    · cases hd : o.dst with
      | none => simpa [Act.put] using c2
      | some d => simp [Act.put, c2]
    · by_cases hij : i = j
      · subst hij
        rw [hi] at hj; injection hj with hj; subst hj
        rw [s.hv] at hvj; injection hvj with hvj; subst hvj
        have ht := hsz i o t hi hd
        rw [hd]
        simp only [Act.put]
        rw [show (a.tmps.setIfInBounds t u).getD t undef = u by simp [c2, ht]]
        exact hv
      · rw [getD_set_ne false hij] at hl
        have h1 := c3 j oj t vj hj hl hd hvj
        have hne : ∀ d, o.dst = some d → d ≠ t := fun d hdd e => hij (uniqB_spec hu hi hj (by rw [hdd, e]) hd)
        cases hdo : o.dst with
        | none => simpa [Act.put] using Rep.ext hext _ _ h1
        | some d =>
          simp only [Act.put]
          rw [show (a.tmps.setIfInBounds d u).getD t undef = a.tmps.getD t undef by simp [Array.getElem?_setIfInBounds_ne (hne d hdo)]]
          exact Rep.ext hext _ _ h1
    · have hself : o.dst ≠ some t := hno i o hi (by simp [hlistsz])
      have h1 := c4 t av hav (fun j oj hj hl => hno j oj hj (getD_set_true hl))
      cases hdo : o.dst with
      | none => simpa [Act.put] using Rep.ext hext _ _ h1
      | some d =>
        have hne : d ≠ t := fun e => hself (by rw [hdo, e])
        simp only [Act.put]
        rw [show (a.tmps.setIfInBounds d u).getD t undef = a.tmps.getD t undef by simp [Array.getElem?_setIfInBounds_ne hne]]
        exact Rep.ext hext _ _ h1
    · have : (a.put o.dst u).defers = a.defers := by cases o.dst <;> rfl
      rw [this]
      exact c5.ext hext
  -- who writes what it looks at has come, or waits
  have hpi : lst listed i = false := getD_both hun
  have order : ∀ id, id ∈ T → ∀ j T' x, j ≠ i → es[j]? = some (T', some (id, x)) → (j < i ∧ lst listed j = true) ∨ (i < j ∧ lst listed j = false) := by
    intro id hid j T' x hji hj
    have hjl : j < l.length := by rw [← hc.lenE]; exact (List.getElem?_eq_some_iff.1 hj).1
    have hoj := List.getElem?_eq_getElem hjl
    rcases eatC_spec hE (Ne.symm hji) s.he hj hid hi hoj with he | he
    · obtain ⟨h1, h2⟩ := chB_spec (l := l) (p := fun q => listed.getD q false = true) (fun j oj h => (headB_spec hB h).1) hcl he
      obtain ⟨h3, h4⟩ := h2 j hoj
      refine .inr ⟨h3, ?_⟩
      cases hl : lst listed j with
      | false => rfl
      | true => exact absurd ((h4 hl).symm.trans hpi) (by simp)
    · obtain ⟨h1, h2⟩ := chB_spec (l := l) (p := fun q => listed.getD q false = true) (fun j oj h => (headB_spec hB h).1) hcl he
      exact .inl ⟨(h2 i hi).1, h1 hall⟩
  have hset : (∀ k x, c = some (k, x) → k ∈ T) → HV es 0 (lst (listed.setIfInBounds i true)) G = ov c (HV es 0 (lst listed) G) := fun hcT =>
    hv_set s.he hpi (by simp [lst, hlistsz]) (fun j hj => getD_set_ne false (Ne.symm hj)) (fun k x hk j T' x' hij hj => by
      rcases order k (hcT k x hk) j T' x' (by omega) hj with ⟨h1, _⟩ | ⟨_, h2⟩
      · omega
      · exact h2) G
  have hat : ∀ id, id ∈ T → HV es 0 (lst listed) G id = HV (es.take i) 0 (fun _ => true) G id := fun id hid =>
    hv_at s.he hpi (fun j T' x hji hj => by
      rcases order id hid j T' x (by omega) hj with ⟨_, h2⟩ | ⟨h1, _⟩
      · exact h2
      · omega) (fun j T' x hij hj => by
      rcases order id hid j T' x (by omega) hj with ⟨h1, _⟩ | ⟨_, h2⟩
      · omega
      · exact h2) G
  unfold wpOp
  rw [hops i o hi]
  simp only
  -- the guard
  have gd : ∀ b, guardA ops env' o b → Region.wanted o (yielded ops a.tmps) = b := by
    intro b hg
    unfold guardA at hg
    unfold Region.wanted
    cases hgd : o.guard with
    | none => rw [hgd] at hg; exact hg.symm
    | some p =>
      obtain ⟨j, want⟩ := p
      rw [hgd] at hg
      obtain ⟨t, h1, h2⟩ := hg
      rcases h2 with ⟨c, h2, h3⟩ | ⟨h2, rfl⟩
      rotate_left
      · have h4 := look t _ (by
          unfold Oper.looksAt
          rw [hgd]
          exact List.mem_append_right _ (by simp [h1])) h2
        simp only [Rep, RepC] at h4
        simp [yield_undef h1 h4]
      have h4 := look t _ (by
        unfold Oper.looksAt
        rw [hgd]
        exact List.mem_append_right _ (by simp [h1])) h2
      simp only [Rep, RepC] at h4
      have hlt : t < a.tmps.size := by
        rcases Nat.lt_or_ge t a.tmps.size with h1 | h1
        · exact h1
        · simp [h1, undef] at h4
      have : yielded ops a.tmps j = some c := by
        unfold yielded
        rw [h1]
        have h5 : a.tmps[t]? = some (.bool c) := by
          rw [← h4]
          simp [hlt]
        simp [h5]
      simp only [this]
      rw [← h3]
      cases c <;> cases want <;> rfl
  rcases s.step with ⟨hg, hsub, hnT, hcT, hA⟩ | ⟨hg, rfl, rfl, rfl⟩
  · rw [gd true hg, if_pos rfl]
    refine .inl (hA B (domL n0 ns l.length listed) M (HV es 0 (lst listed) G) w a K Q (fun id ob k1 k2 => ?_) (fun id k1 k2 => ⟨?_, ?newid⟩) c1 (fun x av hx => ?_) ?_)
    · -- an object of the text's heap is there
      obtain ⟨k1, hidT⟩ := hsub id ob k1
      rw [hat id hidT]
      rcases Nat.lt_or_ge id n1 with h1 | h1
      · rw [s.old id h1]; exact k1
      · obtain ⟨p, hp, hpi⟩ := lk_mem k1
        have := s.keys p hp
        omega
    case newid =>
      rw [hat id (hnT id k1 k2), hv_same, s.new id k1 k2]
      intro k T' x hk
      exfalso
      rw [List.getElem?_take] at hk
      split at hk
      · rename_i hki
        have hkn : k < ns.length := by rw [hc.le.2.2.1]; omega
        have h1 := hc.wrs k T' id x _ hk (List.getElem?_eq_getElem hkn)
        have h2 := ns_monoE hc (show k ≤ i by omega) (List.getElem?_eq_getElem hkn) s.hn
        omega
      · cases hk
    · rintro (h1 | ⟨j, p, q, h1, h2, h3, h4, h5, h6⟩)
      · have := ns_monoE hc (Nat.zero_le i) hc.le.2.1 s.hn
        omega
      · have hij : i ≠ j := fun e => by subst e; rw [getD_both hun] at h2; cases h2
        rcases Nat.lt_or_gt_of_ne hij with h7 | h7
        · have := ns_monoE hc (show i + 1 ≤ j by omega) s.hn' h3
          omega
        · have := ns_monoE hc (show j + 1 ≤ i by omega) h4 s.hn
          omega
    · cases x with
      | tmp t =>
        simp only [evT] at hx
        split at hx
        · rename_i hm
          exact look t av (memB_mem hm) hx
        · cases hx
      | const x => simp only [evT, Option.some.injEq] at hx; subst hx; simp [Rep, RepC, Act.eval]
      | global g => cases hx
      | func f => simp only [evT, Option.some.injEq] at hx; subst hx; exact ⟨[], rfl, rfl⟩
    · intro u w' M' hext hcc hv
      rw [← hdset, ← hset hcT] at hext hcc hv
      exact fin u w' M' hext hcc hv
  · rw [gd false hg, if_neg (by simp)]
    have hds2 : domL n0 ns l.length (listed.setIfInBounds i true) = domL n0 ns l.length listed := by rw [hdset, ad_self]
    have hhe := hset (fun k x e => by cases e)
    rw [ov_none] at hhe
    refine fin undef w M ?_ ?_ ?_
    · rw [hds2, hhe]; exact Ext.refl _
    · rw [hds2, hhe]; exact c1
    · simp [Rep, RepC]
end perm
theorem aw_drawE3 {P : Program} {sz n0 N : Nat} {env0 E : Env} {h0 H : Heap} {dfs : Defs} {K : AK} {id : Nat} {l : List Oper} {vs : List AV} {ns : List Nat} {es : List Eat} {G : Nat → Option AObj} (m : Nat) (hm : P.follows .mixedOrders = true) (hB : drawB l m = true) (hE : eatC (l.take m) es = true) (hsz : dstsOk (l.take m) sz = true) (hk0 : keysB h0 n0 = true)
    (hc : ChainE P l.toArray (l.take m) env0 h0 n0 vs ns es G E H N) (next : AWL P l.toArray sz (l.drop m) K N E H dfs) : AW P sz (.region id l.toArray true) K n0 env0 h0 dfs := by
  intro B a w hcc rd hrd
  simp only [drawB, Bool.and_eq_true, Bool.or_eq_true] at hB
  obtain ⟨⟨⟨b1, b2⟩, b3⟩, b4⟩ := hB
  have hml : m ≤ l.length := Nat.le_of_ble_eq_true b1
  have htl : (l.take m).length = m := by simp; omega
  have hk0' : ∀ p ∈ h0, p.1 < n0 := fun p hp => by simpa [Nat.blt_eq] using List.all_eq_true.1 hk0 p hp
  have hsz' : ∀ (j : Nat) (oj : Oper) (t : Nat), (l.take m)[j]? = some oj → oj.dst = some t → t < sz := fun j oj t hj hd => by
    have := List.all_eq_true.1 hsz oj (List.mem_of_getElem? hj)
    exact dstOk_spec this t hd
  have hops : ∀ (j : Nat) (oj : Oper), (l.take m)[j]? = some oj → l.toArray[j]? = some oj := fun j oj hj => by
    rw [List.getElem?_take] at hj
    split at hj
    · simpa using hj
    · cases hj
  have hnd : rd = none ∨ ∀ (i : Nat) (o : Oper), l.toArray[i]? = some o → noDef o = true := hrd.imp_right fun k i o ho => all_get (by simpa [plainC] using k) ho
  have hdrop : rd = none ∨ (l.drop m).all noDef = true := hrd.imp_right fun k => List.all_eq_true.2 fun o ho => List.all_eq_true.1 (by simpa [plainC] using k) o (List.mem_of_mem_drop ho)
  refine wpIn_region_any hm ?_
  -- the world behind the draw
  have hdrew : Conc B sz n0 env0 h0 dfs a { w with drawn := w.drawn + 1 } := by
    obtain ⟨M, c1, c2, c3, c4⟩ := hcc
    have hbel : Below w.heap.size w { w with drawn := w.drawn + 1 } := (Below.refl _ _).drew
    have hg := c1.grow hbel n0 n0 (M' := M) (fun _ _ => rfl) (fun id h1 h2 => by omega) (fun id o h1 h2 => by omega) (fun id id' o o' g h1 h2 => by omega) (fun _ id o h1 h2 => by omega)
    rw [ad_self] at hg
    exact ⟨M, hg.1, c2, fun t av ht => Rep.ext hg.2 _ _ (c3 t av ht), c4.ext hg.2⟩
  have key : ∀ (f : Nat) (listed : Array Bool) (a : Act) (w : World), (List.range m).countP (fun j => !listed.getD j false) = f → HeadInv .any l.toArray m listed → InvE B sz n0 env0 dfs (l.take m) vs ns es G listed a w →
      wpAnyIn (WF rd) 0 P .any l.toArray (KC B sz K) (f + (l.length - m)) listed a w := by
    intro f
    induction f with
    | zero =>
      intro listed a w hcnt hinv hI
      have hall := countL_zero m hcnt
      have hlisted : listed = doneL m (l.length - m) := by
        apply Array.ext
        · rw [hinv.size]; simp [doneL]; omega
        · intro j h1 h2
          rw [hinv.size] at h1
          simp only [List.size_toArray] at h1
          by_cases hj : j < m
          · have := hall j hj
            simp [hinv.size, h1] at this
            simp [doneL, hj, this, List.getElem_append]
          · have := hinv.tail j (by omega) (by simpa using h1)
            simp [hinv.size, h1] at this
            simp [doneL, hj, this, List.getElem_append]
      rw [Nat.zero_add]
      have hconc := endE hc (by rw [htl]; exact hall) hI
      have := wpAnyIn_of_seq (F := WF rd) (n := 0) (P := P) (ops := l.toArray) (md := .any) (Q' := KC B sz K) (l.drop m) m listed a w (fun j => by simp [List.getElem?_drop]) (by rw [List.length_drop, hlisted]; exact b4) (next B a w hconc rd hdrop)
      rwa [List.length_drop] at this
    | succ f ih =>
      intro listed a w hcnt hinv hI
      rw [show f + 1 + (l.length - m) = (f + (l.length - m)) + 1 by omega]
      -- some operation of the head is still to come
      have hex : ∃ j, j < m ∧ listed.getD j false = false := by
        have hpos : 0 < (List.range m).countP (fun j => !listed.getD j false) := by omega
        obtain ⟨j, hj, hp⟩ := List.countP_pos_iff.1 hpos
        exact ⟨j, List.mem_range.1 hj, by simpa using hp⟩
      have hsize : ∀ j, j < m → j < listed.size := fun j hj => by rw [hinv.size]; simp; omega
      have hready : Region.ready .any l.toArray listed ≠ [] := by
        obtain ⟨j0, hj0, hu0⟩ := hex
        obtain ⟨j, ⟨hj, hu⟩, hmin⟩ := exists_min (fun j => j < m ∧ listed.getD j false = false) ⟨j0, hj0, hu0⟩
        have hjl : j < (l.take m).length := by omega
        have hb := headB_spec b2 (List.getElem?_eq_getElem hjl)
        have hr : j ∈ Region.ready .any l.toArray listed := by
          refine mem_ready.2 ⟨getD_in (hsize j hj) hu, (l.take m)[j], hops j _ (List.getElem?_eq_getElem hjl), fun e he hbn => ?_⟩
          have hlt := hb.1 e he hbn
          cases hle : listed.getD e.on false with
          | true => rfl
          | false => have := hmin e.on ⟨by omega, hle⟩; omega
        intro h0; rw [h0] at hr; cases hr
      refine ⟨fun h => absurd h hready, fun i hi => ?_⟩
      have him : i < m := by
        rcases Nat.lt_or_ge i m with h | h
        · exact h
        · exfalso
          obtain ⟨_, oi, hoi, _⟩ := mem_ready.1 hi
          have hil : i < l.length := by simpa using (Array.getElem?_eq_some_iff.1 hoi).1
          rcases b3 with b3 | b3
          · have := Nat.eq_of_beq_eq_true b3; omega
          · obtain ⟨j0, hj0, hu0⟩ := hex
            exact tail_waits b3.1 b3.2 (by simp; omega) hinv _ j0 rfl hj0 (getD_in (hsize j0 hj0) hu0) i h hi
      have hil : i < (l.take m).length := by omega
      refine wpOp_in (hnd.imp_right fun k => k i) (step_E3 (Q := fun _ _ _ => False) hc b2 hE (fun j oj hj hl e he hb => hinv.closed j oj (hops j oj hj) hl e he hb) hk0' hsz' hops (List.getElem?_eq_getElem hil) hi hI fun a' w' hI' => ?_)
      refine ih _ a' w' ?_ (hinv.set hi him) hI'
      have := countL_set m him (mem_ready.1 hi).1
      omega
  have hcount : (List.range m).countP (fun j => !(Array.replicate l.toArray.size false).getD j false) = m := by
    rw [List.countP_eq_length.2 (fun j hj => by rw [getD_replicate_false]; rfl), List.length_range]
  have := key m (Array.replicate l.toArray.size false) a _ hcount ⟨by simp, (fun j oj hj hl => by rw [getD_replicate_false] at hl; cases hl), fun t h1 h2 => by simp at h2; simp [h2]⟩ (initE hc hdrew)
  rw [show m + (l.length - m) = l.toArray.size by simp; omega] at this
  exact this
theorem drwE_end3 {P : Program} {l : List Oper} {sz : Nat} {K : AK} {dfs : Defs} {id n0 n : Nat} {env0 env : Env} {h0 h : Heap} {es : List Eat} {rest : List Oper} (hm : P.follows .mixedOrders = true) (hB : drawB l (l.length - rest.length) = true) (hE : eatC (l.take (l.length - rest.length)) es = true) (hsz : dstsOk (l.take (l.length - rest.length)) sz = true) (hk0 : keysB h0 n0 = true) (next : AWL P l.toArray sz rest K n env h dfs) : DrwE P l sz K dfs id n0 env0 h0 es 0 rest n env h := by
  intro pre vs ns G hl hc
  have hlen : l.length - rest.length = pre.length := by rw [← hl]; simp
  rw [hlen] at hB hsz hE
  have ht : l.take pre.length = pre := by rw [← hl]; simp
  have hd : l.drop pre.length = rest := by rw [← hl]; simp
  exact aw_drawE3 pre.length hm hB hE hsz hk0 (by rw [ht]; exact hc) (by rw [hd]; exact next)
/-- An operation that reads no object. -/
theorem d_still0 {P : Program} {l : List Oper} {sz : Nat} {K : AK} {dfs : Defs} {i n0 n m t : Nat} {env0 env : Env} {h0 h : Heap} {es : List Eat} {rest : List Oper} {op : Op} {ty : TypeId} {pos : String} {aft : Array Edge} {gd : Option (Nat × Bool)} {v : AV} (hg : guardA l.toArray env ⟨some t, op, ty, pos, aft, gd⟩ true) (hs : Still P ⟨some t, op, ty, pos, aft, gd⟩ (evT (Oper.looksAt l.toArray ⟨some t, op, ty, pos, aft, gd⟩) env) [] v) (next : DrwE P l sz K dfs i n0 env0 h0 (es ++ [([], none)]) m rest n ((t, v) :: env) h) : DrwE P l sz K dfs i n0 env0 h0 es (m + 1) (⟨some t, op, ty, pos, aft, gd⟩ :: rest) n env h :=
  drwE_step (T := []) (hr := []) (Δ := []) (c := none) hg (Nat.le_refl _) (fun id o h => by cases h) (by simp) trivial (fun k x e => by cases e) hs.adds.est (fun id h1 h2 => by omega) (by simp) next
end Go.Av
/-
  Sketches off a tape; equal cells; values that are removed from count sketches (walk).
-/
namespace Go.Proofs.YtccnhpaldmjkbaaGreat
open Go Go.RowKit Go.Av
set_option maxRecDepth 100000
def widV (x : Int) : Int := [1, 2, 3, 5, 8, 16, 64].getD x.toNat 1
theorem widV_bd (x : Int) : 1 ≤ widV x ∧ widV x ≤ 64 := by
  unfold widV
  rw [List.getD_eq_getElem?_getD]
  generalize x.toNat = k
  match k with
  | 0 => decide
  | 1 => decide
  | 2 => decide
  | 3 => decide
  | 4 => decide
  | 5 => decide
  | 6 => decide
  | k + 7 => simp
theorem widc (x : Int) (h1 : 0 ≤ x) (h2 : x < 7) : ([iv 1, iv 2, iv 3, iv 5, iv 8, iv 16, iv 64] : List CV)[x.toNat]? = some (iv (widV x)) := by
  rcases (show x = 0 ∨ x = 1 ∨ x = 2 ∨ x = 3 ∨ x = 4 ∨ x = 5 ∨ x = 6 by omega) with e | e | e | e | e | e | e <;> subst e <;> rfl
def skF (l : List Int) (n : Nat) (a : Int) : Sk :=
  ⟨[115], [116, 48], nextX l n a 9 / 4, nextX l n (nextA n a 9) 3, widV (nextX l n (nextA n (nextA n a 9) 3) 7), if nextX l n (nextA n a 9) 3 = 2 then 1 else 1 + nextX l n (nextA n (nextA n (nextA n a 9) 3) 7) 3⟩
def skA (n : Nat) (a : Int) : Int := nextA n (nextA n (nextA n (nextA n a 9) 3) 7) 3
theorem skA_bd (n : Nat) (a : Int) (ha : 0 ≤ a) (ha2 : a ≤ 9223372036854775807) : 0 ≤ skA n a ∧ skA n a ≤ 9223372036854775807 := by
  obtain ⟨h1, h2⟩ := nextA_bd n a 9 ha ha2
  obtain ⟨h3, h4⟩ := nextA_bd n _ 3 h1 h2
  obtain ⟨h5, h6⟩ := nextA_bd n _ 7 h3 h4
  exact nextA_bd n _ 3 h5 h6
theorem skF_facts (l : List Int) (n : Nat) (a : Int) : ∃ (col w d : Nat) (kd : Int), skF l n a = ⟨[115], [116, 48], col, kd, w, d⟩ ∧ col ≤ 2 ∧ 1 ≤ w ∧ w ≤ 64 ∧ 1 ≤ d ∧ d ≤ 3 ∧ (kd = 0 ∨ kd = 1 ∨ kd = 2 ∧ d = 1) := by
  obtain ⟨h1, h2⟩ := nextX_bd l n a 9 (by decide) (by decide)
  obtain ⟨h3, h4⟩ := nextX_bd l n (nextA n a 9) 3 (by decide) (by decide)
  obtain ⟨h5, h6⟩ := widV_bd (nextX l n (nextA n (nextA n a 9) 3) 7)
  obtain ⟨h7, h8⟩ := nextX_bd l n (nextA n (nextA n (nextA n a 9) 3) 7) 3 (by decide) (by decide)
  unfold skF
  generalize nextX l n a 9 = x0 at *
  generalize nextX l n (nextA n a 9) 3 = x1 at *
  generalize widV (nextX l n (nextA n (nextA n a 9) 3) 7) = x2 at *
  generalize nextX l n (nextA n (nextA n (nextA n a 9) 3) 7) 3 = x3 at *
  refine ⟨(x0 / 4).toNat, x2.toNat, (if x1 = 2 then 1 else 1 + x3).toNat, x1, ?_, by omega, by omega, by omega, by split <;> omega, by split <;> omega, ?_⟩
  · rw [Int.toNat_of_nonneg (by omega), Int.toNat_of_nonneg (by omega), Int.toNat_of_nonneg (by split <;> omega)]
  · by_cases h : x1 = 2
    · rw [if_pos h]; omega
    · omega
attribute [local irreducible] Still Adds AWL AW Drw DrwE EStep AC AWR Weak Frz Src RetK Out InK ItK AsK RdK RetT OutT ACT
set_option maxHeartbeats 8000000 in
theorem tsk_ok (l : List Int) (n : Nat) (a : Int) (hn : l.length = n) (hnn : n ≤ maxLen) (ha0 : 0 ≤ a) (ha : a ≤ 9223372036854775807) :
    ACT Tryz.prog 18 72 (tpC l n a) [] (tpC l n (skA n a)) (.agg (skF l n a).c) := by
  unfold skA skF Sk.c
  have h0 := next_ok l n a 9 hn hnn ha0 ha (by decide)
  obtain ⟨b0, b0'⟩ := nextX_bd l n a 9 (by decide) (by decide)
  obtain ⟨p1, p2⟩ := nextA_bd n a 9 ha0 ha
  generalize nextX l n a 9 = x0 at *
  generalize nextA n a 9 = a1 at *
  have h1 := next_ok l n a1 3 hn hnn p1 p2 (by decide)
  obtain ⟨b1, b1'⟩ := nextX_bd l n a1 3 (by decide) (by decide)
  obtain ⟨p3, p4⟩ := nextA_bd n a1 3 p1 p2
  generalize nextX l n a1 3 = x1 at *
  generalize nextA n a1 3 = a2 at *
  have h2 := next_ok l n a2 7 hn hnn p3 p4 (by decide)
  obtain ⟨b2, b2'⟩ := nextX_bd l n a2 7 (by decide) (by decide)
  obtain ⟨p5, p6⟩ := nextA_bd n a2 7 p3 p4
  generalize nextX l n a2 7 = x2 at *
  generalize nextA n a2 7 = a3 at *
  have h3 := next_ok l n a3 3 hn hnn p5 p6 (by decide)
  obtain ⟨b3, b3'⟩ := nextX_bd l n a3 3 (by decide) (by decide)
  generalize nextX l n a3 3 = x3 at *
  generalize nextA n a3 3 = a4 at *
  have hw := widc x2 b2 b2'
  generalize widV x2 = wv at hw ⊢
  have hq : IntKind.i64.wrap (x0.tdiv 4) = x0 / 4 := q64 b0 (by decide) (by omega)
  generalize x0 / 4 = cq at hq ⊢
  by_cases k2 : x1 = 2
  · rw [if_pos k2]
    subst k2
    refine act_enter tabOk (sz := 23) Tryz.func18 rfl (by rw [Tryz.ntmps18]; rfl) ?_
    repeat' (first | ((with_reducible refine aw_seqk ?_); intro K hK hX) | ((with_reducible refine isC_reg ?_); refine aw_prune [0, 2, 3] rfl rfl ?_; with_reducible refine aw_region ?_) | ((with_reducible refine isE_move ?_); refine d_still0 g_none (s_move rfl) ?_) | ((with_reducible refine isC_draw ?_); refine aw_prune [0, 2, 3] rfl rfl ?_; refine aw_drwE [] ?_) | ((with_reducible refine isA_call ?_); refine awl_callT (h0) g_none rfl zby rfl rfl rfl rfl zcv rfl ztp ?_) | ((with_reducible refine isE_call ?_); refine d_callT (h0) g_none rfl rfl zby rfl rfl rfl rfl zcv rfl ztp rfl ?_) | ((with_reducible refine isA_call ?_); refine awl_callT (h1) g_none rfl zby rfl rfl rfl rfl zcv rfl ztp ?_) | ((with_reducible refine isE_call ?_); refine d_callT (h1) g_none rfl rfl zby rfl rfl rfl rfl zcv rfl ztp rfl ?_) | ((with_reducible refine isA_call ?_); refine awl_callT (h2) g_none rfl zby rfl rfl rfl rfl zcv rfl ztp ?_) | ((with_reducible refine isE_call ?_); refine d_callT (h2) g_none rfl rfl zby rfl rfl rfl rfl zcv rfl ztp rfl ?_) | ((with_reducible refine isA_call ?_); refine awl_callT (h3) g_none rfl zby rfl rfl rfl rfl zcv rfl ztp ?_) | ((with_reducible refine isE_call ?_); refine d_callT (h3) g_none rfl rfl zby rfl rfl rfl rfl zcv rfl ztp rfl ?_) | ((first | ((with_reducible refine isA_any ?_); refine xA ?_) | ((with_reducible refine isEk_any ?_); refine xE ?_)); (first | ((with_reducible refine e_bin ?_); (first | refine ex_i (s_quo (k := .i64) rfl rfl (by decide) hq) ?_)) | ((with_reducible refine e_load ?_); (first | refine ex_i (s_load1 tabOk rfl rfl rfl rfl (by (rw [Nat.zero_add, Nat.mul_one]; exact hw))) ?_ | refine ex_i (s_load1r tabOk rfl rfl rfl rfl (by (rw [Nat.zero_add, Nat.mul_one]; exact hw))) ?_ | refine ex_i (s_load1i tabOk rfl rfl rfl (by (rw [Nat.zero_add, Nat.mul_one]; exact hw))) ?_)) | ((with_reducible refine e_ix ?_); (first | refine ex_i (s_ixV1 tabOk rfl rfl zcj rfl rfl rfl rfl rfl zle (by (rw [Nat.zero_add, Nat.mul_one]; exact hw))) ?_ | refine ex_i (s_ixStr tabOk rfl rfl zcj rfl rfl (by (rw [Nat.zero_add, Nat.mul_one]; exact hw))) ?_)))) | ((with_reducible refine isA_store ?_); refine awl_storeA tabOk g_none rfl rfl rfl zpt (by rfl) (by rfl) rfl (Nat.le_of_ble_eq_true rfl) (by rfl) ?_) | ((with_reducible refine isE_store ?_); refine d_storeA tabOk g_none rfl rfl rfl rfl rfl zpt (by rfl) (by rfl) rfl (Nat.le_of_ble_eq_true rfl) (by rfl) rfl ?_) | (refine drwE_end3 (by kernel_rfl) (by kernel_rfl) (by kernel_rfl) (by kernel_rfl) rfl ?_) | refine stA ?_ | refine stE ?_ | (refine hK _ _ _ _ ?_; clear hK hX K) | (refine hX _ _ _ _ _ (by simp) ?_; clear hK hX K))
    refine retT_mk zio ztr rfl rfl (ResL.one zrs) (outT_c zfz rfl rfl)
  · rw [if_neg k2]
    refine act_enter tabOk (sz := 23) Tryz.func18 rfl (by rw [Tryz.ntmps18]; rfl) ?_
    repeat' (first | ((with_reducible refine aw_seqk ?_); intro K hK hX) | ((with_reducible refine isC_reg ?_); refine aw_prune [0, 2, 3] rfl rfl ?_; with_reducible refine aw_region ?_) | ((with_reducible refine isE_move ?_); refine d_still0 g_none (s_move rfl) ?_) | ((with_reducible refine isC_draw ?_); refine aw_prune [0, 2, 3] rfl rfl ?_; refine aw_drwE [] ?_) | ((with_reducible refine isA_call ?_); refine awl_callT (h0) g_none rfl zby rfl rfl rfl rfl zcv rfl ztp ?_) | ((with_reducible refine isE_call ?_); refine d_callT (h0) g_none rfl rfl zby rfl rfl rfl rfl zcv rfl ztp rfl ?_) | ((with_reducible refine isA_call ?_); refine awl_callT (h1) g_none rfl zby rfl rfl rfl rfl zcv rfl ztp ?_) | ((with_reducible refine isE_call ?_); refine d_callT (h1) g_none rfl rfl zby rfl rfl rfl rfl zcv rfl ztp rfl ?_) | ((with_reducible refine isA_call ?_); refine awl_callT (h2) g_none rfl zby rfl rfl rfl rfl zcv rfl ztp ?_) | ((with_reducible refine isE_call ?_); refine d_callT (h2) g_none rfl rfl zby rfl rfl rfl rfl zcv rfl ztp rfl ?_) | ((with_reducible refine isA_call ?_); refine awl_callT (h3) g_none rfl zby rfl rfl rfl rfl zcv rfl ztp ?_) | ((with_reducible refine isE_call ?_); refine d_callT (h3) g_none rfl rfl zby rfl rfl rfl rfl zcv rfl ztp rfl ?_) | ((first | ((with_reducible refine isA_any ?_); refine xA ?_) | ((with_reducible refine isEk_any ?_); refine xE ?_)); (first | ((with_reducible refine e_bin ?_); (first | refine ex_i (s_quo (k := .i64) rfl rfl (by decide) hq) ?_)) | ((with_reducible refine e_load ?_); (first | refine ex_i (s_load1 tabOk rfl rfl rfl rfl (by (rw [Nat.zero_add, Nat.mul_one]; exact hw))) ?_ | refine ex_i (s_load1r tabOk rfl rfl rfl rfl (by (rw [Nat.zero_add, Nat.mul_one]; exact hw))) ?_ | refine ex_i (s_load1i tabOk rfl rfl rfl (by (rw [Nat.zero_add, Nat.mul_one]; exact hw))) ?_)) | ((with_reducible refine e_ix ?_); (first | refine ex_i (s_ixV1 tabOk rfl rfl zcj rfl rfl rfl rfl rfl zle (by (rw [Nat.zero_add, Nat.mul_one]; exact hw))) ?_ | refine ex_i (s_ixStr tabOk rfl rfl zcj rfl rfl (by (rw [Nat.zero_add, Nat.mul_one]; exact hw))) ?_)))) | ((with_reducible refine isA_store ?_); refine awl_storeA tabOk g_none rfl rfl rfl zpt (by rfl) (by rfl) rfl (Nat.le_of_ble_eq_true rfl) (by rfl) ?_) | ((with_reducible refine isE_store ?_); refine d_storeA tabOk g_none rfl rfl rfl rfl rfl zpt (by rfl) (by rfl) rfl (Nat.le_of_ble_eq_true rfl) (by rfl) rfl ?_) | (refine drwE_end3 (by kernel_rfl) (by kernel_rfl) (by kernel_rfl) (by kernel_rfl) rfl ?_) | refine stA ?_ | refine stE ?_ | (refine hK _ _ _ _ ?_; clear hK hX K) | (refine hX _ _ _ _ _ (by simp) ?_; clear hK hX K))
    refine retT_mk zio ztr rfl rfl (ResL.one zrs) (outT_c zfz rfl rfl)
set_option maxHeartbeats 4000000 in
theorem rsame_t (x : List Int) (n : Nat) (hn : x.length = n) (hm : n ≤ maxLen) : AC Tryz.prog 66 [.sl 1 n (intc .i64 x), .sl 1 n (intc .i64 x)] (.c (bv true)) [] 0 := by
  have hml : n ≤ 9223372036854775807 := hm
  clear hm
  have hil : (intc .i64 x).length = n := by rw [intc_length, hn]
  refine ac_enter tabOk (sz := 26) Tryz.func66 rfl (by rw [Tryz.ntmps66]; rfl) ?_
  repeat' (first | ((with_reducible refine aw_seqk ?_); intro K hK hX) | ((with_reducible refine isC_reg ?_); refine aw_prune [0, 1, 4, 5] rfl rfl ?_; with_reducible refine aw_region ?_) | refine stA ?_ | refine stD ?_ | (refine hK _ _ _ _ ?_; clear hK hX K) | (refine hX _ _ _ _ _ (by simp) ?_; clear hK hX K))
  refine aw_loopo [5] [] rfl rfl (fun i : Nat => [(5, .c (iv i))]) (fun i => []) (fun i => i ≤ n) (fun i => n - i) 0 (by omega) weakA ?_
  intro i hi K hK hX
  by_cases hlt : i < n
  · obtain ⟨y, hy⟩ : ∃ y, x[i]? = some y := ⟨x[i]'(by omega), List.getElem?_eq_getElem _⟩
    have hxa := intc_at hy
    repeat' (first | ((with_reducible refine aw_seqk ?_); intro K hK hX) | ((with_reducible refine isC_reg ?_); refine aw_prune [0, 1, 4, 5] rfl rfl ?_; with_reducible refine aw_region ?_) | ((with_reducible refine isC_draw ?_); refine aw_prune [0, 1, 4, 5] rfl rfl ?_; refine aw_drwF [] ?_) | ((first | ((with_reducible refine isA_any ?_); refine xA ?_) | ((with_reducible refine isDk_any ?_); refine xD ?_)); (first | ((with_reducible refine e_load ?_); (first | refine ex_i (s_load1 tabOk rfl rfl rfl rfl (by (rw [Nat.mul_one]; exact hxa))) ?_ | refine ex_i (s_load1r tabOk rfl rfl rfl rfl (by (rw [Nat.mul_one]; exact hxa))) ?_ | refine ex_i (s_load1i tabOk rfl rfl rfl (by (rw [Nat.mul_one]; exact hxa))) ?_)) | ((with_reducible refine e_ix ?_); (first | refine ex_i (s_ixV1 tabOk rfl rfl zcj rfl rfl rfl rfl rfl zle (by (rw [Nat.mul_one]; exact hxa))) ?_ | refine ex_i (s_ixStr tabOk rfl rfl zcj rfl rfl (by (rw [Nat.mul_one]; exact hxa))) ?_)))) | refine stA ?_ | refine stD ?_ | (refine hK _ _ _ _ ?_; clear hK hX K) | (refine hX _ _ _ _ _ (by simp) ?_; clear hK hX K))
    exact ⟨i + 1, by omega, by omega, weakA⟩
  · repeat' (first | ((with_reducible refine aw_seqk ?_); intro K hK hX) | ((with_reducible refine isC_reg ?_); refine aw_prune [0, 1, 4, 5] rfl rfl ?_; with_reducible refine aw_region ?_) | refine stA ?_ | refine stD ?_ | (refine hK _ _ _ _ ?_; clear hK hX K) | (refine hX _ _ _ _ _ (by simp) ?_; clear hK hX K))
    refine retK_mk zio ztr rfl (ResL.one (ResA.tmp rfl)) zou
set_option maxHeartbeats 8000000 in
theorem rem_cnt (nm sr : List UInt8) (col : Int) (w d : Nat) (v : Vl) (l : List Int) (n : Nat) (c : Int) (hn : l.length = n) (hnn : n ≤ 1000000) (hv : valC ⟨nm, sr, col, 0, w, d⟩ l) (hwd : n = w * d) (ho : okP v) (hz : v.k ≠ 0) (hc1 : 0 < c) (hc2 : c ≤ 262144) (hle : c ≤ leastN l w v d) : AC Tryz.prog 64 [.agg [sv nm, sv sr, iv col, iv 0, iv w, iv d], .sl 1 n (intc .i64 l), .agg v.c, iv c] (.tup [.c (.sl 1 n (intc .i64 (addN 0 w v (-c) l d))), .c (iv 0)]) [] 0 := by
  have hil : (intc .i64 l).length = n := by rw [intc_length, hn]
  obtain ⟨⟨f1, f2, f3, f4, f5, f6⟩, f7, f8, f9⟩ := id hv
  simp only at f1 f2 f3 f4 f5 f6 f7 f8
  have hp : 0 < n := by rw [hwd]; exact Nat.mul_pos (by omega) (by omega)
  rw [show -c = 0 - c by omega]
  have h1 := valc_ok ⟨nm, sr, col, 0, w, d⟩ l n hn (by simp) (by simp only [maxLen]; omega)
  have : ∀ i : Decidable (valC ⟨nm, sr, col, 0, w, d⟩ l), @decide _ i = true := fun i => @decide_eq_true _ i hv
  rw [this] at h1
  have h2 := valid_ok v
  rw [okV_t ho] at h2
  have h3 := clone64_ok l n hn hp hnn
  have h4 := least_ok nm sr col 0 w d v l n hn (by omega) (by omega) (by omega) (by omega) hwd
  have hpl := fun (row : Nat) (h : row < 256) => place_ok nm sr col 0 w d v row (by omega) (by omega) h
  have hlt2 : ∀ j, j < d → placeV w v j < n := fun j h => by rw [hwd]; exact placeV_lt v (by omega) h
  have hap : ∀ j, addN 0 w v (0 - c) l (j + 1) = putP 0 (addN 0 w v (0 - c) l j) (placeV w v j) (0 - c) := fun j => rfl
  have had : ∀ j, (addN 0 w v (0 - c) l j).length = n := fun j => by rw [addN_length, hn]
  have hai : ∀ j, j ≤ d → ∀ p, p < n → -10000000000 ≤ (addN 0 w v (0 - c) l j).getD p 0 ∧ (addN 0 w v (0 - c) l j).getD p 0 ≤ 10000000000 := fun j hj p hp => by
    rw [addN_getD w v (0 - c) l (by omega) j]
    have hx := f9 (l.getD p 0) (List.mem_of_getElem? (getD_at (by omega)))
    unfold okX limZ at hx
    simp only [if_true] at hx
    have h1 := cnt_le w v p j
    have h2 : c * (cnt w v p j : Int) ≤ 262144 * 8 := Int.mul_le_mul hc2 (by omega) (by omega) (by omega)
    have h3 : 0 ≤ c * (cnt w v p j : Int) := Int.mul_nonneg (by omega) (by omega)
    rw [Int.zero_sub, Int.neg_mul]
    omega
  have ha0 : l = addN 0 w v (0 - c) l 0 := rfl
  generalize placeV w v = pl at hpl hlt2 hap
  generalize leastN l w v d = le at h4 hle
  generalize addN 0 w v (0 - c) l = ad at hap had hai ha0 ⊢
  obtain ⟨a, m, b⟩ := v
  simp only [Vl.c, Sk.c] at *
  have hz' : a ≠ 0 := hz
  clear hz hv this
  refine ac_enter tabOk (sz := 56) Tryz.func64 rfl (by rw [Tryz.ntmps64]; rfl) ?_
  repeat' (first | ((with_reducible refine aw_seqk ?_); intro K hK hX) | ((with_reducible refine isC_reg ?_); refine aw_prune [0, 1, 2, 3, 4, 6, 8, 9, 10, 11] rfl rfl ?_; with_reducible refine aw_region ?_) | ((with_reducible refine isA_call ?_); (first | refine zA ?_ | refine zN ?_); (first | refine c0 (h1) ?_ | refine c0 (h2) ?_ | refine c1 (h3) ?_ | refine c0 (h4) ?_)) | ((first | with_reducible refine isA_call ?_ | with_reducible refine isA_callv ?_); refine awl_inl tabOk [0, 1, 2, 3, 4, 5, 6, 7, 8, 9, 10, 11, 12, 13, 14, 15, 16, 17, 18, 19, 20, 21, 22, 23, 24, 25, 26, 27, 28, 29, 30, 31, 32, 33, 34, 35, 36, 37, 38, 39, 40, 41, 42, 43, 44, 45, 46, 47, 48, 49, 50, 51, 52, 53, 54, 55] g_none rfl rfl zby Tryz.func121 rfl rfl rfl (szf := 34) (by rw [Tryz.ntmps121]; rfl) rfl ?_) | refine stA ?_ | (refine hK _ _ _ _ ?_; clear hK hX K) | (refine hX _ _ _ _ _ (by simp) ?_; clear hK hX K) | (first | refine inK_some zio ztr rfl rfl ResL.none ?_ | refine inK_none zio ztr rfl rfl ResL.none ?_))
  refine aw_loopo [8, 9, 11] [2] rfl rfl (fun j : Nat => [(11, .c (iv j))]) (fun j => [(2, .row 2 (intc .i64 (ad j)))]) (fun j => j ≤ d) (fun j => d - j) 0 (by omega) (by refine weak_mk rfl ?_ ?_ rfl <;> (repeat' (first | exact weakE_nil | exact weakH_nil | refine weakE_cons rfl (by first | rfl | (exact congrArg (fun x => AObj.row 2 (intc .i64 x)) ha0) | exact zeq) rfl ?_ | refine weakH_cons rfl (by first | rfl | (exact congrArg (fun x => AObj.row 2 (intc .i64 x)) ha0) | exact zeq) rfl ?_))) ?_
  intro j hj K hK hX
  have hjl := had j
  have hji : (intc .i64 (ad j)).length = n := by rw [intc_length, hjl]
  by_cases hjd : j < d
  · have hplj := hpl j (by omega)
    have hpj := hlt2 j hjd
    have hput := hap j
    have hbj := hai j hj (pl j) hpj
    have hgt := intc_at (getD_at (l := ad j) (i := pl j) (by omega))
    unfold putP at hput
    rw [if_pos rfl] at hput
    generalize pl j = p at hplj hpj hput hbj hgt
    clear hpl hlt2 hap had hai ha0 h1 h2 h3 h4
    generalize (ad j).getD p 0 = g at hput hbj hgt
    have hset : (intc .i64 (ad j)).set (0 + p * 1) (iv (g + (0 - c))) = intc .i64 (ad (j + 1)) := by rw [Nat.zero_add, Nat.mul_one, hput, intc_set]
    repeat' (first | ((with_reducible refine aw_seqk ?_); intro K hK hX) | ((with_reducible refine isC_reg ?_); refine aw_prune [0, 1, 2, 3, 4, 6, 8, 9, 10, 11] rfl rfl ?_; with_reducible refine aw_region ?_) | ((with_reducible refine isA_call ?_); (first | refine zA ?_ | refine zN ?_); (first | refine c0 (hplj) ?_)) | ((first | with_reducible refine isA_call ?_ | with_reducible refine isA_callv ?_); refine awl_inl tabOk [0, 1, 2, 3, 4, 5, 6, 7, 8, 9, 10, 11, 12, 13, 14, 15, 16, 17, 18, 19, 20, 21, 22, 23, 24, 25, 26, 27, 28, 29, 30, 31, 32, 33, 34, 35, 36, 37, 38, 39, 40, 41, 42, 43, 44, 45, 46, 47, 48, 49, 50, 51, 52, 53, 54, 55] g_none rfl rfl zby Tryz.func121 rfl rfl rfl (szf := 34) (by rw [Tryz.ntmps121]; rfl) rfl ?_) | (((with_reducible refine isA_any ?_); refine xA ?_); (first | ((with_reducible refine e_load ?_); (first | refine ex_i (s_load1 tabOk rfl rfl rfl rfl (by (rw [Nat.zero_add, Nat.mul_one]; exact hgt))) ?_ | refine ex_i (s_load1r tabOk rfl rfl rfl rfl (by (rw [Nat.zero_add, Nat.mul_one]; exact hgt))) ?_ | refine ex_i (s_load1i tabOk rfl rfl rfl (by (rw [Nat.zero_add, Nat.mul_one]; exact hgt))) ?_)) | ((with_reducible refine e_ix ?_); (first | refine ex_i (s_ixV1 tabOk rfl rfl zcj rfl rfl rfl rfl rfl zle (by (rw [Nat.zero_add, Nat.mul_one]; exact hgt))) ?_ | refine ex_i (s_ixStr tabOk rfl rfl zcj rfl rfl (by (rw [Nat.zero_add, Nat.mul_one]; exact hgt))) ?_)))) | ((with_reducible refine isA_store ?_); (refine awl_store1r tabOk g_none rfl rfl rfl rfl rfl rfl (by first | omega | exact Nat.le_of_ble_eq_true rfl | omega | (simp <;> omega)) ?_)) | refine stA ?_ | (refine hK _ _ _ _ ?_; clear hK hX K) | (refine hX _ _ _ _ _ (by simp) ?_; clear hK hX K) | (first | refine inK_some zio ztr rfl rfl ResL.none ?_ | refine inK_none zio ztr rfl rfl ResL.none ?_))
    exact ⟨j + 1, by omega, by omega, (by refine weak_mk rfl ?_ ?_ rfl <;> (repeat' (first | exact weakE_nil | exact weakH_nil | refine weakE_cons rfl (by first | rfl | (exact congrArg (AObj.row 2) hset) | exact zeq) rfl ?_ | refine weakH_cons rfl (by first | rfl | (exact congrArg (AObj.row 2) hset) | exact zeq) rfl ?_)))⟩
  · have hjd2 : j = d := by omega
    rw [hjd2] at hji ⊢
    clear hpl hlt2 hap had hai ha0 h1 h2 h3 h4
    repeat' (first | ((with_reducible refine aw_seqk ?_); intro K hK hX) | ((with_reducible refine isC_reg ?_); refine aw_prune [0, 1, 2, 3, 4, 6, 8, 9, 10, 11] rfl rfl ?_; with_reducible refine aw_region ?_) | ((first | with_reducible refine isA_call ?_ | with_reducible refine isA_callv ?_); refine awl_inl tabOk [0, 1, 2, 3, 4, 5, 6, 7, 8, 9, 10, 11, 12, 13, 14, 15, 16, 17, 18, 19, 20, 21, 22, 23, 24, 25, 26, 27, 28, 29, 30, 31, 32, 33, 34, 35, 36, 37, 38, 39, 40, 41, 42, 43, 44, 45, 46, 47, 48, 49, 50, 51, 52, 53, 54, 55] g_none rfl rfl zby Tryz.func121 rfl rfl rfl (szf := 34) (by rw [Tryz.ntmps121]; rfl) rfl ?_) | refine stA ?_ | (refine hK _ _ _ _ ?_; clear hK hX K) | (refine hX _ _ _ _ _ (by simp) ?_; clear hK hX K) | (first | refine inK_some zio ztr rfl rfl ResL.none ?_ | refine inK_none zio ztr rfl rfl ResL.none ?_))
    refine retK_mk zio (by exact ⟨rm_idle, rm_idle_b, trivial⟩) rfl (ResL.two (ResA.tmp rfl) (ResA.tmp rfl)) (out_t (frzl_cons zfz (frzl_cons zfz frzl_nil)))
end Go.Proofs.YtccnhpaldmjkbaaGreat
/-
  Bottom-k sketches of bags, and the law SketchSupport (walk).
-/
namespace Go.Proofs.YtccnhpaldmjkbaaGreat
open Go Go.RowKit Go.Av
set_option maxRecDepth 100000
theorem BagF.up {M N : Nat} {b : List En} (h : BagF M b) (hN : M ≤ N) : BagF N b := ⟨h.srt, h.pos, h.row, Nat.le_trans h.abs hN⟩
/-- Cells of a Bloom filter. -/
def in01 (l : List Int) : Prop := ∀ x ∈ l, x = 0 ∨ x = 1
attribute [local irreducible] Still Adds AWL AW Drw DrwE EStep AC AWR Weak Frz Src RetK Out InK ItK AsK RdK RetT OutT ACT ACS RetS ACP RetP
end Go.Proofs.YtccnhpaldmjkbaaGreat
/-
  Cells after some entries, in any order. Plain.
-/
namespace Go.Proofs.YtccnhpaldmjkbaaGreat
open Go Go.RowKit Go.Av
set_option maxRecDepth 100000
def foldK (kd : Int) (w d col N : Nat) (R : List En) : List Int := R.foldl (stepE kd w d col) (List.replicate N 0)
/-- The cells of a bottom-k sketch, as a value: none is nil. -/
def botC (w col : Nat) (R : List En) : CV := if hashE col R = [] then .v (.slice none 0 0) else .sl 1 (smallI w (hashE col R)).length (intc .i64 (smallI w (hashE col R)))
theorem botC_nil {w col : Nat} {R : List En} (h : hashE col R = []) : botC w col R = .v (.slice none 0 0) := if_pos h
theorem botC_some {w col : Nat} {R : List En} (h : hashE col R ≠ []) : botC w col R = .sl 1 (smallI w (hashE col R)).length (intc .i64 (smallI w (hashE col R))) := if_neg h
end Go.Proofs.YtccnhpaldmjkbaaGreat
/-
  What estimates must reach: multiplicities of values, the different values of a bag. Plain.
-/
namespace Go.Proofs.YtccnhpaldmjkbaaGreat
open Go Go.RowKit Go.Av
set_option maxRecDepth 100000
/-- How often a value stands in a column. -/
def multN (col : Nat) (v : Vl) (b : List En) : Int := wsum (fun r => if cellV r col = v then 1 else 0) b
theorem least_ge {l : List Int} {w d : Nat} {v : Vl} {x : Int} (h : ∀ i, i < d → x ≤ l.getD (placeV w v i) 0) (hd : 0 < d) : x ≤ leastN l w v d := by
  have key : ∀ j, j ≤ d → x ≤ leastN l w v j := by
    intro j
    induction j with
    | zero => intro _; exact h 0 hd
    | succ j ih =>
      intro hj
      have h1 := h j (by omega)
      have h2 := ih (by omega)
      rw [leastN]
      split <;> omega
  exact key d (Nat.le_refl _)
/-- The different values of a column. -/
def diffS (D : List Vl) (v : Vl) : List Vl := if v.k = 0 ∨ v ∈ D then D else D ++ [v]
def diffL (col : Nat) (b : List En) : List Vl := b.foldl (fun D e => diffS D (cellV e.r col)) []
theorem form_of3 {nm sr : List UInt8} {col : Int} {kd : Int} {w d : Nat} (w1 : 1 ≤ w) (w2 : w ≤ 64) (d1 : 1 ≤ d) (d2 : d ≤ 3) (hk : kd = 0 ∨ kd = 1 ∨ kd = 2 ∧ d = 1) : formP ⟨nm, sr, col, kd, w, d⟩ ∧ w * d ≤ 192 ∧ 0 < w * d := by
  have h1 : w * d ≤ 64 * 3 := Nat.mul_le_mul w2 d2
  have h2 : (w : Int) * (d : Int) = ((w * d : Nat) : Int) := by simp
  refine ⟨⟨?_, ?_, ?_, ?_, ?_, ?_⟩, by omega, Nat.mul_pos w1 d1⟩
  · show 1 ≤ (w : Int); omega
  · show (w : Int) ≤ 1024; omega
  · show 1 ≤ (d : Int); omega
  · show (d : Int) ≤ 8; omega
  · show (w : Int) * (d : Int) ≤ 1024; omega
  · show kd = 0 ∨ kd = 1 ∨ kd = 2 ∧ (d : Int) = 1; omega
theorem small_nil0 (w : Nat) : smallI w [] = [] := by
  have := ascL_length []
  unfold smallI
  rw [List.eq_nil_of_length_eq_zero (l := ascL []) (by simpa using this)]
  simp
theorem botC_cv0 (w col : Nat) (A : List En) : Cv (botC w col A) (.sl 1 (smallI w (hashE col A)).length (intc .i64 (smallI w (hashE col A)))) := by
  by_cases h : hashE col A = []
  · rw [botC_nil h, h, small_nil0]
    exact cv_nil
  · rw [botC_some h]
    exact cv_rfl
end Go.Proofs.YtccnhpaldmjkbaaGreat
