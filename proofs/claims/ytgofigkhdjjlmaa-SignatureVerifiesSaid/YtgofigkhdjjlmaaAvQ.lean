/-
  Regions that draw their order, in which a mere move may come late. For every program.
-/
import Derived.Test.YtgofigkhdjjlmaaAvN
import Derived.Orders
import Derived.StillTail
set_option linter.unusedVariables false
set_option linter.unusedSimpArgs false
namespace Go.Av
open Go Go.RowKit
/-- Normal ends alone. -/
def onlyN (K : AK) : AK := fun e n env h dfs => e = .normal ∧ K .normal n env h dfs
theorem k_only {K : AK} {n : Nat} {env : Env} {h : Heap} {dfs : Defs} (hk : K .normal n env h dfs) : onlyN K .normal n env h dfs := ⟨rfl, hk⟩
def sinkXB (ops : Array Oper) (n : Nat) (fs : List Nat) : Bool :=
  (List.range n).all fun i => memB fs i || (List.range (n + 1)).any fun j => decide (i < j) && Region.waitsFor .any ops j i && !memB fs j
def moveB (l : List Oper) (i : Nat) : Bool := match l[i]? with
  | some o => (match o.op with | .move _ => true | _ => false) && (List.range l.length).all fun j => Nat.beq j i || Region.waitsFor .any l.toArray j i || (match l[j]? with | some oj => o.apart l.toArray oj | none => true)
  | none => false
def selB (l : List Oper) : Bool := l.all fun o => match o.op with | .select _ _ => false | _ => true
def drawXB (l : List Oper) (m : Nat) (fs : List Nat) : Bool :=
  Nat.ble m l.length && headB l.toArray (l.take m) && (Nat.beq m l.length || (sinkXB l.toArray m fs && Region.chainB .any l.toArray m)) && Region.seqB .any l.toArray (l.length - m) m (doneL m (l.length - m)) && fs.all (fun i => Nat.blt i m && moveB l i) && selB l

theorem tail_waitsX {ops : Array Oper} {n : Nat} {fs : List Nat} {listed : Array Bool} (hs : sinkXB ops n fs = true) (hc : Region.chainB .any ops n = true) (hn : n < ops.size) (inv : HeadInv .any ops n listed) :
    ∀ (d i : Nat), n - i = d → i < n → memB fs i = false → listed.getD i true = false → ∀ t, n ≤ t → t ∉ Region.ready .any ops listed := by
  intro d
  induction d using Nat.strongRecOn with
  | _ d ih =>
    intro i hd hi hif hun t ht hr
    obtain ⟨_, ot, hot, hall⟩ := mem_ready.1 hr
    have htlt : t < ops.size := (Array.getElem?_eq_some_iff.1 hot).1
    by_cases htn : t = n
    · subst htn
      have h1 := List.all_eq_true.1 hs i (List.mem_range.2 hi)
      rw [hif, Bool.false_or] at h1
      obtain ⟨j, hj, hj2⟩ := List.any_eq_true.1 h1
      simp only [Bool.and_eq_true, decide_eq_true_eq, Bool.not_eq_true'] at hj2
      obtain ⟨oj, hoj, e, he, hb, hon⟩ := Region.waitsFor_spec hj2.1.2
      have hjle : j ≤ t := by have := List.mem_range.1 hj; omega
      by_cases hjt : j = t
      · subst hjt
        have : oj = ot := Option.some.inj (hoj.symm.trans hot)
        subst this
        have h2 := hall e he hb
        rw [hon, getD_both hun] at h2
        cases h2
      · cases hl : listed.getD j false with
        | true =>
          have h2 := inv.closed j oj hoj hl e he hb
          rw [hon, getD_both hun] at h2
          cases h2
        | false =>
          have hjs : j < listed.size := by rw [inv.size]; omega
          exact ih (t - j) (by omega) j rfl (by omega) hj2.2 (getD_in hjs hl) t (Nat.le_refl _) hr
    · have h1 := List.all_eq_true.1 hc t (List.mem_range.2 htlt)
      simp only [Bool.or_eq_true, decide_eq_true_eq] at h1
      rcases h1 with h1 | h1
      · omega
      · obtain ⟨o', ho', e, he, hb, hon⟩ := Region.waitsFor_spec h1
        have : o' = ot := Option.some.inj (ho'.symm.trans hot)
        subst this
        have h2 := hall e he hb
        rw [hon, getD_both (inv.tail (t - 1) (by omega) (by omega))] at h2
        cases h2

theorem aw_drawX {P : Program} {sz n0 N : Nat} {env0 E : Env} {h0 H : Heap} {dfs : Defs} {K : AK} {id : Nat} {l : List Oper} {vs : List AV} {ns : List Nat} (fs : List Nat) (m : Nat) (hm : P.follows .mixedOrders = true) (hB : drawXB l m fs = true) (hsz : dstsOk (l.take m) sz = true) (hk0 : keysB h0 n0 = true)
    (hc : Chain P l.toArray (l.take m) env0 h0 n0 vs ns E H N) (next : AWL P l.toArray sz (l.drop m) (onlyN K) N E H dfs) : AW P sz (.region id l.toArray true) K n0 env0 h0 dfs := by
  refine aw_mono (K' := onlyN K) ?_ (fun e n env h dfs hk => by obtain ⟨rfl, hk⟩ := hk; exact hk)
  intro B a w hcc
  simp only [drawXB, Bool.and_eq_true, Bool.or_eq_true] at hB
  obtain ⟨⟨⟨⟨⟨b1, b2⟩, b3⟩, b4⟩, b5⟩, b6⟩ := hB
  have hml : m ≤ l.length := Nat.le_of_ble_eq_true b1
  have htl : (l.take m).length = m := by simp; omega
  have hk0' : ∀ p ∈ h0, p.1 < n0 := fun p hp => by simpa [Nat.blt_eq] using List.all_eq_true.1 hk0 p hp
  have hsz' : ∀ (j : Nat) (oj : Oper) (t : Nat), (l.take m)[j]? = some oj → oj.dst = some t → t < sz := fun j oj t hj hd => by
    have := List.all_eq_true.1 hsz oj (List.mem_of_getElem? hj)
    exact dstOk_spec this t hd
  have hops : ∀ (j : Nat) (oj : Oper), (l.take m)[j]? = some oj → l.toArray[j]? = some oj := fun j oj hj => by
    rw [List.getElem?_take] at hj
    split at hj
    · simpa using hj
    · cases hj
  have hsel : ∀ (j : Nat) (o : Oper) cs b, l.toArray[j]? = some o → o.op ≠ .select cs b := fun j o cs b hj he => by
    have hj' : l[j]? = some o := by simpa using hj
    have := List.all_eq_true.1 b6 o (List.mem_of_getElem? hj')
    rw [he] at this
    cases this
  refine wp_region_any hm ?_
  have hdrew : Conc B sz n0 env0 h0 dfs a { w with drawn := w.drawn + 1 } := by
    obtain ⟨M, c1, c2, c3, c4⟩ := hcc
    have hbel : Below w.heap.size w { w with drawn := w.drawn + 1 } := (Below.refl _ _).drew
    have hg := c1.grow hbel n0 n0 (M' := M) (fun _ _ => rfl) (fun id h1 h2 => by omega) (fun id o h1 h2 => by omega) (fun id id' o o' g h1 h2 => by omega) (fun _ id o h1 h2 => by omega)
    rw [ad_self] at hg
    exact ⟨M, hg.1, c2, fun t av ht => Rep.ext hg.2 _ _ (c3 t av ht), c4.ext hg.2⟩
  have hQ : ∀ (o : Oper) (v : Value) c a w, KC B sz (onlyN K) (.panic c) (a.put o.dst v) w → KC B sz (onlyN K) (.panic c) a w := fun o v c a w h => by
    obtain ⟨n, env, h, dfs, ⟨h1, _⟩, _⟩ := h
    cases h1
  have key : ∀ (f : Nat) (listed : Array Bool) (a : Act) (w : World), (List.range m).countP (fun j => !listed.getD j false) = f → HeadInv .any l.toArray m listed → InvL B sz n0 env0 dfs (l.take m) vs ns H listed a w →
      wpAny P .any l.toArray (KC B sz (onlyN K)) (f + (l.length - m)) listed a w := by
    intro f
    induction f with
    | zero =>
      intro listed a w hcnt hinv hI
      have hall := countL_zero m hcnt
      have hlisted : listed = doneL m (l.length - m) := by
        apply Array.ext
        · rw [hinv.size]; simp [doneL]; omega
        · intro j h1 h2
          rw [hinv.size] at h1
          simp only [List.size_toArray] at h1
          by_cases hj : j < m
          · have := hall j hj
            simp [hinv.size, h1] at this
            simp [doneL, hj, this, List.getElem_append]
          · have := hinv.tail j (by omega) (by simpa using h1)
            simp [hinv.size, h1] at this
            simp [doneL, hj, this, List.getElem_append]
      rw [Nat.zero_add]
      have hconc := endL hc (by rw [htl]; exact hall) hI
      have := wpAny_of_seq (P := P) (ops := l.toArray) (md := .any) (Q' := KC B sz (onlyN K)) (l.drop m) m listed a w (fun j => by simp [List.getElem?_drop]) (by rw [List.length_drop, hlisted]; exact b4) (next B a w hconc)
      rwa [List.length_drop] at this
    | succ f ih =>
      intro listed a w hcnt hinv hI
      rw [show f + 1 + (l.length - m) = (f + (l.length - m)) + 1 by omega]
      by_cases hfree : ∃ i, memB fs i = true ∧ i ∈ Region.ready .any l.toArray listed
      · obtain ⟨i, hif, hir⟩ := hfree
        have h5 := List.all_eq_true.1 b5 i (memB_mem hif)
        simp only [Bool.and_eq_true, Nat.blt_eq] at h5
        obtain ⟨him, hmv⟩ := h5
        have hil : i < (l.take m).length := by omega
        have hit : (l.take m)[i]? = some (l.take m)[i] := List.getElem?_eq_getElem hil
        generalize (l.take m)[i] = oi at hit
        have hia := hops i oi hit
        have hil' : l[i]? = some oi := by simpa using hia
        unfold moveB at hmv
        rw [hil'] at hmv
        simp only [Bool.and_eq_true] at hmv
        obtain ⟨hmo, hap⟩ := hmv
        obtain ⟨x, hx⟩ : ∃ x, oi.op = .move x := by
          cases hop : oi.op <;> rw [hop] at hmo <;> first | exact ⟨_, rfl⟩ | cases hmo
        have hexec : ∀ w, (execOp a.eval oi).run P w = .ok (.value (a.eval x)) w := fun w => by simp [execOp, hx]
        have hst := step_L (Q := fun _ _ _ => False) hc b2 hk0' hsz' hops hit hir hI (K := fun a' w' => InvL B sz n0 env0 dfs (l.take m) vs ns H (listed.setIfInBounds i true) a' w') (fun a' w' h => h)
        unfold wpOp at hst
        rw [hia] at hst
        simp only at hst
        have hcnt' : (List.range m).countP (fun j => !(listed.setIfInBounds i true).getD j false) = f := by
          have := countL_set m him (mem_ready.1 hir).1
          omega
        have hfr : ∀ j oj, l.toArray[j]? = some oj → j ≠ i → listed.getD j true = false → (∀ e ∈ oj.after, Region.binds .any e = true → e.on ≠ i) → oi.apart l.toArray oj = true := fun j oj hj hji _ hno => by
          have hj' : l[j]? = some oj := by simpa using hj
          have hjl : j < l.length := (List.getElem?_eq_some_iff.1 hj').1
          have := List.all_eq_true.1 hap j (List.mem_range.2 hjl)
          rw [hj'] at this
          simp only [Bool.or_eq_true] at this
          rcases this with (this | this) | this
          · exact absurd (Nat.eq_of_beq_eq_true this) hji
          · obtain ⟨oj', hoj', e, he, hb, hon⟩ := Region.waitsFor_spec this
            have : oj' = oj := Option.some.inj (hoj'.symm.trans hj)
            subst this
            exact absurd hon (hno e he hb)
          · exact this
        by_cases hwt : Region.wanted oi (yielded l.toArray a.tmps) = true
        · rw [if_pos hwt] at hst
          rcases hst with hst | ⟨_, _, _, hst⟩
          · unfold Oper.wp at hst
            rw [hexec w] at hst
            exact wpAny_first (v := a.eval x) hia hsel (hQ oi _) _ listed a w hfr hir (.inl ⟨hwt, hexec⟩) (ih _ _ _ hcnt' (hinv.set hir him) hst)
          · exact hst.elim
        · rw [if_neg hwt] at hst
          exact wpAny_first (v := undef) hia hsel (hQ oi _) _ listed a w hfr hir (.inr ⟨by simpa using hwt, rfl⟩) (ih _ _ _ hcnt' (hinv.set hir him) hst)
      -- some operation of the head is still to come
      · have hex : ∃ j, j < m ∧ listed.getD j false = false := by
          have hpos : 0 < (List.range m).countP (fun j => !listed.getD j false) := by omega
          obtain ⟨j, hj, hp⟩ := List.countP_pos_iff.1 hpos
          exact ⟨j, List.mem_range.1 hj, by simpa using hp⟩
        have hsize : ∀ j, j < m → j < listed.size := fun j hj => by rw [hinv.size]; simp; omega
        have hmin : ∃ j, j < m ∧ listed.getD j false = false ∧ j ∈ Region.ready .any l.toArray listed := by
          obtain ⟨j0, hj0, hu0⟩ := hex
          obtain ⟨j, ⟨hj, hu⟩, hmin⟩ := exists_min (fun j => j < m ∧ listed.getD j false = false) ⟨j0, hj0, hu0⟩
          have hjl : j < (l.take m).length := by omega
          have hb := headB_spec b2 (List.getElem?_eq_getElem hjl)
          refine ⟨j, hj, hu, mem_ready.2 ⟨getD_in (hsize j hj) hu, (l.take m)[j], hops j _ (List.getElem?_eq_getElem hjl), fun e he hbn => ?_⟩⟩
          have hlt := hb.1 e he hbn
          cases hle : listed.getD e.on false with
          | true => rfl
          | false => have := hmin e.on ⟨by omega, hle⟩; omega
        obtain ⟨j0, hj0, hu0, hr0⟩ := hmin
        have hjf : memB fs j0 = false := by
          cases hq : memB fs j0 with
          | false => rfl
          | true => exact absurd ⟨j0, hq, hr0⟩ hfree
        refine ⟨fun h => absurd h (fun h0 => by rw [h0] at hr0; cases hr0), fun i hi => ?_⟩
        have him : i < m := by
          rcases Nat.lt_or_ge i m with h | h
          · exact h
          · exfalso
            obtain ⟨_, oi, hoi, _⟩ := mem_ready.1 hi
            have hil : i < l.length := by simpa using (Array.getElem?_eq_some_iff.1 hoi).1
            rcases b3 with b3 | b3
            · have := Nat.eq_of_beq_eq_true b3; omega
            · exact tail_waitsX b3.1 b3.2 (by simp; omega) hinv _ j0 rfl hj0 hjf (getD_in (hsize j0 hj0) hu0) i h hi
        have hil : i < (l.take m).length := by omega
        refine step_L hc b2 hk0' hsz' hops (List.getElem?_eq_getElem hil) hi hI fun a' w' hI' => ?_
        refine ih _ a' w' ?_ (hinv.set hi him) hI'
        have := countL_set m him (mem_ready.1 hi).1
        omega
  have hcount : (List.range m).countP (fun j => !(Array.replicate l.toArray.size false).getD j false) = m := by
    rw [List.countP_eq_length.2 (fun j hj => by rw [getD_replicate_false]; rfl), List.length_range]
  have := key m (Array.replicate l.toArray.size false) a _ hcount ⟨by simp, (fun j oj hj hl => by rw [getD_replicate_false] at hl; cases hl), fun t h1 h2 => by simp at h2; simp [h2]⟩ (initL hc hdrew)
  rw [show m + (l.length - m) = l.toArray.size by simp; omega] at this
  exact this
theorem drw_endX {P : Program} {l : List Oper} {sz : Nat} {K : AK} {dfs : Defs} {id n0 n : Nat} {env0 env : Env} {h0 h : Heap} {rest : List Oper} (fs : List Nat) (hm : P.follows .mixedOrders = true) (hB : drawXB l (l.length - rest.length) fs = true) (hsz : dstsOk (l.take (l.length - rest.length)) sz = true) (hk0 : keysB h0 n0 = true) (next : AWL P l.toArray sz rest (onlyN K) n env h dfs) : Drw P l sz K dfs id n0 env0 h0 0 rest n env h := by
  intro pre vs ns hl hc
  have hlen : l.length - rest.length = pre.length := by rw [← hl]; simp
  rw [hlen] at hB hsz
  have ht : l.take pre.length = pre := by rw [← hl]; simp
  have hd : l.drop pre.length = rest := by rw [← hl]; simp
  exact aw_drawX fs pre.length hm hB hsz hk0 (by rw [ht]; exact hc) (by rw [hd]; exact next)
end Go.Av
