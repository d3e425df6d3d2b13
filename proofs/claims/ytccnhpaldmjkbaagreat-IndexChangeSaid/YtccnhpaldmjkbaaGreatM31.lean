/-
  Joined texts: AvQ4 IX. Lemmas; no statement of a law.
-/
import Derived.Test.YtccnhpaldmjkbaaGreatM12
import Derived.Test.YtccnhpaldmjkbaaGreatM28
set_option linter.unusedSimpArgs false
set_option linter.unusedVariables false
/-
  Regions that draw their order, in which a mere move, the taking apart of a tuple or a slice of a slice may come late. For every program.
-/
namespace Go.Av
open Go Go.RowKit
def Ind (P : Program) {α : Type} (s : Sem α) : Prop := ∀ w v w', s.run P w = .ok v w' → w' = w ∧ ∀ w2, s.run P w2 = .ok v w2
section ind
variable {P : Program} {α β : Type}
theorem dZ (v : α) : Ind P (pure v : Sem α) := fun w u w' h => by
  simp only [Sem.run_pure, Result.ok.injEq] at h
  obtain ⟨rfl, rfl⟩ := h
  exact ⟨rfl, fun w2 => by simp⟩
theorem cY {s : Sem α} {f : α → Sem β} (hs : Ind P s) (hf : ∀ v, Ind P (f v)) : Ind P (s >>= f) := fun w u w' h => by
  rw [Sem.run_bind] at h
  cases hr : s.run P w with
  | halt x y => rw [hr] at h; simp [Result.andThen] at h
  | ok v w1 =>
    obtain ⟨e1, e2⟩ := hs w v w1 hr
    rw [hr, Result.andThen_ok, e1] at h
    obtain ⟨e3, e4⟩ := hf v w u w' h
    exact ⟨e3, fun w2 => by rw [Sem.run_bind, e2 w2, Result.andThen_ok, e4 w2]⟩
theorem ind_prog {f : Program → Sem α} (hf : Ind P (f P)) : Ind P (Sem.program f) := fun w u w' h => by
  have h : (f P).run P w = .ok u w' := h
  obtain ⟨e1, e2⟩ := hf w u w' h
  exact ⟨e1, fun w2 => e2 w2⟩
theorem eZ (h : Halt) : Ind P (Sem.halt h : Sem α) := fun w u w' e => by
  have : Result.halt h w = Result.ok u w' := e
  cases this
end ind
section ind2
variable {P : Program}
theorem oE : Ind P Go.program := ind_prog (dZ P)
theorem gY (t : TypeId) : Ind P (underlying t) := by
  unfold underlying
  refine cY oE fun p => ?_
  split
  · exact dZ _
  · exact eZ _
theorem lR (t : TypeId) : Ind P (Go.sizeOf t) := by
  unfold Go.sizeOf typeInfo
  refine cY (cY oE fun p => ?_) fun i => dZ _
  split
  · exact dZ _
  · exact eZ _
theorem jN {α β : Type} {s : Sem α} {f : α → Sem β} (hf : ∀ v w, ∃ h w', (f v).run P w = .halt h w') (w : World) : ∃ h w', (s >>= f).run P w = .halt h w' := by
  rw [Sem.run_bind]
  cases s.run P w with
  | halt h w' => exact ⟨h, w', rfl⟩
  | ok v w' => exact hf v w'
theorem ind_never {α : Type} {s : Sem α} (h : ∀ w, ∃ x w', s.run P w = .halt x w') : Ind P s := fun w v w' e => by
  obtain ⟨x, w1, h1⟩ := h w
  rw [h1] at e
  cases e
theorem rtp_never {α : Type} (e : RuntimeError) (w : World) : ∃ h w', (runtimePanic e : Sem α).run P w = .halt h w' := by
  unfold runtimePanic
  refine jN (fun p w => ?_) w
  cases e <;> first | exact ⟨_, _, rfl⟩ | exact jN (fun v w => jN (fun r w => ⟨_, _, rfl⟩) w) w
theorem ind_rtp {α : Type} (e : RuntimeError) : Ind P (runtimePanic e : Sem α) := ind_never fun w => rtp_never e w
theorem ind_bp {α : Type} (k : IntKind) (x y : Int) (c : BoundsCode) : Ind P (boundsPanic k x y c : Sem α) := ind_never fun w => by
  unfold boundsPanic
  dsimp only
  split <;> exact jN (fun v w => rtp_never _ w) w
theorem ind_asIntOf (x : Value) : Ind P (asIntOf x) := by
  unfold asIntOf
  split
  · exact dZ _
  · exact eZ _
  · exact eZ _
theorem ind_bound (x : Value) (y : Nat) (c : BoundsCode) : Ind P (Instr.sliceBound x y c) := by
  unfold Instr.sliceBound
  refine cY (ind_asIntOf x) fun p => ?_
  obtain ⟨k, i⟩ := p
  simp only []
  split
  · exact dZ _
  · exact ind_bp _ _ _ _
theorem jL (b : Bool) (l c : Nat) (lo hi mx : Option Value) : Ind P (Instr.sliceBounds b l c lo hi mx) := by
  unfold Instr.sliceBounds
  dsimp only
  repeat' first
    | exact dZ _
    | exact eZ _
    | exact ind_bound _ _ _
    | refine cY ?_ fun _ => ?_
    | split
theorem ind_asAddr (x : Value) : Ind P (asAddr x) := by
  unfold asAddr
  split
  · exact dZ _
  · exact ind_rtp _
  · exact eZ _
theorem ind_slice (t : TypeId) (x : Value) (lo hi mx : Option Value) : Ind P (Instr.slice t x lo hi mx) := by
  unfold Instr.slice
  refine cY (gY t) fun d => ?_
  split
  · split
    · exact eZ _
    · exact cY (jL _ _ _ _ _ _) fun p => dZ _
  · exact cY (jL _ _ _ _ _ _) fun p => cY (lR _) fun s => dZ _
  · refine cY (ind_asAddr _) fun a => cY (gY _) fun d => ?_
    split
    · exact cY (jL _ _ _ _ _ _) fun p => cY (lR _) fun s => dZ _
    · exact eZ _
  · exact eZ _
theorem ind_sureAddr (x : Value) : Ind P (Instr.sureAddr x) := by
  unfold Instr.sureAddr
  split
  · exact dZ _
  · exact eZ _
theorem ind_sliceAt (t : TypeId) (x : Value) (lo hi mx : Option Value) : Ind P (Instr.sliceAt t x lo hi mx) := by
  unfold Instr.sliceAt
  refine cY (gY t) fun d => ?_
  split
  · exact cY (ind_sureAddr _) fun a => cY (jL _ _ _ _ _ _) fun p => cY (lR _) fun s => dZ _
  · exact ind_slice _ _ _ _ _
end ind2
def lateC : Op → Bool
  | .move _ => true
  | .extract _ _ => true
  | .slice _ _ _ _ _ => true
  | _ => false
theorem lateC_about {P : Program} {w : World} {o : Oper} {f : Operand → Value} (h : lateC o.op = true) : o.about P w f = none := by
  cases hop : o.op with
  | move x => simp [Oper.about, hop]
  | extract x k => simp [Oper.about, hop]
  | slice t x lo hi mx => simp [Oper.about, hop]
  | _ => rw [hop] at h; cases h
theorem lateC_exec {P : Program} {w : World} {o : Oper} {a : Act} {K : Act → World → Prop} (h : lateC o.op = true) (hst : o.wp P a w K (fun _ _ _ => False)) : ∃ v, ∀ w, (execOp a.eval o).run P w = .ok (.value v) w := by
  cases hop : o.op with
  | move x => exact ⟨a.eval x, fun w => by simp [execOp, hop]⟩
  | extract x k =>
    unfold Oper.wp at hst
    cases hx : a.eval x with
    | tuple us =>
      cases hk : us[k]? with
      | some v => exact ⟨v, fun w => by simp [execOp, hop, hx, hk, Instr.extract]⟩
      | none => simp [execOp, hop, hx, hk, Instr.extract, stuck, Result.andThen, Oper.upon] at hst
    | _ => simp [execOp, hop, hx, Instr.extract, stuck, Result.andThen, Oper.upon] at hst
  | slice t x lo hi mx =>
    have hi2 : Ind P (Instr.sliceAt t (a.eval x) (lo.map a.eval) (hi.map a.eval) (mx.map a.eval)) := ind_sliceAt _ _ _ _ _
    unfold Oper.wp at hst
    have hex : ∀ w, (execOp a.eval o).run P w = ((Instr.sliceAt t (a.eval x) (lo.map a.eval) (hi.map a.eval) (mx.map a.eval)).run P w).andThen fun v => (pure (Next.value v) : Sem Next).run P := fun w => by
      simp only [execOp, hop, Sem.run_bind]
    rw [hex] at hst
    cases hr : (Instr.sliceAt t (a.eval x) (lo.map a.eval) (hi.map a.eval) (mx.map a.eval)).run P w with
    | halt x y => rw [hr] at hst; cases x <;> simp [Result.andThen, Oper.upon] at hst
    | ok v w1 =>
      obtain ⟨_, e2⟩ := hi2 w v w1 hr
      exact ⟨v, fun w => by rw [hex, e2 w, Result.andThen_ok, Sem.run_pure]⟩
  | _ => rw [hop] at h; cases h
def moveB4 (l : List Oper) (i : Nat) : Bool := match l[i]? with
  | some o => lateC o.op && (List.range l.length).all fun j => Nat.beq j i || Region.waitsFor .any l.toArray j i || Region.waitsFor .any l.toArray i j || (match l[j]? with | some oj => o.apart l.toArray oj | none => true)
  | none => false
def drawXB4 (l : List Oper) (m : Nat) (fs : List Nat) : Bool :=
  Nat.ble m l.length && headB l.toArray (l.take m) && (Nat.beq m l.length || (sinkXB l.toArray m fs && Region.chainB .any l.toArray m)) && Region.seqB .any l.toArray (l.length - m) m (doneL m (l.length - m)) && fs.all (fun i => Nat.blt i m && moveB4 l i) && selB l

theorem aw_drawX4 {P : Program} {sz n0 N : Nat} {env0 E : Env} {h0 H : Heap} {dfs : Defs} {K : AK} {id : Nat} {l : List Oper} {vs : List AV} {ns : List Nat} (fs : List Nat) (m : Nat) (hm : P.follows .mixedOrders = true) (hB : drawXB4 l m fs = true) (hsz : dstsOk (l.take m) sz = true) (hk0 : keysB h0 n0 = true)
    (hc : Chain P l.toArray (l.take m) env0 h0 n0 vs ns E H N) (next : AWL P l.toArray sz (l.drop m) (onlyN K) N E H dfs) : AW P sz (.region id l.toArray true) K n0 env0 h0 dfs := by
  refine aw_mono (K' := onlyN K) ?_ (fun e n env h dfs hk => by obtain ⟨rfl, hk⟩ := hk; exact hk)
  intro B a w hcc rd hrd
  simp only [drawXB4, Bool.and_eq_true, Bool.or_eq_true] at hB
  obtain ⟨⟨⟨⟨⟨b1, b2⟩, b3⟩, b4⟩, b5⟩, b6⟩ := hB
  have hml : m ≤ l.length := Nat.le_of_ble_eq_true b1
  have htl : (l.take m).length = m := by simp; omega
  have hk0' : ∀ p ∈ h0, p.1 < n0 := fun p hp => by simpa [Nat.blt_eq] using List.all_eq_true.1 hk0 p hp
  have hsz' : ∀ (j : Nat) (oj : Oper) (t : Nat), (l.take m)[j]? = some oj → oj.dst = some t → t < sz := fun j oj t hj hd => by
    have := List.all_eq_true.1 hsz oj (List.mem_of_getElem? hj)
    exact dK this t hd
  have hops : ∀ (j : Nat) (oj : Oper), (l.take m)[j]? = some oj → l.toArray[j]? = some oj := fun j oj hj => by
    rw [List.getElem?_take] at hj
    split at hj
    · simpa using hj
    · cases hj
  have hsel : ∀ (j : Nat) (o : Oper) cs b, l.toArray[j]? = some o → o.op ≠ .select cs b := fun j o cs b hj he => by
    have hj' : l[j]? = some o := by simpa using hj
    have := List.all_eq_true.1 b6 o (List.mem_of_getElem? hj')
    rw [he] at this
    cases this
  have hnd : rd = none ∨ ∀ (i : Nat) (o : Oper), l.toArray[i]? = some o → noDef o = true := hrd.imp_right fun k i o ho => oN (by simpa [plainC] using k) ho
  have hdrop : rd = none ∨ (l.drop m).all noDef = true := hrd.imp_right fun k => List.all_eq_true.2 fun o ho => List.all_eq_true.1 (by simpa [plainC] using k) o (List.mem_of_mem_drop ho)
  refine wpIn_region_any hm (qP hnd _ _ _ _ ?_)
  have hdrew : Conc B sz n0 env0 h0 dfs a { w with drawn := w.drawn + 1 } := by
    obtain ⟨M, c1, c2, c3, c4⟩ := hcc
    have hbel : Below w.heap.size w { w with drawn := w.drawn + 1 } := (Below.refl _ _).drew
    have hg := c1.grow hbel n0 n0 (M' := M) (fun _ _ => rfl) (fun id h1 h2 => by omega) (fun id o h1 h2 => by omega) (fun id id' o o' g h1 h2 => by omega) (fun _ id o h1 h2 => by omega)
    rw [cW] at hg
    exact ⟨M, hg.1, c2, fun t av ht => Rep.ext hg.2 _ _ (c3 t av ht), c4.ext hg.2⟩
  have hQ : ∀ (o : Oper) (v : Value) c a w, KC B sz (onlyN K) (.panic c) (a.put o.dst v) w → KC B sz (onlyN K) (.panic c) a w := fun o v c a w h => by
    obtain ⟨n, env, h, dfs, ⟨h1, _⟩, _⟩ := h
    cases h1
  have key : ∀ (f : Nat) (listed : Array Bool) (a : Act) (w : World), (List.range m).countP (fun j => !listed.getD j false) = f → HeadInv .any l.toArray m listed → InvL B sz n0 env0 dfs (l.take m) vs ns H listed a w →
      wpAnyIn (WF none) 0 P .any l.toArray (KC B sz (onlyN K)) (f + (l.length - m)) listed a w := by
    intro f
    induction f with
    | zero =>
      intro listed a w hcnt hinv hI
      have hall := iG m hcnt
      have hlisted : listed = doneL m (l.length - m) := by
        apply Array.ext
        · rw [hinv.size]; simp [doneL]; omega
        · intro j h1 h2
          rw [hinv.size] at h1
          simp only [List.size_toArray] at h1
          by_cases hj : j < m
          · have := hall j hj
            simp [hinv.size, h1] at this
            simp [doneL, hj, this, List.getElem_append]
          · have := hinv.tail j (by omega) (by simpa using h1)
            simp [hinv.size, h1] at this
            simp [doneL, hj, this, List.getElem_append]
      rw [Nat.zero_add]
      have hconc := endL hc (by rw [htl]; exact hall) hI
      have := eP (F := WF none) (n := 0) (P := P) (ops := l.toArray) (md := .any) (Q' := KC B sz (onlyN K)) (l.drop m) m listed a w (fun j => by simp [List.getElem?_drop]) (by rw [List.length_drop, hlisted]; exact b4) (next B a w hconc none (.inl rfl))
      rwa [List.length_drop] at this
    | succ f ih =>
      intro listed a w hcnt hinv hI
      rw [show f + 1 + (l.length - m) = (f + (l.length - m)) + 1 by omega]
      by_cases hfree : ∃ i, memB fs i = true ∧ i ∈ Region.ready .any l.toArray listed
      · obtain ⟨i, hif, hir⟩ := hfree
        have h5 := List.all_eq_true.1 b5 i (jA hif)
        simp only [Bool.and_eq_true, Nat.blt_eq] at h5
        obtain ⟨him, hmv⟩ := h5
        have hil : i < (l.take m).length := by omega
        have hit : (l.take m)[i]? = some (l.take m)[i] := List.getElem?_eq_getElem hil
        generalize (l.take m)[i] = oi at hit
        have hia := hops i oi hit
        have hil' : l[i]? = some oi := by simpa using hia
        unfold moveB4 at hmv
        rw [hil'] at hmv
        simp only [Bool.and_eq_true] at hmv
        obtain ⟨hmo, hap⟩ := hmv
        have habo : ∀ w, oi.about P w a.eval = none := fun w => lateC_about hmo
        have hst := step_L (Q := fun _ _ _ => False) hc b2 hk0' hsz' hops hit hir hI (K := fun a' w' => InvL B sz n0 env0 dfs (l.take m) vs ns H (listed.setIfInBounds i true) a' w') (fun a' w' h => h)
        unfold wpOp at hst
        rw [hia] at hst
        simp only at hst
        have hcnt' : (List.range m).countP (fun j => !(listed.setIfInBounds i true).getD j false) = f := by
          have := gW m him (mem_ready.1 hir).1
          omega
        have hfr : ∀ j oj, l.toArray[j]? = some oj → j ≠ i → listed.getD j true = false → (∀ e ∈ oj.after, Region.binds .any e = true → e.on ≠ i) → oi.apart l.toArray oj = true := fun j oj hj hji hlj hno => by
          have hj' : l[j]? = some oj := by simpa using hj
          have hjl : j < l.length := (List.getElem?_eq_some_iff.1 hj').1
          have := List.all_eq_true.1 hap j (List.mem_range.2 hjl)
          rw [hj'] at this
          simp only [Bool.or_eq_true] at this
          rcases this with ((this | this) | this) | this
          · exact absurd (Nat.eq_of_beq_eq_true this) hji
          · obtain ⟨oj', hoj', e, he, hb, hon⟩ := Region.waitsFor_spec this
            have : oj' = oj := Option.some.inj (hoj'.symm.trans hj)
            subst this
            exact absurd hon (hno e he hb)
          · obtain ⟨oi', hoi', e, he, hb, hon⟩ := Region.waitsFor_spec this
            obtain ⟨_, o', ho', hall⟩ := mem_ready.1 hir
            have e1 : oi' = o' := Option.some.inj (hoi'.symm.trans ho')
            subst e1
            have h7 := hall e he hb
            rw [hon, getD_both hlj] at h7
            cases h7
          · exact this
        by_cases hwt : Region.wanted oi (yielded l.toArray a.tmps) = true
        · rw [if_pos hwt] at hst
          rcases hst with hst | ⟨_, _, _, hst⟩
          · obtain ⟨v, hexec⟩ := lateC_exec hmo hst
            unfold Oper.wp at hst
            rw [hexec w] at hst
            exact wpAnyIn_first (v := v) rfl hia hsel (hQ oi _) _ listed a w hfr hir ⟨.inl ⟨hwt, hexec⟩, habo⟩ (ih _ _ _ hcnt' (hinv.set hir him) hst)
          · exact hst.elim
        · rw [if_neg hwt] at hst
          exact wpAnyIn_first (v := undef) rfl hia hsel (hQ oi _) _ listed a w hfr hir ⟨.inr ⟨by simpa using hwt, rfl⟩, habo⟩ (ih _ _ _ hcnt' (hinv.set hir him) hst)
      -- some operation of the head is still to come
      · have hex : ∃ j, j < m ∧ listed.getD j false = false := by
          have hpos : 0 < (List.range m).countP (fun j => !listed.getD j false) := by omega
          obtain ⟨j, hj, hp⟩ := List.countP_pos_iff.1 hpos
          exact ⟨j, List.mem_range.1 hj, by simpa using hp⟩
        have hsize : ∀ j, j < m → j < listed.size := fun j hj => by rw [hinv.size]; simp; omega
        have hmin : ∃ j, j < m ∧ listed.getD j false = false ∧ j ∈ Region.ready .any l.toArray listed := by
          obtain ⟨j0, hj0, hu0⟩ := hex
          obtain ⟨j, ⟨hj, hu⟩, hmin⟩ := dU (fun j => j < m ∧ listed.getD j false = false) ⟨j0, hj0, hu0⟩
          have hjl : j < (l.take m).length := by omega
          have hb := dV b2 (List.getElem?_eq_getElem hjl)
          refine ⟨j, hj, hu, mem_ready.2 ⟨getD_in (hsize j hj) hu, (l.take m)[j], hops j _ (List.getElem?_eq_getElem hjl), fun e he hbn => ?_⟩⟩
          have hlt := hb.1 e he hbn
          cases hle : listed.getD e.on false with
          | true => rfl
          | false => have := hmin e.on ⟨by omega, hle⟩; omega
        obtain ⟨j0, hj0, hu0, hr0⟩ := hmin
        have hjf : memB fs j0 = false := by
          cases hq : memB fs j0 with
          | false => rfl
          | true => exact absurd ⟨j0, hq, hr0⟩ hfree
        refine ⟨fun h => absurd h (fun h0 => by rw [h0] at hr0; cases hr0), fun i hi => ?_⟩
        have him : i < m := by
          rcases Nat.lt_or_ge i m with h | h
          · exact h
          · exfalso
            obtain ⟨_, oi, hoi, _⟩ := mem_ready.1 hi
            have hil : i < l.length := by simpa using (Array.getElem?_eq_some_iff.1 hoi).1
            rcases b3 with b3 | b3
            · have := Nat.eq_of_beq_eq_true b3; omega
            · exact tail_waitsX b3.1 b3.2 (by simp; omega) hinv _ j0 rfl hj0 hjf (getD_in (hsize j0 hj0) hu0) i h hi
        have hil : i < (l.take m).length := by omega
        refine pA (rd := none) (.inl rfl) (step_L (Q := fun _ _ _ => False) hc b2 hk0' hsz' hops (List.getElem?_eq_getElem hil) hi hI fun a' w' hI' => ?_)
        refine ih _ a' w' ?_ (hinv.set hi him) hI'
        have := gW m him (mem_ready.1 hi).1
        omega
  have hcount : (List.range m).countP (fun j => !(Array.replicate l.toArray.size false).getD j false) = m := by
    rw [List.countP_eq_length.2 (fun j hj => by rw [getD_replicate_false]; rfl), List.length_range]
  have := key m (Array.replicate l.toArray.size false) a _ hcount ⟨by simp, (fun j oj hj hl => by rw [getD_replicate_false] at hl; cases hl), fun t h1 h2 => by simp at h2; simp [h2]⟩ (initL hc hdrew)
  rw [show m + (l.length - m) = l.toArray.size by simp; omega] at this
  exact this
theorem drw_endX4 {P : Program} {l : List Oper} {sz : Nat} {K : AK} {dfs : Defs} {id n0 n : Nat} {env0 env : Env} {h0 h : Heap} {rest : List Oper} (fs : List Nat) (hm : P.follows .mixedOrders = true) (hB : drawXB4 l (l.length - rest.length) fs = true) (hsz : dstsOk (l.take (l.length - rest.length)) sz = true) (hk0 : keysB h0 n0 = true) (next : AWL P l.toArray sz rest (onlyN K) n env h dfs) : Drw P l sz K dfs id n0 env0 h0 0 rest n env h := by
  intro pre vs ns hl hc
  have hlen : l.length - rest.length = pre.length := by rw [← hl]; simp
  rw [hlen] at hB hsz
  have ht : l.take pre.length = pre := by rw [← hl]; simp
  have hd : l.drop pre.length = rest := by rw [← hl]; simp
  exact aw_drawX4 fs pre.length hm hB hsz hk0 (by rw [ht]; exact hc) (by rw [hd]; exact next)
def autoFs4 (l : List Oper) (m : Nat) : List Nat := (List.range m).filter fun i => moveB4 l i && !(List.range (m + 1)).any fun j => decide (i < j) && Region.waitsFor .any l.toArray j i
theorem drw_endL4 {P : Program} {l : List Oper} {sz : Nat} {K : AK} {dfs : Defs} {id n0 n : Nat} {env0 env : Env} {h0 h : Heap} {rest : List Oper} (k : Nat) (fs : List Nat) (hk : Nat.beq l.length k = true) (hm : P.follows .mixedOrders = true) (hB : drawXB4 l (l.length - rest.length) fs = true) (hsz : dstsOk (l.take (l.length - rest.length)) sz = true) (hk0 : keysB h0 n0 = true) (next : AWL P l.toArray sz rest (onlyN K) n env h dfs) : Drw P l sz K dfs id n0 env0 h0 0 rest n env h := drw_endX4 fs hm hB hsz hk0 next
end Go.Av
/-
  Two ordered lists of postings put together, as the program does it (walk).
-/
namespace Go.Proofs.YtccnhpaldmjkbaaGreat
open Go Go.RowKit Go.Av
set_option maxRecDepth 100000
section
variable {a b : List Po} {i k n m : Nat} {x y : Po}
theorem mp_lt (hx : a[i]? = some x) (hy : b[k]? = some y) (h : cmpP x y < 0) : mergeP (a.drop i) (b.drop k) = x :: mergeP (a.drop (i + 1)) (b.drop k) := by
  rw [dC hx, dC hy, mergeP, if_pos h]
theorem mp_gt (hx : a[i]? = some x) (hy : b[k]? = some y) (h : 0 < cmpP x y) : mergeP (a.drop i) (b.drop k) = y :: mergeP (a.drop i) (b.drop (k + 1)) := by
  rw [dC hx, dC hy, mergeP, if_neg (by omega), if_pos h]
theorem mp_eq (hx : a[i]? = some x) (hy : b[k]? = some y) (h : cmpP x y = 0) (hs : x.n + y.n ≠ 0) : mergeP (a.drop i) (b.drop k) = ⟨x.w, x.r, x.n + y.n⟩ :: mergeP (a.drop (i + 1)) (b.drop (k + 1)) := by
  rw [dC hx, dC hy, mergeP, if_neg (by omega), if_neg (by omega), if_pos hs]
theorem mp_no (hx : a[i]? = some x) (hy : b[k]? = some y) (h : cmpP x y = 0) (hs : x.n + y.n = 0) : mergeP (a.drop i) (b.drop k) = mergeP (a.drop (i + 1)) (b.drop (k + 1)) := by
  rw [dC hx, dC hy, mergeP, if_neg (by omega), if_neg (by omega), if_neg (fun h => h hs)]
end
theorem snocP {o Z rest : List Po} {x : Po} (h : o ++ x :: rest = Z) : (o ++ [x]) ++ rest = Z := by rw [List.append_assoc]; exact h
theorem iM (o : List Po) (x : Po) : pc o ++ [x.c].flatten = pc (o ++ [x]) := by rw [iS]; simp [pc]
theorem pc_next {a : List Po} {i n : Nat} (hn : a.length = n) : (List.drop (1 * 3) (pc (a.drop i))).take ((n - i - 1) * 3) = pc (a.drop (i + 1)) := by
  have e : pc (a.drop i) = pc ((a.drop i).take 1) ++ pc ((a.drop i).drop 1) := by rw [← iS, List.take_append_drop]
  have h1 : (a.drop i).drop 1 = a.drop (i + 1) := by rw [List.drop_drop]
  rw [h1] at e
  by_cases hi : i < n
  · have hl : (pc ((a.drop i).take 1)).length = 1 * 3 := by rw [bF, List.length_take, List.length_drop]; omega
    rw [e, ← hl, List.drop_left, List.take_of_length_le]
    rw [bF, List.length_drop]; omega
  · have h2 : a.drop i = [] := List.drop_eq_nil_of_le (by omega)
    have h3 : a.drop (i + 1) = [] := List.drop_eq_nil_of_le (by omega)
    rw [h2, h3]; simp [pc]
theorem pc_head {a : List Po} {i : Nat} {x : Po} (h : a[i]? = some x) : ((pc (a.drop i)).drop (0 * 3)).take 3 = x.c ∧ (pc (a.drop i))[0 * 3 + 2]? = some (iv x.n) := by
  have h0 : (a.drop i)[0]? = some x := by rw [List.getElem?_drop]; exact h
  exact ⟨fF h0, pc_n h0⟩
def smallP (p : List Po) : Prop := ∀ x ∈ p, x.r.length ≤ 1000000 ∧ x.n ≠ 0 ∧ -1000000 ≤ x.n ∧ x.n ≤ 1000000
attribute [local irreducible] Still Adds AWL AW Drw DrwE EStep AC AWR Weak Frz Src RetK Out InK ItK AsK RdK
set_option maxHeartbeats 8000000 in
theorem nN (a b : List Po) (n m N : Nat) (hn : a.length = n) (hm : b.length = m) (hnn : n ≤ 500000) (hmm : m ≤ 500000) (hfa : smallP a) (hfb : smallP b) (hN : (mergeP a b).length = N) : AC Tryz.prog 97 [.sl 3 n (pc a), .sl 3 m (pc b)] (.c (.sl 3 N (pc (mergeP a b)))) [] 0 := by
  have hNle := dH a b
  rw [hN, hn, hm] at hNle
  have hZl : (pc (mergeP a b)).length = N * 3 := by rw [bF, hN]
  generalize hZ : mergeP a b = Z at hN hZl ⊢
  refine aJ tabOk (sz := 99) Tryz.func97 rfl (by rw [Tryz.ntmps97]; rfl) ?_
  repeat' (first | ((with_reducible refine aD ?_); intro K hK hX) | ((with_reducible refine aE ?_); refine aA [0, 1, 4, 5, 6, 7, 9, 11, 74, 75, 76, 86, 87, 88] rfl rfl ?_; with_reducible refine aB ?_) | ((with_reducible refine aG ?_); refine aA [0, 1, 4, 5, 6, 7, 9, 11, 74, 75, 76, 86, 87, 88] rfl rfl ?_; refine aL [] ?_) | refine stA ?_ | refine stD ?_ | ((first | refine hK _ _ _ _ ?_ | refine hX _ _ _ _ _ (by simp) ?_); clear hK hX K))
  refine lM 0 0 80 3 rfl rfl rfl rfl ?_
  refine bD [0, 1, 7, 12] [0, 1] rfl rfl (fun p : Nat × Nat × List Po × Nat => [(0, .c (.sl 3 (n - p.1) (pc (a.drop p.1)))), (1, .c (.sl 3 (m - p.2.1) (pc (b.drop p.2.1))))]) (fun p => [(0, .blk 27 [.own 1 0 p.2.2.2 3 true]), (1, .row 80 (pc p.2.2.1))]) (fun p => p.1 ≤ n ∧ p.2.1 ≤ m ∧ p.2.2.1.length = p.2.2.2 ∧ p.2.2.1 ++ mergeP (a.drop p.1) (b.drop p.2.1) = Z) (fun p => (n - p.1) + (m - p.2.1)) (0, 0, [], 0) ⟨Nat.zero_le _, Nat.zero_le _, rfl, hZ⟩ weakA ?_
  rintro ⟨i, k, o, q⟩ ⟨hi, hk, hq, hst⟩ K hK hX
  dsimp only at hi hk hq hst ⊢
  have hlo : (pc o).length = q * 3 := by rw [bF, hq]
  have hqN : q ≤ N := by rw [← hN, ← hst, List.length_append, hq]; omega
  have hla : (pc (a.drop i)).length = (n - i) * 3 := by rw [bF, List.length_drop, hn]
  have hlb : (pc (b.drop k)).length = (m - k) * 3 := by rw [bF, List.length_drop, hm]
  by_cases hik : i < n ∧ k < m
  · obtain ⟨hin, hkm⟩ := hik
    obtain ⟨x, hx⟩ : ∃ x, a[i]? = some x := ⟨_, List.getElem?_eq_getElem (by omega)⟩
    obtain ⟨y, hy⟩ : ∃ y, b[k]? = some y := ⟨_, List.getElem?_eq_getElem (by omega)⟩
    obtain ⟨hax, hxn⟩ := pc_head hx
    obtain ⟨hay, hyn⟩ := pc_head hy
    obtain ⟨x1, x2, x3, x4⟩ := hfa x (List.mem_of_getElem? hx)
    obtain ⟨y1, y2, y3, y4⟩ := hfb y (List.mem_of_getElem? hy)
    have hc := pcmp_ok x y (by simp only [maxLen]; omega) (by simp only [maxLen]; omega)
    have hcx := iX x.r x.r.length rfl x1
    have hcy := iX y.r y.r.length rfl y1
    have ha1 := pc_next (a := a) (i := i) hn
    have hb1 := pc_next (a := b) (i := k) hm
    have hA : AV.c (.sl 3 (n - i - 1) (List.take ((n - i - 1) * 3) (List.drop (1 * 3) (pc (a.drop i))))) = AV.c (.sl 3 (n - (i + 1)) (pc (a.drop (i + 1)))) := by rw [ha1, Nat.sub_sub]
    have hB : AV.c (.sl 3 (m - k - 1) (List.take ((m - k - 1) * 3) (List.drop (1 * 3) (pc (b.drop k))))) = AV.c (.sl 3 (m - (k + 1)) (pc (b.drop (k + 1)))) := by rw [hb1, Nat.sub_sub]
    by_cases c1' : cmpP x y < 0
    · rw [mp_lt hx hy c1'] at hst
      generalize cmpP x y = c at hc c1'
      obtain ⟨xw, xr, xn⟩ := x
      obtain ⟨yw, yr, yn⟩ := y
      simp only [Po.c] at *
      clear hx hy hfa hfb ha1 hb1 hcy
      as_aux_lemma =>
        repeat' (first | ((with_reducible refine aD ?_); intro K hK hX) | ((with_reducible refine aE ?_); refine aA [0, 1, 2, 3, 4, 5, 6, 7, 9, 11, 74, 75, 76, 86, 87, 88] rfl rfl ?_; with_reducible refine aB ?_) | ((with_reducible refine aG (i := 2) ?_); refine aA [0, 1, 2, 3, 4, 5, 6, 7, 9, 11, 74, 75, 76, 86, 87, 88] rfl rfl ?_; refine cK [148] ?_) | ((with_reducible refine aG ?_); refine aA [0, 1, 2, 3, 4, 5, 6, 7, 9, 11, 74, 75, 76, 86, 87, 88] rfl rfl ?_; refine aL [148] ?_) | ((first | with_reducible refine aF ?_ | with_reducible refine bC ?_ | with_reducible refine bU ?_); (first | refine zA ?_ | refine zN ?_ | refine zD ?_ | refine zE ?_); (first | refine c0 (hc) ?_ | refine c0 (hcx) ?_)) | ((first | with_reducible refine aF ?_ | with_reducible refine aR ?_); refine aY tabOk [0, 1, 2, 3, 4, 5, 6, 7, 8, 9, 10, 11, 12, 13, 14, 15, 16, 17, 18, 19, 20, 21, 22, 23, 24, 25, 26, 27, 28, 29, 30, 31, 32, 33, 34, 35, 36, 37, 38, 39, 40, 41, 42, 43, 44, 45, 46, 47, 48, 49, 50, 51, 52, 53, 54, 55, 56, 57, 58, 59, 60, 61, 62, 63, 64, 65, 66, 67, 68, 69, 70, 71, 72, 73, 74, 75, 76, 77, 78, 79, 80, 81, 82, 83, 84, 85, 86, 87, 88, 89, 90, 91, 92, 93, 94, 95, 96, 97, 98] aH rfl rfl zby Tryz.func148 rfl rfl rfl (szf := 17) (by rw [Tryz.ntmps148]; rfl) rfl ?_) | ((first | ((with_reducible refine aI ?_); refine xA ?_) | ((with_reducible refine aP ?_); refine xD ?_) | ((with_reducible refine cP ?_); refine xE ?_)); (first | ((with_reducible refine aO ?_); (first | refine aC (aT tabOk rfl rfl rfl rfl (by first | exact hxn | exact hyn)) ?_ | refine aC (aN tabOk rfl rfl rfl rfl (by first | exact hxn | exact hyn)) ?_ | refine aC (aM tabOk rfl rfl rfl (by first | exact hxn | exact hyn)) ?_ | refine aC (aW tabOk rfl rfl rfl rfl (by first | first | exact hax | exact hay | exact whole0 (by first | rfl | omega) | rfl) zln) ?_ | refine aC (aV tabOk rfl rfl rfl (by first | first | exact hax | exact hay | exact whole0 (by first | rfl | omega) | rfl) zln) ?_)) | ((with_reducible refine bX ?_); (first | refine aC (s_ixV1 tabOk rfl rfl zcj rfl rfl rfl rfl rfl zle (by first | exact hxn | exact hyn)) ?_ | refine aC (aS tabOk rfl rfl zcj rfl rfl (by first | exact hxn | exact hyn)) ?_)) | ((with_reducible refine bB ?_); (first | refine aC (s_slArri tabOk rfl rfl rfl rfl zbd zbd zle zle (by decide) (by first | first | exact hax | exact hay | exact whole0 (by first | rfl | omega) | rfl) zln) ?_)))) | refine stA ?_ | refine stD ?_ | refine stE ?_ | ((first | refine hK _ _ _ _ ?_ | refine hX _ _ _ _ _ (by simp) ?_); clear hK hX K) | (first | refine bJ zio ztr rfl rfl ResL.none ?_ | refine bI zio ztr rfl rfl ResL.none ?_))
        exact ⟨(i + 1, k, o ++ [⟨xw, xr, xn⟩], q + 1), ⟨by first | omega | (simp only; omega), by first | omega | (simp only; omega), by rw [List.length_append, hq]; rfl, snocP hst⟩, by simp only; omega, (by refine cE [0, 4] rfl rfl ?_ ?_ rfl rfl <;> (repeat' (first | exact bQ | exact bR | refine bL rfl (by first | rfl | (first | exact congrArg (AObj.row 80) (iM o ⟨xw, xr, xn⟩) | exact hA | exact hB) | exact zeq) rfl ?_ | refine bH rfl (by first | rfl | (first | exact congrArg (AObj.row 80) (iM o ⟨xw, xr, xn⟩) | exact hA | exact hB) | exact zeq) rfl ?_)))⟩
    · by_cases c2' : 0 < cmpP x y
      · rw [mp_gt hx hy c2'] at hst
        generalize cmpP x y = c at hc c1' c2'
        obtain ⟨xw, xr, xn⟩ := x
        obtain ⟨yw, yr, yn⟩ := y
        simp only [Po.c] at *
        clear hx hy hfa hfb ha1 hb1 hcx
        as_aux_lemma =>
          repeat' (first | ((with_reducible refine aD ?_); intro K hK hX) | ((with_reducible refine aE ?_); refine aA [0, 1, 2, 3, 4, 5, 6, 7, 9, 11, 74, 75, 76, 86, 87, 88] rfl rfl ?_; with_reducible refine aB ?_) | ((with_reducible refine aG (i := 2) ?_); refine aA [0, 1, 2, 3, 4, 5, 6, 7, 9, 11, 74, 75, 76, 86, 87, 88] rfl rfl ?_; refine cK [148] ?_) | ((with_reducible refine aG ?_); refine aA [0, 1, 2, 3, 4, 5, 6, 7, 9, 11, 74, 75, 76, 86, 87, 88] rfl rfl ?_; refine aL [148] ?_) | ((first | with_reducible refine aF ?_ | with_reducible refine bC ?_ | with_reducible refine bU ?_); (first | refine zA ?_ | refine zN ?_ | refine zD ?_ | refine zE ?_); (first | refine c0 (hc) ?_ | refine c0 (hcy) ?_)) | ((first | with_reducible refine aF ?_ | with_reducible refine aR ?_); refine aY tabOk [0, 1, 2, 3, 4, 5, 6, 7, 8, 9, 10, 11, 12, 13, 14, 15, 16, 17, 18, 19, 20, 21, 22, 23, 24, 25, 26, 27, 28, 29, 30, 31, 32, 33, 34, 35, 36, 37, 38, 39, 40, 41, 42, 43, 44, 45, 46, 47, 48, 49, 50, 51, 52, 53, 54, 55, 56, 57, 58, 59, 60, 61, 62, 63, 64, 65, 66, 67, 68, 69, 70, 71, 72, 73, 74, 75, 76, 77, 78, 79, 80, 81, 82, 83, 84, 85, 86, 87, 88, 89, 90, 91, 92, 93, 94, 95, 96, 97, 98] aH rfl rfl zby Tryz.func148 rfl rfl rfl (szf := 17) (by rw [Tryz.ntmps148]; rfl) rfl ?_) | ((first | ((with_reducible refine aI ?_); refine xA ?_) | ((with_reducible refine aP ?_); refine xD ?_) | ((with_reducible refine cP ?_); refine xE ?_)); (first | ((with_reducible refine aO ?_); (first | refine aC (aT tabOk rfl rfl rfl rfl (by first | exact hxn | exact hyn)) ?_ | refine aC (aN tabOk rfl rfl rfl rfl (by first | exact hxn | exact hyn)) ?_ | refine aC (aM tabOk rfl rfl rfl (by first | exact hxn | exact hyn)) ?_ | refine aC (aW tabOk rfl rfl rfl rfl (by first | first | exact hax | exact hay | exact whole0 (by first | rfl | omega) | rfl) zln) ?_ | refine aC (aV tabOk rfl rfl rfl (by first | first | exact hax | exact hay | exact whole0 (by first | rfl | omega) | rfl) zln) ?_)) | ((with_reducible refine bX ?_); (first | refine aC (s_ixV1 tabOk rfl rfl zcj rfl rfl rfl rfl rfl zle (by first | exact hxn | exact hyn)) ?_ | refine aC (aS tabOk rfl rfl zcj rfl rfl (by first | exact hxn | exact hyn)) ?_)) | ((with_reducible refine bB ?_); (first | refine aC (s_slArri tabOk rfl rfl rfl rfl zbd zbd zle zle (by decide) (by first | first | exact hax | exact hay | exact whole0 (by first | rfl | omega) | rfl) zln) ?_)))) | refine stA ?_ | refine stD ?_ | refine stE ?_ | ((first | refine hK _ _ _ _ ?_ | refine hX _ _ _ _ _ (by simp) ?_); clear hK hX K) | (first | refine bJ zio ztr rfl rfl ResL.none ?_ | refine bI zio ztr rfl rfl ResL.none ?_))
          exact ⟨(i, k + 1, o ++ [⟨yw, yr, yn⟩], q + 1), ⟨by first | omega | (simp only; omega), by first | omega | (simp only; omega), by rw [List.length_append, hq]; rfl, snocP hst⟩, by simp only; omega, (by refine cE [0, 4] rfl rfl ?_ ?_ rfl rfl <;> (repeat' (first | exact bQ | exact bR | refine bL rfl (by first | rfl | (first | exact congrArg (AObj.row 80) (iM o ⟨yw, yr, yn⟩) | exact hA | exact hB) | exact zeq) rfl ?_ | refine bH rfl (by first | rfl | (first | exact congrArg (AObj.row 80) (iM o ⟨yw, yr, yn⟩) | exact hA | exact hB) | exact zeq) rfl ?_)))⟩
      · have c0' : cmpP x y = 0 := by omega
        by_cases hs : x.n + y.n = 0
        · rw [mp_no hx hy c0' hs] at hst
          generalize cmpP x y = c at hc c1' c2' c0'
          obtain ⟨xw, xr, xn⟩ := x
          obtain ⟨yw, yr, yn⟩ := y
          simp only [Po.c] at *
          clear hx hy hfa hfb ha1 hb1 hcx hcy
          as_aux_lemma =>
            repeat' (first | ((with_reducible refine aD ?_); intro K hK hX) | ((with_reducible refine aE ?_); refine aA [0, 1, 2, 3, 4, 5, 6, 7, 9, 11, 74, 75, 76, 86, 87, 88] rfl rfl ?_; with_reducible refine aB ?_) | ((with_reducible refine aG (i := 2) ?_); refine aA [0, 1, 2, 3, 4, 5, 6, 7, 9, 11, 74, 75, 76, 86, 87, 88] rfl rfl ?_; refine cK [148] ?_) | ((with_reducible refine aG ?_); refine aA [0, 1, 2, 3, 4, 5, 6, 7, 9, 11, 74, 75, 76, 86, 87, 88] rfl rfl ?_; refine aL [148] ?_) | (refine drw_endL4 6 [2, 3] rfl (by kernel_rfl) (by kernel_rfl) (by kernel_rfl) rfl ?_) | (refine k_only ?_) | ((first | with_reducible refine aF ?_ | with_reducible refine bC ?_ | with_reducible refine bU ?_); (first | refine zA ?_ | refine zN ?_ | refine zD ?_ | refine zE ?_); (first | refine c0 (hc) ?_)) | ((first | with_reducible refine aF ?_ | with_reducible refine aR ?_); refine aY tabOk [0, 1, 2, 3, 4, 5, 6, 7, 8, 9, 10, 11, 12, 13, 14, 15, 16, 17, 18, 19, 20, 21, 22, 23, 24, 25, 26, 27, 28, 29, 30, 31, 32, 33, 34, 35, 36, 37, 38, 39, 40, 41, 42, 43, 44, 45, 46, 47, 48, 49, 50, 51, 52, 53, 54, 55, 56, 57, 58, 59, 60, 61, 62, 63, 64, 65, 66, 67, 68, 69, 70, 71, 72, 73, 74, 75, 76, 77, 78, 79, 80, 81, 82, 83, 84, 85, 86, 87, 88, 89, 90, 91, 92, 93, 94, 95, 96, 97, 98] aH rfl rfl zby Tryz.func148 rfl rfl rfl (szf := 17) (by rw [Tryz.ntmps148]; rfl) rfl ?_) | ((first | ((with_reducible refine aI ?_); refine xA ?_) | ((with_reducible refine aP ?_); refine xD ?_) | ((with_reducible refine cP ?_); refine xE ?_)); (first | ((with_reducible refine aO ?_); (first | refine aC (aT tabOk rfl rfl rfl rfl (by first | exact hxn | exact hyn)) ?_ | refine aC (aN tabOk rfl rfl rfl rfl (by first | exact hxn | exact hyn)) ?_ | refine aC (aM tabOk rfl rfl rfl (by first | exact hxn | exact hyn)) ?_ | refine aC (aW tabOk rfl rfl rfl rfl (by first | first | exact hax | exact hay | exact whole0 (by first | rfl | omega) | rfl) zln) ?_ | refine aC (aV tabOk rfl rfl rfl (by first | first | exact hax | exact hay | exact whole0 (by first | rfl | omega) | rfl) zln) ?_)) | ((with_reducible refine bX ?_); (first | refine aC (s_ixV1 tabOk rfl rfl zcj rfl rfl rfl rfl rfl zle (by first | exact hxn | exact hyn)) ?_ | refine aC (aS tabOk rfl rfl zcj rfl rfl (by first | exact hxn | exact hyn)) ?_)) | ((with_reducible refine bB ?_); (first | refine aC (s_slArri tabOk rfl rfl rfl rfl zbd zbd zle zle (by decide) (by first | first | exact hax | exact hay | exact whole0 (by first | rfl | omega) | rfl) zln) ?_)))) | refine stA ?_ | refine stD ?_ | refine stE ?_ | ((first | refine hK _ _ _ _ ?_ | refine hX _ _ _ _ _ (by simp) ?_); clear hK hX K) | (first | refine bJ zio ztr rfl rfl ResL.none ?_ | refine bI zio ztr rfl rfl ResL.none ?_))
            exact ⟨(i + 1, k + 1, o, q), ⟨by first | omega | (simp only; omega), by first | omega | (simp only; omega), hq, hst⟩, by simp only; omega, (by refine cL rfl ?_ ?_ rfl <;> (repeat' (first | exact bO | exact bZ | refine bG rfl (by first | rfl | (first | exact hA | exact hB) | exact zeq) rfl ?_ | refine bP rfl (by first | rfl | (first | exact hA | exact hB) | exact zeq) rfl ?_)))⟩
        · rw [mp_eq hx hy c0' hs] at hst
          generalize cmpP x y = c at hc c1' c2' c0'
          obtain ⟨xw, xr, xn⟩ := x
          obtain ⟨yw, yr, yn⟩ := y
          simp only [Po.c] at *
          clear hx hy hfa hfb ha1 hb1 hcy
          as_aux_lemma =>
            repeat' (first | ((with_reducible refine aD ?_); intro K hK hX) | ((with_reducible refine aE ?_); refine aA [0, 1, 2, 3, 4, 5, 6, 7, 9, 11, 74, 75, 76, 86, 87, 88] rfl rfl ?_; with_reducible refine aB ?_) | ((with_reducible refine aG (i := 2) ?_); refine aA [0, 1, 2, 3, 4, 5, 6, 7, 9, 11, 74, 75, 76, 86, 87, 88] rfl rfl ?_; refine cK [148] ?_) | ((with_reducible refine aG ?_); refine aA [0, 1, 2, 3, 4, 5, 6, 7, 9, 11, 74, 75, 76, 86, 87, 88] rfl rfl ?_; refine aL [148] ?_) | (refine drw_endL4 6 [2, 3] rfl (by kernel_rfl) (by kernel_rfl) (by kernel_rfl) rfl ?_) | (refine k_only ?_) | ((first | with_reducible refine aF ?_ | with_reducible refine bC ?_ | with_reducible refine bU ?_); (first | refine zA ?_ | refine zN ?_ | refine zD ?_ | refine zE ?_); (first | refine c0 (hc) ?_ | refine c0 (hcx) ?_)) | ((first | with_reducible refine aF ?_ | with_reducible refine aR ?_); refine aY tabOk [0, 1, 2, 3, 4, 5, 6, 7, 8, 9, 10, 11, 12, 13, 14, 15, 16, 17, 18, 19, 20, 21, 22, 23, 24, 25, 26, 27, 28, 29, 30, 31, 32, 33, 34, 35, 36, 37, 38, 39, 40, 41, 42, 43, 44, 45, 46, 47, 48, 49, 50, 51, 52, 53, 54, 55, 56, 57, 58, 59, 60, 61, 62, 63, 64, 65, 66, 67, 68, 69, 70, 71, 72, 73, 74, 75, 76, 77, 78, 79, 80, 81, 82, 83, 84, 85, 86, 87, 88, 89, 90, 91, 92, 93, 94, 95, 96, 97, 98] aH rfl rfl zby Tryz.func148 rfl rfl rfl (szf := 17) (by rw [Tryz.ntmps148]; rfl) rfl ?_) | ((first | ((with_reducible refine aI ?_); refine xA ?_) | ((with_reducible refine aP ?_); refine xD ?_) | ((with_reducible refine cP ?_); refine xE ?_)); (first | ((with_reducible refine aO ?_); (first | refine aC (aT tabOk rfl rfl rfl rfl (by first | exact hxn | exact hyn)) ?_ | refine aC (aN tabOk rfl rfl rfl rfl (by first | exact hxn | exact hyn)) ?_ | refine aC (aM tabOk rfl rfl rfl (by first | exact hxn | exact hyn)) ?_ | refine aC (aW tabOk rfl rfl rfl rfl (by first | first | exact hax | exact hay | exact whole0 (by first | rfl | omega) | rfl) zln) ?_ | refine aC (aV tabOk rfl rfl rfl (by first | first | exact hax | exact hay | exact whole0 (by first | rfl | omega) | rfl) zln) ?_)) | ((with_reducible refine bX ?_); (first | refine aC (s_ixV1 tabOk rfl rfl zcj rfl rfl rfl rfl rfl zle (by first | exact hxn | exact hyn)) ?_ | refine aC (aS tabOk rfl rfl zcj rfl rfl (by first | exact hxn | exact hyn)) ?_)) | ((with_reducible refine bB ?_); (first | refine aC (s_slArri tabOk rfl rfl rfl rfl zbd zbd zle zle (by decide) (by first | first | exact hax | exact hay | exact whole0 (by first | rfl | omega) | rfl) zln) ?_)))) | refine stA ?_ | refine stD ?_ | refine stE ?_ | ((first | refine hK _ _ _ _ ?_ | refine hX _ _ _ _ _ (by simp) ?_); clear hK hX K) | (first | refine bJ zio ztr rfl rfl ResL.none ?_ | refine bI zio ztr rfl rfl ResL.none ?_))
            exact ⟨(i + 1, k + 1, o ++ [⟨xw, xr, xn + yn⟩], q + 1), ⟨by first | omega | (simp only; omega), by first | omega | (simp only; omega), by rw [List.length_append, hq]; rfl, snocP hst⟩, by simp only; omega, (by refine cE [0, 4] rfl rfl ?_ ?_ rfl rfl <;> (repeat' (first | exact bQ | exact bR | refine bL rfl (by first | rfl | (first | exact congrArg (AObj.row 80) (iM o ⟨xw, xr, xn + yn⟩) | exact hA | exact hB) | exact zeq) rfl ?_ | refine bH rfl (by first | rfl | (first | exact congrArg (AObj.row 80) (iM o ⟨xw, xr, xn + yn⟩) | exact hA | exact hB) | exact zeq) rfl ?_)))⟩
  · have hZ2 : (o ++ a.drop i) ++ b.drop k = Z := by
      rw [← hst]
      by_cases h : i < n
      · have hk0 : b.drop k = [] := List.drop_eq_nil_of_le (by omega)
        rw [hk0, iL, List.append_nil]
      · have hi0 : a.drop i = [] := List.drop_eq_nil_of_le (by omega)
        rw [hi0, hY, List.append_nil]
    have hra : ∀ x ∈ a.drop i, x.r.length ≤ 1000000 ∧ x.n ≠ 0 ∧ -1000000 ≤ x.n ∧ x.n ≤ 1000000 := fun x hx => hfa x (List.mem_of_mem_drop hx)
    have hrb : ∀ x ∈ b.drop k, x.r.length ≤ 1000000 ∧ x.n ≠ 0 ∧ -1000000 ≤ x.n ∧ x.n ≤ 1000000 := fun x hx => hfb x (List.mem_of_mem_drop hx)
    have hna : (a.drop i).length = n - i := by rw [List.length_drop, hn]
    have hnb : (b.drop k).length = m - k := by rw [List.length_drop, hm]
    have hcond : n - i = 0 ∨ (0 < n - i ∧ m - k = 0) := by omega
    have hqq : q + (n - i) + (m - k) = N := by rw [← hN, ← hZ2, List.length_append, List.length_append, hq, hna, hnb]
    have hn2 : n - i ≤ 500000 := by omega
    have hm2 : m - k ≤ 500000 := by omega
    clear hst hfa hfb hn hm
    generalize a.drop i = ra at *
    generalize b.drop k = rb at *
    generalize n - i = n' at *
    generalize m - k = m' at *
    clear hik hi hk
    rcases hcond with h0 | ⟨h0, h1⟩
    all_goals
      repeat' (first | ((with_reducible refine aD ?_); intro K hK hX) | ((with_reducible refine aE ?_); refine aA [0, 1, 4, 5, 6, 7, 9, 11, 74, 75, 76, 86, 87, 88] rfl rfl ?_; with_reducible refine aB ?_) | ((with_reducible refine aG ?_); refine aA [0, 1, 4, 5, 6, 7, 9, 11, 74, 75, 76, 86, 87, 88] rfl rfl ?_; refine aL [] ?_) | refine stA ?_ | refine stD ?_ | ((first | refine hK _ _ _ _ ?_ | refine hX _ _ _ _ _ (by simp) ?_); clear hK hX K))
      refine bD [76, 9] [0, 1] rfl rfl (fun t : Nat => [(76, .c (iv t))]) (fun t => [(0, .blk 27 [.own 1 0 (q + t) 3 true]), (1, .row 80 (pc (o ++ ra.take t)))]) (fun t => t ≤ n') (fun t => n' - t) 0 (Nat.zero_le _) (by refine cL rfl ?_ ?_ rfl <;> (repeat' (first | exact bO | exact bZ | refine bG rfl (by first | rfl | (exact congrArg (AObj.row 80) (by simp)) | exact zeq) rfl ?_ | refine bP rfl (by first | rfl | (exact congrArg (AObj.row 80) (by simp)) | exact zeq) rfl ?_))) ?_
      clear hlo
      intro t ht K hK hX
      have hlo : (pc (o ++ ra.take t)).length = (q + t) * 3 := by rw [bF, List.length_append, List.length_take, hq, hna, Nat.min_eq_left ht]
      by_cases hlt : t < n'
      · obtain ⟨x, hx⟩ : ∃ x, ra[t]? = some x := ⟨_, List.getElem?_eq_getElem (by omega)⟩
        have hat := fF hx
        obtain ⟨x1, x2, x3, x4⟩ := hra x (List.mem_of_getElem? hx)
        have hcx := iX x.r x.r.length rfl x1
        have hnx : pc (o ++ ra.take t) ++ [x.c].flatten = pc (o ++ ra.take (t + 1)) := by rw [iM, List.take_add_one, hx, Option.toList_some, List.append_assoc]
        clear hra hrb hZ2 hqq hZ hN
        generalize pc (o ++ ra.take t) = L at *
        obtain ⟨xw, xr, xn⟩ := x
        simp only [Po.c] at *
        as_aux_lemma =>
          repeat' (first | ((with_reducible refine aD ?_); intro K hK hX) | ((with_reducible refine aE ?_); refine aA [0, 1, 2, 3, 4, 5, 6, 7, 9, 11, 74, 75, 76, 86, 87, 88] rfl rfl ?_; with_reducible refine aB ?_) | ((with_reducible refine aG (i := 2) ?_); refine aA [0, 1, 2, 3, 4, 5, 6, 7, 9, 11, 74, 75, 76, 86, 87, 88] rfl rfl ?_; refine cK [148] ?_) | ((with_reducible refine aG ?_); refine aA [0, 1, 2, 3, 4, 5, 6, 7, 9, 11, 74, 75, 76, 86, 87, 88] rfl rfl ?_; refine aL [148] ?_) | ((first | with_reducible refine aF ?_ | with_reducible refine bC ?_ | with_reducible refine bU ?_); (first | refine zA ?_ | refine zN ?_ | refine zD ?_ | refine zE ?_); (first | refine c0 (hcx) ?_)) | ((first | with_reducible refine aF ?_ | with_reducible refine aR ?_); refine aY tabOk [0, 1, 2, 3, 4, 5, 6, 7, 8, 9, 10, 11, 12, 13, 14, 15, 16, 17, 18, 19, 20, 21, 22, 23, 24, 25, 26, 27, 28, 29, 30, 31, 32, 33, 34, 35, 36, 37, 38, 39, 40, 41, 42, 43, 44, 45, 46, 47, 48, 49, 50, 51, 52, 53, 54, 55, 56, 57, 58, 59, 60, 61, 62, 63, 64, 65, 66, 67, 68, 69, 70, 71, 72, 73, 74, 75, 76, 77, 78, 79, 80, 81, 82, 83, 84, 85, 86, 87, 88, 89, 90, 91, 92, 93, 94, 95, 96, 97, 98] aH rfl rfl zby Tryz.func148 rfl rfl rfl (szf := 17) (by rw [Tryz.ntmps148]; rfl) rfl ?_) | ((first | ((with_reducible refine aI ?_); refine xA ?_) | ((with_reducible refine aP ?_); refine xD ?_) | ((with_reducible refine cP ?_); refine xE ?_)); (first | ((with_reducible refine aO ?_); (first | refine aC (aW tabOk rfl rfl rfl rfl (by first | exact hat | exact whole0 (by first | rfl | omega) | rfl) zln) ?_ | refine aC (aV tabOk rfl rfl rfl (by first | exact hat | exact whole0 (by first | rfl | omega) | rfl) zln) ?_)) | ((with_reducible refine bB ?_); (first | refine aC (s_slArri tabOk rfl rfl rfl rfl zbd zbd zle zle (by decide) (by first | exact hat | exact whole0 (by first | rfl | omega) | rfl) zln) ?_)))) | refine stA ?_ | refine stD ?_ | refine stE ?_ | ((first | refine hK _ _ _ _ ?_ | refine hX _ _ _ _ _ (by simp) ?_); clear hK hX K) | (first | refine bJ zio ztr rfl rfl ResL.none ?_ | refine bI zio ztr rfl rfl ResL.none ?_))
          exact ⟨t + 1, by omega, by omega, (by refine cE [0, 5] rfl rfl ?_ ?_ rfl rfl <;> (repeat' (first | exact bQ | exact bR | refine bL rfl (by first | rfl | (exact congrArg (AObj.row 80) hnx) | exact zeq) rfl ?_ | refine bH rfl (by first | rfl | (exact congrArg (AObj.row 80) hnx) | exact zeq) rfl ?_)))⟩
      · have hte : t = n' := by omega
        rw [hte] at hlo ⊢
        rw [List.take_of_length_le (by omega)] at hlo ⊢
        clear hra
        repeat' (first | ((with_reducible refine aD ?_); intro K hK hX) | ((with_reducible refine aE ?_); refine aA [0, 1, 4, 5, 6, 7, 9, 11, 74, 75, 76, 86, 87, 88] rfl rfl ?_; with_reducible refine aB ?_) | ((with_reducible refine aG ?_); refine aA [0, 1, 4, 5, 6, 7, 9, 11, 74, 75, 76, 86, 87, 88] rfl rfl ?_; refine aL [] ?_) | refine stA ?_ | refine stD ?_ | ((first | refine hK _ _ _ _ ?_ | refine hX _ _ _ _ _ (by simp) ?_); clear hK hX K))
        refine bD [88, 11] [0, 1] rfl rfl (fun t : Nat => [(88, .c (iv t))]) (fun t => [(0, .blk 27 [.own 1 0 (q + n' + t) 3 true]), (1, .row 80 (pc (o ++ ra ++ rb.take t)))]) (fun t => t ≤ m') (fun t => m' - t) 0 (Nat.zero_le _) (by refine cL rfl ?_ ?_ rfl <;> (repeat' (first | exact bO | exact bZ | refine bG rfl (by first | rfl | (exact congrArg (AObj.row 80) (by simp)) | exact zeq) rfl ?_ | refine bP rfl (by first | rfl | (exact congrArg (AObj.row 80) (by simp)) | exact zeq) rfl ?_))) ?_
        clear hlo hlt hte ht
        intro t ht K hK hX
        have hlo : (pc (o ++ ra ++ rb.take t)).length = (q + n' + t) * 3 := by rw [bF, List.length_append, List.length_append, List.length_take, hq, hna, hnb, Nat.min_eq_left ht]
        by_cases hlt : t < m'
        · obtain ⟨x, hx⟩ : ∃ x, rb[t]? = some x := ⟨_, List.getElem?_eq_getElem (by omega)⟩
          have hat := fF hx
          obtain ⟨x1, x2, x3, x4⟩ := hrb x (List.mem_of_getElem? hx)
          have hcx := iX x.r x.r.length rfl x1
          have hnx : pc (o ++ ra ++ rb.take t) ++ [x.c].flatten = pc (o ++ ra ++ rb.take (t + 1)) := by rw [iM, List.take_add_one, hx, Option.toList_some, List.append_assoc (o ++ ra)]
          clear hrb hZ2 hqq hZ hN
          generalize pc (o ++ ra ++ rb.take t) = L at *
          obtain ⟨xw, xr, xn⟩ := x
          simp only [Po.c] at *
          as_aux_lemma =>
            repeat' (first | ((with_reducible refine aD ?_); intro K hK hX) | ((with_reducible refine aE ?_); refine aA [0, 1, 2, 3, 4, 5, 6, 7, 9, 11, 74, 75, 76, 86, 87, 88] rfl rfl ?_; with_reducible refine aB ?_) | ((with_reducible refine aG (i := 2) ?_); refine aA [0, 1, 2, 3, 4, 5, 6, 7, 9, 11, 74, 75, 76, 86, 87, 88] rfl rfl ?_; refine cK [148] ?_) | ((with_reducible refine aG ?_); refine aA [0, 1, 2, 3, 4, 5, 6, 7, 9, 11, 74, 75, 76, 86, 87, 88] rfl rfl ?_; refine aL [148] ?_) | ((first | with_reducible refine aF ?_ | with_reducible refine bC ?_ | with_reducible refine bU ?_); (first | refine zA ?_ | refine zN ?_ | refine zD ?_ | refine zE ?_); (first | refine c0 (hcx) ?_)) | ((first | with_reducible refine aF ?_ | with_reducible refine aR ?_); refine aY tabOk [0, 1, 2, 3, 4, 5, 6, 7, 8, 9, 10, 11, 12, 13, 14, 15, 16, 17, 18, 19, 20, 21, 22, 23, 24, 25, 26, 27, 28, 29, 30, 31, 32, 33, 34, 35, 36, 37, 38, 39, 40, 41, 42, 43, 44, 45, 46, 47, 48, 49, 50, 51, 52, 53, 54, 55, 56, 57, 58, 59, 60, 61, 62, 63, 64, 65, 66, 67, 68, 69, 70, 71, 72, 73, 74, 75, 76, 77, 78, 79, 80, 81, 82, 83, 84, 85, 86, 87, 88, 89, 90, 91, 92, 93, 94, 95, 96, 97, 98] aH rfl rfl zby Tryz.func148 rfl rfl rfl (szf := 17) (by rw [Tryz.ntmps148]; rfl) rfl ?_) | ((first | ((with_reducible refine aI ?_); refine xA ?_) | ((with_reducible refine aP ?_); refine xD ?_) | ((with_reducible refine cP ?_); refine xE ?_)); (first | ((with_reducible refine aO ?_); (first | refine aC (aW tabOk rfl rfl rfl rfl (by first | exact hat | exact whole0 (by first | rfl | omega) | rfl) zln) ?_ | refine aC (aV tabOk rfl rfl rfl (by first | exact hat | exact whole0 (by first | rfl | omega) | rfl) zln) ?_)) | ((with_reducible refine bB ?_); (first | refine aC (s_slArri tabOk rfl rfl rfl rfl zbd zbd zle zle (by decide) (by first | exact hat | exact whole0 (by first | rfl | omega) | rfl) zln) ?_)))) | refine stA ?_ | refine stD ?_ | refine stE ?_ | ((first | refine hK _ _ _ _ ?_ | refine hX _ _ _ _ _ (by simp) ?_); clear hK hX K) | (first | refine bJ zio ztr rfl rfl ResL.none ?_ | refine bI zio ztr rfl rfl ResL.none ?_))
            exact ⟨t + 1, by omega, by omega, (by refine cE [0, 5] rfl rfl ?_ ?_ rfl rfl <;> (repeat' (first | exact bQ | exact bR | refine bL rfl (by first | rfl | (exact congrArg (AObj.row 80) hnx) | exact zeq) rfl ?_ | refine bH rfl (by first | rfl | (exact congrArg (AObj.row 80) hnx) | exact zeq) rfl ?_)))⟩
        · have hte : t = m' := by omega
          rw [hte] at hlo ⊢
          rw [List.take_of_length_le (by omega), hqq, hZ2] at hlo ⊢
          clear hrb
          as_aux_lemma =>
            repeat' (first | ((with_reducible refine aD ?_); intro K hK hX) | ((with_reducible refine aE ?_); refine aA [0, 1, 4, 5, 6, 7, 9, 11, 74, 75, 76, 86, 87, 88] rfl rfl ?_; with_reducible refine aB ?_) | ((with_reducible refine aG ?_); refine aA [0, 1, 4, 5, 6, 7, 9, 11, 74, 75, 76, 86, 87, 88] rfl rfl ?_; refine aL [] ?_) | refine stA ?_ | refine stD ?_ | ((first | refine hK _ _ _ _ ?_ | refine hX _ _ _ _ _ (by simp) ?_); clear hK hX K))
            refine aK zio ztr rfl (ResL.one (ResA.tmp rfl)) (cX (cB rfl rfl hlo))
end Go.Proofs.YtccnhpaldmjkbaaGreat
