/- Lemmas for laws of the ledger. -/
import Derived.Test.YtbgehdndimlgkaaGreatS4
set_option linter.all false
namespace Go.Av
open Go Go.RowKit
def dV9:Ground->Bool
 | .chain=>true
 | .phase=>true
 | _=>false
def chB (l:Dp):Nat->Oper->Nat->Bool
 | 0,_,_=>false
 | f+1,o,i=>o.after.any fun e=>Region.binds .any e&&(Nat.beq e.on i || (dV9 e.ground&&match l[e.on]? with|some o'=>chB l f o' i|none=>false))
theorem zK {l : Dp} {p : Nat -> Prop} (hlt : ∀ (j : Nat) (oj : Oper), l[j]? = some oj -> ∀ e ∈ oj.after, Region.binds .any e = true -> e.on < j) (hcl : ∀ (j : Nat) (oj : Oper), l[j]? = some oj -> p j -> ∀ e ∈ oj.after, Region.binds .any e = true -> p e.on) : ∀ {f : Nat} {o : Oper} {i : Nat}, chB l f o i = true ->
    ((∀ e ∈ o.after, Region.binds .any e = true -> p e.on) -> p i) /\ ∀ j, l[j]? = some o -> i < j /\ (p j -> p i)
  | 0, o, i, h => by cases h
  | f + 1, o, i, h => by
    unfold chB at h
    obtain ⟨e, he, h3⟩ := C1.1 h
    simp only [Ar, Br] at h3
    obtain ⟨hb, h3⟩ := h3
    rcases h3 with h3 | ⟨_, h3⟩
    · rw [<- Ae h3]
      exact ⟨fun k => k e he hb, fun j hj => ⟨hlt j o hj e he hb, fun hp => hcl j o hj hp e he hb⟩⟩
    · split at h3
      · rename_i o' ho'
        obtain ⟨_, q2⟩ := zK hlt hcl (f := f) h3
        obtain ⟨q3, q4⟩ := q2 e.on ho'
        exact ⟨fun k => q4 (k e he hb), fun j hj => ⟨Nat.lt_trans q3 (hlt j o hj e he hb), fun hp => q4 (hcl j o hj hp e he hb)⟩⟩
      · cases h3
def dA8 (l:Dp) (es:List Eat):Bool :=
 (List.range es.length).all fun i=>(List.range es.length).all fun j=>Nat.beq i j || match es[i]?,es[j]?,l[i]?,l[j]? with
  | some (T,_),some (_,some (k,_)),some oi,some oj => !sO T k || chB l 12 oj i || chB l 12 oi j
  | _,_,_,_=>true
theorem bV4 {l:Dp} {es:List Eat} (h:dA8 l es=true) {i j k:Nat} {T T':Dr} {c:Wr} {x:Option AObj} {oi oj:Oper} (hij:i≠j) (hi:es[i]? = some (T,c)) (hj:es[j]? = some (T',some (k,x))) (hk:k∈T) (hoi:l[i]? = some oi) (hoj:l[j]? = some oj):chB l 12 oj i=true\/chB l 12 oi j=true:=by
 have h1:=Aw.1 h i (AA.2 (Ag.1 hi).1)
 have h2:=Aw.1 h1 j (AA.2 (Ag.1 hj).1)
 rw [hi,hj,hoi,hoj] at h2
 have hne:Nat.beq i j=false:=by
  cases hb:Nat.beq i j with
  | false=>rfl
  | true=>exact absurd (Ae hb) hij
 simp only [hne,Bool.false_or,yM hk,Bool.not_true,Br] at h2
 exact h2
section wL
variable {P:Dv} {ops:Dq} {B:Bs} {sz n0 N:Nat} {env0 E:Env} {h0 H:aO} {dfs:cD} {l:Dp} {vs:D2} {ns:Dr} {es:List Eat} {G:Nat->Option AObj} {listed:Array Bool}
theorem dI9 (hc : ChainE P ops l env0 h0 n0 vs ns es G E H N) (hB : headB ops l = true) (hE : dA8 l es = true) (hcl : ∀ (j : Nat) (oj : Oper), l[j]? = some oj -> listed.getD j false = true -> ∀ e ∈ oj.after, Region.binds .any e = true -> listed.getD e.on false = true) (hk0 : ∀ p ∈ h0, p.1 < n0) (hsz : ∀ (j : Nat) (oj : Oper) (t : Nat), l[j]? = some oj -> oj.dst = some t -> t < sz) (hops : ∀ (j : Nat) (oj : Oper), l[j]? = some oj -> ops[j]? = some oj) {Q : Exit -> Act -> World -> Prop} {i : Nat} {o : Oper} {a : Act} {w : World} (hi : l[i]? = some o) (hr : i ∈ Region.ready .any ops listed) (hinv : aL6 B sz n0 env0 dfs l vs ns es G listed a w)
    {K : Act -> World -> Prop} (hK : ∀ a' w', aL6 B sz n0 env0 dfs l vs ns es G (listed.setIfInBounds i true) a' w' -> K a' w') : wpOp P ops Q i K a w := by
  obtain ⟨M, c1, c2, c3, c4, c5⟩ := hinv
  obtain ⟨env', h', hq, Δ, n1, n2, v, T, c, s⟩ := hc.get hk0 i o hi
  have hlt := (Ag.1 hi).1
  have hun := (mem_ready.1 hr).1
  have hall : ∀ e ∈ o.after, Region.binds .any e = true -> listed.getD e.on false = true := by
    obtain ⟨_, o', ho', hall⟩ := mem_ready.1 hr
    rw [hops i o hi] at ho'
    injection ho' with ho'
    subst ho'
    exact hall
  have hlistsz : i < listed.size := by
    rcases AE i listed.size with h | h
    · exact h
    · simp [B5 h] at hun
  have hb := hU hB hi
  have hu := (show aF7 l = true by simp only [headB, Ar] at hB; exact hB.1)
  have look : ∀ t av, t ∈ o.looksAt ops -> lkE env' t = some av -> Rep ⟨eF n0 ns l.length listed, M, bF B (eF n0 ns l.length listed) M (HV es 0 (lst listed) G), w⟩ av (a.tmps.getD t undef) := by
    intro t av ht hav
    rcases tD (hb.2 t ht) with hno | ⟨j, oj, hj, hdj, e, he, heb, hej⟩
    · rcases s.env t av hav with ⟨j, oj, h1, h2, h3, h4⟩ | ⟨h1, h2⟩
      · exact absurd h3 (hno j oj h2)
      · exact cG5
    · have hlj := hall e he heb
      rw [hej] at hlj
      have hji : j < i := by have := hb.1 e he heb; omega
      rcases s.env t av hav with ⟨j', oj', h1, h2, h3, h4⟩ | ⟨h1, h2⟩
      · have := jR hu h2 hj h3 hdj
        subst this
        exact c3 j' oj' t av h2 hlj h3 h4
      · exact absurd hdj (h2 j oj hji hj)
  have hdset := aA9 (n0 := n0) (m := l.length) hlt hun s.hn s.hn'
  have fin : ∀ u w' M', Ext ⟨eF n0 ns l.length listed, M, bF B (eF n0 ns l.length listed) M (HV es 0 (lst listed) G), w⟩ ⟨eF n0 ns l.length (listed.setIfInBounds i true), M', bF B (eF n0 ns l.length (listed.setIfInBounds i true)) M' (HV es 0 (lst (listed.setIfInBounds i true)) G), w'⟩ -> ConcH B (eF n0 ns l.length (listed.setIfInBounds i true)) M' (HV es 0 (lst (listed.setIfInBounds i true)) G) w' -> Rep ⟨eF n0 ns l.length (listed.setIfInBounds i true), M', bF B (eF n0 ns l.length (listed.setIfInBounds i true)) M' (HV es 0 (lst (listed.setIfInBounds i true)) G), w'⟩ v u -> K (a.put o.dst u) w' := by
    intro u w' M' hext hcc hv
    refine hK _ _ ⟨M', hcc, ?_, fun j oj t vj hj hl hd hvj => ?_, fun t av hav hno => ?_, ?_⟩
    · cases hd : o.dst with
      | none => simpa [Act.put] using c2
      | some d => simp [Act.put, c2]
    · by_cases hij : i = j
      · subst hij
        rw [hi] at hj; injection hj with hj; subst hj
        rw [s.hv] at hvj; injection hvj with hvj; subst hvj
        have ht := hsz i o t hi hd
        rw [hd]
        simp only [Act.put]
        rw [show (a.tmps.setIfInBounds t u).getD t undef = u by simp [c2, ht]]
        exact hv
      · rw [getD_set_ne false hij] at hl
        have h1 := c3 j oj t vj hj hl hd hvj
        have hne : ∀ d, o.dst = some d -> d ≠ t := fun d hdd e => hij (jR hu hi hj (by rw [hdd, e]) hd)
        cases hdo : o.dst with
        | none => simpa [Act.put] using Rep.ext hext _ _ h1
        | some d =>
          simp only [Act.put]
          rw [show (a.tmps.setIfInBounds d u).getD t undef = a.tmps.getD t undef by simp [Ba (hne d hdo)]]
          exact Rep.ext hext _ _ h1
    · have hself : o.dst ≠ some t := hno i o hi (by simp [hlistsz])
      have h1 := c4 t av hav (fun j oj hj hl => hno j oj hj (getD_set_true hl))
      cases hdo : o.dst with
      | none => simpa [Act.put] using Rep.ext hext _ _ h1
      | some d =>
        have hne : d ≠ t := fun e => hself (by rw [hdo, e])
        simp only [Act.put]
        rw [show (a.tmps.setIfInBounds d u).getD t undef = a.tmps.getD t undef by simp [Ba hne]]
        exact Rep.ext hext _ _ h1
    · have : (a.put o.dst u).defers = a.defers := by cases o.dst <;> rfl
      rw [this]
      exact c5.ext hext
  have hpi : lst listed i = false := getD_both hun
  have order : ∀ id, id ∈ T -> ∀ j T' x, j ≠ i -> es[j]? = some (T', some (id, x)) -> (j < i /\ lst listed j = true) \/ (i < j /\ lst listed j = false) := by
    intro id hid j T' x hji hj
    have hjl : j < l.length := by rw [<- hc.lenE]; exact (Ag.1 hj).1
    have hoj := Ab hjl
    rcases bV4 hE (Ne.symm hji) s.he hj hid hi hoj with he | he
    · obtain ⟨h1, h2⟩ := zK (l := l) (p := fun q => listed.getD q false = true) (fun j oj h => (hU hB h).1) hcl he
      obtain ⟨h3, h4⟩ := h2 j hoj
      refine .inr ⟨h3, ?_⟩
      cases hl : lst listed j with
      | false => rfl
      | true => exact absurd ((h4 hl).symm.trans hpi) aU
    · obtain ⟨h1, h2⟩ := zK (l := l) (p := fun q => listed.getD q false = true) (fun j oj h => (hU hB h).1) hcl he
      exact .inl ⟨(h2 i hi).1, h1 hall⟩
  have hset : (∀ k x, c = some (k, x) -> k ∈ T) -> HV es 0 (lst (listed.setIfInBounds i true)) G = ov c (HV es 0 (lst listed) G) := fun hcT =>
    cL9 s.he hpi (by simp [lst, hlistsz]) (fun j hj => getD_set_ne false (Ne.symm hj)) (fun k x hk j T' x' hij hj => by
      rcases order k (hcT k x hk) j T' x' aA hj with ⟨h1, _⟩ | ⟨_, h2⟩
      · omega
      · exact h2) G
  have hat : ∀ id, id ∈ T -> HV es 0 (lst listed) G id = HV (es.take i) 0 (fun _ => true) G id := fun id hid =>
    dS7 s.he hpi (fun j T' x hji hj => by
      rcases order id hid j T' x aA hj with ⟨_, h2⟩ | ⟨h1, _⟩
      · exact h2
      · omega) (fun j T' x hij hj => by
      rcases order id hid j T' x aA hj with ⟨h1, _⟩ | ⟨_, h2⟩
      · omega
      · exact h2) G
  unfold wpOp
  rw [hops i o hi]
  simp only
  have gd : ∀ b, guardA ops env' o b -> Region.wanted o (yielded ops a.tmps) = b := by
    intro b hg
    unfold guardA at hg
    unfold Region.wanted
    cases hgd : o.guard with
    | none => rw [hgd] at hg; exact hg.symm
    | some p =>
      obtain ⟨j, want⟩ := p
      rw [hgd] at hg
      obtain ⟨t, h1, h2⟩ := hg
      rcases h2 with ⟨c, h2, h3⟩ | ⟨h2, rfl⟩
      rotate_left
      · have h4 := look t _ (by
          unfold Oper.looksAt
          rw [hgd]
          exact BL _ (by simp [h1])) h2
        simp only [Rep, RepC] at h4
        simp [nJ h1 h4]
      have h4 := look t _ (by
        unfold Oper.looksAt
        rw [hgd]
        exact BL _ (by simp [h1])) h2
      simp only [Rep, RepC] at h4
      have hlt : t < a.tmps.size := by
        rcases AE t a.tmps.size with h1 | h1
        · exact h1
        · simp [h1, undef] at h4
      have : yielded ops a.tmps j = some c := by
        unfold yielded
        rw [h1]
        have h5 : a.tmps[t]? = some (.bool c) := by
          rw [<- h4]
          simp [hlt]
        simp [h5]
      simp only [this]
      rw [<- h3]
      cases c <;> cases want <;> rfl
  rcases s.step with ⟨hg, hsub, hnT, hcT, hA⟩ | ⟨hg, rfl, rfl, rfl⟩
  · rw [gd true hg, Ak rfl]
    refine .inl (hA B (eF n0 ns l.length listed) M (HV es 0 (lst listed) G) w a K Q (fun id ob k1 k2 => ?_) (fun id k1 k2 => ⟨?_, ?newid⟩) c1 (fun x av hx => ?_) ?_)
    ·
      obtain ⟨k1, hidT⟩ := hsub id ob k1
      rw [hat id hidT]
      rcases AE id n1 with h1 | h1
      · rw [s.old id h1]; exact k1
      · obtain ⟨p, hp, hpi⟩ := aC8 k1
        have := s.keys p hp
        omega
    case newid =>
      rw [hat id (hnT id k1 k2), uC, s.new id k1 k2]
      intro k T' x hk
      exfalso
      rw [AU] at hk
      split at hk
      · rename_i hki
        have hkn : k < ns.length := by rw [hc.le.2.2.1]; omega
        have h1 := hc.wrs k T' id x _ hk (Ab hkn)
        have h2 := jI hc (show k <= i by omega) (Ab hkn) s.hn
        omega
      · cases hk
    · rintro (h1 | ⟨j, p, q, h1, h2, h3, h4, h5, h6⟩)
      · have := jI hc (Am i) hc.le.2.1 s.hn
        omega
      · have hij : i ≠ j := fun e => by subst e; rw [getD_both hun] at h2; cases h2
        rcases CT hij with h7 | h7
        · have := jI hc (show i + 1 <= j by omega) s.hn' h3
          omega
        · have := jI hc (show j + 1 <= i by omega) h4 s.hn
          omega
    · cases x with
      | tmp t =>
        simp only [evT] at hx
        split at hx
        · rename_i hm
          exact look t av (rD hm) hx
        · cases hx
      | const x => simp only [evT, Option.some.injEq] at hx; subst hx; simp [Rep, RepC, Act.eval]
      | global g => cases hx
      | func f => simp only [evT, Option.some.injEq] at hx; subst hx; exact ⟨[], rfl, rfl⟩
    · intro u w' M' hext hcc hv
      rw [<- hdset, <- hset hcT] at hext hcc hv
      exact fin u w' M' hext hcc hv
  · rw [gd false hg, Aj aU]
    have hds2 : eF n0 ns l.length (listed.setIfInBounds i true) = eF n0 ns l.length listed := by rw [hdset, dY]
    have hhe := hset (fun k x e => by cases e)
    rw [aQ1] at hhe
    refine fin undef w M ?_ ?_ ?_
    · rw [hds2, hhe]; exact Ext.refl _
    · rw [hds2, hhe]; exact c1
    · simp [Rep, RepC]
end wL
theorem bT2 {P : Dv} {sz n0 N : Nat} {env0 E : Env} {h0 H : aO} {dfs : cD} {K : AK} {id : Nat} {l : Dp} {vs : D2} {ns : Dr} {es : List Eat} {G : Nat -> Option AObj} (m : Nat) (hm : P.follows .mixedOrders = true) (hB : tW l m = true) (hE : dA8 (l.take m) es = true) (hsz : vW (l.take m) sz = true) (hk0 : aJ2 h0 n0 = true)
    (hc : ChainE P l.toArray (l.take m) env0 h0 n0 vs ns es G E H N) (next : AWL P l.toArray sz (l.drop m) K N E H dfs) : AW P sz (.region id l.toArray true) K n0 env0 h0 dfs := by
  intro B a w hcc rd hrd
  simp only [tW, Ar, Br] at hB
  obtain ⟨⟨⟨b1, b2⟩, b3⟩, b4⟩ := hB
  have hml : m <= l.length := A7 b1
  have htl : (l.take m).length = m := by simp; omega
  have hk0' : ∀ p ∈ h0, p.1 < n0 := fun p hp => by simpa [AJ] using List.all_eq_true.1 hk0 p hp
  have hsz' : ∀ (j : Nat) (oj : Oper) (t : Nat), (l.take m)[j]? = some oj -> oj.dst = some t -> t < sz := fun j oj t hj hd => by
    have := Aw.1 hsz oj (Af hj)
    exact fD this t hd
  have hops : ∀ (j : Nat) (oj : Oper), (l.take m)[j]? = some oj -> l.toArray[j]? = some oj := fun j oj hj => by
    rw [AU] at hj
    split at hj
    · simpa using hj
    · cases hj
  have hnd : rd = none \/ ∀ (i : Nat) (o : Oper), l.toArray[i]? = some o -> oF o = true := hrd.imp_right fun k i o ho => aM0 vE ho
  have hdrop : rd = none \/ (l.drop m).all oF = true := hrd.imp_right fun k => Aw.2 fun o ho => Aw.1 vE o (Bf ho)
  refine wpIn_region_any hm ?_
  have hdrew : tN B sz n0 env0 h0 dfs a { w with drawn := w.drawn + 1 } := by
    obtain ⟨M, c1, c2, c3, c4⟩ := hcc
    have hbel : Below w.heap.size w { w with drawn := w.drawn + 1 } := (Below.refl _ _).drew
    have hg := c1.grow hbel n0 n0 (M' := M) (fun _ _ => rfl) (fun id h1 h2 => by omega) (fun id o h1 h2 => by omega) (fun id id' o o' g h1 h2 => by omega) (fun _ id o h1 h2 => by omega)
    rw [dY] at hg
    exact cG6
  have key : ∀ (f : Nat) (listed : Array Bool) (a : Act) (w : World), (List.range m).countP (fun j => !listed.getD j false) = f -> HeadInv .any l.toArray m listed -> aL6 B sz n0 env0 dfs (l.take m) vs ns es G listed a w ->
      wpAnyIn (WF rd) 0 P .any l.toArray (KC B sz K) (f + (l.length - m)) listed a w := by
    intro f
    induction f with
    | zero =>
      intro listed a w hcnt hinv hI
      have hall := qH m hcnt
      have hlisted : listed = nB m (l.length - m) := by
        apply Array.ext
        · rw [hinv.size]; simp [nB]; omega
        · intro j h1 h2
          rw [hinv.size] at h1
          simp only [A1] at h1
          by_cases hj : j < m
          · have := hall j hj
            simp [hinv.size, h1] at this
            simp [nB, hj, this, BS]
          · have := hinv.tail j aA (by simpa using h1)
            simp [hinv.size, h1] at this
            simp [nB, hj, this, BS]
      rw [Aq]
      have hconc := eG6 hc (by rw [htl]; exact hall) hI
      have := kB (F := WF rd) (n := 0) (P := P) (ops := l.toArray) (md := .any) (Q' := KC B sz K) (l.drop m) m listed a w (fun j => by simp [AR]) cG0 (next B a w hconc rd hdrop)
      rwa [A0] at this
    | succ f ih =>
      intro listed a w hcnt hinv hI
      rw [show f + 1 + (l.length - m) = (f + (l.length - m)) + 1 by omega]
      have hex : ∃ j, j < m /\ listed.getD j false = false := by
        have hpos : 0 < (List.range m).countP (fun j => !listed.getD j false) := by omega
        obtain ⟨j, hj, hp⟩ := CO.1 hpos
        exact cG7
      have hsize : ∀ j, j < m -> j < listed.size := fun j hj => by rw [hinv.size]; simp; omega
      have hready : Region.ready .any l.toArray listed ≠ [] := by
        obtain ⟨j0, hj0, hu0⟩ := hex
        obtain ⟨j, ⟨hj, hu⟩, hmin⟩ := kN (fun j => j < m /\ listed.getD j false = false) ⟨j0, hj0, hu0⟩
        have hjl : j < (l.take m).length := by omega
        have hb := hU b2 (Ab hjl)
        have hr : j ∈ Region.ready .any l.toArray listed := by
          refine mem_ready.2 ⟨getD_in (hsize j hj) hu, (l.take m)[j], hops j _ (Ab hjl), fun e he hbn => ?_⟩
          have hlt := hb.1 e he hbn
          cases hle : listed.getD e.on false with
          | true => rfl
          | false => have := hmin e.on ⟨by omega, hle⟩; omega
        intro h0; rw [h0] at hr; cases hr
      refine ⟨fun h => absurd h hready, fun i hi => ?_⟩
      have him : i < m := by
        rcases AE i m with h | h
        · exact h
        · exfalso
          obtain ⟨_, oi, hoi, _⟩ := mem_ready.1 hi
          have hil : i < l.length := by simpa using (Cq.1 hoi).1
          rcases b3 with b3 | b3
          · have := Ae b3; omega
          · obtain ⟨j0, hj0, hu0⟩ := hex
            exact cG8
      have hil : i < (l.take m).length := by omega
      refine aS0 (hnd.imp_right fun k => k i) (dI9 (Q := fun _ _ _ => False) hc b2 hE (fun j oj hj hl e he hb => hinv.closed j oj (hops j oj hj) hl e he hb) hk0' hsz' hops (Ab hil) hi hI fun a' w' hI' => ?_)
      refine ih _ a' w' ?_ (hinv.set hi him) hI'
      have := sY m him (mem_ready.1 hi).1
      omega
  have hcount : (List.range m).countP (fun j => !(Array.replicate l.toArray.size false).getD j false) = m := by
    rw [CD.2 (fun j hj => by rw [getD_replicate_false]; rfl), C6]
  have := key m (Array.replicate l.toArray.size false) a _ hcount ⟨by simp, (fun j oj hj hl => by rw [getD_replicate_false] at hl; cases hl), fun t h1 h2 => by simp at h2; simp [h2]⟩ (dS9 hc hdrew)
  rw [show m + (l.length - m) = l.toArray.size by simp; omega] at this
  exact this
theorem vV {P:Dv} {l:Dp} {sz:Nat} {K:AK} {dfs:cD} {id n0 n:Nat} {env0 env:Env} {h0 h:aO} {es:List Eat} {rest:Dp} (hm:P.follows .mixedOrders=true) (hB:tW l (l.length-rest.length)=true) (hE:dA8 (l.take (l.length-rest.length)) es=true) (hsz:vW (l.take (l.length-rest.length)) sz=true) (hk0:aJ2 h0 n0=true) (next:AWL P l.toArray sz rest K n env h dfs):bX P l sz K dfs id n0 env0 h0 es 0 rest n env h:=by
 intro pre vs ns G hl hc
 have hlen:l.length-rest.length=pre.length:=by rw [<- hl];simp
 rw [hlen] at hB hsz hE
 have ht:l.take pre.length=pre:=by rw [<- hl];simp
 have hd:l.drop pre.length=rest:=by rw [<- hl];simp
 exact bT2 pre.length hm hB hE hsz hk0 (by rw [ht];exact hc) (by rw [hd];exact next)
theorem eY {P:Dv} {l:Dp} {sz:Nat} {K:AK} {dfs:cD} {i n0 n m t:Nat} {env0 env:Env} {h0 h:aO} {es:List Eat} {rest:Dp} {op:Op} {ty:Du} {pos:String} {aft:Ds} {gd:Dn} {v:AV} (hg:guardA l.toArray env ⟨some t,op,ty,pos,aft,gd⟩ true) (hs:Still P ⟨some t,op,ty,pos,aft,gd⟩ (evT (Oper.looksAt l.toArray ⟨some t,op,ty,pos,aft,gd⟩) env) [] v) (next:bX P l sz K dfs i n0 env0 h0 (es++[([],none)]) m rest n ((t,v)::env) h):bX P l sz K dfs i n0 env0 h0 es (m+1) (⟨some t,op,ty,pos,aft,gd⟩::rest) n env h :=
 fC (T:=[]) (hr:=[]) (Δ := []) (c:=none) hg (Ah _) (fun id o h=>by cases h) aU trivial (fun k x e=>by cases e) hs.adds.est (fun id h1 h2=>by omega) aU next
end Go.Av
