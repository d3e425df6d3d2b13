import Derived.Test.YtbgehdndimlgkaaGreatQ28
set_option linter.unusedSimpArgs false
set_option linter.unusedVariables false
namespace Go.Proofs.YtbgehdndimlgkaaGreat
open Go Go.RowKit Go.Av
set_option maxRecDepth 100000
attribute [local irreducible] Still Adds AWL AW Drw bS bY AC AWR cQ Frz Go.Av.Src cM Out InK ItK AsK RdK fC eZ ACT ACA fJ ACG fM AWS lec
set_option maxHeartbeats 32000000 in
theorem dV0 (n : Nat) (C cs : List CV) (k day plan step rk : Int) (vs : List Ver) (ss : List Src) (nv ns : Nat) (hF : FoC n C cs k day plan step rk vs ss nv ns) (op : Bool) (k2 : k = 2) (EV : List Ver) (q1 : Nat) (hq1 : EV.length = q1) (hqb1 : q1 ≤ 1000000) (hev : ∀ x ∈ EV, oH x) (hvs : ∀ x ∈ vs, oH x) (her : AC Tryz.prog 48 [.sl 65 n C] (.c (.sl 3 q1 (vrc EV))) [] 0) (hallV : ∀ q, q < nv → kG ltV EV vs q) (ES : List Src) (q2 : Nat) (hq2 : ES.length = q2) (hqb2 : q2 ≤ 1000000) (hes : ∀ x ∈ ES, sX x) (hss : ∀ x ∈ ss, sX x) (hrm : AC Tryz.prog 50 [.sl 65 n C] (.c (.sl 2 q2 (src ES))) [] 0) (j0 : Nat) (hj : j0 < ns) (hbadS : ¬ kG ltS ES ss j0) (hallS : ∀ q, q < j0 → kG ltS ES ss q) (cs' : List CV) : AW Tryz.prog 223 foR (cM Tryz.prog tab Tryz.f27.results.toList (.c (bv false)) [] 0) 2 [(0, .c (.sl 65 n C)), (3, .ref 0 0), (4, .c (bv false)), (7, .c (bv op))] [(1, .row 49 cs'), (0, .row 49 cs)] [] := by
  obtain ⟨hn, hC, hl, hnv, hns, hb1, hb2, hc0, hc1, hc2, hc3, hc4, hc31, hc32⟩ := hF
  unfold foR
  conv in fS _ => whnf
  have hvl : (vrc vs).length = nv * 3 := by rw [cU, hnv]
  have hsl : (src ss).length = ns * 2 := by rw [dQ, hns]
  repeat' (first | (refine aC ?_; intro K hK hX) | refine bV7 ?_ | (refine aF hK hX ?_; clear hK hX K) | fail)
  refine bA [9] [] rfl rfl (fun i : Nat => [(9, .c (iv i))]) (fun i => []) (fun i => i ≤ nv) (fun i => nv - i) 0 (Nat.zero_le _) dL ?_
  intro i hi K hK hX
  by_cases hlt : i < nv
  · have hg := hallV i hlt
    obtain ⟨v, hat⟩ : ∃ v, vs[i]? = some v := ⟨_, List.getElem?_eq_getElem aA⟩
    have hx := eA hat
    have hok := hvs v (List.mem_of_getElem? hat)
    have hm := (hg v hat).1
    have hhas := pY EV q1 hq1 hqb1 hev v hok false ⟨fun h => dW, fun h => absurd h hm⟩
    by_cases h0 : i = 0
    · clear hg
      repeat' (first | (refine aC ?_; intro K hK hX) | refine xK ?_ | (refine aF hK hX ?_; clear hK hX K) | fail)
      exact cY
    · obtain ⟨u, hau⟩ : ∃ u, vs[i - 1]? = some u := ⟨_, List.getElem?_eq_getElem aA⟩
      have hxu := eA hau
      rw [show i - 1 = ((i : Int) - 1).toNat from by omega] at hxu
      have huv := (hg v hat).2 u aA hau
      have hle := jZ u v true ⟨fun _ => huv, fun _ => rfl⟩
      clear hg
      repeat' (first | (refine aC ?_; intro K hK hX) | refine xJ ?_ | (refine aF hK hX ?_; clear hK hX K) | fail)
      exact cY
  · repeat' (first | (refine aC ?_; intro K hK hX) | refine dC1 ?_ | (refine aF hK hX ?_; clear hK hX K) | fail)
    refine bA [11] [] rfl rfl (fun i : Nat => [(11, .c (iv i))]) (fun i => []) (fun i => i ≤ j0) (fun i => j0 - i) 0 (Nat.zero_le _) dL ?_
    intro i hi K hK hX
    by_cases hlt : i < j0
    · have hg := hallS i hlt
      obtain ⟨v, hat⟩ : ∃ v, ss[i]? = some v := ⟨_, List.getElem?_eq_getElem aA⟩
      have hx := eQ hat
      have hok := hss v (List.mem_of_getElem? hat)
      have hm := (hg v hat).1
      have hhas := rA ES q2 hq2 hqb2 hes v hok false ⟨fun h => dW, fun h => absurd h hm⟩
      by_cases h0 : i = 0
      · clear hg
        repeat' (first | (refine aC ?_; intro K hK hX) | refine xK ?_ | (refine aF hK hX ?_; clear hK hX K) | fail)
        exact cY
      · obtain ⟨u, hau⟩ : ∃ u, ss[i - 1]? = some u := ⟨_, List.getElem?_eq_getElem aA⟩
        have hxu := eQ hau
        rw [show i - 1 = ((i : Int) - 1).toNat from by omega] at hxu
        have huv := (hg v hat).2 u aA hau
        have hle := nI u v true ⟨fun _ => huv, fun _ => rfl⟩
        clear hg
        repeat' (first | (refine aC ?_; intro K hK hX) | refine xJ ?_ | (refine aF hK hX ?_; clear hK hX K) | fail)
        exact cY
    · obtain hij : j0 = i := by omega
      rw [hij] at hbadS hj
      obtain ⟨v, hat⟩ : ∃ v, ss[i]? = some v := ⟨_, List.getElem?_eq_getElem aA⟩
      have hx := eQ hat
      have hok := hss v (List.mem_of_getElem? hat)
      by_cases h0 : i = 0
      · have hm : v ∈ ES := Classical.byContradiction fun hm => hbadS fun v' hv' => by
          rw [hat] at hv'
          injection hv' with hv'
          subst hv'
          exact aN1
        have hhas := rA ES q2 hq2 hqb2 hes v hok true ⟨fun _ => hm, fun _ => rfl⟩
        repeat' (first | (refine aC ?_; intro K hK hX) | refine xK ?_ | (refine aF hK hX ?_; clear hK hX K) | fail)
        exact aU
      · obtain ⟨u, hau⟩ : ∃ u, ss[i - 1]? = some u := ⟨_, List.getElem?_eq_getElem aA⟩
        have hxu := eQ hau
        rw [show i - 1 = ((i : Int) - 1).toNat from by omega] at hxu
        by_cases huv : ltS u v
        · have hm : v ∈ ES := Classical.byContradiction fun hm => hbadS fun v' hv' => by
            rw [hat] at hv'
            injection hv' with hv'
            subst hv'
            refine ⟨hm, fun u' _ hu' => ?_⟩
            rw [hau] at hu'
            injection hu' with hu'
            subst hu'
            exact huv
          have hhas := rA ES q2 hq2 hqb2 hes v hok true ⟨fun _ => hm, fun _ => rfl⟩
          have hle := nI u v true ⟨fun _ => huv, fun _ => rfl⟩
          repeat' (first | (refine aC ?_; intro K hK hX) | refine xJ ?_ | (refine aF hK hX ?_; clear hK hX K) | fail)
          exact aU
        · have hle := nI u v false ⟨fun h => dW, fun h => absurd h huv⟩
          repeat' (first | (refine aC ?_; intro K hK hX) | refine dB6 ?_ | (refine aF hK hX ?_; clear hK hX K) | fail)
          exact aU
end Go.Proofs.YtbgehdndimlgkaaGreat
