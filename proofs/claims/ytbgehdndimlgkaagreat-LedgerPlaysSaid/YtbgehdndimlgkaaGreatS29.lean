/- Lemmas for laws of the ledger. -/
import Derived.Test.YtbgehdndimlgkaaGreatS28
set_option linter.all false
namespace Go.Proofs.YtbgehdndimlgkaaGreat
open Go Go.RowKit Go.Av
set_option maxRecDepth 100000
attribute [local irreducible] Still Adds AWL AW Drw bX bY AC AWR cU Frz Go.Av.Src cQ Out InK ItK AsK RdK eP eI ACT ACA eW ACG fL AWS lec
set_option maxHeartbeats 32000000 in
theorem eH4 (n : Nat) (C cs : D1) (k day plan step rk : Int) (vs : List Ver) (ss : List Src) (nv ns : Nat) (hF : FoC n C cs k day plan step rk vs ss nv ns) (op : Bool) (k2 : k = 2) (EV : List Ver) (q1 : Nat) (hq1 : EV.length = q1) (hqb1 : q1 <= 1000000) (hev : ∀ x ∈ EV, oG x) (hvs : ∀ x ∈ vs, oG x) (her : qC' 48 [.sl 65 n C] (.c (.sl 3 q1 (vrc EV))) [] 0) (j0 : Nat) (hj : j0 < nv) (hbadV : ¬ kZ ltV EV vs j0) (hallV : ∀ q, q < j0 -> kZ ltV EV vs q) (cs' : D1) : qW' 223 foR (cQ Tryz.prog tab Tryz.f27.results.toList (.c (bv false)) [] 0) 2 [(0, .c (.sl 65 n C)), (3, .ref 0 0), (4, .c (bv false)), (7, .c (bv op))] [(1, .row 49 cs'), (0, .row 49 cs)] [] := by
  obtain ⟨hn, hC, hl, hnv, hns, hb1, hb2, hc0, hc1, hc2, hc3, hc4, hc31, hc32⟩ := hF
  unfold foR
  conv in fM _ => whnf
  have hvl : (vrc vs).length = nv * 3 := by rw [dC, hnv]
  have hsl : (src ss).length = ns * 2 := by rw [dV, hns]
  repeat' (first | (refine aC ?_; intro K hK hX) | refine cE4 ?_ | (refine aG hK hX ?_; clear hK hX K) | fail)
  refine bH [9] [] rfl rfl (fun i : Nat => [(9, .c (iv i))]) (fun i => []) (fun i => i <= j0) (fun i => j0 - i) 0 (Am _) dF ?_
  intro i hi K hK hX
  by_cases hlt : i < j0
  · have hg := hallV i hlt
    obtain ⟨v, hat⟩ : ∃ v, vs[i]? = some v := ⟨_, Ab aA⟩
    have hx := eG hat
    have hok := hvs v (Af hat)
    have hm := (hg v hat).1
    have hhas := rO EV q1 hq1 hqb1 hev v hok false ⟨fun h => eS, fun h => absurd h hm⟩
    by_cases h0 : i = 0
    · clear hg
      repeat' (first | (refine aC ?_; intro K hK hX) | refine zP ?_ | (refine aG hK hX ?_; clear hK hX K) | fail)
      exact dS
    · obtain ⟨u, hau⟩ : ∃ u, vs[i - 1]? = some u := ⟨_, Ab aA⟩
      have hxu := eG hau
      rw [show i - 1 = ((i : Int) - 1).toNat from by omega] at hxu
      have huv := (hg v hat).2 u aA hau
      have hle := kQ u v true ⟨fun _ => huv, fun _ => rfl⟩
      clear hg
      repeat' (first | (refine aC ?_; intro K hK hX) | refine zO ?_ | (refine aG hK hX ?_; clear hK hX K) | fail)
      exact dS
  · obtain hij : j0 = i := by omega
    rw [hij] at hbadV hj
    obtain ⟨v, hat⟩ : ∃ v, vs[i]? = some v := ⟨_, Ab aA⟩
    have hx := eG hat
    have hok := hvs v (Af hat)
    by_cases h0 : i = 0
    · have hm : v ∈ EV := Bb fun hm => hbadV fun v' hv' => by
        rw [hat] at hv'
        injection hv' with hv'
        subst hv'
        exact aU8
      have hhas := rO EV q1 hq1 hqb1 hev v hok true ⟨fun _ => hm, fun _ => rfl⟩
      repeat' (first | (refine aC ?_; intro K hK hX) | refine zP ?_ | (refine aG hK hX ?_; clear hK hX K) | fail)
      exact aY
    · obtain ⟨u, hau⟩ : ∃ u, vs[i - 1]? = some u := ⟨_, Ab aA⟩
      have hxu := eG hau
      rw [show i - 1 = ((i : Int) - 1).toNat from by omega] at hxu
      by_cases huv : ltV u v
      · have hm : v ∈ EV := Bb fun hm => hbadV fun v' hv' => by
          rw [hat] at hv'
          injection hv' with hv'
          subst hv'
          refine ⟨hm, fun u' _ hu' => ?_⟩
          rw [hau] at hu'
          injection hu' with hu'
          subst hu'
          exact huv
        have hhas := rO EV q1 hq1 hqb1 hev v hok true ⟨fun _ => hm, fun _ => rfl⟩
        have hle := kQ u v true ⟨fun _ => huv, fun _ => rfl⟩
        repeat' (first | (refine aC ?_; intro K hK hX) | refine zO ?_ | (refine aG hK hX ?_; clear hK hX K) | fail)
        exact aY
      · have hle := kQ u v false ⟨fun h => eS, fun h => absurd h huv⟩
        repeat' (first | (refine aC ?_; intro K hK hX) | refine dN4 ?_ | (refine aG hK hX ?_; clear hK hX K) | fail)
        exact aY
end Go.Proofs.YtbgehdndimlgkaaGreat
