/-
  Joined texts: JS. Lemmas; no statement of a law.
-/
import Derived.Test.YtccnhpaldmjkbaaGreatQ37
set_option linter.unusedSimpArgs false
set_option linter.unusedVariables false
namespace Go.Proofs.YtccnhpaldmjkbaaGreat
open Go Go.RowKit Go.Av
set_option maxRecDepth 100000
theorem rowsP_row (q : List Po) : ∀ e ∈ rowsP q, ∃ x ∈ q, x.r = e.r := by
  refine snocI (p := fun q => ∀ e ∈ rowsP q, ∃ x ∈ q, x.r = e.r) (fun e he => (by cases he)) (fun q x ih e he => ?_) q
  rw [gK] at he
  rcases pY he with h | ⟨f, h1, h2⟩
  · exact ⟨x, by simp, h.symm⟩
  · obtain ⟨y, y1, y2⟩ := ih f h1
    exact ⟨y, by simp [y1], y2.trans h2⟩
theorem ec_setn : ∀ {L : List En} {i : Nat} {e : En} (s : Int), L[i]? = some e → (ec L).set (i * 2 + 1) (iv s) = ec (L.set i ⟨e.r, s⟩)
  | [], _, _, _, h => by simp at h
  | f :: L, 0, e, s, h => by
    simp at h
    subst h
    simp [ec, En.c]
  | f :: L, i + 1, e, s, h => by
    have := ec_setn (L := L) (i := i) (e := e) s (by simpa using h)
    have hl : f.c = [.sl 3 f.r.length (rc f.r), iv f.n] := rfl
    unfold ec at this ⊢
    rw [List.set_cons_succ, List.flatMap_cons, List.flatMap_cons, ← this, hl, show (i + 1) * 2 + 1 = (i * 2 + 1) + 1 + 1 by omega]
    rfl
attribute [local irreducible] Still Adds AWL AW Drw DrwE EStep AC AWR Weak Frz Src RetK Out InK ItK AsK RdK
set_option maxHeartbeats 16000000 in
theorem rrows_ok (p : List Po) (n : Nat) (hn : p.length = n) (hm : n ≤ 100000) (hf : ∀ x ∈ p, x.r.length ≤ maxLen) (N : Nat) (hN : (rowsP p).length = N) : AC Tryz.prog 89 [.sl 3 n (pc p)] (.c (.sl 2 N (ec (rowsP p)))) [] 0 := by
  have hcl : (pc p).length = n * 3 := by rw [bQ, hn]
  obtain ⟨O, hO⟩ : ∃ O : Nat → List En, ∀ i, rowsP (p.take i) = O i := ⟨_, fun _ => rfl⟩
  obtain ⟨q, hq⟩ : ∃ q : Nat → Nat, ∀ i, (O i).length = q i := ⟨_, fun _ => rfl⟩
  have hO0 : O 0 = [] := by rw [← hO]; rfl
  have hq0 : q 0 = 0 := by rw [← hq, hO0]; rfl
  have hql : ∀ i, q i ≤ 100000 := fun i => by
    have := rowsP_len (p.take i)
    rw [hO, hq, List.length_take] at this
    omega
  have hOr : ∀ i, ∀ e ∈ O i, e.r.length ≤ maxLen := fun i e he => by
    rw [← hO] at he
    obtain ⟨x, x1, x2⟩ := rowsP_row _ e he
    rw [← x2]; exact hf x (List.mem_of_mem_take x1)
  have hOn : O n = rowsP p := by rw [← hO, List.take_of_length_le (by omega)]
  have hqn : q n = N := by rw [← hq, hOn, hN]
  have hrn : ec (O n) = ec (rowsP p) := by rw [hOn]
  generalize ec (rowsP p) = R at hrn ⊢
  clear hOn hN
  refine aJ tabOk (sz := 88) Tryz.func89 rfl (by rw [Tryz.ntmps89]; rfl) ?_
  repeat' (first | ((with_reducible refine aB ?_); intro K hK hX) | ((with_reducible refine aC ?_); refine aD [0, 2, 3, 4, 5] rfl rfl ?_) | ((with_reducible refine aF ?_); refine aG [0, 2, 3, 4, 5] rfl rfl ?_; refine aI [] ?_) | refine stA ?_ | refine stD ?_ | ((first | refine hK _ _ _ _ ?_ | refine hX _ _ _ _ _ (by simp) ?_); clear hK hX K))
  refine dK 3 68 2 rfl ?_
  refine bC [3, 4, 5] [0] rfl rfl (fun i : Nat => [(3, .own 0 0 (q i) 2 true), (4, .c (iv i))]) (fun i => [(0, .row 68 (ec (O i)))]) (fun i => i ≤ n) (fun i => n - i) 0 (Nat.zero_le _) (by (try dsimp only); rw [hO0, hq0]; exact weakA) ?_
  intro i hi K hK hX
  have hqi := hql i
  have hLl : (ec (O i)).length = q i * 2 := by rw [bH, hq]
  by_cases hlt : i < n
  · obtain ⟨x, hx⟩ : ∃ x, p[i]? = some x := ⟨_, List.getElem?_eq_getElem (by omega)⟩
    have har := pc_r hx
    have han := pc_n hx
    have hxf := hf x (List.mem_of_getElem? hx)
    have hst := zT hx
    rw [hO, hO] at hst
    have hLr := hOr i
    have hqs := hq (i + 1)
    obtain ⟨k, hk⟩ : ∃ k, idxE (O i) x.r = k := ⟨_, rfl⟩
    have hkq : k ≤ q i := by rw [← hk, ← hq]; exact idxE_le _ _
    have hjlt : ∀ j y, j < k → (O i)[j]? = some y → cmpR y.r x.r < 0 := fun j y hj hy => idxE_lt (by rw [hk]; exact hj) hy
    have hget : ∀ j, j < q i → ∃ y, (O i)[j]? = some y := fun j hj => ⟨_, List.getElem?_eq_getElem (by rw [hq]; exact hj)⟩
    have hat : ∀ y, (O i)[k]? = some y → ¬ cmpR y.r x.r < 0 := fun y hy => idxE_at (by rw [hk]; exact hy)
    have hnew : (∀ y, (O i)[k]? = some y → cmpR y.r x.r ≠ 0) → O (i + 1) = (O i).take k ++ ⟨x.r, x.n⟩ :: (O i).drop k := fun h => by rw [hst, ← hk]; exact vR _ _ (by rw [hk]; exact h)
    have hset : ∀ y, (O i)[k]? = some y → cmpR y.r x.r = 0 → O (i + 1) = (O i).set k ⟨y.r, min y.n x.n⟩ := fun y hy h0 => by rw [hst, ← hk]; exact vS (by rw [hk]; exact hy) h0
    have hLq := hq i
    clear hst hO hO0 hOr hk hx hq hq0 hqn hrn
    generalize O i = L at *
    generalize hOL : O (i + 1) = L' at *
    obtain ⟨xw, xr, xn⟩ := x
    simp only at *
    repeat' (first | ((with_reducible refine aB ?_); intro K hK hX) | ((with_reducible refine aC ?_); refine aD [0, 2, 3, 4, 5] rfl rfl ?_) | ((with_reducible refine aF ?_); refine aG [0, 2, 3, 4, 5] rfl rfl ?_; refine aI [] ?_) | refine stA ?_ | refine stD ?_ | ((first | refine hK _ _ _ _ ?_ | refine hX _ _ _ _ _ (by simp) ?_); clear hK hX K))
    refine bC [5] [] rfl rfl (fun j : Nat => [(5, .c (iv j))]) (fun j => []) (fun j => j ≤ k) (fun j => k - j) 0 (Nat.zero_le _) weakA ?_
    intro j hj K hK hX
    by_cases hjk : j < k
    · obtain ⟨y, hy⟩ := hget j (by omega)
      have hyl := hLr y (List.mem_of_getElem? hy)
      have hyr := dW hy
      have hc := fY y.r xr y.r.length xr.length rfl rfl hyl hxf
      have hcl := hjlt j y hjk hy
      have hjq : j < q i := by omega
      generalize cmpR y.r xr = c at hc hcl
      obtain ⟨yr, yn⟩ := y
      simp only at *
      clear hnew hset hat hget hjlt hy hLr
      repeat' (first | ((with_reducible refine aB ?_); intro K hK hX) | ((with_reducible refine aC ?_); refine aD [0, 2, 3, 4, 5] rfl rfl ?_) | ((with_reducible refine aF ?_); refine aG [0, 2, 3, 4, 5] rfl rfl ?_; refine aI [] ?_) | ((first | with_reducible refine aE ?_ | with_reducible refine aT ?_); (first | refine zA ?_ | refine zN ?_ | refine zD ?_); (first | refine c0 hc ?_)) | ((first | ((with_reducible refine aH ?_); refine xA ?_) | ((with_reducible refine aO ?_); refine xD ?_)); (first | ((with_reducible refine aP ?_); (first | refine aA (aR tabOk rfl rfl rfl rfl (by first | exact har | exact hyr | (rw [Nat.zero_add]; exact hyr))) ?_ | refine aA (aN tabOk rfl rfl rfl rfl (by first | exact har | exact hyr | (rw [Nat.zero_add]; exact hyr))) ?_ | refine aA (aM tabOk rfl rfl rfl (by first | exact har | exact hyr | (rw [Nat.zero_add]; exact hyr))) ?_)) | ((with_reducible refine bR ?_); (first | refine aA (s_ixV1 tabOk rfl rfl zcj rfl rfl rfl rfl rfl zle (by first | exact har | exact hyr | (rw [Nat.zero_add]; exact hyr))) ?_ | refine aA (aQ tabOk rfl rfl zcj rfl rfl (by first | exact har | exact hyr | (rw [Nat.zero_add]; exact hyr))) ?_)))) | refine stA ?_ | refine stD ?_ | ((first | refine hK _ _ _ _ ?_ | refine hX _ _ _ _ _ (by simp) ?_); clear hK hX K))
      exact ⟨j + 1, by omega, by omega, weakA⟩
    · have hje : j = k := by omega
      rw [hje]
      clear hjlt hjk hj hje
      by_cases hkl : k < q i
      · obtain ⟨y, hy⟩ := hget k hkl
        have hyl := hLr y (List.mem_of_getElem? hy)
        have hyr := dW hy
        have hyn := lB hy
        have hc := fY y.r xr y.r.length xr.length rfl rfl hyl hxf
        have hge := hat y hy
        by_cases h0 : cmpR y.r xr = 0
        · have hL' := hset y hy h0
          have hsn := ec_setn (min y.n xn) hy
          rw [← hL'] at hsn
          have hqe : q i = q (i + 1) := by rw [← hqs, hL', List.length_set, hLq]
          have hrow : AObj.row 68 ((ec L).set (0 + k * 2 + 1) (iv (min y.n xn))) = AObj.row 68 (ec (O (i + 1))) := by rw [hOL, Nat.zero_add, hsn]
          have hmin : (if xn < y.n then xn else y.n) = min y.n xn := by rw [Int.min_def]; split <;> split <;> omega
          generalize min y.n xn = mn at *
          generalize cmpR y.r xr = c at hc hge h0
          obtain ⟨yr, yn⟩ := y
          simp only at *
          clear hnew hset hat hget hy hLr hL'
          repeat' (first | ((with_reducible refine aB ?_); intro K hK hX) | ((with_reducible refine aC ?_); refine aD [0, 2, 3, 4, 5] rfl rfl ?_) | ((with_reducible refine aF ?_); refine aG [0, 2, 3, 4, 5] rfl rfl ?_; refine aI [] ?_) | ((first | with_reducible refine aE ?_ | with_reducible refine aT ?_); (first | refine zA ?_ | refine zN ?_ | refine zD ?_); (first | refine c0 hc ?_)) | ((first | ((with_reducible refine aH ?_); refine xA ?_) | ((with_reducible refine aO ?_); refine xD ?_)); (first | ((with_reducible refine rD ?_); (first | refine aA (kW rfl rfl hmin) ?_)) | ((with_reducible refine aP ?_); (first | refine aA (aR tabOk rfl rfl rfl rfl (by first | exact har | exact han | exact hyr | exact hyn | (rw [Nat.zero_add]; exact hyr) | (rw [Nat.zero_add]; exact hyn))) ?_ | refine aA (aN tabOk rfl rfl rfl rfl (by first | exact har | exact han | exact hyr | exact hyn | (rw [Nat.zero_add]; exact hyr) | (rw [Nat.zero_add]; exact hyn))) ?_ | refine aA (aM tabOk rfl rfl rfl (by first | exact har | exact han | exact hyr | exact hyn | (rw [Nat.zero_add]; exact hyr) | (rw [Nat.zero_add]; exact hyn))) ?_)) | ((with_reducible refine bR ?_); (first | refine aA (s_ixV1 tabOk rfl rfl zcj rfl rfl rfl rfl rfl zle (by first | exact har | exact han | exact hyr | exact hyn | (rw [Nat.zero_add]; exact hyr) | (rw [Nat.zero_add]; exact hyn))) ?_ | refine aA (aQ tabOk rfl rfl zcj rfl rfl (by first | exact har | exact han | exact hyr | exact hyn | (rw [Nat.zero_add]; exact hyr) | (rw [Nat.zero_add]; exact hyn))) ?_)))) | refine stA ?_ | refine stD ?_ | ((first | refine hK _ _ _ _ ?_ | refine hX _ _ _ _ _ (by simp) ?_); clear hK hX K))
          exact ⟨i + 1, by omega, by omega, (by refine bZ rfl ?_ ?_ rfl <;> (repeat' (first | exact bG | exact bM | refine aZ rfl (by first | rfl | (first | exact congrArg (fun x => AV.own 0 0 x 2 true) hqe | exact hrow) | exact zeq) rfl ?_ | refine aY rfl (by first | rfl | (first | exact congrArg (fun x => AV.own 0 0 x 2 true) hqe | exact hrow) | exact zeq) rfl ?_)))⟩
        · have hL' := hnew fun z hz => by rw [hy] at hz; injection hz with hz; rw [← hz]; exact h0
          obtain ⟨w1, w2⟩ := ins_ec L ⟨xr, xn⟩ (q i) k hLq hkq hL'
          rw [hqs] at w1
          have hrow := congrArg (fun x => AObj.row 68 (ec x)) hOL.symm
          generalize cmpR y.r xr = c at hc hge h0
          obtain ⟨yr, yn⟩ := y
          simp only [En.c] at *
          clear hnew hset hat hget hy hLr hL'
          refine fQ (mO (E := [(5, .c (iv k)), (0, .c (.sl 3 n (pc p))), (2, .c (.v (.slice none 0 0))), (3, .c (.sl 2 (q i) (ec L))), (4, .c (iv i))]) (Hp := []) (by repeat' (first | exact FzE.nil | refine FzE.cons rfl ?_ ?_ | exact iX | exact fz_ref rfl rfl | exact lZ rfl rfl zln | exact tI rfl rfl (by first | exact whole0 (by first | rfl | omega) | rfl) zln)) (by repeat' (first | exact trivial | refine ⟨rfl, ?_⟩))) ?_
          repeat' (first | ((with_reducible refine aB ?_); intro K hK hX) | ((with_reducible refine aC ?_); refine aD [0, 2, 3, 4, 5] rfl rfl ?_) | ((with_reducible refine aF (i := 10) ?_); refine aG [0, 2, 3, 4, 5] rfl rfl ?_; refine cJ [] ?_) | ((with_reducible refine aF ?_); refine aG [0, 2, 3, 4, 5] rfl rfl ?_; refine aI [] ?_) | ((first | with_reducible refine aE ?_ | with_reducible refine aT ?_ | with_reducible refine bW ?_); (first | refine zA ?_ | refine zN ?_ | refine zD ?_ | refine zE ?_); (first | refine c0 hc ?_)) | ((first | ((with_reducible refine aH ?_); refine xA ?_) | ((with_reducible refine aO ?_); refine xD ?_) | ((with_reducible refine cN ?_); refine xE ?_)); (first | ((with_reducible refine aP ?_); (first | refine aA (aR tabOk rfl rfl rfl rfl (by first | exact har | exact han | exact hyr | exact hyn | (rw [Nat.zero_add]; exact hyr) | (rw [Nat.zero_add]; exact hyn))) ?_ | refine aA (aN tabOk rfl rfl rfl rfl (by first | exact har | exact han | exact hyr | exact hyn | (rw [Nat.zero_add]; exact hyr) | (rw [Nat.zero_add]; exact hyn))) ?_ | refine aA (aM tabOk rfl rfl rfl (by first | exact har | exact han | exact hyr | exact hyn | (rw [Nat.zero_add]; exact hyr) | (rw [Nat.zero_add]; exact hyn))) ?_)) | ((with_reducible refine bR ?_); (first | refine aA (s_ixV1 tabOk rfl rfl zcj rfl rfl rfl rfl rfl zle (by first | exact har | exact han | exact hyr | exact hyn | (rw [Nat.zero_add]; exact hyr) | (rw [Nat.zero_add]; exact hyn))) ?_ | refine aA (aQ tabOk rfl rfl zcj rfl rfl (by first | exact har | exact han | exact hyr | exact hyn | (rw [Nat.zero_add]; exact hyr) | (rw [Nat.zero_add]; exact hyn))) ?_)))) | refine stA ?_ | refine stD ?_ | refine stE ?_ | ((first | refine hK _ _ _ _ ?_ | refine hX _ _ _ _ _ (by simp) ?_); clear hK hX K))
          exact ⟨i + 1, by omega, by omega, (by refine bS [5] rfl rfl ?_ ?_ rfl rfl <;> (repeat' (first | exact bI | exact bJ | refine bF rfl (by first | rfl | (first | exact congrArg (fun x => AV.own 0 0 x 2 true) w1 | exact (congrArg (AObj.row 68) w2).trans hrow) | exact zeq) rfl ?_ | refine bB rfl (by first | rfl | (first | exact congrArg (fun x => AV.own 0 0 x 2 true) w1 | exact (congrArg (AObj.row 68) w2).trans hrow) | exact zeq) rfl ?_)))⟩
      · have hL' := hnew fun z hz => by have := (List.getElem?_eq_some_iff.1 hz).1; omega
        obtain ⟨w1, w2⟩ := ins_ec L ⟨xr, xn⟩ (q i) k hLq hkq hL'
        rw [hqs] at w1
        have hrow := congrArg (fun x => AObj.row 68 (ec x)) hOL.symm
        simp only [En.c] at *
        clear hnew hset hat hget hLr hL'
        refine fQ (mO (E := [(5, .c (iv k)), (0, .c (.sl 3 n (pc p))), (2, .c (.v (.slice none 0 0))), (3, .c (.sl 2 (q i) (ec L))), (4, .c (iv i))]) (Hp := []) (by repeat' (first | exact FzE.nil | refine FzE.cons rfl ?_ ?_ | exact iX | exact fz_ref rfl rfl | exact lZ rfl rfl zln | exact tI rfl rfl (by first | exact whole0 (by first | rfl | omega) | rfl) zln)) (by repeat' (first | exact trivial | refine ⟨rfl, ?_⟩))) ?_
        repeat' (first | ((with_reducible refine aB ?_); intro K hK hX) | ((with_reducible refine aC ?_); refine aD [0, 2, 3, 4, 5] rfl rfl ?_) | ((with_reducible refine aF (i := 10) ?_); refine aG [0, 2, 3, 4, 5] rfl rfl ?_; refine cJ [] ?_) | ((with_reducible refine aF ?_); refine aG [0, 2, 3, 4, 5] rfl rfl ?_; refine aI [] ?_) | ((first | ((with_reducible refine aH ?_); refine xA ?_) | ((with_reducible refine aO ?_); refine xD ?_) | ((with_reducible refine cN ?_); refine xE ?_)); (first | ((with_reducible refine aP ?_); (first | refine aA (aR tabOk rfl rfl rfl rfl (by first | exact har | exact han)) ?_ | refine aA (aN tabOk rfl rfl rfl rfl (by first | exact har | exact han)) ?_ | refine aA (aM tabOk rfl rfl rfl (by first | exact har | exact han)) ?_)) | ((with_reducible refine bR ?_); (first | refine aA (s_ixV1 tabOk rfl rfl zcj rfl rfl rfl rfl rfl zle (by first | exact har | exact han)) ?_ | refine aA (aQ tabOk rfl rfl zcj rfl rfl (by first | exact har | exact han)) ?_)))) | refine stA ?_ | refine stD ?_ | refine stE ?_ | ((first | refine hK _ _ _ _ ?_ | refine hX _ _ _ _ _ (by simp) ?_); clear hK hX K))
        exact ⟨i + 1, by omega, by omega, (by refine bS [5] rfl rfl ?_ ?_ rfl rfl <;> (repeat' (first | exact bI | exact bJ | refine bF rfl (by first | rfl | (first | exact congrArg (fun x => AV.own 0 0 x 2 true) w1 | exact (congrArg (AObj.row 68) w2).trans hrow) | exact zeq) rfl ?_ | refine bB rfl (by first | rfl | (first | exact congrArg (fun x => AV.own 0 0 x 2 true) w1 | exact (congrArg (AObj.row 68) w2).trans hrow) | exact zeq) rfl ?_)))⟩
  · have hie : i = n := by omega
    rw [hie] at hLl ⊢
    clear hO hq hq0 hO0 hOr
    repeat' (first | ((with_reducible refine aB ?_); intro K hK hX) | ((with_reducible refine aC ?_); refine aD [0, 2, 3, 4, 5] rfl rfl ?_) | ((with_reducible refine aF ?_); refine aG [0, 2, 3, 4, 5] rfl rfl ?_; refine aI [] ?_) | refine stA ?_ | refine stD ?_ | ((first | refine hK _ _ _ _ ?_ | refine hX _ _ _ _ _ (by simp) ?_); clear hK hX K))
    refine aK zio ztr rfl (ResL.one (ResA.tmp rfl)) (cE (bO (cD rfl rfl hLl) (dA hqn hrn)))
end Go.Proofs.YtccnhpaldmjkbaaGreat
