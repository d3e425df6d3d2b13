/-
  Joined texts: I2 I4. Lemmas; no statement of a law.
-/
import Derived.Test.YtccnhpaldmjkbaaGreatQ20
set_option maxHeartbeats 16000000
set_option linter.unusedSimpArgs false
set_option linter.unusedVariables false
namespace Go.Proofs.YtccnhpaldmjkbaaGreat
open Go Go.RowKit Go.Av Go.Sort
set_option maxRecDepth 100000
theorem nqT {p : Prop} [Decidable p] (h : p) : (!decide p) = false := by simp [h]
theorem nqF {p : Prop} [Decidable p] (h : ¬ p) : (!decide p) = true := by simp [h]
theorem wZ (l : List Wd) (n : Nat) (hn : l.length = n) (hb : n ≤ 1000000) : ACS Tryz.prog 112 9 1 n (strc l) [] (strc (sortW l)) (.tup []) :=
  acs_sort encStr (fun _ => rfl) l (sortW l) n hn (by rw [dN, hn]) fun blk cap w hH hb' => by
    have h := Go.Proofs.AnyM.slices_Sort_string Tryz.srtW blk 0 cap l w hH hb' (by omega)
    rw [hn] at h
    exact h
theorem sortS_none : AC Tryz.prog 112 [.sl 1 0 []] (.tup []) [] 0 := by
  intro ok w vs hvs
  simp only [RepCs, RepC] at hvs
  obtain ⟨u, us', rfl, ⟨A, c, us, rfl, _⟩, rfl⟩ := hvs
  have h := Go.Proofs.AnyM.slices_Sort_string_none Tryz.srtW A c w
  refine h.mono ?_
  rintro e w' ⟨rfl, rfl⟩
  exact ⟨_, fun _ => none, rfl, ⟨FrB.refl _ _, fun id o hid _ => absurd hid (by simp [lt]), fun id id' o o' g h1 => absurd h1 (by simp [lt]), fun id o g hid => absurd hid (by simp [lt])⟩, [], rfl, rfl⟩
attribute [local irreducible] Still Adds AWL AW Drw DrwE EStep AC AWR Weak Frz Src RetK Out InK ItK AsK RdK RetT OutT ACT ACS RetS ACP RetP
theorem nS (l : List Wd) (n : Nat) (hn : l.length = n) (h0 : 0 < n) (hnn : n ≤ 1000000) : ACP Tryz.prog 113 9 1 n [] (strc l) [] (strc (compW l n)) (compW l n).length := by
  have hil : (strc l).length = n := by rw [bU, hn]
  by_cases n1 : n = 1
  · have hc : compW l n = l := by
      subst n1
      have e : compW l 1 = [l.getD 0 []] := by rw [compW, if_neg (by omega)]; rfl
      rw [e]
      match l, hn with
      | [x], _ => rfl
    rw [hc, hn]
    subst n1
    refine rF tabOk (sz := 61) Tryz.func113 rfl (by rw [Tryz.ntmps113]; rfl) (h0) ?_
    repeat' (first | ((with_reducible refine aB ?_); intro K hK hX) | ((with_reducible refine aC ?_); refine aD [0, 2, 3, 4, 5] rfl rfl ?_) | ((with_reducible refine aF ?_); refine aG [0, 2, 3, 4, 5] rfl rfl ?_; refine aI [] ?_) | refine stA ?_ | refine stD ?_ | ((first | refine hK _ _ _ _ ?_ | refine hX _ _ _ _ _ (by simp) ?_); clear hK hX K))
    refine tP zio ztr rfl rfl rfl rfl (List.take_of_length_le (by omega)) (ResL.one (ResA.tmp rfl))
  · refine rF tabOk (sz := 61) Tryz.func113 rfl (by rw [Tryz.ntmps113]; rfl) (h0) ?_
    repeat' (first | ((with_reducible refine aB ?_); intro K hK hX) | ((with_reducible refine aC ?_); refine aD [0, 2, 3, 4, 5] rfl rfl ?_) | ((with_reducible refine aF ?_); refine aG [0, 2, 3, 4, 5] rfl rfl ?_; refine aI [] ?_) | refine stA ?_ | refine stD ?_ | ((first | refine hK _ _ _ _ ?_ | refine hX _ _ _ _ _ (by simp) ?_); clear hK hX K))
    have e1 : compW l 1 = [l.getD 0 []] := by rw [compW, if_neg (by omega)]; rfl
    have r1 : rowW l 1 = l := (sH (m := 0) (by omega) rfl (by omega) rfl).2
    refine bC [3, 4, 5] [0] rfl rfl (fun k : Nat => [(3, .c (iv k))]) (fun k => [(0, .row 9 (strc l))]) (fun k => 1 ≤ k ∧ k ≤ n ∧ (compW l k).length = k ∧ rowW l k = l) (fun k => n - k) 1 ⟨Nat.le_refl _, by omega, by rw [e1]; rfl, r1⟩ weakA ?_
    rintro k ⟨hk1, hk, hkl, hkr⟩ K hK hX
    (try dsimp only at *)
    by_cases hlt : k < n
    · have a1 := eF (jI (l := l) (i := k) (by omega))
      have a0 := eF (jI (l := l) (i := k - 1) (by omega))
      by_cases heq : l.getD k [] = l.getD (k - 1) []
      · obtain ⟨s1, s2⟩ := sJ (l := l) (m := k) (by omega) heq
        generalize l.getD k [] = x1 at *
        generalize l.getD (k - 1) [] = x0 at *
        repeat' (first | ((with_reducible refine aB ?_); intro K hK hX) | ((with_reducible refine aC ?_); refine aD [0, 2, 3, 4, 5] rfl rfl ?_) | ((with_reducible refine aF ?_); refine aG [0, 2, 3, 4, 5] rfl rfl ?_; refine aI [] ?_) | ((first | ((with_reducible refine aH ?_); refine xA ?_) | ((with_reducible refine aO ?_); refine xD ?_)); (first | ((with_reducible refine aU ?_); (first | refine aA (cC rfl rfl (decide_eq_true heq)) ?_)) | ((with_reducible refine aP ?_); (first | refine aA (aR tabOk rfl rfl rfl rfl (by first | (rw [Nat.zero_add, Nat.mul_one]; exact a1) | (rw [Nat.zero_add, Nat.mul_one]; exact a0))) ?_ | refine aA (aN tabOk rfl rfl rfl rfl (by first | (rw [Nat.zero_add, Nat.mul_one]; exact a1) | (rw [Nat.zero_add, Nat.mul_one]; exact a0))) ?_ | refine aA (aM tabOk rfl rfl rfl (by first | (rw [Nat.zero_add, Nat.mul_one]; exact a1) | (rw [Nat.zero_add, Nat.mul_one]; exact a0))) ?_)) | ((with_reducible refine bR ?_); (first | refine aA (s_ixV1 tabOk rfl rfl zcj rfl rfl rfl rfl rfl zle (by first | (rw [Nat.zero_add, Nat.mul_one]; exact a1) | (rw [Nat.zero_add, Nat.mul_one]; exact a0))) ?_ | refine aA (aQ tabOk rfl rfl zcj rfl rfl (by first | (rw [Nat.zero_add, Nat.mul_one]; exact a1) | (rw [Nat.zero_add, Nat.mul_one]; exact a0))) ?_)))) | refine stA ?_ | refine stD ?_ | ((first | refine hK _ _ _ _ ?_ | refine hX _ _ _ _ _ (by simp) ?_); clear hK hX K))
        refine bC [3, 5] [0] rfl rfl (fun m : Nat => [(3, .c (iv (compW l m).length)), (5, .c (iv (m - k : Nat)))]) (fun m => [(0, .row 9 (strc (rowW l m)))]) (fun m => k + 1 ≤ m ∧ m ≤ n ∧ (compW l m).length < m) (fun m => n - m) (k + 1) ⟨Nat.le_refl _, by omega, by rw [s1, hkl]; omega⟩ (by refine bZ rfl ?_ ?_ rfl <;> (repeat' (first | exact bG | exact bM | refine aZ rfl (by first | rfl | (first | rw [s1, hkl] | rw [s2, hkr]) | exact zeq) rfl ?_ | refine aY rfl (by first | rfl | (first | rw [s1, hkl] | rw [s2, hkr]) | exact zeq) rfl ?_))) ?_
        rintro m ⟨hm1, hm, hml⟩ K hK hX
        (try dsimp only at *)
        clear a1 a0 s1 s2 hkl hkr heq e1 r1
        have hrl := wP (l := l) (m := m) (by omega)
        have hri : (strc (rowW l m)).length = n := by rw [bU, hrl, hn]
        by_cases hlt2 : m < n
        · have b1 := eF (jI (l := rowW l m) (i := m) (by omega))
          have b0 := eF (jI (l := rowW l m) (i := m - 1) (by omega))
          rw [rowW_at (by omega) (by omega) (by omega)] at b1 b0
          by_cases heq2 : l.getD m [] = l.getD (m - 1) []
          · obtain ⟨t1, t2⟩ := sJ (l := l) (m := m) (by omega) heq2
            rw [← t2] at b1 b0 hri
            generalize l.getD m [] = y1 at *
            generalize l.getD (m - 1) [] = y0 at *
            rw [← t1] at hml
            rw [← t1, ← t2]
            repeat' (first | ((with_reducible refine aB ?_); intro K hK hX) | ((with_reducible refine aC ?_); refine aD [0, 2, 3, 4, 5] rfl rfl ?_) | ((with_reducible refine aF ?_); refine aG [0, 2, 3, 4, 5] rfl rfl ?_; refine aI [] ?_) | ((first | ((with_reducible refine aH ?_); refine xA ?_) | ((with_reducible refine aO ?_); refine xD ?_)); (first | ((with_reducible refine aU ?_); (first | refine aA (tV rfl rfl (nqT heq2)) ?_)) | ((with_reducible refine aP ?_); (first | refine aA (aR tabOk rfl rfl rfl rfl (by first | (refine eS b1 ?_; omega) | (refine eS b0 ?_; omega))) ?_ | refine aA (aN tabOk rfl rfl rfl rfl (by first | (refine eS b1 ?_; omega) | (refine eS b0 ?_; omega))) ?_ | refine aA (aM tabOk rfl rfl rfl (by first | (refine eS b1 ?_; omega) | (refine eS b0 ?_; omega))) ?_)) | ((with_reducible refine bR ?_); (first | refine aA (s_ixV1 tabOk rfl rfl zcj rfl rfl rfl rfl rfl zle (by first | (refine eS b1 ?_; omega) | (refine eS b0 ?_; omega))) ?_ | refine aA (aQ tabOk rfl rfl zcj rfl rfl (by first | (refine eS b1 ?_; omega) | (refine eS b0 ?_; omega))) ?_)))) | refine stA ?_ | refine stD ?_ | ((first | refine hK _ _ _ _ ?_ | refine hX _ _ _ _ _ (by simp) ?_); clear hK hX K))
            exact ⟨m + 1, ⟨by omega, by omega, by omega⟩, by omega, weakA⟩
          · obtain ⟨t1, t2⟩ := sI (l := l) (m := m) (by omega) (fun h => heq2 h.2)
            generalize l.getD m [] = y1 at *
            generalize l.getD (m - 1) [] = y0 at *
            obtain ⟨c, hc⟩ : ∃ c, (compW l m).length = c := ⟨_, rfl⟩
            rw [hc] at t1 t2 hml ⊢
            have hset : (strc (rowW l m)).set (0 + c * 1) (sv y1) = strc (rowW l (m + 1)) := by rw [Nat.zero_add, Nat.mul_one, t2, strc_set]
            repeat' (first | ((with_reducible refine aB ?_); intro K hK hX) | ((with_reducible refine aC ?_); refine aD [0, 2, 3, 4, 5] rfl rfl ?_) | ((with_reducible refine aF ?_); refine aG [0, 2, 3, 4, 5] rfl rfl ?_; refine aI [] ?_) | ((first | ((with_reducible refine aH ?_); refine xA ?_) | ((with_reducible refine aO ?_); refine xD ?_)); (first | ((with_reducible refine aU ?_); (first | refine aA (tV rfl rfl (nqF heq2)) ?_)) | ((with_reducible refine aP ?_); (first | refine aA (aR tabOk rfl rfl rfl rfl (by first | (refine eS b1 ?_; omega) | (refine eS b0 ?_; omega))) ?_ | refine aA (aN tabOk rfl rfl rfl rfl (by first | (refine eS b1 ?_; omega) | (refine eS b0 ?_; omega))) ?_ | refine aA (aM tabOk rfl rfl rfl (by first | (refine eS b1 ?_; omega) | (refine eS b0 ?_; omega))) ?_)) | ((with_reducible refine bR ?_); (first | refine aA (s_ixV1 tabOk rfl rfl zcj rfl rfl rfl rfl rfl zle (by first | (refine eS b1 ?_; omega) | (refine eS b0 ?_; omega))) ?_ | refine aA (aQ tabOk rfl rfl zcj rfl rfl (by first | (refine eS b1 ?_; omega) | (refine eS b0 ?_; omega))) ?_)))) | ((with_reducible refine cS ?_); (refine eT tabOk aL rfl rfl rfl rfl rfl rfl (by first | omega | exact Nat.le_of_ble_eq_true rfl | omega | (simp <;> omega)) ?_)) | refine stA ?_ | refine stD ?_ | ((first | refine hK _ _ _ _ ?_ | refine hX _ _ _ _ _ (by simp) ?_); clear hK hX K))
            exact ⟨m + 1, ⟨by omega, by omega, by omega⟩, by omega, (by refine bZ rfl ?_ ?_ rfl <;> (repeat' (first | exact bG | exact bM | refine aZ rfl (by first | rfl | (exact congrArg (AObj.row 9) hset) | exact zeq) rfl ?_ | refine aY rfl (by first | rfl | (exact congrArg (AObj.row 9) hset) | exact zeq) rfl ?_)))⟩
        · have hmn : m = n := by omega
          rw [hmn] at hri hml ⊢
          have htk := rowW_take (l := l) (m := n)
          repeat' (first | ((with_reducible refine aB ?_); intro K hK hX) | ((with_reducible refine aC ?_); refine aD [0, 2, 3, 4, 5] rfl rfl ?_) | ((with_reducible refine aF ?_); refine aG [0, 2, 3, 4, 5] rfl rfl ?_; refine aI [] ?_) | ((with_reducible refine gZ ?_); refine awl_clear tabOk aL rfl rfl rfl rfl rfl rfl rfl (by omega) (by first | omega | (simp only [bU]; omega)) ?_) | refine stA ?_ | refine stD ?_ | ((first | refine hK _ _ _ _ ?_ | refine hX _ _ _ _ _ (by simp) ?_); clear hK hX K))
          refine tP zio ztr rfl rfl rfl rfl (by rw [Nat.zero_add, List.take_take, Nat.min_self, Nat.mul_one, ← strc_take, htk]) (ResL.one (ResA.tmp rfl))
      · obtain ⟨s1, s2⟩ := sH (l := l) (m := k) (by omega) hkl (fun h => heq h.2) hkr
        clear hkl hkr e1 r1
        generalize l.getD k [] = x1 at *
        generalize l.getD (k - 1) [] = x0 at *
        repeat' (first | ((with_reducible refine aB ?_); intro K hK hX) | ((with_reducible refine aC ?_); refine aD [0, 2, 3, 4, 5] rfl rfl ?_) | ((with_reducible refine aF ?_); refine aG [0, 2, 3, 4, 5] rfl rfl ?_; refine aI [] ?_) | ((first | ((with_reducible refine aH ?_); refine xA ?_) | ((with_reducible refine aO ?_); refine xD ?_)); (first | ((with_reducible refine aU ?_); (first | refine aA (cC rfl rfl (decide_eq_false heq)) ?_)) | ((with_reducible refine aP ?_); (first | refine aA (aR tabOk rfl rfl rfl rfl (by first | (rw [Nat.zero_add, Nat.mul_one]; exact a1) | (rw [Nat.zero_add, Nat.mul_one]; exact a0))) ?_ | refine aA (aN tabOk rfl rfl rfl rfl (by first | (rw [Nat.zero_add, Nat.mul_one]; exact a1) | (rw [Nat.zero_add, Nat.mul_one]; exact a0))) ?_ | refine aA (aM tabOk rfl rfl rfl (by first | (rw [Nat.zero_add, Nat.mul_one]; exact a1) | (rw [Nat.zero_add, Nat.mul_one]; exact a0))) ?_)) | ((with_reducible refine bR ?_); (first | refine aA (s_ixV1 tabOk rfl rfl zcj rfl rfl rfl rfl rfl zle (by first | (rw [Nat.zero_add, Nat.mul_one]; exact a1) | (rw [Nat.zero_add, Nat.mul_one]; exact a0))) ?_ | refine aA (aQ tabOk rfl rfl zcj rfl rfl (by first | (rw [Nat.zero_add, Nat.mul_one]; exact a1) | (rw [Nat.zero_add, Nat.mul_one]; exact a0))) ?_)))) | refine stA ?_ | refine stD ?_ | ((first | refine hK _ _ _ _ ?_ | refine hX _ _ _ _ _ (by simp) ?_); clear hK hX K))
        exact ⟨k + 1, ⟨by omega, by omega, s1, s2⟩, by omega, weakA⟩
    · have hkn : k = n := by omega
      rw [hkn] at hkl hkr
      have hcl : compW l n = l := by
        unfold rowW at hkr
        rw [List.drop_eq_nil_of_le (by omega), List.append_nil] at hkr
        exact hkr
      clear hkl hkr e1 r1
      repeat' (first | ((with_reducible refine aB ?_); intro K hK hX) | ((with_reducible refine aC ?_); refine aD [0, 2, 3, 4, 5] rfl rfl ?_) | ((with_reducible refine aF ?_); refine aG [0, 2, 3, 4, 5] rfl rfl ?_; refine aI [] ?_) | refine stA ?_ | refine stD ?_ | ((first | refine hK _ _ _ _ ?_ | refine hX _ _ _ _ _ (by simp) ?_); clear hK hX K))
      rw [hcl, hn]
      refine tP zio ztr rfl rfl rfl rfl (List.take_of_length_le (by omega)) (ResL.one (ResA.tmp rfl))
end Go.Proofs.YtccnhpaldmjkbaaGreat
namespace Go.Proofs.YtccnhpaldmjkbaaGreat
open Go Go.RowKit Go.Av
set_option maxRecDepth 100000
theorem lU : Idle Tryz.prog 109 0 := by
  intro us w hl
  obtain ⟨_, rfl⟩ : ∃ _ : Unit, us = [] := by
    match us, hl with | [], _ => exact ⟨(), rfl⟩
  refine callsD_of_wpS Tryz.func109 rfl fun c₀ cs hu => ?_
  apply wpS_region
  simp [wpOpsS, go_sem, recoverD, hu, Tryz.ntmps109, Exit.thenS]
  cases c₀
  simp_all [bodyPostS, results, Tryz.results109]
theorem jE : Body Tryz.prog 109 := by unfold Body; kernel_rfl
theorem flc_sl0 {s : Nat} : Flc (.sl s 0 []) := by
  intro ok w u hu ok' w'
  simp only [RepC, RepCs] at hu ⊢
  obtain ⟨A, c, us, rfl, h1, h2, h3, rfl, h4, h5⟩ := hu
  exact ⟨A, c, [], rfl, h1, h2, h3, rfl, h4, fun h => absurd h (by omega)⟩
theorem flr_sl0 {s : Nat} : FlR (.c (.sl s 0 [])) := FlR.c flc_sl0
attribute [local irreducible] Still Adds AWL AW Drw DrwE EStep AC AWR Weak Frz Src RetK Out InK ItK AsK RdK RetT OutT ACT ACS RetS ACP RetP
theorem yO : AC Tryz.prog 113 [.sl 1 0 []] (.c (.sl 1 0 [])) [] 0 := by
  refine aJ tabOk (sz := 61) Tryz.func113 rfl (by rw [Tryz.ntmps113]; rfl) ?_
  repeat' (first | ((with_reducible refine aB ?_); intro K hK hX) | ((with_reducible refine aC ?_); refine aD [0, 2, 3, 4, 5] rfl rfl ?_) | ((with_reducible refine aF ?_); refine aG [0, 2, 3, 4, 5] rfl rfl ?_; refine aI [] ?_) | refine stA ?_ | refine stD ?_ | ((first | refine hK _ _ _ _ ?_ | refine hX _ _ _ _ _ (by simp) ?_); clear hK hX K))
  refine aK zio ztr rfl (ResL.one (ResA.tmp rfl)) zou
theorem wsp_eq (l : Wd) (n : Nat) (h : (rawW l).length = n) : compW (sortW (rawW l)) n = wordsP l := by unfold wordsP setW; rw [h]
theorem u8_app {w : Wd} {b : UInt8} {x : Int} (h : (b.toNat : Int) = x) : u8c w ++ [.v (.int .u8 x)] = u8c (w ++ [b]) := by subst h; simp [u8c]
theorem sS (l : List Wd) (w : Wd) : strc l ++ [sv w] = strc (l ++ [w]) := by simp [strc]
theorem xW (l : Wd) (hl : l.length ≤ 1000000) : AC Tryz.prog 53 [sv l] (.c (.sl 1 (wordsP l).length (strc (wordsP l)))) [] 0 := by
  obtain ⟨N, hN⟩ : ∃ N, l.length = N := ⟨_, rfl⟩
  have hbl : (u8c l).length = N := by rw [cZ, hN]
  rw [hN] at hl
  obtain ⟨S, hS⟩ : ∃ S : Nat → List Wd × Wd, ∀ i, S i = runW (l.take i) := ⟨_, fun _ => rfl⟩
  obtain ⟨p, hp⟩ : ∃ p : Nat → Nat, ∀ i, (S i).1.length = p i := ⟨_, fun _ => rfl⟩
  obtain ⟨q, hq⟩ : ∃ q : Nat → Nat, ∀ i, (S i).2.length = q i := ⟨_, fun _ => rfl⟩
  have hpq : ∀ i, i ≤ N → p i + q i ≤ N ∧ ∀ w ∈ (S i).1, w.length ≤ N := fun i hi => by
    obtain ⟨k1, k2, k3⟩ := qM (l.take i)
    rw [List.length_take, hN, ← hS, hp, hq] at k1
    exact ⟨by omega, fun w hw => by rw [hS] at hw; have := (k2 w hw).1; rw [List.length_take, hN] at this; omega⟩
  have hS0 : S 0 = ([], []) := hS 0
  have hp0 : 0 = p 0 := by rw [← hp, hS0]; rfl
  have hq0 : 0 = q 0 := by rw [← hq, hS0]; rfl
  have hr0 : ([] : List CV) = strc (S 0).1 := by rw [hS0]; rfl
  have hw0 : ([] : List CV) = u8c (S 0).2 := by rw [hS0]; rfl
  obtain ⟨W, hW⟩ : ∃ W, wordsP l = W := ⟨_, rfl⟩
  rw [hW]
  have hSn : rawW l = (S N).1 ++ flW (S N).2 := by rw [hS, List.take_of_length_le (by omega)]; rfl
  refine aJ tabOk (sz := 45) Tryz.func53 rfl (by rw [Tryz.ntmps53]; rfl) ?_
  repeat' (first | ((with_reducible refine aB ?_); intro K hK hX) | ((with_reducible refine aC ?_); refine aD [0, 2, 3, 4, 5, 7, 10, 11, 12] rfl rfl ?_) | ((with_reducible refine cK ?_); (refine wA ?_); (first | refine eL (bK (cM tabOk rfl rfl rfl rfl rfl) zln) ?_ | refine eL (bK (cU tabOk rfl rfl rfl rfl rfl rfl rfl rfl rfl rfl rfl rfl (cI rfl) (by first | rfl | exact all1 (by assumption) | (simp <;> fail) | fail) (by rfl)) zln) ?_)) | refine stA ?_ | ((first | refine hK _ _ _ _ ?_ | refine hX _ _ _ _ _ (by simp) ?_); clear hK hX K))
  refine pF 0 0 9 1 rfl rfl rfl rfl ?_
  refine pF 1 0 5 1 rfl rfl rfl rfl ?_
  refine bC [7, 9, 12] [0, 1, 2, 3] rfl rfl (fun i : Nat => [(12, .c (iv i))]) (fun i => [(0, .blk 59 [.own 2 0 (p i) 1 true]), (1, .blk 119 [.own 3 0 (q i) 1 true]), (2, .row 9 (strc (S i).1)), (3, .row 5 (u8c (S i).2))]) (fun i => i ≤ N) (fun i => N - i) 0 (by omega) (by refine bZ rfl ?_ ?_ rfl <;> (repeat' (first | exact bG | exact bM | refine aZ rfl (by first | rfl | (first | exact congrArg (fun x => AObj.blk 59 [AV.own 2 0 x 1 true]) hp0 | exact congrArg (fun x => AObj.blk 119 [AV.own 3 0 x 1 true]) hq0 | exact congrArg (AObj.row 9) hr0 | exact congrArg (AObj.row 5) hw0) | exact zeq) rfl ?_ | refine aY rfl (by first | rfl | (first | exact congrArg (fun x => AObj.blk 59 [AV.own 2 0 x 1 true]) hp0 | exact congrArg (fun x => AObj.blk 119 [AV.own 3 0 x 1 true]) hq0 | exact congrArg (AObj.row 9) hr0 | exact congrArg (AObj.row 5) hw0) | exact zeq) rfl ?_))) ?_
  intro i hi K hK hX
  have hA : (strc (S i).1).length = p i := by rw [bU, hp]
  have hB : (u8c (S i).2).length = q i := by rw [cZ, hq]
  obtain ⟨hpi, hwi⟩ := hpq i hi
  by_cases hlt : i < N
  · obtain ⟨b, hb⟩ : ∃ b, l[i]? = some b := ⟨l[i]'(by omega), List.getElem?_eq_getElem _⟩
    have hbu := u8c_get hb
    have hst : S (i + 1) = stW (S i) b := by rw [hS, hS]; exact sK hb
    have hp1 := hp (i + 1)
    have hq1 := hq (i + 1)
    have hbl2 := b.toNat_lt
    rw [hst] at hp1 hq1
    by_cases hu : upB b = true
    · rw [stW_up hu] at hst hp1 hq1
      have hu2 := of_decide_eq_true hu
      have hpe : p i = p (i + 1) := by rw [← hp1, ← hp]
      have hqe : q i + 1 = q (i + 1) := by rw [← hq1, ← hq, List.length_append]; rfl
      have hrow : u8c (S i).2 ++ [.v (.int .u8 ((b.toNat : Int) - 65 + 97))] = u8c (S (i + 1)).2 := by
        rw [hst]
        exact u8_app (by have := add32 hu; omega)
      have hr1 : strc (S i).1 = strc (S (i + 1)).1 := by rw [hst]
      have h65 := hu2.1
      have h90 := hu2.2
      clear hp hq hpq hS hS0 hp0 hq0 hr0 hw0 hSn hW
      generalize b.toNat = x at *
      repeat' (first | ((with_reducible refine aB ?_); intro K hK hX) | ((with_reducible refine aC ?_); refine aD [0, 2, 3, 4, 5, 7, 10, 11, 12] rfl rfl ?_) | (((with_reducible refine aH ?_); refine xA ?_); (first | ((with_reducible refine aP ?_); (first | refine aA (aR tabOk rfl rfl rfl rfl (by (rw [Nat.mul_one]; exact hbu))) ?_ | refine aA (aN tabOk rfl rfl rfl rfl (by (rw [Nat.mul_one]; exact hbu))) ?_ | refine aA (aM tabOk rfl rfl rfl (by (rw [Nat.mul_one]; exact hbu))) ?_)) | ((with_reducible refine bR ?_); (first | refine aA (s_ixV1 tabOk rfl rfl zcj rfl rfl rfl rfl rfl zle (by (rw [Nat.mul_one]; exact hbu))) ?_ | refine aA (aQ tabOk rfl rfl zcj rfl rfl (by (rw [Nat.mul_one]; exact hbu))) ?_)))) | refine stA ?_ | ((first | refine hK _ _ _ _ ?_ | refine hX _ _ _ _ _ (by simp) ?_); clear hK hX K))
      exact ⟨i + 1, by omega, by omega, (by refine bS [0, 1, 2, 5] rfl rfl ?_ ?_ rfl rfl <;> (repeat' (first | exact bI | exact bJ | refine bF rfl (by first | rfl | (first | exact congrArg (fun x => AObj.blk 59 [AV.own 2 0 x 1 true]) hpe | exact congrArg (fun x => AObj.blk 119 [AV.own 5 0 x 1 true]) hqe | exact congrArg (AObj.row 9) hr1 | exact congrArg (AObj.row 5) hrow) | exact zeq) rfl ?_ | refine bB rfl (by first | rfl | (first | exact congrArg (fun x => AObj.blk 59 [AV.own 2 0 x 1 true]) hpe | exact congrArg (fun x => AObj.blk 119 [AV.own 5 0 x 1 true]) hqe | exact congrArg (AObj.row 9) hr1 | exact congrArg (AObj.row 5) hrow) | exact zeq) rfl ?_)))⟩
    · have hu : upB b = false := by simpa using hu
      have hu2 := of_decide_eq_false hu
      have hlo := vW b
      by_cases hw : lowL b = true
      · rw [oV hu hw] at hst hp1 hq1
        rw [hw] at hlo
        have hpe : p i = p (i + 1) := by rw [← hp1, ← hp]
        have hqe : q i + 1 = q (i + 1) := by rw [← hq1, ← hq, List.length_append]; rfl
        have hrow : u8c (S i).2 ++ [.v (.int .u8 (b.toNat : Int))] = u8c (S (i + 1)).2 := by
          rw [hst]
          exact u8_app rfl
        have hr1 : strc (S i).1 = strc (S (i + 1)).1 := by rw [hst]
        clear hp hq hpq hS hS0 hp0 hq0 hr0 hw0 hSn hW
        unfold ub at hlo
        generalize b.toNat = x at *
        by_cases hx : 65 ≤ x
        · have hx2 : ¬ x ≤ 90 := by omega
          repeat' (first | ((with_reducible refine aB ?_); intro K hK hX) | ((with_reducible refine aC ?_); refine aD [0, 2, 3, 4, 5, 7, 10, 11, 12] rfl rfl ?_) | ((with_reducible refine aE ?_); (first | refine zA ?_ | refine zN ?_); (first | refine c0 hlo ?_)) | (((with_reducible refine aH ?_); refine xA ?_); (first | ((with_reducible refine aP ?_); (first | refine aA (aR tabOk rfl rfl rfl rfl (by (rw [Nat.mul_one]; exact hbu))) ?_ | refine aA (aN tabOk rfl rfl rfl rfl (by (rw [Nat.mul_one]; exact hbu))) ?_ | refine aA (aM tabOk rfl rfl rfl (by (rw [Nat.mul_one]; exact hbu))) ?_)) | ((with_reducible refine bR ?_); (first | refine aA (s_ixV1 tabOk rfl rfl zcj rfl rfl rfl rfl rfl zle (by (rw [Nat.mul_one]; exact hbu))) ?_ | refine aA (aQ tabOk rfl rfl zcj rfl rfl (by (rw [Nat.mul_one]; exact hbu))) ?_)))) | refine stA ?_ | ((first | refine hK _ _ _ _ ?_ | refine hX _ _ _ _ _ (by simp) ?_); clear hK hX K))
          exact ⟨i + 1, by omega, by omega, (by refine bS [0, 1, 2, 5] rfl rfl ?_ ?_ rfl rfl <;> (repeat' (first | exact bI | exact bJ | refine bF rfl (by first | rfl | (first | exact congrArg (fun x => AObj.blk 59 [AV.own 2 0 x 1 true]) hpe | exact congrArg (fun x => AObj.blk 119 [AV.own 5 0 x 1 true]) hqe | exact congrArg (AObj.row 9) hr1 | exact congrArg (AObj.row 5) hrow) | exact zeq) rfl ?_ | refine bB rfl (by first | rfl | (first | exact congrArg (fun x => AObj.blk 59 [AV.own 2 0 x 1 true]) hpe | exact congrArg (fun x => AObj.blk 119 [AV.own 5 0 x 1 true]) hqe | exact congrArg (AObj.row 9) hr1 | exact congrArg (AObj.row 5) hrow) | exact zeq) rfl ?_)))⟩
        · repeat' (first | ((with_reducible refine aB ?_); intro K hK hX) | ((with_reducible refine aC ?_); refine aD [0, 2, 3, 4, 5, 7, 10, 11, 12] rfl rfl ?_) | ((with_reducible refine aE ?_); (first | refine zA ?_ | refine zN ?_); (first | refine c0 hlo ?_)) | (((with_reducible refine aH ?_); refine xA ?_); (first | ((with_reducible refine aP ?_); (first | refine aA (aR tabOk rfl rfl rfl rfl (by (rw [Nat.mul_one]; exact hbu))) ?_ | refine aA (aN tabOk rfl rfl rfl rfl (by (rw [Nat.mul_one]; exact hbu))) ?_ | refine aA (aM tabOk rfl rfl rfl (by (rw [Nat.mul_one]; exact hbu))) ?_)) | ((with_reducible refine bR ?_); (first | refine aA (s_ixV1 tabOk rfl rfl zcj rfl rfl rfl rfl rfl zle (by (rw [Nat.mul_one]; exact hbu))) ?_ | refine aA (aQ tabOk rfl rfl zcj rfl rfl (by (rw [Nat.mul_one]; exact hbu))) ?_)))) | refine stA ?_ | ((first | refine hK _ _ _ _ ?_ | refine hX _ _ _ _ _ (by simp) ?_); clear hK hX K))
          exact ⟨i + 1, by omega, by omega, (by refine bS [0, 1, 2, 5] rfl rfl ?_ ?_ rfl rfl <;> (repeat' (first | exact bI | exact bJ | refine bF rfl (by first | rfl | (first | exact congrArg (fun x => AObj.blk 59 [AV.own 2 0 x 1 true]) hpe | exact congrArg (fun x => AObj.blk 119 [AV.own 5 0 x 1 true]) hqe | exact congrArg (AObj.row 9) hr1 | exact congrArg (AObj.row 5) hrow) | exact zeq) rfl ?_ | refine bB rfl (by first | rfl | (first | exact congrArg (fun x => AObj.blk 59 [AV.own 2 0 x 1 true]) hpe | exact congrArg (fun x => AObj.blk 119 [AV.own 5 0 x 1 true]) hqe | exact congrArg (AObj.row 9) hr1 | exact congrArg (AObj.row 5) hrow) | exact zeq) rfl ?_)))⟩
      · have hw : lowL b = false := by simpa using hw
        rw [uG hu hw] at hst hp1 hq1
        rw [hw] at hlo
        have hqe : 0 = q (i + 1) := hq1
        have hro : ([] : List CV) = u8c (S (i + 1)).2 := by rw [hst]; rfl
        by_cases h0 : q i = 0
        · have hn : (S i).2 = [] := List.eq_nil_of_length_eq_zero (by rw [hq, h0])
          have hpe : p i = p (i + 1) := by rw [← hp1, ← hp, hn, kM, List.append_nil]
          have hr1 : strc (S i).1 = strc (S (i + 1)).1 := by rw [hst, hn, kM, List.append_nil]
          have hqe : q i = q (i + 1) := by rw [← hqe, h0]
          have hro : u8c (S i).2 = u8c (S (i + 1)).2 := by rw [← hro, hn]; rfl
          clear hp hq hpq hS hS0 hp0 hq0 hr0 hw0 hSn hW
          unfold ub at hlo
          generalize b.toNat = x at *
          by_cases hx : 65 ≤ x
          · have hx2 : ¬ x ≤ 90 := by omega
            repeat' (first | ((with_reducible refine aB ?_); intro K hK hX) | ((with_reducible refine aC ?_); refine aD [0, 1, 2, 3, 4, 5, 7, 10, 11, 12] rfl rfl ?_) | ((with_reducible refine aE ?_); (first | refine zA ?_ | refine zN ?_); (first | refine c0 hlo ?_)) | ((first | with_reducible refine aE ?_ | with_reducible refine cO ?_); refine dR tabOk [0, 1, 2, 3, 4, 5, 6, 7, 8, 9, 10, 11, 12, 13, 14, 15, 16, 17, 18, 19, 20, 21, 22, 23, 24, 25, 26, 27, 28, 29, 30, 31, 32, 33, 34, 35, 36, 37, 38, 39, 40, 41, 42, 43, 44] aL rfl rfl zby Tryz.func110 rfl rfl rfl (szf := 12) (by rw [Tryz.ntmps110]; rfl) rfl ?_) | (((with_reducible refine aH ?_); refine xA ?_); (first | ((with_reducible refine aP ?_); (first | refine aA (aR tabOk rfl rfl rfl rfl (by (rw [Nat.mul_one]; exact hbu))) ?_ | refine aA (aN tabOk rfl rfl rfl rfl (by (rw [Nat.mul_one]; exact hbu))) ?_ | refine aA (aM tabOk rfl rfl rfl (by (rw [Nat.mul_one]; exact hbu))) ?_)) | ((with_reducible refine bR ?_); (first | refine aA (s_ixV1 tabOk rfl rfl zcj rfl rfl rfl rfl rfl zle (by (rw [Nat.mul_one]; exact hbu))) ?_ | refine aA (aQ tabOk rfl rfl zcj rfl rfl (by (rw [Nat.mul_one]; exact hbu))) ?_)))) | refine stA ?_ | ((first | refine hK _ _ _ _ ?_ | refine hX _ _ _ _ _ (by simp) ?_); clear hK hX K) | (first | refine dC zio ztr rfl rfl ResL.none ?_ | refine dB zio ztr rfl rfl ResL.none ?_))
            exact ⟨i + 1, by omega, by omega, (by refine bZ rfl ?_ ?_ rfl <;> (repeat' (first | exact bG | exact bM | refine aZ rfl (by first | rfl | (first | exact congrArg (fun x => AObj.blk 59 [AV.own 2 0 x 1 true]) hpe | exact congrArg (fun x => AObj.blk 119 [AV.own 3 0 x 1 true]) hqe | exact congrArg (AObj.row 9) hr1 | exact congrArg (AObj.row 5) hro) | exact zeq) rfl ?_ | refine aY rfl (by first | rfl | (first | exact congrArg (fun x => AObj.blk 59 [AV.own 2 0 x 1 true]) hpe | exact congrArg (fun x => AObj.blk 119 [AV.own 3 0 x 1 true]) hqe | exact congrArg (AObj.row 9) hr1 | exact congrArg (AObj.row 5) hro) | exact zeq) rfl ?_)))⟩
          · repeat' (first | ((with_reducible refine aB ?_); intro K hK hX) | ((with_reducible refine aC ?_); refine aD [0, 1, 2, 3, 4, 5, 7, 10, 11, 12] rfl rfl ?_) | ((with_reducible refine aE ?_); (first | refine zA ?_ | refine zN ?_); (first | refine c0 hlo ?_)) | ((first | with_reducible refine aE ?_ | with_reducible refine cO ?_); refine dR tabOk [0, 1, 2, 3, 4, 5, 6, 7, 8, 9, 10, 11, 12, 13, 14, 15, 16, 17, 18, 19, 20, 21, 22, 23, 24, 25, 26, 27, 28, 29, 30, 31, 32, 33, 34, 35, 36, 37, 38, 39, 40, 41, 42, 43, 44] aL rfl rfl zby Tryz.func110 rfl rfl rfl (szf := 12) (by rw [Tryz.ntmps110]; rfl) rfl ?_) | (((with_reducible refine aH ?_); refine xA ?_); (first | ((with_reducible refine aP ?_); (first | refine aA (aR tabOk rfl rfl rfl rfl (by (rw [Nat.mul_one]; exact hbu))) ?_ | refine aA (aN tabOk rfl rfl rfl rfl (by (rw [Nat.mul_one]; exact hbu))) ?_ | refine aA (aM tabOk rfl rfl rfl (by (rw [Nat.mul_one]; exact hbu))) ?_)) | ((with_reducible refine bR ?_); (first | refine aA (s_ixV1 tabOk rfl rfl zcj rfl rfl rfl rfl rfl zle (by (rw [Nat.mul_one]; exact hbu))) ?_ | refine aA (aQ tabOk rfl rfl zcj rfl rfl (by (rw [Nat.mul_one]; exact hbu))) ?_)))) | refine stA ?_ | ((first | refine hK _ _ _ _ ?_ | refine hX _ _ _ _ _ (by simp) ?_); clear hK hX K) | (first | refine dC zio ztr rfl rfl ResL.none ?_ | refine dB zio ztr rfl rfl ResL.none ?_))
            exact ⟨i + 1, by omega, by omega, (by refine bZ rfl ?_ ?_ rfl <;> (repeat' (first | exact bG | exact bM | refine aZ rfl (by first | rfl | (first | exact congrArg (fun x => AObj.blk 59 [AV.own 2 0 x 1 true]) hpe | exact congrArg (fun x => AObj.blk 119 [AV.own 3 0 x 1 true]) hqe | exact congrArg (AObj.row 9) hr1 | exact congrArg (AObj.row 5) hro) | exact zeq) rfl ?_ | refine aY rfl (by first | rfl | (first | exact congrArg (fun x => AObj.blk 59 [AV.own 2 0 x 1 true]) hpe | exact congrArg (fun x => AObj.blk 119 [AV.own 3 0 x 1 true]) hqe | exact congrArg (AObj.row 9) hr1 | exact congrArg (AObj.row 5) hro) | exact zeq) rfl ?_)))⟩
        · have hn : (S i).2 ≠ [] := fun h => h0 (by rw [← hq, h]; rfl)
          have hpe : p i + 1 = p (i + 1) := by rw [← hp1, ← hp, nB hn, List.length_append]; rfl
          have hr1 : strc (S i).1 ++ [sv (S i).2] = strc (S (i + 1)).1 := by rw [hst, nB hn]; exact sS _ _
          clear hp hq hpq hS hS0 hp0 hq0 hr0 hw0 hSn hW
          unfold ub at hlo
          generalize b.toNat = x at *
          by_cases hx : 65 ≤ x
          · have hx2 : ¬ x ≤ 90 := by omega
            repeat' (first | ((with_reducible refine aB ?_); intro K hK hX) | ((with_reducible refine aC ?_); refine aD [0, 1, 2, 3, 4, 5, 7, 10, 11, 12] rfl rfl ?_) | ((with_reducible refine aE ?_); (first | refine zA ?_ | refine zN ?_); (first | refine c0 hlo ?_)) | ((first | with_reducible refine aE ?_ | with_reducible refine cO ?_); refine dR tabOk [0, 1, 2, 3, 4, 5, 6, 7, 8, 9, 10, 11, 12, 13, 14, 15, 16, 17, 18, 19, 20, 21, 22, 23, 24, 25, 26, 27, 28, 29, 30, 31, 32, 33, 34, 35, 36, 37, 38, 39, 40, 41, 42, 43, 44] aL rfl rfl zby Tryz.func110 rfl rfl rfl (szf := 12) (by rw [Tryz.ntmps110]; rfl) rfl ?_) | (((with_reducible refine aH ?_); refine xA ?_); (first | ((with_reducible refine aP ?_); (first | refine aA (aR tabOk rfl rfl rfl rfl (by (rw [Nat.mul_one]; exact hbu))) ?_ | refine aA (aN tabOk rfl rfl rfl rfl (by (rw [Nat.mul_one]; exact hbu))) ?_ | refine aA (aM tabOk rfl rfl rfl (by (rw [Nat.mul_one]; exact hbu))) ?_)) | ((with_reducible refine bR ?_); (first | refine aA (s_ixV1 tabOk rfl rfl zcj rfl rfl rfl rfl rfl zle (by (rw [Nat.mul_one]; exact hbu))) ?_ | refine aA (aQ tabOk rfl rfl zcj rfl rfl (by (rw [Nat.mul_one]; exact hbu))) ?_)))) | refine stA ?_ | ((first | refine hK _ _ _ _ ?_ | refine hX _ _ _ _ _ (by simp) ?_); clear hK hX K) | (first | refine dC zio ztr rfl rfl ResL.none ?_ | refine dB zio ztr rfl rfl ResL.none ?_))
            exact ⟨i + 1, by omega, by omega, eR (xQ (id := 3) (cs' := []) 0 rfl rfl) (by refine bS [0, 1, 5, 3] rfl rfl ?_ ?_ rfl rfl <;> (repeat' (first | exact bI | exact bJ | refine bF rfl (by first | rfl | (first | exact congrArg (fun x => AObj.blk 59 [AV.own 5 0 x 1 true]) hpe | exact congrArg (fun x => AObj.blk 119 [AV.own 3 0 x 1 true]) hqe | exact congrArg (AObj.row 9) hr1 | exact congrArg (AObj.row 5) hro) | exact zeq) rfl ?_ | refine bB rfl (by first | rfl | (first | exact congrArg (fun x => AObj.blk 59 [AV.own 5 0 x 1 true]) hpe | exact congrArg (fun x => AObj.blk 119 [AV.own 3 0 x 1 true]) hqe | exact congrArg (AObj.row 9) hr1 | exact congrArg (AObj.row 5) hro) | exact zeq) rfl ?_)))⟩
          · repeat' (first | ((with_reducible refine aB ?_); intro K hK hX) | ((with_reducible refine aC ?_); refine aD [0, 1, 2, 3, 4, 5, 7, 10, 11, 12] rfl rfl ?_) | ((with_reducible refine aE ?_); (first | refine zA ?_ | refine zN ?_); (first | refine c0 hlo ?_)) | ((first | with_reducible refine aE ?_ | with_reducible refine cO ?_); refine dR tabOk [0, 1, 2, 3, 4, 5, 6, 7, 8, 9, 10, 11, 12, 13, 14, 15, 16, 17, 18, 19, 20, 21, 22, 23, 24, 25, 26, 27, 28, 29, 30, 31, 32, 33, 34, 35, 36, 37, 38, 39, 40, 41, 42, 43, 44] aL rfl rfl zby Tryz.func110 rfl rfl rfl (szf := 12) (by rw [Tryz.ntmps110]; rfl) rfl ?_) | (((with_reducible refine aH ?_); refine xA ?_); (first | ((with_reducible refine aP ?_); (first | refine aA (aR tabOk rfl rfl rfl rfl (by (rw [Nat.mul_one]; exact hbu))) ?_ | refine aA (aN tabOk rfl rfl rfl rfl (by (rw [Nat.mul_one]; exact hbu))) ?_ | refine aA (aM tabOk rfl rfl rfl (by (rw [Nat.mul_one]; exact hbu))) ?_)) | ((with_reducible refine bR ?_); (first | refine aA (s_ixV1 tabOk rfl rfl zcj rfl rfl rfl rfl rfl zle (by (rw [Nat.mul_one]; exact hbu))) ?_ | refine aA (aQ tabOk rfl rfl zcj rfl rfl (by (rw [Nat.mul_one]; exact hbu))) ?_)))) | refine stA ?_ | ((first | refine hK _ _ _ _ ?_ | refine hX _ _ _ _ _ (by simp) ?_); clear hK hX K) | (first | refine dC zio ztr rfl rfl ResL.none ?_ | refine dB zio ztr rfl rfl ResL.none ?_))
            exact ⟨i + 1, by omega, by omega, eR (xQ (id := 3) (cs' := []) 0 rfl rfl) (by refine bS [0, 1, 5, 3] rfl rfl ?_ ?_ rfl rfl <;> (repeat' (first | exact bI | exact bJ | refine bF rfl (by first | rfl | (first | exact congrArg (fun x => AObj.blk 59 [AV.own 5 0 x 1 true]) hpe | exact congrArg (fun x => AObj.blk 119 [AV.own 3 0 x 1 true]) hqe | exact congrArg (AObj.row 9) hr1 | exact congrArg (AObj.row 5) hro) | exact zeq) rfl ?_ | refine bB rfl (by first | rfl | (first | exact congrArg (fun x => AObj.blk 59 [AV.own 5 0 x 1 true]) hpe | exact congrArg (fun x => AObj.blk 119 [AV.own 3 0 x 1 true]) hqe | exact congrArg (AObj.row 9) hr1 | exact congrArg (AObj.row 5) hro) | exact zeq) rfl ?_)))⟩
  · have hin : i = N := by omega
    rw [hin] at hA hB hwi hpi ⊢
    clear hr0 hw0 hp0 hq0 hpq hS0
    by_cases h0 : q N = 0
    · have hn : (S N).2 = [] := List.eq_nil_of_length_eq_zero (by rw [hq, h0])
      have hraw : rawW l = (S N).1 := by rw [hSn, hn, kM, List.append_nil]
      by_cases hz : p N = 0
      · have hn1 : (S N).1 = [] := List.eq_nil_of_length_eq_zero (by rw [hp, hz])
        have hw : W = [] := by rw [← hW]; unfold wordsP setW; rw [hraw, hn1]; rfl
        have hw1 : 0 = W.length := by rw [hw]; rfl
        have hw2 : [] = strc W := by rw [hw]; rfl
        have hrow : strc (S N).1 = [] := by rw [hn1]; rfl
        have hfl := flr_sl0 (s := 1)
        (try dsimp only)
        have hB0 : u8c (S N).2 = [] := by rw [hn]; rfl
        simp only [hz, hrow, h0]
        rw [hrow] at hA
        clear hS hp hq hSn
        repeat' (first | ((with_reducible refine aB ?_); intro K hK hX) | ((with_reducible refine aC ?_); refine aD [0, 1, 2, 3, 4, 5, 7, 10, 11, 12] rfl rfl ?_) | ((with_reducible refine aE ?_); (first | refine wA ?_ | refine wN ?_); (first | refine cF sortS_none ?_ | refine cF yO ?_)) | ((first | with_reducible refine aE ?_ | with_reducible refine cO ?_); refine dR tabOk [0, 1, 2, 3, 4, 5, 6, 7, 8, 9, 10, 11, 12, 13, 14, 15, 16, 17, 18, 19, 20, 21, 22, 23, 24, 25, 26, 27, 28, 29, 30, 31, 32, 33, 34, 35, 36, 37, 38, 39, 40, 41, 42, 43, 44] aL rfl rfl zby Tryz.func110 rfl rfl rfl (szf := 12) (by rw [Tryz.ntmps110]; rfl) rfl ?_) | refine stA ?_ | ((first | refine hK _ _ _ _ ?_ | refine hX _ _ _ _ _ (by simp) ?_); clear hK hX K) | (first | refine dC zio ztr rfl rfl ResL.none ?_ | refine dB zio ztr rfl rfl ResL.none ?_))
        refine aK zio (by exact ⟨lU, jE, trivial⟩) rfl (ResL.one (ResA.tmp rfl)) (cE (bO (bY bL) (dA hw1 hw2)))
      · have hlen : (rawW l).length = p N := by rw [hraw, hp]
        have h1 := wZ (S N).1 (p N) (hp N) (by omega)
        have h2 := nS (sortW (S N).1) (p N) (by rw [dN, hp]) (by omega) (by omega)
        have hw := wsp_eq l (p N) hlen
        rw [hraw] at hw
        rw [hw, hW] at h2
        have hcl : (strc W).length = W.length := bU _
        have hcs : (strc (sortW (S N).1)).length = p N := by rw [bU, dN, hp]
        have hpos : 0 < p N := by omega
        rw [h0]
        rw [h0] at hB
        clear hS hp hq hSn hw hraw hlen
        repeat' (first | ((with_reducible refine aB ?_); intro K hK hX) | ((with_reducible refine aC ?_); refine aD [0, 1, 2, 3, 4, 5, 7, 10, 11, 12] rfl rfl ?_) | ((with_reducible refine aE ?_); refine rJ (h1) aL rfl zby (hpos) rfl rfl (rfl) rfl zcv ?_) | ((with_reducible refine aE ?_); refine rI (h2) aL rfl zby (hpos) rfl rfl (rfl) rfl zcv ?_) | ((first | with_reducible refine aE ?_ | with_reducible refine cO ?_); refine dR tabOk [0, 1, 2, 3, 4, 5, 6, 7, 8, 9, 10, 11, 12, 13, 14, 15, 16, 17, 18, 19, 20, 21, 22, 23, 24, 25, 26, 27, 28, 29, 30, 31, 32, 33, 34, 35, 36, 37, 38, 39, 40, 41, 42, 43, 44] aL rfl rfl zby Tryz.func110 rfl rfl rfl (szf := 12) (by rw [Tryz.ntmps110]; rfl) rfl ?_) | refine stA ?_ | ((first | refine hK _ _ _ _ ?_ | refine hX _ _ _ _ _ (by simp) ?_); clear hK hX K) | (first | refine dC zio ztr rfl rfl ResL.none ?_ | refine dB zio ztr rfl rfl ResL.none ?_))
        refine aK zio (by exact ⟨lU, jE, trivial⟩) rfl (ResL.one (ResA.tmp rfl)) zou
    · have hn : (S N).2 ≠ [] := fun h => h0 (by rw [← hq, h]; rfl)
      have hraw : rawW l = (S N).1 ++ [(S N).2] := by rw [hSn, nB hn]
      obtain ⟨F, hF⟩ : ∃ F, (S N).1 ++ [(S N).2] = F := ⟨_, rfl⟩
      have hFl : F.length = p N + 1 := by rw [← hF, List.length_append, hp]; rfl
      have hro : strc (S N).1 ++ [sv (S N).2] = strc F := by rw [← hF]; exact sS _ _
      have h1 := wZ F (p N + 1) hFl (by omega)
      have h2 := nS (sortW F) (p N + 1) (by rw [dN, hFl]) (by omega) (by omega)
      have hw := wsp_eq l (p N + 1) (by rw [hraw, hF, hFl])
      rw [hraw, hF] at hw
      rw [hw, hW] at h2
      have hcl : (strc W).length = W.length := bU _
      have hcs : (strc (sortW F)).length = p N + 1 := by rw [bU, dN, hFl]
      have hpos : 0 < p N + 1 := by omega
      clear hS hp hq hSn hw hraw hF
      repeat' (first | ((with_reducible refine aB ?_); intro K hK hX) | ((with_reducible refine aC ?_); refine aD [0, 1, 2, 3, 4, 5, 7, 10, 11, 12] rfl rfl ?_) | ((with_reducible refine aE ?_); refine rJ (h1) aL rfl zby (hpos) rfl rfl (hro) rfl zcv ?_) | ((with_reducible refine aE ?_); refine rI (h2) aL rfl zby (hpos) rfl rfl (rfl) rfl zcv ?_) | ((first | with_reducible refine aE ?_ | with_reducible refine cO ?_); refine dR tabOk [0, 1, 2, 3, 4, 5, 6, 7, 8, 9, 10, 11, 12, 13, 14, 15, 16, 17, 18, 19, 20, 21, 22, 23, 24, 25, 26, 27, 28, 29, 30, 31, 32, 33, 34, 35, 36, 37, 38, 39, 40, 41, 42, 43, 44] aL rfl rfl zby Tryz.func110 rfl rfl rfl (szf := 12) (by rw [Tryz.ntmps110]; rfl) rfl ?_) | refine stA ?_ | ((first | refine hK _ _ _ _ ?_ | refine hX _ _ _ _ _ (by simp) ?_); clear hK hX K) | (first | refine dC zio ztr rfl rfl ResL.none ?_ | refine dB zio ztr rfl rfl ResL.none ?_))
      refine aK zio (by exact ⟨lU, jE, trivial⟩) rfl (ResL.one (ResA.tmp rfl)) zou
end Go.Proofs.YtccnhpaldmjkbaaGreat
