/-
  Joined texts: H7 H8 H9 H10 H11. Lemmas; no statement of a law.
-/
import Derived.Laws.Cover3
import Derived.Test.YtccnhpaldmjkbaaM1
import Derived.Test.YtccnhpaldmjkbaaM2
import Derived.Test.YtccnhpaldmjkbaaM3
import Derived.Test.YtccnhpaldmjkbaaM4
import Derived.Test.YtccnhpaldmjkbaaM5
/-
  The order of rows, and valid bags (walk), as the program has them.
-/
set_option linter.unusedVariables false
set_option linter.unusedSimpArgs false
namespace Go.Proofs.Ytccnhpaldmjkbaa
open Go Go.RowKit Go.Av
set_option maxRecDepth 100000
theorem cmpR_step {r s : List Vl} {i : Nat} {a b : Vl} (ha : r[i]? = some a) (hb : s[i]? = some b) : cmpR (r.drop i) (s.drop i) = if cmpV (clV a) (clV b) ≠ 0 then cmpV (clV a) (clV b) else cmpR (r.drop (i + 1)) (s.drop (i + 1)) := by
  obtain ⟨h1, h2⟩ := List.getElem?_eq_some_iff.1 ha
  obtain ⟨h3, h4⟩ := List.getElem?_eq_some_iff.1 hb
  rw [List.drop_eq_getElem_cons h1, List.drop_eq_getElem_cons h3, h2, h4, cmpR]
theorem cmpR_end {r s : List Vl} {n m i : Nat} (hn : r.length = n) (hm : s.length = m) (hi : i = min n m) : cmpR (r.drop i) (s.drop i) = cmpZ n m := by
  unfold cmpZ
  have e1 : n ≤ i → r.drop i = [] := fun h => List.drop_eq_nil_of_le (by omega)
  have e2 : m ≤ i → s.drop i = [] := fun h => List.drop_eq_nil_of_le (by omega)
  by_cases c1 : n < m
  · rw [e1 (by omega), List.drop_eq_getElem_cons (l := s) (i := i) (by omega), cmpR, if_pos (by omega)]
  · by_cases c2 : m < n
    · rw [e2 (by omega), List.drop_eq_getElem_cons (l := r) (i := i) (by omega), cmpR, if_neg (by omega), if_pos (by omega)]
    · rw [e2 (by omega), e1 (by omega), cmpR, if_neg (by omega), if_neg (by omega)]
def goodAt (b : List En) (i : Nat) : Prop := ∀ e, b[i]? = some e → entP e ∧ e.n ≠ 0 ∧ ∀ f, 0 < i → b[i - 1]? = some f → cmpR f.r e.r < 0
def bagP (b : List En) : Prop := b.length ≤ 4096 ∧ ∀ i, i < b.length → goodAt b i
def posP (b : List En) : Prop := bagP b ∧ ∀ e ∈ b, 0 ≤ e.n
def fitB (b : List En) : Prop := ∀ e ∈ b, e.r.length ≤ maxLen
theorem ec_row {b : List En} {i : Nat} {e : En} (h : b[i]? = some e) : (ec b)[i * 2]? = some (.sl 3 e.r.length (rc e.r)) := by
  have := ec_at h
  have h2 : (((ec b).drop (i * 2)).take 2)[0]? = some (.sl 3 e.r.length (rc e.r)) := by rw [this]; rfl
  rw [List.getElem?_take_of_lt (by omega), List.getElem?_drop] at h2
  exact h2
theorem ec_n {b : List En} {i : Nat} {e : En} (h : b[i]? = some e) : (ec b)[i * 2 + 1]? = some (iv e.n) := by
  have := ec_at h
  have h2 : (((ec b).drop (i * 2)).take 2)[1]? = some (iv e.n) := by rw [this]; rfl
  rw [List.getElem?_take_of_lt (by omega), List.getElem?_drop] at h2
  exact h2
theorem first_bad {p : Nat → Prop} {n : Nat} (h : ¬ ∀ i, i < n → p i) : ∃ q, q < n ∧ ¬ p q ∧ ∀ i, i < q → p i := by
  have h' : ∃ j, j < n ∧ ¬ p j := Classical.byContradiction fun hh => h fun i hi => Classical.byContradiction fun hp => hh ⟨i, hi, hp⟩
  obtain ⟨j, ⟨h1, h2⟩, h3⟩ := exists_min (fun j => j < n ∧ ¬ p j) h'
  exact ⟨j, h1, h2, fun i hi => Classical.byContradiction fun hp => by have := h3 i ⟨by omega, hp⟩; omega⟩
attribute [local irreducible] Still Adds AWL AW Drw DrwE EStep AC AWR Weak Frz Src RetK Out InK ItK AsK RdK
set_option maxHeartbeats 4000000 in
theorem rcmp_ok (r s : List Vl) (n m : Nat) (hn : r.length = n) (hm : s.length = m) (hn2 : n ≤ maxLen) (hm2 : m ≤ maxLen) : AC Try.prog 105 [.sl 3 n (rc r), .sl 3 m (rc s)] (.c (iv (cmpR r s))) [] 0 := by
  have hrl : (rc r).length = n * 3 := by rw [rc_length, hn]
  have hsl : (rc s).length = m * 3 := by rw [rc_length, hm]
  have hml : n ≤ 9223372036854775807 := hn2
  have hml2 : m ≤ 9223372036854775807 := hm2
  clear hn2 hm2
  obtain ⟨k, hk⟩ : ∃ k, min n m = k := ⟨_, rfl⟩
  have hc := cmpi_ok n m
  rw [← cmpR_end hn hm hk.symm] at hc
  have hkm : (if (m : Int) < (n : Int) then (m : Int) else (n : Int)) = (k : Int) := by split <;> omega
  generalize hz : cmpR r s = z
  refine ac_enter tabOk (sz := 33) Try.func105 rfl (by rw [Try.ntmps105]; rfl) ?_
  repeat' (first
    | ((with_reducible refine aw_seqk ?_); intro K hK hX)
    | ((with_reducible refine isC_reg ?_); refine aw_prune [0, 1, 4, 5, 6, 11, 12] rfl rfl ?_; with_reducible refine aw_region ?_)
    | ((with_reducible refine isC_draw ?_); refine aw_prune [0, 1, 4, 5, 6, 11, 12] rfl rfl ?_; refine aw_drwF [] ?_)
    | ((first | ((with_reducible refine isA_any ?_); refine xA ?_) | ((with_reducible refine isDk_any ?_); refine xD ?_)); (first | ((with_reducible refine e_bi ?_); (first | refine ex_i (s_min rfl rfl hkm) ?_))))
    | refine stA ?_
    | refine stD ?_
    | (refine hK _ _ _ _ ?_; clear hK hX K)
    | (refine hX _ _ _ _ _ (by simp) ?_; clear hK hX K))
  refine aw_loopo [5, 6, 7, 8, 9, 10, 11, 12] [] rfl rfl (fun i : Nat => [(11, .c (iv k)), (12, .c (iv i))]) (fun i => []) (fun i => i ≤ k ∧ cmpR (r.drop i) (s.drop i) = z) (fun i => k - i) 0 ⟨by omega, hz⟩ weakA ?_
  rintro i ⟨hi, hzi⟩ K hK hX
  by_cases hlt : i < k
  · obtain ⟨a, ha⟩ : ∃ a, r[i]? = some a := ⟨r[i]'(by omega), List.getElem?_eq_getElem _⟩
    obtain ⟨b, hb⟩ : ∃ b, s[i]? = some b := ⟨s[i]'(by omega), List.getElem?_eq_getElem _⟩
    have hat := rc_at ha
    have hbt := rc_at hb
    have hv := vcmp_ok a b
    rw [cmpR_step ha hb] at hzi
    obtain ⟨ak, an, at'⟩ := a
    obtain ⟨bk, bn, bt⟩ := b
    simp only [Vl.c] at hat hbt hv
    generalize cmpV (clV ⟨ak, an, at'⟩) (clV ⟨bk, bn, bt⟩) = c at hv hzi
    by_cases z0 : c = 0
    · rw [if_neg (fun h => h z0)] at hzi
      clear hc hz
      repeat' (first
    | ((with_reducible refine aw_seqk ?_); intro K hK hX)
    | ((with_reducible refine isC_reg ?_); refine aw_prune [0, 1, 4, 5, 6, 11, 12] rfl rfl ?_; with_reducible refine aw_region ?_)
    | ((with_reducible refine isC_draw ?_); refine aw_prune [0, 1, 4, 5, 6, 11, 12] rfl rfl ?_; refine aw_drwF [] ?_)
    | ((first | with_reducible refine isA_call ?_ | with_reducible refine isD_call ?_); (first | refine zA ?_ | refine zN ?_ | refine zD ?_); (first | refine c0 (hv) ?_))
    | ((first | ((with_reducible refine isA_any ?_); refine xA ?_) | ((with_reducible refine isDk_any ?_); refine xD ?_)); (first | ((with_reducible refine e_load ?_); (first | refine ex_i (s_loadAr tabOk rfl rfl rfl rfl (by first | first | exact hat | exact hbt | exact whole0 (by first | rfl | omega) | rfl) zln) ?_ | refine ex_i (s_loadAi tabOk rfl rfl rfl (by first | first | exact hat | exact hbt | exact whole0 (by first | rfl | omega) | rfl) zln) ?_)) | ((with_reducible refine e_slice ?_); (first | refine ex_i (s_slArri tabOk rfl rfl rfl rfl zbd zbd zle zle (by decide) (by first | first | exact hat | exact hbt | exact whole0 (by first | rfl | omega) | rfl) zln) ?_))))
    | refine stA ?_
    | refine stD ?_
    | (refine hK _ _ _ _ ?_; clear hK hX K)
    | (refine hX _ _ _ _ _ (by simp) ?_; clear hK hX K))
      exact ⟨i + 1, ⟨by omega, hzi⟩, by omega, weakA⟩
    · rw [if_pos z0] at hzi
      rw [hzi] at hv z0
      clear hc hz
      repeat' (first
    | ((with_reducible refine aw_seqk ?_); intro K hK hX)
    | ((with_reducible refine isC_reg ?_); refine aw_prune [0, 1, 4, 5, 6, 11, 12] rfl rfl ?_; with_reducible refine aw_region ?_)
    | ((with_reducible refine isC_draw ?_); refine aw_prune [0, 1, 4, 5, 6, 11, 12] rfl rfl ?_; refine aw_drwF [] ?_)
    | ((first | with_reducible refine isA_call ?_ | with_reducible refine isD_call ?_); (first | refine zA ?_ | refine zN ?_ | refine zD ?_); (first | refine c0 (hv) ?_))
    | ((first | ((with_reducible refine isA_any ?_); refine xA ?_) | ((with_reducible refine isDk_any ?_); refine xD ?_)); (first | ((with_reducible refine e_load ?_); (first | refine ex_i (s_loadAr tabOk rfl rfl rfl rfl (by first | first | exact hat | exact hbt | exact whole0 (by first | rfl | omega) | rfl) zln) ?_ | refine ex_i (s_loadAi tabOk rfl rfl rfl (by first | first | exact hat | exact hbt | exact whole0 (by first | rfl | omega) | rfl) zln) ?_)) | ((with_reducible refine e_slice ?_); (first | refine ex_i (s_slArri tabOk rfl rfl rfl rfl zbd zbd zle zle (by decide) (by first | first | exact hat | exact hbt | exact whole0 (by first | rfl | omega) | rfl) zln) ?_))))
    | refine stA ?_
    | refine stD ?_
    | (refine hK _ _ _ _ ?_; clear hK hX K)
    | (refine hX _ _ _ _ _ (by simp) ?_; clear hK hX K))
      refine retK_mk (by first | exact .inl rfl | exact .inr rfl) (by exact trivial) rfl (ResL.one (ResA.tmp rfl)) (by first | exact out_c zfz | exact out_own rfl rfl)
  · have hik : i = k := by omega
    subst hik
    rw [hzi] at hc
    repeat' (first
    | ((with_reducible refine aw_seqk ?_); intro K hK hX)
    | ((with_reducible refine isC_reg ?_); refine aw_prune [0, 1, 4, 5, 6, 11, 12] rfl rfl ?_; with_reducible refine aw_region ?_)
    | ((with_reducible refine isC_draw ?_); refine aw_prune [0, 1, 4, 5, 6, 11, 12] rfl rfl ?_; refine aw_drwF [] ?_)
    | ((first | with_reducible refine isA_call ?_ | with_reducible refine isD_call ?_); (first | refine zA ?_ | refine zN ?_ | refine zD ?_); (first | refine c0 (hc) ?_))
    | refine stA ?_
    | refine stD ?_
    | (refine hK _ _ _ _ ?_; clear hK hX K)
    | (refine hX _ _ _ _ _ (by simp) ?_; clear hK hX K))
    refine retK_mk (by first | exact .inl rfl | exact .inr rfl) (by exact trivial) rfl (ResL.one (ResA.tmp rfl)) (by first | exact out_c zfz | exact out_own rfl rfl)
theorem bv_idle : Idle Try.prog 119 0 := by
  intro us w hl
  obtain ⟨_, rfl⟩ : ∃ _ : Unit, us = [] := by
    match us, hl with | [], _ => exact ⟨(), rfl⟩
  refine callsD_of_wpS Try.func119 rfl fun c₀ cs hu => ?_
  apply wpS_region
  simp [wpOpsS, go_sem, recoverD, hu, Try.ntmps119, Exit.thenS]
  cases c₀
  simp_all [bodyPostS, results, Try.results119]
theorem bv_idle_b : Body Try.prog 119 := by unfold Body; kernel_rfl
open Classical in
set_option maxHeartbeats 4000000 in
theorem bag_ok (b : List En) (n : Nat) (hn : b.length = n) (hm : n ≤ maxLen) (hf : fitB b) : AC Try.prog 69 [.sl 2 n (ec b)] (.c (bv (decide (bagP b)))) [] 0 := by
  have hbl : (ec b).length = n * 2 := by rw [ec_length, hn]
  have hml : n ≤ 9223372036854775807 := hm
  clear hm
  by_cases b1 : n ≤ 4096
  · by_cases hall : ∀ i, i < n → goodAt b i
    · rw [decide_eq_true (show bagP b from ⟨by omega, by rw [hn]; exact hall⟩)]
      refine ac_enter tabOk (sz := 38) Try.func69 rfl (by rw [Try.ntmps69]; rfl) ?_
      repeat' (first
    | ((with_reducible refine aw_seqk ?_); intro K hK hX)
    | ((with_reducible refine isC_reg ?_); refine aw_prune [0, 2, 3, 4, 8, 9, 10] rfl rfl ?_; with_reducible refine aw_region ?_)
    | ((with_reducible refine isC_draw ?_); refine aw_prune [0, 2, 3, 4, 8, 9, 10] rfl rfl ?_; refine aw_drwF [] ?_)
    | refine stA ?_
    | refine stD ?_
    | (refine hK _ _ _ _ ?_; clear hK hX K)
    | (refine hX _ _ _ _ _ (by simp) ?_; clear hK hX K))
      refine aw_loopo [3, 4, 5, 6, 7, 10] [] rfl rfl (fun i : Nat => [(10, .c (iv i))]) (fun i => []) (fun i => i ≤ n) (fun i => n - i) 0 (by omega) weakA ?_
      intro i hi K hK hX
      by_cases hlt : i < n
      · have hgi := hall i hlt
        obtain ⟨e, he⟩ : ∃ e, b[i]? = some e := ⟨b[i]'(by omega), List.getElem?_eq_getElem _⟩
        have hat := ec_at he
        have her := hf e (List.mem_of_getElem? he)
        have hv := vent_ok e her
        obtain ⟨g1, g2, g3⟩ := hgi e he
        rw [decide_eq_true g1] at hv
        cases i with
        | zero =>
          clear g3 hgi
          obtain ⟨r, c⟩ := e
          simp only [En.c] at *
          repeat' (first
    | ((with_reducible refine aw_seqk ?_); intro K hK hX)
    | ((with_reducible refine isC_reg ?_); refine aw_prune [0, 2, 3, 4, 8, 9, 10] rfl rfl ?_; with_reducible refine aw_region ?_)
    | ((with_reducible refine isC_draw ?_); refine aw_prune [0, 2, 3, 4, 8, 9, 10] rfl rfl ?_; refine aw_drwF [] ?_)
    | ((first | with_reducible refine isA_call ?_ | with_reducible refine isD_call ?_); (first | refine zA ?_ | refine zN ?_ | refine zD ?_); (first | refine c0 (hv) ?_))
    | ((first | ((with_reducible refine isA_any ?_); refine xA ?_) | ((with_reducible refine isDk_any ?_); refine xD ?_)); (first | ((with_reducible refine e_load ?_); (first | refine ex_i (s_loadAr tabOk rfl rfl rfl rfl (by first | exact hat | exact whole0 (by first | rfl | omega) | rfl) zln) ?_ | refine ex_i (s_loadAi tabOk rfl rfl rfl (by first | exact hat | exact whole0 (by first | rfl | omega) | rfl) zln) ?_)) | ((with_reducible refine e_slice ?_); (first | refine ex_i (s_slArri tabOk rfl rfl rfl rfl zbd zbd zle zle (by decide) (by first | exact hat | exact whole0 (by first | rfl | omega) | rfl) zln) ?_))))
    | refine stA ?_
    | refine stD ?_
    | (refine hK _ _ _ _ ?_; clear hK hX K)
    | (refine hX _ _ _ _ _ (by simp) ?_; clear hK hX K))
          exact ⟨1, by omega, by omega, weakA⟩
        | succ j =>
          obtain ⟨f, hfj⟩ : ∃ f, b[j]? = some f := ⟨b[j]'(by omega), List.getElem?_eq_getElem _⟩
          have hfr := hf f (List.mem_of_getElem? hfj)
          have hrow := ec_row hfj
          have hc := rcmp_ok f.r e.r f.r.length e.r.length rfl rfl hfr her
          have g4 := g3 f (by omega) (by rw [Nat.add_sub_cancel]; exact hfj)
          clear g3 hgi
          obtain ⟨r, c⟩ := e
          simp only [En.c] at *
          generalize cmpR f.r r = z at hc g4
          have hjj : (((j + 1 : Nat) : Int) - 1).toNat * 2 + 0 = j * 2 := by omega
          repeat' (first
    | ((with_reducible refine aw_seqk ?_); intro K hK hX)
    | ((with_reducible refine isC_reg ?_); refine aw_prune [0, 2, 3, 4, 8, 9, 10] rfl rfl ?_; with_reducible refine aw_region ?_)
    | ((with_reducible refine isC_draw ?_); refine aw_prune [0, 2, 3, 4, 8, 9, 10] rfl rfl ?_; refine aw_drwF [] ?_)
    | ((first | with_reducible refine isA_call ?_ | with_reducible refine isD_call ?_); (first | refine zA ?_ | refine zN ?_ | refine zD ?_); (first | refine c0 (hv) ?_ | refine c0 (hc) ?_))
    | ((first | ((with_reducible refine isA_any ?_); refine xA ?_) | ((with_reducible refine isDk_any ?_); refine xD ?_)); (first | ((with_reducible refine e_load ?_); (first | refine ex_i (s_load1 tabOk rfl rfl rfl rfl (by (rw [hjj]; exact hrow))) ?_ | refine ex_i (s_load1r tabOk rfl rfl rfl rfl (by (rw [hjj]; exact hrow))) ?_ | refine ex_i (s_load1i tabOk rfl rfl rfl (by (rw [hjj]; exact hrow))) ?_ | refine ex_i (s_loadAr tabOk rfl rfl rfl rfl (by first | exact hat | exact whole0 (by first | rfl | omega) | rfl) zln) ?_ | refine ex_i (s_loadAi tabOk rfl rfl rfl (by first | exact hat | exact whole0 (by first | rfl | omega) | rfl) zln) ?_)) | ((with_reducible refine e_ix ?_); (first | refine ex_i (s_ixV1 tabOk rfl rfl zcj rfl rfl rfl rfl rfl zle (by (rw [hjj]; exact hrow))) ?_ | refine ex_i (s_ixStr tabOk rfl rfl zcj rfl rfl (by (rw [hjj]; exact hrow))) ?_)) | ((with_reducible refine e_slice ?_); (first | refine ex_i (s_slArri tabOk rfl rfl rfl rfl zbd zbd zle zle (by decide) (by first | exact hat | exact whole0 (by first | rfl | omega) | rfl) zln) ?_))))
    | refine stA ?_
    | refine stD ?_
    | (refine hK _ _ _ _ ?_; clear hK hX K)
    | (refine hX _ _ _ _ _ (by simp) ?_; clear hK hX K))
          exact ⟨j + 1 + 1, by omega, by omega, weakA⟩
      · repeat' (first
    | ((with_reducible refine aw_seqk ?_); intro K hK hX)
    | ((with_reducible refine isC_reg ?_); refine aw_prune [0, 2, 3, 4, 8, 9, 10] rfl rfl ?_; with_reducible refine aw_region ?_)
    | ((with_reducible refine isC_draw ?_); refine aw_prune [0, 2, 3, 4, 8, 9, 10] rfl rfl ?_; refine aw_drwF [] ?_)
    | refine stA ?_
    | refine stD ?_
    | (refine hK _ _ _ _ ?_; clear hK hX K)
    | (refine hX _ _ _ _ _ (by simp) ?_; clear hK hX K))
        refine retK_mk (by first | exact .inl rfl | exact .inr rfl) (by exact ⟨bv_idle, bv_idle_b, trivial⟩) rfl (ResL.one (ResA.tmp rfl)) (by first | exact out_c zfz | exact out_own rfl rfl)
    · rw [decide_eq_false (show ¬ bagP b from fun h => hall (by rw [← hn]; exact h.2))]
      obtain ⟨q, hq, hbad, hgood⟩ := first_bad hall
      refine ac_enter tabOk (sz := 38) Try.func69 rfl (by rw [Try.ntmps69]; rfl) ?_
      repeat' (first
    | ((with_reducible refine aw_seqk ?_); intro K hK hX)
    | ((with_reducible refine isC_reg ?_); refine aw_prune [0, 2, 3, 4, 8, 9, 10] rfl rfl ?_; with_reducible refine aw_region ?_)
    | ((with_reducible refine isC_draw ?_); refine aw_prune [0, 2, 3, 4, 8, 9, 10] rfl rfl ?_; refine aw_drwF [] ?_)
    | refine stA ?_
    | refine stD ?_
    | (refine hK _ _ _ _ ?_; clear hK hX K)
    | (refine hX _ _ _ _ _ (by simp) ?_; clear hK hX K))
      refine aw_loopo [3, 4, 5, 6, 7, 10] [] rfl rfl (fun i : Nat => [(10, .c (iv i))]) (fun i => []) (fun i => i ≤ q) (fun i => q - i) 0 (by omega) weakA ?_
      intro i hi K hK hX
      by_cases hlt : i < q
      · have hgi := hgood i hlt
        obtain ⟨e, he⟩ : ∃ e, b[i]? = some e := ⟨b[i]'(by omega), List.getElem?_eq_getElem _⟩
        have hat := ec_at he
        have her := hf e (List.mem_of_getElem? he)
        have hv := vent_ok e her
        obtain ⟨g1, g2, g3⟩ := hgi e he
        rw [decide_eq_true g1] at hv
        cases i with
        | zero =>
          clear g3 hgi
          obtain ⟨r, c⟩ := e
          simp only [En.c] at *
          repeat' (first
    | ((with_reducible refine aw_seqk ?_); intro K hK hX)
    | ((with_reducible refine isC_reg ?_); refine aw_prune [0, 2, 3, 4, 8, 9, 10] rfl rfl ?_; with_reducible refine aw_region ?_)
    | ((with_reducible refine isC_draw ?_); refine aw_prune [0, 2, 3, 4, 8, 9, 10] rfl rfl ?_; refine aw_drwF [] ?_)
    | ((first | with_reducible refine isA_call ?_ | with_reducible refine isD_call ?_); (first | refine zA ?_ | refine zN ?_ | refine zD ?_); (first | refine c0 (hv) ?_))
    | ((first | ((with_reducible refine isA_any ?_); refine xA ?_) | ((with_reducible refine isDk_any ?_); refine xD ?_)); (first | ((with_reducible refine e_load ?_); (first | refine ex_i (s_loadAr tabOk rfl rfl rfl rfl (by first | exact hat | exact whole0 (by first | rfl | omega) | rfl) zln) ?_ | refine ex_i (s_loadAi tabOk rfl rfl rfl (by first | exact hat | exact whole0 (by first | rfl | omega) | rfl) zln) ?_)) | ((with_reducible refine e_slice ?_); (first | refine ex_i (s_slArri tabOk rfl rfl rfl rfl zbd zbd zle zle (by decide) (by first | exact hat | exact whole0 (by first | rfl | omega) | rfl) zln) ?_))))
    | refine stA ?_
    | refine stD ?_
    | (refine hK _ _ _ _ ?_; clear hK hX K)
    | (refine hX _ _ _ _ _ (by simp) ?_; clear hK hX K))
          exact ⟨1, by omega, by omega, weakA⟩
        | succ j =>
          obtain ⟨f, hfj⟩ : ∃ f, b[j]? = some f := ⟨b[j]'(by omega), List.getElem?_eq_getElem _⟩
          have hfr := hf f (List.mem_of_getElem? hfj)
          have hrow := ec_row hfj
          have hc := rcmp_ok f.r e.r f.r.length e.r.length rfl rfl hfr her
          have g4 := g3 f (by omega) (by rw [Nat.add_sub_cancel]; exact hfj)
          clear g3 hgi
          obtain ⟨r, c⟩ := e
          simp only [En.c] at *
          generalize cmpR f.r r = z at hc g4
          have hjj : (((j + 1 : Nat) : Int) - 1).toNat * 2 + 0 = j * 2 := by omega
          repeat' (first
    | ((with_reducible refine aw_seqk ?_); intro K hK hX)
    | ((with_reducible refine isC_reg ?_); refine aw_prune [0, 2, 3, 4, 8, 9, 10] rfl rfl ?_; with_reducible refine aw_region ?_)
    | ((with_reducible refine isC_draw ?_); refine aw_prune [0, 2, 3, 4, 8, 9, 10] rfl rfl ?_; refine aw_drwF [] ?_)
    | ((first | with_reducible refine isA_call ?_ | with_reducible refine isD_call ?_); (first | refine zA ?_ | refine zN ?_ | refine zD ?_); (first | refine c0 (hv) ?_ | refine c0 (hc) ?_))
    | ((first | ((with_reducible refine isA_any ?_); refine xA ?_) | ((with_reducible refine isDk_any ?_); refine xD ?_)); (first | ((with_reducible refine e_load ?_); (first | refine ex_i (s_load1 tabOk rfl rfl rfl rfl (by (rw [hjj]; exact hrow))) ?_ | refine ex_i (s_load1r tabOk rfl rfl rfl rfl (by (rw [hjj]; exact hrow))) ?_ | refine ex_i (s_load1i tabOk rfl rfl rfl (by (rw [hjj]; exact hrow))) ?_ | refine ex_i (s_loadAr tabOk rfl rfl rfl rfl (by first | exact hat | exact whole0 (by first | rfl | omega) | rfl) zln) ?_ | refine ex_i (s_loadAi tabOk rfl rfl rfl (by first | exact hat | exact whole0 (by first | rfl | omega) | rfl) zln) ?_)) | ((with_reducible refine e_ix ?_); (first | refine ex_i (s_ixV1 tabOk rfl rfl zcj rfl rfl rfl rfl rfl zle (by (rw [hjj]; exact hrow))) ?_ | refine ex_i (s_ixStr tabOk rfl rfl zcj rfl rfl (by (rw [hjj]; exact hrow))) ?_)) | ((with_reducible refine e_slice ?_); (first | refine ex_i (s_slArri tabOk rfl rfl rfl rfl zbd zbd zle zle (by decide) (by first | exact hat | exact whole0 (by first | rfl | omega) | rfl) zln) ?_))))
    | refine stA ?_
    | refine stD ?_
    | (refine hK _ _ _ _ ?_; clear hK hX K)
    | (refine hX _ _ _ _ _ (by simp) ?_; clear hK hX K))
          exact ⟨j + 1 + 1, by omega, by omega, weakA⟩
      · have hiq : i = q := by omega
        have hin : i < n := by omega
        rw [← hiq] at hbad
        obtain ⟨e, he⟩ : ∃ e, b[i]? = some e := ⟨b[i]'(by omega), List.getElem?_eq_getElem _⟩
        have hat := ec_at he
        have her := hf e (List.mem_of_getElem? he)
        have hv := vent_ok e her
        by_cases g1 : entP e
        · rw [decide_eq_true g1] at hv
          by_cases g2 : e.n = 0
          · clear hbad hgood
            obtain ⟨r, c⟩ := e
            simp only [En.c] at *
            repeat' (first
    | ((with_reducible refine aw_seqk ?_); intro K hK hX)
    | ((with_reducible refine isC_reg ?_); refine aw_prune [0, 2, 3, 4, 8, 9, 10] rfl rfl ?_; with_reducible refine aw_region ?_)
    | ((with_reducible refine isC_draw ?_); refine aw_prune [0, 2, 3, 4, 8, 9, 10] rfl rfl ?_; refine aw_drwF [] ?_)
    | ((first | with_reducible refine isA_call ?_ | with_reducible refine isD_call ?_); (first | refine zA ?_ | refine zN ?_ | refine zD ?_); (first | refine c0 (hv) ?_))
    | ((first | ((with_reducible refine isA_any ?_); refine xA ?_) | ((with_reducible refine isDk_any ?_); refine xD ?_)); (first | ((with_reducible refine e_load ?_); (first | refine ex_i (s_loadAr tabOk rfl rfl rfl rfl (by first | exact hat | exact whole0 (by first | rfl | omega) | rfl) zln) ?_ | refine ex_i (s_loadAi tabOk rfl rfl rfl (by first | exact hat | exact whole0 (by first | rfl | omega) | rfl) zln) ?_)) | ((with_reducible refine e_slice ?_); (first | refine ex_i (s_slArri tabOk rfl rfl rfl rfl zbd zbd zle zle (by decide) (by first | exact hat | exact whole0 (by first | rfl | omega) | rfl) zln) ?_))))
    | refine stA ?_
    | refine stD ?_
    | (refine hK _ _ _ _ ?_; clear hK hX K)
    | (refine hX _ _ _ _ _ (by simp) ?_; clear hK hX K))
            refine retK_mk (by first | exact .inl rfl | exact .inr rfl) (by exact ⟨bv_idle, bv_idle_b, trivial⟩) rfl (ResL.one (ResA.tmp rfl)) (by first | exact out_c zfz | exact out_own rfl rfl)
          · cases i with
            | zero => exact absurd (fun e' he' => by rw [he] at he'; injection he' with he'; subst he'; exact ⟨g1, g2, fun f h => absurd h (by omega)⟩) hbad
            | succ j =>
              obtain ⟨f, hfj⟩ : ∃ f, b[j]? = some f := ⟨b[j]'(by omega), List.getElem?_eq_getElem _⟩
              have hfr := hf f (List.mem_of_getElem? hfj)
              have hrow := ec_row hfj
              have hc := rcmp_ok f.r e.r f.r.length e.r.length rfl rfl hfr her
              have g4 : ¬ cmpR f.r e.r < 0 := fun h => hbad fun e' he' => by
                rw [he] at he'; injection he' with he'; subst he'
                exact ⟨g1, g2, fun f' _ hf' => by rw [Nat.add_sub_cancel, hfj] at hf'; injection hf' with hf'; subst hf'; exact h⟩
              clear hbad hgood
              obtain ⟨r, c⟩ := e
              simp only [En.c] at *
              generalize cmpR f.r r = z at hc g4
              have hjj : (((j + 1 : Nat) : Int) - 1).toNat * 2 + 0 = j * 2 := by omega
              repeat' (first
    | ((with_reducible refine aw_seqk ?_); intro K hK hX)
    | ((with_reducible refine isC_reg ?_); refine aw_prune [0, 2, 3, 4, 8, 9, 10] rfl rfl ?_; with_reducible refine aw_region ?_)
    | ((with_reducible refine isC_draw ?_); refine aw_prune [0, 2, 3, 4, 8, 9, 10] rfl rfl ?_; refine aw_drwF [] ?_)
    | ((first | with_reducible refine isA_call ?_ | with_reducible refine isD_call ?_); (first | refine zA ?_ | refine zN ?_ | refine zD ?_); (first | refine c0 (hv) ?_ | refine c0 (hc) ?_))
    | ((first | ((with_reducible refine isA_any ?_); refine xA ?_) | ((with_reducible refine isDk_any ?_); refine xD ?_)); (first | ((with_reducible refine e_load ?_); (first | refine ex_i (s_load1 tabOk rfl rfl rfl rfl (by (rw [hjj]; exact hrow))) ?_ | refine ex_i (s_load1r tabOk rfl rfl rfl rfl (by (rw [hjj]; exact hrow))) ?_ | refine ex_i (s_load1i tabOk rfl rfl rfl (by (rw [hjj]; exact hrow))) ?_ | refine ex_i (s_loadAr tabOk rfl rfl rfl rfl (by first | exact hat | exact whole0 (by first | rfl | omega) | rfl) zln) ?_ | refine ex_i (s_loadAi tabOk rfl rfl rfl (by first | exact hat | exact whole0 (by first | rfl | omega) | rfl) zln) ?_)) | ((with_reducible refine e_ix ?_); (first | refine ex_i (s_ixV1 tabOk rfl rfl zcj rfl rfl rfl rfl rfl zle (by (rw [hjj]; exact hrow))) ?_ | refine ex_i (s_ixStr tabOk rfl rfl zcj rfl rfl (by (rw [hjj]; exact hrow))) ?_)) | ((with_reducible refine e_slice ?_); (first | refine ex_i (s_slArri tabOk rfl rfl rfl rfl zbd zbd zle zle (by decide) (by first | exact hat | exact whole0 (by first | rfl | omega) | rfl) zln) ?_))))
    | refine stA ?_
    | refine stD ?_
    | (refine hK _ _ _ _ ?_; clear hK hX K)
    | (refine hX _ _ _ _ _ (by simp) ?_; clear hK hX K))
              refine retK_mk (by first | exact .inl rfl | exact .inr rfl) (by exact ⟨bv_idle, bv_idle_b, trivial⟩) rfl (ResL.one (ResA.tmp rfl)) (by first | exact out_c zfz | exact out_own rfl rfl)
        · rw [decide_eq_false g1] at hv
          clear hbad hgood
          obtain ⟨r, c⟩ := e
          simp only [En.c] at *
          repeat' (first
    | ((with_reducible refine aw_seqk ?_); intro K hK hX)
    | ((with_reducible refine isC_reg ?_); refine aw_prune [0, 2, 3, 4, 8, 9, 10] rfl rfl ?_; with_reducible refine aw_region ?_)
    | ((with_reducible refine isC_draw ?_); refine aw_prune [0, 2, 3, 4, 8, 9, 10] rfl rfl ?_; refine aw_drwF [] ?_)
    | ((first | with_reducible refine isA_call ?_ | with_reducible refine isD_call ?_); (first | refine zA ?_ | refine zN ?_ | refine zD ?_); (first | refine c0 (hv) ?_))
    | ((first | ((with_reducible refine isA_any ?_); refine xA ?_) | ((with_reducible refine isDk_any ?_); refine xD ?_)); (first | ((with_reducible refine e_load ?_); (first | refine ex_i (s_loadAr tabOk rfl rfl rfl rfl (by first | exact hat | exact whole0 (by first | rfl | omega) | rfl) zln) ?_ | refine ex_i (s_loadAi tabOk rfl rfl rfl (by first | exact hat | exact whole0 (by first | rfl | omega) | rfl) zln) ?_)) | ((with_reducible refine e_slice ?_); (first | refine ex_i (s_slArri tabOk rfl rfl rfl rfl zbd zbd zle zle (by decide) (by first | exact hat | exact whole0 (by first | rfl | omega) | rfl) zln) ?_))))
    | refine stA ?_
    | refine stD ?_
    | (refine hK _ _ _ _ ?_; clear hK hX K)
    | (refine hX _ _ _ _ _ (by simp) ?_; clear hK hX K))
          refine retK_mk (by first | exact .inl rfl | exact .inr rfl) (by exact ⟨bv_idle, bv_idle_b, trivial⟩) rfl (ResL.one (ResA.tmp rfl)) (by first | exact out_c zfz | exact out_own rfl rfl)
  · rw [decide_eq_false (show ¬ bagP b from fun h => b1 (by have := h.1; omega))]
    refine ac_enter tabOk (sz := 38) Try.func69 rfl (by rw [Try.ntmps69]; rfl) ?_
    repeat' (first
    | ((with_reducible refine aw_seqk ?_); intro K hK hX)
    | ((with_reducible refine isC_reg ?_); refine aw_prune [0, 2, 3, 4, 8, 9, 10] rfl rfl ?_; with_reducible refine aw_region ?_)
    | ((with_reducible refine isC_draw ?_); refine aw_prune [0, 2, 3, 4, 8, 9, 10] rfl rfl ?_; refine aw_drwF [] ?_)
    | refine stA ?_
    | refine stD ?_
    | (refine hK _ _ _ _ ?_; clear hK hX K)
    | (refine hX _ _ _ _ _ (by simp) ?_; clear hK hX K))
    refine retK_mk (by first | exact .inl rfl | exact .inr rfl) (by exact ⟨bv_idle, bv_idle_b, trivial⟩) rfl (ResL.one (ResA.tmp rfl)) (by first | exact out_c zfz | exact out_own rfl rfl)
end Go.Proofs.Ytccnhpaldmjkbaa
/-
  Positive bags; places of values in sketches (walk), as the program has them.
-/
set_option linter.unusedVariables false
set_option linter.unusedSimpArgs false
namespace Go.Proofs.Ytccnhpaldmjkbaa
open Go Go.RowKit Go.Av
set_option maxRecDepth 100000
/-- The value of a column in a row. -/
def cellV (r : List Vl) (col : Nat) : Vl := r.getD col Vl.nul
/-- The place of a value in a row of a sketch. -/
def placeV (w : Nat) (v : Vl) (row : Nat) : Nat := row * w + (hashV v (UInt8.ofNat row)).toNat % w
theorem placeV_lt {w d : Nat} (v : Vl) {row : Nat} (hw : 0 < w) (hr : row < d) : placeV w v row < w * d := by
  unfold placeV
  have h1 := Nat.mod_lt (hashV v (UInt8.ofNat row)).toNat hw
  have h2 : (row + 1) * w ≤ d * w := Nat.mul_le_mul_right _ hr
  rw [Nat.add_mul, Nat.one_mul] at h2
  rw [Nat.mul_comm w d]
  omega
theorem row_byte {row : Nat} (h : row < 256) : IntKind.u8.wrap (row : Int) = ((UInt8.ofNat row).toNat : Int) := by
  rw [IntKind.wrap_u8, UInt8.toNat_ofNat']
  omega
attribute [local irreducible] Still Adds AWL AW Drw DrwE EStep AC AWR Weak Frz Src RetK Out InK ItK AsK RdK
open Classical in
set_option maxHeartbeats 4000000 in
theorem pos_ok (b : List En) (n : Nat) (hn : b.length = n) (hm : n ≤ maxLen) (hf : fitB b) : AC Try.prog 61 [.sl 2 n (ec b)] (.c (bv (decide (posP b)))) [] 0 := by
  have hbl : (ec b).length = n * 2 := by rw [ec_length, hn]
  have hb := bag_ok b n hn hm hf
  have hml : n ≤ 9223372036854775807 := hm
  clear hm
  by_cases b1 : bagP b
  · rw [decide_eq_true b1] at hb
    by_cases hall : ∀ i, i < n → ∀ e, b[i]? = some e → 0 ≤ e.n
    · rw [decide_eq_true (show posP b from ⟨b1, fun e he => by
        obtain ⟨i, hi⟩ := List.mem_iff_getElem?.1 he
        have := (List.getElem?_eq_some_iff.1 hi).1
        exact hall i (by omega) e hi⟩)]
      refine ac_enter tabOk (sz := 18) Try.func61 rfl (by rw [Try.ntmps61]; rfl) ?_
      repeat' (first
    | ((with_reducible refine aw_seqk ?_); intro K hK hX)
    | ((with_reducible refine isC_reg ?_); refine aw_prune [0, 2, 4, 8, 9, 10] rfl rfl ?_; with_reducible refine aw_region ?_)
    | ((with_reducible refine isA_call ?_); (first | refine zA ?_ | refine zN ?_); (first | refine c0 (hb) ?_))
    | refine stA ?_
    | (refine hK _ _ _ _ ?_; clear hK hX K)
    | (refine hX _ _ _ _ _ (by simp) ?_; clear hK hX K))
      refine aw_loopo [4, 5, 6, 7, 10] [] rfl rfl (fun i : Nat => [(10, .c (iv i))]) (fun i => []) (fun i => i ≤ n) (fun i => n - i) 0 (by omega) weakA ?_
      intro i hi K hK hX
      by_cases hlt : i < n
      · obtain ⟨e, he⟩ : ∃ e, b[i]? = some e := ⟨b[i]'(by omega), List.getElem?_eq_getElem _⟩
        have hat := ec_at he
        have hge := hall i hlt e he
        clear hb
        obtain ⟨r, c⟩ := e
        simp only [En.c] at *
        repeat' (first
    | ((with_reducible refine aw_seqk ?_); intro K hK hX)
    | ((with_reducible refine isC_reg ?_); refine aw_prune [0, 2, 4, 8, 9, 10] rfl rfl ?_; with_reducible refine aw_region ?_)
    | (((with_reducible refine isA_any ?_); refine xA ?_); (first | ((with_reducible refine e_load ?_); (first | refine ex_i (s_loadAr tabOk rfl rfl rfl rfl (by first | exact hat | exact whole0 (by first | rfl | omega) | rfl) zln) ?_ | refine ex_i (s_loadAi tabOk rfl rfl rfl (by first | exact hat | exact whole0 (by first | rfl | omega) | rfl) zln) ?_)) | ((with_reducible refine e_slice ?_); (first | refine ex_i (s_slArri tabOk rfl rfl rfl rfl zbd zbd zle zle (by decide) (by first | exact hat | exact whole0 (by first | rfl | omega) | rfl) zln) ?_))))
    | refine stA ?_
    | (refine hK _ _ _ _ ?_; clear hK hX K)
    | (refine hX _ _ _ _ _ (by simp) ?_; clear hK hX K))
        exact ⟨i + 1, by omega, by omega, weakA⟩
      · repeat' (first
    | ((with_reducible refine aw_seqk ?_); intro K hK hX)
    | ((with_reducible refine isC_reg ?_); refine aw_prune [0, 2, 4, 8, 9, 10] rfl rfl ?_; with_reducible refine aw_region ?_)
    | refine stA ?_
    | (refine hK _ _ _ _ ?_; clear hK hX K)
    | (refine hX _ _ _ _ _ (by simp) ?_; clear hK hX K))
        refine retK_mk (by first | exact .inl rfl | exact .inr rfl) (by exact trivial) rfl (ResL.one (ResA.tmp rfl)) (by first | exact out_c zfz | exact out_own rfl rfl)
    · obtain ⟨q, hq, hbad, hgood⟩ := first_bad hall
      rw [decide_eq_false (show ¬ posP b from fun h => hbad fun e he => h.2 e (List.mem_of_getElem? he))]
      refine ac_enter tabOk (sz := 18) Try.func61 rfl (by rw [Try.ntmps61]; rfl) ?_
      repeat' (first
    | ((with_reducible refine aw_seqk ?_); intro K hK hX)
    | ((with_reducible refine isC_reg ?_); refine aw_prune [0, 2, 4, 8, 9, 10] rfl rfl ?_; with_reducible refine aw_region ?_)
    | ((with_reducible refine isA_call ?_); (first | refine zA ?_ | refine zN ?_); (first | refine c0 (hb) ?_))
    | refine stA ?_
    | (refine hK _ _ _ _ ?_; clear hK hX K)
    | (refine hX _ _ _ _ _ (by simp) ?_; clear hK hX K))
      refine aw_loopo [4, 5, 6, 7, 10] [] rfl rfl (fun i : Nat => [(10, .c (iv i))]) (fun i => []) (fun i => i ≤ q) (fun i => q - i) 0 (by omega) weakA ?_
      intro i hi K hK hX
      have hin : i < n := by omega
      obtain ⟨e, he⟩ : ∃ e, b[i]? = some e := ⟨b[i]'(by omega), List.getElem?_eq_getElem _⟩
      have hat := ec_at he
      clear hb
      by_cases hlt : i < q
      · have hge := hgood i hlt e he
        clear hbad hgood
        obtain ⟨r, c⟩ := e
        simp only [En.c] at *
        repeat' (first
    | ((with_reducible refine aw_seqk ?_); intro K hK hX)
    | ((with_reducible refine isC_reg ?_); refine aw_prune [0, 2, 4, 8, 9, 10] rfl rfl ?_; with_reducible refine aw_region ?_)
    | (((with_reducible refine isA_any ?_); refine xA ?_); (first | ((with_reducible refine e_load ?_); (first | refine ex_i (s_loadAr tabOk rfl rfl rfl rfl (by first | exact hat | exact whole0 (by first | rfl | omega) | rfl) zln) ?_ | refine ex_i (s_loadAi tabOk rfl rfl rfl (by first | exact hat | exact whole0 (by first | rfl | omega) | rfl) zln) ?_)) | ((with_reducible refine e_slice ?_); (first | refine ex_i (s_slArri tabOk rfl rfl rfl rfl zbd zbd zle zle (by decide) (by first | exact hat | exact whole0 (by first | rfl | omega) | rfl) zln) ?_))))
    | refine stA ?_
    | (refine hK _ _ _ _ ?_; clear hK hX K)
    | (refine hX _ _ _ _ _ (by simp) ?_; clear hK hX K))
        exact ⟨i + 1, by omega, by omega, weakA⟩
      · have hiq : i = q := by omega
        have hge : ¬ 0 ≤ e.n := fun h => hbad fun e' he' => by
          rw [← hiq, he] at he'; injection he' with he'; subst he'; exact h
        clear hbad hgood
        obtain ⟨r, c⟩ := e
        simp only [En.c] at *
        repeat' (first
    | ((with_reducible refine aw_seqk ?_); intro K hK hX)
    | ((with_reducible refine isC_reg ?_); refine aw_prune [0, 2, 4, 8, 9, 10] rfl rfl ?_; with_reducible refine aw_region ?_)
    | (((with_reducible refine isA_any ?_); refine xA ?_); (first | ((with_reducible refine e_load ?_); (first | refine ex_i (s_loadAr tabOk rfl rfl rfl rfl (by first | exact hat | exact whole0 (by first | rfl | omega) | rfl) zln) ?_ | refine ex_i (s_loadAi tabOk rfl rfl rfl (by first | exact hat | exact whole0 (by first | rfl | omega) | rfl) zln) ?_)) | ((with_reducible refine e_slice ?_); (first | refine ex_i (s_slArri tabOk rfl rfl rfl rfl zbd zbd zle zle (by decide) (by first | exact hat | exact whole0 (by first | rfl | omega) | rfl) zln) ?_))))
    | refine stA ?_
    | (refine hK _ _ _ _ ?_; clear hK hX K)
    | (refine hX _ _ _ _ _ (by simp) ?_; clear hK hX K))
        refine retK_mk (by first | exact .inl rfl | exact .inr rfl) (by exact trivial) rfl (ResL.one (ResA.tmp rfl)) (by first | exact out_c zfz | exact out_own rfl rfl)
  · rw [decide_eq_false b1] at hb
    rw [decide_eq_false (show ¬ posP b from fun h => b1 h.1)]
    refine ac_enter tabOk (sz := 18) Try.func61 rfl (by rw [Try.ntmps61]; rfl) ?_
    repeat' (first
    | ((with_reducible refine aw_seqk ?_); intro K hK hX)
    | ((with_reducible refine isC_reg ?_); refine aw_prune [0, 2, 4, 8, 9, 10] rfl rfl ?_; with_reducible refine aw_region ?_)
    | ((with_reducible refine isA_call ?_); (first | refine zA ?_ | refine zN ?_); (first | refine c0 (hb) ?_))
    | refine stA ?_
    | (refine hK _ _ _ _ ?_; clear hK hX K)
    | (refine hX _ _ _ _ _ (by simp) ?_; clear hK hX K))
    refine retK_mk (by first | exact .inl rfl | exact .inr rfl) (by exact trivial) rfl (ResL.one (ResA.tmp rfl)) (by first | exact out_c zfz | exact out_own rfl rfl)
theorem cellOf_ok (r : List Vl) (n : Nat) (hn : r.length = n) (hm : n ≤ maxLen) (col : Nat) (hc : (col : Int) ≤ 9223372036854775807) : AC Try.prog 84 [.sl 3 n (rc r), iv col] (.c (.agg (cellV r col).c)) [] 0 := by
  have hrl : (rc r).length = n * 3 := by rw [rc_length, hn]
  have hml : n ≤ 9223372036854775807 := hm
  clear hm
  by_cases h : col < n
  · obtain ⟨v, hv⟩ : ∃ v, r[col]? = some v := ⟨r[col]'(by omega), List.getElem?_eq_getElem _⟩
    have hat := rc_at hv
    have : cellV r col = v := by unfold cellV; rw [List.getD_eq_getElem?_getD, hv]; rfl
    rw [this]
    obtain ⟨a, m, b⟩ := v
    simp only [Vl.c] at *
    refine ac_enter tabOk (sz := 14) Try.func84 rfl (by rw [Try.ntmps84]; rfl) ?_
    repeat' (first
    | ((with_reducible refine aw_seqk ?_); intro K hK hX)
    | ((with_reducible refine isC_reg ?_); refine aw_prune [0, 1, 4] rfl rfl ?_; with_reducible refine aw_region ?_)
    | (((with_reducible refine isA_any ?_); refine xA ?_); (first | ((with_reducible refine e_load ?_); (first | refine ex_i (s_loadAr tabOk rfl rfl rfl rfl (by first | exact hat | exact whole0 (by first | rfl | omega) | rfl) zln) ?_ | refine ex_i (s_loadAi tabOk rfl rfl rfl (by first | exact hat | exact whole0 (by first | rfl | omega) | rfl) zln) ?_)) | ((with_reducible refine e_slice ?_); (first | refine ex_i (s_slArri tabOk rfl rfl rfl rfl zbd zbd zle zle (by decide) (by first | exact hat | exact whole0 (by first | rfl | omega) | rfl) zln) ?_))))
    | refine stA ?_
    | (refine hK _ _ _ _ ?_; clear hK hX K)
    | (refine hX _ _ _ _ _ (by simp) ?_; clear hK hX K))
    refine retK_mk (by first | exact .inl rfl | exact .inr rfl) (by exact trivial) rfl (ResL.one zrs) (by first | exact out_c zfz | exact out_own rfl rfl)
  · have : cellV r col = Vl.nul := by unfold cellV; rw [List.getD_eq_getElem?_getD, List.getElem?_eq_none (by omega)]; rfl
    rw [this]
    refine ac_enter tabOk (sz := 14) Try.func84 rfl (by rw [Try.ntmps84]; rfl) ?_
    repeat' (first
    | ((with_reducible refine aw_seqk ?_); intro K hK hX)
    | ((with_reducible refine isC_reg ?_); refine aw_prune [0, 1, 4] rfl rfl ?_; with_reducible refine aw_region ?_)
    | refine stA ?_
    | (refine hK _ _ _ _ ?_; clear hK hX K)
    | (refine hX _ _ _ _ _ (by simp) ?_; clear hK hX K))
    refine retK_mk (by first | exact .inl rfl | exact .inr rfl) (by exact trivial) rfl (ResL.one zrs) (by first | exact out_c zfz | exact out_own rfl rfl)
set_option maxHeartbeats 4000000 in
theorem place_ok (nm sr : List UInt8) (col kd : Int) (w : Nat) (d : Int) (v : Vl) (row : Nat) (hw : 0 < w) (hw2 : w ≤ 1024) (hr : row < 256) : AC Try.prog 126 [.agg [sv nm, sv sr, iv col, iv kd, iv w, iv d], .agg v.c, iv row] (.c (iv (placeV w v row))) [] 0 := by
  have hh := hash_ok v row (UInt8.ofNat row) (row_byte hr)
  unfold placeV
  have hlt := Nat.mod_lt (hashV v (UInt8.ofNat row)).toNat hw
  generalize hashV v (UInt8.ofNat row) = x at hh hlt ⊢
  have hrem : ((x.toNat : Int)).tmod (w : Int) = ((x.toNat % w : Nat) : Int) := by
    rw [r64 (by omega), Int.natCast_emod]
  have hmul : row * w ≤ 256 * 1024 := Nat.mul_le_mul (by omega) hw2
  have hmz : (row : Int) * (w : Int) = ((row * w : Nat) : Int) := by simp
  have hm64 : IntKind.i64.wrap ((row : Int) * (w : Int)) = ((row * w : Nat) : Int) := by rw [hmz]; exact w64 (by omega) (by omega)
  generalize x.toNat % w = p at hlt hrem ⊢
  generalize row * w = q at hmul hm64 ⊢
  obtain ⟨a, m, b⟩ := v
  simp only [Vl.c] at *
  have hadd : ((q : Int) + (p : Int)) = ((q + p : Nat) : Int) := by simp
  refine ac_enter tabOk (sz := 20) Try.func126 rfl (by rw [Try.ntmps126]; rfl) ?_
  repeat' (first
    | ((with_reducible refine aw_seqk ?_); intro K hK hX)
    | ((with_reducible refine isC_reg ?_); refine aw_prune [0, 1, 2, 3, 4, 6] rfl rfl ?_; with_reducible refine aw_region ?_)
    | ((with_reducible refine isC_draw ?_); refine aw_prune [0, 1, 2, 3, 4, 6] rfl rfl ?_; refine aw_drwF [] ?_)
    | ((first | with_reducible refine isA_call ?_ | with_reducible refine isD_call ?_); (first | refine zA ?_ | refine zN ?_ | refine zD ?_); (first | refine c0 (hh) ?_))
    | ((first | ((with_reducible refine isA_any ?_); refine xA ?_) | ((with_reducible refine isDk_any ?_); refine xD ?_)); (first | ((with_reducible refine e_bin ?_); (first | refine ex_i (s_arit64 rfl rfl rfl hm64) ?_ | refine ex_i (s_rem (k := .u64) rfl rfl (by omega) hrem) ?_)) | ((with_reducible refine e_conv ?_); (first | refine ex_i (s_convInt tabOk rfl rfl rfl rfl (wu64 (by omega) (by omega))) ?_))))
    | refine stA ?_
    | refine stD ?_
    | (refine hK _ _ _ _ ?_; clear hK hX K)
    | (refine hX _ _ _ _ _ (by simp) ?_; clear hK hX K))
  refine retK_mk (by first | exact .inl rfl | exact .inr rfl) (by exact trivial) rfl (ResL.one (ResA.tmp rfl)) (by first | exact out_c zfz | exact out_own rfl rfl)
end Go.Proofs.Ytccnhpaldmjkbaa
/-
  Valid cells of sketches (walk), as the program has them.
-/
set_option linter.unusedVariables false
set_option linter.unusedSimpArgs false
namespace Go.Proofs.Ytccnhpaldmjkbaa
open Go Go.RowKit Go.Av
set_option maxRecDepth 100000
def limZ (kd : Int) : Int := if kd = 0 then 1073741824 else 1
def okX (lim x : Int) : Prop := 0 ≤ x ∧ x ≤ lim
def valC (s : Sk) (l : List Int) : Prop := formP s ∧ s.kd ≠ 2 ∧ (l.length : Int) = s.w * s.d ∧ ∀ x ∈ l, okX (limZ s.kd) x
theorem intc_at {l : List Int} {i : Nat} {x : Int} (h : l[i]? = some x) : (intc .i64 l)[i]? = some (iv x) := by simp [intc, h]
attribute [local irreducible] Still Adds AWL AW Drw DrwE EStep AC AWR Weak Frz Src RetK Out InK ItK AsK RdK
theorem va_idle : Idle Try.prog 92 0 := by
  intro us w hl
  obtain ⟨_, rfl⟩ : ∃ _ : Unit, us = [] := by
    match us, hl with | [], _ => exact ⟨(), rfl⟩
  refine callsD_of_wpS Try.func92 rfl fun c₀ cs hu => ?_
  apply wpS_region
  simp [wpOpsS, go_sem, recoverD, hu, Try.ntmps92, Exit.thenS]
  cases c₀
  simp_all [bodyPostS, results, Try.results92]
theorem va_idle_b : Body Try.prog 92 := by unfold Body; kernel_rfl
theorem lim_ok (s : Sk) : AC Try.prog 94 [.agg s.c] (.c (iv (limZ s.kd))) [] 0 := by
  unfold limZ
  obtain ⟨nm, sr, col, kd, w, d⟩ := s
  simp only [Sk.c]
  by_cases h : kd = 0
  · rw [if_pos h]
    refine ac_enter tabOk (sz := 6) Try.func94 rfl (by rw [Try.ntmps94]; rfl) ?_
    repeat' (first
    | ((with_reducible refine aw_seqk ?_); intro K hK hX)
    | ((with_reducible refine isC_reg ?_); refine aw_prune [0, 1, 2] rfl rfl ?_; with_reducible refine aw_region ?_)
    | refine stA ?_
    | (refine hK _ _ _ _ ?_; clear hK hX K)
    | (refine hX _ _ _ _ _ (by simp) ?_; clear hK hX K))
    refine retK_mk (by first | exact .inl rfl | exact .inr rfl) (by exact trivial) rfl (ResL.one (ResA.tmp rfl)) (by first | exact out_c zfz | exact out_own rfl rfl)
  · rw [if_neg h]
    refine ac_enter tabOk (sz := 6) Try.func94 rfl (by rw [Try.ntmps94]; rfl) ?_
    repeat' (first
    | ((with_reducible refine aw_seqk ?_); intro K hK hX)
    | ((with_reducible refine isC_reg ?_); refine aw_prune [0, 1, 2] rfl rfl ?_; with_reducible refine aw_region ?_)
    | refine stA ?_
    | (refine hK _ _ _ _ ?_; clear hK hX K)
    | (refine hX _ _ _ _ _ (by simp) ?_; clear hK hX K))
    refine retK_mk (by first | exact .inl rfl | exact .inr rfl) (by exact trivial) rfl (ResL.one (ResA.tmp rfl)) (by first | exact out_c zfz | exact out_own rfl rfl)
open Classical in
set_option maxHeartbeats 4000000 in
theorem valc_ok (s : Sk) (l : List Int) (n : Nat) (hn : l.length = n) (hk : s.kd ≠ 2) (hm : n ≤ maxLen) : AC Try.prog 42 [.agg s.c, .sl 1 n (intc .i64 l)] (.c (bv (decide (valC s l)))) [] 0 := by
  have hml : n ≤ 9223372036854775807 := hm
  clear hm
  have hil : (intc .i64 l).length = n := by rw [intc_length, hn]
  have hf := form_ok s
  have hl := lim_ok s
  by_cases f1 : formP s
  · rw [form_t f1] at hf
    have f0 := f1
    obtain ⟨w1, w2, d1, d2, p1, p2⟩ := f0
    have p0 : 0 ≤ s.w * s.d := Int.mul_nonneg (by omega) (by omega)
    by_cases f2 : (n : Int) = s.w * s.d
    · by_cases hall : ∀ i, i < n → ∀ x, l[i]? = some x → okX (limZ s.kd) x
      · rw [decide_eq_true (show valC s l from ⟨f1, hk, by rw [hn]; exact f2, fun x hx => by
          obtain ⟨i, hi⟩ := List.mem_iff_getElem?.1 hx
          have := (List.getElem?_eq_some_iff.1 hi).1
          exact hall i (by omega) x hi⟩)]
        generalize limZ s.kd = lim at hl hall
        obtain ⟨nm, sr, col, kd, w, d⟩ := s
        simp only [Sk.c] at *
        refine ac_enter tabOk (sz := 31) Try.func42 rfl (by rw [Try.ntmps42]; rfl) ?_
        repeat' (first
    | ((with_reducible refine aw_seqk ?_); intro K hK hX)
    | ((with_reducible refine isC_reg ?_); refine aw_prune [0, 1, 2, 3, 4, 5, 7, 8] rfl rfl ?_; with_reducible refine aw_region ?_)
    | ((with_reducible refine isA_call ?_); (first | refine zA ?_ | refine zN ?_); (first | refine c0 (hf) ?_ | refine c0 (hl) ?_))
    | ((first | with_reducible refine isA_call ?_ | with_reducible refine isA_callv ?_); refine awl_inl tabOk [0, 1, 2, 3, 4, 5, 6, 7, 8, 9, 10, 11, 12, 13, 14, 15, 16, 17, 18, 19, 20, 21, 22, 23, 24, 25, 26, 27, 28, 29, 30] (by first | exact g_none | exact (g_some rfl rfl (by first | rfl | assumption | exact gd1 (by omega) | exact gd2 (by omega) | exact gd3 (by omega) | exact gd4 (by omega) | (simp only [*] <;> fail) | fail))) rfl rfl (by unfold Body; kernel_rfl) Try.func95 rfl rfl rfl (szf := 9) (by rw [Try.ntmps95]; rfl) rfl ?_)
    | ((first | with_reducible refine isA_call ?_ | with_reducible refine isA_callv ?_); refine awl_inl tabOk [0, 1, 2, 3, 4, 5, 6, 7, 8, 9, 10, 11, 12, 13, 14, 15, 16, 17, 18, 19, 20, 21, 22, 23, 24, 25, 26, 27, 28, 29, 30] (by first | exact g_none | exact (g_some rfl rfl (by first | rfl | assumption | exact gd1 (by omega) | exact gd2 (by omega) | exact gd3 (by omega) | exact gd4 (by omega) | (simp only [*] <;> fail) | fail))) rfl rfl (by unfold Body; kernel_rfl) Try.func129 rfl rfl rfl (szf := 19) (by rw [Try.ntmps129]; rfl) rfl ?_)
    | ((first | with_reducible refine isA_call ?_ | with_reducible refine isA_callv ?_); refine awl_inl tabOk [0, 1, 2, 3, 4, 5, 6, 7, 8, 9, 10, 11, 12, 13, 14, 15, 16, 17, 18, 19, 20, 21, 22, 23, 24, 25, 26, 27, 28, 29, 30] (by first | exact g_none | exact (g_some rfl rfl (by first | rfl | assumption | exact gd1 (by omega) | exact gd2 (by omega) | exact gd3 (by omega) | exact gd4 (by omega) | (simp only [*] <;> fail) | fail))) rfl rfl (by unfold Body; kernel_rfl) Try.func96 rfl rfl rfl (szf := 11) (by rw [Try.ntmps96]; rfl) rfl ?_)
    | refine stA ?_
    | (refine hK _ _ _ _ ?_; clear hK hX K)
    | (refine hX _ _ _ _ _ (by simp) ?_; clear hK hX K)
    | (first | refine inK_some (by first | exact .inl rfl | exact .inr rfl) (by exact trivial) rfl rfl (ResL.one (ResA.tmp rfl)) ?_ | refine inK_none (by first | exact .inl rfl | exact .inr rfl) (by exact trivial) rfl rfl (ResL.one (ResA.tmp rfl)) ?_))
        refine aw_loopo [5, 6, 8] [] rfl rfl (fun i : Nat => [(8, .c (iv i))]) (fun i => []) (fun i => i ≤ n) (fun i => n - i) 0 (by omega) weakA ?_
        intro i hi K hK hX
        by_cases hlt : i < n
        · obtain ⟨x, hx⟩ : ∃ x, l[i]? = some x := ⟨l[i]'(by omega), List.getElem?_eq_getElem _⟩
          obtain ⟨x1, x2⟩ := hall i hlt x hx
          have hxa := intc_at hx
          clear hf hl
          repeat' (first
    | ((with_reducible refine aw_seqk ?_); intro K hK hX)
    | ((with_reducible refine isC_reg ?_); refine aw_prune [0, 1, 2, 3, 4, 5, 7, 8] rfl rfl ?_; with_reducible refine aw_region ?_)
    | ((first | with_reducible refine isA_call ?_ | with_reducible refine isA_callv ?_); refine awl_inl tabOk [0, 1, 2, 3, 4, 5, 6, 7, 8, 9, 10, 11, 12, 13, 14, 15, 16, 17, 18, 19, 20, 21, 22, 23, 24, 25, 26, 27, 28, 29, 30] g_none rfl rfl (by unfold Body; kernel_rfl) Try.func95 rfl rfl rfl (szf := 9) (by rw [Try.ntmps95]; rfl) rfl ?_)
    | ((first | with_reducible refine isA_call ?_ | with_reducible refine isA_callv ?_); refine awl_inl tabOk [0, 1, 2, 3, 4, 5, 6, 7, 8, 9, 10, 11, 12, 13, 14, 15, 16, 17, 18, 19, 20, 21, 22, 23, 24, 25, 26, 27, 28, 29, 30] g_none rfl rfl (by unfold Body; kernel_rfl) Try.func129 rfl rfl rfl (szf := 19) (by rw [Try.ntmps129]; rfl) rfl ?_)
    | ((first | with_reducible refine isA_call ?_ | with_reducible refine isA_callv ?_); refine awl_inl tabOk [0, 1, 2, 3, 4, 5, 6, 7, 8, 9, 10, 11, 12, 13, 14, 15, 16, 17, 18, 19, 20, 21, 22, 23, 24, 25, 26, 27, 28, 29, 30] g_none rfl rfl (by unfold Body; kernel_rfl) Try.func96 rfl rfl rfl (szf := 11) (by rw [Try.ntmps96]; rfl) rfl ?_)
    | (((with_reducible refine isA_any ?_); refine xA ?_); (first | ((with_reducible refine e_load ?_); (first | refine ex_i (s_load1 tabOk rfl rfl rfl rfl (by (rw [Nat.mul_one]; exact hxa))) ?_ | refine ex_i (s_load1r tabOk rfl rfl rfl rfl (by (rw [Nat.mul_one]; exact hxa))) ?_ | refine ex_i (s_load1i tabOk rfl rfl rfl (by (rw [Nat.mul_one]; exact hxa))) ?_)) | ((with_reducible refine e_ix ?_); (first | refine ex_i (s_ixV1 tabOk rfl rfl zcj rfl rfl rfl rfl rfl zle (by (rw [Nat.mul_one]; exact hxa))) ?_ | refine ex_i (s_ixStr tabOk rfl rfl zcj rfl rfl (by (rw [Nat.mul_one]; exact hxa))) ?_))))
    | refine stA ?_
    | (refine hK _ _ _ _ ?_; clear hK hX K)
    | (refine hX _ _ _ _ _ (by simp) ?_; clear hK hX K)
    | (first | refine inK_some (by first | exact .inl rfl | exact .inr rfl) (by exact trivial) rfl rfl (ResL.one (ResA.tmp rfl)) ?_ | refine inK_none (by first | exact .inl rfl | exact .inr rfl) (by exact trivial) rfl rfl (ResL.one (ResA.tmp rfl)) ?_))
          exact ⟨i + 1, by omega, by omega, weakA⟩
        · clear hf hl
          repeat' (first
    | ((with_reducible refine aw_seqk ?_); intro K hK hX)
    | ((with_reducible refine isC_reg ?_); refine aw_prune [0, 1, 2, 3, 4, 5, 7, 8] rfl rfl ?_; with_reducible refine aw_region ?_)
    | ((first | with_reducible refine isA_call ?_ | with_reducible refine isA_callv ?_); refine awl_inl tabOk [0, 1, 2, 3, 4, 5, 6, 7, 8, 9, 10, 11, 12, 13, 14, 15, 16, 17, 18, 19, 20, 21, 22, 23, 24, 25, 26, 27, 28, 29, 30] g_none rfl rfl (by unfold Body; kernel_rfl) Try.func95 rfl rfl rfl (szf := 9) (by rw [Try.ntmps95]; rfl) rfl ?_)
    | ((first | with_reducible refine isA_call ?_ | with_reducible refine isA_callv ?_); refine awl_inl tabOk [0, 1, 2, 3, 4, 5, 6, 7, 8, 9, 10, 11, 12, 13, 14, 15, 16, 17, 18, 19, 20, 21, 22, 23, 24, 25, 26, 27, 28, 29, 30] g_none rfl rfl (by unfold Body; kernel_rfl) Try.func129 rfl rfl rfl (szf := 19) (by rw [Try.ntmps129]; rfl) rfl ?_)
    | ((first | with_reducible refine isA_call ?_ | with_reducible refine isA_callv ?_); refine awl_inl tabOk [0, 1, 2, 3, 4, 5, 6, 7, 8, 9, 10, 11, 12, 13, 14, 15, 16, 17, 18, 19, 20, 21, 22, 23, 24, 25, 26, 27, 28, 29, 30] g_none rfl rfl (by unfold Body; kernel_rfl) Try.func96 rfl rfl rfl (szf := 11) (by rw [Try.ntmps96]; rfl) rfl ?_)
    | refine stA ?_
    | (refine hK _ _ _ _ ?_; clear hK hX K)
    | (refine hX _ _ _ _ _ (by simp) ?_; clear hK hX K)
    | (first | refine inK_some (by first | exact .inl rfl | exact .inr rfl) (by exact trivial) rfl rfl (ResL.one (ResA.tmp rfl)) ?_ | refine inK_none (by first | exact .inl rfl | exact .inr rfl) (by exact trivial) rfl rfl (ResL.one (ResA.tmp rfl)) ?_))
          refine retK_mk (by first | exact .inl rfl | exact .inr rfl) (by exact ⟨va_idle, va_idle_b, trivial⟩) rfl (ResL.one (ResA.tmp rfl)) (by first | exact out_c zfz | exact out_own rfl rfl)
      · obtain ⟨q, hq, hbad, hgood⟩ := first_bad hall
        rw [decide_eq_false (show ¬ valC s l from fun h => hbad fun x hx => h.2.2.2 x (List.mem_of_getElem? hx))]
        generalize limZ s.kd = lim at hl hbad hgood
        obtain ⟨nm, sr, col, kd, w, d⟩ := s
        simp only [Sk.c] at *
        refine ac_enter tabOk (sz := 31) Try.func42 rfl (by rw [Try.ntmps42]; rfl) ?_
        repeat' (first
    | ((with_reducible refine aw_seqk ?_); intro K hK hX)
    | ((with_reducible refine isC_reg ?_); refine aw_prune [0, 1, 2, 3, 4, 5, 7, 8] rfl rfl ?_; with_reducible refine aw_region ?_)
    | ((with_reducible refine isA_call ?_); (first | refine zA ?_ | refine zN ?_); (first | refine c0 (hf) ?_ | refine c0 (hl) ?_))
    | ((first | with_reducible refine isA_call ?_ | with_reducible refine isA_callv ?_); refine awl_inl tabOk [0, 1, 2, 3, 4, 5, 6, 7, 8, 9, 10, 11, 12, 13, 14, 15, 16, 17, 18, 19, 20, 21, 22, 23, 24, 25, 26, 27, 28, 29, 30] (by first | exact g_none | exact (g_some rfl rfl (by first | rfl | assumption | exact gd1 (by omega) | exact gd2 (by omega) | exact gd3 (by omega) | exact gd4 (by omega) | (simp only [*] <;> fail) | fail))) rfl rfl (by unfold Body; kernel_rfl) Try.func95 rfl rfl rfl (szf := 9) (by rw [Try.ntmps95]; rfl) rfl ?_)
    | ((first | with_reducible refine isA_call ?_ | with_reducible refine isA_callv ?_); refine awl_inl tabOk [0, 1, 2, 3, 4, 5, 6, 7, 8, 9, 10, 11, 12, 13, 14, 15, 16, 17, 18, 19, 20, 21, 22, 23, 24, 25, 26, 27, 28, 29, 30] (by first | exact g_none | exact (g_some rfl rfl (by first | rfl | assumption | exact gd1 (by omega) | exact gd2 (by omega) | exact gd3 (by omega) | exact gd4 (by omega) | (simp only [*] <;> fail) | fail))) rfl rfl (by unfold Body; kernel_rfl) Try.func129 rfl rfl rfl (szf := 19) (by rw [Try.ntmps129]; rfl) rfl ?_)
    | ((first | with_reducible refine isA_call ?_ | with_reducible refine isA_callv ?_); refine awl_inl tabOk [0, 1, 2, 3, 4, 5, 6, 7, 8, 9, 10, 11, 12, 13, 14, 15, 16, 17, 18, 19, 20, 21, 22, 23, 24, 25, 26, 27, 28, 29, 30] (by first | exact g_none | exact (g_some rfl rfl (by first | rfl | assumption | exact gd1 (by omega) | exact gd2 (by omega) | exact gd3 (by omega) | exact gd4 (by omega) | (simp only [*] <;> fail) | fail))) rfl rfl (by unfold Body; kernel_rfl) Try.func96 rfl rfl rfl (szf := 11) (by rw [Try.ntmps96]; rfl) rfl ?_)
    | refine stA ?_
    | (refine hK _ _ _ _ ?_; clear hK hX K)
    | (refine hX _ _ _ _ _ (by simp) ?_; clear hK hX K)
    | (first | refine inK_some (by first | exact .inl rfl | exact .inr rfl) (by exact trivial) rfl rfl (ResL.one (ResA.tmp rfl)) ?_ | refine inK_none (by first | exact .inl rfl | exact .inr rfl) (by exact trivial) rfl rfl (ResL.one (ResA.tmp rfl)) ?_))
        refine aw_loopo [5, 6, 8] [] rfl rfl (fun i : Nat => [(8, .c (iv i))]) (fun i => []) (fun i => i ≤ q) (fun i => q - i) 0 (by omega) weakA ?_
        intro i hi K hK hX
        have hin : i < n := by omega
        obtain ⟨x, hx⟩ : ∃ x, l[i]? = some x := ⟨l[i]'(by omega), List.getElem?_eq_getElem _⟩
        have hxa := intc_at hx
        by_cases hlt : i < q
        · obtain ⟨x1, x2⟩ := hgood i hlt x hx
          clear hf hl hbad hgood
          repeat' (first
    | ((with_reducible refine aw_seqk ?_); intro K hK hX)
    | ((with_reducible refine isC_reg ?_); refine aw_prune [0, 1, 2, 3, 4, 5, 7, 8] rfl rfl ?_; with_reducible refine aw_region ?_)
    | ((first | with_reducible refine isA_call ?_ | with_reducible refine isA_callv ?_); refine awl_inl tabOk [0, 1, 2, 3, 4, 5, 6, 7, 8, 9, 10, 11, 12, 13, 14, 15, 16, 17, 18, 19, 20, 21, 22, 23, 24, 25, 26, 27, 28, 29, 30] g_none rfl rfl (by unfold Body; kernel_rfl) Try.func95 rfl rfl rfl (szf := 9) (by rw [Try.ntmps95]; rfl) rfl ?_)
    | ((first | with_reducible refine isA_call ?_ | with_reducible refine isA_callv ?_); refine awl_inl tabOk [0, 1, 2, 3, 4, 5, 6, 7, 8, 9, 10, 11, 12, 13, 14, 15, 16, 17, 18, 19, 20, 21, 22, 23, 24, 25, 26, 27, 28, 29, 30] g_none rfl rfl (by unfold Body; kernel_rfl) Try.func129 rfl rfl rfl (szf := 19) (by rw [Try.ntmps129]; rfl) rfl ?_)
    | ((first | with_reducible refine isA_call ?_ | with_reducible refine isA_callv ?_); refine awl_inl tabOk [0, 1, 2, 3, 4, 5, 6, 7, 8, 9, 10, 11, 12, 13, 14, 15, 16, 17, 18, 19, 20, 21, 22, 23, 24, 25, 26, 27, 28, 29, 30] g_none rfl rfl (by unfold Body; kernel_rfl) Try.func96 rfl rfl rfl (szf := 11) (by rw [Try.ntmps96]; rfl) rfl ?_)
    | (((with_reducible refine isA_any ?_); refine xA ?_); (first | ((with_reducible refine e_load ?_); (first | refine ex_i (s_load1 tabOk rfl rfl rfl rfl (by (rw [Nat.mul_one]; exact hxa))) ?_ | refine ex_i (s_load1r tabOk rfl rfl rfl rfl (by (rw [Nat.mul_one]; exact hxa))) ?_ | refine ex_i (s_load1i tabOk rfl rfl rfl (by (rw [Nat.mul_one]; exact hxa))) ?_)) | ((with_reducible refine e_ix ?_); (first | refine ex_i (s_ixV1 tabOk rfl rfl zcj rfl rfl rfl rfl rfl zle (by (rw [Nat.mul_one]; exact hxa))) ?_ | refine ex_i (s_ixStr tabOk rfl rfl zcj rfl rfl (by (rw [Nat.mul_one]; exact hxa))) ?_))))
    | refine stA ?_
    | (refine hK _ _ _ _ ?_; clear hK hX K)
    | (refine hX _ _ _ _ _ (by simp) ?_; clear hK hX K)
    | (first | refine inK_some (by first | exact .inl rfl | exact .inr rfl) (by exact trivial) rfl rfl (ResL.one (ResA.tmp rfl)) ?_ | refine inK_none (by first | exact .inl rfl | exact .inr rfl) (by exact trivial) rfl rfl (ResL.one (ResA.tmp rfl)) ?_))
          exact ⟨i + 1, by omega, by omega, weakA⟩
        · have hiq : i = q := by omega
          have hnx : ¬ okX lim x := fun h => hbad fun y hy => by
            rw [← hiq, hx] at hy; injection hy with hy; subst hy; exact h
          clear hf hl hbad hgood
          by_cases x1 : x < 0
          · repeat' (first
    | ((with_reducible refine aw_seqk ?_); intro K hK hX)
    | ((with_reducible refine isC_reg ?_); refine aw_prune [0, 1, 2, 3, 4, 5, 7, 8] rfl rfl ?_; with_reducible refine aw_region ?_)
    | ((first | with_reducible refine isA_call ?_ | with_reducible refine isA_callv ?_); refine awl_inl tabOk [0, 1, 2, 3, 4, 5, 6, 7, 8, 9, 10, 11, 12, 13, 14, 15, 16, 17, 18, 19, 20, 21, 22, 23, 24, 25, 26, 27, 28, 29, 30] g_none rfl rfl (by unfold Body; kernel_rfl) Try.func95 rfl rfl rfl (szf := 9) (by rw [Try.ntmps95]; rfl) rfl ?_)
    | ((first | with_reducible refine isA_call ?_ | with_reducible refine isA_callv ?_); refine awl_inl tabOk [0, 1, 2, 3, 4, 5, 6, 7, 8, 9, 10, 11, 12, 13, 14, 15, 16, 17, 18, 19, 20, 21, 22, 23, 24, 25, 26, 27, 28, 29, 30] g_none rfl rfl (by unfold Body; kernel_rfl) Try.func129 rfl rfl rfl (szf := 19) (by rw [Try.ntmps129]; rfl) rfl ?_)
    | ((first | with_reducible refine isA_call ?_ | with_reducible refine isA_callv ?_); refine awl_inl tabOk [0, 1, 2, 3, 4, 5, 6, 7, 8, 9, 10, 11, 12, 13, 14, 15, 16, 17, 18, 19, 20, 21, 22, 23, 24, 25, 26, 27, 28, 29, 30] g_none rfl rfl (by unfold Body; kernel_rfl) Try.func96 rfl rfl rfl (szf := 11) (by rw [Try.ntmps96]; rfl) rfl ?_)
    | (((with_reducible refine isA_any ?_); refine xA ?_); (first | ((with_reducible refine e_load ?_); (first | refine ex_i (s_load1 tabOk rfl rfl rfl rfl (by (rw [Nat.mul_one]; exact hxa))) ?_ | refine ex_i (s_load1r tabOk rfl rfl rfl rfl (by (rw [Nat.mul_one]; exact hxa))) ?_ | refine ex_i (s_load1i tabOk rfl rfl rfl (by (rw [Nat.mul_one]; exact hxa))) ?_)) | ((with_reducible refine e_ix ?_); (first | refine ex_i (s_ixV1 tabOk rfl rfl zcj rfl rfl rfl rfl rfl zle (by (rw [Nat.mul_one]; exact hxa))) ?_ | refine ex_i (s_ixStr tabOk rfl rfl zcj rfl rfl (by (rw [Nat.mul_one]; exact hxa))) ?_))))
    | refine stA ?_
    | (refine hK _ _ _ _ ?_; clear hK hX K)
    | (refine hX _ _ _ _ _ (by simp) ?_; clear hK hX K)
    | (first | refine inK_some (by first | exact .inl rfl | exact .inr rfl) (by exact trivial) rfl rfl (ResL.one (ResA.tmp rfl)) ?_ | refine inK_none (by first | exact .inl rfl | exact .inr rfl) (by exact trivial) rfl rfl (ResL.one (ResA.tmp rfl)) ?_))
            refine retK_mk (by first | exact .inl rfl | exact .inr rfl) (by exact ⟨va_idle, va_idle_b, trivial⟩) rfl (ResL.one (ResA.tmp rfl)) (by first | exact out_c zfz | exact out_own rfl rfl)
          · have x2 : lim < x := Classical.byContradiction fun h => hnx ⟨by omega, by omega⟩
            repeat' (first
    | ((with_reducible refine aw_seqk ?_); intro K hK hX)
    | ((with_reducible refine isC_reg ?_); refine aw_prune [0, 1, 2, 3, 4, 5, 7, 8] rfl rfl ?_; with_reducible refine aw_region ?_)
    | ((first | with_reducible refine isA_call ?_ | with_reducible refine isA_callv ?_); refine awl_inl tabOk [0, 1, 2, 3, 4, 5, 6, 7, 8, 9, 10, 11, 12, 13, 14, 15, 16, 17, 18, 19, 20, 21, 22, 23, 24, 25, 26, 27, 28, 29, 30] g_none rfl rfl (by unfold Body; kernel_rfl) Try.func95 rfl rfl rfl (szf := 9) (by rw [Try.ntmps95]; rfl) rfl ?_)
    | ((first | with_reducible refine isA_call ?_ | with_reducible refine isA_callv ?_); refine awl_inl tabOk [0, 1, 2, 3, 4, 5, 6, 7, 8, 9, 10, 11, 12, 13, 14, 15, 16, 17, 18, 19, 20, 21, 22, 23, 24, 25, 26, 27, 28, 29, 30] g_none rfl rfl (by unfold Body; kernel_rfl) Try.func129 rfl rfl rfl (szf := 19) (by rw [Try.ntmps129]; rfl) rfl ?_)
    | ((first | with_reducible refine isA_call ?_ | with_reducible refine isA_callv ?_); refine awl_inl tabOk [0, 1, 2, 3, 4, 5, 6, 7, 8, 9, 10, 11, 12, 13, 14, 15, 16, 17, 18, 19, 20, 21, 22, 23, 24, 25, 26, 27, 28, 29, 30] g_none rfl rfl (by unfold Body; kernel_rfl) Try.func96 rfl rfl rfl (szf := 11) (by rw [Try.ntmps96]; rfl) rfl ?_)
    | (((with_reducible refine isA_any ?_); refine xA ?_); (first | ((with_reducible refine e_load ?_); (first | refine ex_i (s_load1 tabOk rfl rfl rfl rfl (by (rw [Nat.mul_one]; exact hxa))) ?_ | refine ex_i (s_load1r tabOk rfl rfl rfl rfl (by (rw [Nat.mul_one]; exact hxa))) ?_ | refine ex_i (s_load1i tabOk rfl rfl rfl (by (rw [Nat.mul_one]; exact hxa))) ?_)) | ((with_reducible refine e_ix ?_); (first | refine ex_i (s_ixV1 tabOk rfl rfl zcj rfl rfl rfl rfl rfl zle (by (rw [Nat.mul_one]; exact hxa))) ?_ | refine ex_i (s_ixStr tabOk rfl rfl zcj rfl rfl (by (rw [Nat.mul_one]; exact hxa))) ?_))))
    | refine stA ?_
    | (refine hK _ _ _ _ ?_; clear hK hX K)
    | (refine hX _ _ _ _ _ (by simp) ?_; clear hK hX K)
    | (first | refine inK_some (by first | exact .inl rfl | exact .inr rfl) (by exact trivial) rfl rfl (ResL.one (ResA.tmp rfl)) ?_ | refine inK_none (by first | exact .inl rfl | exact .inr rfl) (by exact trivial) rfl rfl (ResL.one (ResA.tmp rfl)) ?_))
            refine retK_mk (by first | exact .inl rfl | exact .inr rfl) (by exact ⟨va_idle, va_idle_b, trivial⟩) rfl (ResL.one (ResA.tmp rfl)) (by first | exact out_c zfz | exact out_own rfl rfl)
    · rw [decide_eq_false (show ¬ valC s l from fun h => f2 (by rw [← hn]; exact h.2.2.1))]
      obtain ⟨nm, sr, col, kd, w, d⟩ := s
      simp only [Sk.c] at *
      refine ac_enter tabOk (sz := 31) Try.func42 rfl (by rw [Try.ntmps42]; rfl) ?_
      repeat' (first
    | ((with_reducible refine aw_seqk ?_); intro K hK hX)
    | ((with_reducible refine isC_reg ?_); refine aw_prune [0, 1, 2, 4, 5] rfl rfl ?_; with_reducible refine aw_region ?_)
    | ((with_reducible refine isA_call ?_); (first | refine zA ?_ | refine zN ?_); (first | refine c0 (hf) ?_ | refine c0 (hl) ?_))
    | refine stA ?_
    | (refine hK _ _ _ _ ?_; clear hK hX K)
    | (refine hX _ _ _ _ _ (by simp) ?_; clear hK hX K))
      refine retK_mk (by first | exact .inl rfl | exact .inr rfl) (by exact ⟨va_idle, va_idle_b, trivial⟩) rfl (ResL.one (ResA.tmp rfl)) (by first | exact out_c zfz | exact out_own rfl rfl)
  · rw [form_f f1] at hf
    rw [decide_eq_false (show ¬ valC s l from fun h => f1 h.1)]
    obtain ⟨nm, sr, col, kd, w, d⟩ := s
    simp only [Sk.c] at *
    refine ac_enter tabOk (sz := 31) Try.func42 rfl (by rw [Try.ntmps42]; rfl) ?_
    repeat' (first
    | ((with_reducible refine aw_seqk ?_); intro K hK hX)
    | ((with_reducible refine isC_reg ?_); refine aw_prune [0, 1, 2, 4, 5] rfl rfl ?_; with_reducible refine aw_region ?_)
    | ((with_reducible refine isA_call ?_); (first | refine zA ?_ | refine zN ?_); (first | refine c0 (hf) ?_))
    | refine stA ?_
    | (refine hK _ _ _ _ ?_; clear hK hX K)
    | (refine hX _ _ _ _ _ (by simp) ?_; clear hK hX K))
    refine retK_mk (by first | exact .inl rfl | exact .inr rfl) (by exact ⟨va_idle, va_idle_b, trivial⟩) rfl (ResL.one (ResA.tmp rfl)) (by first | exact out_c zfz | exact out_own rfl rfl)
end Go.Proofs.Ytccnhpaldmjkbaa
/-
  Clone, estimates, and sketches that are built (walk), as the program has them.
-/
set_option linter.unusedVariables false
set_option linter.unusedSimpArgs false
namespace Go.Proofs.Ytccnhpaldmjkbaa
open Go Go.RowKit Go.Av
set_option maxRecDepth 100000
section
variable {P : Program} {tab : Tab} {ev : Evl} {h : Heap} {d : Option Tmp} {T T' ty : TypeId} {x y : Operand} {pos : String} {aft : Array Edge} {gd : Option (Nat × Bool)}
theorem s_eqnilC (tb : TabOk P tab) {e : TyE} {E size n : Nat} {cs : List CV} (hn : 0 < n) (hT : tyLook tab T = some e) (hk : e.kind = .slice E) (hx : ev x = some (.c (.sl size n cs))) (hy : ev y = some (.c (.v (.slice none 0 0)))) : Still P ⟨d, .binOp .eql T x y T', ty, pos, aft, gd⟩ ev h (.c (bv false)) := by
  intro B dom M H w a hh hc he
  have h1 := he x _ hx
  have h2 := he y _ hy
  simp only [Rep, RepC] at h1 h2
  obtain ⟨A, c, us, e1, e2, e3, e4, e5, e7, e6⟩ := h1
  obtain ⟨b, o, rfl, _⟩ := e6 hn
  refine ⟨.bool false, ?_, rfl⟩
  have hr := run_equal_slice_nil (P := P) w T E (some ⟨b, o, none⟩) n c ((tyLook_ok tb hT).slice hk)
  simp [execOp, e1, h2, eqGuard, binOp, hr]
end
def leastN (l : List Int) (w : Nat) (v : Vl) : Nat → Int
  | 0 => l.getD (placeV w v 0) 0
  | i + 1 => if l.getD (placeV w v i) 0 < leastN l w v i then l.getD (placeV w v i) 0 else leastN l w v i
attribute [local irreducible] Still Adds AWL AW Drw DrwE EStep AC AWR Weak Frz Src RetK Out InK ItK AsK RdK
set_option maxHeartbeats 4000000 in
theorem clone64_ok (l : List Int) (n : Nat) (hn : l.length = n) (hp : 0 < n) (hb : n ≤ 1000000) : AC Try.prog 88 [.sl 1 n (intc .i64 l)] (.own 0 0 n 1 true) [(0, .row 2 (intc .i64 l))] 1 := by
  have hil : (intc .i64 l).length = n := by rw [intc_length, hn]
  refine ac_enter tabOk (sz := 8) Try.func88 rfl (by rw [Try.ntmps88]; rfl) ?_
  repeat' (first
    | ((with_reducible refine aw_seqk ?_); intro K hK hX)
    | ((with_reducible refine isC_reg ?_); refine aw_prune [0, 2] rfl rfl ?_; with_reducible refine aw_region ?_)
    | (((with_reducible refine isA_any ?_); refine xA ?_); (first | ((with_reducible refine e_bin ?_); (first | refine ex_i (s_eqnilC tabOk hp rfl rfl rfl rfl) ?_))))
    | refine stA ?_
    | (refine hK _ _ _ _ ?_; clear hK hX K)
    | (refine hX _ _ _ _ _ (by simp) ?_; clear hK hX K))
  rw [Nat.zero_add n, List.nil_append]
  refine retK_mk (by first | exact .inl rfl | exact .inr rfl) (by exact trivial) rfl (ResL.one (ResA.tmp rfl)) (by first | exact out_c zfz | exact out_own rfl rfl)
theorem getD_at {l : List Int} {i : Nat} (h : i < l.length) : l[i]? = some (l.getD i 0) := by
  rw [List.getD_eq_getElem?_getD, List.getElem?_eq_getElem h]; rfl
set_option maxHeartbeats 4000000 in
theorem least_ok (nm sr : List UInt8) (col kd : Int) (w d : Nat) (v : Vl) (l : List Int) (n : Nat) (hn : l.length = n) (hw : 0 < w) (hw2 : w ≤ 1024) (hd : 0 < d) (hd2 : d ≤ 8) (hwd : n = w * d) : AC Try.prog 89 [.agg [sv nm, sv sr, iv col, iv kd, iv w, iv d], .sl 1 n (intc .i64 l), .agg v.c] (.c (iv (leastN l w v d))) [] 0 := by
  have hil : (intc .i64 l).length = n := by rw [intc_length, hn]
  obtain ⟨g, hg⟩ : ∃ g : Nat → Int, ∀ i, g i = l.getD (placeV w v i) 0 := ⟨_, fun _ => rfl⟩
  have hat : ∀ i, i < d → (intc .i64 l)[placeV w v i]? = some (iv (g i)) := fun i h => by
    rw [hg]
    have := placeV_lt (d := d) v hw h
    exact intc_at (getD_at (by omega))
  have hpl := fun (row : Nat) (h : row < 256) => place_ok nm sr col kd w d v row hw hw2 h
  have hlt : ∀ i, i < d → placeV w v i < n := fun i h => by rw [hwd]; exact placeV_lt v hw h
  have e0 : leastN l w v 0 = g 0 := (hg 0).symm
  have es : ∀ i, (if g i < leastN l w v i then g i else leastN l w v i) = leastN l w v (i + 1) := fun i => by rw [hg]; rfl
  generalize placeV w v = pl at *
  generalize leastN l w v = le at *
  obtain ⟨a, m, b⟩ := v
  simp only [Vl.c] at *
  have h0 := hpl 0 (by decide)
  have a0 := hat 0 hd
  have p0 := hlt 0 hd
  rw [← e0] at a0
  refine ac_enter tabOk (sz := 31) Try.func89 rfl (by rw [Try.ntmps89]; rfl) ?_
  repeat' (first
    | ((with_reducible refine aw_seqk ?_); intro K hK hX)
    | ((with_reducible refine isC_reg ?_); refine aw_prune [0, 1, 2, 3, 5, 6, 7, 8, 16, 17] rfl rfl ?_; with_reducible refine aw_region ?_)
    | ((with_reducible refine isA_call ?_); (first | refine zA ?_ | refine zN ?_); (first | refine c0 (h0) ?_))
    | (((with_reducible refine isA_any ?_); refine xA ?_); (first | ((with_reducible refine e_load ?_); (first | refine ex_i (s_load1 tabOk rfl rfl rfl rfl (by (rw [Nat.mul_one]; exact a0))) ?_ | refine ex_i (s_load1r tabOk rfl rfl rfl rfl (by (rw [Nat.mul_one]; exact a0))) ?_ | refine ex_i (s_load1i tabOk rfl rfl rfl (by (rw [Nat.mul_one]; exact a0))) ?_)) | ((with_reducible refine e_ix ?_); (first | refine ex_i (s_ixV1 tabOk rfl rfl zcj rfl rfl rfl rfl rfl zle (by (rw [Nat.mul_one]; exact a0))) ?_ | refine ex_i (s_ixStr tabOk rfl rfl zcj rfl rfl (by (rw [Nat.mul_one]; exact a0))) ?_))))
    | refine stA ?_
    | (refine hK _ _ _ _ ?_; clear hK hX K)
    | (refine hX _ _ _ _ _ (by simp) ?_; clear hK hX K))
  refine aw_loopo [7, 8, 15, 17] [] rfl rfl (fun i : Nat => [(7, .c (iv (le i))), (17, .c (iv i))]) (fun i => []) (fun i => i ≤ d) (fun i => d - i) 0 (by omega) weakA ?_
  intro i hi K hK hX
  by_cases hld : i < d
  · have hi0 := hpl i (by omega)
    have ai := hat i hld
    have pi := hlt i hld
    have ei := es i
    generalize g i = gi at ai ei
    clear hpl hat hlt es e0 hg
    repeat' (first
    | ((with_reducible refine aw_seqk ?_); intro K hK hX)
    | ((with_reducible refine isC_reg ?_); refine aw_prune [0, 1, 2, 3, 5, 6, 7, 8, 16, 17] rfl rfl ?_; with_reducible refine aw_region ?_)
    | ((with_reducible refine isA_call ?_); (first | refine zA ?_ | refine zN ?_); (first | refine c0 (hi0) ?_))
    | (((with_reducible refine isA_any ?_); refine xA ?_); (first | ((with_reducible refine e_bi ?_); (first | refine ex_i (s_min rfl rfl ei) ?_)) | ((with_reducible refine e_load ?_); (first | refine ex_i (s_load1 tabOk rfl rfl rfl rfl (by (rw [Nat.mul_one]; exact ai))) ?_ | refine ex_i (s_load1r tabOk rfl rfl rfl rfl (by (rw [Nat.mul_one]; exact ai))) ?_ | refine ex_i (s_load1i tabOk rfl rfl rfl (by (rw [Nat.mul_one]; exact ai))) ?_)) | ((with_reducible refine e_ix ?_); (first | refine ex_i (s_ixV1 tabOk rfl rfl zcj rfl rfl rfl rfl rfl zle (by (rw [Nat.mul_one]; exact ai))) ?_ | refine ex_i (s_ixStr tabOk rfl rfl zcj rfl rfl (by (rw [Nat.mul_one]; exact ai))) ?_))))
    | refine stA ?_
    | (refine hK _ _ _ _ ?_; clear hK hX K)
    | (refine hX _ _ _ _ _ (by simp) ?_; clear hK hX K))
    exact ⟨i + 1, by omega, by omega, weakA⟩
  · have hid : i = d := by omega
    rw [hid]
    repeat' (first
    | ((with_reducible refine aw_seqk ?_); intro K hK hX)
    | ((with_reducible refine isC_reg ?_); refine aw_prune [0, 1, 2, 3, 5, 6, 7, 8, 16, 17] rfl rfl ?_; with_reducible refine aw_region ?_)
    | refine stA ?_
    | (refine hK _ _ _ _ ?_; clear hK hX K)
    | (refine hX _ _ _ _ _ (by simp) ?_; clear hK hX K))
    refine retK_mk (by first | exact .inl rfl | exact .inr rfl) (by exact trivial) rfl (ResL.one (ResA.tmp rfl)) (by first | exact out_c zfz | exact out_own rfl rfl)
end Go.Proofs.Ytccnhpaldmjkbaa
/-
  Estimates, and sketches that are built (walk), as the program has them.
-/
set_option linter.unusedVariables false
set_option linter.unusedSimpArgs false
namespace Go.Proofs.Ytccnhpaldmjkbaa
open Go Go.RowKit Go.Av
set_option maxRecDepth 100000
def putP (kd : Int) (l : List Int) (p : Nat) (n : Int) : List Int := l.set p (if kd = 0 then l.getD p 0 + n else 1)
def addN (kd : Int) (w : Nat) (v : Vl) (n : Int) (l : List Int) : Nat → List Int
  | 0 => l
  | i + 1 => putP kd (addN kd w v n l i) (placeV w v i) n
def stepE (kd : Int) (w d col : Nat) (l : List Int) (e : En) : List Int := if (cellV e.r col).k = 0 then l else addN kd w (cellV e.r col) e.n l d
def buildN (kd : Int) (w d col : Nat) (b : List En) (i : Nat) : List Int := (b.take i).foldl (stepE kd w d col) (List.replicate (w * d) 0)
theorem buildN_step {kd : Int} {w d col : Nat} {b : List En} {i : Nat} {e : En} (h : b[i]? = some e) : buildN kd w d col b (i + 1) = stepE kd w d col (buildN kd w d col b i) e := by
  unfold buildN
  rw [List.take_add_one, h]
  simp
theorem putP_length (kd : Int) (l : List Int) (p : Nat) (n : Int) : (putP kd l p n).length = l.length := by simp [putP]
theorem addN_length (kd : Int) (w : Nat) (v : Vl) (n : Int) (l : List Int) (i : Nat) : (addN kd w v n l i).length = l.length := by
  induction i with
  | zero => rfl
  | succ i ih => rw [addN, putP_length, ih]
theorem stepE_length (kd : Int) (w d col : Nat) (l : List Int) (e : En) : (stepE kd w d col l e).length = l.length := by
  unfold stepE
  split
  · rfl
  · exact addN_length ..
theorem foldl_length {kd : Int} {w d col : Nat} (b : List En) (l : List Int) : (b.foldl (stepE kd w d col) l).length = l.length := by
  induction b generalizing l with
  | nil => rfl
  | cons e b ih => rw [List.foldl_cons, ih, stepE_length]
theorem buildN_length (kd : Int) (w d col : Nat) (b : List En) (i : Nat) : (buildN kd w d col b i).length = w * d := by
  unfold buildN
  rw [foldl_length, List.length_replicate]
/-- All cells within bounds. -/
def inB (l : List Int) (M : Int) : Prop := ∀ x ∈ l, 0 ≤ x ∧ x ≤ M
theorem getD_inB {l : List Int} {M : Int} (h : inB l M) (hM : 0 ≤ M) (p : Nat) : 0 ≤ l.getD p 0 ∧ l.getD p 0 ≤ M := by
  rw [List.getD_eq_getElem?_getD]
  cases hp : l[p]? with
  | none => exact ⟨Int.le_refl _, hM⟩
  | some x => exact h x (List.mem_of_getElem? hp)
theorem putP_inB {kd : Int} {l : List Int} {M n : Int} {p : Nat} (h : inB l M) (hM : 0 ≤ M) (hn : 0 ≤ n) : inB (putP kd l p n) (M + n + 1) := by
  intro x hx
  rcases List.mem_or_eq_of_mem_set hx with hx | rfl
  · have := h x hx; omega
  · have := getD_inB h hM p
    split <;> omega
theorem addN_inB {kd : Int} {w : Nat} {v : Vl} {l : List Int} {M n : Int} (h : inB l M) (hM : 0 ≤ M) (hn : 0 ≤ n) : ∀ i : Nat, inB (addN kd w v n l i) (M + i * (n + 1))
  | 0 => by simpa [addN] using h
  | i + 1 => by
    have h1 := addN_inB (kd := kd) (w := w) (v := v) h hM hn i
    have h0 : 0 ≤ (i : Int) * (n + 1) := Int.mul_nonneg (by omega) (by omega)
    have := putP_inB (kd := kd) (p := placeV w v i) h1 (by omega) hn
    rw [show M + (i : Int) * (n + 1) + n + 1 = M + ((i + 1 : Nat) : Int) * (n + 1) by push_cast; rw [Int.add_mul]; omega] at this
    exact this
theorem inB_mono {l : List Int} {M M' : Int} (h : inB l M) (hm : M ≤ M') : inB l M' := fun x hx => ⟨(h x hx).1, Int.le_trans (h x hx).2 hm⟩
theorem buildN_inB {kd : Int} {w d col : Nat} {b : List En} (hd : d ≤ 8) (hb : ∀ e ∈ b, 0 ≤ e.n ∧ e.n ≤ 262144) : ∀ i : Nat, i ≤ b.length → inB (buildN kd w d col b i) (i * 2097160)
  | 0, _ => fun x hx => by
    unfold buildN at hx
    simp at hx
    omega
  | i + 1, hi => by
    obtain ⟨e, he⟩ : ∃ e, b[i]? = some e := ⟨b[i]'(by omega), List.getElem?_eq_getElem _⟩
    have hbe := hb e (List.mem_of_getElem? he)
    have ih := buildN_inB (kd := kd) (w := w) (col := col) hd hb i (by omega)
    rw [buildN_step he]
    unfold stepE
    split
    · exact inB_mono ih (by omega)
    · have h1 := addN_inB (kd := kd) (w := w) (v := cellV e.r col) ih (by omega) hbe.1 d
      refine inB_mono h1 ?_
      have : (d : Int) * (e.n + 1) ≤ 8 * 262145 := Int.mul_le_mul (by omega) (by omega) (by omega) (by omega)
      omega
attribute [local irreducible] Still Adds AWL AW Drw DrwE EStep AC AWR Weak Frz Src RetK Out InK ItK AsK RdK
theorem es_idle : Idle Try.prog 90 0 := by
  intro us w hl
  obtain ⟨_, rfl⟩ : ∃ _ : Unit, us = [] := by
    match us, hl with | [], _ => exact ⟨(), rfl⟩
  refine callsD_of_wpS Try.func90 rfl fun c₀ cs hu => ?_
  apply wpS_region
  simp [wpOpsS, go_sem, recoverD, hu, Try.ntmps90, Exit.thenS]
  cases c₀
  simp_all [bodyPostS, results, Try.results90]
theorem es_idle_b : Body Try.prog 90 := by unfold Body; kernel_rfl
theorem rm_idle : Idle Try.prog 86 0 := by
  intro us w hl
  obtain ⟨_, rfl⟩ : ∃ _ : Unit, us = [] := by
    match us, hl with | [], _ => exact ⟨(), rfl⟩
  refine callsD_of_wpS Try.func86 rfl fun c₀ cs hu => ?_
  apply wpS_region
  simp [wpOpsS, go_sem, recoverD, hu, Try.ntmps86, Exit.thenS]
  cases c₀
  simp_all [bodyPostS, results, Try.results86]
theorem rm_idle_b : Body Try.prog 86 := by unfold Body; kernel_rfl
theorem bu_idle : Idle Try.prog 81 0 := by
  intro us w hl
  obtain ⟨_, rfl⟩ : ∃ _ : Unit, us = [] := by
    match us, hl with | [], _ => exact ⟨(), rfl⟩
  refine callsD_of_wpS Try.func81 rfl fun c₀ cs hu => ?_
  apply wpS_region
  simp [wpOpsS, go_sem, recoverD, hu, Try.ntmps81, Exit.thenS]
  cases c₀
  simp_all [bodyPostS, results, Try.results81]
theorem bu_idle_b : Body Try.prog 81 := by unfold Body; kernel_rfl
set_option maxHeartbeats 4000000 in
theorem est_ok (nm sr : List UInt8) (col kd : Int) (w d : Nat) (v : Vl) (l : List Int) (n : Nat) (hn : l.length = n) (hnn : n ≤ maxLen) (hk : kd ≠ 2) (hv : valC ⟨nm, sr, col, kd, w, d⟩ l) (ho : okP v) (hz : v.k ≠ 0) : AC Try.prog 40 [.agg [sv nm, sv sr, iv col, iv kd, iv w, iv d], .sl 1 n (intc .i64 l), .agg v.c] (.c (iv (leastN l w v d))) [] 0 := by
  have hil : (intc .i64 l).length = n := by rw [intc_length, hn]
  obtain ⟨⟨f1, f2, f3, f4, f5, f6⟩, f7, f8, f9⟩ := id hv
  simp only at f1 f2 f3 f4 f5 f6 f7 f8
  have h1 := valc_ok ⟨nm, sr, col, kd, w, d⟩ l n hn hk hnn
  have : ∀ i : Decidable (valC ⟨nm, sr, col, kd, w, d⟩ l), @decide _ i = true := fun i => @decide_eq_true _ i hv
  rw [this] at h1
  have h2 := valid_ok v
  rw [okV_t ho] at h2
  have h3 := least_ok nm sr col kd w d v l n hn (by omega) (by omega) (by omega) (by omega) (by rw [hn] at f8; exact_mod_cast f8)
  generalize leastN l w v d = z at h3 ⊢
  obtain ⟨a, m, b⟩ := v
  simp only [Vl.c, Sk.c] at *
  have hz' : a ≠ 0 := hz
  clear hz
  refine ac_enter tabOk (sz := 32) Try.func40 rfl (by rw [Try.ntmps40]; rfl) ?_
  repeat' (first
    | ((with_reducible refine aw_seqk ?_); intro K hK hX)
    | ((with_reducible refine isC_reg ?_); refine aw_prune [0, 1, 2, 3, 5, 6] rfl rfl ?_; with_reducible refine aw_region ?_)
    | ((with_reducible refine isA_call ?_); (first | refine zA ?_ | refine zN ?_); (first | refine c0 (h1) ?_ | refine c0 (h2) ?_ | refine c0 (h3) ?_))
    | refine stA ?_
    | (refine hK _ _ _ _ ?_; clear hK hX K)
    | (refine hX _ _ _ _ _ (by simp) ?_; clear hK hX K))
  refine retK_mk (by first | exact .inl rfl | exact .inr rfl) (by exact ⟨es_idle, es_idle_b, trivial⟩) rfl (ResL.one (ResA.tmp rfl)) (by first | exact out_c zfz | exact out_own rfl rfl)
set_option maxHeartbeats 4000000 in
theorem rem_state (nm sr : List UInt8) (col : Int) (w d : Nat) (v : Vl) (l : List Int) (n : Nat) (c : Int) (hn : l.length = n) (hp : 0 < n) (hnn : n ≤ 1000000) (hv : valC ⟨nm, sr, col, 1, w, d⟩ l) (ho : okP v) (hz : v.k ≠ 0) (hc1 : 0 < c) (hc2 : c ≤ 262144) : AC Try.prog 38 [.agg [sv nm, sv sr, iv col, iv 1, iv w, iv d], .sl 1 n (intc .i64 l), .agg v.c, iv c] (.tup [.c (.v (.slice none 0 0)), .c (iv 11)]) [] 0 := by
  have hil : (intc .i64 l).length = n := by rw [intc_length, hn]
  have h1 := valc_ok ⟨nm, sr, col, 1, w, d⟩ l n hn (by simp) (by simp only [maxLen]; omega)
  have : ∀ i : Decidable (valC ⟨nm, sr, col, 1, w, d⟩ l), @decide _ i = true := fun i => @decide_eq_true _ i hv
  rw [this] at h1
  have h2 := valid_ok v
  rw [okV_t ho] at h2
  have h3 := clone64_ok l n hn hp hnn
  obtain ⟨a, m, b⟩ := v
  simp only [Vl.c, Sk.c] at *
  have hz' : a ≠ 0 := hz
  clear hz
  refine ac_enter tabOk (sz := 56) Try.func38 rfl (by rw [Try.ntmps38]; rfl) ?_
  repeat' (first
    | ((with_reducible refine aw_seqk ?_); intro K hK hX)
    | ((with_reducible refine isC_reg ?_); refine aw_prune [0, 1, 2, 3, 4, 6, 8, 9, 10] rfl rfl ?_; with_reducible refine aw_region ?_)
    | ((with_reducible refine isA_call ?_); (first | refine zA ?_ | refine zN ?_); (first | refine c0 (h1) ?_ | refine c0 (h2) ?_ | refine c1 (h3) ?_))
    | refine stA ?_
    | (refine hK _ _ _ _ ?_; clear hK hX K)
    | (refine hX _ _ _ _ _ (by simp) ?_; clear hK hX K))
  refine retK_mk (by first | exact .inl rfl | exact .inr rfl) (by exact ⟨rm_idle, rm_idle_b, trivial⟩) rfl (ResL.two (ResA.tmp rfl) (ResA.tmp rfl)) (out_t (frzl_cons zfz (frzl_cons zfz frzl_nil)))
theorem zc_int (n : Nat) : zc [Value.int .i64 0] n = intc .i64 (List.replicate n 0) := by
  induction n with
  | zero => rfl
  | succ n ih =>
    unfold zc at ih ⊢
    rw [List.replicate_succ, List.flatten_cons, ih, List.replicate_succ]
    rfl
theorem intc_set (l : List Int) (p : Nat) (x : Int) : intc .i64 (l.set p x) = (intc .i64 l).set p (iv x) := by simp [intc, List.map_set]
set_option maxHeartbeats 8000000 in
theorem build_ok (nm sr : List UInt8) (col : Nat) (kd : Int) (w d N : Nat) (b : List En) (n : Nat) (hn : b.length = n) (hm : n ≤ maxLen) (hfb : fitB b) (hk : kd ≠ 2) (hf : formP ⟨nm, sr, col, kd, w, d⟩) (hp : posP b) (hcol : (col : Int) ≤ 9223372036854775807) (hN : w * d = N) : AC Try.prog 37 [.agg [sv nm, sv sr, iv col, iv kd, iv w, iv d], .sl 2 n (ec b)] (.tup [.c (.sl 1 N (intc .i64 (buildN kd w d col b n))), .c (iv 0)]) [] 0 := by
  have hbl : (ec b).length = n * 2 := by rw [ec_length, hn]
  obtain ⟨f1, f2, f3, f4, f5, f6⟩ := id hf
  simp only at f1 f2 f3 f4 f5 f6
  have h1 := form_ok ⟨nm, sr, col, kd, w, d⟩
  rw [form_t hf] at h1
  have h2 := pos_ok b n hn hm hfb
  have : ∀ i : Decidable (posP b), @decide _ i = true := fun i => @decide_eq_true _ i hp
  rw [this] at h2
  have hn4 : n ≤ 4096 := by have := hp.1.1; omega
  simp only [Sk.c] at h1
  have hNl : N ≤ 1024 := by rw [← hN]; exact_mod_cast f5
  have hmul : IntKind.i64.wrap ((w : Int) * (d : Int)) = (N : Int) := by rw [← hN, Int.natCast_mul]; exact w64 (by omega) (by omega)
  refine ac_enter tabOk (sz := 57) Try.func37 rfl (by rw [Try.ntmps37]; rfl) ?_
  repeat' (first
    | ((with_reducible refine aw_seqk ?_); intro K hK hX)
    | ((with_reducible refine isC_reg ?_); refine aw_prune [0, 1, 2, 4, 5, 6, 8, 9, 35, 36, 37] rfl rfl ?_; with_reducible refine aw_region ?_)
    | ((with_reducible refine isA_call ?_); (first | refine zA ?_ | refine zN ?_); (first | refine c0 (h1) ?_ | refine c0 (h2) ?_))
    | (((with_reducible refine isA_any ?_); refine xA ?_); (first | ((with_reducible refine e_bin ?_); (first | refine ex_i (s_arit64 rfl rfl rfl hmul) ?_))))
    | refine stA ?_
    | (refine hK _ _ _ _ ?_; clear hK hX K)
    | (refine hX _ _ _ _ _ (by simp) ?_; clear hK hX K))
  have hbe : ∀ e ∈ b, 0 ≤ e.n ∧ e.n ≤ 262144 := fun e he => by
    obtain ⟨j, hj⟩ := List.mem_iff_getElem?.1 he
    have := (hp.1.2 j (List.getElem?_eq_some_iff.1 hj).1 e hj).1
    exact ⟨hp.2 e he, this.2.1⟩
  clear h1 h2 hmul hp hf
  refine aw_loopo [8, 9, 37] [1] rfl rfl (fun i : Nat => [(37, .c (iv i))]) (fun i => [(1, .row 2 (intc .i64 (buildN kd w d col b i)))]) (fun i => i ≤ n) (fun i => n - i) 0 (by omega) (by refine weak_mk rfl ?_ ?_ rfl <;> (repeat' (first | exact weakE_nil | exact weakH_nil | refine weakE_cons rfl (by first | rfl | (exact congrArg (AObj.row 2) (by rw [← hN]; exact zc_int _)) | exact own_eq rfl rfl (by omega) | exact int_eq (by omega) | (simp <;> fail) | (congr 4; omega) | (congr 3; omega) | (congr 2; omega)) rfl ?_ | refine weakH_cons rfl (by first | rfl | (exact congrArg (AObj.row 2) (by rw [← hN]; exact zc_int _)) | exact own_eq rfl rfl (by omega) | exact int_eq (by omega) | (simp <;> fail) | (congr 4; omega) | (congr 3; omega) | (congr 2; omega)) rfl ?_))) ?_
  intro i hi K hK hX
  have hBl := buildN_length kd w d col b i
  rw [hN] at hBl
  have hBi : (intc .i64 (buildN kd w d col b i)).length = N := by rw [intc_length, hBl]
  by_cases hlt : i < n
  · obtain ⟨e, he⟩ : ∃ e, b[i]? = some e := ⟨b[i]'(by omega), List.getElem?_eq_getElem _⟩
    have hat := ec_at he
    have her := hfb e (List.mem_of_getElem? he)
    have hce := cellOf_ok e.r e.r.length rfl her col (by omega)
    have hst := buildN_step (kd := kd) (w := w) (d := d) (col := col) he
    unfold stepE at hst
    have hin := buildN_inB (kd := kd) (w := w) (col := col) (by omega : d ≤ 8) hbe i (by omega)
    obtain ⟨ce0, ce1⟩ := hbe e (List.mem_of_getElem? he)
    obtain ⟨r, c⟩ := e
    simp only [En.c] at *
    generalize cellV r col = v at hce hst
    generalize hL : buildN kd w d col b i = L at hst hBl hBi hin ⊢
    by_cases ha : v.k = 0
    · rw [if_pos ha] at hst
      obtain ⟨a, m, t⟩ := v
      simp only [Vl.c] at *
      repeat' (first
    | ((with_reducible refine aw_seqk ?_); intro K hK hX)
    | ((with_reducible refine isC_reg ?_); refine aw_prune [0, 1, 2, 4, 5, 6, 8, 9, 35, 36, 37] rfl rfl ?_; with_reducible refine aw_region ?_)
    | ((with_reducible refine isA_call ?_); (first | refine zA ?_ | refine zN ?_); (first | refine c0 (hce) ?_))
    | (((with_reducible refine isA_any ?_); refine xA ?_); (first | ((with_reducible refine e_load ?_); (first | refine ex_i (s_loadAr tabOk rfl rfl rfl rfl (by first | exact hat | exact whole0 (by first | rfl | omega) | rfl) zln) ?_ | refine ex_i (s_loadAi tabOk rfl rfl rfl (by first | exact hat | exact whole0 (by first | rfl | omega) | rfl) zln) ?_)) | ((with_reducible refine e_slice ?_); (first | refine ex_i (s_slArri tabOk rfl rfl rfl rfl zbd zbd zle zle (by decide) (by first | exact hat | exact whole0 (by first | rfl | omega) | rfl) zln) ?_))))
    | refine stA ?_
    | (refine hK _ _ _ _ ?_; clear hK hX K)
    | (refine hX _ _ _ _ _ (by simp) ?_; clear hK hX K))
      exact ⟨i + 1, by omega, by omega, (by refine weak_mk rfl ?_ ?_ rfl <;> (repeat' (first | exact weakE_nil | exact weakH_nil | refine weakE_cons rfl (by first | rfl | (exact congrArg (fun x => AObj.row 2 (intc .i64 x)) hst.symm) | exact own_eq rfl rfl (by omega) | exact int_eq (by omega) | (simp <;> fail) | (congr 4; omega) | (congr 3; omega) | (congr 2; omega)) rfl ?_ | refine weakH_cons rfl (by first | rfl | (exact congrArg (fun x => AObj.row 2 (intc .i64 x)) hst.symm) | exact own_eq rfl rfl (by omega) | exact int_eq (by omega) | (simp <;> fail) | (congr 4; omega) | (congr 3; omega) | (congr 2; omega)) rfl ?_)))⟩
    · rw [if_neg ha] at hst
      have hpl := fun (row : Nat) (h : row < 256) => place_ok nm sr col kd w d v row (by omega) (by omega) h
      have hlt2 : ∀ j, j < d → placeV w v j < N := fun j h => by rw [← hN]; exact placeV_lt v (by omega) h
      have hap : ∀ j, addN kd w v c L (j + 1) = putP kd (addN kd w v c L j) (placeV w v j) c := fun j => rfl
      have had : ∀ j, (addN kd w v c L j).length = N := fun j => by rw [addN_length, hBl]
      have hai : ∀ j, j ≤ d → inB (addN kd w v c L j) 10000000000000 := fun j hj => by
        have h1 := addN_inB (kd := kd) (w := w) (v := v) hin (by omega) ce0 j
        refine inB_mono h1 ?_
        have : (j : Int) * (c + 1) ≤ 8 * 262145 := Int.mul_le_mul (by omega) (by omega) (by omega) (by omega)
        omega
      have ha0 : L = addN kd w v c L 0 := rfl
      generalize placeV w v = pl at hpl hlt2 hap
      generalize addN kd w v c L = ad at hst hap had hai ha0
      obtain ⟨a, m, t⟩ := v
      simp only [Vl.c] at *
      clear hL hBi hin hBl
      repeat' (first
    | ((with_reducible refine aw_seqk ?_); intro K hK hX)
    | ((with_reducible refine isC_reg ?_); refine aw_prune [0, 1, 2, 3, 4, 5, 6, 8, 9, 10, 11, 35, 36, 37] rfl rfl ?_; with_reducible refine aw_region ?_)
    | ((with_reducible refine isA_call ?_); (first | refine zA ?_ | refine zN ?_); (first | refine c0 (hce) ?_))
    | ((first | with_reducible refine isA_call ?_ | with_reducible refine isA_callv ?_); refine awl_inl tabOk [0, 1, 2, 3, 4, 5, 6, 7, 8, 9, 10, 11, 12, 13, 14, 15, 16, 17, 18, 19, 20, 21, 22, 23, 24, 25, 26, 27, 28, 29, 30, 31, 32, 33, 34, 35, 36, 37, 38, 39, 40, 41, 42, 43, 44, 45, 46, 47, 48, 49, 50, 51, 52, 53, 54, 55, 56] g_none rfl rfl (by unfold Body; kernel_rfl) Try.func85 rfl rfl rfl (szf := 34) (by rw [Try.ntmps85]; rfl) rfl ?_)
    | (((with_reducible refine isA_any ?_); refine xA ?_); (first | ((with_reducible refine e_load ?_); (first | refine ex_i (s_loadAr tabOk rfl rfl rfl rfl (by first | exact hat | exact whole0 (by first | rfl | omega) | rfl) zln) ?_ | refine ex_i (s_loadAi tabOk rfl rfl rfl (by first | exact hat | exact whole0 (by first | rfl | omega) | rfl) zln) ?_)) | ((with_reducible refine e_slice ?_); (first | refine ex_i (s_slArri tabOk rfl rfl rfl rfl zbd zbd zle zle (by decide) (by first | exact hat | exact whole0 (by first | rfl | omega) | rfl) zln) ?_))))
    | refine stA ?_
    | (refine hK _ _ _ _ ?_; clear hK hX K)
    | (refine hX _ _ _ _ _ (by simp) ?_; clear hK hX K)
    | (first | refine inK_some (by first | exact .inl rfl | exact .inr rfl) (by exact trivial) rfl rfl ResL.none ?_ | refine inK_none (by first | exact .inl rfl | exact .inr rfl) (by exact trivial) rfl rfl ResL.none ?_))
      refine aw_loopo [8, 9, 11] [1] rfl rfl (fun j : Nat => [(11, .c (iv j))]) (fun j => [(1, .row 2 (intc .i64 (ad j)))]) (fun j => j ≤ d) (fun j => d - j) 0 (by omega) (by refine weak_mk rfl ?_ ?_ rfl <;> (repeat' (first | exact weakE_nil | exact weakH_nil | refine weakE_cons rfl (by first | rfl | (exact congrArg (fun x => AObj.row 2 (intc .i64 x)) ha0) | exact own_eq rfl rfl (by omega) | exact int_eq (by omega) | (simp <;> fail) | (congr 4; omega) | (congr 3; omega) | (congr 2; omega)) rfl ?_ | refine weakH_cons rfl (by first | rfl | (exact congrArg (fun x => AObj.row 2 (intc .i64 x)) ha0) | exact own_eq rfl rfl (by omega) | exact int_eq (by omega) | (simp <;> fail) | (congr 4; omega) | (congr 3; omega) | (congr 2; omega)) rfl ?_))) ?_
      intro j hj K hK hX
      have hjl := had j
      have hji : (intc .i64 (ad j)).length = N := by rw [intc_length, hjl]
      by_cases hjd : j < d
      · have hplj := hpl j (by omega)
        have hpj := hlt2 j hjd
        have hput := hap j
        have hbj := getD_inB (hai j hj) (by decide) (pl j)
        have hgt := intc_at (getD_at (l := ad j) (i := pl j) (by omega))
        unfold putP at hput
        generalize pl j = p at hplj hpj hput hbj hgt
        clear hpl hlt2 hap had hai ha0 hce hst
        by_cases k0 : kd = 0
        · rw [if_pos k0] at hput
          generalize (ad j).getD p 0 = g at hput hbj hgt
          have hset : (intc .i64 (ad j)).set (0 + p * 1) (iv (g + c)) = intc .i64 (ad (j + 1)) := by rw [Nat.zero_add, Nat.mul_one, hput, intc_set]
          repeat' (first
    | ((with_reducible refine aw_seqk ?_); intro K hK hX)
    | ((with_reducible refine isC_reg ?_); refine aw_prune [0, 1, 2, 3, 4, 5, 6, 8, 9, 10, 11, 35, 36, 37] rfl rfl ?_; with_reducible refine aw_region ?_)
    | ((with_reducible refine isA_call ?_); (first | refine zA ?_ | refine zN ?_); (first | refine c0 (hplj) ?_))
    | ((first | with_reducible refine isA_call ?_ | with_reducible refine isA_callv ?_); refine awl_inl tabOk [0, 1, 2, 3, 4, 5, 6, 7, 8, 9, 10, 11, 12, 13, 14, 15, 16, 17, 18, 19, 20, 21, 22, 23, 24, 25, 26, 27, 28, 29, 30, 31, 32, 33, 34, 35, 36, 37, 38, 39, 40, 41, 42, 43, 44, 45, 46, 47, 48, 49, 50, 51, 52, 53, 54, 55, 56] g_none rfl rfl (by unfold Body; kernel_rfl) Try.func85 rfl rfl rfl (szf := 34) (by rw [Try.ntmps85]; rfl) rfl ?_)
    | (((with_reducible refine isA_any ?_); refine xA ?_); (first | ((with_reducible refine e_load ?_); (first | refine ex_i (s_load1 tabOk rfl rfl rfl rfl (by (rw [Nat.zero_add, Nat.mul_one]; exact hgt))) ?_ | refine ex_i (s_load1r tabOk rfl rfl rfl rfl (by (rw [Nat.zero_add, Nat.mul_one]; exact hgt))) ?_ | refine ex_i (s_load1i tabOk rfl rfl rfl (by (rw [Nat.zero_add, Nat.mul_one]; exact hgt))) ?_)) | ((with_reducible refine e_ix ?_); (first | refine ex_i (s_ixV1 tabOk rfl rfl zcj rfl rfl rfl rfl rfl zle (by (rw [Nat.zero_add, Nat.mul_one]; exact hgt))) ?_ | refine ex_i (s_ixStr tabOk rfl rfl zcj rfl rfl (by (rw [Nat.zero_add, Nat.mul_one]; exact hgt))) ?_))))
    | ((with_reducible refine isA_store ?_); (refine awl_store1r tabOk g_none rfl rfl rfl rfl rfl rfl (by first | omega | exact Nat.le_of_ble_eq_true rfl | omega | (simp <;> omega)) ?_))
    | refine stA ?_
    | (refine hK _ _ _ _ ?_; clear hK hX K)
    | (refine hX _ _ _ _ _ (by simp) ?_; clear hK hX K)
    | (first | refine inK_some (by first | exact .inl rfl | exact .inr rfl) (by exact trivial) rfl rfl ResL.none ?_ | refine inK_none (by first | exact .inl rfl | exact .inr rfl) (by exact trivial) rfl rfl ResL.none ?_))
          exact ⟨j + 1, by omega, by omega, (by refine weak_mk rfl ?_ ?_ rfl <;> (repeat' (first | exact weakE_nil | exact weakH_nil | refine weakE_cons rfl (by first | rfl | (exact congrArg (AObj.row 2) hset) | exact own_eq rfl rfl (by omega) | exact int_eq (by omega) | (simp <;> fail) | (congr 4; omega) | (congr 3; omega) | (congr 2; omega)) rfl ?_ | refine weakH_cons rfl (by first | rfl | (exact congrArg (AObj.row 2) hset) | exact own_eq rfl rfl (by omega) | exact int_eq (by omega) | (simp <;> fail) | (congr 4; omega) | (congr 3; omega) | (congr 2; omega)) rfl ?_)))⟩
        · rw [if_neg k0] at hput
          have hset : (intc .i64 (ad j)).set (0 + p * 1) (iv 1) = intc .i64 (ad (j + 1)) := by rw [Nat.zero_add, Nat.mul_one, hput, intc_set]
          repeat' (first
    | ((with_reducible refine aw_seqk ?_); intro K hK hX)
    | ((with_reducible refine isC_reg ?_); refine aw_prune [0, 1, 2, 3, 4, 5, 6, 8, 9, 10, 11, 35, 36, 37] rfl rfl ?_; with_reducible refine aw_region ?_)
    | ((with_reducible refine isA_call ?_); (first | refine zA ?_ | refine zN ?_); (first | refine c0 (hplj) ?_))
    | ((first | with_reducible refine isA_call ?_ | with_reducible refine isA_callv ?_); refine awl_inl tabOk [0, 1, 2, 3, 4, 5, 6, 7, 8, 9, 10, 11, 12, 13, 14, 15, 16, 17, 18, 19, 20, 21, 22, 23, 24, 25, 26, 27, 28, 29, 30, 31, 32, 33, 34, 35, 36, 37, 38, 39, 40, 41, 42, 43, 44, 45, 46, 47, 48, 49, 50, 51, 52, 53, 54, 55, 56] g_none rfl rfl (by unfold Body; kernel_rfl) Try.func85 rfl rfl rfl (szf := 34) (by rw [Try.ntmps85]; rfl) rfl ?_)
    | ((with_reducible refine isA_store ?_); (refine awl_store1r tabOk g_none rfl rfl rfl rfl rfl rfl (by first | omega | exact Nat.le_of_ble_eq_true rfl | omega | (simp <;> omega)) ?_))
    | refine stA ?_
    | (refine hK _ _ _ _ ?_; clear hK hX K)
    | (refine hX _ _ _ _ _ (by simp) ?_; clear hK hX K)
    | (first | refine inK_some (by first | exact .inl rfl | exact .inr rfl) (by exact trivial) rfl rfl ResL.none ?_ | refine inK_none (by first | exact .inl rfl | exact .inr rfl) (by exact trivial) rfl rfl ResL.none ?_))
          exact ⟨j + 1, by omega, by omega, (by refine weak_mk rfl ?_ ?_ rfl <;> (repeat' (first | exact weakE_nil | exact weakH_nil | refine weakE_cons rfl (by first | rfl | (exact congrArg (AObj.row 2) hset) | exact own_eq rfl rfl (by omega) | exact int_eq (by omega) | (simp <;> fail) | (congr 4; omega) | (congr 3; omega) | (congr 2; omega)) rfl ?_ | refine weakH_cons rfl (by first | rfl | (exact congrArg (AObj.row 2) hset) | exact own_eq rfl rfl (by omega) | exact int_eq (by omega) | (simp <;> fail) | (congr 4; omega) | (congr 3; omega) | (congr 2; omega)) rfl ?_)))⟩
      · have hjd2 : j = d := by omega
        rw [hjd2]
        repeat' (first
    | ((with_reducible refine aw_seqk ?_); intro K hK hX)
    | ((with_reducible refine isC_reg ?_); refine aw_prune [0, 1, 2, 3, 4, 5, 6, 8, 9, 10, 11, 35, 36, 37] rfl rfl ?_; with_reducible refine aw_region ?_)
    | ((first | with_reducible refine isA_call ?_ | with_reducible refine isA_callv ?_); refine awl_inl tabOk [0, 1, 2, 3, 4, 5, 6, 7, 8, 9, 10, 11, 12, 13, 14, 15, 16, 17, 18, 19, 20, 21, 22, 23, 24, 25, 26, 27, 28, 29, 30, 31, 32, 33, 34, 35, 36, 37, 38, 39, 40, 41, 42, 43, 44, 45, 46, 47, 48, 49, 50, 51, 52, 53, 54, 55, 56] g_none rfl rfl (by unfold Body; kernel_rfl) Try.func85 rfl rfl rfl (szf := 34) (by rw [Try.ntmps85]; rfl) rfl ?_)
    | refine stA ?_
    | (refine hK _ _ _ _ ?_; clear hK hX K)
    | (refine hX _ _ _ _ _ (by simp) ?_; clear hK hX K)
    | (first | refine inK_some (by first | exact .inl rfl | exact .inr rfl) (by exact trivial) rfl rfl ResL.none ?_ | refine inK_none (by first | exact .inl rfl | exact .inr rfl) (by exact trivial) rfl rfl ResL.none ?_))
        exact ⟨i + 1, by omega, by omega, (by refine weak_mk rfl ?_ ?_ rfl <;> (repeat' (first | exact weakE_nil | exact weakH_nil | refine weakE_cons rfl (by first | rfl | (exact congrArg (fun x => AObj.row 2 (intc .i64 x)) hst.symm) | exact own_eq rfl rfl (by omega) | exact int_eq (by omega) | (simp <;> fail) | (congr 4; omega) | (congr 3; omega) | (congr 2; omega)) rfl ?_ | refine weakH_cons rfl (by first | rfl | (exact congrArg (fun x => AObj.row 2 (intc .i64 x)) hst.symm) | exact own_eq rfl rfl (by omega) | exact int_eq (by omega) | (simp <;> fail) | (congr 4; omega) | (congr 3; omega) | (congr 2; omega)) rfl ?_)))⟩
  · have hie : i = n := by omega
    rw [hie] at hBi ⊢
    repeat' (first
    | ((with_reducible refine aw_seqk ?_); intro K hK hX)
    | ((with_reducible refine isC_reg ?_); refine aw_prune [0, 1, 2, 4, 5, 6, 8, 9, 35, 36, 37] rfl rfl ?_; with_reducible refine aw_region ?_)
    | refine stA ?_
    | (refine hK _ _ _ _ ?_; clear hK hX K)
    | (refine hX _ _ _ _ _ (by simp) ?_; clear hK hX K))
    refine retK_mk (by first | exact .inl rfl | exact .inr rfl) (by exact ⟨bu_idle, bu_idle_b, trivial⟩) rfl (ResL.two (ResA.tmp rfl) (ResA.tmp rfl)) (out_t (frzl_cons zfz (frzl_cons zfz frzl_nil)))
end Go.Proofs.Ytccnhpaldmjkbaa
