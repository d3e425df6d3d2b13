/-
  Joined texts: H7 H8 H9 H10 H11. Lemmas; no statement of a law.
-/
import Derived.Laws.Cover3
import Derived.Test.YtccnhpaldmjkbaaM5
set_option linter.unusedSimpArgs false
set_option linter.unusedVariables false
namespace Go.Proofs.Ytccnhpaldmjkbaa
open Go Go.RowKit Go.Av
set_option maxRecDepth 100000
theorem cmpR_step {r s : List Vl} {i : Nat} {a b : Vl} (ha : r[i]? = some a) (hb : s[i]? = some b) : cmpR (r.drop i) (s.drop i) = if cmpV (clV a) (clV b) ≠ 0 then cmpV (clV a) (clV b) else cmpR (r.drop (i + 1)) (s.drop (i + 1)) := by
  obtain ⟨h1, h2⟩ := List.getElem?_eq_some_iff.1 ha
  obtain ⟨h3, h4⟩ := List.getElem?_eq_some_iff.1 hb
  rw [List.drop_eq_getElem_cons h1, List.drop_eq_getElem_cons h3, h2, h4, cmpR]
theorem cmpR_end {r s : List Vl} {n m i : Nat} (hn : r.length = n) (hm : s.length = m) (hi : i = min n m) : cmpR (r.drop i) (s.drop i) = cmpZ n m := by
  unfold cmpZ
  have e1 : n ≤ i → r.drop i = [] := fun h => List.drop_eq_nil_of_le (by omega)
  have e2 : m ≤ i → s.drop i = [] := fun h => List.drop_eq_nil_of_le (by omega)
  by_cases c1 : n < m
  · rw [e1 (by omega), List.drop_eq_getElem_cons (l := s) (i := i) (by omega), cmpR, if_pos (by omega)]
  · by_cases c2 : m < n
    · rw [e2 (by omega), List.drop_eq_getElem_cons (l := r) (i := i) (by omega), cmpR, if_neg (by omega), if_pos (by omega)]
    · rw [e2 (by omega), e1 (by omega), cmpR, if_neg (by omega), if_neg (by omega)]
def goodAt (b : List En) (i : Nat) : Prop := ∀ e, b[i]? = some e → entP e ∧ e.n ≠ 0 ∧ ∀ f, 0 < i → b[i - 1]? = some f → cmpR f.r e.r < 0
def bagP (b : List En) : Prop := b.length ≤ 4096 ∧ ∀ i, i < b.length → goodAt b i
def posP (b : List En) : Prop := bagP b ∧ ∀ e ∈ b, 0 ≤ e.n
def fitB (b : List En) : Prop := ∀ e ∈ b, e.r.length ≤ maxLen
theorem ec_row {b : List En} {i : Nat} {e : En} (h : b[i]? = some e) : (ec b)[i * 2]? = some (.sl 3 e.r.length (rc e.r)) := by
  have := ec_at h
  have h2 : (((ec b).drop (i * 2)).take 2)[0]? = some (.sl 3 e.r.length (rc e.r)) := by rw [this]; rfl
  rw [List.getElem?_take_of_lt (by omega), List.getElem?_drop] at h2
  exact h2
theorem ec_n {b : List En} {i : Nat} {e : En} (h : b[i]? = some e) : (ec b)[i * 2 + 1]? = some (iv e.n) := by
  have := ec_at h
  have h2 : (((ec b).drop (i * 2)).take 2)[1]? = some (iv e.n) := by rw [this]; rfl
  rw [List.getElem?_take_of_lt (by omega), List.getElem?_drop] at h2
  exact h2
theorem first_bad {p : Nat → Prop} {n : Nat} (h : ¬ ∀ i, i < n → p i) : ∃ q, q < n ∧ ¬ p q ∧ ∀ i, i < q → p i := by
  have h' : ∃ j, j < n ∧ ¬ p j := Classical.byContradiction fun hh => h fun i hi => Classical.byContradiction fun hp => hh ⟨i, hi, hp⟩
  obtain ⟨j, ⟨h1, h2⟩, h3⟩ := exists_min (fun j => j < n ∧ ¬ p j) h'
  exact ⟨j, h1, h2, fun i hi => Classical.byContradiction fun hp => by have := h3 i ⟨by omega, hp⟩; omega⟩
attribute [local irreducible] Still Adds AWL AW Drw DrwE EStep AC AWR Weak Frz Src RetK Out InK ItK AsK RdK
set_option maxHeartbeats 4000000 in
theorem rcmp_ok (r s : List Vl) (n m : Nat) (hn : r.length = n) (hm : s.length = m) (hn2 : n ≤ maxLen) (hm2 : m ≤ maxLen) : AC Try.prog 105 [.sl 3 n (rc r), .sl 3 m (rc s)] (.c (iv (cmpR r s))) [] 0 := by
  have hrl : (rc r).length = n * 3 := by rw [rc_length, hn]
  have hsl : (rc s).length = m * 3 := by rw [rc_length, hm]
  have hml : n ≤ 9223372036854775807 := hn2
  have hml2 : m ≤ 9223372036854775807 := hm2
  clear hn2 hm2
  obtain ⟨k, hk⟩ : ∃ k, min n m = k := ⟨_, rfl⟩
  have hc := cmpi_ok n m
  rw [← cmpR_end hn hm hk.symm] at hc
  have hkm : (if (m : Int) < (n : Int) then (m : Int) else (n : Int)) = (k : Int) := by split <;> omega
  generalize hz : cmpR r s = z
  refine ac_enter tabOk (sz := 33) Try.func105 rfl (by rw [Try.ntmps105]; rfl) ?_
  repeat' (first | ((with_reducible refine aw_seqk ?_); intro K hK hX) | ((with_reducible refine isC_reg ?_); refine aw_prune [0, 1, 4, 5, 6, 11, 12] rfl rfl ?_; with_reducible refine aw_region ?_) | ((with_reducible refine isC_draw ?_); refine aw_prune [0, 1, 4, 5, 6, 11, 12] rfl rfl ?_; refine aw_drwF [] ?_) | ((first | ((with_reducible refine isA_any ?_); refine xA ?_) | ((with_reducible refine isDk_any ?_); refine xD ?_)); (first | ((with_reducible refine e_bi ?_); (first | refine ex_i (s_min rfl rfl hkm) ?_)))) | refine stA ?_ | refine stD ?_ | (refine hK _ _ _ _ ?_; clear hK hX K) | (refine hX _ _ _ _ _ (by simp) ?_; clear hK hX K))
  refine aw_loopo [5, 6, 7, 8, 9, 10, 11, 12] [] rfl rfl (fun i : Nat => [(11, .c (iv k)), (12, .c (iv i))]) (fun i => []) (fun i => i ≤ k ∧ cmpR (r.drop i) (s.drop i) = z) (fun i => k - i) 0 ⟨by omega, hz⟩ weakA ?_
  rintro i ⟨hi, hzi⟩ K hK hX
  by_cases hlt : i < k
  · obtain ⟨a, ha⟩ : ∃ a, r[i]? = some a := ⟨r[i]'(by omega), List.getElem?_eq_getElem _⟩
    obtain ⟨b, hb⟩ : ∃ b, s[i]? = some b := ⟨s[i]'(by omega), List.getElem?_eq_getElem _⟩
    have hat := rc_at ha
    have hbt := rc_at hb
    have hv := vcmp_ok a b
    rw [cmpR_step ha hb] at hzi
    obtain ⟨ak, an, at'⟩ := a
    obtain ⟨bk, bn, bt⟩ := b
    simp only [Vl.c] at hat hbt hv
    generalize cmpV (clV ⟨ak, an, at'⟩) (clV ⟨bk, bn, bt⟩) = c at hv hzi
    by_cases z0 : c = 0
    · rw [if_neg (fun h => h z0)] at hzi
      clear hc hz
      repeat' (first | ((with_reducible refine aw_seqk ?_); intro K hK hX) | ((with_reducible refine isC_reg ?_); refine aw_prune [0, 1, 4, 5, 6, 11, 12] rfl rfl ?_; with_reducible refine aw_region ?_) | ((with_reducible refine isC_draw ?_); refine aw_prune [0, 1, 4, 5, 6, 11, 12] rfl rfl ?_; refine aw_drwF [] ?_) | ((first | with_reducible refine isA_call ?_ | with_reducible refine isD_call ?_); (first | refine zA ?_ | refine zN ?_ | refine zD ?_); (first | refine c0 (hv) ?_)) | ((first | ((with_reducible refine isA_any ?_); refine xA ?_) | ((with_reducible refine isDk_any ?_); refine xD ?_)); (first | ((with_reducible refine e_load ?_); (first | refine ex_i (s_loadAr tabOk rfl rfl rfl rfl (by first | first | exact hat | exact hbt | exact whole0 (by first | rfl | omega) | rfl) zln) ?_ | refine ex_i (s_loadAi tabOk rfl rfl rfl (by first | first | exact hat | exact hbt | exact whole0 (by first | rfl | omega) | rfl) zln) ?_)) | ((with_reducible refine e_slice ?_); (first | refine ex_i (s_slArri tabOk rfl rfl rfl rfl zbd zbd zle zle (by decide) (by first | first | exact hat | exact hbt | exact whole0 (by first | rfl | omega) | rfl) zln) ?_)))) | refine stA ?_ | refine stD ?_ | (refine hK _ _ _ _ ?_; clear hK hX K) | (refine hX _ _ _ _ _ (by simp) ?_; clear hK hX K))
      exact ⟨i + 1, ⟨by omega, hzi⟩, by omega, weakA⟩
    · rw [if_pos z0] at hzi
      rw [hzi] at hv z0
      clear hc hz
      repeat' (first | ((with_reducible refine aw_seqk ?_); intro K hK hX) | ((with_reducible refine isC_reg ?_); refine aw_prune [0, 1, 4, 5, 6, 11, 12] rfl rfl ?_; with_reducible refine aw_region ?_) | ((with_reducible refine isC_draw ?_); refine aw_prune [0, 1, 4, 5, 6, 11, 12] rfl rfl ?_; refine aw_drwF [] ?_) | ((first | with_reducible refine isA_call ?_ | with_reducible refine isD_call ?_); (first | refine zA ?_ | refine zN ?_ | refine zD ?_); (first | refine c0 (hv) ?_)) | ((first | ((with_reducible refine isA_any ?_); refine xA ?_) | ((with_reducible refine isDk_any ?_); refine xD ?_)); (first | ((with_reducible refine e_load ?_); (first | refine ex_i (s_loadAr tabOk rfl rfl rfl rfl (by first | first | exact hat | exact hbt | exact whole0 (by first | rfl | omega) | rfl) zln) ?_ | refine ex_i (s_loadAi tabOk rfl rfl rfl (by first | first | exact hat | exact hbt | exact whole0 (by first | rfl | omega) | rfl) zln) ?_)) | ((with_reducible refine e_slice ?_); (first | refine ex_i (s_slArri tabOk rfl rfl rfl rfl zbd zbd zle zle (by decide) (by first | first | exact hat | exact hbt | exact whole0 (by first | rfl | omega) | rfl) zln) ?_)))) | refine stA ?_ | refine stD ?_ | (refine hK _ _ _ _ ?_; clear hK hX K) | (refine hX _ _ _ _ _ (by simp) ?_; clear hK hX K))
      refine retK_mk zio ztr rfl (ResL.one (ResA.tmp rfl)) zou
  · have hik : i = k := by omega
    subst hik
    rw [hzi] at hc
    repeat' (first | ((with_reducible refine aw_seqk ?_); intro K hK hX) | ((with_reducible refine isC_reg ?_); refine aw_prune [0, 1, 4, 5, 6, 11, 12] rfl rfl ?_; with_reducible refine aw_region ?_) | ((with_reducible refine isC_draw ?_); refine aw_prune [0, 1, 4, 5, 6, 11, 12] rfl rfl ?_; refine aw_drwF [] ?_) | ((first | with_reducible refine isA_call ?_ | with_reducible refine isD_call ?_); (first | refine zA ?_ | refine zN ?_ | refine zD ?_); (first | refine c0 (hc) ?_)) | refine stA ?_ | refine stD ?_ | (refine hK _ _ _ _ ?_; clear hK hX K) | (refine hX _ _ _ _ _ (by simp) ?_; clear hK hX K))
    refine retK_mk zio ztr rfl (ResL.one (ResA.tmp rfl)) zou
theorem bv_idle : Idle Try.prog 119 0 := by
  intro us w hl
  obtain ⟨_, rfl⟩ : ∃ _ : Unit, us = [] := by
    match us, hl with | [], _ => exact ⟨(), rfl⟩
  refine callsD_of_wpS Try.func119 rfl fun c₀ cs hu => ?_
  apply wpS_region
  simp [wpOpsS, go_sem, recoverD, hu, Try.ntmps119, Exit.thenS]
  cases c₀
  simp_all [bodyPostS, results, Try.results119]
theorem bv_idle_b : Body Try.prog 119 := by unfold Body; kernel_rfl
open Classical in
set_option maxHeartbeats 4000000 in
theorem bag_ok (b : List En) (n : Nat) (hn : b.length = n) (hm : n ≤ maxLen) (hf : fitB b) : AC Try.prog 69 [.sl 2 n (ec b)] (.c (bv (decide (bagP b)))) [] 0 := by
  have hbl : (ec b).length = n * 2 := by rw [ec_length, hn]
  have hml : n ≤ 9223372036854775807 := hm
  clear hm
  by_cases b1 : n ≤ 4096
  · by_cases hall : ∀ i, i < n → goodAt b i
    · rw [decide_eq_true (show bagP b from ⟨by omega, by rw [hn]; exact hall⟩)]
      refine ac_enter tabOk (sz := 38) Try.func69 rfl (by rw [Try.ntmps69]; rfl) ?_
      repeat' (first | ((with_reducible refine aw_seqk ?_); intro K hK hX) | ((with_reducible refine isC_reg ?_); refine aw_prune [0, 2, 3, 4, 8, 9, 10] rfl rfl ?_; with_reducible refine aw_region ?_) | ((with_reducible refine isC_draw ?_); refine aw_prune [0, 2, 3, 4, 8, 9, 10] rfl rfl ?_; refine aw_drwF [] ?_) | refine stA ?_ | refine stD ?_ | (refine hK _ _ _ _ ?_; clear hK hX K) | (refine hX _ _ _ _ _ (by simp) ?_; clear hK hX K))
      refine aw_loopo [3, 4, 5, 6, 7, 10] [] rfl rfl (fun i : Nat => [(10, .c (iv i))]) (fun i => []) (fun i => i ≤ n) (fun i => n - i) 0 (by omega) weakA ?_
      intro i hi K hK hX
      by_cases hlt : i < n
      · have hgi := hall i hlt
        obtain ⟨e, he⟩ : ∃ e, b[i]? = some e := ⟨b[i]'(by omega), List.getElem?_eq_getElem _⟩
        have hat := ec_at he
        have her := hf e (List.mem_of_getElem? he)
        have hv := vent_ok e her
        obtain ⟨g1, g2, g3⟩ := hgi e he
        rw [decide_eq_true g1] at hv
        cases i with
        | zero =>
          clear g3 hgi
          obtain ⟨r, c⟩ := e
          simp only [En.c] at *
          repeat' (first | ((with_reducible refine aw_seqk ?_); intro K hK hX) | ((with_reducible refine isC_reg ?_); refine aw_prune [0, 2, 3, 4, 8, 9, 10] rfl rfl ?_; with_reducible refine aw_region ?_) | ((with_reducible refine isC_draw ?_); refine aw_prune [0, 2, 3, 4, 8, 9, 10] rfl rfl ?_; refine aw_drwF [] ?_) | ((first | with_reducible refine isA_call ?_ | with_reducible refine isD_call ?_); (first | refine zA ?_ | refine zN ?_ | refine zD ?_); (first | refine c0 (hv) ?_)) | ((first | ((with_reducible refine isA_any ?_); refine xA ?_) | ((with_reducible refine isDk_any ?_); refine xD ?_)); (first | ((with_reducible refine e_load ?_); (first | refine ex_i (s_loadAr tabOk rfl rfl rfl rfl (by first | exact hat | exact whole0 (by first | rfl | omega) | rfl) zln) ?_ | refine ex_i (s_loadAi tabOk rfl rfl rfl (by first | exact hat | exact whole0 (by first | rfl | omega) | rfl) zln) ?_)) | ((with_reducible refine e_slice ?_); (first | refine ex_i (s_slArri tabOk rfl rfl rfl rfl zbd zbd zle zle (by decide) (by first | exact hat | exact whole0 (by first | rfl | omega) | rfl) zln) ?_)))) | refine stA ?_ | refine stD ?_ | (refine hK _ _ _ _ ?_; clear hK hX K) | (refine hX _ _ _ _ _ (by simp) ?_; clear hK hX K))
          exact ⟨1, by omega, by omega, weakA⟩
        | succ j =>
          obtain ⟨f, hfj⟩ : ∃ f, b[j]? = some f := ⟨b[j]'(by omega), List.getElem?_eq_getElem _⟩
          have hfr := hf f (List.mem_of_getElem? hfj)
          have hrow := ec_row hfj
          have hc := rcmp_ok f.r e.r f.r.length e.r.length rfl rfl hfr her
          have g4 := g3 f (by omega) (by rw [Nat.add_sub_cancel]; exact hfj)
          clear g3 hgi
          obtain ⟨r, c⟩ := e
          simp only [En.c] at *
          generalize cmpR f.r r = z at hc g4
          have hjj : (((j + 1 : Nat) : Int) - 1).toNat * 2 + 0 = j * 2 := by omega
          repeat' (first | ((with_reducible refine aw_seqk ?_); intro K hK hX) | ((with_reducible refine isC_reg ?_); refine aw_prune [0, 2, 3, 4, 8, 9, 10] rfl rfl ?_; with_reducible refine aw_region ?_) | ((with_reducible refine isC_draw ?_); refine aw_prune [0, 2, 3, 4, 8, 9, 10] rfl rfl ?_; refine aw_drwF [] ?_) | ((first | with_reducible refine isA_call ?_ | with_reducible refine isD_call ?_); (first | refine zA ?_ | refine zN ?_ | refine zD ?_); (first | refine c0 (hv) ?_ | refine c0 (hc) ?_)) | ((first | ((with_reducible refine isA_any ?_); refine xA ?_) | ((with_reducible refine isDk_any ?_); refine xD ?_)); (first | ((with_reducible refine e_load ?_); (first | refine ex_i (s_load1 tabOk rfl rfl rfl rfl (by (rw [hjj]; exact hrow))) ?_ | refine ex_i (s_load1r tabOk rfl rfl rfl rfl (by (rw [hjj]; exact hrow))) ?_ | refine ex_i (s_load1i tabOk rfl rfl rfl (by (rw [hjj]; exact hrow))) ?_ | refine ex_i (s_loadAr tabOk rfl rfl rfl rfl (by first | exact hat | exact whole0 (by first | rfl | omega) | rfl) zln) ?_ | refine ex_i (s_loadAi tabOk rfl rfl rfl (by first | exact hat | exact whole0 (by first | rfl | omega) | rfl) zln) ?_)) | ((with_reducible refine e_ix ?_); (first | refine ex_i (s_ixV1 tabOk rfl rfl zcj rfl rfl rfl rfl rfl zle (by (rw [hjj]; exact hrow))) ?_ | refine ex_i (s_ixStr tabOk rfl rfl zcj rfl rfl (by (rw [hjj]; exact hrow))) ?_)) | ((with_reducible refine e_slice ?_); (first | refine ex_i (s_slArri tabOk rfl rfl rfl rfl zbd zbd zle zle (by decide) (by first | exact hat | exact whole0 (by first | rfl | omega) | rfl) zln) ?_)))) | refine stA ?_ | refine stD ?_ | (refine hK _ _ _ _ ?_; clear hK hX K) | (refine hX _ _ _ _ _ (by simp) ?_; clear hK hX K))
          exact ⟨j + 1 + 1, by omega, by omega, weakA⟩
      · repeat' (first | ((with_reducible refine aw_seqk ?_); intro K hK hX) | ((with_reducible refine isC_reg ?_); refine aw_prune [0, 2, 3, 4, 8, 9, 10] rfl rfl ?_; with_reducible refine aw_region ?_) | ((with_reducible refine isC_draw ?_); refine aw_prune [0, 2, 3, 4, 8, 9, 10] rfl rfl ?_; refine aw_drwF [] ?_) | refine stA ?_ | refine stD ?_ | (refine hK _ _ _ _ ?_; clear hK hX K) | (refine hX _ _ _ _ _ (by simp) ?_; clear hK hX K))
        refine retK_mk zio (by exact ⟨bv_idle, bv_idle_b, trivial⟩) rfl (ResL.one (ResA.tmp rfl)) zou
    · rw [decide_eq_false (show ¬ bagP b from fun h => hall (by rw [← hn]; exact h.2))]
      obtain ⟨q, hq, hbad, hgood⟩ := first_bad hall
      refine ac_enter tabOk (sz := 38) Try.func69 rfl (by rw [Try.ntmps69]; rfl) ?_
      repeat' (first | ((with_reducible refine aw_seqk ?_); intro K hK hX) | ((with_reducible refine isC_reg ?_); refine aw_prune [0, 2, 3, 4, 8, 9, 10] rfl rfl ?_; with_reducible refine aw_region ?_) | ((with_reducible refine isC_draw ?_); refine aw_prune [0, 2, 3, 4, 8, 9, 10] rfl rfl ?_; refine aw_drwF [] ?_) | refine stA ?_ | refine stD ?_ | (refine hK _ _ _ _ ?_; clear hK hX K) | (refine hX _ _ _ _ _ (by simp) ?_; clear hK hX K))
      refine aw_loopo [3, 4, 5, 6, 7, 10] [] rfl rfl (fun i : Nat => [(10, .c (iv i))]) (fun i => []) (fun i => i ≤ q) (fun i => q - i) 0 (by omega) weakA ?_
      intro i hi K hK hX
      by_cases hlt : i < q
      · have hgi := hgood i hlt
        obtain ⟨e, he⟩ : ∃ e, b[i]? = some e := ⟨b[i]'(by omega), List.getElem?_eq_getElem _⟩
        have hat := ec_at he
        have her := hf e (List.mem_of_getElem? he)
        have hv := vent_ok e her
        obtain ⟨g1, g2, g3⟩ := hgi e he
        rw [decide_eq_true g1] at hv
        cases i with
        | zero =>
          clear g3 hgi
          obtain ⟨r, c⟩ := e
          simp only [En.c] at *
          repeat' (first | ((with_reducible refine aw_seqk ?_); intro K hK hX) | ((with_reducible refine isC_reg ?_); refine aw_prune [0, 2, 3, 4, 8, 9, 10] rfl rfl ?_; with_reducible refine aw_region ?_) | ((with_reducible refine isC_draw ?_); refine aw_prune [0, 2, 3, 4, 8, 9, 10] rfl rfl ?_; refine aw_drwF [] ?_) | ((first | with_reducible refine isA_call ?_ | with_reducible refine isD_call ?_); (first | refine zA ?_ | refine zN ?_ | refine zD ?_); (first | refine c0 (hv) ?_)) | ((first | ((with_reducible refine isA_any ?_); refine xA ?_) | ((with_reducible refine isDk_any ?_); refine xD ?_)); (first | ((with_reducible refine e_load ?_); (first | refine ex_i (s_loadAr tabOk rfl rfl rfl rfl (by first | exact hat | exact whole0 (by first | rfl | omega) | rfl) zln) ?_ | refine ex_i (s_loadAi tabOk rfl rfl rfl (by first | exact hat | exact whole0 (by first | rfl | omega) | rfl) zln) ?_)) | ((with_reducible refine e_slice ?_); (first | refine ex_i (s_slArri tabOk rfl rfl rfl rfl zbd zbd zle zle (by decide) (by first | exact hat | exact whole0 (by first | rfl | omega) | rfl) zln) ?_)))) | refine stA ?_ | refine stD ?_ | (refine hK _ _ _ _ ?_; clear hK hX K) | (refine hX _ _ _ _ _ (by simp) ?_; clear hK hX K))
          exact ⟨1, by omega, by omega, weakA⟩
        | succ j =>
          obtain ⟨f, hfj⟩ : ∃ f, b[j]? = some f := ⟨b[j]'(by omega), List.getElem?_eq_getElem _⟩
          have hfr := hf f (List.mem_of_getElem? hfj)
          have hrow := ec_row hfj
          have hc := rcmp_ok f.r e.r f.r.length e.r.length rfl rfl hfr her
          have g4 := g3 f (by omega) (by rw [Nat.add_sub_cancel]; exact hfj)
          clear g3 hgi
          obtain ⟨r, c⟩ := e
          simp only [En.c] at *
          generalize cmpR f.r r = z at hc g4
          have hjj : (((j + 1 : Nat) : Int) - 1).toNat * 2 + 0 = j * 2 := by omega
          repeat' (first | ((with_reducible refine aw_seqk ?_); intro K hK hX) | ((with_reducible refine isC_reg ?_); refine aw_prune [0, 2, 3, 4, 8, 9, 10] rfl rfl ?_; with_reducible refine aw_region ?_) | ((with_reducible refine isC_draw ?_); refine aw_prune [0, 2, 3, 4, 8, 9, 10] rfl rfl ?_; refine aw_drwF [] ?_) | ((first | with_reducible refine isA_call ?_ | with_reducible refine isD_call ?_); (first | refine zA ?_ | refine zN ?_ | refine zD ?_); (first | refine c0 (hv) ?_ | refine c0 (hc) ?_)) | ((first | ((with_reducible refine isA_any ?_); refine xA ?_) | ((with_reducible refine isDk_any ?_); refine xD ?_)); (first | ((with_reducible refine e_load ?_); (first | refine ex_i (s_load1 tabOk rfl rfl rfl rfl (by (rw [hjj]; exact hrow))) ?_ | refine ex_i (s_load1r tabOk rfl rfl rfl rfl (by (rw [hjj]; exact hrow))) ?_ | refine ex_i (s_load1i tabOk rfl rfl rfl (by (rw [hjj]; exact hrow))) ?_ | refine ex_i (s_loadAr tabOk rfl rfl rfl rfl (by first | exact hat | exact whole0 (by first | rfl | omega) | rfl) zln) ?_ | refine ex_i (s_loadAi tabOk rfl rfl rfl (by first | exact hat | exact whole0 (by first | rfl | omega) | rfl) zln) ?_)) | ((with_reducible refine e_ix ?_); (first | refine ex_i (s_ixV1 tabOk rfl rfl zcj rfl rfl rfl rfl rfl zle (by (rw [hjj]; exact hrow))) ?_ | refine ex_i (s_ixStr tabOk rfl rfl zcj rfl rfl (by (rw [hjj]; exact hrow))) ?_)) | ((with_reducible refine e_slice ?_); (first | refine ex_i (s_slArri tabOk rfl rfl rfl rfl zbd zbd zle zle (by decide) (by first | exact hat | exact whole0 (by first | rfl | omega) | rfl) zln) ?_)))) | refine stA ?_ | refine stD ?_ | (refine hK _ _ _ _ ?_; clear hK hX K) | (refine hX _ _ _ _ _ (by simp) ?_; clear hK hX K))
          exact ⟨j + 1 + 1, by omega, by omega, weakA⟩
      · have hiq : i = q := by omega
        have hin : i < n := by omega
        rw [← hiq] at hbad
        obtain ⟨e, he⟩ : ∃ e, b[i]? = some e := ⟨b[i]'(by omega), List.getElem?_eq_getElem _⟩
        have hat := ec_at he
        have her := hf e (List.mem_of_getElem? he)
        have hv := vent_ok e her
        by_cases g1 : entP e
        · rw [decide_eq_true g1] at hv
          by_cases g2 : e.n = 0
          · clear hbad hgood
            obtain ⟨r, c⟩ := e
            simp only [En.c] at *
            repeat' (first | ((with_reducible refine aw_seqk ?_); intro K hK hX) | ((with_reducible refine isC_reg ?_); refine aw_prune [0, 2, 3, 4, 8, 9, 10] rfl rfl ?_; with_reducible refine aw_region ?_) | ((with_reducible refine isC_draw ?_); refine aw_prune [0, 2, 3, 4, 8, 9, 10] rfl rfl ?_; refine aw_drwF [] ?_) | ((first | with_reducible refine isA_call ?_ | with_reducible refine isD_call ?_); (first | refine zA ?_ | refine zN ?_ | refine zD ?_); (first | refine c0 (hv) ?_)) | ((first | ((with_reducible refine isA_any ?_); refine xA ?_) | ((with_reducible refine isDk_any ?_); refine xD ?_)); (first | ((with_reducible refine e_load ?_); (first | refine ex_i (s_loadAr tabOk rfl rfl rfl rfl (by first | exact hat | exact whole0 (by first | rfl | omega) | rfl) zln) ?_ | refine ex_i (s_loadAi tabOk rfl rfl rfl (by first | exact hat | exact whole0 (by first | rfl | omega) | rfl) zln) ?_)) | ((with_reducible refine e_slice ?_); (first | refine ex_i (s_slArri tabOk rfl rfl rfl rfl zbd zbd zle zle (by decide) (by first | exact hat | exact whole0 (by first | rfl | omega) | rfl) zln) ?_)))) | refine stA ?_ | refine stD ?_ | (refine hK _ _ _ _ ?_; clear hK hX K) | (refine hX _ _ _ _ _ (by simp) ?_; clear hK hX K))
            refine retK_mk zio (by exact ⟨bv_idle, bv_idle_b, trivial⟩) rfl (ResL.one (ResA.tmp rfl)) zou
          · cases i with
            | zero => exact absurd (fun e' he' => by rw [he] at he'; injection he' with he'; subst he'; exact ⟨g1, g2, fun f h => absurd h (by omega)⟩) hbad
            | succ j =>
              obtain ⟨f, hfj⟩ : ∃ f, b[j]? = some f := ⟨b[j]'(by omega), List.getElem?_eq_getElem _⟩
              have hfr := hf f (List.mem_of_getElem? hfj)
              have hrow := ec_row hfj
              have hc := rcmp_ok f.r e.r f.r.length e.r.length rfl rfl hfr her
              have g4 : ¬ cmpR f.r e.r < 0 := fun h => hbad fun e' he' => by
                rw [he] at he'; injection he' with he'; subst he'
                exact ⟨g1, g2, fun f' _ hf' => by rw [Nat.add_sub_cancel, hfj] at hf'; injection hf' with hf'; subst hf'; exact h⟩
              clear hbad hgood
              obtain ⟨r, c⟩ := e
              simp only [En.c] at *
              generalize cmpR f.r r = z at hc g4
              have hjj : (((j + 1 : Nat) : Int) - 1).toNat * 2 + 0 = j * 2 := by omega
              repeat' (first | ((with_reducible refine aw_seqk ?_); intro K hK hX) | ((with_reducible refine isC_reg ?_); refine aw_prune [0, 2, 3, 4, 8, 9, 10] rfl rfl ?_; with_reducible refine aw_region ?_) | ((with_reducible refine isC_draw ?_); refine aw_prune [0, 2, 3, 4, 8, 9, 10] rfl rfl ?_; refine aw_drwF [] ?_) | ((first | with_reducible refine isA_call ?_ | with_reducible refine isD_call ?_); (first | refine zA ?_ | refine zN ?_ | refine zD ?_); (first | refine c0 (hv) ?_ | refine c0 (hc) ?_)) | ((first | ((with_reducible refine isA_any ?_); refine xA ?_) | ((with_reducible refine isDk_any ?_); refine xD ?_)); (first | ((with_reducible refine e_load ?_); (first | refine ex_i (s_load1 tabOk rfl rfl rfl rfl (by (rw [hjj]; exact hrow))) ?_ | refine ex_i (s_load1r tabOk rfl rfl rfl rfl (by (rw [hjj]; exact hrow))) ?_ | refine ex_i (s_load1i tabOk rfl rfl rfl (by (rw [hjj]; exact hrow))) ?_ | refine ex_i (s_loadAr tabOk rfl rfl rfl rfl (by first | exact hat | exact whole0 (by first | rfl | omega) | rfl) zln) ?_ | refine ex_i (s_loadAi tabOk rfl rfl rfl (by first | exact hat | exact whole0 (by first | rfl | omega) | rfl) zln) ?_)) | ((with_reducible refine e_ix ?_); (first | refine ex_i (s_ixV1 tabOk rfl rfl zcj rfl rfl rfl rfl rfl zle (by (rw [hjj]; exact hrow))) ?_ | refine ex_i (s_ixStr tabOk rfl rfl zcj rfl rfl (by (rw [hjj]; exact hrow))) ?_)) | ((with_reducible refine e_slice ?_); (first | refine ex_i (s_slArri tabOk rfl rfl rfl rfl zbd zbd zle zle (by decide) (by first | exact hat | exact whole0 (by first | rfl | omega) | rfl) zln) ?_)))) | refine stA ?_ | refine stD ?_ | (refine hK _ _ _ _ ?_; clear hK hX K) | (refine hX _ _ _ _ _ (by simp) ?_; clear hK hX K))
              refine retK_mk zio (by exact ⟨bv_idle, bv_idle_b, trivial⟩) rfl (ResL.one (ResA.tmp rfl)) zou
        · rw [decide_eq_false g1] at hv
          clear hbad hgood
          obtain ⟨r, c⟩ := e
          simp only [En.c] at *
          repeat' (first | ((with_reducible refine aw_seqk ?_); intro K hK hX) | ((with_reducible refine isC_reg ?_); refine aw_prune [0, 2, 3, 4, 8, 9, 10] rfl rfl ?_; with_reducible refine aw_region ?_) | ((with_reducible refine isC_draw ?_); refine aw_prune [0, 2, 3, 4, 8, 9, 10] rfl rfl ?_; refine aw_drwF [] ?_) | ((first | with_reducible refine isA_call ?_ | with_reducible refine isD_call ?_); (first | refine zA ?_ | refine zN ?_ | refine zD ?_); (first | refine c0 (hv) ?_)) | ((first | ((with_reducible refine isA_any ?_); refine xA ?_) | ((with_reducible refine isDk_any ?_); refine xD ?_)); (first | ((with_reducible refine e_load ?_); (first | refine ex_i (s_loadAr tabOk rfl rfl rfl rfl (by first | exact hat | exact whole0 (by first | rfl | omega) | rfl) zln) ?_ | refine ex_i (s_loadAi tabOk rfl rfl rfl (by first | exact hat | exact whole0 (by first | rfl | omega) | rfl) zln) ?_)) | ((with_reducible refine e_slice ?_); (first | refine ex_i (s_slArri tabOk rfl rfl rfl rfl zbd zbd zle zle (by decide) (by first | exact hat | exact whole0 (by first | rfl | omega) | rfl) zln) ?_)))) | refine stA ?_ | refine stD ?_ | (refine hK _ _ _ _ ?_; clear hK hX K) | (refine hX _ _ _ _ _ (by simp) ?_; clear hK hX K))
          refine retK_mk zio (by exact ⟨bv_idle, bv_idle_b, trivial⟩) rfl (ResL.one (ResA.tmp rfl)) zou
  · rw [decide_eq_false (show ¬ bagP b from fun h => b1 (by have := h.1; omega))]
    refine ac_enter tabOk (sz := 38) Try.func69 rfl (by rw [Try.ntmps69]; rfl) ?_
    repeat' (first | ((with_reducible refine aw_seqk ?_); intro K hK hX) | ((with_reducible refine isC_reg ?_); refine aw_prune [0, 2, 3, 4, 8, 9, 10] rfl rfl ?_; with_reducible refine aw_region ?_) | ((with_reducible refine isC_draw ?_); refine aw_prune [0, 2, 3, 4, 8, 9, 10] rfl rfl ?_; refine aw_drwF [] ?_) | refine stA ?_ | refine stD ?_ | (refine hK _ _ _ _ ?_; clear hK hX K) | (refine hX _ _ _ _ _ (by simp) ?_; clear hK hX K))
    refine retK_mk zio (by exact ⟨bv_idle, bv_idle_b, trivial⟩) rfl (ResL.one (ResA.tmp rfl)) zou
end Go.Proofs.Ytccnhpaldmjkbaa
namespace Go.Proofs.Ytccnhpaldmjkbaa
open Go Go.RowKit Go.Av
set_option maxRecDepth 100000
/-- The value of a column in a row. -/
def cellV (r : List Vl) (col : Nat) : Vl := r.getD col Vl.nul
/-- The place of a value in a row of a sketch. -/
def placeV (w : Nat) (v : Vl) (row : Nat) : Nat := row * w + (hashV v (UInt8.ofNat row)).toNat % w
attribute [local irreducible] Still Adds AWL AW Drw DrwE EStep AC AWR Weak Frz Src RetK Out InK ItK AsK RdK
open Classical in
set_option maxHeartbeats 4000000 in
theorem pos_ok (b : List En) (n : Nat) (hn : b.length = n) (hm : n ≤ maxLen) (hf : fitB b) : AC Try.prog 61 [.sl 2 n (ec b)] (.c (bv (decide (posP b)))) [] 0 := by
  have hbl : (ec b).length = n * 2 := by rw [ec_length, hn]
  have hb := bag_ok b n hn hm hf
  have hml : n ≤ 9223372036854775807 := hm
  clear hm
  by_cases b1 : bagP b
  · rw [decide_eq_true b1] at hb
    by_cases hall : ∀ i, i < n → ∀ e, b[i]? = some e → 0 ≤ e.n
    · rw [decide_eq_true (show posP b from ⟨b1, fun e he => by
        obtain ⟨i, hi⟩ := List.mem_iff_getElem?.1 he
        have := (List.getElem?_eq_some_iff.1 hi).1
        exact hall i (by omega) e hi⟩)]
      refine ac_enter tabOk (sz := 18) Try.func61 rfl (by rw [Try.ntmps61]; rfl) ?_
      repeat' (first | ((with_reducible refine aw_seqk ?_); intro K hK hX) | ((with_reducible refine isC_reg ?_); refine aw_prune [0, 2, 4, 8, 9, 10] rfl rfl ?_; with_reducible refine aw_region ?_) | ((with_reducible refine isA_call ?_); (first | refine zA ?_ | refine zN ?_); (first | refine c0 (hb) ?_)) | refine stA ?_ | (refine hK _ _ _ _ ?_; clear hK hX K) | (refine hX _ _ _ _ _ (by simp) ?_; clear hK hX K))
      refine aw_loopo [4, 5, 6, 7, 10] [] rfl rfl (fun i : Nat => [(10, .c (iv i))]) (fun i => []) (fun i => i ≤ n) (fun i => n - i) 0 (by omega) weakA ?_
      intro i hi K hK hX
      by_cases hlt : i < n
      · obtain ⟨e, he⟩ : ∃ e, b[i]? = some e := ⟨b[i]'(by omega), List.getElem?_eq_getElem _⟩
        have hat := ec_at he
        have hge := hall i hlt e he
        clear hb
        obtain ⟨r, c⟩ := e
        simp only [En.c] at *
        repeat' (first | ((with_reducible refine aw_seqk ?_); intro K hK hX) | ((with_reducible refine isC_reg ?_); refine aw_prune [0, 2, 4, 8, 9, 10] rfl rfl ?_; with_reducible refine aw_region ?_) | (((with_reducible refine isA_any ?_); refine xA ?_); (first | ((with_reducible refine e_load ?_); (first | refine ex_i (s_loadAr tabOk rfl rfl rfl rfl (by first | exact hat | exact whole0 (by first | rfl | omega) | rfl) zln) ?_ | refine ex_i (s_loadAi tabOk rfl rfl rfl (by first | exact hat | exact whole0 (by first | rfl | omega) | rfl) zln) ?_)) | ((with_reducible refine e_slice ?_); (first | refine ex_i (s_slArri tabOk rfl rfl rfl rfl zbd zbd zle zle (by decide) (by first | exact hat | exact whole0 (by first | rfl | omega) | rfl) zln) ?_)))) | refine stA ?_ | (refine hK _ _ _ _ ?_; clear hK hX K) | (refine hX _ _ _ _ _ (by simp) ?_; clear hK hX K))
        exact ⟨i + 1, by omega, by omega, weakA⟩
      · repeat' (first | ((with_reducible refine aw_seqk ?_); intro K hK hX) | ((with_reducible refine isC_reg ?_); refine aw_prune [0, 2, 4, 8, 9, 10] rfl rfl ?_; with_reducible refine aw_region ?_) | refine stA ?_ | (refine hK _ _ _ _ ?_; clear hK hX K) | (refine hX _ _ _ _ _ (by simp) ?_; clear hK hX K))
        refine retK_mk zio ztr rfl (ResL.one (ResA.tmp rfl)) zou
    · obtain ⟨q, hq, hbad, hgood⟩ := first_bad hall
      rw [decide_eq_false (show ¬ posP b from fun h => hbad fun e he => h.2 e (List.mem_of_getElem? he))]
      refine ac_enter tabOk (sz := 18) Try.func61 rfl (by rw [Try.ntmps61]; rfl) ?_
      repeat' (first | ((with_reducible refine aw_seqk ?_); intro K hK hX) | ((with_reducible refine isC_reg ?_); refine aw_prune [0, 2, 4, 8, 9, 10] rfl rfl ?_; with_reducible refine aw_region ?_) | ((with_reducible refine isA_call ?_); (first | refine zA ?_ | refine zN ?_); (first | refine c0 (hb) ?_)) | refine stA ?_ | (refine hK _ _ _ _ ?_; clear hK hX K) | (refine hX _ _ _ _ _ (by simp) ?_; clear hK hX K))
      refine aw_loopo [4, 5, 6, 7, 10] [] rfl rfl (fun i : Nat => [(10, .c (iv i))]) (fun i => []) (fun i => i ≤ q) (fun i => q - i) 0 (by omega) weakA ?_
      intro i hi K hK hX
      have hin : i < n := by omega
      obtain ⟨e, he⟩ : ∃ e, b[i]? = some e := ⟨b[i]'(by omega), List.getElem?_eq_getElem _⟩
      have hat := ec_at he
      clear hb
      by_cases hlt : i < q
      · have hge := hgood i hlt e he
        clear hbad hgood
        obtain ⟨r, c⟩ := e
        simp only [En.c] at *
        repeat' (first | ((with_reducible refine aw_seqk ?_); intro K hK hX) | ((with_reducible refine isC_reg ?_); refine aw_prune [0, 2, 4, 8, 9, 10] rfl rfl ?_; with_reducible refine aw_region ?_) | (((with_reducible refine isA_any ?_); refine xA ?_); (first | ((with_reducible refine e_load ?_); (first | refine ex_i (s_loadAr tabOk rfl rfl rfl rfl (by first | exact hat | exact whole0 (by first | rfl | omega) | rfl) zln) ?_ | refine ex_i (s_loadAi tabOk rfl rfl rfl (by first | exact hat | exact whole0 (by first | rfl | omega) | rfl) zln) ?_)) | ((with_reducible refine e_slice ?_); (first | refine ex_i (s_slArri tabOk rfl rfl rfl rfl zbd zbd zle zle (by decide) (by first | exact hat | exact whole0 (by first | rfl | omega) | rfl) zln) ?_)))) | refine stA ?_ | (refine hK _ _ _ _ ?_; clear hK hX K) | (refine hX _ _ _ _ _ (by simp) ?_; clear hK hX K))
        exact ⟨i + 1, by omega, by omega, weakA⟩
      · have hiq : i = q := by omega
        have hge : ¬ 0 ≤ e.n := fun h => hbad fun e' he' => by
          rw [← hiq, he] at he'; injection he' with he'; subst he'; exact h
        clear hbad hgood
        obtain ⟨r, c⟩ := e
        simp only [En.c] at *
        repeat' (first | ((with_reducible refine aw_seqk ?_); intro K hK hX) | ((with_reducible refine isC_reg ?_); refine aw_prune [0, 2, 4, 8, 9, 10] rfl rfl ?_; with_reducible refine aw_region ?_) | (((with_reducible refine isA_any ?_); refine xA ?_); (first | ((with_reducible refine e_load ?_); (first | refine ex_i (s_loadAr tabOk rfl rfl rfl rfl (by first | exact hat | exact whole0 (by first | rfl | omega) | rfl) zln) ?_ | refine ex_i (s_loadAi tabOk rfl rfl rfl (by first | exact hat | exact whole0 (by first | rfl | omega) | rfl) zln) ?_)) | ((with_reducible refine e_slice ?_); (first | refine ex_i (s_slArri tabOk rfl rfl rfl rfl zbd zbd zle zle (by decide) (by first | exact hat | exact whole0 (by first | rfl | omega) | rfl) zln) ?_)))) | refine stA ?_ | (refine hK _ _ _ _ ?_; clear hK hX K) | (refine hX _ _ _ _ _ (by simp) ?_; clear hK hX K))
        refine retK_mk zio ztr rfl (ResL.one (ResA.tmp rfl)) zou
  · rw [decide_eq_false b1] at hb
    rw [decide_eq_false (show ¬ posP b from fun h => b1 h.1)]
    refine ac_enter tabOk (sz := 18) Try.func61 rfl (by rw [Try.ntmps61]; rfl) ?_
    repeat' (first | ((with_reducible refine aw_seqk ?_); intro K hK hX) | ((with_reducible refine isC_reg ?_); refine aw_prune [0, 2, 4, 8, 9, 10] rfl rfl ?_; with_reducible refine aw_region ?_) | ((with_reducible refine isA_call ?_); (first | refine zA ?_ | refine zN ?_); (first | refine c0 (hb) ?_)) | refine stA ?_ | (refine hK _ _ _ _ ?_; clear hK hX K) | (refine hX _ _ _ _ _ (by simp) ?_; clear hK hX K))
    refine retK_mk zio ztr rfl (ResL.one (ResA.tmp rfl)) zou
end Go.Proofs.Ytccnhpaldmjkbaa
namespace Go.Proofs.Ytccnhpaldmjkbaa
open Go Go.RowKit Go.Av
set_option maxRecDepth 100000
def limZ (kd : Int) : Int := if kd = 0 then 1073741824 else 1
def okX (lim x : Int) : Prop := 0 ≤ x ∧ x ≤ lim
def valC (s : Sk) (l : List Int) : Prop := formP s ∧ s.kd ≠ 2 ∧ (l.length : Int) = s.w * s.d ∧ ∀ x ∈ l, okX (limZ s.kd) x
theorem intc_at {l : List Int} {i : Nat} {x : Int} (h : l[i]? = some x) : (intc .i64 l)[i]? = some (iv x) := by simp [intc, h]
attribute [local irreducible] Still Adds AWL AW Drw DrwE EStep AC AWR Weak Frz Src RetK Out InK ItK AsK RdK
end Go.Proofs.Ytccnhpaldmjkbaa
namespace Go.Proofs.Ytccnhpaldmjkbaa
open Go Go.RowKit Go.Av
set_option maxRecDepth 100000
section
variable {P : Program} {tab : Tab} {ev : Evl} {h : Heap} {d : Option Tmp} {T T' ty : TypeId} {x y : Operand} {pos : String} {aft : Array Edge} {gd : Option (Nat × Bool)}
theorem s_eqnilC (tb : TabOk P tab) {e : TyE} {E size n : Nat} {cs : List CV} (hn : 0 < n) (hT : tyLook tab T = some e) (hk : e.kind = .slice E) (hx : ev x = some (.c (.sl size n cs))) (hy : ev y = some (.c (.v (.slice none 0 0)))) : Still P ⟨d, .binOp .eql T x y T', ty, pos, aft, gd⟩ ev h (.c (bv false)) := by
  intro B dom M H w a hh hc he
  have h1 := he x _ hx
  have h2 := he y _ hy
  simp only [Rep, RepC] at h1 h2
  obtain ⟨A, c, us, e1, e2, e3, e4, e5, e7, e6⟩ := h1
  obtain ⟨b, o, rfl, _⟩ := e6 hn
  refine ⟨.bool false, ?_, rfl⟩
  have hr := run_equal_slice_nil (P := P) w T E (some ⟨b, o, none⟩) n c ((tyLook_ok tb hT).slice hk)
  simp [execOp, e1, h2, eqGuard, binOp, hr]
end
def leastN (l : List Int) (w : Nat) (v : Vl) : Nat → Int
  | 0 => l.getD (placeV w v 0) 0
  | i + 1 => if l.getD (placeV w v i) 0 < leastN l w v i then l.getD (placeV w v i) 0 else leastN l w v i
attribute [local irreducible] Still Adds AWL AW Drw DrwE EStep AC AWR Weak Frz Src RetK Out InK ItK AsK RdK
theorem getD_at {l : List Int} {i : Nat} (h : i < l.length) : l[i]? = some (l.getD i 0) := by
  rw [List.getD_eq_getElem?_getD, List.getElem?_eq_getElem h]; rfl
end Go.Proofs.Ytccnhpaldmjkbaa
namespace Go.Proofs.Ytccnhpaldmjkbaa
open Go Go.RowKit Go.Av
set_option maxRecDepth 100000
def putP (kd : Int) (l : List Int) (p : Nat) (n : Int) : List Int := l.set p (if kd = 0 then l.getD p 0 + n else 1)
def addN (kd : Int) (w : Nat) (v : Vl) (n : Int) (l : List Int) : Nat → List Int
  | 0 => l
  | i + 1 => putP kd (addN kd w v n l i) (placeV w v i) n
def stepE (kd : Int) (w d col : Nat) (l : List Int) (e : En) : List Int := if (cellV e.r col).k = 0 then l else addN kd w (cellV e.r col) e.n l d
def buildN (kd : Int) (w d col : Nat) (b : List En) (i : Nat) : List Int := (b.take i).foldl (stepE kd w d col) (List.replicate (w * d) 0)
/-- All cells within bounds. -/
def inB (l : List Int) (M : Int) : Prop := ∀ x ∈ l, 0 ≤ x ∧ x ≤ M
attribute [local irreducible] Still Adds AWL AW Drw DrwE EStep AC AWR Weak Frz Src RetK Out InK ItK AsK RdK
end Go.Proofs.Ytccnhpaldmjkbaa
