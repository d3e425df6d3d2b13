/-
  Joined texts: G5. Lemmas; no statement of a law.
-/
import Derived.Test.YtddlgdppfeeplaaM1
import Derived.Test.YtddlgdppfeeplaaM2
import Derived.Test.YtddlgdppfeeplaaM3
import Derived.Test.YtddlgdppfeeplaaM4
import Derived.Test.YtddlgdppfeeplaaM5
import Derived.Test.YtddlgdppfeeplaaM6
/-
  The law DiskPlays (walk).
-/
set_option linter.unusedVariables false
set_option linter.unusedSimpArgs false
namespace Go.Proofs.Ytddlgdppfeeplaa
open Go Go.RowKit Go.Av
set_option maxRecDepth 100000
theorem short_at {l : List Ac} (h : shortB l = true) {i : Nat} {a : Ac} (ha : l[i]? = some a) : a.bs.length ≤ 60 := by
  unfold shortB at h
  rw [Bool.and_eq_true] at h
  have := List.all_eq_true.1 h.1 a (List.mem_of_getElem? ha)
  exact of_decide_eq_true this
theorem short_len {l : List Ac} (h : shortB l = true) : l.length ≤ 30 := by
  unfold shortB at h
  rw [Bool.and_eq_true] at h
  exact of_decide_eq_true h.2
/-- The operations' numbers are of 64 bits. -/
def wideA (l : List Ac) : Prop := ∀ a ∈ l, (-9223372036854775808 ≤ a.kd ∧ a.kd ≤ 9223372036854775807) ∧ -9223372036854775808 ≤ a.n ∧ a.n ≤ 9223372036854775807
attribute [local irreducible] Still Adds AWL AW Drw DrwE EStep AC AWR Weak Frz Src RetK Out InK ItK AsK RdK
attribute [local simp] u8c_take u8c_drop u8c_app u8c_length zc_length lay_len zc_u8
abbrev dkB (m k : Nat) (s : Dk) : List AV := [.c (.sl 1 m (u8c s.sy)), .c (.sl 1 k (u8c s.pe)), .c (iv s.fu), .c (bv s.dn)]
set_option maxHeartbeats 8000000 in
theorem law_plays (l : List Ac) (n : Nat) (hn : l.length = n) (hm : n ≤ maxLen) (hw : wideA l) : AC Try.prog 5 [.sl 3 n (acsC l)] (.c (bv true)) [] 0 := by
  have hac := acsC_length l
  rw [hn] at hac
  have hsh := short_ok l n hn hm
  cases hs : shortB l with
  | false =>
    rw [hs] at hsh
    refine ac_enter tabOk (sz := 67) Try.func5 rfl (by rw [Try.ntmps5]; rfl) ?_
    repeat' (first
    | ((with_reducible refine aw_seqk ?_); intro K hK hX)
    | ((with_reducible refine isC_reg ?_); refine aw_prune [0, 2, 3, 4, 5, 6, 7, 8, 9] rfl rfl ?_; with_reducible refine aw_region ?_)
    | ((with_reducible refine isC_draw ?_); refine aw_prune [0, 2, 3, 4, 5, 6, 7, 8, 9] rfl rfl ?_; refine aw_drwF [] ?_)
    | ((first | with_reducible refine isA_call ?_ | with_reducible refine isD_call ?_); (first | refine zA ?_ | refine zN ?_ | refine zD ?_); (first | refine c0 (awake32_ok) ?_ | refine c0 (hsh) ?_))
    | refine stA ?_
    | refine stD ?_
    | (refine hK _ _ _ _ ?_; clear hK hX K)
    | (refine hX _ _ _ _ _ (by simp) ?_; clear hK hX K))
    refine retK_mk (by first | exact .inl rfl | exact .inr rfl) (by exact trivial) rfl (ResL.one (ResA.tmp rfl)) (by first | exact out_c (by repeat' (first | exact frz_c cv_rfl | exact frz_c cv_nil | exact frz_ownW rfl rfl (by first | rfl | with_reducible assumption | (simp <;> fail) | omega | (simp <;> omega) | assumption) | exact frz_own rfl rfl rfl (by first | rfl | with_reducible assumption | (simp <;> fail) | omega | (simp <;> omega) | assumption) | exact frz_cv (frz_ownW rfl rfl (by first | rfl | with_reducible assumption | (simp <;> fail) | omega | (simp <;> omega) | assumption)) (cv_sl (by first | rfl | omega | (simp <;> fail) | fail) (by first | rfl | omega | (simp <;> fail) | fail)) | exact frz_cv (frz_own rfl rfl rfl (by first | rfl | with_reducible assumption | (simp <;> fail) | omega | (simp <;> omega) | assumption)) (cv_sl (by first | rfl | omega | (simp <;> fail) | fail) (by first | rfl | omega | (simp <;> fail) | fail)) | refine frz_agg rfl ?_ | refine frz_c (cv_agg ?_) | exact frzl_nil | refine frzl_cons ?_ ?_ | exact cvl_nil | refine cvl_cons ?_ ?_ | exact cv_rfl | exact cv_nil | exact cv_sl (by first | rfl | omega | (simp <;> fail) | fail) (by first | rfl | omega | (simp <;> fail) | fail) | exact frz_own rfl rfl (by assumption) (by assumption) | exact frz_int (by first | exact w64 (by omega) (by omega) | omega) | exact frz_true (by first | assumption | omega) | exact frz_false (by first | assumption | omega) | exact frz_eq (frz_c cv_rfl) (by first | rfl | (simp <;> fail) | fail))) | exact out_own rfl rfl)
  | true =>
    rw [hs] at hsh
    have hl30 := short_len hs
    rw [hn] at hl30
    refine ac_enter tabOk (sz := 67) Try.func5 rfl (by rw [Try.ntmps5]; rfl) ?_
    repeat' (first
    | ((with_reducible refine aw_seqk ?_); intro K hK hX)
    | ((with_reducible refine isC_reg ?_); refine aw_prune [0, 2, 3, 4, 5, 6, 7, 8, 9] rfl rfl ?_; with_reducible refine aw_region ?_)
    | ((with_reducible refine isC_draw ?_); refine aw_prune [0, 2, 3, 4, 5, 6, 7, 8, 9] rfl rfl ?_; refine aw_drwF [] ?_)
    | ((first | with_reducible refine isA_call ?_ | with_reducible refine isD_call ?_); (first | refine zA ?_ | refine zN ?_ | refine zD ?_); (first | refine c0 (awake32_ok) ?_ | refine c0 (hsh) ?_ | refine c0 (new_ok) ?_ | refine c0 (rnew_ok) ?_))
    | refine stA ?_
    | refine stD ?_
    | (refine hK _ _ _ _ ?_; clear hK hX K)
    | (refine hX _ _ _ _ _ (by simp) ?_; clear hK hX K))
    refine aw_loopo [5] [0, 1] rfl rfl (fun p : Nat × Dk × Nat × Nat => [(5, .c (iv p.1))]) (fun p => [(0, .blk 26 (dkB p.2.2.1 p.2.2.2 p.2.1)), (1, .blk 26 (dkB p.2.2.1 p.2.2.2 p.2.1))]) (fun p => p.1 ≤ n ∧ p.2.1.ok = true ∧ p.2.1.fu ≤ 9223372036854775807 ∧ p.2.1.sy.length = p.2.2.1 ∧ p.2.1.pe.length = p.2.2.2) (fun p => n - p.1) (0, ⟨[], [], -1, false⟩, 0, 0) ⟨Nat.zero_le _, rfl, by decide, rfl, rfl⟩ weakA ?_
    rintro ⟨i, ⟨sy, pe, fu, dn⟩, m, k⟩ ⟨hi, hok, hfu, hsy, hpe⟩ K hK hX
    simp only at hi hok hfu hsy hpe
    obtain ⟨l1, l2⟩ := ok_facts hsy hpe hok
    by_cases hlt : i < n
    · obtain ⟨a, ha⟩ : ∃ a, l[i]? = some a := ⟨l[i]'(by omega), List.getElem?_eq_getElem _⟩
      have hb := short_at hs ha
      obtain ⟨⟨w1, w2⟩, w3, w4⟩ := hw a (List.mem_of_getElem? ha)
      have hat := acs_at l i a ha
      obtain ⟨kd, ni, bs⟩ := a
      unfold acC at hat
      simp only at hat hb w1 w2 w3 w4
      obtain ⟨nb, hnb⟩ : ∃ nb, bs.length = nb := ⟨_, rfl⟩
      rw [hnb] at hat hb
      obtain ⟨s', e, hr⟩ : ∃ s' e, opD ⟨sy, pe, fu, dn⟩ kd ni bs = (s', e) := ⟨_, _, rfl⟩
      obtain ⟨ok', fu'⟩ := opD_ok hok hfu w4 hr
      obtain ⟨m', hm'⟩ : ∃ m', s'.sy.length = m' := ⟨_, rfl⟩
      obtain ⟨k', hk'⟩ : ∃ k', s'.pe.length = k' := ⟨_, rfl⟩
      have g1 := do_ok sy pe bs fu dn m k nb kd ni hsy hpe hnb (by omega) (by omega) (by omega) hfu w3 w4 s' e m' k' hr hm' hk'
      have g2 := model_ok sy pe bs fu dn m k nb kd ni hsy hpe hnb (by omega) (by omega) (by omega) hfu w3 w4 s' e m' k' hr hm' hk'
      clear hr
      obtain ⟨sy', pe', fv, dv⟩ := s'
      simp only at hm' hk' fu' g1 g2
      obtain ⟨l3, l4⟩ := ok_facts hm' hk' ok'
      have g3 := same_ok sy' pe' fv dv m' k' hm' hk'
      by_cases e0 : e = 0
      · subst e0
        have g4 := lsame_ok sy' pe' fv dv m' k' hm' hk' (by omega) (by omega)
        have g5 := valid_ok sy' pe' fv dv m' k' hm' hk' (by omega) (by omega)
        rw [ok'] at g5
        repeat' (first
    | ((with_reducible refine aw_seqk ?_); intro K hK hX)
    | ((with_reducible refine isC_reg ?_); refine aw_prune [0, 2, 3, 4, 5, 6, 7, 8, 9] rfl rfl ?_; with_reducible refine aw_region ?_)
    | ((with_reducible refine isC_draw ?_); refine aw_prune [0, 2, 3, 4, 5, 6, 7, 8, 9] rfl rfl ?_; refine aw_drwE [] ?_)
    | ((first | with_reducible refine isA_call ?_ | with_reducible refine isE_call ?_); (first | refine zA ?_ | refine zN ?_ | refine zE ?_); (first | refine c0 (g1) ?_ | refine c0 (g2) ?_ | refine c0 (g3) ?_ | refine c0 (g4) ?_ | refine c0 (g5) ?_))
    | ((first | ((with_reducible refine isA_any ?_); refine xA ?_) | ((with_reducible refine isEk_any ?_); refine xE ?_)); (first | ((with_reducible refine e_load ?_); (first | refine ex_i (s_loadAr tabOk rfl rfl rfl rfl (by first | exact hat | exact whole0 (by first | rfl | omega) | rfl) (by first | rfl | with_reducible assumption | (simp <;> fail) | omega | (simp <;> omega) | assumption)) ?_ | refine ex_i (s_loadAi tabOk rfl rfl rfl (by first | exact hat | exact whole0 (by first | rfl | omega) | rfl) (by first | rfl | with_reducible assumption | (simp <;> fail) | omega | (simp <;> omega) | assumption)) ?_)) | ((with_reducible refine e_slice ?_); (first | refine ex_i (s_slArri tabOk rfl rfl rfl rfl (by first | exact Bd.no | exact Bd.yes rfl (by first | with_reducible exact cast_self _ | with_reducible exact cast_lit _ | with_reducible exact cast_add2 _ _ | with_reducible exact cast_addl _ _ | with_reducible exact cast_sub2 (by omega) | with_reducible exact cast_subl (by omega) | with_reducible exact cast_lsub (by omega) | exact nt (by omega) | rfl)) (by first | exact Bd.no | exact Bd.yes rfl (by first | with_reducible exact cast_self _ | with_reducible exact cast_lit _ | with_reducible exact cast_add2 _ _ | with_reducible exact cast_addl _ _ | with_reducible exact cast_sub2 (by omega) | with_reducible exact cast_subl (by omega) | with_reducible exact cast_lsub (by omega) | exact nt (by omega) | rfl)) (by first | exact Nat.le_of_ble_eq_true rfl | omega | (simp <;> omega)) (by first | exact Nat.le_of_ble_eq_true rfl | omega | (simp <;> omega)) (by decide) (by first | exact hat | exact whole0 (by first | rfl | omega) | rfl) (by first | rfl | with_reducible assumption | (simp <;> fail) | omega | (simp <;> omega) | assumption)) ?_))))
    | refine stA ?_
    | refine stE ?_
    | (refine hK _ _ _ _ ?_; clear hK hX K)
    | (refine hX _ _ _ _ _ (by simp) ?_; clear hK hX K))
        exact ⟨(i + 1, ⟨sy', pe', fv, dv⟩, m', k'), ⟨by simp only; omega, ok', fu', hm', hk'⟩, by simp only; omega, weakA⟩
      · by_cases e4 : e = 104
        · subst e4
          have g4 := lsame_ok sy' pe' fv dv m' k' hm' hk' (by omega) (by omega)
          have g5 := valid_ok sy' pe' fv dv m' k' hm' hk' (by omega) (by omega)
          rw [ok'] at g5
          repeat' (first
    | ((with_reducible refine aw_seqk ?_); intro K hK hX)
    | ((with_reducible refine isC_reg ?_); refine aw_prune [0, 2, 3, 4, 5, 6, 7, 8, 9] rfl rfl ?_; with_reducible refine aw_region ?_)
    | ((with_reducible refine isC_draw ?_); refine aw_prune [0, 2, 3, 4, 5, 6, 7, 8, 9] rfl rfl ?_; refine aw_drwE [] ?_)
    | ((first | with_reducible refine isA_call ?_ | with_reducible refine isE_call ?_); (first | refine zA ?_ | refine zN ?_ | refine zE ?_); (first | refine c0 (g1) ?_ | refine c0 (g2) ?_ | refine c0 (g3) ?_ | refine c0 (g4) ?_ | refine c0 (g5) ?_))
    | ((first | ((with_reducible refine isA_any ?_); refine xA ?_) | ((with_reducible refine isEk_any ?_); refine xE ?_)); (first | ((with_reducible refine e_load ?_); (first | refine ex_i (s_loadAr tabOk rfl rfl rfl rfl (by first | exact hat | exact whole0 (by first | rfl | omega) | rfl) (by first | rfl | with_reducible assumption | (simp <;> fail) | omega | (simp <;> omega) | assumption)) ?_ | refine ex_i (s_loadAi tabOk rfl rfl rfl (by first | exact hat | exact whole0 (by first | rfl | omega) | rfl) (by first | rfl | with_reducible assumption | (simp <;> fail) | omega | (simp <;> omega) | assumption)) ?_)) | ((with_reducible refine e_slice ?_); (first | refine ex_i (s_slArri tabOk rfl rfl rfl rfl (by first | exact Bd.no | exact Bd.yes rfl (by first | with_reducible exact cast_self _ | with_reducible exact cast_lit _ | with_reducible exact cast_add2 _ _ | with_reducible exact cast_addl _ _ | with_reducible exact cast_sub2 (by omega) | with_reducible exact cast_subl (by omega) | with_reducible exact cast_lsub (by omega) | exact nt (by omega) | rfl)) (by first | exact Bd.no | exact Bd.yes rfl (by first | with_reducible exact cast_self _ | with_reducible exact cast_lit _ | with_reducible exact cast_add2 _ _ | with_reducible exact cast_addl _ _ | with_reducible exact cast_sub2 (by omega) | with_reducible exact cast_subl (by omega) | with_reducible exact cast_lsub (by omega) | exact nt (by omega) | rfl)) (by first | exact Nat.le_of_ble_eq_true rfl | omega | (simp <;> omega)) (by first | exact Nat.le_of_ble_eq_true rfl | omega | (simp <;> omega)) (by decide) (by first | exact hat | exact whole0 (by first | rfl | omega) | rfl) (by first | rfl | with_reducible assumption | (simp <;> fail) | omega | (simp <;> omega) | assumption)) ?_))))
    | refine stA ?_
    | refine stE ?_
    | (refine hK _ _ _ _ ?_; clear hK hX K)
    | (refine hX _ _ _ _ _ (by simp) ?_; clear hK hX K))
          exact ⟨(i + 1, ⟨sy', pe', fv, dv⟩, m', k'), ⟨by simp only; omega, ok', fu', hm', hk'⟩, by simp only; omega, weakA⟩
        · have g4 := lsame_ok sy pe fu dn m k hsy hpe (by omega) (by omega)
          have g5 := valid_ok sy pe fu dn m k hsy hpe (by omega) (by omega)
          rw [hok] at g5
          repeat' (first
    | ((with_reducible refine aw_seqk ?_); intro K hK hX)
    | ((with_reducible refine isC_reg ?_); refine aw_prune [0, 2, 3, 4, 5, 6, 7, 8, 9] rfl rfl ?_; with_reducible refine aw_region ?_)
    | ((with_reducible refine isC_draw ?_); refine aw_prune [0, 2, 3, 4, 5, 6, 7, 8, 9] rfl rfl ?_; refine aw_drwE [] ?_)
    | ((first | with_reducible refine isA_call ?_ | with_reducible refine isE_call ?_); (first | refine zA ?_ | refine zN ?_ | refine zE ?_); (first | refine c0 (g1) ?_ | refine c0 (g2) ?_ | refine c0 (g3) ?_ | refine c0 (g4) ?_ | refine c0 (g5) ?_))
    | ((first | ((with_reducible refine isA_any ?_); refine xA ?_) | ((with_reducible refine isEk_any ?_); refine xE ?_)); (first | ((with_reducible refine e_bin ?_); (first | refine ex_i (s_cmp rfl rfl rfl (decide_eq_false (fun h => h rfl))) ?_)) | ((with_reducible refine e_load ?_); (first | refine ex_i (s_loadAr tabOk rfl rfl rfl rfl (by first | exact hat | exact whole0 (by first | rfl | omega) | rfl) (by first | rfl | with_reducible assumption | (simp <;> fail) | omega | (simp <;> omega) | assumption)) ?_ | refine ex_i (s_loadAi tabOk rfl rfl rfl (by first | exact hat | exact whole0 (by first | rfl | omega) | rfl) (by first | rfl | with_reducible assumption | (simp <;> fail) | omega | (simp <;> omega) | assumption)) ?_)) | ((with_reducible refine e_slice ?_); (first | refine ex_i (s_slArri tabOk rfl rfl rfl rfl (by first | exact Bd.no | exact Bd.yes rfl (by first | with_reducible exact cast_self _ | with_reducible exact cast_lit _ | with_reducible exact cast_add2 _ _ | with_reducible exact cast_addl _ _ | with_reducible exact cast_sub2 (by omega) | with_reducible exact cast_subl (by omega) | with_reducible exact cast_lsub (by omega) | exact nt (by omega) | rfl)) (by first | exact Bd.no | exact Bd.yes rfl (by first | with_reducible exact cast_self _ | with_reducible exact cast_lit _ | with_reducible exact cast_add2 _ _ | with_reducible exact cast_addl _ _ | with_reducible exact cast_sub2 (by omega) | with_reducible exact cast_subl (by omega) | with_reducible exact cast_lsub (by omega) | exact nt (by omega) | rfl)) (by first | exact Nat.le_of_ble_eq_true rfl | omega | (simp <;> omega)) (by first | exact Nat.le_of_ble_eq_true rfl | omega | (simp <;> omega)) (by decide) (by first | exact hat | exact whole0 (by first | rfl | omega) | rfl) (by first | rfl | with_reducible assumption | (simp <;> fail) | omega | (simp <;> omega) | assumption)) ?_))))
    | refine stA ?_
    | refine stE ?_
    | (refine hK _ _ _ _ ?_; clear hK hX K)
    | (refine hX _ _ _ _ _ (by simp) ?_; clear hK hX K))
          exact ⟨(i + 1, ⟨sy, pe, fu, dn⟩, m, k), ⟨by simp only; omega, hok, hfu, hsy, hpe⟩, by simp only; omega, weakA⟩
    · repeat' (first
    | ((with_reducible refine aw_seqk ?_); intro K hK hX)
    | ((with_reducible refine isC_reg ?_); refine aw_prune [0, 2, 3, 4, 5, 6, 7, 8, 9] rfl rfl ?_; with_reducible refine aw_region ?_)
    | ((with_reducible refine isC_draw ?_); refine aw_prune [0, 2, 3, 4, 5, 6, 7, 8, 9] rfl rfl ?_; refine aw_drwF [] ?_)
    | ((first | with_reducible refine isA_call ?_ | with_reducible refine isD_call ?_); (first | refine zA ?_ | refine zN ?_ | refine zD ?_); (first | refine c0 (awake32_ok) ?_))
    | refine stA ?_
    | refine stD ?_
    | (refine hK _ _ _ _ ?_; clear hK hX K)
    | (refine hX _ _ _ _ _ (by simp) ?_; clear hK hX K))
      refine retK_mk (by first | exact .inl rfl | exact .inr rfl) (by exact trivial) rfl (ResL.one (ResA.tmp rfl)) (by first | exact out_c (by repeat' (first | exact frz_c cv_rfl | exact frz_c cv_nil | exact frz_ownW rfl rfl (by first | rfl | with_reducible assumption | (simp <;> fail) | omega | (simp <;> omega) | assumption) | exact frz_own rfl rfl rfl (by first | rfl | with_reducible assumption | (simp <;> fail) | omega | (simp <;> omega) | assumption) | exact frz_cv (frz_ownW rfl rfl (by first | rfl | with_reducible assumption | (simp <;> fail) | omega | (simp <;> omega) | assumption)) (cv_sl (by first | rfl | omega | (simp <;> fail) | fail) (by first | rfl | omega | (simp <;> fail) | fail)) | exact frz_cv (frz_own rfl rfl rfl (by first | rfl | with_reducible assumption | (simp <;> fail) | omega | (simp <;> omega) | assumption)) (cv_sl (by first | rfl | omega | (simp <;> fail) | fail) (by first | rfl | omega | (simp <;> fail) | fail)) | refine frz_agg rfl ?_ | refine frz_c (cv_agg ?_) | exact frzl_nil | refine frzl_cons ?_ ?_ | exact cvl_nil | refine cvl_cons ?_ ?_ | exact cv_rfl | exact cv_nil | exact cv_sl (by first | rfl | omega | (simp <;> fail) | fail) (by first | rfl | omega | (simp <;> fail) | fail) | exact frz_own rfl rfl (by assumption) (by assumption) | exact frz_int (by first | exact w64 (by omega) (by omega) | omega) | exact frz_true (by first | assumption | omega) | exact frz_false (by first | assumption | omega) | exact frz_eq (frz_c cv_rfl) (by first | rfl | (simp <;> fail) | fail))) | exact out_own rfl rfl)
end Go.Proofs.Ytddlgdppfeeplaa
