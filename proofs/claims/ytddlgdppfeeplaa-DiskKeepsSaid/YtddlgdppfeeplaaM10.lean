/-
  Joined texts: G6. Lemmas; no statement of a law.
-/
import Derived.Test.YtddlgdppfeeplaaM1
import Derived.Test.YtddlgdppfeeplaaM2
import Derived.Test.YtddlgdppfeeplaaM3
import Derived.Test.YtddlgdppfeeplaaM4
import Derived.Test.YtddlgdppfeeplaaM5
import Derived.Test.YtddlgdppfeeplaaM6
import Derived.Test.YtddlgdppfeeplaaM7
/-
  The law DiskKeeps (walk).
-/
set_option linter.unusedVariables false
set_option linter.unusedSimpArgs false
namespace Go.Proofs.Ytddlgdppfeeplaa
open Go Go.RowKit Go.Av
set_option maxRecDepth 100000
theorem keep_tail (c : Int) (hc1 : -9223372036854775808 ≤ c) (hc2 : c ≤ 9223372036854775807) (sy pe : List UInt8) (fu : Int) (dn : Bool) (m k : Nat) (A : List UInt8) (nA sc : Nat) (hsy : sy.length = m) (hpe : pe.length = k) (hok : Dk.ok ⟨sy, pe, fu, dn⟩ = true) (hsc : sc ≤ m) (hA : A.length = nA) (hr : ∃ r, A = sy ++ pe ++ r) :
    ∃ Y nY, Y.length = nY ∧ AC Try.prog 22 [dkC m k sy pe fu dn, iv c] (.tup [.c (dkC nY 0 Y [] (-1) false), .c (iv 0)]) [] 0 ∧ AC Try.prog 14 [dkC nY 0 Y [] (-1) false] (.tup [.c (.sl 1 nY (u8c Y)), .c (iv 0)]) [] 0 ∧ sc ≤ nY ∧ nY ≤ nA ∧ Y = (A.drop 0).take nY ∧ nY ≤ 131072 := by
  obtain ⟨l1, l2⟩ := ok_facts hsy hpe hok
  obtain ⟨r, hr⟩ := hr
  have hl : (sy ++ pe.take c.toNat).length ≤ m + k := by rw [List.length_append, List.length_take, hsy, hpe]; omega
  have hl2 : m ≤ (sy ++ pe.take c.toNat).length := by rw [List.length_append, hsy]; omega
  have hY : Dk.ok ⟨sy ++ pe.take c.toNat, [], -1, false⟩ = true := decide_eq_true ⟨by simp only [List.length_nil]; omega, by simp⟩
  have hAl : nA = m + k + r.length := by rw [← hA, hr, List.length_append, List.length_append, hsy, hpe]
  refine ⟨sy ++ pe.take c.toNat, (sy ++ pe.take c.toNat).length, rfl, crash_ok sy pe fu dn m k c hsy hpe (by omega) (by omega) hc1 hc2 ⟨sy ++ pe.take c.toNat, [], -1, false⟩ 0 _ 0 ?_ rfl rfl, read_ok (sy ++ pe.take c.toNat) [] (-1) false _ 0 rfl rfl (by omega) (by decide) (sy ++ pe.take c.toNat) 0 _ ?_ rfl, by omega, by omega, ?_, by omega⟩
  · unfold opC
    rw [if_neg (by simp [hok])]
  · unfold opR
    rw [if_neg (by simp [hY]), if_neg (by simp)]
    simp
  · rw [List.drop_zero, hr]
    have : (sy ++ pe.take c.toNat) <+: (sy ++ pe ++ r) := by
      refine ⟨pe.drop c.toNat ++ r, ?_⟩
      rw [List.append_assoc, List.append_assoc, ← List.append_assoc (pe.take c.toNat), List.take_append_drop]
    exact List.prefix_iff_eq_take.1 this
attribute [local irreducible] Still Adds AWL AW Drw DrwE EStep AC AWR Weak Frz Src RetK Out InK ItK AsK RdK
attribute [local simp] u8c_take u8c_drop u8c_app u8c_length zc_length lay_len zc_u8
set_option maxHeartbeats 4000000 in
theorem law_keeps (l : List Ac) (n : Nat) (c : Int) (hn : l.length = n) (hm : n ≤ maxLen) (hw : wideA l) (hc1 : -9223372036854775808 ≤ c) (hc2 : c ≤ 9223372036854775807) : AC Try.prog 7 [.sl 3 n (acsC l), iv c] (.c (bv true)) [] 0 := by
  have hac := acsC_length l
  rw [hn] at hac
  have hsh := short_ok l n hn hm
  cases hs : shortB l with
  | false =>
    rw [hs] at hsh
    refine ac_enter tabOk (sz := 131) Try.func7 rfl (by rw [Try.ntmps7]; rfl) ?_
    repeat' (first
    | ((with_reducible refine aw_seqk ?_); intro K hK hX)
    | ((with_reducible refine isC_reg ?_); refine aw_prune [0, 1, 4, 5, 6, 7, 8, 9, 10, 11, 12, 13, 14] rfl rfl ?_; with_reducible refine aw_region ?_)
    | ((with_reducible refine isC_draw ?_); refine aw_prune [0, 1, 4, 5, 6, 7, 8, 9, 10, 11, 12, 13, 14] rfl rfl ?_; refine aw_drwF [] ?_)
    | ((first | with_reducible refine isA_call ?_ | with_reducible refine isD_call ?_); (first | refine zA ?_ | refine zN ?_ | refine zD ?_); (first | refine c0 (awake32_ok) ?_ | refine c0 (hsh) ?_))
    | refine stA ?_
    | refine stD ?_
    | (refine hK _ _ _ _ ?_; clear hK hX K)
    | (refine hX _ _ _ _ _ (by simp) ?_; clear hK hX K))
    refine retK_mk (by first | exact .inl rfl | exact .inr rfl) (by exact trivial) rfl (ResL.one (ResA.tmp rfl)) (by first | exact out_c (by repeat' (first | exact frz_c cv_rfl | exact frz_c cv_nil | exact frz_ownW rfl rfl (by first | rfl | with_reducible assumption | (simp <;> fail) | omega | (simp <;> omega) | assumption) | exact frz_own rfl rfl rfl (by first | rfl | with_reducible assumption | (simp <;> fail) | omega | (simp <;> omega) | assumption) | exact frz_cv (frz_ownW rfl rfl (by first | rfl | with_reducible assumption | (simp <;> fail) | omega | (simp <;> omega) | assumption)) (cv_sl (by first | rfl | omega | (simp <;> fail) | fail) (by first | rfl | omega | (simp <;> fail) | fail)) | exact frz_cv (frz_own rfl rfl rfl (by first | rfl | with_reducible assumption | (simp <;> fail) | omega | (simp <;> omega) | assumption)) (cv_sl (by first | rfl | omega | (simp <;> fail) | fail) (by first | rfl | omega | (simp <;> fail) | fail)) | refine frz_agg rfl ?_ | refine frz_c (cv_agg ?_) | exact frzl_nil | refine frzl_cons ?_ ?_ | exact cvl_nil | refine cvl_cons ?_ ?_ | exact cv_rfl | exact cv_nil | exact cv_sl (by first | rfl | omega | (simp <;> fail) | fail) (by first | rfl | omega | (simp <;> fail) | fail) | exact frz_own rfl rfl (by assumption) (by assumption) | exact frz_int (by first | exact w64 (by omega) (by omega) | omega) | exact frz_true (by first | assumption | omega) | exact frz_false (by first | assumption | omega) | exact frz_eq (frz_c cv_rfl) (by first | rfl | (simp <;> fail) | fail))) | exact out_own rfl rfl)
  | true =>
    rw [hs] at hsh
    have hl30 := short_len hs
    rw [hn] at hl30
    refine ac_enter tabOk (sz := 131) Try.func7 rfl (by rw [Try.ntmps7]; rfl) ?_
    repeat' (first
    | ((with_reducible refine aw_seqk ?_); intro K hK hX)
    | ((with_reducible refine isC_reg ?_); refine aw_prune [0, 1, 4, 5, 6, 7, 8, 9, 10, 11, 12, 13, 14] rfl rfl ?_; with_reducible refine aw_region ?_)
    | ((with_reducible refine isC_draw ?_); refine aw_prune [0, 1, 4, 5, 6, 7, 8, 9, 10, 11, 12, 13, 14] rfl rfl ?_; refine aw_drwF [] ?_)
    | ((first | with_reducible refine isA_call ?_ | with_reducible refine isD_call ?_); (first | refine zA ?_ | refine zN ?_ | refine zD ?_); (first | refine c0 (awake32_ok) ?_ | refine c0 (hsh) ?_ | refine c0 (new_ok) ?_))
    | refine stA ?_
    | refine stD ?_
    | (refine hK _ _ _ _ ?_; clear hK hX K)
    | (refine hX _ _ _ _ _ (by simp) ?_; clear hK hX K))
    refine aw_loopo [6, 7, 8] [0, 1] rfl rfl (fun p : Nat × (List UInt8 × List UInt8 × Int) × Nat × Nat × Nat => [(8, .c (iv p.1)), (7, .c (iv p.2.2.2.2)), (6, .own 1 0 (p.2.2.1 + p.2.2.2.1) 1 true)]) (fun p => [(0, .blk 26 (dkB p.2.2.1 p.2.2.2.1 ⟨p.2.1.1, p.2.1.2.1, p.2.1.2.2, false⟩)), (1, .row 5 (u8c (p.2.1.1 ++ p.2.1.2.1)))]) (fun p => p.1 ≤ n ∧ Dk.ok ⟨p.2.1.1, p.2.1.2.1, p.2.1.2.2, false⟩ = true ∧ p.2.1.2.2 ≤ 9223372036854775807 ∧ p.2.1.1.length = p.2.2.1 ∧ p.2.1.2.1.length = p.2.2.2.1 ∧ p.2.2.2.2 ≤ p.2.2.1) (fun p => n - p.1) (0, ([], [], -1), 0, 0, 0) ⟨Nat.zero_le _, rfl, by decide, rfl, rfl, Nat.le_refl _⟩ weakA ?_
    rintro ⟨i, ⟨sy, pe, fu⟩, m, k, sc⟩ ⟨hi, hok, hfu, hsy, hpe, hsc⟩ K hK hX
    dsimp only at hi hok hfu hsy hpe hsc ⊢
    obtain ⟨l1, l2⟩ := ok_facts hsy hpe hok
    have hall : (u8c (sy ++ pe)).length = m + k := by rw [u8c_length, List.length_append, hsy, hpe]
    by_cases hlt : i < n
    · obtain ⟨a, ha⟩ : ∃ a, l[i]? = some a := ⟨l[i]'(by omega), List.getElem?_eq_getElem _⟩
      have hb := short_at hs ha
      obtain ⟨⟨w1, w2⟩, w3, w4⟩ := hw a (List.mem_of_getElem? ha)
      have hat := acs_at l i a ha
      have hk0 := acs_kd l i a ha
      have hk2 := acs_bs l i a ha
      obtain ⟨kd, ni, bs⟩ := a
      unfold acC at hat
      simp only at hat hb w1 w2 w3 w4 hk0 hk2
      obtain ⟨nb, hnb⟩ : ∃ nb, bs.length = nb := ⟨_, rfl⟩
      have hbu : (u8c bs).length = nb := by rw [u8c_length, hnb]
      rw [hnb] at hat hb hk2
      have hdo := fun s' e m' k' hr hm' hk' => do_ok sy pe bs fu false m k nb kd ni hsy hpe hnb (by omega) (by omega) (by omega) hfu w3 w4 s' e m' k' hr hm' hk'
      by_cases c1 : 2 < kd.tmod 5
      · repeat' (first
    | ((with_reducible refine aw_seqk ?_); intro K hK hX)
    | ((with_reducible refine isC_reg ?_); refine aw_prune [0, 1, 4, 5, 6, 7, 8, 9, 10, 11, 12, 13, 14] rfl rfl ?_; with_reducible refine aw_region ?_)
    | ((with_reducible refine isC_draw ?_); refine aw_prune [0, 1, 4, 5, 6, 7, 8, 9, 10, 11, 12, 13, 14] rfl rfl ?_; refine aw_drwF [] ?_)
    | ((first | ((with_reducible refine isA_any ?_); refine xA ?_) | ((with_reducible refine isDk_any ?_); refine xD ?_)); (first | ((with_reducible refine e_load ?_); (first | refine ex_i (s_load1 tabOk rfl rfl rfl rfl (by exact hk0)) ?_ | refine ex_i (s_load1r tabOk rfl rfl rfl rfl (by exact hk0)) ?_ | refine ex_i (s_load1i tabOk rfl rfl rfl (by exact hk0)) ?_)) | ((with_reducible refine e_ix ?_); (first | refine ex_i (s_ixV1 tabOk rfl rfl (by first | with_reducible exact cast_self _ | with_reducible exact cast_lit _ | with_reducible exact cast_add2 _ _ | with_reducible exact cast_addl _ _ | with_reducible exact cast_sub2 (by omega) | with_reducible exact cast_subl (by omega) | with_reducible exact cast_lsub (by omega) | exact nt (by omega) | rfl) rfl rfl rfl rfl rfl (by first | exact Nat.le_of_ble_eq_true rfl | omega | (simp <;> omega)) (by exact hk0)) ?_ | refine ex_i (s_ixStr tabOk rfl rfl (by first | with_reducible exact cast_self _ | with_reducible exact cast_lit _ | with_reducible exact cast_add2 _ _ | with_reducible exact cast_addl _ _ | with_reducible exact cast_sub2 (by omega) | with_reducible exact cast_subl (by omega) | with_reducible exact cast_lsub (by omega) | exact nt (by omega) | rfl) rfl rfl (by exact hk0)) ?_))))
    | refine stA ?_
    | refine stD ?_
    | (refine hK _ _ _ _ ?_; clear hK hX K)
    | (refine hX _ _ _ _ _ (by simp) ?_; clear hK hX K))
        exact ⟨(i + 1, (sy, pe, fu), m, k, sc), ⟨by simp only; omega, hok, hfu, hsy, hpe, hsc⟩, by simp only; omega, weakA⟩
      · by_cases c2 : kd < 0
        · repeat' (first
    | ((with_reducible refine aw_seqk ?_); intro K hK hX)
    | ((with_reducible refine isC_reg ?_); refine aw_prune [0, 1, 4, 5, 6, 7, 8, 9, 10, 11, 12, 13, 14] rfl rfl ?_; with_reducible refine aw_region ?_)
    | ((with_reducible refine isC_draw ?_); refine aw_prune [0, 1, 4, 5, 6, 7, 8, 9, 10, 11, 12, 13, 14] rfl rfl ?_; refine aw_drwF [] ?_)
    | ((first | ((with_reducible refine isA_any ?_); refine xA ?_) | ((with_reducible refine isDk_any ?_); refine xD ?_)); (first | ((with_reducible refine e_load ?_); (first | refine ex_i (s_load1 tabOk rfl rfl rfl rfl (by exact hk0)) ?_ | refine ex_i (s_load1r tabOk rfl rfl rfl rfl (by exact hk0)) ?_ | refine ex_i (s_load1i tabOk rfl rfl rfl (by exact hk0)) ?_)) | ((with_reducible refine e_ix ?_); (first | refine ex_i (s_ixV1 tabOk rfl rfl (by first | with_reducible exact cast_self _ | with_reducible exact cast_lit _ | with_reducible exact cast_add2 _ _ | with_reducible exact cast_addl _ _ | with_reducible exact cast_sub2 (by omega) | with_reducible exact cast_subl (by omega) | with_reducible exact cast_lsub (by omega) | exact nt (by omega) | rfl) rfl rfl rfl rfl rfl (by first | exact Nat.le_of_ble_eq_true rfl | omega | (simp <;> omega)) (by exact hk0)) ?_ | refine ex_i (s_ixStr tabOk rfl rfl (by first | with_reducible exact cast_self _ | with_reducible exact cast_lit _ | with_reducible exact cast_add2 _ _ | with_reducible exact cast_addl _ _ | with_reducible exact cast_sub2 (by omega) | with_reducible exact cast_subl (by omega) | with_reducible exact cast_lsub (by omega) | exact nt (by omega) | rfl) rfl rfl (by exact hk0)) ?_))))
    | refine stA ?_
    | refine stD ?_
    | (refine hK _ _ _ _ ?_; clear hK hX K)
    | (refine hX _ _ _ _ _ (by simp) ?_; clear hK hX K))
          exact ⟨(i + 1, (sy, pe, fu), m, k, sc), ⟨by simp only; omega, hok, hfu, hsy, hpe, hsc⟩, by simp only; omega, weakA⟩
        · have hmod : kd.tmod 5 = kd % 5 := r64 (by omega)
          rw [hmod] at c1
          unfold opD at hdo
          rw [hmod] at hdo
          by_cases d0 : kd % 5 = 0
          · by_cases f1 : 131072 < m + k + nb
            · have g1 := hdo dkZ 8 0 0 (by
                unfold opA
                rw [if_pos d0, if_neg (by simp [hok])]
                simp [hsy, hpe, hnb]
                omega) rfl rfl
              dsimp only [dkV, dkZ] at g1
              repeat' (first
    | ((with_reducible refine aw_seqk ?_); intro K hK hX)
    | ((with_reducible refine isC_reg ?_); refine aw_prune [0, 1, 4, 5, 6, 7, 8, 9, 10, 11, 12, 13, 14] rfl rfl ?_; with_reducible refine aw_region ?_)
    | ((with_reducible refine isC_draw ?_); refine aw_prune [0, 1, 4, 5, 6, 7, 8, 9, 10, 11, 12, 13, 14] rfl rfl ?_; refine aw_drwE [] ?_)
    | ((first | with_reducible refine isA_call ?_ | with_reducible refine isE_call ?_); (first | refine zA ?_ | refine zN ?_ | refine zE ?_); (first | refine c0 (g1) ?_))
    | ((first | ((with_reducible refine isA_any ?_); refine xA ?_) | ((with_reducible refine isEk_any ?_); refine xE ?_)); (first | ((with_reducible refine e_load ?_); (first | refine ex_i (s_load1 tabOk rfl rfl rfl rfl (by exact hk0)) ?_ | refine ex_i (s_load1r tabOk rfl rfl rfl rfl (by exact hk0)) ?_ | refine ex_i (s_load1i tabOk rfl rfl rfl (by exact hk0)) ?_ | refine ex_i (s_loadAr tabOk rfl rfl rfl rfl (by first | exact hat | exact whole0 (by first | rfl | omega) | rfl) (by first | rfl | with_reducible assumption | (simp <;> fail) | omega | (simp <;> omega) | assumption)) ?_ | refine ex_i (s_loadAi tabOk rfl rfl rfl (by first | exact hat | exact whole0 (by first | rfl | omega) | rfl) (by first | rfl | with_reducible assumption | (simp <;> fail) | omega | (simp <;> omega) | assumption)) ?_)) | ((with_reducible refine e_ix ?_); (first | refine ex_i (s_ixV1 tabOk rfl rfl (by first | with_reducible exact cast_self _ | with_reducible exact cast_lit _ | with_reducible exact cast_add2 _ _ | with_reducible exact cast_addl _ _ | with_reducible exact cast_sub2 (by omega) | with_reducible exact cast_subl (by omega) | with_reducible exact cast_lsub (by omega) | exact nt (by omega) | rfl) rfl rfl rfl rfl rfl (by first | exact Nat.le_of_ble_eq_true rfl | omega | (simp <;> omega)) (by exact hk0)) ?_ | refine ex_i (s_ixStr tabOk rfl rfl (by first | with_reducible exact cast_self _ | with_reducible exact cast_lit _ | with_reducible exact cast_add2 _ _ | with_reducible exact cast_addl _ _ | with_reducible exact cast_sub2 (by omega) | with_reducible exact cast_subl (by omega) | with_reducible exact cast_lsub (by omega) | exact nt (by omega) | rfl) rfl rfl (by exact hk0)) ?_)) | ((with_reducible refine e_slice ?_); (first | refine ex_i (s_slArri tabOk rfl rfl rfl rfl (by first | exact Bd.no | exact Bd.yes rfl (by first | with_reducible exact cast_self _ | with_reducible exact cast_lit _ | with_reducible exact cast_add2 _ _ | with_reducible exact cast_addl _ _ | with_reducible exact cast_sub2 (by omega) | with_reducible exact cast_subl (by omega) | with_reducible exact cast_lsub (by omega) | exact nt (by omega) | rfl)) (by first | exact Bd.no | exact Bd.yes rfl (by first | with_reducible exact cast_self _ | with_reducible exact cast_lit _ | with_reducible exact cast_add2 _ _ | with_reducible exact cast_addl _ _ | with_reducible exact cast_sub2 (by omega) | with_reducible exact cast_subl (by omega) | with_reducible exact cast_lsub (by omega) | exact nt (by omega) | rfl)) (by first | exact Nat.le_of_ble_eq_true rfl | omega | (simp <;> omega)) (by first | exact Nat.le_of_ble_eq_true rfl | omega | (simp <;> omega)) (by decide) (by first | exact hat | exact whole0 (by first | rfl | omega) | rfl) (by first | rfl | with_reducible assumption | (simp <;> fail) | omega | (simp <;> omega) | assumption)) ?_))))
    | refine stA ?_
    | refine stE ?_
    | (refine hK _ _ _ _ ?_; clear hK hX K)
    | (refine hX _ _ _ _ _ (by simp) ?_; clear hK hX K))
              exact ⟨(i + 1, (sy, pe, fu), m, k, sc), ⟨by simp only; omega, hok, hfu, hsy, hpe, hsc⟩, by simp only; omega, weakA⟩
            · have happ : u8c (sy ++ pe) ++ u8c bs = u8c (sy ++ (pe ++ bs)) := by rw [← u8c_app, List.append_assoc]
              by_cases f2 : fu ≠ -1 ∧ fu < (nb : Int)
              · obtain ⟨q, rfl⟩ : ∃ q : Nat, fu = (q : Int) := ⟨fu.toNat, by omega⟩
                have hq : (pe ++ bs.take q).length = k + q := by rw [List.length_append, List.length_take]; omega
                have g1 := hdo ⟨sy, pe ++ bs.take q, 0, true⟩ 104 m (k + q) (by
                  unfold opA
                  rw [if_pos d0, if_neg (by simp [hok])]
                  simp only [hsy, hpe, hnb, Bool.false_eq_true, if_false]
                  rw [if_neg f1, if_pos f2, Int.toNat_natCast]) hsy hq
                obtain ⟨Y, nY, hY, g6, g7, q1, q2, q3, q4⟩ := keep_tail c hc1 hc2 sy (pe ++ bs.take q) 0 true m (k + q) (sy ++ pe ++ bs) (m + k + nb) sc hsy hq (ok_true (s := ⟨sy, pe ++ bs.take q, 0, true⟩) hsy hq (by omega) (show (-1 : Int) ≤ 0 by decide)) hsc (by rw [List.length_append, List.length_append, hsy, hpe, hnb]) ⟨bs.drop q, by rw [List.append_assoc, List.append_assoc, List.append_assoc, List.take_append_drop]⟩
                have hAl : (sy ++ pe ++ bs).length = m + k + nb := by rw [List.length_append, List.length_append, hsy, hpe, hnb]
                have happ2 : u8c (sy ++ pe) ++ u8c bs = u8c (sy ++ pe ++ bs) := by rw [← u8c_app]
                have hYu : (u8c Y).length = nY := by rw [u8c_length, hY]
                generalize sy ++ pe ++ bs = A at *
                dsimp only [dkV, dkZ] at g1
                repeat' (first
    | ((with_reducible refine aw_seqk ?_); intro K hK hX)
    | ((with_reducible refine isC_reg ?_); refine aw_prune [0, 1, 4, 5, 6, 7, 8, 9, 10, 11, 12, 13, 14] rfl rfl ?_; with_reducible refine aw_region ?_)
    | ((with_reducible refine isC_draw ?_); refine aw_prune [0, 1, 4, 5, 6, 7, 8, 9, 10, 11, 12, 13, 14] rfl rfl ?_; refine aw_drwE [] ?_)
    | ((first | with_reducible refine isA_call ?_ | with_reducible refine isE_call ?_); (first | refine zA ?_ | refine zN ?_ | refine zE ?_); (first | refine c0 (g1) ?_))
    | ((first | ((with_reducible refine isA_any ?_); refine xA ?_) | ((with_reducible refine isEk_any ?_); refine xE ?_)); (first | ((with_reducible refine e_load ?_); (first | refine ex_i (s_load1 tabOk rfl rfl rfl rfl (by first | exact hk0 | exact hk2)) ?_ | refine ex_i (s_load1r tabOk rfl rfl rfl rfl (by first | exact hk0 | exact hk2)) ?_ | refine ex_i (s_load1i tabOk rfl rfl rfl (by first | exact hk0 | exact hk2)) ?_ | refine ex_i (s_loadAr tabOk rfl rfl rfl rfl (by first | exact hat | exact whole0 (by first | rfl | omega) | rfl) (by first | rfl | with_reducible assumption | (simp <;> fail) | omega | (simp <;> omega) | assumption)) ?_ | refine ex_i (s_loadAi tabOk rfl rfl rfl (by first | exact hat | exact whole0 (by first | rfl | omega) | rfl) (by first | rfl | with_reducible assumption | (simp <;> fail) | omega | (simp <;> omega) | assumption)) ?_)) | ((with_reducible refine e_ix ?_); (first | refine ex_i (s_ixV1 tabOk rfl rfl (by first | with_reducible exact cast_self _ | with_reducible exact cast_lit _ | with_reducible exact cast_add2 _ _ | with_reducible exact cast_addl _ _ | with_reducible exact cast_sub2 (by omega) | with_reducible exact cast_subl (by omega) | with_reducible exact cast_lsub (by omega) | exact nt (by omega) | rfl) rfl rfl rfl rfl rfl (by first | exact Nat.le_of_ble_eq_true rfl | omega | (simp <;> omega)) (by first | exact hk0 | exact hk2)) ?_ | refine ex_i (s_ixStr tabOk rfl rfl (by first | with_reducible exact cast_self _ | with_reducible exact cast_lit _ | with_reducible exact cast_add2 _ _ | with_reducible exact cast_addl _ _ | with_reducible exact cast_sub2 (by omega) | with_reducible exact cast_subl (by omega) | with_reducible exact cast_lsub (by omega) | exact nt (by omega) | rfl) rfl rfl (by first | exact hk0 | exact hk2)) ?_)) | ((with_reducible refine e_slice ?_); (first | refine ex_i (s_slArri tabOk rfl rfl rfl rfl (by first | exact Bd.no | exact Bd.yes rfl (by first | with_reducible exact cast_self _ | with_reducible exact cast_lit _ | with_reducible exact cast_add2 _ _ | with_reducible exact cast_addl _ _ | with_reducible exact cast_sub2 (by omega) | with_reducible exact cast_subl (by omega) | with_reducible exact cast_lsub (by omega) | exact nt (by omega) | rfl)) (by first | exact Bd.no | exact Bd.yes rfl (by first | with_reducible exact cast_self _ | with_reducible exact cast_lit _ | with_reducible exact cast_add2 _ _ | with_reducible exact cast_addl _ _ | with_reducible exact cast_sub2 (by omega) | with_reducible exact cast_subl (by omega) | with_reducible exact cast_lsub (by omega) | exact nt (by omega) | rfl)) (by first | exact Nat.le_of_ble_eq_true rfl | omega | (simp <;> omega)) (by first | exact Nat.le_of_ble_eq_true rfl | omega | (simp <;> omega)) (by decide) (by first | exact hat | exact whole0 (by first | rfl | omega) | rfl) (by first | rfl | with_reducible assumption | (simp <;> fail) | omega | (simp <;> omega) | assumption)) ?_))))
    | refine stA ?_
    | refine stE ?_
    | (refine hK _ _ _ _ ?_; clear hK hX K)
    | (refine hX _ _ _ _ _ (by simp) ?_; clear hK hX K))
                clear hat hk0 hk2 hdo g1 happ hb w1 w2 w3 w4 hbu hnb hq hall
                rw [happ2]
                clear happ2
                clear hw hac hsh hs
                repeat' (first
    | ((with_reducible refine aw_seqk ?_); intro K hK hX)
    | ((with_reducible refine isC_reg ?_); refine aw_prune [0, 1, 4, 5, 6, 7, 8, 9, 10, 11, 12, 13, 14] rfl rfl ?_; with_reducible refine aw_region ?_)
    | ((with_reducible refine isC_draw ?_); refine aw_prune [0, 1, 4, 5, 6, 7, 8, 9, 10, 11, 12, 13, 14] rfl rfl ?_; refine aw_drwF [] ?_)
    | ((first | with_reducible refine isA_call ?_ | with_reducible refine isD_call ?_); (first | refine zA ?_ | refine zN ?_ | refine zD ?_); (first | refine c0 (awake32_ok) ?_ | refine c0 (g6) ?_ | refine c0 (g7) ?_))
    | ((first | ((with_reducible refine isA_any ?_); refine xA ?_) | ((with_reducible refine isDk_any ?_); refine xD ?_)); (first | ((with_reducible refine e_bin ?_); (first | refine ex_i (s_eqlS rfl rfl (decide_eq_true (by rw [← q3]))) ?_)) | ((with_reducible refine e_conv ?_); (first | refine ex_i (s_toStr tabOk rfl rfl rfl rfl rfl rfl rfl (frz_u8 rfl rfl rfl rfl (by omega))) ?_))))
    | refine stA ?_
    | refine stD ?_
    | (refine hK _ _ _ _ ?_; clear hK hX K)
    | (refine hX _ _ _ _ _ (by simp) ?_; clear hK hX K))
                refine retK_mk (by first | exact .inl rfl | exact .inr rfl) (by exact trivial) rfl (ResL.one (ResA.tmp rfl)) (by first | exact out_c (by repeat' (first | exact frz_c cv_rfl | exact frz_c cv_nil | exact frz_ownW rfl rfl (by first | rfl | with_reducible assumption | (simp <;> fail) | omega | (simp <;> omega) | assumption) | exact frz_own rfl rfl rfl (by first | rfl | with_reducible assumption | (simp <;> fail) | omega | (simp <;> omega) | assumption) | exact frz_cv (frz_ownW rfl rfl (by first | rfl | with_reducible assumption | (simp <;> fail) | omega | (simp <;> omega) | assumption)) (cv_sl (by first | rfl | omega | (simp <;> fail) | fail) (by first | rfl | omega | (simp <;> fail) | fail)) | exact frz_cv (frz_own rfl rfl rfl (by first | rfl | with_reducible assumption | (simp <;> fail) | omega | (simp <;> omega) | assumption)) (cv_sl (by first | rfl | omega | (simp <;> fail) | fail) (by first | rfl | omega | (simp <;> fail) | fail)) | refine frz_agg rfl ?_ | refine frz_c (cv_agg ?_) | exact frzl_nil | refine frzl_cons ?_ ?_ | exact cvl_nil | refine cvl_cons ?_ ?_ | exact cv_rfl | exact cv_nil | exact cv_sl (by first | rfl | omega | (simp <;> fail) | fail) (by first | rfl | omega | (simp <;> fail) | fail) | exact frz_own rfl rfl (by assumption) (by assumption) | exact frz_int (by first | exact w64 (by omega) (by omega) | omega) | exact frz_true (by first | assumption | omega) | exact frz_false (by first | assumption | omega) | exact frz_eq (frz_c cv_rfl) (by first | rfl | (simp <;> fail) | fail))) | exact out_own rfl rfl)
              · have hf3 : (if fu = -1 then (-1 : Int) else fu - (nb : Int)) ≤ 9223372036854775807 ∧ -1 ≤ (if fu = -1 then (-1 : Int) else fu - (nb : Int)) := by split <;> omega
                have hq : (pe ++ bs).length = k + nb := by rw [List.length_append, hpe, hnb]
                have g1 := hdo ⟨sy, pe ++ bs, if fu = -1 then -1 else fu - nb, false⟩ 0 m (k + nb) (by
                  unfold opA
                  rw [if_pos d0, if_neg (by simp [hok])]
                  simp only [hsy, hpe, hnb, Bool.false_eq_true, if_false]
                  rw [if_neg f1, if_neg f2]) hsy hq
                generalize (if fu = -1 then (-1 : Int) else fu - (nb : Int)) = fv at *
                dsimp only [dkV, dkZ] at g1
                repeat' (first
    | ((with_reducible refine aw_seqk ?_); intro K hK hX)
    | ((with_reducible refine isC_reg ?_); refine aw_prune [0, 1, 4, 5, 6, 7, 8, 9, 10, 11, 12, 13, 14] rfl rfl ?_; with_reducible refine aw_region ?_)
    | ((with_reducible refine isC_draw ?_); refine aw_prune [0, 1, 4, 5, 6, 7, 8, 9, 10, 11, 12, 13, 14] rfl rfl ?_; refine aw_drwE [] ?_)
    | ((first | with_reducible refine isA_call ?_ | with_reducible refine isE_call ?_); (first | refine zA ?_ | refine zN ?_ | refine zE ?_); (first | refine c0 (g1) ?_))
    | ((first | ((with_reducible refine isA_any ?_); refine xA ?_) | ((with_reducible refine isEk_any ?_); refine xE ?_)); (first | ((with_reducible refine e_load ?_); (first | refine ex_i (s_load1 tabOk rfl rfl rfl rfl (by first | exact hk0 | exact hk2)) ?_ | refine ex_i (s_load1r tabOk rfl rfl rfl rfl (by first | exact hk0 | exact hk2)) ?_ | refine ex_i (s_load1i tabOk rfl rfl rfl (by first | exact hk0 | exact hk2)) ?_ | refine ex_i (s_loadAr tabOk rfl rfl rfl rfl (by first | exact hat | exact whole0 (by first | rfl | omega) | rfl) (by first | rfl | with_reducible assumption | (simp <;> fail) | omega | (simp <;> omega) | assumption)) ?_ | refine ex_i (s_loadAi tabOk rfl rfl rfl (by first | exact hat | exact whole0 (by first | rfl | omega) | rfl) (by first | rfl | with_reducible assumption | (simp <;> fail) | omega | (simp <;> omega) | assumption)) ?_)) | ((with_reducible refine e_ix ?_); (first | refine ex_i (s_ixV1 tabOk rfl rfl (by first | with_reducible exact cast_self _ | with_reducible exact cast_lit _ | with_reducible exact cast_add2 _ _ | with_reducible exact cast_addl _ _ | with_reducible exact cast_sub2 (by omega) | with_reducible exact cast_subl (by omega) | with_reducible exact cast_lsub (by omega) | exact nt (by omega) | rfl) rfl rfl rfl rfl rfl (by first | exact Nat.le_of_ble_eq_true rfl | omega | (simp <;> omega)) (by first | exact hk0 | exact hk2)) ?_ | refine ex_i (s_ixStr tabOk rfl rfl (by first | with_reducible exact cast_self _ | with_reducible exact cast_lit _ | with_reducible exact cast_add2 _ _ | with_reducible exact cast_addl _ _ | with_reducible exact cast_sub2 (by omega) | with_reducible exact cast_subl (by omega) | with_reducible exact cast_lsub (by omega) | exact nt (by omega) | rfl) rfl rfl (by first | exact hk0 | exact hk2)) ?_)) | ((with_reducible refine e_slice ?_); (first | refine ex_i (s_slArri tabOk rfl rfl rfl rfl (by first | exact Bd.no | exact Bd.yes rfl (by first | with_reducible exact cast_self _ | with_reducible exact cast_lit _ | with_reducible exact cast_add2 _ _ | with_reducible exact cast_addl _ _ | with_reducible exact cast_sub2 (by omega) | with_reducible exact cast_subl (by omega) | with_reducible exact cast_lsub (by omega) | exact nt (by omega) | rfl)) (by first | exact Bd.no | exact Bd.yes rfl (by first | with_reducible exact cast_self _ | with_reducible exact cast_lit _ | with_reducible exact cast_add2 _ _ | with_reducible exact cast_addl _ _ | with_reducible exact cast_sub2 (by omega) | with_reducible exact cast_subl (by omega) | with_reducible exact cast_lsub (by omega) | exact nt (by omega) | rfl)) (by first | exact Nat.le_of_ble_eq_true rfl | omega | (simp <;> omega)) (by first | exact Nat.le_of_ble_eq_true rfl | omega | (simp <;> omega)) (by decide) (by first | exact hat | exact whole0 (by first | rfl | omega) | rfl) (by first | rfl | with_reducible assumption | (simp <;> fail) | omega | (simp <;> omega) | assumption)) ?_))))
    | refine stA ?_
    | refine stE ?_
    | (refine hK _ _ _ _ ?_; clear hK hX K)
    | (refine hX _ _ _ _ _ (by simp) ?_; clear hK hX K))
                exact ⟨(i + 1, (sy, pe ++ bs, fv), m, k + nb, sc), ⟨by simp only; omega, ok_true (s := ⟨sy, pe ++ bs, fv, false⟩) hsy hq (by omega) hf3.2, hf3.1, hsy, hq, hsc⟩, by simp only; omega, (by refine weak_ren [0, 3] rfl rfl ?_ ?_ rfl rfl <;> (repeat' (first | exact weakER_nil | exact weakHR_nil | refine weakER_cons rfl (by first | rfl | (first | exact congrArg (AObj.row 5) happ | exact own_eq rfl rfl (by dsimp only; omega)) | exact own_eq rfl rfl (by omega) | exact int_eq (by omega) | (simp <;> fail) | (congr 4; omega) | (congr 3; omega) | (congr 2; omega)) rfl ?_ | refine weakHR_cons rfl (by first | rfl | (first | exact congrArg (AObj.row 5) happ | exact own_eq rfl rfl (by dsimp only; omega)) | exact own_eq rfl rfl (by omega) | exact int_eq (by omega) | (simp <;> fail) | (congr 4; omega) | (congr 3; omega) | (congr 2; omega)) rfl ?_)))⟩
          · by_cases d1 : kd % 5 = 1
            · by_cases f1 : fu = 0 ∧ 0 < k
              · obtain ⟨rfl, f2⟩ := f1
                have g1 := hdo ⟨sy, pe, 0, true⟩ 104 m k (by
                  unfold opS
                  rw [if_neg d0, if_pos d1, if_neg (by simp [hok])]
                  simp only [hpe, Bool.false_eq_true, if_false]
                  rw [if_pos ⟨trivial, f2⟩]) hsy hpe
                obtain ⟨Y, nY, hY, g6, g7, q1, q2, q3, q4⟩ := keep_tail c hc1 hc2 sy pe 0 true m k (sy ++ pe) (m + k) sc hsy hpe (ok_true (s := ⟨sy, pe, 0, true⟩) hsy hpe (by omega) (show (-1 : Int) ≤ 0 by decide)) hsc (by rw [List.length_append, hsy, hpe]) ⟨[], (List.append_nil _).symm⟩
                have hAl : (sy ++ pe).length = m + k := by rw [List.length_append, hsy, hpe]
                have hYu : (u8c Y).length = nY := by rw [u8c_length, hY]
                generalize sy ++ pe = A at *
                dsimp only [dkV, dkZ] at g1
                repeat' (first
    | ((with_reducible refine aw_seqk ?_); intro K hK hX)
    | ((with_reducible refine isC_reg ?_); refine aw_prune [0, 1, 4, 5, 6, 7, 8, 9, 10, 11, 12, 13, 14] rfl rfl ?_; with_reducible refine aw_region ?_)
    | ((with_reducible refine isC_draw ?_); refine aw_prune [0, 1, 4, 5, 6, 7, 8, 9, 10, 11, 12, 13, 14] rfl rfl ?_; refine aw_drwE [] ?_)
    | ((first | with_reducible refine isA_call ?_ | with_reducible refine isE_call ?_); (first | refine zA ?_ | refine zN ?_ | refine zE ?_); (first | refine c0 (g1) ?_))
    | ((first | ((with_reducible refine isA_any ?_); refine xA ?_) | ((with_reducible refine isEk_any ?_); refine xE ?_)); (first | ((with_reducible refine e_load ?_); (first | refine ex_i (s_load1 tabOk rfl rfl rfl rfl (by first | exact hk0 | exact hk2)) ?_ | refine ex_i (s_load1r tabOk rfl rfl rfl rfl (by first | exact hk0 | exact hk2)) ?_ | refine ex_i (s_load1i tabOk rfl rfl rfl (by first | exact hk0 | exact hk2)) ?_ | refine ex_i (s_loadAr tabOk rfl rfl rfl rfl (by first | exact hat | exact whole0 (by first | rfl | omega) | rfl) (by first | rfl | with_reducible assumption | (simp <;> fail) | omega | (simp <;> omega) | assumption)) ?_ | refine ex_i (s_loadAi tabOk rfl rfl rfl (by first | exact hat | exact whole0 (by first | rfl | omega) | rfl) (by first | rfl | with_reducible assumption | (simp <;> fail) | omega | (simp <;> omega) | assumption)) ?_)) | ((with_reducible refine e_ix ?_); (first | refine ex_i (s_ixV1 tabOk rfl rfl (by first | with_reducible exact cast_self _ | with_reducible exact cast_lit _ | with_reducible exact cast_add2 _ _ | with_reducible exact cast_addl _ _ | with_reducible exact cast_sub2 (by omega) | with_reducible exact cast_subl (by omega) | with_reducible exact cast_lsub (by omega) | exact nt (by omega) | rfl) rfl rfl rfl rfl rfl (by first | exact Nat.le_of_ble_eq_true rfl | omega | (simp <;> omega)) (by first | exact hk0 | exact hk2)) ?_ | refine ex_i (s_ixStr tabOk rfl rfl (by first | with_reducible exact cast_self _ | with_reducible exact cast_lit _ | with_reducible exact cast_add2 _ _ | with_reducible exact cast_addl _ _ | with_reducible exact cast_sub2 (by omega) | with_reducible exact cast_subl (by omega) | with_reducible exact cast_lsub (by omega) | exact nt (by omega) | rfl) rfl rfl (by first | exact hk0 | exact hk2)) ?_)) | ((with_reducible refine e_slice ?_); (first | refine ex_i (s_slArri tabOk rfl rfl rfl rfl (by first | exact Bd.no | exact Bd.yes rfl (by first | with_reducible exact cast_self _ | with_reducible exact cast_lit _ | with_reducible exact cast_add2 _ _ | with_reducible exact cast_addl _ _ | with_reducible exact cast_sub2 (by omega) | with_reducible exact cast_subl (by omega) | with_reducible exact cast_lsub (by omega) | exact nt (by omega) | rfl)) (by first | exact Bd.no | exact Bd.yes rfl (by first | with_reducible exact cast_self _ | with_reducible exact cast_lit _ | with_reducible exact cast_add2 _ _ | with_reducible exact cast_addl _ _ | with_reducible exact cast_sub2 (by omega) | with_reducible exact cast_subl (by omega) | with_reducible exact cast_lsub (by omega) | exact nt (by omega) | rfl)) (by first | exact Nat.le_of_ble_eq_true rfl | omega | (simp <;> omega)) (by first | exact Nat.le_of_ble_eq_true rfl | omega | (simp <;> omega)) (by decide) (by first | exact hat | exact whole0 (by first | rfl | omega) | rfl) (by first | rfl | with_reducible assumption | (simp <;> fail) | omega | (simp <;> omega) | assumption)) ?_))))
    | refine stA ?_
    | refine stE ?_
    | (refine hK _ _ _ _ ?_; clear hK hX K)
    | (refine hX _ _ _ _ _ (by simp) ?_; clear hK hX K))
                clear hat hk0 hk2 hdo g1 hb w1 w2 w3 w4 hbu hnb hall
                clear hw hac hsh hs
                repeat' (first
    | ((with_reducible refine aw_seqk ?_); intro K hK hX)
    | ((with_reducible refine isC_reg ?_); refine aw_prune [0, 1, 4, 5, 6, 7, 8, 9, 10, 11, 12, 13, 14] rfl rfl ?_; with_reducible refine aw_region ?_)
    | ((with_reducible refine isC_draw ?_); refine aw_prune [0, 1, 4, 5, 6, 7, 8, 9, 10, 11, 12, 13, 14] rfl rfl ?_; refine aw_drwF [] ?_)
    | ((first | with_reducible refine isA_call ?_ | with_reducible refine isD_call ?_); (first | refine zA ?_ | refine zN ?_ | refine zD ?_); (first | refine c0 (awake32_ok) ?_ | refine c0 (g6) ?_ | refine c0 (g7) ?_))
    | ((first | ((with_reducible refine isA_any ?_); refine xA ?_) | ((with_reducible refine isDk_any ?_); refine xD ?_)); (first | ((with_reducible refine e_bin ?_); (first | refine ex_i (s_eqlS rfl rfl (decide_eq_true (by rw [← q3]))) ?_)) | ((with_reducible refine e_conv ?_); (first | refine ex_i (s_toStr tabOk rfl rfl rfl rfl rfl rfl rfl (frz_u8 rfl rfl rfl rfl (by omega))) ?_))))
    | refine stA ?_
    | refine stD ?_
    | (refine hK _ _ _ _ ?_; clear hK hX K)
    | (refine hX _ _ _ _ _ (by simp) ?_; clear hK hX K))
                refine retK_mk (by first | exact .inl rfl | exact .inr rfl) (by exact trivial) rfl (ResL.one (ResA.tmp rfl)) (by first | exact out_c (by repeat' (first | exact frz_c cv_rfl | exact frz_c cv_nil | exact frz_ownW rfl rfl (by first | rfl | with_reducible assumption | (simp <;> fail) | omega | (simp <;> omega) | assumption) | exact frz_own rfl rfl rfl (by first | rfl | with_reducible assumption | (simp <;> fail) | omega | (simp <;> omega) | assumption) | exact frz_cv (frz_ownW rfl rfl (by first | rfl | with_reducible assumption | (simp <;> fail) | omega | (simp <;> omega) | assumption)) (cv_sl (by first | rfl | omega | (simp <;> fail) | fail) (by first | rfl | omega | (simp <;> fail) | fail)) | exact frz_cv (frz_own rfl rfl rfl (by first | rfl | with_reducible assumption | (simp <;> fail) | omega | (simp <;> omega) | assumption)) (cv_sl (by first | rfl | omega | (simp <;> fail) | fail) (by first | rfl | omega | (simp <;> fail) | fail)) | refine frz_agg rfl ?_ | refine frz_c (cv_agg ?_) | exact frzl_nil | refine frzl_cons ?_ ?_ | exact cvl_nil | refine cvl_cons ?_ ?_ | exact cv_rfl | exact cv_nil | exact cv_sl (by first | rfl | omega | (simp <;> fail) | fail) (by first | rfl | omega | (simp <;> fail) | fail) | exact frz_own rfl rfl (by assumption) (by assumption) | exact frz_int (by first | exact w64 (by omega) (by omega) | omega) | exact frz_true (by first | assumption | omega) | exact frz_false (by first | assumption | omega) | exact frz_eq (frz_c cv_rfl) (by first | rfl | (simp <;> fail) | fail))) | exact out_own rfl rfl)
              · have hq : (sy ++ pe).length = m + k := by rw [List.length_append, hsy, hpe]
                have g1 := hdo ⟨sy ++ pe, [], fu, false⟩ 0 (m + k) 0 (by
                  unfold opS
                  rw [if_neg d0, if_pos d1, if_neg (by simp [hok])]
                  simp only [hpe, Bool.false_eq_true, if_false]
                  rw [if_neg f1]) hq rfl
                dsimp only [dkV, dkZ] at g1
                repeat' (first
    | ((with_reducible refine aw_seqk ?_); intro K hK hX)
    | ((with_reducible refine isC_reg ?_); refine aw_prune [0, 1, 4, 5, 6, 7, 8, 9, 10, 11, 12, 13, 14] rfl rfl ?_; with_reducible refine aw_region ?_)
    | ((with_reducible refine isC_draw ?_); refine aw_prune [0, 1, 4, 5, 6, 7, 8, 9, 10, 11, 12, 13, 14] rfl rfl ?_; refine aw_drwE [] ?_)
    | ((first | with_reducible refine isA_call ?_ | with_reducible refine isE_call ?_); (first | refine zA ?_ | refine zN ?_ | refine zE ?_); (first | refine c0 (g1) ?_))
    | ((first | ((with_reducible refine isA_any ?_); refine xA ?_) | ((with_reducible refine isEk_any ?_); refine xE ?_)); (first | ((with_reducible refine e_load ?_); (first | refine ex_i (s_load1 tabOk rfl rfl rfl rfl (by first | exact hk0 | exact hk2)) ?_ | refine ex_i (s_load1r tabOk rfl rfl rfl rfl (by first | exact hk0 | exact hk2)) ?_ | refine ex_i (s_load1i tabOk rfl rfl rfl (by first | exact hk0 | exact hk2)) ?_ | refine ex_i (s_loadAr tabOk rfl rfl rfl rfl (by first | exact hat | exact whole0 (by first | rfl | omega) | rfl) (by first | rfl | with_reducible assumption | (simp <;> fail) | omega | (simp <;> omega) | assumption)) ?_ | refine ex_i (s_loadAi tabOk rfl rfl rfl (by first | exact hat | exact whole0 (by first | rfl | omega) | rfl) (by first | rfl | with_reducible assumption | (simp <;> fail) | omega | (simp <;> omega) | assumption)) ?_)) | ((with_reducible refine e_ix ?_); (first | refine ex_i (s_ixV1 tabOk rfl rfl (by first | with_reducible exact cast_self _ | with_reducible exact cast_lit _ | with_reducible exact cast_add2 _ _ | with_reducible exact cast_addl _ _ | with_reducible exact cast_sub2 (by omega) | with_reducible exact cast_subl (by omega) | with_reducible exact cast_lsub (by omega) | exact nt (by omega) | rfl) rfl rfl rfl rfl rfl (by first | exact Nat.le_of_ble_eq_true rfl | omega | (simp <;> omega)) (by first | exact hk0 | exact hk2)) ?_ | refine ex_i (s_ixStr tabOk rfl rfl (by first | with_reducible exact cast_self _ | with_reducible exact cast_lit _ | with_reducible exact cast_add2 _ _ | with_reducible exact cast_addl _ _ | with_reducible exact cast_sub2 (by omega) | with_reducible exact cast_subl (by omega) | with_reducible exact cast_lsub (by omega) | exact nt (by omega) | rfl) rfl rfl (by first | exact hk0 | exact hk2)) ?_)) | ((with_reducible refine e_slice ?_); (first | refine ex_i (s_slArri tabOk rfl rfl rfl rfl (by first | exact Bd.no | exact Bd.yes rfl (by first | with_reducible exact cast_self _ | with_reducible exact cast_lit _ | with_reducible exact cast_add2 _ _ | with_reducible exact cast_addl _ _ | with_reducible exact cast_sub2 (by omega) | with_reducible exact cast_subl (by omega) | with_reducible exact cast_lsub (by omega) | exact nt (by omega) | rfl)) (by first | exact Bd.no | exact Bd.yes rfl (by first | with_reducible exact cast_self _ | with_reducible exact cast_lit _ | with_reducible exact cast_add2 _ _ | with_reducible exact cast_addl _ _ | with_reducible exact cast_sub2 (by omega) | with_reducible exact cast_subl (by omega) | with_reducible exact cast_lsub (by omega) | exact nt (by omega) | rfl)) (by first | exact Nat.le_of_ble_eq_true rfl | omega | (simp <;> omega)) (by first | exact Nat.le_of_ble_eq_true rfl | omega | (simp <;> omega)) (by decide) (by first | exact hat | exact whole0 (by first | rfl | omega) | rfl) (by first | rfl | with_reducible assumption | (simp <;> fail) | omega | (simp <;> omega) | assumption)) ?_))))
    | refine stA ?_
    | refine stE ?_
    | (refine hK _ _ _ _ ?_; clear hK hX K)
    | (refine hX _ _ _ _ _ (by simp) ?_; clear hK hX K))
                exact ⟨(i + 1, (sy ++ pe, [], fu), m + k, 0, m + k), ⟨by simp only; omega, ok_true (s := ⟨sy ++ pe, [], fu, false⟩) hq rfl (by omega) l2, hfu, hq, rfl, Nat.le_refl _⟩, by simp only; omega, (by refine weak_mk rfl ?_ ?_ rfl <;> (repeat' (first | exact weakE_nil | exact weakH_nil | refine weakE_cons rfl (by first | rfl | (exact congrArg (fun x => AObj.row 5 (u8c x)) (List.append_nil _).symm) | exact own_eq rfl rfl (by omega) | exact int_eq (by omega) | (simp <;> fail) | (congr 4; omega) | (congr 3; omega) | (congr 2; omega)) rfl ?_ | refine weakH_cons rfl (by first | rfl | (exact congrArg (fun x => AObj.row 5 (u8c x)) (List.append_nil _).symm) | exact own_eq rfl rfl (by omega) | exact int_eq (by omega) | (simp <;> fail) | (congr 4; omega) | (congr 3; omega) | (congr 2; omega)) rfl ?_)))⟩
            · have d2 : kd % 5 = 2 := by omega
              by_cases f1 : ni < -1
              · have g1 := hdo dkZ 1 0 0 (by
                  unfold opF
                  rw [if_neg d0, if_neg d1, if_pos d2, if_pos (.inr f1)]) rfl rfl
                dsimp only [dkV, dkZ] at g1
                repeat' (first
    | ((with_reducible refine aw_seqk ?_); intro K hK hX)
    | ((with_reducible refine isC_reg ?_); refine aw_prune [0, 1, 4, 5, 6, 7, 8, 9, 10, 11, 12, 13, 14] rfl rfl ?_; with_reducible refine aw_region ?_)
    | ((with_reducible refine isC_draw ?_); refine aw_prune [0, 1, 4, 5, 6, 7, 8, 9, 10, 11, 12, 13, 14] rfl rfl ?_; refine aw_drwE [] ?_)
    | ((first | with_reducible refine isA_call ?_ | with_reducible refine isE_call ?_); (first | refine zA ?_ | refine zN ?_ | refine zE ?_); (first | refine c0 (g1) ?_))
    | ((first | ((with_reducible refine isA_any ?_); refine xA ?_) | ((with_reducible refine isEk_any ?_); refine xE ?_)); (first | ((with_reducible refine e_load ?_); (first | refine ex_i (s_load1 tabOk rfl rfl rfl rfl (by first | exact hk0 | exact hk2)) ?_ | refine ex_i (s_load1r tabOk rfl rfl rfl rfl (by first | exact hk0 | exact hk2)) ?_ | refine ex_i (s_load1i tabOk rfl rfl rfl (by first | exact hk0 | exact hk2)) ?_ | refine ex_i (s_loadAr tabOk rfl rfl rfl rfl (by first | exact hat | exact whole0 (by first | rfl | omega) | rfl) (by first | rfl | with_reducible assumption | (simp <;> fail) | omega | (simp <;> omega) | assumption)) ?_ | refine ex_i (s_loadAi tabOk rfl rfl rfl (by first | exact hat | exact whole0 (by first | rfl | omega) | rfl) (by first | rfl | with_reducible assumption | (simp <;> fail) | omega | (simp <;> omega) | assumption)) ?_)) | ((with_reducible refine e_ix ?_); (first | refine ex_i (s_ixV1 tabOk rfl rfl (by first | with_reducible exact cast_self _ | with_reducible exact cast_lit _ | with_reducible exact cast_add2 _ _ | with_reducible exact cast_addl _ _ | with_reducible exact cast_sub2 (by omega) | with_reducible exact cast_subl (by omega) | with_reducible exact cast_lsub (by omega) | exact nt (by omega) | rfl) rfl rfl rfl rfl rfl (by first | exact Nat.le_of_ble_eq_true rfl | omega | (simp <;> omega)) (by first | exact hk0 | exact hk2)) ?_ | refine ex_i (s_ixStr tabOk rfl rfl (by first | with_reducible exact cast_self _ | with_reducible exact cast_lit _ | with_reducible exact cast_add2 _ _ | with_reducible exact cast_addl _ _ | with_reducible exact cast_sub2 (by omega) | with_reducible exact cast_subl (by omega) | with_reducible exact cast_lsub (by omega) | exact nt (by omega) | rfl) rfl rfl (by first | exact hk0 | exact hk2)) ?_)) | ((with_reducible refine e_slice ?_); (first | refine ex_i (s_slArri tabOk rfl rfl rfl rfl (by first | exact Bd.no | exact Bd.yes rfl (by first | with_reducible exact cast_self _ | with_reducible exact cast_lit _ | with_reducible exact cast_add2 _ _ | with_reducible exact cast_addl _ _ | with_reducible exact cast_sub2 (by omega) | with_reducible exact cast_subl (by omega) | with_reducible exact cast_lsub (by omega) | exact nt (by omega) | rfl)) (by first | exact Bd.no | exact Bd.yes rfl (by first | with_reducible exact cast_self _ | with_reducible exact cast_lit _ | with_reducible exact cast_add2 _ _ | with_reducible exact cast_addl _ _ | with_reducible exact cast_sub2 (by omega) | with_reducible exact cast_subl (by omega) | with_reducible exact cast_lsub (by omega) | exact nt (by omega) | rfl)) (by first | exact Nat.le_of_ble_eq_true rfl | omega | (simp <;> omega)) (by first | exact Nat.le_of_ble_eq_true rfl | omega | (simp <;> omega)) (by decide) (by first | exact hat | exact whole0 (by first | rfl | omega) | rfl) (by first | rfl | with_reducible assumption | (simp <;> fail) | omega | (simp <;> omega) | assumption)) ?_))))
    | refine stA ?_
    | refine stE ?_
    | (refine hK _ _ _ _ ?_; clear hK hX K)
    | (refine hX _ _ _ _ _ (by simp) ?_; clear hK hX K))
                exact ⟨(i + 1, (sy, pe, fu), m, k, sc), ⟨by simp only; omega, hok, hfu, hsy, hpe, hsc⟩, by simp only; omega, weakA⟩
              · have g1 := hdo ⟨sy, pe, ni, false⟩ 0 m k (by
                  unfold opF
                  rw [if_neg d0, if_neg d1, if_pos d2, if_neg (by simp [hok]; omega)]) hsy hpe
                dsimp only [dkV, dkZ] at g1
                repeat' (first
    | ((with_reducible refine aw_seqk ?_); intro K hK hX)
    | ((with_reducible refine isC_reg ?_); refine aw_prune [0, 1, 4, 5, 6, 7, 8, 9, 10, 11, 12, 13, 14] rfl rfl ?_; with_reducible refine aw_region ?_)
    | ((with_reducible refine isC_draw ?_); refine aw_prune [0, 1, 4, 5, 6, 7, 8, 9, 10, 11, 12, 13, 14] rfl rfl ?_; refine aw_drwE [] ?_)
    | ((first | with_reducible refine isA_call ?_ | with_reducible refine isE_call ?_); (first | refine zA ?_ | refine zN ?_ | refine zE ?_); (first | refine c0 (g1) ?_))
    | ((first | ((with_reducible refine isA_any ?_); refine xA ?_) | ((with_reducible refine isEk_any ?_); refine xE ?_)); (first | ((with_reducible refine e_load ?_); (first | refine ex_i (s_load1 tabOk rfl rfl rfl rfl (by first | exact hk0 | exact hk2)) ?_ | refine ex_i (s_load1r tabOk rfl rfl rfl rfl (by first | exact hk0 | exact hk2)) ?_ | refine ex_i (s_load1i tabOk rfl rfl rfl (by first | exact hk0 | exact hk2)) ?_ | refine ex_i (s_loadAr tabOk rfl rfl rfl rfl (by first | exact hat | exact whole0 (by first | rfl | omega) | rfl) (by first | rfl | with_reducible assumption | (simp <;> fail) | omega | (simp <;> omega) | assumption)) ?_ | refine ex_i (s_loadAi tabOk rfl rfl rfl (by first | exact hat | exact whole0 (by first | rfl | omega) | rfl) (by first | rfl | with_reducible assumption | (simp <;> fail) | omega | (simp <;> omega) | assumption)) ?_)) | ((with_reducible refine e_ix ?_); (first | refine ex_i (s_ixV1 tabOk rfl rfl (by first | with_reducible exact cast_self _ | with_reducible exact cast_lit _ | with_reducible exact cast_add2 _ _ | with_reducible exact cast_addl _ _ | with_reducible exact cast_sub2 (by omega) | with_reducible exact cast_subl (by omega) | with_reducible exact cast_lsub (by omega) | exact nt (by omega) | rfl) rfl rfl rfl rfl rfl (by first | exact Nat.le_of_ble_eq_true rfl | omega | (simp <;> omega)) (by first | exact hk0 | exact hk2)) ?_ | refine ex_i (s_ixStr tabOk rfl rfl (by first | with_reducible exact cast_self _ | with_reducible exact cast_lit _ | with_reducible exact cast_add2 _ _ | with_reducible exact cast_addl _ _ | with_reducible exact cast_sub2 (by omega) | with_reducible exact cast_subl (by omega) | with_reducible exact cast_lsub (by omega) | exact nt (by omega) | rfl) rfl rfl (by first | exact hk0 | exact hk2)) ?_)) | ((with_reducible refine e_slice ?_); (first | refine ex_i (s_slArri tabOk rfl rfl rfl rfl (by first | exact Bd.no | exact Bd.yes rfl (by first | with_reducible exact cast_self _ | with_reducible exact cast_lit _ | with_reducible exact cast_add2 _ _ | with_reducible exact cast_addl _ _ | with_reducible exact cast_sub2 (by omega) | with_reducible exact cast_subl (by omega) | with_reducible exact cast_lsub (by omega) | exact nt (by omega) | rfl)) (by first | exact Bd.no | exact Bd.yes rfl (by first | with_reducible exact cast_self _ | with_reducible exact cast_lit _ | with_reducible exact cast_add2 _ _ | with_reducible exact cast_addl _ _ | with_reducible exact cast_sub2 (by omega) | with_reducible exact cast_subl (by omega) | with_reducible exact cast_lsub (by omega) | exact nt (by omega) | rfl)) (by first | exact Nat.le_of_ble_eq_true rfl | omega | (simp <;> omega)) (by first | exact Nat.le_of_ble_eq_true rfl | omega | (simp <;> omega)) (by decide) (by first | exact hat | exact whole0 (by first | rfl | omega) | rfl) (by first | rfl | with_reducible assumption | (simp <;> fail) | omega | (simp <;> omega) | assumption)) ?_))))
    | refine stA ?_
    | refine stE ?_
    | (refine hK _ _ _ _ ?_; clear hK hX K)
    | (refine hX _ _ _ _ _ (by simp) ?_; clear hK hX K))
                exact ⟨(i + 1, (sy, pe, ni), m, k, sc), ⟨by simp only; omega, ok_true (s := ⟨sy, pe, ni, false⟩) hsy hpe (by omega) (show (-1 : Int) ≤ ni by omega), w4, hsy, hpe, hsc⟩, by simp only; omega, weakA⟩
    · obtain ⟨Y, nY, hY, g6, g7, q1, q2, q3, q4⟩ := keep_tail c hc1 hc2 sy pe fu false m k (sy ++ pe) (m + k) sc hsy hpe hok hsc (by rw [List.length_append, hsy, hpe]) ⟨[], (List.append_nil _).symm⟩
      have hAl : (sy ++ pe).length = m + k := by rw [List.length_append, hsy, hpe]
      have hYu : (u8c Y).length = nY := by rw [u8c_length, hY]
      generalize sy ++ pe = A at *
      clear hw hac hsh hs
      repeat' (first
    | ((with_reducible refine aw_seqk ?_); intro K hK hX)
    | ((with_reducible refine isC_reg ?_); refine aw_prune [0, 1, 4, 5, 6, 7, 8, 9, 10, 11, 12, 13, 14] rfl rfl ?_; with_reducible refine aw_region ?_)
    | ((with_reducible refine isC_draw ?_); refine aw_prune [0, 1, 4, 5, 6, 7, 8, 9, 10, 11, 12, 13, 14] rfl rfl ?_; refine aw_drwF [] ?_)
    | ((first | with_reducible refine isA_call ?_ | with_reducible refine isD_call ?_); (first | refine zA ?_ | refine zN ?_ | refine zD ?_); (first | refine c0 (awake32_ok) ?_ | refine c0 (g6) ?_ | refine c0 (g7) ?_))
    | ((first | ((with_reducible refine isA_any ?_); refine xA ?_) | ((with_reducible refine isDk_any ?_); refine xD ?_)); (first | ((with_reducible refine e_bin ?_); (first | refine ex_i (s_eqlS rfl rfl (decide_eq_true (by rw [← q3]))) ?_)) | ((with_reducible refine e_conv ?_); (first | refine ex_i (s_toStr tabOk rfl rfl rfl rfl rfl rfl rfl (frz_u8 rfl rfl rfl rfl (by omega))) ?_))))
    | refine stA ?_
    | refine stD ?_
    | (refine hK _ _ _ _ ?_; clear hK hX K)
    | (refine hX _ _ _ _ _ (by simp) ?_; clear hK hX K))
      refine retK_mk (by first | exact .inl rfl | exact .inr rfl) (by exact trivial) rfl (ResL.one (ResA.tmp rfl)) (by first | exact out_c (by repeat' (first | exact frz_c cv_rfl | exact frz_c cv_nil | exact frz_ownW rfl rfl (by first | rfl | with_reducible assumption | (simp <;> fail) | omega | (simp <;> omega) | assumption) | exact frz_own rfl rfl rfl (by first | rfl | with_reducible assumption | (simp <;> fail) | omega | (simp <;> omega) | assumption) | exact frz_cv (frz_ownW rfl rfl (by first | rfl | with_reducible assumption | (simp <;> fail) | omega | (simp <;> omega) | assumption)) (cv_sl (by first | rfl | omega | (simp <;> fail) | fail) (by first | rfl | omega | (simp <;> fail) | fail)) | exact frz_cv (frz_own rfl rfl rfl (by first | rfl | with_reducible assumption | (simp <;> fail) | omega | (simp <;> omega) | assumption)) (cv_sl (by first | rfl | omega | (simp <;> fail) | fail) (by first | rfl | omega | (simp <;> fail) | fail)) | refine frz_agg rfl ?_ | refine frz_c (cv_agg ?_) | exact frzl_nil | refine frzl_cons ?_ ?_ | exact cvl_nil | refine cvl_cons ?_ ?_ | exact cv_rfl | exact cv_nil | exact cv_sl (by first | rfl | omega | (simp <;> fail) | fail) (by first | rfl | omega | (simp <;> fail) | fail) | exact frz_own rfl rfl (by assumption) (by assumption) | exact frz_int (by first | exact w64 (by omega) (by omega) | omega) | exact frz_true (by first | assumption | omega) | exact frz_false (by first | assumption | omega) | exact frz_eq (frz_c cv_rfl) (by first | rfl | (simp <;> fail) | fail))) | exact out_own rfl rfl)
end Go.Proofs.Ytddlgdppfeeplaa
