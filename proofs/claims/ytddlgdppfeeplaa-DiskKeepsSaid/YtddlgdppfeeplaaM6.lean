/-
  Joined texts: G2 G3 G4. Lemmas; no statement of a law.
-/
import Derived.Test.YtddlgdppfeeplaaM1
import Derived.Test.YtddlgdppfeeplaaM2
import Derived.Test.YtddlgdppfeeplaaM3
import Derived.Test.YtddlgdppfeeplaaM4
import Derived.Test.YtddlgdppfeeplaaM5
/-
  Functions of the disk (walk), as the reference has them.
-/
set_option linter.unusedVariables false
set_option linter.unusedSimpArgs false
namespace Go.Proofs.Ytddlgdppfeeplaa
open Go Go.RowKit Go.Av
set_option maxRecDepth 100000
attribute [local irreducible] Still Adds AWL AW Drw DrwE EStep AC AWR Weak Frz Src RetK Out InK ItK AsK RdK
attribute [local simp] u8c_take u8c_drop u8c_app zc_length lay_len
theorem rjoin_ok (a b : List UInt8) (m k q : Nat) (ha : a.length = m) (hb : b.length = k) (hq : m + k = q) (h : q ≤ 1000000000) : AC Try.prog 39 [.sl 1 m (u8c a), .sl 1 k (u8c b)] (.own 0 0 q 1 true) [(0, .row 5 (u8c (a ++ b)))] 1 := by
  have hua : (u8c a).length = m := by rw [u8c_length, ha]
  have hub : (u8c b).length = k := by rw [u8c_length, hb]
  subst hq
  rw [u8c_app]
  refine ac_enter tabOk (sz := 10) Try.func39 rfl (by rw [Try.ntmps39]; rfl) ?_
  repeat' (first
    | ((with_reducible refine aw_seqk ?_); intro K hK hX)
    | ((with_reducible refine isC_reg ?_); refine aw_prune [0, 1, 4] rfl rfl ?_; with_reducible refine aw_region ?_)
    | refine stA ?_
    | (refine hK _ _ _ _ ?_; clear hK hX K)
    | (refine hX _ _ _ _ _ (by simp) ?_; clear hK hX K))
  have e : 0 + m + k = m + k := by omega
  rw [e]
  refine retK_mk (by first | exact .inl rfl | exact .inr rfl) (by exact trivial) rfl (ResL.one (ResA.tmp rfl)) (by first | exact out_c (by repeat' (first | exact frz_c cv_rfl | exact frz_c cv_nil | exact frz_ownW rfl rfl (by first | rfl | with_reducible assumption | (simp <;> fail) | omega | (simp <;> omega) | assumption) | exact frz_own rfl rfl rfl (by first | rfl | with_reducible assumption | (simp <;> fail) | omega | (simp <;> omega) | assumption) | exact frz_cv (frz_ownW rfl rfl (by first | rfl | with_reducible assumption | (simp <;> fail) | omega | (simp <;> omega) | assumption)) (cv_sl (by first | rfl | omega | (simp <;> fail) | fail) (by first | rfl | omega | (simp <;> fail) | fail)) | exact frz_cv (frz_own rfl rfl rfl (by first | rfl | with_reducible assumption | (simp <;> fail) | omega | (simp <;> omega) | assumption)) (cv_sl (by first | rfl | omega | (simp <;> fail) | fail) (by first | rfl | omega | (simp <;> fail) | fail)) | refine frz_agg rfl ?_ | refine frz_c (cv_agg ?_) | exact frzl_nil | refine frzl_cons ?_ ?_ | exact cvl_nil | refine cvl_cons ?_ ?_ | exact cv_rfl | exact cv_nil | exact cv_sl (by first | rfl | omega | (simp <;> fail) | fail) (by first | rfl | omega | (simp <;> fail) | fail) | exact frz_own rfl rfl (by assumption) (by assumption) | exact frz_int (by first | exact w64 (by omega) (by omega) | omega) | exact frz_true (by first | assumption | omega) | exact frz_false (by first | assumption | omega) | exact frz_eq (frz_c cv_rfl) (by first | rfl | (simp <;> fail) | fail))) | exact out_own rfl rfl)
theorem rvalid_ok (sy pe : List UInt8) (fu : Int) (dn : Bool) (m k : Nat) (hm : sy.length = m) (hk : pe.length = k) (h1 : m ≤ 1000000) (h2 : k ≤ 1000000) : AC Try.prog 21 [dkC m k sy pe fu dn] (.c (bv (Dk.ok ⟨sy, pe, fu, dn⟩))) [] 0 := by
  have hua : (u8c sy).length = m := by rw [u8c_length, hm]
  have hub : (u8c pe).length = k := by rw [u8c_length, hk]
  by_cases b0 : (m : Int) ≤ 131072
  · by_cases b1 : (k : Int) ≤ 131072 - (m : Int)
    · by_cases b2 : -1 ≤ fu
      · rw [ok_true (s := ⟨sy, pe, fu, dn⟩) hm hk (by omega) b2]
        refine ac_enter tabOk (sz := 22) Try.func21 rfl (by rw [Try.ntmps21]; rfl) ?_
        repeat' (first
    | ((with_reducible refine aw_seqk ?_); intro K hK hX)
    | ((with_reducible refine isC_reg ?_); refine aw_prune [0, 1, 2] rfl rfl ?_; with_reducible refine aw_region ?_)
    | refine stA ?_
    | (refine hK _ _ _ _ ?_; clear hK hX K)
    | (refine hX _ _ _ _ _ (by simp) ?_; clear hK hX K))
        refine retK_mk (by first | exact .inl rfl | exact .inr rfl) (by exact trivial) rfl (ResL.one (ResA.tmp rfl)) (by first | exact out_c (by repeat' (first | exact frz_c cv_rfl | exact frz_c cv_nil | exact frz_ownW rfl rfl (by first | rfl | with_reducible assumption | (simp <;> fail) | omega | (simp <;> omega) | assumption) | exact frz_own rfl rfl rfl (by first | rfl | with_reducible assumption | (simp <;> fail) | omega | (simp <;> omega) | assumption) | exact frz_cv (frz_ownW rfl rfl (by first | rfl | with_reducible assumption | (simp <;> fail) | omega | (simp <;> omega) | assumption)) (cv_sl (by first | rfl | omega | (simp <;> fail) | fail) (by first | rfl | omega | (simp <;> fail) | fail)) | exact frz_cv (frz_own rfl rfl rfl (by first | rfl | with_reducible assumption | (simp <;> fail) | omega | (simp <;> omega) | assumption)) (cv_sl (by first | rfl | omega | (simp <;> fail) | fail) (by first | rfl | omega | (simp <;> fail) | fail)) | refine frz_agg rfl ?_ | refine frz_c (cv_agg ?_) | exact frzl_nil | refine frzl_cons ?_ ?_ | exact cvl_nil | refine cvl_cons ?_ ?_ | exact cv_rfl | exact cv_nil | exact cv_sl (by first | rfl | omega | (simp <;> fail) | fail) (by first | rfl | omega | (simp <;> fail) | fail) | exact frz_own rfl rfl (by assumption) (by assumption) | exact frz_int (by first | exact w64 (by omega) (by omega) | omega) | exact frz_true (by first | assumption | omega) | exact frz_false (by first | assumption | omega) | exact frz_eq (frz_c cv_rfl) (by first | rfl | (simp <;> fail) | fail))) | exact out_own rfl rfl)
      · rw [ok_false (s := ⟨sy, pe, fu, dn⟩) hm hk (fun h => b2 h.2)]
        refine ac_enter tabOk (sz := 22) Try.func21 rfl (by rw [Try.ntmps21]; rfl) ?_
        repeat' (first
    | ((with_reducible refine aw_seqk ?_); intro K hK hX)
    | ((with_reducible refine isC_reg ?_); refine aw_prune [0, 1, 2] rfl rfl ?_; with_reducible refine aw_region ?_)
    | refine stA ?_
    | (refine hK _ _ _ _ ?_; clear hK hX K)
    | (refine hX _ _ _ _ _ (by simp) ?_; clear hK hX K))
        refine retK_mk (by first | exact .inl rfl | exact .inr rfl) (by exact trivial) rfl (ResL.one (ResA.tmp rfl)) (by first | exact out_c (by repeat' (first | exact frz_c cv_rfl | exact frz_c cv_nil | exact frz_ownW rfl rfl (by first | rfl | with_reducible assumption | (simp <;> fail) | omega | (simp <;> omega) | assumption) | exact frz_own rfl rfl rfl (by first | rfl | with_reducible assumption | (simp <;> fail) | omega | (simp <;> omega) | assumption) | exact frz_cv (frz_ownW rfl rfl (by first | rfl | with_reducible assumption | (simp <;> fail) | omega | (simp <;> omega) | assumption)) (cv_sl (by first | rfl | omega | (simp <;> fail) | fail) (by first | rfl | omega | (simp <;> fail) | fail)) | exact frz_cv (frz_own rfl rfl rfl (by first | rfl | with_reducible assumption | (simp <;> fail) | omega | (simp <;> omega) | assumption)) (cv_sl (by first | rfl | omega | (simp <;> fail) | fail) (by first | rfl | omega | (simp <;> fail) | fail)) | refine frz_agg rfl ?_ | refine frz_c (cv_agg ?_) | exact frzl_nil | refine frzl_cons ?_ ?_ | exact cvl_nil | refine cvl_cons ?_ ?_ | exact cv_rfl | exact cv_nil | exact cv_sl (by first | rfl | omega | (simp <;> fail) | fail) (by first | rfl | omega | (simp <;> fail) | fail) | exact frz_own rfl rfl (by assumption) (by assumption) | exact frz_int (by first | exact w64 (by omega) (by omega) | omega) | exact frz_true (by first | assumption | omega) | exact frz_false (by first | assumption | omega) | exact frz_eq (frz_c cv_rfl) (by first | rfl | (simp <;> fail) | fail))) | exact out_own rfl rfl)
    · rw [ok_false (s := ⟨sy, pe, fu, dn⟩) hm hk (by omega)]
      refine ac_enter tabOk (sz := 22) Try.func21 rfl (by rw [Try.ntmps21]; rfl) ?_
      repeat' (first
    | ((with_reducible refine aw_seqk ?_); intro K hK hX)
    | ((with_reducible refine isC_reg ?_); refine aw_prune [0, 1, 2] rfl rfl ?_; with_reducible refine aw_region ?_)
    | refine stA ?_
    | (refine hK _ _ _ _ ?_; clear hK hX K)
    | (refine hX _ _ _ _ _ (by simp) ?_; clear hK hX K))
      refine retK_mk (by first | exact .inl rfl | exact .inr rfl) (by exact trivial) rfl (ResL.one (ResA.tmp rfl)) (by first | exact out_c (by repeat' (first | exact frz_c cv_rfl | exact frz_c cv_nil | exact frz_ownW rfl rfl (by first | rfl | with_reducible assumption | (simp <;> fail) | omega | (simp <;> omega) | assumption) | exact frz_own rfl rfl rfl (by first | rfl | with_reducible assumption | (simp <;> fail) | omega | (simp <;> omega) | assumption) | exact frz_cv (frz_ownW rfl rfl (by first | rfl | with_reducible assumption | (simp <;> fail) | omega | (simp <;> omega) | assumption)) (cv_sl (by first | rfl | omega | (simp <;> fail) | fail) (by first | rfl | omega | (simp <;> fail) | fail)) | exact frz_cv (frz_own rfl rfl rfl (by first | rfl | with_reducible assumption | (simp <;> fail) | omega | (simp <;> omega) | assumption)) (cv_sl (by first | rfl | omega | (simp <;> fail) | fail) (by first | rfl | omega | (simp <;> fail) | fail)) | refine frz_agg rfl ?_ | refine frz_c (cv_agg ?_) | exact frzl_nil | refine frzl_cons ?_ ?_ | exact cvl_nil | refine cvl_cons ?_ ?_ | exact cv_rfl | exact cv_nil | exact cv_sl (by first | rfl | omega | (simp <;> fail) | fail) (by first | rfl | omega | (simp <;> fail) | fail) | exact frz_own rfl rfl (by assumption) (by assumption) | exact frz_int (by first | exact w64 (by omega) (by omega) | omega) | exact frz_true (by first | assumption | omega) | exact frz_false (by first | assumption | omega) | exact frz_eq (frz_c cv_rfl) (by first | rfl | (simp <;> fail) | fail))) | exact out_own rfl rfl)
  · rw [ok_false (s := ⟨sy, pe, fu, dn⟩) hm hk (by omega)]
    refine ac_enter tabOk (sz := 22) Try.func21 rfl (by rw [Try.ntmps21]; rfl) ?_
    repeat' (first
    | ((with_reducible refine aw_seqk ?_); intro K hK hX)
    | ((with_reducible refine isC_reg ?_); refine aw_prune [0, 1, 2] rfl rfl ?_; with_reducible refine aw_region ?_)
    | refine stA ?_
    | (refine hK _ _ _ _ ?_; clear hK hX K)
    | (refine hX _ _ _ _ _ (by simp) ?_; clear hK hX K))
    refine retK_mk (by first | exact .inl rfl | exact .inr rfl) (by exact trivial) rfl (ResL.one (ResA.tmp rfl)) (by first | exact out_c (by repeat' (first | exact frz_c cv_rfl | exact frz_c cv_nil | exact frz_ownW rfl rfl (by first | rfl | with_reducible assumption | (simp <;> fail) | omega | (simp <;> omega) | assumption) | exact frz_own rfl rfl rfl (by first | rfl | with_reducible assumption | (simp <;> fail) | omega | (simp <;> omega) | assumption) | exact frz_cv (frz_ownW rfl rfl (by first | rfl | with_reducible assumption | (simp <;> fail) | omega | (simp <;> omega) | assumption)) (cv_sl (by first | rfl | omega | (simp <;> fail) | fail) (by first | rfl | omega | (simp <;> fail) | fail)) | exact frz_cv (frz_own rfl rfl rfl (by first | rfl | with_reducible assumption | (simp <;> fail) | omega | (simp <;> omega) | assumption)) (cv_sl (by first | rfl | omega | (simp <;> fail) | fail) (by first | rfl | omega | (simp <;> fail) | fail)) | refine frz_agg rfl ?_ | refine frz_c (cv_agg ?_) | exact frzl_nil | refine frzl_cons ?_ ?_ | exact cvl_nil | refine cvl_cons ?_ ?_ | exact cv_rfl | exact cv_nil | exact cv_sl (by first | rfl | omega | (simp <;> fail) | fail) (by first | rfl | omega | (simp <;> fail) | fail) | exact frz_own rfl rfl (by assumption) (by assumption) | exact frz_int (by first | exact w64 (by omega) (by omega) | omega) | exact frz_true (by first | assumption | omega) | exact frz_false (by first | assumption | omega) | exact frz_eq (frz_c cv_rfl) (by first | rfl | (simp <;> fail) | fail))) | exact out_own rfl rfl)
theorem rnew_ok : AC Try.prog 16 [] (.c (dkC 0 0 [] [] (-1) false)) [] 0 := by
  refine ac_enter tabOk (sz := 2) Try.func16 rfl (by rw [Try.ntmps16]; rfl) ?_
  repeat' (first
    | ((with_reducible refine aw_seqk ?_); intro K hK hX)
    | ((with_reducible refine isC_reg ?_); refine aw_prune [0] rfl rfl ?_; with_reducible refine aw_region ?_)
    | refine stA ?_
    | (refine hK _ _ _ _ ?_; clear hK hX K)
    | (refine hX _ _ _ _ _ (by simp) ?_; clear hK hX K))
  refine retK_mk (by first | exact .inl rfl | exact .inr rfl) (by exact trivial) rfl (ResL.one (by first | exact ResA.one rfl rfl rfl rfl rfl | exact ResA.agg rfl rfl rfl rfl rfl (by first | exact IsAgg.closed rfl rfl | exact IsAgg.mixed _) | exact ResA.aggr rfl rfl rfl rfl (by first | rfl | with_reducible assumption | (simp <;> fail) | omega | (simp <;> omega) | assumption))) (by first | exact out_c (by repeat' (first | exact frz_c cv_rfl | exact frz_c cv_nil | exact frz_ownW rfl rfl (by first | rfl | with_reducible assumption | (simp <;> fail) | omega | (simp <;> omega) | assumption) | exact frz_own rfl rfl rfl (by first | rfl | with_reducible assumption | (simp <;> fail) | omega | (simp <;> omega) | assumption) | exact frz_cv (frz_ownW rfl rfl (by first | rfl | with_reducible assumption | (simp <;> fail) | omega | (simp <;> omega) | assumption)) (cv_sl (by first | rfl | omega | (simp <;> fail) | fail) (by first | rfl | omega | (simp <;> fail) | fail)) | exact frz_cv (frz_own rfl rfl rfl (by first | rfl | with_reducible assumption | (simp <;> fail) | omega | (simp <;> omega) | assumption)) (cv_sl (by first | rfl | omega | (simp <;> fail) | fail) (by first | rfl | omega | (simp <;> fail) | fail)) | refine frz_agg rfl ?_ | refine frz_c (cv_agg ?_) | exact frzl_nil | refine frzl_cons ?_ ?_ | exact cvl_nil | refine cvl_cons ?_ ?_ | exact cv_rfl | exact cv_nil | exact cv_sl (by first | rfl | omega | (simp <;> fail) | fail) (by first | rfl | omega | (simp <;> fail) | fail) | exact frz_own rfl rfl (by assumption) (by assumption) | exact frz_int (by first | exact w64 (by omega) (by omega) | omega) | exact frz_true (by first | assumption | omega) | exact frz_false (by first | assumption | omega) | exact frz_eq (frz_c cv_rfl) (by first | rfl | (simp <;> fail) | fail))) | exact out_own rfl rfl)
set_option maxHeartbeats 4000000 in
theorem rappend_ok (sy pe b : List UInt8) (fu : Int) (dn : Bool) (m k n : Nat) (hm : sy.length = m) (hk : pe.length = k) (hn : b.length = n) (h1 : m ≤ 1000000) (h2 : k ≤ 1000000) (h3 : n ≤ 1000000) (h5 : fu ≤ 9223372036854775807) (s' : Dk) (e : Int) (m' k' : Nat) (hr : opA ⟨sy, pe, fu, dn⟩ b = (s', e)) (hm' : s'.sy.length = m') (hk' : s'.pe.length = k') : AC Try.prog 30 [dkC m k sy pe fu dn, .sl 1 n (u8c b)] (.tup [.c (dkV m' k' s'), .c (iv e)]) [] 0 := by
  have hva := rvalid_ok sy pe fu dn m k hm hk h1 h2
  have j1 := fun b n q hn hq h => rjoin_ok pe b k n q hk hn hq h
  have hua : (u8c sy).length = m := by rw [u8c_length, hm]
  have hub : (u8c pe).length = k := by rw [u8c_length, hk]
  have hun : (u8c b).length = n := by rw [u8c_length, hn]
  cases hok : Dk.ok ⟨sy, pe, fu, dn⟩ with
  | false =>
    rw [hok] at hva
    simp only [opA, hok, if_true] at hr
    injection hr with e1 e2
    subst e1 e2 hm' hk'
    refine ac_enter tabOk (sz := 61) Try.func30 rfl (by rw [Try.ntmps30]; rfl) ?_
    repeat' (first
    | ((with_reducible refine aw_seqk ?_); intro K hK hX)
    | ((with_reducible refine isC_reg ?_); refine aw_prune [0, 1, 2, 4, 5] rfl rfl ?_; with_reducible refine aw_region ?_)
    | ((with_reducible refine isC_draw ?_); refine aw_prune [0, 1, 2, 4, 5] rfl rfl ?_; refine aw_drwF [] ?_)
    | ((first | with_reducible refine isA_call ?_ | with_reducible refine isD_call ?_); (first | refine zA ?_ | refine zN ?_ | refine zD ?_); (first | refine c0 (hva) ?_))
    | refine stA ?_
    | refine stD ?_
    | (refine hK _ _ _ _ ?_; clear hK hX K)
    | (refine hX _ _ _ _ _ (by simp) ?_; clear hK hX K))
    refine retK_mk (by first | exact .inl rfl | exact .inr rfl) (by exact trivial) rfl (ResL.two (by first | exact ResA.one rfl rfl rfl rfl rfl | exact ResA.agg rfl rfl rfl rfl rfl (by first | exact IsAgg.closed rfl rfl | exact IsAgg.mixed _) | exact ResA.aggr rfl rfl rfl rfl (by first | rfl | with_reducible assumption | (simp <;> fail) | omega | (simp <;> omega) | assumption)) (ResA.tmp rfl)) (out_t (frzl_cons (by repeat' (first | exact frz_c cv_rfl | exact frz_c cv_nil | exact frz_ownW rfl rfl (by first | rfl | with_reducible assumption | (simp <;> fail) | omega | (simp <;> omega) | assumption) | exact frz_own rfl rfl rfl (by first | rfl | with_reducible assumption | (simp <;> fail) | omega | (simp <;> omega) | assumption) | exact frz_cv (frz_ownW rfl rfl (by first | rfl | with_reducible assumption | (simp <;> fail) | omega | (simp <;> omega) | assumption)) (cv_sl (by first | rfl | omega | (simp <;> fail) | fail) (by first | rfl | omega | (simp <;> fail) | fail)) | exact frz_cv (frz_own rfl rfl rfl (by first | rfl | with_reducible assumption | (simp <;> fail) | omega | (simp <;> omega) | assumption)) (cv_sl (by first | rfl | omega | (simp <;> fail) | fail) (by first | rfl | omega | (simp <;> fail) | fail)) | refine frz_agg rfl ?_ | refine frz_c (cv_agg ?_) | exact frzl_nil | refine frzl_cons ?_ ?_ | exact cvl_nil | refine cvl_cons ?_ ?_ | exact cv_rfl | exact cv_nil | exact cv_sl (by first | rfl | omega | (simp <;> fail) | fail) (by first | rfl | omega | (simp <;> fail) | fail) | exact frz_own rfl rfl (by assumption) (by assumption) | exact frz_int (by first | exact w64 (by omega) (by omega) | omega) | exact frz_true (by first | assumption | omega) | exact frz_false (by first | assumption | omega) | exact frz_eq (frz_c cv_rfl) (by first | rfl | (simp <;> fail) | fail))) (frzl_cons (by repeat' (first | exact frz_c cv_rfl | exact frz_c cv_nil | exact frz_ownW rfl rfl (by first | rfl | with_reducible assumption | (simp <;> fail) | omega | (simp <;> omega) | assumption) | exact frz_own rfl rfl rfl (by first | rfl | with_reducible assumption | (simp <;> fail) | omega | (simp <;> omega) | assumption) | exact frz_cv (frz_ownW rfl rfl (by first | rfl | with_reducible assumption | (simp <;> fail) | omega | (simp <;> omega) | assumption)) (cv_sl (by first | rfl | omega | (simp <;> fail) | fail) (by first | rfl | omega | (simp <;> fail) | fail)) | exact frz_cv (frz_own rfl rfl rfl (by first | rfl | with_reducible assumption | (simp <;> fail) | omega | (simp <;> omega) | assumption)) (cv_sl (by first | rfl | omega | (simp <;> fail) | fail) (by first | rfl | omega | (simp <;> fail) | fail)) | refine frz_agg rfl ?_ | refine frz_c (cv_agg ?_) | exact frzl_nil | refine frzl_cons ?_ ?_ | exact cvl_nil | refine cvl_cons ?_ ?_ | exact cv_rfl | exact cv_nil | exact cv_sl (by first | rfl | omega | (simp <;> fail) | fail) (by first | rfl | omega | (simp <;> fail) | fail) | exact frz_own rfl rfl (by assumption) (by assumption) | exact frz_int (by first | exact w64 (by omega) (by omega) | omega) | exact frz_true (by first | assumption | omega) | exact frz_false (by first | assumption | omega) | exact frz_eq (frz_c cv_rfl) (by first | rfl | (simp <;> fail) | fail))) frzl_nil)))
  | true =>
    rw [hok] at hva
    obtain ⟨l1, l2⟩ := ok_facts hm hk hok
    simp only [opA, hok, hm, hk, hn, Bool.true_eq_false, if_false] at hr
    cases dn with
    | true =>
      simp only [if_true] at hr
      injection hr with e1 e2
      subst e1 e2
      obtain rfl : m = m' := by rw [← hm, ← hm']
      obtain rfl : k = k' := by rw [← hk, ← hk']
      refine ac_enter tabOk (sz := 61) Try.func30 rfl (by rw [Try.ntmps30]; rfl) ?_
      repeat' (first
    | ((with_reducible refine aw_seqk ?_); intro K hK hX)
    | ((with_reducible refine isC_reg ?_); refine aw_prune [0, 1, 2, 4, 5] rfl rfl ?_; with_reducible refine aw_region ?_)
    | ((with_reducible refine isC_draw ?_); refine aw_prune [0, 1, 2, 4, 5] rfl rfl ?_; refine aw_drwF [] ?_)
    | ((first | with_reducible refine isA_call ?_ | with_reducible refine isD_call ?_); (first | refine zA ?_ | refine zN ?_ | refine zD ?_); (first | refine c0 (hva) ?_ | refine c0 (hcl) ?_))
    | refine stA ?_
    | refine stD ?_
    | (refine hK _ _ _ _ ?_; clear hK hX K)
    | (refine hX _ _ _ _ _ (by simp) ?_; clear hK hX K))
      refine retK_mk (by first | exact .inl rfl | exact .inr rfl) (by exact trivial) rfl (ResL.two (by first | exact ResA.one rfl rfl rfl rfl rfl | exact ResA.agg rfl rfl rfl rfl rfl (by first | exact IsAgg.closed rfl rfl | exact IsAgg.mixed _) | exact ResA.aggr rfl rfl rfl rfl (by first | rfl | with_reducible assumption | (simp <;> fail) | omega | (simp <;> omega) | assumption)) (ResA.tmp rfl)) (out_t (frzl_cons (by repeat' (first | exact frz_c cv_rfl | exact frz_c cv_nil | exact frz_ownW rfl rfl (by first | rfl | with_reducible assumption | (simp <;> fail) | omega | (simp <;> omega) | assumption) | exact frz_own rfl rfl rfl (by first | rfl | with_reducible assumption | (simp <;> fail) | omega | (simp <;> omega) | assumption) | exact frz_cv (frz_ownW rfl rfl (by first | rfl | with_reducible assumption | (simp <;> fail) | omega | (simp <;> omega) | assumption)) (cv_sl (by first | rfl | omega | (simp <;> fail) | fail) (by first | rfl | omega | (simp <;> fail) | fail)) | exact frz_cv (frz_own rfl rfl rfl (by first | rfl | with_reducible assumption | (simp <;> fail) | omega | (simp <;> omega) | assumption)) (cv_sl (by first | rfl | omega | (simp <;> fail) | fail) (by first | rfl | omega | (simp <;> fail) | fail)) | refine frz_agg rfl ?_ | refine frz_c (cv_agg ?_) | exact frzl_nil | refine frzl_cons ?_ ?_ | exact cvl_nil | refine cvl_cons ?_ ?_ | exact cv_rfl | exact cv_nil | exact cv_sl (by first | rfl | omega | (simp <;> fail) | fail) (by first | rfl | omega | (simp <;> fail) | fail) | exact frz_own rfl rfl (by assumption) (by assumption) | exact frz_int (by first | exact w64 (by omega) (by omega) | omega) | exact frz_true (by first | assumption | omega) | exact frz_false (by first | assumption | omega) | exact frz_eq (frz_c cv_rfl) (by first | rfl | (simp <;> fail) | fail))) (frzl_cons (by repeat' (first | exact frz_c cv_rfl | exact frz_c cv_nil | exact frz_ownW rfl rfl (by first | rfl | with_reducible assumption | (simp <;> fail) | omega | (simp <;> omega) | assumption) | exact frz_own rfl rfl rfl (by first | rfl | with_reducible assumption | (simp <;> fail) | omega | (simp <;> omega) | assumption) | exact frz_cv (frz_ownW rfl rfl (by first | rfl | with_reducible assumption | (simp <;> fail) | omega | (simp <;> omega) | assumption)) (cv_sl (by first | rfl | omega | (simp <;> fail) | fail) (by first | rfl | omega | (simp <;> fail) | fail)) | exact frz_cv (frz_own rfl rfl rfl (by first | rfl | with_reducible assumption | (simp <;> fail) | omega | (simp <;> omega) | assumption)) (cv_sl (by first | rfl | omega | (simp <;> fail) | fail) (by first | rfl | omega | (simp <;> fail) | fail)) | refine frz_agg rfl ?_ | refine frz_c (cv_agg ?_) | exact frzl_nil | refine frzl_cons ?_ ?_ | exact cvl_nil | refine cvl_cons ?_ ?_ | exact cv_rfl | exact cv_nil | exact cv_sl (by first | rfl | omega | (simp <;> fail) | fail) (by first | rfl | omega | (simp <;> fail) | fail) | exact frz_own rfl rfl (by assumption) (by assumption) | exact frz_int (by first | exact w64 (by omega) (by omega) | omega) | exact frz_true (by first | assumption | omega) | exact frz_false (by first | assumption | omega) | exact frz_eq (frz_c cv_rfl) (by first | rfl | (simp <;> fail) | fail))) frzl_nil)))
    | false =>
      simp only [Bool.false_eq_true, if_false] at hr
      by_cases b1 : 131072 < m + k + n
      · rw [if_pos b1] at hr
        injection hr with e1 e2
        subst e1 e2 hm' hk'
        refine ac_enter tabOk (sz := 61) Try.func30 rfl (by rw [Try.ntmps30]; rfl) ?_
        repeat' (first
    | ((with_reducible refine aw_seqk ?_); intro K hK hX)
    | ((with_reducible refine isC_reg ?_); refine aw_prune [0, 1, 2, 4, 5] rfl rfl ?_; with_reducible refine aw_region ?_)
    | ((with_reducible refine isC_draw ?_); refine aw_prune [0, 1, 2, 4, 5] rfl rfl ?_; refine aw_drwF [] ?_)
    | ((first | with_reducible refine isA_call ?_ | with_reducible refine isD_call ?_); (first | refine zA ?_ | refine zN ?_ | refine zD ?_); (first | refine c0 (hva) ?_ | refine c0 (hcl) ?_))
    | refine stA ?_
    | refine stD ?_
    | (refine hK _ _ _ _ ?_; clear hK hX K)
    | (refine hX _ _ _ _ _ (by simp) ?_; clear hK hX K))
        refine retK_mk (by first | exact .inl rfl | exact .inr rfl) (by exact trivial) rfl (ResL.two (by first | exact ResA.one rfl rfl rfl rfl rfl | exact ResA.agg rfl rfl rfl rfl rfl (by first | exact IsAgg.closed rfl rfl | exact IsAgg.mixed _) | exact ResA.aggr rfl rfl rfl rfl (by first | rfl | with_reducible assumption | (simp <;> fail) | omega | (simp <;> omega) | assumption)) (ResA.tmp rfl)) (out_t (frzl_cons (by repeat' (first | exact frz_c cv_rfl | exact frz_c cv_nil | exact frz_ownW rfl rfl (by first | rfl | with_reducible assumption | (simp <;> fail) | omega | (simp <;> omega) | assumption) | exact frz_own rfl rfl rfl (by first | rfl | with_reducible assumption | (simp <;> fail) | omega | (simp <;> omega) | assumption) | exact frz_cv (frz_ownW rfl rfl (by first | rfl | with_reducible assumption | (simp <;> fail) | omega | (simp <;> omega) | assumption)) (cv_sl (by first | rfl | omega | (simp <;> fail) | fail) (by first | rfl | omega | (simp <;> fail) | fail)) | exact frz_cv (frz_own rfl rfl rfl (by first | rfl | with_reducible assumption | (simp <;> fail) | omega | (simp <;> omega) | assumption)) (cv_sl (by first | rfl | omega | (simp <;> fail) | fail) (by first | rfl | omega | (simp <;> fail) | fail)) | refine frz_agg rfl ?_ | refine frz_c (cv_agg ?_) | exact frzl_nil | refine frzl_cons ?_ ?_ | exact cvl_nil | refine cvl_cons ?_ ?_ | exact cv_rfl | exact cv_nil | exact cv_sl (by first | rfl | omega | (simp <;> fail) | fail) (by first | rfl | omega | (simp <;> fail) | fail) | exact frz_own rfl rfl (by assumption) (by assumption) | exact frz_int (by first | exact w64 (by omega) (by omega) | omega) | exact frz_true (by first | assumption | omega) | exact frz_false (by first | assumption | omega) | exact frz_eq (frz_c cv_rfl) (by first | rfl | (simp <;> fail) | fail))) (frzl_cons (by repeat' (first | exact frz_c cv_rfl | exact frz_c cv_nil | exact frz_ownW rfl rfl (by first | rfl | with_reducible assumption | (simp <;> fail) | omega | (simp <;> omega) | assumption) | exact frz_own rfl rfl rfl (by first | rfl | with_reducible assumption | (simp <;> fail) | omega | (simp <;> omega) | assumption) | exact frz_cv (frz_ownW rfl rfl (by first | rfl | with_reducible assumption | (simp <;> fail) | omega | (simp <;> omega) | assumption)) (cv_sl (by first | rfl | omega | (simp <;> fail) | fail) (by first | rfl | omega | (simp <;> fail) | fail)) | exact frz_cv (frz_own rfl rfl rfl (by first | rfl | with_reducible assumption | (simp <;> fail) | omega | (simp <;> omega) | assumption)) (cv_sl (by first | rfl | omega | (simp <;> fail) | fail) (by first | rfl | omega | (simp <;> fail) | fail)) | refine frz_agg rfl ?_ | refine frz_c (cv_agg ?_) | exact frzl_nil | refine frzl_cons ?_ ?_ | exact cvl_nil | refine cvl_cons ?_ ?_ | exact cv_rfl | exact cv_nil | exact cv_sl (by first | rfl | omega | (simp <;> fail) | fail) (by first | rfl | omega | (simp <;> fail) | fail) | exact frz_own rfl rfl (by assumption) (by assumption) | exact frz_int (by first | exact w64 (by omega) (by omega) | omega) | exact frz_true (by first | assumption | omega) | exact frz_false (by first | assumption | omega) | exact frz_eq (frz_c cv_rfl) (by first | rfl | (simp <;> fail) | fail))) frzl_nil)))
      · rw [if_neg b1] at hr
        by_cases b2 : fu = -1
        · subst b2
          rw [if_neg (fun h => h.1 rfl), if_pos rfl] at hr
          injection hr with e1 e2
          subst e1 e2
          obtain rfl : m = m' := by rw [← hm, ← hm']
          obtain rfl : k + n = k' := by rw [← hk', List.length_append, hk, hn]
          have hj := j1 b n _ hn rfl (by omega)
          have hab : (u8c (pe ++ b)).length = k + n := by rw [u8c_length, hk']
          refine ac_enter tabOk (sz := 61) Try.func30 rfl (by rw [Try.ntmps30]; rfl) ?_
          repeat' (first
    | ((with_reducible refine aw_seqk ?_); intro K hK hX)
    | ((with_reducible refine isC_reg ?_); refine aw_prune [0, 1, 2, 4, 5] rfl rfl ?_; with_reducible refine aw_region ?_)
    | ((with_reducible refine isC_draw ?_); refine aw_prune [0, 1, 2, 4, 5] rfl rfl ?_; refine aw_drwF [] ?_)
    | ((first | with_reducible refine isA_call ?_ | with_reducible refine isD_call ?_); (first | refine zA ?_ | refine zN ?_ | refine zD ?_); (first | refine c0 (hva) ?_ | refine c0 (hcl) ?_ | refine c1 (hj) ?_))
    | refine stA ?_
    | refine stD ?_
    | (refine hK _ _ _ _ ?_; clear hK hX K)
    | (refine hX _ _ _ _ _ (by simp) ?_; clear hK hX K))
          refine retK_mk (by first | exact .inl rfl | exact .inr rfl) (by exact trivial) rfl (ResL.two (by first | exact ResA.one rfl rfl rfl rfl rfl | exact ResA.agg rfl rfl rfl rfl rfl (by first | exact IsAgg.closed rfl rfl | exact IsAgg.mixed _) | exact ResA.aggr rfl rfl rfl rfl (by first | rfl | with_reducible assumption | (simp <;> fail) | omega | (simp <;> omega) | assumption)) (ResA.tmp rfl)) (out_t (frzl_cons (by repeat' (first | exact frz_c cv_rfl | exact frz_c cv_nil | exact frz_ownW rfl rfl (by first | rfl | with_reducible assumption | (simp <;> fail) | omega | (simp <;> omega) | assumption) | exact frz_own rfl rfl rfl (by first | rfl | with_reducible assumption | (simp <;> fail) | omega | (simp <;> omega) | assumption) | exact frz_cv (frz_ownW rfl rfl (by first | rfl | with_reducible assumption | (simp <;> fail) | omega | (simp <;> omega) | assumption)) (cv_sl (by first | rfl | omega | (simp <;> fail) | fail) (by first | rfl | omega | (simp <;> fail) | fail)) | exact frz_cv (frz_own rfl rfl rfl (by first | rfl | with_reducible assumption | (simp <;> fail) | omega | (simp <;> omega) | assumption)) (cv_sl (by first | rfl | omega | (simp <;> fail) | fail) (by first | rfl | omega | (simp <;> fail) | fail)) | refine frz_agg rfl ?_ | refine frz_c (cv_agg ?_) | exact frzl_nil | refine frzl_cons ?_ ?_ | exact cvl_nil | refine cvl_cons ?_ ?_ | exact cv_rfl | exact cv_nil | exact cv_sl (by first | rfl | omega | (simp <;> fail) | fail) (by first | rfl | omega | (simp <;> fail) | fail) | exact frz_own rfl rfl (by assumption) (by assumption) | exact frz_int (by first | exact w64 (by omega) (by omega) | omega) | exact frz_true (by first | assumption | omega) | exact frz_false (by first | assumption | omega) | exact frz_eq (frz_c cv_rfl) (by first | rfl | (simp <;> fail) | fail))) (frzl_cons (by repeat' (first | exact frz_c cv_rfl | exact frz_c cv_nil | exact frz_ownW rfl rfl (by first | rfl | with_reducible assumption | (simp <;> fail) | omega | (simp <;> omega) | assumption) | exact frz_own rfl rfl rfl (by first | rfl | with_reducible assumption | (simp <;> fail) | omega | (simp <;> omega) | assumption) | exact frz_cv (frz_ownW rfl rfl (by first | rfl | with_reducible assumption | (simp <;> fail) | omega | (simp <;> omega) | assumption)) (cv_sl (by first | rfl | omega | (simp <;> fail) | fail) (by first | rfl | omega | (simp <;> fail) | fail)) | exact frz_cv (frz_own rfl rfl rfl (by first | rfl | with_reducible assumption | (simp <;> fail) | omega | (simp <;> omega) | assumption)) (cv_sl (by first | rfl | omega | (simp <;> fail) | fail) (by first | rfl | omega | (simp <;> fail) | fail)) | refine frz_agg rfl ?_ | refine frz_c (cv_agg ?_) | exact frzl_nil | refine frzl_cons ?_ ?_ | exact cvl_nil | refine cvl_cons ?_ ?_ | exact cv_rfl | exact cv_nil | exact cv_sl (by first | rfl | omega | (simp <;> fail) | fail) (by first | rfl | omega | (simp <;> fail) | fail) | exact frz_own rfl rfl (by assumption) (by assumption) | exact frz_int (by first | exact w64 (by omega) (by omega) | omega) | exact frz_true (by first | assumption | omega) | exact frz_false (by first | assumption | omega) | exact frz_eq (frz_c cv_rfl) (by first | rfl | (simp <;> fail) | fail))) frzl_nil)))
        · by_cases b3 : fu < (n : Int)
          · rw [if_pos ⟨b2, b3⟩] at hr
            injection hr with e1 e2
            subst e1 e2
            obtain rfl : m = m' := by rw [← hm, ← hm']
            obtain ⟨q, rfl⟩ : ∃ q : Nat, fu = (q : Int) := ⟨fu.toNat, by omega⟩
            rw [Int.toNat_natCast] at hk'
            have hq : (b.take q).length = q := by rw [List.length_take]; omega
            obtain rfl : k + q = k' := by rw [← hk', List.length_append, hk, hq]
            have hj := j1 (b.take q) q _ hq rfl (by omega)
            have hab : (u8c (pe ++ b.take q)).length = k + q := by rw [u8c_length, hk']
            refine ac_enter tabOk (sz := 61) Try.func30 rfl (by rw [Try.ntmps30]; rfl) ?_
            repeat' (first
    | ((with_reducible refine aw_seqk ?_); intro K hK hX)
    | ((with_reducible refine isC_reg ?_); refine aw_prune [0, 1, 2, 4, 5] rfl rfl ?_; with_reducible refine aw_region ?_)
    | ((with_reducible refine isC_draw ?_); refine aw_prune [0, 1, 2, 4, 5] rfl rfl ?_; refine aw_drwE [] ?_)
    | ((first | with_reducible refine isA_call ?_ | with_reducible refine isE_call ?_); (first | refine zA ?_ | refine zN ?_ | refine zE ?_); (first | refine c0 (hva) ?_ | refine c0 (hcl) ?_ | refine c1 (hj) ?_))
    | refine stA ?_
    | refine stE ?_
    | (refine hK _ _ _ _ ?_; clear hK hX K)
    | (refine hX _ _ _ _ _ (by simp) ?_; clear hK hX K))
            refine retK_mk (by first | exact .inl rfl | exact .inr rfl) (by exact trivial) rfl (ResL.two (by first | exact ResA.one rfl rfl rfl rfl rfl | exact ResA.agg rfl rfl rfl rfl rfl (by first | exact IsAgg.closed rfl rfl | exact IsAgg.mixed _) | exact ResA.aggr rfl rfl rfl rfl (by first | rfl | with_reducible assumption | (simp <;> fail) | omega | (simp <;> omega) | assumption)) (ResA.tmp rfl)) (out_t (frzl_cons (by repeat' (first | exact frz_c cv_rfl | exact frz_c cv_nil | exact frz_ownW rfl rfl (by first | rfl | with_reducible assumption | (simp <;> fail) | omega | (simp <;> omega) | assumption) | exact frz_own rfl rfl rfl (by first | rfl | with_reducible assumption | (simp <;> fail) | omega | (simp <;> omega) | assumption) | exact frz_cv (frz_ownW rfl rfl (by first | rfl | with_reducible assumption | (simp <;> fail) | omega | (simp <;> omega) | assumption)) (cv_sl (by first | rfl | omega | (simp <;> fail) | fail) (by first | rfl | omega | (simp <;> fail) | fail)) | exact frz_cv (frz_own rfl rfl rfl (by first | rfl | with_reducible assumption | (simp <;> fail) | omega | (simp <;> omega) | assumption)) (cv_sl (by first | rfl | omega | (simp <;> fail) | fail) (by first | rfl | omega | (simp <;> fail) | fail)) | refine frz_agg rfl ?_ | refine frz_c (cv_agg ?_) | exact frzl_nil | refine frzl_cons ?_ ?_ | exact cvl_nil | refine cvl_cons ?_ ?_ | exact cv_rfl | exact cv_nil | exact cv_sl (by first | rfl | omega | (simp <;> fail) | fail) (by first | rfl | omega | (simp <;> fail) | fail) | exact frz_own rfl rfl (by assumption) (by assumption) | exact frz_int (by first | exact w64 (by omega) (by omega) | omega) | exact frz_true (by first | assumption | omega) | exact frz_false (by first | assumption | omega) | exact frz_eq (frz_c cv_rfl) (by first | rfl | (simp <;> fail) | fail))) (frzl_cons (by repeat' (first | exact frz_c cv_rfl | exact frz_c cv_nil | exact frz_ownW rfl rfl (by first | rfl | with_reducible assumption | (simp <;> fail) | omega | (simp <;> omega) | assumption) | exact frz_own rfl rfl rfl (by first | rfl | with_reducible assumption | (simp <;> fail) | omega | (simp <;> omega) | assumption) | exact frz_cv (frz_ownW rfl rfl (by first | rfl | with_reducible assumption | (simp <;> fail) | omega | (simp <;> omega) | assumption)) (cv_sl (by first | rfl | omega | (simp <;> fail) | fail) (by first | rfl | omega | (simp <;> fail) | fail)) | exact frz_cv (frz_own rfl rfl rfl (by first | rfl | with_reducible assumption | (simp <;> fail) | omega | (simp <;> omega) | assumption)) (cv_sl (by first | rfl | omega | (simp <;> fail) | fail) (by first | rfl | omega | (simp <;> fail) | fail)) | refine frz_agg rfl ?_ | refine frz_c (cv_agg ?_) | exact frzl_nil | refine frzl_cons ?_ ?_ | exact cvl_nil | refine cvl_cons ?_ ?_ | exact cv_rfl | exact cv_nil | exact cv_sl (by first | rfl | omega | (simp <;> fail) | fail) (by first | rfl | omega | (simp <;> fail) | fail) | exact frz_own rfl rfl (by assumption) (by assumption) | exact frz_int (by first | exact w64 (by omega) (by omega) | omega) | exact frz_true (by first | assumption | omega) | exact frz_false (by first | assumption | omega) | exact frz_eq (frz_c cv_rfl) (by first | rfl | (simp <;> fail) | fail))) frzl_nil)))
          · rw [if_neg (fun h => b3 h.2), if_neg b2] at hr
            injection hr with e1 e2
            subst e1 e2
            obtain rfl : m = m' := by rw [← hm, ← hm']
            obtain rfl : k + n = k' := by rw [← hk', List.length_append, hk, hn]
            have hj := j1 b n _ hn rfl (by omega)
            have hab : (u8c (pe ++ b)).length = k + n := by rw [u8c_length, hk']
            refine ac_enter tabOk (sz := 61) Try.func30 rfl (by rw [Try.ntmps30]; rfl) ?_
            repeat' (first
    | ((with_reducible refine aw_seqk ?_); intro K hK hX)
    | ((with_reducible refine isC_reg ?_); refine aw_prune [0, 1, 2, 4, 5] rfl rfl ?_; with_reducible refine aw_region ?_)
    | ((with_reducible refine isC_draw ?_); refine aw_prune [0, 1, 2, 4, 5] rfl rfl ?_; refine aw_drwF [] ?_)
    | ((first | with_reducible refine isA_call ?_ | with_reducible refine isD_call ?_); (first | refine zA ?_ | refine zN ?_ | refine zD ?_); (first | refine c0 (hva) ?_ | refine c0 (hcl) ?_ | refine c1 (hj) ?_))
    | refine stA ?_
    | refine stD ?_
    | (refine hK _ _ _ _ ?_; clear hK hX K)
    | (refine hX _ _ _ _ _ (by simp) ?_; clear hK hX K))
            refine retK_mk (by first | exact .inl rfl | exact .inr rfl) (by exact trivial) rfl (ResL.two (by first | exact ResA.one rfl rfl rfl rfl rfl | exact ResA.agg rfl rfl rfl rfl rfl (by first | exact IsAgg.closed rfl rfl | exact IsAgg.mixed _) | exact ResA.aggr rfl rfl rfl rfl (by first | rfl | with_reducible assumption | (simp <;> fail) | omega | (simp <;> omega) | assumption)) (ResA.tmp rfl)) (out_t (frzl_cons (by repeat' (first | exact frz_c cv_rfl | exact frz_c cv_nil | exact frz_ownW rfl rfl (by first | rfl | with_reducible assumption | (simp <;> fail) | omega | (simp <;> omega) | assumption) | exact frz_own rfl rfl rfl (by first | rfl | with_reducible assumption | (simp <;> fail) | omega | (simp <;> omega) | assumption) | exact frz_cv (frz_ownW rfl rfl (by first | rfl | with_reducible assumption | (simp <;> fail) | omega | (simp <;> omega) | assumption)) (cv_sl (by first | rfl | omega | (simp <;> fail) | fail) (by first | rfl | omega | (simp <;> fail) | fail)) | exact frz_cv (frz_own rfl rfl rfl (by first | rfl | with_reducible assumption | (simp <;> fail) | omega | (simp <;> omega) | assumption)) (cv_sl (by first | rfl | omega | (simp <;> fail) | fail) (by first | rfl | omega | (simp <;> fail) | fail)) | refine frz_agg rfl ?_ | refine frz_c (cv_agg ?_) | exact frzl_nil | refine frzl_cons ?_ ?_ | exact cvl_nil | refine cvl_cons ?_ ?_ | exact cv_rfl | exact cv_nil | exact cv_sl (by first | rfl | omega | (simp <;> fail) | fail) (by first | rfl | omega | (simp <;> fail) | fail) | exact frz_own rfl rfl (by assumption) (by assumption) | exact frz_int (by first | exact w64 (by omega) (by omega) | omega) | exact frz_true (by first | assumption | omega) | exact frz_false (by first | assumption | omega) | exact frz_eq (frz_c cv_rfl) (by first | rfl | (simp <;> fail) | fail))) (frzl_cons (by repeat' (first | exact frz_c cv_rfl | exact frz_c cv_nil | exact frz_ownW rfl rfl (by first | rfl | with_reducible assumption | (simp <;> fail) | omega | (simp <;> omega) | assumption) | exact frz_own rfl rfl rfl (by first | rfl | with_reducible assumption | (simp <;> fail) | omega | (simp <;> omega) | assumption) | exact frz_cv (frz_ownW rfl rfl (by first | rfl | with_reducible assumption | (simp <;> fail) | omega | (simp <;> omega) | assumption)) (cv_sl (by first | rfl | omega | (simp <;> fail) | fail) (by first | rfl | omega | (simp <;> fail) | fail)) | exact frz_cv (frz_own rfl rfl rfl (by first | rfl | with_reducible assumption | (simp <;> fail) | omega | (simp <;> omega) | assumption)) (cv_sl (by first | rfl | omega | (simp <;> fail) | fail) (by first | rfl | omega | (simp <;> fail) | fail)) | refine frz_agg rfl ?_ | refine frz_c (cv_agg ?_) | exact frzl_nil | refine frzl_cons ?_ ?_ | exact cvl_nil | refine cvl_cons ?_ ?_ | exact cv_rfl | exact cv_nil | exact cv_sl (by first | rfl | omega | (simp <;> fail) | fail) (by first | rfl | omega | (simp <;> fail) | fail) | exact frz_own rfl rfl (by assumption) (by assumption) | exact frz_int (by first | exact w64 (by omega) (by omega) | omega) | exact frz_true (by first | assumption | omega) | exact frz_false (by first | assumption | omega) | exact frz_eq (frz_c cv_rfl) (by first | rfl | (simp <;> fail) | fail))) frzl_nil)))
set_option maxHeartbeats 4000000 in
theorem rsync_ok (sy pe : List UInt8) (fu : Int) (dn : Bool) (m k : Nat) (hm : sy.length = m) (hk : pe.length = k) (h1 : m ≤ 1000000) (h2 : k ≤ 1000000) (s' : Dk) (e : Int) (m' k' : Nat) (hr : opS ⟨sy, pe, fu, dn⟩ = (s', e)) (hm' : s'.sy.length = m') (hk' : s'.pe.length = k') : AC Try.prog 31 [dkC m k sy pe fu dn] (.tup [.c (dkV m' k' s'), .c (iv e)]) [] 0 := by
  have hva := rvalid_ok sy pe fu dn m k hm hk h1 h2
  have j1 := fun q hq h => rjoin_ok sy pe m k q hm hk hq h
  have hua : (u8c sy).length = m := by rw [u8c_length, hm]
  have hub : (u8c pe).length = k := by rw [u8c_length, hk]
  cases hok : Dk.ok ⟨sy, pe, fu, dn⟩ with
  | false =>
    rw [hok] at hva
    simp only [opS, hok, if_true] at hr
    injection hr with e1 e2
    subst e1 e2 hm' hk'
    refine ac_enter tabOk (sz := 30) Try.func31 rfl (by rw [Try.ntmps31]; rfl) ?_
    repeat' (first
    | ((with_reducible refine aw_seqk ?_); intro K hK hX)
    | ((with_reducible refine isC_reg ?_); refine aw_prune [0, 1, 2, 3] rfl rfl ?_; with_reducible refine aw_region ?_)
    | ((with_reducible refine isA_call ?_); (first | refine zA ?_ | refine zN ?_); (first | refine c0 (hva) ?_))
    | refine stA ?_
    | (refine hK _ _ _ _ ?_; clear hK hX K)
    | (refine hX _ _ _ _ _ (by simp) ?_; clear hK hX K))
    refine retK_mk (by first | exact .inl rfl | exact .inr rfl) (by exact trivial) rfl (ResL.two (by first | exact ResA.one rfl rfl rfl rfl rfl | exact ResA.agg rfl rfl rfl rfl rfl (by first | exact IsAgg.closed rfl rfl | exact IsAgg.mixed _) | exact ResA.aggr rfl rfl rfl rfl (by first | rfl | with_reducible assumption | (simp <;> fail) | omega | (simp <;> omega) | assumption)) (ResA.tmp rfl)) (out_t (frzl_cons (by repeat' (first | exact frz_c cv_rfl | exact frz_c cv_nil | exact frz_ownW rfl rfl (by first | rfl | with_reducible assumption | (simp <;> fail) | omega | (simp <;> omega) | assumption) | exact frz_own rfl rfl rfl (by first | rfl | with_reducible assumption | (simp <;> fail) | omega | (simp <;> omega) | assumption) | exact frz_cv (frz_ownW rfl rfl (by first | rfl | with_reducible assumption | (simp <;> fail) | omega | (simp <;> omega) | assumption)) (cv_sl (by first | rfl | omega | (simp <;> fail) | fail) (by first | rfl | omega | (simp <;> fail) | fail)) | exact frz_cv (frz_own rfl rfl rfl (by first | rfl | with_reducible assumption | (simp <;> fail) | omega | (simp <;> omega) | assumption)) (cv_sl (by first | rfl | omega | (simp <;> fail) | fail) (by first | rfl | omega | (simp <;> fail) | fail)) | refine frz_agg rfl ?_ | refine frz_c (cv_agg ?_) | exact frzl_nil | refine frzl_cons ?_ ?_ | exact cvl_nil | refine cvl_cons ?_ ?_ | exact cv_rfl | exact cv_nil | exact cv_sl (by first | rfl | omega | (simp <;> fail) | fail) (by first | rfl | omega | (simp <;> fail) | fail) | exact frz_own rfl rfl (by assumption) (by assumption) | exact frz_int (by first | exact w64 (by omega) (by omega) | omega) | exact frz_true (by first | assumption | omega) | exact frz_false (by first | assumption | omega) | exact frz_eq (frz_c cv_rfl) (by first | rfl | (simp <;> fail) | fail))) (frzl_cons (by repeat' (first | exact frz_c cv_rfl | exact frz_c cv_nil | exact frz_ownW rfl rfl (by first | rfl | with_reducible assumption | (simp <;> fail) | omega | (simp <;> omega) | assumption) | exact frz_own rfl rfl rfl (by first | rfl | with_reducible assumption | (simp <;> fail) | omega | (simp <;> omega) | assumption) | exact frz_cv (frz_ownW rfl rfl (by first | rfl | with_reducible assumption | (simp <;> fail) | omega | (simp <;> omega) | assumption)) (cv_sl (by first | rfl | omega | (simp <;> fail) | fail) (by first | rfl | omega | (simp <;> fail) | fail)) | exact frz_cv (frz_own rfl rfl rfl (by first | rfl | with_reducible assumption | (simp <;> fail) | omega | (simp <;> omega) | assumption)) (cv_sl (by first | rfl | omega | (simp <;> fail) | fail) (by first | rfl | omega | (simp <;> fail) | fail)) | refine frz_agg rfl ?_ | refine frz_c (cv_agg ?_) | exact frzl_nil | refine frzl_cons ?_ ?_ | exact cvl_nil | refine cvl_cons ?_ ?_ | exact cv_rfl | exact cv_nil | exact cv_sl (by first | rfl | omega | (simp <;> fail) | fail) (by first | rfl | omega | (simp <;> fail) | fail) | exact frz_own rfl rfl (by assumption) (by assumption) | exact frz_int (by first | exact w64 (by omega) (by omega) | omega) | exact frz_true (by first | assumption | omega) | exact frz_false (by first | assumption | omega) | exact frz_eq (frz_c cv_rfl) (by first | rfl | (simp <;> fail) | fail))) frzl_nil)))
  | true =>
    rw [hok] at hva
    obtain ⟨l1, l2⟩ := ok_facts hm hk hok
    simp only [opS, hok, hm, hk, Bool.true_eq_false, if_false] at hr
    cases dn with
    | true =>
      simp only [if_true] at hr
      injection hr with e1 e2
      subst e1 e2
      obtain rfl : m = m' := by rw [← hm, ← hm']
      obtain rfl : k = k' := by rw [← hk, ← hk']
      refine ac_enter tabOk (sz := 30) Try.func31 rfl (by rw [Try.ntmps31]; rfl) ?_
      repeat' (first
    | ((with_reducible refine aw_seqk ?_); intro K hK hX)
    | ((with_reducible refine isC_reg ?_); refine aw_prune [0, 1, 2, 3] rfl rfl ?_; with_reducible refine aw_region ?_)
    | ((with_reducible refine isA_call ?_); (first | refine zA ?_ | refine zN ?_); (first | refine c0 (hva) ?_ | refine c0 (hcl) ?_))
    | refine stA ?_
    | (refine hK _ _ _ _ ?_; clear hK hX K)
    | (refine hX _ _ _ _ _ (by simp) ?_; clear hK hX K))
      refine retK_mk (by first | exact .inl rfl | exact .inr rfl) (by exact trivial) rfl (ResL.two (by first | exact ResA.one rfl rfl rfl rfl rfl | exact ResA.agg rfl rfl rfl rfl rfl (by first | exact IsAgg.closed rfl rfl | exact IsAgg.mixed _) | exact ResA.aggr rfl rfl rfl rfl (by first | rfl | with_reducible assumption | (simp <;> fail) | omega | (simp <;> omega) | assumption)) (ResA.tmp rfl)) (out_t (frzl_cons (by repeat' (first | exact frz_c cv_rfl | exact frz_c cv_nil | exact frz_ownW rfl rfl (by first | rfl | with_reducible assumption | (simp <;> fail) | omega | (simp <;> omega) | assumption) | exact frz_own rfl rfl rfl (by first | rfl | with_reducible assumption | (simp <;> fail) | omega | (simp <;> omega) | assumption) | exact frz_cv (frz_ownW rfl rfl (by first | rfl | with_reducible assumption | (simp <;> fail) | omega | (simp <;> omega) | assumption)) (cv_sl (by first | rfl | omega | (simp <;> fail) | fail) (by first | rfl | omega | (simp <;> fail) | fail)) | exact frz_cv (frz_own rfl rfl rfl (by first | rfl | with_reducible assumption | (simp <;> fail) | omega | (simp <;> omega) | assumption)) (cv_sl (by first | rfl | omega | (simp <;> fail) | fail) (by first | rfl | omega | (simp <;> fail) | fail)) | refine frz_agg rfl ?_ | refine frz_c (cv_agg ?_) | exact frzl_nil | refine frzl_cons ?_ ?_ | exact cvl_nil | refine cvl_cons ?_ ?_ | exact cv_rfl | exact cv_nil | exact cv_sl (by first | rfl | omega | (simp <;> fail) | fail) (by first | rfl | omega | (simp <;> fail) | fail) | exact frz_own rfl rfl (by assumption) (by assumption) | exact frz_int (by first | exact w64 (by omega) (by omega) | omega) | exact frz_true (by first | assumption | omega) | exact frz_false (by first | assumption | omega) | exact frz_eq (frz_c cv_rfl) (by first | rfl | (simp <;> fail) | fail))) (frzl_cons (by repeat' (first | exact frz_c cv_rfl | exact frz_c cv_nil | exact frz_ownW rfl rfl (by first | rfl | with_reducible assumption | (simp <;> fail) | omega | (simp <;> omega) | assumption) | exact frz_own rfl rfl rfl (by first | rfl | with_reducible assumption | (simp <;> fail) | omega | (simp <;> omega) | assumption) | exact frz_cv (frz_ownW rfl rfl (by first | rfl | with_reducible assumption | (simp <;> fail) | omega | (simp <;> omega) | assumption)) (cv_sl (by first | rfl | omega | (simp <;> fail) | fail) (by first | rfl | omega | (simp <;> fail) | fail)) | exact frz_cv (frz_own rfl rfl rfl (by first | rfl | with_reducible assumption | (simp <;> fail) | omega | (simp <;> omega) | assumption)) (cv_sl (by first | rfl | omega | (simp <;> fail) | fail) (by first | rfl | omega | (simp <;> fail) | fail)) | refine frz_agg rfl ?_ | refine frz_c (cv_agg ?_) | exact frzl_nil | refine frzl_cons ?_ ?_ | exact cvl_nil | refine cvl_cons ?_ ?_ | exact cv_rfl | exact cv_nil | exact cv_sl (by first | rfl | omega | (simp <;> fail) | fail) (by first | rfl | omega | (simp <;> fail) | fail) | exact frz_own rfl rfl (by assumption) (by assumption) | exact frz_int (by first | exact w64 (by omega) (by omega) | omega) | exact frz_true (by first | assumption | omega) | exact frz_false (by first | assumption | omega) | exact frz_eq (frz_c cv_rfl) (by first | rfl | (simp <;> fail) | fail))) frzl_nil)))
    | false =>
      simp only [Bool.false_eq_true, if_false] at hr
      by_cases b1 : fu = 0 ∧ 0 < k
      · rw [if_pos b1] at hr
        obtain ⟨rfl, b2⟩ := b1
        have b2' : (0 : Int) < (k : Int) := by omega
        injection hr with e1 e2
        subst e1 e2
        obtain rfl : m = m' := by rw [← hm, ← hm']
        obtain rfl : k = k' := by rw [← hk, ← hk']
        refine ac_enter tabOk (sz := 30) Try.func31 rfl (by rw [Try.ntmps31]; rfl) ?_
        repeat' (first
    | ((with_reducible refine aw_seqk ?_); intro K hK hX)
    | ((with_reducible refine isC_reg ?_); refine aw_prune [0, 1, 2, 3] rfl rfl ?_; with_reducible refine aw_region ?_)
    | ((with_reducible refine isA_call ?_); (first | refine zA ?_ | refine zN ?_); (first | refine c0 (hva) ?_ | refine c0 (hcl) ?_))
    | refine stA ?_
    | (refine hK _ _ _ _ ?_; clear hK hX K)
    | (refine hX _ _ _ _ _ (by simp) ?_; clear hK hX K))
        refine retK_mk (by first | exact .inl rfl | exact .inr rfl) (by exact trivial) rfl (ResL.two (by first | exact ResA.one rfl rfl rfl rfl rfl | exact ResA.agg rfl rfl rfl rfl rfl (by first | exact IsAgg.closed rfl rfl | exact IsAgg.mixed _) | exact ResA.aggr rfl rfl rfl rfl (by first | rfl | with_reducible assumption | (simp <;> fail) | omega | (simp <;> omega) | assumption)) (ResA.tmp rfl)) (out_t (frzl_cons (by repeat' (first | exact frz_c cv_rfl | exact frz_c cv_nil | exact frz_ownW rfl rfl (by first | rfl | with_reducible assumption | (simp <;> fail) | omega | (simp <;> omega) | assumption) | exact frz_own rfl rfl rfl (by first | rfl | with_reducible assumption | (simp <;> fail) | omega | (simp <;> omega) | assumption) | exact frz_cv (frz_ownW rfl rfl (by first | rfl | with_reducible assumption | (simp <;> fail) | omega | (simp <;> omega) | assumption)) (cv_sl (by first | rfl | omega | (simp <;> fail) | fail) (by first | rfl | omega | (simp <;> fail) | fail)) | exact frz_cv (frz_own rfl rfl rfl (by first | rfl | with_reducible assumption | (simp <;> fail) | omega | (simp <;> omega) | assumption)) (cv_sl (by first | rfl | omega | (simp <;> fail) | fail) (by first | rfl | omega | (simp <;> fail) | fail)) | refine frz_agg rfl ?_ | refine frz_c (cv_agg ?_) | exact frzl_nil | refine frzl_cons ?_ ?_ | exact cvl_nil | refine cvl_cons ?_ ?_ | exact cv_rfl | exact cv_nil | exact cv_sl (by first | rfl | omega | (simp <;> fail) | fail) (by first | rfl | omega | (simp <;> fail) | fail) | exact frz_own rfl rfl (by assumption) (by assumption) | exact frz_int (by first | exact w64 (by omega) (by omega) | omega) | exact frz_true (by first | assumption | omega) | exact frz_false (by first | assumption | omega) | exact frz_eq (frz_c cv_rfl) (by first | rfl | (simp <;> fail) | fail))) (frzl_cons (by repeat' (first | exact frz_c cv_rfl | exact frz_c cv_nil | exact frz_ownW rfl rfl (by first | rfl | with_reducible assumption | (simp <;> fail) | omega | (simp <;> omega) | assumption) | exact frz_own rfl rfl rfl (by first | rfl | with_reducible assumption | (simp <;> fail) | omega | (simp <;> omega) | assumption) | exact frz_cv (frz_ownW rfl rfl (by first | rfl | with_reducible assumption | (simp <;> fail) | omega | (simp <;> omega) | assumption)) (cv_sl (by first | rfl | omega | (simp <;> fail) | fail) (by first | rfl | omega | (simp <;> fail) | fail)) | exact frz_cv (frz_own rfl rfl rfl (by first | rfl | with_reducible assumption | (simp <;> fail) | omega | (simp <;> omega) | assumption)) (cv_sl (by first | rfl | omega | (simp <;> fail) | fail) (by first | rfl | omega | (simp <;> fail) | fail)) | refine frz_agg rfl ?_ | refine frz_c (cv_agg ?_) | exact frzl_nil | refine frzl_cons ?_ ?_ | exact cvl_nil | refine cvl_cons ?_ ?_ | exact cv_rfl | exact cv_nil | exact cv_sl (by first | rfl | omega | (simp <;> fail) | fail) (by first | rfl | omega | (simp <;> fail) | fail) | exact frz_own rfl rfl (by assumption) (by assumption) | exact frz_int (by first | exact w64 (by omega) (by omega) | omega) | exact frz_true (by first | assumption | omega) | exact frz_false (by first | assumption | omega) | exact frz_eq (frz_c cv_rfl) (by first | rfl | (simp <;> fail) | fail))) frzl_nil)))
      · rw [if_neg b1] at hr
        injection hr with e1 e2
        subst e1 e2
        obtain rfl : m + k = m' := by rw [← hm', List.length_append, hm, hk]
        obtain rfl : 0 = k' := by rw [← hk']; rfl
        have hj := j1 _ rfl (by omega)
        have hab : (u8c (sy ++ pe)).length = m + k := by rw [u8c_length, hm']
        by_cases b2 : fu = 0
        · have b3 : ¬ (0 : Int) < (k : Int) := by omega
          subst b2
          refine ac_enter tabOk (sz := 30) Try.func31 rfl (by rw [Try.ntmps31]; rfl) ?_
          repeat' (first
    | ((with_reducible refine aw_seqk ?_); intro K hK hX)
    | ((with_reducible refine isC_reg ?_); refine aw_prune [0, 1, 2, 3] rfl rfl ?_; with_reducible refine aw_region ?_)
    | ((with_reducible refine isA_call ?_); (first | refine zA ?_ | refine zN ?_); (first | refine c0 (hva) ?_ | refine c0 (hcl) ?_ | refine c1 (hj) ?_))
    | refine stA ?_
    | (refine hK _ _ _ _ ?_; clear hK hX K)
    | (refine hX _ _ _ _ _ (by simp) ?_; clear hK hX K))
          refine retK_mk (by first | exact .inl rfl | exact .inr rfl) (by exact trivial) rfl (ResL.two (by first | exact ResA.one rfl rfl rfl rfl rfl | exact ResA.agg rfl rfl rfl rfl rfl (by first | exact IsAgg.closed rfl rfl | exact IsAgg.mixed _) | exact ResA.aggr rfl rfl rfl rfl (by first | rfl | with_reducible assumption | (simp <;> fail) | omega | (simp <;> omega) | assumption)) (ResA.tmp rfl)) (out_t (frzl_cons (by repeat' (first | exact frz_c cv_rfl | exact frz_c cv_nil | exact frz_ownW rfl rfl (by first | rfl | with_reducible assumption | (simp <;> fail) | omega | (simp <;> omega) | assumption) | exact frz_own rfl rfl rfl (by first | rfl | with_reducible assumption | (simp <;> fail) | omega | (simp <;> omega) | assumption) | exact frz_cv (frz_ownW rfl rfl (by first | rfl | with_reducible assumption | (simp <;> fail) | omega | (simp <;> omega) | assumption)) (cv_sl (by first | rfl | omega | (simp <;> fail) | fail) (by first | rfl | omega | (simp <;> fail) | fail)) | exact frz_cv (frz_own rfl rfl rfl (by first | rfl | with_reducible assumption | (simp <;> fail) | omega | (simp <;> omega) | assumption)) (cv_sl (by first | rfl | omega | (simp <;> fail) | fail) (by first | rfl | omega | (simp <;> fail) | fail)) | refine frz_agg rfl ?_ | refine frz_c (cv_agg ?_) | exact frzl_nil | refine frzl_cons ?_ ?_ | exact cvl_nil | refine cvl_cons ?_ ?_ | exact cv_rfl | exact cv_nil | exact cv_sl (by first | rfl | omega | (simp <;> fail) | fail) (by first | rfl | omega | (simp <;> fail) | fail) | exact frz_own rfl rfl (by assumption) (by assumption) | exact frz_int (by first | exact w64 (by omega) (by omega) | omega) | exact frz_true (by first | assumption | omega) | exact frz_false (by first | assumption | omega) | exact frz_eq (frz_c cv_rfl) (by first | rfl | (simp <;> fail) | fail))) (frzl_cons (by repeat' (first | exact frz_c cv_rfl | exact frz_c cv_nil | exact frz_ownW rfl rfl (by first | rfl | with_reducible assumption | (simp <;> fail) | omega | (simp <;> omega) | assumption) | exact frz_own rfl rfl rfl (by first | rfl | with_reducible assumption | (simp <;> fail) | omega | (simp <;> omega) | assumption) | exact frz_cv (frz_ownW rfl rfl (by first | rfl | with_reducible assumption | (simp <;> fail) | omega | (simp <;> omega) | assumption)) (cv_sl (by first | rfl | omega | (simp <;> fail) | fail) (by first | rfl | omega | (simp <;> fail) | fail)) | exact frz_cv (frz_own rfl rfl rfl (by first | rfl | with_reducible assumption | (simp <;> fail) | omega | (simp <;> omega) | assumption)) (cv_sl (by first | rfl | omega | (simp <;> fail) | fail) (by first | rfl | omega | (simp <;> fail) | fail)) | refine frz_agg rfl ?_ | refine frz_c (cv_agg ?_) | exact frzl_nil | refine frzl_cons ?_ ?_ | exact cvl_nil | refine cvl_cons ?_ ?_ | exact cv_rfl | exact cv_nil | exact cv_sl (by first | rfl | omega | (simp <;> fail) | fail) (by first | rfl | omega | (simp <;> fail) | fail) | exact frz_own rfl rfl (by assumption) (by assumption) | exact frz_int (by first | exact w64 (by omega) (by omega) | omega) | exact frz_true (by first | assumption | omega) | exact frz_false (by first | assumption | omega) | exact frz_eq (frz_c cv_rfl) (by first | rfl | (simp <;> fail) | fail))) frzl_nil)))
        · clear b1
          refine ac_enter tabOk (sz := 30) Try.func31 rfl (by rw [Try.ntmps31]; rfl) ?_
          repeat' (first
    | ((with_reducible refine aw_seqk ?_); intro K hK hX)
    | ((with_reducible refine isC_reg ?_); refine aw_prune [0, 1, 2, 3] rfl rfl ?_; with_reducible refine aw_region ?_)
    | ((with_reducible refine isA_call ?_); (first | refine zA ?_ | refine zN ?_); (first | refine c0 (hva) ?_ | refine c0 (hcl) ?_ | refine c1 (hj) ?_))
    | refine stA ?_
    | (refine hK _ _ _ _ ?_; clear hK hX K)
    | (refine hX _ _ _ _ _ (by simp) ?_; clear hK hX K))
          refine retK_mk (by first | exact .inl rfl | exact .inr rfl) (by exact trivial) rfl (ResL.two (by first | exact ResA.one rfl rfl rfl rfl rfl | exact ResA.agg rfl rfl rfl rfl rfl (by first | exact IsAgg.closed rfl rfl | exact IsAgg.mixed _) | exact ResA.aggr rfl rfl rfl rfl (by first | rfl | with_reducible assumption | (simp <;> fail) | omega | (simp <;> omega) | assumption)) (ResA.tmp rfl)) (out_t (frzl_cons (by repeat' (first | exact frz_c cv_rfl | exact frz_c cv_nil | exact frz_ownW rfl rfl (by first | rfl | with_reducible assumption | (simp <;> fail) | omega | (simp <;> omega) | assumption) | exact frz_own rfl rfl rfl (by first | rfl | with_reducible assumption | (simp <;> fail) | omega | (simp <;> omega) | assumption) | exact frz_cv (frz_ownW rfl rfl (by first | rfl | with_reducible assumption | (simp <;> fail) | omega | (simp <;> omega) | assumption)) (cv_sl (by first | rfl | omega | (simp <;> fail) | fail) (by first | rfl | omega | (simp <;> fail) | fail)) | exact frz_cv (frz_own rfl rfl rfl (by first | rfl | with_reducible assumption | (simp <;> fail) | omega | (simp <;> omega) | assumption)) (cv_sl (by first | rfl | omega | (simp <;> fail) | fail) (by first | rfl | omega | (simp <;> fail) | fail)) | refine frz_agg rfl ?_ | refine frz_c (cv_agg ?_) | exact frzl_nil | refine frzl_cons ?_ ?_ | exact cvl_nil | refine cvl_cons ?_ ?_ | exact cv_rfl | exact cv_nil | exact cv_sl (by first | rfl | omega | (simp <;> fail) | fail) (by first | rfl | omega | (simp <;> fail) | fail) | exact frz_own rfl rfl (by assumption) (by assumption) | exact frz_int (by first | exact w64 (by omega) (by omega) | omega) | exact frz_true (by first | assumption | omega) | exact frz_false (by first | assumption | omega) | exact frz_eq (frz_c cv_rfl) (by first | rfl | (simp <;> fail) | fail))) (frzl_cons (by repeat' (first | exact frz_c cv_rfl | exact frz_c cv_nil | exact frz_ownW rfl rfl (by first | rfl | with_reducible assumption | (simp <;> fail) | omega | (simp <;> omega) | assumption) | exact frz_own rfl rfl rfl (by first | rfl | with_reducible assumption | (simp <;> fail) | omega | (simp <;> omega) | assumption) | exact frz_cv (frz_ownW rfl rfl (by first | rfl | with_reducible assumption | (simp <;> fail) | omega | (simp <;> omega) | assumption)) (cv_sl (by first | rfl | omega | (simp <;> fail) | fail) (by first | rfl | omega | (simp <;> fail) | fail)) | exact frz_cv (frz_own rfl rfl rfl (by first | rfl | with_reducible assumption | (simp <;> fail) | omega | (simp <;> omega) | assumption)) (cv_sl (by first | rfl | omega | (simp <;> fail) | fail) (by first | rfl | omega | (simp <;> fail) | fail)) | refine frz_agg rfl ?_ | refine frz_c (cv_agg ?_) | exact frzl_nil | refine frzl_cons ?_ ?_ | exact cvl_nil | refine cvl_cons ?_ ?_ | exact cv_rfl | exact cv_nil | exact cv_sl (by first | rfl | omega | (simp <;> fail) | fail) (by first | rfl | omega | (simp <;> fail) | fail) | exact frz_own rfl rfl (by assumption) (by assumption) | exact frz_int (by first | exact w64 (by omega) (by omega) | omega) | exact frz_true (by first | assumption | omega) | exact frz_false (by first | assumption | omega) | exact frz_eq (frz_c cv_rfl) (by first | rfl | (simp <;> fail) | fail))) frzl_nil)))
set_option maxHeartbeats 4000000 in
theorem rfail_ok (sy pe : List UInt8) (fu : Int) (dn : Bool) (m k : Nat) (i : Int) (hm : sy.length = m) (hk : pe.length = k) (h1 : m ≤ 1000000) (h2 : k ≤ 1000000) (h3 : -9223372036854775808 ≤ i) (h4 : i ≤ 9223372036854775807) (s' : Dk) (e : Int) (m' k' : Nat) (hr : opF ⟨sy, pe, fu, dn⟩ i = (s', e)) (hm' : s'.sy.length = m') (hk' : s'.pe.length = k') : AC Try.prog 32 [dkC m k sy pe fu dn, iv i] (.tup [.c (dkV m' k' s'), .c (iv e)]) [] 0 := by
  have hva := rvalid_ok sy pe fu dn m k hm hk h1 h2
  have hua : (u8c sy).length = m := by rw [u8c_length, hm]
  have hub : (u8c pe).length = k := by rw [u8c_length, hk]
  cases hok : Dk.ok ⟨sy, pe, fu, dn⟩ with
  | false =>
    rw [hok] at hva
    simp only [opF, hok, if_true, true_or] at hr
    injection hr with e1 e2
    subst e1 e2 hm' hk'
    refine ac_enter tabOk (sz := 17) Try.func32 rfl (by rw [Try.ntmps32]; rfl) ?_
    repeat' (first
    | ((with_reducible refine aw_seqk ?_); intro K hK hX)
    | ((with_reducible refine isC_reg ?_); refine aw_prune [0, 1, 2, 4, 5] rfl rfl ?_; with_reducible refine aw_region ?_)
    | ((with_reducible refine isA_call ?_); (first | refine zA ?_ | refine zN ?_); (first | refine c0 (hva) ?_))
    | refine stA ?_
    | (refine hK _ _ _ _ ?_; clear hK hX K)
    | (refine hX _ _ _ _ _ (by simp) ?_; clear hK hX K))
    refine retK_mk (by first | exact .inl rfl | exact .inr rfl) (by exact trivial) rfl (ResL.two (by first | exact ResA.one rfl rfl rfl rfl rfl | exact ResA.agg rfl rfl rfl rfl rfl (by first | exact IsAgg.closed rfl rfl | exact IsAgg.mixed _) | exact ResA.aggr rfl rfl rfl rfl (by first | rfl | with_reducible assumption | (simp <;> fail) | omega | (simp <;> omega) | assumption)) (ResA.tmp rfl)) (out_t (frzl_cons (by repeat' (first | exact frz_c cv_rfl | exact frz_c cv_nil | exact frz_ownW rfl rfl (by first | rfl | with_reducible assumption | (simp <;> fail) | omega | (simp <;> omega) | assumption) | exact frz_own rfl rfl rfl (by first | rfl | with_reducible assumption | (simp <;> fail) | omega | (simp <;> omega) | assumption) | exact frz_cv (frz_ownW rfl rfl (by first | rfl | with_reducible assumption | (simp <;> fail) | omega | (simp <;> omega) | assumption)) (cv_sl (by first | rfl | omega | (simp <;> fail) | fail) (by first | rfl | omega | (simp <;> fail) | fail)) | exact frz_cv (frz_own rfl rfl rfl (by first | rfl | with_reducible assumption | (simp <;> fail) | omega | (simp <;> omega) | assumption)) (cv_sl (by first | rfl | omega | (simp <;> fail) | fail) (by first | rfl | omega | (simp <;> fail) | fail)) | refine frz_agg rfl ?_ | refine frz_c (cv_agg ?_) | exact frzl_nil | refine frzl_cons ?_ ?_ | exact cvl_nil | refine cvl_cons ?_ ?_ | exact cv_rfl | exact cv_nil | exact cv_sl (by first | rfl | omega | (simp <;> fail) | fail) (by first | rfl | omega | (simp <;> fail) | fail) | exact frz_own rfl rfl (by assumption) (by assumption) | exact frz_int (by first | exact w64 (by omega) (by omega) | omega) | exact frz_true (by first | assumption | omega) | exact frz_false (by first | assumption | omega) | exact frz_eq (frz_c cv_rfl) (by first | rfl | (simp <;> fail) | fail))) (frzl_cons (by repeat' (first | exact frz_c cv_rfl | exact frz_c cv_nil | exact frz_ownW rfl rfl (by first | rfl | with_reducible assumption | (simp <;> fail) | omega | (simp <;> omega) | assumption) | exact frz_own rfl rfl rfl (by first | rfl | with_reducible assumption | (simp <;> fail) | omega | (simp <;> omega) | assumption) | exact frz_cv (frz_ownW rfl rfl (by first | rfl | with_reducible assumption | (simp <;> fail) | omega | (simp <;> omega) | assumption)) (cv_sl (by first | rfl | omega | (simp <;> fail) | fail) (by first | rfl | omega | (simp <;> fail) | fail)) | exact frz_cv (frz_own rfl rfl rfl (by first | rfl | with_reducible assumption | (simp <;> fail) | omega | (simp <;> omega) | assumption)) (cv_sl (by first | rfl | omega | (simp <;> fail) | fail) (by first | rfl | omega | (simp <;> fail) | fail)) | refine frz_agg rfl ?_ | refine frz_c (cv_agg ?_) | exact frzl_nil | refine frzl_cons ?_ ?_ | exact cvl_nil | refine cvl_cons ?_ ?_ | exact cv_rfl | exact cv_nil | exact cv_sl (by first | rfl | omega | (simp <;> fail) | fail) (by first | rfl | omega | (simp <;> fail) | fail) | exact frz_own rfl rfl (by assumption) (by assumption) | exact frz_int (by first | exact w64 (by omega) (by omega) | omega) | exact frz_true (by first | assumption | omega) | exact frz_false (by first | assumption | omega) | exact frz_eq (frz_c cv_rfl) (by first | rfl | (simp <;> fail) | fail))) frzl_nil)))
  | true =>
    rw [hok] at hva
    obtain ⟨l1, l2⟩ := ok_facts hm hk hok
    simp only [opF, hok, hm, hk, Bool.true_eq_false, false_or, if_false] at hr
    by_cases b1 : i < -1
    · rw [if_pos b1] at hr
      injection hr with e1 e2
      subst e1 e2 hm' hk'
      refine ac_enter tabOk (sz := 17) Try.func32 rfl (by rw [Try.ntmps32]; rfl) ?_
      repeat' (first
    | ((with_reducible refine aw_seqk ?_); intro K hK hX)
    | ((with_reducible refine isC_reg ?_); refine aw_prune [0, 1, 2, 4, 5] rfl rfl ?_; with_reducible refine aw_region ?_)
    | ((with_reducible refine isA_call ?_); (first | refine zA ?_ | refine zN ?_); (first | refine c0 (hva) ?_))
    | refine stA ?_
    | (refine hK _ _ _ _ ?_; clear hK hX K)
    | (refine hX _ _ _ _ _ (by simp) ?_; clear hK hX K))
      refine retK_mk (by first | exact .inl rfl | exact .inr rfl) (by exact trivial) rfl (ResL.two (by first | exact ResA.one rfl rfl rfl rfl rfl | exact ResA.agg rfl rfl rfl rfl rfl (by first | exact IsAgg.closed rfl rfl | exact IsAgg.mixed _) | exact ResA.aggr rfl rfl rfl rfl (by first | rfl | with_reducible assumption | (simp <;> fail) | omega | (simp <;> omega) | assumption)) (ResA.tmp rfl)) (out_t (frzl_cons (by repeat' (first | exact frz_c cv_rfl | exact frz_c cv_nil | exact frz_ownW rfl rfl (by first | rfl | with_reducible assumption | (simp <;> fail) | omega | (simp <;> omega) | assumption) | exact frz_own rfl rfl rfl (by first | rfl | with_reducible assumption | (simp <;> fail) | omega | (simp <;> omega) | assumption) | exact frz_cv (frz_ownW rfl rfl (by first | rfl | with_reducible assumption | (simp <;> fail) | omega | (simp <;> omega) | assumption)) (cv_sl (by first | rfl | omega | (simp <;> fail) | fail) (by first | rfl | omega | (simp <;> fail) | fail)) | exact frz_cv (frz_own rfl rfl rfl (by first | rfl | with_reducible assumption | (simp <;> fail) | omega | (simp <;> omega) | assumption)) (cv_sl (by first | rfl | omega | (simp <;> fail) | fail) (by first | rfl | omega | (simp <;> fail) | fail)) | refine frz_agg rfl ?_ | refine frz_c (cv_agg ?_) | exact frzl_nil | refine frzl_cons ?_ ?_ | exact cvl_nil | refine cvl_cons ?_ ?_ | exact cv_rfl | exact cv_nil | exact cv_sl (by first | rfl | omega | (simp <;> fail) | fail) (by first | rfl | omega | (simp <;> fail) | fail) | exact frz_own rfl rfl (by assumption) (by assumption) | exact frz_int (by first | exact w64 (by omega) (by omega) | omega) | exact frz_true (by first | assumption | omega) | exact frz_false (by first | assumption | omega) | exact frz_eq (frz_c cv_rfl) (by first | rfl | (simp <;> fail) | fail))) (frzl_cons (by repeat' (first | exact frz_c cv_rfl | exact frz_c cv_nil | exact frz_ownW rfl rfl (by first | rfl | with_reducible assumption | (simp <;> fail) | omega | (simp <;> omega) | assumption) | exact frz_own rfl rfl rfl (by first | rfl | with_reducible assumption | (simp <;> fail) | omega | (simp <;> omega) | assumption) | exact frz_cv (frz_ownW rfl rfl (by first | rfl | with_reducible assumption | (simp <;> fail) | omega | (simp <;> omega) | assumption)) (cv_sl (by first | rfl | omega | (simp <;> fail) | fail) (by first | rfl | omega | (simp <;> fail) | fail)) | exact frz_cv (frz_own rfl rfl rfl (by first | rfl | with_reducible assumption | (simp <;> fail) | omega | (simp <;> omega) | assumption)) (cv_sl (by first | rfl | omega | (simp <;> fail) | fail) (by first | rfl | omega | (simp <;> fail) | fail)) | refine frz_agg rfl ?_ | refine frz_c (cv_agg ?_) | exact frzl_nil | refine frzl_cons ?_ ?_ | exact cvl_nil | refine cvl_cons ?_ ?_ | exact cv_rfl | exact cv_nil | exact cv_sl (by first | rfl | omega | (simp <;> fail) | fail) (by first | rfl | omega | (simp <;> fail) | fail) | exact frz_own rfl rfl (by assumption) (by assumption) | exact frz_int (by first | exact w64 (by omega) (by omega) | omega) | exact frz_true (by first | assumption | omega) | exact frz_false (by first | assumption | omega) | exact frz_eq (frz_c cv_rfl) (by first | rfl | (simp <;> fail) | fail))) frzl_nil)))
    · rw [if_neg b1] at hr
      injection hr with e1 e2
      subst e1 e2
      obtain rfl : m = m' := by rw [← hm, ← hm']
      obtain rfl : k = k' := by rw [← hk, ← hk']
      refine ac_enter tabOk (sz := 17) Try.func32 rfl (by rw [Try.ntmps32]; rfl) ?_
      repeat' (first
    | ((with_reducible refine aw_seqk ?_); intro K hK hX)
    | ((with_reducible refine isC_reg ?_); refine aw_prune [0, 1, 2, 4, 5] rfl rfl ?_; with_reducible refine aw_region ?_)
    | ((with_reducible refine isA_call ?_); (first | refine zA ?_ | refine zN ?_); (first | refine c0 (hva) ?_ | refine c0 (hcl) ?_))
    | refine stA ?_
    | (refine hK _ _ _ _ ?_; clear hK hX K)
    | (refine hX _ _ _ _ _ (by simp) ?_; clear hK hX K))
      refine retK_mk (by first | exact .inl rfl | exact .inr rfl) (by exact trivial) rfl (ResL.two (by first | exact ResA.one rfl rfl rfl rfl rfl | exact ResA.agg rfl rfl rfl rfl rfl (by first | exact IsAgg.closed rfl rfl | exact IsAgg.mixed _) | exact ResA.aggr rfl rfl rfl rfl (by first | rfl | with_reducible assumption | (simp <;> fail) | omega | (simp <;> omega) | assumption)) (ResA.tmp rfl)) (out_t (frzl_cons (by repeat' (first | exact frz_c cv_rfl | exact frz_c cv_nil | exact frz_ownW rfl rfl (by first | rfl | with_reducible assumption | (simp <;> fail) | omega | (simp <;> omega) | assumption) | exact frz_own rfl rfl rfl (by first | rfl | with_reducible assumption | (simp <;> fail) | omega | (simp <;> omega) | assumption) | exact frz_cv (frz_ownW rfl rfl (by first | rfl | with_reducible assumption | (simp <;> fail) | omega | (simp <;> omega) | assumption)) (cv_sl (by first | rfl | omega | (simp <;> fail) | fail) (by first | rfl | omega | (simp <;> fail) | fail)) | exact frz_cv (frz_own rfl rfl rfl (by first | rfl | with_reducible assumption | (simp <;> fail) | omega | (simp <;> omega) | assumption)) (cv_sl (by first | rfl | omega | (simp <;> fail) | fail) (by first | rfl | omega | (simp <;> fail) | fail)) | refine frz_agg rfl ?_ | refine frz_c (cv_agg ?_) | exact frzl_nil | refine frzl_cons ?_ ?_ | exact cvl_nil | refine cvl_cons ?_ ?_ | exact cv_rfl | exact cv_nil | exact cv_sl (by first | rfl | omega | (simp <;> fail) | fail) (by first | rfl | omega | (simp <;> fail) | fail) | exact frz_own rfl rfl (by assumption) (by assumption) | exact frz_int (by first | exact w64 (by omega) (by omega) | omega) | exact frz_true (by first | assumption | omega) | exact frz_false (by first | assumption | omega) | exact frz_eq (frz_c cv_rfl) (by first | rfl | (simp <;> fail) | fail))) (frzl_cons (by repeat' (first | exact frz_c cv_rfl | exact frz_c cv_nil | exact frz_ownW rfl rfl (by first | rfl | with_reducible assumption | (simp <;> fail) | omega | (simp <;> omega) | assumption) | exact frz_own rfl rfl rfl (by first | rfl | with_reducible assumption | (simp <;> fail) | omega | (simp <;> omega) | assumption) | exact frz_cv (frz_ownW rfl rfl (by first | rfl | with_reducible assumption | (simp <;> fail) | omega | (simp <;> omega) | assumption)) (cv_sl (by first | rfl | omega | (simp <;> fail) | fail) (by first | rfl | omega | (simp <;> fail) | fail)) | exact frz_cv (frz_own rfl rfl rfl (by first | rfl | with_reducible assumption | (simp <;> fail) | omega | (simp <;> omega) | assumption)) (cv_sl (by first | rfl | omega | (simp <;> fail) | fail) (by first | rfl | omega | (simp <;> fail) | fail)) | refine frz_agg rfl ?_ | refine frz_c (cv_agg ?_) | exact frzl_nil | refine frzl_cons ?_ ?_ | exact cvl_nil | refine cvl_cons ?_ ?_ | exact cv_rfl | exact cv_nil | exact cv_sl (by first | rfl | omega | (simp <;> fail) | fail) (by first | rfl | omega | (simp <;> fail) | fail) | exact frz_own rfl rfl (by assumption) (by assumption) | exact frz_int (by first | exact w64 (by omega) (by omega) | omega) | exact frz_true (by first | assumption | omega) | exact frz_false (by first | assumption | omega) | exact frz_eq (frz_c cv_rfl) (by first | rfl | (simp <;> fail) | fail))) frzl_nil)))
set_option maxHeartbeats 4000000 in
theorem rcrash_ok (sy pe : List UInt8) (fu : Int) (dn : Bool) (m k : Nat) (i : Int) (hm : sy.length = m) (hk : pe.length = k) (h1 : m ≤ 1000000) (h2 : k ≤ 1000000) (h3 : -9223372036854775808 ≤ i) (h4 : i ≤ 9223372036854775807) (s' : Dk) (e : Int) (m' k' : Nat) (hr : opC ⟨sy, pe, fu, dn⟩ i = (s', e)) (hm' : s'.sy.length = m') (hk' : s'.pe.length = k') : AC Try.prog 33 [dkC m k sy pe fu dn, iv i] (.tup [.c (dkV m' k' s'), .c (iv e)]) [] 0 := by
  have hva := rvalid_ok sy pe fu dn m k hm hk h1 h2
  have j1 := fun b n q hn hq h => rjoin_ok sy b m n q hm hn hq h
  have hua : (u8c sy).length = m := by rw [u8c_length, hm]
  have hub : (u8c pe).length = k := by rw [u8c_length, hk]
  cases hok : Dk.ok ⟨sy, pe, fu, dn⟩ with
  | false =>
    rw [hok] at hva
    simp only [opC, hok, if_true] at hr
    injection hr with e1 e2
    subst e1 e2 hm' hk'
    refine ac_enter tabOk (sz := 24) Try.func33 rfl (by rw [Try.ntmps33]; rfl) ?_
    repeat' (first
    | ((with_reducible refine aw_seqk ?_); intro K hK hX)
    | ((with_reducible refine isC_reg ?_); refine aw_prune [0, 1, 2, 4, 5] rfl rfl ?_; with_reducible refine aw_region ?_)
    | ((with_reducible refine isC_draw ?_); refine aw_prune [0, 1, 2, 4, 5] rfl rfl ?_; refine aw_drwF [] ?_)
    | ((first | with_reducible refine isA_call ?_ | with_reducible refine isD_call ?_); (first | refine zA ?_ | refine zN ?_ | refine zD ?_); (first | refine c0 (hva) ?_))
    | refine stA ?_
    | refine stD ?_
    | (refine hK _ _ _ _ ?_; clear hK hX K)
    | (refine hX _ _ _ _ _ (by simp) ?_; clear hK hX K))
    refine retK_mk (by first | exact .inl rfl | exact .inr rfl) (by exact trivial) rfl (ResL.two (by first | exact ResA.one rfl rfl rfl rfl rfl | exact ResA.agg rfl rfl rfl rfl rfl (by first | exact IsAgg.closed rfl rfl | exact IsAgg.mixed _) | exact ResA.aggr rfl rfl rfl rfl (by first | rfl | with_reducible assumption | (simp <;> fail) | omega | (simp <;> omega) | assumption)) (ResA.tmp rfl)) (out_t (frzl_cons (by repeat' (first | exact frz_c cv_rfl | exact frz_c cv_nil | exact frz_ownW rfl rfl (by first | rfl | with_reducible assumption | (simp <;> fail) | omega | (simp <;> omega) | assumption) | exact frz_own rfl rfl rfl (by first | rfl | with_reducible assumption | (simp <;> fail) | omega | (simp <;> omega) | assumption) | exact frz_cv (frz_ownW rfl rfl (by first | rfl | with_reducible assumption | (simp <;> fail) | omega | (simp <;> omega) | assumption)) (cv_sl (by first | rfl | omega | (simp <;> fail) | fail) (by first | rfl | omega | (simp <;> fail) | fail)) | exact frz_cv (frz_own rfl rfl rfl (by first | rfl | with_reducible assumption | (simp <;> fail) | omega | (simp <;> omega) | assumption)) (cv_sl (by first | rfl | omega | (simp <;> fail) | fail) (by first | rfl | omega | (simp <;> fail) | fail)) | refine frz_agg rfl ?_ | refine frz_c (cv_agg ?_) | exact frzl_nil | refine frzl_cons ?_ ?_ | exact cvl_nil | refine cvl_cons ?_ ?_ | exact cv_rfl | exact cv_nil | exact cv_sl (by first | rfl | omega | (simp <;> fail) | fail) (by first | rfl | omega | (simp <;> fail) | fail) | exact frz_own rfl rfl (by assumption) (by assumption) | exact frz_int (by first | exact w64 (by omega) (by omega) | omega) | exact frz_true (by first | assumption | omega) | exact frz_false (by first | assumption | omega) | exact frz_eq (frz_c cv_rfl) (by first | rfl | (simp <;> fail) | fail))) (frzl_cons (by repeat' (first | exact frz_c cv_rfl | exact frz_c cv_nil | exact frz_ownW rfl rfl (by first | rfl | with_reducible assumption | (simp <;> fail) | omega | (simp <;> omega) | assumption) | exact frz_own rfl rfl rfl (by first | rfl | with_reducible assumption | (simp <;> fail) | omega | (simp <;> omega) | assumption) | exact frz_cv (frz_ownW rfl rfl (by first | rfl | with_reducible assumption | (simp <;> fail) | omega | (simp <;> omega) | assumption)) (cv_sl (by first | rfl | omega | (simp <;> fail) | fail) (by first | rfl | omega | (simp <;> fail) | fail)) | exact frz_cv (frz_own rfl rfl rfl (by first | rfl | with_reducible assumption | (simp <;> fail) | omega | (simp <;> omega) | assumption)) (cv_sl (by first | rfl | omega | (simp <;> fail) | fail) (by first | rfl | omega | (simp <;> fail) | fail)) | refine frz_agg rfl ?_ | refine frz_c (cv_agg ?_) | exact frzl_nil | refine frzl_cons ?_ ?_ | exact cvl_nil | refine cvl_cons ?_ ?_ | exact cv_rfl | exact cv_nil | exact cv_sl (by first | rfl | omega | (simp <;> fail) | fail) (by first | rfl | omega | (simp <;> fail) | fail) | exact frz_own rfl rfl (by assumption) (by assumption) | exact frz_int (by first | exact w64 (by omega) (by omega) | omega) | exact frz_true (by first | assumption | omega) | exact frz_false (by first | assumption | omega) | exact frz_eq (frz_c cv_rfl) (by first | rfl | (simp <;> fail) | fail))) frzl_nil)))
  | true =>
    rw [hok] at hva
    obtain ⟨l1, l2⟩ := ok_facts hm hk hok
    simp only [opC, hok, hm, hk, Bool.true_eq_false, if_false] at hr
    injection hr with e1 e2
    subst e1 e2
    obtain rfl : 0 = k' := by rw [← hk']; rfl
    obtain ⟨q, hq1, hq2, hq3⟩ : ∃ q : Nat, q ≤ k ∧ pe.take i.toNat = pe.take q ∧ (if (k : Int) < (if i < 0 then 0 else i) then (k : Int) else (if i < 0 then 0 else i)) = (q : Int) := by
      refine ⟨min i.toNat k, by omega, ?_, by split <;> split <;> omega⟩
      by_cases h : i.toNat ≤ k
      · rw [Nat.min_eq_left h]
      · rw [Nat.min_eq_right (by omega), List.take_of_length_le (by omega), List.take_of_length_le (by omega)]
    rw [hq2] at hm' ⊢
    have hq : (pe.take q).length = q := by rw [List.length_take]; omega
    obtain rfl : m + q = m' := by rw [← hm', List.length_append, hm, hq]
    have hj := j1 (pe.take q) q _ hq rfl (by omega)
    have hab : (u8c (sy ++ pe.take q)).length = m + q := by rw [u8c_length, hm']
    refine ac_enter tabOk (sz := 24) Try.func33 rfl (by rw [Try.ntmps33]; rfl) ?_
    repeat' (first
    | ((with_reducible refine aw_seqk ?_); intro K hK hX)
    | ((with_reducible refine isC_reg ?_); refine aw_prune [0, 1, 2, 4, 5] rfl rfl ?_; with_reducible refine aw_region ?_)
    | ((with_reducible refine isC_draw ?_); refine aw_prune [0, 1, 2, 4, 5] rfl rfl ?_; refine aw_drwE [] ?_)
    | ((first | with_reducible refine isA_call ?_ | with_reducible refine isE_call ?_); (first | refine zA ?_ | refine zN ?_ | refine zE ?_); (first | refine c0 (hva) ?_ | refine c1 (hj) ?_))
    | ((first | ((with_reducible refine isA_any ?_); refine xA ?_) | ((with_reducible refine isEk_any ?_); refine xE ?_)); (first | ((with_reducible refine e_bi ?_); (first | refine ex_i (s_min rfl rfl hq3) ?_))))
    | refine stA ?_
    | refine stE ?_
    | (refine hK _ _ _ _ ?_; clear hK hX K)
    | (refine hX _ _ _ _ _ (by simp) ?_; clear hK hX K))
    refine retK_mk (by first | exact .inl rfl | exact .inr rfl) (by exact trivial) rfl (ResL.two (by first | exact ResA.one rfl rfl rfl rfl rfl | exact ResA.agg rfl rfl rfl rfl rfl (by first | exact IsAgg.closed rfl rfl | exact IsAgg.mixed _) | exact ResA.aggr rfl rfl rfl rfl (by first | rfl | with_reducible assumption | (simp <;> fail) | omega | (simp <;> omega) | assumption)) (ResA.tmp rfl)) (out_t (frzl_cons (by repeat' (first | exact frz_c cv_rfl | exact frz_c cv_nil | exact frz_ownW rfl rfl (by first | rfl | with_reducible assumption | (simp <;> fail) | omega | (simp <;> omega) | assumption) | exact frz_own rfl rfl rfl (by first | rfl | with_reducible assumption | (simp <;> fail) | omega | (simp <;> omega) | assumption) | exact frz_cv (frz_ownW rfl rfl (by first | rfl | with_reducible assumption | (simp <;> fail) | omega | (simp <;> omega) | assumption)) (cv_sl (by first | rfl | omega | (simp <;> fail) | fail) (by first | rfl | omega | (simp <;> fail) | fail)) | exact frz_cv (frz_own rfl rfl rfl (by first | rfl | with_reducible assumption | (simp <;> fail) | omega | (simp <;> omega) | assumption)) (cv_sl (by first | rfl | omega | (simp <;> fail) | fail) (by first | rfl | omega | (simp <;> fail) | fail)) | refine frz_agg rfl ?_ | refine frz_c (cv_agg ?_) | exact frzl_nil | refine frzl_cons ?_ ?_ | exact cvl_nil | refine cvl_cons ?_ ?_ | exact cv_rfl | exact cv_nil | exact cv_sl (by first | rfl | omega | (simp <;> fail) | fail) (by first | rfl | omega | (simp <;> fail) | fail) | exact frz_own rfl rfl (by assumption) (by assumption) | exact frz_int (by first | exact w64 (by omega) (by omega) | omega) | exact frz_true (by first | assumption | omega) | exact frz_false (by first | assumption | omega) | exact frz_eq (frz_c cv_rfl) (by first | rfl | (simp <;> fail) | fail))) (frzl_cons (by repeat' (first | exact frz_c cv_rfl | exact frz_c cv_nil | exact frz_ownW rfl rfl (by first | rfl | with_reducible assumption | (simp <;> fail) | omega | (simp <;> omega) | assumption) | exact frz_own rfl rfl rfl (by first | rfl | with_reducible assumption | (simp <;> fail) | omega | (simp <;> omega) | assumption) | exact frz_cv (frz_ownW rfl rfl (by first | rfl | with_reducible assumption | (simp <;> fail) | omega | (simp <;> omega) | assumption)) (cv_sl (by first | rfl | omega | (simp <;> fail) | fail) (by first | rfl | omega | (simp <;> fail) | fail)) | exact frz_cv (frz_own rfl rfl rfl (by first | rfl | with_reducible assumption | (simp <;> fail) | omega | (simp <;> omega) | assumption)) (cv_sl (by first | rfl | omega | (simp <;> fail) | fail) (by first | rfl | omega | (simp <;> fail) | fail)) | refine frz_agg rfl ?_ | refine frz_c (cv_agg ?_) | exact frzl_nil | refine frzl_cons ?_ ?_ | exact cvl_nil | refine cvl_cons ?_ ?_ | exact cv_rfl | exact cv_nil | exact cv_sl (by first | rfl | omega | (simp <;> fail) | fail) (by first | rfl | omega | (simp <;> fail) | fail) | exact frz_own rfl rfl (by assumption) (by assumption) | exact frz_int (by first | exact w64 (by omega) (by omega) | omega) | exact frz_true (by first | assumption | omega) | exact frz_false (by first | assumption | omega) | exact frz_eq (frz_c cv_rfl) (by first | rfl | (simp <;> fail) | fail))) frzl_nil)))
set_option maxHeartbeats 4000000 in
theorem rcut_ok (sy pe : List UInt8) (fu : Int) (dn : Bool) (m k : Nat) (i : Int) (hm : sy.length = m) (hk : pe.length = k) (h1 : m ≤ 1000000) (h2 : k ≤ 1000000) (h3 : -9223372036854775808 ≤ i) (h4 : i ≤ 9223372036854775807) (s' : Dk) (e : Int) (m' k' : Nat) (hr : opT ⟨sy, pe, fu, dn⟩ i = (s', e)) (hm' : s'.sy.length = m') (hk' : s'.pe.length = k') : AC Try.prog 34 [dkC m k sy pe fu dn, iv i] (.tup [.c (dkV m' k' s'), .c (iv e)]) [] 0 := by
  have hva := rvalid_ok sy pe fu dn m k hm hk h1 h2
  have j1 := fun q hq h => rjoin_ok sy pe m k q hm hk hq h
  have hua : (u8c sy).length = m := by rw [u8c_length, hm]
  have hub : (u8c pe).length = k := by rw [u8c_length, hk]
  cases hok : Dk.ok ⟨sy, pe, fu, dn⟩ with
  | false =>
    rw [hok] at hva
    simp only [opT, hok, if_true, true_or] at hr
    injection hr with e1 e2
    subst e1 e2 hm' hk'
    refine ac_enter tabOk (sz := 38) Try.func34 rfl (by rw [Try.ntmps34]; rfl) ?_
    repeat' (first
    | ((with_reducible refine aw_seqk ?_); intro K hK hX)
    | ((with_reducible refine isC_reg ?_); refine aw_prune [0, 1, 2, 4, 5] rfl rfl ?_; with_reducible refine aw_region ?_)
    | ((with_reducible refine isA_call ?_); (first | refine zA ?_ | refine zN ?_); (first | refine c0 (hva) ?_))
    | refine stA ?_
    | (refine hK _ _ _ _ ?_; clear hK hX K)
    | (refine hX _ _ _ _ _ (by simp) ?_; clear hK hX K))
    refine retK_mk (by first | exact .inl rfl | exact .inr rfl) (by exact trivial) rfl (ResL.two (by first | exact ResA.one rfl rfl rfl rfl rfl | exact ResA.agg rfl rfl rfl rfl rfl (by first | exact IsAgg.closed rfl rfl | exact IsAgg.mixed _) | exact ResA.aggr rfl rfl rfl rfl (by first | rfl | with_reducible assumption | (simp <;> fail) | omega | (simp <;> omega) | assumption)) (ResA.tmp rfl)) (out_t (frzl_cons (by repeat' (first | exact frz_c cv_rfl | exact frz_c cv_nil | exact frz_ownW rfl rfl (by first | rfl | with_reducible assumption | (simp <;> fail) | omega | (simp <;> omega) | assumption) | exact frz_own rfl rfl rfl (by first | rfl | with_reducible assumption | (simp <;> fail) | omega | (simp <;> omega) | assumption) | exact frz_cv (frz_ownW rfl rfl (by first | rfl | with_reducible assumption | (simp <;> fail) | omega | (simp <;> omega) | assumption)) (cv_sl (by first | rfl | omega | (simp <;> fail) | fail) (by first | rfl | omega | (simp <;> fail) | fail)) | exact frz_cv (frz_own rfl rfl rfl (by first | rfl | with_reducible assumption | (simp <;> fail) | omega | (simp <;> omega) | assumption)) (cv_sl (by first | rfl | omega | (simp <;> fail) | fail) (by first | rfl | omega | (simp <;> fail) | fail)) | refine frz_agg rfl ?_ | refine frz_c (cv_agg ?_) | exact frzl_nil | refine frzl_cons ?_ ?_ | exact cvl_nil | refine cvl_cons ?_ ?_ | exact cv_rfl | exact cv_nil | exact cv_sl (by first | rfl | omega | (simp <;> fail) | fail) (by first | rfl | omega | (simp <;> fail) | fail) | exact frz_own rfl rfl (by assumption) (by assumption) | exact frz_int (by first | exact w64 (by omega) (by omega) | omega) | exact frz_true (by first | assumption | omega) | exact frz_false (by first | assumption | omega) | exact frz_eq (frz_c cv_rfl) (by first | rfl | (simp <;> fail) | fail))) (frzl_cons (by repeat' (first | exact frz_c cv_rfl | exact frz_c cv_nil | exact frz_ownW rfl rfl (by first | rfl | with_reducible assumption | (simp <;> fail) | omega | (simp <;> omega) | assumption) | exact frz_own rfl rfl rfl (by first | rfl | with_reducible assumption | (simp <;> fail) | omega | (simp <;> omega) | assumption) | exact frz_cv (frz_ownW rfl rfl (by first | rfl | with_reducible assumption | (simp <;> fail) | omega | (simp <;> omega) | assumption)) (cv_sl (by first | rfl | omega | (simp <;> fail) | fail) (by first | rfl | omega | (simp <;> fail) | fail)) | exact frz_cv (frz_own rfl rfl rfl (by first | rfl | with_reducible assumption | (simp <;> fail) | omega | (simp <;> omega) | assumption)) (cv_sl (by first | rfl | omega | (simp <;> fail) | fail) (by first | rfl | omega | (simp <;> fail) | fail)) | refine frz_agg rfl ?_ | refine frz_c (cv_agg ?_) | exact frzl_nil | refine frzl_cons ?_ ?_ | exact cvl_nil | refine cvl_cons ?_ ?_ | exact cv_rfl | exact cv_nil | exact cv_sl (by first | rfl | omega | (simp <;> fail) | fail) (by first | rfl | omega | (simp <;> fail) | fail) | exact frz_own rfl rfl (by assumption) (by assumption) | exact frz_int (by first | exact w64 (by omega) (by omega) | omega) | exact frz_true (by first | assumption | omega) | exact frz_false (by first | assumption | omega) | exact frz_eq (frz_c cv_rfl) (by first | rfl | (simp <;> fail) | fail))) frzl_nil)))
  | true =>
    rw [hok] at hva
    obtain ⟨l1, l2⟩ := ok_facts hm hk hok
    simp only [opT, hok, hm, hk, Bool.true_eq_false, false_or, if_false] at hr
    by_cases b1 : i < 0
    · rw [if_pos (.inl b1)] at hr
      injection hr with e1 e2
      subst e1 e2 hm' hk'
      refine ac_enter tabOk (sz := 38) Try.func34 rfl (by rw [Try.ntmps34]; rfl) ?_
      repeat' (first
    | ((with_reducible refine aw_seqk ?_); intro K hK hX)
    | ((with_reducible refine isC_reg ?_); refine aw_prune [0, 1, 2, 4, 5] rfl rfl ?_; with_reducible refine aw_region ?_)
    | ((with_reducible refine isA_call ?_); (first | refine zA ?_ | refine zN ?_); (first | refine c0 (hva) ?_))
    | refine stA ?_
    | (refine hK _ _ _ _ ?_; clear hK hX K)
    | (refine hX _ _ _ _ _ (by simp) ?_; clear hK hX K))
      refine retK_mk (by first | exact .inl rfl | exact .inr rfl) (by exact trivial) rfl (ResL.two (by first | exact ResA.one rfl rfl rfl rfl rfl | exact ResA.agg rfl rfl rfl rfl rfl (by first | exact IsAgg.closed rfl rfl | exact IsAgg.mixed _) | exact ResA.aggr rfl rfl rfl rfl (by first | rfl | with_reducible assumption | (simp <;> fail) | omega | (simp <;> omega) | assumption)) (ResA.tmp rfl)) (out_t (frzl_cons (by repeat' (first | exact frz_c cv_rfl | exact frz_c cv_nil | exact frz_ownW rfl rfl (by first | rfl | with_reducible assumption | (simp <;> fail) | omega | (simp <;> omega) | assumption) | exact frz_own rfl rfl rfl (by first | rfl | with_reducible assumption | (simp <;> fail) | omega | (simp <;> omega) | assumption) | exact frz_cv (frz_ownW rfl rfl (by first | rfl | with_reducible assumption | (simp <;> fail) | omega | (simp <;> omega) | assumption)) (cv_sl (by first | rfl | omega | (simp <;> fail) | fail) (by first | rfl | omega | (simp <;> fail) | fail)) | exact frz_cv (frz_own rfl rfl rfl (by first | rfl | with_reducible assumption | (simp <;> fail) | omega | (simp <;> omega) | assumption)) (cv_sl (by first | rfl | omega | (simp <;> fail) | fail) (by first | rfl | omega | (simp <;> fail) | fail)) | refine frz_agg rfl ?_ | refine frz_c (cv_agg ?_) | exact frzl_nil | refine frzl_cons ?_ ?_ | exact cvl_nil | refine cvl_cons ?_ ?_ | exact cv_rfl | exact cv_nil | exact cv_sl (by first | rfl | omega | (simp <;> fail) | fail) (by first | rfl | omega | (simp <;> fail) | fail) | exact frz_own rfl rfl (by assumption) (by assumption) | exact frz_int (by first | exact w64 (by omega) (by omega) | omega) | exact frz_true (by first | assumption | omega) | exact frz_false (by first | assumption | omega) | exact frz_eq (frz_c cv_rfl) (by first | rfl | (simp <;> fail) | fail))) (frzl_cons (by repeat' (first | exact frz_c cv_rfl | exact frz_c cv_nil | exact frz_ownW rfl rfl (by first | rfl | with_reducible assumption | (simp <;> fail) | omega | (simp <;> omega) | assumption) | exact frz_own rfl rfl rfl (by first | rfl | with_reducible assumption | (simp <;> fail) | omega | (simp <;> omega) | assumption) | exact frz_cv (frz_ownW rfl rfl (by first | rfl | with_reducible assumption | (simp <;> fail) | omega | (simp <;> omega) | assumption)) (cv_sl (by first | rfl | omega | (simp <;> fail) | fail) (by first | rfl | omega | (simp <;> fail) | fail)) | exact frz_cv (frz_own rfl rfl rfl (by first | rfl | with_reducible assumption | (simp <;> fail) | omega | (simp <;> omega) | assumption)) (cv_sl (by first | rfl | omega | (simp <;> fail) | fail) (by first | rfl | omega | (simp <;> fail) | fail)) | refine frz_agg rfl ?_ | refine frz_c (cv_agg ?_) | exact frzl_nil | refine frzl_cons ?_ ?_ | exact cvl_nil | refine cvl_cons ?_ ?_ | exact cv_rfl | exact cv_nil | exact cv_sl (by first | rfl | omega | (simp <;> fail) | fail) (by first | rfl | omega | (simp <;> fail) | fail) | exact frz_own rfl rfl (by assumption) (by assumption) | exact frz_int (by first | exact w64 (by omega) (by omega) | omega) | exact frz_true (by first | assumption | omega) | exact frz_false (by first | assumption | omega) | exact frz_eq (frz_c cv_rfl) (by first | rfl | (simp <;> fail) | fail))) frzl_nil)))
    · by_cases b2 : (m : Int) + (k : Int) < i
      · rw [if_pos (.inr b2)] at hr
        injection hr with e1 e2
        subst e1 e2 hm' hk'
        refine ac_enter tabOk (sz := 38) Try.func34 rfl (by rw [Try.ntmps34]; rfl) ?_
        repeat' (first
    | ((with_reducible refine aw_seqk ?_); intro K hK hX)
    | ((with_reducible refine isC_reg ?_); refine aw_prune [0, 1, 2, 4, 5] rfl rfl ?_; with_reducible refine aw_region ?_)
    | ((with_reducible refine isA_call ?_); (first | refine zA ?_ | refine zN ?_); (first | refine c0 (hva) ?_))
    | refine stA ?_
    | (refine hK _ _ _ _ ?_; clear hK hX K)
    | (refine hX _ _ _ _ _ (by simp) ?_; clear hK hX K))
        refine retK_mk (by first | exact .inl rfl | exact .inr rfl) (by exact trivial) rfl (ResL.two (by first | exact ResA.one rfl rfl rfl rfl rfl | exact ResA.agg rfl rfl rfl rfl rfl (by first | exact IsAgg.closed rfl rfl | exact IsAgg.mixed _) | exact ResA.aggr rfl rfl rfl rfl (by first | rfl | with_reducible assumption | (simp <;> fail) | omega | (simp <;> omega) | assumption)) (ResA.tmp rfl)) (out_t (frzl_cons (by repeat' (first | exact frz_c cv_rfl | exact frz_c cv_nil | exact frz_ownW rfl rfl (by first | rfl | with_reducible assumption | (simp <;> fail) | omega | (simp <;> omega) | assumption) | exact frz_own rfl rfl rfl (by first | rfl | with_reducible assumption | (simp <;> fail) | omega | (simp <;> omega) | assumption) | exact frz_cv (frz_ownW rfl rfl (by first | rfl | with_reducible assumption | (simp <;> fail) | omega | (simp <;> omega) | assumption)) (cv_sl (by first | rfl | omega | (simp <;> fail) | fail) (by first | rfl | omega | (simp <;> fail) | fail)) | exact frz_cv (frz_own rfl rfl rfl (by first | rfl | with_reducible assumption | (simp <;> fail) | omega | (simp <;> omega) | assumption)) (cv_sl (by first | rfl | omega | (simp <;> fail) | fail) (by first | rfl | omega | (simp <;> fail) | fail)) | refine frz_agg rfl ?_ | refine frz_c (cv_agg ?_) | exact frzl_nil | refine frzl_cons ?_ ?_ | exact cvl_nil | refine cvl_cons ?_ ?_ | exact cv_rfl | exact cv_nil | exact cv_sl (by first | rfl | omega | (simp <;> fail) | fail) (by first | rfl | omega | (simp <;> fail) | fail) | exact frz_own rfl rfl (by assumption) (by assumption) | exact frz_int (by first | exact w64 (by omega) (by omega) | omega) | exact frz_true (by first | assumption | omega) | exact frz_false (by first | assumption | omega) | exact frz_eq (frz_c cv_rfl) (by first | rfl | (simp <;> fail) | fail))) (frzl_cons (by repeat' (first | exact frz_c cv_rfl | exact frz_c cv_nil | exact frz_ownW rfl rfl (by first | rfl | with_reducible assumption | (simp <;> fail) | omega | (simp <;> omega) | assumption) | exact frz_own rfl rfl rfl (by first | rfl | with_reducible assumption | (simp <;> fail) | omega | (simp <;> omega) | assumption) | exact frz_cv (frz_ownW rfl rfl (by first | rfl | with_reducible assumption | (simp <;> fail) | omega | (simp <;> omega) | assumption)) (cv_sl (by first | rfl | omega | (simp <;> fail) | fail) (by first | rfl | omega | (simp <;> fail) | fail)) | exact frz_cv (frz_own rfl rfl rfl (by first | rfl | with_reducible assumption | (simp <;> fail) | omega | (simp <;> omega) | assumption)) (cv_sl (by first | rfl | omega | (simp <;> fail) | fail) (by first | rfl | omega | (simp <;> fail) | fail)) | refine frz_agg rfl ?_ | refine frz_c (cv_agg ?_) | exact frzl_nil | refine frzl_cons ?_ ?_ | exact cvl_nil | refine cvl_cons ?_ ?_ | exact cv_rfl | exact cv_nil | exact cv_sl (by first | rfl | omega | (simp <;> fail) | fail) (by first | rfl | omega | (simp <;> fail) | fail) | exact frz_own rfl rfl (by assumption) (by assumption) | exact frz_int (by first | exact w64 (by omega) (by omega) | omega) | exact frz_true (by first | assumption | omega) | exact frz_false (by first | assumption | omega) | exact frz_eq (frz_c cv_rfl) (by first | rfl | (simp <;> fail) | fail))) frzl_nil)))
      · rw [if_neg (by omega)] at hr
        cases dn with
        | true =>
          simp only [if_true] at hr
          injection hr with e1 e2
          subst e1 e2
          obtain rfl : m = m' := by rw [← hm, ← hm']
          obtain rfl : k = k' := by rw [← hk, ← hk']
          refine ac_enter tabOk (sz := 38) Try.func34 rfl (by rw [Try.ntmps34]; rfl) ?_
          repeat' (first
    | ((with_reducible refine aw_seqk ?_); intro K hK hX)
    | ((with_reducible refine isC_reg ?_); refine aw_prune [0, 1, 2, 4, 5] rfl rfl ?_; with_reducible refine aw_region ?_)
    | ((with_reducible refine isA_call ?_); (first | refine zA ?_ | refine zN ?_); (first | refine c0 (hva) ?_ | refine c0 (hcl) ?_))
    | refine stA ?_
    | (refine hK _ _ _ _ ?_; clear hK hX K)
    | (refine hX _ _ _ _ _ (by simp) ?_; clear hK hX K))
          refine retK_mk (by first | exact .inl rfl | exact .inr rfl) (by exact trivial) rfl (ResL.two (by first | exact ResA.one rfl rfl rfl rfl rfl | exact ResA.agg rfl rfl rfl rfl rfl (by first | exact IsAgg.closed rfl rfl | exact IsAgg.mixed _) | exact ResA.aggr rfl rfl rfl rfl (by first | rfl | with_reducible assumption | (simp <;> fail) | omega | (simp <;> omega) | assumption)) (ResA.tmp rfl)) (out_t (frzl_cons (by repeat' (first | exact frz_c cv_rfl | exact frz_c cv_nil | exact frz_ownW rfl rfl (by first | rfl | with_reducible assumption | (simp <;> fail) | omega | (simp <;> omega) | assumption) | exact frz_own rfl rfl rfl (by first | rfl | with_reducible assumption | (simp <;> fail) | omega | (simp <;> omega) | assumption) | exact frz_cv (frz_ownW rfl rfl (by first | rfl | with_reducible assumption | (simp <;> fail) | omega | (simp <;> omega) | assumption)) (cv_sl (by first | rfl | omega | (simp <;> fail) | fail) (by first | rfl | omega | (simp <;> fail) | fail)) | exact frz_cv (frz_own rfl rfl rfl (by first | rfl | with_reducible assumption | (simp <;> fail) | omega | (simp <;> omega) | assumption)) (cv_sl (by first | rfl | omega | (simp <;> fail) | fail) (by first | rfl | omega | (simp <;> fail) | fail)) | refine frz_agg rfl ?_ | refine frz_c (cv_agg ?_) | exact frzl_nil | refine frzl_cons ?_ ?_ | exact cvl_nil | refine cvl_cons ?_ ?_ | exact cv_rfl | exact cv_nil | exact cv_sl (by first | rfl | omega | (simp <;> fail) | fail) (by first | rfl | omega | (simp <;> fail) | fail) | exact frz_own rfl rfl (by assumption) (by assumption) | exact frz_int (by first | exact w64 (by omega) (by omega) | omega) | exact frz_true (by first | assumption | omega) | exact frz_false (by first | assumption | omega) | exact frz_eq (frz_c cv_rfl) (by first | rfl | (simp <;> fail) | fail))) (frzl_cons (by repeat' (first | exact frz_c cv_rfl | exact frz_c cv_nil | exact frz_ownW rfl rfl (by first | rfl | with_reducible assumption | (simp <;> fail) | omega | (simp <;> omega) | assumption) | exact frz_own rfl rfl rfl (by first | rfl | with_reducible assumption | (simp <;> fail) | omega | (simp <;> omega) | assumption) | exact frz_cv (frz_ownW rfl rfl (by first | rfl | with_reducible assumption | (simp <;> fail) | omega | (simp <;> omega) | assumption)) (cv_sl (by first | rfl | omega | (simp <;> fail) | fail) (by first | rfl | omega | (simp <;> fail) | fail)) | exact frz_cv (frz_own rfl rfl rfl (by first | rfl | with_reducible assumption | (simp <;> fail) | omega | (simp <;> omega) | assumption)) (cv_sl (by first | rfl | omega | (simp <;> fail) | fail) (by first | rfl | omega | (simp <;> fail) | fail)) | refine frz_agg rfl ?_ | refine frz_c (cv_agg ?_) | exact frzl_nil | refine frzl_cons ?_ ?_ | exact cvl_nil | refine cvl_cons ?_ ?_ | exact cv_rfl | exact cv_nil | exact cv_sl (by first | rfl | omega | (simp <;> fail) | fail) (by first | rfl | omega | (simp <;> fail) | fail) | exact frz_own rfl rfl (by assumption) (by assumption) | exact frz_int (by first | exact w64 (by omega) (by omega) | omega) | exact frz_true (by first | assumption | omega) | exact frz_false (by first | assumption | omega) | exact frz_eq (frz_c cv_rfl) (by first | rfl | (simp <;> fail) | fail))) frzl_nil)))
        | false =>
          simp only [Bool.false_eq_true, if_false] at hr
          injection hr with e1 e2
          subst e1 e2
          obtain rfl : 0 = k' := by rw [← hk']; rfl
          obtain ⟨q, rfl⟩ : ∃ q : Nat, i = (q : Int) := ⟨i.toNat, by omega⟩
          rw [Int.toNat_natCast] at hm' ⊢
          have hab : (u8c (sy ++ pe)).length = m + k := by rw [u8c_length, List.length_append, hm, hk]
          obtain rfl : q = m' := by rw [← hm', List.length_take, List.length_append, hm, hk]; omega
          have hj := j1 _ rfl (by omega)
          have hc1 : ((u8c (sy ++ pe)).drop 0).take (q * 1) = u8c ((sy ++ pe).take q) := by rw [List.drop_zero, Nat.mul_one, u8c_take]
          have hc2 : (u8c ((sy ++ pe).take q)).length = q * 1 := by rw [u8c_length, Nat.mul_one]; exact hm'
          refine ac_enter tabOk (sz := 38) Try.func34 rfl (by rw [Try.ntmps34]; rfl) ?_
          repeat' (first
    | ((with_reducible refine aw_seqk ?_); intro K hK hX)
    | ((with_reducible refine isC_reg ?_); refine aw_prune [0, 1, 2, 4, 5] rfl rfl ?_; with_reducible refine aw_region ?_)
    | ((with_reducible refine isA_call ?_); (first | refine zA ?_ | refine zN ?_); (first | refine c0 (hva) ?_ | refine c0 (hcl) ?_ | refine c1 (hj) ?_))
    | refine stA ?_
    | (refine hK _ _ _ _ ?_; clear hK hX K)
    | (refine hX _ _ _ _ _ (by simp) ?_; clear hK hX K))
          refine retK_mk (by first | exact .inl rfl | exact .inr rfl) (by exact trivial) rfl (ResL.two (by first | exact ResA.one rfl rfl rfl rfl rfl | exact ResA.agg rfl rfl rfl rfl rfl (by first | exact IsAgg.closed rfl rfl | exact IsAgg.mixed _) | exact ResA.aggr rfl rfl rfl rfl (by first | rfl | with_reducible assumption | (simp <;> fail) | omega | (simp <;> omega) | assumption)) (ResA.tmp rfl)) (out_t (frzl_cons (by repeat' (first | exact frz_c cv_rfl | exact frz_c cv_nil | exact frz_ownW rfl rfl (by first | rfl | with_reducible assumption | (simp <;> fail) | omega | (simp <;> omega) | assumption) | exact frz_own rfl rfl rfl (by first | rfl | with_reducible assumption | (simp <;> fail) | omega | (simp <;> omega) | assumption) | exact frz_cv (frz_ownW rfl rfl (by first | rfl | with_reducible assumption | (simp <;> fail) | omega | (simp <;> omega) | assumption)) (cv_sl (by first | rfl | omega | (simp <;> fail) | fail) (by first | rfl | omega | (simp <;> fail) | fail)) | exact frz_cv (frz_own rfl rfl rfl (by first | rfl | with_reducible assumption | (simp <;> fail) | omega | (simp <;> omega) | assumption)) (cv_sl (by first | rfl | omega | (simp <;> fail) | fail) (by first | rfl | omega | (simp <;> fail) | fail)) | refine frz_agg rfl ?_ | refine frz_c (cv_agg ?_) | exact frzl_nil | refine frzl_cons ?_ ?_ | exact cvl_nil | refine cvl_cons ?_ ?_ | exact cv_rfl | exact cv_nil | exact cv_sl (by first | rfl | omega | (simp <;> fail) | fail) (by first | rfl | omega | (simp <;> fail) | fail) | exact frz_own rfl rfl (by assumption) (by assumption) | exact frz_int (by first | exact w64 (by omega) (by omega) | omega) | exact frz_true (by first | assumption | omega) | exact frz_false (by first | assumption | omega) | exact frz_eq (frz_c cv_rfl) (by first | rfl | (simp <;> fail) | fail))) (frzl_cons (by repeat' (first | exact frz_c cv_rfl | exact frz_c cv_nil | exact frz_ownW rfl rfl (by first | rfl | with_reducible assumption | (simp <;> fail) | omega | (simp <;> omega) | assumption) | exact frz_own rfl rfl rfl (by first | rfl | with_reducible assumption | (simp <;> fail) | omega | (simp <;> omega) | assumption) | exact frz_cv (frz_ownW rfl rfl (by first | rfl | with_reducible assumption | (simp <;> fail) | omega | (simp <;> omega) | assumption)) (cv_sl (by first | rfl | omega | (simp <;> fail) | fail) (by first | rfl | omega | (simp <;> fail) | fail)) | exact frz_cv (frz_own rfl rfl rfl (by first | rfl | with_reducible assumption | (simp <;> fail) | omega | (simp <;> omega) | assumption)) (cv_sl (by first | rfl | omega | (simp <;> fail) | fail) (by first | rfl | omega | (simp <;> fail) | fail)) | refine frz_agg rfl ?_ | refine frz_c (cv_agg ?_) | exact frzl_nil | refine frzl_cons ?_ ?_ | exact cvl_nil | refine cvl_cons ?_ ?_ | exact cv_rfl | exact cv_nil | exact cv_sl (by first | rfl | omega | (simp <;> fail) | fail) (by first | rfl | omega | (simp <;> fail) | fail) | exact frz_own rfl rfl (by assumption) (by assumption) | exact frz_int (by first | exact w64 (by omega) (by omega) | omega) | exact frz_true (by first | assumption | omega) | exact frz_false (by first | assumption | omega) | exact frz_eq (frz_c cv_rfl) (by first | rfl | (simp <;> fail) | fail))) frzl_nil)))
set_option maxHeartbeats 4000000 in
theorem rread_ok (sy pe : List UInt8) (fu : Int) (dn : Bool) (m k : Nat) (hm : sy.length = m) (hk : pe.length = k) (h1 : m ≤ 1000000) (h2 : k ≤ 1000000) (s' : List UInt8) (e : Int) (m' : Nat) (hr : opR ⟨sy, pe, fu, dn⟩ = (s', e)) (hm' : s'.length = m') : AC Try.prog 35 [dkC m k sy pe fu dn] (.tup [.c (.sl 1 m' (u8c s')), .c (iv e)]) [] 0 := by
  have hva := rvalid_ok sy pe fu dn m k hm hk h1 h2
  have j1 := fun q hq h => rjoin_ok sy pe m k q hm hk hq h
  have hua : (u8c sy).length = m := by rw [u8c_length, hm]
  have hub : (u8c pe).length = k := by rw [u8c_length, hk]
  cases hok : Dk.ok ⟨sy, pe, fu, dn⟩ with
  | false =>
    rw [hok] at hva
    simp only [opR, hok, if_true] at hr
    injection hr with e1 e2
    subst e1 e2 hm'
    refine ac_enter tabOk (sz := 14) Try.func35 rfl (by rw [Try.ntmps35]; rfl) ?_
    repeat' (first
    | ((with_reducible refine aw_seqk ?_); intro K hK hX)
    | ((with_reducible refine isC_reg ?_); refine aw_prune [0, 1, 2, 3] rfl rfl ?_; with_reducible refine aw_region ?_)
    | ((with_reducible refine isA_call ?_); (first | refine zA ?_ | refine zN ?_); (first | refine c0 (hva) ?_))
    | refine stA ?_
    | (refine hK _ _ _ _ ?_; clear hK hX K)
    | (refine hX _ _ _ _ _ (by simp) ?_; clear hK hX K))
    refine retK_mk (by first | exact .inl rfl | exact .inr rfl) (by exact trivial) rfl (ResL.two (ResA.tmp rfl) (ResA.tmp rfl)) (out_t (frzl_cons (by repeat' (first | exact frz_c cv_rfl | exact frz_c cv_nil | exact frz_ownW rfl rfl (by first | rfl | with_reducible assumption | (simp <;> fail) | omega | (simp <;> omega) | assumption) | exact frz_own rfl rfl rfl (by first | rfl | with_reducible assumption | (simp <;> fail) | omega | (simp <;> omega) | assumption) | exact frz_cv (frz_ownW rfl rfl (by first | rfl | with_reducible assumption | (simp <;> fail) | omega | (simp <;> omega) | assumption)) (cv_sl (by first | rfl | omega | (simp <;> fail) | fail) (by first | rfl | omega | (simp <;> fail) | fail)) | exact frz_cv (frz_own rfl rfl rfl (by first | rfl | with_reducible assumption | (simp <;> fail) | omega | (simp <;> omega) | assumption)) (cv_sl (by first | rfl | omega | (simp <;> fail) | fail) (by first | rfl | omega | (simp <;> fail) | fail)) | refine frz_agg rfl ?_ | refine frz_c (cv_agg ?_) | exact frzl_nil | refine frzl_cons ?_ ?_ | exact cvl_nil | refine cvl_cons ?_ ?_ | exact cv_rfl | exact cv_nil | exact cv_sl (by first | rfl | omega | (simp <;> fail) | fail) (by first | rfl | omega | (simp <;> fail) | fail) | exact frz_own rfl rfl (by assumption) (by assumption) | exact frz_int (by first | exact w64 (by omega) (by omega) | omega) | exact frz_true (by first | assumption | omega) | exact frz_false (by first | assumption | omega) | exact frz_eq (frz_c cv_rfl) (by first | rfl | (simp <;> fail) | fail))) (frzl_cons (by repeat' (first | exact frz_c cv_rfl | exact frz_c cv_nil | exact frz_ownW rfl rfl (by first | rfl | with_reducible assumption | (simp <;> fail) | omega | (simp <;> omega) | assumption) | exact frz_own rfl rfl rfl (by first | rfl | with_reducible assumption | (simp <;> fail) | omega | (simp <;> omega) | assumption) | exact frz_cv (frz_ownW rfl rfl (by first | rfl | with_reducible assumption | (simp <;> fail) | omega | (simp <;> omega) | assumption)) (cv_sl (by first | rfl | omega | (simp <;> fail) | fail) (by first | rfl | omega | (simp <;> fail) | fail)) | exact frz_cv (frz_own rfl rfl rfl (by first | rfl | with_reducible assumption | (simp <;> fail) | omega | (simp <;> omega) | assumption)) (cv_sl (by first | rfl | omega | (simp <;> fail) | fail) (by first | rfl | omega | (simp <;> fail) | fail)) | refine frz_agg rfl ?_ | refine frz_c (cv_agg ?_) | exact frzl_nil | refine frzl_cons ?_ ?_ | exact cvl_nil | refine cvl_cons ?_ ?_ | exact cv_rfl | exact cv_nil | exact cv_sl (by first | rfl | omega | (simp <;> fail) | fail) (by first | rfl | omega | (simp <;> fail) | fail) | exact frz_own rfl rfl (by assumption) (by assumption) | exact frz_int (by first | exact w64 (by omega) (by omega) | omega) | exact frz_true (by first | assumption | omega) | exact frz_false (by first | assumption | omega) | exact frz_eq (frz_c cv_rfl) (by first | rfl | (simp <;> fail) | fail))) frzl_nil)))
  | true =>
    rw [hok] at hva
    obtain ⟨l1, l2⟩ := ok_facts hm hk hok
    simp only [opR, hok, hm, hk, Bool.true_eq_false, if_false] at hr
    cases dn with
    | true =>
      simp only [if_true] at hr
      injection hr with e1 e2
      subst e1 e2 hm'
      refine ac_enter tabOk (sz := 14) Try.func35 rfl (by rw [Try.ntmps35]; rfl) ?_
      repeat' (first
    | ((with_reducible refine aw_seqk ?_); intro K hK hX)
    | ((with_reducible refine isC_reg ?_); refine aw_prune [0, 1, 2, 3] rfl rfl ?_; with_reducible refine aw_region ?_)
    | ((with_reducible refine isA_call ?_); (first | refine zA ?_ | refine zN ?_); (first | refine c0 (hva) ?_))
    | refine stA ?_
    | (refine hK _ _ _ _ ?_; clear hK hX K)
    | (refine hX _ _ _ _ _ (by simp) ?_; clear hK hX K))
      refine retK_mk (by first | exact .inl rfl | exact .inr rfl) (by exact trivial) rfl (ResL.two (ResA.tmp rfl) (ResA.tmp rfl)) (out_t (frzl_cons (by repeat' (first | exact frz_c cv_rfl | exact frz_c cv_nil | exact frz_ownW rfl rfl (by first | rfl | with_reducible assumption | (simp <;> fail) | omega | (simp <;> omega) | assumption) | exact frz_own rfl rfl rfl (by first | rfl | with_reducible assumption | (simp <;> fail) | omega | (simp <;> omega) | assumption) | exact frz_cv (frz_ownW rfl rfl (by first | rfl | with_reducible assumption | (simp <;> fail) | omega | (simp <;> omega) | assumption)) (cv_sl (by first | rfl | omega | (simp <;> fail) | fail) (by first | rfl | omega | (simp <;> fail) | fail)) | exact frz_cv (frz_own rfl rfl rfl (by first | rfl | with_reducible assumption | (simp <;> fail) | omega | (simp <;> omega) | assumption)) (cv_sl (by first | rfl | omega | (simp <;> fail) | fail) (by first | rfl | omega | (simp <;> fail) | fail)) | refine frz_agg rfl ?_ | refine frz_c (cv_agg ?_) | exact frzl_nil | refine frzl_cons ?_ ?_ | exact cvl_nil | refine cvl_cons ?_ ?_ | exact cv_rfl | exact cv_nil | exact cv_sl (by first | rfl | omega | (simp <;> fail) | fail) (by first | rfl | omega | (simp <;> fail) | fail) | exact frz_own rfl rfl (by assumption) (by assumption) | exact frz_int (by first | exact w64 (by omega) (by omega) | omega) | exact frz_true (by first | assumption | omega) | exact frz_false (by first | assumption | omega) | exact frz_eq (frz_c cv_rfl) (by first | rfl | (simp <;> fail) | fail))) (frzl_cons (by repeat' (first | exact frz_c cv_rfl | exact frz_c cv_nil | exact frz_ownW rfl rfl (by first | rfl | with_reducible assumption | (simp <;> fail) | omega | (simp <;> omega) | assumption) | exact frz_own rfl rfl rfl (by first | rfl | with_reducible assumption | (simp <;> fail) | omega | (simp <;> omega) | assumption) | exact frz_cv (frz_ownW rfl rfl (by first | rfl | with_reducible assumption | (simp <;> fail) | omega | (simp <;> omega) | assumption)) (cv_sl (by first | rfl | omega | (simp <;> fail) | fail) (by first | rfl | omega | (simp <;> fail) | fail)) | exact frz_cv (frz_own rfl rfl rfl (by first | rfl | with_reducible assumption | (simp <;> fail) | omega | (simp <;> omega) | assumption)) (cv_sl (by first | rfl | omega | (simp <;> fail) | fail) (by first | rfl | omega | (simp <;> fail) | fail)) | refine frz_agg rfl ?_ | refine frz_c (cv_agg ?_) | exact frzl_nil | refine frzl_cons ?_ ?_ | exact cvl_nil | refine cvl_cons ?_ ?_ | exact cv_rfl | exact cv_nil | exact cv_sl (by first | rfl | omega | (simp <;> fail) | fail) (by first | rfl | omega | (simp <;> fail) | fail) | exact frz_own rfl rfl (by assumption) (by assumption) | exact frz_int (by first | exact w64 (by omega) (by omega) | omega) | exact frz_true (by first | assumption | omega) | exact frz_false (by first | assumption | omega) | exact frz_eq (frz_c cv_rfl) (by first | rfl | (simp <;> fail) | fail))) frzl_nil)))
    | false =>
      simp only [Bool.false_eq_true, if_false] at hr
      injection hr with e1 e2
      subst e1 e2
      have hab : (u8c (sy ++ pe)).length = m + k := by rw [u8c_length, List.length_append, hm, hk]
      obtain rfl : m + k = m' := by rw [← hm', List.length_append, hm, hk]
      have hj := j1 _ rfl (by omega)
      refine ac_enter tabOk (sz := 14) Try.func35 rfl (by rw [Try.ntmps35]; rfl) ?_
      repeat' (first
    | ((with_reducible refine aw_seqk ?_); intro K hK hX)
    | ((with_reducible refine isC_reg ?_); refine aw_prune [0, 1, 2, 3] rfl rfl ?_; with_reducible refine aw_region ?_)
    | ((with_reducible refine isA_call ?_); (first | refine zA ?_ | refine zN ?_); (first | refine c0 (hva) ?_ | refine c1 (hj) ?_))
    | refine stA ?_
    | (refine hK _ _ _ _ ?_; clear hK hX K)
    | (refine hX _ _ _ _ _ (by simp) ?_; clear hK hX K))
      refine retK_mk (by first | exact .inl rfl | exact .inr rfl) (by exact trivial) rfl (ResL.two (ResA.tmp rfl) (ResA.tmp rfl)) (out_t (frzl_cons (by repeat' (first | exact frz_c cv_rfl | exact frz_c cv_nil | exact frz_ownW rfl rfl (by first | rfl | with_reducible assumption | (simp <;> fail) | omega | (simp <;> omega) | assumption) | exact frz_own rfl rfl rfl (by first | rfl | with_reducible assumption | (simp <;> fail) | omega | (simp <;> omega) | assumption) | exact frz_cv (frz_ownW rfl rfl (by first | rfl | with_reducible assumption | (simp <;> fail) | omega | (simp <;> omega) | assumption)) (cv_sl (by first | rfl | omega | (simp <;> fail) | fail) (by first | rfl | omega | (simp <;> fail) | fail)) | exact frz_cv (frz_own rfl rfl rfl (by first | rfl | with_reducible assumption | (simp <;> fail) | omega | (simp <;> omega) | assumption)) (cv_sl (by first | rfl | omega | (simp <;> fail) | fail) (by first | rfl | omega | (simp <;> fail) | fail)) | refine frz_agg rfl ?_ | refine frz_c (cv_agg ?_) | exact frzl_nil | refine frzl_cons ?_ ?_ | exact cvl_nil | refine cvl_cons ?_ ?_ | exact cv_rfl | exact cv_nil | exact cv_sl (by first | rfl | omega | (simp <;> fail) | fail) (by first | rfl | omega | (simp <;> fail) | fail) | exact frz_own rfl rfl (by assumption) (by assumption) | exact frz_int (by first | exact w64 (by omega) (by omega) | omega) | exact frz_true (by first | assumption | omega) | exact frz_false (by first | assumption | omega) | exact frz_eq (frz_c cv_rfl) (by first | rfl | (simp <;> fail) | fail))) (frzl_cons (by repeat' (first | exact frz_c cv_rfl | exact frz_c cv_nil | exact frz_ownW rfl rfl (by first | rfl | with_reducible assumption | (simp <;> fail) | omega | (simp <;> omega) | assumption) | exact frz_own rfl rfl rfl (by first | rfl | with_reducible assumption | (simp <;> fail) | omega | (simp <;> omega) | assumption) | exact frz_cv (frz_ownW rfl rfl (by first | rfl | with_reducible assumption | (simp <;> fail) | omega | (simp <;> omega) | assumption)) (cv_sl (by first | rfl | omega | (simp <;> fail) | fail) (by first | rfl | omega | (simp <;> fail) | fail)) | exact frz_cv (frz_own rfl rfl rfl (by first | rfl | with_reducible assumption | (simp <;> fail) | omega | (simp <;> omega) | assumption)) (cv_sl (by first | rfl | omega | (simp <;> fail) | fail) (by first | rfl | omega | (simp <;> fail) | fail)) | refine frz_agg rfl ?_ | refine frz_c (cv_agg ?_) | exact frzl_nil | refine frzl_cons ?_ ?_ | exact cvl_nil | refine cvl_cons ?_ ?_ | exact cv_rfl | exact cv_nil | exact cv_sl (by first | rfl | omega | (simp <;> fail) | fail) (by first | rfl | omega | (simp <;> fail) | fail) | exact frz_own rfl rfl (by assumption) (by assumption) | exact frz_int (by first | exact w64 (by omega) (by omega) | omega) | exact frz_true (by first | assumption | omega) | exact frz_false (by first | assumption | omega) | exact frz_eq (frz_c cv_rfl) (by first | rfl | (simp <;> fail) | fail))) frzl_nil)))
end Go.Proofs.Ytddlgdppfeeplaa
/-
  Comparison of disks, operations, the sanity check of erasurelaw32 (walk).
-/
set_option linter.unusedVariables false
set_option linter.unusedSimpArgs false
namespace Go.Proofs.Ytddlgdppfeeplaa
open Go Go.RowKit Go.Av
set_option maxRecDepth 100000
def opD (s : Dk) (kd n : Int) (b : List UInt8) : Dk × Int :=
  if kd.tmod 5 = 0 then opA s b else if kd.tmod 5 = 1 then opS s else if kd.tmod 5 = 2 then opF s n else if kd.tmod 5 = 3 then opC s n else opT s n
attribute [local irreducible] Still Adds AWL AW Drw DrwE EStep AC AWR Weak Frz Src RetK Out InK ItK AsK RdK
attribute [local simp] u8c_take u8c_drop u8c_app zc_length lay_len
set_option maxHeartbeats 4000000 in
theorem same_ok (sy pe : List UInt8) (fu : Int) (dn : Bool) (m k : Nat) (hm : sy.length = m) (hk : pe.length = k) : AC Try.prog 12 [dkC m k sy pe fu dn, dkC m k sy pe fu dn] (.c (bv true)) [] 0 := by
  have hua : (u8c sy).length = m := by rw [u8c_length, hm]
  have hub : (u8c pe).length = k := by rw [u8c_length, hk]
  refine ac_enter tabOk (sz := 35) Try.func12 rfl (by rw [Try.ntmps12]; rfl) ?_
  repeat' (first
    | ((with_reducible refine aw_seqk ?_); intro K hK hX)
    | ((with_reducible refine isC_reg ?_); refine aw_prune [0, 1, 2, 3, 4] rfl rfl ?_; with_reducible refine aw_region ?_)
    | (((with_reducible refine isA_any ?_); refine xA ?_); (first | ((with_reducible refine e_bin ?_); (first | refine ex_i (s_cmp rfl rfl rfl (decide_eq_true rfl)) ?_ | refine ex_i (s_eqlS rfl rfl (decide_eq_true rfl)) ?_ | refine ex_i (s_eqlB tabOk rfl rfl rfl rfl (beq_self_eq_true _)) ?_))))
    | refine stA ?_
    | (refine hK _ _ _ _ ?_; clear hK hX K)
    | (refine hX _ _ _ _ _ (by simp) ?_; clear hK hX K))
  refine retK_mk (by first | exact .inl rfl | exact .inr rfl) (by exact trivial) rfl (ResL.one (ResA.tmp rfl)) (by first | exact out_c (by repeat' (first | exact frz_c cv_rfl | exact frz_c cv_nil | exact frz_ownW rfl rfl (by first | rfl | with_reducible assumption | (simp <;> fail) | omega | (simp <;> omega) | assumption) | exact frz_own rfl rfl rfl (by first | rfl | with_reducible assumption | (simp <;> fail) | omega | (simp <;> omega) | assumption) | exact frz_cv (frz_ownW rfl rfl (by first | rfl | with_reducible assumption | (simp <;> fail) | omega | (simp <;> omega) | assumption)) (cv_sl (by first | rfl | omega | (simp <;> fail) | fail) (by first | rfl | omega | (simp <;> fail) | fail)) | exact frz_cv (frz_own rfl rfl rfl (by first | rfl | with_reducible assumption | (simp <;> fail) | omega | (simp <;> omega) | assumption)) (cv_sl (by first | rfl | omega | (simp <;> fail) | fail) (by first | rfl | omega | (simp <;> fail) | fail)) | refine frz_agg rfl ?_ | refine frz_c (cv_agg ?_) | exact frzl_nil | refine frzl_cons ?_ ?_ | exact cvl_nil | refine cvl_cons ?_ ?_ | exact cv_rfl | exact cv_nil | exact cv_sl (by first | rfl | omega | (simp <;> fail) | fail) (by first | rfl | omega | (simp <;> fail) | fail) | exact frz_own rfl rfl (by assumption) (by assumption) | exact frz_int (by first | exact w64 (by omega) (by omega) | omega) | exact frz_true (by first | assumption | omega) | exact frz_false (by first | assumption | omega) | exact frz_eq (frz_c cv_rfl) (by first | rfl | (simp <;> fail) | fail))) | exact out_own rfl rfl)
theorem aw1 : opF ⟨[], [], -1, false⟩ 2 = (⟨[], [], 2, false⟩, 0) := rfl
theorem aw2 : opA ⟨[], [], 2, false⟩ [97, 98, 99] = (⟨[], [97, 98], 0, true⟩, 104) := rfl
theorem aw3 : opC ⟨[], [97, 98], 0, true⟩ 1 = (⟨[97], [], -1, false⟩, 0) := rfl
theorem aw4 : opR ⟨[97], [], -1, false⟩ = ([97], 0) := rfl
set_option maxHeartbeats 4000000 in
theorem awake32_ok : AC Try.prog 9 [] (.c (bv true)) [] 0 := by
  have h1 := fail_ok [] [] (-1) false 0 0 2 rfl rfl (by decide) (by decide) (by decide) (by decide) _ _ 0 0 aw1 rfl rfl
  have h2 := append_ok [] [] [97, 98, 99] 2 false 0 0 3 rfl rfl rfl (by decide) (by decide) (by decide) (by decide) _ _ 0 2 aw2 rfl rfl
  have h3 := crash_ok [] [97, 98] 0 true 0 2 1 rfl rfl (by decide) (by decide) (by decide) (by decide) _ _ 1 0 aw3 rfl rfl
  have h4 := read_ok [97] [] (-1) false 1 0 rfl rfl (by decide) (by decide) _ _ 1 aw4 rfl
  refine ac_enter tabOk (sz := 60) Try.func9 rfl (by rw [Try.ntmps9]; rfl) ?_
  repeat' (first
    | ((with_reducible refine aw_seqk ?_); intro K hK hX)
    | ((with_reducible refine isC_reg ?_); refine aw_prune [0, 1, 2, 3, 4, 5, 6, 7, 8] rfl rfl ?_; with_reducible refine aw_region ?_)
    | (refine awl_strlit tabOk g_none rfl rfl rfl rfl rfl rfl rfl rfl (by decide) ?_)
    | ((with_reducible refine isA_call ?_); (first | refine zA ?_ | refine zN ?_); (first | refine c0 (new_ok) ?_ | refine c0 (h1) ?_ | refine c0 (h2) ?_ | refine c0 (h3) ?_ | refine c0 (h4) ?_))
    | (((with_reducible refine isA_any ?_); refine xA ?_); (first | ((with_reducible refine e_bin ?_); (first | refine ex_i (s_eqlS rfl rfl (decide_eq_true rfl)) ?_))))
    | refine stA ?_
    | (refine hK _ _ _ _ ?_; clear hK hX K)
    | (refine hX _ _ _ _ _ (by simp) ?_; clear hK hX K))
  refine retK_mk (by first | exact .inl rfl | exact .inr rfl) (by exact trivial) rfl (ResL.one (ResA.tmp rfl)) (by first | exact out_c (by repeat' (first | exact frz_c cv_rfl | exact frz_c cv_nil | exact frz_ownW rfl rfl (by first | rfl | with_reducible assumption | (simp <;> fail) | omega | (simp <;> omega) | assumption) | exact frz_own rfl rfl rfl (by first | rfl | with_reducible assumption | (simp <;> fail) | omega | (simp <;> omega) | assumption) | exact frz_cv (frz_ownW rfl rfl (by first | rfl | with_reducible assumption | (simp <;> fail) | omega | (simp <;> omega) | assumption)) (cv_sl (by first | rfl | omega | (simp <;> fail) | fail) (by first | rfl | omega | (simp <;> fail) | fail)) | exact frz_cv (frz_own rfl rfl rfl (by first | rfl | with_reducible assumption | (simp <;> fail) | omega | (simp <;> omega) | assumption)) (cv_sl (by first | rfl | omega | (simp <;> fail) | fail) (by first | rfl | omega | (simp <;> fail) | fail)) | refine frz_agg rfl ?_ | refine frz_c (cv_agg ?_) | exact frzl_nil | refine frzl_cons ?_ ?_ | exact cvl_nil | refine cvl_cons ?_ ?_ | exact cv_rfl | exact cv_nil | exact cv_sl (by first | rfl | omega | (simp <;> fail) | fail) (by first | rfl | omega | (simp <;> fail) | fail) | exact frz_own rfl rfl (by assumption) (by assumption) | exact frz_int (by first | exact w64 (by omega) (by omega) | omega) | exact frz_true (by first | assumption | omega) | exact frz_false (by first | assumption | omega) | exact frz_eq (frz_c cv_rfl) (by first | rfl | (simp <;> fail) | fail))) | exact out_own rfl rfl)

set_option maxHeartbeats 4000000 in
theorem do_ok (sy pe b : List UInt8) (fu : Int) (dn : Bool) (m k n : Nat) (kd i : Int) (hm : sy.length = m) (hk : pe.length = k) (hn : b.length = n) (h1 : m ≤ 1000000) (h2 : k ≤ 1000000) (h3 : n ≤ 1000000) (h5 : fu ≤ 9223372036854775807) (h6 : -9223372036854775808 ≤ i) (h7 : i ≤ 9223372036854775807) (s' : Dk) (e : Int) (m' k' : Nat) (hr : opD ⟨sy, pe, fu, dn⟩ kd i b = (s', e)) (hm' : s'.sy.length = m') (hk' : s'.pe.length = k') : AC Try.prog 17 [dkC m k sy pe fu dn, .agg [iv kd, iv i, .sl 1 n (u8c b)]] (.tup [.c (dkV m' k' s'), .c (iv e)]) [] 0 := by
  have hua : (u8c sy).length = m := by rw [u8c_length, hm]
  have hub : (u8c pe).length = k := by rw [u8c_length, hk]
  unfold opD at hr
  by_cases b0 : kd.tmod 5 = 0
  · rw [if_pos b0] at hr
    have h := append_ok sy pe b fu dn m k n hm hk hn h1 h2 h3 h5 s' e m' k' hr hm' hk'
    refine ac_enter tabOk (sz := 45) Try.func17 rfl (by rw [Try.ntmps17]; rfl) ?_
    repeat' (first
    | ((with_reducible refine aw_seqk ?_); intro K hK hX)
    | ((with_reducible refine isC_reg ?_); refine aw_prune [0, 1, 2, 3, 4, 5, 8] rfl rfl ?_; with_reducible refine aw_region ?_)
    | ((with_reducible refine isA_call ?_); (first | refine zA ?_ | refine zN ?_); (first | refine c0 (h) ?_))
    | refine stA ?_
    | (refine hK _ _ _ _ ?_; clear hK hX K)
    | (refine hX _ _ _ _ _ (by simp) ?_; clear hK hX K))
    refine retK_mk (by first | exact .inl rfl | exact .inr rfl) (by exact trivial) rfl (ResL.two (by first | exact ResA.one rfl rfl rfl rfl rfl | exact ResA.agg rfl rfl rfl rfl rfl (by first | exact IsAgg.closed rfl rfl | exact IsAgg.mixed _) | exact ResA.aggr rfl rfl rfl rfl (by first | rfl | with_reducible assumption | (simp <;> fail) | omega | (simp <;> omega) | assumption)) (ResA.tmp rfl)) (out_t (frzl_cons (by repeat' (first | exact frz_c cv_rfl | exact frz_c cv_nil | exact frz_ownW rfl rfl (by first | rfl | with_reducible assumption | (simp <;> fail) | omega | (simp <;> omega) | assumption) | exact frz_own rfl rfl rfl (by first | rfl | with_reducible assumption | (simp <;> fail) | omega | (simp <;> omega) | assumption) | exact frz_cv (frz_ownW rfl rfl (by first | rfl | with_reducible assumption | (simp <;> fail) | omega | (simp <;> omega) | assumption)) (cv_sl (by first | rfl | omega | (simp <;> fail) | fail) (by first | rfl | omega | (simp <;> fail) | fail)) | exact frz_cv (frz_own rfl rfl rfl (by first | rfl | with_reducible assumption | (simp <;> fail) | omega | (simp <;> omega) | assumption)) (cv_sl (by first | rfl | omega | (simp <;> fail) | fail) (by first | rfl | omega | (simp <;> fail) | fail)) | refine frz_agg rfl ?_ | refine frz_c (cv_agg ?_) | exact frzl_nil | refine frzl_cons ?_ ?_ | exact cvl_nil | refine cvl_cons ?_ ?_ | exact cv_rfl | exact cv_nil | exact cv_sl (by first | rfl | omega | (simp <;> fail) | fail) (by first | rfl | omega | (simp <;> fail) | fail) | exact frz_own rfl rfl (by assumption) (by assumption) | exact frz_int (by first | exact w64 (by omega) (by omega) | omega) | exact frz_true (by first | assumption | omega) | exact frz_false (by first | assumption | omega) | exact frz_eq (frz_c cv_rfl) (by first | rfl | (simp <;> fail) | fail))) (frzl_cons (by repeat' (first | exact frz_c cv_rfl | exact frz_c cv_nil | exact frz_ownW rfl rfl (by first | rfl | with_reducible assumption | (simp <;> fail) | omega | (simp <;> omega) | assumption) | exact frz_own rfl rfl rfl (by first | rfl | with_reducible assumption | (simp <;> fail) | omega | (simp <;> omega) | assumption) | exact frz_cv (frz_ownW rfl rfl (by first | rfl | with_reducible assumption | (simp <;> fail) | omega | (simp <;> omega) | assumption)) (cv_sl (by first | rfl | omega | (simp <;> fail) | fail) (by first | rfl | omega | (simp <;> fail) | fail)) | exact frz_cv (frz_own rfl rfl rfl (by first | rfl | with_reducible assumption | (simp <;> fail) | omega | (simp <;> omega) | assumption)) (cv_sl (by first | rfl | omega | (simp <;> fail) | fail) (by first | rfl | omega | (simp <;> fail) | fail)) | refine frz_agg rfl ?_ | refine frz_c (cv_agg ?_) | exact frzl_nil | refine frzl_cons ?_ ?_ | exact cvl_nil | refine cvl_cons ?_ ?_ | exact cv_rfl | exact cv_nil | exact cv_sl (by first | rfl | omega | (simp <;> fail) | fail) (by first | rfl | omega | (simp <;> fail) | fail) | exact frz_own rfl rfl (by assumption) (by assumption) | exact frz_int (by first | exact w64 (by omega) (by omega) | omega) | exact frz_true (by first | assumption | omega) | exact frz_false (by first | assumption | omega) | exact frz_eq (frz_c cv_rfl) (by first | rfl | (simp <;> fail) | fail))) frzl_nil)))
  · rw [if_neg b0] at hr
    by_cases b1 : kd.tmod 5 = 1
    · rw [if_pos b1] at hr
      have h := sync_ok sy pe fu dn m k hm hk h1 h2 s' e m' k' hr hm' hk'
      refine ac_enter tabOk (sz := 45) Try.func17 rfl (by rw [Try.ntmps17]; rfl) ?_
      repeat' (first
    | ((with_reducible refine aw_seqk ?_); intro K hK hX)
    | ((with_reducible refine isC_reg ?_); refine aw_prune [0, 1, 2, 3, 4, 5, 8] rfl rfl ?_; with_reducible refine aw_region ?_)
    | ((with_reducible refine isA_call ?_); (first | refine zA ?_ | refine zN ?_); (first | refine c0 (h) ?_))
    | refine stA ?_
    | (refine hK _ _ _ _ ?_; clear hK hX K)
    | (refine hX _ _ _ _ _ (by simp) ?_; clear hK hX K))
      refine retK_mk (by first | exact .inl rfl | exact .inr rfl) (by exact trivial) rfl (ResL.two (by first | exact ResA.one rfl rfl rfl rfl rfl | exact ResA.agg rfl rfl rfl rfl rfl (by first | exact IsAgg.closed rfl rfl | exact IsAgg.mixed _) | exact ResA.aggr rfl rfl rfl rfl (by first | rfl | with_reducible assumption | (simp <;> fail) | omega | (simp <;> omega) | assumption)) (ResA.tmp rfl)) (out_t (frzl_cons (by repeat' (first | exact frz_c cv_rfl | exact frz_c cv_nil | exact frz_ownW rfl rfl (by first | rfl | with_reducible assumption | (simp <;> fail) | omega | (simp <;> omega) | assumption) | exact frz_own rfl rfl rfl (by first | rfl | with_reducible assumption | (simp <;> fail) | omega | (simp <;> omega) | assumption) | exact frz_cv (frz_ownW rfl rfl (by first | rfl | with_reducible assumption | (simp <;> fail) | omega | (simp <;> omega) | assumption)) (cv_sl (by first | rfl | omega | (simp <;> fail) | fail) (by first | rfl | omega | (simp <;> fail) | fail)) | exact frz_cv (frz_own rfl rfl rfl (by first | rfl | with_reducible assumption | (simp <;> fail) | omega | (simp <;> omega) | assumption)) (cv_sl (by first | rfl | omega | (simp <;> fail) | fail) (by first | rfl | omega | (simp <;> fail) | fail)) | refine frz_agg rfl ?_ | refine frz_c (cv_agg ?_) | exact frzl_nil | refine frzl_cons ?_ ?_ | exact cvl_nil | refine cvl_cons ?_ ?_ | exact cv_rfl | exact cv_nil | exact cv_sl (by first | rfl | omega | (simp <;> fail) | fail) (by first | rfl | omega | (simp <;> fail) | fail) | exact frz_own rfl rfl (by assumption) (by assumption) | exact frz_int (by first | exact w64 (by omega) (by omega) | omega) | exact frz_true (by first | assumption | omega) | exact frz_false (by first | assumption | omega) | exact frz_eq (frz_c cv_rfl) (by first | rfl | (simp <;> fail) | fail))) (frzl_cons (by repeat' (first | exact frz_c cv_rfl | exact frz_c cv_nil | exact frz_ownW rfl rfl (by first | rfl | with_reducible assumption | (simp <;> fail) | omega | (simp <;> omega) | assumption) | exact frz_own rfl rfl rfl (by first | rfl | with_reducible assumption | (simp <;> fail) | omega | (simp <;> omega) | assumption) | exact frz_cv (frz_ownW rfl rfl (by first | rfl | with_reducible assumption | (simp <;> fail) | omega | (simp <;> omega) | assumption)) (cv_sl (by first | rfl | omega | (simp <;> fail) | fail) (by first | rfl | omega | (simp <;> fail) | fail)) | exact frz_cv (frz_own rfl rfl rfl (by first | rfl | with_reducible assumption | (simp <;> fail) | omega | (simp <;> omega) | assumption)) (cv_sl (by first | rfl | omega | (simp <;> fail) | fail) (by first | rfl | omega | (simp <;> fail) | fail)) | refine frz_agg rfl ?_ | refine frz_c (cv_agg ?_) | exact frzl_nil | refine frzl_cons ?_ ?_ | exact cvl_nil | refine cvl_cons ?_ ?_ | exact cv_rfl | exact cv_nil | exact cv_sl (by first | rfl | omega | (simp <;> fail) | fail) (by first | rfl | omega | (simp <;> fail) | fail) | exact frz_own rfl rfl (by assumption) (by assumption) | exact frz_int (by first | exact w64 (by omega) (by omega) | omega) | exact frz_true (by first | assumption | omega) | exact frz_false (by first | assumption | omega) | exact frz_eq (frz_c cv_rfl) (by first | rfl | (simp <;> fail) | fail))) frzl_nil)))
    · rw [if_neg b1] at hr
      by_cases b2 : kd.tmod 5 = 2
      · rw [if_pos b2] at hr
        have h := fail_ok sy pe fu dn m k i hm hk h1 h2 h6 h7 s' e m' k' hr hm' hk'
        refine ac_enter tabOk (sz := 45) Try.func17 rfl (by rw [Try.ntmps17]; rfl) ?_
        repeat' (first
    | ((with_reducible refine aw_seqk ?_); intro K hK hX)
    | ((with_reducible refine isC_reg ?_); refine aw_prune [0, 1, 2, 3, 4, 5, 8] rfl rfl ?_; with_reducible refine aw_region ?_)
    | ((with_reducible refine isA_call ?_); (first | refine zA ?_ | refine zN ?_); (first | refine c0 (h) ?_))
    | refine stA ?_
    | (refine hK _ _ _ _ ?_; clear hK hX K)
    | (refine hX _ _ _ _ _ (by simp) ?_; clear hK hX K))
        refine retK_mk (by first | exact .inl rfl | exact .inr rfl) (by exact trivial) rfl (ResL.two (by first | exact ResA.one rfl rfl rfl rfl rfl | exact ResA.agg rfl rfl rfl rfl rfl (by first | exact IsAgg.closed rfl rfl | exact IsAgg.mixed _) | exact ResA.aggr rfl rfl rfl rfl (by first | rfl | with_reducible assumption | (simp <;> fail) | omega | (simp <;> omega) | assumption)) (ResA.tmp rfl)) (out_t (frzl_cons (by repeat' (first | exact frz_c cv_rfl | exact frz_c cv_nil | exact frz_ownW rfl rfl (by first | rfl | with_reducible assumption | (simp <;> fail) | omega | (simp <;> omega) | assumption) | exact frz_own rfl rfl rfl (by first | rfl | with_reducible assumption | (simp <;> fail) | omega | (simp <;> omega) | assumption) | exact frz_cv (frz_ownW rfl rfl (by first | rfl | with_reducible assumption | (simp <;> fail) | omega | (simp <;> omega) | assumption)) (cv_sl (by first | rfl | omega | (simp <;> fail) | fail) (by first | rfl | omega | (simp <;> fail) | fail)) | exact frz_cv (frz_own rfl rfl rfl (by first | rfl | with_reducible assumption | (simp <;> fail) | omega | (simp <;> omega) | assumption)) (cv_sl (by first | rfl | omega | (simp <;> fail) | fail) (by first | rfl | omega | (simp <;> fail) | fail)) | refine frz_agg rfl ?_ | refine frz_c (cv_agg ?_) | exact frzl_nil | refine frzl_cons ?_ ?_ | exact cvl_nil | refine cvl_cons ?_ ?_ | exact cv_rfl | exact cv_nil | exact cv_sl (by first | rfl | omega | (simp <;> fail) | fail) (by first | rfl | omega | (simp <;> fail) | fail) | exact frz_own rfl rfl (by assumption) (by assumption) | exact frz_int (by first | exact w64 (by omega) (by omega) | omega) | exact frz_true (by first | assumption | omega) | exact frz_false (by first | assumption | omega) | exact frz_eq (frz_c cv_rfl) (by first | rfl | (simp <;> fail) | fail))) (frzl_cons (by repeat' (first | exact frz_c cv_rfl | exact frz_c cv_nil | exact frz_ownW rfl rfl (by first | rfl | with_reducible assumption | (simp <;> fail) | omega | (simp <;> omega) | assumption) | exact frz_own rfl rfl rfl (by first | rfl | with_reducible assumption | (simp <;> fail) | omega | (simp <;> omega) | assumption) | exact frz_cv (frz_ownW rfl rfl (by first | rfl | with_reducible assumption | (simp <;> fail) | omega | (simp <;> omega) | assumption)) (cv_sl (by first | rfl | omega | (simp <;> fail) | fail) (by first | rfl | omega | (simp <;> fail) | fail)) | exact frz_cv (frz_own rfl rfl rfl (by first | rfl | with_reducible assumption | (simp <;> fail) | omega | (simp <;> omega) | assumption)) (cv_sl (by first | rfl | omega | (simp <;> fail) | fail) (by first | rfl | omega | (simp <;> fail) | fail)) | refine frz_agg rfl ?_ | refine frz_c (cv_agg ?_) | exact frzl_nil | refine frzl_cons ?_ ?_ | exact cvl_nil | refine cvl_cons ?_ ?_ | exact cv_rfl | exact cv_nil | exact cv_sl (by first | rfl | omega | (simp <;> fail) | fail) (by first | rfl | omega | (simp <;> fail) | fail) | exact frz_own rfl rfl (by assumption) (by assumption) | exact frz_int (by first | exact w64 (by omega) (by omega) | omega) | exact frz_true (by first | assumption | omega) | exact frz_false (by first | assumption | omega) | exact frz_eq (frz_c cv_rfl) (by first | rfl | (simp <;> fail) | fail))) frzl_nil)))
      · rw [if_neg b2] at hr
        by_cases b3 : kd.tmod 5 = 3
        · rw [if_pos b3] at hr
          have h := crash_ok sy pe fu dn m k i hm hk h1 h2 h6 h7 s' e m' k' hr hm' hk'
          refine ac_enter tabOk (sz := 45) Try.func17 rfl (by rw [Try.ntmps17]; rfl) ?_
          repeat' (first
    | ((with_reducible refine aw_seqk ?_); intro K hK hX)
    | ((with_reducible refine isC_reg ?_); refine aw_prune [0, 1, 2, 3, 4, 5, 8] rfl rfl ?_; with_reducible refine aw_region ?_)
    | ((with_reducible refine isA_call ?_); (first | refine zA ?_ | refine zN ?_); (first | refine c0 (h) ?_))
    | refine stA ?_
    | (refine hK _ _ _ _ ?_; clear hK hX K)
    | (refine hX _ _ _ _ _ (by simp) ?_; clear hK hX K))
          refine retK_mk (by first | exact .inl rfl | exact .inr rfl) (by exact trivial) rfl (ResL.two (by first | exact ResA.one rfl rfl rfl rfl rfl | exact ResA.agg rfl rfl rfl rfl rfl (by first | exact IsAgg.closed rfl rfl | exact IsAgg.mixed _) | exact ResA.aggr rfl rfl rfl rfl (by first | rfl | with_reducible assumption | (simp <;> fail) | omega | (simp <;> omega) | assumption)) (ResA.tmp rfl)) (out_t (frzl_cons (by repeat' (first | exact frz_c cv_rfl | exact frz_c cv_nil | exact frz_ownW rfl rfl (by first | rfl | with_reducible assumption | (simp <;> fail) | omega | (simp <;> omega) | assumption) | exact frz_own rfl rfl rfl (by first | rfl | with_reducible assumption | (simp <;> fail) | omega | (simp <;> omega) | assumption) | exact frz_cv (frz_ownW rfl rfl (by first | rfl | with_reducible assumption | (simp <;> fail) | omega | (simp <;> omega) | assumption)) (cv_sl (by first | rfl | omega | (simp <;> fail) | fail) (by first | rfl | omega | (simp <;> fail) | fail)) | exact frz_cv (frz_own rfl rfl rfl (by first | rfl | with_reducible assumption | (simp <;> fail) | omega | (simp <;> omega) | assumption)) (cv_sl (by first | rfl | omega | (simp <;> fail) | fail) (by first | rfl | omega | (simp <;> fail) | fail)) | refine frz_agg rfl ?_ | refine frz_c (cv_agg ?_) | exact frzl_nil | refine frzl_cons ?_ ?_ | exact cvl_nil | refine cvl_cons ?_ ?_ | exact cv_rfl | exact cv_nil | exact cv_sl (by first | rfl | omega | (simp <;> fail) | fail) (by first | rfl | omega | (simp <;> fail) | fail) | exact frz_own rfl rfl (by assumption) (by assumption) | exact frz_int (by first | exact w64 (by omega) (by omega) | omega) | exact frz_true (by first | assumption | omega) | exact frz_false (by first | assumption | omega) | exact frz_eq (frz_c cv_rfl) (by first | rfl | (simp <;> fail) | fail))) (frzl_cons (by repeat' (first | exact frz_c cv_rfl | exact frz_c cv_nil | exact frz_ownW rfl rfl (by first | rfl | with_reducible assumption | (simp <;> fail) | omega | (simp <;> omega) | assumption) | exact frz_own rfl rfl rfl (by first | rfl | with_reducible assumption | (simp <;> fail) | omega | (simp <;> omega) | assumption) | exact frz_cv (frz_ownW rfl rfl (by first | rfl | with_reducible assumption | (simp <;> fail) | omega | (simp <;> omega) | assumption)) (cv_sl (by first | rfl | omega | (simp <;> fail) | fail) (by first | rfl | omega | (simp <;> fail) | fail)) | exact frz_cv (frz_own rfl rfl rfl (by first | rfl | with_reducible assumption | (simp <;> fail) | omega | (simp <;> omega) | assumption)) (cv_sl (by first | rfl | omega | (simp <;> fail) | fail) (by first | rfl | omega | (simp <;> fail) | fail)) | refine frz_agg rfl ?_ | refine frz_c (cv_agg ?_) | exact frzl_nil | refine frzl_cons ?_ ?_ | exact cvl_nil | refine cvl_cons ?_ ?_ | exact cv_rfl | exact cv_nil | exact cv_sl (by first | rfl | omega | (simp <;> fail) | fail) (by first | rfl | omega | (simp <;> fail) | fail) | exact frz_own rfl rfl (by assumption) (by assumption) | exact frz_int (by first | exact w64 (by omega) (by omega) | omega) | exact frz_true (by first | assumption | omega) | exact frz_false (by first | assumption | omega) | exact frz_eq (frz_c cv_rfl) (by first | rfl | (simp <;> fail) | fail))) frzl_nil)))
        · rw [if_neg b3] at hr
          have h := cut_ok sy pe fu dn m k i hm hk h1 h2 h6 h7 s' e m' k' hr hm' hk'
          refine ac_enter tabOk (sz := 45) Try.func17 rfl (by rw [Try.ntmps17]; rfl) ?_
          repeat' (first
    | ((with_reducible refine aw_seqk ?_); intro K hK hX)
    | ((with_reducible refine isC_reg ?_); refine aw_prune [0, 1, 2, 3, 4, 5, 8] rfl rfl ?_; with_reducible refine aw_region ?_)
    | ((with_reducible refine isA_call ?_); (first | refine zA ?_ | refine zN ?_); (first | refine c0 (h) ?_))
    | refine stA ?_
    | (refine hK _ _ _ _ ?_; clear hK hX K)
    | (refine hX _ _ _ _ _ (by simp) ?_; clear hK hX K))
          refine retK_mk (by first | exact .inl rfl | exact .inr rfl) (by exact trivial) rfl (ResL.two (by first | exact ResA.one rfl rfl rfl rfl rfl | exact ResA.agg rfl rfl rfl rfl rfl (by first | exact IsAgg.closed rfl rfl | exact IsAgg.mixed _) | exact ResA.aggr rfl rfl rfl rfl (by first | rfl | with_reducible assumption | (simp <;> fail) | omega | (simp <;> omega) | assumption)) (ResA.tmp rfl)) (out_t (frzl_cons (by repeat' (first | exact frz_c cv_rfl | exact frz_c cv_nil | exact frz_ownW rfl rfl (by first | rfl | with_reducible assumption | (simp <;> fail) | omega | (simp <;> omega) | assumption) | exact frz_own rfl rfl rfl (by first | rfl | with_reducible assumption | (simp <;> fail) | omega | (simp <;> omega) | assumption) | exact frz_cv (frz_ownW rfl rfl (by first | rfl | with_reducible assumption | (simp <;> fail) | omega | (simp <;> omega) | assumption)) (cv_sl (by first | rfl | omega | (simp <;> fail) | fail) (by first | rfl | omega | (simp <;> fail) | fail)) | exact frz_cv (frz_own rfl rfl rfl (by first | rfl | with_reducible assumption | (simp <;> fail) | omega | (simp <;> omega) | assumption)) (cv_sl (by first | rfl | omega | (simp <;> fail) | fail) (by first | rfl | omega | (simp <;> fail) | fail)) | refine frz_agg rfl ?_ | refine frz_c (cv_agg ?_) | exact frzl_nil | refine frzl_cons ?_ ?_ | exact cvl_nil | refine cvl_cons ?_ ?_ | exact cv_rfl | exact cv_nil | exact cv_sl (by first | rfl | omega | (simp <;> fail) | fail) (by first | rfl | omega | (simp <;> fail) | fail) | exact frz_own rfl rfl (by assumption) (by assumption) | exact frz_int (by first | exact w64 (by omega) (by omega) | omega) | exact frz_true (by first | assumption | omega) | exact frz_false (by first | assumption | omega) | exact frz_eq (frz_c cv_rfl) (by first | rfl | (simp <;> fail) | fail))) (frzl_cons (by repeat' (first | exact frz_c cv_rfl | exact frz_c cv_nil | exact frz_ownW rfl rfl (by first | rfl | with_reducible assumption | (simp <;> fail) | omega | (simp <;> omega) | assumption) | exact frz_own rfl rfl rfl (by first | rfl | with_reducible assumption | (simp <;> fail) | omega | (simp <;> omega) | assumption) | exact frz_cv (frz_ownW rfl rfl (by first | rfl | with_reducible assumption | (simp <;> fail) | omega | (simp <;> omega) | assumption)) (cv_sl (by first | rfl | omega | (simp <;> fail) | fail) (by first | rfl | omega | (simp <;> fail) | fail)) | exact frz_cv (frz_own rfl rfl rfl (by first | rfl | with_reducible assumption | (simp <;> fail) | omega | (simp <;> omega) | assumption)) (cv_sl (by first | rfl | omega | (simp <;> fail) | fail) (by first | rfl | omega | (simp <;> fail) | fail)) | refine frz_agg rfl ?_ | refine frz_c (cv_agg ?_) | exact frzl_nil | refine frzl_cons ?_ ?_ | exact cvl_nil | refine cvl_cons ?_ ?_ | exact cv_rfl | exact cv_nil | exact cv_sl (by first | rfl | omega | (simp <;> fail) | fail) (by first | rfl | omega | (simp <;> fail) | fail) | exact frz_own rfl rfl (by assumption) (by assumption) | exact frz_int (by first | exact w64 (by omega) (by omega) | omega) | exact frz_true (by first | assumption | omega) | exact frz_false (by first | assumption | omega) | exact frz_eq (frz_c cv_rfl) (by first | rfl | (simp <;> fail) | fail))) frzl_nil)))
set_option maxHeartbeats 4000000 in
theorem model_ok (sy pe b : List UInt8) (fu : Int) (dn : Bool) (m k n : Nat) (kd i : Int) (hm : sy.length = m) (hk : pe.length = k) (hn : b.length = n) (h1 : m ≤ 1000000) (h2 : k ≤ 1000000) (h3 : n ≤ 1000000) (h5 : fu ≤ 9223372036854775807) (h6 : -9223372036854775808 ≤ i) (h7 : i ≤ 9223372036854775807) (s' : Dk) (e : Int) (m' k' : Nat) (hr : opD ⟨sy, pe, fu, dn⟩ kd i b = (s', e)) (hm' : s'.sy.length = m') (hk' : s'.pe.length = k') : AC Try.prog 18 [dkC m k sy pe fu dn, .agg [iv kd, iv i, .sl 1 n (u8c b)]] (.tup [.c (dkV m' k' s'), .c (iv e)]) [] 0 := by
  have hua : (u8c sy).length = m := by rw [u8c_length, hm]
  have hub : (u8c pe).length = k := by rw [u8c_length, hk]
  unfold opD at hr
  by_cases b0 : kd.tmod 5 = 0
  · rw [if_pos b0] at hr
    have h := rappend_ok sy pe b fu dn m k n hm hk hn h1 h2 h3 h5 s' e m' k' hr hm' hk'
    refine ac_enter tabOk (sz := 45) Try.func18 rfl (by rw [Try.ntmps18]; rfl) ?_
    repeat' (first
    | ((with_reducible refine aw_seqk ?_); intro K hK hX)
    | ((with_reducible refine isC_reg ?_); refine aw_prune [0, 1, 2, 3, 4, 5, 8] rfl rfl ?_; with_reducible refine aw_region ?_)
    | ((with_reducible refine isA_call ?_); (first | refine zA ?_ | refine zN ?_); (first | refine c0 (h) ?_))
    | refine stA ?_
    | (refine hK _ _ _ _ ?_; clear hK hX K)
    | (refine hX _ _ _ _ _ (by simp) ?_; clear hK hX K))
    refine retK_mk (by first | exact .inl rfl | exact .inr rfl) (by exact trivial) rfl (ResL.two (by first | exact ResA.one rfl rfl rfl rfl rfl | exact ResA.agg rfl rfl rfl rfl rfl (by first | exact IsAgg.closed rfl rfl | exact IsAgg.mixed _) | exact ResA.aggr rfl rfl rfl rfl (by first | rfl | with_reducible assumption | (simp <;> fail) | omega | (simp <;> omega) | assumption)) (ResA.tmp rfl)) (out_t (frzl_cons (by repeat' (first | exact frz_c cv_rfl | exact frz_c cv_nil | exact frz_ownW rfl rfl (by first | rfl | with_reducible assumption | (simp <;> fail) | omega | (simp <;> omega) | assumption) | exact frz_own rfl rfl rfl (by first | rfl | with_reducible assumption | (simp <;> fail) | omega | (simp <;> omega) | assumption) | exact frz_cv (frz_ownW rfl rfl (by first | rfl | with_reducible assumption | (simp <;> fail) | omega | (simp <;> omega) | assumption)) (cv_sl (by first | rfl | omega | (simp <;> fail) | fail) (by first | rfl | omega | (simp <;> fail) | fail)) | exact frz_cv (frz_own rfl rfl rfl (by first | rfl | with_reducible assumption | (simp <;> fail) | omega | (simp <;> omega) | assumption)) (cv_sl (by first | rfl | omega | (simp <;> fail) | fail) (by first | rfl | omega | (simp <;> fail) | fail)) | refine frz_agg rfl ?_ | refine frz_c (cv_agg ?_) | exact frzl_nil | refine frzl_cons ?_ ?_ | exact cvl_nil | refine cvl_cons ?_ ?_ | exact cv_rfl | exact cv_nil | exact cv_sl (by first | rfl | omega | (simp <;> fail) | fail) (by first | rfl | omega | (simp <;> fail) | fail) | exact frz_own rfl rfl (by assumption) (by assumption) | exact frz_int (by first | exact w64 (by omega) (by omega) | omega) | exact frz_true (by first | assumption | omega) | exact frz_false (by first | assumption | omega) | exact frz_eq (frz_c cv_rfl) (by first | rfl | (simp <;> fail) | fail))) (frzl_cons (by repeat' (first | exact frz_c cv_rfl | exact frz_c cv_nil | exact frz_ownW rfl rfl (by first | rfl | with_reducible assumption | (simp <;> fail) | omega | (simp <;> omega) | assumption) | exact frz_own rfl rfl rfl (by first | rfl | with_reducible assumption | (simp <;> fail) | omega | (simp <;> omega) | assumption) | exact frz_cv (frz_ownW rfl rfl (by first | rfl | with_reducible assumption | (simp <;> fail) | omega | (simp <;> omega) | assumption)) (cv_sl (by first | rfl | omega | (simp <;> fail) | fail) (by first | rfl | omega | (simp <;> fail) | fail)) | exact frz_cv (frz_own rfl rfl rfl (by first | rfl | with_reducible assumption | (simp <;> fail) | omega | (simp <;> omega) | assumption)) (cv_sl (by first | rfl | omega | (simp <;> fail) | fail) (by first | rfl | omega | (simp <;> fail) | fail)) | refine frz_agg rfl ?_ | refine frz_c (cv_agg ?_) | exact frzl_nil | refine frzl_cons ?_ ?_ | exact cvl_nil | refine cvl_cons ?_ ?_ | exact cv_rfl | exact cv_nil | exact cv_sl (by first | rfl | omega | (simp <;> fail) | fail) (by first | rfl | omega | (simp <;> fail) | fail) | exact frz_own rfl rfl (by assumption) (by assumption) | exact frz_int (by first | exact w64 (by omega) (by omega) | omega) | exact frz_true (by first | assumption | omega) | exact frz_false (by first | assumption | omega) | exact frz_eq (frz_c cv_rfl) (by first | rfl | (simp <;> fail) | fail))) frzl_nil)))
  · rw [if_neg b0] at hr
    by_cases b1 : kd.tmod 5 = 1
    · rw [if_pos b1] at hr
      have h := rsync_ok sy pe fu dn m k hm hk h1 h2 s' e m' k' hr hm' hk'
      refine ac_enter tabOk (sz := 45) Try.func18 rfl (by rw [Try.ntmps18]; rfl) ?_
      repeat' (first
    | ((with_reducible refine aw_seqk ?_); intro K hK hX)
    | ((with_reducible refine isC_reg ?_); refine aw_prune [0, 1, 2, 3, 4, 5, 8] rfl rfl ?_; with_reducible refine aw_region ?_)
    | ((with_reducible refine isA_call ?_); (first | refine zA ?_ | refine zN ?_); (first | refine c0 (h) ?_))
    | refine stA ?_
    | (refine hK _ _ _ _ ?_; clear hK hX K)
    | (refine hX _ _ _ _ _ (by simp) ?_; clear hK hX K))
      refine retK_mk (by first | exact .inl rfl | exact .inr rfl) (by exact trivial) rfl (ResL.two (by first | exact ResA.one rfl rfl rfl rfl rfl | exact ResA.agg rfl rfl rfl rfl rfl (by first | exact IsAgg.closed rfl rfl | exact IsAgg.mixed _) | exact ResA.aggr rfl rfl rfl rfl (by first | rfl | with_reducible assumption | (simp <;> fail) | omega | (simp <;> omega) | assumption)) (ResA.tmp rfl)) (out_t (frzl_cons (by repeat' (first | exact frz_c cv_rfl | exact frz_c cv_nil | exact frz_ownW rfl rfl (by first | rfl | with_reducible assumption | (simp <;> fail) | omega | (simp <;> omega) | assumption) | exact frz_own rfl rfl rfl (by first | rfl | with_reducible assumption | (simp <;> fail) | omega | (simp <;> omega) | assumption) | exact frz_cv (frz_ownW rfl rfl (by first | rfl | with_reducible assumption | (simp <;> fail) | omega | (simp <;> omega) | assumption)) (cv_sl (by first | rfl | omega | (simp <;> fail) | fail) (by first | rfl | omega | (simp <;> fail) | fail)) | exact frz_cv (frz_own rfl rfl rfl (by first | rfl | with_reducible assumption | (simp <;> fail) | omega | (simp <;> omega) | assumption)) (cv_sl (by first | rfl | omega | (simp <;> fail) | fail) (by first | rfl | omega | (simp <;> fail) | fail)) | refine frz_agg rfl ?_ | refine frz_c (cv_agg ?_) | exact frzl_nil | refine frzl_cons ?_ ?_ | exact cvl_nil | refine cvl_cons ?_ ?_ | exact cv_rfl | exact cv_nil | exact cv_sl (by first | rfl | omega | (simp <;> fail) | fail) (by first | rfl | omega | (simp <;> fail) | fail) | exact frz_own rfl rfl (by assumption) (by assumption) | exact frz_int (by first | exact w64 (by omega) (by omega) | omega) | exact frz_true (by first | assumption | omega) | exact frz_false (by first | assumption | omega) | exact frz_eq (frz_c cv_rfl) (by first | rfl | (simp <;> fail) | fail))) (frzl_cons (by repeat' (first | exact frz_c cv_rfl | exact frz_c cv_nil | exact frz_ownW rfl rfl (by first | rfl | with_reducible assumption | (simp <;> fail) | omega | (simp <;> omega) | assumption) | exact frz_own rfl rfl rfl (by first | rfl | with_reducible assumption | (simp <;> fail) | omega | (simp <;> omega) | assumption) | exact frz_cv (frz_ownW rfl rfl (by first | rfl | with_reducible assumption | (simp <;> fail) | omega | (simp <;> omega) | assumption)) (cv_sl (by first | rfl | omega | (simp <;> fail) | fail) (by first | rfl | omega | (simp <;> fail) | fail)) | exact frz_cv (frz_own rfl rfl rfl (by first | rfl | with_reducible assumption | (simp <;> fail) | omega | (simp <;> omega) | assumption)) (cv_sl (by first | rfl | omega | (simp <;> fail) | fail) (by first | rfl | omega | (simp <;> fail) | fail)) | refine frz_agg rfl ?_ | refine frz_c (cv_agg ?_) | exact frzl_nil | refine frzl_cons ?_ ?_ | exact cvl_nil | refine cvl_cons ?_ ?_ | exact cv_rfl | exact cv_nil | exact cv_sl (by first | rfl | omega | (simp <;> fail) | fail) (by first | rfl | omega | (simp <;> fail) | fail) | exact frz_own rfl rfl (by assumption) (by assumption) | exact frz_int (by first | exact w64 (by omega) (by omega) | omega) | exact frz_true (by first | assumption | omega) | exact frz_false (by first | assumption | omega) | exact frz_eq (frz_c cv_rfl) (by first | rfl | (simp <;> fail) | fail))) frzl_nil)))
    · rw [if_neg b1] at hr
      by_cases b2 : kd.tmod 5 = 2
      · rw [if_pos b2] at hr
        have h := rfail_ok sy pe fu dn m k i hm hk h1 h2 h6 h7 s' e m' k' hr hm' hk'
        refine ac_enter tabOk (sz := 45) Try.func18 rfl (by rw [Try.ntmps18]; rfl) ?_
        repeat' (first
    | ((with_reducible refine aw_seqk ?_); intro K hK hX)
    | ((with_reducible refine isC_reg ?_); refine aw_prune [0, 1, 2, 3, 4, 5, 8] rfl rfl ?_; with_reducible refine aw_region ?_)
    | ((with_reducible refine isA_call ?_); (first | refine zA ?_ | refine zN ?_); (first | refine c0 (h) ?_))
    | refine stA ?_
    | (refine hK _ _ _ _ ?_; clear hK hX K)
    | (refine hX _ _ _ _ _ (by simp) ?_; clear hK hX K))
        refine retK_mk (by first | exact .inl rfl | exact .inr rfl) (by exact trivial) rfl (ResL.two (by first | exact ResA.one rfl rfl rfl rfl rfl | exact ResA.agg rfl rfl rfl rfl rfl (by first | exact IsAgg.closed rfl rfl | exact IsAgg.mixed _) | exact ResA.aggr rfl rfl rfl rfl (by first | rfl | with_reducible assumption | (simp <;> fail) | omega | (simp <;> omega) | assumption)) (ResA.tmp rfl)) (out_t (frzl_cons (by repeat' (first | exact frz_c cv_rfl | exact frz_c cv_nil | exact frz_ownW rfl rfl (by first | rfl | with_reducible assumption | (simp <;> fail) | omega | (simp <;> omega) | assumption) | exact frz_own rfl rfl rfl (by first | rfl | with_reducible assumption | (simp <;> fail) | omega | (simp <;> omega) | assumption) | exact frz_cv (frz_ownW rfl rfl (by first | rfl | with_reducible assumption | (simp <;> fail) | omega | (simp <;> omega) | assumption)) (cv_sl (by first | rfl | omega | (simp <;> fail) | fail) (by first | rfl | omega | (simp <;> fail) | fail)) | exact frz_cv (frz_own rfl rfl rfl (by first | rfl | with_reducible assumption | (simp <;> fail) | omega | (simp <;> omega) | assumption)) (cv_sl (by first | rfl | omega | (simp <;> fail) | fail) (by first | rfl | omega | (simp <;> fail) | fail)) | refine frz_agg rfl ?_ | refine frz_c (cv_agg ?_) | exact frzl_nil | refine frzl_cons ?_ ?_ | exact cvl_nil | refine cvl_cons ?_ ?_ | exact cv_rfl | exact cv_nil | exact cv_sl (by first | rfl | omega | (simp <;> fail) | fail) (by first | rfl | omega | (simp <;> fail) | fail) | exact frz_own rfl rfl (by assumption) (by assumption) | exact frz_int (by first | exact w64 (by omega) (by omega) | omega) | exact frz_true (by first | assumption | omega) | exact frz_false (by first | assumption | omega) | exact frz_eq (frz_c cv_rfl) (by first | rfl | (simp <;> fail) | fail))) (frzl_cons (by repeat' (first | exact frz_c cv_rfl | exact frz_c cv_nil | exact frz_ownW rfl rfl (by first | rfl | with_reducible assumption | (simp <;> fail) | omega | (simp <;> omega) | assumption) | exact frz_own rfl rfl rfl (by first | rfl | with_reducible assumption | (simp <;> fail) | omega | (simp <;> omega) | assumption) | exact frz_cv (frz_ownW rfl rfl (by first | rfl | with_reducible assumption | (simp <;> fail) | omega | (simp <;> omega) | assumption)) (cv_sl (by first | rfl | omega | (simp <;> fail) | fail) (by first | rfl | omega | (simp <;> fail) | fail)) | exact frz_cv (frz_own rfl rfl rfl (by first | rfl | with_reducible assumption | (simp <;> fail) | omega | (simp <;> omega) | assumption)) (cv_sl (by first | rfl | omega | (simp <;> fail) | fail) (by first | rfl | omega | (simp <;> fail) | fail)) | refine frz_agg rfl ?_ | refine frz_c (cv_agg ?_) | exact frzl_nil | refine frzl_cons ?_ ?_ | exact cvl_nil | refine cvl_cons ?_ ?_ | exact cv_rfl | exact cv_nil | exact cv_sl (by first | rfl | omega | (simp <;> fail) | fail) (by first | rfl | omega | (simp <;> fail) | fail) | exact frz_own rfl rfl (by assumption) (by assumption) | exact frz_int (by first | exact w64 (by omega) (by omega) | omega) | exact frz_true (by first | assumption | omega) | exact frz_false (by first | assumption | omega) | exact frz_eq (frz_c cv_rfl) (by first | rfl | (simp <;> fail) | fail))) frzl_nil)))
      · rw [if_neg b2] at hr
        by_cases b3 : kd.tmod 5 = 3
        · rw [if_pos b3] at hr
          have h := rcrash_ok sy pe fu dn m k i hm hk h1 h2 h6 h7 s' e m' k' hr hm' hk'
          refine ac_enter tabOk (sz := 45) Try.func18 rfl (by rw [Try.ntmps18]; rfl) ?_
          repeat' (first
    | ((with_reducible refine aw_seqk ?_); intro K hK hX)
    | ((with_reducible refine isC_reg ?_); refine aw_prune [0, 1, 2, 3, 4, 5, 8] rfl rfl ?_; with_reducible refine aw_region ?_)
    | ((with_reducible refine isA_call ?_); (first | refine zA ?_ | refine zN ?_); (first | refine c0 (h) ?_))
    | refine stA ?_
    | (refine hK _ _ _ _ ?_; clear hK hX K)
    | (refine hX _ _ _ _ _ (by simp) ?_; clear hK hX K))
          refine retK_mk (by first | exact .inl rfl | exact .inr rfl) (by exact trivial) rfl (ResL.two (by first | exact ResA.one rfl rfl rfl rfl rfl | exact ResA.agg rfl rfl rfl rfl rfl (by first | exact IsAgg.closed rfl rfl | exact IsAgg.mixed _) | exact ResA.aggr rfl rfl rfl rfl (by first | rfl | with_reducible assumption | (simp <;> fail) | omega | (simp <;> omega) | assumption)) (ResA.tmp rfl)) (out_t (frzl_cons (by repeat' (first | exact frz_c cv_rfl | exact frz_c cv_nil | exact frz_ownW rfl rfl (by first | rfl | with_reducible assumption | (simp <;> fail) | omega | (simp <;> omega) | assumption) | exact frz_own rfl rfl rfl (by first | rfl | with_reducible assumption | (simp <;> fail) | omega | (simp <;> omega) | assumption) | exact frz_cv (frz_ownW rfl rfl (by first | rfl | with_reducible assumption | (simp <;> fail) | omega | (simp <;> omega) | assumption)) (cv_sl (by first | rfl | omega | (simp <;> fail) | fail) (by first | rfl | omega | (simp <;> fail) | fail)) | exact frz_cv (frz_own rfl rfl rfl (by first | rfl | with_reducible assumption | (simp <;> fail) | omega | (simp <;> omega) | assumption)) (cv_sl (by first | rfl | omega | (simp <;> fail) | fail) (by first | rfl | omega | (simp <;> fail) | fail)) | refine frz_agg rfl ?_ | refine frz_c (cv_agg ?_) | exact frzl_nil | refine frzl_cons ?_ ?_ | exact cvl_nil | refine cvl_cons ?_ ?_ | exact cv_rfl | exact cv_nil | exact cv_sl (by first | rfl | omega | (simp <;> fail) | fail) (by first | rfl | omega | (simp <;> fail) | fail) | exact frz_own rfl rfl (by assumption) (by assumption) | exact frz_int (by first | exact w64 (by omega) (by omega) | omega) | exact frz_true (by first | assumption | omega) | exact frz_false (by first | assumption | omega) | exact frz_eq (frz_c cv_rfl) (by first | rfl | (simp <;> fail) | fail))) (frzl_cons (by repeat' (first | exact frz_c cv_rfl | exact frz_c cv_nil | exact frz_ownW rfl rfl (by first | rfl | with_reducible assumption | (simp <;> fail) | omega | (simp <;> omega) | assumption) | exact frz_own rfl rfl rfl (by first | rfl | with_reducible assumption | (simp <;> fail) | omega | (simp <;> omega) | assumption) | exact frz_cv (frz_ownW rfl rfl (by first | rfl | with_reducible assumption | (simp <;> fail) | omega | (simp <;> omega) | assumption)) (cv_sl (by first | rfl | omega | (simp <;> fail) | fail) (by first | rfl | omega | (simp <;> fail) | fail)) | exact frz_cv (frz_own rfl rfl rfl (by first | rfl | with_reducible assumption | (simp <;> fail) | omega | (simp <;> omega) | assumption)) (cv_sl (by first | rfl | omega | (simp <;> fail) | fail) (by first | rfl | omega | (simp <;> fail) | fail)) | refine frz_agg rfl ?_ | refine frz_c (cv_agg ?_) | exact frzl_nil | refine frzl_cons ?_ ?_ | exact cvl_nil | refine cvl_cons ?_ ?_ | exact cv_rfl | exact cv_nil | exact cv_sl (by first | rfl | omega | (simp <;> fail) | fail) (by first | rfl | omega | (simp <;> fail) | fail) | exact frz_own rfl rfl (by assumption) (by assumption) | exact frz_int (by first | exact w64 (by omega) (by omega) | omega) | exact frz_true (by first | assumption | omega) | exact frz_false (by first | assumption | omega) | exact frz_eq (frz_c cv_rfl) (by first | rfl | (simp <;> fail) | fail))) frzl_nil)))
        · rw [if_neg b3] at hr
          have h := rcut_ok sy pe fu dn m k i hm hk h1 h2 h6 h7 s' e m' k' hr hm' hk'
          refine ac_enter tabOk (sz := 45) Try.func18 rfl (by rw [Try.ntmps18]; rfl) ?_
          repeat' (first
    | ((with_reducible refine aw_seqk ?_); intro K hK hX)
    | ((with_reducible refine isC_reg ?_); refine aw_prune [0, 1, 2, 3, 4, 5, 8] rfl rfl ?_; with_reducible refine aw_region ?_)
    | ((with_reducible refine isA_call ?_); (first | refine zA ?_ | refine zN ?_); (first | refine c0 (h) ?_))
    | refine stA ?_
    | (refine hK _ _ _ _ ?_; clear hK hX K)
    | (refine hX _ _ _ _ _ (by simp) ?_; clear hK hX K))
          refine retK_mk (by first | exact .inl rfl | exact .inr rfl) (by exact trivial) rfl (ResL.two (by first | exact ResA.one rfl rfl rfl rfl rfl | exact ResA.agg rfl rfl rfl rfl rfl (by first | exact IsAgg.closed rfl rfl | exact IsAgg.mixed _) | exact ResA.aggr rfl rfl rfl rfl (by first | rfl | with_reducible assumption | (simp <;> fail) | omega | (simp <;> omega) | assumption)) (ResA.tmp rfl)) (out_t (frzl_cons (by repeat' (first | exact frz_c cv_rfl | exact frz_c cv_nil | exact frz_ownW rfl rfl (by first | rfl | with_reducible assumption | (simp <;> fail) | omega | (simp <;> omega) | assumption) | exact frz_own rfl rfl rfl (by first | rfl | with_reducible assumption | (simp <;> fail) | omega | (simp <;> omega) | assumption) | exact frz_cv (frz_ownW rfl rfl (by first | rfl | with_reducible assumption | (simp <;> fail) | omega | (simp <;> omega) | assumption)) (cv_sl (by first | rfl | omega | (simp <;> fail) | fail) (by first | rfl | omega | (simp <;> fail) | fail)) | exact frz_cv (frz_own rfl rfl rfl (by first | rfl | with_reducible assumption | (simp <;> fail) | omega | (simp <;> omega) | assumption)) (cv_sl (by first | rfl | omega | (simp <;> fail) | fail) (by first | rfl | omega | (simp <;> fail) | fail)) | refine frz_agg rfl ?_ | refine frz_c (cv_agg ?_) | exact frzl_nil | refine frzl_cons ?_ ?_ | exact cvl_nil | refine cvl_cons ?_ ?_ | exact cv_rfl | exact cv_nil | exact cv_sl (by first | rfl | omega | (simp <;> fail) | fail) (by first | rfl | omega | (simp <;> fail) | fail) | exact frz_own rfl rfl (by assumption) (by assumption) | exact frz_int (by first | exact w64 (by omega) (by omega) | omega) | exact frz_true (by first | assumption | omega) | exact frz_false (by first | assumption | omega) | exact frz_eq (frz_c cv_rfl) (by first | rfl | (simp <;> fail) | fail))) (frzl_cons (by repeat' (first | exact frz_c cv_rfl | exact frz_c cv_nil | exact frz_ownW rfl rfl (by first | rfl | with_reducible assumption | (simp <;> fail) | omega | (simp <;> omega) | assumption) | exact frz_own rfl rfl rfl (by first | rfl | with_reducible assumption | (simp <;> fail) | omega | (simp <;> omega) | assumption) | exact frz_cv (frz_ownW rfl rfl (by first | rfl | with_reducible assumption | (simp <;> fail) | omega | (simp <;> omega) | assumption)) (cv_sl (by first | rfl | omega | (simp <;> fail) | fail) (by first | rfl | omega | (simp <;> fail) | fail)) | exact frz_cv (frz_own rfl rfl rfl (by first | rfl | with_reducible assumption | (simp <;> fail) | omega | (simp <;> omega) | assumption)) (cv_sl (by first | rfl | omega | (simp <;> fail) | fail) (by first | rfl | omega | (simp <;> fail) | fail)) | refine frz_agg rfl ?_ | refine frz_c (cv_agg ?_) | exact frzl_nil | refine frzl_cons ?_ ?_ | exact cvl_nil | refine cvl_cons ?_ ?_ | exact cv_rfl | exact cv_nil | exact cv_sl (by first | rfl | omega | (simp <;> fail) | fail) (by first | rfl | omega | (simp <;> fail) | fail) | exact frz_own rfl rfl (by assumption) (by assumption) | exact frz_int (by first | exact w64 (by omega) (by omega) | omega) | exact frz_true (by first | assumption | omega) | exact frz_false (by first | assumption | omega) | exact frz_eq (frz_c cv_rfl) (by first | rfl | (simp <;> fail) | fail))) frzl_nil)))
set_option maxHeartbeats 4000000 in
theorem lsame_ok (sy pe : List UInt8) (fu : Int) (dn : Bool) (m k : Nat) (hm : sy.length = m) (hk : pe.length = k) (h1 : m ≤ 1000000) (h2 : k ≤ 1000000) : AC Try.prog 19 [dkC m k sy pe fu dn, dkC m k sy pe fu dn] (.c (bv true)) [] 0 := by
  have hua : (u8c sy).length = m := by rw [u8c_length, hm]
  have hub : (u8c pe).length = k := by rw [u8c_length, hk]
  obtain ⟨s', e, hr⟩ : ∃ s' e, opR ⟨sy, pe, fu, dn⟩ = (s', e) := ⟨_, _, rfl⟩
  obtain ⟨m', hm'⟩ : ∃ m', s'.length = m' := ⟨_, rfl⟩
  have hus : (u8c s').length = m' := by rw [u8c_length, hm']
  have e1 := read_ok sy pe fu dn m k hm hk h1 h2 s' e m' hr hm'
  have e2 := rread_ok sy pe fu dn m k hm hk h1 h2 s' e m' hr hm'
  have e3 := same_ok sy pe fu dn m k hm hk
  refine ac_enter tabOk (sz := 34) Try.func19 rfl (by rw [Try.ntmps19]; rfl) ?_
  repeat' (first
    | ((with_reducible refine aw_seqk ?_); intro K hK hX)
    | ((with_reducible refine isC_reg ?_); refine aw_prune [0, 1, 2, 3, 4, 5, 6, 7, 8] rfl rfl ?_; with_reducible refine aw_region ?_)
    | ((with_reducible refine isA_call ?_); (first | refine zA ?_ | refine zN ?_); (first | refine c0 (e1) ?_ | refine c0 (e2) ?_ | refine c0 (e3) ?_))
    | (((with_reducible refine isA_any ?_); refine xA ?_); (first | ((with_reducible refine e_bin ?_); (first | refine ex_i (s_eqlS rfl rfl (decide_eq_true rfl)) ?_))))
    | refine stA ?_
    | (refine hK _ _ _ _ ?_; clear hK hX K)
    | (refine hX _ _ _ _ _ (by simp) ?_; clear hK hX K))
  refine retK_mk (by first | exact .inl rfl | exact .inr rfl) (by exact trivial) rfl (ResL.one (ResA.tmp rfl)) (by first | exact out_c (by repeat' (first | exact frz_c cv_rfl | exact frz_c cv_nil | exact frz_ownW rfl rfl (by first | rfl | with_reducible assumption | (simp <;> fail) | omega | (simp <;> omega) | assumption) | exact frz_own rfl rfl rfl (by first | rfl | with_reducible assumption | (simp <;> fail) | omega | (simp <;> omega) | assumption) | exact frz_cv (frz_ownW rfl rfl (by first | rfl | with_reducible assumption | (simp <;> fail) | omega | (simp <;> omega) | assumption)) (cv_sl (by first | rfl | omega | (simp <;> fail) | fail) (by first | rfl | omega | (simp <;> fail) | fail)) | exact frz_cv (frz_own rfl rfl rfl (by first | rfl | with_reducible assumption | (simp <;> fail) | omega | (simp <;> omega) | assumption)) (cv_sl (by first | rfl | omega | (simp <;> fail) | fail) (by first | rfl | omega | (simp <;> fail) | fail)) | refine frz_agg rfl ?_ | refine frz_c (cv_agg ?_) | exact frzl_nil | refine frzl_cons ?_ ?_ | exact cvl_nil | refine cvl_cons ?_ ?_ | exact cv_rfl | exact cv_nil | exact cv_sl (by first | rfl | omega | (simp <;> fail) | fail) (by first | rfl | omega | (simp <;> fail) | fail) | exact frz_own rfl rfl (by assumption) (by assumption) | exact frz_int (by first | exact w64 (by omega) (by omega) | omega) | exact frz_true (by first | assumption | omega) | exact frz_false (by first | assumption | omega) | exact frz_eq (frz_c cv_rfl) (by first | rfl | (simp <;> fail) | fail))) | exact out_own rfl rfl)
/-- An operation of the laws. -/
structure Ac where
  kd : Int
  n : Int
  bs : List UInt8
def acC (a : Ac) : List CV := [iv a.kd, iv a.n, .sl 1 a.bs.length (u8c a.bs)]
def acsC (l : List Ac) : List CV := l.flatMap acC
theorem acsC_length (l : List Ac) : (acsC l).length = l.length * 3 := by
  unfold acsC
  induction l with
  | nil => rfl
  | cons a l ih => rw [List.flatMap_cons, List.length_append, ih]; simp [acC]; omega
theorem acs_at : ∀ (l : List Ac) (i : Nat) (a : Ac), l[i]? = some a → ((acsC l).drop (i * 3)).take 3 = acC a
  | [], i, a, h => by simp at h
  | x :: l, 0, a, h => by
    simp at h
    subst h
    simp [acsC, List.flatMap_cons, acC]
  | x :: l, i + 1, a, h => by
    rw [List.getElem?_cons_succ] at h
    rw [← acs_at l i a h, show (i + 1) * 3 = 3 + i * 3 by omega]
    unfold acsC
    rw [List.flatMap_cons, ← List.drop_drop]
    rfl
theorem acs_bs (l : List Ac) (i : Nat) (a : Ac) (h : l[i]? = some a) : (acsC l)[i * 3 + 2]? = some (.sl 1 a.bs.length (u8c a.bs)) := by
  rw [← List.getElem?_drop, ← List.getElem?_take_of_lt (show 2 < 3 by decide), acs_at l i a h]
  rfl
theorem acs_kd (l : List Ac) (i : Nat) (a : Ac) (h : l[i]? = some a) : (acsC l)[i * 3 + 0]? = some (iv a.kd) := by
  rw [← List.getElem?_drop, ← List.getElem?_take_of_lt (show 0 < 3 by decide), acs_at l i a h]
  rfl
def shortB (l : List Ac) : Bool := l.all (fun a => decide (a.bs.length ≤ 60)) && decide (l.length ≤ 30)
set_option maxHeartbeats 4000000 in
theorem short_ok (l : List Ac) (n : Nat) (hn : l.length = n) (hm : n ≤ maxLen) : AC Try.prog 15 [.sl 3 n (acsC l)] (.c (bv (shortB l))) [] 0 := by
  have hac := acsC_length l
  rw [hn] at hac
  have hm' : n ≤ 9223372036854775807 := hm
  refine ac_enter tabOk (sz := 20) Try.func15 rfl (by rw [Try.ntmps15]; rfl) ?_
  repeat' (first
    | ((with_reducible refine aw_seqk ?_); intro K hK hX)
    | ((with_reducible refine isC_reg ?_); refine aw_prune [0, 2, 3] rfl rfl ?_; with_reducible refine aw_region ?_)
    | refine stA ?_
    | (refine hK _ _ _ _ ?_; clear hK hX K)
    | (refine hX _ _ _ _ _ (by simp) ?_; clear hK hX K))
  refine aw_loopo [3] [] rfl rfl (fun i : Nat => [(3, .c (iv i))]) (fun i => []) (fun i => i ≤ n ∧ (l.take i).all (fun a => decide (a.bs.length ≤ 60)) = true) (fun i => n - i) 0 (by simp) weakA ?_
  intro i hi K hK hX
  obtain ⟨hi, hall⟩ := hi
  by_cases hlt : i < n
  · obtain ⟨a, ha⟩ : ∃ a, l[i]? = some a := ⟨l[i]'(by omega), List.getElem?_eq_getElem _⟩
    have hc := acs_bs l i a ha
    by_cases hs : (60 : Int) < (a.bs.length : Int)
    · have : shortB l = false := by
        unfold shortB
        rw [Bool.and_eq_false_iff]
        left
        rw [List.all_eq_false]
        exact ⟨a, List.mem_of_getElem? ha, by simp; omega⟩
      repeat' (first
    | ((with_reducible refine aw_seqk ?_); intro K hK hX)
    | ((with_reducible refine isC_reg ?_); refine aw_prune [0, 2, 3] rfl rfl ?_; with_reducible refine aw_region ?_)
    | (((with_reducible refine isA_any ?_); refine xA ?_); (first | ((with_reducible refine e_load ?_); (first | refine ex_i (s_load1 tabOk rfl rfl rfl rfl (by exact hc)) ?_ | refine ex_i (s_load1r tabOk rfl rfl rfl rfl (by exact hc)) ?_ | refine ex_i (s_load1i tabOk rfl rfl rfl (by exact hc)) ?_)) | ((with_reducible refine e_ix ?_); (first | refine ex_i (s_ixV1 tabOk rfl rfl (by first | with_reducible exact cast_self _ | with_reducible exact cast_lit _ | with_reducible exact cast_add2 _ _ | with_reducible exact cast_addl _ _ | with_reducible exact cast_sub2 (by omega) | with_reducible exact cast_subl (by omega) | with_reducible exact cast_lsub (by omega) | exact nt (by omega) | rfl) rfl rfl rfl rfl rfl (by first | exact Nat.le_of_ble_eq_true rfl | omega | (simp <;> omega)) (by exact hc)) ?_ | refine ex_i (s_ixStr tabOk rfl rfl (by first | with_reducible exact cast_self _ | with_reducible exact cast_lit _ | with_reducible exact cast_add2 _ _ | with_reducible exact cast_addl _ _ | with_reducible exact cast_sub2 (by omega) | with_reducible exact cast_subl (by omega) | with_reducible exact cast_lsub (by omega) | exact nt (by omega) | rfl) rfl rfl (by exact hc)) ?_))))
    | refine stA ?_
    | (refine hK _ _ _ _ ?_; clear hK hX K)
    | (refine hX _ _ _ _ _ (by simp) ?_; clear hK hX K))
      rw [this]
      refine retK_mk (by first | exact .inl rfl | exact .inr rfl) (by exact trivial) rfl (ResL.one (ResA.tmp rfl)) (by first | exact out_c (by repeat' (first | exact frz_c cv_rfl | exact frz_c cv_nil | exact frz_ownW rfl rfl (by first | rfl | with_reducible assumption | (simp <;> fail) | omega | (simp <;> omega) | assumption) | exact frz_own rfl rfl rfl (by first | rfl | with_reducible assumption | (simp <;> fail) | omega | (simp <;> omega) | assumption) | exact frz_cv (frz_ownW rfl rfl (by first | rfl | with_reducible assumption | (simp <;> fail) | omega | (simp <;> omega) | assumption)) (cv_sl (by first | rfl | omega | (simp <;> fail) | fail) (by first | rfl | omega | (simp <;> fail) | fail)) | exact frz_cv (frz_own rfl rfl rfl (by first | rfl | with_reducible assumption | (simp <;> fail) | omega | (simp <;> omega) | assumption)) (cv_sl (by first | rfl | omega | (simp <;> fail) | fail) (by first | rfl | omega | (simp <;> fail) | fail)) | refine frz_agg rfl ?_ | refine frz_c (cv_agg ?_) | exact frzl_nil | refine frzl_cons ?_ ?_ | exact cvl_nil | refine cvl_cons ?_ ?_ | exact cv_rfl | exact cv_nil | exact cv_sl (by first | rfl | omega | (simp <;> fail) | fail) (by first | rfl | omega | (simp <;> fail) | fail) | exact frz_own rfl rfl (by assumption) (by assumption) | exact frz_int (by first | exact w64 (by omega) (by omega) | omega) | exact frz_true (by first | assumption | omega) | exact frz_false (by first | assumption | omega) | exact frz_eq (frz_c cv_rfl) (by first | rfl | (simp <;> fail) | fail))) | exact out_own rfl rfl)
    · have ht : (l.take (i + 1)).all (fun a => decide (a.bs.length ≤ 60)) = true := by
        rw [List.take_add_one, ha, List.all_append, hall]
        simp
        omega
      repeat' (first
    | ((with_reducible refine aw_seqk ?_); intro K hK hX)
    | ((with_reducible refine isC_reg ?_); refine aw_prune [0, 2, 3] rfl rfl ?_; with_reducible refine aw_region ?_)
    | (((with_reducible refine isA_any ?_); refine xA ?_); (first | ((with_reducible refine e_load ?_); (first | refine ex_i (s_load1 tabOk rfl rfl rfl rfl (by exact hc)) ?_ | refine ex_i (s_load1r tabOk rfl rfl rfl rfl (by exact hc)) ?_ | refine ex_i (s_load1i tabOk rfl rfl rfl (by exact hc)) ?_)) | ((with_reducible refine e_ix ?_); (first | refine ex_i (s_ixV1 tabOk rfl rfl (by first | with_reducible exact cast_self _ | with_reducible exact cast_lit _ | with_reducible exact cast_add2 _ _ | with_reducible exact cast_addl _ _ | with_reducible exact cast_sub2 (by omega) | with_reducible exact cast_subl (by omega) | with_reducible exact cast_lsub (by omega) | exact nt (by omega) | rfl) rfl rfl rfl rfl rfl (by first | exact Nat.le_of_ble_eq_true rfl | omega | (simp <;> omega)) (by exact hc)) ?_ | refine ex_i (s_ixStr tabOk rfl rfl (by first | with_reducible exact cast_self _ | with_reducible exact cast_lit _ | with_reducible exact cast_add2 _ _ | with_reducible exact cast_addl _ _ | with_reducible exact cast_sub2 (by omega) | with_reducible exact cast_subl (by omega) | with_reducible exact cast_lsub (by omega) | exact nt (by omega) | rfl) rfl rfl (by exact hc)) ?_))))
    | refine stA ?_
    | (refine hK _ _ _ _ ?_; clear hK hX K)
    | (refine hX _ _ _ _ _ (by simp) ?_; clear hK hX K))
      exact ⟨i + 1, ⟨by omega, ht⟩, by omega, weakA⟩
  · have hin : i = n := by omega
    rw [List.take_of_length_le (by omega)] at hall
    have : shortB l = decide ((n : Int) ≤ 30) := by
      unfold shortB
      rw [hall, hn, Bool.true_and]
      exact decide_eq_decide.2 (by omega)
    repeat' (first
    | ((with_reducible refine aw_seqk ?_); intro K hK hX)
    | ((with_reducible refine isC_reg ?_); refine aw_prune [0, 2, 3] rfl rfl ?_; with_reducible refine aw_region ?_)
    | (((with_reducible refine isA_any ?_); refine xA ?_); (first | ((with_reducible refine e_load ?_); (first | refine ex_i (s_load1 tabOk rfl rfl rfl rfl (by fail)) ?_ | refine ex_i (s_load1r tabOk rfl rfl rfl rfl (by fail)) ?_ | refine ex_i (s_load1i tabOk rfl rfl rfl (by fail)) ?_)) | ((with_reducible refine e_ix ?_); (first | refine ex_i (s_ixV1 tabOk rfl rfl (by first | with_reducible exact cast_self _ | with_reducible exact cast_lit _ | with_reducible exact cast_add2 _ _ | with_reducible exact cast_addl _ _ | with_reducible exact cast_sub2 (by omega) | with_reducible exact cast_subl (by omega) | with_reducible exact cast_lsub (by omega) | exact nt (by omega) | rfl) rfl rfl rfl rfl rfl (by first | exact Nat.le_of_ble_eq_true rfl | omega | (simp <;> omega)) (by fail)) ?_ | refine ex_i (s_ixStr tabOk rfl rfl (by first | with_reducible exact cast_self _ | with_reducible exact cast_lit _ | with_reducible exact cast_add2 _ _ | with_reducible exact cast_addl _ _ | with_reducible exact cast_sub2 (by omega) | with_reducible exact cast_subl (by omega) | with_reducible exact cast_lsub (by omega) | exact nt (by omega) | rfl) rfl rfl (by fail)) ?_))))
    | refine stA ?_
    | (refine hK _ _ _ _ ?_; clear hK hX K)
    | (refine hX _ _ _ _ _ (by simp) ?_; clear hK hX K))
    rw [this]
    refine retK_mk (by first | exact .inl rfl | exact .inr rfl) (by exact trivial) rfl (ResL.one (ResA.tmp rfl)) (by first | exact out_c (by repeat' (first | exact frz_c cv_rfl | exact frz_c cv_nil | exact frz_ownW rfl rfl (by first | rfl | with_reducible assumption | (simp <;> fail) | omega | (simp <;> omega) | assumption) | exact frz_own rfl rfl rfl (by first | rfl | with_reducible assumption | (simp <;> fail) | omega | (simp <;> omega) | assumption) | exact frz_cv (frz_ownW rfl rfl (by first | rfl | with_reducible assumption | (simp <;> fail) | omega | (simp <;> omega) | assumption)) (cv_sl (by first | rfl | omega | (simp <;> fail) | fail) (by first | rfl | omega | (simp <;> fail) | fail)) | exact frz_cv (frz_own rfl rfl rfl (by first | rfl | with_reducible assumption | (simp <;> fail) | omega | (simp <;> omega) | assumption)) (cv_sl (by first | rfl | omega | (simp <;> fail) | fail) (by first | rfl | omega | (simp <;> fail) | fail)) | refine frz_agg rfl ?_ | refine frz_c (cv_agg ?_) | exact frzl_nil | refine frzl_cons ?_ ?_ | exact cvl_nil | refine cvl_cons ?_ ?_ | exact cv_rfl | exact cv_nil | exact cv_sl (by first | rfl | omega | (simp <;> fail) | fail) (by first | rfl | omega | (simp <;> fail) | fail) | exact frz_own rfl rfl (by assumption) (by assumption) | exact frz_int (by first | exact w64 (by omega) (by omega) | omega) | exact frz_true (by first | assumption | omega) | exact frz_false (by first | assumption | omega) | exact frz_eq (frz_c cv_rfl) (by first | rfl | (simp <;> fail) | fail))) | exact out_own rfl rfl)
end Go.Proofs.Ytddlgdppfeeplaa
/-
  The laws DiskLimit and DiskPlays (walk).
-/
set_option linter.unusedVariables false
set_option linter.unusedSimpArgs false
namespace Go.Proofs.Ytddlgdppfeeplaa
open Go Go.RowKit Go.Av
set_option maxRecDepth 100000
theorem ok_len {s : Dk} (h : s.ok = true) : s.sy.length + s.pe.length ≤ 131072 ∧ -1 ≤ s.fu := of_decide_eq_true h
theorem dkZ_ok : dkZ.ok = true := rfl
/-- Every operation leaves a disk valid. -/
theorem opD_ok {s s' : Dk} {kd n e : Int} {b : List UInt8} (hs : s.ok = true) (hf : s.fu ≤ 9223372036854775807) (hn : n ≤ 9223372036854775807) (h : opD s kd n b = (s', e)) : s'.ok = true ∧ s'.fu ≤ 9223372036854775807 := by
  obtain ⟨l1, l2⟩ := ok_len hs
  have hz : dkZ.ok = true ∧ dkZ.fu ≤ 9223372036854775807 := ⟨rfl, by decide⟩
  have mk : ∀ t : Dk, t.sy.length + t.pe.length ≤ 131072 → -1 ≤ t.fu → t.ok = true := fun t h1 h2 => decide_eq_true ⟨h1, h2⟩
  unfold opD at h
  split at h
  · unfold opA at h
    rw [if_neg (by simp [hs])] at h
    split at h
    · injection h with h1 h2; subst h1; exact ⟨hs, hf⟩
    · split at h
      · injection h with h1 h2; subst h1; exact hz
      · split at h
        · injection h with h1 h2; subst h1
          refine ⟨mk _ ?_ (by simp), by simp⟩
          simp only [List.length_append, List.length_take]
          omega
        · injection h with h1 h2; subst h1
          refine ⟨mk _ ?_ ?_, ?_⟩
          · simp only [List.length_append]; omega
          · simp only; split <;> omega
          · simp only; split <;> omega
  · split at h
    · unfold opS at h
      rw [if_neg (by simp [hs])] at h
      split at h
      · injection h with h1 h2; subst h1; exact ⟨hs, hf⟩
      · split at h
        · injection h with h1 h2; subst h1; exact ⟨mk _ l1 l2, hf⟩
        · injection h with h1 h2; subst h1
          refine ⟨mk _ ?_ l2, hf⟩
          simp only [List.length_append, List.length_nil]; omega
    · split at h
      · unfold opF at h
        split at h
        · injection h with h1 h2; subst h1; exact hz
        · injection h with h1 h2; subst h1
          exact ⟨mk _ l1 (by simp only; omega), hn⟩
      · split at h
        · unfold opC at h
          rw [if_neg (by simp [hs])] at h
          injection h with h1 h2; subst h1
          refine ⟨mk _ ?_ (by simp), by simp⟩
          simp only [List.length_append, List.length_take, List.length_nil]; omega
        · unfold opT at h
          split at h
          · injection h with h1 h2; subst h1; exact hz
          · split at h
            · injection h with h1 h2; subst h1; exact ⟨hs, hf⟩
            · injection h with h1 h2; subst h1
              refine ⟨mk _ ?_ l2, hf⟩
              simp only [List.length_append, List.length_take, List.length_nil]; omega
attribute [local irreducible] Still Adds AWL AW Drw DrwE EStep AC AWR Weak Frz Src RetK Out InK ItK AsK RdK
attribute [local simp] u8c_take u8c_drop u8c_app u8c_length zc_length lay_len zc_u8
set_option maxHeartbeats 4000000 in
theorem law_limit (x : Int) (b : List UInt8) (n : Nat) (hn : b.length = n) (hm : n ≤ maxLen) : AC Try.prog 3 [iv x, .sl 1 n (u8c b)] (.c (bv true)) [] 0 := by
  have hub : (u8c b).length = n := by rw [u8c_length, hn]
  by_cases b0 : (100 : Int) < (n : Int)
  · refine ac_enter tabOk (sz := 78) Try.func3 rfl (by rw [Try.ntmps3]; rfl) ?_
    repeat' (first
    | ((with_reducible refine aw_seqk ?_); intro K hK hX)
    | ((with_reducible refine isC_reg ?_); refine aw_prune [0, 1, 4, 5, 6, 7, 8, 9] rfl rfl ?_; with_reducible refine aw_region ?_)
    | ((with_reducible refine isC_draw ?_); refine aw_prune [0, 1, 4, 5, 6, 7, 8, 9] rfl rfl ?_; refine aw_drwF [] ?_)
    | ((first | with_reducible refine isA_call ?_ | with_reducible refine isD_call ?_); (first | refine zA ?_ | refine zN ?_ | refine zD ?_); (first | refine c0 (awake32_ok) ?_))
    | refine stA ?_
    | refine stD ?_
    | (refine hK _ _ _ _ ?_; clear hK hX K)
    | (refine hX _ _ _ _ _ (by simp) ?_; clear hK hX K))
    refine retK_mk (by first | exact .inl rfl | exact .inr rfl) (by exact trivial) rfl (ResL.one (ResA.tmp rfl)) (by first | exact out_c (by repeat' (first | exact frz_c cv_rfl | exact frz_c cv_nil | exact frz_ownW rfl rfl (by first | rfl | with_reducible assumption | (simp <;> fail) | omega | (simp <;> omega) | assumption) | exact frz_own rfl rfl rfl (by first | rfl | with_reducible assumption | (simp <;> fail) | omega | (simp <;> omega) | assumption) | exact frz_cv (frz_ownW rfl rfl (by first | rfl | with_reducible assumption | (simp <;> fail) | omega | (simp <;> omega) | assumption)) (cv_sl (by first | rfl | omega | (simp <;> fail) | fail) (by first | rfl | omega | (simp <;> fail) | fail)) | exact frz_cv (frz_own rfl rfl rfl (by first | rfl | with_reducible assumption | (simp <;> fail) | omega | (simp <;> omega) | assumption)) (cv_sl (by first | rfl | omega | (simp <;> fail) | fail) (by first | rfl | omega | (simp <;> fail) | fail)) | refine frz_agg rfl ?_ | refine frz_c (cv_agg ?_) | exact frzl_nil | refine frzl_cons ?_ ?_ | exact cvl_nil | refine cvl_cons ?_ ?_ | exact cv_rfl | exact cv_nil | exact cv_sl (by first | rfl | omega | (simp <;> fail) | fail) (by first | rfl | omega | (simp <;> fail) | fail) | exact frz_own rfl rfl (by assumption) (by assumption) | exact frz_int (by first | exact w64 (by omega) (by omega) | omega) | exact frz_true (by first | assumption | omega) | exact frz_false (by first | assumption | omega) | exact frz_eq (frz_c cv_rfl) (by first | rfl | (simp <;> fail) | fail))) | exact out_own rfl rfl)
  · obtain ⟨r, hr⟩ : ∃ r : Nat, (((BitVec.ofInt 64 x).toNat : Int)).tmod 120 = (r : Int) := ⟨(BitVec.ofInt 64 x).toNat % 120, by rw [r64 (by omega)]; omega⟩
    have hr2 : r < 120 := by
      rw [r64 (by omega)] at hr; omega
    obtain ⟨q, hq⟩ : ∃ q, 131072 - r = q := ⟨_, rfl⟩
    have hq' : (131072 : Int) - (r : Int) = (q : Int) := by omega
    have hz : (List.replicate q (0 : UInt8)).length = q := List.length_replicate
    have h1 := append_ok [] [] (List.replicate q 0) (-1) false 0 0 q rfl rfl hz (by decide) (by decide) (by omega) (by decide) ⟨[], List.replicate q 0, -1, false⟩ 0 0 q (by
      have : Dk.ok ⟨[], [], -1, false⟩ = true := rfl
      unfold opA
      rw [if_neg (by simp [this])]
      simp
      omega) rfl hz
    have hok : Dk.ok ⟨[], List.replicate q 0, -1, false⟩ = true := decide_eq_true ⟨by simp; omega, by simp⟩
    by_cases b1 : (r : Int) < (n : Int)
    · have h2 := append_ok [] (List.replicate q 0) b (-1) false 0 q n rfl hz hn (by decide) (by omega) (by omega) (by decide) dkZ 8 0 0 (by
        unfold opA
        rw [if_neg (by simp [hok])]
        simp
        omega) rfl rfl
      have h3 := same_ok [] [] 0 false 0 0 rfl rfl
      refine ac_enter tabOk (sz := 78) Try.func3 rfl (by rw [Try.ntmps3]; rfl) ?_
      repeat' (first
    | ((with_reducible refine aw_seqk ?_); intro K hK hX)
    | ((with_reducible refine isC_reg ?_); refine aw_prune [0, 1, 4, 5, 6, 7, 8, 9] rfl rfl ?_; with_reducible refine aw_region ?_)
    | ((with_reducible refine isC_draw ?_); refine aw_prune [0, 1, 4, 5, 6, 7, 8, 9] rfl rfl ?_; refine aw_drwE [] ?_)
    | ((first | with_reducible refine isA_mksl ?_ | with_reducible refine isE_mksl ?_); (first | refine wA ?_ | refine wE ?_); (first | refine ew_i (adds_closed (b_make tabOk rfl rfl rfl rfl rfl rfl rfl rfl rfl rfl (by first | with_reducible exact cast_self _ | with_reducible exact cast_lit _ | with_reducible exact cast_add2 _ _ | with_reducible exact cast_addl _ _ | with_reducible exact cast_sub2 (by omega) | with_reducible exact cast_subl (by omega) | with_reducible exact cast_lsub (by omega) | exact nt (by omega) | rfl) (by first | with_reducible exact cast_self _ | with_reducible exact cast_lit _ | with_reducible exact cast_add2 _ _ | with_reducible exact cast_addl _ _ | with_reducible exact cast_sub2 (by omega) | with_reducible exact cast_subl (by omega) | with_reducible exact cast_lsub (by omega) | exact nt (by omega) | rfl) (by first | exact Nat.le_of_ble_eq_true rfl | omega | (simp <;> omega)) (by first | exact Nat.le_of_ble_eq_true rfl | omega | (simp <;> omega)) (by simp only [maxLen]; omega) rfl) (by first | rfl | with_reducible assumption | (simp <;> fail) | omega | (simp <;> omega) | assumption)) ?_))
    | ((first | with_reducible refine isA_call ?_ | with_reducible refine isE_call ?_); (first | refine zA ?_ | refine zN ?_ | refine zE ?_); (first | refine c0 (awake32_ok) ?_ | refine c0 (new_ok) ?_ | refine c0 (h1) ?_ | refine c0 (h2) ?_ | refine c0 (h3) ?_))
    | ((first | ((with_reducible refine isA_any ?_); refine xA ?_) | ((with_reducible refine isEk_any ?_); refine xE ?_)); (first | ((with_reducible refine e_bin ?_); (first | refine ex_i (s_rem (k := .u64) rfl rfl (by decide) hr) ?_ | refine ex_i (s_arit64 rfl rfl rfl ((w64 (by omega) (by omega)).trans hq')) ?_))))
    | refine stA ?_
    | refine stE ?_
    | (refine hK _ _ _ _ ?_; clear hK hX K)
    | (refine hX _ _ _ _ _ (by simp) ?_; clear hK hX K))
      refine retK_mk (by first | exact .inl rfl | exact .inr rfl) (by exact trivial) rfl (ResL.one (ResA.tmp rfl)) (by first | exact out_c (by repeat' (first | exact frz_c cv_rfl | exact frz_c cv_nil | exact frz_ownW rfl rfl (by first | rfl | with_reducible assumption | (simp <;> fail) | omega | (simp <;> omega) | assumption) | exact frz_own rfl rfl rfl (by first | rfl | with_reducible assumption | (simp <;> fail) | omega | (simp <;> omega) | assumption) | exact frz_cv (frz_ownW rfl rfl (by first | rfl | with_reducible assumption | (simp <;> fail) | omega | (simp <;> omega) | assumption)) (cv_sl (by first | rfl | omega | (simp <;> fail) | fail) (by first | rfl | omega | (simp <;> fail) | fail)) | exact frz_cv (frz_own rfl rfl rfl (by first | rfl | with_reducible assumption | (simp <;> fail) | omega | (simp <;> omega) | assumption)) (cv_sl (by first | rfl | omega | (simp <;> fail) | fail) (by first | rfl | omega | (simp <;> fail) | fail)) | refine frz_agg rfl ?_ | refine frz_c (cv_agg ?_) | exact frzl_nil | refine frzl_cons ?_ ?_ | exact cvl_nil | refine cvl_cons ?_ ?_ | exact cv_rfl | exact cv_nil | exact cv_sl (by first | rfl | omega | (simp <;> fail) | fail) (by first | rfl | omega | (simp <;> fail) | fail) | exact frz_own rfl rfl (by assumption) (by assumption) | exact frz_int (by first | exact w64 (by omega) (by omega) | omega) | exact frz_true (by first | assumption | omega) | exact frz_false (by first | assumption | omega) | exact frz_eq (frz_c cv_rfl) (by first | rfl | (simp <;> fail) | fail))) | exact out_own rfl rfl)
    · have hl : (List.replicate q (0 : UInt8) ++ b).length = q + n := by rw [List.length_append, hz, hn]
      have h2 := append_ok [] (List.replicate q 0) b (-1) false 0 q n rfl hz hn (by decide) (by omega) (by omega) (by decide) ⟨[], List.replicate q 0 ++ b, -1, false⟩ 0 0 (q + n) (by
        unfold opA
        rw [if_neg (by simp [hok])]
        simp
        omega) rfl hl
      refine ac_enter tabOk (sz := 78) Try.func3 rfl (by rw [Try.ntmps3]; rfl) ?_
      repeat' (first
    | ((with_reducible refine aw_seqk ?_); intro K hK hX)
    | ((with_reducible refine isC_reg ?_); refine aw_prune [0, 1, 4, 5, 6, 7, 8, 9] rfl rfl ?_; with_reducible refine aw_region ?_)
    | ((with_reducible refine isC_draw ?_); refine aw_prune [0, 1, 4, 5, 6, 7, 8, 9] rfl rfl ?_; refine aw_drwE [] ?_)
    | ((first | with_reducible refine isA_mksl ?_ | with_reducible refine isE_mksl ?_); (first | refine wA ?_ | refine wE ?_); (first | refine ew_i (adds_closed (b_make tabOk rfl rfl rfl rfl rfl rfl rfl rfl rfl rfl (by first | with_reducible exact cast_self _ | with_reducible exact cast_lit _ | with_reducible exact cast_add2 _ _ | with_reducible exact cast_addl _ _ | with_reducible exact cast_sub2 (by omega) | with_reducible exact cast_subl (by omega) | with_reducible exact cast_lsub (by omega) | exact nt (by omega) | rfl) (by first | with_reducible exact cast_self _ | with_reducible exact cast_lit _ | with_reducible exact cast_add2 _ _ | with_reducible exact cast_addl _ _ | with_reducible exact cast_sub2 (by omega) | with_reducible exact cast_subl (by omega) | with_reducible exact cast_lsub (by omega) | exact nt (by omega) | rfl) (by first | exact Nat.le_of_ble_eq_true rfl | omega | (simp <;> omega)) (by first | exact Nat.le_of_ble_eq_true rfl | omega | (simp <;> omega)) (by simp only [maxLen]; omega) rfl) (by first | rfl | with_reducible assumption | (simp <;> fail) | omega | (simp <;> omega) | assumption)) ?_))
    | ((first | with_reducible refine isA_call ?_ | with_reducible refine isE_call ?_); (first | refine zA ?_ | refine zN ?_ | refine zE ?_); (first | refine c0 (awake32_ok) ?_ | refine c0 (new_ok) ?_ | refine c0 (h1) ?_ | refine c0 (h2) ?_ | refine c0 (h3) ?_))
    | ((first | ((with_reducible refine isA_any ?_); refine xA ?_) | ((with_reducible refine isEk_any ?_); refine xE ?_)); (first | ((with_reducible refine e_bin ?_); (first | refine ex_i (s_rem (k := .u64) rfl rfl (by decide) hr) ?_ | refine ex_i (s_arit64 rfl rfl rfl ((w64 (by omega) (by omega)).trans hq')) ?_))))
    | refine stA ?_
    | refine stE ?_
    | (refine hK _ _ _ _ ?_; clear hK hX K)
    | (refine hX _ _ _ _ _ (by simp) ?_; clear hK hX K))
      refine retK_mk (by first | exact .inl rfl | exact .inr rfl) (by exact trivial) rfl (ResL.one (ResA.tmp rfl)) (by first | exact out_c (by repeat' (first | exact frz_c cv_rfl | exact frz_c cv_nil | exact frz_ownW rfl rfl (by first | rfl | with_reducible assumption | (simp <;> fail) | omega | (simp <;> omega) | assumption) | exact frz_own rfl rfl rfl (by first | rfl | with_reducible assumption | (simp <;> fail) | omega | (simp <;> omega) | assumption) | exact frz_cv (frz_ownW rfl rfl (by first | rfl | with_reducible assumption | (simp <;> fail) | omega | (simp <;> omega) | assumption)) (cv_sl (by first | rfl | omega | (simp <;> fail) | fail) (by first | rfl | omega | (simp <;> fail) | fail)) | exact frz_cv (frz_own rfl rfl rfl (by first | rfl | with_reducible assumption | (simp <;> fail) | omega | (simp <;> omega) | assumption)) (cv_sl (by first | rfl | omega | (simp <;> fail) | fail) (by first | rfl | omega | (simp <;> fail) | fail)) | refine frz_agg rfl ?_ | refine frz_c (cv_agg ?_) | exact frzl_nil | refine frzl_cons ?_ ?_ | exact cvl_nil | refine cvl_cons ?_ ?_ | exact cv_rfl | exact cv_nil | exact cv_sl (by first | rfl | omega | (simp <;> fail) | fail) (by first | rfl | omega | (simp <;> fail) | fail) | exact frz_own rfl rfl (by assumption) (by assumption) | exact frz_int (by first | exact w64 (by omega) (by omega) | omega) | exact frz_true (by first | assumption | omega) | exact frz_false (by first | assumption | omega) | exact frz_eq (frz_c cv_rfl) (by first | rfl | (simp <;> fail) | fail))) | exact out_own rfl rfl)
end Go.Proofs.Ytddlgdppfeeplaa
