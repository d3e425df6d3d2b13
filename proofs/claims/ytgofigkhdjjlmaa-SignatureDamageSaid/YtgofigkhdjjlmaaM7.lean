/-
  Joined texts: E3 E12 E13 DRg. Lemmas; no statement of a law.
-/
import Derived.Test.YtgofigkhdjjlmaaM1
import Derived.Test.YtgofigkhdjjlmaaM2
import Derived.Test.YtgofigkhdjjlmaaM3
import Derived.Test.YtgofigkhdjjlmaaM4
import Derived.Test.YtgofigkhdjjlmaaM5
import Derived.Test.YtgofigkhdjjlmaaM6
/-
  Apply and Verify of trees (walk), as the reference and as the program have them.
-/
set_option linter.unusedVariables false
set_option linter.unusedSimpArgs false
namespace Go.Proofs.Ytgofigkhdjjlmaa
open Go Go.RowKit Go.Av
set_option maxRecDepth 100000
attribute [local irreducible] Still Adds AWL AW Drw DrwE EStep AC AWR Weak Frz Src RetK Out InK permute
attribute [local simp] u8c_take u8c_drop u8c_app
theorem apply_idle : Idle Try.prog 101 2 := by
  intro us w hl
  obtain ⟨u0, u1, rfl⟩ : ∃ u0 u1, us = [u0, u1] := by
    match us, hl with | [u0, u1], _ => exact ⟨u0, u1, rfl⟩
  refine callsD_of_wpS Try.func101 rfl fun c₀ cs hu => ?_
  apply wpS_seq
  apply wpS_region
  simp [wpOpsS, go_sem, recoverD, hu, Try.ntmps101, Exit.thenS]
  refine wpS_cond (t := false) (by simp [Act.eval, Array.replicate]) ?_
  simp only [Bool.false_eq_true, if_false]
  refine wpS_of_wp (wp_skip ?_)
  cases c₀
  simp_all [bodyPostS, results, Try.results101]
theorem apply_idle_b : Body Try.prog 101 := by unfold Body; kernel_rfl
theorem bad_true {i c : Int} (h : c < 1 ∨ 4096 < c ∨ i < 0 ∨ c ≤ i) : badP i c = true := by
  simp only [badP, Bool.or_eq_true, decide_eq_true_eq]
  omega
theorem appP_bad {leaf : List UInt8} {i c : Int} {S : List (List UInt8)} (h : c < 1 ∨ 4096 < c ∨ i < 0 ∨ c ≤ i) : appP leaf i c S = (zero32, 1) := by unfold appP; rw [if_pos (bad_true h)]
def finP (C : Nat) (S : List (List UInt8)) : Option (List UInt8 × Nat) → List UInt8 × Nat
  | none => (zero32, 1)
  | some (x, u) => if u = S.length then (sealD x C, 0) else (zero32, 1)
theorem appP_good {leaf : List UInt8} {I C : Nat} {S : List (List UInt8)} (h : ¬ ((C : Int) < 1 ∨ 4096 < (C : Int) ∨ (I : Int) < 0 ∨ (C : Int) ≤ (I : Int))) : appP leaf I C S = finP C S (apl S C I 0 (nodeD leaf)) := by
  unfold appP
  rw [if_neg (by simp only [badP, Bool.or_eq_true, decide_eq_true_eq]; omega)]
  simp only [Int.toNat_natCast]
  cases apl S C I 0 (nodeD leaf) with
  | none => rfl
  | some p => rfl
abbrev apF : FuncId := 101
theorem pairJ_ok (x y : List UInt8) (hx : x.length = 32) (hy : y.length = 32) : AC Try.prog 42 [wv 381#64, .agg (u8c x), .agg (u8c y)] (.c (.agg (u8c (joinD x y)))) [] 0 := pair_ok 381#64 x y hx hy
set_option maxHeartbeats 4000000 in
theorem rapply_ok (leaf : List UInt8) (i c : Int) (S : List (List UInt8)) (m : Nat) (hl : leaf.length = 32) (hS : all32 S) (hm : S.length = m) (hmm : m ≤ 100000) : AC Try.prog 60 [.agg (u8c leaf), .agg [iv i, iv c, .sl 32 m (dc S)]] (.tup [.c (.agg (u8c (appP leaf i c S).1)), .c (iv (appP leaf i c S).2)]) [] 0 := by
  have hul : (u8c leaf).length = 32 := by rw [u8c_length, hl]
  have hun : (u8c (nodeD leaf)).length = 32 := by rw [u8c_length, nodeD_length]
  by_cases hbad : c < 1 ∨ 4096 < c ∨ i < 0 ∨ c ≤ i
  · skip
    rw [appP_bad hbad]
    have hbad' : c < 1 ∨ 4096 < c ∨ i < 0 ∨ c ≤ i := hbad
    clear hbad
    by_cases b1 : c < 1
    · clear hbad'
      refine ac_enter tabOk (sz := 88) Try.func60 rfl (by rw [Try.ntmps60]; rfl) ?_
      repeat' (first
    | ((with_reducible refine aw_seqk ?_); intro K hK hX)
    | ((with_reducible refine isC_reg ?_); refine aw_prune [0, 1, 2, 3, 4, 5, 6, 7, 8, 9] rfl rfl ?_; with_reducible refine aw_region ?_)
    | ((with_reducible refine isC_draw ?_); refine aw_prune [0, 1, 2, 3, 4, 5, 6, 7, 8, 9] rfl rfl ?_; refine aw_drwF [] ?_)
    | refine stA ?_
    | refine stD ?_
    | (refine hK _ _ _ _ ?_; clear hK hX K)
    | (refine hX _ _ _ _ _ (by simp) ?_; clear hK hX K))
      refine retK_mk (by first | exact .inl rfl | exact .inr rfl) (by exact trivial) rfl (ResL.two (by first | exact ResA.one rfl rfl rfl rfl rfl | exact ResA.agg rfl rfl rfl rfl rfl (by first | exact IsAgg.closed rfl rfl | exact IsAgg.mixed _) | exact ResA.aggr rfl rfl rfl rfl (by first | rfl | with_reducible assumption | (simp <;> fail) | omega | (simp; omega) | assumption)) (ResA.tmp rfl)) (out_t (frzl_cons (by first | exact frz_c cv_rfl | exact frz_c cv_nil | exact frz_ownW rfl rfl (by first | rfl | with_reducible assumption | (simp <;> fail) | omega | (simp; omega) | assumption) | exact frz_eq (frz_c cv_rfl) (by first | rfl | (simp <;> fail) | fail)) (frzl_cons (by first | exact frz_c cv_rfl | exact frz_c cv_nil | exact frz_ownW rfl rfl (by first | rfl | with_reducible assumption | (simp <;> fail) | omega | (simp; omega) | assumption) | exact frz_eq (frz_c cv_rfl) (by first | rfl | (simp <;> fail) | fail)) frzl_nil)))
    · by_cases b2 : 4096 < c
      · clear hbad'
        refine ac_enter tabOk (sz := 88) Try.func60 rfl (by rw [Try.ntmps60]; rfl) ?_
        repeat' (first
    | ((with_reducible refine aw_seqk ?_); intro K hK hX)
    | ((with_reducible refine isC_reg ?_); refine aw_prune [0, 1, 2, 3, 4, 5, 6, 7, 8, 9] rfl rfl ?_; with_reducible refine aw_region ?_)
    | ((with_reducible refine isC_draw ?_); refine aw_prune [0, 1, 2, 3, 4, 5, 6, 7, 8, 9] rfl rfl ?_; refine aw_drwF [] ?_)
    | refine stA ?_
    | refine stD ?_
    | (refine hK _ _ _ _ ?_; clear hK hX K)
    | (refine hX _ _ _ _ _ (by simp) ?_; clear hK hX K))
        refine retK_mk (by first | exact .inl rfl | exact .inr rfl) (by exact trivial) rfl (ResL.two (by first | exact ResA.one rfl rfl rfl rfl rfl | exact ResA.agg rfl rfl rfl rfl rfl (by first | exact IsAgg.closed rfl rfl | exact IsAgg.mixed _) | exact ResA.aggr rfl rfl rfl rfl (by first | rfl | with_reducible assumption | (simp <;> fail) | omega | (simp; omega) | assumption)) (ResA.tmp rfl)) (out_t (frzl_cons (by first | exact frz_c cv_rfl | exact frz_c cv_nil | exact frz_ownW rfl rfl (by first | rfl | with_reducible assumption | (simp <;> fail) | omega | (simp; omega) | assumption) | exact frz_eq (frz_c cv_rfl) (by first | rfl | (simp <;> fail) | fail)) (frzl_cons (by first | exact frz_c cv_rfl | exact frz_c cv_nil | exact frz_ownW rfl rfl (by first | rfl | with_reducible assumption | (simp <;> fail) | omega | (simp; omega) | assumption) | exact frz_eq (frz_c cv_rfl) (by first | rfl | (simp <;> fail) | fail)) frzl_nil)))
      · by_cases b3 : i < 0
        · clear hbad'
          refine ac_enter tabOk (sz := 88) Try.func60 rfl (by rw [Try.ntmps60]; rfl) ?_
          repeat' (first
    | ((with_reducible refine aw_seqk ?_); intro K hK hX)
    | ((with_reducible refine isC_reg ?_); refine aw_prune [0, 1, 2, 3, 4, 5, 6, 7, 8, 9] rfl rfl ?_; with_reducible refine aw_region ?_)
    | ((with_reducible refine isC_draw ?_); refine aw_prune [0, 1, 2, 3, 4, 5, 6, 7, 8, 9] rfl rfl ?_; refine aw_drwF [] ?_)
    | refine stA ?_
    | refine stD ?_
    | (refine hK _ _ _ _ ?_; clear hK hX K)
    | (refine hX _ _ _ _ _ (by simp) ?_; clear hK hX K))
          refine retK_mk (by first | exact .inl rfl | exact .inr rfl) (by exact trivial) rfl (ResL.two (by first | exact ResA.one rfl rfl rfl rfl rfl | exact ResA.agg rfl rfl rfl rfl rfl (by first | exact IsAgg.closed rfl rfl | exact IsAgg.mixed _) | exact ResA.aggr rfl rfl rfl rfl (by first | rfl | with_reducible assumption | (simp <;> fail) | omega | (simp; omega) | assumption)) (ResA.tmp rfl)) (out_t (frzl_cons (by first | exact frz_c cv_rfl | exact frz_c cv_nil | exact frz_ownW rfl rfl (by first | rfl | with_reducible assumption | (simp <;> fail) | omega | (simp; omega) | assumption) | exact frz_eq (frz_c cv_rfl) (by first | rfl | (simp <;> fail) | fail)) (frzl_cons (by first | exact frz_c cv_rfl | exact frz_c cv_nil | exact frz_ownW rfl rfl (by first | rfl | with_reducible assumption | (simp <;> fail) | omega | (simp; omega) | assumption) | exact frz_eq (frz_c cv_rfl) (by first | rfl | (simp <;> fail) | fail)) frzl_nil)))
        · have b4 : c ≤ i := by omega
          clear hbad'
          refine ac_enter tabOk (sz := 88) Try.func60 rfl (by rw [Try.ntmps60]; rfl) ?_
          repeat' (first
    | ((with_reducible refine aw_seqk ?_); intro K hK hX)
    | ((with_reducible refine isC_reg ?_); refine aw_prune [0, 1, 2, 3, 4, 5, 6, 7, 8, 9] rfl rfl ?_; with_reducible refine aw_region ?_)
    | ((with_reducible refine isC_draw ?_); refine aw_prune [0, 1, 2, 3, 4, 5, 6, 7, 8, 9] rfl rfl ?_; refine aw_drwF [] ?_)
    | refine stA ?_
    | refine stD ?_
    | (refine hK _ _ _ _ ?_; clear hK hX K)
    | (refine hX _ _ _ _ _ (by simp) ?_; clear hK hX K))
          refine retK_mk (by first | exact .inl rfl | exact .inr rfl) (by exact trivial) rfl (ResL.two (by first | exact ResA.one rfl rfl rfl rfl rfl | exact ResA.agg rfl rfl rfl rfl rfl (by first | exact IsAgg.closed rfl rfl | exact IsAgg.mixed _) | exact ResA.aggr rfl rfl rfl rfl (by first | rfl | with_reducible assumption | (simp <;> fail) | omega | (simp; omega) | assumption)) (ResA.tmp rfl)) (out_t (frzl_cons (by first | exact frz_c cv_rfl | exact frz_c cv_nil | exact frz_ownW rfl rfl (by first | rfl | with_reducible assumption | (simp <;> fail) | omega | (simp; omega) | assumption) | exact frz_eq (frz_c cv_rfl) (by first | rfl | (simp <;> fail) | fail)) (frzl_cons (by first | exact frz_c cv_rfl | exact frz_c cv_nil | exact frz_ownW rfl rfl (by first | rfl | with_reducible assumption | (simp <;> fail) | omega | (simp; omega) | assumption) | exact frz_eq (frz_c cv_rfl) (by first | rfl | (simp <;> fail) | fail)) frzl_nil)))
  · skip
    have hnb : ¬ (c < 1 ∨ 4096 < c ∨ i < 0 ∨ c ≤ i) := hbad
    obtain ⟨C, rfl⟩ : ∃ C : Nat, c = C := ⟨c.toNat, by omega⟩
    obtain ⟨I, rfl⟩ : ∃ I : Nat, i = I := ⟨i.toNat, by omega⟩
    generalize hap : appP leaf (I : Int) (C : Int) S = r
    rw [appP_good hbad] at hap
    have hC1 : 1 ≤ C := by omega
    have hC2 : C ≤ 4096 := by omega
    have hIC : I < C := by omega
    clear hnb hbad
    have g1 : ¬ ((C : Int) < 1) := by omega
    have g2 : ¬ (4096 < (C : Int)) := by omega
    have g3 : ¬ ((I : Int) < 0) := by omega
    have g4 : ¬ ((C : Int) ≤ (I : Int)) := by omega
    obtain ⟨D, e⟩ := r
    dsimp only
    generalize hR : apl S C I 0 (nodeD leaf) = R at hap
    refine ac_enter tabOk (sz := 88) Try.func60 rfl (by rw [Try.ntmps60]; rfl) ?_
    repeat' (first
    | ((with_reducible refine aw_seqk ?_); intro K hK hX)
    | ((with_reducible refine isC_reg ?_); refine aw_prune [0, 1, 2, 3, 4, 5, 6, 7, 8, 9] rfl rfl ?_; with_reducible refine aw_region ?_)
    | ((with_reducible refine isC_draw ?_); refine aw_prune [0, 1, 2, 3, 4, 5, 6, 7, 8, 9] rfl rfl ?_; refine aw_drwE [] ?_)
    | ((first | with_reducible refine isA_call ?_ | with_reducible refine isE_call ?_); (first | refine zA ?_ | refine zN ?_ | refine zE ?_); (first | refine c0 (rnode_ok leaf hl) ?_))
    | refine stA ?_
    | refine stE ?_
    | (refine hK _ _ _ _ ?_; clear hK hX K)
    | (refine hX _ _ _ _ _ (by simp) ?_; clear hK hX K))
    refine aw_loopk 4 (fun p : List UInt8 × Nat × Nat × Nat => [(3, .ref 1 0), (4, .ref 2 0), (5, .c (iv 0)), (6, .ref 3 0), (7, .c (iv p.2.1)), (8, .c (iv p.2.2.1)), (9, .c (iv p.2.2.2))]) (fun p => [(1, .blk 54 [.c (iv I), .c (iv C), .c (.sl 32 m (dc S))]), (2, .row 35 z32), (3, .row 35 (u8c p.1))]) [] (fun p => p.1.length = 32 ∧ p.2.2.1 < p.2.2.2 ∧ p.2.2.2 ≤ 4096 ∧ p.2.1 ≤ m ∧ apl S p.2.2.2 p.2.2.1 p.2.1 p.1 = R) (fun p => p.2.2.2) (nodeD leaf, 0, I, C) ⟨nodeD_length _, by dsimp only; omega, by dsimp only; omega, by dsimp only; omega, hR⟩ weakA ?_
    rintro ⟨x, u, j, q⟩ ⟨hx, hj, hq, hu, ha⟩ K hK hX
    dsimp only at hx hj hq hu ha hK ⊢
    have hux : (u8c x).length = 32 := by rw [u8c_length, hx]
    by_cases hq1 : q ≤ 1
    · rw [apl_end hq1] at ha
      rw [← ha] at hap
      by_cases hum : u = m
      · obtain ⟨hD, hE⟩ : sealD x C = D ∧ 0 = e := by simpa [finP, hum, hm] using hap
        have hus : (u8c (sealD x C)).length = 32 := by rw [u8c_length, sealD_length]
        repeat' (first
    | ((with_reducible refine aw_seqk ?_); intro K hK hX)
    | ((with_reducible refine isC_reg ?_); refine aw_prune [0, 1, 2, 3, 4, 5, 6, 7, 8, 9] rfl rfl ?_; with_reducible refine aw_region ?_)
    | ((with_reducible refine isC_draw ?_); refine aw_prune [0, 1, 2, 3, 4, 5, 6, 7, 8, 9] rfl rfl ?_; refine aw_drwF [] ?_)
    | ((first | with_reducible refine isA_call ?_ | with_reducible refine isD_call ?_); (first | refine zA ?_ | refine zN ?_ | refine zD ?_); (first | refine c0 (rroot_ok x C hx (by omega)) ?_))
    | refine stA ?_
    | refine stD ?_
    | (refine hK _ _ _ _ ?_; clear hK hX K)
    | (refine hX _ _ _ _ _ (by simp) ?_; clear hK hX K))
        rw [← hD, ← hE]
        refine retK_mk (by first | exact .inl rfl | exact .inr rfl) (by exact trivial) rfl (ResL.two (by first | exact ResA.one rfl rfl rfl rfl rfl | exact ResA.agg rfl rfl rfl rfl rfl (by first | exact IsAgg.closed rfl rfl | exact IsAgg.mixed _) | exact ResA.aggr rfl rfl rfl rfl (by first | rfl | with_reducible assumption | (simp <;> fail) | omega | (simp; omega) | assumption)) (ResA.tmp rfl)) (out_t (frzl_cons (by first | exact frz_c cv_rfl | exact frz_c cv_nil | exact frz_ownW rfl rfl (by first | rfl | with_reducible assumption | (simp <;> fail) | omega | (simp; omega) | assumption) | exact frz_eq (frz_c cv_rfl) (by first | rfl | (simp <;> fail) | fail)) (frzl_cons (by first | exact frz_c cv_rfl | exact frz_c cv_nil | exact frz_ownW rfl rfl (by first | rfl | with_reducible assumption | (simp <;> fail) | omega | (simp; omega) | assumption) | exact frz_eq (frz_c cv_rfl) (by first | rfl | (simp <;> fail) | fail)) frzl_nil)))
      · obtain ⟨hD, hE⟩ : zero32 = D ∧ 1 = e := by simpa [finP, hum, hm] using hap
        repeat' (first
    | ((with_reducible refine aw_seqk ?_); intro K hK hX)
    | ((with_reducible refine isC_reg ?_); refine aw_prune [0, 1, 2, 3, 4, 5, 6, 7, 8, 9] rfl rfl ?_; with_reducible refine aw_region ?_)
    | ((with_reducible refine isC_draw ?_); refine aw_prune [0, 1, 2, 3, 4, 5, 6, 7, 8, 9] rfl rfl ?_; refine aw_drwF [] ?_)
    | refine stA ?_
    | refine stD ?_
    | (refine hK _ _ _ _ ?_; clear hK hX K)
    | (refine hX _ _ _ _ _ (by simp) ?_; clear hK hX K))
        rw [← hD, ← hE]
        refine retK_mk (by first | exact .inl rfl | exact .inr rfl) (by exact trivial) rfl (ResL.two (by first | exact ResA.one rfl rfl rfl rfl rfl | exact ResA.agg rfl rfl rfl rfl rfl (by first | exact IsAgg.closed rfl rfl | exact IsAgg.mixed _) | exact ResA.aggr rfl rfl rfl rfl (by first | rfl | with_reducible assumption | (simp <;> fail) | omega | (simp; omega) | assumption)) (ResA.tmp rfl)) (out_t (frzl_cons (by first | exact frz_c cv_rfl | exact frz_c cv_nil | exact frz_ownW rfl rfl (by first | rfl | with_reducible assumption | (simp <;> fail) | omega | (simp; omega) | assumption) | exact frz_eq (frz_c cv_rfl) (by first | rfl | (simp <;> fail) | fail)) (frzl_cons (by first | exact frz_c cv_rfl | exact frz_c cv_nil | exact frz_ownW rfl rfl (by first | rfl | with_reducible assumption | (simp <;> fail) | omega | (simp; omega) | assumption) | exact frz_eq (frz_c cv_rfl) (by first | rfl | (simp <;> fail) | fail)) frzl_nil)))
    · rcases Nat.mod_two_eq_zero_or_one j with hp | hp
      · by_cases h3 : j + 1 < q
        · by_cases hlt : u < m
          · have hd := getD32 hS u (by omega)
            have hud : (u8c (S.getD u [])).length = 32 := by rw [u8c_length, hd]
            rw [apl_even hq1 hp h3 (by omega)] at ha
            have huj : (u8c (joinD x (S.getD u []))).length = 32 := by rw [u8c_length, joinD_length]
            have hjo := rjoin_ok x (S.getD u []) hx hd
            repeat' (first
    | ((with_reducible refine aw_seqk ?_); intro K hK hX)
    | ((with_reducible refine isC_reg ?_); refine aw_prune [0, 1, 2, 3, 4, 5, 6, 7, 8, 9] rfl rfl ?_; with_reducible refine aw_region ?_)
    | ((with_reducible refine isC_draw ?_); refine aw_prune [0, 1, 2, 3, 4, 5, 6, 7, 8, 9] rfl rfl ?_; refine aw_drwF [] ?_)
    | ((first | with_reducible refine isA_call ?_ | with_reducible refine isD_call ?_); (first | refine zA ?_ | refine zN ?_ | refine zD ?_); (first | refine c0 (hjo) ?_))
    | ((first | ((with_reducible refine isA_any ?_); refine xA ?_) | ((with_reducible refine isDk_any ?_); refine xD ?_)); (first | ((with_reducible refine e_bin ?_); (first | refine ex_i (s_xor1 (b := j) (c := j + 1) (by omega) (if_pos hp) rfl rfl) ?_)) | ((with_reducible refine e_load ?_); (first | refine ex_i (s_loadAr tabOk rfl rfl rfl rfl (by first | exact dig_at hS u (by omega) | exact whole0 (by first | rfl | omega) | rfl) (by first | rfl | with_reducible assumption | (simp <;> fail) | omega | (simp; omega) | assumption)) ?_ | refine ex_i (s_loadAi tabOk rfl rfl rfl (by first | exact dig_at hS u (by omega) | exact whole0 (by first | rfl | omega) | rfl) (by first | rfl | with_reducible assumption | (simp <;> fail) | omega | (simp; omega) | assumption)) ?_)) | ((with_reducible refine e_slice ?_); (first | refine ex_i (s_slArri tabOk rfl rfl rfl rfl (by first | exact Bd.no | exact Bd.yes rfl (by first | with_reducible exact cast_self _ | with_reducible exact cast_lit _ | exact nt (by omega) | rfl)) (by first | exact Bd.no | exact Bd.yes rfl (by first | with_reducible exact cast_self _ | with_reducible exact cast_lit _ | exact nt (by omega) | rfl)) (by first | exact Nat.le_of_ble_eq_true rfl | omega | (simp; omega)) (by first | exact Nat.le_of_ble_eq_true rfl | omega | (simp; omega)) (by decide) (by first | exact dig_at hS u (by omega) | exact whole0 (by first | rfl | omega) | rfl) (by first | rfl | with_reducible assumption | (simp <;> fail) | omega | (simp; omega) | assumption)) ?_))))
    | refine stA ?_
    | refine stD ?_
    | (refine hK _ _ _ _ ?_; clear hK hX K)
    | (refine hX _ _ _ _ _ (by simp) ?_; clear hK hX K))
            exact ⟨(joinD x (S.getD u []), u + 1, j / 2, (q + 1) / 2), ⟨joinD_length _ _, by dsimp only; omega, by dsimp only; omega, by dsimp only; omega, ha⟩, by dsimp only; omega, weakA⟩
          · rw [apl_out hq1 (.inr h3) (by omega)] at ha
            rw [← ha] at hap
            obtain ⟨hD, hE⟩ : zero32 = D ∧ 1 = e := by simpa [finP] using hap
            repeat' (first
    | ((with_reducible refine aw_seqk ?_); intro K hK hX)
    | ((with_reducible refine isC_reg ?_); refine aw_prune [0, 1, 2, 3, 4, 5, 6, 7, 8, 9] rfl rfl ?_; with_reducible refine aw_region ?_)
    | ((with_reducible refine isC_draw ?_); refine aw_prune [0, 1, 2, 3, 4, 5, 6, 7, 8, 9] rfl rfl ?_; refine aw_drwF [] ?_)
    | ((first | ((with_reducible refine isA_any ?_); refine xA ?_) | ((with_reducible refine isDk_any ?_); refine xD ?_)); (first | ((with_reducible refine e_bin ?_); (first | refine ex_i (s_xor1 (b := j) (c := j + 1) (by omega) (if_pos hp) rfl rfl) ?_))))
    | refine stA ?_
    | refine stD ?_
    | (refine hK _ _ _ _ ?_; clear hK hX K)
    | (refine hX _ _ _ _ _ (by simp) ?_; clear hK hX K))
            rw [← hD, ← hE]
            refine retK_mk (by first | exact .inl rfl | exact .inr rfl) (by exact trivial) rfl (ResL.two (by first | exact ResA.one rfl rfl rfl rfl rfl | exact ResA.agg rfl rfl rfl rfl rfl (by first | exact IsAgg.closed rfl rfl | exact IsAgg.mixed _) | exact ResA.aggr rfl rfl rfl rfl (by first | rfl | with_reducible assumption | (simp <;> fail) | omega | (simp; omega) | assumption)) (ResA.tmp rfl)) (out_t (frzl_cons (by first | exact frz_c cv_rfl | exact frz_c cv_nil | exact frz_ownW rfl rfl (by first | rfl | with_reducible assumption | (simp <;> fail) | omega | (simp; omega) | assumption) | exact frz_eq (frz_c cv_rfl) (by first | rfl | (simp <;> fail) | fail)) (frzl_cons (by first | exact frz_c cv_rfl | exact frz_c cv_nil | exact frz_ownW rfl rfl (by first | rfl | with_reducible assumption | (simp <;> fail) | omega | (simp; omega) | assumption) | exact frz_eq (frz_c cv_rfl) (by first | rfl | (simp <;> fail) | fail)) frzl_nil)))
        · rw [apl_lone hq1 hp h3] at ha
          repeat' (first
    | ((with_reducible refine aw_seqk ?_); intro K hK hX)
    | ((with_reducible refine isC_reg ?_); refine aw_prune [0, 1, 2, 3, 4, 5, 6, 7, 8, 9] rfl rfl ?_; with_reducible refine aw_region ?_)
    | ((with_reducible refine isC_draw ?_); refine aw_prune [0, 1, 2, 3, 4, 5, 6, 7, 8, 9] rfl rfl ?_; refine aw_drwF [] ?_)
    | ((first | ((with_reducible refine isA_any ?_); refine xA ?_) | ((with_reducible refine isDk_any ?_); refine xD ?_)); (first | ((with_reducible refine e_bin ?_); (first | refine ex_i (s_xor1 (b := j) (c := j + 1) (by omega) (if_pos hp) rfl rfl) ?_))))
    | refine stA ?_
    | refine stD ?_
    | (refine hK _ _ _ _ ?_; clear hK hX K)
    | (refine hX _ _ _ _ _ (by simp) ?_; clear hK hX K))
          exact ⟨(x, u, j / 2, (q + 1) / 2), ⟨hx, by dsimp only; omega, by dsimp only; omega, by dsimp only; omega, ha⟩, by dsimp only; omega, weakA⟩
      · by_cases hlt : u < m
        · have hd := getD32 hS u (by omega)
          have hud : (u8c (S.getD u [])).length = 32 := by rw [u8c_length, hd]
          rw [apl_odd hq1 hp (by omega)] at ha
          have huj : (u8c (joinD (S.getD u []) x)).length = 32 := by rw [u8c_length, joinD_length]
          have hjo := rjoin_ok (S.getD u []) x hd hx
          repeat' (first
    | ((with_reducible refine aw_seqk ?_); intro K hK hX)
    | ((with_reducible refine isC_reg ?_); refine aw_prune [0, 1, 2, 3, 4, 5, 6, 7, 8, 9] rfl rfl ?_; with_reducible refine aw_region ?_)
    | ((with_reducible refine isC_draw ?_); refine aw_prune [0, 1, 2, 3, 4, 5, 6, 7, 8, 9] rfl rfl ?_; refine aw_drwF [] ?_)
    | ((first | with_reducible refine isA_call ?_ | with_reducible refine isD_call ?_); (first | refine zA ?_ | refine zN ?_ | refine zD ?_); (first | refine c0 (hjo) ?_))
    | ((first | ((with_reducible refine isA_any ?_); refine xA ?_) | ((with_reducible refine isDk_any ?_); refine xD ?_)); (first | ((with_reducible refine e_bin ?_); (first | refine ex_i (s_xor1 (b := j) (c := j - 1) (by omega) (if_neg (by omega)) rfl rfl) ?_)) | ((with_reducible refine e_load ?_); (first | refine ex_i (s_loadAr tabOk rfl rfl rfl rfl (by first | exact dig_at hS u (by omega) | exact whole0 (by first | rfl | omega) | rfl) (by first | rfl | with_reducible assumption | (simp <;> fail) | omega | (simp; omega) | assumption)) ?_ | refine ex_i (s_loadAi tabOk rfl rfl rfl (by first | exact dig_at hS u (by omega) | exact whole0 (by first | rfl | omega) | rfl) (by first | rfl | with_reducible assumption | (simp <;> fail) | omega | (simp; omega) | assumption)) ?_)) | ((with_reducible refine e_slice ?_); (first | refine ex_i (s_slArri tabOk rfl rfl rfl rfl (by first | exact Bd.no | exact Bd.yes rfl (by first | with_reducible exact cast_self _ | with_reducible exact cast_lit _ | exact nt (by omega) | rfl)) (by first | exact Bd.no | exact Bd.yes rfl (by first | with_reducible exact cast_self _ | with_reducible exact cast_lit _ | exact nt (by omega) | rfl)) (by first | exact Nat.le_of_ble_eq_true rfl | omega | (simp; omega)) (by first | exact Nat.le_of_ble_eq_true rfl | omega | (simp; omega)) (by decide) (by first | exact dig_at hS u (by omega) | exact whole0 (by first | rfl | omega) | rfl) (by first | rfl | with_reducible assumption | (simp <;> fail) | omega | (simp; omega) | assumption)) ?_))))
    | refine stA ?_
    | refine stD ?_
    | (refine hK _ _ _ _ ?_; clear hK hX K)
    | (refine hX _ _ _ _ _ (by simp) ?_; clear hK hX K))
          exact ⟨(joinD (S.getD u []) x, u + 1, j / 2, (q + 1) / 2), ⟨joinD_length _ _, by dsimp only; omega, by dsimp only; omega, by dsimp only; omega, ha⟩, by dsimp only; omega, weakA⟩
        · rw [apl_out hq1 (.inl hp) (by omega)] at ha
          rw [← ha] at hap
          obtain ⟨hD, hE⟩ : zero32 = D ∧ 1 = e := by simpa [finP] using hap
          repeat' (first
    | ((with_reducible refine aw_seqk ?_); intro K hK hX)
    | ((with_reducible refine isC_reg ?_); refine aw_prune [0, 1, 2, 3, 4, 5, 6, 7, 8, 9] rfl rfl ?_; with_reducible refine aw_region ?_)
    | ((with_reducible refine isC_draw ?_); refine aw_prune [0, 1, 2, 3, 4, 5, 6, 7, 8, 9] rfl rfl ?_; refine aw_drwF [] ?_)
    | ((first | ((with_reducible refine isA_any ?_); refine xA ?_) | ((with_reducible refine isDk_any ?_); refine xD ?_)); (first | ((with_reducible refine e_bin ?_); (first | refine ex_i (s_xor1 (b := j) (c := j - 1) (by omega) (if_neg (by omega)) rfl rfl) ?_))))
    | refine stA ?_
    | refine stD ?_
    | (refine hK _ _ _ _ ?_; clear hK hX K)
    | (refine hX _ _ _ _ _ (by simp) ?_; clear hK hX K))
          rw [← hD, ← hE]
          refine retK_mk (by first | exact .inl rfl | exact .inr rfl) (by exact trivial) rfl (ResL.two (by first | exact ResA.one rfl rfl rfl rfl rfl | exact ResA.agg rfl rfl rfl rfl rfl (by first | exact IsAgg.closed rfl rfl | exact IsAgg.mixed _) | exact ResA.aggr rfl rfl rfl rfl (by first | rfl | with_reducible assumption | (simp <;> fail) | omega | (simp; omega) | assumption)) (ResA.tmp rfl)) (out_t (frzl_cons (by first | exact frz_c cv_rfl | exact frz_c cv_nil | exact frz_ownW rfl rfl (by first | rfl | with_reducible assumption | (simp <;> fail) | omega | (simp; omega) | assumption) | exact frz_eq (frz_c cv_rfl) (by first | rfl | (simp <;> fail) | fail)) (frzl_cons (by first | exact frz_c cv_rfl | exact frz_c cv_nil | exact frz_ownW rfl rfl (by first | rfl | with_reducible assumption | (simp <;> fail) | omega | (simp; omega) | assumption) | exact frz_eq (frz_c cv_rfl) (by first | rfl | (simp <;> fail) | fail)) frzl_nil)))
set_option maxHeartbeats 4000000 in
theorem apply_ok (leaf : List UInt8) (i c : Int) (S : List (List UInt8)) (m : Nat) (hl : leaf.length = 32) (hS : all32 S) (hm : S.length = m) (hmm : m ≤ 100000) : AC Try.prog 59 [.agg (u8c leaf), .agg [iv i, iv c, .sl 32 m (dc S)]] (.tup [.c (.agg (u8c (appP leaf i c S).1)), .c (iv (appP leaf i c S).2)]) [] 0 := by
  have hul : (u8c leaf).length = 32 := by rw [u8c_length, hl]
  have hun : (u8c (nodeD leaf)).length = 32 := by rw [u8c_length, nodeD_length]
  by_cases hbad : c < 1 ∨ 4096 < c ∨ i < 0 ∨ c ≤ i
  · skip
    rw [appP_bad hbad]
    have hbad' : c < 1 ∨ 4096 < c ∨ i < 0 ∨ c ≤ i := hbad
    clear hbad
    by_cases b1 : c < 1
    · clear hbad'
      refine ac_enter tabOk (sz := 84) Try.func59 rfl (by rw [Try.ntmps59]; rfl) ?_
      repeat' (first
    | ((with_reducible refine aw_seqk ?_); intro K hK hX)
    | ((with_reducible refine isC_reg ?_); refine aw_prune [0, 1, 2, 3, 4, 5, 6, 7, 8, 9] rfl rfl ?_; with_reducible refine aw_region ?_)
    | ((with_reducible refine isC_draw ?_); refine aw_prune [0, 1, 2, 3, 4, 5, 6, 7, 8, 9] rfl rfl ?_; refine aw_drwF [] ?_)
    | refine stA ?_
    | refine stD ?_
    | (refine hK _ _ _ _ ?_; clear hK hX K)
    | (refine hX _ _ _ _ _ (by simp) ?_; clear hK hX K))
      refine retK_mk (by first | exact .inl rfl | exact .inr rfl) (by exact ⟨apply_idle, apply_idle_b, trivial⟩) rfl (ResL.two (by first | exact ResA.one rfl rfl rfl rfl rfl | exact ResA.agg rfl rfl rfl rfl rfl (by first | exact IsAgg.closed rfl rfl | exact IsAgg.mixed _) | exact ResA.aggr rfl rfl rfl rfl (by first | rfl | with_reducible assumption | (simp <;> fail) | omega | (simp; omega) | assumption)) (by first | exact ResA.one rfl rfl rfl rfl rfl | exact ResA.agg rfl rfl rfl rfl rfl (by first | exact IsAgg.closed rfl rfl | exact IsAgg.mixed _) | exact ResA.aggr rfl rfl rfl rfl (by first | rfl | with_reducible assumption | (simp <;> fail) | omega | (simp; omega) | assumption))) (out_t (frzl_cons (by first | exact frz_c cv_rfl | exact frz_c cv_nil | exact frz_ownW rfl rfl (by first | rfl | with_reducible assumption | (simp <;> fail) | omega | (simp; omega) | assumption) | exact frz_eq (frz_c cv_rfl) (by first | rfl | (simp <;> fail) | fail)) (frzl_cons (by first | exact frz_c cv_rfl | exact frz_c cv_nil | exact frz_ownW rfl rfl (by first | rfl | with_reducible assumption | (simp <;> fail) | omega | (simp; omega) | assumption) | exact frz_eq (frz_c cv_rfl) (by first | rfl | (simp <;> fail) | fail)) frzl_nil)))
    · by_cases b2 : 4096 < c
      · clear hbad'
        refine ac_enter tabOk (sz := 84) Try.func59 rfl (by rw [Try.ntmps59]; rfl) ?_
        repeat' (first
    | ((with_reducible refine aw_seqk ?_); intro K hK hX)
    | ((with_reducible refine isC_reg ?_); refine aw_prune [0, 1, 2, 3, 4, 5, 6, 7, 8, 9] rfl rfl ?_; with_reducible refine aw_region ?_)
    | ((with_reducible refine isC_draw ?_); refine aw_prune [0, 1, 2, 3, 4, 5, 6, 7, 8, 9] rfl rfl ?_; refine aw_drwF [] ?_)
    | refine stA ?_
    | refine stD ?_
    | (refine hK _ _ _ _ ?_; clear hK hX K)
    | (refine hX _ _ _ _ _ (by simp) ?_; clear hK hX K))
        refine retK_mk (by first | exact .inl rfl | exact .inr rfl) (by exact ⟨apply_idle, apply_idle_b, trivial⟩) rfl (ResL.two (by first | exact ResA.one rfl rfl rfl rfl rfl | exact ResA.agg rfl rfl rfl rfl rfl (by first | exact IsAgg.closed rfl rfl | exact IsAgg.mixed _) | exact ResA.aggr rfl rfl rfl rfl (by first | rfl | with_reducible assumption | (simp <;> fail) | omega | (simp; omega) | assumption)) (by first | exact ResA.one rfl rfl rfl rfl rfl | exact ResA.agg rfl rfl rfl rfl rfl (by first | exact IsAgg.closed rfl rfl | exact IsAgg.mixed _) | exact ResA.aggr rfl rfl rfl rfl (by first | rfl | with_reducible assumption | (simp <;> fail) | omega | (simp; omega) | assumption))) (out_t (frzl_cons (by first | exact frz_c cv_rfl | exact frz_c cv_nil | exact frz_ownW rfl rfl (by first | rfl | with_reducible assumption | (simp <;> fail) | omega | (simp; omega) | assumption) | exact frz_eq (frz_c cv_rfl) (by first | rfl | (simp <;> fail) | fail)) (frzl_cons (by first | exact frz_c cv_rfl | exact frz_c cv_nil | exact frz_ownW rfl rfl (by first | rfl | with_reducible assumption | (simp <;> fail) | omega | (simp; omega) | assumption) | exact frz_eq (frz_c cv_rfl) (by first | rfl | (simp <;> fail) | fail)) frzl_nil)))
      · by_cases b3 : i < 0
        · clear hbad'
          refine ac_enter tabOk (sz := 84) Try.func59 rfl (by rw [Try.ntmps59]; rfl) ?_
          repeat' (first
    | ((with_reducible refine aw_seqk ?_); intro K hK hX)
    | ((with_reducible refine isC_reg ?_); refine aw_prune [0, 1, 2, 3, 4, 5, 6, 7, 8, 9] rfl rfl ?_; with_reducible refine aw_region ?_)
    | ((with_reducible refine isC_draw ?_); refine aw_prune [0, 1, 2, 3, 4, 5, 6, 7, 8, 9] rfl rfl ?_; refine aw_drwF [] ?_)
    | refine stA ?_
    | refine stD ?_
    | (refine hK _ _ _ _ ?_; clear hK hX K)
    | (refine hX _ _ _ _ _ (by simp) ?_; clear hK hX K))
          refine retK_mk (by first | exact .inl rfl | exact .inr rfl) (by exact ⟨apply_idle, apply_idle_b, trivial⟩) rfl (ResL.two (by first | exact ResA.one rfl rfl rfl rfl rfl | exact ResA.agg rfl rfl rfl rfl rfl (by first | exact IsAgg.closed rfl rfl | exact IsAgg.mixed _) | exact ResA.aggr rfl rfl rfl rfl (by first | rfl | with_reducible assumption | (simp <;> fail) | omega | (simp; omega) | assumption)) (by first | exact ResA.one rfl rfl rfl rfl rfl | exact ResA.agg rfl rfl rfl rfl rfl (by first | exact IsAgg.closed rfl rfl | exact IsAgg.mixed _) | exact ResA.aggr rfl rfl rfl rfl (by first | rfl | with_reducible assumption | (simp <;> fail) | omega | (simp; omega) | assumption))) (out_t (frzl_cons (by first | exact frz_c cv_rfl | exact frz_c cv_nil | exact frz_ownW rfl rfl (by first | rfl | with_reducible assumption | (simp <;> fail) | omega | (simp; omega) | assumption) | exact frz_eq (frz_c cv_rfl) (by first | rfl | (simp <;> fail) | fail)) (frzl_cons (by first | exact frz_c cv_rfl | exact frz_c cv_nil | exact frz_ownW rfl rfl (by first | rfl | with_reducible assumption | (simp <;> fail) | omega | (simp; omega) | assumption) | exact frz_eq (frz_c cv_rfl) (by first | rfl | (simp <;> fail) | fail)) frzl_nil)))
        · have b4 : c ≤ i := by omega
          clear hbad'
          refine ac_enter tabOk (sz := 84) Try.func59 rfl (by rw [Try.ntmps59]; rfl) ?_
          repeat' (first
    | ((with_reducible refine aw_seqk ?_); intro K hK hX)
    | ((with_reducible refine isC_reg ?_); refine aw_prune [0, 1, 2, 3, 4, 5, 6, 7, 8, 9] rfl rfl ?_; with_reducible refine aw_region ?_)
    | ((with_reducible refine isC_draw ?_); refine aw_prune [0, 1, 2, 3, 4, 5, 6, 7, 8, 9] rfl rfl ?_; refine aw_drwF [] ?_)
    | refine stA ?_
    | refine stD ?_
    | (refine hK _ _ _ _ ?_; clear hK hX K)
    | (refine hX _ _ _ _ _ (by simp) ?_; clear hK hX K))
          refine retK_mk (by first | exact .inl rfl | exact .inr rfl) (by exact ⟨apply_idle, apply_idle_b, trivial⟩) rfl (ResL.two (by first | exact ResA.one rfl rfl rfl rfl rfl | exact ResA.agg rfl rfl rfl rfl rfl (by first | exact IsAgg.closed rfl rfl | exact IsAgg.mixed _) | exact ResA.aggr rfl rfl rfl rfl (by first | rfl | with_reducible assumption | (simp <;> fail) | omega | (simp; omega) | assumption)) (by first | exact ResA.one rfl rfl rfl rfl rfl | exact ResA.agg rfl rfl rfl rfl rfl (by first | exact IsAgg.closed rfl rfl | exact IsAgg.mixed _) | exact ResA.aggr rfl rfl rfl rfl (by first | rfl | with_reducible assumption | (simp <;> fail) | omega | (simp; omega) | assumption))) (out_t (frzl_cons (by first | exact frz_c cv_rfl | exact frz_c cv_nil | exact frz_ownW rfl rfl (by first | rfl | with_reducible assumption | (simp <;> fail) | omega | (simp; omega) | assumption) | exact frz_eq (frz_c cv_rfl) (by first | rfl | (simp <;> fail) | fail)) (frzl_cons (by first | exact frz_c cv_rfl | exact frz_c cv_nil | exact frz_ownW rfl rfl (by first | rfl | with_reducible assumption | (simp <;> fail) | omega | (simp; omega) | assumption) | exact frz_eq (frz_c cv_rfl) (by first | rfl | (simp <;> fail) | fail)) frzl_nil)))
  · skip
    have hnb : ¬ (c < 1 ∨ 4096 < c ∨ i < 0 ∨ c ≤ i) := hbad
    obtain ⟨C, rfl⟩ : ∃ C : Nat, c = C := ⟨c.toNat, by omega⟩
    obtain ⟨I, rfl⟩ : ∃ I : Nat, i = I := ⟨i.toNat, by omega⟩
    generalize hap : appP leaf (I : Int) (C : Int) S = r
    rw [appP_good hbad] at hap
    have hC1 : 1 ≤ C := by omega
    have hC2 : C ≤ 4096 := by omega
    have hIC : I < C := by omega
    clear hnb hbad
    have g1 : ¬ ((C : Int) < 1) := by omega
    have g2 : ¬ (4096 < (C : Int)) := by omega
    have g3 : ¬ ((I : Int) < 0) := by omega
    have g4 : ¬ ((C : Int) ≤ (I : Int)) := by omega
    obtain ⟨D, e⟩ := r
    dsimp only
    generalize hR : apl S C I 0 (nodeD leaf) = R at hap
    refine ac_enter tabOk (sz := 84) Try.func59 rfl (by rw [Try.ntmps59]; rfl) ?_
    repeat' (first
    | ((with_reducible refine aw_seqk ?_); intro K hK hX)
    | ((with_reducible refine isC_reg ?_); refine aw_prune [0, 1, 2, 3, 4, 5, 6, 7, 8, 9] rfl rfl ?_; with_reducible refine aw_region ?_)
    | ((with_reducible refine isC_draw ?_); refine aw_prune [0, 1, 2, 3, 4, 5, 6, 7, 8, 9] rfl rfl ?_; refine aw_drwE [] ?_)
    | ((first | with_reducible refine isA_call ?_ | with_reducible refine isE_call ?_); (first | refine zA ?_ | refine zN ?_ | refine zE ?_); (first | refine c0 (node_ok leaf hl) ?_))
    | refine stA ?_
    | refine stE ?_
    | (refine hK _ _ _ _ ?_; clear hK hX K)
    | (refine hX _ _ _ _ _ (by simp) ?_; clear hK hX K))
    refine aw_loopk 5 (fun p : List UInt8 × Nat × Nat × Nat => [(3, .ref 1 0), (4, .ref 2 0), (5, .ref 3 0), (6, .ref 4 0), (7, .c (iv p.2.1)), (8, .c (iv p.2.2.1)), (9, .c (iv p.2.2.2))]) (fun p => [(1, .blk 54 [.c (iv I), .c (iv C), .c (.sl 32 m (dc S))]), (2, .row 35 z32), (3, .blk 39 [.c (iv 0)]),(4, .row 35 (u8c p.1))]) [(some apF, [.ref 2 0, .ref 3 0])] (fun p => p.1.length = 32 ∧ p.2.2.1 < p.2.2.2 ∧ p.2.2.2 ≤ 4096 ∧ p.2.1 ≤ m ∧ apl S p.2.2.2 p.2.2.1 p.2.1 p.1 = R) (fun p => p.2.2.2) (nodeD leaf, 0, I, C) ⟨nodeD_length _, by dsimp only; omega, by dsimp only; omega, by dsimp only; omega, hR⟩ weakA ?_
    rintro ⟨x, u, j, q⟩ ⟨hx, hj, hq, hu, ha⟩ K hK hX
    dsimp only at hx hj hq hu ha hK ⊢
    have hux : (u8c x).length = 32 := by rw [u8c_length, hx]
    by_cases hq1 : q ≤ 1
    · rw [apl_end hq1] at ha
      rw [← ha] at hap
      by_cases hum : u = m
      · obtain ⟨hD, hE⟩ : sealD x C = D ∧ 0 = e := by simpa [finP, hum, hm] using hap
        have hus : (u8c (sealD x C)).length = 32 := by rw [u8c_length, sealD_length]
        repeat' (first
    | ((with_reducible refine aw_seqk ?_); intro K hK hX)
    | ((with_reducible refine isC_reg ?_); refine aw_prune [0, 1, 2, 3, 4, 5, 6, 7, 8, 9] rfl rfl ?_; with_reducible refine aw_region ?_)
    | ((with_reducible refine isC_draw ?_); refine aw_prune [0, 1, 2, 3, 4, 5, 6, 7, 8, 9] rfl rfl ?_; refine aw_drwF [] ?_)
    | ((first | with_reducible refine isA_call ?_ | with_reducible refine isD_call ?_); (first | refine zA ?_ | refine zN ?_ | refine zD ?_); (first | refine c0 (seal_ok x C hx (by omega)) ?_))
    | refine stA ?_
    | refine stD ?_
    | (refine hK _ _ _ _ ?_; clear hK hX K)
    | (refine hX _ _ _ _ _ (by simp) ?_; clear hK hX K))
        rw [← hD, ← hE]
        refine retK_mk (by first | exact .inl rfl | exact .inr rfl) (by exact ⟨apply_idle, apply_idle_b, trivial⟩) rfl (ResL.two (by first | exact ResA.one rfl rfl rfl rfl rfl | exact ResA.agg rfl rfl rfl rfl rfl (by first | exact IsAgg.closed rfl rfl | exact IsAgg.mixed _) | exact ResA.aggr rfl rfl rfl rfl (by first | rfl | with_reducible assumption | (simp <;> fail) | omega | (simp; omega) | assumption)) (by first | exact ResA.one rfl rfl rfl rfl rfl | exact ResA.agg rfl rfl rfl rfl rfl (by first | exact IsAgg.closed rfl rfl | exact IsAgg.mixed _) | exact ResA.aggr rfl rfl rfl rfl (by first | rfl | with_reducible assumption | (simp <;> fail) | omega | (simp; omega) | assumption))) (out_t (frzl_cons (by first | exact frz_c cv_rfl | exact frz_c cv_nil | exact frz_ownW rfl rfl (by first | rfl | with_reducible assumption | (simp <;> fail) | omega | (simp; omega) | assumption) | exact frz_eq (frz_c cv_rfl) (by first | rfl | (simp <;> fail) | fail)) (frzl_cons (by first | exact frz_c cv_rfl | exact frz_c cv_nil | exact frz_ownW rfl rfl (by first | rfl | with_reducible assumption | (simp <;> fail) | omega | (simp; omega) | assumption) | exact frz_eq (frz_c cv_rfl) (by first | rfl | (simp <;> fail) | fail)) frzl_nil)))
      · obtain ⟨hD, hE⟩ : zero32 = D ∧ 1 = e := by simpa [finP, hum, hm] using hap
        repeat' (first
    | ((with_reducible refine aw_seqk ?_); intro K hK hX)
    | ((with_reducible refine isC_reg ?_); refine aw_prune [0, 1, 2, 3, 4, 5, 6, 7, 8, 9] rfl rfl ?_; with_reducible refine aw_region ?_)
    | ((with_reducible refine isC_draw ?_); refine aw_prune [0, 1, 2, 3, 4, 5, 6, 7, 8, 9] rfl rfl ?_; refine aw_drwF [] ?_)
    | refine stA ?_
    | refine stD ?_
    | (refine hK _ _ _ _ ?_; clear hK hX K)
    | (refine hX _ _ _ _ _ (by simp) ?_; clear hK hX K))
        rw [← hD, ← hE]
        refine retK_mk (by first | exact .inl rfl | exact .inr rfl) (by exact ⟨apply_idle, apply_idle_b, trivial⟩) rfl (ResL.two (by first | exact ResA.one rfl rfl rfl rfl rfl | exact ResA.agg rfl rfl rfl rfl rfl (by first | exact IsAgg.closed rfl rfl | exact IsAgg.mixed _) | exact ResA.aggr rfl rfl rfl rfl (by first | rfl | with_reducible assumption | (simp <;> fail) | omega | (simp; omega) | assumption)) (by first | exact ResA.one rfl rfl rfl rfl rfl | exact ResA.agg rfl rfl rfl rfl rfl (by first | exact IsAgg.closed rfl rfl | exact IsAgg.mixed _) | exact ResA.aggr rfl rfl rfl rfl (by first | rfl | with_reducible assumption | (simp <;> fail) | omega | (simp; omega) | assumption))) (out_t (frzl_cons (by first | exact frz_c cv_rfl | exact frz_c cv_nil | exact frz_ownW rfl rfl (by first | rfl | with_reducible assumption | (simp <;> fail) | omega | (simp; omega) | assumption) | exact frz_eq (frz_c cv_rfl) (by first | rfl | (simp <;> fail) | fail)) (frzl_cons (by first | exact frz_c cv_rfl | exact frz_c cv_nil | exact frz_ownW rfl rfl (by first | rfl | with_reducible assumption | (simp <;> fail) | omega | (simp; omega) | assumption) | exact frz_eq (frz_c cv_rfl) (by first | rfl | (simp <;> fail) | fail)) frzl_nil)))
    · rcases Nat.mod_two_eq_zero_or_one j with hp | hp
      · by_cases h3 : j + 1 < q
        · by_cases hlt : u < m
          · have hd := getD32 hS u (by omega)
            have hud : (u8c (S.getD u [])).length = 32 := by rw [u8c_length, hd]
            rw [apl_even hq1 hp h3 (by omega)] at ha
            have huj : (u8c (joinD x (S.getD u []))).length = 32 := by rw [u8c_length, joinD_length]
            have hjo := pairJ_ok x (S.getD u []) hx hd
            repeat' (first
    | ((with_reducible refine aw_seqk ?_); intro K hK hX)
    | ((with_reducible refine isC_reg ?_); refine aw_prune [0, 1, 2, 3, 4, 5, 6, 7, 8, 9] rfl rfl ?_; with_reducible refine aw_region ?_)
    | ((with_reducible refine isC_draw ?_); refine aw_prune [0, 1, 2, 3, 4, 5, 6, 7, 8, 9] rfl rfl ?_; refine aw_drwF [] ?_)
    | ((first | with_reducible refine isA_call ?_ | with_reducible refine isD_call ?_); (first | refine zA ?_ | refine zN ?_ | refine zD ?_); (first | refine c0 (hjo) ?_))
    | ((first | ((with_reducible refine isA_any ?_); refine xA ?_) | ((with_reducible refine isDk_any ?_); refine xD ?_)); (first | ((with_reducible refine e_bin ?_); (first | refine ex_i (s_xor1 (b := j) (c := j + 1) (by omega) (if_pos hp) rfl rfl) ?_)) | ((with_reducible refine e_load ?_); (first | refine ex_i (s_loadAr tabOk rfl rfl rfl rfl (by first | exact dig_at hS u (by omega) | exact whole0 (by first | rfl | omega) | rfl) (by first | rfl | with_reducible assumption | (simp <;> fail) | omega | (simp; omega) | assumption)) ?_ | refine ex_i (s_loadAi tabOk rfl rfl rfl (by first | exact dig_at hS u (by omega) | exact whole0 (by first | rfl | omega) | rfl) (by first | rfl | with_reducible assumption | (simp <;> fail) | omega | (simp; omega) | assumption)) ?_)) | ((with_reducible refine e_slice ?_); (first | refine ex_i (s_slArri tabOk rfl rfl rfl rfl (by first | exact Bd.no | exact Bd.yes rfl (by first | with_reducible exact cast_self _ | with_reducible exact cast_lit _ | exact nt (by omega) | rfl)) (by first | exact Bd.no | exact Bd.yes rfl (by first | with_reducible exact cast_self _ | with_reducible exact cast_lit _ | exact nt (by omega) | rfl)) (by first | exact Nat.le_of_ble_eq_true rfl | omega | (simp; omega)) (by first | exact Nat.le_of_ble_eq_true rfl | omega | (simp; omega)) (by decide) (by first | exact dig_at hS u (by omega) | exact whole0 (by first | rfl | omega) | rfl) (by first | rfl | with_reducible assumption | (simp <;> fail) | omega | (simp; omega) | assumption)) ?_))))
    | refine stA ?_
    | refine stD ?_
    | (refine hK _ _ _ _ ?_; clear hK hX K)
    | (refine hX _ _ _ _ _ (by simp) ?_; clear hK hX K))
            exact ⟨(joinD x (S.getD u []), u + 1, j / 2, (q + 1) / 2), ⟨joinD_length _ _, by dsimp only; omega, by dsimp only; omega, by dsimp only; omega, ha⟩, by dsimp only; omega, weakA⟩
          · rw [apl_out hq1 (.inr h3) (by omega)] at ha
            rw [← ha] at hap
            obtain ⟨hD, hE⟩ : zero32 = D ∧ 1 = e := by simpa [finP] using hap
            repeat' (first
    | ((with_reducible refine aw_seqk ?_); intro K hK hX)
    | ((with_reducible refine isC_reg ?_); refine aw_prune [0, 1, 2, 3, 4, 5, 6, 7, 8, 9] rfl rfl ?_; with_reducible refine aw_region ?_)
    | ((with_reducible refine isC_draw ?_); refine aw_prune [0, 1, 2, 3, 4, 5, 6, 7, 8, 9] rfl rfl ?_; refine aw_drwF [] ?_)
    | ((first | ((with_reducible refine isA_any ?_); refine xA ?_) | ((with_reducible refine isDk_any ?_); refine xD ?_)); (first | ((with_reducible refine e_bin ?_); (first | refine ex_i (s_xor1 (b := j) (c := j + 1) (by omega) (if_pos hp) rfl rfl) ?_))))
    | refine stA ?_
    | refine stD ?_
    | (refine hK _ _ _ _ ?_; clear hK hX K)
    | (refine hX _ _ _ _ _ (by simp) ?_; clear hK hX K))
            rw [← hD, ← hE]
            refine retK_mk (by first | exact .inl rfl | exact .inr rfl) (by exact ⟨apply_idle, apply_idle_b, trivial⟩) rfl (ResL.two (by first | exact ResA.one rfl rfl rfl rfl rfl | exact ResA.agg rfl rfl rfl rfl rfl (by first | exact IsAgg.closed rfl rfl | exact IsAgg.mixed _) | exact ResA.aggr rfl rfl rfl rfl (by first | rfl | with_reducible assumption | (simp <;> fail) | omega | (simp; omega) | assumption)) (by first | exact ResA.one rfl rfl rfl rfl rfl | exact ResA.agg rfl rfl rfl rfl rfl (by first | exact IsAgg.closed rfl rfl | exact IsAgg.mixed _) | exact ResA.aggr rfl rfl rfl rfl (by first | rfl | with_reducible assumption | (simp <;> fail) | omega | (simp; omega) | assumption))) (out_t (frzl_cons (by first | exact frz_c cv_rfl | exact frz_c cv_nil | exact frz_ownW rfl rfl (by first | rfl | with_reducible assumption | (simp <;> fail) | omega | (simp; omega) | assumption) | exact frz_eq (frz_c cv_rfl) (by first | rfl | (simp <;> fail) | fail)) (frzl_cons (by first | exact frz_c cv_rfl | exact frz_c cv_nil | exact frz_ownW rfl rfl (by first | rfl | with_reducible assumption | (simp <;> fail) | omega | (simp; omega) | assumption) | exact frz_eq (frz_c cv_rfl) (by first | rfl | (simp <;> fail) | fail)) frzl_nil)))
        · rw [apl_lone hq1 hp h3] at ha
          repeat' (first
    | ((with_reducible refine aw_seqk ?_); intro K hK hX)
    | ((with_reducible refine isC_reg ?_); refine aw_prune [0, 1, 2, 3, 4, 5, 6, 7, 8, 9] rfl rfl ?_; with_reducible refine aw_region ?_)
    | ((with_reducible refine isC_draw ?_); refine aw_prune [0, 1, 2, 3, 4, 5, 6, 7, 8, 9] rfl rfl ?_; refine aw_drwF [] ?_)
    | ((first | ((with_reducible refine isA_any ?_); refine xA ?_) | ((with_reducible refine isDk_any ?_); refine xD ?_)); (first | ((with_reducible refine e_bin ?_); (first | refine ex_i (s_xor1 (b := j) (c := j + 1) (by omega) (if_pos hp) rfl rfl) ?_))))
    | refine stA ?_
    | refine stD ?_
    | (refine hK _ _ _ _ ?_; clear hK hX K)
    | (refine hX _ _ _ _ _ (by simp) ?_; clear hK hX K))
          exact ⟨(x, u, j / 2, (q + 1) / 2), ⟨hx, by dsimp only; omega, by dsimp only; omega, by dsimp only; omega, ha⟩, by dsimp only; omega, weakA⟩
      · by_cases hlt : u < m
        · have hd := getD32 hS u (by omega)
          have hud : (u8c (S.getD u [])).length = 32 := by rw [u8c_length, hd]
          rw [apl_odd hq1 hp (by omega)] at ha
          have huj : (u8c (joinD (S.getD u []) x)).length = 32 := by rw [u8c_length, joinD_length]
          have hjo := pairJ_ok (S.getD u []) x hd hx
          repeat' (first
    | ((with_reducible refine aw_seqk ?_); intro K hK hX)
    | ((with_reducible refine isC_reg ?_); refine aw_prune [0, 1, 2, 3, 4, 5, 6, 7, 8, 9] rfl rfl ?_; with_reducible refine aw_region ?_)
    | ((with_reducible refine isC_draw ?_); refine aw_prune [0, 1, 2, 3, 4, 5, 6, 7, 8, 9] rfl rfl ?_; refine aw_drwF [] ?_)
    | ((first | with_reducible refine isA_call ?_ | with_reducible refine isD_call ?_); (first | refine zA ?_ | refine zN ?_ | refine zD ?_); (first | refine c0 (hjo) ?_))
    | ((first | ((with_reducible refine isA_any ?_); refine xA ?_) | ((with_reducible refine isDk_any ?_); refine xD ?_)); (first | ((with_reducible refine e_bin ?_); (first | refine ex_i (s_xor1 (b := j) (c := j - 1) (by omega) (if_neg (by omega)) rfl rfl) ?_)) | ((with_reducible refine e_load ?_); (first | refine ex_i (s_loadAr tabOk rfl rfl rfl rfl (by first | exact dig_at hS u (by omega) | exact whole0 (by first | rfl | omega) | rfl) (by first | rfl | with_reducible assumption | (simp <;> fail) | omega | (simp; omega) | assumption)) ?_ | refine ex_i (s_loadAi tabOk rfl rfl rfl (by first | exact dig_at hS u (by omega) | exact whole0 (by first | rfl | omega) | rfl) (by first | rfl | with_reducible assumption | (simp <;> fail) | omega | (simp; omega) | assumption)) ?_)) | ((with_reducible refine e_slice ?_); (first | refine ex_i (s_slArri tabOk rfl rfl rfl rfl (by first | exact Bd.no | exact Bd.yes rfl (by first | with_reducible exact cast_self _ | with_reducible exact cast_lit _ | exact nt (by omega) | rfl)) (by first | exact Bd.no | exact Bd.yes rfl (by first | with_reducible exact cast_self _ | with_reducible exact cast_lit _ | exact nt (by omega) | rfl)) (by first | exact Nat.le_of_ble_eq_true rfl | omega | (simp; omega)) (by first | exact Nat.le_of_ble_eq_true rfl | omega | (simp; omega)) (by decide) (by first | exact dig_at hS u (by omega) | exact whole0 (by first | rfl | omega) | rfl) (by first | rfl | with_reducible assumption | (simp <;> fail) | omega | (simp; omega) | assumption)) ?_))))
    | refine stA ?_
    | refine stD ?_
    | (refine hK _ _ _ _ ?_; clear hK hX K)
    | (refine hX _ _ _ _ _ (by simp) ?_; clear hK hX K))
          exact ⟨(joinD (S.getD u []) x, u + 1, j / 2, (q + 1) / 2), ⟨joinD_length _ _, by dsimp only; omega, by dsimp only; omega, by dsimp only; omega, ha⟩, by dsimp only; omega, weakA⟩
        · rw [apl_out hq1 (.inl hp) (by omega)] at ha
          rw [← ha] at hap
          obtain ⟨hD, hE⟩ : zero32 = D ∧ 1 = e := by simpa [finP] using hap
          repeat' (first
    | ((with_reducible refine aw_seqk ?_); intro K hK hX)
    | ((with_reducible refine isC_reg ?_); refine aw_prune [0, 1, 2, 3, 4, 5, 6, 7, 8, 9] rfl rfl ?_; with_reducible refine aw_region ?_)
    | ((with_reducible refine isC_draw ?_); refine aw_prune [0, 1, 2, 3, 4, 5, 6, 7, 8, 9] rfl rfl ?_; refine aw_drwF [] ?_)
    | ((first | ((with_reducible refine isA_any ?_); refine xA ?_) | ((with_reducible refine isDk_any ?_); refine xD ?_)); (first | ((with_reducible refine e_bin ?_); (first | refine ex_i (s_xor1 (b := j) (c := j - 1) (by omega) (if_neg (by omega)) rfl rfl) ?_))))
    | refine stA ?_
    | refine stD ?_
    | (refine hK _ _ _ _ ?_; clear hK hX K)
    | (refine hX _ _ _ _ _ (by simp) ?_; clear hK hX K))
          rw [← hD, ← hE]
          refine retK_mk (by first | exact .inl rfl | exact .inr rfl) (by exact ⟨apply_idle, apply_idle_b, trivial⟩) rfl (ResL.two (by first | exact ResA.one rfl rfl rfl rfl rfl | exact ResA.agg rfl rfl rfl rfl rfl (by first | exact IsAgg.closed rfl rfl | exact IsAgg.mixed _) | exact ResA.aggr rfl rfl rfl rfl (by first | rfl | with_reducible assumption | (simp <;> fail) | omega | (simp; omega) | assumption)) (by first | exact ResA.one rfl rfl rfl rfl rfl | exact ResA.agg rfl rfl rfl rfl rfl (by first | exact IsAgg.closed rfl rfl | exact IsAgg.mixed _) | exact ResA.aggr rfl rfl rfl rfl (by first | rfl | with_reducible assumption | (simp <;> fail) | omega | (simp; omega) | assumption))) (out_t (frzl_cons (by first | exact frz_c cv_rfl | exact frz_c cv_nil | exact frz_ownW rfl rfl (by first | rfl | with_reducible assumption | (simp <;> fail) | omega | (simp; omega) | assumption) | exact frz_eq (frz_c cv_rfl) (by first | rfl | (simp <;> fail) | fail)) (frzl_cons (by first | exact frz_c cv_rfl | exact frz_c cv_nil | exact frz_ownW rfl rfl (by first | rfl | with_reducible assumption | (simp <;> fail) | omega | (simp; omega) | assumption) | exact frz_eq (frz_c cv_rfl) (by first | rfl | (simp <;> fail) | fail)) frzl_nil)))
def verP (root leaf : List UInt8) (i c : Int) (S : List (List UInt8)) : Bool := decide ((appP leaf i c S).2 = 0) && decide ((appP leaf i c S).1 = root)
set_option maxHeartbeats 4000000 in
theorem verify_ok (root leaf : List UInt8) (i c : Int) (S : List (List UInt8)) (m : Nat) (hr : root.length = 32) (hl : leaf.length = 32) (hS : all32 S) (hm : S.length = m) (hmm : m ≤ 100000) : AC Try.prog 61 [.agg (u8c root), .agg (u8c leaf), .agg [iv i, iv c, .sl 32 m (dc S)]] (.c (.v (.bool (verP root leaf i c S)))) [] 0 := by
  have hul : (u8c leaf).length = 32 := by rw [u8c_length, hl]
  have hur : (u8c root).length = 32 := by rw [u8c_length, hr]
  have hap := apply_ok leaf i c S m hl hS hm hmm
  have hal := appP_length leaf i c S
  unfold verP
  generalize appP leaf i c S = r at hap hal ⊢
  obtain ⟨D, e⟩ := r
  dsimp only at hap hal ⊢
  have huD : (u8c D).length = 32 := by rw [u8c_length, hal]
  by_cases he : e = 0
  · have he' : (e : Int) = 0 := by omega
    rw [decide_eq_true he, Bool.true_and]
    refine ac_enter tabOk (sz := 22) Try.func61 rfl (by rw [Try.ntmps61]; rfl) ?_
    repeat' (first
    | ((with_reducible refine aw_seqk ?_); intro K hK hX)
    | ((with_reducible refine isC_reg ?_); refine aw_prune [0, 1, 2, 3, 4, 5, 6, 7, 8] rfl rfl ?_; with_reducible refine aw_region ?_)
    | ((with_reducible refine isA_call ?_); (first | refine zA ?_ | refine zN ?_); (first | refine c0 (hap) ?_))
    | (((with_reducible refine isA_any ?_); refine xA ?_); (first | ((with_reducible refine e_bin ?_); (first | refine ex_i (s_eqlU tabOk (by kernel_rfl) rfl rfl rfl rfl rfl rfl rfl rfl rfl hal hr rfl) ?_))))
    | refine stA ?_
    | (refine hK _ _ _ _ ?_; clear hK hX K)
    | (refine hX _ _ _ _ _ (by simp) ?_; clear hK hX K))
    refine retK_mk (by first | exact .inl rfl | exact .inr rfl) (by exact trivial) rfl (ResL.one (ResA.tmp rfl)) (by first | exact out_c (by first | exact frz_c cv_rfl | exact frz_c cv_nil | exact frz_ownW rfl rfl (by first | rfl | with_reducible assumption | (simp <;> fail) | omega | (simp; omega) | assumption) | exact frz_eq (frz_c cv_rfl) (by first | rfl | (simp <;> fail) | fail)) | exact out_own rfl rfl)
  · have he' : ¬ (e : Int) = 0 := by omega
    rw [decide_eq_false he, Bool.false_and]
    refine ac_enter tabOk (sz := 22) Try.func61 rfl (by rw [Try.ntmps61]; rfl) ?_
    repeat' (first
    | ((with_reducible refine aw_seqk ?_); intro K hK hX)
    | ((with_reducible refine isC_reg ?_); refine aw_prune [0, 1, 2, 3, 4, 5, 6, 7, 8] rfl rfl ?_; with_reducible refine aw_region ?_)
    | ((with_reducible refine isA_call ?_); (first | refine zA ?_ | refine zN ?_); (first | refine c0 (hap) ?_))
    | refine stA ?_
    | (refine hK _ _ _ _ ?_; clear hK hX K)
    | (refine hX _ _ _ _ _ (by simp) ?_; clear hK hX K))
    refine retK_mk (by first | exact .inl rfl | exact .inr rfl) (by exact trivial) rfl (ResL.one (ResA.tmp rfl)) (by first | exact out_c (by first | exact frz_c cv_rfl | exact frz_c cv_nil | exact frz_ownW rfl rfl (by first | rfl | with_reducible assumption | (simp <;> fail) | omega | (simp; omega) | assumption) | exact frz_eq (frz_c cv_rfl) (by first | rfl | (simp <;> fail) | fail)) | exact out_own rfl rfl)
set_option maxHeartbeats 4000000 in
theorem rverify_ok (root leaf : List UInt8) (i c : Int) (S : List (List UInt8)) (m : Nat) (hr : root.length = 32) (hl : leaf.length = 32) (hS : all32 S) (hm : S.length = m) (hmm : m ≤ 100000) : AC Try.prog 88 [.agg (u8c root), .agg (u8c leaf), .agg [iv i, iv c, .sl 32 m (dc S)]] (.c (.v (.bool (verP root leaf i c S)))) [] 0 := by
  have hul : (u8c leaf).length = 32 := by rw [u8c_length, hl]
  have hur : (u8c root).length = 32 := by rw [u8c_length, hr]
  have hap := rapply_ok leaf i c S m hl hS hm hmm
  have hal := appP_length leaf i c S
  unfold verP
  generalize appP leaf i c S = r at hap hal ⊢
  obtain ⟨D, e⟩ := r
  dsimp only at hap hal ⊢
  have huD : (u8c D).length = 32 := by rw [u8c_length, hal]
  by_cases he : e = 0
  · have he' : (e : Int) = 0 := by omega
    rw [decide_eq_true he, Bool.true_and]
    refine ac_enter tabOk (sz := 22) Try.func88 rfl (by rw [Try.ntmps88]; rfl) ?_
    repeat' (first
    | ((with_reducible refine aw_seqk ?_); intro K hK hX)
    | ((with_reducible refine isC_reg ?_); refine aw_prune [0, 1, 2, 3, 4, 5, 6, 7, 8] rfl rfl ?_; with_reducible refine aw_region ?_)
    | ((with_reducible refine isA_call ?_); (first | refine zA ?_ | refine zN ?_); (first | refine c0 (hap) ?_))
    | (((with_reducible refine isA_any ?_); refine xA ?_); (first | ((with_reducible refine e_bin ?_); (first | refine ex_i (s_eqlU tabOk (by kernel_rfl) rfl rfl rfl rfl rfl rfl rfl rfl rfl hal hr rfl) ?_))))
    | refine stA ?_
    | (refine hK _ _ _ _ ?_; clear hK hX K)
    | (refine hX _ _ _ _ _ (by simp) ?_; clear hK hX K))
    refine retK_mk (by first | exact .inl rfl | exact .inr rfl) (by exact trivial) rfl (ResL.one (ResA.tmp rfl)) (by first | exact out_c (by first | exact frz_c cv_rfl | exact frz_c cv_nil | exact frz_ownW rfl rfl (by first | rfl | with_reducible assumption | (simp <;> fail) | omega | (simp; omega) | assumption) | exact frz_eq (frz_c cv_rfl) (by first | rfl | (simp <;> fail) | fail)) | exact out_own rfl rfl)
  · have he' : ¬ (e : Int) = 0 := by omega
    rw [decide_eq_false he, Bool.false_and]
    refine ac_enter tabOk (sz := 22) Try.func88 rfl (by rw [Try.ntmps88]; rfl) ?_
    repeat' (first
    | ((with_reducible refine aw_seqk ?_); intro K hK hX)
    | ((with_reducible refine isC_reg ?_); refine aw_prune [0, 1, 2, 3, 4, 5, 6, 7, 8] rfl rfl ?_; with_reducible refine aw_region ?_)
    | ((with_reducible refine isA_call ?_); (first | refine zA ?_ | refine zN ?_); (first | refine c0 (hap) ?_))
    | refine stA ?_
    | (refine hK _ _ _ _ ?_; clear hK hX K)
    | (refine hX _ _ _ _ _ (by simp) ?_; clear hK hX K))
    refine retK_mk (by first | exact .inl rfl | exact .inr rfl) (by exact trivial) rfl (ResL.one (ResA.tmp rfl)) (by first | exact out_c (by first | exact frz_c cv_rfl | exact frz_c cv_nil | exact frz_ownW rfl rfl (by first | rfl | with_reducible assumption | (simp <;> fail) | omega | (simp; omega) | assumption) | exact frz_eq (frz_c cv_rfl) (by first | rfl | (simp <;> fail) | fail)) | exact out_own rfl rfl)
end Go.Proofs.Ytgofigkhdjjlmaa
/-
  Proofs of trees: closed contracts, comparison, what they prove (plain).
-/
set_option linter.unusedVariables false
set_option linter.unusedSimpArgs false
namespace Go.Proofs.Ytgofigkhdjjlmaa
open Go Go.RowKit Go.Av
set_option maxRecDepth 100000
theorem AC.out {P : Program} {f : FuncId} {args : List CV} {v r : AV} {h hr : Heap} {n nr : Nat} (hac : AC P f args v h n) (ho : Out n h v r hr nr) : AC P f args r hr nr := fun ok w vs hvs => (hac ok w vs hvs).mono (by
  rintro e w' ⟨u, M, rfl, hc, hu⟩
  obtain ⟨M', h1, h2⟩ := ho w ok M w' u hc hu
  exact ⟨u, M', rfl, h1, h2⟩)
theorem ac_proof {P : Program} {f : FuncId} {args : List CV} {i c e : Int} {k m : Nat} {cs : List CV} (hac : AC P f args (.tup [.agg [.c (iv i), .c (iv c), .own 0 0 k 32 true], .c (iv e)]) [(0, .row 35 cs)] 1) (hl : cs.length = k * 32) (hk : k = m) : AC P f args (.tup [.c (.agg [iv i, iv c, .sl 32 m cs]), .c (iv e)]) [] 0 := by
  subst hk
  exact AC.out hac (out_t (frzl_cons (frz_agg rfl (frzl_cons (frz_c cv_rfl) (frzl_cons (frz_c cv_rfl) (frzl_cons (frz_ownW rfl rfl hl) frzl_nil)))) (frzl_cons (frz_c cv_rfl) frzl_nil)))
theorem sib_facts {L : List (List UInt8)} {I n : Nat} (hn : L.length = n) (hI : I < n) : all32 (sibD (L.map nodeD) I) ∧ (sibD (L.map nodeD) I).length ≤ n := by
  have := sibD_all n (L := L.map nodeD) (i := I) (by simp [hn]) (nodes_all L) (by simp [hn]; exact hI)
  exact this
theorem prove_ok (L : List (List UInt8)) (I n m : Nat) (hL : all32 L) (hn : L.length = n) (hnn : n ≤ 4096) (hI : I < n) (hm : (sibD (L.map nodeD) I).length = m) : AC Try.prog 56 [.sl 32 n (dc L), iv I] (.tup [.c (.agg [iv I, iv n, .sl 32 m (dc (sibD (L.map nodeD) I))]), .c (iv 0)]) [] 0 :=
  ac_proof (prove_own L I n hL hn hnn hI) (dc_length (sib_facts hn hI).1 rfl) hm
theorem rprove_ok (L : List (List UInt8)) (I n m : Nat) (hL : all32 L) (hn : L.length = n) (hnn : n ≤ 4096) (hI : I < n) (hm : (sibD (L.map nodeD) I).length = m) : AC Try.prog 57 [.sl 32 n (dc L), iv I] (.tup [.c (.agg [iv I, iv n, .sl 32 m (dc (sibD (L.map nodeD) I))]), .c (iv 0)]) [] 0 :=
  ac_proof (rprove_own L I n hL hn hnn hI) (dc_length (sib_facts hn hI).1 rfl) hm
/-- The proof of a place, applied to whatever leaf. -/
theorem appP_sib {L : List (List UInt8)} {I n : Nat} (x : List UInt8) (hn : L.length = n) (hI : I < n) (hnn : n ≤ 4096) : appP x (I : Int) (n : Int) (sibD (L.map nodeD) I) = (rootD (L.set I x), 0) := by
  rw [appP_good (by omega)]
  have hl : (L.map nodeD).length = n := by simp [hn]
  have := apl_sib n (L := L.map nodeD) (i := I) [] (nodeD x) (by omega) (by omega)
  simp only [List.nil_append, List.length_nil, hl] at this
  rw [this]
  show (if (sibD (List.map nodeD L) I).length = (sibD (List.map nodeD L) I).length then (sealD (topD ((List.map nodeD L).set I (nodeD x))) n, 0) else (zero32, 1)) = _
  rw [if_pos rfl, rootD, List.map_set, List.length_set, hn]
theorem set_self {L : List (List UInt8)} {I : Nat} (hI : I < L.length) : L.set I (L.getD I []) = L := by
  apply List.ext_getElem?
  intro j
  rw [List.getElem?_set]
  split
  · rename_i e; subst e
    simp [List.getD, hI]
  · rfl
theorem verP_sib {L : List (List UInt8)} {I n : Nat} (hn : L.length = n) (hI : I < n) (hnn : n ≤ 4096) : verP (rootD L) (L.getD I []) (I : Int) (n : Int) (sibD (L.map nodeD) I) = true := by
  unfold verP
  rw [appP_sib _ hn hI hnn, set_self (by omega)]
  simp
theorem sib_hgt : ∀ (n : Nat) {L : List (List UInt8)} {i : Nat}, L.length ≤ n → (sibD L i).length ≤ hgt L.length := by
  intro n
  induction n with
  | zero =>
    intro L i h
    rw [sibD_end (by omega)]
    simp
  | succ n ih =>
    intro L i h
    by_cases h1 : L.length ≤ 1
    · rw [sibD_end h1]; simp
    · have hu := upD_length L
      have := ih (L := upD L) (i := i / 2) (by omega)
      rw [hu] at this
      rw [hgt_up h1]
      by_cases h2 : i % 2 = 1
      · rw [sibD_odd h1 h2]; simp; omega
      · by_cases h3 : i + 1 < L.length
        · rw [sibD_even h1 h2 h3]; simp; omega
        · rw [sibD_lone h1 h2 h3]; omega
attribute [local irreducible] Still Adds AWL AW Drw DrwE EStep AC AWR Weak Frz Src RetK Out InK ItK AsK RdK permute
attribute [local simp] u8c_take u8c_drop u8c_app
set_option maxHeartbeats 4000000 in
theorem same_nil : AC Try.prog 58 [.agg [iv 0, iv 0, .v (.slice none 0 0)], .agg [iv 0, iv 0, .v (.slice none 0 0)]] (.c (.v (.bool true))) [] 0 := by
  refine ac_enter tabOk (sz := 45) Try.func58 rfl (by rw [Try.ntmps58]; rfl) ?_
  repeat' (first
    | ((with_reducible refine aw_seqk ?_); intro K hK hX)
    | ((with_reducible refine isC_reg ?_); refine aw_prune [0, 1, 2, 3, 4, 5] rfl rfl ?_; with_reducible refine aw_region ?_)
    | ((with_reducible refine isC_draw ?_); refine aw_prune [0, 1, 2, 3, 4, 5] rfl rfl ?_; refine aw_drwF [] ?_)
    | ((with_reducible refine isC_loop ?_); refine aw_rounds 1 ?_)
    | (refine awr_k ?_; intro K hK hX)
    | refine stA ?_
    | refine stD ?_
    | (refine hK _ _ _ _ ?_; clear hK hX K)
    | (refine hX _ _ _ _ _ (by simp) ?_; clear hK hX K))
  refine retK_mk (by first | exact .inl rfl | exact .inr rfl) (by exact trivial) rfl (ResL.one (ResA.tmp rfl)) (by first | exact out_c (by first | exact frz_c cv_rfl | exact frz_c cv_nil | exact frz_ownW rfl rfl (by first | rfl | with_reducible assumption | (simp <;> fail) | omega | (simp; omega) | assumption) | exact frz_eq (frz_c cv_rfl) (by first | rfl | (simp <;> fail) | fail)) | exact out_own rfl rfl)
set_option maxHeartbeats 4000000 in
theorem same_ok (i c : Int) (S : List (List UInt8)) (m : Nat) (hS : all32 S) (hm : S.length = m) (hmm : m ≤ 100000) : AC Try.prog 58 [.agg [iv i, iv c, .sl 32 m (dc S)], .agg [iv i, iv c, .sl 32 m (dc S)]] (.c (.v (.bool true))) [] 0 := by
  have hdl := dc_length hS hm
  refine ac_enter tabOk (sz := 45) Try.func58 rfl (by rw [Try.ntmps58]; rfl) ?_
  repeat' (first
    | ((with_reducible refine aw_seqk ?_); intro K hK hX)
    | ((with_reducible refine isC_reg ?_); refine aw_prune [0, 1, 2, 3, 4, 5] rfl rfl ?_; with_reducible refine aw_region ?_)
    | ((with_reducible refine isC_draw ?_); refine aw_prune [0, 1, 2, 3, 4, 5] rfl rfl ?_; refine aw_drwF [] ?_)
    | refine stA ?_
    | refine stD ?_
    | (refine hK _ _ _ _ ?_; clear hK hX K)
    | (refine hX _ _ _ _ _ (by simp) ?_; clear hK hX K))
  refine aw_loopo [5] [] rfl rfl (fun j : Nat => [(5, .c (iv j))]) (fun _ => []) (fun j => j ≤ m) (fun j => m - j) 0 (by omega) weakA ?_
  intro j hj K hK hX
  by_cases hlt : j < m
  · have hd := getD32 hS j (by omega)
    have hda := dig_at hS j (by omega)
    generalize S.getD j [] = d at hd hda
    have hud : (u8c d).length = 32 := by rw [u8c_length, hd]
    repeat' (first
    | ((with_reducible refine aw_seqk ?_); intro K hK hX)
    | ((with_reducible refine isC_reg ?_); refine aw_prune [0, 1, 2, 3, 4, 5] rfl rfl ?_; with_reducible refine aw_region ?_)
    | ((with_reducible refine isC_draw ?_); refine aw_prune [0, 1, 2, 3, 4, 5] rfl rfl ?_; refine aw_drwF [] ?_)
    | ((first | ((with_reducible refine isA_any ?_); refine xA ?_) | ((with_reducible refine isDk_any ?_); refine xD ?_)); (first | ((with_reducible refine e_bin ?_); (first | refine ex_i (s_neqU tabOk (by kernel_rfl) rfl rfl rfl rfl rfl rfl rfl rfl rfl hd hd (by simp; rfl)) ?_)) | ((with_reducible refine e_load ?_); (first | refine ex_i (s_loadAr tabOk rfl rfl rfl rfl (by first | exact hda | exact whole0 (by first | rfl | omega) | rfl) (by first | rfl | with_reducible assumption | (simp <;> fail) | omega | (simp; omega) | assumption)) ?_ | refine ex_i (s_loadAi tabOk rfl rfl rfl (by first | exact hda | exact whole0 (by first | rfl | omega) | rfl) (by first | rfl | with_reducible assumption | (simp <;> fail) | omega | (simp; omega) | assumption)) ?_)) | ((with_reducible refine e_slice ?_); (first | refine ex_i (s_slArri tabOk rfl rfl rfl rfl (by first | exact Bd.no | exact Bd.yes rfl (by first | with_reducible exact cast_self _ | with_reducible exact cast_lit _ | exact nt (by omega) | rfl)) (by first | exact Bd.no | exact Bd.yes rfl (by first | with_reducible exact cast_self _ | with_reducible exact cast_lit _ | exact nt (by omega) | rfl)) (by first | exact Nat.le_of_ble_eq_true rfl | omega | (simp; omega)) (by first | exact Nat.le_of_ble_eq_true rfl | omega | (simp; omega)) (by decide) (by first | exact hda | exact whole0 (by first | rfl | omega) | rfl) (by first | rfl | with_reducible assumption | (simp <;> fail) | omega | (simp; omega) | assumption)) ?_))))
    | refine stA ?_
    | refine stD ?_
    | (refine hK _ _ _ _ ?_; clear hK hX K)
    | (refine hX _ _ _ _ _ (by simp) ?_; clear hK hX K))
    exact ⟨j + 1, by omega, by omega, weakA⟩
  · repeat' (first
    | ((with_reducible refine aw_seqk ?_); intro K hK hX)
    | ((with_reducible refine isC_reg ?_); refine aw_prune [0, 1, 2, 3, 4, 5] rfl rfl ?_; with_reducible refine aw_region ?_)
    | ((with_reducible refine isC_draw ?_); refine aw_prune [0, 1, 2, 3, 4, 5] rfl rfl ?_; refine aw_drwF [] ?_)
    | refine stA ?_
    | refine stD ?_
    | (refine hK _ _ _ _ ?_; clear hK hX K)
    | (refine hX _ _ _ _ _ (by simp) ?_; clear hK hX K))
    refine retK_mk (by first | exact .inl rfl | exact .inr rfl) (by exact trivial) rfl (ResL.one (ResA.tmp rfl)) (by first | exact out_c (by first | exact frz_c cv_rfl | exact frz_c cv_nil | exact frz_ownW rfl rfl (by first | rfl | with_reducible assumption | (simp <;> fail) | omega | (simp; omega) | assumption) | exact frz_eq (frz_c cv_rfl) (by first | rfl | (simp <;> fail) | fail)) | exact out_own rfl rfl)
end Go.Proofs.Ytgofigkhdjjlmaa
/-
  The sanity check of erasurelaw38 (walk).
-/
set_option linter.unusedVariables false
set_option linter.unusedSimpArgs false
namespace Go.Proofs.Ytgofigkhdjjlmaa
open Go Go.RowKit Go.Av
set_option maxRecDepth 100000
def L3 : List (List UInt8) := [[1, 0, 0, 0, 0, 0, 0, 0, 0, 0, 0, 0, 0, 0, 0, 0, 0, 0, 0, 0, 0, 0, 0, 0, 0, 0, 0, 0, 0, 0, 0, 0], [2, 0, 0, 0, 0, 0, 0, 0, 0, 0, 0, 0, 0, 0, 0, 0, 0, 0, 0, 0, 0, 0, 0, 0, 0, 0, 0, 0, 0, 0, 0, 0], [3, 0, 0, 0, 0, 0, 0, 0, 0, 0, 0, 0, 0, 0, 0, 0, 0, 0, 0, 0, 0, 0, 0, 0, 0, 0, 0, 0, 0, 0, 0, 0]]
theorem L3_all : all32 L3 := fun d hd => by
  simp only [L3, List.mem_cons, List.not_mem_nil, or_false] at hd
  rcases hd with rfl | rfl | rfl <;> rfl
theorem L3_sib : (sibD (L3.map nodeD) 2).length = 1 := by
  have h3 : (L3.map nodeD).length = 3 := rfl
  have hu := upD_length (L3.map nodeD)
  rw [h3] at hu
  rw [sibD_lone (by omega) (by decide) (by omega), sibD_odd (by omega) (by decide)]
  have hv := upD_length (upD (L3.map nodeD))
  rw [sibD_end (by omega)]
  rfl
theorem height3 : heightP 3 = 2 := by
  unfold heightP
  rw [if_neg (by decide)]
  show hgt 3 = 2
  rw [hgt_up (by decide), hgt_up (by decide), hgt_end (by decide)]
attribute [local irreducible] Still Adds AWL AW Drw DrwE EStep AC AWR Weak Frz Src RetK Out InK ItK AsK RdK permute
attribute [local simp] u8c_take u8c_drop u8c_app
set_option maxHeartbeats 4000000 in
theorem awake38_ok : AC Try.prog 51 [] (.c (.v (.bool true))) [] 0 := by
  have hrt := root38_ok L3 3 L3_all rfl (by decide)
  have hpr := prove_ok L3 2 3 1 L3_all rfl (by decide) (by decide) L3_sib
  have hsf := sib_facts (L := L3) (I := 2) (n := 3) rfl (by decide)
  have hrl : (rootD L3).length = 32 := sealD_length _ _
  have hve := verify_ok (rootD L3) (L3.getD 2 []) ((2 : Nat) : Int) ((3 : Nat) : Int) (sibD (L3.map nodeD) 2) 1 hrl rfl hsf.1 L3_sib (by decide)
  rw [verP_sib (L := L3) (I := 2) (n := 3) rfl (by decide) (by decide)] at hve
  have hda := dig_at L3_all 2 (by decide)
  have hsl := L3_sib
  have hhe := height_ok 3
  rw [height3] at hhe
  have hru : (u8c (rootD L3)).length = 32 := by rw [u8c_length, hrl]
  generalize rootD L3 = R at hrt hve hrl hru
  generalize sibD (L3.map nodeD) 2 = S at hpr hsl hve
  refine ac_enter tabOk (sz := 49) Try.func51 rfl (by rw [Try.ntmps51]; rfl) ?_
  repeat' (first
    | ((with_reducible refine aw_seqk ?_); intro K hK hX)
    | ((with_reducible refine isC_reg ?_); refine aw_prune [0, 1, 2, 3, 4, 5] rfl rfl ?_; with_reducible refine aw_region ?_)
    | ((with_reducible refine isC_draw ?_); refine aw_prune [0, 1, 2, 3, 4, 5] rfl rfl ?_; refine aw_drwF [] ?_)
    | refine stA ?_
    | refine stD ?_
    | (refine hK _ _ _ _ ?_; clear hK hX K)
    | (refine hX _ _ _ _ _ (by simp) ?_; clear hK hX K))
  refine awl_weak (weak_fz (E := [(11, .c (.sl 32 3 (dc L3))), (0, .c (.v (.bool false))), (1, .c (.sl 32 3 (dc L3)))]) (Hp := []) (by repeat' (first | exact FzE.nil | refine FzE.cons rfl ?_ ?_ | exact fz_same | exact fz_ref rfl rfl | exact fz_ownW rfl rfl (by first | rfl | with_reducible assumption | (simp <;> fail) | omega | (simp; omega) | assumption) | exact fz_own rfl rfl (by first | exact whole0 (by first | rfl | omega) | rfl) (by first | rfl | with_reducible assumption | (simp <;> fail) | omega | (simp; omega) | assumption))) (by repeat' (first | exact trivial | refine ⟨rfl, ?_⟩))) ?_
  repeat' (first
    | ((with_reducible refine aw_seqk ?_); intro K hK hX)
    | ((with_reducible refine isC_reg ?_); refine aw_prune [0, 1, 2, 3, 4, 5] rfl rfl ?_; with_reducible refine aw_region ?_)
    | ((with_reducible refine isC_draw ?_); refine aw_prune [0, 1, 2, 3, 4, 5] rfl rfl ?_; refine aw_drwF [] ?_)
    | ((first | with_reducible refine isA_call ?_ | with_reducible refine isD_call ?_); (first | refine zA ?_ | refine zN ?_ | refine zD ?_); (first | refine c0 (hrt) ?_ | refine c0 (hpr) ?_ | refine c0 (hve) ?_ | refine c0 (hhe) ?_))
    | ((first | ((with_reducible refine isA_any ?_); refine xA ?_) | ((with_reducible refine isDk_any ?_); refine xD ?_)); (first | ((with_reducible refine e_load ?_); (first | refine ex_i (s_loadAr tabOk rfl rfl rfl rfl (by first | exact hda | exact whole0 (by first | rfl | omega) | rfl) (by first | rfl | with_reducible assumption | (simp <;> fail) | omega | (simp; omega) | assumption)) ?_ | refine ex_i (s_loadAi tabOk rfl rfl rfl (by first | exact hda | exact whole0 (by first | rfl | omega) | rfl) (by first | rfl | with_reducible assumption | (simp <;> fail) | omega | (simp; omega) | assumption)) ?_)) | ((with_reducible refine e_slice ?_); (first | refine ex_i (s_slArri tabOk rfl rfl rfl rfl (by first | exact Bd.no | exact Bd.yes rfl (by first | with_reducible exact cast_self _ | with_reducible exact cast_lit _ | exact nt (by omega) | rfl)) (by first | exact Bd.no | exact Bd.yes rfl (by first | with_reducible exact cast_self _ | with_reducible exact cast_lit _ | exact nt (by omega) | rfl)) (by first | exact Nat.le_of_ble_eq_true rfl | omega | (simp; omega)) (by first | exact Nat.le_of_ble_eq_true rfl | omega | (simp; omega)) (by decide) (by first | exact hda | exact whole0 (by first | rfl | omega) | rfl) (by first | rfl | with_reducible assumption | (simp <;> fail) | omega | (simp; omega) | assumption)) ?_))))
    | ((with_reducible refine isA_store ?_); refine awl_storeA tabOk g_none rfl rfl rfl (by first | exact Parts.mixed _ | exact Parts.closed _) (by rfl) (by rfl) rfl (Nat.le_of_ble_eq_true rfl) (by rfl) ?_)
    | refine stA ?_
    | refine stD ?_
    | (refine hK _ _ _ _ ?_; clear hK hX K)
    | (refine hX _ _ _ _ _ (by simp) ?_; clear hK hX K))
  refine retK_mk (by first | exact .inl rfl | exact .inr rfl) (by exact trivial) rfl (ResL.one (ResA.tmp rfl)) (by first | exact out_c (by first | exact frz_c cv_rfl | exact frz_c cv_nil | exact frz_ownW rfl rfl (by first | rfl | with_reducible assumption | (simp <;> fail) | omega | (simp; omega) | assumption) | exact frz_eq (frz_c cv_rfl) (by first | rfl | (simp <;> fail) | fail)) | exact out_own rfl rfl)
end Go.Proofs.Ytgofigkhdjjlmaa
/-
  Lists of digests as a row reads them. Plain.
-/
set_option linter.unusedVariables false
set_option linter.unusedSimpArgs false
namespace Go.Proofs.Ytgofigkhdjjlmaa
open Go Go.RowKit Go.Av
set_option maxRecDepth 100000
/-- Lists of digests as a row reads them. -/
theorem dig_flat : ∀ (ls : List (List CV)), (∀ l ∈ ls, (∃ ks : List (List CV), l = ks.flatten ∧ ks.length = 32 ∧ ∀ k ∈ ks, (∃ m, k = [CV.v (.int .u8 m)] ∧ (Lit.int .u8 m).wf = true) ∧ k.length = 1) ∧ l.length = 32) → ∃ L : List (List UInt8), ls.flatten = dc L ∧ L.length = ls.length ∧ all32 L
  | [], _ => ⟨[], rfl, rfl, fun d hd => by cases hd⟩
  | l :: ls, h => by
    obtain ⟨L, h1, h2, h3⟩ := dig_flat ls (fun x hx => h x (by simp [hx]))
    obtain ⟨d, hd1, hd2⟩ := rd_dig (h l (by simp)).1
    refine ⟨d :: L, ?_, by simp [h2], fun x hx => ?_⟩
    · rw [List.flatten_cons, hd1, h1]
      show u8c d ++ u8c L.flatten = u8c (d ++ L.flatten)
      rw [u8c_app]
    · rcases List.mem_cons.1 hx with rfl | hx
      · exact hd2
      · exact h3 x hx
theorem rd_digs {x : CV} (h : ∃ ls : List (List CV), [x] = [CV.sl 32 ls.length ls.flatten] ∧ ls.length ≤ maxLen ∧ ∀ l ∈ ls, (∃ ks : List (List CV), l = ks.flatten ∧ ks.length = 32 ∧ ∀ k ∈ ks, (∃ m, k = [CV.v (.int .u8 m)] ∧ (Lit.int .u8 m).wf = true) ∧ k.length = 1) ∧ l.length = 32) : ∃ L : List (List UInt8), x = .sl 32 L.length (dc L) ∧ L.length ≤ maxLen ∧ all32 L := by
  obtain ⟨ls, h1, h2, h3⟩ := h
  obtain ⟨L, k1, k2, k3⟩ := dig_flat ls h3
  injection h1 with h1
  exact ⟨L, by rw [h1, k1, k2], by omega, k3⟩
theorem rd_digsA {A : List CV} (h : ∃ ls : List (List CV), A = [CV.sl 32 ls.length ls.flatten] ∧ ls.length ≤ maxLen ∧ ∀ l ∈ ls, (∃ ks : List (List CV), l = ks.flatten ∧ ks.length = 32 ∧ ∀ k ∈ ks, (∃ m, k = [CV.v (.int .u8 m)] ∧ (Lit.int .u8 m).wf = true) ∧ k.length = 1) ∧ l.length = 32) : ∃ L : List (List UInt8), A = [.sl 32 L.length (dc L)] ∧ L.length ≤ maxLen ∧ all32 L := by
  obtain ⟨ls, h1, h2, h3⟩ := h
  obtain ⟨L, k1, k2, k3⟩ := dig_flat ls h3
  exact ⟨L, by rw [h1, k1, k2], by omega, k3⟩
end Go.Proofs.Ytgofigkhdjjlmaa
