/-
  Apply and Verify of trees (walk), as the reference and as the program have them.
-/
import Derived.Test.YtgofigkhdjjlmaaE2
import Derived.Test.YtgofigkhdjjlmaaWK
import Derived.Test.YtgofigkhdjjlmaaAvO
import Derived.Test.YtgofigkhdjjlmaaAvT
set_option linter.unusedVariables false
set_option linter.unusedSimpArgs false
namespace Go.Proofs.Ytgofigkhdjjlmaa
open Go Go.RowKit Go.Av
set_option maxRecDepth 100000
attribute [local irreducible] Still Adds AWL AW Drw DrwE EStep AC AWR Weak Frz Src RetK Out InK permute
attribute [local simp] u8c_take u8c_drop u8c_app
theorem apply_idle : Idle Try.prog 101 2 := by
  intro us w hl
  obtain ⟨u0, u1, rfl⟩ : ∃ u0 u1, us = [u0, u1] := by
    match us, hl with | [u0, u1], _ => exact ⟨u0, u1, rfl⟩
  refine callsD_of_wpS Try.func101 rfl fun c₀ cs hu => ?_
  apply wpS_seq
  apply wpS_region
  simp [wpOpsS, go_sem, recoverD, hu, Try.ntmps101, Exit.thenS]
  refine wpS_cond (t := false) (by simp [Act.eval, Array.replicate]) ?_
  simp only [Bool.false_eq_true, if_false]
  refine wpS_of_wp (wp_skip ?_)
  cases c₀
  simp_all [bodyPostS, results, Try.results101]
theorem apply_idle_b : Body Try.prog 101 := by unfold Body; kernel_rfl
theorem bad_true {i c : Int} (h : c < 1 ∨ 4096 < c ∨ i < 0 ∨ c ≤ i) : badP i c = true := by
  simp only [badP, Bool.or_eq_true, decide_eq_true_eq]
  omega
theorem appP_bad {leaf : List UInt8} {i c : Int} {S : List (List UInt8)} (h : c < 1 ∨ 4096 < c ∨ i < 0 ∨ c ≤ i) : appP leaf i c S = (zero32, 1) := by unfold appP; rw [if_pos (bad_true h)]
def finP (C : Nat) (S : List (List UInt8)) : Option (List UInt8 × Nat) → List UInt8 × Nat
  | none => (zero32, 1)
  | some (x, u) => if u = S.length then (sealD x C, 0) else (zero32, 1)
theorem appP_good {leaf : List UInt8} {I C : Nat} {S : List (List UInt8)} (h : ¬ ((C : Int) < 1 ∨ 4096 < (C : Int) ∨ (I : Int) < 0 ∨ (C : Int) ≤ (I : Int))) : appP leaf I C S = finP C S (apl S C I 0 (nodeD leaf)) := by
  unfold appP
  rw [if_neg (by simp only [badP, Bool.or_eq_true, decide_eq_true_eq]; omega)]
  simp only [Int.toNat_natCast]
  cases apl S C I 0 (nodeD leaf) with
  | none => rfl
  | some p => rfl
abbrev apF : FuncId := 101
theorem pairJ_ok (x y : List UInt8) (hx : x.length = 32) (hy : y.length = 32) : AC Try.prog 42 [wv 381#64, .agg (u8c x), .agg (u8c y)] (.c (.agg (u8c (joinD x y)))) [] 0 := pair_ok 381#64 x y hx hy
set_option maxHeartbeats 4000000 in
theorem rapply_ok (leaf : List UInt8) (i c : Int) (S : List (List UInt8)) (m : Nat) (hl : leaf.length = 32) (hS : all32 S) (hm : S.length = m) (hmm : m ≤ 100000) : AC Try.prog 60 [.agg (u8c leaf), .agg [iv i, iv c, .sl 32 m (dc S)]] (.tup [.c (.agg (u8c (appP leaf i c S).1)), .c (iv (appP leaf i c S).2)]) [] 0 := by
  have hul : (u8c leaf).length = 32 := by rw [u8c_length, hl]
  have hun : (u8c (nodeD leaf)).length = 32 := by rw [u8c_length, nodeD_length]
  by_cases hbad : c < 1 ∨ 4096 < c ∨ i < 0 ∨ c ≤ i
  · skip
    rw [appP_bad hbad]
    have hbad' : c < 1 ∨ 4096 < c ∨ i < 0 ∨ c ≤ i := hbad
    clear hbad
    by_cases b1 : c < 1
    · clear hbad'
      refine ac_enter tabOk (sz := 88) Try.func60 rfl (by rw [Try.ntmps60]; rfl) ?_
      repeat' (first
    | ((with_reducible refine aw_seqk ?_); intro K hK hX)
    | ((with_reducible refine isC_reg ?_); refine aw_prune [0, 1, 2, 3, 4, 5, 6, 7, 8, 9] rfl rfl ?_; with_reducible refine aw_region ?_)
    | ((with_reducible refine isC_draw ?_); refine aw_prune [0, 1, 2, 3, 4, 5, 6, 7, 8, 9] rfl rfl ?_; refine aw_drwF [] ?_)
    | refine stA ?_
    | refine stD ?_
    | (refine hK _ _ _ _ ?_; clear hK hX K)
    | (refine hX _ _ _ _ _ (by simp) ?_; clear hK hX K))
      refine retK_mk (by first | exact .inl rfl | exact .inr rfl) (by exact trivial) (ResL.two (by first | exact ResA.one rfl rfl rfl rfl rfl | exact ResA.agg rfl rfl rfl rfl rfl (by first | exact IsAgg.closed rfl rfl | exact IsAgg.mixed _) | exact ResA.aggr rfl rfl rfl rfl (by first | rfl | with_reducible assumption | (simp <;> fail) | omega | (simp; omega) | assumption)) (ResA.tmp rfl)) (out_t (frzl_cons (by first | exact frz_c cv_rfl | exact frz_c cv_nil | exact frz_ownW rfl rfl (by first | rfl | with_reducible assumption | (simp <;> fail) | omega | (simp; omega) | assumption) | exact frz_eq (frz_c cv_rfl) (by first | rfl | (simp <;> fail) | fail)) (frzl_cons (by first | exact frz_c cv_rfl | exact frz_c cv_nil | exact frz_ownW rfl rfl (by first | rfl | with_reducible assumption | (simp <;> fail) | omega | (simp; omega) | assumption) | exact frz_eq (frz_c cv_rfl) (by first | rfl | (simp <;> fail) | fail)) frzl_nil)))
    · by_cases b2 : 4096 < c
      · clear hbad'
        refine ac_enter tabOk (sz := 88) Try.func60 rfl (by rw [Try.ntmps60]; rfl) ?_
        repeat' (first
    | ((with_reducible refine aw_seqk ?_); intro K hK hX)
    | ((with_reducible refine isC_reg ?_); refine aw_prune [0, 1, 2, 3, 4, 5, 6, 7, 8, 9] rfl rfl ?_; with_reducible refine aw_region ?_)
    | ((with_reducible refine isC_draw ?_); refine aw_prune [0, 1, 2, 3, 4, 5, 6, 7, 8, 9] rfl rfl ?_; refine aw_drwF [] ?_)
    | refine stA ?_
    | refine stD ?_
    | (refine hK _ _ _ _ ?_; clear hK hX K)
    | (refine hX _ _ _ _ _ (by simp) ?_; clear hK hX K))
        refine retK_mk (by first | exact .inl rfl | exact .inr rfl) (by exact trivial) (ResL.two (by first | exact ResA.one rfl rfl rfl rfl rfl | exact ResA.agg rfl rfl rfl rfl rfl (by first | exact IsAgg.closed rfl rfl | exact IsAgg.mixed _) | exact ResA.aggr rfl rfl rfl rfl (by first | rfl | with_reducible assumption | (simp <;> fail) | omega | (simp; omega) | assumption)) (ResA.tmp rfl)) (out_t (frzl_cons (by first | exact frz_c cv_rfl | exact frz_c cv_nil | exact frz_ownW rfl rfl (by first | rfl | with_reducible assumption | (simp <;> fail) | omega | (simp; omega) | assumption) | exact frz_eq (frz_c cv_rfl) (by first | rfl | (simp <;> fail) | fail)) (frzl_cons (by first | exact frz_c cv_rfl | exact frz_c cv_nil | exact frz_ownW rfl rfl (by first | rfl | with_reducible assumption | (simp <;> fail) | omega | (simp; omega) | assumption) | exact frz_eq (frz_c cv_rfl) (by first | rfl | (simp <;> fail) | fail)) frzl_nil)))
      · by_cases b3 : i < 0
        · clear hbad'
          refine ac_enter tabOk (sz := 88) Try.func60 rfl (by rw [Try.ntmps60]; rfl) ?_
          repeat' (first
    | ((with_reducible refine aw_seqk ?_); intro K hK hX)
    | ((with_reducible refine isC_reg ?_); refine aw_prune [0, 1, 2, 3, 4, 5, 6, 7, 8, 9] rfl rfl ?_; with_reducible refine aw_region ?_)
    | ((with_reducible refine isC_draw ?_); refine aw_prune [0, 1, 2, 3, 4, 5, 6, 7, 8, 9] rfl rfl ?_; refine aw_drwF [] ?_)
    | refine stA ?_
    | refine stD ?_
    | (refine hK _ _ _ _ ?_; clear hK hX K)
    | (refine hX _ _ _ _ _ (by simp) ?_; clear hK hX K))
          refine retK_mk (by first | exact .inl rfl | exact .inr rfl) (by exact trivial) (ResL.two (by first | exact ResA.one rfl rfl rfl rfl rfl | exact ResA.agg rfl rfl rfl rfl rfl (by first | exact IsAgg.closed rfl rfl | exact IsAgg.mixed _) | exact ResA.aggr rfl rfl rfl rfl (by first | rfl | with_reducible assumption | (simp <;> fail) | omega | (simp; omega) | assumption)) (ResA.tmp rfl)) (out_t (frzl_cons (by first | exact frz_c cv_rfl | exact frz_c cv_nil | exact frz_ownW rfl rfl (by first | rfl | with_reducible assumption | (simp <;> fail) | omega | (simp; omega) | assumption) | exact frz_eq (frz_c cv_rfl) (by first | rfl | (simp <;> fail) | fail)) (frzl_cons (by first | exact frz_c cv_rfl | exact frz_c cv_nil | exact frz_ownW rfl rfl (by first | rfl | with_reducible assumption | (simp <;> fail) | omega | (simp; omega) | assumption) | exact frz_eq (frz_c cv_rfl) (by first | rfl | (simp <;> fail) | fail)) frzl_nil)))
        · have b4 : c ≤ i := by omega
          clear hbad'
          refine ac_enter tabOk (sz := 88) Try.func60 rfl (by rw [Try.ntmps60]; rfl) ?_
          repeat' (first
    | ((with_reducible refine aw_seqk ?_); intro K hK hX)
    | ((with_reducible refine isC_reg ?_); refine aw_prune [0, 1, 2, 3, 4, 5, 6, 7, 8, 9] rfl rfl ?_; with_reducible refine aw_region ?_)
    | ((with_reducible refine isC_draw ?_); refine aw_prune [0, 1, 2, 3, 4, 5, 6, 7, 8, 9] rfl rfl ?_; refine aw_drwF [] ?_)
    | refine stA ?_
    | refine stD ?_
    | (refine hK _ _ _ _ ?_; clear hK hX K)
    | (refine hX _ _ _ _ _ (by simp) ?_; clear hK hX K))
          refine retK_mk (by first | exact .inl rfl | exact .inr rfl) (by exact trivial) (ResL.two (by first | exact ResA.one rfl rfl rfl rfl rfl | exact ResA.agg rfl rfl rfl rfl rfl (by first | exact IsAgg.closed rfl rfl | exact IsAgg.mixed _) | exact ResA.aggr rfl rfl rfl rfl (by first | rfl | with_reducible assumption | (simp <;> fail) | omega | (simp; omega) | assumption)) (ResA.tmp rfl)) (out_t (frzl_cons (by first | exact frz_c cv_rfl | exact frz_c cv_nil | exact frz_ownW rfl rfl (by first | rfl | with_reducible assumption | (simp <;> fail) | omega | (simp; omega) | assumption) | exact frz_eq (frz_c cv_rfl) (by first | rfl | (simp <;> fail) | fail)) (frzl_cons (by first | exact frz_c cv_rfl | exact frz_c cv_nil | exact frz_ownW rfl rfl (by first | rfl | with_reducible assumption | (simp <;> fail) | omega | (simp; omega) | assumption) | exact frz_eq (frz_c cv_rfl) (by first | rfl | (simp <;> fail) | fail)) frzl_nil)))
  · skip
    have hnb : ¬ (c < 1 ∨ 4096 < c ∨ i < 0 ∨ c ≤ i) := hbad
    obtain ⟨C, rfl⟩ : ∃ C : Nat, c = C := ⟨c.toNat, by omega⟩
    obtain ⟨I, rfl⟩ : ∃ I : Nat, i = I := ⟨i.toNat, by omega⟩
    generalize hap : appP leaf (I : Int) (C : Int) S = r
    rw [appP_good hbad] at hap
    have hC1 : 1 ≤ C := by omega
    have hC2 : C ≤ 4096 := by omega
    have hIC : I < C := by omega
    clear hnb hbad
    have g1 : ¬ ((C : Int) < 1) := by omega
    have g2 : ¬ (4096 < (C : Int)) := by omega
    have g3 : ¬ ((I : Int) < 0) := by omega
    have g4 : ¬ ((C : Int) ≤ (I : Int)) := by omega
    obtain ⟨D, e⟩ := r
    dsimp only
    generalize hR : apl S C I 0 (nodeD leaf) = R at hap
    refine ac_enter tabOk (sz := 88) Try.func60 rfl (by rw [Try.ntmps60]; rfl) ?_
    repeat' (first
    | ((with_reducible refine aw_seqk ?_); intro K hK hX)
    | ((with_reducible refine isC_reg ?_); refine aw_prune [0, 1, 2, 3, 4, 5, 6, 7, 8, 9] rfl rfl ?_; with_reducible refine aw_region ?_)
    | ((with_reducible refine isC_draw ?_); refine aw_prune [0, 1, 2, 3, 4, 5, 6, 7, 8, 9] rfl rfl ?_; refine aw_drwE [] ?_)
    | ((first | with_reducible refine isA_call ?_ | with_reducible refine isE_call ?_); (first | refine zA ?_ | refine zN ?_ | refine zE ?_); (first | refine c0 (rnode_ok leaf hl) ?_))
    | refine stA ?_
    | refine stE ?_
    | (refine hK _ _ _ _ ?_; clear hK hX K)
    | (refine hX _ _ _ _ _ (by simp) ?_; clear hK hX K))
    refine aw_loopk 4 (fun p : List UInt8 × Nat × Nat × Nat => [(3, .ref 1 0), (4, .ref 2 0), (5, .c (iv 0)), (6, .ref 3 0), (7, .c (iv p.2.1)), (8, .c (iv p.2.2.1)), (9, .c (iv p.2.2.2))]) (fun p => [(1, .blk 54 [.c (iv I), .c (iv C), .c (.sl 32 m (dc S))]), (2, .row 35 z32), (3, .row 35 (u8c p.1))]) [] (fun p => p.1.length = 32 ∧ p.2.2.1 < p.2.2.2 ∧ p.2.2.2 ≤ 4096 ∧ p.2.1 ≤ m ∧ apl S p.2.2.2 p.2.2.1 p.2.1 p.1 = R) (fun p => p.2.2.2) (nodeD leaf, 0, I, C) ⟨nodeD_length _, by dsimp only; omega, by dsimp only; omega, by dsimp only; omega, hR⟩ weakA ?_
    rintro ⟨x, u, j, q⟩ ⟨hx, hj, hq, hu, ha⟩ K hK hX
    dsimp only at hx hj hq hu ha hK ⊢
    have hux : (u8c x).length = 32 := by rw [u8c_length, hx]
    by_cases hq1 : q ≤ 1
    · rw [apl_end hq1] at ha
      rw [← ha] at hap
      by_cases hum : u = m
      · obtain ⟨hD, hE⟩ : sealD x C = D ∧ 0 = e := by simpa [finP, hum, hm] using hap
        have hus : (u8c (sealD x C)).length = 32 := by rw [u8c_length, sealD_length]
        repeat' (first
    | ((with_reducible refine aw_seqk ?_); intro K hK hX)
    | ((with_reducible refine isC_reg ?_); refine aw_prune [0, 1, 2, 3, 4, 5, 6, 7, 8, 9] rfl rfl ?_; with_reducible refine aw_region ?_)
    | ((with_reducible refine isC_draw ?_); refine aw_prune [0, 1, 2, 3, 4, 5, 6, 7, 8, 9] rfl rfl ?_; refine aw_drwF [] ?_)
    | ((first | with_reducible refine isA_call ?_ | with_reducible refine isD_call ?_); (first | refine zA ?_ | refine zN ?_ | refine zD ?_); (first | refine c0 (rroot_ok x C hx (by omega)) ?_))
    | refine stA ?_
    | refine stD ?_
    | (refine hK _ _ _ _ ?_; clear hK hX K)
    | (refine hX _ _ _ _ _ (by simp) ?_; clear hK hX K))
        rw [← hD, ← hE]
        refine retK_mk (by first | exact .inl rfl | exact .inr rfl) (by exact trivial) (ResL.two (by first | exact ResA.one rfl rfl rfl rfl rfl | exact ResA.agg rfl rfl rfl rfl rfl (by first | exact IsAgg.closed rfl rfl | exact IsAgg.mixed _) | exact ResA.aggr rfl rfl rfl rfl (by first | rfl | with_reducible assumption | (simp <;> fail) | omega | (simp; omega) | assumption)) (ResA.tmp rfl)) (out_t (frzl_cons (by first | exact frz_c cv_rfl | exact frz_c cv_nil | exact frz_ownW rfl rfl (by first | rfl | with_reducible assumption | (simp <;> fail) | omega | (simp; omega) | assumption) | exact frz_eq (frz_c cv_rfl) (by first | rfl | (simp <;> fail) | fail)) (frzl_cons (by first | exact frz_c cv_rfl | exact frz_c cv_nil | exact frz_ownW rfl rfl (by first | rfl | with_reducible assumption | (simp <;> fail) | omega | (simp; omega) | assumption) | exact frz_eq (frz_c cv_rfl) (by first | rfl | (simp <;> fail) | fail)) frzl_nil)))
      · obtain ⟨hD, hE⟩ : zero32 = D ∧ 1 = e := by simpa [finP, hum, hm] using hap
        repeat' (first
    | ((with_reducible refine aw_seqk ?_); intro K hK hX)
    | ((with_reducible refine isC_reg ?_); refine aw_prune [0, 1, 2, 3, 4, 5, 6, 7, 8, 9] rfl rfl ?_; with_reducible refine aw_region ?_)
    | ((with_reducible refine isC_draw ?_); refine aw_prune [0, 1, 2, 3, 4, 5, 6, 7, 8, 9] rfl rfl ?_; refine aw_drwF [] ?_)
    | refine stA ?_
    | refine stD ?_
    | (refine hK _ _ _ _ ?_; clear hK hX K)
    | (refine hX _ _ _ _ _ (by simp) ?_; clear hK hX K))
        rw [← hD, ← hE]
        refine retK_mk (by first | exact .inl rfl | exact .inr rfl) (by exact trivial) (ResL.two (by first | exact ResA.one rfl rfl rfl rfl rfl | exact ResA.agg rfl rfl rfl rfl rfl (by first | exact IsAgg.closed rfl rfl | exact IsAgg.mixed _) | exact ResA.aggr rfl rfl rfl rfl (by first | rfl | with_reducible assumption | (simp <;> fail) | omega | (simp; omega) | assumption)) (ResA.tmp rfl)) (out_t (frzl_cons (by first | exact frz_c cv_rfl | exact frz_c cv_nil | exact frz_ownW rfl rfl (by first | rfl | with_reducible assumption | (simp <;> fail) | omega | (simp; omega) | assumption) | exact frz_eq (frz_c cv_rfl) (by first | rfl | (simp <;> fail) | fail)) (frzl_cons (by first | exact frz_c cv_rfl | exact frz_c cv_nil | exact frz_ownW rfl rfl (by first | rfl | with_reducible assumption | (simp <;> fail) | omega | (simp; omega) | assumption) | exact frz_eq (frz_c cv_rfl) (by first | rfl | (simp <;> fail) | fail)) frzl_nil)))
    · rcases Nat.mod_two_eq_zero_or_one j with hp | hp
      · by_cases h3 : j + 1 < q
        · by_cases hlt : u < m
          · have hd := getD32 hS u (by omega)
            have hud : (u8c (S.getD u [])).length = 32 := by rw [u8c_length, hd]
            rw [apl_even hq1 hp h3 (by omega)] at ha
            have huj : (u8c (joinD x (S.getD u []))).length = 32 := by rw [u8c_length, joinD_length]
            have hjo := rjoin_ok x (S.getD u []) hx hd
            repeat' (first
    | ((with_reducible refine aw_seqk ?_); intro K hK hX)
    | ((with_reducible refine isC_reg ?_); refine aw_prune [0, 1, 2, 3, 4, 5, 6, 7, 8, 9] rfl rfl ?_; with_reducible refine aw_region ?_)
    | ((with_reducible refine isC_draw ?_); refine aw_prune [0, 1, 2, 3, 4, 5, 6, 7, 8, 9] rfl rfl ?_; refine aw_drwF [] ?_)
    | ((first | with_reducible refine isA_call ?_ | with_reducible refine isD_call ?_); (first | refine zA ?_ | refine zN ?_ | refine zD ?_); (first | refine c0 (hjo) ?_))
    | ((first | ((with_reducible refine isA_any ?_); refine xA ?_) | ((with_reducible refine isDk_any ?_); refine xD ?_)); (first | ((with_reducible refine e_bin ?_); (first | refine ex_i (s_xor1 (b := j) (c := j + 1) (by omega) (if_pos hp) rfl rfl) ?_)) | ((with_reducible refine e_load ?_); (first | refine ex_i (s_loadAr tabOk rfl rfl rfl rfl (by first | exact dig_at hS u (by omega) | exact whole0 (by first | rfl | omega) | rfl) (by first | rfl | with_reducible assumption | (simp <;> fail) | omega | (simp; omega) | assumption)) ?_ | refine ex_i (s_loadAi tabOk rfl rfl rfl (by first | exact dig_at hS u (by omega) | exact whole0 (by first | rfl | omega) | rfl) (by first | rfl | with_reducible assumption | (simp <;> fail) | omega | (simp; omega) | assumption)) ?_)) | ((with_reducible refine e_slice ?_); (first | refine ex_i (s_slArri tabOk rfl rfl rfl rfl (by first | exact Bd.no | exact Bd.yes rfl (by first | with_reducible exact cast_self _ | with_reducible exact cast_lit _ | exact nt (by omega) | rfl)) (by first | exact Bd.no | exact Bd.yes rfl (by first | with_reducible exact cast_self _ | with_reducible exact cast_lit _ | exact nt (by omega) | rfl)) (by first | exact Nat.le_of_ble_eq_true rfl | omega | (simp; omega)) (by first | exact Nat.le_of_ble_eq_true rfl | omega | (simp; omega)) (by decide) (by first | exact dig_at hS u (by omega) | exact whole0 (by first | rfl | omega) | rfl) (by first | rfl | with_reducible assumption | (simp <;> fail) | omega | (simp; omega) | assumption)) ?_))))
    | refine stA ?_
    | refine stD ?_
    | (refine hK _ _ _ _ ?_; clear hK hX K)
    | (refine hX _ _ _ _ _ (by simp) ?_; clear hK hX K))
            exact ⟨(joinD x (S.getD u []), u + 1, j / 2, (q + 1) / 2), ⟨joinD_length _ _, by dsimp only; omega, by dsimp only; omega, by dsimp only; omega, ha⟩, by dsimp only; omega, weakA⟩
          · rw [apl_out hq1 (.inr h3) (by omega)] at ha
            rw [← ha] at hap
            obtain ⟨hD, hE⟩ : zero32 = D ∧ 1 = e := by simpa [finP] using hap
            repeat' (first
    | ((with_reducible refine aw_seqk ?_); intro K hK hX)
    | ((with_reducible refine isC_reg ?_); refine aw_prune [0, 1, 2, 3, 4, 5, 6, 7, 8, 9] rfl rfl ?_; with_reducible refine aw_region ?_)
    | ((with_reducible refine isC_draw ?_); refine aw_prune [0, 1, 2, 3, 4, 5, 6, 7, 8, 9] rfl rfl ?_; refine aw_drwF [] ?_)
    | ((first | ((with_reducible refine isA_any ?_); refine xA ?_) | ((with_reducible refine isDk_any ?_); refine xD ?_)); (first | ((with_reducible refine e_bin ?_); (first | refine ex_i (s_xor1 (b := j) (c := j + 1) (by omega) (if_pos hp) rfl rfl) ?_))))
    | refine stA ?_
    | refine stD ?_
    | (refine hK _ _ _ _ ?_; clear hK hX K)
    | (refine hX _ _ _ _ _ (by simp) ?_; clear hK hX K))
            rw [← hD, ← hE]
            refine retK_mk (by first | exact .inl rfl | exact .inr rfl) (by exact trivial) (ResL.two (by first | exact ResA.one rfl rfl rfl rfl rfl | exact ResA.agg rfl rfl rfl rfl rfl (by first | exact IsAgg.closed rfl rfl | exact IsAgg.mixed _) | exact ResA.aggr rfl rfl rfl rfl (by first | rfl | with_reducible assumption | (simp <;> fail) | omega | (simp; omega) | assumption)) (ResA.tmp rfl)) (out_t (frzl_cons (by first | exact frz_c cv_rfl | exact frz_c cv_nil | exact frz_ownW rfl rfl (by first | rfl | with_reducible assumption | (simp <;> fail) | omega | (simp; omega) | assumption) | exact frz_eq (frz_c cv_rfl) (by first | rfl | (simp <;> fail) | fail)) (frzl_cons (by first | exact frz_c cv_rfl | exact frz_c cv_nil | exact frz_ownW rfl rfl (by first | rfl | with_reducible assumption | (simp <;> fail) | omega | (simp; omega) | assumption) | exact frz_eq (frz_c cv_rfl) (by first | rfl | (simp <;> fail) | fail)) frzl_nil)))
        · rw [apl_lone hq1 hp h3] at ha
          repeat' (first
    | ((with_reducible refine aw_seqk ?_); intro K hK hX)
    | ((with_reducible refine isC_reg ?_); refine aw_prune [0, 1, 2, 3, 4, 5, 6, 7, 8, 9] rfl rfl ?_; with_reducible refine aw_region ?_)
    | ((with_reducible refine isC_draw ?_); refine aw_prune [0, 1, 2, 3, 4, 5, 6, 7, 8, 9] rfl rfl ?_; refine aw_drwF [] ?_)
    | ((first | ((with_reducible refine isA_any ?_); refine xA ?_) | ((with_reducible refine isDk_any ?_); refine xD ?_)); (first | ((with_reducible refine e_bin ?_); (first | refine ex_i (s_xor1 (b := j) (c := j + 1) (by omega) (if_pos hp) rfl rfl) ?_))))
    | refine stA ?_
    | refine stD ?_
    | (refine hK _ _ _ _ ?_; clear hK hX K)
    | (refine hX _ _ _ _ _ (by simp) ?_; clear hK hX K))
          exact ⟨(x, u, j / 2, (q + 1) / 2), ⟨hx, by dsimp only; omega, by dsimp only; omega, by dsimp only; omega, ha⟩, by dsimp only; omega, weakA⟩
      · by_cases hlt : u < m
        · have hd := getD32 hS u (by omega)
          have hud : (u8c (S.getD u [])).length = 32 := by rw [u8c_length, hd]
          rw [apl_odd hq1 hp (by omega)] at ha
          have huj : (u8c (joinD (S.getD u []) x)).length = 32 := by rw [u8c_length, joinD_length]
          have hjo := rjoin_ok (S.getD u []) x hd hx
          repeat' (first
    | ((with_reducible refine aw_seqk ?_); intro K hK hX)
    | ((with_reducible refine isC_reg ?_); refine aw_prune [0, 1, 2, 3, 4, 5, 6, 7, 8, 9] rfl rfl ?_; with_reducible refine aw_region ?_)
    | ((with_reducible refine isC_draw ?_); refine aw_prune [0, 1, 2, 3, 4, 5, 6, 7, 8, 9] rfl rfl ?_; refine aw_drwF [] ?_)
    | ((first | with_reducible refine isA_call ?_ | with_reducible refine isD_call ?_); (first | refine zA ?_ | refine zN ?_ | refine zD ?_); (first | refine c0 (hjo) ?_))
    | ((first | ((with_reducible refine isA_any ?_); refine xA ?_) | ((with_reducible refine isDk_any ?_); refine xD ?_)); (first | ((with_reducible refine e_bin ?_); (first | refine ex_i (s_xor1 (b := j) (c := j - 1) (by omega) (if_neg (by omega)) rfl rfl) ?_)) | ((with_reducible refine e_load ?_); (first | refine ex_i (s_loadAr tabOk rfl rfl rfl rfl (by first | exact dig_at hS u (by omega) | exact whole0 (by first | rfl | omega) | rfl) (by first | rfl | with_reducible assumption | (simp <;> fail) | omega | (simp; omega) | assumption)) ?_ | refine ex_i (s_loadAi tabOk rfl rfl rfl (by first | exact dig_at hS u (by omega) | exact whole0 (by first | rfl | omega) | rfl) (by first | rfl | with_reducible assumption | (simp <;> fail) | omega | (simp; omega) | assumption)) ?_)) | ((with_reducible refine e_slice ?_); (first | refine ex_i (s_slArri tabOk rfl rfl rfl rfl (by first | exact Bd.no | exact Bd.yes rfl (by first | with_reducible exact cast_self _ | with_reducible exact cast_lit _ | exact nt (by omega) | rfl)) (by first | exact Bd.no | exact Bd.yes rfl (by first | with_reducible exact cast_self _ | with_reducible exact cast_lit _ | exact nt (by omega) | rfl)) (by first | exact Nat.le_of_ble_eq_true rfl | omega | (simp; omega)) (by first | exact Nat.le_of_ble_eq_true rfl | omega | (simp; omega)) (by decide) (by first | exact dig_at hS u (by omega) | exact whole0 (by first | rfl | omega) | rfl) (by first | rfl | with_reducible assumption | (simp <;> fail) | omega | (simp; omega) | assumption)) ?_))))
    | refine stA ?_
    | refine stD ?_
    | (refine hK _ _ _ _ ?_; clear hK hX K)
    | (refine hX _ _ _ _ _ (by simp) ?_; clear hK hX K))
          exact ⟨(joinD (S.getD u []) x, u + 1, j / 2, (q + 1) / 2), ⟨joinD_length _ _, by dsimp only; omega, by dsimp only; omega, by dsimp only; omega, ha⟩, by dsimp only; omega, weakA⟩
        · rw [apl_out hq1 (.inl hp) (by omega)] at ha
          rw [← ha] at hap
          obtain ⟨hD, hE⟩ : zero32 = D ∧ 1 = e := by simpa [finP] using hap
          repeat' (first
    | ((with_reducible refine aw_seqk ?_); intro K hK hX)
    | ((with_reducible refine isC_reg ?_); refine aw_prune [0, 1, 2, 3, 4, 5, 6, 7, 8, 9] rfl rfl ?_; with_reducible refine aw_region ?_)
    | ((with_reducible refine isC_draw ?_); refine aw_prune [0, 1, 2, 3, 4, 5, 6, 7, 8, 9] rfl rfl ?_; refine aw_drwF [] ?_)
    | ((first | ((with_reducible refine isA_any ?_); refine xA ?_) | ((with_reducible refine isDk_any ?_); refine xD ?_)); (first | ((with_reducible refine e_bin ?_); (first | refine ex_i (s_xor1 (b := j) (c := j - 1) (by omega) (if_neg (by omega)) rfl rfl) ?_))))
    | refine stA ?_
    | refine stD ?_
    | (refine hK _ _ _ _ ?_; clear hK hX K)
    | (refine hX _ _ _ _ _ (by simp) ?_; clear hK hX K))
          rw [← hD, ← hE]
          refine retK_mk (by first | exact .inl rfl | exact .inr rfl) (by exact trivial) (ResL.two (by first | exact ResA.one rfl rfl rfl rfl rfl | exact ResA.agg rfl rfl rfl rfl rfl (by first | exact IsAgg.closed rfl rfl | exact IsAgg.mixed _) | exact ResA.aggr rfl rfl rfl rfl (by first | rfl | with_reducible assumption | (simp <;> fail) | omega | (simp; omega) | assumption)) (ResA.tmp rfl)) (out_t (frzl_cons (by first | exact frz_c cv_rfl | exact frz_c cv_nil | exact frz_ownW rfl rfl (by first | rfl | with_reducible assumption | (simp <;> fail) | omega | (simp; omega) | assumption) | exact frz_eq (frz_c cv_rfl) (by first | rfl | (simp <;> fail) | fail)) (frzl_cons (by first | exact frz_c cv_rfl | exact frz_c cv_nil | exact frz_ownW rfl rfl (by first | rfl | with_reducible assumption | (simp <;> fail) | omega | (simp; omega) | assumption) | exact frz_eq (frz_c cv_rfl) (by first | rfl | (simp <;> fail) | fail)) frzl_nil)))
set_option maxHeartbeats 4000000 in
theorem apply_ok (leaf : List UInt8) (i c : Int) (S : List (List UInt8)) (m : Nat) (hl : leaf.length = 32) (hS : all32 S) (hm : S.length = m) (hmm : m ≤ 100000) : AC Try.prog 59 [.agg (u8c leaf), .agg [iv i, iv c, .sl 32 m (dc S)]] (.tup [.c (.agg (u8c (appP leaf i c S).1)), .c (iv (appP leaf i c S).2)]) [] 0 := by
  have hul : (u8c leaf).length = 32 := by rw [u8c_length, hl]
  have hun : (u8c (nodeD leaf)).length = 32 := by rw [u8c_length, nodeD_length]
  by_cases hbad : c < 1 ∨ 4096 < c ∨ i < 0 ∨ c ≤ i
  · skip
    rw [appP_bad hbad]
    have hbad' : c < 1 ∨ 4096 < c ∨ i < 0 ∨ c ≤ i := hbad
    clear hbad
    by_cases b1 : c < 1
    · clear hbad'
      refine ac_enter tabOk (sz := 84) Try.func59 rfl (by rw [Try.ntmps59]; rfl) ?_
      repeat' (first
    | ((with_reducible refine aw_seqk ?_); intro K hK hX)
    | ((with_reducible refine isC_reg ?_); refine aw_prune [0, 1, 2, 3, 4, 5, 6, 7, 8, 9] rfl rfl ?_; with_reducible refine aw_region ?_)
    | ((with_reducible refine isC_draw ?_); refine aw_prune [0, 1, 2, 3, 4, 5, 6, 7, 8, 9] rfl rfl ?_; refine aw_drwF [] ?_)
    | refine stA ?_
    | refine stD ?_
    | (refine hK _ _ _ _ ?_; clear hK hX K)
    | (refine hX _ _ _ _ _ (by simp) ?_; clear hK hX K))
      refine retK_mk (by first | exact .inl rfl | exact .inr rfl) (by exact ⟨apply_idle, apply_idle_b, trivial⟩) (ResL.two (by first | exact ResA.one rfl rfl rfl rfl rfl | exact ResA.agg rfl rfl rfl rfl rfl (by first | exact IsAgg.closed rfl rfl | exact IsAgg.mixed _) | exact ResA.aggr rfl rfl rfl rfl (by first | rfl | with_reducible assumption | (simp <;> fail) | omega | (simp; omega) | assumption)) (by first | exact ResA.one rfl rfl rfl rfl rfl | exact ResA.agg rfl rfl rfl rfl rfl (by first | exact IsAgg.closed rfl rfl | exact IsAgg.mixed _) | exact ResA.aggr rfl rfl rfl rfl (by first | rfl | with_reducible assumption | (simp <;> fail) | omega | (simp; omega) | assumption))) (out_t (frzl_cons (by first | exact frz_c cv_rfl | exact frz_c cv_nil | exact frz_ownW rfl rfl (by first | rfl | with_reducible assumption | (simp <;> fail) | omega | (simp; omega) | assumption) | exact frz_eq (frz_c cv_rfl) (by first | rfl | (simp <;> fail) | fail)) (frzl_cons (by first | exact frz_c cv_rfl | exact frz_c cv_nil | exact frz_ownW rfl rfl (by first | rfl | with_reducible assumption | (simp <;> fail) | omega | (simp; omega) | assumption) | exact frz_eq (frz_c cv_rfl) (by first | rfl | (simp <;> fail) | fail)) frzl_nil)))
    · by_cases b2 : 4096 < c
      · clear hbad'
        refine ac_enter tabOk (sz := 84) Try.func59 rfl (by rw [Try.ntmps59]; rfl) ?_
        repeat' (first
    | ((with_reducible refine aw_seqk ?_); intro K hK hX)
    | ((with_reducible refine isC_reg ?_); refine aw_prune [0, 1, 2, 3, 4, 5, 6, 7, 8, 9] rfl rfl ?_; with_reducible refine aw_region ?_)
    | ((with_reducible refine isC_draw ?_); refine aw_prune [0, 1, 2, 3, 4, 5, 6, 7, 8, 9] rfl rfl ?_; refine aw_drwF [] ?_)
    | refine stA ?_
    | refine stD ?_
    | (refine hK _ _ _ _ ?_; clear hK hX K)
    | (refine hX _ _ _ _ _ (by simp) ?_; clear hK hX K))
        refine retK_mk (by first | exact .inl rfl | exact .inr rfl) (by exact ⟨apply_idle, apply_idle_b, trivial⟩) (ResL.two (by first | exact ResA.one rfl rfl rfl rfl rfl | exact ResA.agg rfl rfl rfl rfl rfl (by first | exact IsAgg.closed rfl rfl | exact IsAgg.mixed _) | exact ResA.aggr rfl rfl rfl rfl (by first | rfl | with_reducible assumption | (simp <;> fail) | omega | (simp; omega) | assumption)) (by first | exact ResA.one rfl rfl rfl rfl rfl | exact ResA.agg rfl rfl rfl rfl rfl (by first | exact IsAgg.closed rfl rfl | exact IsAgg.mixed _) | exact ResA.aggr rfl rfl rfl rfl (by first | rfl | with_reducible assumption | (simp <;> fail) | omega | (simp; omega) | assumption))) (out_t (frzl_cons (by first | exact frz_c cv_rfl | exact frz_c cv_nil | exact frz_ownW rfl rfl (by first | rfl | with_reducible assumption | (simp <;> fail) | omega | (simp; omega) | assumption) | exact frz_eq (frz_c cv_rfl) (by first | rfl | (simp <;> fail) | fail)) (frzl_cons (by first | exact frz_c cv_rfl | exact frz_c cv_nil | exact frz_ownW rfl rfl (by first | rfl | with_reducible assumption | (simp <;> fail) | omega | (simp; omega) | assumption) | exact frz_eq (frz_c cv_rfl) (by first | rfl | (simp <;> fail) | fail)) frzl_nil)))
      · by_cases b3 : i < 0
        · clear hbad'
          refine ac_enter tabOk (sz := 84) Try.func59 rfl (by rw [Try.ntmps59]; rfl) ?_
          repeat' (first
    | ((with_reducible refine aw_seqk ?_); intro K hK hX)
    | ((with_reducible refine isC_reg ?_); refine aw_prune [0, 1, 2, 3, 4, 5, 6, 7, 8, 9] rfl rfl ?_; with_reducible refine aw_region ?_)
    | ((with_reducible refine isC_draw ?_); refine aw_prune [0, 1, 2, 3, 4, 5, 6, 7, 8, 9] rfl rfl ?_; refine aw_drwF [] ?_)
    | refine stA ?_
    | refine stD ?_
    | (refine hK _ _ _ _ ?_; clear hK hX K)
    | (refine hX _ _ _ _ _ (by simp) ?_; clear hK hX K))
          refine retK_mk (by first | exact .inl rfl | exact .inr rfl) (by exact ⟨apply_idle, apply_idle_b, trivial⟩) (ResL.two (by first | exact ResA.one rfl rfl rfl rfl rfl | exact ResA.agg rfl rfl rfl rfl rfl (by first | exact IsAgg.closed rfl rfl | exact IsAgg.mixed _) | exact ResA.aggr rfl rfl rfl rfl (by first | rfl | with_reducible assumption | (simp <;> fail) | omega | (simp; omega) | assumption)) (by first | exact ResA.one rfl rfl rfl rfl rfl | exact ResA.agg rfl rfl rfl rfl rfl (by first | exact IsAgg.closed rfl rfl | exact IsAgg.mixed _) | exact ResA.aggr rfl rfl rfl rfl (by first | rfl | with_reducible assumption | (simp <;> fail) | omega | (simp; omega) | assumption))) (out_t (frzl_cons (by first | exact frz_c cv_rfl | exact frz_c cv_nil | exact frz_ownW rfl rfl (by first | rfl | with_reducible assumption | (simp <;> fail) | omega | (simp; omega) | assumption) | exact frz_eq (frz_c cv_rfl) (by first | rfl | (simp <;> fail) | fail)) (frzl_cons (by first | exact frz_c cv_rfl | exact frz_c cv_nil | exact frz_ownW rfl rfl (by first | rfl | with_reducible assumption | (simp <;> fail) | omega | (simp; omega) | assumption) | exact frz_eq (frz_c cv_rfl) (by first | rfl | (simp <;> fail) | fail)) frzl_nil)))
        · have b4 : c ≤ i := by omega
          clear hbad'
          refine ac_enter tabOk (sz := 84) Try.func59 rfl (by rw [Try.ntmps59]; rfl) ?_
          repeat' (first
    | ((with_reducible refine aw_seqk ?_); intro K hK hX)
    | ((with_reducible refine isC_reg ?_); refine aw_prune [0, 1, 2, 3, 4, 5, 6, 7, 8, 9] rfl rfl ?_; with_reducible refine aw_region ?_)
    | ((with_reducible refine isC_draw ?_); refine aw_prune [0, 1, 2, 3, 4, 5, 6, 7, 8, 9] rfl rfl ?_; refine aw_drwF [] ?_)
    | refine stA ?_
    | refine stD ?_
    | (refine hK _ _ _ _ ?_; clear hK hX K)
    | (refine hX _ _ _ _ _ (by simp) ?_; clear hK hX K))
          refine retK_mk (by first | exact .inl rfl | exact .inr rfl) (by exact ⟨apply_idle, apply_idle_b, trivial⟩) (ResL.two (by first | exact ResA.one rfl rfl rfl rfl rfl | exact ResA.agg rfl rfl rfl rfl rfl (by first | exact IsAgg.closed rfl rfl | exact IsAgg.mixed _) | exact ResA.aggr rfl rfl rfl rfl (by first | rfl | with_reducible assumption | (simp <;> fail) | omega | (simp; omega) | assumption)) (by first | exact ResA.one rfl rfl rfl rfl rfl | exact ResA.agg rfl rfl rfl rfl rfl (by first | exact IsAgg.closed rfl rfl | exact IsAgg.mixed _) | exact ResA.aggr rfl rfl rfl rfl (by first | rfl | with_reducible assumption | (simp <;> fail) | omega | (simp; omega) | assumption))) (out_t (frzl_cons (by first | exact frz_c cv_rfl | exact frz_c cv_nil | exact frz_ownW rfl rfl (by first | rfl | with_reducible assumption | (simp <;> fail) | omega | (simp; omega) | assumption) | exact frz_eq (frz_c cv_rfl) (by first | rfl | (simp <;> fail) | fail)) (frzl_cons (by first | exact frz_c cv_rfl | exact frz_c cv_nil | exact frz_ownW rfl rfl (by first | rfl | with_reducible assumption | (simp <;> fail) | omega | (simp; omega) | assumption) | exact frz_eq (frz_c cv_rfl) (by first | rfl | (simp <;> fail) | fail)) frzl_nil)))
  · skip
    have hnb : ¬ (c < 1 ∨ 4096 < c ∨ i < 0 ∨ c ≤ i) := hbad
    obtain ⟨C, rfl⟩ : ∃ C : Nat, c = C := ⟨c.toNat, by omega⟩
    obtain ⟨I, rfl⟩ : ∃ I : Nat, i = I := ⟨i.toNat, by omega⟩
    generalize hap : appP leaf (I : Int) (C : Int) S = r
    rw [appP_good hbad] at hap
    have hC1 : 1 ≤ C := by omega
    have hC2 : C ≤ 4096 := by omega
    have hIC : I < C := by omega
    clear hnb hbad
    have g1 : ¬ ((C : Int) < 1) := by omega
    have g2 : ¬ (4096 < (C : Int)) := by omega
    have g3 : ¬ ((I : Int) < 0) := by omega
    have g4 : ¬ ((C : Int) ≤ (I : Int)) := by omega
    obtain ⟨D, e⟩ := r
    dsimp only
    generalize hR : apl S C I 0 (nodeD leaf) = R at hap
    refine ac_enter tabOk (sz := 84) Try.func59 rfl (by rw [Try.ntmps59]; rfl) ?_
    repeat' (first
    | ((with_reducible refine aw_seqk ?_); intro K hK hX)
    | ((with_reducible refine isC_reg ?_); refine aw_prune [0, 1, 2, 3, 4, 5, 6, 7, 8, 9] rfl rfl ?_; with_reducible refine aw_region ?_)
    | ((with_reducible refine isC_draw ?_); refine aw_prune [0, 1, 2, 3, 4, 5, 6, 7, 8, 9] rfl rfl ?_; refine aw_drwE [] ?_)
    | ((first | with_reducible refine isA_call ?_ | with_reducible refine isE_call ?_); (first | refine zA ?_ | refine zN ?_ | refine zE ?_); (first | refine c0 (node_ok leaf hl) ?_))
    | refine stA ?_
    | refine stE ?_
    | (refine hK _ _ _ _ ?_; clear hK hX K)
    | (refine hX _ _ _ _ _ (by simp) ?_; clear hK hX K))
    refine aw_loopk 5 (fun p : List UInt8 × Nat × Nat × Nat => [(3, .ref 1 0), (4, .ref 2 0), (5, .ref 3 0), (6, .ref 4 0), (7, .c (iv p.2.1)), (8, .c (iv p.2.2.1)), (9, .c (iv p.2.2.2))]) (fun p => [(1, .blk 54 [.c (iv I), .c (iv C), .c (.sl 32 m (dc S))]), (2, .row 35 z32), (3, .blk 39 [.c (iv 0)]),(4, .row 35 (u8c p.1))]) [(some apF, [.ref 2 0, .ref 3 0])] (fun p => p.1.length = 32 ∧ p.2.2.1 < p.2.2.2 ∧ p.2.2.2 ≤ 4096 ∧ p.2.1 ≤ m ∧ apl S p.2.2.2 p.2.2.1 p.2.1 p.1 = R) (fun p => p.2.2.2) (nodeD leaf, 0, I, C) ⟨nodeD_length _, by dsimp only; omega, by dsimp only; omega, by dsimp only; omega, hR⟩ weakA ?_
    rintro ⟨x, u, j, q⟩ ⟨hx, hj, hq, hu, ha⟩ K hK hX
    dsimp only at hx hj hq hu ha hK ⊢
    have hux : (u8c x).length = 32 := by rw [u8c_length, hx]
    by_cases hq1 : q ≤ 1
    · rw [apl_end hq1] at ha
      rw [← ha] at hap
      by_cases hum : u = m
      · obtain ⟨hD, hE⟩ : sealD x C = D ∧ 0 = e := by simpa [finP, hum, hm] using hap
        have hus : (u8c (sealD x C)).length = 32 := by rw [u8c_length, sealD_length]
        repeat' (first
    | ((with_reducible refine aw_seqk ?_); intro K hK hX)
    | ((with_reducible refine isC_reg ?_); refine aw_prune [0, 1, 2, 3, 4, 5, 6, 7, 8, 9] rfl rfl ?_; with_reducible refine aw_region ?_)
    | ((with_reducible refine isC_draw ?_); refine aw_prune [0, 1, 2, 3, 4, 5, 6, 7, 8, 9] rfl rfl ?_; refine aw_drwF [] ?_)
    | ((first | with_reducible refine isA_call ?_ | with_reducible refine isD_call ?_); (first | refine zA ?_ | refine zN ?_ | refine zD ?_); (first | refine c0 (seal_ok x C hx (by omega)) ?_))
    | refine stA ?_
    | refine stD ?_
    | (refine hK _ _ _ _ ?_; clear hK hX K)
    | (refine hX _ _ _ _ _ (by simp) ?_; clear hK hX K))
        rw [← hD, ← hE]
        refine retK_mk (by first | exact .inl rfl | exact .inr rfl) (by exact ⟨apply_idle, apply_idle_b, trivial⟩) (ResL.two (by first | exact ResA.one rfl rfl rfl rfl rfl | exact ResA.agg rfl rfl rfl rfl rfl (by first | exact IsAgg.closed rfl rfl | exact IsAgg.mixed _) | exact ResA.aggr rfl rfl rfl rfl (by first | rfl | with_reducible assumption | (simp <;> fail) | omega | (simp; omega) | assumption)) (by first | exact ResA.one rfl rfl rfl rfl rfl | exact ResA.agg rfl rfl rfl rfl rfl (by first | exact IsAgg.closed rfl rfl | exact IsAgg.mixed _) | exact ResA.aggr rfl rfl rfl rfl (by first | rfl | with_reducible assumption | (simp <;> fail) | omega | (simp; omega) | assumption))) (out_t (frzl_cons (by first | exact frz_c cv_rfl | exact frz_c cv_nil | exact frz_ownW rfl rfl (by first | rfl | with_reducible assumption | (simp <;> fail) | omega | (simp; omega) | assumption) | exact frz_eq (frz_c cv_rfl) (by first | rfl | (simp <;> fail) | fail)) (frzl_cons (by first | exact frz_c cv_rfl | exact frz_c cv_nil | exact frz_ownW rfl rfl (by first | rfl | with_reducible assumption | (simp <;> fail) | omega | (simp; omega) | assumption) | exact frz_eq (frz_c cv_rfl) (by first | rfl | (simp <;> fail) | fail)) frzl_nil)))
      · obtain ⟨hD, hE⟩ : zero32 = D ∧ 1 = e := by simpa [finP, hum, hm] using hap
        repeat' (first
    | ((with_reducible refine aw_seqk ?_); intro K hK hX)
    | ((with_reducible refine isC_reg ?_); refine aw_prune [0, 1, 2, 3, 4, 5, 6, 7, 8, 9] rfl rfl ?_; with_reducible refine aw_region ?_)
    | ((with_reducible refine isC_draw ?_); refine aw_prune [0, 1, 2, 3, 4, 5, 6, 7, 8, 9] rfl rfl ?_; refine aw_drwF [] ?_)
    | refine stA ?_
    | refine stD ?_
    | (refine hK _ _ _ _ ?_; clear hK hX K)
    | (refine hX _ _ _ _ _ (by simp) ?_; clear hK hX K))
        rw [← hD, ← hE]
        refine retK_mk (by first | exact .inl rfl | exact .inr rfl) (by exact ⟨apply_idle, apply_idle_b, trivial⟩) (ResL.two (by first | exact ResA.one rfl rfl rfl rfl rfl | exact ResA.agg rfl rfl rfl rfl rfl (by first | exact IsAgg.closed rfl rfl | exact IsAgg.mixed _) | exact ResA.aggr rfl rfl rfl rfl (by first | rfl | with_reducible assumption | (simp <;> fail) | omega | (simp; omega) | assumption)) (by first | exact ResA.one rfl rfl rfl rfl rfl | exact ResA.agg rfl rfl rfl rfl rfl (by first | exact IsAgg.closed rfl rfl | exact IsAgg.mixed _) | exact ResA.aggr rfl rfl rfl rfl (by first | rfl | with_reducible assumption | (simp <;> fail) | omega | (simp; omega) | assumption))) (out_t (frzl_cons (by first | exact frz_c cv_rfl | exact frz_c cv_nil | exact frz_ownW rfl rfl (by first | rfl | with_reducible assumption | (simp <;> fail) | omega | (simp; omega) | assumption) | exact frz_eq (frz_c cv_rfl) (by first | rfl | (simp <;> fail) | fail)) (frzl_cons (by first | exact frz_c cv_rfl | exact frz_c cv_nil | exact frz_ownW rfl rfl (by first | rfl | with_reducible assumption | (simp <;> fail) | omega | (simp; omega) | assumption) | exact frz_eq (frz_c cv_rfl) (by first | rfl | (simp <;> fail) | fail)) frzl_nil)))
    · rcases Nat.mod_two_eq_zero_or_one j with hp | hp
      · by_cases h3 : j + 1 < q
        · by_cases hlt : u < m
          · have hd := getD32 hS u (by omega)
            have hud : (u8c (S.getD u [])).length = 32 := by rw [u8c_length, hd]
            rw [apl_even hq1 hp h3 (by omega)] at ha
            have huj : (u8c (joinD x (S.getD u []))).length = 32 := by rw [u8c_length, joinD_length]
            have hjo := pairJ_ok x (S.getD u []) hx hd
            repeat' (first
    | ((with_reducible refine aw_seqk ?_); intro K hK hX)
    | ((with_reducible refine isC_reg ?_); refine aw_prune [0, 1, 2, 3, 4, 5, 6, 7, 8, 9] rfl rfl ?_; with_reducible refine aw_region ?_)
    | ((with_reducible refine isC_draw ?_); refine aw_prune [0, 1, 2, 3, 4, 5, 6, 7, 8, 9] rfl rfl ?_; refine aw_drwF [] ?_)
    | ((first | with_reducible refine isA_call ?_ | with_reducible refine isD_call ?_); (first | refine zA ?_ | refine zN ?_ | refine zD ?_); (first | refine c0 (hjo) ?_))
    | ((first | ((with_reducible refine isA_any ?_); refine xA ?_) | ((with_reducible refine isDk_any ?_); refine xD ?_)); (first | ((with_reducible refine e_bin ?_); (first | refine ex_i (s_xor1 (b := j) (c := j + 1) (by omega) (if_pos hp) rfl rfl) ?_)) | ((with_reducible refine e_load ?_); (first | refine ex_i (s_loadAr tabOk rfl rfl rfl rfl (by first | exact dig_at hS u (by omega) | exact whole0 (by first | rfl | omega) | rfl) (by first | rfl | with_reducible assumption | (simp <;> fail) | omega | (simp; omega) | assumption)) ?_ | refine ex_i (s_loadAi tabOk rfl rfl rfl (by first | exact dig_at hS u (by omega) | exact whole0 (by first | rfl | omega) | rfl) (by first | rfl | with_reducible assumption | (simp <;> fail) | omega | (simp; omega) | assumption)) ?_)) | ((with_reducible refine e_slice ?_); (first | refine ex_i (s_slArri tabOk rfl rfl rfl rfl (by first | exact Bd.no | exact Bd.yes rfl (by first | with_reducible exact cast_self _ | with_reducible exact cast_lit _ | exact nt (by omega) | rfl)) (by first | exact Bd.no | exact Bd.yes rfl (by first | with_reducible exact cast_self _ | with_reducible exact cast_lit _ | exact nt (by omega) | rfl)) (by first | exact Nat.le_of_ble_eq_true rfl | omega | (simp; omega)) (by first | exact Nat.le_of_ble_eq_true rfl | omega | (simp; omega)) (by decide) (by first | exact dig_at hS u (by omega) | exact whole0 (by first | rfl | omega) | rfl) (by first | rfl | with_reducible assumption | (simp <;> fail) | omega | (simp; omega) | assumption)) ?_))))
    | refine stA ?_
    | refine stD ?_
    | (refine hK _ _ _ _ ?_; clear hK hX K)
    | (refine hX _ _ _ _ _ (by simp) ?_; clear hK hX K))
            exact ⟨(joinD x (S.getD u []), u + 1, j / 2, (q + 1) / 2), ⟨joinD_length _ _, by dsimp only; omega, by dsimp only; omega, by dsimp only; omega, ha⟩, by dsimp only; omega, weakA⟩
          · rw [apl_out hq1 (.inr h3) (by omega)] at ha
            rw [← ha] at hap
            obtain ⟨hD, hE⟩ : zero32 = D ∧ 1 = e := by simpa [finP] using hap
            repeat' (first
    | ((with_reducible refine aw_seqk ?_); intro K hK hX)
    | ((with_reducible refine isC_reg ?_); refine aw_prune [0, 1, 2, 3, 4, 5, 6, 7, 8, 9] rfl rfl ?_; with_reducible refine aw_region ?_)
    | ((with_reducible refine isC_draw ?_); refine aw_prune [0, 1, 2, 3, 4, 5, 6, 7, 8, 9] rfl rfl ?_; refine aw_drwF [] ?_)
    | ((first | ((with_reducible refine isA_any ?_); refine xA ?_) | ((with_reducible refine isDk_any ?_); refine xD ?_)); (first | ((with_reducible refine e_bin ?_); (first | refine ex_i (s_xor1 (b := j) (c := j + 1) (by omega) (if_pos hp) rfl rfl) ?_))))
    | refine stA ?_
    | refine stD ?_
    | (refine hK _ _ _ _ ?_; clear hK hX K)
    | (refine hX _ _ _ _ _ (by simp) ?_; clear hK hX K))
            rw [← hD, ← hE]
            refine retK_mk (by first | exact .inl rfl | exact .inr rfl) (by exact ⟨apply_idle, apply_idle_b, trivial⟩) (ResL.two (by first | exact ResA.one rfl rfl rfl rfl rfl | exact ResA.agg rfl rfl rfl rfl rfl (by first | exact IsAgg.closed rfl rfl | exact IsAgg.mixed _) | exact ResA.aggr rfl rfl rfl rfl (by first | rfl | with_reducible assumption | (simp <;> fail) | omega | (simp; omega) | assumption)) (by first | exact ResA.one rfl rfl rfl rfl rfl | exact ResA.agg rfl rfl rfl rfl rfl (by first | exact IsAgg.closed rfl rfl | exact IsAgg.mixed _) | exact ResA.aggr rfl rfl rfl rfl (by first | rfl | with_reducible assumption | (simp <;> fail) | omega | (simp; omega) | assumption))) (out_t (frzl_cons (by first | exact frz_c cv_rfl | exact frz_c cv_nil | exact frz_ownW rfl rfl (by first | rfl | with_reducible assumption | (simp <;> fail) | omega | (simp; omega) | assumption) | exact frz_eq (frz_c cv_rfl) (by first | rfl | (simp <;> fail) | fail)) (frzl_cons (by first | exact frz_c cv_rfl | exact frz_c cv_nil | exact frz_ownW rfl rfl (by first | rfl | with_reducible assumption | (simp <;> fail) | omega | (simp; omega) | assumption) | exact frz_eq (frz_c cv_rfl) (by first | rfl | (simp <;> fail) | fail)) frzl_nil)))
        · rw [apl_lone hq1 hp h3] at ha
          repeat' (first
    | ((with_reducible refine aw_seqk ?_); intro K hK hX)
    | ((with_reducible refine isC_reg ?_); refine aw_prune [0, 1, 2, 3, 4, 5, 6, 7, 8, 9] rfl rfl ?_; with_reducible refine aw_region ?_)
    | ((with_reducible refine isC_draw ?_); refine aw_prune [0, 1, 2, 3, 4, 5, 6, 7, 8, 9] rfl rfl ?_; refine aw_drwF [] ?_)
    | ((first | ((with_reducible refine isA_any ?_); refine xA ?_) | ((with_reducible refine isDk_any ?_); refine xD ?_)); (first | ((with_reducible refine e_bin ?_); (first | refine ex_i (s_xor1 (b := j) (c := j + 1) (by omega) (if_pos hp) rfl rfl) ?_))))
    | refine stA ?_
    | refine stD ?_
    | (refine hK _ _ _ _ ?_; clear hK hX K)
    | (refine hX _ _ _ _ _ (by simp) ?_; clear hK hX K))
          exact ⟨(x, u, j / 2, (q + 1) / 2), ⟨hx, by dsimp only; omega, by dsimp only; omega, by dsimp only; omega, ha⟩, by dsimp only; omega, weakA⟩
      · by_cases hlt : u < m
        · have hd := getD32 hS u (by omega)
          have hud : (u8c (S.getD u [])).length = 32 := by rw [u8c_length, hd]
          rw [apl_odd hq1 hp (by omega)] at ha
          have huj : (u8c (joinD (S.getD u []) x)).length = 32 := by rw [u8c_length, joinD_length]
          have hjo := pairJ_ok (S.getD u []) x hd hx
          repeat' (first
    | ((with_reducible refine aw_seqk ?_); intro K hK hX)
    | ((with_reducible refine isC_reg ?_); refine aw_prune [0, 1, 2, 3, 4, 5, 6, 7, 8, 9] rfl rfl ?_; with_reducible refine aw_region ?_)
    | ((with_reducible refine isC_draw ?_); refine aw_prune [0, 1, 2, 3, 4, 5, 6, 7, 8, 9] rfl rfl ?_; refine aw_drwF [] ?_)
    | ((first | with_reducible refine isA_call ?_ | with_reducible refine isD_call ?_); (first | refine zA ?_ | refine zN ?_ | refine zD ?_); (first | refine c0 (hjo) ?_))
    | ((first | ((with_reducible refine isA_any ?_); refine xA ?_) | ((with_reducible refine isDk_any ?_); refine xD ?_)); (first | ((with_reducible refine e_bin ?_); (first | refine ex_i (s_xor1 (b := j) (c := j - 1) (by omega) (if_neg (by omega)) rfl rfl) ?_)) | ((with_reducible refine e_load ?_); (first | refine ex_i (s_loadAr tabOk rfl rfl rfl rfl (by first | exact dig_at hS u (by omega) | exact whole0 (by first | rfl | omega) | rfl) (by first | rfl | with_reducible assumption | (simp <;> fail) | omega | (simp; omega) | assumption)) ?_ | refine ex_i (s_loadAi tabOk rfl rfl rfl (by first | exact dig_at hS u (by omega) | exact whole0 (by first | rfl | omega) | rfl) (by first | rfl | with_reducible assumption | (simp <;> fail) | omega | (simp; omega) | assumption)) ?_)) | ((with_reducible refine e_slice ?_); (first | refine ex_i (s_slArri tabOk rfl rfl rfl rfl (by first | exact Bd.no | exact Bd.yes rfl (by first | with_reducible exact cast_self _ | with_reducible exact cast_lit _ | exact nt (by omega) | rfl)) (by first | exact Bd.no | exact Bd.yes rfl (by first | with_reducible exact cast_self _ | with_reducible exact cast_lit _ | exact nt (by omega) | rfl)) (by first | exact Nat.le_of_ble_eq_true rfl | omega | (simp; omega)) (by first | exact Nat.le_of_ble_eq_true rfl | omega | (simp; omega)) (by decide) (by first | exact dig_at hS u (by omega) | exact whole0 (by first | rfl | omega) | rfl) (by first | rfl | with_reducible assumption | (simp <;> fail) | omega | (simp; omega) | assumption)) ?_))))
    | refine stA ?_
    | refine stD ?_
    | (refine hK _ _ _ _ ?_; clear hK hX K)
    | (refine hX _ _ _ _ _ (by simp) ?_; clear hK hX K))
          exact ⟨(joinD (S.getD u []) x, u + 1, j / 2, (q + 1) / 2), ⟨joinD_length _ _, by dsimp only; omega, by dsimp only; omega, by dsimp only; omega, ha⟩, by dsimp only; omega, weakA⟩
        · rw [apl_out hq1 (.inl hp) (by omega)] at ha
          rw [← ha] at hap
          obtain ⟨hD, hE⟩ : zero32 = D ∧ 1 = e := by simpa [finP] using hap
          repeat' (first
    | ((with_reducible refine aw_seqk ?_); intro K hK hX)
    | ((with_reducible refine isC_reg ?_); refine aw_prune [0, 1, 2, 3, 4, 5, 6, 7, 8, 9] rfl rfl ?_; with_reducible refine aw_region ?_)
    | ((with_reducible refine isC_draw ?_); refine aw_prune [0, 1, 2, 3, 4, 5, 6, 7, 8, 9] rfl rfl ?_; refine aw_drwF [] ?_)
    | ((first | ((with_reducible refine isA_any ?_); refine xA ?_) | ((with_reducible refine isDk_any ?_); refine xD ?_)); (first | ((with_reducible refine e_bin ?_); (first | refine ex_i (s_xor1 (b := j) (c := j - 1) (by omega) (if_neg (by omega)) rfl rfl) ?_))))
    | refine stA ?_
    | refine stD ?_
    | (refine hK _ _ _ _ ?_; clear hK hX K)
    | (refine hX _ _ _ _ _ (by simp) ?_; clear hK hX K))
          rw [← hD, ← hE]
          refine retK_mk (by first | exact .inl rfl | exact .inr rfl) (by exact ⟨apply_idle, apply_idle_b, trivial⟩) (ResL.two (by first | exact ResA.one rfl rfl rfl rfl rfl | exact ResA.agg rfl rfl rfl rfl rfl (by first | exact IsAgg.closed rfl rfl | exact IsAgg.mixed _) | exact ResA.aggr rfl rfl rfl rfl (by first | rfl | with_reducible assumption | (simp <;> fail) | omega | (simp; omega) | assumption)) (by first | exact ResA.one rfl rfl rfl rfl rfl | exact ResA.agg rfl rfl rfl rfl rfl (by first | exact IsAgg.closed rfl rfl | exact IsAgg.mixed _) | exact ResA.aggr rfl rfl rfl rfl (by first | rfl | with_reducible assumption | (simp <;> fail) | omega | (simp; omega) | assumption))) (out_t (frzl_cons (by first | exact frz_c cv_rfl | exact frz_c cv_nil | exact frz_ownW rfl rfl (by first | rfl | with_reducible assumption | (simp <;> fail) | omega | (simp; omega) | assumption) | exact frz_eq (frz_c cv_rfl) (by first | rfl | (simp <;> fail) | fail)) (frzl_cons (by first | exact frz_c cv_rfl | exact frz_c cv_nil | exact frz_ownW rfl rfl (by first | rfl | with_reducible assumption | (simp <;> fail) | omega | (simp; omega) | assumption) | exact frz_eq (frz_c cv_rfl) (by first | rfl | (simp <;> fail) | fail)) frzl_nil)))
def verP (root leaf : List UInt8) (i c : Int) (S : List (List UInt8)) : Bool := decide ((appP leaf i c S).2 = 0) && decide ((appP leaf i c S).1 = root)
set_option maxHeartbeats 4000000 in
theorem verify_ok (root leaf : List UInt8) (i c : Int) (S : List (List UInt8)) (m : Nat) (hr : root.length = 32) (hl : leaf.length = 32) (hS : all32 S) (hm : S.length = m) (hmm : m ≤ 100000) : AC Try.prog 61 [.agg (u8c root), .agg (u8c leaf), .agg [iv i, iv c, .sl 32 m (dc S)]] (.c (.v (.bool (verP root leaf i c S)))) [] 0 := by
  have hul : (u8c leaf).length = 32 := by rw [u8c_length, hl]
  have hur : (u8c root).length = 32 := by rw [u8c_length, hr]
  have hap := apply_ok leaf i c S m hl hS hm hmm
  have hal := appP_length leaf i c S
  unfold verP
  generalize appP leaf i c S = r at hap hal ⊢
  obtain ⟨D, e⟩ := r
  dsimp only at hap hal ⊢
  have huD : (u8c D).length = 32 := by rw [u8c_length, hal]
  by_cases he : e = 0
  · have he' : (e : Int) = 0 := by omega
    rw [decide_eq_true he, Bool.true_and]
    refine ac_enter tabOk (sz := 22) Try.func61 rfl (by rw [Try.ntmps61]; rfl) ?_
    repeat' (first
    | ((with_reducible refine aw_seqk ?_); intro K hK hX)
    | ((with_reducible refine isC_reg ?_); refine aw_prune [0, 1, 2, 3, 4, 5, 6, 7, 8] rfl rfl ?_; with_reducible refine aw_region ?_)
    | ((with_reducible refine isA_call ?_); (first | refine zA ?_ | refine zN ?_); (first | refine c0 (hap) ?_))
    | (((with_reducible refine isA_any ?_); refine xA ?_); (first | ((with_reducible refine e_bin ?_); (first | refine ex_i (s_eqlU tabOk (by kernel_rfl) rfl rfl rfl rfl rfl rfl rfl rfl rfl hal hr rfl) ?_))))
    | refine stA ?_
    | (refine hK _ _ _ _ ?_; clear hK hX K)
    | (refine hX _ _ _ _ _ (by simp) ?_; clear hK hX K))
    refine retK_mk (by first | exact .inl rfl | exact .inr rfl) (by exact trivial) (ResL.one (ResA.tmp rfl)) (by first | exact out_c (by first | exact frz_c cv_rfl | exact frz_c cv_nil | exact frz_ownW rfl rfl (by first | rfl | with_reducible assumption | (simp <;> fail) | omega | (simp; omega) | assumption) | exact frz_eq (frz_c cv_rfl) (by first | rfl | (simp <;> fail) | fail)) | exact out_own rfl rfl)
  · have he' : ¬ (e : Int) = 0 := by omega
    rw [decide_eq_false he, Bool.false_and]
    refine ac_enter tabOk (sz := 22) Try.func61 rfl (by rw [Try.ntmps61]; rfl) ?_
    repeat' (first
    | ((with_reducible refine aw_seqk ?_); intro K hK hX)
    | ((with_reducible refine isC_reg ?_); refine aw_prune [0, 1, 2, 3, 4, 5, 6, 7, 8] rfl rfl ?_; with_reducible refine aw_region ?_)
    | ((with_reducible refine isA_call ?_); (first | refine zA ?_ | refine zN ?_); (first | refine c0 (hap) ?_))
    | refine stA ?_
    | (refine hK _ _ _ _ ?_; clear hK hX K)
    | (refine hX _ _ _ _ _ (by simp) ?_; clear hK hX K))
    refine retK_mk (by first | exact .inl rfl | exact .inr rfl) (by exact trivial) (ResL.one (ResA.tmp rfl)) (by first | exact out_c (by first | exact frz_c cv_rfl | exact frz_c cv_nil | exact frz_ownW rfl rfl (by first | rfl | with_reducible assumption | (simp <;> fail) | omega | (simp; omega) | assumption) | exact frz_eq (frz_c cv_rfl) (by first | rfl | (simp <;> fail) | fail)) | exact out_own rfl rfl)
set_option maxHeartbeats 4000000 in
theorem rverify_ok (root leaf : List UInt8) (i c : Int) (S : List (List UInt8)) (m : Nat) (hr : root.length = 32) (hl : leaf.length = 32) (hS : all32 S) (hm : S.length = m) (hmm : m ≤ 100000) : AC Try.prog 88 [.agg (u8c root), .agg (u8c leaf), .agg [iv i, iv c, .sl 32 m (dc S)]] (.c (.v (.bool (verP root leaf i c S)))) [] 0 := by
  have hul : (u8c leaf).length = 32 := by rw [u8c_length, hl]
  have hur : (u8c root).length = 32 := by rw [u8c_length, hr]
  have hap := rapply_ok leaf i c S m hl hS hm hmm
  have hal := appP_length leaf i c S
  unfold verP
  generalize appP leaf i c S = r at hap hal ⊢
  obtain ⟨D, e⟩ := r
  dsimp only at hap hal ⊢
  have huD : (u8c D).length = 32 := by rw [u8c_length, hal]
  by_cases he : e = 0
  · have he' : (e : Int) = 0 := by omega
    rw [decide_eq_true he, Bool.true_and]
    refine ac_enter tabOk (sz := 22) Try.func88 rfl (by rw [Try.ntmps88]; rfl) ?_
    repeat' (first
    | ((with_reducible refine aw_seqk ?_); intro K hK hX)
    | ((with_reducible refine isC_reg ?_); refine aw_prune [0, 1, 2, 3, 4, 5, 6, 7, 8] rfl rfl ?_; with_reducible refine aw_region ?_)
    | ((with_reducible refine isA_call ?_); (first | refine zA ?_ | refine zN ?_); (first | refine c0 (hap) ?_))
    | (((with_reducible refine isA_any ?_); refine xA ?_); (first | ((with_reducible refine e_bin ?_); (first | refine ex_i (s_eqlU tabOk (by kernel_rfl) rfl rfl rfl rfl rfl rfl rfl rfl rfl hal hr rfl) ?_))))
    | refine stA ?_
    | (refine hK _ _ _ _ ?_; clear hK hX K)
    | (refine hX _ _ _ _ _ (by simp) ?_; clear hK hX K))
    refine retK_mk (by first | exact .inl rfl | exact .inr rfl) (by exact trivial) (ResL.one (ResA.tmp rfl)) (by first | exact out_c (by first | exact frz_c cv_rfl | exact frz_c cv_nil | exact frz_ownW rfl rfl (by first | rfl | with_reducible assumption | (simp <;> fail) | omega | (simp; omega) | assumption) | exact frz_eq (frz_c cv_rfl) (by first | rfl | (simp <;> fail) | fail)) | exact out_own rfl rfl)
  · have he' : ¬ (e : Int) = 0 := by omega
    rw [decide_eq_false he, Bool.false_and]
    refine ac_enter tabOk (sz := 22) Try.func88 rfl (by rw [Try.ntmps88]; rfl) ?_
    repeat' (first
    | ((with_reducible refine aw_seqk ?_); intro K hK hX)
    | ((with_reducible refine isC_reg ?_); refine aw_prune [0, 1, 2, 3, 4, 5, 6, 7, 8] rfl rfl ?_; with_reducible refine aw_region ?_)
    | ((with_reducible refine isA_call ?_); (first | refine zA ?_ | refine zN ?_); (first | refine c0 (hap) ?_))
    | refine stA ?_
    | (refine hK _ _ _ _ ?_; clear hK hX K)
    | (refine hX _ _ _ _ _ (by simp) ?_; clear hK hX K))
    refine retK_mk (by first | exact .inl rfl | exact .inr rfl) (by exact trivial) (ResL.one (ResA.tmp rfl)) (by first | exact out_c (by first | exact frz_c cv_rfl | exact frz_c cv_nil | exact frz_ownW rfl rfl (by first | rfl | with_reducible assumption | (simp <;> fail) | omega | (simp; omega) | assumption) | exact frz_eq (frz_c cv_rfl) (by first | rfl | (simp <;> fail) | fail)) | exact out_own rfl rfl)
end Go.Proofs.Ytgofigkhdjjlmaa
