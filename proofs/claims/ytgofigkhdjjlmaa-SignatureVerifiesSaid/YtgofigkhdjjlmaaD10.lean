/-
  Parse (walk), as the program has it.
-/
import Derived.Test.YtgofigkhdjjlmaaD9
import Derived.Test.YtgofigkhdjjlmaaWK
import Derived.Test.YtgofigkhdjjlmaaAvS
import Derived.Test.YtgofigkhdjjlmaaAvT
set_option linter.unusedVariables false
set_option linter.unusedSimpArgs false
namespace Go.Proofs.Ytgofigkhdjjlmaa
open Go Go.RowKit Go.Av
set_option maxRecDepth 100000
theorem parse_idle : Idle Try.prog 75 2 := by
  intro us w hl
  obtain ⟨u0, u1, rfl⟩ : ∃ u0 u1, us = [u0, u1] := by
    match us, hl with | [u0, u1], _ => exact ⟨u0, u1, rfl⟩
  refine callsD_of_wpS Try.func75 rfl fun c₀ cs hu => ?_
  apply wpS_seq
  apply wpS_region
  simp [wpOpsS, go_sem, recoverD, hu, Try.ntmps75, Exit.thenS]
  refine wpS_cond (t := false) (by simp [Act.eval, Array.replicate]) ?_
  simp only [Bool.false_eq_true, if_false]
  refine wpS_of_wp (wp_skip ?_)
  cases c₀
  simp_all [bodyPostS, results, Try.results75]
theorem parse_idle_b : Body Try.prog 75 := by unfold Body; kernel_rfl
theorem pval_good (s : ByteArray) (h : good s) : pval s = (List.range 32).map (pb s) := by unfold pval; rw [if_pos h]
theorem pval_bad (s : ByteArray) (h : ¬ good s) : pval s = List.replicate 32 0 := by unfold pval; rw [if_neg h]
theorem perr_good (s : ByteArray) (h : good s) : perr s = 0 := by unfold perr; rw [if_pos h]
theorem perr_bad (s : ByteArray) (h : ¬ good s) : perr s = 2 := by unfold perr; rw [if_neg h]
attribute [local irreducible] Still Adds AWL AW Drw AC AWR Weak Frz Src RetK Out InK
set_option maxHeartbeats 4000000 in
theorem parse_ok (s : ByteArray) : AC Try.prog 36 [.v (.string s)] (.tup [.c (.agg (u8c (pval s))), .c (iv (perr s))]) [] 0 := by
  by_cases hn : s.size = 64
  · refine ac_enter tabOk (sz := 50) Try.func36 rfl (by rw [Try.ntmps36]; rfl) ?_
    repeat' (first
    | ((with_reducible refine aw_seqk ?_); intro K hK hX)
    | ((with_reducible refine isC_reg ?_); refine aw_prune [0, 2, 3, 4, 5, 6, 7, 8, 9, 15] rfl rfl ?_; with_reducible refine aw_region ?_)
    | refine stA ?_
    | (refine hK _ _ _ _ ?_; clear hK hX K)
    | (refine hX _ _ _ _ _ (by simp) ?_; clear hK hX K))
    refine aw_loopk 3 (fun i : Nat => [(0, .c (.v (.string s))), (2, .ref 0 0), (3, .ref 1 0), (4, .ref 2 0), (15, .c (iv i))]) (fun i => [(0, .row 35 z32), (1, .blk 39 [.c (iv 0)]), (2, .row 35 (u8c (flg (pb s) 32 i)))]) _ (fun i => i ≤ 32 ∧ ∀ j, j < 2 * i → (dg (sb s j)).isSome = true) (fun i => 32 - i) 0 ⟨by omega, fun j hj => by omega⟩ weakA ?_
    rintro i ⟨hi, hd⟩ K hK hX
    have hlen : (u8c (flg (pb s) 32 i)).length = 32 := by rw [u8c_length, flg_length _ _ _ (by omega)]
    by_cases hlt : i < 32
    · repeat' (first
    | ((with_reducible refine aw_seqk ?_); intro K hK hX)
    | ((with_reducible refine isC_reg ?_); refine aw_prune [0, 2, 3, 4, 5, 6, 7, 8, 9, 15] rfl rfl ?_; with_reducible refine aw_region ?_)
    | ((with_reducible refine isA_call ?_); (first | refine zA ?_ | refine zN ?_); (first | refine c0 (digit_ok (sb s (2 * i))) ?_ | refine c0 (digit_ok (sb s (2 * i + 1))) ?_))
    | (((with_reducible refine isA_any ?_); refine xA ?_); (first | ((with_reducible refine e_load ?_); (first | refine ex_i (s_load1 tabOk rfl rfl rfl rfl (by exact sb_at s _ (by omega))) ?_ | refine ex_i (s_load1r tabOk rfl rfl rfl rfl (by exact sb_at s _ (by omega))) ?_ | refine ex_i (s_load1i tabOk rfl rfl rfl (by exact sb_at s _ (by omega))) ?_)) | ((with_reducible refine e_ix ?_); (first | refine ex_i (s_ixV1 tabOk rfl rfl (by first | with_reducible exact cast_self _ | with_reducible exact cast_lit _ | exact nt (by omega) | rfl) rfl rfl rfl rfl rfl (by first | exact Nat.le_of_ble_eq_true rfl | omega | (simp; omega)) (by exact sb_at s _ (by omega))) ?_ | refine ex_i (s_ixStr tabOk rfl rfl (by first | with_reducible exact cast_self _ | with_reducible exact cast_lit _ | exact nt (by omega) | rfl) rfl rfl (by exact sb_at s _ (by omega))) ?_))))
    | refine stA ?_
    | (refine hK _ _ _ _ ?_; clear hK hX K)
    | (refine hX _ _ _ _ _ (by simp) ?_; clear hK hX K))
      have n1 := dg_lt (sb s (2 * i))
      have n2 := dg_lt (sb s (2 * i + 1))
      by_cases d1 : (dg (sb s (2 * i))).isSome = true
      · have g1 : ((!(dg (sb s (2 * i))).isSome) == false) = true := by rw [d1]; rfl
        have p1 : (!(dg (sb s (2 * i))).isSome) = false := by rw [d1]; rfl
        by_cases d2 : (dg (sb s (2 * i + 1))).isSome = true
        · have p2 : (!(dg (sb s (2 * i + 1))).isSome) = false := by rw [d2]; rfl
          repeat' (first
    | ((with_reducible refine aw_seqk ?_); intro K hK hX)
    | ((with_reducible refine isC_reg ?_); refine aw_prune [0, 2, 3, 4, 5, 6, 7, 8, 9, 15] rfl rfl ?_; with_reducible refine aw_region ?_)
    | (((with_reducible refine isA_any ?_); refine xA ?_); (first | ((with_reducible refine e_bin ?_); (first | refine ex_i (s_shl4 n1 rfl rfl) ?_ | refine ex_i (s_or4 n1 n2 rfl rfl) ?_))))
    | ((with_reducible refine isA_store ?_); (refine awl_store1r tabOk g_none rfl rfl rfl rfl rfl rfl (by first | omega | exact Nat.le_of_ble_eq_true rfl | omega | (simp; omega)) ?_))
    | refine stA ?_
    | (refine hK _ _ _ _ ?_; clear hK hX K)
    | (refine hX _ _ _ _ _ (by simp) ?_; clear hK hX K))
          have hp := pb_nat s i
          simp only [dv] at hp
          rw [← hp]
          exact ⟨i + 1, ⟨by omega, fun j hj => by
            rcases Nat.lt_or_ge j (2 * i) with h | h
            · exact hd j h
            · rcases Nat.eq_or_lt_of_le h with h | h
              · rw [← h]; exact d1
              · rw [show j = 2 * i + 1 by omega]; exact d2⟩, by omega, (by refine weak_mk rfl ?_ ?_ rfl <;> (repeat' (first | exact weakE_nil | exact weakH_nil | refine weakE_cons rfl (by first | rfl | (exact congrArg (AObj.row 35) (flg_set (pb s) 32 i hlt)) | exact own_eq rfl rfl (by omega) | exact int_eq (by omega) | (simp <;> fail) | (congr 4; omega) | (congr 3; omega) | (congr 2; omega)) rfl ?_ | refine weakH_cons rfl (by first | rfl | (exact congrArg (AObj.row 35) (flg_set (pb s) 32 i hlt)) | exact own_eq rfl rfl (by omega) | exact int_eq (by omega) | (simp <;> fail) | (congr 4; omega) | (congr 3; omega) | (congr 2; omega)) rfl ?_)))⟩
        · have p2 : (!(dg (sb s (2 * i + 1))).isSome) = true := by cases h : (dg (sb s (2 * i + 1))).isSome <;> simp_all
          have hg : ¬ good s := fun h => d2 (h.2 _ (by omega))
          repeat' (first
    | ((with_reducible refine aw_seqk ?_); intro K hK hX)
    | ((with_reducible refine isC_reg ?_); refine aw_prune [0, 2, 3, 4, 5, 6, 7, 8, 9, 15] rfl rfl ?_; with_reducible refine aw_region ?_)
    | refine stA ?_
    | (refine hK _ _ _ _ ?_; clear hK hX K)
    | (refine hX _ _ _ _ _ (by simp) ?_; clear hK hX K))
          rw [pval_bad s hg, perr_bad s hg]
          refine retK_mk (by first | exact .inl rfl | exact .inr rfl) (by exact ⟨parse_idle, parse_idle_b, trivial⟩) (ResL.two (by first | exact ResA.one rfl rfl rfl rfl rfl | exact ResA.agg rfl rfl rfl rfl rfl (by first | exact IsAgg.closed rfl rfl | exact IsAgg.mixed _) | exact ResA.aggr rfl rfl rfl rfl (by first | rfl | with_reducible assumption | (simp <;> fail) | omega | (simp; omega) | assumption)) (by first | exact ResA.one rfl rfl rfl rfl rfl | exact ResA.agg rfl rfl rfl rfl rfl (by first | exact IsAgg.closed rfl rfl | exact IsAgg.mixed _) | exact ResA.aggr rfl rfl rfl rfl (by first | rfl | with_reducible assumption | (simp <;> fail) | omega | (simp; omega) | assumption))) (out_t (frzl_cons (by first | exact frz_c cv_rfl | exact frz_c cv_nil | exact frz_ownW rfl rfl (by first | rfl | with_reducible assumption | (simp <;> fail) | omega | (simp; omega) | assumption) | exact frz_eq (frz_c cv_rfl) (by first | rfl | (simp <;> fail) | fail)) (frzl_cons (by first | exact frz_c cv_rfl | exact frz_c cv_nil | exact frz_ownW rfl rfl (by first | rfl | with_reducible assumption | (simp <;> fail) | omega | (simp; omega) | assumption) | exact frz_eq (frz_c cv_rfl) (by first | rfl | (simp <;> fail) | fail)) frzl_nil)))
      · have g1 : ((!(dg (sb s (2 * i))).isSome) == false) = false := by cases h : (dg (sb s (2 * i))).isSome <;> simp_all
        have p1 : (!(dg (sb s (2 * i))).isSome) = true := by cases h : (dg (sb s (2 * i))).isSome <;> simp_all
        have hg : ¬ good s := fun h => d1 (h.2 _ (by omega))
        repeat' (first
    | ((with_reducible refine aw_seqk ?_); intro K hK hX)
    | ((with_reducible refine isC_reg ?_); refine aw_prune [0, 2, 3, 4, 5, 6, 7, 8, 9, 15] rfl rfl ?_; with_reducible refine aw_region ?_)
    | refine stA ?_
    | (refine hK _ _ _ _ ?_; clear hK hX K)
    | (refine hX _ _ _ _ _ (by simp) ?_; clear hK hX K))
        rw [pval_bad s hg, perr_bad s hg]
        refine retK_mk (by first | exact .inl rfl | exact .inr rfl) (by exact ⟨parse_idle, parse_idle_b, trivial⟩) (ResL.two (by first | exact ResA.one rfl rfl rfl rfl rfl | exact ResA.agg rfl rfl rfl rfl rfl (by first | exact IsAgg.closed rfl rfl | exact IsAgg.mixed _) | exact ResA.aggr rfl rfl rfl rfl (by first | rfl | with_reducible assumption | (simp <;> fail) | omega | (simp; omega) | assumption)) (by first | exact ResA.one rfl rfl rfl rfl rfl | exact ResA.agg rfl rfl rfl rfl rfl (by first | exact IsAgg.closed rfl rfl | exact IsAgg.mixed _) | exact ResA.aggr rfl rfl rfl rfl (by first | rfl | with_reducible assumption | (simp <;> fail) | omega | (simp; omega) | assumption))) (out_t (frzl_cons (by first | exact frz_c cv_rfl | exact frz_c cv_nil | exact frz_ownW rfl rfl (by first | rfl | with_reducible assumption | (simp <;> fail) | omega | (simp; omega) | assumption) | exact frz_eq (frz_c cv_rfl) (by first | rfl | (simp <;> fail) | fail)) (frzl_cons (by first | exact frz_c cv_rfl | exact frz_c cv_nil | exact frz_ownW rfl rfl (by first | rfl | with_reducible assumption | (simp <;> fail) | omega | (simp; omega) | assumption) | exact frz_eq (frz_c cv_rfl) (by first | rfl | (simp <;> fail) | fail)) frzl_nil)))
    · obtain rfl : i = 32 := by omega
      have hg : good s := ⟨hn, hd⟩
      repeat' (first
    | ((with_reducible refine aw_seqk ?_); intro K hK hX)
    | ((with_reducible refine isC_reg ?_); refine aw_prune [0, 2, 3, 4, 5, 6, 7, 8, 9, 15] rfl rfl ?_; with_reducible refine aw_region ?_)
    | refine stA ?_
    | (refine hK _ _ _ _ ?_; clear hK hX K)
    | (refine hX _ _ _ _ _ (by simp) ?_; clear hK hX K))
      rw [pval_good s hg, perr_good s hg, ← flg_full]
      refine retK_mk (by first | exact .inl rfl | exact .inr rfl) (by exact ⟨parse_idle, parse_idle_b, trivial⟩) (ResL.two (by first | exact ResA.one rfl rfl rfl rfl rfl | exact ResA.agg rfl rfl rfl rfl rfl (by first | exact IsAgg.closed rfl rfl | exact IsAgg.mixed _) | exact ResA.aggr rfl rfl rfl rfl (by first | rfl | with_reducible assumption | (simp <;> fail) | omega | (simp; omega) | assumption)) (by first | exact ResA.one rfl rfl rfl rfl rfl | exact ResA.agg rfl rfl rfl rfl rfl (by first | exact IsAgg.closed rfl rfl | exact IsAgg.mixed _) | exact ResA.aggr rfl rfl rfl rfl (by first | rfl | with_reducible assumption | (simp <;> fail) | omega | (simp; omega) | assumption))) (out_t (frzl_cons (by first | exact frz_c cv_rfl | exact frz_c cv_nil | exact frz_ownW rfl rfl (by first | rfl | with_reducible assumption | (simp <;> fail) | omega | (simp; omega) | assumption) | exact frz_eq (frz_c cv_rfl) (by first | rfl | (simp <;> fail) | fail)) (frzl_cons (by first | exact frz_c cv_rfl | exact frz_c cv_nil | exact frz_ownW rfl rfl (by first | rfl | with_reducible assumption | (simp <;> fail) | omega | (simp; omega) | assumption) | exact frz_eq (frz_c cv_rfl) (by first | rfl | (simp <;> fail) | fail)) frzl_nil)))
  · have hg : ¬ good s := fun h => hn h.1
    have p1 : decide ((s.size : Int) ≠ 64) = true := decide_eq_true (by omega)
    rw [pval_bad s hg, perr_bad s hg]
    refine ac_enter tabOk (sz := 50) Try.func36 rfl (by rw [Try.ntmps36]; rfl) ?_
    repeat' (first
    | ((with_reducible refine aw_seqk ?_); intro K hK hX)
    | ((with_reducible refine isC_reg ?_); refine aw_prune [0, 2, 3, 4, 5, 6, 7, 8, 9, 15] rfl rfl ?_; with_reducible refine aw_region ?_)
    | refine stA ?_
    | (refine hK _ _ _ _ ?_; clear hK hX K)
    | (refine hX _ _ _ _ _ (by simp) ?_; clear hK hX K))
    refine retK_mk (by first | exact .inl rfl | exact .inr rfl) (by exact ⟨parse_idle, parse_idle_b, trivial⟩) (ResL.two (by first | exact ResA.one rfl rfl rfl rfl rfl | exact ResA.agg rfl rfl rfl rfl rfl (by first | exact IsAgg.closed rfl rfl | exact IsAgg.mixed _) | exact ResA.aggr rfl rfl rfl rfl (by first | rfl | with_reducible assumption | (simp <;> fail) | omega | (simp; omega) | assumption)) (by first | exact ResA.one rfl rfl rfl rfl rfl | exact ResA.agg rfl rfl rfl rfl rfl (by first | exact IsAgg.closed rfl rfl | exact IsAgg.mixed _) | exact ResA.aggr rfl rfl rfl rfl (by first | rfl | with_reducible assumption | (simp <;> fail) | omega | (simp; omega) | assumption))) (out_t (frzl_cons (by first | exact frz_c cv_rfl | exact frz_c cv_nil | exact frz_ownW rfl rfl (by first | rfl | with_reducible assumption | (simp <;> fail) | omega | (simp; omega) | assumption) | exact frz_eq (frz_c cv_rfl) (by first | rfl | (simp <;> fail) | fail)) (frzl_cons (by first | exact frz_c cv_rfl | exact frz_c cv_nil | exact frz_ownW rfl rfl (by first | rfl | with_reducible assumption | (simp <;> fail) | omega | (simp; omega) | assumption) | exact frz_eq (frz_c cv_rfl) (by first | rfl | (simp <;> fail) | fail)) frzl_nil)))
end Go.Proofs.Ytgofigkhdjjlmaa
