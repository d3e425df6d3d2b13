/-
  Joined texts: E5 AvBy F3. Lemmas; no statement of a law.
-/
import Derived.Laws.IdiomStrings
import Derived.Test.YtgofigkhdjjlmaaM1
import Derived.Test.YtgofigkhdjjlmaaM2
import Derived.Test.YtgofigkhdjjlmaaM3
import Derived.Test.YtgofigkhdjjlmaaM4
import Derived.Test.YtgofigkhdjjlmaaM5
import Derived.Test.YtgofigkhdjjlmaaM6
import Derived.Test.YtgofigkhdjjlmaaM7
import Derived.Test.YtgofigkhdjjlmaaM12
import Derived.Test.YtgofigkhdjjlmaaM13
/-
  Verify of signatures (walk), as the program and as the reference have it.
-/
set_option linter.unusedVariables false
set_option linter.unusedSimpArgs false
namespace Go.Proofs.Ytgofigkhdjjlmaa
open Go Go.RowKit Go.Av
set_option maxRecDepth 100000
/-- The last links. -/
def endsD (D : List UInt8) (P : List (List UInt8)) : List (List UInt8) := (List.range 35).map fun j => linkN (15 - dall D j) (P.getD j [])
theorem endsD_length (D : List UInt8) (P : List (List UInt8)) : (endsD D P).length = 35 := by simp [endsD]
theorem endsD_get (D : List UInt8) (P : List (List UInt8)) (j : Nat) (h : j < 35) : (endsD D P).getD j [] = linkN (15 - dall D j) (P.getD j []) := by
  simp [endsD, List.getD, h]
theorem endsD_all (D : List UInt8) (P : List (List UInt8)) (hP : all32 P) (hl : P.length = 35) : all32 (endsD D P) := fun d hd => by
  obtain ⟨j, hj, rfl⟩ := List.mem_map.1 hd
  exact linkN_length (getD32 hP j (by have := List.mem_range.1 hj; omega)) _
def verS (root msg : List UInt8) (idx : Int) (P : List (List UInt8)) (i c : Int) (S : List (List UInt8)) : Bool :=
  if P.length = 35 ∧ i = idx ∧ c = 4 then verP root (leafD (endsD (sum 390#64 msg) P)) i c S else false
abbrev sigV (idx : Int) (p : Nat) (P : List (List UInt8)) (i c : Int) (m : Nat) (S : List (List UInt8)) : CV := .agg [iv idx, .sl 32 p (dc P), iv i, iv c, .sl 32 m (dc S)]
attribute [local irreducible] Still Adds AWL AW Drw DrwE EStep AC AWR Weak Frz Src RetK Out InK permute
attribute [local simp] u8c_take u8c_drop u8c_app
theorem sver_idle : Idle Try.prog 82 1 := by
  intro us w hl
  obtain ⟨u0, rfl⟩ : ∃ u0, us = [u0] := by
    match us, hl with | [u0], _ => exact ⟨u0, rfl⟩
  refine callsD_of_wpS Try.func82 rfl fun c₀ cs hu => ?_
  apply wpS_seq
  apply wpS_region
  simp [wpOpsS, go_sem, recoverD, hu, Try.ntmps82, Exit.thenS]
  refine wpS_cond (t := false) (by simp [Act.eval, Array.replicate]) ?_
  simp only [Bool.false_eq_true, if_false]
  refine wpS_of_wp (wp_skip ?_)
  cases c₀
  simp_all [bodyPostS, results, Try.results82]
theorem sver_idle_b : Body Try.prog 82 := by unfold Body; kernel_rfl
set_option maxHeartbeats 4000000 in
theorem rsver_ok (root msg : List UInt8) (n : Nat) (idx : Int) (P : List (List UInt8)) (p : Nat) (i c : Int) (S : List (List UInt8)) (m : Nat) (hr : root.length = 32) (hn : msg.length = n) (hnn : n ≤ 1000000) (hP : all32 P) (hp : P.length = p) (hpp : p ≤ 100000) (hS : all32 S) (hm : S.length = m) (hmm : m ≤ 100000) : AC Try.prog 47 [.agg (u8c root), .sl 1 n (u8c msg), sigV idx p P i c m S] (.c (.v (.bool (verS root msg idx P i c S)))) [] 0 := by
  have hur : (u8c root).length = 32 := by rw [u8c_length, hr]
  by_cases hbad : ¬ (P.length = 35 ∧ i = idx ∧ c = 4)
  · unfold verS
    rw [if_neg hbad]
    by_cases b1 : (p : Int) = 35
    · by_cases b2 : i = idx
      · have b3 : ¬ c = 4 := fun e => hbad ⟨by omega, b2, e⟩
        clear hbad
        refine ac_enter tabOk (sz := 54) Try.func47 rfl (by rw [Try.ntmps47]; rfl) ?_
        repeat' (first
    | ((with_reducible refine aw_seqk ?_); intro K hK hX)
    | ((with_reducible refine isC_reg ?_); refine aw_prune [0, 1, 2, 3, 5, 6, 7, 8, 9] rfl rfl ?_; with_reducible refine aw_region ?_)
    | ((with_reducible refine isC_draw ?_); refine aw_prune [0, 1, 2, 3, 5, 6, 7, 8, 9] rfl rfl ?_; refine aw_drwF [] ?_)
    | refine stA ?_
    | refine stD ?_
    | (refine hK _ _ _ _ ?_; clear hK hX K)
    | (refine hX _ _ _ _ _ (by simp) ?_; clear hK hX K))
        refine retK_mk (by first | exact .inl rfl | exact .inr rfl) (by exact trivial) rfl (ResL.one (ResA.tmp rfl)) (by first | exact out_c (by first | exact frz_c cv_rfl | exact frz_c cv_nil | exact frz_ownW rfl rfl (by first | rfl | with_reducible assumption | (simp <;> fail) | omega | (simp; omega) | assumption) | exact frz_eq (frz_c cv_rfl) (by first | rfl | (simp <;> fail) | fail)) | exact out_own rfl rfl)
      · clear hbad
        refine ac_enter tabOk (sz := 54) Try.func47 rfl (by rw [Try.ntmps47]; rfl) ?_
        repeat' (first
    | ((with_reducible refine aw_seqk ?_); intro K hK hX)
    | ((with_reducible refine isC_reg ?_); refine aw_prune [0, 1, 2, 3, 5, 6, 7, 8, 9] rfl rfl ?_; with_reducible refine aw_region ?_)
    | ((with_reducible refine isC_draw ?_); refine aw_prune [0, 1, 2, 3, 5, 6, 7, 8, 9] rfl rfl ?_; refine aw_drwF [] ?_)
    | refine stA ?_
    | refine stD ?_
    | (refine hK _ _ _ _ ?_; clear hK hX K)
    | (refine hX _ _ _ _ _ (by simp) ?_; clear hK hX K))
        refine retK_mk (by first | exact .inl rfl | exact .inr rfl) (by exact trivial) rfl (ResL.one (ResA.tmp rfl)) (by first | exact out_c (by first | exact frz_c cv_rfl | exact frz_c cv_nil | exact frz_ownW rfl rfl (by first | rfl | with_reducible assumption | (simp <;> fail) | omega | (simp; omega) | assumption) | exact frz_eq (frz_c cv_rfl) (by first | rfl | (simp <;> fail) | fail)) | exact out_own rfl rfl)
    · clear hbad
      refine ac_enter tabOk (sz := 54) Try.func47 rfl (by rw [Try.ntmps47]; rfl) ?_
      repeat' (first
    | ((with_reducible refine aw_seqk ?_); intro K hK hX)
    | ((with_reducible refine isC_reg ?_); refine aw_prune [0, 1, 2, 3, 5, 6, 7, 8, 9] rfl rfl ?_; with_reducible refine aw_region ?_)
    | ((with_reducible refine isC_draw ?_); refine aw_prune [0, 1, 2, 3, 5, 6, 7, 8, 9] rfl rfl ?_; refine aw_drwF [] ?_)
    | refine stA ?_
    | refine stD ?_
    | (refine hK _ _ _ _ ?_; clear hK hX K)
    | (refine hX _ _ _ _ _ (by simp) ?_; clear hK hX K))
      refine retK_mk (by first | exact .inl rfl | exact .inr rfl) (by exact trivial) rfl (ResL.one (ResA.tmp rfl)) (by first | exact out_c (by first | exact frz_c cv_rfl | exact frz_c cv_nil | exact frz_ownW rfl rfl (by first | rfl | with_reducible assumption | (simp <;> fail) | omega | (simp; omega) | assumption) | exact frz_eq (frz_c cv_rfl) (by first | rfl | (simp <;> fail) | fail)) | exact out_own rfl rfl)
  · have hgood : P.length = 35 ∧ i = idx ∧ c = 4 := Classical.not_not.1 hbad
    clear hbad
    obtain ⟨h35, rfl, rfl⟩ := hgood
    have hp35 : p = 35 := by omega
    subst hp35
    unfold verS
    rw [if_pos ⟨h35, rfl, rfl⟩]
    have hdi := rdigits_ok msg n hn hnn
    generalize sum 390#64 msg = D at hdi ⊢
    have hEl := endsD_length D P
    have hEa := endsD_all D P hP h35
    have hEg := endsD_get D P
    generalize endsD D P = E at hEl hEa hEg ⊢
    have hlen : (intc .i64 (digs D)).length = 35 := by rw [intc_length, digs_length]
    have hlf := rleaf_ok E 35 hEa hEl (by decide)
    have hve := rverify_ok root (leafD E) i 4 S m hr (leafD_length E) hS hm hmm
    have hull : (u8c (leafD E)).length = 32 := by rw [u8c_length, leafD_length]
    generalize leafD E = lf at hlf hve hull ⊢
    generalize verP root lf i 4 S = res at hve ⊢
    refine ac_enter tabOk (sz := 54) Try.func47 rfl (by rw [Try.ntmps47]; rfl) ?_
    repeat' (first
    | ((with_reducible refine aw_seqk ?_); intro K hK hX)
    | ((with_reducible refine isC_reg ?_); refine aw_prune [0, 1, 2, 3, 5, 6, 7, 8, 9] rfl rfl ?_; with_reducible refine aw_region ?_)
    | ((with_reducible refine isC_draw ?_); refine aw_prune [0, 1, 2, 3, 5, 6, 7, 8, 9] rfl rfl ?_; refine aw_drwF [] ?_)
    | ((first | with_reducible refine isA_call ?_ | with_reducible refine isD_call ?_); (first | refine zA ?_ | refine zN ?_ | refine zD ?_); (first | refine c1 (hdi) ?_))
    | refine stA ?_
    | refine stD ?_
    | (refine hK _ _ _ _ ?_; clear hK hX K)
    | (refine hX _ _ _ _ _ (by simp) ?_; clear hK hX K))
    refine aw_nilown 8 35 32 rfl ?_
    refine aw_loopk 4 (fun j : Nat => [(3, .ref 0 0), (5, .ref 1 0), (6, .c (.v (.bool false))), (7, .own 2 0 35 1 true), (8, .own 3 0 j 32 true), (9, .c (iv j))]) (fun j => [(0, .row 35 (u8c root)), (1, .blk 56 [.c (iv i), .c (.sl 32 35 (dc P)), .c (iv i), .c (iv 4), .c (.sl 32 m (dc S))]), (2, .row 3 (intc .i64 (digs D))), (3, .row 35 (u8c (E.take j).flatten))]) [] (fun j => j ≤ 35) (fun j => 35 - j) 0 (by omega) weakA ?_
    intro j hj K hK hX
    have hli := take_flat_len hEa (show j ≤ E.length by omega)
    by_cases hlt : j < 35
    · have hd15 := dall_le D j
      have hd := getD32 hP j (by omega)
      have hda := dig_at hP j (by omega)
      have htf := take_flat_u (L := E) (i := j) (by omega)
      rw [hEg j hlt] at htf
      generalize P.getD j [] = d at hd hda htf
      have hud : (u8c d).length = 32 := by rw [u8c_length, hd]
      have hk := rlinks_ok d (15 - dall D j) hd (by omega)
      rw [show ((15 - dall D j : Nat) : Int) = 15 - (dall D j : Int) by omega] at hk
      have huk : (u8c (linkN (15 - dall D j) d)).length = 32 := by rw [u8c_length, linkN_length hd]
      generalize linkN (15 - dall D j) d = x at hk htf huk
      have htf' : u8c (E.take j).flatten ++ [u8c x].flatten = u8c (E.take (j + 1)).flatten := by rw [← htf]; simp
      repeat' (first
    | ((with_reducible refine aw_seqk ?_); intro K hK hX)
    | ((with_reducible refine isC_reg ?_); refine aw_prune [0, 1, 2, 3, 5, 6, 7, 8, 9] rfl rfl ?_; with_reducible refine aw_region ?_)
    | ((with_reducible refine isC_draw ?_); refine aw_prune [0, 1, 2, 3, 5, 6, 7, 8, 9] rfl rfl ?_; refine aw_drwF [] ?_)
    | ((first | with_reducible refine isA_call ?_ | with_reducible refine isD_call ?_); (first | refine zA ?_ | refine zN ?_ | refine zD ?_); (first | refine c0 (hk) ?_))
    | ((first | ((with_reducible refine isA_any ?_); refine xA ?_) | ((with_reducible refine isDk_any ?_); refine xD ?_)); (first | ((with_reducible refine e_load ?_); (first | refine ex_i (s_load1 tabOk rfl rfl rfl rfl (by exact digs_at D j hlt)) ?_ | refine ex_i (s_load1r tabOk rfl rfl rfl rfl (by exact digs_at D j hlt)) ?_ | refine ex_i (s_load1i tabOk rfl rfl rfl (by exact digs_at D j hlt)) ?_ | refine ex_i (s_loadAr tabOk rfl rfl rfl rfl (by first | exact hda | exact whole0 (by first | rfl | omega) | rfl) (by first | rfl | with_reducible assumption | (simp <;> fail) | omega | (simp; omega) | assumption)) ?_ | refine ex_i (s_loadAi tabOk rfl rfl rfl (by first | exact hda | exact whole0 (by first | rfl | omega) | rfl) (by first | rfl | with_reducible assumption | (simp <;> fail) | omega | (simp; omega) | assumption)) ?_)) | ((with_reducible refine e_ix ?_); (first | refine ex_i (s_ixV1 tabOk rfl rfl (by first | with_reducible exact cast_self _ | with_reducible exact cast_lit _ | exact nt (by omega) | rfl) rfl rfl rfl rfl rfl (by first | exact Nat.le_of_ble_eq_true rfl | omega | (simp; omega)) (by exact digs_at D j hlt)) ?_ | refine ex_i (s_ixStr tabOk rfl rfl (by first | with_reducible exact cast_self _ | with_reducible exact cast_lit _ | exact nt (by omega) | rfl) rfl rfl (by exact digs_at D j hlt)) ?_)) | ((with_reducible refine e_slice ?_); (first | refine ex_i (s_slArri tabOk rfl rfl rfl rfl (by first | exact Bd.no | exact Bd.yes rfl (by first | with_reducible exact cast_self _ | with_reducible exact cast_lit _ | exact nt (by omega) | rfl)) (by first | exact Bd.no | exact Bd.yes rfl (by first | with_reducible exact cast_self _ | with_reducible exact cast_lit _ | exact nt (by omega) | rfl)) (by first | exact Nat.le_of_ble_eq_true rfl | omega | (simp; omega)) (by first | exact Nat.le_of_ble_eq_true rfl | omega | (simp; omega)) (by decide) (by first | exact hda | exact whole0 (by first | rfl | omega) | rfl) (by first | rfl | with_reducible assumption | (simp <;> fail) | omega | (simp; omega) | assumption)) ?_))))
    | refine stA ?_
    | refine stD ?_
    | (refine hK _ _ _ _ ?_; clear hK hX K)
    | (refine hX _ _ _ _ _ (by simp) ?_; clear hK hX K))
      exact ⟨j + 1, by omega, by omega, (by refine weak_ren [0, 1, 2, 5] rfl rfl ?_ ?_ rfl rfl <;> (repeat' (first | exact weakER_nil | exact weakHR_nil | refine weakER_cons rfl (by first | rfl | (exact congrArg (AObj.row 35) htf') | exact own_eq rfl rfl (by omega) | exact int_eq (by omega) | (simp <;> fail) | (congr 4; omega) | (congr 3; omega) | (congr 2; omega)) rfl ?_ | refine weakHR_cons rfl (by first | rfl | (exact congrArg (AObj.row 35) htf') | exact own_eq rfl rfl (by omega) | exact int_eq (by omega) | (simp <;> fail) | (congr 4; omega) | (congr 3; omega) | (congr 2; omega)) rfl ?_)))⟩
    · obtain rfl : j = 35 := by omega
      have hfl : (E.take 35).flatten = E.flatten := by rw [← hEl, List.take_length]
      rw [hfl] at hli ⊢
      have hdc : (u8c E.flatten).length = 35 * 32 := by rw [hli]
      repeat' (first
    | ((with_reducible refine aw_seqk ?_); intro K hK hX)
    | ((with_reducible refine isC_reg ?_); refine aw_prune [0, 1, 2, 3, 5, 6, 7, 8, 9] rfl rfl ?_; with_reducible refine aw_region ?_)
    | ((with_reducible refine isC_draw ?_); refine aw_prune [0, 1, 2, 3, 5, 6, 7, 8, 9] rfl rfl ?_; refine aw_drwF [] ?_)
    | ((first | with_reducible refine isA_call ?_ | with_reducible refine isD_call ?_); (first | refine wA ?_ | refine wN ?_ | refine wD ?_); (first | refine cF (hlf) ?_))
    | ((first | with_reducible refine isA_call ?_ | with_reducible refine isD_call ?_); (first | refine zA ?_ | refine zN ?_ | refine zD ?_); (first | refine c0 (hve) ?_))
    | refine stA ?_
    | refine stD ?_
    | (refine hK _ _ _ _ ?_; clear hK hX K)
    | (refine hX _ _ _ _ _ (by simp) ?_; clear hK hX K))
      refine retK_mk (by first | exact .inl rfl | exact .inr rfl) (by exact trivial) rfl (ResL.one (ResA.tmp rfl)) (by first | exact out_c (by first | exact frz_c cv_rfl | exact frz_c cv_nil | exact frz_ownW rfl rfl (by first | rfl | with_reducible assumption | (simp <;> fail) | omega | (simp; omega) | assumption) | exact frz_eq (frz_c cv_rfl) (by first | rfl | (simp <;> fail) | fail)) | exact out_own rfl rfl)
set_option maxHeartbeats 4000000 in
theorem sver_ok (root msg : List UInt8) (n : Nat) (idx : Int) (P : List (List UInt8)) (p : Nat) (i c : Int) (S : List (List UInt8)) (m : Nat) (hr : root.length = 32) (hn : msg.length = n) (hnn : n ≤ 1000000) (hP : all32 P) (hp : P.length = p) (hpp : p ≤ 100000) (hS : all32 S) (hm : S.length = m) (hmm : m ≤ 100000) : AC Try.prog 46 [.agg (u8c root), .sl 1 n (u8c msg), sigV idx p P i c m S] (.c (.v (.bool (verS root msg idx P i c S)))) [] 0 := by
  have hur : (u8c root).length = 32 := by rw [u8c_length, hr]
  by_cases hbad : ¬ (P.length = 35 ∧ i = idx ∧ c = 4)
  · unfold verS
    rw [if_neg hbad]
    by_cases b1 : (p : Int) = 35
    · by_cases b2 : i = idx
      · have b3 : ¬ c = 4 := fun e => hbad ⟨by omega, b2, e⟩
        clear hbad
        refine ac_enter tabOk (sz := 38) Try.func46 rfl (by rw [Try.ntmps46]; rfl) ?_
        repeat' (first
    | ((with_reducible refine aw_seqk ?_); intro K hK hX)
    | ((with_reducible refine isC_reg ?_); refine aw_prune [0, 1, 2, 3, 5, 6, 7, 8] rfl rfl ?_; with_reducible refine aw_region ?_)
    | ((with_reducible refine isC_draw ?_); refine aw_prune [0, 1, 2, 3, 5, 6, 7, 8] rfl rfl ?_; refine aw_drwF [] ?_)
    | refine stA ?_
    | refine stD ?_
    | (refine hK _ _ _ _ ?_; clear hK hX K)
    | (refine hX _ _ _ _ _ (by simp) ?_; clear hK hX K))
        refine retK_mk (by first | exact .inl rfl | exact .inr rfl) (by exact ⟨sver_idle, sver_idle_b, trivial⟩) rfl (ResL.one (by first | exact ResA.one rfl rfl rfl rfl rfl | exact ResA.agg rfl rfl rfl rfl rfl (by first | exact IsAgg.closed rfl rfl | exact IsAgg.mixed _) | exact ResA.aggr rfl rfl rfl rfl (by first | rfl | with_reducible assumption | (simp <;> fail) | omega | (simp; omega) | assumption))) (by first | exact out_c (by first | exact frz_c cv_rfl | exact frz_c cv_nil | exact frz_ownW rfl rfl (by first | rfl | with_reducible assumption | (simp <;> fail) | omega | (simp; omega) | assumption) | exact frz_eq (frz_c cv_rfl) (by first | rfl | (simp <;> fail) | fail)) | exact out_own rfl rfl)
      · clear hbad
        refine ac_enter tabOk (sz := 38) Try.func46 rfl (by rw [Try.ntmps46]; rfl) ?_
        repeat' (first
    | ((with_reducible refine aw_seqk ?_); intro K hK hX)
    | ((with_reducible refine isC_reg ?_); refine aw_prune [0, 1, 2, 3, 5, 6, 7, 8] rfl rfl ?_; with_reducible refine aw_region ?_)
    | ((with_reducible refine isC_draw ?_); refine aw_prune [0, 1, 2, 3, 5, 6, 7, 8] rfl rfl ?_; refine aw_drwF [] ?_)
    | refine stA ?_
    | refine stD ?_
    | (refine hK _ _ _ _ ?_; clear hK hX K)
    | (refine hX _ _ _ _ _ (by simp) ?_; clear hK hX K))
        refine retK_mk (by first | exact .inl rfl | exact .inr rfl) (by exact ⟨sver_idle, sver_idle_b, trivial⟩) rfl (ResL.one (by first | exact ResA.one rfl rfl rfl rfl rfl | exact ResA.agg rfl rfl rfl rfl rfl (by first | exact IsAgg.closed rfl rfl | exact IsAgg.mixed _) | exact ResA.aggr rfl rfl rfl rfl (by first | rfl | with_reducible assumption | (simp <;> fail) | omega | (simp; omega) | assumption))) (by first | exact out_c (by first | exact frz_c cv_rfl | exact frz_c cv_nil | exact frz_ownW rfl rfl (by first | rfl | with_reducible assumption | (simp <;> fail) | omega | (simp; omega) | assumption) | exact frz_eq (frz_c cv_rfl) (by first | rfl | (simp <;> fail) | fail)) | exact out_own rfl rfl)
    · clear hbad
      refine ac_enter tabOk (sz := 38) Try.func46 rfl (by rw [Try.ntmps46]; rfl) ?_
      repeat' (first
    | ((with_reducible refine aw_seqk ?_); intro K hK hX)
    | ((with_reducible refine isC_reg ?_); refine aw_prune [0, 1, 2, 3, 5, 6, 7, 8] rfl rfl ?_; with_reducible refine aw_region ?_)
    | ((with_reducible refine isC_draw ?_); refine aw_prune [0, 1, 2, 3, 5, 6, 7, 8] rfl rfl ?_; refine aw_drwF [] ?_)
    | refine stA ?_
    | refine stD ?_
    | (refine hK _ _ _ _ ?_; clear hK hX K)
    | (refine hX _ _ _ _ _ (by simp) ?_; clear hK hX K))
      refine retK_mk (by first | exact .inl rfl | exact .inr rfl) (by exact ⟨sver_idle, sver_idle_b, trivial⟩) rfl (ResL.one (by first | exact ResA.one rfl rfl rfl rfl rfl | exact ResA.agg rfl rfl rfl rfl rfl (by first | exact IsAgg.closed rfl rfl | exact IsAgg.mixed _) | exact ResA.aggr rfl rfl rfl rfl (by first | rfl | with_reducible assumption | (simp <;> fail) | omega | (simp; omega) | assumption))) (by first | exact out_c (by first | exact frz_c cv_rfl | exact frz_c cv_nil | exact frz_ownW rfl rfl (by first | rfl | with_reducible assumption | (simp <;> fail) | omega | (simp; omega) | assumption) | exact frz_eq (frz_c cv_rfl) (by first | rfl | (simp <;> fail) | fail)) | exact out_own rfl rfl)
  · have hgood : P.length = 35 ∧ i = idx ∧ c = 4 := Classical.not_not.1 hbad
    clear hbad
    obtain ⟨h35, rfl, rfl⟩ := hgood
    have hp35 : p = 35 := by omega
    subst hp35
    unfold verS
    rw [if_pos ⟨h35, rfl, rfl⟩]
    have hdi := digits_ok msg n hn hnn
    generalize sum 390#64 msg = D at hdi ⊢
    have hEl := endsD_length D P
    have hEa := endsD_all D P hP h35
    have hEg := endsD_get D P
    generalize endsD D P = E at hEl hEa hEg ⊢
    have hlen : (intc .i64 (digs D)).length = 35 := by rw [intc_length, digs_length]
    have hlf := leaf_ok E 35 hEa hEl (by decide)
    have hve := verify_ok root (leafD E) i 4 S m hr (leafD_length E) hS hm hmm
    have hull : (u8c (leafD E)).length = 32 := by rw [u8c_length, leafD_length]
    generalize leafD E = lf at hlf hve hull ⊢
    generalize verP root lf i 4 S = res at hve ⊢
    refine ac_enter tabOk (sz := 38) Try.func46 rfl (by rw [Try.ntmps46]; rfl) ?_
    repeat' (first
    | ((with_reducible refine aw_seqk ?_); intro K hK hX)
    | ((with_reducible refine isC_reg ?_); refine aw_prune [0, 1, 2, 3, 4, 5, 6, 7, 8, 9, 10] rfl rfl ?_; with_reducible refine aw_region ?_)
    | ((with_reducible refine isC_draw ?_); refine aw_prune [0, 1, 2, 3, 4, 5, 6, 7, 8, 9, 10] rfl rfl ?_; refine aw_drwF [83] ?_)
    | ((first | with_reducible refine isA_call ?_ | with_reducible refine isD_call ?_); (first | refine zA ?_ | refine zN ?_ | refine zD ?_); (first | refine c1 (hdi) ?_))
    | ((first | with_reducible refine isA_call ?_ | with_reducible refine isA_callv ?_); refine awl_inl tabOk [0, 1, 2, 3, 4, 5, 6, 7, 8, 9, 10, 11, 12, 13, 14, 15, 16, 17, 18, 19, 20, 21, 22, 23, 24, 25, 26, 27, 28, 29, 30, 31, 32, 33, 34, 35, 36, 37] g_none rfl rfl (by unfold Body; kernel_rfl) Try.func83 rfl rfl rfl (szf := 21) (by rw [Try.ntmps83]; rfl) rfl ?_)
    | refine stA ?_
    | refine stD ?_
    | (refine hK _ _ _ _ ?_; clear hK hX K)
    | (refine hX _ _ _ _ _ (by simp) ?_; clear hK hX K)
    | (first | refine inK_some (by first | exact .inl rfl | exact .inr rfl) (by exact trivial) rfl rfl (ResL.one (ResA.tmp rfl)) ?_ | refine inK_none (by first | exact .inl rfl | exact .inr rfl) (by exact trivial) rfl rfl (ResL.one (ResA.tmp rfl)) ?_))
    refine aw_loopk 6 (fun j : Nat => [(1, .fn 84 [.ref 1 0, .ref 4 0]), (5, .own 5 0 35 32 true), (9, .c (iv 35)), (10, .c (iv j))]) (fun j => [(0, .row 35 (u8c root)), (1, .blk 56 [.c (iv i), .c (.sl 32 35 (dc P)), .c (iv i), .c (iv 4), .c (.sl 32 m (dc S))]), (2, .blk 4 [.c (.v (.bool false))]), (3, .row 3 (intc .i64 (digs D))), (4, .blk 24 [.own 3 0 35 1 true]), (5, .row 35 (dc (filD E 35 j)))]) _ (fun j => j ≤ 35) (fun j => 35 - j) 0 (by omega) (by refine weak_mk rfl ?_ ?_ rfl <;> (repeat' (first | exact weakE_nil | exact weakH_nil | refine weakE_cons rfl (by first | rfl | (exact congrArg (AObj.row 35) ((zc_dig 35).trans (by rw [filD_zero]))) | exact own_eq rfl rfl (by omega) | exact int_eq (by omega) | (simp <;> fail) | (congr 4; omega) | (congr 3; omega) | (congr 2; omega)) rfl ?_ | refine weakH_cons rfl (by first | rfl | (exact congrArg (AObj.row 35) ((zc_dig 35).trans (by rw [filD_zero]))) | exact own_eq rfl rfl (by omega) | exact int_eq (by omega) | (simp <;> fail) | (congr 4; omega) | (congr 3; omega) | (congr 2; omega)) rfl ?_))) ?_
    intro j hj K hK hX
    have hfa := filD_all 35 j hEa
    have hfl := filD_length hEl (show j ≤ 35 by omega)
    have hdl := dc_length hfa hfl
    by_cases hlt : j < 35
    · have hd15 := dall_le D j
      have hd := getD32 hP j (by omega)
      have hda := dig_at hP j (by omega)
      have hst := lay_dc hfa j (by omega) (E.getD j []) (getD32 hEa j (by omega))
      rw [filD_set hEl hlt, hEg j hlt] at hst
      generalize P.getD j [] = d at hd hda hst
      have hud : (u8c d).length = 32 := by rw [u8c_length, hd]
      have hk := walk_ok d (15 - dall D j) hd (by omega)
      rw [show ((15 - dall D j : Nat) : Int) = 15 - (dall D j : Int) by omega] at hk
      have huk : (u8c (linkN (15 - dall D j) d)).length = 32 := by rw [u8c_length, linkN_length hd]
      generalize linkN (15 - dall D j) d = x at hk hst huk
      repeat' (first
    | ((with_reducible refine aw_seqk ?_); intro K hK hX)
    | ((with_reducible refine isC_reg ?_); refine aw_prune [0, 1, 2, 3, 4, 5, 6, 7, 8, 9, 10] rfl rfl ?_; with_reducible refine aw_region ?_)
    | ((with_reducible refine isC_draw ?_); refine aw_prune [0, 1, 2, 3, 4, 5, 6, 7, 8, 9, 10] rfl rfl ?_; refine aw_drwF [83, 84] ?_)
    | ((first | with_reducible refine isA_call ?_ | with_reducible refine isD_call ?_); (first | refine zA ?_ | refine zN ?_ | refine zD ?_); (first | refine c0 (hk) ?_))
    | ((first | with_reducible refine isA_call ?_ | with_reducible refine isA_callv ?_); refine awl_inl tabOk [0, 1, 2, 3, 4, 5, 6, 7, 8, 9, 10, 11, 12, 13, 14, 15, 16, 17, 18, 19, 20, 21, 22, 23, 24, 25, 26, 27, 28, 29, 30, 31, 32, 33, 34, 35, 36, 37] g_none rfl rfl (by unfold Body; kernel_rfl) Try.func83 rfl rfl rfl (szf := 21) (by rw [Try.ntmps83]; rfl) rfl ?_)
    | ((first | with_reducible refine isA_call ?_ | with_reducible refine isA_callv ?_); refine awl_inl tabOk [0, 1, 2, 3, 4, 5, 6, 7, 8, 9, 10, 11, 12, 13, 14, 15, 16, 17, 18, 19, 20, 21, 22, 23, 24, 25, 26, 27, 28, 29, 30, 31, 32, 33, 34, 35, 36, 37] g_none rfl rfl (by unfold Body; kernel_rfl) Try.func84 rfl rfl rfl (szf := 16) (by rw [Try.ntmps84]; rfl) rfl ?_)
    | ((first | ((with_reducible refine isA_any ?_); refine xA ?_) | ((with_reducible refine isDk_any ?_); refine xD ?_)); (first | ((with_reducible refine e_load ?_); (first | refine ex_i (s_load1 tabOk rfl rfl rfl rfl (by exact digs_at D j hlt)) ?_ | refine ex_i (s_load1r tabOk rfl rfl rfl rfl (by exact digs_at D j hlt)) ?_ | refine ex_i (s_load1i tabOk rfl rfl rfl (by exact digs_at D j hlt)) ?_ | refine ex_i (s_loadAr tabOk rfl rfl rfl rfl (by first | exact hda | exact whole0 (by first | rfl | omega) | rfl) (by first | rfl | with_reducible assumption | (simp <;> fail) | omega | (simp; omega) | assumption)) ?_ | refine ex_i (s_loadAi tabOk rfl rfl rfl (by first | exact hda | exact whole0 (by first | rfl | omega) | rfl) (by first | rfl | with_reducible assumption | (simp <;> fail) | omega | (simp; omega) | assumption)) ?_)) | ((with_reducible refine e_ix ?_); (first | refine ex_i (s_ixV1 tabOk rfl rfl (by first | with_reducible exact cast_self _ | with_reducible exact cast_lit _ | exact nt (by omega) | rfl) rfl rfl rfl rfl rfl (by first | exact Nat.le_of_ble_eq_true rfl | omega | (simp; omega)) (by exact digs_at D j hlt)) ?_ | refine ex_i (s_ixStr tabOk rfl rfl (by first | with_reducible exact cast_self _ | with_reducible exact cast_lit _ | exact nt (by omega) | rfl) rfl rfl (by exact digs_at D j hlt)) ?_)) | ((with_reducible refine e_slice ?_); (first | refine ex_i (s_slArri tabOk rfl rfl rfl rfl (by first | exact Bd.no | exact Bd.yes rfl (by first | with_reducible exact cast_self _ | with_reducible exact cast_lit _ | exact nt (by omega) | rfl)) (by first | exact Bd.no | exact Bd.yes rfl (by first | with_reducible exact cast_self _ | with_reducible exact cast_lit _ | exact nt (by omega) | rfl)) (by first | exact Nat.le_of_ble_eq_true rfl | omega | (simp; omega)) (by first | exact Nat.le_of_ble_eq_true rfl | omega | (simp; omega)) (by decide) (by first | exact hda | exact whole0 (by first | rfl | omega) | rfl) (by first | rfl | with_reducible assumption | (simp <;> fail) | omega | (simp; omega) | assumption)) ?_))))
    | ((with_reducible refine isA_store ?_); (refine awl_store1r tabOk g_none rfl rfl rfl rfl rfl rfl (by first | omega | exact Nat.le_of_ble_eq_true rfl | omega | (simp; omega)) ?_))
    | ((with_reducible refine isA_store ?_); (refine awl_storeAr tabOk g_none rfl rfl rfl (by first | rfl | with_reducible assumption | (simp <;> fail) | omega | (simp; omega) | assumption) rfl (by first | exact Nat.le_of_ble_eq_true rfl | omega | (simp; omega)) (by first | exact hst | exact lay_whole _ _ (by first | rfl | with_reducible assumption | (simp <;> fail) | omega | (simp; omega) | assumption) | rfl) ?_))
    | refine stA ?_
    | refine stD ?_
    | (refine hK _ _ _ _ ?_; clear hK hX K)
    | (refine hX _ _ _ _ _ (by simp) ?_; clear hK hX K)
    | (first | refine inK_some (by first | exact .inl rfl | exact .inr rfl) (by exact trivial) rfl rfl (ResL.one (ResA.tmp rfl)) ?_ | refine inK_none (by first | exact .inl rfl | exact .inr rfl) (by exact trivial) rfl rfl (ResL.one (ResA.tmp rfl)) ?_)
    | (first | refine inK_some (by first | exact .inl rfl | exact .inr rfl) (by exact trivial) rfl rfl (ResL.one (by first | exact ResA.one rfl rfl rfl rfl rfl | exact ResA.agg rfl rfl rfl rfl rfl (by first | exact IsAgg.closed rfl rfl | exact IsAgg.mixed _) | exact ResA.aggr rfl rfl rfl rfl (by first | rfl | with_reducible assumption | (simp <;> fail) | omega | (simp; omega) | assumption))) ?_ | refine inK_none (by first | exact .inl rfl | exact .inr rfl) (by exact trivial) rfl rfl (ResL.one (by first | exact ResA.one rfl rfl rfl rfl rfl | exact ResA.agg rfl rfl rfl rfl rfl (by first | exact IsAgg.closed rfl rfl | exact IsAgg.mixed _) | exact ResA.aggr rfl rfl rfl rfl (by first | rfl | with_reducible assumption | (simp <;> fail) | omega | (simp; omega) | assumption))) ?_))
      exact ⟨j + 1, by omega, by omega, weakA⟩
    · obtain rfl : j = 35 := by omega
      rw [filD_full hEl] at hdl ⊢
      repeat' (first
    | ((with_reducible refine aw_seqk ?_); intro K hK hX)
    | ((with_reducible refine isC_reg ?_); refine aw_prune [0, 1, 2, 3, 4, 5, 6, 7, 8, 9, 10] rfl rfl ?_; with_reducible refine aw_region ?_)
    | ((with_reducible refine isC_draw ?_); refine aw_prune [0, 1, 2, 3, 4, 5, 6, 7, 8, 9, 10] rfl rfl ?_; refine aw_drwF [83] ?_)
    | ((first | with_reducible refine isA_call ?_ | with_reducible refine isD_call ?_); (first | refine wA ?_ | refine wN ?_ | refine wD ?_); (first | refine cF (hlf) ?_))
    | ((first | with_reducible refine isA_call ?_ | with_reducible refine isD_call ?_); (first | refine zA ?_ | refine zN ?_ | refine zD ?_); (first | refine c0 (hve) ?_))
    | ((first | with_reducible refine isA_call ?_ | with_reducible refine isA_callv ?_); refine awl_inl tabOk [0, 1, 2, 3, 4, 5, 6, 7, 8, 9, 10, 11, 12, 13, 14, 15, 16, 17, 18, 19, 20, 21, 22, 23, 24, 25, 26, 27, 28, 29, 30, 31, 32, 33, 34, 35, 36, 37] g_none rfl rfl (by unfold Body; kernel_rfl) Try.func83 rfl rfl rfl (szf := 21) (by rw [Try.ntmps83]; rfl) rfl ?_)
    | refine stA ?_
    | refine stD ?_
    | (refine hK _ _ _ _ ?_; clear hK hX K)
    | (refine hX _ _ _ _ _ (by simp) ?_; clear hK hX K)
    | (first | refine inK_some (by first | exact .inl rfl | exact .inr rfl) (by exact trivial) rfl rfl (ResL.one (ResA.tmp rfl)) ?_ | refine inK_none (by first | exact .inl rfl | exact .inr rfl) (by exact trivial) rfl rfl (ResL.one (ResA.tmp rfl)) ?_))
      refine retK_mk (by first | exact .inl rfl | exact .inr rfl) (by exact ⟨sver_idle, sver_idle_b, trivial⟩) rfl (ResL.one (by first | exact ResA.one rfl rfl rfl rfl rfl | exact ResA.agg rfl rfl rfl rfl rfl (by first | exact IsAgg.closed rfl rfl | exact IsAgg.mixed _) | exact ResA.aggr rfl rfl rfl rfl (by first | rfl | with_reducible assumption | (simp <;> fail) | omega | (simp; omega) | assumption))) (by first | exact out_c (by first | exact frz_c cv_rfl | exact frz_c cv_nil | exact frz_ownW rfl rfl (by first | rfl | with_reducible assumption | (simp <;> fail) | omega | (simp; omega) | assumption) | exact frz_eq (frz_c cv_rfl) (by first | rfl | (simp <;> fail) | fail)) | exact out_own rfl rfl)
end Go.Proofs.Ytgofigkhdjjlmaa
/-
  Bytes of strings: '[]byte(s)' of a string, and the mark of a literal's row. For every program.
-/
set_option linter.unusedVariables false
set_option linter.unusedSimpArgs false
namespace Go.Av
open Go Go.RowKit
section
variable {P : Program} {tab : Tab} {ev : Evl} {h : Heap} {d : Option Tmp} {T S ty : TypeId} {x : Operand} {pos : String} {aft : Array Edge} {gd : Option (Nat × Bool)} {i : Nat}
theorem a_toBytes (tb : TabOk P tab) {es e e' : TyE} {E n : Nat} {s : ByteArray} {l : List UInt8} (hS : tyLook tab S = some es) (hks : es.kind = .str) (hT : tyLook tab T = some e) (hk : e.kind = .slice E) (hE : tyLook tab E = some e') (hke : e'.kind = .int .u8) (hx : ev x = some (.c (.v (.string s)))) (hn : s.size = n) (hl : s.data.toList = l) (h63 : n ≤ maxLen) :
    Adds P ⟨d, .convert S T x, ty, pos, aft, gd⟩ ev h (.c (.sl 1 n (u8c l))) [] i i := by
  subst hn hl
  refine adds_new fun B dom M H w a hh hc he => ?_
  have h1 := he x _ hx
  simp only [Rep, RepC] at h1
  have hr := run_bytes_of_string (P := P) w S T E s ((tyLook_ok tb hS).str hks) ((tyLook_ok tb hT).slice hk) ((tyLook_ok tb hE).int hke)
  have hge := grownCap_ge w s.size 0 E
  have hle := grownCap_le_maxLen w s.size 0 E h63
  refine ⟨_, _, by simp only [execOp, h1, hr, Sem.run_bind, Result.andThen_ok]; rfl, ((Below.refl _ _).drew).alloc (Nat.le_refl _) _, fun C hext hw hok => ?_⟩
  have hb : C.w.heap[w.heap.size]? = some (.cells (bytesRow s (grownCap w s.size 0 E)) E ((bytesRow s (grownCap w s.size 0 E)).size, (bytesRow s (grownCap w s.size 0 E)).size + 1)) := by
    rw [hw, show w.heap.size = w.drew.heap.size from rfl, heap_alloc_new]
  refine ⟨some ⟨w.heap.size, 0, none⟩, grownCap w s.size 0 E, s.data.toList.map (fun b => Value.int .u8 b.toNat), rfl, hge, hle, by rw [u8c_length, Nat.mul_one]; exact Array.length_toList, ?_, ?_, fun _ => ⟨w.heap.size, 0, rfl, hok _ (Nat.le_refl _), lt_of_block hb, fun j v hj => ?_⟩⟩
  · rw [u8c_plain]; exact RepCs.plain _
  · intro u hu
    obtain ⟨b, _, rfl⟩ := List.mem_map.1 hu
    rfl
  · rw [Nat.zero_add]
    have hj' := (List.getElem?_eq_some_iff.1 hj)
    obtain ⟨hlt, hv⟩ := hj'
    have hlt' : j < s.data.size := by simpa using hlt
    simp only [World.cell?, hb, bytesRow]
    rw [Array.getElem?_append_left (by simpa using hlt')]
    rw [← hv]
    rw [Array.getElem?_map, Array.getElem?_eq_getElem hlt']
    simp
end
section
theorem freeze_other (w : World) (g k j : Nat) (h : j ≠ g) : (w.freeze ⟨g, k, none⟩ 1).heap[j]? = w.heap[j]? := by
  unfold World.freeze
  rw [if_neg (by decide)]
  simp only [Array.getElem?_modify]
  rw [if_neg (by omega)]
theorem freeze_block (w : World) (g k : Nat) {us : Array Value} {T : TypeId} (h : w.heap[g]? = some (.cells us T (0, 0))) : (w.freeze ⟨g, k, none⟩ 1).heap[g]? = some (.cells us T (k, k + 1)) := by
  unfold World.freeze
  rw [if_neg (by decide)]
  simp [Array.getElem?_modify, h]
variable {P : Program} {tab : Tab} {sz n : Nat} {env : Env} {h : Heap} {dfs : Defs} {K : AK} {ops : Array Oper} {rest : List Oper} {d : Option Tmp} {T ty : TypeId} {x : Operand} {pos : String} {aft : Array Edge} {gd : Option (Nat × Bool)}
/-- '[]byte("..")': the literal's row gets a mark behind its last cell; from then on it is only read. -/
theorem awl_strlit (tb : TabOk P tab) {e e' : TyE} {E id k : Nat} {cs : List CV} (hg : guardA ops env ⟨d, .convert T T x, ty, pos, aft, gd⟩ true) (hd : dstOk d sz = true) (hT : tyLook tab T = some e) (hk : e.kind = .slice E) (hE : tyLook tab E = some e') (hke : e'.kind = .int .u8)
    (hx : evA env x = some (.own id 0 k 1 true)) (ho : lk h id = some (.row E cs)) (hl : cs.length = k * 1) (hk0 : 0 < k)
    (next : AWL P ops sz rest K n (putE env d (.c (.sl 1 k cs))) ((id, .dead) :: h) dfs) : AWL P ops sz (⟨d, .convert T T x, ty, pos, aft, gd⟩ :: rest) K n env h dfs := by
  intro B a w hc
  obtain ⟨M, c1, c2, c3, c4⟩ := hc
  refine wplg_step fun K' hK' => ?_
  rw [if_pos (hg.wanted c3)]
  have hrx := rep_eval c3 x _ hx
  simp only [Rep, cx] at hrx
  obtain ⟨hid, hrx⟩ := hrx
  have hid : id < n := hid
  rcases hrx with ⟨h1, _⟩ | ⟨g, cp, hM, hu, hc1, hc2, hsh⟩ | ⟨h1, _⟩
  · omega
  · obtain ⟨us, vs, hb, hr, hon⟩ := obj_row (fun id o h _ => h) c1 ho hid hM
    have hb : w.heap[g]? = some (.cells (us ++ vs).toArray E (0, 0)) := hb
    have hshape : w.shape? g = some (E, (us ++ vs).length) := by
      unfold World.shape?
      rw [hb]
      simp
    generalize hw' : w.freeze ⟨g, (us ++ vs).length, none⟩ 1 = w'
    have hrun : (execOp a.eval ⟨d, .convert T T x, ty, pos, aft, gd⟩).run P w = .ok (.value (.slice (some ⟨g, 0, none⟩) k cp)) w' := by
      subst hw'
      have : (convert T T (.slice (some ⟨g, 0, none⟩) k cp)).run P w = .ok (.slice (some ⟨g, 0, none⟩) k cp) (w.freeze ⟨g, (us ++ vs).length, none⟩ 1) := by
        simp [convert, run_underlying ((tyLook_ok tb hT).slice hk), run_underlying ((tyLook_ok tb hE).int hke), markStringish, hshape]
      simp only [execOp, hu, this, Sem.run_bind, Result.andThen_ok]
      rfl
    have hsz : w'.heap.size = w.heap.size := by
      subst hw'
      unfold World.freeze
      rw [if_neg (by decide)]
      simp
    have hbl : ∀ j, j ≠ g → w'.heap[j]? = w.heap[j]? := fun j hj => by subst hw'; exact freeze_other w g _ j hj
    have hbg : w'.heap[g]? = some (.cells (us ++ vs).toArray E ((us ++ vs).length, (us ++ vs).length + 1)) := by subst hw'; exact freeze_block w g _ hb
    have hsg : w'.shape? g = w.shape? g := by
      rw [hshape]
      unfold World.shape?
      rw [hbg]
      simp
    have hfr : w'.os = w.os ∧ w'.tape = w.tape ∧ w'.output = w.output := by
      subst hw'
      unfold World.freeze
      rw [if_neg (by decide)]
      exact ⟨rfl, rfl, rfl⟩
    have hlk : ∀ k, k ≠ id → lk ((id, AObj.dead) :: h) k = lk h k := fun k hk => by rw [lk_cons, if_neg (fun e => hk e.symm)]
    have hlk0 : lk ((id, AObj.dead) :: h) id = none := by rw [lk_cons, if_pos rfl]; rfl
    have hsub : ∀ k o, lk ((id, AObj.dead) :: h) k = some o → lk h k = some o ∧ k ≠ id := fun k o hk => by
      by_cases hki : k = id
      · subst hki; rw [hlk0] at hk; cases hk
      · exact ⟨by rw [← hlk k hki]; exact hk, hki⟩
    have hok : ∀ b, okOf B (lt n) M (lk h) b → okOf B (lt n) M (lk ((id, AObj.dead) :: h)) b ∧ b ≠ g := fun b hb => by
      refine ⟨⟨hb.1, fun k ok hk hH he => hb.2 k ok hk (hsub k ok hH).1 he⟩, fun e => hb.2 id _ hid ho (by rw [hM, e])⟩
    have hext : Ext (cx B n M h w) (cx B n M ((id, .dead) :: h) w') := by
      refine ⟨fun k hk => ⟨hk, rfl⟩, fun b hb hl => ⟨(hok b hb).1, by simp only [cx] at hl ⊢; omega, hbl b (hok b hb).2⟩, fun b x hx => ?_⟩
      simp only [cx] at hx ⊢
      by_cases hbg : b = g
      · subst hbg; rw [hsg]; exact hx
      · rw [shape_same (hbl b hbg)]; exact hx
    have hlo := c1.lo id _ g hid ho hM
    have hcn : ConcH B (lt n) M (lk ((id, .dead) :: h)) w' := by
      refine ⟨⟨hfr.1.trans c1.fr.os, hfr.2.1.trans c1.fr.tape, hfr.2.2.trans c1.fr.output, by rw [hsz]; exact c1.fr.size, fun k h1 h2 => ?_⟩, fun k ok hk hH => ?_, fun k k' ok ok' g' k1 k2 k3 k4 k5 k6 => ?_, fun k ok g' k1 k2 k3 => ?_⟩
      · rw [hbl k (fun e => ?_)]
        · exact c1.fr.block k h1 h2
        · subst e
          rcases hlo with h3 | h3
          · omega
          · exact h2 h3
      · obtain ⟨h3, h4⟩ := hsub k ok hH
        refine (c1.obj k ok hk h3).ext hext (fun j hj => hbl j (fun e => ?_))
        subst e
        exact h4 (c1.inj k id ok _ j hk hid h3 ho hj hM)
      · exact c1.inj k k' ok ok' g' k1 k2 (hsub k ok k3).1 (hsub k' ok' k4).1 k5 k6
      · exact c1.lo k ok g' k1 (hsub k ok k2).1 k3
    unfold Oper.wp
    rw [hrun]
    simp only [Oper.upon]
    have hv : Rep (cx B n M ((id, .dead) :: h) w') (.c (.sl 1 k cs)) (.slice (some ⟨g, 0, none⟩) k cp) := by
      refine ⟨some ⟨g, 0, none⟩, cp, us, rfl, hc1, hc2, hl, RepCs.mono hext.ok _ _ hr, hon, fun _ => ⟨g, 0, rfl, ⟨?_, fun k ok hk hH he => ?_⟩, lt_of_block hbg, fun j v hj => ?_⟩⟩
      · rcases hlo with h3 | h3
        · exact .inr (.inl h3)
        · exact .inr (.inr h3)
      · obtain ⟨h3, h4⟩ := hsub k ok hH
        exact h4 (c1.inj k id ok _ g hk hid h3 ho he hM)
      · rw [Nat.zero_add]
        exact cell_row hbg hj
    obtain ⟨p1, p2, p3⟩ := put_env (env := env) (a := a) (h := h) (h' := (id, .dead) :: h) (w := w) (w' := w') (M := M) (M' := M) (n' := n) (B := B) (d := d) c2 c3 hext (dstOk_spec hd) hv
    exact hK' _ _ (next B _ _ ⟨M, hcn, p1, p2, by rw [p3]; exact c4.ext hext⟩)
  · omega
end
theorem toList_mk (l : List UInt8) : (⟨l.toArray⟩ : ByteArray).data.toList = l := rfl
theorem size_mk {l : List UInt8} {n : Nat} (h : l.length = n) : (⟨l.toArray⟩ : ByteArray).size = n := by
  subst h
  show l.toArray.size = _
  simp
section
variable {P : Program} {tab : Tab} {ev : Evl} {h : Heap} {d : Option Tmp} {T ty : TypeId} {x : Operand} {pos : String} {aft : Array Edge} {gd : Option (Nat × Bool)}
theorem run_bounds3 {n c r m : Nat} {hi mx : Operand} {C : Cx} {a : Act} {w : World} (b : Bool) (he : ∀ x av, ev x = some av → Rep C av (a.eval x)) (hhi : Bd ev n (some hi) r) (hmx : Bd ev n (some mx) m) (hrm : r ≤ m) (hmc : m ≤ c) :
    (Instr.sliceBounds b n c none (some (a.eval hi)) (some (a.eval mx))).run P w = .ok (0, r, m) w := by
  have h1 := hmx.run (P := P) (w := w) (y := c) he (if b then .slice3Acap else .slice3Alen) hmc
  have h2 := hhi.run (P := P) (w := w) (y := m) he .slice3B hrm
  simp only [Option.map_some] at h1 h2
  unfold Instr.sliceBounds
  simp [h1, h2]
/-- The first elements of an own slice, and no more room. -/
theorem s_slOm {e e' : TyE} {E n r m size id off : Nat} {hi mx : Operand} {full : Bool} (tb : TabOk P tab) (hT : tyLook tab T = some e) (hk : e.kind = .slice E) (hE : tyLook tab E = some e') (hs : Nat.beq e'.size size = true) (hx : ev x = some (.own id off n size full)) (hhi : Bd ev n (some hi) r) (hmx : Bd ev n (some mx) m) (hrm : r ≤ m) (hmn : m ≤ n) : Still P ⟨d, .slice T x none (some hi) (some mx), ty, pos, aft, gd⟩ ev h (.own id off r size false) := by
  intro B dom M H w a hh hc he
  have h1 := he x _ hx
  have hsz := (tyLook_ok tb hE).sizeOf w
  rw [Nat.eq_of_beq_eq_true hs] at hsz
  have hund := (tyLook_ok tb hT).slice hk
  simp only [Rep] at h1
  obtain ⟨hd, h1⟩ := h1
  have key : ∀ A c, a.eval x = .slice A n c → n ≤ c → (execOp a.eval ⟨d, .slice T x none (some hi) (some mx), ty, pos, aft, gd⟩).run P w = .ok (.value (.slice A r m)) w := fun A c h3 h4 => by
    have hb := run_bounds3 (P := P) (w := w) (c := c) true he hhi hmx hrm (by omega)
    simp [execOp, Instr.sliceAt, Instr.slice, h3, Sem.run_bind, run_underlying hund, hb, hsz]
    cases A with
    | none => simp
    | some p => simp [Addr.add]
  rcases h1 with ⟨h1, h2, h3, h4⟩ | ⟨g, cp, h1, h2, h3, h4, h5⟩ | ⟨h1, h2, A, cp, h3, h4⟩
  · obtain rfl : r = 0 := by omega
    exact ⟨_, key none 0 (by rw [h4, h1]) (by omega), hd, .inr (.inr ⟨rfl, rfl, none, m, rfl, by simp [maxLen]; omega⟩)⟩
  · exact ⟨_, key _ cp h2 h3, hd, .inr (.inl ⟨g, m, h1, rfl, hrm, by omega, by simp⟩)⟩
  · obtain rfl : r = 0 := by omega
    exact ⟨_, key A cp (by rw [h3, h1]) (by omega), hd, .inr (.inr ⟨rfl, rfl, A, m, rfl, by omega⟩)⟩
end
theorem cast_add2 (m k : Nat) : (m : Int) + (k : Int) = ((m + k : Nat) : Int) := by omega
theorem cast_addl (m k : Nat) : (m : Int) + (no_index (OfNat.ofNat k) : Int) = ((m + k : Nat) : Int) := by
  show (m : Int) + (k : Int) = _
  omega
theorem cast_sub2 {m k : Nat} (h : k ≤ m) : (m : Int) - (k : Int) = ((m - k : Nat) : Int) := by omega
theorem cast_subl {m k : Nat} (h : k ≤ m) : (m : Int) - (no_index (OfNat.ofNat k) : Int) = ((m - k : Nat) : Int) := by
  show (m : Int) - (k : Int) = _
  omega
theorem lay_len {α : Type} (cs ys : List α) (off : Nat) : (lay cs off ys).length = min off cs.length + ys.length + (cs.length - (off + ys.length)) := by
  simp [lay]; omega
theorem zc_u8 (n : Nat) : zc [.int .u8 0] n = u8c (List.replicate n 0) := by
  unfold zc u8c
  simp
theorem lay_two {z : List Value} {a b : List UInt8} {m k : Nat} (hz : z.length = 1) (ha : a.length = m) (hb : b.length = k) : lay (lay (zc z (m + k)) 0 (u8c a)) (0 + m * 1) (u8c b) = u8c (a ++ b) := by
  have hl : (zc z (m + k)).length = m + k := by rw [zc_length, hz, Nat.mul_one]
  have h1 : (u8c a).length = m := by rw [u8c_length, ha]
  have h2 : (u8c b).length = k := by rw [u8c_length, hb]
  generalize zc z (m + k) = Z at hl
  rw [u8c_app]
  generalize u8c a = A at h1
  generalize u8c b = B at h2
  subst h1 h2
  simp [lay, List.take_append, hl]
theorem frz_true {keep : List Nat} {h : Heap} {p : Prop} [Decidable p] (hp : p) : Frz keep h (.c (.v (.bool (decide p)))) (.v (.bool true)) := by
  rw [decide_eq_true hp]; exact frz_c cv_rfl
theorem frz_false {keep : List Nat} {h : Heap} {p : Prop} [Decidable p] (hp : ¬ p) : Frz keep h (.c (.v (.bool (decide p)))) (.v (.bool false)) := by
  rw [decide_eq_false hp]; exact frz_c cv_rfl
theorem frz_int {keep : List Nat} {h : Heap} {k : IntKind} {m n : Int} (hp : m = n) : Frz keep h (.c (.v (.int k m))) (.v (.int k n)) := by
  subst hp; exact frz_c cv_rfl
theorem cast_lsub {m k : Nat} (h : k ≤ m) : (no_index (OfNat.ofNat m) : Int) - (k : Int) = ((m - k : Nat) : Int) := by
  show (m : Int) - (k : Int) = _
  omega
/-- The closed values alone. -/
def clo (ev : Evl) : Evl := fun x => match ev x with | some (.c c) => some (.c c) | _ => none
theorem clo_some {ev : Evl} {x : Operand} {av : AV} (h : clo ev x = some av) : ∃ c, av = .c c ∧ ev x = some (.c c) := by
  unfold clo at h
  split at h
  · rename_i c hc
    injection h with h
    exact ⟨c, h.symm, hc⟩
  · cases h
/-- New memory that is only read from now on. -/
theorem adds_closed {P : Program} {o : Oper} {ev : Evl} {h : Heap} {i n size : Nat} {full : Bool} {E : TypeId} {cs : List CV} (hA : Adds P o (clo ev) [] (.own 0 0 n size full) [(0, .row E cs)] 0 1) (hl : cs.length = n * size) : Adds P o ev h (.c (.sl size n cs)) [] i i := by
  intro B dom M H w a K Q hh _ hc he hK
  refine hA ⟨w, [], okOf B dom M H, []⟩ (lt 0) (fun _ => none) (lk [(0, .row E cs)]) w a K Q (fun id o hk => by cases hk) (fun id h1 h2 => ⟨by simp [lt], rfl⟩) (concH_none (FrB.refl _ _)) (fun x av hx => ?_) (fun u w' M' hext hc' hu => ?_)
  · obtain ⟨c, rfl, hx'⟩ := clo_some hx
    have := he x _ hx'
    simp only [Rep] at this ⊢
    exact RepC.mono (fun b hb hl => ⟨⟨.inl hb, fun id o hid => absurd hid (by simp [lt])⟩, hl, rfl⟩) _ _ this
  · have hb : Below w.heap.size w w' := hc'.fr.below
    have hg := hc.grow hb i i (M' := M) (fun _ _ => rfl) (fun id h1 h2 => by omega) (fun id o h1 h2 => by omega) (fun id id' o o' g h1 h2 => by omega) (fun _ id o h1 h2 => by omega)
    have hnew : ∀ b, w.heap.size ≤ b → okOf B dom M H b := fun b hb => ⟨.inr (.inl (Nat.le_trans hc.fr.size hb)), fun id o hid hH he' => by
      have := (hc.obj id o hid hH).lt b he'
      simp only at this
      omega⟩
    refine hK u w' M hg.2 hg.1 ?_
    rw [ad_self]
    have hd : ad (lt 0) 0 1 0 := .inr ⟨Nat.le_refl _, Nat.lt_succ_self _⟩
    have hsub : ∀ b, okOf ⟨w, [], okOf B dom M H, []⟩ (ad (lt 0) 0 1) M' (lk [(0, .row E cs)]) b → okOf B dom M H b := fun b hb => by
      rcases hb.1 with h1 | h1 | h1
      · exact h1
      · exact hnew b h1
      · cases h1
    have ho := hc'.obj 0 _ hd rfl
    simp only [Rep] at hu
    obtain ⟨_, hu⟩ := hu
    rcases hu with ⟨h1, h2, h3, h4⟩ | ⟨g, cp, h1, h2, h3, h4, _⟩ | ⟨h1, h2, A, cp, h3, h4⟩
    · subst h1
      have : cs = [] := List.eq_nil_of_length_eq_zero (by simpa using hl)
      subst this
      exact ⟨none, 0, [], h4, Nat.le_refl _, by simp [maxLen], by simp, by simp [RepCs], by simp, fun hn => absurd hn (by omega)⟩
    · rcases ho with ⟨k1, _⟩ | ⟨k, us, vs, k1, k2, k3, k4⟩
      · rw [h1] at k1; cases k1
      · rw [h1] at k1
        injection k1 with k1
        subst k1
        have k2 : w'.heap[g]? = some (.cells (us ++ vs).toArray E (0, 0)) := k2
        have hlo := hc'.lo 0 _ g hd rfl h1
        refine ⟨_, cp, us, h2, h3, h4, hl, RepCs.mono (fun b hb hl => ⟨hsub b hb, hl, rfl⟩) _ _ k3, k4, fun _ => ⟨g, 0, rfl, hnew g ?_, lt_of_block k2, fun j x hj => ?_⟩⟩
        · rcases hlo with h5 | h5
          · exact h5
          · cases h5
        · rw [Nat.zero_add]; exact cell_row k2 hj
    · subst h1
      have : cs = [] := List.eq_nil_of_length_eq_zero (by simpa using hl)
      subst this
      exact ⟨A, cp, [], h3, by omega, h4, by simp, by simp [RepCs], by simp, fun hn => absurd hn (by omega)⟩
end Go.Av
/-
  Sign (walk), as the program and as the reference have it.
-/
set_option linter.unusedVariables false
set_option linter.unusedSimpArgs false
namespace Go.Proofs.Ytgofigkhdjjlmaa
open Go Go.RowKit Go.Av
set_option maxRecDepth 100000
def partsD (D seed : List UInt8) (I : Nat) : List (List UInt8) := (List.range 35).map fun j => linkN (dall D j) (beginD seed I j)
theorem partsD_length (D seed : List UInt8) (I : Nat) : (partsD D seed I).length = 35 := by simp [partsD]
theorem partsD_get (D seed : List UInt8) (I j : Nat) (h : j < 35) : (partsD D seed I).getD j [] = linkN (dall D j) (beginD seed I j) := by
  simp [partsD, List.getD, h]
theorem partsD_all (D seed : List UInt8) (I : Nat) : all32 (partsD D seed I) := fun d hd => by
  obtain ⟨j, hj, rfl⟩ := List.mem_map.1 hd
  exact linkN_length (beginD_length _ _ _) _
def pathD (seed : List UInt8) (I : Nat) : List (List UInt8) := sibD ((leavesD seed).map nodeD) I
attribute [local irreducible] Still Adds AWL AW Drw DrwE EStep AC AWR Weak Frz Src RetK Out InK ItK AsK RdK permute
attribute [local simp] u8c_take u8c_drop u8c_app
theorem sig_idle : Idle Try.prog 104 2 := by
  intro us w hl
  obtain ⟨u0, u1, rfl⟩ : ∃ u0 u1, us = [u0, u1] := by
    match us, hl with | [u0, u1], _ => exact ⟨u0, u1, rfl⟩
  refine callsD_of_wpS Try.func104 rfl fun c₀ cs hu => ?_
  apply wpS_seq
  apply wpS_region
  simp [wpOpsS, go_sem, recoverD, hu, Try.ntmps104, Exit.thenS]
  refine wpS_cond (t := false) (by simp [Act.eval, Array.replicate]) ?_
  simp only [Bool.false_eq_true, if_false]
  refine wpS_of_wp (wp_skip ?_)
  cases c₀
  simp_all [bodyPostS, results, Try.results104]
theorem sig_idle_b : Body Try.prog 104 := by unfold Body; kernel_rfl
set_option maxHeartbeats 4000000 in
theorem sign_bad (seed msg : List UInt8) (i : Int) (n : Nat) (hs : seed.length = 32) (hi : i < 0 ∨ 4 ≤ i) : AC Try.prog 62 [.agg (u8c seed), iv i, .sl 1 n (u8c msg)] (.tup [.c (.agg [iv 0, .v (.slice none 0 0), iv 0, iv 0, .v (.slice none 0 0)]), .c (iv 1)]) [] 0 := by
  have hus : (u8c seed).length = 32 := by rw [u8c_length, hs]
  by_cases b1 : i < 0
  · clear hi
    refine ac_enter tabOk (sz := 38) Try.func62 rfl (by rw [Try.ntmps62]; rfl) ?_
    repeat' (first
    | ((with_reducible refine aw_seqk ?_); intro K hK hX)
    | ((with_reducible refine isC_reg ?_); refine aw_prune [0, 1, 2, 3, 4, 6, 7, 8, 9, 10] rfl rfl ?_; with_reducible refine aw_region ?_)
    | ((with_reducible refine isC_draw ?_); refine aw_prune [0, 1, 2, 3, 4, 6, 7, 8, 9, 10] rfl rfl ?_; refine aw_drwF [] ?_)
    | ((with_reducible refine isA_store ?_); refine awl_storeA tabOk g_none rfl rfl rfl (by first | exact Parts.mixed _ | exact Parts.closed _) (by rfl) (by rfl) rfl (Nat.le_of_ble_eq_true rfl) (by rfl) ?_)
    | refine stA ?_
    | refine stD ?_
    | (refine hK _ _ _ _ ?_; clear hK hX K)
    | (refine hX _ _ _ _ _ (by simp) ?_; clear hK hX K))
    refine retK_mk (by first | exact .inl rfl | exact .inr rfl) (by exact ⟨sig_idle, sig_idle_b, trivial⟩) rfl (ResL.two (by first | exact ResA.one rfl rfl rfl rfl rfl | exact ResA.agg rfl rfl rfl rfl rfl (by first | exact IsAgg.closed rfl rfl | exact IsAgg.mixed _) | exact ResA.aggr rfl rfl rfl rfl (by first | rfl | with_reducible assumption | (simp <;> fail) | omega | (simp; omega) | assumption)) (by first | exact ResA.one rfl rfl rfl rfl rfl | exact ResA.agg rfl rfl rfl rfl rfl (by first | exact IsAgg.closed rfl rfl | exact IsAgg.mixed _) | exact ResA.aggr rfl rfl rfl rfl (by first | rfl | with_reducible assumption | (simp <;> fail) | omega | (simp; omega) | assumption))) (out_t (frzl_cons (by first | exact frz_c cv_rfl | exact frz_c cv_nil | exact frz_ownW rfl rfl (by first | rfl | with_reducible assumption | (simp <;> fail) | omega | (simp; omega) | assumption) | exact frz_eq (frz_c cv_rfl) (by first | rfl | (simp <;> fail) | fail)) (frzl_cons (by first | exact frz_c cv_rfl | exact frz_c cv_nil | exact frz_ownW rfl rfl (by first | rfl | with_reducible assumption | (simp <;> fail) | omega | (simp; omega) | assumption) | exact frz_eq (frz_c cv_rfl) (by first | rfl | (simp <;> fail) | fail)) frzl_nil)))
  · have b2 : 4 ≤ i := by omega
    clear hi
    refine ac_enter tabOk (sz := 38) Try.func62 rfl (by rw [Try.ntmps62]; rfl) ?_
    repeat' (first
    | ((with_reducible refine aw_seqk ?_); intro K hK hX)
    | ((with_reducible refine isC_reg ?_); refine aw_prune [0, 1, 2, 3, 4, 6, 7, 8, 9, 10] rfl rfl ?_; with_reducible refine aw_region ?_)
    | ((with_reducible refine isC_draw ?_); refine aw_prune [0, 1, 2, 3, 4, 6, 7, 8, 9, 10] rfl rfl ?_; refine aw_drwF [] ?_)
    | ((with_reducible refine isA_store ?_); refine awl_storeA tabOk g_none rfl rfl rfl (by first | exact Parts.mixed _ | exact Parts.closed _) (by rfl) (by rfl) rfl (Nat.le_of_ble_eq_true rfl) (by rfl) ?_)
    | refine stA ?_
    | refine stD ?_
    | (refine hK _ _ _ _ ?_; clear hK hX K)
    | (refine hX _ _ _ _ _ (by simp) ?_; clear hK hX K))
    refine retK_mk (by first | exact .inl rfl | exact .inr rfl) (by exact ⟨sig_idle, sig_idle_b, trivial⟩) rfl (ResL.two (by first | exact ResA.one rfl rfl rfl rfl rfl | exact ResA.agg rfl rfl rfl rfl rfl (by first | exact IsAgg.closed rfl rfl | exact IsAgg.mixed _) | exact ResA.aggr rfl rfl rfl rfl (by first | rfl | with_reducible assumption | (simp <;> fail) | omega | (simp; omega) | assumption)) (by first | exact ResA.one rfl rfl rfl rfl rfl | exact ResA.agg rfl rfl rfl rfl rfl (by first | exact IsAgg.closed rfl rfl | exact IsAgg.mixed _) | exact ResA.aggr rfl rfl rfl rfl (by first | rfl | with_reducible assumption | (simp <;> fail) | omega | (simp; omega) | assumption))) (out_t (frzl_cons (by first | exact frz_c cv_rfl | exact frz_c cv_nil | exact frz_ownW rfl rfl (by first | rfl | with_reducible assumption | (simp <;> fail) | omega | (simp; omega) | assumption) | exact frz_eq (frz_c cv_rfl) (by first | rfl | (simp <;> fail) | fail)) (frzl_cons (by first | exact frz_c cv_rfl | exact frz_c cv_nil | exact frz_ownW rfl rfl (by first | rfl | with_reducible assumption | (simp <;> fail) | omega | (simp; omega) | assumption) | exact frz_eq (frz_c cv_rfl) (by first | rfl | (simp <;> fail) | fail)) frzl_nil)))
set_option maxHeartbeats 4000000 in
theorem rsign_bad (seed msg : List UInt8) (i : Int) (n : Nat) (hs : seed.length = 32) (hi : i < 0 ∨ 4 ≤ i) : AC Try.prog 48 [.agg (u8c seed), iv i, .sl 1 n (u8c msg)] (.tup [.c (.agg [iv 0, .v (.slice none 0 0), iv 0, iv 0, .v (.slice none 0 0)]), .c (iv 1)]) [] 0 := by
  have hus : (u8c seed).length = 32 := by rw [u8c_length, hs]
  by_cases b1 : i < 0
  · clear hi
    refine ac_enter tabOk (sz := 49) Try.func48 rfl (by rw [Try.ntmps48]; rfl) ?_
    repeat' (first
    | ((with_reducible refine aw_seqk ?_); intro K hK hX)
    | ((with_reducible refine isC_reg ?_); refine aw_prune [0, 1, 2, 3, 6, 7, 8, 9, 10] rfl rfl ?_; with_reducible refine aw_region ?_)
    | ((with_reducible refine isC_draw ?_); refine aw_prune [0, 1, 2, 3, 6, 7, 8, 9, 10] rfl rfl ?_; refine aw_drwF [] ?_)
    | ((with_reducible refine isA_store ?_); refine awl_storeA tabOk g_none rfl rfl rfl (by first | exact Parts.mixed _ | exact Parts.closed _) (by rfl) (by rfl) rfl (Nat.le_of_ble_eq_true rfl) (by rfl) ?_)
    | refine stA ?_
    | refine stD ?_
    | (refine hK _ _ _ _ ?_; clear hK hX K)
    | (refine hX _ _ _ _ _ (by simp) ?_; clear hK hX K))
    refine retK_mk (by first | exact .inl rfl | exact .inr rfl) (by exact trivial) rfl (ResL.two (by first | exact ResA.one rfl rfl rfl rfl rfl | exact ResA.agg rfl rfl rfl rfl rfl (by first | exact IsAgg.closed rfl rfl | exact IsAgg.mixed _) | exact ResA.aggr rfl rfl rfl rfl (by first | rfl | with_reducible assumption | (simp <;> fail) | omega | (simp; omega) | assumption)) (ResA.tmp rfl)) (out_t (frzl_cons (by first | exact frz_c cv_rfl | exact frz_c cv_nil | exact frz_ownW rfl rfl (by first | rfl | with_reducible assumption | (simp <;> fail) | omega | (simp; omega) | assumption) | exact frz_eq (frz_c cv_rfl) (by first | rfl | (simp <;> fail) | fail)) (frzl_cons (by first | exact frz_c cv_rfl | exact frz_c cv_nil | exact frz_ownW rfl rfl (by first | rfl | with_reducible assumption | (simp <;> fail) | omega | (simp; omega) | assumption) | exact frz_eq (frz_c cv_rfl) (by first | rfl | (simp <;> fail) | fail)) frzl_nil)))
  · have b2 : 4 ≤ i := by omega
    clear hi
    refine ac_enter tabOk (sz := 49) Try.func48 rfl (by rw [Try.ntmps48]; rfl) ?_
    repeat' (first
    | ((with_reducible refine aw_seqk ?_); intro K hK hX)
    | ((with_reducible refine isC_reg ?_); refine aw_prune [0, 1, 2, 3, 6, 7, 8, 9, 10] rfl rfl ?_; with_reducible refine aw_region ?_)
    | ((with_reducible refine isC_draw ?_); refine aw_prune [0, 1, 2, 3, 6, 7, 8, 9, 10] rfl rfl ?_; refine aw_drwF [] ?_)
    | ((with_reducible refine isA_store ?_); refine awl_storeA tabOk g_none rfl rfl rfl (by first | exact Parts.mixed _ | exact Parts.closed _) (by rfl) (by rfl) rfl (Nat.le_of_ble_eq_true rfl) (by rfl) ?_)
    | refine stA ?_
    | refine stD ?_
    | (refine hK _ _ _ _ ?_; clear hK hX K)
    | (refine hX _ _ _ _ _ (by simp) ?_; clear hK hX K))
    refine retK_mk (by first | exact .inl rfl | exact .inr rfl) (by exact trivial) rfl (ResL.two (by first | exact ResA.one rfl rfl rfl rfl rfl | exact ResA.agg rfl rfl rfl rfl rfl (by first | exact IsAgg.closed rfl rfl | exact IsAgg.mixed _) | exact ResA.aggr rfl rfl rfl rfl (by first | rfl | with_reducible assumption | (simp <;> fail) | omega | (simp; omega) | assumption)) (ResA.tmp rfl)) (out_t (frzl_cons (by first | exact frz_c cv_rfl | exact frz_c cv_nil | exact frz_ownW rfl rfl (by first | rfl | with_reducible assumption | (simp <;> fail) | omega | (simp; omega) | assumption) | exact frz_eq (frz_c cv_rfl) (by first | rfl | (simp <;> fail) | fail)) (frzl_cons (by first | exact frz_c cv_rfl | exact frz_c cv_nil | exact frz_ownW rfl rfl (by first | rfl | with_reducible assumption | (simp <;> fail) | omega | (simp; omega) | assumption) | exact frz_eq (frz_c cv_rfl) (by first | rfl | (simp <;> fail) | fail)) frzl_nil)))
set_option maxHeartbeats 8000000 in
theorem sign_ok (seed msg : List UInt8) (I n m : Nat) (hs : seed.length = 32) (hI : I < 4) (hn : msg.length = n) (hnn : n ≤ 1000000) (hm : (pathD seed I).length = m) : AC Try.prog 62 [.agg (u8c seed), iv I, .sl 1 n (u8c msg)] (.tup [.c (sigV I 35 (partsD (sum 390#64 msg) seed I) I 4 m (pathD seed I)), .c (iv 0)]) [] 0 := by
  have hus : (u8c seed).length = 32 := by rw [u8c_length, hs]
  have b1 : ¬ (I : Int) < 0 := by omega
  have b2 : ¬ 4 ≤ (I : Int) := by omega
  have h1 := leaves_ok seed hs
  have h2 := prove_ok (leavesD seed) I 4 m (leavesD_all seed) (leavesD_length seed) (by decide) hI hm
  have hdl := dc_length (leavesD_all seed) (leavesD_length seed)
  have hdi := digits_ok msg n hn hnn
  have hlen : (intc .i64 (digs (sum 390#64 msg))).length = 35 := by rw [intc_length, digs_length]
  generalize sum 390#64 msg = D at hdi hlen ⊢
  have hEl := partsD_length D seed I
  have hEa := partsD_all D seed I
  have hEg := partsD_get D seed I
  generalize partsD D seed I = E at hEl hEa hEg ⊢
  unfold pathD at *
  generalize sibD ((leavesD seed).map nodeD) I = S at h2 hm ⊢
  generalize dc (leavesD seed) = LV at h1 h2 hdl
  have hE35 := dc_length hEa hEl
  refine ac_enter tabOk (sz := 38) Try.func62 rfl (by rw [Try.ntmps62]; rfl) ?_
  repeat' (first
    | ((with_reducible refine aw_seqk ?_); intro K hK hX)
    | ((with_reducible refine isC_reg ?_); refine aw_prune [0, 1, 2, 3, 4, 5, 6, 7, 8, 9, 10] rfl rfl ?_; with_reducible refine aw_region ?_)
    | ((with_reducible refine isC_draw ?_); refine aw_prune [0, 1, 2, 3, 4, 5, 6, 7, 8, 9, 10] rfl rfl ?_; refine aw_drwE [83] ?_)
    | ((first | with_reducible refine isA_call ?_ | with_reducible refine isE_call ?_); (first | refine wA ?_ | refine wE ?_); refine ew_i (adds_closed (adds_call (by unfold Body; kernel_rfl) rfl (h1) (by first | exact cvl_rfl | ((repeat' (first | exact cvl_nil | refine cvl_cons ?_ ?_ | (first | exact cv_rfl | exact cv_nil | (refine cv_sl ?_ ?_ <;> first | rfl | omega | (simp <;> fail) | fail) | (refine cv_eq ?_; first | rfl | (simp <;> fail) | fail)))) <;> fail) | fail) rfl) (by first | rfl | with_reducible assumption | (simp <;> fail) | omega | (simp; omega) | assumption)) ?_)
    | ((first | with_reducible refine isA_call ?_ | with_reducible refine isE_call ?_); (first | refine zA ?_ | refine zN ?_ | refine zE ?_); (first | refine c0 (h2) ?_ | refine c1 (hdi) ?_))
    | ((first | with_reducible refine isA_call ?_ | with_reducible refine isA_callv ?_); refine awl_inl tabOk [0, 1, 2, 3, 4, 5, 6, 7, 8, 9, 10, 11, 12, 13, 14, 15, 16, 17, 18, 19, 20, 21, 22, 23, 24, 25, 26, 27, 28, 29, 30, 31, 32, 33, 34, 35, 36, 37] g_none rfl rfl (by unfold Body; kernel_rfl) Try.func83 rfl rfl rfl (szf := 21) (by rw [Try.ntmps83]; rfl) rfl ?_)
    | ((with_reducible refine isA_store ?_); refine awl_storeA tabOk g_none rfl rfl rfl (by first | exact Parts.mixed _ | exact Parts.closed _) (by rfl) (by rfl) rfl (Nat.le_of_ble_eq_true rfl) (by rfl) ?_)
    | ((with_reducible refine isE_store ?_); refine d_storeA tabOk g_none rfl rfl rfl rfl rfl (by first | exact Parts.mixed _ | exact Parts.closed _) (by rfl) (by rfl) rfl (Nat.le_of_ble_eq_true rfl) (by rfl) rfl ?_)
    | refine stA ?_
    | refine stE ?_
    | (refine hK _ _ _ _ ?_; clear hK hX K)
    | (refine hX _ _ _ _ _ (by simp) ?_; clear hK hX K)
    | (first | refine inK_some (by first | exact .inl rfl | exact .inr rfl) (by exact trivial) rfl rfl (ResL.one (ResA.tmp rfl)) ?_ | refine inK_none (by first | exact .inl rfl | exact .inr rfl) (by exact trivial) rfl rfl (ResL.one (ResA.tmp rfl)) ?_))
  refine aw_loopo [10] [7] rfl rfl (fun j : Nat => [(10, .c (iv j))]) (fun j => [(7, .row 35 (dc (filD E 35 j)))]) (fun j => j ≤ 35) (fun j => 35 - j) 0 (by omega) (by refine weak_mk rfl ?_ ?_ rfl <;> (repeat' (first | exact weakE_nil | exact weakH_nil | refine weakE_cons rfl (by first | rfl | (exact congrArg (AObj.row 35) ((zc_dig 35).trans (by rw [filD_zero]))) | exact own_eq rfl rfl (by omega) | exact int_eq (by omega) | (simp <;> fail) | (congr 4; omega) | (congr 3; omega) | (congr 2; omega)) rfl ?_ | refine weakH_cons rfl (by first | rfl | (exact congrArg (AObj.row 35) ((zc_dig 35).trans (by rw [filD_zero]))) | exact own_eq rfl rfl (by omega) | exact int_eq (by omega) | (simp <;> fail) | (congr 4; omega) | (congr 3; omega) | (congr 2; omega)) rfl ?_))) ?_
  intro j hj K hK hX
  have hfaj := filD_all 35 j hEa
  have hflj := filD_length hEl (show j ≤ 35 by omega)
  have hdfj := dc_length hfaj hflj
  by_cases hltj : j < 35
  · have hbe := begin_ok seed I j hs (by omega) (by omega)
    have hbl := beginD_length seed I j
    have hbu : (u8c (beginD seed I j)).length = 32 := by rw [u8c_length, hbl]
    have hd15 := dall_le D j
    have hlk := walk_ok (beginD seed I j) (dall D j) hbl (by omega)
    have hlu : (u8c (linkN (dall D j) (beginD seed I j))).length = 32 := by rw [u8c_length, linkN_length hbl]
    have hstj := lay_dc hfaj j (by omega) (E.getD j []) (getD32 hEa j (by omega))
    rw [filD_set hEl hltj, hEg j hltj] at hstj
    generalize linkN (dall D j) (beginD seed I j) = y at hlk hlu hstj
    generalize beginD seed I j = b at hbe hbl hbu hlk
    repeat' (first
    | ((with_reducible refine aw_seqk ?_); intro K hK hX)
    | ((with_reducible refine isC_reg ?_); refine aw_prune [0, 1, 2, 3, 4, 5, 6, 7, 8, 9, 10] rfl rfl ?_; with_reducible refine aw_region ?_)
    | ((with_reducible refine isC_draw ?_); refine aw_prune [0, 1, 2, 3, 4, 5, 6, 7, 8, 9, 10] rfl rfl ?_; refine aw_drwE [83, 105] ?_)
    | ((first | with_reducible refine isA_call ?_ | with_reducible refine isE_call ?_); (first | refine zA ?_ | refine zN ?_ | refine zE ?_); (first | refine c0 (hbe) ?_ | refine c0 (hlk) ?_))
    | ((first | with_reducible refine isA_call ?_ | with_reducible refine isA_callv ?_); refine awl_inl tabOk [0, 1, 2, 3, 4, 5, 6, 7, 8, 9, 10, 11, 12, 13, 14, 15, 16, 17, 18, 19, 20, 21, 22, 23, 24, 25, 26, 27, 28, 29, 30, 31, 32, 33, 34, 35, 36, 37] g_none rfl rfl (by unfold Body; kernel_rfl) Try.func83 rfl rfl rfl (szf := 21) (by rw [Try.ntmps83]; rfl) rfl ?_)
    | ((first | with_reducible refine isA_call ?_ | with_reducible refine isA_callv ?_); refine awl_inl tabOk [0, 1, 2, 3, 4, 5, 6, 7, 8, 9, 10, 11, 12, 13, 14, 15, 16, 17, 18, 19, 20, 21, 22, 23, 24, 25, 26, 27, 28, 29, 30, 31, 32, 33, 34, 35, 36, 37] g_none rfl rfl (by unfold Body; kernel_rfl) Try.func105 rfl rfl rfl (szf := 15) (by rw [Try.ntmps105]; rfl) rfl ?_)
    | ((first | ((with_reducible refine isA_any ?_); refine xA ?_) | ((with_reducible refine isEk_any ?_); refine xE ?_)); (first | ((with_reducible refine e_load ?_); (first | refine ex_i (s_load1 tabOk rfl rfl rfl rfl (by exact digs_at D j hltj)) ?_ | refine ex_i (s_load1r tabOk rfl rfl rfl rfl (by exact digs_at D j hltj)) ?_ | refine ex_i (s_load1i tabOk rfl rfl rfl (by exact digs_at D j hltj)) ?_)) | ((with_reducible refine e_ix ?_); (first | refine ex_i (s_ixV1 tabOk rfl rfl (by first | with_reducible exact cast_self _ | with_reducible exact cast_lit _ | exact nt (by omega) | rfl) rfl rfl rfl rfl rfl (by first | exact Nat.le_of_ble_eq_true rfl | omega | (simp; omega)) (by exact digs_at D j hltj)) ?_ | refine ex_i (s_ixStr tabOk rfl rfl (by first | with_reducible exact cast_self _ | with_reducible exact cast_lit _ | exact nt (by omega) | rfl) rfl rfl (by exact digs_at D j hltj)) ?_))))
    | ((with_reducible refine isA_store ?_); (refine awl_store1r tabOk g_none rfl rfl rfl rfl rfl rfl (by first | omega | exact Nat.le_of_ble_eq_true rfl | omega | (simp; omega)) ?_))
    | ((with_reducible refine isA_store ?_); (refine awl_storeAr tabOk g_none rfl rfl rfl (by first | rfl | with_reducible assumption | (simp <;> fail) | omega | (simp; omega) | assumption) rfl (by first | exact Nat.le_of_ble_eq_true rfl | omega | (simp; omega)) (by first | exact hstj | exact lay_whole _ _ (by first | rfl | with_reducible assumption | (simp <;> fail) | omega | (simp; omega) | assumption) | rfl) ?_))
    | refine stA ?_
    | refine stE ?_
    | (refine hK _ _ _ _ ?_; clear hK hX K)
    | (refine hX _ _ _ _ _ (by simp) ?_; clear hK hX K)
    | (first | refine inK_some (by first | exact .inl rfl | exact .inr rfl) (by exact trivial) rfl rfl (ResL.one (ResA.tmp rfl)) ?_ | refine inK_none (by first | exact .inl rfl | exact .inr rfl) (by exact trivial) rfl rfl (ResL.one (ResA.tmp rfl)) ?_)
    | (first | refine inK_some (by first | exact .inl rfl | exact .inr rfl) (by exact trivial) rfl rfl (ResL.one (by first | exact ResA.one rfl rfl rfl rfl rfl | exact ResA.agg rfl rfl rfl rfl rfl (by first | exact IsAgg.closed rfl rfl | exact IsAgg.mixed _) | exact ResA.aggr rfl rfl rfl rfl (by first | rfl | with_reducible assumption | (simp <;> fail) | omega | (simp; omega) | assumption))) ?_ | refine inK_none (by first | exact .inl rfl | exact .inr rfl) (by exact trivial) rfl rfl (ResL.one (by first | exact ResA.one rfl rfl rfl rfl rfl | exact ResA.agg rfl rfl rfl rfl rfl (by first | exact IsAgg.closed rfl rfl | exact IsAgg.mixed _) | exact ResA.aggr rfl rfl rfl rfl (by first | rfl | with_reducible assumption | (simp <;> fail) | omega | (simp; omega) | assumption))) ?_))
    exact ⟨j + 1, by omega, by omega, weakA⟩
  · have hjn : j = 35 := by omega
    rw [hjn, filD_full hEl] at hdfj ⊢
    repeat' (first
    | ((with_reducible refine aw_seqk ?_); intro K hK hX)
    | ((with_reducible refine isC_reg ?_); refine aw_prune [0, 1, 2, 3, 4, 5, 6, 7, 8, 9, 10] rfl rfl ?_; with_reducible refine aw_region ?_)
    | ((with_reducible refine isC_draw ?_); refine aw_prune [0, 1, 2, 3, 4, 5, 6, 7, 8, 9, 10] rfl rfl ?_; refine aw_drwF [83] ?_)
    | ((first | with_reducible refine isA_call ?_ | with_reducible refine isA_callv ?_); refine awl_inl tabOk [0, 1, 2, 3, 4, 5, 6, 7, 8, 9, 10, 11, 12, 13, 14, 15, 16, 17, 18, 19, 20, 21, 22, 23, 24, 25, 26, 27, 28, 29, 30, 31, 32, 33, 34, 35, 36, 37] g_none rfl rfl (by unfold Body; kernel_rfl) Try.func83 rfl rfl rfl (szf := 21) (by rw [Try.ntmps83]; rfl) rfl ?_)
    | ((with_reducible refine isA_store ?_); refine awl_storeA tabOk g_none rfl rfl rfl (by first | exact Parts.mixed _ | exact Parts.closed _) (by rfl) (by rfl) rfl (Nat.le_of_ble_eq_true rfl) (by rfl) ?_)
    | refine stA ?_
    | refine stD ?_
    | (refine hK _ _ _ _ ?_; clear hK hX K)
    | (refine hX _ _ _ _ _ (by simp) ?_; clear hK hX K)
    | (first | refine inK_some (by first | exact .inl rfl | exact .inr rfl) (by exact trivial) rfl rfl (ResL.one (ResA.tmp rfl)) ?_ | refine inK_none (by first | exact .inl rfl | exact .inr rfl) (by exact trivial) rfl rfl (ResL.one (ResA.tmp rfl)) ?_))
    refine retK_mk (by first | exact .inl rfl | exact .inr rfl) (by exact ⟨sig_idle, sig_idle_b, trivial⟩) rfl (ResL.two (by first | exact ResA.one rfl rfl rfl rfl rfl | exact ResA.agg rfl rfl rfl rfl rfl (by first | exact IsAgg.closed rfl rfl | exact IsAgg.mixed _) | exact ResA.aggr rfl rfl rfl rfl (by first | rfl | with_reducible assumption | (simp <;> fail) | omega | (simp; omega) | assumption)) (by first | exact ResA.one rfl rfl rfl rfl rfl | exact ResA.agg rfl rfl rfl rfl rfl (by first | exact IsAgg.closed rfl rfl | exact IsAgg.mixed _) | exact ResA.aggr rfl rfl rfl rfl (by first | rfl | with_reducible assumption | (simp <;> fail) | omega | (simp; omega) | assumption))) (by refine out_t (frzl_cons (frz_agg rfl (frzl_cons (frz_c cv_rfl) (frzl_cons (frz_ownW rfl rfl hdfj) (frzl_cons (frz_c cv_rfl) (frzl_cons (frz_c cv_rfl) (frzl_cons (frz_c cv_rfl) frzl_nil)))))) (frzl_cons (frz_c cv_rfl) frzl_nil)))
theorem keepTwo {h : Heap} {k l n : Nat} {T U : TypeId} {cs ds : List CV} (hk : Nat.blt k n = true) (h1 : lk h k = some (.row T cs)) (hl : Nat.blt l n = true) (h2 : lk h l = some (.row U ds)) : KeepH [k, l] h [(0, .row T cs), (1, .row U ds)] n := by
  intro i q hi
  match i, hi with
  | 0, hi =>
    simp at hi
    subst hi
    exact ⟨by simpa using hk, T, cs, h1, rfl⟩
  | 1, hi =>
    simp at hi
    subst hi
    exact ⟨by simpa using hl, U, ds, h2, rfl⟩
set_option maxHeartbeats 8000000 in
theorem rsign_own (seed msg : List UInt8) (I n : Nat) (hs : seed.length = 32) (hI : I < 4) (hn : msg.length = n) (hnn : n ≤ 1000000) : AC Try.prog 48 [.agg (u8c seed), iv I, .sl 1 n (u8c msg)] (.tup [.agg [.c (iv I), .own 0 0 35 32 true, .c (iv I), .c (iv 4), .own 1 0 (pathD seed I).length 32 true], .c (iv 0)]) [(0, .row 35 (dc (partsD (sum 390#64 msg) seed I))), (1, .row 35 (dc (pathD seed I)))] 2 := by
  have hus : (u8c seed).length = 32 := by rw [u8c_length, hs]
  have b1 : ¬ (I : Int) < 0 := by omega
  have b2 : ¬ 4 ≤ (I : Int) := by omega
  have h1 := rleaves_ok seed hs
  have h2 := rprove_own (leavesD seed) I 4 (leavesD_all seed) (leavesD_length seed) (by decide) hI
  have hdl := dc_length (leavesD_all seed) (leavesD_length seed)
  have hdi := rdigits_ok msg n hn hnn
  have hlen : (intc .i64 (digs (sum 390#64 msg))).length = 35 := by rw [intc_length, digs_length]
  generalize sum 390#64 msg = D at hdi hlen ⊢
  have hEl := partsD_length D seed I
  have hEa := partsD_all D seed I
  have hEg := partsD_get D seed I
  generalize partsD D seed I = E at hEl hEa hEg ⊢
  unfold pathD at *
  generalize sibD ((leavesD seed).map nodeD) I = S at h2 ⊢
  generalize dc (leavesD seed) = LV at h1 h2 hdl
  generalize S.length = m at h2 ⊢
  have hE35 : (u8c E.flatten).length = 35 * 32 := dc_length hEa hEl
  unfold dc
  refine ac_enter tabOk (sz := 49) Try.func48 rfl (by rw [Try.ntmps48]; rfl) ?_
  repeat' (first
    | ((with_reducible refine aw_seqk ?_); intro K hK hX)
    | ((with_reducible refine isC_reg ?_); refine aw_prune [0, 1, 2, 3, 6, 7, 8, 9, 10] rfl rfl ?_; with_reducible refine aw_region ?_)
    | ((with_reducible refine isC_draw ?_); refine aw_prune [0, 1, 2, 3, 6, 7, 8, 9, 10] rfl rfl ?_; refine aw_drwF [] ?_)
    | ((first | with_reducible refine isA_call ?_ | with_reducible refine isD_call ?_); (first | refine zA ?_ | refine zN ?_ | refine zD ?_); (first | refine c1 (hdi) ?_))
    | ((with_reducible refine isA_store ?_); refine awl_storeA tabOk g_none rfl rfl rfl (by first | exact Parts.mixed _ | exact Parts.closed _) (by rfl) (by rfl) rfl (Nat.le_of_ble_eq_true rfl) (by rfl) ?_)
    | refine stA ?_
    | refine stD ?_
    | (refine hK _ _ _ _ ?_; clear hK hX K)
    | (refine hX _ _ _ _ _ (by simp) ?_; clear hK hX K))
  refine aw_nilcell 2 1 35 32 rfl rfl rfl rfl ?_
  refine aw_loopo [10] [2, 4] rfl rfl (fun j : Nat => [(10, .c (iv j))]) (fun j => [(2, .blk 56 [.c (iv I), .own 4 0 j 32 true, .c (iv 0), .c (iv 0), .c (.v (.slice none 0 0))]), (4, .row 35 (u8c (E.take j).flatten))]) (fun j => j ≤ 35) (fun j => 35 - j) 0 (by omega) weakA ?_
  intro j hj K hK hX
  have hlj := take_flat_len hEa (show j ≤ E.length by omega)
  by_cases hltj : j < 35
  · have hbe := rbegin_ok seed I j hs (by omega) (by omega)
    have hbl := beginD_length seed I j
    have hbu : (u8c (beginD seed I j)).length = 32 := by rw [u8c_length, hbl]
    have hd15 := dall_le D j
    have hlk := rlinks_ok (beginD seed I j) (dall D j) hbl (by omega)
    have hlu : (u8c (linkN (dall D j) (beginD seed I j))).length = 32 := by rw [u8c_length, linkN_length hbl]
    have htj := take_dc (L := E) (i := j) (by omega) (hEg j hltj)
    generalize linkN (dall D j) (beginD seed I j) = y at hlk hlu htj
    generalize beginD seed I j = b at hbe hbl hbu hlk
    repeat' (first
    | ((with_reducible refine aw_seqk ?_); intro K hK hX)
    | ((with_reducible refine isC_reg ?_); refine aw_prune [0, 1, 2, 3, 6, 7, 8, 9, 10] rfl rfl ?_; with_reducible refine aw_region ?_)
    | ((with_reducible refine isC_draw ?_); refine aw_prune [0, 1, 2, 3, 6, 7, 8, 9, 10] rfl rfl ?_; refine aw_drwE [] ?_)
    | ((first | with_reducible refine isA_call ?_ | with_reducible refine isE_call ?_); (first | refine zA ?_ | refine zN ?_ | refine zE ?_); (first | refine c0 (hbe) ?_ | refine c0 (hlk) ?_))
    | ((first | ((with_reducible refine isA_any ?_); refine xA ?_) | ((with_reducible refine isEk_any ?_); refine xE ?_)); (first | ((with_reducible refine e_load ?_); (first | refine ex_i (s_load1 tabOk rfl rfl rfl rfl (by exact digs_at D j hltj)) ?_ | refine ex_i (s_load1r tabOk rfl rfl rfl rfl (by exact digs_at D j hltj)) ?_ | refine ex_i (s_load1i tabOk rfl rfl rfl (by exact digs_at D j hltj)) ?_)) | ((with_reducible refine e_ix ?_); (first | refine ex_i (s_ixV1 tabOk rfl rfl (by first | with_reducible exact cast_self _ | with_reducible exact cast_lit _ | exact nt (by omega) | rfl) rfl rfl rfl rfl rfl (by first | exact Nat.le_of_ble_eq_true rfl | omega | (simp; omega)) (by exact digs_at D j hltj)) ?_ | refine ex_i (s_ixStr tabOk rfl rfl (by first | with_reducible exact cast_self _ | with_reducible exact cast_lit _ | exact nt (by omega) | rfl) rfl rfl (by exact digs_at D j hltj)) ?_))))
    | refine stA ?_
    | refine stE ?_
    | (refine hK _ _ _ _ ?_; clear hK hX K)
    | (refine hX _ _ _ _ _ (by simp) ?_; clear hK hX K))
    exact ⟨j + 1, by omega, by omega, (by refine weak_ren [0, 1, 2, 3, 6] rfl rfl ?_ ?_ rfl rfl <;> (repeat' (first | exact weakER_nil | exact weakHR_nil | refine weakER_cons rfl (by first | rfl | (exact congrArg (AObj.row 35) htj) | exact own_eq rfl rfl (by omega) | exact int_eq (by omega) | (simp <;> fail) | (congr 4; omega) | (congr 3; omega) | (congr 2; omega)) rfl ?_ | refine weakHR_cons rfl (by first | rfl | (exact congrArg (AObj.row 35) htj) | exact own_eq rfl rfl (by omega) | exact int_eq (by omega) | (simp <;> fail) | (congr 4; omega) | (congr 3; omega) | (congr 2; omega)) rfl ?_)))⟩
  · have hjn : j = 35 := by omega
    have hfl : E.take j = E := take_all (by omega)
    rw [hfl, hjn] at hlj
    rw [hfl, hjn]
    repeat' (first
    | ((with_reducible refine aw_seqk ?_); intro K hK hX)
    | ((with_reducible refine isC_reg ?_); refine aw_prune [0, 1, 2, 3, 6, 7, 8, 9, 10] rfl rfl ?_; with_reducible refine aw_region ?_)
    | ((with_reducible refine isC_draw ?_); refine aw_prune [0, 1, 2, 3, 6, 7, 8, 9, 10] rfl rfl ?_; refine aw_drwF [] ?_)
    | ((first | with_reducible refine isA_call ?_ | with_reducible refine isD_call ?_); (first | refine wA ?_ | refine wD ?_); refine ew_i (adds_closed (adds_call (by unfold Body; kernel_rfl) rfl (h1) (by first | exact cvl_rfl | ((repeat' (first | exact cvl_nil | refine cvl_cons ?_ ?_ | (first | exact cv_rfl | exact cv_nil | (refine cv_sl ?_ ?_ <;> first | rfl | omega | (simp <;> fail) | fail) | (refine cv_eq ?_; first | rfl | (simp <;> fail) | fail)))) <;> fail) | fail) rfl) (by first | rfl | with_reducible assumption | (simp <;> fail) | omega | (simp; omega) | assumption)) ?_)
    | ((with_reducible refine isA_call ?_); refine awl_call g_none rfl (by unfold Body; kernel_rfl) rfl h2 cvl_rfl rfl ?_)
    | ((with_reducible refine isA_store ?_); refine awl_storeA tabOk g_none rfl rfl rfl (by first | exact Parts.mixed _ | exact Parts.closed _) (by rfl) (by rfl) rfl (Nat.le_of_ble_eq_true rfl) (by rfl) ?_)
    | refine stA ?_
    | refine stD ?_
    | (refine hK _ _ _ _ ?_; clear hK hX K)
    | (refine hX _ _ _ _ _ (by simp) ?_; clear hK hX K))
    refine retK_mk (by first | exact .inl rfl | exact .inr rfl) (by exact trivial) rfl (ResL.two (by first | exact ResA.one rfl rfl rfl rfl rfl | exact ResA.agg rfl rfl rfl rfl rfl (by first | exact IsAgg.closed rfl rfl | exact IsAgg.mixed _) | exact ResA.aggr rfl rfl rfl rfl (by first | rfl | with_reducible assumption | (simp <;> fail) | omega | (simp; omega) | assumption)) (ResA.tmp rfl)) (out_ren (σ := [4, 5]) (by decide) (keepTwo rfl rfl rfl rfl) (ren_tup (renl_cons (ren_agg (renl_cons (ren_c (frz_c cv_rfl)) (renl_cons (ren_own rfl) (renl_cons (ren_c (frz_c cv_rfl)) (renl_cons (ren_c (frz_c cv_rfl)) (renl_cons (ren_own rfl) renl_nil)))))) (renl_cons (ren_c (frz_c cv_rfl)) renl_nil))))
theorem rsign_ok (seed msg : List UInt8) (I n m : Nat) (hs : seed.length = 32) (hI : I < 4) (hn : msg.length = n) (hnn : n ≤ 1000000) (hm : (pathD seed I).length = m) : AC Try.prog 48 [.agg (u8c seed), iv I, .sl 1 n (u8c msg)] (.tup [.c (sigV I 35 (partsD (sum 390#64 msg) seed I) I 4 m (pathD seed I)), .c (iv 0)]) [] 0 := by
  subst hm
  have h1 := dc_length (partsD_all (sum 390#64 msg) seed I) (partsD_length _ _ _)
  have h2 := dc_length (sib_facts (L := leavesD seed) (I := I) (leavesD_length seed) hI).1 rfl
  exact AC.out (rsign_own seed msg I n hs hI hn hnn) (out_t (frzl_cons (frz_agg rfl (frzl_cons (frz_c cv_rfl) (frzl_cons (frz_ownW rfl rfl h1) (frzl_cons (frz_c cv_rfl) (frzl_cons (frz_c cv_rfl) (frzl_cons (frz_ownW rfl rfl h2) frzl_nil)))))) (frzl_cons (frz_c cv_rfl) frzl_nil)))
set_option maxHeartbeats 4000000 in
theorem sigsame_ok (idx : Int) (P : List (List UInt8)) (p : Nat) (i c : Int) (S : List (List UInt8)) (m : Nat) (hP : all32 P) (hp : P.length = p) (hpp : p ≤ 100000) (hS : all32 S) (hm : S.length = m) (hmm : m ≤ 100000) : AC Try.prog 63 [sigV idx p P i c m S, sigV idx p P i c m S] (.c (.v (.bool true))) [] 0 := by
  have hdp := dc_length hP hp
  have hss := same_ok i c S m hS hm hmm
  refine ac_enter tabOk (sz := 46) Try.func63 rfl (by rw [Try.ntmps63]; rfl) ?_
  repeat' (first
    | ((with_reducible refine aw_seqk ?_); intro K hK hX)
    | ((with_reducible refine isC_reg ?_); refine aw_prune [0, 1, 2, 3, 4, 5] rfl rfl ?_; with_reducible refine aw_region ?_)
    | ((with_reducible refine isC_draw ?_); refine aw_prune [0, 1, 2, 3, 4, 5] rfl rfl ?_; refine aw_drwF [] ?_)
    | ((first | with_reducible refine isA_call ?_ | with_reducible refine isD_call ?_); (first | refine zA ?_ | refine zN ?_ | refine zD ?_); (first | refine c0 (hss) ?_))
    | ((first | ((with_reducible refine isA_any ?_); refine xA ?_) | ((with_reducible refine isDk_any ?_); refine xD ?_)); (first | ((with_reducible refine e_bin ?_); (first | refine ex_i (s_cmp rfl rfl rfl (decide_eq_false (fun h => h rfl))) ?_))))
    | refine stA ?_
    | refine stD ?_
    | (refine hK _ _ _ _ ?_; clear hK hX K)
    | (refine hX _ _ _ _ _ (by simp) ?_; clear hK hX K))
  refine aw_loopo [5] [] rfl rfl (fun j : Nat => [(5, .c (iv j))]) (fun j => []) (fun j => j ≤ p) (fun j => p - j) 0 (by omega) weakA ?_
  intro j hj K hK hX
  by_cases hlt : j < p
  · have hd := getD32 hP j (by omega)
    have hda := dig_at hP j (by omega)
    generalize P.getD j [] = d at hd hda
    have hud : (u8c d).length = 32 := by rw [u8c_length, hd]
    repeat' (first
    | ((with_reducible refine aw_seqk ?_); intro K hK hX)
    | ((with_reducible refine isC_reg ?_); refine aw_prune [0, 1, 2, 3, 4, 5] rfl rfl ?_; with_reducible refine aw_region ?_)
    | ((with_reducible refine isC_draw ?_); refine aw_prune [0, 1, 2, 3, 4, 5] rfl rfl ?_; refine aw_drwF [] ?_)
    | ((first | ((with_reducible refine isA_any ?_); refine xA ?_) | ((with_reducible refine isDk_any ?_); refine xD ?_)); (first | ((with_reducible refine e_bin ?_); (first | refine ex_i (s_neqU tabOk (by kernel_rfl) rfl rfl rfl rfl rfl rfl rfl rfl rfl hd hd (by simp; rfl)) ?_)) | ((with_reducible refine e_load ?_); (first | refine ex_i (s_loadAr tabOk rfl rfl rfl rfl (by first | exact hda | exact whole0 (by first | rfl | omega) | rfl) (by first | rfl | with_reducible assumption | (simp <;> fail) | omega | (simp; omega) | assumption)) ?_ | refine ex_i (s_loadAi tabOk rfl rfl rfl (by first | exact hda | exact whole0 (by first | rfl | omega) | rfl) (by first | rfl | with_reducible assumption | (simp <;> fail) | omega | (simp; omega) | assumption)) ?_)) | ((with_reducible refine e_slice ?_); (first | refine ex_i (s_slArri tabOk rfl rfl rfl rfl (by first | exact Bd.no | exact Bd.yes rfl (by first | with_reducible exact cast_self _ | with_reducible exact cast_lit _ | exact nt (by omega) | rfl)) (by first | exact Bd.no | exact Bd.yes rfl (by first | with_reducible exact cast_self _ | with_reducible exact cast_lit _ | exact nt (by omega) | rfl)) (by first | exact Nat.le_of_ble_eq_true rfl | omega | (simp; omega)) (by first | exact Nat.le_of_ble_eq_true rfl | omega | (simp; omega)) (by decide) (by first | exact hda | exact whole0 (by first | rfl | omega) | rfl) (by first | rfl | with_reducible assumption | (simp <;> fail) | omega | (simp; omega) | assumption)) ?_))))
    | refine stA ?_
    | refine stD ?_
    | (refine hK _ _ _ _ ?_; clear hK hX K)
    | (refine hX _ _ _ _ _ (by simp) ?_; clear hK hX K))
    exact ⟨j + 1, by omega, by omega, weakA⟩
  · have hjn : j = p := by omega
    repeat' (first
    | ((with_reducible refine aw_seqk ?_); intro K hK hX)
    | ((with_reducible refine isC_reg ?_); refine aw_prune [0, 1, 2, 3, 4, 5] rfl rfl ?_; with_reducible refine aw_region ?_)
    | ((with_reducible refine isC_draw ?_); refine aw_prune [0, 1, 2, 3, 4, 5] rfl rfl ?_; refine aw_drwF [] ?_)
    | refine stA ?_
    | refine stD ?_
    | (refine hK _ _ _ _ ?_; clear hK hX K)
    | (refine hX _ _ _ _ _ (by simp) ?_; clear hK hX K))
    refine retK_mk (by first | exact .inl rfl | exact .inr rfl) (by exact trivial) rfl (ResL.one (ResA.tmp rfl)) (by first | exact out_c (by first | exact frz_c cv_rfl | exact frz_c cv_nil | exact frz_ownW rfl rfl (by first | rfl | with_reducible assumption | (simp <;> fail) | omega | (simp; omega) | assumption) | exact frz_eq (frz_c cv_rfl) (by first | rfl | (simp <;> fail) | fail)) | exact out_own rfl rfl)
end Go.Proofs.Ytgofigkhdjjlmaa
