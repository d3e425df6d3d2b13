/-
  Verify of signatures (walk), as the program and as the reference have it.
-/
import Derived.Test.YtgofigkhdjjlmaaE4
import Derived.Test.YtgofigkhdjjlmaaWK
import Derived.Test.YtgofigkhdjjlmaaAvT
set_option linter.unusedVariables false
set_option linter.unusedSimpArgs false
namespace Go.Proofs.Ytgofigkhdjjlmaa
open Go Go.RowKit Go.Av
set_option maxRecDepth 100000
theorem flat_set : ∀ {L : List (List UInt8)} (i : Nat) (x : List UInt8), all32 L → i < L.length → x.length = 32 → L.flatten.take (i * 32) ++ x ++ L.flatten.drop (i * 32 + 32) = (L.set i x).flatten
  | [], i, x, _, hi, _ => by simp at hi
  | d :: L, 0, x, h, _, hx => by
    have := h d (by simp)
    simp [this, List.drop_append]
  | d :: L, i + 1, x, h, hi, hx => by
    have hd := h d (by simp)
    have ih := flat_set (L := L) i x (fun y hy => h y (by simp [hy])) (by simpa using hi) hx
    rw [List.flatten_cons, List.set_cons_succ, List.flatten_cons, ← ih, show (i + 1) * 32 = d.length + i * 32 by omega, show d.length + i * 32 + 32 = d.length + (i * 32 + 32) by omega]
    simp only [List.take_append, List.drop_append, Nat.add_sub_cancel_left]
    rw [List.take_of_length_le (by omega), List.drop_of_length_le (by omega)]
    simp
theorem lay_dc {L : List (List UInt8)} (h : all32 L) (i : Nat) (hi : i < L.length) (x : List UInt8) (hx : x.length = 32) : lay (dc L) (0 + i * 32) (u8c x) = dc (L.set i x) := by
  unfold lay dc
  rw [Nat.zero_add, u8c_length, hx, u8c_take, u8c_drop, ← u8c_app, ← u8c_app, flat_set i x h hi hx]
/-- A list of which the first i elements are there. -/
def filD (E : List (List UInt8)) (n i : Nat) : List (List UInt8) := E.take i ++ List.replicate (n - i) zero32
theorem zero32_length : zero32.length = 32 := by decide
theorem filD_length {E : List (List UInt8)} {n i : Nat} (hE : E.length = n) (hi : i ≤ n) : (filD E n i).length = n := by
  unfold filD
  rw [List.length_append, List.length_take, List.length_replicate]
  omega
theorem filD_all {E : List (List UInt8)} (n i : Nat) (hE : all32 E) : all32 (filD E n i) := fun d hd => by
  rcases List.mem_append.1 hd with hd | hd
  · exact hE d (List.mem_of_mem_take hd)
  · rw [List.eq_of_mem_replicate hd]; exact zero32_length
theorem filD_set {E : List (List UInt8)} {n i : Nat} (hE : E.length = n) (hi : i < n) : (filD E n i).set i (E.getD i []) = filD E n (i + 1) := by
  unfold filD
  rw [List.set_append, if_neg (by rw [List.length_take]; omega), List.length_take, show i - min i E.length = 0 by omega, show n - i = (n - (i + 1)) + 1 by omega, List.replicate_succ, List.set_cons_zero]
  have e1 : E.take (i + 1) = E.take i ++ [E.getD i []] := by
    rw [List.take_add_one, List.getElem?_eq_getElem (by omega), List.getD_eq_getElem?_getD, List.getElem?_eq_getElem (by omega)]
    rfl
  rw [e1]
  simp
theorem filD_full {E : List (List UInt8)} {n : Nat} (hE : E.length = n) : filD E n n = E := by
  unfold filD
  rw [Nat.sub_self, ← hE, List.take_length]
  simp
theorem filD_zero {E : List (List UInt8)} {n : Nat} : filD E n 0 = List.replicate n zero32 := by simp [filD]
theorem zc_dig (n : Nat) : zc (List.replicate 32 (Value.int .u8 0)) n = dc (List.replicate n zero32) := by
  induction n with
  | zero => rfl
  | succ n ih =>
    have e : zc (List.replicate 32 (Value.int .u8 0)) (n + 1) = (List.replicate 32 (Value.int .u8 0)).map CV.v ++ zc (List.replicate 32 (Value.int .u8 0)) n := by simp [zc, List.replicate_succ]
    rw [e, ih, List.replicate_succ]
    show _ = u8c (zero32 ++ (List.replicate n zero32).flatten)
    rw [u8c_app]
    rfl
/-- The last links. -/
def endsD (D : List UInt8) (P : List (List UInt8)) : List (List UInt8) := (List.range 35).map fun j => linkN (15 - dall D j) (P.getD j [])
theorem endsD_length (D : List UInt8) (P : List (List UInt8)) : (endsD D P).length = 35 := by simp [endsD]
theorem endsD_get (D : List UInt8) (P : List (List UInt8)) (j : Nat) (h : j < 35) : (endsD D P).getD j [] = linkN (15 - dall D j) (P.getD j []) := by
  simp [endsD, List.getD, h]
theorem endsD_all (D : List UInt8) (P : List (List UInt8)) (hP : all32 P) (hl : P.length = 35) : all32 (endsD D P) := fun d hd => by
  obtain ⟨j, hj, rfl⟩ := List.mem_map.1 hd
  exact linkN_length (getD32 hP j (by have := List.mem_range.1 hj; omega)) _
def verS (root msg : List UInt8) (idx : Int) (P : List (List UInt8)) (i c : Int) (S : List (List UInt8)) : Bool :=
  if P.length = 35 ∧ i = idx ∧ c = 4 then verP root (leafD (endsD (sum 390#64 msg) P)) i c S else false
abbrev sigV (idx : Int) (p : Nat) (P : List (List UInt8)) (i c : Int) (m : Nat) (S : List (List UInt8)) : CV := .agg [iv idx, .sl 32 p (dc P), iv i, iv c, .sl 32 m (dc S)]
attribute [local irreducible] Still Adds AWL AW Drw DrwE EStep AC AWR Weak Frz Src RetK Out InK permute
attribute [local simp] u8c_take u8c_drop u8c_app
theorem sver_idle : Idle Try.prog 82 1 := by
  intro us w hl
  obtain ⟨u0, rfl⟩ : ∃ u0, us = [u0] := by
    match us, hl with | [u0], _ => exact ⟨u0, rfl⟩
  refine callsD_of_wpS Try.func82 rfl fun c₀ cs hu => ?_
  apply wpS_seq
  apply wpS_region
  simp [wpOpsS, go_sem, recoverD, hu, Try.ntmps82, Exit.thenS]
  refine wpS_cond (t := false) (by simp [Act.eval, Array.replicate]) ?_
  simp only [Bool.false_eq_true, if_false]
  refine wpS_of_wp (wp_skip ?_)
  cases c₀
  simp_all [bodyPostS, results, Try.results82]
theorem sver_idle_b : Body Try.prog 82 := by unfold Body; kernel_rfl
set_option maxHeartbeats 4000000 in
theorem rsver_ok (root msg : List UInt8) (n : Nat) (idx : Int) (P : List (List UInt8)) (p : Nat) (i c : Int) (S : List (List UInt8)) (m : Nat) (hr : root.length = 32) (hn : msg.length = n) (hnn : n ≤ 1000000) (hP : all32 P) (hp : P.length = p) (hpp : p ≤ 100000) (hS : all32 S) (hm : S.length = m) (hmm : m ≤ 100000) : AC Try.prog 47 [.agg (u8c root), .sl 1 n (u8c msg), sigV idx p P i c m S] (.c (.v (.bool (verS root msg idx P i c S)))) [] 0 := by
  have hur : (u8c root).length = 32 := by rw [u8c_length, hr]
  by_cases hbad : ¬ (P.length = 35 ∧ i = idx ∧ c = 4)
  · unfold verS
    rw [if_neg hbad]
    by_cases b1 : (p : Int) = 35
    · by_cases b2 : i = idx
      · have b3 : ¬ c = 4 := fun e => hbad ⟨by omega, b2, e⟩
        clear hbad
        refine ac_enter tabOk (sz := 54) Try.func47 rfl (by rw [Try.ntmps47]; rfl) ?_
        repeat' (first
    | ((with_reducible refine aw_seqk ?_); intro K hK hX)
    | ((with_reducible refine isC_reg ?_); refine aw_prune [0, 1, 2, 3, 5, 6, 7, 8, 9] rfl rfl ?_; with_reducible refine aw_region ?_)
    | ((with_reducible refine isC_draw ?_); refine aw_prune [0, 1, 2, 3, 5, 6, 7, 8, 9] rfl rfl ?_; refine aw_drwF [] ?_)
    | refine stA ?_
    | refine stD ?_
    | (refine hK _ _ _ _ ?_; clear hK hX K)
    | (refine hX _ _ _ _ _ (by simp) ?_; clear hK hX K))
        refine retK_mk (by first | exact .inl rfl | exact .inr rfl) (by exact trivial) (ResL.one (ResA.tmp rfl)) (by first | exact out_c (by first | exact frz_c cv_rfl | exact frz_c cv_nil | exact frz_ownW rfl rfl (by first | rfl | with_reducible assumption | (simp <;> fail) | omega | (simp; omega) | assumption) | exact frz_eq (frz_c cv_rfl) (by first | rfl | (simp <;> fail) | fail)) | exact out_own rfl rfl)
      · clear hbad
        refine ac_enter tabOk (sz := 54) Try.func47 rfl (by rw [Try.ntmps47]; rfl) ?_
        repeat' (first
    | ((with_reducible refine aw_seqk ?_); intro K hK hX)
    | ((with_reducible refine isC_reg ?_); refine aw_prune [0, 1, 2, 3, 5, 6, 7, 8, 9] rfl rfl ?_; with_reducible refine aw_region ?_)
    | ((with_reducible refine isC_draw ?_); refine aw_prune [0, 1, 2, 3, 5, 6, 7, 8, 9] rfl rfl ?_; refine aw_drwF [] ?_)
    | refine stA ?_
    | refine stD ?_
    | (refine hK _ _ _ _ ?_; clear hK hX K)
    | (refine hX _ _ _ _ _ (by simp) ?_; clear hK hX K))
        refine retK_mk (by first | exact .inl rfl | exact .inr rfl) (by exact trivial) (ResL.one (ResA.tmp rfl)) (by first | exact out_c (by first | exact frz_c cv_rfl | exact frz_c cv_nil | exact frz_ownW rfl rfl (by first | rfl | with_reducible assumption | (simp <;> fail) | omega | (simp; omega) | assumption) | exact frz_eq (frz_c cv_rfl) (by first | rfl | (simp <;> fail) | fail)) | exact out_own rfl rfl)
    · clear hbad
      refine ac_enter tabOk (sz := 54) Try.func47 rfl (by rw [Try.ntmps47]; rfl) ?_
      repeat' (first
    | ((with_reducible refine aw_seqk ?_); intro K hK hX)
    | ((with_reducible refine isC_reg ?_); refine aw_prune [0, 1, 2, 3, 5, 6, 7, 8, 9] rfl rfl ?_; with_reducible refine aw_region ?_)
    | ((with_reducible refine isC_draw ?_); refine aw_prune [0, 1, 2, 3, 5, 6, 7, 8, 9] rfl rfl ?_; refine aw_drwF [] ?_)
    | refine stA ?_
    | refine stD ?_
    | (refine hK _ _ _ _ ?_; clear hK hX K)
    | (refine hX _ _ _ _ _ (by simp) ?_; clear hK hX K))
      refine retK_mk (by first | exact .inl rfl | exact .inr rfl) (by exact trivial) (ResL.one (ResA.tmp rfl)) (by first | exact out_c (by first | exact frz_c cv_rfl | exact frz_c cv_nil | exact frz_ownW rfl rfl (by first | rfl | with_reducible assumption | (simp <;> fail) | omega | (simp; omega) | assumption) | exact frz_eq (frz_c cv_rfl) (by first | rfl | (simp <;> fail) | fail)) | exact out_own rfl rfl)
  · have hgood : P.length = 35 ∧ i = idx ∧ c = 4 := Classical.not_not.1 hbad
    clear hbad
    obtain ⟨h35, rfl, rfl⟩ := hgood
    have hp35 : p = 35 := by omega
    subst hp35
    unfold verS
    rw [if_pos ⟨h35, rfl, rfl⟩]
    have hdi := rdigits_ok msg n hn hnn
    generalize sum 390#64 msg = D at hdi ⊢
    have hEl := endsD_length D P
    have hEa := endsD_all D P hP h35
    have hEg := endsD_get D P
    generalize endsD D P = E at hEl hEa hEg ⊢
    have hlen : (intc .i64 (digs D)).length = 35 := by rw [intc_length, digs_length]
    have hlf := rleaf_ok E 35 hEa hEl (by decide)
    have hve := rverify_ok root (leafD E) i 4 S m hr (leafD_length E) hS hm hmm
    have hull : (u8c (leafD E)).length = 32 := by rw [u8c_length, leafD_length]
    generalize leafD E = lf at hlf hve hull ⊢
    generalize verP root lf i 4 S = res at hve ⊢
    refine ac_enter tabOk (sz := 54) Try.func47 rfl (by rw [Try.ntmps47]; rfl) ?_
    repeat' (first
    | ((with_reducible refine aw_seqk ?_); intro K hK hX)
    | ((with_reducible refine isC_reg ?_); refine aw_prune [0, 1, 2, 3, 5, 6, 7, 8, 9] rfl rfl ?_; with_reducible refine aw_region ?_)
    | ((with_reducible refine isC_draw ?_); refine aw_prune [0, 1, 2, 3, 5, 6, 7, 8, 9] rfl rfl ?_; refine aw_drwF [] ?_)
    | ((first | with_reducible refine isA_call ?_ | with_reducible refine isD_call ?_); (first | refine zA ?_ | refine zN ?_ | refine zD ?_); (first | refine c1 (hdi) ?_))
    | refine stA ?_
    | refine stD ?_
    | (refine hK _ _ _ _ ?_; clear hK hX K)
    | (refine hX _ _ _ _ _ (by simp) ?_; clear hK hX K))
    refine aw_nilown 8 35 32 rfl ?_
    refine aw_loopk 4 (fun j : Nat => [(3, .ref 0 0), (5, .ref 1 0), (6, .c (.v (.bool false))), (7, .own 2 0 35 1 true), (8, .own 3 0 j 32 true), (9, .c (iv j))]) (fun j => [(0, .row 35 (u8c root)), (1, .blk 56 [.c (iv i), .c (.sl 32 35 (dc P)), .c (iv i), .c (iv 4), .c (.sl 32 m (dc S))]), (2, .row 3 (intc .i64 (digs D))), (3, .row 35 (u8c (E.take j).flatten))]) [] (fun j => j ≤ 35) (fun j => 35 - j) 0 (by omega) weakA ?_
    intro j hj K hK hX
    have hli := take_flat_len hEa (show j ≤ E.length by omega)
    by_cases hlt : j < 35
    · have hd15 := dall_le D j
      have hd := getD32 hP j (by omega)
      have hda := dig_at hP j (by omega)
      have htf := take_flat_u (L := E) (i := j) (by omega)
      rw [hEg j hlt] at htf
      generalize P.getD j [] = d at hd hda htf
      have hud : (u8c d).length = 32 := by rw [u8c_length, hd]
      have hk := rlinks_ok d (15 - dall D j) hd (by omega)
      rw [show ((15 - dall D j : Nat) : Int) = 15 - (dall D j : Int) by omega] at hk
      have huk : (u8c (linkN (15 - dall D j) d)).length = 32 := by rw [u8c_length, linkN_length hd]
      generalize linkN (15 - dall D j) d = x at hk htf huk
      have htf' : u8c (E.take j).flatten ++ [u8c x].flatten = u8c (E.take (j + 1)).flatten := by rw [← htf]; simp
      repeat' (first
    | ((with_reducible refine aw_seqk ?_); intro K hK hX)
    | ((with_reducible refine isC_reg ?_); refine aw_prune [0, 1, 2, 3, 5, 6, 7, 8, 9] rfl rfl ?_; with_reducible refine aw_region ?_)
    | ((with_reducible refine isC_draw ?_); refine aw_prune [0, 1, 2, 3, 5, 6, 7, 8, 9] rfl rfl ?_; refine aw_drwF [] ?_)
    | ((first | with_reducible refine isA_call ?_ | with_reducible refine isD_call ?_); (first | refine zA ?_ | refine zN ?_ | refine zD ?_); (first | refine c0 (hk) ?_))
    | ((first | ((with_reducible refine isA_any ?_); refine xA ?_) | ((with_reducible refine isDk_any ?_); refine xD ?_)); (first | ((with_reducible refine e_load ?_); (first | refine ex_i (s_load1 tabOk rfl rfl rfl rfl (by exact digs_at D j hlt)) ?_ | refine ex_i (s_load1r tabOk rfl rfl rfl rfl (by exact digs_at D j hlt)) ?_ | refine ex_i (s_load1i tabOk rfl rfl rfl (by exact digs_at D j hlt)) ?_ | refine ex_i (s_loadAr tabOk rfl rfl rfl rfl (by first | exact hda | exact whole0 (by first | rfl | omega) | rfl) (by first | rfl | with_reducible assumption | (simp <;> fail) | omega | (simp; omega) | assumption)) ?_ | refine ex_i (s_loadAi tabOk rfl rfl rfl (by first | exact hda | exact whole0 (by first | rfl | omega) | rfl) (by first | rfl | with_reducible assumption | (simp <;> fail) | omega | (simp; omega) | assumption)) ?_)) | ((with_reducible refine e_ix ?_); (first | refine ex_i (s_ixV1 tabOk rfl rfl (by first | with_reducible exact cast_self _ | with_reducible exact cast_lit _ | exact nt (by omega) | rfl) rfl rfl rfl rfl rfl (by first | exact Nat.le_of_ble_eq_true rfl | omega | (simp; omega)) (by exact digs_at D j hlt)) ?_ | refine ex_i (s_ixStr tabOk rfl rfl (by first | with_reducible exact cast_self _ | with_reducible exact cast_lit _ | exact nt (by omega) | rfl) rfl rfl (by exact digs_at D j hlt)) ?_)) | ((with_reducible refine e_slice ?_); (first | refine ex_i (s_slArri tabOk rfl rfl rfl rfl (by first | exact Bd.no | exact Bd.yes rfl (by first | with_reducible exact cast_self _ | with_reducible exact cast_lit _ | exact nt (by omega) | rfl)) (by first | exact Bd.no | exact Bd.yes rfl (by first | with_reducible exact cast_self _ | with_reducible exact cast_lit _ | exact nt (by omega) | rfl)) (by first | exact Nat.le_of_ble_eq_true rfl | omega | (simp; omega)) (by first | exact Nat.le_of_ble_eq_true rfl | omega | (simp; omega)) (by decide) (by first | exact hda | exact whole0 (by first | rfl | omega) | rfl) (by first | rfl | with_reducible assumption | (simp <;> fail) | omega | (simp; omega) | assumption)) ?_))))
    | refine stA ?_
    | refine stD ?_
    | (refine hK _ _ _ _ ?_; clear hK hX K)
    | (refine hX _ _ _ _ _ (by simp) ?_; clear hK hX K))
      exact ⟨j + 1, by omega, by omega, (by refine weak_ren [0, 1, 2, 5] rfl rfl ?_ ?_ rfl rfl <;> (repeat' (first | exact weakER_nil | exact weakHR_nil | refine weakER_cons rfl (by first | rfl | (exact congrArg (AObj.row 35) htf') | exact own_eq rfl rfl (by omega) | exact int_eq (by omega) | (simp <;> fail) | (congr 4; omega) | (congr 3; omega) | (congr 2; omega)) rfl ?_ | refine weakHR_cons rfl (by first | rfl | (exact congrArg (AObj.row 35) htf') | exact own_eq rfl rfl (by omega) | exact int_eq (by omega) | (simp <;> fail) | (congr 4; omega) | (congr 3; omega) | (congr 2; omega)) rfl ?_)))⟩
    · obtain rfl : j = 35 := by omega
      have hfl : (E.take 35).flatten = E.flatten := by rw [← hEl, List.take_length]
      rw [hfl] at hli ⊢
      have hdc : (u8c E.flatten).length = 35 * 32 := by rw [hli]
      repeat' (first
    | ((with_reducible refine aw_seqk ?_); intro K hK hX)
    | ((with_reducible refine isC_reg ?_); refine aw_prune [0, 1, 2, 3, 5, 6, 7, 8, 9] rfl rfl ?_; with_reducible refine aw_region ?_)
    | ((with_reducible refine isC_draw ?_); refine aw_prune [0, 1, 2, 3, 5, 6, 7, 8, 9] rfl rfl ?_; refine aw_drwF [] ?_)
    | ((first | with_reducible refine isA_call ?_ | with_reducible refine isD_call ?_); (first | refine wA ?_ | refine wN ?_ | refine wD ?_); (first | refine cF (hlf) ?_))
    | ((first | with_reducible refine isA_call ?_ | with_reducible refine isD_call ?_); (first | refine zA ?_ | refine zN ?_ | refine zD ?_); (first | refine c0 (hve) ?_))
    | refine stA ?_
    | refine stD ?_
    | (refine hK _ _ _ _ ?_; clear hK hX K)
    | (refine hX _ _ _ _ _ (by simp) ?_; clear hK hX K))
      refine retK_mk (by first | exact .inl rfl | exact .inr rfl) (by exact trivial) (ResL.one (ResA.tmp rfl)) (by first | exact out_c (by first | exact frz_c cv_rfl | exact frz_c cv_nil | exact frz_ownW rfl rfl (by first | rfl | with_reducible assumption | (simp <;> fail) | omega | (simp; omega) | assumption) | exact frz_eq (frz_c cv_rfl) (by first | rfl | (simp <;> fail) | fail)) | exact out_own rfl rfl)
set_option maxHeartbeats 4000000 in
theorem sver_ok (root msg : List UInt8) (n : Nat) (idx : Int) (P : List (List UInt8)) (p : Nat) (i c : Int) (S : List (List UInt8)) (m : Nat) (hr : root.length = 32) (hn : msg.length = n) (hnn : n ≤ 1000000) (hP : all32 P) (hp : P.length = p) (hpp : p ≤ 100000) (hS : all32 S) (hm : S.length = m) (hmm : m ≤ 100000) : AC Try.prog 46 [.agg (u8c root), .sl 1 n (u8c msg), sigV idx p P i c m S] (.c (.v (.bool (verS root msg idx P i c S)))) [] 0 := by
  have hur : (u8c root).length = 32 := by rw [u8c_length, hr]
  by_cases hbad : ¬ (P.length = 35 ∧ i = idx ∧ c = 4)
  · unfold verS
    rw [if_neg hbad]
    by_cases b1 : (p : Int) = 35
    · by_cases b2 : i = idx
      · have b3 : ¬ c = 4 := fun e => hbad ⟨by omega, b2, e⟩
        clear hbad
        refine ac_enter tabOk (sz := 38) Try.func46 rfl (by rw [Try.ntmps46]; rfl) ?_
        repeat' (first
    | ((with_reducible refine aw_seqk ?_); intro K hK hX)
    | ((with_reducible refine isC_reg ?_); refine aw_prune [0, 1, 2, 3, 5, 6, 7, 8] rfl rfl ?_; with_reducible refine aw_region ?_)
    | ((with_reducible refine isC_draw ?_); refine aw_prune [0, 1, 2, 3, 5, 6, 7, 8] rfl rfl ?_; refine aw_drwF [] ?_)
    | refine stA ?_
    | refine stD ?_
    | (refine hK _ _ _ _ ?_; clear hK hX K)
    | (refine hX _ _ _ _ _ (by simp) ?_; clear hK hX K))
        refine retK_mk (by first | exact .inl rfl | exact .inr rfl) (by exact ⟨sver_idle, sver_idle_b, trivial⟩) (ResL.one (by first | exact ResA.one rfl rfl rfl rfl rfl | exact ResA.agg rfl rfl rfl rfl rfl (by first | exact IsAgg.closed rfl rfl | exact IsAgg.mixed _) | exact ResA.aggr rfl rfl rfl rfl (by first | rfl | with_reducible assumption | (simp <;> fail) | omega | (simp; omega) | assumption))) (by first | exact out_c (by first | exact frz_c cv_rfl | exact frz_c cv_nil | exact frz_ownW rfl rfl (by first | rfl | with_reducible assumption | (simp <;> fail) | omega | (simp; omega) | assumption) | exact frz_eq (frz_c cv_rfl) (by first | rfl | (simp <;> fail) | fail)) | exact out_own rfl rfl)
      · clear hbad
        refine ac_enter tabOk (sz := 38) Try.func46 rfl (by rw [Try.ntmps46]; rfl) ?_
        repeat' (first
    | ((with_reducible refine aw_seqk ?_); intro K hK hX)
    | ((with_reducible refine isC_reg ?_); refine aw_prune [0, 1, 2, 3, 5, 6, 7, 8] rfl rfl ?_; with_reducible refine aw_region ?_)
    | ((with_reducible refine isC_draw ?_); refine aw_prune [0, 1, 2, 3, 5, 6, 7, 8] rfl rfl ?_; refine aw_drwF [] ?_)
    | refine stA ?_
    | refine stD ?_
    | (refine hK _ _ _ _ ?_; clear hK hX K)
    | (refine hX _ _ _ _ _ (by simp) ?_; clear hK hX K))
        refine retK_mk (by first | exact .inl rfl | exact .inr rfl) (by exact ⟨sver_idle, sver_idle_b, trivial⟩) (ResL.one (by first | exact ResA.one rfl rfl rfl rfl rfl | exact ResA.agg rfl rfl rfl rfl rfl (by first | exact IsAgg.closed rfl rfl | exact IsAgg.mixed _) | exact ResA.aggr rfl rfl rfl rfl (by first | rfl | with_reducible assumption | (simp <;> fail) | omega | (simp; omega) | assumption))) (by first | exact out_c (by first | exact frz_c cv_rfl | exact frz_c cv_nil | exact frz_ownW rfl rfl (by first | rfl | with_reducible assumption | (simp <;> fail) | omega | (simp; omega) | assumption) | exact frz_eq (frz_c cv_rfl) (by first | rfl | (simp <;> fail) | fail)) | exact out_own rfl rfl)
    · clear hbad
      refine ac_enter tabOk (sz := 38) Try.func46 rfl (by rw [Try.ntmps46]; rfl) ?_
      repeat' (first
    | ((with_reducible refine aw_seqk ?_); intro K hK hX)
    | ((with_reducible refine isC_reg ?_); refine aw_prune [0, 1, 2, 3, 5, 6, 7, 8] rfl rfl ?_; with_reducible refine aw_region ?_)
    | ((with_reducible refine isC_draw ?_); refine aw_prune [0, 1, 2, 3, 5, 6, 7, 8] rfl rfl ?_; refine aw_drwF [] ?_)
    | refine stA ?_
    | refine stD ?_
    | (refine hK _ _ _ _ ?_; clear hK hX K)
    | (refine hX _ _ _ _ _ (by simp) ?_; clear hK hX K))
      refine retK_mk (by first | exact .inl rfl | exact .inr rfl) (by exact ⟨sver_idle, sver_idle_b, trivial⟩) (ResL.one (by first | exact ResA.one rfl rfl rfl rfl rfl | exact ResA.agg rfl rfl rfl rfl rfl (by first | exact IsAgg.closed rfl rfl | exact IsAgg.mixed _) | exact ResA.aggr rfl rfl rfl rfl (by first | rfl | with_reducible assumption | (simp <;> fail) | omega | (simp; omega) | assumption))) (by first | exact out_c (by first | exact frz_c cv_rfl | exact frz_c cv_nil | exact frz_ownW rfl rfl (by first | rfl | with_reducible assumption | (simp <;> fail) | omega | (simp; omega) | assumption) | exact frz_eq (frz_c cv_rfl) (by first | rfl | (simp <;> fail) | fail)) | exact out_own rfl rfl)
  · have hgood : P.length = 35 ∧ i = idx ∧ c = 4 := Classical.not_not.1 hbad
    clear hbad
    obtain ⟨h35, rfl, rfl⟩ := hgood
    have hp35 : p = 35 := by omega
    subst hp35
    unfold verS
    rw [if_pos ⟨h35, rfl, rfl⟩]
    have hdi := digits_ok msg n hn hnn
    generalize sum 390#64 msg = D at hdi ⊢
    have hEl := endsD_length D P
    have hEa := endsD_all D P hP h35
    have hEg := endsD_get D P
    generalize endsD D P = E at hEl hEa hEg ⊢
    have hlen : (intc .i64 (digs D)).length = 35 := by rw [intc_length, digs_length]
    have hlf := leaf_ok E 35 hEa hEl (by decide)
    have hve := verify_ok root (leafD E) i 4 S m hr (leafD_length E) hS hm hmm
    have hull : (u8c (leafD E)).length = 32 := by rw [u8c_length, leafD_length]
    generalize leafD E = lf at hlf hve hull ⊢
    generalize verP root lf i 4 S = res at hve ⊢
    refine ac_enter tabOk (sz := 38) Try.func46 rfl (by rw [Try.ntmps46]; rfl) ?_
    repeat' (first
    | ((with_reducible refine aw_seqk ?_); intro K hK hX)
    | ((with_reducible refine isC_reg ?_); refine aw_prune [0, 1, 2, 3, 4, 5, 6, 7, 8, 9, 10] rfl rfl ?_; with_reducible refine aw_region ?_)
    | ((with_reducible refine isC_draw ?_); refine aw_prune [0, 1, 2, 3, 4, 5, 6, 7, 8, 9, 10] rfl rfl ?_; refine aw_drwF [83] ?_)
    | ((first | with_reducible refine isA_call ?_ | with_reducible refine isD_call ?_); (first | refine zA ?_ | refine zN ?_ | refine zD ?_); (first | refine c1 (hdi) ?_))
    | ((first | with_reducible refine isA_call ?_ | with_reducible refine isA_callv ?_); refine awl_inl tabOk [0, 1, 2, 3, 4, 5, 6, 7, 8, 9, 10, 11, 12, 13, 14, 15, 16, 17, 18, 19, 20, 21, 22, 23, 24, 25, 26, 27, 28, 29, 30, 31, 32, 33, 34, 35, 36, 37] g_none rfl rfl (by unfold Body; kernel_rfl) Try.func83 rfl rfl rfl (szf := 21) (by rw [Try.ntmps83]; rfl) rfl ?_)
    | refine stA ?_
    | refine stD ?_
    | (refine hK _ _ _ _ ?_; clear hK hX K)
    | (refine hX _ _ _ _ _ (by simp) ?_; clear hK hX K)
    | (first | refine inK_some (by first | exact .inl rfl | exact .inr rfl) (by exact trivial) rfl (ResL.one (ResA.tmp rfl)) ?_ | refine inK_none (by first | exact .inl rfl | exact .inr rfl) (by exact trivial) rfl (ResL.one (ResA.tmp rfl)) ?_))
    refine aw_loopk 6 (fun j : Nat => [(1, .fn 84 [.ref 1 0, .ref 4 0]), (5, .own 5 0 35 32 true), (9, .c (iv 35)), (10, .c (iv j))]) (fun j => [(0, .row 35 (u8c root)), (1, .blk 56 [.c (iv i), .c (.sl 32 35 (dc P)), .c (iv i), .c (iv 4), .c (.sl 32 m (dc S))]), (2, .blk 4 [.c (.v (.bool false))]), (3, .row 3 (intc .i64 (digs D))), (4, .blk 24 [.own 3 0 35 1 true]), (5, .row 35 (dc (filD E 35 j)))]) _ (fun j => j ≤ 35) (fun j => 35 - j) 0 (by omega) (by refine weak_mk rfl ?_ ?_ rfl <;> (repeat' (first | exact weakE_nil | exact weakH_nil | refine weakE_cons rfl (by first | rfl | (exact congrArg (AObj.row 35) ((zc_dig 35).trans (by rw [filD_zero]))) | exact own_eq rfl rfl (by omega) | exact int_eq (by omega) | (simp <;> fail) | (congr 4; omega) | (congr 3; omega) | (congr 2; omega)) rfl ?_ | refine weakH_cons rfl (by first | rfl | (exact congrArg (AObj.row 35) ((zc_dig 35).trans (by rw [filD_zero]))) | exact own_eq rfl rfl (by omega) | exact int_eq (by omega) | (simp <;> fail) | (congr 4; omega) | (congr 3; omega) | (congr 2; omega)) rfl ?_))) ?_
    intro j hj K hK hX
    have hfa := filD_all 35 j hEa
    have hfl := filD_length hEl (show j ≤ 35 by omega)
    have hdl := dc_length hfa hfl
    by_cases hlt : j < 35
    · have hd15 := dall_le D j
      have hd := getD32 hP j (by omega)
      have hda := dig_at hP j (by omega)
      have hst := lay_dc hfa j (by omega) (E.getD j []) (getD32 hEa j (by omega))
      rw [filD_set hEl hlt, hEg j hlt] at hst
      generalize P.getD j [] = d at hd hda hst
      have hud : (u8c d).length = 32 := by rw [u8c_length, hd]
      have hk := walk_ok d (15 - dall D j) hd (by omega)
      rw [show ((15 - dall D j : Nat) : Int) = 15 - (dall D j : Int) by omega] at hk
      have huk : (u8c (linkN (15 - dall D j) d)).length = 32 := by rw [u8c_length, linkN_length hd]
      generalize linkN (15 - dall D j) d = x at hk hst huk
      repeat' (first
    | ((with_reducible refine aw_seqk ?_); intro K hK hX)
    | ((with_reducible refine isC_reg ?_); refine aw_prune [0, 1, 2, 3, 4, 5, 6, 7, 8, 9, 10] rfl rfl ?_; with_reducible refine aw_region ?_)
    | ((with_reducible refine isC_draw ?_); refine aw_prune [0, 1, 2, 3, 4, 5, 6, 7, 8, 9, 10] rfl rfl ?_; refine aw_drwF [83, 84] ?_)
    | ((first | with_reducible refine isA_call ?_ | with_reducible refine isD_call ?_); (first | refine zA ?_ | refine zN ?_ | refine zD ?_); (first | refine c0 (hk) ?_))
    | ((first | with_reducible refine isA_call ?_ | with_reducible refine isA_callv ?_); refine awl_inl tabOk [0, 1, 2, 3, 4, 5, 6, 7, 8, 9, 10, 11, 12, 13, 14, 15, 16, 17, 18, 19, 20, 21, 22, 23, 24, 25, 26, 27, 28, 29, 30, 31, 32, 33, 34, 35, 36, 37] g_none rfl rfl (by unfold Body; kernel_rfl) Try.func83 rfl rfl rfl (szf := 21) (by rw [Try.ntmps83]; rfl) rfl ?_)
    | ((first | with_reducible refine isA_call ?_ | with_reducible refine isA_callv ?_); refine awl_inl tabOk [0, 1, 2, 3, 4, 5, 6, 7, 8, 9, 10, 11, 12, 13, 14, 15, 16, 17, 18, 19, 20, 21, 22, 23, 24, 25, 26, 27, 28, 29, 30, 31, 32, 33, 34, 35, 36, 37] g_none rfl rfl (by unfold Body; kernel_rfl) Try.func84 rfl rfl rfl (szf := 16) (by rw [Try.ntmps84]; rfl) rfl ?_)
    | ((first | ((with_reducible refine isA_any ?_); refine xA ?_) | ((with_reducible refine isDk_any ?_); refine xD ?_)); (first | ((with_reducible refine e_load ?_); (first | refine ex_i (s_load1 tabOk rfl rfl rfl rfl (by exact digs_at D j hlt)) ?_ | refine ex_i (s_load1r tabOk rfl rfl rfl rfl (by exact digs_at D j hlt)) ?_ | refine ex_i (s_load1i tabOk rfl rfl rfl (by exact digs_at D j hlt)) ?_ | refine ex_i (s_loadAr tabOk rfl rfl rfl rfl (by first | exact hda | exact whole0 (by first | rfl | omega) | rfl) (by first | rfl | with_reducible assumption | (simp <;> fail) | omega | (simp; omega) | assumption)) ?_ | refine ex_i (s_loadAi tabOk rfl rfl rfl (by first | exact hda | exact whole0 (by first | rfl | omega) | rfl) (by first | rfl | with_reducible assumption | (simp <;> fail) | omega | (simp; omega) | assumption)) ?_)) | ((with_reducible refine e_ix ?_); (first | refine ex_i (s_ixV1 tabOk rfl rfl (by first | with_reducible exact cast_self _ | with_reducible exact cast_lit _ | exact nt (by omega) | rfl) rfl rfl rfl rfl rfl (by first | exact Nat.le_of_ble_eq_true rfl | omega | (simp; omega)) (by exact digs_at D j hlt)) ?_ | refine ex_i (s_ixStr tabOk rfl rfl (by first | with_reducible exact cast_self _ | with_reducible exact cast_lit _ | exact nt (by omega) | rfl) rfl rfl (by exact digs_at D j hlt)) ?_)) | ((with_reducible refine e_slice ?_); (first | refine ex_i (s_slArri tabOk rfl rfl rfl rfl (by first | exact Bd.no | exact Bd.yes rfl (by first | with_reducible exact cast_self _ | with_reducible exact cast_lit _ | exact nt (by omega) | rfl)) (by first | exact Bd.no | exact Bd.yes rfl (by first | with_reducible exact cast_self _ | with_reducible exact cast_lit _ | exact nt (by omega) | rfl)) (by first | exact Nat.le_of_ble_eq_true rfl | omega | (simp; omega)) (by first | exact Nat.le_of_ble_eq_true rfl | omega | (simp; omega)) (by decide) (by first | exact hda | exact whole0 (by first | rfl | omega) | rfl) (by first | rfl | with_reducible assumption | (simp <;> fail) | omega | (simp; omega) | assumption)) ?_))))
    | ((with_reducible refine isA_store ?_); (refine awl_store1r tabOk g_none rfl rfl rfl rfl rfl rfl (by first | omega | exact Nat.le_of_ble_eq_true rfl | omega | (simp; omega)) ?_))
    | ((with_reducible refine isA_store ?_); (refine awl_storeAr tabOk g_none rfl rfl rfl (by first | rfl | with_reducible assumption | (simp <;> fail) | omega | (simp; omega) | assumption) rfl (by first | exact Nat.le_of_ble_eq_true rfl | omega | (simp; omega)) (by first | exact hst | exact lay_whole _ _ (by first | rfl | with_reducible assumption | (simp <;> fail) | omega | (simp; omega) | assumption) | rfl) ?_))
    | refine stA ?_
    | refine stD ?_
    | (refine hK _ _ _ _ ?_; clear hK hX K)
    | (refine hX _ _ _ _ _ (by simp) ?_; clear hK hX K)
    | (first | refine inK_some (by first | exact .inl rfl | exact .inr rfl) (by exact trivial) rfl (ResL.one (ResA.tmp rfl)) ?_ | refine inK_none (by first | exact .inl rfl | exact .inr rfl) (by exact trivial) rfl (ResL.one (ResA.tmp rfl)) ?_)
    | (first | refine inK_some (by first | exact .inl rfl | exact .inr rfl) (by exact trivial) rfl (ResL.one (by first | exact ResA.one rfl rfl rfl rfl rfl | exact ResA.agg rfl rfl rfl rfl rfl (by first | exact IsAgg.closed rfl rfl | exact IsAgg.mixed _) | exact ResA.aggr rfl rfl rfl rfl (by first | rfl | with_reducible assumption | (simp <;> fail) | omega | (simp; omega) | assumption))) ?_ | refine inK_none (by first | exact .inl rfl | exact .inr rfl) (by exact trivial) rfl (ResL.one (by first | exact ResA.one rfl rfl rfl rfl rfl | exact ResA.agg rfl rfl rfl rfl rfl (by first | exact IsAgg.closed rfl rfl | exact IsAgg.mixed _) | exact ResA.aggr rfl rfl rfl rfl (by first | rfl | with_reducible assumption | (simp <;> fail) | omega | (simp; omega) | assumption))) ?_))
      exact ⟨j + 1, by omega, by omega, weakA⟩
    · obtain rfl : j = 35 := by omega
      rw [filD_full hEl] at hdl ⊢
      repeat' (first
    | ((with_reducible refine aw_seqk ?_); intro K hK hX)
    | ((with_reducible refine isC_reg ?_); refine aw_prune [0, 1, 2, 3, 4, 5, 6, 7, 8, 9, 10] rfl rfl ?_; with_reducible refine aw_region ?_)
    | ((with_reducible refine isC_draw ?_); refine aw_prune [0, 1, 2, 3, 4, 5, 6, 7, 8, 9, 10] rfl rfl ?_; refine aw_drwF [83] ?_)
    | ((first | with_reducible refine isA_call ?_ | with_reducible refine isD_call ?_); (first | refine wA ?_ | refine wN ?_ | refine wD ?_); (first | refine cF (hlf) ?_))
    | ((first | with_reducible refine isA_call ?_ | with_reducible refine isD_call ?_); (first | refine zA ?_ | refine zN ?_ | refine zD ?_); (first | refine c0 (hve) ?_))
    | ((first | with_reducible refine isA_call ?_ | with_reducible refine isA_callv ?_); refine awl_inl tabOk [0, 1, 2, 3, 4, 5, 6, 7, 8, 9, 10, 11, 12, 13, 14, 15, 16, 17, 18, 19, 20, 21, 22, 23, 24, 25, 26, 27, 28, 29, 30, 31, 32, 33, 34, 35, 36, 37] g_none rfl rfl (by unfold Body; kernel_rfl) Try.func83 rfl rfl rfl (szf := 21) (by rw [Try.ntmps83]; rfl) rfl ?_)
    | refine stA ?_
    | refine stD ?_
    | (refine hK _ _ _ _ ?_; clear hK hX K)
    | (refine hX _ _ _ _ _ (by simp) ?_; clear hK hX K)
    | (first | refine inK_some (by first | exact .inl rfl | exact .inr rfl) (by exact trivial) rfl (ResL.one (ResA.tmp rfl)) ?_ | refine inK_none (by first | exact .inl rfl | exact .inr rfl) (by exact trivial) rfl (ResL.one (ResA.tmp rfl)) ?_))
      refine retK_mk (by first | exact .inl rfl | exact .inr rfl) (by exact ⟨sver_idle, sver_idle_b, trivial⟩) (ResL.one (by first | exact ResA.one rfl rfl rfl rfl rfl | exact ResA.agg rfl rfl rfl rfl rfl (by first | exact IsAgg.closed rfl rfl | exact IsAgg.mixed _) | exact ResA.aggr rfl rfl rfl rfl (by first | rfl | with_reducible assumption | (simp <;> fail) | omega | (simp; omega) | assumption))) (by first | exact out_c (by first | exact frz_c cv_rfl | exact frz_c cv_nil | exact frz_ownW rfl rfl (by first | rfl | with_reducible assumption | (simp <;> fail) | omega | (simp; omega) | assumption) | exact frz_eq (frz_c cv_rfl) (by first | rfl | (simp <;> fail) | fail)) | exact out_own rfl rfl)
end Go.Proofs.Ytgofigkhdjjlmaa
