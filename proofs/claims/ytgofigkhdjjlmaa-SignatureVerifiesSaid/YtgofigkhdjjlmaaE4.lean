/-
  Links of chains and leaves of last links (walk), as the program and as the reference have them.
-/
import Derived.Test.YtgofigkhdjjlmaaE3
import Derived.Test.YtgofigkhdjjlmaaWK
import Derived.Test.YtgofigkhdjjlmaaD19
import Derived.Test.YtgofigkhdjjlmaaAvT
set_option linter.unusedVariables false
set_option linter.unusedSimpArgs false
namespace Go.Proofs.Ytgofigkhdjjlmaa
open Go Go.RowKit Go.Av
set_option maxRecDepth 100000
def linkN : Nat → List UInt8 → List UInt8
  | 0, x => x
  | n + 1, x => sum 392#64 (linkN n x)
theorem linkN_length {x : List UInt8} (hx : x.length = 32) : ∀ n, (linkN n x).length = 32
  | 0 => hx
  | _ + 1 => sum_length _ _
theorem linkN_step (n : Nat) (x : List UInt8) : sum 392#64 (linkN n x) = linkN (n + 1) x := rfl
def leafD (L : List (List UInt8)) : List UInt8 := sum 393#64 L.flatten
theorem leafD_length (L : List (List UInt8)) : (leafD L).length = 32 := sum_length _ _
theorem take_flat {L : List (List UInt8)} {i : Nat} (hi : i < L.length) : (L.take (i + 1)).flatten = (L.take i).flatten ++ L.getD i [] := by
  rw [List.take_add_one, List.getElem?_eq_getElem hi, List.flatten_append, List.getD_eq_getElem?_getD, List.getElem?_eq_getElem hi]
  simp
theorem take_flat_u {L : List (List UInt8)} {i : Nat} (hi : i < L.length) : u8c (L.take i).flatten ++ u8c (L.getD i []) = u8c (L.take (i + 1)).flatten := by rw [take_flat hi, u8c_app]
theorem take_flat_len {L : List (List UInt8)} (h : all32 L) {i : Nat} (hi : i ≤ L.length) : (u8c (L.take i).flatten).length = i * 32 := by
  rw [u8c_length, flat_len (fun d hd => h d (List.mem_of_mem_take hd)), List.length_take, Nat.min_eq_left hi]
attribute [local irreducible] Still Adds AWL AW Drw DrwE EStep AC AWR Weak Frz Src RetK Out InK permute
attribute [local simp] u8c_take u8c_drop u8c_app
set_option maxHeartbeats 4000000 in
theorem walk_ok (x : List UInt8) (n : Nat) (hx : x.length = 32) (hn : n ≤ 100000) : AC Try.prog 85 [.agg (u8c x), iv n] (.c (.agg (u8c (linkN n x)))) [] 0 := by
  have hux : (u8c x).length = 32 := by rw [u8c_length, hx]
  refine ac_enter tabOk (sz := 12) Try.func85 rfl (by rw [Try.ntmps85]; rfl) ?_
  repeat' (first
    | ((with_reducible refine aw_seqk ?_); intro K hK hX)
    | ((with_reducible refine isC_reg ?_); refine aw_prune [0, 1, 2, 4, 5, 6] rfl rfl ?_; with_reducible refine aw_region ?_)
    | refine stA ?_
    | (refine hK _ _ _ _ ?_; clear hK hX K)
    | (refine hX _ _ _ _ _ (by simp) ?_; clear hK hX K))
  refine aw_loopk 2 (fun i : Nat => [(2, .ref 0 0), (4, .ref 1 0), (5, .c (iv n)), (6, .c (iv i))]) (fun i => [(0, .row 35 (u8c (linkN i x))), (1, .row 35 z32)]) [] (fun i => i ≤ n) (fun i => n - i) 0 (by omega) weakA ?_
  intro i hi K hK hX
  have hxi := linkN_length hx i
  have hui : (u8c (linkN i x)).length = 32 := by rw [u8c_length, hxi]
  by_cases hlt : i < n
  · have hk := keyed_ok 392#64 (linkN i x) [] 0 hxi rfl (by decide)
    rw [List.append_nil, linkN_step] at hk
    have hui' : (u8c (linkN (i + 1) x)).length = 32 := by rw [u8c_length, linkN_length hx]
    repeat' (first
    | ((with_reducible refine aw_seqk ?_); intro K hK hX)
    | ((with_reducible refine isC_reg ?_); refine aw_prune [0, 1, 2, 4, 5, 6] rfl rfl ?_; with_reducible refine aw_region ?_)
    | ((with_reducible refine isA_call ?_); (first | refine zA ?_ | refine zN ?_); (first | refine c0 (hk) ?_))
    | refine stA ?_
    | (refine hK _ _ _ _ ?_; clear hK hX K)
    | (refine hX _ _ _ _ _ (by simp) ?_; clear hK hX K))
    exact ⟨i + 1, by omega, by omega, weakA⟩
  · have hin : i = n := by omega
    repeat' (first
    | ((with_reducible refine aw_seqk ?_); intro K hK hX)
    | ((with_reducible refine isC_reg ?_); refine aw_prune [0, 1, 2, 4, 5, 6] rfl rfl ?_; with_reducible refine aw_region ?_)
    | refine stA ?_
    | (refine hK _ _ _ _ ?_; clear hK hX K)
    | (refine hX _ _ _ _ _ (by simp) ?_; clear hK hX K))
    rw [← hin]
    refine retK_mk (by first | exact .inl rfl | exact .inr rfl) (by exact trivial) (ResL.one (by first | exact ResA.one rfl rfl rfl rfl rfl | exact ResA.agg rfl rfl rfl rfl rfl (by first | exact IsAgg.closed rfl rfl | exact IsAgg.mixed _) | exact ResA.aggr rfl rfl rfl rfl (by first | rfl | with_reducible assumption | (simp <;> fail) | omega | (simp; omega) | assumption))) (by first | exact out_c (by first | exact frz_c cv_rfl | exact frz_c cv_nil | exact frz_ownW rfl rfl (by first | rfl | with_reducible assumption | (simp <;> fail) | omega | (simp; omega) | assumption) | exact frz_eq (frz_c cv_rfl) (by first | rfl | (simp <;> fail) | fail)) | exact out_own rfl rfl)
set_option maxHeartbeats 4000000 in
theorem rlinks_ok (x : List UInt8) (n : Nat) (hx : x.length = 32) (hn : n ≤ 100000) : AC Try.prog 87 [.agg (u8c x), iv n] (.c (.agg (u8c (linkN n x)))) [] 0 := by
  have hux : (u8c x).length = 32 := by rw [u8c_length, hx]
  refine ac_enter tabOk (sz := 14) Try.func87 rfl (by rw [Try.ntmps87]; rfl) ?_
  repeat' (first
    | ((with_reducible refine aw_seqk ?_); intro K hK hX)
    | ((with_reducible refine isC_reg ?_); refine aw_prune [0, 1, 2, 4, 5] rfl rfl ?_; with_reducible refine aw_region ?_)
    | refine stA ?_
    | (refine hK _ _ _ _ ?_; clear hK hX K)
    | (refine hX _ _ _ _ _ (by simp) ?_; clear hK hX K))
  refine aw_loopk 2 (fun i : Nat => [(1, .c (iv n)), (2, .ref 0 0), (4, .ref 1 0), (5, .c (iv i))]) (fun i => [(0, .row 35 (u8c (linkN i x))), (1, .row 35 z32)]) [] (fun i => i ≤ n) (fun i => n - i) 0 (by omega) weakA ?_
  intro i hi K hK hX
  have hxi := linkN_length hx i
  have hui : (u8c (linkN i x)).length = 32 := by rw [u8c_length, hxi]
  by_cases hlt : i < n
  · have hk := rkeyed_ok 392#64 (linkN i x) [] 0 hxi rfl (by decide)
    rw [List.append_nil, linkN_step] at hk
    have hui' : (u8c (linkN (i + 1) x)).length = 32 := by rw [u8c_length, linkN_length hx]
    repeat' (first
    | ((with_reducible refine aw_seqk ?_); intro K hK hX)
    | ((with_reducible refine isC_reg ?_); refine aw_prune [0, 1, 2, 4, 5] rfl rfl ?_; with_reducible refine aw_region ?_)
    | ((with_reducible refine isA_call ?_); (first | refine zA ?_ | refine zN ?_); (first | refine c0 (hk) ?_))
    | refine stA ?_
    | (refine hK _ _ _ _ ?_; clear hK hX K)
    | (refine hX _ _ _ _ _ (by simp) ?_; clear hK hX K))
    exact ⟨i + 1, by omega, by omega, weakA⟩
  · have hin : i = n := by omega
    repeat' (first
    | ((with_reducible refine aw_seqk ?_); intro K hK hX)
    | ((with_reducible refine isC_reg ?_); refine aw_prune [0, 1, 2, 4, 5] rfl rfl ?_; with_reducible refine aw_region ?_)
    | refine stA ?_
    | (refine hK _ _ _ _ ?_; clear hK hX K)
    | (refine hX _ _ _ _ _ (by simp) ?_; clear hK hX K))
    rw [← hin]
    refine retK_mk (by first | exact .inl rfl | exact .inr rfl) (by exact trivial) (ResL.one (by first | exact ResA.one rfl rfl rfl rfl rfl | exact ResA.agg rfl rfl rfl rfl rfl (by first | exact IsAgg.closed rfl rfl | exact IsAgg.mixed _) | exact ResA.aggr rfl rfl rfl rfl (by first | rfl | with_reducible assumption | (simp <;> fail) | omega | (simp; omega) | assumption))) (by first | exact out_c (by first | exact frz_c cv_rfl | exact frz_c cv_nil | exact frz_ownW rfl rfl (by first | rfl | with_reducible assumption | (simp <;> fail) | omega | (simp; omega) | assumption) | exact frz_eq (frz_c cv_rfl) (by first | rfl | (simp <;> fail) | fail)) | exact out_own rfl rfl)
set_option maxHeartbeats 4000000 in
theorem leaf_ok (L : List (List UInt8)) (m : Nat) (hL : all32 L) (hm : L.length = m) (hmm : m ≤ 100000) : AC Try.prog 86 [.sl 32 m (dc L)] (.c (.agg (u8c (leafD L)))) [] 0 := by
  have hdl := dc_length hL hm
  refine ac_enter tabOk (sz := 22) Try.func86 rfl (by rw [Try.ntmps86]; rfl) ?_
  repeat' (first
    | ((with_reducible refine aw_seqk ?_); intro K hK hX)
    | ((with_reducible refine isC_reg ?_); refine aw_prune [0, 2, 3, 5, 10, 11, 12] rfl rfl ?_; with_reducible refine aw_region ?_)
    | refine stA ?_
    | (refine hK _ _ _ _ ?_; clear hK hX K)
    | (refine hX _ _ _ _ _ (by simp) ?_; clear hK hX K))
  refine aw_loopk 2 (fun i : Nat => [(2, .ref 0 0), (3, .own 1 0 (i * 32) 1 true), (10, .c (.sl 32 m (dc L))), (11, .c (iv m)), (12, .c (iv i))]) (fun i => [(0, .row 35 z32), (1, .row 5 (u8c (L.take i).flatten))]) [] (fun i => i ≤ m) (fun i => m - i) 0 (by omega) weakA ?_
  intro i hi K hK hX
  have hli := take_flat_len hL (show i ≤ L.length by omega)
  by_cases hlt : i < m
  · have hd := getD32 hL i (by omega)
    have hda := dig_at hL i (by omega)
    have htf := take_flat_u (L := L) (i := i) (by omega)
    generalize L.getD i [] = d at hd hda htf
    have hud : (u8c d).length = 32 := by rw [u8c_length, hd]
    repeat' (first
    | ((with_reducible refine aw_seqk ?_); intro K hK hX)
    | ((with_reducible refine isC_reg ?_); refine aw_prune [0, 2, 3, 5, 10, 11, 12] rfl rfl ?_; with_reducible refine aw_region ?_)
    | (((with_reducible refine isA_any ?_); refine xA ?_); (first | ((with_reducible refine e_load ?_); (first | refine ex_i (s_loadAr tabOk rfl rfl rfl rfl (by first | exact hda | exact whole0 (by first | rfl | omega) | rfl) (by first | rfl | with_reducible assumption | (simp <;> fail) | omega | (simp; omega) | assumption)) ?_ | refine ex_i (s_loadAi tabOk rfl rfl rfl (by first | exact hda | exact whole0 (by first | rfl | omega) | rfl) (by first | rfl | with_reducible assumption | (simp <;> fail) | omega | (simp; omega) | assumption)) ?_)) | ((with_reducible refine e_slice ?_); (first | refine ex_i (s_slArri tabOk rfl rfl rfl rfl (by first | exact Bd.no | exact Bd.yes rfl (by first | with_reducible exact cast_self _ | with_reducible exact cast_lit _ | exact nt (by omega) | rfl)) (by first | exact Bd.no | exact Bd.yes rfl (by first | with_reducible exact cast_self _ | with_reducible exact cast_lit _ | exact nt (by omega) | rfl)) (by first | exact Nat.le_of_ble_eq_true rfl | omega | (simp; omega)) (by first | exact Nat.le_of_ble_eq_true rfl | omega | (simp; omega)) (by decide) (by first | exact hda | exact whole0 (by first | rfl | omega) | rfl) (by first | rfl | with_reducible assumption | (simp <;> fail) | omega | (simp; omega) | assumption)) ?_))))
    | refine stA ?_
    | (refine hK _ _ _ _ ?_; clear hK hX K)
    | (refine hX _ _ _ _ _ (by simp) ?_; clear hK hX K))
    exact ⟨i + 1, by omega, by omega, (by refine weak_ren [0, 3] rfl rfl ?_ ?_ rfl rfl <;> (repeat' (first | exact weakER_nil | exact weakHR_nil | refine weakER_cons rfl (by first | rfl | (exact congrArg (AObj.row 5) htf) | exact own_eq rfl rfl (by omega) | exact int_eq (by omega) | (simp <;> fail) | (congr 4; omega) | (congr 3; omega) | (congr 2; omega)) rfl ?_ | refine weakHR_cons rfl (by first | rfl | (exact congrArg (AObj.row 5) htf) | exact own_eq rfl rfl (by omega) | exact int_eq (by omega) | (simp <;> fail) | (congr 4; omega) | (congr 3; omega) | (congr 2; omega)) rfl ?_)))⟩
  · have him : i = m := by omega
    have hfl : (L.take i).flatten = L.flatten := by rw [him, ← hm, List.take_length]
    have hll : L.flatten.length = i * 32 := by rw [flat_len hL, hm, him]
    have hk := sum_ok 393#64 L.flatten (i * 32) hll (by simp only [maxLen]; omega)
    have hus : (u8c (leafD L)).length = 32 := by rw [u8c_length, leafD_length]
    rw [hfl] at hli ⊢
    unfold leafD at *
    repeat' (first
    | ((with_reducible refine aw_seqk ?_); intro K hK hX)
    | ((with_reducible refine isC_reg ?_); refine aw_prune [0, 2, 3, 5, 10, 11, 12] rfl rfl ?_; with_reducible refine aw_region ?_)
    | ((with_reducible refine isA_call ?_); (first | refine wA ?_ | refine wN ?_); (first | refine cF (hk) ?_))
    | refine stA ?_
    | (refine hK _ _ _ _ ?_; clear hK hX K)
    | (refine hX _ _ _ _ _ (by simp) ?_; clear hK hX K))
    refine retK_mk (by first | exact .inl rfl | exact .inr rfl) (by exact trivial) (ResL.one (by first | exact ResA.one rfl rfl rfl rfl rfl | exact ResA.agg rfl rfl rfl rfl rfl (by first | exact IsAgg.closed rfl rfl | exact IsAgg.mixed _) | exact ResA.aggr rfl rfl rfl rfl (by first | rfl | with_reducible assumption | (simp <;> fail) | omega | (simp; omega) | assumption))) (by first | exact out_c (by first | exact frz_c cv_rfl | exact frz_c cv_nil | exact frz_ownW rfl rfl (by first | rfl | with_reducible assumption | (simp <;> fail) | omega | (simp; omega) | assumption) | exact frz_eq (frz_c cv_rfl) (by first | rfl | (simp <;> fail) | fail)) | exact out_own rfl rfl)
set_option maxHeartbeats 4000000 in
theorem rleaf_ok (L : List (List UInt8)) (m : Nat) (hL : all32 L) (hm : L.length = m) (hmm : m ≤ 100000) : AC Try.prog 89 [.sl 32 m (dc L)] (.c (.agg (u8c (leafD L)))) [] 0 := by
  have hdl := dc_length hL hm
  refine ac_enter tabOk (sz := 21) Try.func89 rfl (by rw [Try.ntmps89]; rfl) ?_
  repeat' (first
    | ((with_reducible refine aw_seqk ?_); intro K hK hX)
    | ((with_reducible refine isC_reg ?_); refine aw_prune [0, 2, 3, 4] rfl rfl ?_; with_reducible refine aw_region ?_)
    | refine stA ?_
    | (refine hK _ _ _ _ ?_; clear hK hX K)
    | (refine hX _ _ _ _ _ (by simp) ?_; clear hK hX K))
  refine aw_loopk 2 (fun i : Nat => [(0, .c (.sl 32 m (dc L))), (2, .ref 0 0), (3, .own 1 0 (i * 32) 1 true), (4, .c (iv i))]) (fun i => [(0, .row 35 z32), (1, .row 5 (u8c (L.take i).flatten))]) [] (fun i => i ≤ m) (fun i => m - i) 0 (by omega) weakA ?_
  intro i hi K hK hX
  have hli := take_flat_len hL (show i ≤ L.length by omega)
  by_cases hlt : i < m
  · have hd := getD32 hL i (by omega)
    have hda := dig_at hL i (by omega)
    have htf := take_flat_u (L := L) (i := i) (by omega)
    generalize L.getD i [] = d at hd hda htf
    have hud : (u8c d).length = 32 := by rw [u8c_length, hd]
    repeat' (first
    | ((with_reducible refine aw_seqk ?_); intro K hK hX)
    | ((with_reducible refine isC_reg ?_); refine aw_prune [0, 2, 3, 4] rfl rfl ?_; with_reducible refine aw_region ?_)
    | ((with_reducible refine isA_call ?_); (first | refine zA ?_ | refine zN ?_); (first | refine c1 (bytes_ok d hd) ?_))
    | (((with_reducible refine isA_any ?_); refine xA ?_); (first | ((with_reducible refine e_load ?_); (first | refine ex_i (s_loadAr tabOk rfl rfl rfl rfl (by first | exact hda | exact whole0 (by first | rfl | omega) | rfl) (by first | rfl | with_reducible assumption | (simp <;> fail) | omega | (simp; omega) | assumption)) ?_ | refine ex_i (s_loadAi tabOk rfl rfl rfl (by first | exact hda | exact whole0 (by first | rfl | omega) | rfl) (by first | rfl | with_reducible assumption | (simp <;> fail) | omega | (simp; omega) | assumption)) ?_)) | ((with_reducible refine e_slice ?_); (first | refine ex_i (s_slArri tabOk rfl rfl rfl rfl (by first | exact Bd.no | exact Bd.yes rfl (by first | with_reducible exact cast_self _ | with_reducible exact cast_lit _ | exact nt (by omega) | rfl)) (by first | exact Bd.no | exact Bd.yes rfl (by first | with_reducible exact cast_self _ | with_reducible exact cast_lit _ | exact nt (by omega) | rfl)) (by first | exact Nat.le_of_ble_eq_true rfl | omega | (simp; omega)) (by first | exact Nat.le_of_ble_eq_true rfl | omega | (simp; omega)) (by decide) (by first | exact hda | exact whole0 (by first | rfl | omega) | rfl) (by first | rfl | with_reducible assumption | (simp <;> fail) | omega | (simp; omega) | assumption)) ?_))))
    | refine stA ?_
    | (refine hK _ _ _ _ ?_; clear hK hX K)
    | (refine hX _ _ _ _ _ (by simp) ?_; clear hK hX K))
    exact ⟨i + 1, by omega, by omega, (by refine weak_ren [0, 3] rfl rfl ?_ ?_ rfl rfl <;> (repeat' (first | exact weakER_nil | exact weakHR_nil | refine weakER_cons rfl (by first | rfl | (exact congrArg (AObj.row 5) htf) | exact own_eq rfl rfl (by omega) | exact int_eq (by omega) | (simp <;> fail) | (congr 4; omega) | (congr 3; omega) | (congr 2; omega)) rfl ?_ | refine weakHR_cons rfl (by first | rfl | (exact congrArg (AObj.row 5) htf) | exact own_eq rfl rfl (by omega) | exact int_eq (by omega) | (simp <;> fail) | (congr 4; omega) | (congr 3; omega) | (congr 2; omega)) rfl ?_)))⟩
  · have him : i = m := by omega
    have hfl : (L.take i).flatten = L.flatten := by rw [him, ← hm, List.take_length]
    have hll : L.flatten.length = i * 32 := by rw [flat_len hL, hm, him]
    have hk := rsum_ok 393#64 L.flatten (i * 32) hll (by omega)
    have hus : (u8c (leafD L)).length = 32 := by rw [u8c_length, leafD_length]
    rw [hfl] at hli ⊢
    unfold leafD at *
    repeat' (first
    | ((with_reducible refine aw_seqk ?_); intro K hK hX)
    | ((with_reducible refine isC_reg ?_); refine aw_prune [0, 2, 3, 4] rfl rfl ?_; with_reducible refine aw_region ?_)
    | ((with_reducible refine isA_call ?_); (first | refine wA ?_ | refine wN ?_); (first | refine cF (hk) ?_))
    | refine stA ?_
    | (refine hK _ _ _ _ ?_; clear hK hX K)
    | (refine hX _ _ _ _ _ (by simp) ?_; clear hK hX K))
    refine retK_mk (by first | exact .inl rfl | exact .inr rfl) (by exact trivial) (ResL.one (by first | exact ResA.one rfl rfl rfl rfl rfl | exact ResA.agg rfl rfl rfl rfl rfl (by first | exact IsAgg.closed rfl rfl | exact IsAgg.mixed _) | exact ResA.aggr rfl rfl rfl rfl (by first | rfl | with_reducible assumption | (simp <;> fail) | omega | (simp; omega) | assumption))) (by first | exact out_c (by first | exact frz_c cv_rfl | exact frz_c cv_nil | exact frz_ownW rfl rfl (by first | rfl | with_reducible assumption | (simp <;> fail) | omega | (simp; omega) | assumption) | exact frz_eq (frz_c cv_rfl) (by first | rfl | (simp <;> fail) | fail)) | exact out_own rfl rfl)
end Go.Proofs.Ytgofigkhdjjlmaa
