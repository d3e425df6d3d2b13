/-
  Joined texts: F1 D19. Lemmas; no statement of a law.
-/
import Derived.Test.YtgofigkhdjjlmaaM1
import Derived.Test.YtgofigkhdjjlmaaM2
import Derived.Test.YtgofigkhdjjlmaaM3
import Derived.Test.YtgofigkhdjjlmaaM4
import Derived.Test.YtgofigkhdjjlmaaM5
import Derived.Test.YtgofigkhdjjlmaaM6
/-
  Beginnings of chains, leaves, roots of seeds (walk), as the reference has them.
-/
set_option linter.unusedVariables false
set_option linter.unusedSimpArgs false
namespace Go.Proofs.Ytgofigkhdjjlmaa
open Go Go.RowKit Go.Av
set_option maxRecDepth 100000
def beginD (seed : List UInt8) (i j : Nat) : List UInt8 := sum 391#64 (seed ++ (enc (i : Int) ++ enc (j : Int)))
theorem beginD_length (seed : List UInt8) (i j : Nat) : (beginD seed i j).length = 32 := sum_length _ _
def lastD (seed : List UInt8) (i : Nat) : List (List UInt8) := (List.range 35).map fun j => linkN 15 (beginD seed i j)
theorem lastD_length (seed : List UInt8) (i : Nat) : (lastD seed i).length = 35 := by simp [lastD]
theorem lastD_get (seed : List UInt8) (i j : Nat) (h : j < 35) : (lastD seed i).getD j [] = linkN 15 (beginD seed i j) := by
  simp [lastD, List.getD, h]
theorem lastD_all (seed : List UInt8) (i : Nat) : all32 (lastD seed i) := fun d hd => by
  obtain ⟨j, hj, rfl⟩ := List.mem_map.1 hd
  exact linkN_length (beginD_length _ _ _) _
def leavesD (seed : List UInt8) : List (List UInt8) := (List.range 4).map fun i => leafD (lastD seed i)
theorem leavesD_length (seed : List UInt8) : (leavesD seed).length = 4 := by simp [leavesD]
theorem leavesD_get (seed : List UInt8) (i : Nat) (h : i < 4) : (leavesD seed).getD i [] = leafD (lastD seed i) := by
  simp [leavesD, List.getD, h]
theorem leavesD_all (seed : List UInt8) : all32 (leavesD seed) := fun d hd => by
  obtain ⟨j, hj, rfl⟩ := List.mem_map.1 hd
  exact leafD_length _
def publicD (seed : List UInt8) : List UInt8 := rootD (leavesD seed)
theorem publicD_length (seed : List UInt8) : (publicD seed).length = 32 := sealD_length _ _
attribute [local irreducible] Still Adds AWL AW Drw DrwE EStep AC AWR Weak Frz Src RetK Out InK ItK AsK RdK permute
attribute [local simp] u8c_take u8c_drop u8c_app
set_option maxHeartbeats 4000000 in
theorem rbegin_ok (seed : List UInt8) (i j : Nat) (hs : seed.length = 32) (hi : i ≤ 1000000) (hj : j ≤ 1000000) : AC Try.prog 90 [.agg (u8c seed), iv i, iv j] (.c (.agg (u8c (beginD seed i j)))) [] 0 := by
  have hus : (u8c seed).length = 32 := by rw [u8c_length, hs]
  have l1 := enc_len (i : Int)
  have l2 := enc_len (j : Int)
  have hR : (u8c (beginD seed i j)).length = 32 := by rw [u8c_length, beginD_length]
  unfold beginD at *
  have e1 := rint_ok (i : Int) (by omega) _ rfl
  have e2 := rint_ok (j : Int) (by omega) _ rfl
  have hk := rkeyed_ok 391#64 seed (enc (i : Int) ++ enc (j : Int)) _ hs rfl (by rw [List.length_append]; omega)
  generalize sum 391#64 (seed ++ (enc (i : Int) ++ enc (j : Int))) = R at hk hR
  rw [u8c_app, List.length_append] at hk
  have k1 : (u8c (enc (i : Int))).length = (enc (i : Int)).length := u8c_length _
  have k2 : (u8c (enc (j : Int))).length = (enc (j : Int)).length := u8c_length _
  generalize (enc (i : Int)).length = p at *
  generalize (enc (j : Int)).length = q at *
  generalize u8c (enc (i : Int)) = A at *
  generalize u8c (enc (j : Int)) = B at *
  refine ac_enter tabOk (sz := 14) Try.func90 rfl (by rw [Try.ntmps90]; rfl) ?_
  repeat' (first
    | ((with_reducible refine aw_seqk ?_); intro K hK hX)
    | ((with_reducible refine isC_reg ?_); refine aw_prune [0, 1, 2, 3, 6] rfl rfl ?_; with_reducible refine aw_region ?_)
    | ((with_reducible refine isC_draw ?_); refine aw_prune [0, 1, 2, 3, 6] rfl rfl ?_; refine aw_drwE [] ?_)
    | ((first | with_reducible refine isA_call ?_ | with_reducible refine isE_call ?_); (first | refine wA ?_ | refine wN ?_ | refine wE ?_); (first | refine cF (hk) ?_))
    | ((first | with_reducible refine isA_call ?_ | with_reducible refine isE_call ?_); (first | refine zA ?_ | refine zN ?_ | refine zE ?_); (first | refine c1 (e1) ?_ | refine c1 (e2) ?_))
    | refine stA ?_
    | refine stE ?_
    | (refine hK _ _ _ _ ?_; clear hK hX K)
    | (refine hX _ _ _ _ _ (by simp) ?_; clear hK hX K))
  refine retK_mk (by first | exact .inl rfl | exact .inr rfl) (by exact trivial) rfl (ResL.one (by first | exact ResA.one rfl rfl rfl rfl rfl | exact ResA.agg rfl rfl rfl rfl rfl (by first | exact IsAgg.closed rfl rfl | exact IsAgg.mixed _) | exact ResA.aggr rfl rfl rfl rfl (by first | rfl | with_reducible assumption | (simp <;> fail) | omega | (simp; omega) | assumption))) (by first | exact out_c (by first | exact frz_c cv_rfl | exact frz_c cv_nil | exact frz_ownW rfl rfl (by first | rfl | with_reducible assumption | (simp <;> fail) | omega | (simp; omega) | assumption) | exact frz_eq (frz_c cv_rfl) (by first | rfl | (simp <;> fail) | fail)) | exact out_own rfl rfl)
set_option maxHeartbeats 4000000 in
theorem begin_ok (seed : List UInt8) (i j : Nat) (hs : seed.length = 32) (hi : i ≤ 1000000) (hj : j ≤ 1000000) : AC Try.prog 106 [.agg (u8c seed), iv i, iv j] (.c (.agg (u8c (beginD seed i j)))) [] 0 := by
  have hus : (u8c seed).length = 32 := by rw [u8c_length, hs]
  have l1 := enc_len (i : Int)
  have l2 := enc_len (j : Int)
  have hR : (u8c (beginD seed i j)).length = 32 := by rw [u8c_length, beginD_length]
  unfold beginD at *
  have e1 := appint_ok [] 0 (i : Int) (by omega) _ _ rfl (by decide) rfl rfl
  rw [Nat.zero_add, List.nil_append] at e1
  have e2 := appint_ok (enc (i : Int)) _ (j : Int) (by omega) _ _ rfl (by omega) rfl rfl
  have hk := keyed_ok 391#64 seed (enc (i : Int) ++ enc (j : Int)) _ hs rfl (by rw [List.length_append]; omega)
  generalize sum 391#64 (seed ++ (enc (i : Int) ++ enc (j : Int))) = R at hk hR
  rw [u8c_app] at e2
  rw [u8c_app, List.length_append] at hk
  have k1 : (u8c (enc (i : Int))).length = (enc (i : Int)).length := u8c_length _
  have k2 : (u8c (enc (j : Int))).length = (enc (j : Int)).length := u8c_length _
  have f1 : FlcL (u8c (enc (i : Int))) := flcl_u8 _
  have f2 : FlcL (u8c (enc (j : Int))) := flcl_u8 _
  generalize (enc (i : Int)).length = p at *
  generalize (enc (j : Int)).length = q at *
  generalize u8c (enc (i : Int)) = A at *
  generalize u8c (enc (j : Int)) = B at *
  have k3 : (A ++ B).length = p + q := by rw [List.length_append, k1, k2]
  refine ac_enter tabOk (sz := 15) Try.func106 rfl (by rw [Try.ntmps106]; rfl) ?_
  repeat' (first
    | ((with_reducible refine aw_seqk ?_); intro K hK hX)
    | ((with_reducible refine isC_reg ?_); refine aw_prune [0, 1, 2, 3, 6, 7] rfl rfl ?_; with_reducible refine aw_region ?_)
    | ((with_reducible refine isC_draw ?_); refine aw_prune [0, 1, 2, 3, 6, 7] rfl rfl ?_; refine aw_drwE [] ?_)
    | ((first | with_reducible refine isA_call ?_ | with_reducible refine isE_call ?_); (first | refine wA ?_ | refine wN ?_ | refine wE ?_); (first | refine cF (hk) ?_))
    | ((first | with_reducible refine isA_call ?_ | with_reducible refine isE_call ?_); (first | refine yA ?_ | refine yE ?_); (first | refine cF1 (e2) ?_))
    | ((first | with_reducible refine isA_call ?_ | with_reducible refine isE_call ?_); (first | refine zA ?_ | refine zN ?_ | refine zE ?_); (first | refine c1 (e1) ?_))
    | refine stA ?_
    | refine stE ?_
    | (refine hK _ _ _ _ ?_; clear hK hX K)
    | (refine hX _ _ _ _ _ (by simp) ?_; clear hK hX K))
  refine retK_mk (by first | exact .inl rfl | exact .inr rfl) (by exact trivial) rfl (ResL.one (by first | exact ResA.one rfl rfl rfl rfl rfl | exact ResA.agg rfl rfl rfl rfl rfl (by first | exact IsAgg.closed rfl rfl | exact IsAgg.mixed _) | exact ResA.aggr rfl rfl rfl rfl (by first | rfl | with_reducible assumption | (simp <;> fail) | omega | (simp; omega) | assumption))) (by first | exact out_c (by first | exact frz_c cv_rfl | exact frz_c cv_nil | exact frz_ownW rfl rfl (by first | rfl | with_reducible assumption | (simp <;> fail) | omega | (simp; omega) | assumption) | exact frz_eq (frz_c cv_rfl) (by first | rfl | (simp <;> fail) | fail)) | exact out_own rfl rfl)
set_option maxHeartbeats 4000000 in
theorem rleaves_ok (seed : List UInt8) (hs : seed.length = 32) : AC Try.prog 91 [.agg (u8c seed)] (.own 0 0 4 32 true) [(0, .row 35 (dc (leavesD seed)))] 1 := by
  have hus : (u8c seed).length = 32 := by rw [u8c_length, hs]
  have hVl := leavesD_length seed
  have hVa := leavesD_all seed
  have hVg := leavesD_get seed
  unfold dc
  generalize leavesD seed = V at hVl hVa hVg ⊢
  refine ac_enter tabOk (sz := 29) Try.func91 rfl (by rw [Try.ntmps91]; rfl) ?_
  repeat' (first
    | ((with_reducible refine aw_seqk ?_); intro K hK hX)
    | ((with_reducible refine isC_reg ?_); refine aw_prune [0, 1, 2, 3, 4, 5, 6] rfl rfl ?_; with_reducible refine aw_region ?_)
    | refine stA ?_
    | (refine hK _ _ _ _ ?_; clear hK hX K)
    | (refine hX _ _ _ _ _ (by simp) ?_; clear hK hX K))
  refine aw_nilown 3 35 32 rfl ?_
  refine aw_loopo [3, 4] [1] rfl rfl (fun i : Nat => [(3, .own 1 0 i 32 true), (4, .c (iv i))]) (fun i => [(1, .row 35 (u8c (V.take i).flatten))]) (fun i => i ≤ 4) (fun i => 4 - i) 0 (by omega) weakA ?_
  intro i hi K hK hX
  have hli := take_flat_len hVa (show i ≤ V.length by omega)
  by_cases hlt : i < 4
  · have htf := take_dc (L := V) (i := i) (by omega) (hVg i hlt)
    have hEl := lastD_length seed i
    have hEa := lastD_all seed i
    have hEg := lastD_get seed i
    have hlf := rleaf_ok (lastD seed i) 35 hEa hEl (by decide)
    have hll : (u8c (leafD (lastD seed i))).length = 32 := by rw [u8c_length, leafD_length]
    generalize leafD (lastD seed i) = lf at hlf hll htf
    generalize lastD seed i = E at hEl hEa hEg hlf
    repeat' (first
    | ((with_reducible refine aw_seqk ?_); intro K hK hX)
    | ((with_reducible refine isC_reg ?_); refine aw_prune [0, 1, 2, 3, 4, 5, 6] rfl rfl ?_; with_reducible refine aw_region ?_)
    | refine stA ?_
    | (refine hK _ _ _ _ ?_; clear hK hX K)
    | (refine hX _ _ _ _ _ (by simp) ?_; clear hK hX K))
    refine aw_nilown 5 35 32 rfl ?_
    refine aw_loopo [5, 6, 7, 8] [2] rfl rfl (fun j : Nat => [(5, .own 2 0 j 32 true), (6, .c (iv j))]) (fun j => [(2, .row 35 (u8c (E.take j).flatten))]) (fun j => j ≤ 35) (fun j => 35 - j) 0 (by omega) weakA ?_
    intro j hj K hK hX
    have hlj := take_flat_len hEa (show j ≤ E.length by omega)
    by_cases hltj : j < 35
    · have hbe := rbegin_ok seed i j hs (by omega) (by omega)
      have hbl := beginD_length seed i j
      have hbu : (u8c (beginD seed i j)).length = 32 := by rw [u8c_length, hbl]
      have hlk := rlinks_ok (beginD seed i j) 15 hbl (by decide)
      have hlu : (u8c (linkN 15 (beginD seed i j))).length = 32 := by rw [u8c_length, linkN_length hbl]
      have htj := take_dc (L := E) (i := j) (by omega) (hEg j hltj)
      generalize linkN 15 (beginD seed i j) = y at hlk hlu htj
      generalize beginD seed i j = b at hbe hbl hbu hlk
      repeat' (first
    | ((with_reducible refine aw_seqk ?_); intro K hK hX)
    | ((with_reducible refine isC_reg ?_); refine aw_prune [0, 1, 2, 3, 4, 5, 6] rfl rfl ?_; with_reducible refine aw_region ?_)
    | ((with_reducible refine isA_call ?_); (first | refine zA ?_ | refine zN ?_); (first | refine c0 (hbe) ?_ | refine c0 (hlk) ?_))
    | refine stA ?_
    | (refine hK _ _ _ _ ?_; clear hK hX K)
    | (refine hX _ _ _ _ _ (by simp) ?_; clear hK hX K))
      exact ⟨j + 1, by omega, by omega, (by refine weak_ren [0, 1, 4] rfl rfl ?_ ?_ rfl rfl <;> (repeat' (first | exact weakER_nil | exact weakHR_nil | refine weakER_cons rfl (by first | rfl | (exact congrArg (AObj.row 35) htj) | exact own_eq rfl rfl (by omega) | exact int_eq (by omega) | (simp <;> fail) | (congr 4; omega) | (congr 3; omega) | (congr 2; omega)) rfl ?_ | refine weakHR_cons rfl (by first | rfl | (exact congrArg (AObj.row 35) htj) | exact own_eq rfl rfl (by omega) | exact int_eq (by omega) | (simp <;> fail) | (congr 4; omega) | (congr 3; omega) | (congr 2; omega)) rfl ?_)))⟩
    · have hin : j = 35 := by omega
      have hfl : E.take j = E := take_all (by omega)
      rw [hfl, hin] at hlj
      rw [hfl]
      have hlf' := hlf
      unfold dc at hlf'
      repeat' (first
    | ((with_reducible refine aw_seqk ?_); intro K hK hX)
    | ((with_reducible refine isC_reg ?_); refine aw_prune [0, 1, 2, 3, 4, 5, 6] rfl rfl ?_; with_reducible refine aw_region ?_)
    | ((with_reducible refine isA_call ?_); (first | refine wA ?_ | refine wN ?_); (first | refine cF (hlf') ?_))
    | refine stA ?_
    | (refine hK _ _ _ _ ?_; clear hK hX K)
    | (refine hX _ _ _ _ _ (by simp) ?_; clear hK hX K))
      exact ⟨i + 1, by omega, by omega, (by refine weak_ren [0, 4] rfl rfl ?_ ?_ rfl rfl <;> (repeat' (first | exact weakER_nil | exact weakHR_nil | refine weakER_cons rfl (by first | rfl | (exact congrArg (AObj.row 35) htf) | exact own_eq rfl rfl (by omega) | exact int_eq (by omega) | (simp <;> fail) | (congr 4; omega) | (congr 3; omega) | (congr 2; omega)) rfl ?_ | refine weakHR_cons rfl (by first | rfl | (exact congrArg (AObj.row 35) htf) | exact own_eq rfl rfl (by omega) | exact int_eq (by omega) | (simp <;> fail) | (congr 4; omega) | (congr 3; omega) | (congr 2; omega)) rfl ?_)))⟩
  · have hin : i = 4 := by omega
    have hfl : V.take i = V := take_all (by omega)
    rw [hfl] at hli ⊢
    repeat' (first
    | ((with_reducible refine aw_seqk ?_); intro K hK hX)
    | ((with_reducible refine isC_reg ?_); refine aw_prune [0, 1, 2, 3, 4, 5, 6] rfl rfl ?_; with_reducible refine aw_region ?_)
    | refine stA ?_
    | (refine hK _ _ _ _ ?_; clear hK hX K)
    | (refine hX _ _ _ _ _ (by simp) ?_; clear hK hX K))
    rw [← hin]
    refine retK_mk (by first | exact .inl rfl | exact .inr rfl) (by exact trivial) rfl (ResL.one (ResA.tmp rfl)) (by first | exact out_c (by first | exact frz_c cv_rfl | exact frz_c cv_nil | exact frz_ownW rfl rfl (by first | rfl | with_reducible assumption | (simp <;> fail) | omega | (simp; omega) | assumption) | exact frz_eq (frz_c cv_rfl) (by first | rfl | (simp <;> fail) | fail)) | exact out_own rfl rfl)
set_option maxHeartbeats 4000000 in
theorem rpublic_ok (seed : List UInt8) (hs : seed.length = 32) : AC Try.prog 49 [.agg (u8c seed)] (.c (.agg (u8c (publicD seed)))) [] 0 := by
  have hus : (u8c seed).length = 32 := by rw [u8c_length, hs]
  have h1 := rleaves_ok seed hs
  have h2 := rroot38_ok (leavesD seed) 4 (leavesD_all seed) (leavesD_length seed) (by decide)
  have hdl := dc_length (leavesD_all seed) (leavesD_length seed)
  have hpl : (u8c (publicD seed)).length = 32 := by rw [u8c_length, publicD_length]
  unfold publicD at *
  generalize rootD (leavesD seed) = R at h2 hpl ⊢
  generalize dc (leavesD seed) = D at h1 h2 hdl
  refine ac_enter tabOk (sz := 12) Try.func49 rfl (by rw [Try.ntmps49]; rfl) ?_
  repeat' (first
    | ((with_reducible refine aw_seqk ?_); intro K hK hX)
    | ((with_reducible refine isC_reg ?_); refine aw_prune [0, 1, 2, 3] rfl rfl ?_; with_reducible refine aw_region ?_)
    | ((with_reducible refine isA_call ?_); (first | refine wA ?_ | refine wN ?_); (first | refine cF (h2) ?_))
    | ((with_reducible refine isA_call ?_); (first | refine zA ?_ | refine zN ?_); (first | refine c1 (h1) ?_))
    | refine stA ?_
    | (refine hK _ _ _ _ ?_; clear hK hX K)
    | (refine hX _ _ _ _ _ (by simp) ?_; clear hK hX K))
  refine retK_mk (by first | exact .inl rfl | exact .inr rfl) (by exact trivial) rfl (ResL.one (by first | exact ResA.one rfl rfl rfl rfl rfl | exact ResA.agg rfl rfl rfl rfl rfl (by first | exact IsAgg.closed rfl rfl | exact IsAgg.mixed _) | exact ResA.aggr rfl rfl rfl rfl (by first | rfl | with_reducible assumption | (simp <;> fail) | omega | (simp; omega) | assumption))) (by first | exact out_c (by first | exact frz_c cv_rfl | exact frz_c cv_nil | exact frz_ownW rfl rfl (by first | rfl | with_reducible assumption | (simp <;> fail) | omega | (simp; omega) | assumption) | exact frz_eq (frz_c cv_rfl) (by first | rfl | (simp <;> fail) | fail)) | exact out_own rfl rfl)
end Go.Proofs.Ytgofigkhdjjlmaa
/-
  Lists of numbers compared; the laws SignatureDigits, SignatureChecks (walk and plain).
-/
set_option linter.unusedVariables false
set_option linter.unusedSimpArgs false
namespace Go.Proofs.Ytgofigkhdjjlmaa
open Go Go.RowKit Go.Av
set_option maxRecDepth 100000
theorem digs_at (D : List UInt8) (i : Nat) (h : i < 35) : (intc .i64 (digs D))[0 + i * 1]? = some (.v (.int .i64 (dall D i : Int))) := by
  rw [int_at0 _ _ (by rw [digs_length]; exact h), digs_get D i h]
def lessB (A B : List UInt8) (i : Nat) : Bool := (List.range i).any fun j => decide ((dall A j : Int) < (dall B j : Int))
theorem less_step (A B : List UInt8) (i : Nat) : lessB A B (i + 1) = (lessB A B i || decide ((dall A i : Int) < (dall B i : Int))) := by
  simp [lessB, List.range_succ]
theorem ck_mono (A B : List UInt8) : ∀ k, (∀ j, j < k → dgt B j ≤ dgt A j) → ckN A k ≤ ckN B k ∧ (ckN A k = ckN B k → ∀ j, j < k → dgt A j = dgt B j)
  | 0, _ => ⟨Nat.le_refl _, fun _ j hj => by omega⟩
  | k + 1, h => by
    obtain ⟨h1, h2⟩ := ck_mono A B k (fun j hj => h j (by omega))
    have h3 := h k (by omega)
    have h4 := dgt_le A k
    have h5 := dgt_le B k
    simp only [ckN]
    refine ⟨by omega, fun he j hj => ?_⟩
    rcases Nat.lt_or_ge j k with hlt | hge
    · exact h2 (by omega) j hlt
    · rw [show j = k by omega]; omega
theorem dall_dgt (A : List UInt8) (j : Nat) (h : j < 32) : dall A j = dgt A j := by unfold dall; rw [if_pos h]
theorem ck_val (A : List UInt8) : ckN A 32 = 256 * dall A 32 + 16 * dall A 33 + dall A 34 := by
  have hc := ckN_le A 32
  have a1 : dall A 32 = ckN A 32 / 256 % 16 := by unfold dall; exact if_neg (by omega)
  have a2 : dall A 33 = ckN A 32 / 16 % 16 := by unfold dall; exact if_neg (by omega)
  have a3 : dall A 34 = ckN A 32 / 1 % 16 := by unfold dall; exact if_neg (by omega)
  rw [a1, a2, a3]
  omega
theorem no_less (A B : List UInt8) (h : ∀ j, j < 35 → dall B j ≤ dall A j) : ∀ j, j < 35 → dall A j = dall B j := by
  obtain ⟨h1, h2⟩ := ck_mono A B 32 (fun j hj => by rw [← dall_dgt A j hj, ← dall_dgt B j hj]; exact h j (by omega))
  have e1 := ck_val A
  have e2 := ck_val B
  have b1 := h 32 (by omega)
  have b2 := h 33 (by omega)
  have b3 := h 34 (by omega)
  have he : ckN A 32 = ckN B 32 := by omega
  intro j hj
  rcases Nat.lt_or_ge j 32 with hlt | hge
  · rw [dall_dgt A j hlt, dall_dgt B j hlt]; exact h2 he j hlt
  · unfold dall; rw [if_neg (by omega), if_neg (by omega), he]
theorem less_false (A B : List UInt8) (h : lessB A B 35 = false) : ∀ j, j < 35 → dall B j ≤ dall A j := by
  intro j hj
  have := List.any_eq_false.1 h j (List.mem_range.2 hj)
  simp at this
  omega
theorem less_of (A B : List UInt8) (h : ∀ j, j < 35 → dall A j = dall B j) : lessB B A 35 = false := by
  refine List.any_eq_false.2 fun j hj => ?_
  rw [h j (List.mem_range.1 hj)]
  simp
theorem less_both (A B : List UInt8) : lessB A B 35 = lessB B A 35 := by
  cases h1 : lessB A B 35 with
  | false => rw [less_of A B (no_less A B (less_false A B h1))]
  | true =>
    cases h2 : lessB B A 35 with
    | true => rfl
    | false =>
      rw [less_of B A (no_less B A (less_false B A h2))] at h1
      cases h1
attribute [local irreducible] Still Adds AWL AW Drw AC AWR Weak Frz Src RetK Out InK permute
set_option maxHeartbeats 4000000 in
theorem same22_ok (l : List Int) (n : Nat) (hl : l.length = n) (hn : n ≤ 1000000) : AC Try.prog 67 [.sl 1 n (intc .i64 l), .sl 1 n (intc .i64 l)] (.c (.v (.bool true))) [] 0 := by
  refine ac_enter tabOk (sz := 26) Try.func67 rfl (by rw [Try.ntmps67]; rfl) ?_
  repeat' (first
    | ((with_reducible refine aw_seqk ?_); intro K hK hX)
    | ((with_reducible refine isC_reg ?_); refine aw_prune [0, 1, 4, 5] rfl rfl ?_; with_reducible refine aw_region ?_)
    | ((with_reducible refine isC_draw ?_); refine aw_prune [0, 1, 4, 5] rfl rfl ?_; refine aw_drwF [] ?_)
    | ((first | ((with_reducible refine isA_any ?_); refine xA ?_) | ((with_reducible refine isDk_any ?_); refine xD ?_)); (first | ((with_reducible refine e_bin ?_); (first | refine ex_i (s_cmp rfl rfl rfl (decide_eq_false (fun h => h rfl))) ?_))))
    | refine stA ?_
    | refine stD ?_
    | (refine hK _ _ _ _ ?_; clear hK hX K)
    | (refine hX _ _ _ _ _ (by simp) ?_; clear hK hX K))
  refine aw_loopk 0 (fun i : Nat => [(0, .c (.sl 1 n (intc .i64 l))), (1, .c (.sl 1 n (intc .i64 l))), (5, .c (iv i))]) (fun i => []) [] (fun i => i ≤ n) (fun i => n - i) 0 (by omega) weakA ?_
  intro i hi K hK hX
  by_cases hlt : i < n
  · repeat' (first
    | ((with_reducible refine aw_seqk ?_); intro K hK hX)
    | ((with_reducible refine isC_reg ?_); refine aw_prune [0, 1, 4, 5] rfl rfl ?_; with_reducible refine aw_region ?_)
    | ((with_reducible refine isC_draw ?_); refine aw_prune [0, 1, 4, 5] rfl rfl ?_; refine aw_drwF [] ?_)
    | ((first | ((with_reducible refine isA_any ?_); refine xA ?_) | ((with_reducible refine isDk_any ?_); refine xD ?_)); (first | ((with_reducible refine e_bin ?_); (first | refine ex_i (s_cmp rfl rfl rfl (decide_eq_false (fun h => h rfl))) ?_)) | ((with_reducible refine e_load ?_); (first | refine ex_i (s_load1 tabOk rfl rfl rfl rfl (by exact int_at l i (by omega))) ?_ | refine ex_i (s_load1r tabOk rfl rfl rfl rfl (by exact int_at l i (by omega))) ?_ | refine ex_i (s_load1i tabOk rfl rfl rfl (by exact int_at l i (by omega))) ?_)) | ((with_reducible refine e_ix ?_); (first | refine ex_i (s_ixV1 tabOk rfl rfl (by first | with_reducible exact cast_self _ | with_reducible exact cast_lit _ | exact nt (by omega) | rfl) rfl rfl rfl rfl rfl (by first | exact Nat.le_of_ble_eq_true rfl | omega | (simp; omega)) (by exact int_at l i (by omega))) ?_ | refine ex_i (s_ixStr tabOk rfl rfl (by first | with_reducible exact cast_self _ | with_reducible exact cast_lit _ | exact nt (by omega) | rfl) rfl rfl (by exact int_at l i (by omega))) ?_))))
    | refine stA ?_
    | refine stD ?_
    | (refine hK _ _ _ _ ?_; clear hK hX K)
    | (refine hX _ _ _ _ _ (by simp) ?_; clear hK hX K))
    exact ⟨i + 1, by omega, by omega, weakA⟩
  · obtain rfl : i = n := by omega
    repeat' (first
    | ((with_reducible refine aw_seqk ?_); intro K hK hX)
    | ((with_reducible refine isC_reg ?_); refine aw_prune [0, 1, 4, 5] rfl rfl ?_; with_reducible refine aw_region ?_)
    | ((with_reducible refine isC_draw ?_); refine aw_prune [0, 1, 4, 5] rfl rfl ?_; refine aw_drwF [] ?_)
    | refine stA ?_
    | refine stD ?_
    | (refine hK _ _ _ _ ?_; clear hK hX K)
    | (refine hX _ _ _ _ _ (by simp) ?_; clear hK hX K))
    refine retK_mk (by first | exact .inl rfl | exact .inr rfl) (by exact trivial) rfl (ResL.one (ResA.tmp rfl)) (by first | exact out_c (by first | exact frz_c cv_rfl | exact frz_c cv_nil | exact frz_ownW rfl rfl (by first | rfl | with_reducible assumption | (simp <;> fail) | omega | (simp; omega) | assumption) | exact frz_eq (frz_c cv_rfl) (by first | rfl | (simp <;> fail) | fail)) | exact out_own rfl rfl)
set_option maxHeartbeats 4000000 in
theorem same26_ok (l : List Int) (n : Nat) (hl : l.length = n) (hn : n ≤ 1000000) : AC Try.prog 28 [.sl 1 n (intc .i64 l), .sl 1 n (intc .i64 l)] (.c (.v (.bool true))) [] 0 := by
  refine ac_enter tabOk (sz := 8) Try.func28 rfl (by rw [Try.ntmps28]; rfl) ?_
  repeat' (first
    | ((with_reducible refine aw_seqk ?_); intro K hK hX)
    | ((with_reducible refine isC_reg ?_); refine aw_prune [0, 1, 4] rfl rfl ?_; with_reducible refine aw_region ?_)
    | ((with_reducible refine isA_call ?_); (first | refine zA ?_ | refine zN ?_); (first | refine c0 (same22_ok l n hl hn) ?_))
    | refine stA ?_
    | (refine hK _ _ _ _ ?_; clear hK hX K)
    | (refine hX _ _ _ _ _ (by simp) ?_; clear hK hX K))
  refine retK_mk (by first | exact .inl rfl | exact .inr rfl) (by exact trivial) rfl (ResL.one (ResA.tmp rfl)) (by first | exact out_c (by first | exact frz_c cv_rfl | exact frz_c cv_nil | exact frz_ownW rfl rfl (by first | rfl | with_reducible assumption | (simp <;> fail) | omega | (simp; omega) | assumption) | exact frz_eq (frz_c cv_rfl) (by first | rfl | (simp <;> fail) | fail)) | exact out_own rfl rfl)
set_option maxHeartbeats 4000000 in
theorem awake39_ok : AC Try.prog 26 [] (.c (.v (.bool true))) [] 0 := by
  have hlen : (intc .i64 (digs (sum 390#64 []))).length = 35 := by rw [intc_length, digs_length]
  refine ac_enter tabOk (sz := 4) Try.func26 rfl (by rw [Try.ntmps26]; rfl) ?_
  repeat' (first
    | ((with_reducible refine aw_seqk ?_); intro K hK hX)
    | ((with_reducible refine isC_reg ?_); refine aw_prune [0] rfl rfl ?_; with_reducible refine aw_region ?_)
    | ((with_reducible refine isA_call ?_); (first | refine wA ?_ | refine wN ?_); (first | refine cF (same26_ok (digs (sum 390#64 [])) 35 (digs_length _) (by decide)) ?_))
    | ((with_reducible refine isA_call ?_); (first | refine zA ?_ | refine zN ?_); (first | refine c1 (digits_ok [] 0 rfl (by decide)) ?_ | refine c1 (rdigits_ok [] 0 rfl (by decide)) ?_))
    | refine stA ?_
    | (refine hK _ _ _ _ ?_; clear hK hX K)
    | (refine hX _ _ _ _ _ (by simp) ?_; clear hK hX K))
  refine retK_mk (by first | exact .inl rfl | exact .inr rfl) (by exact trivial) rfl (ResL.one (ResA.tmp rfl)) (by first | exact out_c (by first | exact frz_c cv_rfl | exact frz_c cv_nil | exact frz_ownW rfl rfl (by first | rfl | with_reducible assumption | (simp <;> fail) | omega | (simp; omega) | assumption) | exact frz_eq (frz_c cv_rfl) (by first | rfl | (simp <;> fail) | fail)) | exact out_own rfl rfl)
set_option maxHeartbeats 4000000 in
theorem law_sigdigits (l : List UInt8) (n : Nat) (hl : l.length = n) : AC Try.prog 3 [.sl 1 n (u8c l)] (.c (.v (.bool true))) [] 0 := by
  by_cases hn : n ≤ 200
  · have hdi := digits_ok l n hl (by omega)
    have hrd := rdigits_ok l n hl (by omega)
    generalize sum 390#64 l = D at *
    have hlen : (intc .i64 (digs D)).length = 35 := by rw [intc_length, digs_length]
    refine ac_enter tabOk (sz := 41) Try.func3 rfl (by rw [Try.ntmps3]; rfl) ?_
    repeat' (first
    | ((with_reducible refine aw_seqk ?_); intro K hK hX)
    | ((with_reducible refine isC_reg ?_); refine aw_prune [0, 2, 3, 4] rfl rfl ?_; with_reducible refine aw_region ?_)
    | ((with_reducible refine isA_call ?_); (first | refine zA ?_ | refine zN ?_); (first | refine c1 (hdi) ?_))
    | refine stA ?_
    | (refine hK _ _ _ _ ?_; clear hK hX K)
    | (refine hX _ _ _ _ _ (by simp) ?_; clear hK hX K))
    refine aw_loopk 1 (fun i : Nat => [(0, .c (.sl 1 n (u8c l))), (2, .c (.v (.bool false))), (3, .own 0 0 35 1 true), (4, .c (iv i))]) (fun i => [(0, .row 3 (intc .i64 (digs D)))]) [] (fun i => i ≤ 35) (fun i => 35 - i) 0 (by omega) weakA ?_
    intro i hi K hK hX
    have hd15 := dall_le D i
    have g1 : (decide ((dall D i : Int) < 0) == false) = true := by rw [decide_eq_false (by omega)]; rfl
    by_cases hlt : i < 35
    · repeat' (first
    | ((with_reducible refine aw_seqk ?_); intro K hK hX)
    | ((with_reducible refine isC_reg ?_); refine aw_prune [0, 2, 3, 4] rfl rfl ?_; with_reducible refine aw_region ?_)
    | (((with_reducible refine isA_any ?_); refine xA ?_); (first | ((with_reducible refine e_load ?_); (first | refine ex_i (s_load1 tabOk rfl rfl rfl rfl (by exact digs_at D i hlt)) ?_ | refine ex_i (s_load1r tabOk rfl rfl rfl rfl (by exact digs_at D i hlt)) ?_ | refine ex_i (s_load1i tabOk rfl rfl rfl (by exact digs_at D i hlt)) ?_)) | ((with_reducible refine e_ix ?_); (first | refine ex_i (s_ixV1 tabOk rfl rfl (by first | with_reducible exact cast_self _ | with_reducible exact cast_lit _ | exact nt (by omega) | rfl) rfl rfl rfl rfl rfl (by first | exact Nat.le_of_ble_eq_true rfl | omega | (simp; omega)) (by exact digs_at D i hlt)) ?_ | refine ex_i (s_ixStr tabOk rfl rfl (by first | with_reducible exact cast_self _ | with_reducible exact cast_lit _ | exact nt (by omega) | rfl) rfl rfl (by exact digs_at D i hlt)) ?_))))
    | refine stA ?_
    | (refine hK _ _ _ _ ?_; clear hK hX K)
    | (refine hX _ _ _ _ _ (by simp) ?_; clear hK hX K))
      exact ⟨i + 1, by omega, by omega, weakA⟩
    · obtain rfl : i = 35 := by omega
      repeat' (first
    | ((with_reducible refine aw_seqk ?_); intro K hK hX)
    | ((with_reducible refine isC_reg ?_); refine aw_prune [0, 2, 3, 4] rfl rfl ?_; with_reducible refine aw_region ?_)
    | ((with_reducible refine isA_call ?_); (first | refine wA ?_ | refine wN ?_); (first | refine cF (same26_ok (digs D) 35 (digs_length _) (by decide)) ?_))
    | ((with_reducible refine isA_call ?_); (first | refine zA ?_ | refine zN ?_); (first | refine c1 (hrd) ?_ | refine c0 (awake39_ok) ?_))
    | refine stA ?_
    | (refine hK _ _ _ _ ?_; clear hK hX K)
    | (refine hX _ _ _ _ _ (by simp) ?_; clear hK hX K))
      refine retK_mk (by first | exact .inl rfl | exact .inr rfl) (by exact trivial) rfl (ResL.one (ResA.tmp rfl)) (by first | exact out_c (by first | exact frz_c cv_rfl | exact frz_c cv_nil | exact frz_ownW rfl rfl (by first | rfl | with_reducible assumption | (simp <;> fail) | omega | (simp; omega) | assumption) | exact frz_eq (frz_c cv_rfl) (by first | rfl | (simp <;> fail) | fail)) | exact out_own rfl rfl)
  · refine ac_enter tabOk (sz := 41) Try.func3 rfl (by rw [Try.ntmps3]; rfl) ?_
    repeat' (first
    | ((with_reducible refine aw_seqk ?_); intro K hK hX)
    | ((with_reducible refine isC_reg ?_); refine aw_prune [0, 2, 3, 4] rfl rfl ?_; with_reducible refine aw_region ?_)
    | ((with_reducible refine isA_call ?_); (first | refine zA ?_ | refine zN ?_); (first | refine c0 (awake39_ok) ?_))
    | refine stA ?_
    | (refine hK _ _ _ _ ?_; clear hK hX K)
    | (refine hX _ _ _ _ _ (by simp) ?_; clear hK hX K))
    refine retK_mk (by first | exact .inl rfl | exact .inr rfl) (by exact trivial) rfl (ResL.one (ResA.tmp rfl)) (by first | exact out_c (by first | exact frz_c cv_rfl | exact frz_c cv_nil | exact frz_ownW rfl rfl (by first | rfl | with_reducible assumption | (simp <;> fail) | omega | (simp; omega) | assumption) | exact frz_eq (frz_c cv_rfl) (by first | rfl | (simp <;> fail) | fail)) | exact out_own rfl rfl)
set_option maxHeartbeats 4000000 in
theorem law_sigchecks (l k : List UInt8) (n m : Nat) (hl : l.length = n) (hk : k.length = m) : AC Try.prog 4 [.sl 1 n (u8c l), .sl 1 m (u8c k)] (.c (.v (.bool true))) [] 0 := by
  by_cases hn : n ≤ 200
  · have g1 : (decide ((200 : Int) < (n : Int)) == false) = true := by rw [decide_eq_false (by omega)]; rfl
    by_cases hm : m ≤ 200
    · have hda := digits_ok l n hl (by omega)
      have hdb := digits_ok k m hk (by omega)
      generalize sum 390#64 l = A at *
      generalize sum 390#64 k = B at *
      have hla : (intc .i64 (digs A)).length = 35 := by rw [intc_length, digs_length]
      have hlb : (intc .i64 (digs B)).length = 35 := by rw [intc_length, digs_length]
      refine ac_enter tabOk (sz := 65) Try.func4 rfl (by rw [Try.ntmps4]; rfl) ?_
      repeat' (first
    | ((with_reducible refine aw_seqk ?_); intro K hK hX)
    | ((with_reducible refine isC_reg ?_); refine aw_prune [0, 1, 4, 5, 6, 7, 8, 9] rfl rfl ?_; with_reducible refine aw_region ?_)
    | ((with_reducible refine isC_draw ?_); refine aw_prune [0, 1, 4, 5, 6, 7, 8, 9] rfl rfl ?_; refine aw_drwF [] ?_)
    | ((first | with_reducible refine isA_call ?_ | with_reducible refine isD_call ?_); (first | refine zA ?_ | refine zN ?_ | refine zD ?_); (first | refine c1 (hda) ?_ | refine c1 (hdb) ?_))
    | refine stA ?_
    | refine stD ?_
    | (refine hK _ _ _ _ ?_; clear hK hX K)
    | (refine hX _ _ _ _ _ (by simp) ?_; clear hK hX K))
      refine aw_loopk 2 (fun i : Nat => [(4, .c (.v (.bool false))), (5, .own 0 0 35 1 true), (6, .own 1 0 35 1 true), (7, .c (.v (.bool (lessB A B i)))), (8, .c (.v (.bool (lessB B A i)))), (9, .c (iv i))]) (fun i => [(0, .row 3 (intc .i64 (digs A))), (1, .row 3 (intc .i64 (digs B)))]) [] (fun i => i ≤ 35) (fun i => 35 - i) 0 (by omega) weakA ?_
      intro i hi K hK hX
      by_cases hlt : i < 35
      · cases h1 : lessB A B i <;> cases h2 : lessB B A i
        · repeat' (first
    | ((with_reducible refine aw_seqk ?_); intro K hK hX)
    | ((with_reducible refine isC_reg ?_); refine aw_prune [0, 1, 4, 5, 6, 7, 8, 9] rfl rfl ?_; with_reducible refine aw_region ?_)
    | ((with_reducible refine isC_draw ?_); refine aw_prune [0, 1, 4, 5, 6, 7, 8, 9] rfl rfl ?_; refine aw_drwF [] ?_)
    | ((first | ((with_reducible refine isA_any ?_); refine xA ?_) | ((with_reducible refine isDk_any ?_); refine xD ?_)); (first | ((with_reducible refine e_load ?_); (first | refine ex_i (s_load1 tabOk rfl rfl rfl rfl (by first | exact digs_at A i hlt | exact digs_at B i hlt)) ?_ | refine ex_i (s_load1r tabOk rfl rfl rfl rfl (by first | exact digs_at A i hlt | exact digs_at B i hlt)) ?_ | refine ex_i (s_load1i tabOk rfl rfl rfl (by first | exact digs_at A i hlt | exact digs_at B i hlt)) ?_)) | ((with_reducible refine e_ix ?_); (first | refine ex_i (s_ixV1 tabOk rfl rfl (by first | with_reducible exact cast_self _ | with_reducible exact cast_lit _ | exact nt (by omega) | rfl) rfl rfl rfl rfl rfl (by first | exact Nat.le_of_ble_eq_true rfl | omega | (simp; omega)) (by first | exact digs_at A i hlt | exact digs_at B i hlt)) ?_ | refine ex_i (s_ixStr tabOk rfl rfl (by first | with_reducible exact cast_self _ | with_reducible exact cast_lit _ | exact nt (by omega) | rfl) rfl rfl (by first | exact digs_at A i hlt | exact digs_at B i hlt)) ?_))))
    | refine stA ?_
    | refine stD ?_
    | (refine hK _ _ _ _ ?_; clear hK hX K)
    | (refine hX _ _ _ _ _ (by simp) ?_; clear hK hX K))
          exact ⟨i + 1, by omega, by omega, (by refine weak_mk rfl ?_ ?_ rfl <;> (repeat' (first | exact weakE_nil | exact weakH_nil | refine weakE_cons rfl (by first | rfl | (rw [less_step]; first | (rw [h1]; rfl) | (rw [h2]; rfl)) | exact own_eq rfl rfl (by omega) | exact int_eq (by omega) | (simp <;> fail) | (congr 4; omega) | (congr 3; omega) | (congr 2; omega)) rfl ?_ | refine weakH_cons rfl (by first | rfl | (rw [less_step]; first | (rw [h1]; rfl) | (rw [h2]; rfl)) | exact own_eq rfl rfl (by omega) | exact int_eq (by omega) | (simp <;> fail) | (congr 4; omega) | (congr 3; omega) | (congr 2; omega)) rfl ?_)))⟩
        · repeat' (first
    | ((with_reducible refine aw_seqk ?_); intro K hK hX)
    | ((with_reducible refine isC_reg ?_); refine aw_prune [0, 1, 4, 5, 6, 7, 8, 9] rfl rfl ?_; with_reducible refine aw_region ?_)
    | ((with_reducible refine isC_draw ?_); refine aw_prune [0, 1, 4, 5, 6, 7, 8, 9] rfl rfl ?_; refine aw_drwF [] ?_)
    | ((first | ((with_reducible refine isA_any ?_); refine xA ?_) | ((with_reducible refine isDk_any ?_); refine xD ?_)); (first | ((with_reducible refine e_load ?_); (first | refine ex_i (s_load1 tabOk rfl rfl rfl rfl (by first | exact digs_at A i hlt | exact digs_at B i hlt)) ?_ | refine ex_i (s_load1r tabOk rfl rfl rfl rfl (by first | exact digs_at A i hlt | exact digs_at B i hlt)) ?_ | refine ex_i (s_load1i tabOk rfl rfl rfl (by first | exact digs_at A i hlt | exact digs_at B i hlt)) ?_)) | ((with_reducible refine e_ix ?_); (first | refine ex_i (s_ixV1 tabOk rfl rfl (by first | with_reducible exact cast_self _ | with_reducible exact cast_lit _ | exact nt (by omega) | rfl) rfl rfl rfl rfl rfl (by first | exact Nat.le_of_ble_eq_true rfl | omega | (simp; omega)) (by first | exact digs_at A i hlt | exact digs_at B i hlt)) ?_ | refine ex_i (s_ixStr tabOk rfl rfl (by first | with_reducible exact cast_self _ | with_reducible exact cast_lit _ | exact nt (by omega) | rfl) rfl rfl (by first | exact digs_at A i hlt | exact digs_at B i hlt)) ?_))))
    | refine stA ?_
    | refine stD ?_
    | (refine hK _ _ _ _ ?_; clear hK hX K)
    | (refine hX _ _ _ _ _ (by simp) ?_; clear hK hX K))
          exact ⟨i + 1, by omega, by omega, (by refine weak_mk rfl ?_ ?_ rfl <;> (repeat' (first | exact weakE_nil | exact weakH_nil | refine weakE_cons rfl (by first | rfl | (rw [less_step]; first | (rw [h1]; rfl) | (rw [h2]; rfl)) | exact own_eq rfl rfl (by omega) | exact int_eq (by omega) | (simp <;> fail) | (congr 4; omega) | (congr 3; omega) | (congr 2; omega)) rfl ?_ | refine weakH_cons rfl (by first | rfl | (rw [less_step]; first | (rw [h1]; rfl) | (rw [h2]; rfl)) | exact own_eq rfl rfl (by omega) | exact int_eq (by omega) | (simp <;> fail) | (congr 4; omega) | (congr 3; omega) | (congr 2; omega)) rfl ?_)))⟩
        · repeat' (first
    | ((with_reducible refine aw_seqk ?_); intro K hK hX)
    | ((with_reducible refine isC_reg ?_); refine aw_prune [0, 1, 4, 5, 6, 7, 8, 9] rfl rfl ?_; with_reducible refine aw_region ?_)
    | ((with_reducible refine isC_draw ?_); refine aw_prune [0, 1, 4, 5, 6, 7, 8, 9] rfl rfl ?_; refine aw_drwF [] ?_)
    | ((first | ((with_reducible refine isA_any ?_); refine xA ?_) | ((with_reducible refine isDk_any ?_); refine xD ?_)); (first | ((with_reducible refine e_load ?_); (first | refine ex_i (s_load1 tabOk rfl rfl rfl rfl (by first | exact digs_at A i hlt | exact digs_at B i hlt)) ?_ | refine ex_i (s_load1r tabOk rfl rfl rfl rfl (by first | exact digs_at A i hlt | exact digs_at B i hlt)) ?_ | refine ex_i (s_load1i tabOk rfl rfl rfl (by first | exact digs_at A i hlt | exact digs_at B i hlt)) ?_)) | ((with_reducible refine e_ix ?_); (first | refine ex_i (s_ixV1 tabOk rfl rfl (by first | with_reducible exact cast_self _ | with_reducible exact cast_lit _ | exact nt (by omega) | rfl) rfl rfl rfl rfl rfl (by first | exact Nat.le_of_ble_eq_true rfl | omega | (simp; omega)) (by first | exact digs_at A i hlt | exact digs_at B i hlt)) ?_ | refine ex_i (s_ixStr tabOk rfl rfl (by first | with_reducible exact cast_self _ | with_reducible exact cast_lit _ | exact nt (by omega) | rfl) rfl rfl (by first | exact digs_at A i hlt | exact digs_at B i hlt)) ?_))))
    | refine stA ?_
    | refine stD ?_
    | (refine hK _ _ _ _ ?_; clear hK hX K)
    | (refine hX _ _ _ _ _ (by simp) ?_; clear hK hX K))
          exact ⟨i + 1, by omega, by omega, (by refine weak_mk rfl ?_ ?_ rfl <;> (repeat' (first | exact weakE_nil | exact weakH_nil | refine weakE_cons rfl (by first | rfl | (rw [less_step]; first | (rw [h1]; rfl) | (rw [h2]; rfl)) | exact own_eq rfl rfl (by omega) | exact int_eq (by omega) | (simp <;> fail) | (congr 4; omega) | (congr 3; omega) | (congr 2; omega)) rfl ?_ | refine weakH_cons rfl (by first | rfl | (rw [less_step]; first | (rw [h1]; rfl) | (rw [h2]; rfl)) | exact own_eq rfl rfl (by omega) | exact int_eq (by omega) | (simp <;> fail) | (congr 4; omega) | (congr 3; omega) | (congr 2; omega)) rfl ?_)))⟩
        · repeat' (first
    | ((with_reducible refine aw_seqk ?_); intro K hK hX)
    | ((with_reducible refine isC_reg ?_); refine aw_prune [0, 1, 4, 5, 6, 7, 8, 9] rfl rfl ?_; with_reducible refine aw_region ?_)
    | ((with_reducible refine isC_draw ?_); refine aw_prune [0, 1, 4, 5, 6, 7, 8, 9] rfl rfl ?_; refine aw_drwF [] ?_)
    | ((first | ((with_reducible refine isA_any ?_); refine xA ?_) | ((with_reducible refine isDk_any ?_); refine xD ?_)); (first | ((with_reducible refine e_load ?_); (first | refine ex_i (s_load1 tabOk rfl rfl rfl rfl (by first | exact digs_at A i hlt | exact digs_at B i hlt)) ?_ | refine ex_i (s_load1r tabOk rfl rfl rfl rfl (by first | exact digs_at A i hlt | exact digs_at B i hlt)) ?_ | refine ex_i (s_load1i tabOk rfl rfl rfl (by first | exact digs_at A i hlt | exact digs_at B i hlt)) ?_)) | ((with_reducible refine e_ix ?_); (first | refine ex_i (s_ixV1 tabOk rfl rfl (by first | with_reducible exact cast_self _ | with_reducible exact cast_lit _ | exact nt (by omega) | rfl) rfl rfl rfl rfl rfl (by first | exact Nat.le_of_ble_eq_true rfl | omega | (simp; omega)) (by first | exact digs_at A i hlt | exact digs_at B i hlt)) ?_ | refine ex_i (s_ixStr tabOk rfl rfl (by first | with_reducible exact cast_self _ | with_reducible exact cast_lit _ | exact nt (by omega) | rfl) rfl rfl (by first | exact digs_at A i hlt | exact digs_at B i hlt)) ?_))))
    | refine stA ?_
    | refine stD ?_
    | (refine hK _ _ _ _ ?_; clear hK hX K)
    | (refine hX _ _ _ _ _ (by simp) ?_; clear hK hX K))
          exact ⟨i + 1, by omega, by omega, (by refine weak_mk rfl ?_ ?_ rfl <;> (repeat' (first | exact weakE_nil | exact weakH_nil | refine weakE_cons rfl (by first | rfl | (rw [less_step]; first | (rw [h1]; rfl) | (rw [h2]; rfl)) | exact own_eq rfl rfl (by omega) | exact int_eq (by omega) | (simp <;> fail) | (congr 4; omega) | (congr 3; omega) | (congr 2; omega)) rfl ?_ | refine weakH_cons rfl (by first | rfl | (rw [less_step]; first | (rw [h1]; rfl) | (rw [h2]; rfl)) | exact own_eq rfl rfl (by omega) | exact int_eq (by omega) | (simp <;> fail) | (congr 4; omega) | (congr 3; omega) | (congr 2; omega)) rfl ?_)))⟩
      · obtain rfl : i = 35 := by omega
        have hb : (lessB A B 35 == lessB B A 35) = true := by rw [less_both]; simp
        repeat' (first
    | ((with_reducible refine aw_seqk ?_); intro K hK hX)
    | ((with_reducible refine isC_reg ?_); refine aw_prune [0, 1, 4, 5, 6, 7, 8, 9] rfl rfl ?_; with_reducible refine aw_region ?_)
    | ((with_reducible refine isC_draw ?_); refine aw_prune [0, 1, 4, 5, 6, 7, 8, 9] rfl rfl ?_; refine aw_drwF [] ?_)
    | ((first | with_reducible refine isA_call ?_ | with_reducible refine isD_call ?_); (first | refine zA ?_ | refine zN ?_ | refine zD ?_); (first | refine c0 (awake39_ok) ?_))
    | ((first | ((with_reducible refine isA_any ?_); refine xA ?_) | ((with_reducible refine isDk_any ?_); refine xD ?_)); (first | ((with_reducible refine e_bin ?_); (first | refine ex_i (s_eqlB tabOk rfl rfl rfl rfl hb) ?_))))
    | refine stA ?_
    | refine stD ?_
    | (refine hK _ _ _ _ ?_; clear hK hX K)
    | (refine hX _ _ _ _ _ (by simp) ?_; clear hK hX K))
        refine retK_mk (by first | exact .inl rfl | exact .inr rfl) (by exact trivial) rfl (ResL.one (ResA.tmp rfl)) (by first | exact out_c (by first | exact frz_c cv_rfl | exact frz_c cv_nil | exact frz_ownW rfl rfl (by first | rfl | with_reducible assumption | (simp <;> fail) | omega | (simp; omega) | assumption) | exact frz_eq (frz_c cv_rfl) (by first | rfl | (simp <;> fail) | fail)) | exact out_own rfl rfl)
    · refine ac_enter tabOk (sz := 65) Try.func4 rfl (by rw [Try.ntmps4]; rfl) ?_
      repeat' (first
    | ((with_reducible refine aw_seqk ?_); intro K hK hX)
    | ((with_reducible refine isC_reg ?_); refine aw_prune [0, 1, 4, 5, 6, 7, 8, 9] rfl rfl ?_; with_reducible refine aw_region ?_)
    | ((with_reducible refine isC_draw ?_); refine aw_prune [0, 1, 4, 5, 6, 7, 8, 9] rfl rfl ?_; refine aw_drwF [] ?_)
    | ((first | with_reducible refine isA_call ?_ | with_reducible refine isD_call ?_); (first | refine zA ?_ | refine zN ?_ | refine zD ?_); (first | refine c0 (awake39_ok) ?_))
    | refine stA ?_
    | refine stD ?_
    | (refine hK _ _ _ _ ?_; clear hK hX K)
    | (refine hX _ _ _ _ _ (by simp) ?_; clear hK hX K))
      refine retK_mk (by first | exact .inl rfl | exact .inr rfl) (by exact trivial) rfl (ResL.one (ResA.tmp rfl)) (by first | exact out_c (by first | exact frz_c cv_rfl | exact frz_c cv_nil | exact frz_ownW rfl rfl (by first | rfl | with_reducible assumption | (simp <;> fail) | omega | (simp; omega) | assumption) | exact frz_eq (frz_c cv_rfl) (by first | rfl | (simp <;> fail) | fail)) | exact out_own rfl rfl)
  · have g1 : (decide ((200 : Int) < (n : Int)) == false) = false := by rw [decide_eq_true (by omega)]; rfl
    refine ac_enter tabOk (sz := 65) Try.func4 rfl (by rw [Try.ntmps4]; rfl) ?_
    repeat' (first
    | ((with_reducible refine aw_seqk ?_); intro K hK hX)
    | ((with_reducible refine isC_reg ?_); refine aw_prune [0, 1, 4, 5, 6, 7, 8, 9] rfl rfl ?_; with_reducible refine aw_region ?_)
    | ((with_reducible refine isC_draw ?_); refine aw_prune [0, 1, 4, 5, 6, 7, 8, 9] rfl rfl ?_; refine aw_drwF [] ?_)
    | ((first | with_reducible refine isA_call ?_ | with_reducible refine isD_call ?_); (first | refine zA ?_ | refine zN ?_ | refine zD ?_); (first | refine c0 (awake39_ok) ?_))
    | refine stA ?_
    | refine stD ?_
    | (refine hK _ _ _ _ ?_; clear hK hX K)
    | (refine hX _ _ _ _ _ (by simp) ?_; clear hK hX K))
    refine retK_mk (by first | exact .inl rfl | exact .inr rfl) (by exact trivial) rfl (ResL.one (ResA.tmp rfl)) (by first | exact out_c (by first | exact frz_c cv_rfl | exact frz_c cv_nil | exact frz_ownW rfl rfl (by first | rfl | with_reducible assumption | (simp <;> fail) | omega | (simp; omega) | assumption) | exact frz_eq (frz_c cv_rfl) (by first | rfl | (simp <;> fail) | fail)) | exact out_own rfl rfl)
end Go.Proofs.Ytgofigkhdjjlmaa
