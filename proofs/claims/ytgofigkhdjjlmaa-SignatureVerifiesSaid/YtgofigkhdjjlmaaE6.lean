/-
  The law SignatureVerifies (walk).
-/
import Derived.Test.YtgofigkhdjjlmaaE5
import Derived.Test.YtgofigkhdjjlmaaWK
import Derived.Test.YtgofigkhdjjlmaaDR
import Derived.Test.YtgofigkhdjjlmaaAvT
set_option linter.unusedVariables false
set_option linter.unusedSimpArgs false
namespace Go.Proofs.Ytgofigkhdjjlmaa
open Go Go.RowKit Go.Av
set_option maxRecDepth 100000
/-- Lists of digests as a row reads them. -/
theorem dig_flat : ∀ (ls : List (List CV)), (∀ l ∈ ls, (∃ ks : List (List CV), l = ks.flatten ∧ ks.length = 32 ∧ ∀ k ∈ ks, (∃ m, k = [CV.v (.int .u8 m)] ∧ (Lit.int .u8 m).wf = true) ∧ k.length = 1) ∧ l.length = 32) → ∃ L : List (List UInt8), ls.flatten = dc L ∧ L.length = ls.length ∧ all32 L
  | [], _ => ⟨[], rfl, rfl, fun d hd => by cases hd⟩
  | l :: ls, h => by
    obtain ⟨L, h1, h2, h3⟩ := dig_flat ls (fun x hx => h x (by simp [hx]))
    obtain ⟨d, hd1, hd2⟩ := rd_dig (h l (by simp)).1
    refine ⟨d :: L, ?_, by simp [h2], fun x hx => ?_⟩
    · rw [List.flatten_cons, hd1, h1]
      show u8c d ++ u8c L.flatten = u8c (d ++ L.flatten)
      rw [u8c_app]
    · rcases List.mem_cons.1 hx with rfl | hx
      · exact hd2
      · exact h3 x hx
theorem rd_digs {x : CV} (h : ∃ ls : List (List CV), [x] = [CV.sl 32 ls.length ls.flatten] ∧ ls.length ≤ maxLen ∧ ∀ l ∈ ls, (∃ ks : List (List CV), l = ks.flatten ∧ ks.length = 32 ∧ ∀ k ∈ ks, (∃ m, k = [CV.v (.int .u8 m)] ∧ (Lit.int .u8 m).wf = true) ∧ k.length = 1) ∧ l.length = 32) : ∃ L : List (List UInt8), x = .sl 32 L.length (dc L) ∧ L.length ≤ maxLen ∧ all32 L := by
  obtain ⟨ls, h1, h2, h3⟩ := h
  obtain ⟨L, k1, k2, k3⟩ := dig_flat ls h3
  injection h1 with h1
  exact ⟨L, by rw [h1, k1, k2], by omega, k3⟩
theorem rd_digsA {A : List CV} (h : ∃ ls : List (List CV), A = [CV.sl 32 ls.length ls.flatten] ∧ ls.length ≤ maxLen ∧ ∀ l ∈ ls, (∃ ks : List (List CV), l = ks.flatten ∧ ks.length = 32 ∧ ∀ k ∈ ks, (∃ m, k = [CV.v (.int .u8 m)] ∧ (Lit.int .u8 m).wf = true) ∧ k.length = 1) ∧ l.length = 32) : ∃ L : List (List UInt8), A = [.sl 32 L.length (dc L)] ∧ L.length ≤ maxLen ∧ all32 L := by
  obtain ⟨ls, h1, h2, h3⟩ := h
  obtain ⟨L, k1, k2, k3⟩ := dig_flat ls h3
  exact ⟨L, by rw [h1, k1, k2], by omega, k3⟩
attribute [local irreducible] Still Adds AWL AW Drw DrwE EStep AC AWR Weak Frz Src RetK Out InK permute
attribute [local simp] u8c_take u8c_drop u8c_app
set_option maxHeartbeats 4000000 in
theorem law_sigver (root msg : List UInt8) (n : Nat) (idx : Int) (P : List (List UInt8)) (p : Nat) (i c : Int) (S : List (List UInt8)) (m : Nat) (hr : root.length = 32) (hn : msg.length = n) (hP : all32 P) (hp : P.length = p) (hS : all32 S) (hm : S.length = m) : AC Try.prog 14 [.agg (u8c root), .sl 1 n (u8c msg), sigV idx p P i c m S] (.c (.v (.bool true))) [] 0 := by
  have hur : (u8c root).length = 32 := by rw [u8c_length, hr]
  by_cases b1 : (200 : Int) < (n : Int)
  · refine ac_enter tabOk (sz := 36) Try.func14 rfl (by rw [Try.ntmps14]; rfl) ?_
    repeat' (first
    | ((with_reducible refine aw_seqk ?_); intro K hK hX)
    | ((with_reducible refine isC_reg ?_); refine aw_prune [0, 1, 2, 3, 5, 6] rfl rfl ?_; with_reducible refine aw_region ?_)
    | ((with_reducible refine isC_draw ?_); refine aw_prune [0, 1, 2, 3, 5, 6] rfl rfl ?_; refine aw_drwF [] ?_)
    | ((first | with_reducible refine isA_call ?_ | with_reducible refine isD_call ?_); (first | refine zA ?_ | refine zN ?_ | refine zD ?_); (first | refine c0 (awake39_ok) ?_))
    | refine stA ?_
    | refine stD ?_
    | (refine hK _ _ _ _ ?_; clear hK hX K)
    | (refine hX _ _ _ _ _ (by simp) ?_; clear hK hX K))
    refine retK_mk (by first | exact .inl rfl | exact .inr rfl) (by exact trivial) (ResL.one (ResA.tmp rfl)) (by first | exact out_c (by first | exact frz_c cv_rfl | exact frz_c cv_nil | exact frz_ownW rfl rfl (by first | rfl | with_reducible assumption | (simp <;> fail) | omega | (simp; omega) | assumption) | exact frz_eq (frz_c cv_rfl) (by first | rfl | (simp <;> fail) | fail)) | exact out_own rfl rfl)
  · by_cases b2 : (40 : Int) < (p : Int)
    · refine ac_enter tabOk (sz := 36) Try.func14 rfl (by rw [Try.ntmps14]; rfl) ?_
      repeat' (first
    | ((with_reducible refine aw_seqk ?_); intro K hK hX)
    | ((with_reducible refine isC_reg ?_); refine aw_prune [0, 1, 2, 3, 5, 6] rfl rfl ?_; with_reducible refine aw_region ?_)
    | ((with_reducible refine isC_draw ?_); refine aw_prune [0, 1, 2, 3, 5, 6] rfl rfl ?_; refine aw_drwF [] ?_)
    | ((first | with_reducible refine isA_call ?_ | with_reducible refine isD_call ?_); (first | refine zA ?_ | refine zN ?_ | refine zD ?_); (first | refine c0 (awake39_ok) ?_))
    | refine stA ?_
    | refine stD ?_
    | (refine hK _ _ _ _ ?_; clear hK hX K)
    | (refine hX _ _ _ _ _ (by simp) ?_; clear hK hX K))
      refine retK_mk (by first | exact .inl rfl | exact .inr rfl) (by exact trivial) (ResL.one (ResA.tmp rfl)) (by first | exact out_c (by first | exact frz_c cv_rfl | exact frz_c cv_nil | exact frz_ownW rfl rfl (by first | rfl | with_reducible assumption | (simp <;> fail) | omega | (simp; omega) | assumption) | exact frz_eq (frz_c cv_rfl) (by first | rfl | (simp <;> fail) | fail)) | exact out_own rfl rfl)
    · by_cases b3 : (20 : Int) < (m : Int)
      · refine ac_enter tabOk (sz := 36) Try.func14 rfl (by rw [Try.ntmps14]; rfl) ?_
        repeat' (first
    | ((with_reducible refine aw_seqk ?_); intro K hK hX)
    | ((with_reducible refine isC_reg ?_); refine aw_prune [0, 1, 2, 3, 5, 6] rfl rfl ?_; with_reducible refine aw_region ?_)
    | ((with_reducible refine isC_draw ?_); refine aw_prune [0, 1, 2, 3, 5, 6] rfl rfl ?_; refine aw_drwF [] ?_)
    | ((first | with_reducible refine isA_call ?_ | with_reducible refine isD_call ?_); (first | refine zA ?_ | refine zN ?_ | refine zD ?_); (first | refine c0 (awake39_ok) ?_))
    | refine stA ?_
    | refine stD ?_
    | (refine hK _ _ _ _ ?_; clear hK hX K)
    | (refine hX _ _ _ _ _ (by simp) ?_; clear hK hX K))
        refine retK_mk (by first | exact .inl rfl | exact .inr rfl) (by exact trivial) (ResL.one (ResA.tmp rfl)) (by first | exact out_c (by first | exact frz_c cv_rfl | exact frz_c cv_nil | exact frz_ownW rfl rfl (by first | rfl | with_reducible assumption | (simp <;> fail) | omega | (simp; omega) | assumption) | exact frz_eq (frz_c cv_rfl) (by first | rfl | (simp <;> fail) | fail)) | exact out_own rfl rfl)
      · have h1 := sver_ok root msg n idx P p i c S m hr hn (by omega) hP hp (by omega) hS hm (by omega)
        have h2 := rsver_ok root msg n idx P p i c S m hr hn (by omega) hP hp (by omega) hS hm (by omega)
        generalize verS root msg idx P i c S = res at h1 h2
        have hb : (res == res) = true := by simp
        refine ac_enter tabOk (sz := 36) Try.func14 rfl (by rw [Try.ntmps14]; rfl) ?_
        repeat' (first
    | ((with_reducible refine aw_seqk ?_); intro K hK hX)
    | ((with_reducible refine isC_reg ?_); refine aw_prune [0, 1, 2, 3, 5, 6] rfl rfl ?_; with_reducible refine aw_region ?_)
    | ((with_reducible refine isC_draw ?_); refine aw_prune [0, 1, 2, 3, 5, 6] rfl rfl ?_; refine aw_drwF [] ?_)
    | ((first | with_reducible refine isA_call ?_ | with_reducible refine isD_call ?_); (first | refine zA ?_ | refine zN ?_ | refine zD ?_); (first | refine c0 (h1) ?_ | refine c0 (h2) ?_ | refine c0 (awake39_ok) ?_))
    | ((first | ((with_reducible refine isA_any ?_); refine xA ?_) | ((with_reducible refine isDk_any ?_); refine xD ?_)); (first | ((with_reducible refine e_bin ?_); (first | refine ex_i (s_eqlB tabOk rfl rfl rfl rfl hb) ?_))))
    | refine stA ?_
    | refine stD ?_
    | (refine hK _ _ _ _ ?_; clear hK hX K)
    | (refine hX _ _ _ _ _ (by simp) ?_; clear hK hX K))
        refine retK_mk (by first | exact .inl rfl | exact .inr rfl) (by exact trivial) (ResL.one (ResA.tmp rfl)) (by first | exact out_c (by first | exact frz_c cv_rfl | exact frz_c cv_nil | exact frz_ownW rfl rfl (by first | rfl | with_reducible assumption | (simp <;> fail) | omega | (simp; omega) | assumption) | exact frz_eq (frz_c cv_rfl) (by first | rfl | (simp <;> fail) | fail)) | exact out_own rfl rfl)
end Go.Proofs.Ytgofigkhdjjlmaa
