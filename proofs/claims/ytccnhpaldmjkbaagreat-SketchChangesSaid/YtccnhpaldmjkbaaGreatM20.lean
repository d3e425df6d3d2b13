/-
  Joined texts: Y1 Y2. Lemmas; no statement of a law.
-/
import Derived.Test.YtccnhpaldmjkbaaGreatM14
import Derived.Test.YtccnhpaldmjkbaaGreatM19
set_option linter.unusedSimpArgs false
set_option linter.unusedVariables false
/-
  Add, Remove, Merge and Estimate of the program: arguments that are not valid, and values that change nothing (walk).
-/
namespace Go.Proofs.YtccnhpaldmjkbaaGreat
open Go Go.RowKit Go.Av
set_option maxRecDepth 100000
attribute [local irreducible] Still Adds AWL AW Drw DrwE EStep AC AWR Weak Frz Src RetK Out InK ItK AsK RdK RetT OutT ACT ACS RetS ACP RetP
theorem clone_none (k : Nat) : AC Tryz.prog 124 [.v (.slice none 0 k)] (.c (.v (.slice none 0 0))) [] 0 := by
  refine ac_enter tabOk (sz := 8) Tryz.func124 rfl (by rw [Tryz.ntmps124]; rfl) ?_
  repeat' (first | ((with_reducible refine aw_seqk ?_); intro K hK hX) | ((with_reducible refine isC_reg ?_); refine aw_prune [0, 2] rfl rfl ?_; with_reducible refine aw_region ?_) | (((with_reducible refine isA_any ?_); refine xA ?_); (first | ((with_reducible refine e_bin ?_); (first | refine ex_i (s_eqnilV tabOk rfl rfl rfl rfl) ?_)))) | refine stA ?_ | (refine hK _ _ _ _ ?_; clear hK hX K) | (refine hX _ _ _ _ _ (by simp) ?_; clear hK hX K))
  refine retK_mk zio ztr rfl (ResL.one (ResA.tmp rfl)) zou
theorem clone_some (a : Addr) (k : Nat) : AC Tryz.prog 124 [.v (.slice (some a) 0 k)] (.own 0 0 0 1 true) [(0, .row 2 [])] 1 := by
  refine ac_enter tabOk (sz := 8) Tryz.func124 rfl (by rw [Tryz.ntmps124]; rfl) ?_
  repeat' (first | ((with_reducible refine aw_seqk ?_); intro K hK hX) | ((with_reducible refine isC_reg ?_); refine aw_prune [0, 2] rfl rfl ?_; with_reducible refine aw_region ?_) | ((with_reducible refine isA_bi ?_); (refine a_append tabOk g_none rfl rfl rfl rfl rfl rfl rfl rfl (by first | rfl | simp) rfl src_v0 (by simp only [maxLen]; omega) (by omega) ?_)) | (((with_reducible refine isA_any ?_); refine xA ?_); (first | ((with_reducible refine e_bin ?_); (first | refine ex_i (s_eqnilV tabOk rfl rfl rfl rfl) ?_)))) | refine stA ?_ | (refine hK _ _ _ _ ?_; clear hK hX K) | (refine hX _ _ _ _ _ (by simp) ?_; clear hK hX K))
  refine retK_mk zio ztr rfl (ResL.one (ResA.tmp rfl)) zou
set_option maxHeartbeats 4000000 in
theorem add_bad (s : Sk) (X : CV) (v : Vl) (c : Int) (b1 b2 : Bool) (h1 : AC Tryz.prog 22 [.agg s.c, X] (.c (bv b1)) [] 0) (h2 : AC Tryz.prog 123 [.agg v.c] (.c (bv b2)) [] 0) (hb : b1 = false ∨ b2 = false ∨ c < 0 ∨ 262144 < c) : AC Tryz.prog 69 [.agg s.c, X, .agg v.c, iv c] (.tup [.c (.sl 1 0 (intc .i64 [])), .c (iv 1)]) [] 0 := by
  obtain ⟨nm, sr, col, kd, w, d⟩ := s
  obtain ⟨a, m, t⟩ := v
  simp only [Sk.c, Vl.c] at *
  cases b1 with
  | false =>
    refine ac_enter tabOk (sz := 58) Tryz.func69 rfl (by rw [Tryz.ntmps69]; rfl) ?_
    repeat' (first | ((with_reducible refine aw_seqk ?_); intro K hK hX) | ((with_reducible refine isC_reg ?_); refine aw_prune [0, 1, 2, 3, 4, 6, 8, 9, 10] rfl rfl ?_; with_reducible refine aw_region ?_) | ((with_reducible refine isC_draw ?_); refine aw_prune [0, 1, 2, 3, 4, 6, 8, 9, 10] rfl rfl ?_; refine aw_drwF [] ?_) | ((first | with_reducible refine isA_call ?_ | with_reducible refine isD_call ?_); (first | refine zA ?_ | refine zN ?_ | refine zD ?_); (first | refine c0 (h1) ?_ | refine c0 (h2) ?_)) | refine stA ?_ | refine stD ?_ | (refine hK _ _ _ _ ?_; clear hK hX K) | (refine hX _ _ _ _ _ (by simp) ?_; clear hK hX K))
    refine retK_mk zio (by exact ⟨ad_idle, ad_idle_b, trivial⟩) rfl (ResL.two (ResA.tmp rfl) (ResA.tmp rfl)) (out_t (frzl_cons zfz (frzl_cons zfz frzl_nil)))
  | true =>
    cases b2 with
    | false =>
      refine ac_enter tabOk (sz := 58) Tryz.func69 rfl (by rw [Tryz.ntmps69]; rfl) ?_
      repeat' (first | ((with_reducible refine aw_seqk ?_); intro K hK hX) | ((with_reducible refine isC_reg ?_); refine aw_prune [0, 1, 2, 3, 4, 6, 8, 9, 10] rfl rfl ?_; with_reducible refine aw_region ?_) | ((with_reducible refine isC_draw ?_); refine aw_prune [0, 1, 2, 3, 4, 6, 8, 9, 10] rfl rfl ?_; refine aw_drwF [] ?_) | ((first | with_reducible refine isA_call ?_ | with_reducible refine isD_call ?_); (first | refine zA ?_ | refine zN ?_ | refine zD ?_); (first | refine c0 (h1) ?_ | refine c0 (h2) ?_)) | refine stA ?_ | refine stD ?_ | (refine hK _ _ _ _ ?_; clear hK hX K) | (refine hX _ _ _ _ _ (by simp) ?_; clear hK hX K))
      refine retK_mk zio (by exact ⟨ad_idle, ad_idle_b, trivial⟩) rfl (ResL.two (ResA.tmp rfl) (ResA.tmp rfl)) (out_t (frzl_cons zfz (frzl_cons zfz frzl_nil)))
    | true =>
      by_cases e0 : c < 0
      ·
        refine ac_enter tabOk (sz := 58) Tryz.func69 rfl (by rw [Tryz.ntmps69]; rfl) ?_
        repeat' (first | ((with_reducible refine aw_seqk ?_); intro K hK hX) | ((with_reducible refine isC_reg ?_); refine aw_prune [0, 1, 2, 3, 4, 6, 8, 9, 10] rfl rfl ?_; with_reducible refine aw_region ?_) | ((with_reducible refine isC_draw ?_); refine aw_prune [0, 1, 2, 3, 4, 6, 8, 9, 10] rfl rfl ?_; refine aw_drwF [] ?_) | ((first | with_reducible refine isA_call ?_ | with_reducible refine isD_call ?_); (first | refine zA ?_ | refine zN ?_ | refine zD ?_); (first | refine c0 (h1) ?_ | refine c0 (h2) ?_)) | refine stA ?_ | refine stD ?_ | (refine hK _ _ _ _ ?_; clear hK hX K) | (refine hX _ _ _ _ _ (by simp) ?_; clear hK hX K))
        refine retK_mk zio (by exact ⟨ad_idle, ad_idle_b, trivial⟩) rfl (ResL.two (ResA.tmp rfl) (ResA.tmp rfl)) (out_t (frzl_cons zfz (frzl_cons zfz frzl_nil)))
      · have e1 : 262144 < c := by simp at hb; omega
        refine ac_enter tabOk (sz := 58) Tryz.func69 rfl (by rw [Tryz.ntmps69]; rfl) ?_
        repeat' (first | ((with_reducible refine aw_seqk ?_); intro K hK hX) | ((with_reducible refine isC_reg ?_); refine aw_prune [0, 1, 2, 3, 4, 6, 8, 9, 10] rfl rfl ?_; with_reducible refine aw_region ?_) | ((with_reducible refine isC_draw ?_); refine aw_prune [0, 1, 2, 3, 4, 6, 8, 9, 10] rfl rfl ?_; refine aw_drwF [] ?_) | ((first | with_reducible refine isA_call ?_ | with_reducible refine isD_call ?_); (first | refine zA ?_ | refine zN ?_ | refine zD ?_); (first | refine c0 (h1) ?_ | refine c0 (h2) ?_)) | refine stA ?_ | refine stD ?_ | (refine hK _ _ _ _ ?_; clear hK hX K) | (refine hX _ _ _ _ _ (by simp) ?_; clear hK hX K))
        refine retK_mk zio (by exact ⟨ad_idle, ad_idle_b, trivial⟩) rfl (ResL.two (ResA.tmp rfl) (ResA.tmp rfl)) (out_t (frzl_cons zfz (frzl_cons zfz frzl_nil)))
set_option maxHeartbeats 4000000 in
theorem rem_bad (s : Sk) (X : CV) (v : Vl) (c : Int) (b1 b2 : Bool) (h1 : AC Tryz.prog 22 [.agg s.c, X] (.c (bv b1)) [] 0) (h2 : AC Tryz.prog 123 [.agg v.c] (.c (bv b2)) [] 0) (hb : b1 = false ∨ b2 = false ∨ c < 0 ∨ 262144 < c) : AC Tryz.prog 64 [.agg s.c, X, .agg v.c, iv c] (.tup [.c (.sl 1 0 (intc .i64 [])), .c (iv 1)]) [] 0 := by
  obtain ⟨nm, sr, col, kd, w, d⟩ := s
  obtain ⟨a, m, t⟩ := v
  simp only [Sk.c, Vl.c] at *
  cases b1 with
  | false =>
    refine ac_enter tabOk (sz := 56) Tryz.func64 rfl (by rw [Tryz.ntmps64]; rfl) ?_
    repeat' (first | ((with_reducible refine aw_seqk ?_); intro K hK hX) | ((with_reducible refine isC_reg ?_); refine aw_prune [0, 1, 2, 3, 4, 6, 8, 9, 10] rfl rfl ?_; with_reducible refine aw_region ?_) | ((with_reducible refine isA_call ?_); (first | refine zA ?_ | refine zN ?_); (first | refine c0 (h1) ?_ | refine c0 (h2) ?_)) | refine stA ?_ | (refine hK _ _ _ _ ?_; clear hK hX K) | (refine hX _ _ _ _ _ (by simp) ?_; clear hK hX K))
    refine retK_mk zio (by exact ⟨rm_idle, rm_idle_b, trivial⟩) rfl (ResL.two (ResA.tmp rfl) (ResA.tmp rfl)) (out_t (frzl_cons zfz (frzl_cons zfz frzl_nil)))
  | true =>
    cases b2 with
    | false =>
      refine ac_enter tabOk (sz := 56) Tryz.func64 rfl (by rw [Tryz.ntmps64]; rfl) ?_
      repeat' (first | ((with_reducible refine aw_seqk ?_); intro K hK hX) | ((with_reducible refine isC_reg ?_); refine aw_prune [0, 1, 2, 3, 4, 6, 8, 9, 10] rfl rfl ?_; with_reducible refine aw_region ?_) | ((with_reducible refine isA_call ?_); (first | refine zA ?_ | refine zN ?_); (first | refine c0 (h1) ?_ | refine c0 (h2) ?_)) | refine stA ?_ | (refine hK _ _ _ _ ?_; clear hK hX K) | (refine hX _ _ _ _ _ (by simp) ?_; clear hK hX K))
      refine retK_mk zio (by exact ⟨rm_idle, rm_idle_b, trivial⟩) rfl (ResL.two (ResA.tmp rfl) (ResA.tmp rfl)) (out_t (frzl_cons zfz (frzl_cons zfz frzl_nil)))
    | true =>
      by_cases e0 : c < 0
      ·
        refine ac_enter tabOk (sz := 56) Tryz.func64 rfl (by rw [Tryz.ntmps64]; rfl) ?_
        repeat' (first | ((with_reducible refine aw_seqk ?_); intro K hK hX) | ((with_reducible refine isC_reg ?_); refine aw_prune [0, 1, 2, 3, 4, 6, 8, 9, 10] rfl rfl ?_; with_reducible refine aw_region ?_) | ((with_reducible refine isA_call ?_); (first | refine zA ?_ | refine zN ?_); (first | refine c0 (h1) ?_ | refine c0 (h2) ?_)) | refine stA ?_ | (refine hK _ _ _ _ ?_; clear hK hX K) | (refine hX _ _ _ _ _ (by simp) ?_; clear hK hX K))
        refine retK_mk zio (by exact ⟨rm_idle, rm_idle_b, trivial⟩) rfl (ResL.two (ResA.tmp rfl) (ResA.tmp rfl)) (out_t (frzl_cons zfz (frzl_cons zfz frzl_nil)))
      · have e1 : 262144 < c := by simp at hb; omega
        refine ac_enter tabOk (sz := 56) Tryz.func64 rfl (by rw [Tryz.ntmps64]; rfl) ?_
        repeat' (first | ((with_reducible refine aw_seqk ?_); intro K hK hX) | ((with_reducible refine isC_reg ?_); refine aw_prune [0, 1, 2, 3, 4, 6, 8, 9, 10] rfl rfl ?_; with_reducible refine aw_region ?_) | ((with_reducible refine isA_call ?_); (first | refine zA ?_ | refine zN ?_); (first | refine c0 (h1) ?_ | refine c0 (h2) ?_)) | refine stA ?_ | (refine hK _ _ _ _ ?_; clear hK hX K) | (refine hX _ _ _ _ _ (by simp) ?_; clear hK hX K))
        refine retK_mk zio (by exact ⟨rm_idle, rm_idle_b, trivial⟩) rfl (ResL.two (ResA.tmp rfl) (ResA.tmp rfl)) (out_t (frzl_cons zfz (frzl_cons zfz frzl_nil)))
set_option maxHeartbeats 8000000 in
/-- Nothing is added. -/
theorem add_zero (s : Sk) (l : List Int) (n : Nat) (v : Vl) (c : Int) (hn : l.length = n) (hnn : n ≤ 100000) (h1 : AC Tryz.prog 22 [.agg s.c, .sl 1 n (intc .i64 l)] (.c (bv true)) [] 0) (h2 : AC Tryz.prog 123 [.agg v.c] (.c (bv true)) [] 0) (e0 : 0 ≤ c) (e1 : c ≤ 262144) (hz : v.k = 0 ∨ c = 0) : AC Tryz.prog 69 [.agg s.c, .sl 1 n (intc .i64 l), .agg v.c, iv c] (.tup [.c (.sl 1 n (intc .i64 l)), .c (iv 0)]) [] 0 := by
  obtain ⟨nm, sr, col, kd, w, d⟩ := s
  obtain ⟨a, m, t⟩ := v
  simp only [Sk.c, Vl.c] at *
  by_cases h0 : 0 < n
  · have hil : (intc .i64 l).length = n := by rw [intc_length, hn]
    have h3 := clone64_ok l n hn h0 (by omega)
    by_cases hk : a = 0
    · subst hk; clear hz
      refine ac_enter tabOk (sz := 58) Tryz.func69 rfl (by rw [Tryz.ntmps69]; rfl) ?_
      repeat' (first | ((with_reducible refine aw_seqk ?_); intro K hK hX) | ((with_reducible refine isC_reg ?_); refine aw_prune [0, 1, 2, 3, 4, 6, 8, 9, 10] rfl rfl ?_; with_reducible refine aw_region ?_) | ((with_reducible refine isC_draw ?_); refine aw_prune [0, 1, 2, 3, 4, 6, 8, 9, 10] rfl rfl ?_; refine aw_drwF [] ?_) | ((first | with_reducible refine isA_call ?_ | with_reducible refine isD_call ?_); (first | refine zA ?_ | refine zN ?_ | refine zD ?_); (first | refine c0 (h1) ?_ | refine c0 (h2) ?_ | refine c0 (h3) ?_ | refine c1 (h3) ?_)) | refine stA ?_ | refine stD ?_ | (refine hK _ _ _ _ ?_; clear hK hX K) | (refine hX _ _ _ _ _ (by simp) ?_; clear hK hX K))
      refine retK_mk zio (by exact ⟨ad_idle, ad_idle_b, trivial⟩) rfl (ResL.two (ResA.tmp rfl) (ResA.tmp rfl)) (out_t (frzl_cons zfz (frzl_cons zfz frzl_nil)))
    · have : c = 0 := by omega
      subst this; clear hz e0 e1
      refine ac_enter tabOk (sz := 58) Tryz.func69 rfl (by rw [Tryz.ntmps69]; rfl) ?_
      repeat' (first | ((with_reducible refine aw_seqk ?_); intro K hK hX) | ((with_reducible refine isC_reg ?_); refine aw_prune [0, 1, 2, 3, 4, 6, 8, 9, 10] rfl rfl ?_; with_reducible refine aw_region ?_) | ((with_reducible refine isC_draw ?_); refine aw_prune [0, 1, 2, 3, 4, 6, 8, 9, 10] rfl rfl ?_; refine aw_drwF [] ?_) | ((first | with_reducible refine isA_call ?_ | with_reducible refine isD_call ?_); (first | refine zA ?_ | refine zN ?_ | refine zD ?_); (first | refine c0 (h1) ?_ | refine c0 (h2) ?_ | refine c0 (h3) ?_ | refine c1 (h3) ?_)) | refine stA ?_ | refine stD ?_ | (refine hK _ _ _ _ ?_; clear hK hX K) | (refine hX _ _ _ _ _ (by simp) ?_; clear hK hX K))
      refine retK_mk zio (by exact ⟨ad_idle, ad_idle_b, trivial⟩) rfl (ResL.two (ResA.tmp rfl) (ResA.tmp rfl)) (out_t (frzl_cons zfz (frzl_cons zfz frzl_nil)))
  · obtain rfl : n = 0 := by omega
    obtain rfl : l = [] := List.eq_nil_of_length_eq_zero hn
    refine AC.split0 (xs := [_]) (ys := [_, _]) fun A k hk => ?_
    have h1 := AC.args h1 (cvl_cons cv_rfl (cvl_cons (cv_v0 (A := A) hk) cvl_nil))
    cases A with
    | none =>
      have h3 := clone_none k
      by_cases hk : a = 0
      · subst hk; clear hz
        refine ac_enter tabOk (sz := 58) Tryz.func69 rfl (by rw [Tryz.ntmps69]; rfl) ?_
        repeat' (first | ((with_reducible refine aw_seqk ?_); intro K hK hX) | ((with_reducible refine isC_reg ?_); refine aw_prune [0, 1, 2, 3, 4, 6, 8, 9, 10] rfl rfl ?_; with_reducible refine aw_region ?_) | ((with_reducible refine isC_draw ?_); refine aw_prune [0, 1, 2, 3, 4, 6, 8, 9, 10] rfl rfl ?_; refine aw_drwF [] ?_) | ((first | with_reducible refine isA_call ?_ | with_reducible refine isD_call ?_); (first | refine zA ?_ | refine zN ?_ | refine zD ?_); (first | refine c0 (h1) ?_ | refine c0 (h2) ?_ | refine c0 (h3) ?_ | refine c1 (h3) ?_)) | refine stA ?_ | refine stD ?_ | (refine hK _ _ _ _ ?_; clear hK hX K) | (refine hX _ _ _ _ _ (by simp) ?_; clear hK hX K))
        refine retK_mk zio (by exact ⟨ad_idle, ad_idle_b, trivial⟩) rfl (ResL.two (ResA.tmp rfl) (ResA.tmp rfl)) (out_t (frzl_cons zfz (frzl_cons zfz frzl_nil)))
      · have : c = 0 := by omega
        subst this; clear hz e0 e1
        refine ac_enter tabOk (sz := 58) Tryz.func69 rfl (by rw [Tryz.ntmps69]; rfl) ?_
        repeat' (first | ((with_reducible refine aw_seqk ?_); intro K hK hX) | ((with_reducible refine isC_reg ?_); refine aw_prune [0, 1, 2, 3, 4, 6, 8, 9, 10] rfl rfl ?_; with_reducible refine aw_region ?_) | ((with_reducible refine isC_draw ?_); refine aw_prune [0, 1, 2, 3, 4, 6, 8, 9, 10] rfl rfl ?_; refine aw_drwF [] ?_) | ((first | with_reducible refine isA_call ?_ | with_reducible refine isD_call ?_); (first | refine zA ?_ | refine zN ?_ | refine zD ?_); (first | refine c0 (h1) ?_ | refine c0 (h2) ?_ | refine c0 (h3) ?_ | refine c1 (h3) ?_)) | refine stA ?_ | refine stD ?_ | (refine hK _ _ _ _ ?_; clear hK hX K) | (refine hX _ _ _ _ _ (by simp) ?_; clear hK hX K))
        refine retK_mk zio (by exact ⟨ad_idle, ad_idle_b, trivial⟩) rfl (ResL.two (ResA.tmp rfl) (ResA.tmp rfl)) (out_t (frzl_cons zfz (frzl_cons zfz frzl_nil)))
    | some b =>
      have h3 := clone_some b k
      by_cases hk : a = 0
      · subst hk; clear hz
        refine ac_enter tabOk (sz := 58) Tryz.func69 rfl (by rw [Tryz.ntmps69]; rfl) ?_
        repeat' (first | ((with_reducible refine aw_seqk ?_); intro K hK hX) | ((with_reducible refine isC_reg ?_); refine aw_prune [0, 1, 2, 3, 4, 6, 8, 9, 10] rfl rfl ?_; with_reducible refine aw_region ?_) | ((with_reducible refine isC_draw ?_); refine aw_prune [0, 1, 2, 3, 4, 6, 8, 9, 10] rfl rfl ?_; refine aw_drwF [] ?_) | ((first | with_reducible refine isA_call ?_ | with_reducible refine isD_call ?_); (first | refine zA ?_ | refine zN ?_ | refine zD ?_); (first | refine c0 (h1) ?_ | refine c0 (h2) ?_ | refine c0 (h3) ?_ | refine c1 (h3) ?_)) | refine stA ?_ | refine stD ?_ | (refine hK _ _ _ _ ?_; clear hK hX K) | (refine hX _ _ _ _ _ (by simp) ?_; clear hK hX K))
        refine retK_mk zio (by exact ⟨ad_idle, ad_idle_b, trivial⟩) rfl (ResL.two (ResA.tmp rfl) (ResA.tmp rfl)) (out_t (frzl_cons zfz (frzl_cons zfz frzl_nil)))
      · have : c = 0 := by omega
        subst this; clear hz e0 e1
        refine ac_enter tabOk (sz := 58) Tryz.func69 rfl (by rw [Tryz.ntmps69]; rfl) ?_
        repeat' (first | ((with_reducible refine aw_seqk ?_); intro K hK hX) | ((with_reducible refine isC_reg ?_); refine aw_prune [0, 1, 2, 3, 4, 6, 8, 9, 10] rfl rfl ?_; with_reducible refine aw_region ?_) | ((with_reducible refine isC_draw ?_); refine aw_prune [0, 1, 2, 3, 4, 6, 8, 9, 10] rfl rfl ?_; refine aw_drwF [] ?_) | ((first | with_reducible refine isA_call ?_ | with_reducible refine isD_call ?_); (first | refine zA ?_ | refine zN ?_ | refine zD ?_); (first | refine c0 (h1) ?_ | refine c0 (h2) ?_ | refine c0 (h3) ?_ | refine c1 (h3) ?_)) | refine stA ?_ | refine stD ?_ | (refine hK _ _ _ _ ?_; clear hK hX K) | (refine hX _ _ _ _ _ (by simp) ?_; clear hK hX K))
        refine retK_mk zio (by exact ⟨ad_idle, ad_idle_b, trivial⟩) rfl (ResL.two (ResA.tmp rfl) (ResA.tmp rfl)) (out_t (frzl_cons zfz (frzl_cons zfz frzl_nil)))
set_option maxHeartbeats 8000000 in
/-- Nothing is removed. -/
theorem rem_zero (s : Sk) (l : List Int) (n : Nat) (v : Vl) (c : Int) (hn : l.length = n) (hnn : n ≤ 100000) (h1 : AC Tryz.prog 22 [.agg s.c, .sl 1 n (intc .i64 l)] (.c (bv true)) [] 0) (h2 : AC Tryz.prog 123 [.agg v.c] (.c (bv true)) [] 0) (e0 : 0 ≤ c) (e1 : c ≤ 262144) (hz : v.k = 0 ∨ c = 0) : AC Tryz.prog 64 [.agg s.c, .sl 1 n (intc .i64 l), .agg v.c, iv c] (.tup [.c (.sl 1 n (intc .i64 l)), .c (iv 0)]) [] 0 := by
  obtain ⟨nm, sr, col, kd, w, d⟩ := s
  obtain ⟨a, m, t⟩ := v
  simp only [Sk.c, Vl.c] at *
  by_cases h0 : 0 < n
  · have hil : (intc .i64 l).length = n := by rw [intc_length, hn]
    have h3 := clone64_ok l n hn h0 (by omega)
    by_cases hk : a = 0
    · subst hk; clear hz
      refine ac_enter tabOk (sz := 56) Tryz.func64 rfl (by rw [Tryz.ntmps64]; rfl) ?_
      repeat' (first | ((with_reducible refine aw_seqk ?_); intro K hK hX) | ((with_reducible refine isC_reg ?_); refine aw_prune [0, 1, 2, 3, 4, 6, 8, 9, 10] rfl rfl ?_; with_reducible refine aw_region ?_) | ((with_reducible refine isA_call ?_); (first | refine zA ?_ | refine zN ?_); (first | refine c0 (h1) ?_ | refine c0 (h2) ?_ | refine c0 (h3) ?_ | refine c1 (h3) ?_)) | refine stA ?_ | (refine hK _ _ _ _ ?_; clear hK hX K) | (refine hX _ _ _ _ _ (by simp) ?_; clear hK hX K))
      refine retK_mk zio (by exact ⟨rm_idle, rm_idle_b, trivial⟩) rfl (ResL.two (ResA.tmp rfl) (ResA.tmp rfl)) (out_t (frzl_cons zfz (frzl_cons zfz frzl_nil)))
    · have : c = 0 := by omega
      subst this; clear hz e0 e1
      refine ac_enter tabOk (sz := 56) Tryz.func64 rfl (by rw [Tryz.ntmps64]; rfl) ?_
      repeat' (first | ((with_reducible refine aw_seqk ?_); intro K hK hX) | ((with_reducible refine isC_reg ?_); refine aw_prune [0, 1, 2, 3, 4, 6, 8, 9, 10] rfl rfl ?_; with_reducible refine aw_region ?_) | ((with_reducible refine isA_call ?_); (first | refine zA ?_ | refine zN ?_); (first | refine c0 (h1) ?_ | refine c0 (h2) ?_ | refine c0 (h3) ?_ | refine c1 (h3) ?_)) | refine stA ?_ | (refine hK _ _ _ _ ?_; clear hK hX K) | (refine hX _ _ _ _ _ (by simp) ?_; clear hK hX K))
      refine retK_mk zio (by exact ⟨rm_idle, rm_idle_b, trivial⟩) rfl (ResL.two (ResA.tmp rfl) (ResA.tmp rfl)) (out_t (frzl_cons zfz (frzl_cons zfz frzl_nil)))
  · obtain rfl : n = 0 := by omega
    obtain rfl : l = [] := List.eq_nil_of_length_eq_zero hn
    refine AC.split0 (xs := [_]) (ys := [_, _]) fun A k hk => ?_
    have h1 := AC.args h1 (cvl_cons cv_rfl (cvl_cons (cv_v0 (A := A) hk) cvl_nil))
    cases A with
    | none =>
      have h3 := clone_none k
      by_cases hk : a = 0
      · subst hk; clear hz
        refine ac_enter tabOk (sz := 56) Tryz.func64 rfl (by rw [Tryz.ntmps64]; rfl) ?_
        repeat' (first | ((with_reducible refine aw_seqk ?_); intro K hK hX) | ((with_reducible refine isC_reg ?_); refine aw_prune [0, 1, 2, 3, 4, 6, 8, 9, 10] rfl rfl ?_; with_reducible refine aw_region ?_) | ((with_reducible refine isA_call ?_); (first | refine zA ?_ | refine zN ?_); (first | refine c0 (h1) ?_ | refine c0 (h2) ?_ | refine c0 (h3) ?_ | refine c1 (h3) ?_)) | refine stA ?_ | (refine hK _ _ _ _ ?_; clear hK hX K) | (refine hX _ _ _ _ _ (by simp) ?_; clear hK hX K))
        refine retK_mk zio (by exact ⟨rm_idle, rm_idle_b, trivial⟩) rfl (ResL.two (ResA.tmp rfl) (ResA.tmp rfl)) (out_t (frzl_cons zfz (frzl_cons zfz frzl_nil)))
      · have : c = 0 := by omega
        subst this; clear hz e0 e1
        refine ac_enter tabOk (sz := 56) Tryz.func64 rfl (by rw [Tryz.ntmps64]; rfl) ?_
        repeat' (first | ((with_reducible refine aw_seqk ?_); intro K hK hX) | ((with_reducible refine isC_reg ?_); refine aw_prune [0, 1, 2, 3, 4, 6, 8, 9, 10] rfl rfl ?_; with_reducible refine aw_region ?_) | ((with_reducible refine isA_call ?_); (first | refine zA ?_ | refine zN ?_); (first | refine c0 (h1) ?_ | refine c0 (h2) ?_ | refine c0 (h3) ?_ | refine c1 (h3) ?_)) | refine stA ?_ | (refine hK _ _ _ _ ?_; clear hK hX K) | (refine hX _ _ _ _ _ (by simp) ?_; clear hK hX K))
        refine retK_mk zio (by exact ⟨rm_idle, rm_idle_b, trivial⟩) rfl (ResL.two (ResA.tmp rfl) (ResA.tmp rfl)) (out_t (frzl_cons zfz (frzl_cons zfz frzl_nil)))
    | some b =>
      have h3 := clone_some b k
      by_cases hk : a = 0
      · subst hk; clear hz
        refine ac_enter tabOk (sz := 56) Tryz.func64 rfl (by rw [Tryz.ntmps64]; rfl) ?_
        repeat' (first | ((with_reducible refine aw_seqk ?_); intro K hK hX) | ((with_reducible refine isC_reg ?_); refine aw_prune [0, 1, 2, 3, 4, 6, 8, 9, 10] rfl rfl ?_; with_reducible refine aw_region ?_) | ((with_reducible refine isA_call ?_); (first | refine zA ?_ | refine zN ?_); (first | refine c0 (h1) ?_ | refine c0 (h2) ?_ | refine c0 (h3) ?_ | refine c1 (h3) ?_)) | refine stA ?_ | (refine hK _ _ _ _ ?_; clear hK hX K) | (refine hX _ _ _ _ _ (by simp) ?_; clear hK hX K))
        refine retK_mk zio (by exact ⟨rm_idle, rm_idle_b, trivial⟩) rfl (ResL.two (ResA.tmp rfl) (ResA.tmp rfl)) (out_t (frzl_cons zfz (frzl_cons zfz frzl_nil)))
      · have : c = 0 := by omega
        subst this; clear hz e0 e1
        refine ac_enter tabOk (sz := 56) Tryz.func64 rfl (by rw [Tryz.ntmps64]; rfl) ?_
        repeat' (first | ((with_reducible refine aw_seqk ?_); intro K hK hX) | ((with_reducible refine isC_reg ?_); refine aw_prune [0, 1, 2, 3, 4, 6, 8, 9, 10] rfl rfl ?_; with_reducible refine aw_region ?_) | ((with_reducible refine isA_call ?_); (first | refine zA ?_ | refine zN ?_); (first | refine c0 (h1) ?_ | refine c0 (h2) ?_ | refine c0 (h3) ?_ | refine c1 (h3) ?_)) | refine stA ?_ | (refine hK _ _ _ _ ?_; clear hK hX K) | (refine hX _ _ _ _ _ (by simp) ?_; clear hK hX K))
        refine retK_mk zio (by exact ⟨rm_idle, rm_idle_b, trivial⟩) rfl (ResL.two (ResA.tmp rfl) (ResA.tmp rfl)) (out_t (frzl_cons zfz (frzl_cons zfz frzl_nil)))
set_option maxHeartbeats 8000000 in
/-- Values cannot be removed from other sketches. -/
theorem rem_kind (s : Sk) (l : List Int) (n : Nat) (v : Vl) (c : Int) (hn : l.length = n) (hnn : n ≤ 100000) (h1 : AC Tryz.prog 22 [.agg s.c, .sl 1 n (intc .i64 l)] (.c (bv true)) [] 0) (h2 : AC Tryz.prog 123 [.agg v.c] (.c (bv true)) [] 0) (e0 : 0 < c) (e1 : c ≤ 262144) (hz : v.k ≠ 0) (hk : s.kd ≠ 0) : AC Tryz.prog 64 [.agg s.c, .sl 1 n (intc .i64 l), .agg v.c, iv c] (.tup [.c (.sl 1 0 (intc .i64 [])), .c (iv 11)]) [] 0 := by
  obtain ⟨nm, sr, col, kd, w, d⟩ := s
  obtain ⟨a, m, t⟩ := v
  simp only [Sk.c, Vl.c] at *
  by_cases h0 : 0 < n
  · have hil : (intc .i64 l).length = n := by rw [intc_length, hn]
    have h3 := clone64_ok l n hn h0 (by omega)
    refine ac_enter tabOk (sz := 56) Tryz.func64 rfl (by rw [Tryz.ntmps64]; rfl) ?_
    repeat' (first | ((with_reducible refine aw_seqk ?_); intro K hK hX) | ((with_reducible refine isC_reg ?_); refine aw_prune [0, 1, 2, 3, 4, 6, 8, 9, 10] rfl rfl ?_; with_reducible refine aw_region ?_) | ((with_reducible refine isA_call ?_); (first | refine zA ?_ | refine zN ?_); (first | refine c0 (h1) ?_ | refine c0 (h2) ?_ | refine c0 (h3) ?_ | refine c1 (h3) ?_)) | refine stA ?_ | (refine hK _ _ _ _ ?_; clear hK hX K) | (refine hX _ _ _ _ _ (by simp) ?_; clear hK hX K))
    refine retK_mk zio (by exact ⟨rm_idle, rm_idle_b, trivial⟩) rfl (ResL.two (ResA.tmp rfl) (ResA.tmp rfl)) (out_t (frzl_cons zfz (frzl_cons zfz frzl_nil)))
  · obtain rfl : n = 0 := by omega
    obtain rfl : l = [] := List.eq_nil_of_length_eq_zero hn
    refine AC.split0 (xs := [_]) (ys := [_, _]) fun A k hk2 => ?_
    have h1 := AC.args h1 (cvl_cons cv_rfl (cvl_cons (cv_v0 (A := A) hk2) cvl_nil))
    cases A with
    | none =>
      have h3 := clone_none k
      refine ac_enter tabOk (sz := 56) Tryz.func64 rfl (by rw [Tryz.ntmps64]; rfl) ?_
      repeat' (first | ((with_reducible refine aw_seqk ?_); intro K hK hX) | ((with_reducible refine isC_reg ?_); refine aw_prune [0, 1, 2, 3, 4, 6, 8, 9, 10] rfl rfl ?_; with_reducible refine aw_region ?_) | ((with_reducible refine isA_call ?_); (first | refine zA ?_ | refine zN ?_); (first | refine c0 (h1) ?_ | refine c0 (h2) ?_ | refine c0 (h3) ?_ | refine c1 (h3) ?_)) | refine stA ?_ | (refine hK _ _ _ _ ?_; clear hK hX K) | (refine hX _ _ _ _ _ (by simp) ?_; clear hK hX K))
      refine retK_mk zio (by exact ⟨rm_idle, rm_idle_b, trivial⟩) rfl (ResL.two (ResA.tmp rfl) (ResA.tmp rfl)) (out_t (frzl_cons zfz (frzl_cons zfz frzl_nil)))
    | some b =>
      have h3 := clone_some b k
      refine ac_enter tabOk (sz := 56) Tryz.func64 rfl (by rw [Tryz.ntmps64]; rfl) ?_
      repeat' (first | ((with_reducible refine aw_seqk ?_); intro K hK hX) | ((with_reducible refine isC_reg ?_); refine aw_prune [0, 1, 2, 3, 4, 6, 8, 9, 10] rfl rfl ?_; with_reducible refine aw_region ?_) | ((with_reducible refine isA_call ?_); (first | refine zA ?_ | refine zN ?_); (first | refine c0 (h1) ?_ | refine c0 (h2) ?_ | refine c0 (h3) ?_ | refine c1 (h3) ?_)) | refine stA ?_ | (refine hK _ _ _ _ ?_; clear hK hX K) | (refine hX _ _ _ _ _ (by simp) ?_; clear hK hX K))
      refine retK_mk zio (by exact ⟨rm_idle, rm_idle_b, trivial⟩) rfl (ResL.two (ResA.tmp rfl) (ResA.tmp rfl)) (out_t (frzl_cons zfz (frzl_cons zfz frzl_nil)))
theorem mer_bad (s : Sk) (X Y : CV) (b1 b2 : Bool) (h1 : AC Tryz.prog 22 [.agg s.c, X] (.c (bv b1)) [] 0) (h2 : AC Tryz.prog 22 [.agg s.c, Y] (.c (bv b2)) [] 0) (hb : b1 = false ∨ b2 = false) : AC Tryz.prog 73 [.agg s.c, X, Y] (.tup [.c (.sl 1 0 (intc .i64 [])), .c (iv 1)]) [] 0 := by
  obtain ⟨nm, sr, col, kd, w, d⟩ := s
  simp only [Sk.c] at *
  cases b1 with
  | false =>
    refine ac_enter tabOk (sz := 70) Tryz.func73 rfl (by rw [Tryz.ntmps73]; rfl) ?_
    repeat' (first | ((with_reducible refine aw_seqk ?_); intro K hK hX) | ((with_reducible refine isC_reg ?_); refine aw_prune [0, 1, 2, 3, 6, 7, 8, 9, 33, 34] rfl rfl ?_; with_reducible refine aw_region ?_) | ((with_reducible refine isC_draw ?_); refine aw_prune [0, 1, 2, 3, 6, 7, 8, 9, 33, 34] rfl rfl ?_; refine aw_drwF [] ?_) | ((first | with_reducible refine isA_call ?_ | with_reducible refine isD_call ?_); (first | refine zA ?_ | refine zN ?_ | refine zD ?_); (first | refine c0 (h1) ?_ | refine c0 (h2) ?_)) | refine stA ?_ | refine stD ?_ | (refine hK _ _ _ _ ?_; clear hK hX K) | (refine hX _ _ _ _ _ (by simp) ?_; clear hK hX K))
    refine retK_mk zio (by exact ⟨me_idle, me_idle_b, trivial⟩) rfl (ResL.two (ResA.tmp rfl) (ResA.tmp rfl)) (out_t (frzl_cons zfz (frzl_cons zfz frzl_nil)))
  | true =>
    cases b2 with
    | false =>
      refine ac_enter tabOk (sz := 70) Tryz.func73 rfl (by rw [Tryz.ntmps73]; rfl) ?_
      repeat' (first | ((with_reducible refine aw_seqk ?_); intro K hK hX) | ((with_reducible refine isC_reg ?_); refine aw_prune [0, 1, 2, 3, 6, 7, 8, 9, 33, 34] rfl rfl ?_; with_reducible refine aw_region ?_) | ((with_reducible refine isC_draw ?_); refine aw_prune [0, 1, 2, 3, 6, 7, 8, 9, 33, 34] rfl rfl ?_; refine aw_drwF [] ?_) | ((first | with_reducible refine isA_call ?_ | with_reducible refine isD_call ?_); (first | refine zA ?_ | refine zN ?_ | refine zD ?_); (first | refine c0 (h1) ?_ | refine c0 (h2) ?_)) | refine stA ?_ | refine stD ?_ | (refine hK _ _ _ _ ?_; clear hK hX K) | (refine hX _ _ _ _ _ (by simp) ?_; clear hK hX K))
      refine retK_mk zio (by exact ⟨me_idle, me_idle_b, trivial⟩) rfl (ResL.two (ResA.tmp rfl) (ResA.tmp rfl)) (out_t (frzl_cons zfz (frzl_cons zfz frzl_nil)))
    | true => simp at hb
theorem est_bad (s : Sk) (X : CV) (v : Vl) (h1 : AC Tryz.prog 22 [.agg s.c, X] (.c (bv false)) [] 0) : AC Tryz.prog 65 [.agg s.c, X, .agg v.c] (.c (iv 0)) [] 0 := by
  have h2 := True.intro
  obtain ⟨nm, sr, col, kd, w, d⟩ := s
  obtain ⟨a, m, t⟩ := v
  simp only [Sk.c, Vl.c] at *
  refine ac_enter tabOk (sz := 32) Tryz.func65 rfl (by rw [Tryz.ntmps65]; rfl) ?_
  repeat' (first | ((with_reducible refine aw_seqk ?_); intro K hK hX) | ((with_reducible refine isC_reg ?_); refine aw_prune [0, 1, 2, 3, 5, 6] rfl rfl ?_; with_reducible refine aw_region ?_) | ((with_reducible refine isA_call ?_); (first | refine zA ?_ | refine zN ?_); (first | refine c0 (h1) ?_ | refine c0 (h2) ?_)) | refine stA ?_ | (refine hK _ _ _ _ ?_; clear hK hX K) | (refine hX _ _ _ _ _ (by simp) ?_; clear hK hX K))
  refine retK_mk zio (by exact ⟨es_idle, es_idle_b, trivial⟩) rfl (ResL.one (ResA.tmp rfl)) zou
theorem est_zero (s : Sk) (X : CV) (v : Vl) (b : Bool) (h1 : AC Tryz.prog 22 [.agg s.c, X] (.c (bv true)) [] 0) (h2 : AC Tryz.prog 123 [.agg v.c] (.c (bv b)) [] 0) (hk : s.kd ≠ 2) (hz : v.k = 0 ∨ b = false) : AC Tryz.prog 65 [.agg s.c, X, .agg v.c] (.c (iv 0)) [] 0 := by
  obtain ⟨nm, sr, col, kd, w, d⟩ := s
  obtain ⟨a, m, t⟩ := v
  simp only [Sk.c, Vl.c] at *
  by_cases h0 : a = 0
  · subst h0; clear hz
    refine ac_enter tabOk (sz := 32) Tryz.func65 rfl (by rw [Tryz.ntmps65]; rfl) ?_
    repeat' (first | ((with_reducible refine aw_seqk ?_); intro K hK hX) | ((with_reducible refine isC_reg ?_); refine aw_prune [0, 1, 2, 3, 5, 6] rfl rfl ?_; with_reducible refine aw_region ?_) | ((with_reducible refine isA_call ?_); (first | refine zA ?_ | refine zN ?_); (first | refine c0 (h1) ?_ | refine c0 (h2) ?_)) | refine stA ?_ | (refine hK _ _ _ _ ?_; clear hK hX K) | (refine hX _ _ _ _ _ (by simp) ?_; clear hK hX K))
    refine retK_mk zio (by exact ⟨es_idle, es_idle_b, trivial⟩) rfl (ResL.one (ResA.tmp rfl)) zou
  · have : b = false := hz.resolve_left h0
    subst this; clear hz
    refine ac_enter tabOk (sz := 32) Tryz.func65 rfl (by rw [Tryz.ntmps65]; rfl) ?_
    repeat' (first | ((with_reducible refine aw_seqk ?_); intro K hK hX) | ((with_reducible refine isC_reg ?_); refine aw_prune [0, 1, 2, 3, 5, 6] rfl rfl ?_; with_reducible refine aw_region ?_) | ((with_reducible refine isA_call ?_); (first | refine zA ?_ | refine zN ?_); (first | refine c0 (h1) ?_ | refine c0 (h2) ?_)) | refine stA ?_ | (refine hK _ _ _ _ ?_; clear hK hX K) | (refine hX _ _ _ _ _ (by simp) ?_; clear hK hX K))
    refine retK_mk zio (by exact ⟨es_idle, es_idle_b, trivial⟩) rfl (ResL.one (ResA.tmp rfl)) zou
end Go.Proofs.YtccnhpaldmjkbaaGreat
/-
  Add, Remove and Merge of the program where the result would be too great or too small (walk).
-/
namespace Go.Proofs.YtccnhpaldmjkbaaGreat
open Go Go.RowKit Go.Av
set_option maxRecDepth 100000
attribute [local irreducible] Still Adds AWL AW Drw DrwE EStep AC AWR Weak Frz Src RetK Out InK ItK AsK RdK RetT OutT ACT ACS RetS ACP RetP
set_option maxHeartbeats 8000000 in
theorem add_over (nm sr : List UInt8) (col kd : Int) (w d : Nat) (v : Vl) (l : List Int) (n : Nat) (c : Int) (hn : l.length = n) (hnn : n ≤ 1000000) (hv : valC ⟨nm, sr, col, kd, w, d⟩ l) (hwd : n = w * d) (ho : okP v) (hz : v.k ≠ 0) (hc1 : 0 < c) (hc2 : c ≤ 262144) (hv2 : ¬ valC ⟨nm, sr, col, kd, w, d⟩ (addN kd w v c l d)) : AC Tryz.prog 69 [.agg [sv nm, sv sr, iv col, iv kd, iv w, iv d], .sl 1 n (intc .i64 l), .agg v.c, iv c] (.tup [.c (.sl 1 0 (intc .i64 [])), .c (iv 9)]) [] 0 := by
  have hil : (intc .i64 l).length = n := by rw [intc_length, hn]
  obtain ⟨⟨f1, f2, f3, f4, f5, f6⟩, f7, f8, f9⟩ := id hv
  simp only at f1 f2 f3 f4 f5 f6 f7 f8
  have hp : 0 < n := by rw [hwd]; exact Nat.mul_pos (by omega) (by omega)
  have h1 := valc_ok ⟨nm, sr, col, kd, w, d⟩ l n hn f7 (by simp only [maxLen]; omega)
  have : ∀ i : Decidable (valC ⟨nm, sr, col, kd, w, d⟩ l), @decide _ i = true := fun i => @decide_eq_true _ i hv
  rw [this] at h1
  have h2 := valid_ok v
  rw [okV_t ho] at h2
  have h3 := clone64_ok l n hn hp hnn
  have had : ∀ j, (addN kd w v c l j).length = n := fun j => by rw [addN_length, hn]
  have h5 := valc_ok ⟨nm, sr, col, kd, w, d⟩ (addN kd w v c l d) n (had d) f7 (by simp only [maxLen]; omega)
  have : ∀ i : Decidable (valC ⟨nm, sr, col, kd, w, d⟩ (addN kd w v c l d)), @decide _ i = false := fun i => @decide_eq_false _ i hv2
  rw [this] at h5
  have hpl := fun (row : Nat) (h : row < 256) => place_ok nm sr col kd w d v row (by omega) (by omega) h
  have hlt2 : ∀ j, j < d → placeV w v j < n := fun j h => by rw [hwd]; exact placeV_lt v (by omega) h
  have hap : ∀ j, addN kd w v c l (j + 1) = putP kd (addN kd w v c l j) (placeV w v j) c := fun j => rfl
  have hin : inB l 1073741824 := fun x hx => by
    have := f9 x hx
    unfold okX limZ at this
    simp only at this
    split at this <;> omega
  have hai : ∀ j, j ≤ d → inB (addN kd w v c l j) 10000000000000 := fun j hj => by
    have h1 := addN_inB (kd := kd) (w := w) (v := v) hin (by omega) (show 0 ≤ c by omega) j
    refine inB_mono h1 ?_
    have : (j : Int) * (c + 1) ≤ 8 * 262145 := Int.mul_le_mul (by omega) (by omega) (by omega) (by omega)
    omega
  have ha0 : l = addN kd w v c l 0 := rfl
  generalize placeV w v = pl at hpl hlt2 hap
  generalize addN kd w v c l = ad at hap had hai ha0 h5 hv2 ⊢
  have hdl := had d
  have hdi : (intc .i64 (ad d)).length = n := by rw [intc_length, hdl]
  obtain ⟨a, m, b⟩ := v
  simp only [Vl.c, Sk.c] at *
  have hz' : a ≠ 0 := hz
  clear hz hv hv2 this hin f9
  refine ac_enter tabOk (sz := 58) Tryz.func69 rfl (by rw [Tryz.ntmps69]; rfl) ?_
  repeat' (first | ((with_reducible refine aw_seqk ?_); intro K hK hX) | ((with_reducible refine isC_reg ?_); refine aw_prune [0, 1, 2, 3, 4, 6, 8, 9, 10, 11] rfl rfl ?_; with_reducible refine aw_region ?_) | ((with_reducible refine isC_draw ?_); refine aw_prune [0, 1, 2, 3, 4, 6, 8, 9, 10, 11] rfl rfl ?_; refine aw_drwF [121] ?_) | ((first | with_reducible refine isA_call ?_ | with_reducible refine isD_call ?_); (first | refine zA ?_ | refine zN ?_ | refine zD ?_); (first | refine c0 (h1) ?_ | refine c0 (h2) ?_ | refine c1 (h3) ?_)) | ((first | with_reducible refine isA_call ?_ | with_reducible refine isA_callv ?_); refine awl_inl tabOk [0, 1, 2, 3, 4, 5, 6, 7, 8, 9, 10, 11, 12, 13, 14, 15, 16, 17, 18, 19, 20, 21, 22, 23, 24, 25, 26, 27, 28, 29, 30, 31, 32, 33, 34, 35, 36, 37, 38, 39, 40, 41, 42, 43, 44, 45, 46, 47, 48, 49, 50, 51, 52, 53, 54, 55, 56, 57] g_none rfl rfl zby Tryz.func121 rfl rfl rfl (szf := 34) (by rw [Tryz.ntmps121]; rfl) rfl ?_) | refine stA ?_ | refine stD ?_ | (refine hK _ _ _ _ ?_; clear hK hX K) | (refine hX _ _ _ _ _ (by simp) ?_; clear hK hX K) | (first | refine inK_some zio ztr rfl rfl ResL.none ?_ | refine inK_none zio ztr rfl rfl ResL.none ?_))
  refine aw_loopo [8, 9, 11] [2] rfl rfl (fun j : Nat => [(11, .c (iv j))]) (fun j => [(2, .row 2 (intc .i64 (ad j)))]) (fun j => j ≤ d) (fun j => d - j) 0 (by omega) (by refine weak_mk rfl ?_ ?_ rfl <;> (repeat' (first | exact weakE_nil | exact weakH_nil | refine weakE_cons rfl (by first | rfl | (exact congrArg (fun x => AObj.row 2 (intc .i64 x)) ha0) | exact zeq) rfl ?_ | refine weakH_cons rfl (by first | rfl | (exact congrArg (fun x => AObj.row 2 (intc .i64 x)) ha0) | exact zeq) rfl ?_))) ?_
  intro j hj K hK hX
  have hjl := had j
  have hji : (intc .i64 (ad j)).length = n := by rw [intc_length, hjl]
  by_cases hjd : j < d
  · have hplj := hpl j (by omega)
    have hpj := hlt2 j hjd
    have hput := hap j
    have hbj := getD_inB (hai j hj) (by decide) (pl j)
    have hgt := intc_at (getD_at (l := ad j) (i := pl j) (by omega))
    unfold putP at hput
    generalize pl j = p at hplj hpj hput hbj hgt
    clear hpl hlt2 hap had hai ha0 h1 h2 h3 h5
    by_cases k0 : kd = 0
    · rw [if_pos k0] at hput
      generalize (ad j).getD p 0 = g at hput hbj hgt
      have hset : (intc .i64 (ad j)).set (0 + p * 1) (iv (g + c)) = intc .i64 (ad (j + 1)) := by rw [Nat.zero_add, Nat.mul_one, hput, intc_set]
      repeat' (first | ((with_reducible refine aw_seqk ?_); intro K hK hX) | ((with_reducible refine isC_reg ?_); refine aw_prune [0, 1, 2, 3, 4, 6, 8, 9, 10, 11] rfl rfl ?_; with_reducible refine aw_region ?_) | ((with_reducible refine isC_draw ?_); refine aw_prune [0, 1, 2, 3, 4, 6, 8, 9, 10, 11] rfl rfl ?_; refine aw_drwF [121] ?_) | ((first | with_reducible refine isA_call ?_ | with_reducible refine isD_call ?_); (first | refine zA ?_ | refine zN ?_ | refine zD ?_); (first | refine c0 (hplj) ?_)) | ((first | with_reducible refine isA_call ?_ | with_reducible refine isA_callv ?_); refine awl_inl tabOk [0, 1, 2, 3, 4, 5, 6, 7, 8, 9, 10, 11, 12, 13, 14, 15, 16, 17, 18, 19, 20, 21, 22, 23, 24, 25, 26, 27, 28, 29, 30, 31, 32, 33, 34, 35, 36, 37, 38, 39, 40, 41, 42, 43, 44, 45, 46, 47, 48, 49, 50, 51, 52, 53, 54, 55, 56, 57] g_none rfl rfl zby Tryz.func121 rfl rfl rfl (szf := 34) (by rw [Tryz.ntmps121]; rfl) rfl ?_) | ((first | ((with_reducible refine isA_any ?_); refine xA ?_) | ((with_reducible refine isDk_any ?_); refine xD ?_)); (first | ((with_reducible refine e_load ?_); (first | refine ex_i (s_load1 tabOk rfl rfl rfl rfl (by (rw [Nat.zero_add, Nat.mul_one]; exact hgt))) ?_ | refine ex_i (s_load1r tabOk rfl rfl rfl rfl (by (rw [Nat.zero_add, Nat.mul_one]; exact hgt))) ?_ | refine ex_i (s_load1i tabOk rfl rfl rfl (by (rw [Nat.zero_add, Nat.mul_one]; exact hgt))) ?_)) | ((with_reducible refine e_ix ?_); (first | refine ex_i (s_ixV1 tabOk rfl rfl zcj rfl rfl rfl rfl rfl zle (by (rw [Nat.zero_add, Nat.mul_one]; exact hgt))) ?_ | refine ex_i (s_ixStr tabOk rfl rfl zcj rfl rfl (by (rw [Nat.zero_add, Nat.mul_one]; exact hgt))) ?_)))) | ((with_reducible refine isA_store ?_); (refine awl_store1r tabOk g_none rfl rfl rfl rfl rfl rfl (by first | omega | exact Nat.le_of_ble_eq_true rfl | omega | (simp <;> omega)) ?_)) | refine stA ?_ | refine stD ?_ | (refine hK _ _ _ _ ?_; clear hK hX K) | (refine hX _ _ _ _ _ (by simp) ?_; clear hK hX K) | (first | refine inK_some zio ztr rfl rfl ResL.none ?_ | refine inK_none zio ztr rfl rfl ResL.none ?_))
      exact ⟨j + 1, by omega, by omega, (by refine weak_mk rfl ?_ ?_ rfl <;> (repeat' (first | exact weakE_nil | exact weakH_nil | refine weakE_cons rfl (by first | rfl | (exact congrArg (AObj.row 2) hset) | exact zeq) rfl ?_ | refine weakH_cons rfl (by first | rfl | (exact congrArg (AObj.row 2) hset) | exact zeq) rfl ?_)))⟩
    · rw [if_neg k0] at hput
      have hset : (intc .i64 (ad j)).set (0 + p * 1) (iv 1) = intc .i64 (ad (j + 1)) := by rw [Nat.zero_add, Nat.mul_one, hput, intc_set]
      repeat' (first | ((with_reducible refine aw_seqk ?_); intro K hK hX) | ((with_reducible refine isC_reg ?_); refine aw_prune [0, 1, 2, 3, 4, 6, 8, 9, 10, 11] rfl rfl ?_; with_reducible refine aw_region ?_) | ((with_reducible refine isC_draw ?_); refine aw_prune [0, 1, 2, 3, 4, 6, 8, 9, 10, 11] rfl rfl ?_; refine aw_drwF [121] ?_) | ((first | with_reducible refine isA_call ?_ | with_reducible refine isD_call ?_); (first | refine zA ?_ | refine zN ?_ | refine zD ?_); (first | refine c0 (hplj) ?_)) | ((first | with_reducible refine isA_call ?_ | with_reducible refine isA_callv ?_); refine awl_inl tabOk [0, 1, 2, 3, 4, 5, 6, 7, 8, 9, 10, 11, 12, 13, 14, 15, 16, 17, 18, 19, 20, 21, 22, 23, 24, 25, 26, 27, 28, 29, 30, 31, 32, 33, 34, 35, 36, 37, 38, 39, 40, 41, 42, 43, 44, 45, 46, 47, 48, 49, 50, 51, 52, 53, 54, 55, 56, 57] g_none rfl rfl zby Tryz.func121 rfl rfl rfl (szf := 34) (by rw [Tryz.ntmps121]; rfl) rfl ?_) | ((with_reducible refine isA_store ?_); (refine awl_store1r tabOk g_none rfl rfl rfl rfl rfl rfl (by first | omega | exact Nat.le_of_ble_eq_true rfl | omega | (simp <;> omega)) ?_)) | refine stA ?_ | refine stD ?_ | (refine hK _ _ _ _ ?_; clear hK hX K) | (refine hX _ _ _ _ _ (by simp) ?_; clear hK hX K) | (first | refine inK_some zio ztr rfl rfl ResL.none ?_ | refine inK_none zio ztr rfl rfl ResL.none ?_))
      exact ⟨j + 1, by omega, by omega, (by refine weak_mk rfl ?_ ?_ rfl <;> (repeat' (first | exact weakE_nil | exact weakH_nil | refine weakE_cons rfl (by first | rfl | (exact congrArg (AObj.row 2) hset) | exact zeq) rfl ?_ | refine weakH_cons rfl (by first | rfl | (exact congrArg (AObj.row 2) hset) | exact zeq) rfl ?_)))⟩
  · have hjd2 : j = d := by omega
    rw [hjd2] at hji ⊢
    clear hpl hlt2 hap had hai ha0 h1 h2 h3
    repeat' (first | ((with_reducible refine aw_seqk ?_); intro K hK hX) | ((with_reducible refine isC_reg ?_); refine aw_prune [0, 1, 2, 3, 4, 6, 8, 9, 10, 11] rfl rfl ?_; with_reducible refine aw_region ?_) | ((with_reducible refine isC_draw ?_); refine aw_prune [0, 1, 2, 3, 4, 6, 8, 9, 10, 11] rfl rfl ?_; refine aw_drwF [121] ?_) | ((first | with_reducible refine isA_call ?_ | with_reducible refine isD_call ?_); (first | refine wA ?_ | refine wN ?_ | refine wD ?_); (first | refine cF (h5) ?_)) | ((first | with_reducible refine isA_call ?_ | with_reducible refine isA_callv ?_); refine awl_inl tabOk [0, 1, 2, 3, 4, 5, 6, 7, 8, 9, 10, 11, 12, 13, 14, 15, 16, 17, 18, 19, 20, 21, 22, 23, 24, 25, 26, 27, 28, 29, 30, 31, 32, 33, 34, 35, 36, 37, 38, 39, 40, 41, 42, 43, 44, 45, 46, 47, 48, 49, 50, 51, 52, 53, 54, 55, 56, 57] g_none rfl rfl zby Tryz.func121 rfl rfl rfl (szf := 34) (by rw [Tryz.ntmps121]; rfl) rfl ?_) | refine stA ?_ | refine stD ?_ | (refine hK _ _ _ _ ?_; clear hK hX K) | (refine hX _ _ _ _ _ (by simp) ?_; clear hK hX K) | (first | refine inK_some zio ztr rfl rfl ResL.none ?_ | refine inK_none zio ztr rfl rfl ResL.none ?_))
    refine retK_mk zio (by exact ⟨ad_idle, ad_idle_b, trivial⟩) rfl (ResL.two (ResA.tmp rfl) (ResA.tmp rfl)) (out_t (frzl_cons zfz (frzl_cons zfz frzl_nil)))
set_option maxHeartbeats 8000000 in
theorem merge_over (nm sr : List UInt8) (col kd : Int) (w d : Nat) (a b : List Int) (n : Nat) (hn : a.length = n) (hm : b.length = n) (hnn : n ≤ 1000000) (hva : valC ⟨nm, sr, col, kd, w, d⟩ a) (hvb : valC ⟨nm, sr, col, kd, w, d⟩ b) (hvm : ¬ valC ⟨nm, sr, col, kd, w, d⟩ (mergeK kd a b)) : AC Tryz.prog 73 [.agg [sv nm, sv sr, iv col, iv kd, iv w, iv d], .sl 1 n (intc .i64 a), .sl 1 n (intc .i64 b)] (.tup [.c (.sl 1 0 (intc .i64 [])), .c (iv 9)]) [] 0 := by
  have hal : (intc .i64 a).length = n := by rw [intc_length, hn]
  have hbl : (intc .i64 b).length = n := by rw [intc_length, hm]
  obtain ⟨f7, fa⟩ := And.intro hva.2.1 hva.2.2.2
  have fb := hvb.2.2.2
  simp only at f7 fa fb
  have h1 := valc_ok ⟨nm, sr, col, kd, w, d⟩ a n hn f7 (by simp only [maxLen]; omega)
  have : ∀ i : Decidable (valC ⟨nm, sr, col, kd, w, d⟩ a), @decide _ i = true := fun i => @decide_eq_true _ i hva
  rw [this] at h1
  have h2 := valc_ok ⟨nm, sr, col, kd, w, d⟩ b n hm f7 (by simp only [maxLen]; omega)
  have : ∀ i : Decidable (valC ⟨nm, sr, col, kd, w, d⟩ b), @decide _ i = true := fun i => @decide_eq_true _ i hvb
  rw [this] at h2
  have hml := mergeK_length (kd := kd) hn hm
  have h5 := valc_ok ⟨nm, sr, col, kd, w, d⟩ (mergeK kd a b) n hml f7 (by simp only [maxLen]; omega)
  have : ∀ i : Decidable (valC ⟨nm, sr, col, kd, w, d⟩ (mergeK kd a b)), @decide _ i = false := fun i => @decide_eq_false _ i hvm
  rw [this] at h5
  have hat := fun {i : Nat} {x y : Int} (h : a[i]? = some x) (k : b[i]? = some y) => mergeK_at (kd := kd) h k
  generalize mergeK kd a b = M at *
  obtain ⟨Z, hZ⟩ : ∃ Z, List.replicate n (0 : Int) = Z := ⟨_, rfl⟩
  have hZl : Z.length = n := by rw [← hZ, List.length_replicate]
  have hz0 : zc [Value.int .i64 0] n = intc .i64 (M.take 0 ++ Z.drop 0) := by rw [zc_int, hZ]; rfl
  have hzn : M.take n ++ Z.drop n = M := by rw [List.take_of_length_le (by omega), List.drop_eq_nil_of_le (by omega), List.append_nil]
  simp only [Sk.c] at h1 h2 h5
  clear hva hvb hvm this
  refine ac_enter tabOk (sz := 70) Tryz.func73 rfl (by rw [Tryz.ntmps73]; rfl) ?_
  repeat' (first | ((with_reducible refine aw_seqk ?_); intro K hK hX) | ((with_reducible refine isC_reg ?_); refine aw_prune [0, 1, 2, 3, 6, 7, 8, 9, 33, 34] rfl rfl ?_; with_reducible refine aw_region ?_) | ((with_reducible refine isC_draw ?_); refine aw_prune [0, 1, 2, 3, 6, 7, 8, 9, 33, 34] rfl rfl ?_; refine aw_drwF [] ?_) | ((first | with_reducible refine isA_call ?_ | with_reducible refine isD_call ?_); (first | refine zA ?_ | refine zN ?_ | refine zD ?_); (first | refine c0 (h1) ?_ | refine c0 (h2) ?_)) | refine stA ?_ | refine stD ?_ | (refine hK _ _ _ _ ?_; clear hK hX K) | (refine hX _ _ _ _ _ (by simp) ?_; clear hK hX K))
  refine aw_loopo [8, 9, 32, 34] [1] rfl rfl (fun i : Nat => [(8, .own 1 0 n 1 true), (34, .c (iv i))]) (fun i => [(1, .row 2 (intc .i64 (M.take i ++ Z.drop i)))]) (fun i => i ≤ n) (fun i => n - i) 0 (Nat.zero_le _) (by refine weak_mk rfl ?_ ?_ rfl <;> (repeat' (first | exact weakE_nil | exact weakH_nil | refine weakE_cons rfl (by first | rfl | (exact congrArg (AObj.row 2) hz0) | exact zeq) rfl ?_ | refine weakH_cons rfl (by first | rfl | (exact congrArg (AObj.row 2) hz0) | exact zeq) rfl ?_))) ?_
  intro i hi K hK hX
  have hrl := ts_length (i := i) hml hZl
  have hri : (intc .i64 (M.take i ++ Z.drop i)).length = n := by rw [ic_len, hrl]
  by_cases hlt : i < n
  · obtain ⟨x, hx⟩ : ∃ x, a[i]? = some x := ⟨a[i]'(by omega), List.getElem?_eq_getElem _⟩
    obtain ⟨y, hy⟩ : ∃ y, b[i]? = some y := ⟨b[i]'(by omega), List.getElem?_eq_getElem _⟩
    have hxa := ic_at hx
    have hyb := ic_at hy
    have hts := ts_set (Z := Z) (hat hx hy) (by omega)
    have bx := fa x (List.mem_of_getElem? hx)
    have by' := fb y (List.mem_of_getElem? hy)
    unfold okX limZ at bx by'
    generalize M.take i ++ Z.drop i = W at *
    clear hat hz0 hzn h1 h2 h5 fa fb hx hy
    by_cases k0 : kd = 0
    · rw [if_pos k0] at bx by' hts
      have hset : (intc .i64 W).set (0 + i * 1) (iv (x + y)) = intc .i64 (M.take (i + 1) ++ Z.drop (i + 1)) := by rw [Nat.zero_add, Nat.mul_one, ← ic_set, hts]
      repeat' (first | ((with_reducible refine aw_seqk ?_); intro K hK hX) | ((with_reducible refine isC_reg ?_); refine aw_prune [0, 1, 2, 3, 6, 7, 8, 9, 33, 34] rfl rfl ?_; with_reducible refine aw_region ?_) | ((with_reducible refine isC_draw ?_); refine aw_prune [0, 1, 2, 3, 6, 7, 8, 9, 33, 34] rfl rfl ?_; refine aw_drwF [] ?_) | ((first | ((with_reducible refine isA_any ?_); refine xA ?_) | ((with_reducible refine isDk_any ?_); refine xD ?_)); (first | ((with_reducible refine e_load ?_); (first | refine ex_i (s_load1 tabOk rfl rfl rfl rfl (by first | (rw [Nat.mul_one]; exact hxa) | (rw [Nat.mul_one]; exact hyb))) ?_ | refine ex_i (s_load1r tabOk rfl rfl rfl rfl (by first | (rw [Nat.mul_one]; exact hxa) | (rw [Nat.mul_one]; exact hyb))) ?_ | refine ex_i (s_load1i tabOk rfl rfl rfl (by first | (rw [Nat.mul_one]; exact hxa) | (rw [Nat.mul_one]; exact hyb))) ?_)) | ((with_reducible refine e_ix ?_); (first | refine ex_i (s_ixV1 tabOk rfl rfl zcj rfl rfl rfl rfl rfl zle (by first | (rw [Nat.mul_one]; exact hxa) | (rw [Nat.mul_one]; exact hyb))) ?_ | refine ex_i (s_ixStr tabOk rfl rfl zcj rfl rfl (by first | (rw [Nat.mul_one]; exact hxa) | (rw [Nat.mul_one]; exact hyb))) ?_)))) | ((with_reducible refine isA_store ?_); (refine awl_store1r tabOk g_none rfl rfl rfl rfl rfl rfl (by first | omega | exact Nat.le_of_ble_eq_true rfl | omega | (simp <;> omega)) ?_)) | refine stA ?_ | refine stD ?_ | (refine hK _ _ _ _ ?_; clear hK hX K) | (refine hX _ _ _ _ _ (by simp) ?_; clear hK hX K))
      exact ⟨i + 1, by omega, by omega, (by refine weak_mk rfl ?_ ?_ rfl <;> (repeat' (first | exact weakE_nil | exact weakH_nil | refine weakE_cons rfl (by first | rfl | (exact congrArg (AObj.row 2) hset) | exact zeq) rfl ?_ | refine weakH_cons rfl (by first | rfl | (exact congrArg (AObj.row 2) hset) | exact zeq) rfl ?_)))⟩
    · rw [if_neg k0] at bx by' hts
      have hset : (intc .i64 W).set (0 + i * 1) (iv (if x < y then y else x)) = intc .i64 (M.take (i + 1) ++ Z.drop (i + 1)) := by rw [Nat.zero_add, Nat.mul_one, ← ic_set, hts]
      repeat' (first | ((with_reducible refine aw_seqk ?_); intro K hK hX) | ((with_reducible refine isC_reg ?_); refine aw_prune [0, 1, 2, 3, 6, 7, 8, 9, 33, 34] rfl rfl ?_; with_reducible refine aw_region ?_) | ((with_reducible refine isC_draw ?_); refine aw_prune [0, 1, 2, 3, 6, 7, 8, 9, 33, 34] rfl rfl ?_; refine aw_drwF [] ?_) | ((first | ((with_reducible refine isA_any ?_); refine xA ?_) | ((with_reducible refine isDk_any ?_); refine xD ?_)); (first | ((with_reducible refine e_load ?_); (first | refine ex_i (s_load1 tabOk rfl rfl rfl rfl (by first | (rw [Nat.mul_one]; exact hxa) | (rw [Nat.mul_one]; exact hyb))) ?_ | refine ex_i (s_load1r tabOk rfl rfl rfl rfl (by first | (rw [Nat.mul_one]; exact hxa) | (rw [Nat.mul_one]; exact hyb))) ?_ | refine ex_i (s_load1i tabOk rfl rfl rfl (by first | (rw [Nat.mul_one]; exact hxa) | (rw [Nat.mul_one]; exact hyb))) ?_)) | ((with_reducible refine e_ix ?_); (first | refine ex_i (s_ixV1 tabOk rfl rfl zcj rfl rfl rfl rfl rfl zle (by first | (rw [Nat.mul_one]; exact hxa) | (rw [Nat.mul_one]; exact hyb))) ?_ | refine ex_i (s_ixStr tabOk rfl rfl zcj rfl rfl (by first | (rw [Nat.mul_one]; exact hxa) | (rw [Nat.mul_one]; exact hyb))) ?_)))) | ((with_reducible refine isA_store ?_); (refine awl_store1r tabOk g_none rfl rfl rfl rfl rfl rfl (by first | omega | exact Nat.le_of_ble_eq_true rfl | omega | (simp <;> omega)) ?_)) | refine stA ?_ | refine stD ?_ | (refine hK _ _ _ _ ?_; clear hK hX K) | (refine hX _ _ _ _ _ (by simp) ?_; clear hK hX K))
      exact ⟨i + 1, by omega, by omega, (by refine weak_mk rfl ?_ ?_ rfl <;> (repeat' (first | exact weakE_nil | exact weakH_nil | refine weakE_cons rfl (by first | rfl | (exact congrArg (AObj.row 2) hset) | exact zeq) rfl ?_ | refine weakH_cons rfl (by first | rfl | (exact congrArg (AObj.row 2) hset) | exact zeq) rfl ?_)))⟩
  · have hin : i = n := by omega
    rw [hin] at hri ⊢
    rw [hzn] at hri ⊢
    clear hat hz0 hzn h1 h2 fa fb
    repeat' (first | ((with_reducible refine aw_seqk ?_); intro K hK hX) | ((with_reducible refine isC_reg ?_); refine aw_prune [0, 1, 2, 3, 6, 7, 8, 9, 33, 34] rfl rfl ?_; with_reducible refine aw_region ?_) | ((with_reducible refine isC_draw ?_); refine aw_prune [0, 1, 2, 3, 6, 7, 8, 9, 33, 34] rfl rfl ?_; refine aw_drwF [] ?_) | ((first | with_reducible refine isA_call ?_ | with_reducible refine isD_call ?_); (first | refine wA ?_ | refine wN ?_ | refine wD ?_); (first | refine cF (h5) ?_)) | refine stA ?_ | refine stD ?_ | (refine hK _ _ _ _ ?_; clear hK hX K) | (refine hX _ _ _ _ _ (by simp) ?_; clear hK hX K))
    refine retK_mk zio (by exact ⟨me_idle, me_idle_b, trivial⟩) rfl (ResL.two (ResA.tmp rfl) (ResA.tmp rfl)) (out_t (frzl_cons zfz (frzl_cons zfz frzl_nil)))
set_option maxHeartbeats 8000000 in
theorem rem_less (nm sr : List UInt8) (col : Int) (w d : Nat) (v : Vl) (l : List Int) (n : Nat) (c : Int) (hn : l.length = n) (hnn : n ≤ 1000000) (hv : valC ⟨nm, sr, col, 0, w, d⟩ l) (hwd : n = w * d) (ho : okP v) (hz : v.k ≠ 0) (hc1 : 0 < c) (hc2 : c ≤ 262144) (hle : leastN l w v d < c) : AC Tryz.prog 64 [.agg [sv nm, sv sr, iv col, iv 0, iv w, iv d], .sl 1 n (intc .i64 l), .agg v.c, iv c] (.tup [.c (.sl 1 0 (intc .i64 [])), .c (iv 11)]) [] 0 := by
  have hil : (intc .i64 l).length = n := by rw [intc_length, hn]
  obtain ⟨⟨f1, f2, f3, f4, f5, f6⟩, f7, f8, f9⟩ := id hv
  simp only at f1 f2 f3 f4 f5 f6 f7 f8
  have hp : 0 < n := by rw [hwd]; exact Nat.mul_pos (by omega) (by omega)
  have h1 := valc_ok ⟨nm, sr, col, 0, w, d⟩ l n hn (by simp) (by simp only [maxLen]; omega)
  have : ∀ i : Decidable (valC ⟨nm, sr, col, 0, w, d⟩ l), @decide _ i = true := fun i => @decide_eq_true _ i hv
  rw [this] at h1
  have h2 := valid_ok v
  rw [okV_t ho] at h2
  have h3 := clone64_ok l n hn hp hnn
  have h4 := least_ok nm sr col 0 w d v l n hn (by omega) (by omega) (by omega) (by omega) hwd
  generalize leastN l w v d = le at h4 hle
  obtain ⟨a, m, b⟩ := v
  simp only [Vl.c, Sk.c] at *
  have hz' : a ≠ 0 := hz
  clear hz hv this
  refine ac_enter tabOk (sz := 56) Tryz.func64 rfl (by rw [Tryz.ntmps64]; rfl) ?_
  repeat' (first | ((with_reducible refine aw_seqk ?_); intro K hK hX) | ((with_reducible refine isC_reg ?_); refine aw_prune [0, 1, 2, 3, 4, 6, 8, 9, 10] rfl rfl ?_; with_reducible refine aw_region ?_) | ((with_reducible refine isA_call ?_); (first | refine zA ?_ | refine zN ?_); (first | refine c0 (h1) ?_ | refine c0 (h2) ?_ | refine c1 (h3) ?_ | refine c0 (h4) ?_)) | refine stA ?_ | (refine hK _ _ _ _ ?_; clear hK hX K) | (refine hX _ _ _ _ _ (by simp) ?_; clear hK hX K))
  refine retK_mk zio (by exact ⟨rm_idle, rm_idle_b, trivial⟩) rfl (ResL.two (ResA.tmp rfl) (ResA.tmp rfl)) (out_t (frzl_cons zfz (frzl_cons zfz frzl_nil)))
end Go.Proofs.YtccnhpaldmjkbaaGreat
