/-
  Joined texts: Y6. Lemmas; no statement of a law.
-/
import Derived.Test.YtccnhpaldmjkbaaGreatM23
import Derived.Test.YtccnhpaldmjkbaaGreatM24
set_option linter.unusedSimpArgs false
set_option linter.unusedVariables false
/-
  The law SketchChanges (walk), and its kinds of sketches.
-/
namespace Go.Proofs.YtccnhpaldmjkbaaGreat
open Go Go.RowKit Go.Av
set_option maxRecDepth 100000
theorem eqiz (z : Int) : decide (z = z) = true := decide_eq_true rfl
attribute [local irreducible] Still Adds AWL AW Drw DrwE EStep AC AWR Weak Frz Src RetK Out InK ItK AsK RdK RetT OutT ACT ACS RetS ACP RetP
set_option maxHeartbeats 8000000 in
theorem changes_ok (s : Sk) (l : List Int) (q : Nat) (v : Vl) (c : Int) (hl : l.length = q) (hq : q ≤ 2000) : AC Tryz.prog 28 [.agg s.c, .sl 1 q (intc .i64 l), .agg v.c, iv c] (.c (bv true)) [] 0 := by
  obtain ⟨M1, Q1, z1, m1, k1, h1, h2⟩ := add_both s l q v c hl hq
  obtain ⟨M2, Q2, z2, m2, k2, h3, h4⟩ := rem_both s l q v c hl hq
  obtain ⟨z3, h5, h6⟩ := est_both s l q v hl hq
  have h7 := rsame_t M1 Q1 m1 (by simp only [maxLen]; omega)
  have h8 := rsame_t M2 Q2 m2 (by simp only [maxLen]; omega)
  have hil : (intc .i64 l).length = q := by rw [intc_length, hl]
  have hi1 : (intc .i64 M1).length = Q1 := by rw [intc_length, m1]
  have hi2 : (intc .i64 M2).length = Q2 := by rw [intc_length, m2]
  obtain ⟨nm, sr, col, kd, w, d⟩ := s
  obtain ⟨a, m, t⟩ := v
  simp only [Sk.c, Vl.c] at *
  refine ac_enter tabOk (sz := 78) Tryz.func28 rfl (by rw [Tryz.ntmps28]; rfl) ?_
  repeat' (first | ((with_reducible refine aw_seqk ?_); intro K hK hX) | ((with_reducible refine isC_reg ?_); refine aw_prune [0, 1, 2, 3, 4, 6, 8, 9, 10, 11, 12, 13, 14, 15, 16] rfl rfl ?_; with_reducible refine aw_region ?_) | ((with_reducible refine isC_draw ?_); refine aw_prune [0, 1, 2, 3, 4, 6, 8, 9, 10, 11, 12, 13, 14, 15, 16] rfl rfl ?_; refine aw_drwF [] ?_) | ((first | with_reducible refine isA_call ?_ | with_reducible refine isD_call ?_); (first | refine zA ?_ | refine zN ?_ | refine zD ?_); (first | refine c0 (h1) ?_ | refine c0 (h2) ?_ | refine c0 (h3) ?_ | refine c0 (h4) ?_ | refine c0 (h5) ?_ | refine c0 (h6) ?_ | refine c0 (h7) ?_ | refine c0 (h8) ?_)) | ((first | ((with_reducible refine isA_any ?_); refine xA ?_) | ((with_reducible refine isDk_any ?_); refine xD ?_)); (first | ((with_reducible refine e_bin ?_); (first | refine ex_i (s_cmp rfl rfl rfl (eqiz _)) ?_)))) | refine stA ?_ | refine stD ?_ | (refine hK _ _ _ _ ?_; clear hK hX K) | (refine hX _ _ _ _ _ (by simp) ?_; clear hK hX K))
  refine retK_mk zio ztr rfl (ResL.one (ResA.tmp rfl)) zou
set_option maxHeartbeats 8000000 in
theorem merges_ok (s : Sk) (x y : List Int) (n m : Nat) (hn : x.length = n) (hm : y.length = m) (hnn : n ≤ 2000) (hmm : m ≤ 2000) : AC Tryz.prog 29 [.agg s.c, .sl 1 n (intc .i64 x), .sl 1 m (intc .i64 y)] (.c (bv true)) [] 0 := by
  obtain ⟨M1, Q1, z1, m1, k1, h1, h2⟩ := mer_both s x y n m hn hm hnn hmm
  have h7 := rsame_t M1 Q1 m1 (by simp only [maxLen]; omega)
  have hxl : (intc .i64 x).length = n := by rw [intc_length, hn]
  have hyl : (intc .i64 y).length = m := by rw [intc_length, hm]
  have hi1 : (intc .i64 M1).length = Q1 := by rw [intc_length, m1]
  obtain ⟨nm, sr, col, kd, w, d⟩ := s
  simp only [Sk.c] at *
  refine ac_enter tabOk (sz := 33) Tryz.func29 rfl (by rw [Tryz.ntmps29]; rfl) ?_
  repeat' (first | ((with_reducible refine aw_seqk ?_); intro K hK hX) | ((with_reducible refine isC_reg ?_); refine aw_prune [0, 1, 2, 3, 6, 7, 8, 9, 10] rfl rfl ?_; with_reducible refine aw_region ?_) | ((with_reducible refine isA_call ?_); (first | refine zA ?_ | refine zN ?_); (first | refine c0 (h1) ?_ | refine c0 (h2) ?_ | refine c0 (h7) ?_)) | (((with_reducible refine isA_any ?_); refine xA ?_); (first | ((with_reducible refine e_bin ?_); (first | refine ex_i (s_cmp rfl rfl rfl (eqiz _)) ?_)))) | refine stA ?_ | (refine hK _ _ _ _ ?_; clear hK hX K) | (refine hX _ _ _ _ _ (by simp) ?_; clear hK hX K))
  refine retK_mk zio ztr rfl (ResL.one (ResA.tmp rfl)) zou
set_option maxHeartbeats 8000000 in
theorem schg_walk (l : List Int) (n : Nat) (hn : l.length = n) (hml : n ≤ maxLen) (hb : 8 * n ≤ 140737488355328) (a1 a2 a3 a4 a5 a6 a7 : Int) (x y : Sk) (A B : List En) (na nb : Nat) (hna : A.length = na) (hnb : B.length = nb) (X Y D : CV) (v v' u : Vl) (c k : Int)
    (hv : v.t.length ≤ 200 ∧ v' = v ∨ 200 < v.t.length ∧ v' = Vl.nul)
    (h1 : ACT Tryz.prog 18 72 (tpC l n 0) [] (tpC l n a1) (.agg x.c))
    (h2 : ACT Tryz.prog 14 72 (tpC l n a1) [iv 2, iv 8, bv false] (tpC l n a2) (.sl 2 na (ec A)))
    (h3 : AC Tryz.prog 19 [.agg x.c, .sl 2 na (ec A)] (.tup [.c X, .c (iv 0)]) [] 0)
    (h4 : ACT Tryz.prog 14 72 (tpC l n a2) [iv 2, iv 8, bv false] (tpC l n a3) (.sl 2 nb (ec B)))
    (h5 : AC Tryz.prog 19 [.agg x.c, .sl 2 nb (ec B)] (.tup [.c Y, .c (iv 0)]) [] 0)
    (h6 : ACT Tryz.prog 20 72 (tpC l n a3) [X] (tpC l n a4) D)
    (h7 : ACT Tryz.prog 21 72 (tpC l n a4) [.agg x.c] (tpC l n a5) (.agg y.c))
    (h8 : ACT Tryz.prog 26 72 (tpC l n a5) [] (tpC l n a6) (.agg u.c))
    (h9 : ACT Tryz.prog 27 72 (tpC l n a6) [iv 4] (tpC l n a7) (iv k))
    (g1 : AC Tryz.prog 28 [.agg x.c, X, .agg u.c, iv k] (.c (bv true)) [] 0)
    (g2 : AC Tryz.prog 28 [.agg x.c, X, .agg v'.c, iv c] (.c (bv true)) [] 0)
    (g3 : AC Tryz.prog 28 [.agg x.c, D, .agg u.c, iv k] (.c (bv true)) [] 0)
    (g4 : AC Tryz.prog 28 [.agg y.c, X, .agg u.c, iv k] (.c (bv true)) [] 0)
    (g5 : AC Tryz.prog 28 [.agg x.c, X, .agg u.c, iv 262144] (.c (bv true)) [] 0)
    (e1 : AC Tryz.prog 29 [.agg x.c, X, Y] (.c (bv true)) [] 0)
    (e2 : AC Tryz.prog 29 [.agg x.c, D, Y] (.c (bv true)) [] 0)
    (e3 : AC Tryz.prog 29 [.agg x.c, X, D] (.c (bv true)) [] 0)
    (e4 : AC Tryz.prog 29 [.agg y.c, X, Y] (.c (bv true)) [] 0) :
    AC Tryz.prog 6 [.sl 1 n (intc .i64 l), iv c, .agg v.c] (.c (bv true)) [] 0 := by
  have haw := awake12_ok
  have hil : (intc .i64 l).length = n := by rw [intc_length, hn]
  have hAl : (ec A).length = na * 2 := by rw [ec_length, hna]
  have hBl : (ec B).length = nb * 2 := by rw [ec_length, hnb]
  have hsz := sv_len v.t
  obtain ⟨x1, x2, x3, x4, x5, x6⟩ := x
  obtain ⟨y1, y2, y3, y4, y5, y6⟩ := y
  obtain ⟨u1, u2, u3⟩ := u
  rcases hv with ⟨ht, rfl⟩ | ⟨ht, rfl⟩
  · obtain ⟨v1, v2, v3⟩ := v'
    simp only [Sk.c, Vl.c] at *
    refine ac_enter tabOk (sz := 109) Tryz.func6 rfl (by rw [Tryz.ntmps6]; rfl) ?_
    repeat' (first | ((with_reducible refine aw_seqk ?_); intro K hK hX) | ((with_reducible refine isC_reg ?_); refine aw_prune [0, 1, 2, 5, 6, 7, 8, 9, 11, 13, 14, 15, 16] rfl rfl ?_; with_reducible refine aw_region ?_) | ((with_reducible refine isE_move ?_); refine d_still0 g_none (s_move rfl) ?_) | ((with_reducible refine isC_draw (i := 5) ?_); refine aw_prune [0, 1, 2, 5, 6, 7, 8, 9, 11, 13, 14, 15, 16] rfl rfl ?_; refine aw_drwE [9] ?_) | ((with_reducible refine isC_draw (i := 6) ?_); refine aw_prune [0, 1, 2, 5, 6, 7, 8, 9, 11, 13, 14, 15, 16] rfl rfl ?_; refine aw_drwE [9] ?_) | ((with_reducible refine isC_draw (i := 7) ?_); refine aw_prune [0, 1, 2, 5, 6, 7, 8, 9, 11, 13, 14, 15, 16] rfl rfl ?_; refine aw_drwE [9] ?_) | ((with_reducible refine isC_draw ?_); refine aw_prune [0, 1, 2, 5, 6, 7, 8, 9, 11, 13, 14, 15, 16] rfl rfl ?_; refine aw_drwF [9] ?_) | ((with_reducible refine isA_build ?_); refine awl_fzE (m' := n) (cs' := intc .i64 l) 5 rfl rfl zln (by omega) (by simp) ?_) | ((with_reducible refine isA_call ?_); refine awl_callT (h1) g_none rfl zby rfl rfl rfl rfl zcv rfl ztp ?_) | ((with_reducible refine isE_call ?_); refine d_callT (h1) g_none rfl rfl zby rfl rfl rfl rfl zcv rfl ztp rfl ?_) | ((with_reducible refine isA_call ?_); refine awl_callT (h2) g_none rfl zby rfl rfl rfl rfl zcv rfl ztp ?_) | ((with_reducible refine isE_call ?_); refine d_callT (h2) g_none rfl rfl zby rfl rfl rfl rfl zcv rfl ztp rfl ?_) | ((with_reducible refine isA_call ?_); refine awl_callT (h4) g_none rfl zby rfl rfl rfl rfl zcv rfl ztp ?_) | ((with_reducible refine isE_call ?_); refine d_callT (h4) g_none rfl rfl zby rfl rfl rfl rfl zcv rfl ztp rfl ?_) | ((with_reducible refine isA_call ?_); refine awl_callT (h6) g_none rfl zby rfl rfl rfl rfl zcv rfl ztp ?_) | ((with_reducible refine isE_call ?_); refine d_callT (h6) g_none rfl rfl zby rfl rfl rfl rfl zcv rfl ztp rfl ?_) | ((with_reducible refine isA_call ?_); refine awl_callT (h7) g_none rfl zby rfl rfl rfl rfl zcv rfl ztp ?_) | ((with_reducible refine isE_call ?_); refine d_callT (h7) g_none rfl rfl zby rfl rfl rfl rfl zcv rfl ztp rfl ?_) | ((with_reducible refine isA_call ?_); refine awl_callT (h8) g_none rfl zby rfl rfl rfl rfl zcv rfl ztp ?_) | ((with_reducible refine isE_call ?_); refine d_callT (h8) g_none rfl rfl zby rfl rfl rfl rfl zcv rfl ztp rfl ?_) | ((with_reducible refine isA_call ?_); refine awl_callT (h9) g_none rfl zby rfl rfl rfl rfl zcv rfl ztp ?_) | ((with_reducible refine isE_call ?_); refine d_callT (h9) g_none rfl rfl zby rfl rfl rfl rfl zcv rfl ztp rfl ?_) | ((first | with_reducible refine isA_call ?_ | with_reducible refine isD_call ?_ | with_reducible refine isE_call ?_); (first | refine zA ?_ | refine zN ?_ | refine zD ?_ | refine zE ?_); (first | refine c0 (h3) ?_ | refine c0 (h5) ?_ | refine c0 (g1) ?_ | refine c0 (g2) ?_ | refine c0 (g3) ?_ | refine c0 (g4) ?_ | refine c0 (g5) ?_ | refine c0 (e1) ?_ | refine c0 (e2) ?_ | refine c0 (e3) ?_ | refine c0 (e4) ?_ | refine c0 (haw) ?_)) | ((first | with_reducible refine isA_call ?_ | with_reducible refine isA_callv ?_); refine awl_inl tabOk [0, 1, 2, 3, 4, 5, 6, 7, 8, 9, 10, 11, 12, 13, 14, 15, 16, 17, 18, 19, 20, 21, 22, 23, 24, 25, 26, 27, 28, 29, 30, 31, 32, 33, 34, 35, 36, 37, 38, 39, 40, 41, 42, 43, 44, 45, 46, 47, 48, 49, 50, 51, 52, 53, 54, 55, 56, 57, 58, 59, 60, 61, 62, 63, 64, 65, 66, 67, 68, 69, 70, 71, 72, 73, 74, 75, 76, 77, 78, 79, 80, 81, 82, 83, 84, 85, 86, 87, 88, 89, 90, 91, 92, 93, 94, 95, 96, 97, 98, 99, 100, 101, 102, 103, 104, 105, 106, 107, 108] g_none rfl rfl zby Tryz.func9 rfl rfl rfl (szf := 8) (by rw [Tryz.ntmps9]; rfl) rfl ?_) | ((with_reducible refine isA_store ?_); refine awl_storeA tabOk g_none rfl rfl rfl zpt (by rfl) (by rfl) rfl (Nat.le_of_ble_eq_true rfl) (by rfl) ?_) | ((with_reducible refine isE_store ?_); refine d_storeA tabOk g_none rfl rfl rfl rfl rfl zpt (by rfl) (by rfl) rfl (Nat.le_of_ble_eq_true rfl) (by rfl) rfl ?_) | (refine drwE_end3 (by kernel_rfl) (by kernel_rfl) (by kernel_rfl) (by kernel_rfl) rfl ?_) | refine stA ?_ | refine stD ?_ | refine stE ?_ | (refine hK _ _ _ _ ?_; clear hK hX K) | (refine hX _ _ _ _ _ (by simp) ?_; clear hK hX K) | (first | refine inK_some zio ztr rfl rfl (ResL.one (ResA.tmp rfl)) ?_ | refine inK_none zio ztr rfl rfl (ResL.one (ResA.tmp rfl)) ?_))
    refine retK_mk zio ztr rfl (ResL.one (ResA.tmp rfl)) zou
  · obtain ⟨v1, v2, v3⟩ := v
    simp only [Sk.c, Vl.c, Vl.nul] at *
    refine ac_enter tabOk (sz := 109) Tryz.func6 rfl (by rw [Tryz.ntmps6]; rfl) ?_
    repeat' (first | ((with_reducible refine aw_seqk ?_); intro K hK hX) | ((with_reducible refine isC_reg ?_); refine aw_prune [0, 1, 2, 5, 6, 7, 8, 9, 11, 13, 14, 15, 16] rfl rfl ?_; with_reducible refine aw_region ?_) | ((with_reducible refine isE_move ?_); refine d_still0 g_none (s_move rfl) ?_) | ((with_reducible refine isC_draw (i := 5) ?_); refine aw_prune [0, 1, 2, 5, 6, 7, 8, 9, 11, 13, 14, 15, 16] rfl rfl ?_; refine aw_drwE [9] ?_) | ((with_reducible refine isC_draw (i := 6) ?_); refine aw_prune [0, 1, 2, 5, 6, 7, 8, 9, 11, 13, 14, 15, 16] rfl rfl ?_; refine aw_drwE [9] ?_) | ((with_reducible refine isC_draw (i := 7) ?_); refine aw_prune [0, 1, 2, 5, 6, 7, 8, 9, 11, 13, 14, 15, 16] rfl rfl ?_; refine aw_drwE [9] ?_) | ((with_reducible refine isC_draw ?_); refine aw_prune [0, 1, 2, 5, 6, 7, 8, 9, 11, 13, 14, 15, 16] rfl rfl ?_; refine aw_drwF [9] ?_) | ((with_reducible refine isA_build ?_); refine awl_fzE (m' := n) (cs' := intc .i64 l) 5 rfl rfl zln (by omega) (by simp) ?_) | ((with_reducible refine isA_call ?_); refine awl_callT (h1) g_none rfl zby rfl rfl rfl rfl zcv rfl ztp ?_) | ((with_reducible refine isE_call ?_); refine d_callT (h1) g_none rfl rfl zby rfl rfl rfl rfl zcv rfl ztp rfl ?_) | ((with_reducible refine isA_call ?_); refine awl_callT (h2) g_none rfl zby rfl rfl rfl rfl zcv rfl ztp ?_) | ((with_reducible refine isE_call ?_); refine d_callT (h2) g_none rfl rfl zby rfl rfl rfl rfl zcv rfl ztp rfl ?_) | ((with_reducible refine isA_call ?_); refine awl_callT (h4) g_none rfl zby rfl rfl rfl rfl zcv rfl ztp ?_) | ((with_reducible refine isE_call ?_); refine d_callT (h4) g_none rfl rfl zby rfl rfl rfl rfl zcv rfl ztp rfl ?_) | ((with_reducible refine isA_call ?_); refine awl_callT (h6) g_none rfl zby rfl rfl rfl rfl zcv rfl ztp ?_) | ((with_reducible refine isE_call ?_); refine d_callT (h6) g_none rfl rfl zby rfl rfl rfl rfl zcv rfl ztp rfl ?_) | ((with_reducible refine isA_call ?_); refine awl_callT (h7) g_none rfl zby rfl rfl rfl rfl zcv rfl ztp ?_) | ((with_reducible refine isE_call ?_); refine d_callT (h7) g_none rfl rfl zby rfl rfl rfl rfl zcv rfl ztp rfl ?_) | ((with_reducible refine isA_call ?_); refine awl_callT (h8) g_none rfl zby rfl rfl rfl rfl zcv rfl ztp ?_) | ((with_reducible refine isE_call ?_); refine d_callT (h8) g_none rfl rfl zby rfl rfl rfl rfl zcv rfl ztp rfl ?_) | ((with_reducible refine isA_call ?_); refine awl_callT (h9) g_none rfl zby rfl rfl rfl rfl zcv rfl ztp ?_) | ((with_reducible refine isE_call ?_); refine d_callT (h9) g_none rfl rfl zby rfl rfl rfl rfl zcv rfl ztp rfl ?_) | ((first | with_reducible refine isA_call ?_ | with_reducible refine isD_call ?_ | with_reducible refine isE_call ?_); (first | refine zA ?_ | refine zN ?_ | refine zD ?_ | refine zE ?_); (first | refine c0 (h3) ?_ | refine c0 (h5) ?_ | refine c0 (g1) ?_ | refine c0 (g2) ?_ | refine c0 (g3) ?_ | refine c0 (g4) ?_ | refine c0 (g5) ?_ | refine c0 (e1) ?_ | refine c0 (e2) ?_ | refine c0 (e3) ?_ | refine c0 (e4) ?_ | refine c0 (haw) ?_)) | ((first | with_reducible refine isA_call ?_ | with_reducible refine isA_callv ?_); refine awl_inl tabOk [0, 1, 2, 3, 4, 5, 6, 7, 8, 9, 10, 11, 12, 13, 14, 15, 16, 17, 18, 19, 20, 21, 22, 23, 24, 25, 26, 27, 28, 29, 30, 31, 32, 33, 34, 35, 36, 37, 38, 39, 40, 41, 42, 43, 44, 45, 46, 47, 48, 49, 50, 51, 52, 53, 54, 55, 56, 57, 58, 59, 60, 61, 62, 63, 64, 65, 66, 67, 68, 69, 70, 71, 72, 73, 74, 75, 76, 77, 78, 79, 80, 81, 82, 83, 84, 85, 86, 87, 88, 89, 90, 91, 92, 93, 94, 95, 96, 97, 98, 99, 100, 101, 102, 103, 104, 105, 106, 107, 108] g_none rfl rfl zby Tryz.func9 rfl rfl rfl (szf := 8) (by rw [Tryz.ntmps9]; rfl) rfl ?_) | ((with_reducible refine isA_store ?_); refine awl_storeA tabOk g_none rfl rfl rfl zpt (by rfl) (by rfl) rfl (Nat.le_of_ble_eq_true rfl) (by rfl) ?_) | ((with_reducible refine isE_store ?_); refine d_storeA tabOk g_none rfl rfl rfl rfl rfl zpt (by rfl) (by rfl) rfl (Nat.le_of_ble_eq_true rfl) (by rfl) rfl ?_) | (refine drwE_end3 (by kernel_rfl) (by kernel_rfl) (by kernel_rfl) (by kernel_rfl) rfl ?_) | refine stA ?_ | refine stD ?_ | refine stE ?_ | (refine hK _ _ _ _ ?_; clear hK hX K) | (refine hX _ _ _ _ _ (by simp) ?_; clear hK hX K) | (first | refine inK_some zio ztr rfl rfl (ResL.one (ResA.tmp rfl)) ?_ | refine inK_none zio ztr rfl rfl (ResL.one (ResA.tmp rfl)) ?_))
    refine retK_mk zio ztr rfl (ResL.one (ResA.tmp rfl)) zou
theorem rbuild_all (col w d : Nat) (kd : Int) (A : List En) (na : Nat) (hna : A.length = na) (fA : BagF 500 A) (w1 : 1 ≤ w) (w2 : w ≤ 64) (d1 : 1 ≤ d) (d2 : d ≤ 3) (col2 : col ≤ 2) (hkd : kd = 0 ∨ kd = 1 ∨ kd = 2 ∧ d = 1) : ∃ (X : CV) (L : List Int) (q : Nat), L.length = q ∧ q ≤ 1000 ∧ Cv X (.sl 1 q (intc .i64 L)) ∧ AC Tryz.prog 19 [.agg (Sk.c ⟨[115], [116, 48], col, kd, w, d⟩), .sl 2 na (ec A)] (.tup [.c X, .c (iv 0)]) [] 0 := by
  have hpA := fA.posP (by decide)
  obtain ⟨hfm, hwd, hwd0⟩ := form_of3 (nm := [115]) (sr := [116, 48]) (col := col) (kd := kd) w1 w2 d1 d2 hkd
  by_cases k2 : kd = 2
  · have hd1 : d = 1 := by omega
    subst k2 hd1
    have hP := smallI_P (w := w) (l := hashE col A) fun x hx => hashE_bd hx
    exact ⟨_, smallI w (hashE col A), _, rfl, by have := hP.1; omega, botC_cv0 w col A, rbuildb_ok [115] [116, 48] col (1 : Nat) w A na hna fA.fit hfm hpA (by omega)⟩
  · obtain ⟨N, hN⟩ : ∃ N, w * d = N := ⟨_, rfl⟩
    rw [hN] at hwd hwd0
    exact ⟨_, _, N, by rw [buildN_length, hN], by omega, cv_rfl, rbuildc_ok [115] [116, 48] col kd w d N A na hna fA.fit k2 hfm hpA (by omega) hN⟩
theorem law_schanges (l : List Int) (n : Nat) (hn : l.length = n) (hb : 8 * n ≤ 140737488355328) (c : Int) (v : Vl) : AC Tryz.prog 6 [.sl 1 n (intc .i64 l), iv c, .agg v.c] (.c (bv true)) [] 0 := by
  have hml : n ≤ maxLen := by simp only [maxLen]; omega
  obtain ⟨col, w, d, kd, hsk, col2, w1, w2, d1, d2, hkd⟩ := skF_facts l n 0
  have h1 := tsk_ok l n 0 hn hml (by omega) (by omega)
  rw [hsk] at h1
  obtain ⟨s1, s2⟩ := skA_bd n 0 (by omega) (by omega)
  generalize skA n 0 = a1 at *
  obtain ⟨fa1, fa2, fa3⟩ := bagF_F l n a1 9 (by decide) (by decide)
  obtain ⟨na, hna⟩ : ∃ na, (bagF l n a1 9 false).length = na := ⟨_, rfl⟩
  have h2 := tbag_ok l n a1 8 9 false na hn hml s1 s2 (by decide) (by decide) rfl hna
  obtain ⟨t1, t2⟩ := bagA_bd l n a1 9 s1 s2
  generalize bagF l n a1 9 false = A at *
  generalize bagA l n a1 9 = a2 at *
  obtain ⟨fb1, fb2, fb3⟩ := bagF_F l n a2 9 (by decide) (by decide)
  obtain ⟨nb, hnb⟩ : ∃ nb, (bagF l n a2 9 false).length = nb := ⟨_, rfl⟩
  have h4 := tbag_ok l n a2 8 9 false nb hn hml t1 t2 (by decide) (by decide) rfl hnb
  obtain ⟨t3, t4⟩ := bagA_bd l n a2 9 t1 t2
  generalize bagF l n a2 9 false = B at *
  generalize bagA l n a2 9 = a3 at *
  have fA := fa1.up (N := 500) (by decide)
  have fB := fb1.up (N := 500) (by decide)
  obtain ⟨X, L, q, hq, hqb, hX, h3⟩ := rbuild_all col w d kd A na hna fA w1 w2 d1 d2 col2 hkd
  obtain ⟨Y, R, r, hr, hrb, hY, h5⟩ := rbuild_all col w d kd B nb hnb fB w1 w2 d1 d2 col2 hkd
  obtain ⟨E, Q, a4, hE, hQ, p1, p2, h6⟩ := tspc_ok l n a3 L q hn hml t3 t4 hq (by omega)
  obtain ⟨y, a5, hy, p3, p4, h7⟩ := tsps_ok l n a4 ⟨[115], [116, 48], col, kd, w, d⟩ hn hml p1 p2
  obtain ⟨u, a6, ho, p5, p6, h8⟩ := tval_ok l n a5 hn hml p3 p4
  have h9 := next_ok l n a6 4 hn hml p5 p6 (by decide)
  generalize nextX l n a6 4 = k at *
  generalize nextA n a6 4 = a7 at *
  have hx : CvL [X] [.sl 1 q (intc .i64 L)] := cvl_cons hX cvl_nil
  have ch : ∀ (t : Sk) (z : Vl) (e : Int), AC Tryz.prog 28 [.agg t.c, X, .agg z.c, iv e] (.c (bv true)) [] 0 := fun t z e => AC.args (changes_ok t L q z e hq (by omega)) (cvl_cons cv_rfl (cvl_cons hX (cvl_cons cv_rfl (cvl_cons cv_rfl cvl_nil))))
  have mg : ∀ (t : Sk), AC Tryz.prog 29 [.agg t.c, X, Y] (.c (bv true)) [] 0 := fun t => AC.args (merges_ok t L R q r hq hr (by omega) (by omega)) (cvl_cons cv_rfl (cvl_cons hX (cvl_cons hY cvl_nil)))
  have m2 := AC.args (merges_ok ⟨[115], [116, 48], col, kd, w, d⟩ E R Q r hE hr (by omega) (by omega)) (cvl_cons cv_rfl (cvl_cons cv_rfl (cvl_cons hY cvl_nil)))
  have m3 := AC.args (merges_ok ⟨[115], [116, 48], col, kd, w, d⟩ L E q Q hq hE (by omega) (by omega)) (cvl_cons cv_rfl (cvl_cons hX (cvl_cons cv_rfl cvl_nil)))
  have g3 := changes_ok ⟨[115], [116, 48], col, kd, w, d⟩ E Q u k hE (by omega)
  by_cases ht : v.t.length ≤ 200
  · exact schg_walk l n hn hml hb a1 a2 a3 a4 a5 a6 a7 _ y A B na nb hna hnb X Y _ v v u c k (.inl ⟨ht, rfl⟩) h1 h2 h3 h4 h5 (ACT.args h6 hx) h7 h8 h9 (ch _ _ _) (ch _ _ _) g3 (ch _ _ _) (ch _ _ _) (mg _) m2 m3 (mg _)
  · exact schg_walk l n hn hml hb a1 a2 a3 a4 a5 a6 a7 _ y A B na nb hna hnb X Y _ v Vl.nul u c k (.inr ⟨by omega, rfl⟩) h1 h2 h3 h4 h5 (ACT.args h6 hx) h7 h8 h9 (ch _ _ _) (ch _ _ _) g3 (ch _ _ _) (ch _ _ _) (mg _) m2 m3 (mg _)
end Go.Proofs.YtccnhpaldmjkbaaGreat
