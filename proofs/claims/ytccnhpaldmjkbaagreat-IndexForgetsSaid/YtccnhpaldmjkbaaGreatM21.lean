/-
  Joined texts: I6 I7. Lemmas; no statement of a law.
-/
import Derived.Test.YtccnhpaldmjkbaaGreatM20
set_option linter.unusedSimpArgs false
set_option linter.unusedVariables false
/-
  Rows and postings compared; the index of a bag, as the program builds it (walk).
-/
namespace Go.Proofs.YtccnhpaldmjkbaaGreat
open Go Go.RowKit Go.Av
set_option maxRecDepth 100000
theorem ib_idle : Idle Tryz.prog 92 0 := by
  intro us w hl
  obtain ⟨_, rfl⟩ : ∃ _ : Unit, us = [] := by
    match us, hl with | [], _ => exact ⟨(), rfl⟩
  refine callsD_of_wpS Tryz.func92 rfl fun c₀ cs hu => ?_
  apply wpS_region
  simp [wpOpsS, go_sem, recoverD, hu, Tryz.ntmps92, Exit.thenS]
  cases c₀
  simp_all [bodyPostS, results, Tryz.results92]
theorem ib_idle_b : Body Tryz.prog 92 := by unfold Body; kernel_rfl
theorem run_neqV (a b : Vl) (w : World) : (binOp .neq 51 (.agg #[.int .i64 a.k, .int .i64 a.n, .string ⟨a.t.toArray⟩]) (.agg #[.int .i64 b.k, .int .i64 b.n, .string ⟨b.t.toArray⟩])).run Tryz.prog w = .ok (.bool (!decide (a = b))) w := by
  have h := run_eqlV a b w
  rw [run_eql_struct] at h
  rw [run_neq_struct]
  generalize (Op.equalIn 10000 51 (.agg #[.int .i64 a.k, .int .i64 a.n, .string ⟨a.t.toArray⟩]) (.agg #[.int .i64 b.k, .int .i64 b.n, .string ⟨b.t.toArray⟩])).run Tryz.prog w = E at h ⊢
  cases E with
  | ok b' w' =>
    simp only [Result.andThen, Result.ok.injEq, Value.bool.injEq] at h ⊢
    obtain ⟨h1, h2⟩ := h
    exact ⟨by rw [h1], h2⟩
  | _ => simp [Result.andThen] at h
theorem s_neqV {ev : Evl} {h : Heap} {d : Option Tmp} {T' ty : TypeId} {x y : Operand} {pos : String} {aft : Array Edge} {gd : Option (Nat × Bool)} {a b : Vl} {r : Bool} (hx : ev x = some (.c (.agg a.c))) (hy : ev y = some (.c (.agg b.c))) (hr : (!decide (a = b)) = r) : Still Tryz.prog ⟨d, .binOp .neq 51 x y T', ty, pos, aft, gd⟩ ev h (.c (.v (.bool r))) := by
  intro B dom M H w s hh hc he
  have h1 := he x _ hx
  have h2 := he y _ hy
  simp only [Rep, RepC, Vl.c] at h1 h2
  obtain ⟨us, h1, h3, _⟩ := h1
  obtain ⟨vs, h2, h4, _⟩ := h2
  have h3 := RepCs.of_plain (vs := [.int .i64 a.k, .int .i64 a.n, .string ⟨a.t.toArray⟩]) h3
  have h4 := RepCs.of_plain (vs := [.int .i64 b.k, .int .i64 b.n, .string ⟨b.t.toArray⟩]) h4
  subst h3 h4
  refine ⟨_, ?_, rfl⟩
  have := run_neqV a b w
  rw [hr] at this
  simp only [execOp, h1, h2, Sem.run_bind, guard_agg (P := Tryz.prog) w (by kernel_rfl : Tryz.prog.eqGuardType Tryz.prog.depth 51 = false), Result.andThen_ok]
  rw [this]
  rfl
attribute [local irreducible] Still Adds AWL AW Drw DrwE EStep AC AWR Weak Frz Src RetK Out InK ItK AsK RdK
set_option maxHeartbeats 4000000 in
theorem sameR_ok (r : List Vl) (n : Nat) (hn : r.length = n) (hm : n ≤ 1000000) : AC Tryz.prog 42 [.sl 3 n (rc r), .sl 3 n (rc r)] (.c (bv true)) [] 0 := by
  have hcl : (rc r).length = n * 3 := by rw [rc_length, hn]
  refine ac_enter tabOk (sz := 26) Tryz.func42 rfl (by rw [Tryz.ntmps42]; rfl) ?_
  repeat' (first | ((with_reducible refine aw_seqk ?_); intro K hK hX) | ((with_reducible refine isC_reg ?_); refine aw_prune [0, 1, 4, 5] rfl rfl ?_; with_reducible refine aw_region ?_) | ((with_reducible refine isC_draw ?_); refine aw_prune [0, 1, 4, 5] rfl rfl ?_; refine aw_drwF [] ?_) | ((first | ((with_reducible refine isA_any ?_); refine xA ?_) | ((with_reducible refine isDk_any ?_); refine xD ?_)); (first | ((with_reducible refine e_bin ?_); (first | refine ex_i (s_cmp rfl rfl rfl (decide_eq_false (by omega))) ?_)))) | refine stA ?_ | refine stD ?_ | (refine hK _ _ _ _ ?_; clear hK hX K) | (refine hX _ _ _ _ _ (by simp) ?_; clear hK hX K))
  refine aw_loopo [5] [] rfl rfl (fun i : Nat => [(5, .c (iv i))]) (fun i => []) (fun i => i ≤ n) (fun i => n - i) 0 (Nat.zero_le _) weakA ?_
  intro i hi K hK hX
  by_cases hik : i < n
  · obtain ⟨v, hv⟩ : ∃ v, r[i]? = some v := ⟨_, List.getElem?_eq_getElem (by omega)⟩
    have hat := rc_at hv
    repeat' (first | ((with_reducible refine aw_seqk ?_); intro K hK hX) | ((with_reducible refine isC_reg ?_); refine aw_prune [0, 1, 4, 5] rfl rfl ?_; with_reducible refine aw_region ?_) | ((with_reducible refine isC_draw ?_); refine aw_prune [0, 1, 4, 5] rfl rfl ?_; refine aw_drwF [] ?_) | ((first | ((with_reducible refine isA_any ?_); refine xA ?_) | ((with_reducible refine isDk_any ?_); refine xD ?_)); (first | ((with_reducible refine e_bin ?_); (first | refine ex_i (s_neqV (a := v) (b := v) rfl rfl (show (!decide (v = v)) = false by simp)) ?_)) | ((with_reducible refine e_load ?_); (first | refine ex_i (s_loadAr tabOk rfl rfl rfl rfl (by first | exact hat | exact whole0 (by first | rfl | omega) | rfl) zln) ?_ | refine ex_i (s_loadAi tabOk rfl rfl rfl (by first | exact hat | exact whole0 (by first | rfl | omega) | rfl) zln) ?_)) | ((with_reducible refine e_slice ?_); (first | refine ex_i (s_slArri tabOk rfl rfl rfl rfl zbd zbd zle zle (by decide) (by first | exact hat | exact whole0 (by first | rfl | omega) | rfl) zln) ?_)))) | refine stA ?_ | refine stD ?_ | (refine hK _ _ _ _ ?_; clear hK hX K) | (refine hX _ _ _ _ _ (by simp) ?_; clear hK hX K))
    exact ⟨i + 1, by omega, by omega, weakA⟩
  · have hie : i = n := by omega
    rw [hie]
    repeat' (first | ((with_reducible refine aw_seqk ?_); intro K hK hX) | ((with_reducible refine isC_reg ?_); refine aw_prune [0, 1, 4, 5] rfl rfl ?_; with_reducible refine aw_region ?_) | ((with_reducible refine isC_draw ?_); refine aw_prune [0, 1, 4, 5] rfl rfl ?_; refine aw_drwF [] ?_) | refine stA ?_ | refine stD ?_ | (refine hK _ _ _ _ ?_; clear hK hX K) | (refine hX _ _ _ _ _ (by simp) ?_; clear hK hX K))
    refine retK_mk zio ztr rfl (ResL.one (ResA.tmp rfl)) zou
set_option maxHeartbeats 4000000 in
theorem sameP_ok (p : List Po) (n : Nat) (hn : p.length = n) (hm : n ≤ 1000000) (hR : ∀ x ∈ p, x.r.length ≤ 1000000) : AC Tryz.prog 48 [.sl 3 n (pc p), .sl 3 n (pc p)] (.c (bv true)) [] 0 := by
  have hcl : (pc p).length = n * 3 := by rw [pc_length, hn]
  refine ac_enter tabOk (sz := 55) Tryz.func48 rfl (by rw [Tryz.ntmps48]; rfl) ?_
  repeat' (first | ((with_reducible refine aw_seqk ?_); intro K hK hX) | ((with_reducible refine isC_reg ?_); refine aw_prune [0, 1, 4, 5] rfl rfl ?_; with_reducible refine aw_region ?_) | ((with_reducible refine isC_draw ?_); refine aw_prune [0, 1, 4, 5] rfl rfl ?_; refine aw_drwF [] ?_) | ((first | ((with_reducible refine isA_any ?_); refine xA ?_) | ((with_reducible refine isDk_any ?_); refine xD ?_)); (first | ((with_reducible refine e_bin ?_); (first | refine ex_i (s_cmp rfl rfl rfl (decide_eq_false (by omega))) ?_)))) | refine stA ?_ | refine stD ?_ | (refine hK _ _ _ _ ?_; clear hK hX K) | (refine hX _ _ _ _ _ (by simp) ?_; clear hK hX K))
  refine aw_loopo [5] [] rfl rfl (fun i : Nat => [(5, .c (iv i))]) (fun i => []) (fun i => i ≤ n) (fun i => n - i) 0 (Nat.zero_le _) weakA ?_
  intro i hi K hK hX
  by_cases hik : i < n
  · obtain ⟨x, hx⟩ : ∃ x, p[i]? = some x := ⟨_, List.getElem?_eq_getElem (by omega)⟩
    have a0 := pc_w hx
    have a1 := pc_r hx
    have a2 := pc_n hx
    have hsr := sameR_ok x.r x.r.length rfl (hR x (List.mem_of_getElem? hx))
    obtain ⟨w, r, c⟩ := x
    simp only at *
    have hne : (!decide (w = w)) = false := by simp
    have hnn : decide (c ≠ c) = false := by simp
    repeat' (first | ((with_reducible refine aw_seqk ?_); intro K hK hX) | ((with_reducible refine isC_reg ?_); refine aw_prune [0, 1, 4, 5] rfl rfl ?_; with_reducible refine aw_region ?_) | ((with_reducible refine isC_draw ?_); refine aw_prune [0, 1, 4, 5] rfl rfl ?_; refine aw_drwF [] ?_) | ((first | with_reducible refine isA_call ?_ | with_reducible refine isD_call ?_); (first | refine zA ?_ | refine zN ?_ | refine zD ?_); (first | refine c0 (hsr) ?_)) | ((first | ((with_reducible refine isA_any ?_); refine xA ?_) | ((with_reducible refine isDk_any ?_); refine xD ?_)); (first | ((with_reducible refine e_bin ?_); (first | refine ex_i (s_neqL rfl rfl hne) ?_ | refine ex_i (s_cmp rfl rfl rfl hnn) ?_)) | ((with_reducible refine e_load ?_); (first | refine ex_i (s_load1 tabOk rfl rfl rfl rfl (by first | exact a0 | exact a1 | exact a2)) ?_ | refine ex_i (s_load1r tabOk rfl rfl rfl rfl (by first | exact a0 | exact a1 | exact a2)) ?_ | refine ex_i (s_load1i tabOk rfl rfl rfl (by first | exact a0 | exact a1 | exact a2)) ?_)) | ((with_reducible refine e_ix ?_); (first | refine ex_i (s_ixV1 tabOk rfl rfl zcj rfl rfl rfl rfl rfl zle (by first | exact a0 | exact a1 | exact a2)) ?_ | refine ex_i (s_ixStr tabOk rfl rfl zcj rfl rfl (by first | exact a0 | exact a1 | exact a2)) ?_)))) | refine stA ?_ | refine stD ?_ | (refine hK _ _ _ _ ?_; clear hK hX K) | (refine hX _ _ _ _ _ (by simp) ?_; clear hK hX K))
    exact ⟨i + 1, by omega, by omega, weakA⟩
  · have hie : i = n := by omega
    rw [hie]
    repeat' (first | ((with_reducible refine aw_seqk ?_); intro K hK hX) | ((with_reducible refine isC_reg ?_); refine aw_prune [0, 1, 4, 5] rfl rfl ?_; with_reducible refine aw_region ?_) | ((with_reducible refine isC_draw ?_); refine aw_prune [0, 1, 4, 5] rfl rfl ?_; refine aw_drwF [] ?_) | refine stA ?_ | refine stD ?_ | (refine hK _ _ _ _ ?_; clear hK hX K) | (refine hX _ _ _ _ _ (by simp) ?_; clear hK hX K))
    refine retK_mk zio ztr rfl (ResL.one (ResA.tmp rfl)) zou
open Classical in
set_option maxHeartbeats 4000000 in
theorem ibuild_ok (b : List En) (n : Nat) (hn : b.length = n) (hf : fitB b) (hp : posP b) (col : Nat) (hc : (col : Int) ≤ 9223372036854775807) (M : Nat) (hM : (postP (prs col b)).length = M) : AC Tryz.prog 40 [.sl 2 n (ec b), iv col] (.tup [.c (.sl 3 M (pc (postP (prs col b)))), .c (iv 0)]) [] 0 := by
  have hn2 : n ≤ 4096 := by rw [← hn]; exact hp.1.1
  have h1 := pos_ok b n hn (by simp only [maxLen]; omega) hf
  rw [decide_eq_true hp] at h1
  have hrow : ∀ e ∈ b, rowP e.r := fun e he => by
    obtain ⟨i, hi⟩ := List.mem_iff_getElem?.1 he
    exact (hp.1.2 i (List.getElem?_eq_some_iff.1 hi).1 e hi).1.2.2
  have h2 := postings_ok b n hn hn2 hrow col hc M hM
  generalize pc (postP (prs col b)) = R at h2 ⊢
  clear hp hrow hM hf hn
  refine ac_enter tabOk (sz := 16) Tryz.func40 rfl (by rw [Tryz.ntmps40]; rfl) ?_
  repeat' (first | ((with_reducible refine aw_seqk ?_); intro K hK hX) | ((with_reducible refine isC_reg ?_); refine aw_prune [0, 1, 4, 5] rfl rfl ?_; with_reducible refine aw_region ?_) | ((with_reducible refine isA_call ?_); (first | refine zA ?_ | refine zN ?_); (first | refine c0 (h1) ?_ | refine c0 (h2) ?_)) | refine stA ?_ | (refine hK _ _ _ _ ?_; clear hK hX K) | (refine hX _ _ _ _ _ (by simp) ?_; clear hK hX K))
  refine retK_mk zio (by exact ⟨ib_idle, ib_idle_b, trivial⟩) rfl (ResL.two (ResA.tmp rfl) (ResA.tmp rfl)) (out_t (frzl_cons zfz (frzl_cons zfz frzl_nil)))
end Go.Proofs.YtccnhpaldmjkbaaGreat
/-
  The words of a string (walk), as the reference has them.
-/
namespace Go.Av
open Go Go.RowKit
end Go.Av
namespace Go.Proofs.YtccnhpaldmjkbaaGreat
open Go Go.RowKit Go.Av
set_option maxRecDepth 100000
attribute [local irreducible] Still Adds AWL AW Drw DrwE EStep AC AWR Weak Frz Src RetK Out InK ItK AsK RdK
end Go.Proofs.YtccnhpaldmjkbaaGreat
