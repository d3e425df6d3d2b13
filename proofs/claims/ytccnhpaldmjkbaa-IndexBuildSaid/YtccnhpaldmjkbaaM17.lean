/-
  Joined texts: I6 I7. Lemmas; no statement of a law.
-/
import Derived.Test.YtccnhpaldmjkbaaM16
set_option linter.unusedSimpArgs false
set_option linter.unusedVariables false
namespace Go.Proofs.Ytccnhpaldmjkbaa
open Go Go.RowKit Go.Av
set_option maxRecDepth 100000
theorem ib_idle : Idle Try.prog 60 0 := by
  intro us w hl
  obtain ⟨_, rfl⟩ : ∃ _ : Unit, us = [] := by
    match us, hl with | [], _ => exact ⟨(), rfl⟩
  refine callsD_of_wpS Try.func60 rfl fun c₀ cs hu => ?_
  apply wpS_region
  simp [wpOpsS, go_sem, recoverD, hu, Try.ntmps60, Exit.thenS]
  cases c₀
  simp_all [bodyPostS, results, Try.results60]
theorem ib_idle_b : Body Try.prog 60 := by unfold Body; kernel_rfl
theorem run_neqV (a b : Vl) (w : World) : (binOp .neq 43 (.agg #[.int .i64 a.k, .int .i64 a.n, .string ⟨a.t.toArray⟩]) (.agg #[.int .i64 b.k, .int .i64 b.n, .string ⟨b.t.toArray⟩])).run Try.prog w = .ok (.bool (!decide (a = b))) w := by
  have h := run_eqlV a b w
  rw [run_eql_struct] at h
  rw [run_neq_struct]
  generalize (Op.equalIn 10000 43 (.agg #[.int .i64 a.k, .int .i64 a.n, .string ⟨a.t.toArray⟩]) (.agg #[.int .i64 b.k, .int .i64 b.n, .string ⟨b.t.toArray⟩])).run Try.prog w = E at h ⊢
  cases E with
  | ok b' w' =>
    simp only [Result.andThen, Result.ok.injEq, Value.bool.injEq] at h ⊢
    obtain ⟨h1, h2⟩ := h
    exact ⟨by rw [h1], h2⟩
  | _ => simp [Result.andThen] at h
theorem s_neqV {ev : Evl} {h : Heap} {d : Option Tmp} {T' ty : TypeId} {x y : Operand} {pos : String} {aft : Array Edge} {gd : Option (Nat × Bool)} {a b : Vl} {r : Bool} (hx : ev x = some (.c (.agg a.c))) (hy : ev y = some (.c (.agg b.c))) (hr : (!decide (a = b)) = r) : Still Try.prog ⟨d, .binOp .neq 43 x y T', ty, pos, aft, gd⟩ ev h (.c (.v (.bool r))) := by
  intro B dom M H w s hh hc he
  have h1 := he x _ hx
  have h2 := he y _ hy
  simp only [Rep, RepC, Vl.c] at h1 h2
  obtain ⟨us, h1, h3, _⟩ := h1
  obtain ⟨vs, h2, h4, _⟩ := h2
  have h3 := RepCs.of_plain (vs := [.int .i64 a.k, .int .i64 a.n, .string ⟨a.t.toArray⟩]) h3
  have h4 := RepCs.of_plain (vs := [.int .i64 b.k, .int .i64 b.n, .string ⟨b.t.toArray⟩]) h4
  subst h3 h4
  refine ⟨_, ?_, rfl⟩
  have := run_neqV a b w
  rw [hr] at this
  simp only [execOp, h1, h2, Sem.run_bind, guard_agg (P := Try.prog) w (by kernel_rfl : Try.prog.eqGuardType Try.prog.depth 43 = false), Result.andThen_ok]
  rw [this]
  rfl
attribute [local irreducible] Still Adds AWL AW Drw DrwE EStep AC AWR Weak Frz Src RetK Out InK ItK AsK RdK
set_option maxHeartbeats 4000000 in
theorem sameR_ok (r : List Vl) (n : Nat) (hn : r.length = n) (hm : n ≤ 1000000) : AC Try.prog 46 [.sl 3 n (rc r), .sl 3 n (rc r)] (.c (bv true)) [] 0 := by
  have hcl : (rc r).length = n * 3 := by rw [rc_length, hn]
  refine ac_enter tabOk (sz := 26) Try.func46 rfl (by rw [Try.ntmps46]; rfl) ?_
  repeat' (first | ((with_reducible refine aw_seqk ?_); intro K hK hX) | ((with_reducible refine isC_reg ?_); refine aw_prune [0, 1, 4, 5] rfl rfl ?_; with_reducible refine aw_region ?_) | ((with_reducible refine isC_draw ?_); refine aw_prune [0, 1, 4, 5] rfl rfl ?_; refine aw_drwF [] ?_) | ((first | ((with_reducible refine isA_any ?_); refine xA ?_) | ((with_reducible refine isDk_any ?_); refine xD ?_)); (first | ((with_reducible refine e_bin ?_); (first | refine ex_i (s_cmp rfl rfl rfl (decide_eq_false (by omega))) ?_)))) | refine stA ?_ | refine stD ?_ | (refine hK _ _ _ _ ?_; clear hK hX K) | (refine hX _ _ _ _ _ (by simp) ?_; clear hK hX K))
  refine aw_loopo [5] [] rfl rfl (fun i : Nat => [(5, .c (iv i))]) (fun i => []) (fun i => i ≤ n) (fun i => n - i) 0 (Nat.zero_le _) weakA ?_
  intro i hi K hK hX
  by_cases hik : i < n
  · obtain ⟨v, hv⟩ : ∃ v, r[i]? = some v := ⟨_, List.getElem?_eq_getElem (by omega)⟩
    have hat := rc_at hv
    repeat' (first | ((with_reducible refine aw_seqk ?_); intro K hK hX) | ((with_reducible refine isC_reg ?_); refine aw_prune [0, 1, 4, 5] rfl rfl ?_; with_reducible refine aw_region ?_) | ((with_reducible refine isC_draw ?_); refine aw_prune [0, 1, 4, 5] rfl rfl ?_; refine aw_drwF [] ?_) | ((first | ((with_reducible refine isA_any ?_); refine xA ?_) | ((with_reducible refine isDk_any ?_); refine xD ?_)); (first | ((with_reducible refine e_bin ?_); (first | refine ex_i (s_neqV (a := v) (b := v) rfl rfl (show (!decide (v = v)) = false by simp)) ?_)) | ((with_reducible refine e_load ?_); (first | refine ex_i (s_loadAr tabOk rfl rfl rfl rfl (by first | exact hat | exact whole0 (by first | rfl | omega) | rfl) zln) ?_ | refine ex_i (s_loadAi tabOk rfl rfl rfl (by first | exact hat | exact whole0 (by first | rfl | omega) | rfl) zln) ?_)) | ((with_reducible refine e_slice ?_); (first | refine ex_i (s_slArri tabOk rfl rfl rfl rfl zbd zbd zle zle (by decide) (by first | exact hat | exact whole0 (by first | rfl | omega) | rfl) zln) ?_)))) | refine stA ?_ | refine stD ?_ | (refine hK _ _ _ _ ?_; clear hK hX K) | (refine hX _ _ _ _ _ (by simp) ?_; clear hK hX K))
    exact ⟨i + 1, by omega, by omega, weakA⟩
  · have hie : i = n := by omega
    rw [hie]
    repeat' (first | ((with_reducible refine aw_seqk ?_); intro K hK hX) | ((with_reducible refine isC_reg ?_); refine aw_prune [0, 1, 4, 5] rfl rfl ?_; with_reducible refine aw_region ?_) | ((with_reducible refine isC_draw ?_); refine aw_prune [0, 1, 4, 5] rfl rfl ?_; refine aw_drwF [] ?_) | refine stA ?_ | refine stD ?_ | (refine hK _ _ _ _ ?_; clear hK hX K) | (refine hX _ _ _ _ _ (by simp) ?_; clear hK hX K))
    refine retK_mk zio ztr rfl (ResL.one (ResA.tmp rfl)) zou
set_option maxHeartbeats 4000000 in
theorem sameP_ok (p : List Po) (n : Nat) (hn : p.length = n) (hm : n ≤ 1000000) (hR : ∀ x ∈ p, x.r.length ≤ 1000000) : AC Try.prog 31 [.sl 3 n (pc p), .sl 3 n (pc p)] (.c (bv true)) [] 0 := by
  have hcl : (pc p).length = n * 3 := by rw [pc_length, hn]
  refine ac_enter tabOk (sz := 55) Try.func31 rfl (by rw [Try.ntmps31]; rfl) ?_
  repeat' (first | ((with_reducible refine aw_seqk ?_); intro K hK hX) | ((with_reducible refine isC_reg ?_); refine aw_prune [0, 1, 4, 5] rfl rfl ?_; with_reducible refine aw_region ?_) | ((with_reducible refine isC_draw ?_); refine aw_prune [0, 1, 4, 5] rfl rfl ?_; refine aw_drwF [] ?_) | ((first | ((with_reducible refine isA_any ?_); refine xA ?_) | ((with_reducible refine isDk_any ?_); refine xD ?_)); (first | ((with_reducible refine e_bin ?_); (first | refine ex_i (s_cmp rfl rfl rfl (decide_eq_false (by omega))) ?_)))) | refine stA ?_ | refine stD ?_ | (refine hK _ _ _ _ ?_; clear hK hX K) | (refine hX _ _ _ _ _ (by simp) ?_; clear hK hX K))
  refine aw_loopo [5] [] rfl rfl (fun i : Nat => [(5, .c (iv i))]) (fun i => []) (fun i => i ≤ n) (fun i => n - i) 0 (Nat.zero_le _) weakA ?_
  intro i hi K hK hX
  by_cases hik : i < n
  · obtain ⟨x, hx⟩ : ∃ x, p[i]? = some x := ⟨_, List.getElem?_eq_getElem (by omega)⟩
    have a0 := pc_w hx
    have a1 := pc_r hx
    have a2 := pc_n hx
    have hsr := sameR_ok x.r x.r.length rfl (hR x (List.mem_of_getElem? hx))
    obtain ⟨w, r, c⟩ := x
    simp only at *
    have hne : (!decide (w = w)) = false := by simp
    have hnn : decide (c ≠ c) = false := by simp
    repeat' (first | ((with_reducible refine aw_seqk ?_); intro K hK hX) | ((with_reducible refine isC_reg ?_); refine aw_prune [0, 1, 4, 5] rfl rfl ?_; with_reducible refine aw_region ?_) | ((with_reducible refine isC_draw ?_); refine aw_prune [0, 1, 4, 5] rfl rfl ?_; refine aw_drwF [] ?_) | ((first | with_reducible refine isA_call ?_ | with_reducible refine isD_call ?_); (first | refine zA ?_ | refine zN ?_ | refine zD ?_); (first | refine c0 (hsr) ?_)) | ((first | ((with_reducible refine isA_any ?_); refine xA ?_) | ((with_reducible refine isDk_any ?_); refine xD ?_)); (first | ((with_reducible refine e_bin ?_); (first | refine ex_i (s_neqL rfl rfl hne) ?_ | refine ex_i (s_cmp rfl rfl rfl hnn) ?_)) | ((with_reducible refine e_load ?_); (first | refine ex_i (s_load1 tabOk rfl rfl rfl rfl (by first | exact a0 | exact a1 | exact a2)) ?_ | refine ex_i (s_load1r tabOk rfl rfl rfl rfl (by first | exact a0 | exact a1 | exact a2)) ?_ | refine ex_i (s_load1i tabOk rfl rfl rfl (by first | exact a0 | exact a1 | exact a2)) ?_)) | ((with_reducible refine e_ix ?_); (first | refine ex_i (s_ixV1 tabOk rfl rfl zcj rfl rfl rfl rfl rfl zle (by first | exact a0 | exact a1 | exact a2)) ?_ | refine ex_i (s_ixStr tabOk rfl rfl zcj rfl rfl (by first | exact a0 | exact a1 | exact a2)) ?_)))) | refine stA ?_ | refine stD ?_ | (refine hK _ _ _ _ ?_; clear hK hX K) | (refine hX _ _ _ _ _ (by simp) ?_; clear hK hX K))
    exact ⟨i + 1, by omega, by omega, weakA⟩
  · have hie : i = n := by omega
    rw [hie]
    repeat' (first | ((with_reducible refine aw_seqk ?_); intro K hK hX) | ((with_reducible refine isC_reg ?_); refine aw_prune [0, 1, 4, 5] rfl rfl ?_; with_reducible refine aw_region ?_) | ((with_reducible refine isC_draw ?_); refine aw_prune [0, 1, 4, 5] rfl rfl ?_; refine aw_drwF [] ?_) | refine stA ?_ | refine stD ?_ | (refine hK _ _ _ _ ?_; clear hK hX K) | (refine hX _ _ _ _ _ (by simp) ?_; clear hK hX K))
    refine retK_mk zio ztr rfl (ResL.one (ResA.tmp rfl)) zou
open Classical in
set_option maxHeartbeats 4000000 in
theorem ibuild_ok (b : List En) (n : Nat) (hn : b.length = n) (hf : fitB b) (hp : posP b) (col : Nat) (hc : (col : Int) ≤ 9223372036854775807) (M : Nat) (hM : (postP (prs col b)).length = M) : AC Try.prog 24 [.sl 2 n (ec b), iv col] (.tup [.c (.sl 3 M (pc (postP (prs col b)))), .c (iv 0)]) [] 0 := by
  have hn2 : n ≤ 4096 := by rw [← hn]; exact hp.1.1
  have h1 := pos_ok b n hn (by simp only [maxLen]; omega) hf
  rw [decide_eq_true hp] at h1
  have hrow : ∀ e ∈ b, rowP e.r := fun e he => by
    obtain ⟨i, hi⟩ := List.mem_iff_getElem?.1 he
    exact (hp.1.2 i (List.getElem?_eq_some_iff.1 hi).1 e hi).1.2.2
  have h2 := postings_ok b n hn hn2 hrow col hc M hM
  generalize pc (postP (prs col b)) = R at h2 ⊢
  clear hp hrow hM hf hn
  refine ac_enter tabOk (sz := 16) Try.func24 rfl (by rw [Try.ntmps24]; rfl) ?_
  repeat' (first | ((with_reducible refine aw_seqk ?_); intro K hK hX) | ((with_reducible refine isC_reg ?_); refine aw_prune [0, 1, 4, 5] rfl rfl ?_; with_reducible refine aw_region ?_) | ((with_reducible refine isA_call ?_); (first | refine zA ?_ | refine zN ?_); (first | refine c0 (h1) ?_ | refine c0 (h2) ?_)) | refine stA ?_ | (refine hK _ _ _ _ ?_; clear hK hX K) | (refine hX _ _ _ _ _ (by simp) ?_; clear hK hX K))
  refine retK_mk zio (by exact ⟨ib_idle, ib_idle_b, trivial⟩) rfl (ResL.two (ResA.tmp rfl) (ResA.tmp rfl)) (out_t (frzl_cons zfz (frzl_cons zfz frzl_nil)))
open Classical in
set_option maxHeartbeats 4000000 in
theorem ibuild_bad (b : List En) (n : Nat) (hn : b.length = n) (hm : n ≤ maxLen) (hf : fitB b) (col : Int) (hp : col < 0 ∨ ¬ posP b) : AC Try.prog 24 [.sl 2 n (ec b), iv col] (.tup [.c (.sl 3 0 []), .c (iv 1)]) [] 0 := by
  have h1 := pos_ok b n hn hm hf
  by_cases h0 : col < 0
  · clear hp
    refine ac_enter tabOk (sz := 16) Try.func24 rfl (by rw [Try.ntmps24]; rfl) ?_
    repeat' (first | ((with_reducible refine aw_seqk ?_); intro K hK hX) | ((with_reducible refine isC_reg ?_); refine aw_prune [0, 1, 4, 5] rfl rfl ?_; with_reducible refine aw_region ?_) | ((with_reducible refine isA_call ?_); (first | refine zA ?_ | refine zN ?_); (first | refine c0 (h1) ?_)) | refine stA ?_ | (refine hK _ _ _ _ ?_; clear hK hX K) | (refine hX _ _ _ _ _ (by simp) ?_; clear hK hX K))
    refine retK_mk zio (by exact ⟨ib_idle, ib_idle_b, trivial⟩) rfl (ResL.two (ResA.tmp rfl) (ResA.tmp rfl)) (out_t (frzl_cons zfz (frzl_cons zfz frzl_nil)))
  · have hp : ¬ posP b := hp.elim (fun h => absurd h h0) id
    rw [decide_eq_false hp] at h1
    refine ac_enter tabOk (sz := 16) Try.func24 rfl (by rw [Try.ntmps24]; rfl) ?_
    repeat' (first | ((with_reducible refine aw_seqk ?_); intro K hK hX) | ((with_reducible refine isC_reg ?_); refine aw_prune [0, 1, 4, 5] rfl rfl ?_; with_reducible refine aw_region ?_) | ((with_reducible refine isA_call ?_); (first | refine zA ?_ | refine zN ?_); (first | refine c0 (h1) ?_)) | refine stA ?_ | (refine hK _ _ _ _ ?_; clear hK hX K) | (refine hX _ _ _ _ _ (by simp) ?_; clear hK hX K))
    refine retK_mk zio (by exact ⟨ib_idle, ib_idle_b, trivial⟩) rfl (ResL.two (ResA.tmp rfl) (ResA.tmp rfl)) (out_t (frzl_cons zfz (frzl_cons zfz frzl_nil)))
end Go.Proofs.Ytccnhpaldmjkbaa
namespace Go.Av
open Go Go.RowKit
/-- A closed value read in another way. -/
theorem aw_cv {P : Program} {sz n : Nat} {c : Code} {K : AK} {env : Env} {h : Heap} {dfs : Defs} (t : Nat) {x : CV} (y : CV) (hx : lkE env t = some (.c x)) (hc : Cv x y) (next : AW P sz c K n ((t, .c y) :: env) h dfs) : AW P sz c K n env h dfs := by
  intro B a w hcn
  obtain ⟨M, c1, c2, c3, c4⟩ := hcn
  refine next B a w ⟨M, c1, c2, fun t' av ht => ?_, c4⟩
  rw [lkE_cons] at ht
  split at ht
  · rename_i e
    subst e
    injection ht with ht
    subst ht
    have := c3 _ _ hx
    simp only [Rep] at this ⊢
    exact hc _ _ _ this
  · exact c3 t' av ht
end Go.Av
namespace Go.Proofs.Ytccnhpaldmjkbaa
open Go Go.RowKit Go.Av
set_option maxRecDepth 100000
theorem u8_one (w : Wd) (b : UInt8) : u8c w ++ [ub b] = u8c (w ++ [b]) := by simp [u8c, ub]
theorem slA {a b : Nat} {l m : List Wd} (h : l = m) (ha : l.length = a) (hb : m.length = b) : AV.c (.sl 1 a (strc l)) = AV.c (.sl 1 b (strc m)) := by subst h; rw [← ha, ← hb]
attribute [local irreducible] Still Adds AWL AW Drw DrwE EStep AC AWR Weak Frz Src RetK Out InK ItK AsK RdK
set_option maxHeartbeats 8000000 in
theorem rwords_ok (l : Wd) (hl : l.length ≤ 1000000) : AC Try.prog 17 [sv l] (.c (.sl 1 (wordsP l).length (strc (wordsP l)))) [] 0 := by
  obtain ⟨N, hN⟩ : ∃ N, l.length = N := ⟨_, rfl⟩
  have hsz := sv_len l
  rw [hN] at hl hsz
  obtain ⟨S, hS⟩ : ∃ S : Nat → List Wd × Wd, ∀ i, S i = runW (l.take i) := ⟨_, fun _ => rfl⟩
  obtain ⟨O, hO⟩ : ∃ O : Nat → List Wd, ∀ i, O i = if i ≤ N then foldW (S i).1 else wordsP l := ⟨_, fun _ => rfl⟩
  obtain ⟨V, hV⟩ : ∃ V : Nat → Wd, ∀ i, V i = if i ≤ N then (S i).2 else [] := ⟨_, fun _ => rfl⟩
  obtain ⟨o, ho⟩ : ∃ o : Nat → Nat, ∀ i, (O i).length = o i := ⟨_, fun _ => rfl⟩
  obtain ⟨q, hq⟩ : ∃ q : Nat → Nat, ∀ i, (V i).length = q i := ⟨_, fun _ => rfl⟩
  have hO0 : [] = O 0 := by rw [hO, hS]; rfl
  have hV0 : [] = V 0 := by rw [hV, hS]; rfl
  have hA0 : AV.c (.sl 1 0 []) = AV.c (.sl 1 (o 0) (strc (O 0))) := slA (l := []) hO0 rfl (ho 0)
  have hq0 : 0 = q 0 := by rw [← hq, ← hV0]; rfl
  have hr0 : ([] : List CV) = u8c (V 0) := by rw [← hV0]; rfl
  have hbd : ∀ i, o i ≤ 1000000 ∧ q i ≤ 1000000 := fun i => by
    obtain ⟨k1, k2, k3⟩ := runW_len (l.take i)
    rw [← hS, List.length_take, hN] at k1
    have k4 := (foldW_facts (S i).1).2.2
    have k5 := (wordsP_facts l).1
    rw [← ho, ← hq, hO, hV]
    split
    · omega
    · exact ⟨by omega, by simp⟩
  have hfin : O (N + 1) = wordsP l := by rw [hO, if_neg (by omega)]
  have hVf : V (N + 1) = [] := by rw [hV, if_neg (by omega)]
  have hlast : wordsP l = foldW ((O N |> fun _ => (S N).1) ++ flW (S N).2) := by
    unfold wordsP
    rw [← foldW_set, hS, List.take_of_length_le (by omega)]; rfl
  refine ac_enter tabOk (sz := 38) Try.func17 rfl (by rw [Try.ntmps17]; rfl) ?_
  repeat' (first | ((with_reducible refine aw_seqk ?_); intro K hK hX) | ((with_reducible refine isC_reg ?_); refine aw_prune [0, 2, 3, 4, 5, 6, 7] rfl rfl ?_; with_reducible refine aw_region ?_) | refine stA ?_ | (refine hK _ _ _ _ ?_; clear hK hX K) | (refine hX _ _ _ _ _ (by simp) ?_; clear hK hX K))
  refine aw_cv 3 (.sl 1 0 []) rfl cv_nil ?_
  refine aw_nilown 4 5 1 rfl ?_
  refine aw_loopo [3, 4, 5, 6, 7] [0] rfl rfl (fun i : Nat => [(3, .c (.sl 1 (o i) (strc (O i)))), (4, .own 0 0 (q i) 1 true), (5, .c (iv i))]) (fun i => [(0, .row 5 (u8c (V i)))]) (fun i => i ≤ N + 1) (fun i => N + 1 - i) 0 (Nat.zero_le _) (by refine weak_mk rfl ?_ ?_ rfl <;> (repeat' (first | exact weakE_nil | exact weakH_nil | refine weakE_cons rfl (by first | rfl | (first | exact hA0 | exact congrArg (fun x => AV.own 0 0 x 1 true) hq0 | exact congrArg (AObj.row 5) hr0) | exact zeq) rfl ?_ | refine weakH_cons rfl (by first | rfl | (first | exact hA0 | exact congrArg (fun x => AV.own 0 0 x 1 true) hq0 | exact congrArg (AObj.row 5) hr0) | exact zeq) rfl ?_))) ?_
  intro i hi K hK hX
  obtain ⟨ho1, hq1⟩ := hbd i
  have hul : (u8c (V i)).length = q i := by rw [u8c_length, hq]
  have hol : (strc (O i)).length = o i := by rw [strc_length, ho]
  by_cases hlt : i < N
  · obtain ⟨b, hb⟩ : ∃ b, l[i]? = some b := ⟨l[i]'(by omega), List.getElem?_eq_getElem _⟩
    have hbt : (⟨l.toArray⟩ : ByteArray).data[i]? = some b := by simp [hb]
    have hst : S (i + 1) = stW (S i) b := by rw [hS, hS]; exact runW_take hb
    have hOi : O i = foldW (S i).1 := by rw [hO, if_pos (by omega)]
    have hVi : V i = (S i).2 := by rw [hV, if_pos (by omega)]
    have hOn : O (i + 1) = foldW (S (i + 1)).1 := by rw [hO, if_pos (by omega)]
    have hVn : V (i + 1) = (S (i + 1)).2 := by rw [hV, if_pos (by omega)]
    rw [hst] at hOn hVn
    by_cases hu : upB b = true
    · rw [stW_up hu] at hOn hVn
      rw [← hOi] at hOn
      rw [← hVi] at hVn
      have hlet := letU_ok b hu
      have hA := slA hOn.symm (ho i) (ho (i + 1))
      have hrow : u8c (V i) ++ [ub (b + 32)] = u8c (V (i + 1)) := by rw [hVn]; exact u8_one _ _
      have hqe : q (i + 1) = q i + 1 := by rw [← hq, hVn, List.length_append, hq]; rfl
      clear hq0 hO hV hOi hVi hOn hVn hst hA0 hr0 hfin hVf hlast hbd hO0 hV0
      repeat' (first | ((with_reducible refine aw_seqk ?_); intro K hK hX) | ((with_reducible refine isC_reg ?_); refine aw_prune [0, 2, 3, 4, 5, 6, 7] rfl rfl ?_; with_reducible refine aw_region ?_) | ((with_reducible refine isA_call ?_); (first | refine zA ?_ | refine zN ?_); (first | refine c0 (hlet) ?_)) | (((with_reducible refine isA_any ?_); refine xA ?_); (first | ((with_reducible refine e_load ?_); (first | refine ex_i (s_load1 tabOk rfl rfl rfl rfl (by exact hbt)) ?_ | refine ex_i (s_load1r tabOk rfl rfl rfl rfl (by exact hbt)) ?_ | refine ex_i (s_load1i tabOk rfl rfl rfl (by exact hbt)) ?_)) | ((with_reducible refine e_ix ?_); (first | refine ex_i (s_ixV1 tabOk rfl rfl zcj rfl rfl rfl rfl rfl zle (by exact hbt)) ?_ | refine ex_i (s_ixStr tabOk rfl rfl zcj rfl rfl (by exact hbt)) ?_)))) | refine stA ?_ | (refine hK _ _ _ _ ?_; clear hK hX K) | (refine hX _ _ _ _ _ (by simp) ?_; clear hK hX K))
      exact ⟨i + 1, by omega, by omega, (by refine weak_ren [2] rfl rfl ?_ ?_ rfl rfl <;> (repeat' (first | exact weakER_nil | exact weakHR_nil | refine weakER_cons rfl (by first | rfl | (first | exact hA | exact congrArg (AObj.row 5) hrow) | exact zeq) rfl ?_ | refine weakHR_cons rfl (by first | rfl | (first | exact hA | exact congrArg (AObj.row 5) hrow) | exact zeq) rfl ?_)))⟩
    · have hu : upB b = false := by simpa using hu
      have hlet := letL_ok b hu
      by_cases hw : lowL b = true
      · rw [stW_low hu hw] at hOn hVn
        rw [← hOi] at hOn
        rw [← hVi] at hVn
        rw [hw] at hlet
        have hA := slA hOn.symm (ho i) (ho (i + 1))
        have hrow : u8c (V i) ++ [ub b] = u8c (V (i + 1)) := by rw [hVn]; exact u8_one _ _
        have hqe : q (i + 1) = q i + 1 := by rw [← hq, hVn, List.length_append, hq]; rfl
        clear hq0 hO hV hOi hVi hOn hVn hst hA0 hr0 hfin hVf hlast hbd hO0 hV0
        repeat' (first | ((with_reducible refine aw_seqk ?_); intro K hK hX) | ((with_reducible refine isC_reg ?_); refine aw_prune [0, 2, 3, 4, 5, 6, 7] rfl rfl ?_; with_reducible refine aw_region ?_) | ((with_reducible refine isA_call ?_); (first | refine zA ?_ | refine zN ?_); (first | refine c0 (hlet) ?_)) | (((with_reducible refine isA_any ?_); refine xA ?_); (first | ((with_reducible refine e_load ?_); (first | refine ex_i (s_load1 tabOk rfl rfl rfl rfl (by exact hbt)) ?_ | refine ex_i (s_load1r tabOk rfl rfl rfl rfl (by exact hbt)) ?_ | refine ex_i (s_load1i tabOk rfl rfl rfl (by exact hbt)) ?_)) | ((with_reducible refine e_ix ?_); (first | refine ex_i (s_ixV1 tabOk rfl rfl zcj rfl rfl rfl rfl rfl zle (by exact hbt)) ?_ | refine ex_i (s_ixStr tabOk rfl rfl zcj rfl rfl (by exact hbt)) ?_)))) | refine stA ?_ | (refine hK _ _ _ _ ?_; clear hK hX K) | (refine hX _ _ _ _ _ (by simp) ?_; clear hK hX K))
        exact ⟨i + 1, by omega, by omega, (by refine weak_ren [2] rfl rfl ?_ ?_ rfl rfl <;> (repeat' (first | exact weakER_nil | exact weakHR_nil | refine weakER_cons rfl (by first | rfl | (first | exact hA | exact congrArg (AObj.row 5) hrow) | exact zeq) rfl ?_ | refine weakHR_cons rfl (by first | rfl | (first | exact hA | exact congrArg (AObj.row 5) hrow) | exact zeq) rfl ?_)))⟩
      · have hw : lowL b = false := by simpa using hw
        rw [stW_end hu hw] at hOn hVn
        rw [hw] at hlet
        have hrow : ([] : List CV) = u8c (V (i + 1)) := by rw [hVn]; rfl
        have hqe : q (i + 1) = 0 := by rw [← hq, hVn]; rfl
        by_cases h0 : q i = 0
        · have hn : (S i).2 = [] := List.eq_nil_of_length_eq_zero (by rw [← hVi, hq, h0])
          simp only [hn, flW_nil, List.append_nil] at hOn
          rw [← hOi] at hOn
          have hA := slA hOn.symm (ho i) (ho (i + 1))
          clear hq0 hO hV hOi hVi hOn hVn hst hA0 hr0 hfin hVf hlast hbd hO0 hV0 hn
          repeat' (first | ((with_reducible refine aw_seqk ?_); intro K hK hX) | ((with_reducible refine isC_reg ?_); refine aw_prune [0, 2, 3, 4, 5, 6, 7] rfl rfl ?_; with_reducible refine aw_region ?_) | ((with_reducible refine isA_call ?_); (first | refine zA ?_ | refine zN ?_); (first | refine c0 (hlet) ?_)) | (((with_reducible refine isA_any ?_); refine xA ?_); (first | ((with_reducible refine e_load ?_); (first | refine ex_i (s_load1 tabOk rfl rfl rfl rfl (by exact hbt)) ?_ | refine ex_i (s_load1r tabOk rfl rfl rfl rfl (by exact hbt)) ?_ | refine ex_i (s_load1i tabOk rfl rfl rfl (by exact hbt)) ?_)) | ((with_reducible refine e_ix ?_); (first | refine ex_i (s_ixV1 tabOk rfl rfl zcj rfl rfl rfl rfl rfl zle (by exact hbt)) ?_ | refine ex_i (s_ixStr tabOk rfl rfl zcj rfl rfl (by exact hbt)) ?_)))) | refine stA ?_ | (refine hK _ _ _ _ ?_; clear hK hX K) | (refine hX _ _ _ _ _ (by simp) ?_; clear hK hX K))
          exact ⟨i + 1, by omega, by omega, weak_trans (weak_nilown (t := 4) (size := 1) 5 rfl) (by refine weak_ren [1] rfl rfl ?_ ?_ rfl rfl <;> (repeat' (first | exact weakER_nil | exact weakHR_nil | refine weakER_cons rfl (by first | rfl | (first | exact hA | exact congrArg (AObj.row 5) hrow) | exact zeq) rfl ?_ | refine weakHR_cons rfl (by first | rfl | (first | exact hA | exact congrArg (AObj.row 5) hrow) | exact zeq) rfl ?_)))⟩
        · have hn : (S i).2 ≠ [] := fun h => h0 (by rw [← hq, hVi, h]; rfl)
          simp only [flW_ne hn] at hOn
          rw [foldW_snoc, ← hOi, ← hVi] at hOn
          have hins := rins_ok (O i) (V i) (o i) (ho i) (by omega) (by rw [hq]; simp only [maxLen]; omega)
          have hA := slA hOn.symm rfl (ho (i + 1))
          generalize insW (O i) (V i) = R at hins hA
          clear hq0 hO hV hOi hVi hOn hVn hst hA0 hr0 hfin hVf hlast hbd hO0 hV0 hn
          repeat' (first | ((with_reducible refine aw_seqk ?_); intro K hK hX) | ((with_reducible refine isC_reg ?_); refine aw_prune [0, 2, 3, 4, 5, 6, 7] rfl rfl ?_; with_reducible refine aw_region ?_) | ((with_reducible refine isA_call ?_); (first | refine zA ?_ | refine zN ?_); (first | refine c0 (hlet) ?_ | refine c0 (hins) ?_)) | (((with_reducible refine isA_any ?_); refine xA ?_); (first | ((with_reducible refine e_load ?_); (first | refine ex_i (s_load1 tabOk rfl rfl rfl rfl (by exact hbt)) ?_ | refine ex_i (s_load1r tabOk rfl rfl rfl rfl (by exact hbt)) ?_ | refine ex_i (s_load1i tabOk rfl rfl rfl (by exact hbt)) ?_)) | ((with_reducible refine e_ix ?_); (first | refine ex_i (s_ixV1 tabOk rfl rfl zcj rfl rfl rfl rfl rfl zle (by exact hbt)) ?_ | refine ex_i (s_ixStr tabOk rfl rfl zcj rfl rfl (by exact hbt)) ?_)))) | refine stA ?_ | (refine hK _ _ _ _ ?_; clear hK hX K) | (refine hX _ _ _ _ _ (by simp) ?_; clear hK hX K))
          exact ⟨i + 1, by omega, by omega, weak_trans (weak_nilown (t := 4) (size := 1) 5 rfl) (by refine weak_ren [1] rfl rfl ?_ ?_ rfl rfl <;> (repeat' (first | exact weakER_nil | exact weakHR_nil | refine weakER_cons rfl (by first | rfl | (first | exact hA | exact congrArg (AObj.row 5) hrow) | exact zeq) rfl ?_ | refine weakHR_cons rfl (by first | rfl | (first | exact hA | exact congrArg (AObj.row 5) hrow) | exact zeq) rfl ?_)))⟩
  · by_cases hiN : i = N
    · rw [hiN] at ho1 hq1 hul hol ⊢
      have hON : O N = foldW (S N).1 := by rw [hO, if_pos (by omega)]
      have hVN : V N = (S N).2 := by rw [hV, if_pos (by omega)]
      have hrow : ([] : List CV) = u8c (V (N + 1)) := by rw [hVf]; rfl
      have hqe : q (N + 1) = 0 := by rw [← hq, hVf]; rfl
      by_cases h0 : q N = 0
      · have hn : (S N).2 = [] := List.eq_nil_of_length_eq_zero (by rw [← hVN, hq, h0])
        have hOn : O (N + 1) = O N := by rw [hfin, hlast, hn, flW_nil, List.append_nil, hON]
        have hA := slA hOn.symm (ho N) (ho (N + 1))
        clear hq0 hO hV hON hVN hOn hA0 hr0 hfin hVf hlast hbd hO0 hV0 hn
        repeat' (first | ((with_reducible refine aw_seqk ?_); intro K hK hX) | ((with_reducible refine isC_reg ?_); refine aw_prune [0, 2, 3, 4, 5, 6, 7] rfl rfl ?_; with_reducible refine aw_region ?_) | refine stA ?_ | (refine hK _ _ _ _ ?_; clear hK hX K) | (refine hX _ _ _ _ _ (by simp) ?_; clear hK hX K))
        exact ⟨N + 1, by omega, by omega, weak_trans (weak_nilown (t := 4) (size := 1) 5 rfl) (by refine weak_ren [1] rfl rfl ?_ ?_ rfl rfl <;> (repeat' (first | exact weakER_nil | exact weakHR_nil | refine weakER_cons rfl (by first | rfl | (first | exact hA | exact congrArg (AObj.row 5) hrow) | exact zeq) rfl ?_ | refine weakHR_cons rfl (by first | rfl | (first | exact hA | exact congrArg (AObj.row 5) hrow) | exact zeq) rfl ?_)))⟩
      · have hn : (S N).2 ≠ [] := fun h => h0 (by rw [← hq, hVN, h]; rfl)
        have hOn : O (N + 1) = insW (O N) (V N) := by rw [hfin, hlast, flW_ne hn, foldW_snoc, hON, hVN]
        have hins := rins_ok (O N) (V N) (o N) (ho N) (by omega) (by rw [hq]; simp only [maxLen]; omega)
        have hA := slA hOn.symm rfl (ho (N + 1))
        generalize insW (O N) (V N) = R at hins hA
        clear hq0 hO hV hON hVN hOn hA0 hr0 hfin hVf hlast hbd hO0 hV0 hn
        repeat' (first | ((with_reducible refine aw_seqk ?_); intro K hK hX) | ((with_reducible refine isC_reg ?_); refine aw_prune [0, 2, 3, 4, 5, 6, 7] rfl rfl ?_; with_reducible refine aw_region ?_) | ((with_reducible refine isA_call ?_); (first | refine zA ?_ | refine zN ?_); (first | refine c0 (hins) ?_)) | refine stA ?_ | (refine hK _ _ _ _ ?_; clear hK hX K) | (refine hX _ _ _ _ _ (by simp) ?_; clear hK hX K))
        exact ⟨N + 1, by omega, by omega, weak_trans (weak_nilown (t := 4) (size := 1) 5 rfl) (by refine weak_ren [1] rfl rfl ?_ ?_ rfl rfl <;> (repeat' (first | exact weakER_nil | exact weakHR_nil | refine weakER_cons rfl (by first | rfl | (first | exact hA | exact congrArg (AObj.row 5) hrow) | exact zeq) rfl ?_ | refine weakHR_cons rfl (by first | rfl | (first | exact hA | exact congrArg (AObj.row 5) hrow) | exact zeq) rfl ?_)))⟩
    · have hie : i = N + 1 := by omega
      have w1 : o (N + 1) = (wordsP l).length := by rw [← ho, hfin]
      have w2 : strc (O (N + 1)) = strc (wordsP l) := by rw [hfin]
      rw [hie]
      clear hq0 hO hV hA0 hr0 hfin hVf hlast hbd hO0 hV0
      repeat' (first | ((with_reducible refine aw_seqk ?_); intro K hK hX) | ((with_reducible refine isC_reg ?_); refine aw_prune [0, 2, 3, 4, 5, 6, 7] rfl rfl ?_; with_reducible refine aw_region ?_) | refine stA ?_ | (refine hK _ _ _ _ ?_; clear hK hX K) | (refine hX _ _ _ _ _ (by simp) ?_; clear hK hX K))
      refine retK_mk zio ztr rfl (ResL.one (ResA.tmp rfl)) (out_c (frz_cv (frz_c cv_rfl) (cv_sl w1 w2)))
end Go.Proofs.Ytccnhpaldmjkbaa
