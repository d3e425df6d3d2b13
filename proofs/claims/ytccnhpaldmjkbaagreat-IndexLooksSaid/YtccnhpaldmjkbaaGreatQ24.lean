/-
  Joined texts: I6 I7. Lemmas; no statement of a law.
-/
import Derived.Test.YtccnhpaldmjkbaaGreatQ23
set_option maxHeartbeats 16000000
set_option linter.unusedSimpArgs false
set_option linter.unusedVariables false
namespace Go.Proofs.YtccnhpaldmjkbaaGreat
open Go Go.RowKit Go.Av
set_option maxRecDepth 100000
theorem ib_idle : Idle Tryz.prog 92 0 := by
  intro us w hl
  obtain ⟨_, rfl⟩ : ∃ _ : Unit, us = [] := by
    match us, hl with | [], _ => exact ⟨(), rfl⟩
  refine callsD_of_wpS Tryz.func92 rfl fun c₀ cs hu => ?_
  apply wpS_region
  simp [wpOpsS, go_sem, recoverD, hu, Tryz.ntmps92, Exit.thenS]
  cases c₀
  simp_all [bodyPostS, results, Tryz.results92]
theorem ib_idle_b : Body Tryz.prog 92 := by unfold Body; kernel_rfl
theorem run_neqV (a b : Vl) (w : World) : (binOp .neq 51 (.agg #[.int .i64 a.k, .int .i64 a.n, .string ⟨a.t.toArray⟩]) (.agg #[.int .i64 b.k, .int .i64 b.n, .string ⟨b.t.toArray⟩])).run Tryz.prog w = .ok (.bool (!decide (a = b))) w := by
  have h := wT a b w
  rw [run_eql_struct] at h
  rw [run_neq_struct]
  generalize (Op.equalIn 10000 51 (.agg #[.int .i64 a.k, .int .i64 a.n, .string ⟨a.t.toArray⟩]) (.agg #[.int .i64 b.k, .int .i64 b.n, .string ⟨b.t.toArray⟩])).run Tryz.prog w = E at h ⊢
  cases E with
  | ok b' w' =>
    simp only [Result.andThen, Result.ok.injEq, Value.bool.injEq] at h ⊢
    obtain ⟨h1, h2⟩ := h
    exact ⟨by rw [h1], h2⟩
  | _ => simp [Result.andThen] at h
theorem s_neqV {ev : Evl} {h : Heap} {d : Option Tmp} {T' ty : TypeId} {x y : Operand} {pos : String} {aft : Array Edge} {gd : Option (Nat × Bool)} {a b : Vl} {r : Bool} (hx : ev x = some (.c (.agg a.c))) (hy : ev y = some (.c (.agg b.c))) (hr : (!decide (a = b)) = r) : Still Tryz.prog ⟨d, .binOp .neq 51 x y T', ty, pos, aft, gd⟩ ev h (.c (.v (.bool r))) := by
  intro B dom M H w s hh hc he
  have h1 := he x _ hx
  have h2 := he y _ hy
  simp only [Rep, RepC, Vl.c] at h1 h2
  obtain ⟨us, h1, h3, _⟩ := h1
  obtain ⟨vs, h2, h4, _⟩ := h2
  have h3 := RepCs.of_plain (vs := [.int .i64 a.k, .int .i64 a.n, .string ⟨a.t.toArray⟩]) h3
  have h4 := RepCs.of_plain (vs := [.int .i64 b.k, .int .i64 b.n, .string ⟨b.t.toArray⟩]) h4
  subst h3 h4
  refine ⟨_, ?_, rfl⟩
  have := run_neqV a b w
  rw [hr] at this
  simp only [execOp, h1, h2, Sem.run_bind, rW (P := Tryz.prog) w (by kernel_rfl : Tryz.prog.eqGuardType Tryz.prog.depth 51 = false), Result.andThen_ok]
  rw [this]
  rfl
attribute [local irreducible] Still Adds AWL AW Drw DrwE EStep AC AWR Weak Frz Src RetK Out InK ItK AsK RdK
theorem wV (r : List Vl) (n : Nat) (hn : r.length = n) (hm : n ≤ 1000000) : AC Tryz.prog 42 [.sl 3 n (rc r), .sl 3 n (rc r)] (.c (bv true)) [] 0 := by
  have hcl : (rc r).length = n * 3 := by rw [dT, hn]
  refine aJ tabOk (sz := 26) Tryz.func42 rfl (by rw [Tryz.ntmps42]; rfl) ?_
  repeat' (first | ((with_reducible refine aB ?_); intro K hK hX) | ((with_reducible refine aC ?_); refine aD [0, 1, 4, 5] rfl rfl ?_) | ((with_reducible refine aF ?_); refine aG [0, 1, 4, 5] rfl rfl ?_; refine aI [] ?_) | ((first | ((with_reducible refine aH ?_); refine xA ?_) | ((with_reducible refine aO ?_); refine xD ?_)); (first | ((with_reducible refine aU ?_); (first | refine aA (dV rfl rfl rfl (decide_eq_false (by omega))) ?_)))) | refine stA ?_ | refine stD ?_ | ((first | refine hK _ _ _ _ ?_ | refine hX _ _ _ _ _ (by simp) ?_); clear hK hX K))
  refine bC [5] [] rfl rfl (fun i : Nat => [(5, .c (iv i))]) (fun i => []) (fun i => i ≤ n) (fun i => n - i) 0 (Nat.zero_le _) weakA ?_
  intro i hi K hK hX
  by_cases hik : i < n
  · obtain ⟨v, hv⟩ : ∃ v, r[i]? = some v := ⟨_, List.getElem?_eq_getElem (by omega)⟩
    have hat := jH hv
    repeat' (first | ((with_reducible refine aB ?_); intro K hK hX) | ((with_reducible refine aC ?_); refine aD [0, 1, 4, 5] rfl rfl ?_) | ((with_reducible refine aF ?_); refine aG [0, 1, 4, 5] rfl rfl ?_; refine aI [] ?_) | ((first | ((with_reducible refine aH ?_); refine xA ?_) | ((with_reducible refine aO ?_); refine xD ?_)); (first | ((with_reducible refine aU ?_); (first | refine aA (s_neqV (a := v) (b := v) rfl rfl (show (!decide (v = v)) = false by simp)) ?_)) | ((with_reducible refine aP ?_); (first | refine aA (aW tabOk rfl rfl rfl rfl (by first | exact hat | exact whole0 (by first | rfl | omega) | rfl) zln) ?_ | refine aA (aV tabOk rfl rfl rfl (by first | exact hat | exact whole0 (by first | rfl | omega) | rfl) zln) ?_)) | ((with_reducible refine bE ?_); (first | refine aA (s_slArri tabOk rfl rfl rfl rfl zbd zbd zle zle (by decide) (by first | exact hat | exact whole0 (by first | rfl | omega) | rfl) zln) ?_)))) | refine stA ?_ | refine stD ?_ | ((first | refine hK _ _ _ _ ?_ | refine hX _ _ _ _ _ (by simp) ?_); clear hK hX K))
    exact ⟨i + 1, by omega, by omega, weakA⟩
  · have hie : i = n := by omega
    rw [hie]
    repeat' (first | ((with_reducible refine aB ?_); intro K hK hX) | ((with_reducible refine aC ?_); refine aD [0, 1, 4, 5] rfl rfl ?_) | ((with_reducible refine aF ?_); refine aG [0, 1, 4, 5] rfl rfl ?_; refine aI [] ?_) | refine stA ?_ | refine stD ?_ | ((first | refine hK _ _ _ _ ?_ | refine hX _ _ _ _ _ (by simp) ?_); clear hK hX K))
    refine aK zio ztr rfl (ResL.one (ResA.tmp rfl)) zou
theorem sameP_ok (p : List Po) (n : Nat) (hn : p.length = n) (hm : n ≤ 1000000) (hR : ∀ x ∈ p, x.r.length ≤ 1000000) : AC Tryz.prog 48 [.sl 3 n (pc p), .sl 3 n (pc p)] (.c (bv true)) [] 0 := by
  have hcl : (pc p).length = n * 3 := by rw [bQ, hn]
  refine aJ tabOk (sz := 55) Tryz.func48 rfl (by rw [Tryz.ntmps48]; rfl) ?_
  repeat' (first | ((with_reducible refine aB ?_); intro K hK hX) | ((with_reducible refine aC ?_); refine aD [0, 1, 4, 5] rfl rfl ?_) | ((with_reducible refine aF ?_); refine aG [0, 1, 4, 5] rfl rfl ?_; refine aI [] ?_) | ((first | ((with_reducible refine aH ?_); refine xA ?_) | ((with_reducible refine aO ?_); refine xD ?_)); (first | ((with_reducible refine aU ?_); (first | refine aA (dV rfl rfl rfl (decide_eq_false (by omega))) ?_)))) | refine stA ?_ | refine stD ?_ | ((first | refine hK _ _ _ _ ?_ | refine hX _ _ _ _ _ (by simp) ?_); clear hK hX K))
  refine bC [5] [] rfl rfl (fun i : Nat => [(5, .c (iv i))]) (fun i => []) (fun i => i ≤ n) (fun i => n - i) 0 (Nat.zero_le _) weakA ?_
  intro i hi K hK hX
  by_cases hik : i < n
  · obtain ⟨x, hx⟩ : ∃ x, p[i]? = some x := ⟨_, List.getElem?_eq_getElem (by omega)⟩
    have a0 := pc_w hx
    have a1 := pc_r hx
    have a2 := pc_n hx
    have hsr := wV x.r x.r.length rfl (hR x (List.mem_of_getElem? hx))
    obtain ⟨w, r, c⟩ := x
    simp only at *
    have hne : (!decide (w = w)) = false := by simp
    have hnn : decide (c ≠ c) = false := by simp
    repeat' (first | ((with_reducible refine aB ?_); intro K hK hX) | ((with_reducible refine aC ?_); refine aD [0, 1, 4, 5] rfl rfl ?_) | ((with_reducible refine aF ?_); refine aG [0, 1, 4, 5] rfl rfl ?_; refine aI [] ?_) | ((first | with_reducible refine aE ?_ | with_reducible refine aT ?_); (first | refine zA ?_ | refine zN ?_ | refine zD ?_); (first | refine c0 hsr ?_)) | ((first | ((with_reducible refine aH ?_); refine xA ?_) | ((with_reducible refine aO ?_); refine xD ?_)); (first | ((with_reducible refine aU ?_); (first | refine aA (tV rfl rfl hne) ?_ | refine aA (dV rfl rfl rfl hnn) ?_)) | ((with_reducible refine aP ?_); (first | refine aA (aR tabOk rfl rfl rfl rfl (by first | exact a0 | exact a1 | exact a2)) ?_ | refine aA (aN tabOk rfl rfl rfl rfl (by first | exact a0 | exact a1 | exact a2)) ?_ | refine aA (aM tabOk rfl rfl rfl (by first | exact a0 | exact a1 | exact a2)) ?_)) | ((with_reducible refine bR ?_); (first | refine aA (s_ixV1 tabOk rfl rfl zcj rfl rfl rfl rfl rfl zle (by first | exact a0 | exact a1 | exact a2)) ?_ | refine aA (aQ tabOk rfl rfl zcj rfl rfl (by first | exact a0 | exact a1 | exact a2)) ?_)))) | refine stA ?_ | refine stD ?_ | ((first | refine hK _ _ _ _ ?_ | refine hX _ _ _ _ _ (by simp) ?_); clear hK hX K))
    exact ⟨i + 1, by omega, by omega, weakA⟩
  · have hie : i = n := by omega
    rw [hie]
    repeat' (first | ((with_reducible refine aB ?_); intro K hK hX) | ((with_reducible refine aC ?_); refine aD [0, 1, 4, 5] rfl rfl ?_) | ((with_reducible refine aF ?_); refine aG [0, 1, 4, 5] rfl rfl ?_; refine aI [] ?_) | refine stA ?_ | refine stD ?_ | ((first | refine hK _ _ _ _ ?_ | refine hX _ _ _ _ _ (by simp) ?_); clear hK hX K))
    refine aK zio ztr rfl (ResL.one (ResA.tmp rfl)) zou
open Classical in
theorem ibuild_ok (b : List En) (n : Nat) (hn : b.length = n) (hf : fitB b) (hp : posP b) (col : Nat) (hc : (col : Int) ≤ 9223372036854775807) (M : Nat) (hM : (postP (prs col b)).length = M) : AC Tryz.prog 40 [.sl 2 n (ec b), iv col] (.tup [.c (.sl 3 M (pc (postP (prs col b)))), .c (iv 0)]) [] 0 := by
  have hn2 : n ≤ 4096 := by rw [← hn]; exact hp.1.1
  have h1 := pos_ok b n hn (by simp only [maxLen]; omega) hf
  rw [decide_eq_true hp] at h1
  have hrow : ∀ e ∈ b, rowP e.r := fun e he => by
    obtain ⟨i, hi⟩ := List.mem_iff_getElem?.1 he
    exact (hp.1.2 i (List.getElem?_eq_some_iff.1 hi).1 e hi).1.2.2
  have h2 := wH b n hn hn2 hrow col hc M hM
  generalize pc (postP (prs col b)) = R at h2 ⊢
  clear hp hrow hM hf hn
  refine aJ tabOk (sz := 16) Tryz.func40 rfl (by rw [Tryz.ntmps40]; rfl) ?_
  repeat' (first | ((with_reducible refine aB ?_); intro K hK hX) | ((with_reducible refine aC ?_); refine aD [0, 1, 4, 5] rfl rfl ?_) | ((with_reducible refine aE ?_); (first | refine zA ?_ | refine zN ?_); (first | refine c0 h1 ?_ | refine c0 h2 ?_)) | refine stA ?_ | ((first | refine hK _ _ _ _ ?_ | refine hX _ _ _ _ _ (by simp) ?_); clear hK hX K))
  refine aK zio (by exact ⟨ib_idle, ib_idle_b, trivial⟩) rfl (ResL.two (ResA.tmp rfl) (ResA.tmp rfl)) (jG (bV zfz (bV zfz dG)))
end Go.Proofs.YtccnhpaldmjkbaaGreat
namespace Go.Av
open Go Go.RowKit
theorem aw_cv {P : Program} {sz n : Nat} {c : Code} {K : AK} {env : Env} {h : Heap} {dfs : Defs} (t : Nat) {x : CV} (y : CV) (hx : lkE env t = some (.c x)) (hc : Cv x y) (next : AW P sz c K n ((t, .c y) :: env) h dfs) : AW P sz c K n env h dfs := by
  intro B a w hcn
  obtain ⟨M, c1, c2, c3, c4⟩ := hcn
  refine next B a w ⟨M, c1, c2, fun t' av ht => ?_, c4⟩
  rw [cW] at ht
  split at ht
  · rename_i e
    subst e
    injection ht with ht
    subst ht
    have := c3 _ _ hx
    simp only [Rep] at this ⊢
    exact hc _ _ _ this
  · exact c3 t' av ht
end Go.Av
namespace Go.Proofs.YtccnhpaldmjkbaaGreat
open Go Go.RowKit Go.Av
set_option maxRecDepth 100000
theorem u8_one (w : Wd) (b : UInt8) : u8c w ++ [ub b] = u8c (w ++ [b]) := by simp [u8c, ub]
theorem slA {a b : Nat} {l m : List Wd} (h : l = m) (ha : l.length = a) (hb : m.length = b) : AV.c (.sl 1 a (strc l)) = AV.c (.sl 1 b (strc m)) := by subst h; rw [← ha, ← hb]
attribute [local irreducible] Still Adds AWL AW Drw DrwE EStep AC AWR Weak Frz Src RetK Out InK ItK AsK RdK
theorem sL (l : Wd) (hl : l.length ≤ 1000000) : AC Tryz.prog 106 [sv l] (.c (.sl 1 (wordsP l).length (strc (wordsP l)))) [] 0 := by
  obtain ⟨N, hN⟩ : ∃ N, l.length = N := ⟨_, rfl⟩
  have hsz := kF l
  rw [hN] at hl hsz
  obtain ⟨S, hS⟩ : ∃ S : Nat → List Wd × Wd, ∀ i, S i = runW (l.take i) := ⟨_, fun _ => rfl⟩
  obtain ⟨O, hO⟩ : ∃ O : Nat → List Wd, ∀ i, O i = if i ≤ N then foldW (S i).1 else wordsP l := ⟨_, fun _ => rfl⟩
  obtain ⟨V, hV⟩ : ∃ V : Nat → Wd, ∀ i, V i = if i ≤ N then (S i).2 else [] := ⟨_, fun _ => rfl⟩
  obtain ⟨o, ho⟩ : ∃ o : Nat → Nat, ∀ i, (O i).length = o i := ⟨_, fun _ => rfl⟩
  obtain ⟨q, hq⟩ : ∃ q : Nat → Nat, ∀ i, (V i).length = q i := ⟨_, fun _ => rfl⟩
  have hO0 : [] = O 0 := by rw [hO, hS]; rfl
  have hV0 : [] = V 0 := by rw [hV, hS]; rfl
  have hA0 : AV.c (.sl 1 0 []) = AV.c (.sl 1 (o 0) (strc (O 0))) := slA (l := []) hO0 rfl (ho 0)
  have hq0 : 0 = q 0 := by rw [← hq, ← hV0]; rfl
  have hr0 : ([] : List CV) = u8c (V 0) := by rw [← hV0]; rfl
  have hbd : ∀ i, o i ≤ 1000000 ∧ q i ≤ 1000000 := fun i => by
    obtain ⟨k1, k2, k3⟩ := qM (l.take i)
    rw [← hS, List.length_take, hN] at k1
    have k4 := (jT (S i).1).2.2
    have k5 := (eK l).1
    rw [← ho, ← hq, hO, hV]
    split
    · omega
    · exact ⟨by omega, by simp⟩
  have hfin : O (N + 1) = wordsP l := by rw [hO, if_neg (by omega)]
  have hVf : V (N + 1) = [] := by rw [hV, if_neg (by omega)]
  have hlast : wordsP l = foldW ((O N |> fun _ => (S N).1) ++ flW (S N).2) := by
    unfold wordsP
    rw [← foldW_set, hS, List.take_of_length_le (by omega)]; rfl
  refine aJ tabOk (sz := 38) Tryz.func106 rfl (by rw [Tryz.ntmps106]; rfl) ?_
  repeat' (first | ((with_reducible refine aB ?_); intro K hK hX) | ((with_reducible refine aC ?_); refine aD [0, 2, 3, 4, 5, 6, 7] rfl rfl ?_) | refine stA ?_ | ((first | refine hK _ _ _ _ ?_ | refine hX _ _ _ _ _ (by simp) ?_); clear hK hX K))
  refine aw_cv 3 (.sl 1 0 []) rfl eB ?_
  refine dK 4 5 1 rfl ?_
  refine bC [3, 4, 5, 6, 7] [0] rfl rfl (fun i : Nat => [(3, .c (.sl 1 (o i) (strc (O i)))), (4, .own 0 0 (q i) 1 true), (5, .c (iv i))]) (fun i => [(0, .row 5 (u8c (V i)))]) (fun i => i ≤ N + 1) (fun i => N + 1 - i) 0 (Nat.zero_le _) (by refine bZ rfl ?_ ?_ rfl <;> (repeat' (first | exact bG | exact bM | refine aZ rfl (by first | rfl | (first | exact hA0 | exact congrArg (fun x => AV.own 0 0 x 1 true) hq0 | exact congrArg (AObj.row 5) hr0) | exact zeq) rfl ?_ | refine aY rfl (by first | rfl | (first | exact hA0 | exact congrArg (fun x => AV.own 0 0 x 1 true) hq0 | exact congrArg (AObj.row 5) hr0) | exact zeq) rfl ?_))) ?_
  intro i hi K hK hX
  obtain ⟨ho1, hq1⟩ := hbd i
  have hul : (u8c (V i)).length = q i := by rw [cZ, hq]
  have hol : (strc (O i)).length = o i := by rw [bU, ho]
  by_cases hlt : i < N
  · obtain ⟨b, hb⟩ : ∃ b, l[i]? = some b := ⟨l[i]'(by omega), List.getElem?_eq_getElem _⟩
    have hbt : (⟨l.toArray⟩ : ByteArray).data[i]? = some b := by simp [hb]
    have hst : S (i + 1) = stW (S i) b := by rw [hS, hS]; exact sK hb
    have hOi : O i = foldW (S i).1 := by rw [hO, if_pos (by omega)]
    have hVi : V i = (S i).2 := by rw [hV, if_pos (by omega)]
    have hOn : O (i + 1) = foldW (S (i + 1)).1 := by rw [hO, if_pos (by omega)]
    have hVn : V (i + 1) = (S (i + 1)).2 := by rw [hV, if_pos (by omega)]
    rw [hst] at hOn hVn
    by_cases hu : upB b = true
    · rw [stW_up hu] at hOn hVn
      rw [← hOi] at hOn
      rw [← hVi] at hVn
      have hlet := letU_ok b hu
      have hA := slA hOn.symm (ho i) (ho (i + 1))
      have hrow : u8c (V i) ++ [ub (b + 32)] = u8c (V (i + 1)) := by rw [hVn]; exact u8_one _ _
      have hqe : q (i + 1) = q i + 1 := by rw [← hq, hVn, List.length_append, hq]; rfl
      clear hq0 hO hV hOi hVi hOn hVn hst hA0 hr0 hfin hVf hlast hbd hO0 hV0
      repeat' (first | ((with_reducible refine aB ?_); intro K hK hX) | ((with_reducible refine aC ?_); refine aD [0, 2, 3, 4, 5, 6, 7] rfl rfl ?_) | ((with_reducible refine aE ?_); (first | refine zA ?_ | refine zN ?_); (first | refine c0 hlet ?_)) | (((with_reducible refine aH ?_); refine xA ?_); (first | ((with_reducible refine aP ?_); (first | refine aA (aR tabOk rfl rfl rfl rfl (by exact hbt)) ?_ | refine aA (aN tabOk rfl rfl rfl rfl (by exact hbt)) ?_ | refine aA (aM tabOk rfl rfl rfl (by exact hbt)) ?_)) | ((with_reducible refine bR ?_); (first | refine aA (s_ixV1 tabOk rfl rfl zcj rfl rfl rfl rfl rfl zle (by exact hbt)) ?_ | refine aA (aQ tabOk rfl rfl zcj rfl rfl (by exact hbt)) ?_)))) | refine stA ?_ | ((first | refine hK _ _ _ _ ?_ | refine hX _ _ _ _ _ (by simp) ?_); clear hK hX K))
      exact ⟨i + 1, by omega, by omega, (by refine bS [2] rfl rfl ?_ ?_ rfl rfl <;> (repeat' (first | exact bI | exact bJ | refine bF rfl (by first | rfl | (first | exact hA | exact congrArg (AObj.row 5) hrow) | exact zeq) rfl ?_ | refine bB rfl (by first | rfl | (first | exact hA | exact congrArg (AObj.row 5) hrow) | exact zeq) rfl ?_)))⟩
    · have hu : upB b = false := by simpa using hu
      have hlet := letL_ok b hu
      by_cases hw : lowL b = true
      · rw [oV hu hw] at hOn hVn
        rw [← hOi] at hOn
        rw [← hVi] at hVn
        rw [hw] at hlet
        have hA := slA hOn.symm (ho i) (ho (i + 1))
        have hrow : u8c (V i) ++ [ub b] = u8c (V (i + 1)) := by rw [hVn]; exact u8_one _ _
        have hqe : q (i + 1) = q i + 1 := by rw [← hq, hVn, List.length_append, hq]; rfl
        clear hq0 hO hV hOi hVi hOn hVn hst hA0 hr0 hfin hVf hlast hbd hO0 hV0
        repeat' (first | ((with_reducible refine aB ?_); intro K hK hX) | ((with_reducible refine aC ?_); refine aD [0, 2, 3, 4, 5, 6, 7] rfl rfl ?_) | ((with_reducible refine aE ?_); (first | refine zA ?_ | refine zN ?_); (first | refine c0 hlet ?_)) | (((with_reducible refine aH ?_); refine xA ?_); (first | ((with_reducible refine aP ?_); (first | refine aA (aR tabOk rfl rfl rfl rfl (by exact hbt)) ?_ | refine aA (aN tabOk rfl rfl rfl rfl (by exact hbt)) ?_ | refine aA (aM tabOk rfl rfl rfl (by exact hbt)) ?_)) | ((with_reducible refine bR ?_); (first | refine aA (s_ixV1 tabOk rfl rfl zcj rfl rfl rfl rfl rfl zle (by exact hbt)) ?_ | refine aA (aQ tabOk rfl rfl zcj rfl rfl (by exact hbt)) ?_)))) | refine stA ?_ | ((first | refine hK _ _ _ _ ?_ | refine hX _ _ _ _ _ (by simp) ?_); clear hK hX K))
        exact ⟨i + 1, by omega, by omega, (by refine bS [2] rfl rfl ?_ ?_ rfl rfl <;> (repeat' (first | exact bI | exact bJ | refine bF rfl (by first | rfl | (first | exact hA | exact congrArg (AObj.row 5) hrow) | exact zeq) rfl ?_ | refine bB rfl (by first | rfl | (first | exact hA | exact congrArg (AObj.row 5) hrow) | exact zeq) rfl ?_)))⟩
      · have hw : lowL b = false := by simpa using hw
        rw [uG hu hw] at hOn hVn
        rw [hw] at hlet
        have hrow : ([] : List CV) = u8c (V (i + 1)) := by rw [hVn]; rfl
        have hqe : q (i + 1) = 0 := by rw [← hq, hVn]; rfl
        by_cases h0 : q i = 0
        · have hn : (S i).2 = [] := List.eq_nil_of_length_eq_zero (by rw [← hVi, hq, h0])
          simp only [hn, kM, List.append_nil] at hOn
          rw [← hOi] at hOn
          have hA := slA hOn.symm (ho i) (ho (i + 1))
          clear hq0 hO hV hOi hVi hOn hVn hst hA0 hr0 hfin hVf hlast hbd hO0 hV0 hn
          repeat' (first | ((with_reducible refine aB ?_); intro K hK hX) | ((with_reducible refine aC ?_); refine aD [0, 2, 3, 4, 5, 6, 7] rfl rfl ?_) | ((with_reducible refine aE ?_); (first | refine zA ?_ | refine zN ?_); (first | refine c0 hlet ?_)) | (((with_reducible refine aH ?_); refine xA ?_); (first | ((with_reducible refine aP ?_); (first | refine aA (aR tabOk rfl rfl rfl rfl (by exact hbt)) ?_ | refine aA (aN tabOk rfl rfl rfl rfl (by exact hbt)) ?_ | refine aA (aM tabOk rfl rfl rfl (by exact hbt)) ?_)) | ((with_reducible refine bR ?_); (first | refine aA (s_ixV1 tabOk rfl rfl zcj rfl rfl rfl rfl rfl zle (by exact hbt)) ?_ | refine aA (aQ tabOk rfl rfl zcj rfl rfl (by exact hbt)) ?_)))) | refine stA ?_ | ((first | refine hK _ _ _ _ ?_ | refine hX _ _ _ _ _ (by simp) ?_); clear hK hX K))
          exact ⟨i + 1, by omega, by omega, eR (gB (t := 4) (size := 1) 5 rfl) (by refine bS [1] rfl rfl ?_ ?_ rfl rfl <;> (repeat' (first | exact bI | exact bJ | refine bF rfl (by first | rfl | (first | exact hA | exact congrArg (AObj.row 5) hrow) | exact zeq) rfl ?_ | refine bB rfl (by first | rfl | (first | exact hA | exact congrArg (AObj.row 5) hrow) | exact zeq) rfl ?_)))⟩
        · have hn : (S i).2 ≠ [] := fun h => h0 (by rw [← hq, hVi, h]; rfl)
          simp only [nB hn] at hOn
          rw [lD, ← hOi, ← hVi] at hOn
          have hins := rins_ok (O i) (V i) (o i) (ho i) (by omega) (by rw [hq]; simp only [maxLen]; omega)
          have hA := slA hOn.symm rfl (ho (i + 1))
          generalize insW (O i) (V i) = R at hins hA
          clear hq0 hO hV hOi hVi hOn hVn hst hA0 hr0 hfin hVf hlast hbd hO0 hV0 hn
          repeat' (first | ((with_reducible refine aB ?_); intro K hK hX) | ((with_reducible refine aC ?_); refine aD [0, 2, 3, 4, 5, 6, 7] rfl rfl ?_) | ((with_reducible refine aE ?_); (first | refine zA ?_ | refine zN ?_); (first | refine c0 hlet ?_ | refine c0 hins ?_)) | (((with_reducible refine aH ?_); refine xA ?_); (first | ((with_reducible refine aP ?_); (first | refine aA (aR tabOk rfl rfl rfl rfl (by exact hbt)) ?_ | refine aA (aN tabOk rfl rfl rfl rfl (by exact hbt)) ?_ | refine aA (aM tabOk rfl rfl rfl (by exact hbt)) ?_)) | ((with_reducible refine bR ?_); (first | refine aA (s_ixV1 tabOk rfl rfl zcj rfl rfl rfl rfl rfl zle (by exact hbt)) ?_ | refine aA (aQ tabOk rfl rfl zcj rfl rfl (by exact hbt)) ?_)))) | refine stA ?_ | ((first | refine hK _ _ _ _ ?_ | refine hX _ _ _ _ _ (by simp) ?_); clear hK hX K))
          exact ⟨i + 1, by omega, by omega, eR (gB (t := 4) (size := 1) 5 rfl) (by refine bS [1] rfl rfl ?_ ?_ rfl rfl <;> (repeat' (first | exact bI | exact bJ | refine bF rfl (by first | rfl | (first | exact hA | exact congrArg (AObj.row 5) hrow) | exact zeq) rfl ?_ | refine bB rfl (by first | rfl | (first | exact hA | exact congrArg (AObj.row 5) hrow) | exact zeq) rfl ?_)))⟩
  · by_cases hiN : i = N
    · rw [hiN] at ho1 hq1 hul hol ⊢
      have hON : O N = foldW (S N).1 := by rw [hO, if_pos (by omega)]
      have hVN : V N = (S N).2 := by rw [hV, if_pos (by omega)]
      have hrow : ([] : List CV) = u8c (V (N + 1)) := by rw [hVf]; rfl
      have hqe : q (N + 1) = 0 := by rw [← hq, hVf]; rfl
      by_cases h0 : q N = 0
      · have hn : (S N).2 = [] := List.eq_nil_of_length_eq_zero (by rw [← hVN, hq, h0])
        have hOn : O (N + 1) = O N := by rw [hfin, hlast, hn, kM, List.append_nil, hON]
        have hA := slA hOn.symm (ho N) (ho (N + 1))
        clear hq0 hO hV hON hVN hOn hA0 hr0 hfin hVf hlast hbd hO0 hV0 hn
        repeat' (first | ((with_reducible refine aB ?_); intro K hK hX) | ((with_reducible refine aC ?_); refine aD [0, 2, 3, 4, 5, 6, 7] rfl rfl ?_) | refine stA ?_ | ((first | refine hK _ _ _ _ ?_ | refine hX _ _ _ _ _ (by simp) ?_); clear hK hX K))
        exact ⟨N + 1, by omega, by omega, eR (gB (t := 4) (size := 1) 5 rfl) (by refine bS [1] rfl rfl ?_ ?_ rfl rfl <;> (repeat' (first | exact bI | exact bJ | refine bF rfl (by first | rfl | (first | exact hA | exact congrArg (AObj.row 5) hrow) | exact zeq) rfl ?_ | refine bB rfl (by first | rfl | (first | exact hA | exact congrArg (AObj.row 5) hrow) | exact zeq) rfl ?_)))⟩
      · have hn : (S N).2 ≠ [] := fun h => h0 (by rw [← hq, hVN, h]; rfl)
        have hOn : O (N + 1) = insW (O N) (V N) := by rw [hfin, hlast, nB hn, lD, hON, hVN]
        have hins := rins_ok (O N) (V N) (o N) (ho N) (by omega) (by rw [hq]; simp only [maxLen]; omega)
        have hA := slA hOn.symm rfl (ho (N + 1))
        generalize insW (O N) (V N) = R at hins hA
        clear hq0 hO hV hON hVN hOn hA0 hr0 hfin hVf hlast hbd hO0 hV0 hn
        repeat' (first | ((with_reducible refine aB ?_); intro K hK hX) | ((with_reducible refine aC ?_); refine aD [0, 2, 3, 4, 5, 6, 7] rfl rfl ?_) | ((with_reducible refine aE ?_); (first | refine zA ?_ | refine zN ?_); (first | refine c0 hins ?_)) | refine stA ?_ | ((first | refine hK _ _ _ _ ?_ | refine hX _ _ _ _ _ (by simp) ?_); clear hK hX K))
        exact ⟨N + 1, by omega, by omega, eR (gB (t := 4) (size := 1) 5 rfl) (by refine bS [1] rfl rfl ?_ ?_ rfl rfl <;> (repeat' (first | exact bI | exact bJ | refine bF rfl (by first | rfl | (first | exact hA | exact congrArg (AObj.row 5) hrow) | exact zeq) rfl ?_ | refine bB rfl (by first | rfl | (first | exact hA | exact congrArg (AObj.row 5) hrow) | exact zeq) rfl ?_)))⟩
    · have hie : i = N + 1 := by omega
      have w1 : o (N + 1) = (wordsP l).length := by rw [← ho, hfin]
      have w2 : strc (O (N + 1)) = strc (wordsP l) := by rw [hfin]
      rw [hie]
      clear hq0 hO hV hA0 hr0 hfin hVf hlast hbd hO0 hV0
      repeat' (first | ((with_reducible refine aB ?_); intro K hK hX) | ((with_reducible refine aC ?_); refine aD [0, 2, 3, 4, 5, 6, 7] rfl rfl ?_) | refine stA ?_ | ((first | refine hK _ _ _ _ ?_ | refine hX _ _ _ _ _ (by simp) ?_); clear hK hX K))
      refine aK zio ztr rfl (ResL.one (ResA.tmp rfl)) (cE (bO (bY bL) (dA w1 w2)))
end Go.Proofs.YtccnhpaldmjkbaaGreat
