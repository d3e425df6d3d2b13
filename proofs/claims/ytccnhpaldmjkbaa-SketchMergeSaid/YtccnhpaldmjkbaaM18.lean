/-
  Joined texts: U13. Lemmas; no statement of a law.
-/
import Derived.Test.YtccnhpaldmjkbaaM1
import Derived.Test.YtccnhpaldmjkbaaM2
import Derived.Test.YtccnhpaldmjkbaaM3
import Derived.Test.YtccnhpaldmjkbaaM4
import Derived.Test.YtccnhpaldmjkbaaM5
import Derived.Test.YtccnhpaldmjkbaaM6
import Derived.Test.YtccnhpaldmjkbaaM7
import Derived.Test.YtccnhpaldmjkbaaM9
import Derived.Test.YtccnhpaldmjkbaaM10
import Derived.Test.YtccnhpaldmjkbaaM13
import Derived.Test.YtccnhpaldmjkbaaM14
import Derived.Test.YtccnhpaldmjkbaaM15
import Derived.Test.YtccnhpaldmjkbaaM16
import Derived.Test.YtccnhpaldmjkbaaM17
/-
  The law SketchMerge (walk), and its kinds of sketches.
-/
set_option linter.unusedVariables false
set_option linter.unusedSimpArgs false
namespace Go.Proofs.Ytccnhpaldmjkbaa
open Go Go.RowKit Go.Av
set_option maxRecDepth 100000
theorem wsum_hit {g : List Vl → Int} (hg : ∀ r, 0 ≤ g r) : ∀ {b : List En}, (∀ e ∈ b, 0 < e.n) → 0 ≤ wsum g b ∧ ((∃ e ∈ b, 0 < g e.r) ↔ 0 < wsum g b)
  | [], _ => by simp [wsum]
  | e :: b, h => by
    obtain ⟨h1, h2⟩ := wsum_hit hg (b := b) fun e he => h e (by simp [he])
    have h3 := h e (by simp)
    have h4 := hg e.r
    have h5 : 0 ≤ e.n * g e.r := Int.mul_nonneg (by omega) h4
    rw [wsum_cons]
    refine ⟨by omega, ?_⟩
    constructor
    · rintro ⟨f, hf, hh⟩
      rcases List.mem_cons.1 hf with rfl | hf
      · have : 0 < f.n * g f.r := Int.mul_pos h3 hh
        omega
      · have := h2.1 ⟨f, hf, hh⟩
        omega
    · intro hh
      by_cases h6 : 0 < g e.r
      · exact ⟨e, by simp, h6⟩
      · have h7 : g e.r = 0 := by omega
        rw [h7, Int.mul_zero, Int.zero_add] at hh
        obtain ⟨f, hf, hf2⟩ := h2.2 hh
        exact ⟨f, by simp [hf], hf2⟩
theorem merge_hit {g : List Vl → Int} (hg : ∀ r, 0 ≤ g r) {M N : Nat} {a b : List En} (ha : BagF M a) (hb : BagF N b) : (∃ e ∈ mergeE a b, 0 < g e.r) ↔ (∃ e ∈ a, 0 < g e.r) ∨ (∃ e ∈ b, 0 < g e.r) := by
  have hs := ha.merge hb
  obtain ⟨_, h1⟩ := wsum_hit hg hs.pos
  obtain ⟨p2, h2⟩ := wsum_hit hg ha.pos
  obtain ⟨p3, h3⟩ := wsum_hit hg hb.pos
  rw [h1, h2, h3, mergeE_wsum g a b ha.ok hb.ok]
  omega
theorem hashE_merge {col : Nat} {M N : Nat} {a b : List En} (ha : BagF M a) (hb : BagF N b) (x : Int) : x ∈ hashE col (mergeE a b) ↔ x ∈ hashE col a ++ hashE col b := by
  have key : ∀ b : List En, x ∈ hashE col b ↔ ∃ e ∈ b, 0 < (fun r : List Vl => if (cellV r col).k ≠ 0 ∧ botN (cellV r col) = x then (1 : Int) else 0) e.r := fun b => by
    rw [hashE_mem]
    constructor
    · rintro ⟨e, he, h1, h2⟩
      exact ⟨e, he, by simp only; rw [if_pos ⟨h1, h2⟩]; omega⟩
    · rintro ⟨e, he, h1⟩
      simp only at h1
      by_cases h : (cellV e.r col).k ≠ 0 ∧ botN (cellV e.r col) = x
      · exact ⟨e, he, h.1, h.2⟩
      · rw [if_neg h] at h1; omega
  rw [List.mem_append, key, key, key]
  exact merge_hit (g := fun r : List Vl => if (cellV r col).k ≠ 0 ∧ botN (cellV r col) = x then (1 : Int) else 0) (fun r => by split <;> omega) ha hb
theorem mergeK_getD {kd : Int} {a b : List Int} {n p : Nat} (ha : a.length = n) (hb : b.length = n) (hp : p < n) : (mergeK kd a b).getD p 0 = if kd = 0 then a.getD p 0 + b.getD p 0 else if a.getD p 0 < b.getD p 0 then b.getD p 0 else a.getD p 0 := by
  have h1 := getD_at (l := a) (i := p) (by omega)
  have h2 := getD_at (l := b) (i := p) (by omega)
  have h3 := mergeK_at (kd := kd) h1 h2
  rw [List.getD_eq_getElem?_getD, h3]
  rfl
theorem mergeK_fold {kd : Int} {w d col N M M' : Nat} {a b : List En} (hk : kd = 0 ∨ kd = 1) (ha : BagF M a) (hb : BagF M' b) : mergeK kd (foldK kd w d col N a) (foldK kd w d col N b) = foldK kd w d col N (mergeE a b) := by
  refine list_eq_getD (mergeK_length (foldK_length ..) (foldK_length ..)) (foldK_length ..) fun p hp => ?_
  rw [mergeK_getD (foldK_length ..) (foldK_length ..) hp]
  have hr : p < (List.replicate N (0 : Int)).length := by rw [List.length_replicate]; exact hp
  unfold foldK
  rcases hk with rfl | rfl
  · rw [if_pos rfl, foldE_getD _ _ _ _ _ hr, foldE_getD _ _ _ _ _ hr, foldE_getD _ _ _ _ _ hr, getD_repl, mergeE_wsum _ _ _ ha.ok hb.ok]
    omega
  · rw [if_neg (by decide), foldE1_getD _ _ _ _ _ hr, foldE1_getD _ _ _ _ _ hr, foldE1_getD _ _ _ _ _ hr, getD_repl]
    have h := merge_hit (g := hits w d col p) (fun r => (hits_bd w d col p r).1) ha hb
    by_cases h1 : ∃ e ∈ a, 0 < hits w d col p e.r
    · rw [if_pos h1, if_pos (h.2 (.inl h1))]
      split <;> (try split at *) <;> omega
    · by_cases h2 : ∃ e ∈ b, 0 < hits w d col p e.r
      · rw [if_neg h1, if_pos h2, if_pos (h.2 (.inr h2)), if_pos (by omega)]
      · rw [if_neg h1, if_neg h2, if_neg (fun h3 => (h.1 h3).elim h1 h2), if_neg (by omega)]
theorem small_nil (w : Nat) : smallI w [] = [] := by
  have := ascL_length []
  unfold smallI
  rw [List.eq_nil_of_length_eq_zero (l := ascL []) (by simpa using this)]
  simp
theorem botC_cv (w col : Nat) (A : List En) : Cv (botC w col A) (.sl 1 (smallI w (hashE col A)).length (intc .i64 (smallI w (hashE col A)))) := by
  by_cases h : hashE col A = []
  · rw [botC_nil h, h, small_nil]
    exact cv_nil
  · rw [botC_some h]
    exact cv_rfl
attribute [local irreducible] Still Adds AWL AW Drw DrwE EStep AC AWR Weak Frz Src RetK Out InK ItK AsK RdK RetT OutT ACT ACS RetS ACP RetP
set_option maxHeartbeats 8000000 in
theorem merge_walk (l : List Int) (n : Nat) (hn : l.length = n) (hml : n ≤ maxLen) (hb : 8 * n ≤ 140737488355328) (a1 a2 a3 : Int) (col w d : Nat) (kd : Int) (A B S : List En) (na nb ns : Nat) (xA xB xS p q : CV) (hna : A.length = na) (hnb : B.length = nb) (hns : S.length = ns)
    (h1 : ACT Try.prog 36 83 (tpC l n 0) [] (tpC l n a1) (.agg [sv [115], sv [116, 48], iv col, iv kd, iv w, iv d]))
    (h2 : ACT Try.prog 23 83 (tpC l n a1) [iv 2, iv 8, bv false] (tpC l n a2) (.sl 2 na (ec A)))
    (h3 : ACT Try.prog 23 83 (tpC l n a2) [iv 2, iv 8, bv false] (tpC l n a3) (.sl 2 nb (ec B)))
    (h4 : AC Try.prog 29 [.sl 2 na (ec A), .sl 2 nb (ec B)] (.tup [.c (.sl 2 ns (ec S)), .c (iv 0)]) [] 0)
    (h5 : AC Try.prog 37 [.agg [sv [115], sv [116, 48], iv col, iv kd, iv w, iv d], .sl 2 na (ec A)] (.tup [.c xA, .c (iv 0)]) [] 0)
    (h6 : AC Try.prog 37 [.agg [sv [115], sv [116, 48], iv col, iv kd, iv w, iv d], .sl 2 nb (ec B)] (.tup [.c xB, .c (iv 0)]) [] 0)
    (h7 : AC Try.prog 37 [.agg [sv [115], sv [116, 48], iv col, iv kd, iv w, iv d], .sl 2 ns (ec S)] (.tup [.c xS, .c (iv 0)]) [] 0)
    (h8 : AC Try.prog 44 [.agg [sv [115], sv [116, 48], iv col, iv kd, iv w, iv d], xA, xB] (.tup [.c p, .c (iv 0)]) [] 0)
    (h9 : AC Try.prog 44 [.agg [sv [115], sv [116, 48], iv col, iv kd, iv w, iv d], xB, xA] (.tup [.c q, .c (iv 0)]) [] 0)
    (hs : AC Try.prog 39 [p, xS] (.c (bv true)) [] 0)
    (ht : AC Try.prog 39 [q, xS] (.c (bv true)) [] 0)
    (hv : AC Try.prog 42 [.agg [sv [115], sv [116, 48], iv col, iv kd, iv w, iv d], xS] (.c (bv true)) [] 0) : AC Try.prog 12 [.sl 1 n (intc .i64 l)] (.c (bv true)) [] 0 := by
  have haw := awake12_ok
  have hil : (intc .i64 l).length = n := by rw [intc_length, hn]
  have hAl : (ec A).length = na * 2 := by rw [ec_length, hna]
  have hBl : (ec B).length = nb * 2 := by rw [ec_length, hnb]
  have hSl : (ec S).length = ns * 2 := by rw [ec_length, hns]
  refine ac_enter tabOk (sz := 99) Try.func12 rfl (by rw [Try.ntmps12]; rfl) ?_
  repeat' (first
    | ((with_reducible refine aw_seqk ?_); intro K hK hX)
    | ((with_reducible refine isC_reg ?_); refine aw_prune [0, 2, 3, 4, 5, 6, 7, 9, 10, 11, 12, 13, 14, 15, 16, 17, 18] rfl rfl ?_; with_reducible refine aw_region ?_)
    | ((with_reducible refine isA_build ?_); refine awl_fzE (m' := n) (cs' := intc .i64 l) 5 rfl rfl zln (by omega) (by simp) ?_)
    | ((with_reducible refine isA_call ?_); refine awl_callT (h1) g_none rfl (by unfold Body; kernel_rfl) rfl rfl rfl rfl zcv rfl (by (try simp only [tpC, List.map_cons, List.map_nil]); exact rfl) ?_)
    | ((with_reducible refine isA_call ?_); refine awl_callT (h2) g_none rfl (by unfold Body; kernel_rfl) rfl rfl rfl rfl zcv rfl (by (try simp only [tpC, List.map_cons, List.map_nil]); exact rfl) ?_)
    | ((with_reducible refine isA_call ?_); refine awl_callT (h3) g_none rfl (by unfold Body; kernel_rfl) rfl rfl rfl rfl zcv rfl (by (try simp only [tpC, List.map_cons, List.map_nil]); exact rfl) ?_)
    | ((with_reducible refine isA_call ?_); (first | refine zA ?_ | refine zN ?_); (first | refine c0 (h4) ?_ | refine c0 (h5) ?_ | refine c0 (h6) ?_ | refine c0 (h7) ?_ | refine c0 (h8) ?_ | refine c0 (h9) ?_ | refine c0 (hs) ?_ | refine c0 (ht) ?_ | refine c0 (hv) ?_ | refine c0 (haw) ?_))
    | ((first | with_reducible refine isA_call ?_ | with_reducible refine isA_callv ?_); refine awl_inl tabOk [0, 1, 2, 3, 4, 5, 6, 7, 8, 9, 10, 11, 12, 13, 14, 15, 16, 17, 18, 19, 20, 21, 22, 23, 24, 25, 26, 27, 28, 29, 30, 31, 32, 33, 34, 35, 36, 37, 38, 39, 40, 41, 42, 43, 44, 45, 46, 47, 48, 49, 50, 51, 52, 53, 54, 55, 56, 57, 58, 59, 60, 61, 62, 63, 64, 65, 66, 67, 68, 69, 70, 71, 72, 73, 74, 75, 76, 77, 78, 79, 80, 81, 82, 83, 84, 85, 86, 87, 88, 89, 90, 91, 92, 93, 94, 95, 96, 97, 98] g_none rfl rfl (by unfold Body; kernel_rfl) Try.func18 rfl rfl rfl (szf := 8) (by rw [Try.ntmps18]; rfl) rfl ?_)
    | ((with_reducible refine isA_store ?_); refine awl_storeA tabOk g_none rfl rfl rfl (by first | exact Parts.mixed _ | exact Parts.closed _) (by rfl) (by rfl) rfl (Nat.le_of_ble_eq_true rfl) (by rfl) ?_)
    | refine stA ?_
    | (refine hK _ _ _ _ ?_; clear hK hX K)
    | (refine hX _ _ _ _ _ (by simp) ?_; clear hK hX K)
    | (first | refine inK_some (by first | exact .inl rfl | exact .inr rfl) (by exact trivial) rfl rfl (ResL.one (ResA.tmp rfl)) ?_ | refine inK_none (by first | exact .inl rfl | exact .inr rfl) (by exact trivial) rfl rfl (ResL.one (ResA.tmp rfl)) ?_))
  refine retK_mk (by first | exact .inl rfl | exact .inr rfl) (by exact trivial) rfl (ResL.one (ResA.tmp rfl)) (by first | exact out_c zfz | exact out_own rfl rfl)
theorem law_smerge (l : List Int) (n : Nat) (hn : l.length = n) (hb : 8 * n ≤ 140737488355328) : AC Try.prog 12 [.sl 1 n (intc .i64 l)] (.c (bv true)) [] 0 := by
  have hml : n ≤ maxLen := by simp only [maxLen]; omega
  obtain ⟨col, w, d, kd, hsk, c1, w1, w2, d1, d2, hkd⟩ := skF_facts l n 0
  have h1 := tsk_ok l n 0 hn hml (by omega) (by omega)
  rw [hsk] at h1
  obtain ⟨s1, s2⟩ := skA_bd n 0 (by omega) (by omega)
  generalize skA n 0 = a1 at *
  obtain ⟨fa1, fa2, fa3⟩ := bagF_F l n a1 9 (by decide) (by decide)
  obtain ⟨na, hna⟩ : ∃ na, (bagF l n a1 9 false).length = na := ⟨_, rfl⟩
  have h2 := tbag_ok l n a1 8 9 false na hn hml s1 s2 (by decide) (by decide) rfl hna
  obtain ⟨t1, t2⟩ := bagA_bd l n a1 9 s1 s2
  generalize bagF l n a1 9 false = A at *
  generalize bagA l n a1 9 = a2 at *
  obtain ⟨fb1, fb2, fb3⟩ := bagF_F l n a2 9 (by decide) (by decide)
  obtain ⟨nb, hnb⟩ : ∃ nb, (bagF l n a2 9 false).length = nb := ⟨_, rfl⟩
  have h3 := tbag_ok l n a2 8 9 false nb hn hml t1 t2 (by decide) (by decide) rfl hnb
  generalize bagF l n a2 9 false = B at *
  generalize bagA l n a2 9 = a3 at *
  have fA := fa1.up (N := 500) (by decide)
  have fB := fb1.up (N := 500) (by decide)
  have fS := fA.merge fB
  have hfold := fun (kd : Int) (hk : kd = 0 ∨ kd = 1) (N : Nat) => mergeK_fold (kd := kd) (w := w) (d := d) (col := col) (N := N) hk fA fB
  have hfold2 := fun (kd : Int) (hk : kd = 0 ∨ kd = 1) (N : Nat) => mergeK_fold (kd := kd) (w := w) (d := d) (col := col) (N := N) hk fB fA
  have hhash := hashE_merge (col := col) fA fB
  have hfS : ∀ kd, kd = 0 ∨ kd = 1 → ∀ N, mergeK kd (foldK kd w d col N B) (foldK kd w d col N A) = foldK kd w d col N (mergeE A B) := fun kd hk N => by
    rw [← hfold kd hk N]
    refine list_eq_getD (mergeK_length (foldK_length ..) (foldK_length ..)) (mergeK_length (foldK_length ..) (foldK_length ..)) fun p hp => ?_
    rw [mergeK_getD (foldK_length ..) (foldK_length ..) hp, mergeK_getD (foldK_length ..) (foldK_length ..) hp]
    split
    · omega
    · split <;> split <;> omega
  obtain ⟨S, hS⟩ : ∃ S, mergeE A B = S := ⟨_, rfl⟩
  obtain ⟨ns, hns⟩ : ∃ ns, S.length = ns := ⟨_, rfl⟩
  have h4 := radd_ok A B na nb ns hna hnb fA fB (by rw [hS, hns])
  rw [hS] at h4 fS hhash
  simp only [hS] at hfold hfS
  clear hfold2 hS
  have hpA := fA.posP (by decide)
  have hpB := fB.posP (by decide)
  have hpS := fS.posP (by decide)
  obtain ⟨hfm, hwd, hwd0⟩ := form_of2 (nm := [115]) (sr := [116, 48]) (col := col) (kd := kd) w1 w2 d1 d2 hkd
  by_cases k2 : kd = 2
  · have hd1 : d = 1 := by omega
    subst k2 hd1
    have hbu : ∀ (X : List En) (nx : Nat), X.length = nx → BagF 1000 X → AC Try.prog 37 [.agg [sv [115], sv [116, 48], iv col, iv 2, iv w, iv (1 : Nat)], .sl 2 nx (ec X)] (.tup [.c (botC w col X), .c (iv 0)]) [] 0 := fun X nx hnx fX => by
      by_cases h0 : hashE col X = []
      · rw [botC_nil h0]
        exact build2_nil [115] [116, 48] col (1 : Nat) w X nx hnx fX.fit hfm (fX.posP (by decide)) (by omega) h0
      · rw [botC_some h0]
        exact build2_some [115] [116, 48] col (1 : Nat) w _ X nx hnx fX.fit hfm (fX.posP (by decide)) (by omega) h0 rfl
    have hP : ∀ X : List En, hashP w (smallI w (hashE col X)) := fun X => smallI_P fun x hx => hashE_bd hx
    have hlS := (hP S).1
    have hp : smallI w (smallI w (hashE col A) ++ smallI w (hashE col B)) = smallI w (hashE col S) := by rw [small_app2]; exact (smallI_congr hhash).symm
    have hq : smallI w (smallI w (hashE col B) ++ smallI w (hashE col A)) = smallI w (hashE col S) := by rw [smallI_congr (app_mem _ _)]; exact hp
    have m1 := merge_bot [115] [116, 48] col w 1 (smallI w (hashE col A)) (smallI w (hashE col B)) _ _ _ rfl rfl hfm (hP A) (hP B) rfl
    have m2 := merge_bot [115] [116, 48] col w 1 (smallI w (hashE col B)) (smallI w (hashE col A)) _ _ _ rfl rfl hfm (hP B) (hP A) rfl
    rw [hp] at m1
    rw [hq] at m2
    have m3 := rsame_t (smallI w (hashE col S)) _ rfl (by simp only [maxLen]; omega)
    have m4 := valb_ok [115] [116, 48] col (1 : Nat) w (smallI w (hashE col S)) _ rfl (by simp only [maxLen]; omega) (by omega)
    have : ∀ i : Decidable (formP ⟨[115], [116, 48], col, 2, w, (1 : Nat)⟩ ∧ hashP w (smallI w (hashE col S))), @decide _ i = true := fun i => @decide_eq_true _ i ⟨hfm, hP S⟩
    rw [this] at m4
    exact merge_walk l n hn hml hb a1 a2 a3 col w 1 2 A B S na nb ns _ _ _ _ _ hna hnb hns h1 h2 h3 h4 (hbu A na hna (fA.up (by decide))) (hbu B nb hnb (fB.up (by decide))) (hbu S ns hns fS)
      (AC.args m1 (cvl_cons cv_rfl (cvl_cons (botC_cv w col A) (cvl_cons (botC_cv w col B) cvl_nil)))) (AC.args m2 (cvl_cons cv_rfl (cvl_cons (botC_cv w col B) (cvl_cons (botC_cv w col A) cvl_nil))))
      (AC.args m3 (cvl_cons cv_rfl (cvl_cons (botC_cv w col S) cvl_nil))) (AC.args m3 (cvl_cons cv_rfl (cvl_cons (botC_cv w col S) cvl_nil))) (AC.args m4 (cvl_cons cv_rfl (cvl_cons (botC_cv w col S) cvl_nil)))
  · have hk : kd = 0 ∨ kd = 1 := by omega
    obtain ⟨N, hN⟩ : ∃ N, w * d = N := ⟨_, rfl⟩
    rw [hN] at hwd hwd0
    have hbu : ∀ (X : List En) (nx : Nat), X.length = nx → BagF 1000 X → AC Try.prog 37 [.agg [sv [115], sv [116, 48], iv col, iv kd, iv w, iv d], .sl 2 nx (ec X)] (.tup [.c (.sl 1 N (intc .i64 (foldK kd w d col N X))), .c (iv 0)]) [] 0 := fun X nx hnx fX => by
      have h5 := build_ok [115] [116, 48] col kd w d N X nx hnx (by have := fX.len; simp only [maxLen]; omega) fX.fit k2 hfm (fX.posP (by decide)) (by omega) hN
      rw [foldK_build hN hnx] at h5
      exact h5
    have hV : ∀ X : List En, BagF 1000 X → valC ⟨[115], [116, 48], col, kd, w, d⟩ (foldK kd w d col N X) := fun X fX => foldK_val hk hfm hN fX.pos fX.abs (by omega)
    have vA := hV A (fA.up (by decide))
    have vB := hV B (fB.up (by decide))
    have vS := hV S fS
    have e1 := hfold kd hk N
    have e2 := hfS kd hk N
    have m1 := merge_cells [115] [116, 48] col kd w d (foldK kd w d col N A) (foldK kd w d col N B) N (foldK_length ..) (foldK_length ..) (by omega) vA vB (by rw [e1]; exact vS)
    have m2 := merge_cells [115] [116, 48] col kd w d (foldK kd w d col N B) (foldK kd w d col N A) N (foldK_length ..) (foldK_length ..) (by omega) vB vA (by rw [e2]; exact vS)
    rw [e1] at m1
    rw [e2] at m2
    have m3 := rsame_t (foldK kd w d col N S) N (foldK_length ..) (by simp only [maxLen]; omega)
    have m4 := valc_ok ⟨[115], [116, 48], col, kd, w, d⟩ (foldK kd w d col N S) N (foldK_length ..) k2 (by simp only [maxLen]; omega)
    have : ∀ i : Decidable (valC ⟨[115], [116, 48], col, kd, w, d⟩ (foldK kd w d col N S)), @decide _ i = true := fun i => @decide_eq_true _ i vS
    rw [this] at m4
    exact merge_walk l n hn hml hb a1 a2 a3 col w d kd A B S na nb ns _ _ _ _ _ hna hnb hns h1 h2 h3 h4 (hbu A na hna (fA.up (by decide))) (hbu B nb hnb (fB.up (by decide))) (hbu S ns hns fS) m1 m2 m3 m3 m4
end Go.Proofs.Ytccnhpaldmjkbaa
