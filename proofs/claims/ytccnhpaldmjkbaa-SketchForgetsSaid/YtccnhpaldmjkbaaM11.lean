/-
  Joined texts: T13. Lemmas; no statement of a law.
-/
import Derived.Test.YtccnhpaldmjkbaaM1
import Derived.Test.YtccnhpaldmjkbaaM2
import Derived.Test.YtccnhpaldmjkbaaM3
import Derived.Test.YtccnhpaldmjkbaaM4
import Derived.Test.YtccnhpaldmjkbaaM5
import Derived.Test.YtccnhpaldmjkbaaM6
import Derived.Test.YtccnhpaldmjkbaaM7
import Derived.Test.YtccnhpaldmjkbaaM9
import Derived.Test.YtccnhpaldmjkbaaM10
/-
  The law SketchForgets (walk).
-/
set_option linter.unusedVariables false
set_option linter.unusedSimpArgs false
namespace Go.Proofs.Ytccnhpaldmjkbaa
open Go Go.RowKit Go.Av
set_option maxRecDepth 100000
theorem BagF.mono {M N : Nat} {b : List En} (h : BagF M b) (hN : M ≤ N) : BagF N b := ⟨h.srt, h.pos, h.row, Nat.le_trans h.abs hN⟩
theorem cellV_ok {r : List Vl} {col : Nat} (h : ∀ v ∈ r, okP v) : okP (cellV r col) := by
  unfold cellV
  rw [List.getD_eq_getElem?_getD]
  cases hc : r[col]? with
  | none => exact ok_nul
  | some v => exact h v (List.mem_of_getElem? hc)
theorem form_of {nm sr : List UInt8} {col : Int} {kd : Int} {w d : Nat} (w1 : 1 ≤ w) (w2 : w ≤ 64) (d1 : 1 ≤ d) (d2 : d ≤ 3) (hk : kd = 0 ∨ kd = 1 ∨ kd = 2 ∧ d = 1) : formP ⟨nm, sr, col, kd, w, d⟩ ∧ w * d ≤ 192 ∧ 0 < w * d := by
  have h1 : w * d ≤ 64 * 3 := Nat.mul_le_mul w2 d2
  have h2 : (w : Int) * (d : Int) = ((w * d : Nat) : Int) := by simp
  refine ⟨⟨?_, ?_, ?_, ?_, ?_, ?_⟩, by omega, Nat.mul_pos w1 d1⟩
  · show 1 ≤ (w : Int); omega
  · show (w : Int) ≤ 1024; omega
  · show 1 ≤ (d : Int); omega
  · show (d : Int) ≤ 8; omega
  · show (w : Int) * (d : Int) ≤ 1024; omega
  · show kd = 0 ∨ kd = 1 ∨ kd = 2 ∧ (d : Int) = 1; omega
attribute [local irreducible] Still Adds AWL AW Drw DrwE EStep AC AWR Weak Frz Src RetK Out InK ItK AsK RdK RetT OutT ACT
set_option maxHeartbeats 8000000 in
theorem law_sforgets (l : List Int) (n : Nat) (hn : l.length = n) (hb : 8 * n ≤ 140737488355328) : AC Try.prog 8 [.sl 1 n (intc .i64 l)] (.c (bv true)) [] 0 := by
  have haw := awake12_ok
  have hml : n ≤ maxLen := by simp only [maxLen]; omega
  have hil : (intc .i64 l).length = n := by rw [intc_length, hn]
  obtain ⟨col, w, d, kd, hsk, c1, w1, w2, d1, d2, hkd⟩ := skF_facts l n 0
  have h1 := tsk_ok l n 0 hn hml (by omega) (by omega)
  rw [hsk] at h1
  obtain ⟨s1, s2⟩ := skA_bd n 0 (by omega) (by omega)
  generalize skA n 0 = a1 at *
  obtain ⟨fa1, fa2, fa3⟩ := bagF_F l n a1 9 (by decide) (by decide)
  obtain ⟨na, hna⟩ : ∃ na, (bagF l n a1 9 false).length = na := ⟨_, rfl⟩
  have h2 := tbag_ok l n a1 8 9 false na hn hml s1 s2 (by decide) (by decide) rfl hna
  obtain ⟨t1, t2⟩ := bagA_bd l n a1 9 s1 s2
  generalize bagF l n a1 9 false = A at *
  generalize bagA l n a1 9 = a2 at *
  obtain ⟨fg1, fg2, fg3⟩ := bagF_F l n a2 7 (by decide) (by decide)
  obtain ⟨ng, hng⟩ : ∃ ng, (bagF l n a2 7 false).length = ng := ⟨_, rfl⟩
  have h3 := tbag_ok l n a2 6 7 false ng hn hml t1 t2 (by decide) (by decide) rfl hng
  generalize bagF l n a2 7 false = G at *
  generalize bagA l n a2 7 = a3 at *
  have fA := fa1.mono (N := 500) (by decide)
  have fG := fg1.mono (N := 500) (by decide)
  have fS := fa1.merge fg1
  obtain ⟨S, hS⟩ : ∃ S, mergeE A G = S := ⟨_, rfl⟩
  obtain ⟨nS, hnS⟩ : ∃ nS, S.length = nS := ⟨_, rfl⟩
  have h4 := radd_ok A G na ng nS hna hng fA fG (by rw [hS, hnS])
  rw [hS] at h4 fS
  obtain ⟨hfm, hwd, hwd0⟩ := form_of (nm := [115]) (sr := [116, 48]) (col := col) (kd := 0) w1 w2 d1 d2 (.inl rfl)
  obtain ⟨N, hN⟩ : ∃ N, w * d = N := ⟨_, rfl⟩
  have fS' := fS.mono (N := 4096) (by decide)
  have h5 := build_ok [115] [116, 48] col 0 w d N S nS hnS (by have := fS'.len; simp only [maxLen]; omega) fS.fit (by decide) hfm (fS'.posP (Nat.le_refl _)) (by omega) hN
  have h6 := build_ok [115] [116, 48] col 0 w d N A na hna (by have := fA.len; simp only [maxLen]; omega) fA.fit (by decide) hfm (fA.posP (by decide)) (by omega) hN
  have hend := rem_end (w := w) (d := d) (col := col) hS.symm fA fG (by decide) (by omega) (by omega)
  have hfc := fun i (hi : i ≤ ng) => rem_facts (w := w) (d := d) (col := col) hS.symm fA fG (by decide) (by omega) (by omega) rfl (by rw [hng]; exact hi)
  rw [hnS] at hfc hend
  rw [hna, hng] at hend
  have hR0 : buildN 0 w d col S nS = remN w d col (buildN 0 w d col S nS) G 0 := rfl
  rw [hR0] at h5
  rw [← hend] at h6
  have h7 := rsame_t (remN w d col (buildN 0 w d col S nS) G ng) N (by rw [remN_length, buildN_length, hN]) (by simp only [maxLen]; omega)
  generalize buildN 0 w d col S nS = B0 at *
  have hmul : IntKind.i64.wrap ((w : Int) * (d : Int)) = (N : Int) := by rw [← hN, Int.natCast_mul]; exact w64 (by omega) (by omega)
  have hGl : (ec G).length = ng * 2 := by rw [ec_length, hng]
  have hng5 : ng ≤ 500 := by rw [← hng]; exact fG.len
  simp only [Sk.c] at h1
  clear hsk s1 s2 fa1 fa2 fa3 t1 t2 fg1 fg3 hR0 hS fS fS' hend hna
  refine ac_enter tabOk (sz := 107) Try.func8 rfl (by rw [Try.ntmps8]; rfl) ?_
  repeat' (first
    | ((with_reducible refine aw_seqk ?_); intro K hK hX)
    | ((with_reducible refine isC_reg ?_); refine aw_prune [0, 2, 3, 4, 5, 6, 7, 9, 10, 11, 12, 13, 14] rfl rfl ?_; with_reducible refine aw_region ?_)
    | ((with_reducible refine isC_draw ?_); refine aw_prune [0, 2, 3, 4, 5, 6, 7, 9, 10, 11, 12, 13, 14] rfl rfl ?_; refine aw_drwF [18] ?_)
    | ((with_reducible refine isA_build ?_); refine awl_fzE (m' := n) (cs' := intc .i64 l) 5 rfl rfl zln (by omega) (by simp) ?_)
    | ((with_reducible refine isA_call ?_); refine awl_callT (h1) g_none rfl (by unfold Body; kernel_rfl) rfl rfl rfl rfl zcv rfl (by (try simp only [tpC, List.map_cons, List.map_nil]); exact rfl) ?_)
    | ((with_reducible refine isA_call ?_); refine awl_callT (h2) g_none rfl (by unfold Body; kernel_rfl) rfl rfl rfl rfl zcv rfl (by (try simp only [tpC, List.map_cons, List.map_nil]); exact rfl) ?_)
    | ((with_reducible refine isA_call ?_); refine awl_callT (h3) g_none rfl (by unfold Body; kernel_rfl) rfl rfl rfl rfl zcv rfl (by (try simp only [tpC, List.map_cons, List.map_nil]); exact rfl) ?_)
    | ((first | with_reducible refine isA_call ?_ | with_reducible refine isD_call ?_); (first | refine zA ?_ | refine zN ?_ | refine zD ?_); (first | refine c0 (h4) ?_ | refine c0 (h5) ?_))
    | ((first | with_reducible refine isA_call ?_ | with_reducible refine isA_callv ?_); refine awl_inl tabOk [0, 1, 2, 3, 4, 5, 6, 7, 8, 9, 10, 11, 12, 13, 14, 15, 16, 17, 18, 19, 20, 21, 22, 23, 24, 25, 26, 27, 28, 29, 30, 31, 32, 33, 34, 35, 36, 37, 38, 39, 40, 41, 42, 43, 44, 45, 46, 47, 48, 49, 50, 51, 52, 53, 54, 55, 56, 57, 58, 59, 60, 61, 62, 63, 64, 65, 66, 67, 68, 69, 70, 71, 72, 73, 74, 75, 76, 77, 78, 79, 80, 81, 82, 83, 84, 85, 86, 87, 88, 89, 90, 91, 92, 93, 94, 95, 96, 97, 98, 99, 100, 101, 102, 103, 104, 105, 106] g_none rfl rfl (by unfold Body; kernel_rfl) Try.func18 rfl rfl rfl (szf := 8) (by rw [Try.ntmps18]; rfl) rfl ?_)
    | ((with_reducible refine isA_store ?_); refine awl_storeA tabOk g_none rfl rfl rfl (by first | exact Parts.mixed _ | exact Parts.closed _) (by rfl) (by rfl) rfl (Nat.le_of_ble_eq_true rfl) (by rfl) ?_)
    | refine stA ?_
    | refine stD ?_
    | (refine hK _ _ _ _ ?_; clear hK hX K)
    | (refine hX _ _ _ _ _ (by simp) ?_; clear hK hX K)
    | (first | refine inK_some (by first | exact .inl rfl | exact .inr rfl) (by exact trivial) rfl rfl (ResL.one (ResA.tmp rfl)) ?_ | refine inK_none (by first | exact .inl rfl | exact .inr rfl) (by exact trivial) rfl rfl (ResL.one (ResA.tmp rfl)) ?_))
  refine aw_loopo [9, 10, 11, 12] [3] rfl rfl (fun i : Nat => [(9, .c (.sl 1 N (intc .i64 (remN w d col B0 G i)))), (10, .c (iv 0)), (11, .c (iv i))]) (fun i => [(3, .blk 60 [.c (sv [115]), .c (sv [116, 48]), .c (iv col), .c (iv 0), .c (iv w), .c (iv d)])]) (fun i => i ≤ ng) (fun i => ng - i) 0 (Nat.zero_le _) weakA ?_
  intro i hi K hK hX
  have hcl : (intc .i64 (remN w d col B0 G i)).length = N := by rw [intc_length, (hfc i hi).1, hN]
  by_cases hlt : i < ng
  · obtain ⟨e, he⟩ : ∃ e, G[i]? = some e := ⟨G[i]'(by omega), List.getElem?_eq_getElem _⟩
    have hmem := List.mem_of_getElem? he
    have hen := ec_n he
    have her := ec_row he
    obtain ⟨q1, q2, q3⟩ := hfc i hi
    have hst := remN_step (w := w) (d := d) (col := col) (l := B0) he
    have hvl : valC ⟨[115], [116, 48], col, 0, w, d⟩ (remN w d col B0 G i) := ⟨hfm, (show (0 : Int) ≠ 2 by decide), by rw [q1]; simp, fun x hx => by have := q3 x hx; unfold okX limZ; simp only [if_true]; exact this⟩
    have hep := fG.pos e hmem
    have heb := absS_mem hmem
    have heb2 := fG.abs
    have hc2 : e.n ≤ 262144 := by omega
    have hrow := fG.row e hmem
    have hr2 := fg2 e hmem
    have hrl : (rc e.r).length = 2 * 3 := by rw [rc_length, hr2]
    have hvo := cellV_ok (col := col) hrow.2
    unfold stepE at hst
    have hle := fun hk => rem_least (w := w) (d := d) (col := col) (by omega) (by omega) fA fG q2 he hk
    generalize remN w d col B0 G i = L at *
    have hat : col < 2 → ((rc e.r).drop (col * 3)).take 3 = (cellV e.r col).c := fun hc => by
      obtain ⟨v, hv⟩ : ∃ v, e.r[col]? = some v := ⟨e.r[col]'(by omega), List.getElem?_eq_getElem _⟩
      have : cellV e.r col = v := by unfold cellV; rw [List.getD_eq_getElem?_getD, hv]; rfl
      rw [this]
      exact rc_at hv
    have hnu : ¬ col < 2 → cellV e.r col = Vl.nul := fun hc => by unfold cellV; rw [List.getD_eq_getElem?_getD, List.getElem?_eq_none (by omega)]; rfl
    have e1 : e.neg.r = e.r := rfl
    have e2 : e.neg.n = -e.n := rfl
    rw [e1, e2] at hst
    obtain ⟨r, c⟩ := e
    simp only at *
    clear hfc h1 h2 h3 h4 h5 h6 h7 fA fG fg2 q2 q3 heb2 e1 e2 he hrow
    generalize cellV r col = v at *
    by_cases hk : v.k = 0
    · rw [if_pos hk] at hst
      have h8 := rem_nul [115] [116, 48] col w d v L N c (by omega) (by omega) (by omega) hvl hvo hk hep hc2
      clear hle hvl
      by_cases hc : col < 2
      · have hav := hat hc
        clear hnu hat
        obtain ⟨a, m, t⟩ := v
        simp only [Vl.c] at *
        repeat' (first
    | ((with_reducible refine aw_seqk ?_); intro K hK hX)
    | ((with_reducible refine isC_reg ?_); refine aw_prune [0, 2, 3, 4, 5, 6, 7, 9, 10, 11, 12, 13, 14] rfl rfl ?_; with_reducible refine aw_region ?_)
    | ((with_reducible refine isC_draw ?_); refine aw_prune [0, 2, 3, 4, 5, 6, 7, 9, 10, 11, 12, 13, 14] rfl rfl ?_; refine aw_drwF [] ?_)
    | (refine drw_endA (by kernel_rfl) (by kernel_rfl) (by kernel_rfl) rfl ?_)
    | (refine k_only ?_)
    | ((first | with_reducible refine isA_call ?_ | with_reducible refine isD_call ?_); (first | refine zA ?_ | refine zN ?_ | refine zD ?_); (first | refine c0 (h8) ?_))
    | ((first | ((with_reducible refine isA_any ?_); refine xA ?_) | ((with_reducible refine isDk_any ?_); refine xD ?_)); (first | ((with_reducible refine e_load ?_); (first | refine ex_i (s_load1 tabOk rfl rfl rfl rfl (by first | exact hen | exact her)) ?_ | refine ex_i (s_load1r tabOk rfl rfl rfl rfl (by first | exact hen | exact her)) ?_ | refine ex_i (s_load1i tabOk rfl rfl rfl (by first | exact hen | exact her)) ?_ | refine ex_i (s_loadAr tabOk rfl rfl rfl rfl (by first | exact hav | exact whole0 (by first | rfl | omega) | rfl) zln) ?_ | refine ex_i (s_loadAi tabOk rfl rfl rfl (by first | exact hav | exact whole0 (by first | rfl | omega) | rfl) zln) ?_)) | ((with_reducible refine e_ix ?_); (first | refine ex_i (s_ixV1 tabOk rfl rfl zcj rfl rfl rfl rfl rfl zle (by first | exact hen | exact her)) ?_ | refine ex_i (s_ixStr tabOk rfl rfl zcj rfl rfl (by first | exact hen | exact her)) ?_)) | ((with_reducible refine e_slice ?_); (first | refine ex_i (s_slArri tabOk rfl rfl rfl rfl zbd zbd zle zle (by decide) (by first | exact hav | exact whole0 (by first | rfl | omega) | rfl) zln) ?_))))
    | ((with_reducible refine isA_store ?_); refine awl_storeA tabOk g_none rfl rfl rfl (by first | exact Parts.mixed _ | exact Parts.closed _) (by rfl) (by rfl) rfl (Nat.le_of_ble_eq_true rfl) (by rfl) ?_)
    | refine stA ?_
    | refine stD ?_
    | (refine hK _ _ _ _ ?_; clear hK hX K)
    | (refine hX _ _ _ _ _ (by simp) ?_; clear hK hX K))
        exact ⟨i + 1, by omega, by omega, (by refine weak_mk rfl ?_ ?_ rfl <;> (repeat' (first | exact weakE_nil | exact weakH_nil | refine weakE_cons rfl (by first | rfl | (exact congrArg (fun x => AV.c (CV.sl 1 N (intc .i64 x))) hst.symm) | exact own_eq rfl rfl (by omega) | exact int_eq (by omega) | (simp <;> fail) | (congr 4; omega) | (congr 3; omega) | (congr 2; omega)) rfl ?_ | refine weakH_cons rfl (by first | rfl | (exact congrArg (fun x => AV.c (CV.sl 1 N (intc .i64 x))) hst.symm) | exact own_eq rfl rfl (by omega) | exact int_eq (by omega) | (simp <;> fail) | (congr 4; omega) | (congr 3; omega) | (congr 2; omega)) rfl ?_)))⟩
      · have hnv := hnu hc
        clear hnu hat
        rw [hnv] at h8
        (try rw [hnv] at hst)
        simp only [Vl.c, Vl.nul] at h8
        repeat' (first
    | ((with_reducible refine aw_seqk ?_); intro K hK hX)
    | ((with_reducible refine isC_reg ?_); refine aw_prune [0, 2, 3, 4, 5, 6, 7, 9, 10, 11, 12, 13, 14] rfl rfl ?_; with_reducible refine aw_region ?_)
    | ((with_reducible refine isC_draw ?_); refine aw_prune [0, 2, 3, 4, 5, 6, 7, 9, 10, 11, 12, 13, 14] rfl rfl ?_; refine aw_drwF [] ?_)
    | (refine drw_endA (by kernel_rfl) (by kernel_rfl) (by kernel_rfl) rfl ?_)
    | (refine k_only ?_)
    | ((first | with_reducible refine isA_call ?_ | with_reducible refine isD_call ?_); (first | refine zA ?_ | refine zN ?_ | refine zD ?_); (first | refine c0 (h8) ?_))
    | ((first | ((with_reducible refine isA_any ?_); refine xA ?_) | ((with_reducible refine isDk_any ?_); refine xD ?_)); (first | ((with_reducible refine e_load ?_); (first | refine ex_i (s_load1 tabOk rfl rfl rfl rfl (by first | exact hen | exact her)) ?_ | refine ex_i (s_load1r tabOk rfl rfl rfl rfl (by first | exact hen | exact her)) ?_ | refine ex_i (s_load1i tabOk rfl rfl rfl (by first | exact hen | exact her)) ?_ | refine ex_i (s_loadAr tabOk rfl rfl rfl rfl (by first | fail | exact whole0 (by first | rfl | omega) | rfl) zln) ?_ | refine ex_i (s_loadAi tabOk rfl rfl rfl (by first | fail | exact whole0 (by first | rfl | omega) | rfl) zln) ?_)) | ((with_reducible refine e_ix ?_); (first | refine ex_i (s_ixV1 tabOk rfl rfl zcj rfl rfl rfl rfl rfl zle (by first | exact hen | exact her)) ?_ | refine ex_i (s_ixStr tabOk rfl rfl zcj rfl rfl (by first | exact hen | exact her)) ?_)) | ((with_reducible refine e_slice ?_); (first | refine ex_i (s_slArri tabOk rfl rfl rfl rfl zbd zbd zle zle (by decide) (by first | fail | exact whole0 (by first | rfl | omega) | rfl) zln) ?_))))
    | ((with_reducible refine isA_store ?_); refine awl_storeA tabOk g_none rfl rfl rfl (by first | exact Parts.mixed _ | exact Parts.closed _) (by rfl) (by rfl) rfl (Nat.le_of_ble_eq_true rfl) (by rfl) ?_)
    | refine stA ?_
    | refine stD ?_
    | (refine hK _ _ _ _ ?_; clear hK hX K)
    | (refine hX _ _ _ _ _ (by simp) ?_; clear hK hX K))
        exact ⟨i + 1, by omega, by omega, (by refine weak_mk rfl ?_ ?_ rfl <;> (repeat' (first | exact weakE_nil | exact weakH_nil | refine weakE_cons rfl (by first | rfl | (exact congrArg (fun x => AV.c (CV.sl 1 N (intc .i64 x))) hst.symm) | exact own_eq rfl rfl (by omega) | exact int_eq (by omega) | (simp <;> fail) | (congr 4; omega) | (congr 3; omega) | (congr 2; omega)) rfl ?_ | refine weakH_cons rfl (by first | rfl | (exact congrArg (fun x => AV.c (CV.sl 1 N (intc .i64 x))) hst.symm) | exact own_eq rfl rfl (by omega) | exact int_eq (by omega) | (simp <;> fail) | (congr 4; omega) | (congr 3; omega) | (congr 2; omega)) rfl ?_)))⟩
    · rw [if_neg hk] at hst
      have h8 := rem_cnt [115] [116, 48] col w d v L N c (by omega) (by omega) hvl hN.symm hvo hk hep hc2 (hle hk)
      clear hle hvl
      by_cases hc : col < 2
      · have hav := hat hc
        clear hnu hat
        obtain ⟨a, m, t⟩ := v
        simp only [Vl.c] at *
        repeat' (first
    | ((with_reducible refine aw_seqk ?_); intro K hK hX)
    | ((with_reducible refine isC_reg ?_); refine aw_prune [0, 2, 3, 4, 5, 6, 7, 9, 10, 11, 12, 13, 14] rfl rfl ?_; with_reducible refine aw_region ?_)
    | ((with_reducible refine isC_draw ?_); refine aw_prune [0, 2, 3, 4, 5, 6, 7, 9, 10, 11, 12, 13, 14] rfl rfl ?_; refine aw_drwF [] ?_)
    | (refine drw_endA (by kernel_rfl) (by kernel_rfl) (by kernel_rfl) rfl ?_)
    | (refine k_only ?_)
    | ((first | with_reducible refine isA_call ?_ | with_reducible refine isD_call ?_); (first | refine zA ?_ | refine zN ?_ | refine zD ?_); (first | refine c0 (h8) ?_))
    | ((first | ((with_reducible refine isA_any ?_); refine xA ?_) | ((with_reducible refine isDk_any ?_); refine xD ?_)); (first | ((with_reducible refine e_load ?_); (first | refine ex_i (s_load1 tabOk rfl rfl rfl rfl (by first | exact hen | exact her)) ?_ | refine ex_i (s_load1r tabOk rfl rfl rfl rfl (by first | exact hen | exact her)) ?_ | refine ex_i (s_load1i tabOk rfl rfl rfl (by first | exact hen | exact her)) ?_ | refine ex_i (s_loadAr tabOk rfl rfl rfl rfl (by first | exact hav | exact whole0 (by first | rfl | omega) | rfl) zln) ?_ | refine ex_i (s_loadAi tabOk rfl rfl rfl (by first | exact hav | exact whole0 (by first | rfl | omega) | rfl) zln) ?_)) | ((with_reducible refine e_ix ?_); (first | refine ex_i (s_ixV1 tabOk rfl rfl zcj rfl rfl rfl rfl rfl zle (by first | exact hen | exact her)) ?_ | refine ex_i (s_ixStr tabOk rfl rfl zcj rfl rfl (by first | exact hen | exact her)) ?_)) | ((with_reducible refine e_slice ?_); (first | refine ex_i (s_slArri tabOk rfl rfl rfl rfl zbd zbd zle zle (by decide) (by first | exact hav | exact whole0 (by first | rfl | omega) | rfl) zln) ?_))))
    | ((with_reducible refine isA_store ?_); refine awl_storeA tabOk g_none rfl rfl rfl (by first | exact Parts.mixed _ | exact Parts.closed _) (by rfl) (by rfl) rfl (Nat.le_of_ble_eq_true rfl) (by rfl) ?_)
    | refine stA ?_
    | refine stD ?_
    | (refine hK _ _ _ _ ?_; clear hK hX K)
    | (refine hX _ _ _ _ _ (by simp) ?_; clear hK hX K))
        exact ⟨i + 1, by omega, by omega, (by refine weak_mk rfl ?_ ?_ rfl <;> (repeat' (first | exact weakE_nil | exact weakH_nil | refine weakE_cons rfl (by first | rfl | (exact congrArg (fun x => AV.c (CV.sl 1 N (intc .i64 x))) hst.symm) | exact own_eq rfl rfl (by omega) | exact int_eq (by omega) | (simp <;> fail) | (congr 4; omega) | (congr 3; omega) | (congr 2; omega)) rfl ?_ | refine weakH_cons rfl (by first | rfl | (exact congrArg (fun x => AV.c (CV.sl 1 N (intc .i64 x))) hst.symm) | exact own_eq rfl rfl (by omega) | exact int_eq (by omega) | (simp <;> fail) | (congr 4; omega) | (congr 3; omega) | (congr 2; omega)) rfl ?_)))⟩
      · have hnv := hnu hc
        clear hnu hat
        rw [hnv] at h8
        (try rw [hnv] at hst)
        simp only [Vl.c, Vl.nul] at h8
        repeat' (first
    | ((with_reducible refine aw_seqk ?_); intro K hK hX)
    | ((with_reducible refine isC_reg ?_); refine aw_prune [0, 2, 3, 4, 5, 6, 7, 9, 10, 11, 12, 13, 14] rfl rfl ?_; with_reducible refine aw_region ?_)
    | ((with_reducible refine isC_draw ?_); refine aw_prune [0, 2, 3, 4, 5, 6, 7, 9, 10, 11, 12, 13, 14] rfl rfl ?_; refine aw_drwF [] ?_)
    | (refine drw_endA (by kernel_rfl) (by kernel_rfl) (by kernel_rfl) rfl ?_)
    | (refine k_only ?_)
    | ((first | with_reducible refine isA_call ?_ | with_reducible refine isD_call ?_); (first | refine zA ?_ | refine zN ?_ | refine zD ?_); (first | refine c0 (h8) ?_))
    | ((first | ((with_reducible refine isA_any ?_); refine xA ?_) | ((with_reducible refine isDk_any ?_); refine xD ?_)); (first | ((with_reducible refine e_load ?_); (first | refine ex_i (s_load1 tabOk rfl rfl rfl rfl (by first | exact hen | exact her)) ?_ | refine ex_i (s_load1r tabOk rfl rfl rfl rfl (by first | exact hen | exact her)) ?_ | refine ex_i (s_load1i tabOk rfl rfl rfl (by first | exact hen | exact her)) ?_ | refine ex_i (s_loadAr tabOk rfl rfl rfl rfl (by first | fail | exact whole0 (by first | rfl | omega) | rfl) zln) ?_ | refine ex_i (s_loadAi tabOk rfl rfl rfl (by first | fail | exact whole0 (by first | rfl | omega) | rfl) zln) ?_)) | ((with_reducible refine e_ix ?_); (first | refine ex_i (s_ixV1 tabOk rfl rfl zcj rfl rfl rfl rfl rfl zle (by first | exact hen | exact her)) ?_ | refine ex_i (s_ixStr tabOk rfl rfl zcj rfl rfl (by first | exact hen | exact her)) ?_)) | ((with_reducible refine e_slice ?_); (first | refine ex_i (s_slArri tabOk rfl rfl rfl rfl zbd zbd zle zle (by decide) (by first | fail | exact whole0 (by first | rfl | omega) | rfl) zln) ?_))))
    | ((with_reducible refine isA_store ?_); refine awl_storeA tabOk g_none rfl rfl rfl (by first | exact Parts.mixed _ | exact Parts.closed _) (by rfl) (by rfl) rfl (Nat.le_of_ble_eq_true rfl) (by rfl) ?_)
    | refine stA ?_
    | refine stD ?_
    | (refine hK _ _ _ _ ?_; clear hK hX K)
    | (refine hX _ _ _ _ _ (by simp) ?_; clear hK hX K))
        exact ⟨i + 1, by omega, by omega, (by refine weak_mk rfl ?_ ?_ rfl <;> (repeat' (first | exact weakE_nil | exact weakH_nil | refine weakE_cons rfl (by first | rfl | (exact congrArg (fun x => AV.c (CV.sl 1 N (intc .i64 x))) hst.symm) | exact own_eq rfl rfl (by omega) | exact int_eq (by omega) | (simp <;> fail) | (congr 4; omega) | (congr 3; omega) | (congr 2; omega)) rfl ?_ | refine weakH_cons rfl (by first | rfl | (exact congrArg (fun x => AV.c (CV.sl 1 N (intc .i64 x))) hst.symm) | exact own_eq rfl rfl (by omega) | exact int_eq (by omega) | (simp <;> fail) | (congr 4; omega) | (congr 3; omega) | (congr 2; omega)) rfl ?_)))⟩
  · have hin : i = ng := by omega
    rw [hin] at hcl ⊢
    clear hfc h1 h2 h3 h4 h5 fA fG fg2
    repeat' (first
    | ((with_reducible refine aw_seqk ?_); intro K hK hX)
    | ((with_reducible refine isC_reg ?_); refine aw_prune [0, 2, 3, 4, 5, 6, 7, 9, 10, 11, 12, 13, 14] rfl rfl ?_; with_reducible refine aw_region ?_)
    | ((with_reducible refine isC_draw ?_); refine aw_prune [0, 2, 3, 4, 5, 6, 7, 9, 10, 11, 12, 13, 14] rfl rfl ?_; refine aw_drwF [] ?_)
    | ((first | with_reducible refine isA_call ?_ | with_reducible refine isD_call ?_); (first | refine zA ?_ | refine zN ?_ | refine zD ?_); (first | refine c0 (h6) ?_ | refine c0 (h7) ?_ | refine c0 (haw) ?_))
    | ((first | ((with_reducible refine isA_any ?_); refine xA ?_) | ((with_reducible refine isDk_any ?_); refine xD ?_)); (first | ((with_reducible refine e_bin ?_); (first | refine ex_i (s_arit64 rfl rfl rfl hmul) ?_ | refine ex_i (s_cmp rfl rfl rfl (decide_eq_true rfl)) ?_))))
    | refine stA ?_
    | refine stD ?_
    | (refine hK _ _ _ _ ?_; clear hK hX K)
    | (refine hX _ _ _ _ _ (by simp) ?_; clear hK hX K))
    refine retK_mk (by first | exact .inl rfl | exact .inr rfl) (by exact trivial) rfl (ResL.one (ResA.tmp rfl)) (by first | exact out_c zfz | exact out_own rfl rfl)
end Go.Proofs.Ytccnhpaldmjkbaa
