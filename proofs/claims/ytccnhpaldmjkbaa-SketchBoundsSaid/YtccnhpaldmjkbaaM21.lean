/-
  Joined texts: U17. Lemmas; no statement of a law.
-/
import Derived.Test.YtccnhpaldmjkbaaM1
import Derived.Test.YtccnhpaldmjkbaaM2
import Derived.Test.YtccnhpaldmjkbaaM3
import Derived.Test.YtccnhpaldmjkbaaM4
import Derived.Test.YtccnhpaldmjkbaaM5
import Derived.Test.YtccnhpaldmjkbaaM6
import Derived.Test.YtccnhpaldmjkbaaM7
import Derived.Test.YtccnhpaldmjkbaaM9
import Derived.Test.YtccnhpaldmjkbaaM10
import Derived.Test.YtccnhpaldmjkbaaM13
import Derived.Test.YtccnhpaldmjkbaaM15
import Derived.Test.YtccnhpaldmjkbaaM19
/-
  The law SketchBounds (walk).
-/
set_option linter.unusedVariables false
set_option linter.unusedSimpArgs false
namespace Go.Proofs.Ytccnhpaldmjkbaa
open Go Go.RowKit Go.Av
set_option maxRecDepth 100000
theorem rc_kd {r : List Vl} {i : Nat} {v : Vl} (h : r[i]? = some v) : (rc r)[i * 3]? = some (iv v.k) := by
  have := rc_at h
  have h2 : (((rc r).drop (i * 3)).take 3)[0]? = some (iv v.k) := by rw [this]; rfl
  rw [List.getElem?_take_of_lt (by omega), List.getElem?_drop] at h2
  simpa using h2
theorem rc_snoc (D : List Vl) (v : Vl) : rc D ++ v.c = rc (D ++ [v]) := by simp [rc]
theorem cellV_at {r : List Vl} {col : Nat} {v : Vl} (h : r[col]? = some v) : cellV r col = v := by
  unfold cellV; rw [List.getD_eq_getElem?_getD, h]; rfl
theorem vl_eq (u v : Vl) : (u.k = v.k ∧ u.n = v.n ∧ u.t = v.t) ↔ u = v := by
  obtain ⟨a, b, c⟩ := u
  obtain ⟨x, y, z⟩ := v
  simp
attribute [local irreducible] Still Adds AWL AW Drw DrwE EStep AC AWR Weak Frz Src RetK Out InK ItK AsK RdK RetT OutT ACT ACS RetS ACP RetP
set_option maxHeartbeats 40000000 in
theorem bounds_walk (l : List Int) (n : Nat) (hn : l.length = n) (hml : n ≤ maxLen) (hb : 8 * n ≤ 140737488355328) (a1 a2 : Int) (col w d : Nat) (kd : Int) (A : List En) (na : Nat) (X : CV) (q : Nat) (hw : w ≤ 1000) (hd : d ≤ 1000) (hcol : col ≤ 1000) (hna : A.length = na) (hna4 : na ≤ 500) (hfA : fitB A) (hrow2 : ∀ e ∈ A, e.r.length = 2) (hkd : kd = 0 ∨ kd = 1 ∨ kd = 2) (hpos : ∀ e ∈ A, 0 < e.n) (habs : absS A ≤ 500)
    (hXf : X = .v (.slice none 0 0) ∧ q = 0 ∨ ∃ cs, X = .sl 1 q cs) (hqb : q ≤ 1000)
    (h1 : ACT Try.prog 36 83 (tpC l n 0) [] (tpC l n a1) (.agg [sv [115], sv [116, 48], iv col, iv kd, iv w, iv d]))
    (h2 : ACT Try.prog 23 83 (tpC l n a1) [iv 2, iv 8, bv false] (tpC l n a2) (.sl 2 na (ec A)))
    (h5 : AC Try.prog 37 [.agg [sv [115], sv [116, 48], iv col, iv kd, iv w, iv d], .sl 2 na (ec A)] (.tup [.c X, .c (iv 0)]) [] 0)
    (hE : ∀ e ∈ A, (cellV e.r col).k ≠ 0 → ∃ z : Int, AC Try.prog 40 [.agg [sv [115], sv [116, 48], iv col, iv kd, iv w, iv d], X, .agg (cellV e.r col).c] (.c (iv z)) [] 0 ∧ (kd = 0 → multN col (cellV e.r col) A ≤ z) ∧ (kd = 1 → z = 1))
    (hF : kd = 2 → q < w → AC Try.prog 40 [.agg [sv [115], sv [116, 48], iv col, iv kd, iv w, iv d], X, .agg [iv 0, iv 0, sv []]] (.c (iv q)) [] 0)
    (hq : kd = 2 → q ≤ (diffL col A).length) : AC Try.prog 9 [.sl 1 n (intc .i64 l)] (.c (bv true)) [] 0 := by
  have haw := awake12_ok
  have hil : (intc .i64 l).length = n := by rw [intc_length, hn]
  have hAl : (ec A).length = na * 2 := by rw [ec_length, hna]
  obtain ⟨D, hD⟩ : ∃ D : Nat → List Vl, ∀ i, D i = diffL col (A.take i) := ⟨_, fun _ => rfl⟩
  obtain ⟨p, hp⟩ : ∃ p : Nat → Nat, ∀ i, (D i).length = p i := ⟨_, fun _ => rfl⟩
  have hpb : ∀ i, p i ≤ na := fun i => by
    rw [← hp, hD]
    have := diffL_length col (A.take i)
    rw [List.length_take] at this
    omega
  have hDn : D na = diffL col A := by rw [hD, List.take_of_length_le (by omega)]
  have hD0 : [] = D 0 := (hD 0).symm
  have hp0 : 0 = p 0 := by rw [← hp, hD]; rfl
  rw [← hDn, hp] at hq
  refine ac_enter tabOk (sz := 172) Try.func9 rfl (by rw [Try.ntmps9]; rfl) ?_
  repeat' (first
    | ((with_reducible refine aw_seqk ?_); intro K hK hX)
    | ((with_reducible refine isC_reg ?_); refine aw_prune [0, 2, 3, 4, 5, 6, 7, 8, 9, 10, 11, 12, 13, 14, 15] rfl rfl ?_; with_reducible refine aw_region ?_)
    | ((with_reducible refine isC_draw ?_); refine aw_prune [0, 2, 3, 4, 5, 6, 7, 8, 9, 10, 11, 12, 13, 14, 15] rfl rfl ?_; refine aw_drwF [18] ?_)
    | ((with_reducible refine isA_build ?_); refine awl_fzE (m' := n) (cs' := intc .i64 l) 5 rfl rfl zln (by omega) (by simp) ?_)
    | ((with_reducible refine isA_call ?_); refine awl_callT (h1) g_none rfl (by unfold Body; kernel_rfl) rfl rfl rfl rfl zcv rfl (by (try simp only [tpC, List.map_cons, List.map_nil]); exact rfl) ?_)
    | ((with_reducible refine isA_call ?_); refine awl_callT (h2) g_none rfl (by unfold Body; kernel_rfl) rfl rfl rfl rfl zcv rfl (by (try simp only [tpC, List.map_cons, List.map_nil]); exact rfl) ?_)
    | ((first | with_reducible refine isA_call ?_ | with_reducible refine isD_call ?_); (first | refine zA ?_ | refine zN ?_ | refine zD ?_); (first | refine c0 (h5) ?_))
    | ((first | with_reducible refine isA_call ?_ | with_reducible refine isA_callv ?_); refine awl_inl tabOk [0, 1, 2, 3, 4, 5, 6, 7, 8, 9, 10, 11, 12, 13, 14, 15, 16, 17, 18, 19, 20, 21, 22, 23, 24, 25, 26, 27, 28, 29, 30, 31, 32, 33, 34, 35, 36, 37, 38, 39, 40, 41, 42, 43, 44, 45, 46, 47, 48, 49, 50, 51, 52, 53, 54, 55, 56, 57, 58, 59, 60, 61, 62, 63, 64, 65, 66, 67, 68, 69, 70, 71, 72, 73, 74, 75, 76, 77, 78, 79, 80, 81, 82, 83, 84, 85, 86, 87, 88, 89, 90, 91, 92, 93, 94, 95, 96, 97, 98, 99, 100, 101, 102, 103, 104, 105, 106, 107, 108, 109, 110, 111, 112, 113, 114, 115, 116, 117, 118, 119, 120, 121, 122, 123, 124, 125, 126, 127, 128, 129, 130, 131, 132, 133, 134, 135, 136, 137, 138, 139, 140, 141, 142, 143, 144, 145, 146, 147, 148, 149, 150, 151, 152, 153, 154, 155, 156, 157, 158, 159, 160, 161, 162, 163, 164, 165, 166, 167, 168, 169, 170, 171] g_none rfl rfl (by unfold Body; kernel_rfl) Try.func18 rfl rfl rfl (szf := 8) (by rw [Try.ntmps18]; rfl) rfl ?_)
    | ((with_reducible refine isA_store ?_); refine awl_storeA tabOk g_none rfl rfl rfl (by first | exact Parts.mixed _ | exact Parts.closed _) (by rfl) (by rfl) rfl (Nat.le_of_ble_eq_true rfl) (by rfl) ?_)
    | refine stA ?_
    | refine stD ?_
    | (refine hK _ _ _ _ ?_; clear hK hX K)
    | (refine hX _ _ _ _ _ (by simp) ?_; clear hK hX K)
    | (first | refine inK_some (by first | exact .inl rfl | exact .inr rfl) (by exact trivial) rfl rfl (ResL.one (ResA.tmp rfl)) ?_ | refine inK_none (by first | exact .inl rfl | exact .inr rfl) (by exact trivial) rfl rfl (ResL.one (ResA.tmp rfl)) ?_))
  refine aw_nilown 8 43 3 rfl ?_
  clear h1 h2 h5
  refine aw_loopo [8, 9] [3, 4] rfl rfl (fun i : Nat => [(8, .own 4 0 (p i) 3 true), (9, .c (iv i))]) (fun i => [(3, .blk 60 [.c (sv [115]), .c (sv [116, 48]), .c (iv col), .c (iv kd), .c (iv w), .c (iv d)]), (4, .row 43 (rc (D i)))]) (fun i => i ≤ na) (fun i => na - i) 0 (Nat.zero_le _) (by refine weak_mk rfl ?_ ?_ rfl <;> (repeat' (first | exact weakE_nil | exact weakH_nil | refine weakE_cons rfl (by first | rfl | (first | exact own_eq rfl rfl hp0 | exact congrArg (fun x => AObj.row 43 (rc x)) hD0) | exact own_eq rfl rfl (by omega) | exact int_eq (by omega) | (simp <;> fail) | (congr 4; omega) | (congr 3; omega) | (congr 2; omega)) rfl ?_ | refine weakH_cons rfl (by first | rfl | (first | exact own_eq rfl rfl hp0 | exact congrArg (fun x => AObj.row 43 (rc x)) hD0) | exact own_eq rfl rfl (by omega) | exact int_eq (by omega) | (simp <;> fail) | (congr 4; omega) | (congr 3; omega) | (congr 2; omega)) rfl ?_))) ?_
  intro i hi K hK hX
  have hpi := hp i
  have hli : (rc (D i)).length = p i * 3 := by rw [rc_length, hpi]
  by_cases hlt : i < na
  · clear hF hq hDn hD0 hp0 hXf haw
    obtain ⟨e, he⟩ : ∃ e, A[i]? = some e := ⟨A[i]'(by omega), List.getElem?_eq_getElem _⟩
    have hmem := List.mem_of_getElem? he
    have her := ec_row he
    have hr2 := hrow2 e hmem
    have hrl : (rc e.r).length = 2 * 3 := by rw [rc_length, hr2]
    have hds := diffL_step (col := col) he
    rw [← hD, ← hD] at hds
    have hps := hp (i + 1)
    have hEe := hE e hmem
    obtain ⟨M, hM⟩ : ∃ M : Nat → Int, ∀ j, M j = multN col (cellV e.r col) (A.take j) := ⟨_, fun _ => rfl⟩
    have hM0 : 0 = M 0 := (hM 0).symm
    have hMn : M na = multN col (cellV e.r col) A := by rw [hM, List.take_of_length_le (by omega)]
    have hMb : ∀ j, 0 ≤ M j ∧ M j ≤ 500 := fun j => by
      rw [hM]
      have h1 := multN_bd col (cellV e.r col) (A.take j) fun f hf => hpos f (List.mem_of_mem_take hf)
      have h2 := absS_app (A.take j) (A.drop j)
      rw [List.take_append_drop] at h2
      omega
    rw [← hMn] at hEe
    by_cases hc : col < 2
    · obtain ⟨v, hv⟩ : ∃ v, e.r[col]? = some v := ⟨e.r[col]'(by omega), List.getElem?_eq_getElem _⟩
      rw [cellV_at hv] at hds hM hEe
      have hav := rc_at hv
      have hkv := rc_kd hv
      by_cases hk : v.k = 0
      · have : diffS (D i) v = D i := by unfold diffS; rw [if_pos (.inl hk)]
        rw [this] at hds
        have hpe : p i = p (i + 1) := by rw [← hpi, ← hps, hds]
        rw [hk] at hkv
        as_aux_lemma =>
          repeat' (first
    | ((with_reducible refine aw_seqk ?_); intro K hK hX)
    | ((with_reducible refine isC_reg ?_); refine aw_prune [0, 2, 3, 4, 5, 6, 7, 8, 9, 10, 11, 12, 13, 14, 15] rfl rfl ?_; with_reducible refine aw_region ?_)
    | ((with_reducible refine isC_draw ?_); refine aw_prune [0, 2, 3, 4, 5, 6, 7, 8, 9, 10, 11, 12, 13, 14, 15] rfl rfl ?_; refine aw_drwF [] ?_)
    | (refine drw_endA (by kernel_rfl) (by kernel_rfl) (by kernel_rfl) rfl ?_)
    | (refine k_only ?_)
    | ((first | ((with_reducible refine isA_any ?_); refine xA ?_) | ((with_reducible refine isDk_any ?_); refine xD ?_)); (first | ((with_reducible refine e_load ?_); (first | refine ex_i (s_load1 tabOk rfl rfl rfl rfl (by first | exact her | exact hkv)) ?_ | refine ex_i (s_load1r tabOk rfl rfl rfl rfl (by first | exact her | exact hkv)) ?_ | refine ex_i (s_load1i tabOk rfl rfl rfl (by first | exact her | exact hkv)) ?_ | refine ex_i (s_loadAr tabOk rfl rfl rfl rfl (by first | fail | exact whole0 (by first | rfl | omega) | rfl) zln) ?_ | refine ex_i (s_loadAi tabOk rfl rfl rfl (by first | fail | exact whole0 (by first | rfl | omega) | rfl) zln) ?_)) | ((with_reducible refine e_ix ?_); (first | refine ex_i (s_ixV1 tabOk rfl rfl zcj rfl rfl rfl rfl rfl zle (by first | exact her | exact hkv)) ?_ | refine ex_i (s_ixStr tabOk rfl rfl zcj rfl rfl (by first | exact her | exact hkv)) ?_)) | ((with_reducible refine e_slice ?_); (first | refine ex_i (s_slArri tabOk rfl rfl rfl rfl zbd zbd zle zle (by decide) (by first | fail | exact whole0 (by first | rfl | omega) | rfl) zln) ?_))))
    | ((with_reducible refine isA_store ?_); refine awl_storeA tabOk g_none rfl rfl rfl (by first | exact Parts.mixed _ | exact Parts.closed _) (by rfl) (by rfl) rfl (Nat.le_of_ble_eq_true rfl) (by rfl) ?_)
    | refine stA ?_
    | refine stD ?_
    | (refine hK _ _ _ _ ?_; clear hK hX K)
    | (refine hX _ _ _ _ _ (by simp) ?_; clear hK hX K))
          exact ⟨i + 1, by omega, by omega, (by refine weak_mk rfl ?_ ?_ rfl <;> (repeat' (first | exact weakE_nil | exact weakH_nil | refine weakE_cons rfl (by first | rfl | (first | exact own_eq rfl rfl hpe | exact congrArg (fun x => AObj.row 43 (rc x)) hds.symm) | exact own_eq rfl rfl (by omega) | exact int_eq (by omega) | (simp <;> fail) | (congr 4; omega) | (congr 3; omega) | (congr 2; omega)) rfl ?_ | refine weakH_cons rfl (by first | rfl | (first | exact own_eq rfl rfl hpe | exact congrArg (fun x => AObj.row 43 (rc x)) hds.symm) | exact own_eq rfl rfl (by omega) | exact int_eq (by omega) | (simp <;> fail) | (congr 4; omega) | (congr 3; omega) | (congr 2; omega)) rfl ?_)))⟩
      · obtain ⟨z, hes, hz0, hz1⟩ := hEe hk
        have hM1 := fun (j : Nat) (f : En) (hf : A[j]? = some f) => multN_step (col := col) (v := v) hf
        simp only [← hM] at hM1
        obtain ⟨S, hS⟩ : ∃ S : Nat → Bool, ∀ j, S j = decide (v ∈ (D i).take j) := ⟨_, fun _ => rfl⟩
        have hS0 : S 0 = false := hS 0
        have hSn : S (p i) = decide (v ∈ D i) := by rw [hS, List.take_of_length_le (by omega)]
        have hS1 : ∀ j u, (D i)[j]? = some u → S (j + 1) = (S j || decide (u = v)) := fun j u hu => by
          rw [hS, hS, List.take_add_one, hu, Option.toList_some, Bool.eq_iff_iff]
          simp only [decide_eq_true_eq, List.mem_append, List.mem_singleton, Bool.or_eq_true]
          exact or_congr Iff.rfl eq_comm
        obtain ⟨va, vm, vt⟩ := v
        simp only [Vl.c] at hav hes hkv hk
        clear hE hM hMn hS hEe
        repeat' (first
    | ((with_reducible refine aw_seqk ?_); intro K hK hX)
    | ((with_reducible refine isC_reg ?_); refine aw_prune [0, 2, 3, 4, 5, 6, 7, 8, 9, 10, 11, 12, 13, 14, 15] rfl rfl ?_; with_reducible refine aw_region ?_)
    | ((with_reducible refine isC_draw ?_); refine aw_prune [0, 2, 3, 4, 5, 6, 7, 8, 9, 10, 11, 12, 13, 14, 15] rfl rfl ?_; refine aw_drwF [] ?_)
    | (refine drw_endA (by kernel_rfl) (by kernel_rfl) (by kernel_rfl) rfl ?_)
    | (refine k_only ?_)
    | ((first | ((with_reducible refine isA_any ?_); refine xA ?_) | ((with_reducible refine isDk_any ?_); refine xD ?_)); (first | ((with_reducible refine e_load ?_); (first | refine ex_i (s_load1 tabOk rfl rfl rfl rfl (by first | exact her | exact hkv)) ?_ | refine ex_i (s_load1r tabOk rfl rfl rfl rfl (by first | exact her | exact hkv)) ?_ | refine ex_i (s_load1i tabOk rfl rfl rfl (by first | exact her | exact hkv)) ?_ | refine ex_i (s_loadAr tabOk rfl rfl rfl rfl (by first | exact hav | exact whole0 (by first | rfl | omega) | rfl) zln) ?_ | refine ex_i (s_loadAi tabOk rfl rfl rfl (by first | exact hav | exact whole0 (by first | rfl | omega) | rfl) zln) ?_)) | ((with_reducible refine e_ix ?_); (first | refine ex_i (s_ixV1 tabOk rfl rfl zcj rfl rfl rfl rfl rfl zle (by first | exact her | exact hkv)) ?_ | refine ex_i (s_ixStr tabOk rfl rfl zcj rfl rfl (by first | exact her | exact hkv)) ?_)) | ((with_reducible refine e_slice ?_); (first | refine ex_i (s_slArri tabOk rfl rfl rfl rfl zbd zbd zle zle (by decide) (by first | exact hav | exact whole0 (by first | rfl | omega) | rfl) zln) ?_))))
    | ((with_reducible refine isA_store ?_); refine awl_storeA tabOk g_none rfl rfl rfl (by first | exact Parts.mixed _ | exact Parts.closed _) (by rfl) (by rfl) rfl (Nat.le_of_ble_eq_true rfl) (by rfl) ?_)
    | refine stA ?_
    | refine stD ?_
    | (refine hK _ _ _ _ ?_; clear hK hX K)
    | (refine hX _ _ _ _ _ (by simp) ?_; clear hK hX K))
        refine aw_loopo [11, 13] [5] rfl rfl (fun j : Nat => [(11, .c (iv (M j))), (13, .c (iv j))]) (fun j => [(5, .blk 43 [.c (iv va), .c (iv vm), .c (sv vt)])]) (fun j => j ≤ na) (fun j => na - j) 0 (Nat.zero_le _) (by refine weak_mk rfl ?_ ?_ rfl <;> (repeat' (first | exact weakE_nil | exact weakH_nil | refine weakE_cons rfl (by first | rfl | (rw [← hM0]) | exact own_eq rfl rfl (by omega) | exact int_eq (by omega) | (simp <;> fail) | (congr 4; omega) | (congr 3; omega) | (congr 2; omega)) rfl ?_ | refine weakH_cons rfl (by first | rfl | (rw [← hM0]) | exact own_eq rfl rfl (by omega) | exact int_eq (by omega) | (simp <;> fail) | (congr 4; omega) | (congr 3; omega) | (congr 2; omega)) rfl ?_))) ?_
        intro j hj K hK hX
        by_cases hjl : j < na
        · obtain ⟨f, hf⟩ : ∃ f, A[j]? = some f := ⟨A[j]'(by omega), List.getElem?_eq_getElem _⟩
          have hfm := List.mem_of_getElem? hf
          have her' := ec_row hf
          have hen' := ec_n hf
          have hr2' := hrow2 f hfm
          have hrl' : (rc f.r).length = 2 * 3 := by rw [rc_length, hr2']
          obtain ⟨u, hu⟩ : ∃ u, f.r[col]? = some u := ⟨f.r[col]'(by omega), List.getElem?_eq_getElem _⟩
          have hau := rc_at hu
          have hmj := hM1 j f hf
          rw [cellV_at hu] at hmj
          have hb1 := hMb j
          have hb2 := hMb (j + 1)
          obtain ⟨ua, um, ut⟩ := u
          obtain ⟨fr, fc⟩ := f
          simp only [Vl.c] at hau her' hen' hrl' hr2' hmj
          clear hM1 hMb hM0 hS1 hSn hS0 hes hz0 hz1 hds hps hpi hli hp hpb hD hrow2 hpos habs hfA hf hfm hu he hmem her hr2 hrl hav hkv hv
          by_cases hue : ua = va ∧ um = vm ∧ ut = vt
          · rw [if_pos ((vl_eq ⟨ua, um, ut⟩ ⟨va, vm, vt⟩).1 hue)] at hmj
            have heq : decide ((⟨ua, um, ut⟩ : Vl) = ⟨va, vm, vt⟩) = true := decide_eq_true ((vl_eq ⟨ua, um, ut⟩ ⟨va, vm, vt⟩).1 hue)
            have hadd : IntKind.i64.wrap (M j + fc) = M (j + 1) := by rw [hmj]; exact w64 (by omega) (by omega)
            clear hue
            as_aux_lemma =>
              repeat' (first
    | ((with_reducible refine aw_seqk ?_); intro K hK hX)
    | ((with_reducible refine isC_reg ?_); refine aw_prune [0, 2, 3, 4, 5, 6, 7, 8, 9, 10, 11, 12, 13, 14, 15] rfl rfl ?_; with_reducible refine aw_region ?_)
    | ((with_reducible refine isC_draw ?_); refine aw_prune [0, 2, 3, 4, 5, 6, 7, 8, 9, 10, 11, 12, 13, 14, 15] rfl rfl ?_; refine aw_drwF [] ?_)
    | (refine drw_endA (by kernel_rfl) (by kernel_rfl) (by kernel_rfl) rfl ?_)
    | (refine k_only ?_)
    | ((first | ((with_reducible refine isA_any ?_); refine xA ?_) | ((with_reducible refine isDk_any ?_); refine xD ?_)); (first | ((with_reducible refine e_bin ?_); (first | refine ex_i (s_eqlV (a := ⟨ua, um, ut⟩) (b := ⟨va, vm, vt⟩) rfl rfl heq) ?_ | refine ex_i (s_arit64 rfl rfl rfl hadd) ?_)) | ((with_reducible refine e_load ?_); (first | refine ex_i (s_load1 tabOk rfl rfl rfl rfl (by first | exact her' | exact hen')) ?_ | refine ex_i (s_load1r tabOk rfl rfl rfl rfl (by first | exact her' | exact hen')) ?_ | refine ex_i (s_load1i tabOk rfl rfl rfl (by first | exact her' | exact hen')) ?_ | refine ex_i (s_loadAr tabOk rfl rfl rfl rfl (by first | exact hau | exact whole0 (by first | rfl | omega) | rfl) zln) ?_ | refine ex_i (s_loadAi tabOk rfl rfl rfl (by first | exact hau | exact whole0 (by first | rfl | omega) | rfl) zln) ?_)) | ((with_reducible refine e_ix ?_); (first | refine ex_i (s_ixV1 tabOk rfl rfl zcj rfl rfl rfl rfl rfl zle (by first | exact her' | exact hen')) ?_ | refine ex_i (s_ixStr tabOk rfl rfl zcj rfl rfl (by first | exact her' | exact hen')) ?_)) | ((with_reducible refine e_slice ?_); (first | refine ex_i (s_slArri tabOk rfl rfl rfl rfl zbd zbd zle zle (by decide) (by first | exact hau | exact whole0 (by first | rfl | omega) | rfl) zln) ?_))))
    | ((with_reducible refine isA_store ?_); refine awl_storeA tabOk g_none rfl rfl rfl (by first | exact Parts.mixed _ | exact Parts.closed _) (by rfl) (by rfl) rfl (Nat.le_of_ble_eq_true rfl) (by rfl) ?_)
    | refine stA ?_
    | refine stD ?_
    | (refine hK _ _ _ _ ?_; clear hK hX K)
    | (refine hX _ _ _ _ _ (by simp) ?_; clear hK hX K))
              exact ⟨j + 1, by omega, by omega, weakA⟩
          · rw [if_neg (fun h => hue ((vl_eq ⟨ua, um, ut⟩ ⟨va, vm, vt⟩).2 h))] at hmj
            have heq : decide ((⟨ua, um, ut⟩ : Vl) = ⟨va, vm, vt⟩) = false := decide_eq_false (fun h => hue ((vl_eq ⟨ua, um, ut⟩ ⟨va, vm, vt⟩).2 h))
            clear hue
            as_aux_lemma =>
              repeat' (first
    | ((with_reducible refine aw_seqk ?_); intro K hK hX)
    | ((with_reducible refine isC_reg ?_); refine aw_prune [0, 2, 3, 4, 5, 6, 7, 8, 9, 10, 11, 12, 13, 14, 15] rfl rfl ?_; with_reducible refine aw_region ?_)
    | ((with_reducible refine isC_draw ?_); refine aw_prune [0, 2, 3, 4, 5, 6, 7, 8, 9, 10, 11, 12, 13, 14, 15] rfl rfl ?_; refine aw_drwF [] ?_)
    | (refine drw_endA (by kernel_rfl) (by kernel_rfl) (by kernel_rfl) rfl ?_)
    | (refine k_only ?_)
    | ((first | ((with_reducible refine isA_any ?_); refine xA ?_) | ((with_reducible refine isDk_any ?_); refine xD ?_)); (first | ((with_reducible refine e_bin ?_); (first | refine ex_i (s_eqlV (a := ⟨ua, um, ut⟩) (b := ⟨va, vm, vt⟩) rfl rfl heq) ?_)) | ((with_reducible refine e_load ?_); (first | refine ex_i (s_load1 tabOk rfl rfl rfl rfl (by first | exact her' | exact hen')) ?_ | refine ex_i (s_load1r tabOk rfl rfl rfl rfl (by first | exact her' | exact hen')) ?_ | refine ex_i (s_load1i tabOk rfl rfl rfl (by first | exact her' | exact hen')) ?_ | refine ex_i (s_loadAr tabOk rfl rfl rfl rfl (by first | exact hau | exact whole0 (by first | rfl | omega) | rfl) zln) ?_ | refine ex_i (s_loadAi tabOk rfl rfl rfl (by first | exact hau | exact whole0 (by first | rfl | omega) | rfl) zln) ?_)) | ((with_reducible refine e_ix ?_); (first | refine ex_i (s_ixV1 tabOk rfl rfl zcj rfl rfl rfl rfl rfl zle (by first | exact her' | exact hen')) ?_ | refine ex_i (s_ixStr tabOk rfl rfl zcj rfl rfl (by first | exact her' | exact hen')) ?_)) | ((with_reducible refine e_slice ?_); (first | refine ex_i (s_slArri tabOk rfl rfl rfl rfl zbd zbd zle zle (by decide) (by first | exact hau | exact whole0 (by first | rfl | omega) | rfl) zln) ?_))))
    | ((with_reducible refine isA_store ?_); refine awl_storeA tabOk g_none rfl rfl rfl (by first | exact Parts.mixed _ | exact Parts.closed _) (by rfl) (by rfl) rfl (Nat.le_of_ble_eq_true rfl) (by rfl) ?_)
    | refine stA ?_
    | refine stD ?_
    | (refine hK _ _ _ _ ?_; clear hK hX K)
    | (refine hX _ _ _ _ _ (by simp) ?_; clear hK hX K))
              exact ⟨j + 1, by omega, by omega, (by refine weak_mk rfl ?_ ?_ rfl <;> (repeat' (first | exact weakE_nil | exact weakH_nil | refine weakE_cons rfl (by first | rfl | (exact congrArg (fun x => AV.c (iv x)) hmj.symm) | exact own_eq rfl rfl (by omega) | exact int_eq (by omega) | (simp <;> fail) | (congr 4; omega) | (congr 3; omega) | (congr 2; omega)) rfl ?_ | refine weakH_cons rfl (by first | rfl | (exact congrArg (fun x => AV.c (iv x)) hmj.symm) | exact own_eq rfl rfl (by omega) | exact int_eq (by omega) | (simp <;> fail) | (congr 4; omega) | (congr 3; omega) | (congr 2; omega)) rfl ?_)))⟩
        · have hjn : j = na := by omega
          rw [hjn]
          clear hM1 hMb hM0 hjl hj
          repeat' (first
    | ((with_reducible refine aw_seqk ?_); intro K hK hX)
    | ((with_reducible refine isC_reg ?_); refine aw_prune [0, 2, 3, 4, 5, 6, 7, 8, 9, 10, 11, 12, 13, 14, 15] rfl rfl ?_; with_reducible refine aw_region ?_)
    | ((with_reducible refine isC_draw ?_); refine aw_prune [0, 2, 3, 4, 5, 6, 7, 8, 9, 10, 11, 12, 13, 14, 15] rfl rfl ?_; refine aw_drwF [] ?_)
    | refine stA ?_
    | refine stD ?_
    | (refine hK _ _ _ _ ?_; clear hK hX K)
    | (refine hX _ _ _ _ _ (by simp) ?_; clear hK hX K))
          have hpi5 : p i ≤ 500 := by have := hpb i; omega
          refine aw_loopo [12, 14] [] rfl rfl (fun j : Nat => [(12, .c (bv (S j))), (14, .c (iv j))]) (fun j => []) (fun j => j ≤ p i) (fun j => p i - j) 0 (Nat.zero_le _) (by refine weak_mk rfl ?_ ?_ rfl <;> (repeat' (first | exact weakE_nil | exact weakH_nil | refine weakE_cons rfl (by first | rfl | (rw [hS0]) | exact own_eq rfl rfl (by omega) | exact int_eq (by omega) | (simp <;> fail) | (congr 4; omega) | (congr 3; omega) | (congr 2; omega)) rfl ?_ | refine weakH_cons rfl (by first | rfl | (rw [hS0]) | exact own_eq rfl rfl (by omega) | exact int_eq (by omega) | (simp <;> fail) | (congr 4; omega) | (congr 3; omega) | (congr 2; omega)) rfl ?_))) ?_
          intro j hj K hK hX
          by_cases hjl : j < p i
          · obtain ⟨u, hu⟩ : ∃ u, (D i)[j]? = some u := ⟨(D i)[j]'(by omega), List.getElem?_eq_getElem _⟩
            have hau : ((rc (D i)).drop (0 + j * 3)).take 3 = u.c := by rw [Nat.zero_add]; exact rc_at hu
            have hs1 := hS1 j u hu
            obtain ⟨ua, um, ut⟩ := u
            simp only [Vl.c] at hau
            clear hS1 hSn hS0 hes hz0 hz1 hds hps hp hpb hD hrow2 hpos habs hfA hu he hmem her hr2 hrl hav hkv hv
            cases hSj : S j with
            | true =>
              rw [hSj, Bool.true_or] at hs1
              as_aux_lemma =>
                repeat' (first
    | ((with_reducible refine aw_seqk ?_); intro K hK hX)
    | ((with_reducible refine isC_reg ?_); refine aw_prune [0, 2, 3, 4, 5, 6, 7, 8, 9, 10, 11, 12, 13, 14, 15] rfl rfl ?_; with_reducible refine aw_region ?_)
    | ((with_reducible refine isC_draw ?_); refine aw_prune [0, 2, 3, 4, 5, 6, 7, 8, 9, 10, 11, 12, 13, 14, 15] rfl rfl ?_; refine aw_drwF [] ?_)
    | (refine drw_endA (by kernel_rfl) (by kernel_rfl) (by kernel_rfl) rfl ?_)
    | (refine k_only ?_)
    | ((with_reducible refine isA_store ?_); refine awl_storeA tabOk g_none rfl rfl rfl (by first | exact Parts.mixed _ | exact Parts.closed _) (by rfl) (by rfl) rfl (Nat.le_of_ble_eq_true rfl) (by rfl) ?_)
    | refine stA ?_
    | refine stD ?_
    | (refine hK _ _ _ _ ?_; clear hK hX K)
    | (refine hX _ _ _ _ _ (by simp) ?_; clear hK hX K))
                exact ⟨j + 1, by omega, by omega, (by refine weak_mk rfl ?_ ?_ rfl <;> (repeat' (first | exact weakE_nil | exact weakH_nil | refine weakE_cons rfl (by first | rfl | (exact congrArg (fun x => AV.c (bv x)) hs1.symm) | exact own_eq rfl rfl (by omega) | exact int_eq (by omega) | (simp <;> fail) | (congr 4; omega) | (congr 3; omega) | (congr 2; omega)) rfl ?_ | refine weakH_cons rfl (by first | rfl | (exact congrArg (fun x => AV.c (bv x)) hs1.symm) | exact own_eq rfl rfl (by omega) | exact int_eq (by omega) | (simp <;> fail) | (congr 4; omega) | (congr 3; omega) | (congr 2; omega)) rfl ?_)))⟩
            | false =>
              rw [hSj, Bool.false_or] at hs1
              by_cases hue : ua = va ∧ um = vm ∧ ut = vt
              · rw [decide_eq_true ((vl_eq ⟨ua, um, ut⟩ ⟨va, vm, vt⟩).1 hue)] at hs1
                have heq : decide ((⟨ua, um, ut⟩ : Vl) = ⟨va, vm, vt⟩) = true := decide_eq_true ((vl_eq ⟨ua, um, ut⟩ ⟨va, vm, vt⟩).1 hue)
                clear hue
                as_aux_lemma =>
                  repeat' (first
    | ((with_reducible refine aw_seqk ?_); intro K hK hX)
    | ((with_reducible refine isC_reg ?_); refine aw_prune [0, 2, 3, 4, 5, 6, 7, 8, 9, 10, 11, 12, 13, 14, 15] rfl rfl ?_; with_reducible refine aw_region ?_)
    | ((with_reducible refine isC_draw ?_); refine aw_prune [0, 2, 3, 4, 5, 6, 7, 8, 9, 10, 11, 12, 13, 14, 15] rfl rfl ?_; refine aw_drwF [] ?_)
    | (refine drw_endA (by kernel_rfl) (by kernel_rfl) (by kernel_rfl) rfl ?_)
    | (refine k_only ?_)
    | ((first | ((with_reducible refine isA_any ?_); refine xA ?_) | ((with_reducible refine isDk_any ?_); refine xD ?_)); (first | ((with_reducible refine e_bin ?_); (first | refine ex_i (s_eqlV (a := ⟨ua, um, ut⟩) (b := ⟨va, vm, vt⟩) (congrArg (fun c => some (AV.c (CV.agg c))) hau) rfl heq) ?_))))
    | ((with_reducible refine isA_store ?_); refine awl_storeA tabOk g_none rfl rfl rfl (by first | exact Parts.mixed _ | exact Parts.closed _) (by rfl) (by rfl) rfl (Nat.le_of_ble_eq_true rfl) (by rfl) ?_)
    | refine stA ?_
    | refine stD ?_
    | (refine hK _ _ _ _ ?_; clear hK hX K)
    | (refine hX _ _ _ _ _ (by simp) ?_; clear hK hX K))
                  exact ⟨j + 1, by omega, by omega, (by refine weak_mk rfl ?_ ?_ rfl <;> (repeat' (first | exact weakE_nil | exact weakH_nil | refine weakE_cons rfl (by first | rfl | (exact congrArg (fun x => AV.c (bv x)) hs1.symm) | exact own_eq rfl rfl (by omega) | exact int_eq (by omega) | (simp <;> fail) | (congr 4; omega) | (congr 3; omega) | (congr 2; omega)) rfl ?_ | refine weakH_cons rfl (by first | rfl | (exact congrArg (fun x => AV.c (bv x)) hs1.symm) | exact own_eq rfl rfl (by omega) | exact int_eq (by omega) | (simp <;> fail) | (congr 4; omega) | (congr 3; omega) | (congr 2; omega)) rfl ?_)))⟩
              · rw [decide_eq_false (fun h => hue ((vl_eq ⟨ua, um, ut⟩ ⟨va, vm, vt⟩).2 h))] at hs1
                have heq : decide ((⟨ua, um, ut⟩ : Vl) = ⟨va, vm, vt⟩) = false := decide_eq_false (fun h => hue ((vl_eq ⟨ua, um, ut⟩ ⟨va, vm, vt⟩).2 h))
                clear hue
                as_aux_lemma =>
                  repeat' (first
    | ((with_reducible refine aw_seqk ?_); intro K hK hX)
    | ((with_reducible refine isC_reg ?_); refine aw_prune [0, 2, 3, 4, 5, 6, 7, 8, 9, 10, 11, 12, 13, 14, 15] rfl rfl ?_; with_reducible refine aw_region ?_)
    | ((with_reducible refine isC_draw ?_); refine aw_prune [0, 2, 3, 4, 5, 6, 7, 8, 9, 10, 11, 12, 13, 14, 15] rfl rfl ?_; refine aw_drwF [] ?_)
    | (refine drw_endA (by kernel_rfl) (by kernel_rfl) (by kernel_rfl) rfl ?_)
    | (refine k_only ?_)
    | ((first | ((with_reducible refine isA_any ?_); refine xA ?_) | ((with_reducible refine isDk_any ?_); refine xD ?_)); (first | ((with_reducible refine e_bin ?_); (first | refine ex_i (s_eqlV (a := ⟨ua, um, ut⟩) (b := ⟨va, vm, vt⟩) (congrArg (fun c => some (AV.c (CV.agg c))) hau) rfl heq) ?_))))
    | ((with_reducible refine isA_store ?_); refine awl_storeA tabOk g_none rfl rfl rfl (by first | exact Parts.mixed _ | exact Parts.closed _) (by rfl) (by rfl) rfl (Nat.le_of_ble_eq_true rfl) (by rfl) ?_)
    | refine stA ?_
    | refine stD ?_
    | (refine hK _ _ _ _ ?_; clear hK hX K)
    | (refine hX _ _ _ _ _ (by simp) ?_; clear hK hX K))
                  exact ⟨j + 1, by omega, by omega, (by refine weak_mk rfl ?_ ?_ rfl <;> (repeat' (first | exact weakE_nil | exact weakH_nil | refine weakE_cons rfl (by first | rfl | (exact congrArg (fun x => AV.c (bv x)) hs1.symm) | exact own_eq rfl rfl (by omega) | exact int_eq (by omega) | (simp <;> fail) | (congr 4; omega) | (congr 3; omega) | (congr 2; omega)) rfl ?_ | refine weakH_cons rfl (by first | rfl | (exact congrArg (fun x => AV.c (bv x)) hs1.symm) | exact own_eq rfl rfl (by omega) | exact int_eq (by omega) | (simp <;> fail) | (congr 4; omega) | (congr 3; omega) | (congr 2; omega)) rfl ?_)))⟩
          · have hjn : j = p i := by omega
            rw [hjn, hSn]
            clear hS1 hSn hS0 hp hpb hD hrow2 hpos habs hfA he hmem her hr2 hrl hav hkv hv hj hjl
            by_cases hin : (⟨va, vm, vt⟩ : Vl) ∈ D i
            · rw [decide_eq_true hin]
              have : diffS (D i) ⟨va, vm, vt⟩ = D i := by unfold diffS; rw [if_pos (.inr hin)]
              rw [this] at hds
              have hpe : p i = p (i + 1) := by rw [← hpi, ← hps, hds]
              clear hn hml hb hw hd hcol hna hkd hqb hil hAl hc hpi hps
              by_cases k0 : kd = 0
              · have hz := hz0 k0
                clear hz0 hz1
                as_aux_lemma =>
                  repeat' (first
    | ((with_reducible refine aw_seqk ?_); intro K hK hX)
    | ((with_reducible refine isC_reg ?_); refine aw_prune [0, 2, 3, 4, 5, 6, 7, 8, 9, 10, 11, 12, 13, 14, 15] rfl rfl ?_; with_reducible refine aw_region ?_)
    | ((with_reducible refine isC_draw ?_); refine aw_prune [0, 2, 3, 4, 5, 6, 7, 8, 9, 10, 11, 12, 13, 14, 15] rfl rfl ?_; refine aw_drwF [] ?_)
    | (refine drw_endA (by kernel_rfl) (by kernel_rfl) (by kernel_rfl) rfl ?_)
    | (refine k_only ?_)
    | ((first | with_reducible refine isA_call ?_ | with_reducible refine isD_call ?_); (first | refine zA ?_ | refine zN ?_ | refine zD ?_); (first | refine c0 (hes) ?_))
    | ((with_reducible refine isA_store ?_); refine awl_storeA tabOk g_none rfl rfl rfl (by first | exact Parts.mixed _ | exact Parts.closed _) (by rfl) (by rfl) rfl (Nat.le_of_ble_eq_true rfl) (by rfl) ?_)
    | refine stA ?_
    | refine stD ?_
    | (refine hK _ _ _ _ ?_; clear hK hX K)
    | (refine hX _ _ _ _ _ (by simp) ?_; clear hK hX K))
                  exact ⟨i + 1, by omega, by omega, (by refine weak_mk rfl ?_ ?_ rfl <;> (repeat' (first | exact weakE_nil | exact weakH_nil | refine weakE_cons rfl (by first | rfl | (first | exact own_eq rfl rfl hpe | exact congrArg (fun x => AObj.row 43 (rc x)) hds.symm) | exact own_eq rfl rfl (by omega) | exact int_eq (by omega) | (simp <;> fail) | (congr 4; omega) | (congr 3; omega) | (congr 2; omega)) rfl ?_ | refine weakH_cons rfl (by first | rfl | (first | exact own_eq rfl rfl hpe | exact congrArg (fun x => AObj.row 43 (rc x)) hds.symm) | exact own_eq rfl rfl (by omega) | exact int_eq (by omega) | (simp <;> fail) | (congr 4; omega) | (congr 3; omega) | (congr 2; omega)) rfl ?_)))⟩
              · by_cases k1 : kd = 1
                · have hz := hz1 k1
                  clear hz0 hz1
                  as_aux_lemma =>
                    repeat' (first
    | ((with_reducible refine aw_seqk ?_); intro K hK hX)
    | ((with_reducible refine isC_reg ?_); refine aw_prune [0, 2, 3, 4, 5, 6, 7, 8, 9, 10, 11, 12, 13, 14, 15] rfl rfl ?_; with_reducible refine aw_region ?_)
    | ((with_reducible refine isC_draw ?_); refine aw_prune [0, 2, 3, 4, 5, 6, 7, 8, 9, 10, 11, 12, 13, 14, 15] rfl rfl ?_; refine aw_drwF [] ?_)
    | (refine drw_endA (by kernel_rfl) (by kernel_rfl) (by kernel_rfl) rfl ?_)
    | (refine k_only ?_)
    | ((first | with_reducible refine isA_call ?_ | with_reducible refine isD_call ?_); (first | refine zA ?_ | refine zN ?_ | refine zD ?_); (first | refine c0 (hes) ?_))
    | ((with_reducible refine isA_store ?_); refine awl_storeA tabOk g_none rfl rfl rfl (by first | exact Parts.mixed _ | exact Parts.closed _) (by rfl) (by rfl) rfl (Nat.le_of_ble_eq_true rfl) (by rfl) ?_)
    | refine stA ?_
    | refine stD ?_
    | (refine hK _ _ _ _ ?_; clear hK hX K)
    | (refine hX _ _ _ _ _ (by simp) ?_; clear hK hX K))
                    exact ⟨i + 1, by omega, by omega, (by refine weak_mk rfl ?_ ?_ rfl <;> (repeat' (first | exact weakE_nil | exact weakH_nil | refine weakE_cons rfl (by first | rfl | (first | exact own_eq rfl rfl hpe | exact congrArg (fun x => AObj.row 43 (rc x)) hds.symm) | exact own_eq rfl rfl (by omega) | exact int_eq (by omega) | (simp <;> fail) | (congr 4; omega) | (congr 3; omega) | (congr 2; omega)) rfl ?_ | refine weakH_cons rfl (by first | rfl | (first | exact own_eq rfl rfl hpe | exact congrArg (fun x => AObj.row 43 (rc x)) hds.symm) | exact own_eq rfl rfl (by omega) | exact int_eq (by omega) | (simp <;> fail) | (congr 4; omega) | (congr 3; omega) | (congr 2; omega)) rfl ?_)))⟩
                · clear hz0 hz1
                  as_aux_lemma =>
                    repeat' (first
    | ((with_reducible refine aw_seqk ?_); intro K hK hX)
    | ((with_reducible refine isC_reg ?_); refine aw_prune [0, 2, 3, 4, 5, 6, 7, 8, 9, 10, 11, 12, 13, 14, 15] rfl rfl ?_; with_reducible refine aw_region ?_)
    | ((with_reducible refine isC_draw ?_); refine aw_prune [0, 2, 3, 4, 5, 6, 7, 8, 9, 10, 11, 12, 13, 14, 15] rfl rfl ?_; refine aw_drwF [] ?_)
    | (refine drw_endA (by kernel_rfl) (by kernel_rfl) (by kernel_rfl) rfl ?_)
    | (refine k_only ?_)
    | ((first | with_reducible refine isA_call ?_ | with_reducible refine isD_call ?_); (first | refine zA ?_ | refine zN ?_ | refine zD ?_); (first | refine c0 (hes) ?_))
    | ((with_reducible refine isA_store ?_); refine awl_storeA tabOk g_none rfl rfl rfl (by first | exact Parts.mixed _ | exact Parts.closed _) (by rfl) (by rfl) rfl (Nat.le_of_ble_eq_true rfl) (by rfl) ?_)
    | refine stA ?_
    | refine stD ?_
    | (refine hK _ _ _ _ ?_; clear hK hX K)
    | (refine hX _ _ _ _ _ (by simp) ?_; clear hK hX K))
                    exact ⟨i + 1, by omega, by omega, (by refine weak_mk rfl ?_ ?_ rfl <;> (repeat' (first | exact weakE_nil | exact weakH_nil | refine weakE_cons rfl (by first | rfl | (first | exact own_eq rfl rfl hpe | exact congrArg (fun x => AObj.row 43 (rc x)) hds.symm) | exact own_eq rfl rfl (by omega) | exact int_eq (by omega) | (simp <;> fail) | (congr 4; omega) | (congr 3; omega) | (congr 2; omega)) rfl ?_ | refine weakH_cons rfl (by first | rfl | (first | exact own_eq rfl rfl hpe | exact congrArg (fun x => AObj.row 43 (rc x)) hds.symm) | exact own_eq rfl rfl (by omega) | exact int_eq (by omega) | (simp <;> fail) | (congr 4; omega) | (congr 3; omega) | (congr 2; omega)) rfl ?_)))⟩
            · rw [decide_eq_false hin]
              have : diffS (D i) ⟨va, vm, vt⟩ = D i ++ [⟨va, vm, vt⟩] := by unfold diffS; rw [if_neg (fun h => h.elim hk hin)]
              rw [this] at hds
              have hpe : p i + 1 = p (i + 1) := by rw [← hpi, ← hps, hds, List.length_append]; rfl
              have hrow : rc (D i) ++ [iv va, iv vm, sv vt] = rc (D (i + 1)) := by rw [hds, ← rc_snoc]; rfl
              clear hn hml hb hw hd hcol hna hkd hqb hil hAl hc hpi hps
              by_cases k0 : kd = 0
              · have hz := hz0 k0
                clear hz0 hz1
                as_aux_lemma =>
                  repeat' (first
    | ((with_reducible refine aw_seqk ?_); intro K hK hX)
    | ((with_reducible refine isC_reg ?_); refine aw_prune [0, 2, 3, 4, 5, 6, 7, 8, 9, 10, 11, 12, 13, 14, 15] rfl rfl ?_; with_reducible refine aw_region ?_)
    | ((with_reducible refine isC_draw ?_); refine aw_prune [0, 2, 3, 4, 5, 6, 7, 8, 9, 10, 11, 12, 13, 14, 15] rfl rfl ?_; refine aw_drwF [] ?_)
    | (refine drw_endA (by kernel_rfl) (by kernel_rfl) (by kernel_rfl) rfl ?_)
    | (refine k_only ?_)
    | ((first | with_reducible refine isA_call ?_ | with_reducible refine isD_call ?_); (first | refine zA ?_ | refine zN ?_ | refine zD ?_); (first | refine c0 (hes) ?_))
    | ((with_reducible refine isA_store ?_); refine awl_storeA tabOk g_none rfl rfl rfl (by first | exact Parts.mixed _ | exact Parts.closed _) (by rfl) (by rfl) rfl (Nat.le_of_ble_eq_true rfl) (by rfl) ?_)
    | refine stA ?_
    | refine stD ?_
    | (refine hK _ _ _ _ ?_; clear hK hX K)
    | (refine hX _ _ _ _ _ (by simp) ?_; clear hK hX K))
                  exact ⟨i + 1, by omega, by omega, (by refine weak_ren [0, 1, 2, 3, 7] rfl rfl ?_ ?_ rfl rfl <;> (repeat' (first | exact weakER_nil | exact weakHR_nil | refine weakER_cons rfl (by first | rfl | (first | exact own_eq rfl rfl hpe | exact congrArg (AObj.row 43) hrow) | exact own_eq rfl rfl (by omega) | exact int_eq (by omega) | (simp <;> fail) | (congr 4; omega) | (congr 3; omega) | (congr 2; omega)) rfl ?_ | refine weakHR_cons rfl (by first | rfl | (first | exact own_eq rfl rfl hpe | exact congrArg (AObj.row 43) hrow) | exact own_eq rfl rfl (by omega) | exact int_eq (by omega) | (simp <;> fail) | (congr 4; omega) | (congr 3; omega) | (congr 2; omega)) rfl ?_)))⟩
              · by_cases k1 : kd = 1
                · have hz := hz1 k1
                  clear hz0 hz1
                  as_aux_lemma =>
                    repeat' (first
    | ((with_reducible refine aw_seqk ?_); intro K hK hX)
    | ((with_reducible refine isC_reg ?_); refine aw_prune [0, 2, 3, 4, 5, 6, 7, 8, 9, 10, 11, 12, 13, 14, 15] rfl rfl ?_; with_reducible refine aw_region ?_)
    | ((with_reducible refine isC_draw ?_); refine aw_prune [0, 2, 3, 4, 5, 6, 7, 8, 9, 10, 11, 12, 13, 14, 15] rfl rfl ?_; refine aw_drwF [] ?_)
    | (refine drw_endA (by kernel_rfl) (by kernel_rfl) (by kernel_rfl) rfl ?_)
    | (refine k_only ?_)
    | ((first | with_reducible refine isA_call ?_ | with_reducible refine isD_call ?_); (first | refine zA ?_ | refine zN ?_ | refine zD ?_); (first | refine c0 (hes) ?_))
    | ((with_reducible refine isA_store ?_); refine awl_storeA tabOk g_none rfl rfl rfl (by first | exact Parts.mixed _ | exact Parts.closed _) (by rfl) (by rfl) rfl (Nat.le_of_ble_eq_true rfl) (by rfl) ?_)
    | refine stA ?_
    | refine stD ?_
    | (refine hK _ _ _ _ ?_; clear hK hX K)
    | (refine hX _ _ _ _ _ (by simp) ?_; clear hK hX K))
                    exact ⟨i + 1, by omega, by omega, (by refine weak_ren [0, 1, 2, 3, 7] rfl rfl ?_ ?_ rfl rfl <;> (repeat' (first | exact weakER_nil | exact weakHR_nil | refine weakER_cons rfl (by first | rfl | (first | exact own_eq rfl rfl hpe | exact congrArg (AObj.row 43) hrow) | exact own_eq rfl rfl (by omega) | exact int_eq (by omega) | (simp <;> fail) | (congr 4; omega) | (congr 3; omega) | (congr 2; omega)) rfl ?_ | refine weakHR_cons rfl (by first | rfl | (first | exact own_eq rfl rfl hpe | exact congrArg (AObj.row 43) hrow) | exact own_eq rfl rfl (by omega) | exact int_eq (by omega) | (simp <;> fail) | (congr 4; omega) | (congr 3; omega) | (congr 2; omega)) rfl ?_)))⟩
                · clear hz0 hz1
                  as_aux_lemma =>
                    repeat' (first
    | ((with_reducible refine aw_seqk ?_); intro K hK hX)
    | ((with_reducible refine isC_reg ?_); refine aw_prune [0, 2, 3, 4, 5, 6, 7, 8, 9, 10, 11, 12, 13, 14, 15] rfl rfl ?_; with_reducible refine aw_region ?_)
    | ((with_reducible refine isC_draw ?_); refine aw_prune [0, 2, 3, 4, 5, 6, 7, 8, 9, 10, 11, 12, 13, 14, 15] rfl rfl ?_; refine aw_drwF [] ?_)
    | (refine drw_endA (by kernel_rfl) (by kernel_rfl) (by kernel_rfl) rfl ?_)
    | (refine k_only ?_)
    | ((first | with_reducible refine isA_call ?_ | with_reducible refine isD_call ?_); (first | refine zA ?_ | refine zN ?_ | refine zD ?_); (first | refine c0 (hes) ?_))
    | ((with_reducible refine isA_store ?_); refine awl_storeA tabOk g_none rfl rfl rfl (by first | exact Parts.mixed _ | exact Parts.closed _) (by rfl) (by rfl) rfl (Nat.le_of_ble_eq_true rfl) (by rfl) ?_)
    | refine stA ?_
    | refine stD ?_
    | (refine hK _ _ _ _ ?_; clear hK hX K)
    | (refine hX _ _ _ _ _ (by simp) ?_; clear hK hX K))
                    exact ⟨i + 1, by omega, by omega, (by refine weak_ren [0, 1, 2, 3, 7] rfl rfl ?_ ?_ rfl rfl <;> (repeat' (first | exact weakER_nil | exact weakHR_nil | refine weakER_cons rfl (by first | rfl | (first | exact own_eq rfl rfl hpe | exact congrArg (AObj.row 43) hrow) | exact own_eq rfl rfl (by omega) | exact int_eq (by omega) | (simp <;> fail) | (congr 4; omega) | (congr 3; omega) | (congr 2; omega)) rfl ?_ | refine weakHR_cons rfl (by first | rfl | (first | exact own_eq rfl rfl hpe | exact congrArg (AObj.row 43) hrow) | exact own_eq rfl rfl (by omega) | exact int_eq (by omega) | (simp <;> fail) | (congr 4; omega) | (congr 3; omega) | (congr 2; omega)) rfl ?_)))⟩
    · have hvn : cellV e.r col = Vl.nul := by unfold cellV; rw [List.getD_eq_getElem?_getD, List.getElem?_eq_none (by omega)]; rfl
      rw [hvn] at hds
      have : diffS (D i) Vl.nul = D i := by unfold diffS; rw [if_pos (.inl rfl)]
      rw [this] at hds
      have hpe : p i = p (i + 1) := by rw [← hpi, ← hps, hds]
      clear hE hEe hMb hMn hM hM0
      as_aux_lemma =>
        repeat' (first
    | ((with_reducible refine aw_seqk ?_); intro K hK hX)
    | ((with_reducible refine isC_reg ?_); refine aw_prune [0, 2, 3, 4, 5, 6, 7, 8, 9, 10, 11, 12, 13, 14, 15] rfl rfl ?_; with_reducible refine aw_region ?_)
    | ((with_reducible refine isC_draw ?_); refine aw_prune [0, 2, 3, 4, 5, 6, 7, 8, 9, 10, 11, 12, 13, 14, 15] rfl rfl ?_; refine aw_drwF [] ?_)
    | (refine drw_endA (by kernel_rfl) (by kernel_rfl) (by kernel_rfl) rfl ?_)
    | (refine k_only ?_)
    | ((first | ((with_reducible refine isA_any ?_); refine xA ?_) | ((with_reducible refine isDk_any ?_); refine xD ?_)); (first | ((with_reducible refine e_load ?_); (first | refine ex_i (s_load1 tabOk rfl rfl rfl rfl (by exact her)) ?_ | refine ex_i (s_load1r tabOk rfl rfl rfl rfl (by exact her)) ?_ | refine ex_i (s_load1i tabOk rfl rfl rfl (by exact her)) ?_ | refine ex_i (s_loadAr tabOk rfl rfl rfl rfl (by first | fail | exact whole0 (by first | rfl | omega) | rfl) zln) ?_ | refine ex_i (s_loadAi tabOk rfl rfl rfl (by first | fail | exact whole0 (by first | rfl | omega) | rfl) zln) ?_)) | ((with_reducible refine e_ix ?_); (first | refine ex_i (s_ixV1 tabOk rfl rfl zcj rfl rfl rfl rfl rfl zle (by exact her)) ?_ | refine ex_i (s_ixStr tabOk rfl rfl zcj rfl rfl (by exact her)) ?_)) | ((with_reducible refine e_slice ?_); (first | refine ex_i (s_slArri tabOk rfl rfl rfl rfl zbd zbd zle zle (by decide) (by first | fail | exact whole0 (by first | rfl | omega) | rfl) zln) ?_))))
    | ((with_reducible refine isA_store ?_); refine awl_storeA tabOk g_none rfl rfl rfl (by first | exact Parts.mixed _ | exact Parts.closed _) (by rfl) (by rfl) rfl (Nat.le_of_ble_eq_true rfl) (by rfl) ?_)
    | refine stA ?_
    | refine stD ?_
    | (refine hK _ _ _ _ ?_; clear hK hX K)
    | (refine hX _ _ _ _ _ (by simp) ?_; clear hK hX K))
        exact ⟨i + 1, by omega, by omega, (by refine weak_mk rfl ?_ ?_ rfl <;> (repeat' (first | exact weakE_nil | exact weakH_nil | refine weakE_cons rfl (by first | rfl | (first | exact own_eq rfl rfl hpe | exact congrArg (fun x => AObj.row 43 (rc x)) hds.symm) | exact own_eq rfl rfl (by omega) | exact int_eq (by omega) | (simp <;> fail) | (congr 4; omega) | (congr 3; omega) | (congr 2; omega)) rfl ?_ | refine weakH_cons rfl (by first | rfl | (first | exact own_eq rfl rfl hpe | exact congrArg (fun x => AObj.row 43 (rc x)) hds.symm) | exact own_eq rfl rfl (by omega) | exact int_eq (by omega) | (simp <;> fail) | (congr 4; omega) | (congr 3; omega) | (congr 2; omega)) rfl ?_)))⟩
  · have hin : i = na := by omega
    rw [hin] at hli ⊢
    clear hE hD hD0 hp0 hpb hDn hrow2 hpos habs hfA hpi
    by_cases k2 : kd = 2
    · by_cases hqw : q < w
      · have h6 := hF k2 hqw
        have hql := hq k2
        clear hF hq
        rcases hXf with ⟨hXe, hq0⟩ | ⟨cs, hXe⟩
        · rw [hXe] at h6 ⊢
          rw [hq0] at h6 hql hqw
          clear hp
          as_aux_lemma =>
            repeat' (first
    | ((with_reducible refine aw_seqk ?_); intro K hK hX)
    | ((with_reducible refine isC_reg ?_); refine aw_prune [0, 2, 3, 4, 5, 6, 7, 8, 9, 10, 11, 12, 13, 14, 15] rfl rfl ?_; with_reducible refine aw_region ?_)
    | ((with_reducible refine isC_draw ?_); refine aw_prune [0, 2, 3, 4, 5, 6, 7, 8, 9, 10, 11, 12, 13, 14, 15] rfl rfl ?_; refine aw_drwF [] ?_)
    | ((first | with_reducible refine isA_call ?_ | with_reducible refine isD_call ?_); (first | refine zA ?_ | refine zN ?_ | refine zD ?_); (first | refine c0 (h6) ?_ | refine c0 (haw) ?_))
    | ((first | ((with_reducible refine isA_any ?_); refine xA ?_) | ((with_reducible refine isDk_any ?_); refine xD ?_)); (first | ((with_reducible refine e_bin ?_); (first | refine ex_i (s_cmp rfl rfl rfl (decide_eq_true rfl)) ?_))))
    | refine stA ?_
    | refine stD ?_
    | (refine hK _ _ _ _ ?_; clear hK hX K)
    | (refine hX _ _ _ _ _ (by simp) ?_; clear hK hX K))
            refine retK_mk (by first | exact .inl rfl | exact .inr rfl) (by exact trivial) rfl (ResL.one (ResA.tmp rfl)) (by first | exact out_c zfz | exact out_own rfl rfl)
        · rw [hXe] at h6 ⊢
          clear hp
          as_aux_lemma =>
            repeat' (first
    | ((with_reducible refine aw_seqk ?_); intro K hK hX)
    | ((with_reducible refine isC_reg ?_); refine aw_prune [0, 2, 3, 4, 5, 6, 7, 8, 9, 10, 11, 12, 13, 14, 15] rfl rfl ?_; with_reducible refine aw_region ?_)
    | ((with_reducible refine isC_draw ?_); refine aw_prune [0, 2, 3, 4, 5, 6, 7, 8, 9, 10, 11, 12, 13, 14, 15] rfl rfl ?_; refine aw_drwF [] ?_)
    | ((first | with_reducible refine isA_call ?_ | with_reducible refine isD_call ?_); (first | refine zA ?_ | refine zN ?_ | refine zD ?_); (first | refine c0 (h6) ?_ | refine c0 (haw) ?_))
    | ((first | ((with_reducible refine isA_any ?_); refine xA ?_) | ((with_reducible refine isDk_any ?_); refine xD ?_)); (first | ((with_reducible refine e_bin ?_); (first | refine ex_i (s_cmp rfl rfl rfl (decide_eq_true rfl)) ?_))))
    | refine stA ?_
    | refine stD ?_
    | (refine hK _ _ _ _ ?_; clear hK hX K)
    | (refine hX _ _ _ _ _ (by simp) ?_; clear hK hX K))
            refine retK_mk (by first | exact .inl rfl | exact .inr rfl) (by exact trivial) rfl (ResL.one (ResA.tmp rfl)) (by first | exact out_c zfz | exact out_own rfl rfl)
      · clear hF hq hp
        rcases hXf with ⟨hXe, hq0⟩ | ⟨cs, hXe⟩
        · rw [hXe]
          rw [hq0] at hqw
          as_aux_lemma =>
            repeat' (first
    | ((with_reducible refine aw_seqk ?_); intro K hK hX)
    | ((with_reducible refine isC_reg ?_); refine aw_prune [0, 2, 3, 4, 5, 6, 7, 8, 9, 10, 11, 12, 13, 14, 15] rfl rfl ?_; with_reducible refine aw_region ?_)
    | ((with_reducible refine isC_draw ?_); refine aw_prune [0, 2, 3, 4, 5, 6, 7, 8, 9, 10, 11, 12, 13, 14, 15] rfl rfl ?_; refine aw_drwF [] ?_)
    | ((first | with_reducible refine isA_call ?_ | with_reducible refine isD_call ?_); (first | refine zA ?_ | refine zN ?_ | refine zD ?_); (first | refine c0 (haw) ?_))
    | refine stA ?_
    | refine stD ?_
    | (refine hK _ _ _ _ ?_; clear hK hX K)
    | (refine hX _ _ _ _ _ (by simp) ?_; clear hK hX K))
            refine retK_mk (by first | exact .inl rfl | exact .inr rfl) (by exact trivial) rfl (ResL.one (ResA.tmp rfl)) (by first | exact out_c zfz | exact out_own rfl rfl)
        · rw [hXe]
          as_aux_lemma =>
            repeat' (first
    | ((with_reducible refine aw_seqk ?_); intro K hK hX)
    | ((with_reducible refine isC_reg ?_); refine aw_prune [0, 2, 3, 4, 5, 6, 7, 8, 9, 10, 11, 12, 13, 14, 15] rfl rfl ?_; with_reducible refine aw_region ?_)
    | ((with_reducible refine isC_draw ?_); refine aw_prune [0, 2, 3, 4, 5, 6, 7, 8, 9, 10, 11, 12, 13, 14, 15] rfl rfl ?_; refine aw_drwF [] ?_)
    | ((first | with_reducible refine isA_call ?_ | with_reducible refine isD_call ?_); (first | refine zA ?_ | refine zN ?_ | refine zD ?_); (first | refine c0 (haw) ?_))
    | refine stA ?_
    | refine stD ?_
    | (refine hK _ _ _ _ ?_; clear hK hX K)
    | (refine hX _ _ _ _ _ (by simp) ?_; clear hK hX K))
            refine retK_mk (by first | exact .inl rfl | exact .inr rfl) (by exact trivial) rfl (ResL.one (ResA.tmp rfl)) (by first | exact out_c zfz | exact out_own rfl rfl)
    · clear hF hq hXf hp
      as_aux_lemma =>
        repeat' (first
    | ((with_reducible refine aw_seqk ?_); intro K hK hX)
    | ((with_reducible refine isC_reg ?_); refine aw_prune [0, 2, 3, 4, 5, 6, 7, 8, 9, 10, 11, 12, 13, 14, 15] rfl rfl ?_; with_reducible refine aw_region ?_)
    | ((with_reducible refine isC_draw ?_); refine aw_prune [0, 2, 3, 4, 5, 6, 7, 8, 9, 10, 11, 12, 13, 14, 15] rfl rfl ?_; refine aw_drwF [] ?_)
    | ((first | with_reducible refine isA_call ?_ | with_reducible refine isD_call ?_); (first | refine zA ?_ | refine zN ?_ | refine zD ?_); (first | refine c0 (haw) ?_))
    | refine stA ?_
    | refine stD ?_
    | (refine hK _ _ _ _ ?_; clear hK hX K)
    | (refine hX _ _ _ _ _ (by simp) ?_; clear hK hX K))
        refine retK_mk (by first | exact .inl rfl | exact .inr rfl) (by exact trivial) rfl (ResL.one (ResA.tmp rfl)) (by first | exact out_c zfz | exact out_own rfl rfl)
end Go.Proofs.Ytccnhpaldmjkbaa
