/-
  Joined texts: Z8 Z9. Lemmas; no statement of a law.
-/
import Derived.Test.YtccnhpaldmjkbaaGreatM12
set_option linter.unusedSimpArgs false
set_option linter.unusedVariables false
/-
  Sketches of bags (walk), as the reference has them.
-/
namespace Go.Proofs.YtccnhpaldmjkbaaGreat
open Go Go.RowKit Go.Av
set_option maxRecDepth 100000
attribute [local irreducible] Still Adds AWL AW Drw DrwE EStep AC AWR Weak Frz Src RetK Out InK ItK AsK RdK RetT OutT ACT ACS RetS ACP RetP
theorem botC_step {w col : Nat} {b : List En} {i : Nat} {e : En} (he : b[i]? = some e) (hz : (cellV e.r col).k ≠ 0) : botC w col (b.take (i + 1)) = .sl 1 (smallI w (smallI w (hashE col (b.take i)) ++ [botN (cellV e.r col)])).length (intc .i64 (smallI w (smallI w (hashE col (b.take i)) ++ [botN (cellV e.r col)]))) := by
  have h1 := hashE_step (col := col) he
  rw [if_neg hz] at h1
  rw [botC_some (by rw [h1]; simp), h1, small_app]
theorem botC_stay {w col : Nat} {b : List En} {i : Nat} {e : En} (he : b[i]? = some e) (hz : (cellV e.r col).k = 0) : botC w col (b.take (i + 1)) = botC w col (b.take i) := by
  have h1 := hashE_step (col := col) he
  rw [if_pos hz, List.append_nil] at h1
  unfold botC
  rw [h1]
set_option maxHeartbeats 8000000 in
theorem rbuildb_ok (nm sr : List UInt8) (col : Nat) (d : Int) (w : Nat) (b : List En) (n : Nat) (hn : b.length = n) (hfb : fitB b) (hf : formP ⟨nm, sr, col, 2, w, d⟩) (hp : posP b) (hcol : (col : Int) ≤ 9223372036854775807) : AC Tryz.prog 19 [.agg [sv nm, sv sr, iv col, iv 2, iv w, iv d], .sl 2 n (ec b)] (.tup [.c (botC w col b), .c (iv 0)]) [] 0 := by
  have hbl : (ec b).length = n * 2 := by rw [ec_length, hn]
  obtain ⟨f1, f2, f3, f4, f5, f6⟩ := id hf
  simp only at f1 f2 f3 f4 f5 f6
  have hn4 : n ≤ 4096 := by have := hp.1.1; omega
  have hm : n ≤ maxLen := by simp only [maxLen]; omega
  have h1 := rform_ok ⟨nm, sr, col, 2, w, d⟩
  rw [form_t hf] at h1
  have h2 := rpos_ok b n hn hm hfb
  have : ∀ i : Decidable (posP b), @decide _ i = true := fun i => @decide_eq_true _ i hp
  rw [this] at h2
  simp only [Sk.c] at h1
  have h3 := rnew2_ok nm sr col w d
  obtain ⟨B, hB⟩ : ∃ B : Nat → CV, ∀ i, B i = botC w col (b.take i) := ⟨_, fun _ => rfl⟩
  have hB0 : CV.v (.slice none 0 0) = B 0 := (hB 0).symm
  have hBn : B n = botC w col b := by rw [hB, List.take_of_length_le (by omega)]
  have hBs : ∀ i e, b[i]? = some e → (cellV e.r col).k = 0 → B (i + 1) = B i := fun i e he hz => by rw [hB, hB, botC_stay he hz]
  have hBa : ∀ i e, b[i]? = some e → (cellV e.r col).k ≠ 0 → AC Tryz.prog 56 [.agg [sv nm, sv sr, iv col, iv 2, iv w, iv d], B i, .agg (cellV e.r col).c, iv e.n] (.c (B (i + 1))) [] 0 := fun i e he hz => by
    have hA := raddb_ok nm sr col d w (cellV e.r col) (smallI w (hashE col (b.take i))) e.n _ _ rfl (smallI_asc _ _) (smallI_length _ _) (by omega) rfl
    rw [hB, hB, botC_step he hz]
    exact AC.args hA (cvl_cons cv_rfl (cvl_cons (botC_cv0 w col (b.take i)) (cvl_cons cv_rfl (cvl_cons cv_rfl cvl_nil))))
  rw [← hBn]
  clear hB hBn hp hf this hm
  refine ac_enter tabOk (sz := 69) Tryz.func19 rfl (by rw [Tryz.ntmps19]; rfl) ?_
  repeat' (first | ((with_reducible refine aw_seqk ?_); intro K hK hX) | ((with_reducible refine isC_reg ?_); refine aw_prune [0, 1, 2, 4, 5, 6, 7] rfl rfl ?_; with_reducible refine aw_region ?_) | ((with_reducible refine isC_draw ?_); refine aw_prune [0, 1, 2, 4, 5, 6, 7] rfl rfl ?_; refine aw_drwF [] ?_) | ((first | with_reducible refine isA_call ?_ | with_reducible refine isD_call ?_); (first | refine zA ?_ | refine zN ?_ | refine zD ?_); (first | refine c0 (h1) ?_ | refine c0 (h2) ?_ | refine c0 (h3) ?_)) | refine stA ?_ | refine stD ?_ | (refine hK _ _ _ _ ?_; clear hK hX K) | (refine hX _ _ _ _ _ (by simp) ?_; clear hK hX K))
  clear h1 h2 h3
  refine aw_loopo [6, 7] [] rfl rfl (fun i : Nat => [(6, .c (B i)), (7, .c (iv i))]) (fun i => []) (fun i => i ≤ n) (fun i => n - i) 0 (Nat.zero_le _) (by refine weak_mk rfl ?_ ?_ rfl <;> (repeat' (first | exact weakE_nil | exact weakH_nil | refine weakE_cons rfl (by first | rfl | (exact congrArg AV.c hB0) | exact zeq) rfl ?_ | refine weakH_cons rfl (by first | rfl | (exact congrArg AV.c hB0) | exact zeq) rfl ?_))) ?_
  intro i hi K hK hX
  by_cases hlt : i < n
  · obtain ⟨e, he⟩ : ∃ e, b[i]? = some e := ⟨b[i]'(by omega), List.getElem?_eq_getElem _⟩
    have hmem := List.mem_of_getElem? he
    have her := ec_row he
    have hen := ec_n he
    have hst := hBs i e he
    have had := hBa i e he
    have hrl := rc_length e.r
    have hfe := hfb e hmem
    by_cases hc : col < e.r.length
    · obtain ⟨v, hv⟩ : ∃ v, e.r[col]? = some v := ⟨e.r[col]'hc, List.getElem?_eq_getElem _⟩
      rw [cellz_at hv] at hst had
      have hav := rc_at hv
      have hkv := rcz_kd hv
      by_cases hz : v.k = 0
      · have hst := hst hz
        clear had
        rw [hz] at hkv
        obtain ⟨r, c⟩ := e
        simp only at *
        generalize r.length = rn at *
        clear hBs hBa hfb he hmem hB0 hv
        repeat' (first | ((with_reducible refine aw_seqk ?_); intro K hK hX) | ((with_reducible refine isC_reg ?_); refine aw_prune [0, 1, 2, 4, 5, 6, 7] rfl rfl ?_; with_reducible refine aw_region ?_) | ((with_reducible refine isC_draw ?_); refine aw_prune [0, 1, 2, 4, 5, 6, 7] rfl rfl ?_; refine aw_drwF [] ?_) | (refine drw_endA (by kernel_rfl) (by kernel_rfl) (by kernel_rfl) rfl ?_) | (refine k_only ?_) | ((first | ((with_reducible refine isA_any ?_); refine xA ?_) | ((with_reducible refine isDk_any ?_); refine xD ?_)); (first | ((with_reducible refine e_load ?_); (first | refine ex_i (s_load1 tabOk rfl rfl rfl rfl (by first | exact her | exact hkv)) ?_ | refine ex_i (s_load1r tabOk rfl rfl rfl rfl (by first | exact her | exact hkv)) ?_ | refine ex_i (s_load1i tabOk rfl rfl rfl (by first | exact her | exact hkv)) ?_)) | ((with_reducible refine e_ix ?_); (first | refine ex_i (s_ixV1 tabOk rfl rfl zcj rfl rfl rfl rfl rfl zle (by first | exact her | exact hkv)) ?_ | refine ex_i (s_ixStr tabOk rfl rfl zcj rfl rfl (by first | exact her | exact hkv)) ?_)))) | ((with_reducible refine isA_store ?_); refine awl_storeA tabOk g_none rfl rfl rfl zpt (by rfl) (by rfl) rfl (Nat.le_of_ble_eq_true rfl) (by rfl) ?_) | refine stA ?_ | refine stD ?_ | (refine hK _ _ _ _ ?_; clear hK hX K) | (refine hX _ _ _ _ _ (by simp) ?_; clear hK hX K))
        exact ⟨i + 1, by omega, by omega, (by refine weak_mk rfl ?_ ?_ rfl <;> (repeat' (first | exact weakE_nil | exact weakH_nil | refine weakE_cons rfl (by first | rfl | (exact congrArg AV.c hst.symm) | exact zeq) rfl ?_ | refine weakH_cons rfl (by first | rfl | (exact congrArg AV.c hst.symm) | exact zeq) rfl ?_)))⟩
      · have had := had hz
        clear hst
        obtain ⟨r, c⟩ := e
        obtain ⟨va, vm, vt⟩ := v
        simp only [Vl.c] at *
        generalize r.length = rn at *
        clear hBs hBa hfb he hmem hB0 hv
        repeat' (first | ((with_reducible refine aw_seqk ?_); intro K hK hX) | ((with_reducible refine isC_reg ?_); refine aw_prune [0, 1, 2, 4, 5, 6, 7] rfl rfl ?_; with_reducible refine aw_region ?_) | ((with_reducible refine isC_draw ?_); refine aw_prune [0, 1, 2, 4, 5, 6, 7] rfl rfl ?_; refine aw_drwF [] ?_) | (refine drw_endA (by kernel_rfl) (by kernel_rfl) (by kernel_rfl) rfl ?_) | (refine k_only ?_) | ((first | with_reducible refine isA_call ?_ | with_reducible refine isD_call ?_); (first | refine zA ?_ | refine zN ?_ | refine zD ?_); (first | refine c0 (had) ?_)) | ((first | ((with_reducible refine isA_any ?_); refine xA ?_) | ((with_reducible refine isDk_any ?_); refine xD ?_)); (first | ((with_reducible refine e_load ?_); (first | refine ex_i (s_load1 tabOk rfl rfl rfl rfl (by first | exact her | exact hkv | exact hen)) ?_ | refine ex_i (s_load1r tabOk rfl rfl rfl rfl (by first | exact her | exact hkv | exact hen)) ?_ | refine ex_i (s_load1i tabOk rfl rfl rfl (by first | exact her | exact hkv | exact hen)) ?_ | refine ex_i (s_loadAr tabOk rfl rfl rfl rfl (by first | exact hav | exact whole0 (by first | rfl | omega) | rfl) zln) ?_ | refine ex_i (s_loadAi tabOk rfl rfl rfl (by first | exact hav | exact whole0 (by first | rfl | omega) | rfl) zln) ?_)) | ((with_reducible refine e_ix ?_); (first | refine ex_i (s_ixV1 tabOk rfl rfl zcj rfl rfl rfl rfl rfl zle (by first | exact her | exact hkv | exact hen)) ?_ | refine ex_i (s_ixStr tabOk rfl rfl zcj rfl rfl (by first | exact her | exact hkv | exact hen)) ?_)) | ((with_reducible refine e_slice ?_); (first | refine ex_i (s_slArri tabOk rfl rfl rfl rfl zbd zbd zle zle (by decide) (by first | exact hav | exact whole0 (by first | rfl | omega) | rfl) zln) ?_)))) | ((with_reducible refine isA_store ?_); refine awl_storeA tabOk g_none rfl rfl rfl zpt (by rfl) (by rfl) rfl (Nat.le_of_ble_eq_true rfl) (by rfl) ?_) | refine stA ?_ | refine stD ?_ | (refine hK _ _ _ _ ?_; clear hK hX K) | (refine hX _ _ _ _ _ (by simp) ?_; clear hK hX K))
        exact ⟨i + 1, by omega, by omega, weakA⟩
    · rw [cellz_no (by omega)] at hst
      have hst := hst rfl
      obtain ⟨r, c⟩ := e
      simp only at *
      generalize r.length = rn at *
      clear hBs hBa hfb he hmem hB0 had
      repeat' (first | ((with_reducible refine aw_seqk ?_); intro K hK hX) | ((with_reducible refine isC_reg ?_); refine aw_prune [0, 1, 2, 4, 5, 6, 7] rfl rfl ?_; with_reducible refine aw_region ?_) | ((with_reducible refine isC_draw ?_); refine aw_prune [0, 1, 2, 4, 5, 6, 7] rfl rfl ?_; refine aw_drwF [] ?_) | (refine drw_endA (by kernel_rfl) (by kernel_rfl) (by kernel_rfl) rfl ?_) | (refine k_only ?_) | ((first | ((with_reducible refine isA_any ?_); refine xA ?_) | ((with_reducible refine isDk_any ?_); refine xD ?_)); (first | ((with_reducible refine e_load ?_); (first | refine ex_i (s_load1 tabOk rfl rfl rfl rfl (by first | exact her | exact hen)) ?_ | refine ex_i (s_load1r tabOk rfl rfl rfl rfl (by first | exact her | exact hen)) ?_ | refine ex_i (s_load1i tabOk rfl rfl rfl (by first | exact her | exact hen)) ?_)) | ((with_reducible refine e_ix ?_); (first | refine ex_i (s_ixV1 tabOk rfl rfl zcj rfl rfl rfl rfl rfl zle (by first | exact her | exact hen)) ?_ | refine ex_i (s_ixStr tabOk rfl rfl zcj rfl rfl (by first | exact her | exact hen)) ?_)))) | ((with_reducible refine isA_store ?_); refine awl_storeA tabOk g_none rfl rfl rfl zpt (by rfl) (by rfl) rfl (Nat.le_of_ble_eq_true rfl) (by rfl) ?_) | refine stA ?_ | refine stD ?_ | (refine hK _ _ _ _ ?_; clear hK hX K) | (refine hX _ _ _ _ _ (by simp) ?_; clear hK hX K))
      exact ⟨i + 1, by omega, by omega, (by refine weak_mk rfl ?_ ?_ rfl <;> (repeat' (first | exact weakE_nil | exact weakH_nil | refine weakE_cons rfl (by first | rfl | (exact congrArg AV.c hst.symm) | exact zeq) rfl ?_ | refine weakH_cons rfl (by first | rfl | (exact congrArg AV.c hst.symm) | exact zeq) rfl ?_)))⟩
  · have hin : i = n := by omega
    rw [hin]
    clear hBs hBa hfb hB0
    repeat' (first | ((with_reducible refine aw_seqk ?_); intro K hK hX) | ((with_reducible refine isC_reg ?_); refine aw_prune [0, 1, 2, 4, 5, 6, 7] rfl rfl ?_; with_reducible refine aw_region ?_) | ((with_reducible refine isC_draw ?_); refine aw_prune [0, 1, 2, 4, 5, 6, 7] rfl rfl ?_; refine aw_drwF [] ?_) | refine stA ?_ | refine stD ?_ | (refine hK _ _ _ _ ?_; clear hK hX K) | (refine hX _ _ _ _ _ (by simp) ?_; clear hK hX K))
    refine retK_mk zio ztr rfl (ResL.two (ResA.tmp rfl) (ResA.tmp rfl)) (out_t (frzl_cons zfz (frzl_cons zfz frzl_nil)))
end Go.Proofs.YtccnhpaldmjkbaaGreat
/-
  Cells and sketches with one thing changed, off a tape (walk).
-/
namespace Go.Proofs.YtccnhpaldmjkbaaGreat
open Go Go.RowKit Go.Av
set_option maxRecDepth 100000
theorem ACT.args {P : Program} {f : FuncId} {T : TypeId} {c0 args args' c1 : List CV} {r : CV} (h : ACT P f T c0 args c1 r) (hc : CvL args' args) : ACT P f T c0 args' c1 r := fun ok w g us0 vs h1 h2 h3 h4 => h ok w g us0 vs h1 h2 h3 (hc _ _ _ h4)
def spnV (x : Int) : Int := [-1, 0, 1, 2, 1073741824, 1073741825, 4611686018427387903, 4611686018427387904].getD x.toNat 0
theorem spnc (x : Int) (h1 : 0 ≤ x) (h2 : x < 8) : ([iv (-1), iv 0, iv 1, iv 2, iv 1073741824, iv 1073741825, iv 4611686018427387903, iv 4611686018427387904] : List CV)[x.toNat]? = some (iv (spnV x)) := by
  rcases (show x = 0 ∨ x = 1 ∨ x = 2 ∨ x = 3 ∨ x = 4 ∨ x = 5 ∨ x = 6 ∨ x = 7 by omega) with e | e | e | e | e | e | e | e <;> subst e <;> rfl
def spwV (x : Int) : Int := [0, -1, 7, 1024, 1025].getD x.toNat 0
theorem spwc (x : Int) (h1 : 0 ≤ x) (h2 : x < 5) : ([iv 0, iv (-1), iv 7, iv 1024, iv 1025] : List CV)[x.toNat]? = some (iv (spwV x)) := by
  rcases (show x = 0 ∨ x = 1 ∨ x = 2 ∨ x = 3 ∨ x = 4 by omega) with e | e | e | e | e <;> subst e <;> rfl
def spdV (x : Int) : Int := [0, 1, 2, 8, 9].getD x.toNat 0
theorem spdc (x : Int) (h1 : 0 ≤ x) (h2 : x < 5) : ([iv 0, iv 1, iv 2, iv 8, iv 9] : List CV)[x.toNat]? = some (iv (spdV x)) := by
  rcases (show x = 0 ∨ x = 1 ∨ x = 2 ∨ x = 3 ∨ x = 4 by omega) with e | e | e | e | e <;> subst e <;> rfl
attribute [local irreducible] Still Adds AWL AW Drw DrwE EStep AC AWR Weak Frz Src RetK Out InK ItK AsK RdK RetT OutT ACT ACS RetS ACP RetP
set_option maxHeartbeats 8000000 in
theorem tspc_ok (l : List Int) (n : Nat) (a : Int) (c : List Int) (q : Nat) (hn : l.length = n) (hnn : n ≤ maxLen) (ha0 : 0 ≤ a) (ha : a ≤ 9223372036854775807) (hq : c.length = q) (hq2 : q ≤ 100000) :
    ∃ (e : List Int) (Q : Nat) (a' : Int), e.length = Q ∧ Q ≤ q + 1 ∧ 0 ≤ a' ∧ a' ≤ 9223372036854775807 ∧ ACT Tryz.prog 20 72 (tpC l n a) [.sl 1 q (intc .i64 c)] (tpC l n a') (.sl 1 Q (intc .i64 e)) := by
  have hcl : (intc .i64 c).length = q := by rw [intc_length, hq]
  have h0 := next_ok l n a 8 hn hnn ha0 ha (by decide)
  obtain ⟨b0, b0'⟩ := nextX_bd l n a 8 (by decide) (by decide)
  obtain ⟨p1, p2⟩ := nextA_bd n a 8 ha0 ha
  generalize nextX l n a 8 = x0 at *
  generalize nextA n a 8 = a1 at *
  have hv := spnc x0 b0 b0'
  generalize spnV x0 = v at hv
  have hs1 : intc .i64 c ++ [iv v] = intc .i64 (c ++ [v]) := by simp [intc]
  have hs3 : (intc .i64 c ++ [iv v]).length = (q + 1) * 1 := by rw [List.length_append, hcl, Nat.mul_one]; rfl
  have hs2 : (intc .i64 (c ++ [v])).length = q + 1 := by rw [intc_length, List.length_append, hq]; rfl
  by_cases q0 : q = 0
  · refine ⟨c ++ [v], q + 1, a1, by rw [List.length_append, hq]; rfl, Nat.le_refl _, p1, p2, ?_⟩
    have h1 := True.intro
    have h2 := True.intro
    have h3 := True.intro
    refine act_enter tabOk (sz := 40) Tryz.func20 rfl (by rw [Tryz.ntmps20]; rfl) ?_
    repeat' (first | ((with_reducible refine aw_seqk ?_); intro K hK hX) | ((with_reducible refine isC_reg ?_); refine aw_prune [0, 1, 4, 5, 6] rfl rfl ?_; with_reducible refine aw_region ?_) | refine stA ?_ | (refine hK _ _ _ _ ?_; clear hK hX K) | (refine hX _ _ _ _ _ (by simp) ?_; clear hK hX K))
    rw [Nat.zero_add q, List.nil_append]
    repeat' (first | ((with_reducible refine aw_seqk ?_); intro K hK hX) | ((with_reducible refine isC_reg ?_); refine aw_prune [0, 1, 4, 5, 6] rfl rfl ?_; with_reducible refine aw_region ?_) | ((with_reducible refine isA_call ?_); refine awl_callT (h0) (by first | exact g_none | exact (g_some rfl rfl zgb)) rfl zby rfl rfl rfl rfl zcv rfl ztp ?_) | ((with_reducible refine isA_call ?_); refine awl_callT (h1) (by first | exact g_none | exact (g_some rfl rfl zgb)) rfl zby rfl rfl rfl rfl zcv rfl ztp ?_) | ((with_reducible refine isA_call ?_); refine awl_callT (h2) (by first | exact g_none | exact (g_some rfl rfl zgb)) rfl zby rfl rfl rfl rfl zcv rfl ztp ?_) | ((with_reducible refine isA_call ?_); refine awl_callT (h3) (by first | exact g_none | exact (g_some rfl rfl zgb)) rfl zby rfl rfl rfl rfl zcv rfl ztp ?_) | (((with_reducible refine isA_any ?_); refine xA ?_); (first | ((with_reducible refine e_load ?_); (first | refine ex_i (s_load1 tabOk rfl rfl rfl rfl (by (rw [Nat.zero_add, Nat.mul_one]; exact hv))) ?_ | refine ex_i (s_load1r tabOk rfl rfl rfl rfl (by (rw [Nat.zero_add, Nat.mul_one]; exact hv))) ?_ | refine ex_i (s_load1i tabOk rfl rfl rfl (by (rw [Nat.zero_add, Nat.mul_one]; exact hv))) ?_)) | ((with_reducible refine e_ix ?_); (first | refine ex_i (s_ixV1 tabOk rfl rfl zcj rfl rfl rfl rfl rfl zle (by (rw [Nat.zero_add, Nat.mul_one]; exact hv))) ?_ | refine ex_i (s_ixStr tabOk rfl rfl zcj rfl rfl (by (rw [Nat.zero_add, Nat.mul_one]; exact hv))) ?_)))) | ((with_reducible refine isA_store ?_); refine awl_storeA tabOk g_none rfl rfl rfl zpt (by rfl) (by rfl) rfl (Nat.le_of_ble_eq_true rfl) (by rfl) ?_) | refine stA ?_ | (refine hK _ _ _ _ ?_; clear hK hX K) | (refine hX _ _ _ _ _ (by simp) ?_; clear hK hX K))
    refine retT_mk zio ztr rfl rfl (ResL.one (ResA.tmp rfl)) (outT_c (frz_cv (frz_ownW rfl rfl hs3) (cv_sl rfl hs1)) rfl rfl)
  · have h1 := next_ok l n a1 4 hn hnn p1 p2 (by decide)
    obtain ⟨b1, b1'⟩ := nextX_bd l n a1 4 (by decide) (by decide)
    obtain ⟨p3, p4⟩ := nextA_bd n a1 4 p1 p2
    generalize nextX l n a1 4 = x1 at *
    generalize nextA n a1 4 = a2 at *
    by_cases k1 : x1 = 0
    · refine ⟨c ++ [v], q + 1, a2, by rw [List.length_append, hq]; rfl, Nat.le_refl _, p3, p4, ?_⟩
      have h2 := True.intro
      have h3 := True.intro
      refine act_enter tabOk (sz := 40) Tryz.func20 rfl (by rw [Tryz.ntmps20]; rfl) ?_
      repeat' (first | ((with_reducible refine aw_seqk ?_); intro K hK hX) | ((with_reducible refine isC_reg ?_); refine aw_prune [0, 1, 4, 5, 6] rfl rfl ?_; with_reducible refine aw_region ?_) | refine stA ?_ | (refine hK _ _ _ _ ?_; clear hK hX K) | (refine hX _ _ _ _ _ (by simp) ?_; clear hK hX K))
      rw [Nat.zero_add q, List.nil_append]
      repeat' (first | ((with_reducible refine aw_seqk ?_); intro K hK hX) | ((with_reducible refine isC_reg ?_); refine aw_prune [0, 1, 4, 5, 6] rfl rfl ?_; with_reducible refine aw_region ?_) | ((with_reducible refine isA_call ?_); refine awl_callT (h0) (by first | exact g_none | exact (g_some rfl rfl zgb)) rfl zby rfl rfl rfl rfl zcv rfl ztp ?_) | ((with_reducible refine isA_call ?_); refine awl_callT (h1) (by first | exact g_none | exact (g_some rfl rfl zgb)) rfl zby rfl rfl rfl rfl zcv rfl ztp ?_) | ((with_reducible refine isA_call ?_); refine awl_callT (h2) (by first | exact g_none | exact (g_some rfl rfl zgb)) rfl zby rfl rfl rfl rfl zcv rfl ztp ?_) | ((with_reducible refine isA_call ?_); refine awl_callT (h3) (by first | exact g_none | exact (g_some rfl rfl zgb)) rfl zby rfl rfl rfl rfl zcv rfl ztp ?_) | (((with_reducible refine isA_any ?_); refine xA ?_); (first | ((with_reducible refine e_load ?_); (first | refine ex_i (s_load1 tabOk rfl rfl rfl rfl (by (rw [Nat.zero_add, Nat.mul_one]; exact hv))) ?_ | refine ex_i (s_load1r tabOk rfl rfl rfl rfl (by (rw [Nat.zero_add, Nat.mul_one]; exact hv))) ?_ | refine ex_i (s_load1i tabOk rfl rfl rfl (by (rw [Nat.zero_add, Nat.mul_one]; exact hv))) ?_)) | ((with_reducible refine e_ix ?_); (first | refine ex_i (s_ixV1 tabOk rfl rfl zcj rfl rfl rfl rfl rfl zle (by (rw [Nat.zero_add, Nat.mul_one]; exact hv))) ?_ | refine ex_i (s_ixStr tabOk rfl rfl zcj rfl rfl (by (rw [Nat.zero_add, Nat.mul_one]; exact hv))) ?_)))) | ((with_reducible refine isA_store ?_); refine awl_storeA tabOk g_none rfl rfl rfl zpt (by rfl) (by rfl) rfl (Nat.le_of_ble_eq_true rfl) (by rfl) ?_) | refine stA ?_ | (refine hK _ _ _ _ ?_; clear hK hX K) | (refine hX _ _ _ _ _ (by simp) ?_; clear hK hX K))
      refine retT_mk zio ztr rfl rfl (ResL.one (ResA.tmp rfl)) (outT_c (frz_cv (frz_ownW rfl rfl hs3) (cv_sl rfl hs1)) rfl rfl)
    · have h2 := next_ok l n a2 4 hn hnn p3 p4 (by decide)
      obtain ⟨b2, b2'⟩ := nextX_bd l n a2 4 (by decide) (by decide)
      obtain ⟨p5, p6⟩ := nextA_bd n a2 4 p3 p4
      generalize nextX l n a2 4 = x2 at *
      generalize nextA n a2 4 = a3 at *
      by_cases k2 : x2 = 0
      · refine ⟨c.drop 1, q - 1, a3, by rw [List.length_drop, hq], by omega, p5, p6, ?_⟩
        have h3 := True.intro
        have hd : intc .i64 (c.drop 1) = (intc .i64 c).drop 1 := by simp [intc, List.map_drop]
        have hdl : ((intc .i64 c).drop 1).length = q - 1 := by rw [List.length_drop, hcl]
        rw [hd]
        have hdw : ((intc .i64 c).drop (0 + 1 * 1)).take ((q - 1) * 1) = (intc .i64 c).drop 1 := by rw [Nat.zero_add, Nat.mul_one, Nat.mul_one, List.take_of_length_le (by omega)]
        have hdl2 : ((intc .i64 c).drop 1).length = (q - 1) * 1 := by rw [hdl, Nat.mul_one]
        clear hs1 hs2 hs3
        refine act_enter tabOk (sz := 40) Tryz.func20 rfl (by rw [Tryz.ntmps20]; rfl) ?_
        repeat' (first | ((with_reducible refine aw_seqk ?_); intro K hK hX) | ((with_reducible refine isC_reg ?_); refine aw_prune [0, 1, 4, 5, 6] rfl rfl ?_; with_reducible refine aw_region ?_) | refine stA ?_ | (refine hK _ _ _ _ ?_; clear hK hX K) | (refine hX _ _ _ _ _ (by simp) ?_; clear hK hX K))
        rw [Nat.zero_add q, List.nil_append]
        repeat' (first | ((with_reducible refine aw_seqk ?_); intro K hK hX) | ((with_reducible refine isC_reg ?_); refine aw_prune [0, 1, 4, 5, 6] rfl rfl ?_; with_reducible refine aw_region ?_) | ((with_reducible refine isA_call ?_); refine awl_callT (h0) (by first | exact g_none | exact (g_some rfl rfl zgb)) rfl zby rfl rfl rfl rfl zcv rfl ztp ?_) | ((with_reducible refine isA_call ?_); refine awl_callT (h1) (by first | exact g_none | exact (g_some rfl rfl zgb)) rfl zby rfl rfl rfl rfl zcv rfl ztp ?_) | ((with_reducible refine isA_call ?_); refine awl_callT (h2) (by first | exact g_none | exact (g_some rfl rfl zgb)) rfl zby rfl rfl rfl rfl zcv rfl ztp ?_) | ((with_reducible refine isA_call ?_); refine awl_callT (h3) (by first | exact g_none | exact (g_some rfl rfl zgb)) rfl zby rfl rfl rfl rfl zcv rfl ztp ?_) | (((with_reducible refine isA_any ?_); refine xA ?_); (first | ((with_reducible refine e_load ?_); (first | refine ex_i (s_load1 tabOk rfl rfl rfl rfl (by (rw [Nat.zero_add, Nat.mul_one]; exact hv))) ?_ | refine ex_i (s_load1r tabOk rfl rfl rfl rfl (by (rw [Nat.zero_add, Nat.mul_one]; exact hv))) ?_ | refine ex_i (s_load1i tabOk rfl rfl rfl (by (rw [Nat.zero_add, Nat.mul_one]; exact hv))) ?_)) | ((with_reducible refine e_ix ?_); (first | refine ex_i (s_ixV1 tabOk rfl rfl zcj rfl rfl rfl rfl rfl zle (by (rw [Nat.zero_add, Nat.mul_one]; exact hv))) ?_ | refine ex_i (s_ixStr tabOk rfl rfl zcj rfl rfl (by (rw [Nat.zero_add, Nat.mul_one]; exact hv))) ?_)))) | ((with_reducible refine isA_store ?_); refine awl_storeA tabOk g_none rfl rfl rfl zpt (by rfl) (by rfl) rfl (Nat.le_of_ble_eq_true rfl) (by rfl) ?_) | refine stA ?_ | (refine hK _ _ _ _ ?_; clear hK hX K) | (refine hX _ _ _ _ _ (by simp) ?_; clear hK hX K))
        refine retT_mk zio ztr rfl rfl (ResL.one (ResA.tmp rfl)) (outT_c (frz_cv (frz_own rfl rfl hdw hdl2) (cv_sl rfl rfl)) rfl rfl)
      · have h3 := next_ok l n a3 q hn hnn p5 p6 (by omega)
        obtain ⟨p7, p8⟩ := nextA_bd n a3 q p5 p6
        have hb3 : 0 ≤ nextX l n a3 q ∧ nextX l n a3 q < q := by
          by_cases q1 : q = 1
          · subst q1
            unfold nextX
            rw [if_pos (.inl (by decide))]
            decide
          · exact nextX_bd l n a3 q (by omega) (by omega)
        generalize nextX l n a3 q = x3 at *
        generalize nextA n a3 q = a4 at *
        obtain ⟨j, rfl⟩ : ∃ j : Nat, x3 = j := ⟨x3.toNat, by omega⟩
        refine ⟨c.set j v, q, a4, by rw [List.length_set, hq], by omega, p7, p8, ?_⟩
        have hset : (intc .i64 c).set (0 + j * 1) (iv v) = intc .i64 (c.set j v) := by rw [Nat.zero_add, Nat.mul_one, intc_set]
        have hset2 : (intc .i64 (c.set j v)).length = q := by rw [intc_length, List.length_set, hq]
        clear hs1 hs2 hs3
        refine act_enter tabOk (sz := 40) Tryz.func20 rfl (by rw [Tryz.ntmps20]; rfl) ?_
        repeat' (first | ((with_reducible refine aw_seqk ?_); intro K hK hX) | ((with_reducible refine isC_reg ?_); refine aw_prune [0, 1, 4, 5, 6] rfl rfl ?_; with_reducible refine aw_region ?_) | refine stA ?_ | (refine hK _ _ _ _ ?_; clear hK hX K) | (refine hX _ _ _ _ _ (by simp) ?_; clear hK hX K))
        rw [Nat.zero_add q, List.nil_append]
        repeat' (first | ((with_reducible refine aw_seqk ?_); intro K hK hX) | ((with_reducible refine isC_reg ?_); refine aw_prune [0, 1, 4, 5, 6] rfl rfl ?_; with_reducible refine aw_region ?_) | ((with_reducible refine isA_call ?_); refine awl_callT (h0) (by first | exact g_none | exact (g_some rfl rfl zgb)) rfl zby rfl rfl rfl rfl zcv rfl ztp ?_) | ((with_reducible refine isA_call ?_); refine awl_callT (h1) (by first | exact g_none | exact (g_some rfl rfl zgb)) rfl zby rfl rfl rfl rfl zcv rfl ztp ?_) | ((with_reducible refine isA_call ?_); refine awl_callT (h2) (by first | exact g_none | exact (g_some rfl rfl zgb)) rfl zby rfl rfl rfl rfl zcv rfl ztp ?_) | ((with_reducible refine isA_call ?_); refine awl_callT (h3) (by first | exact g_none | exact (g_some rfl rfl zgb)) rfl zby rfl rfl rfl rfl zcv rfl ztp ?_) | (((with_reducible refine isA_any ?_); refine xA ?_); (first | ((with_reducible refine e_load ?_); (first | refine ex_i (s_load1 tabOk rfl rfl rfl rfl (by (rw [Nat.zero_add, Nat.mul_one]; exact hv))) ?_ | refine ex_i (s_load1r tabOk rfl rfl rfl rfl (by (rw [Nat.zero_add, Nat.mul_one]; exact hv))) ?_ | refine ex_i (s_load1i tabOk rfl rfl rfl (by (rw [Nat.zero_add, Nat.mul_one]; exact hv))) ?_)) | ((with_reducible refine e_ix ?_); (first | refine ex_i (s_ixV1 tabOk rfl rfl zcj rfl rfl rfl rfl rfl zle (by (rw [Nat.zero_add, Nat.mul_one]; exact hv))) ?_ | refine ex_i (s_ixStr tabOk rfl rfl zcj rfl rfl (by (rw [Nat.zero_add, Nat.mul_one]; exact hv))) ?_)))) | ((with_reducible refine isA_store ?_); refine awl_storeA tabOk g_none rfl rfl rfl zpt (by rfl) (by rfl) rfl (Nat.le_of_ble_eq_true rfl) (by rfl) ?_) | refine stA ?_ | (refine hK _ _ _ _ ?_; clear hK hX K) | (refine hX _ _ _ _ _ (by simp) ?_; clear hK hX K))
        refine retT_mk zio ztr rfl rfl (ResL.one (ResA.tmp rfl)) (outT_c (frz_cv (frz_ownW rfl rfl (by rw [List.length_set, hcl, Nat.mul_one])) (cv_sl rfl hset)) rfl rfl)
set_option maxHeartbeats 8000000 in
theorem tsps_ok (l : List Int) (n : Nat) (a : Int) (s : Sk) (hn : l.length = n) (hnn : n ≤ maxLen) (ha0 : 0 ≤ a) (ha : a ≤ 9223372036854775807) :
    ∃ (e : Sk) (a' : Int), (e.col = s.col ∨ -2 ≤ e.col ∧ e.col ≤ 2) ∧ 0 ≤ a' ∧ a' ≤ 9223372036854775807 ∧ ACT Tryz.prog 21 72 (tpC l n a) [.agg s.c] (tpC l n a') (.agg e.c) := by
  obtain ⟨nm, sr, col, kd, w, d⟩ := s
  have h0 := next_ok l n a 4 hn hnn ha0 ha (by decide)
  obtain ⟨b0, b0'⟩ := nextX_bd l n a 4 (by decide) (by decide)
  obtain ⟨p1, p2⟩ := nextA_bd n a 4 ha0 ha
  generalize nextX l n a 4 = x0 at *
  generalize nextA n a 4 = a1 at *
  have h1 := next_ok l n a1 5 hn hnn p1 p2 (by decide)
  obtain ⟨b1, b1'⟩ := nextX_bd l n a1 5 (by decide) (by decide)
  obtain ⟨p3, p4⟩ := nextA_bd n a1 5 p1 p2
  generalize nextX l n a1 5 = x1 at *
  generalize nextA n a1 5 = a2 at *
  rcases (show x0 = 0 ∨ x0 = 1 ∨ x0 = 2 ∨ x0 = 3 by omega) with e | e | e | e
  · subst e
    have hv := True.intro
    refine ⟨⟨nm, sr, col, x1 - 1, w, d⟩, a2, .inl rfl, p3, p4, ?_⟩
    simp only [Sk.c]
    refine act_enter tabOk (sz := 34) Tryz.func21 rfl (by rw [Tryz.ntmps21]; rfl) ?_
    repeat' (first | ((with_reducible refine aw_seqk ?_); intro K hK hX) | ((with_reducible refine isC_reg ?_); refine aw_prune [0, 1, 3, 4, 6] rfl rfl ?_; with_reducible refine aw_region ?_) | ((with_reducible refine isA_call ?_); refine awl_callT (h0) g_none rfl zby rfl rfl rfl rfl zcv rfl ztp ?_) | ((with_reducible refine isA_call ?_); refine awl_callT (h1) g_none rfl zby rfl rfl rfl rfl zcv rfl ztp ?_) | (((with_reducible refine isA_any ?_); refine xA ?_); (first | ((with_reducible refine e_load ?_); (first | refine ex_i (s_load1 tabOk rfl rfl rfl rfl (by (rw [Nat.zero_add, Nat.mul_one]; exact hv))) ?_ | refine ex_i (s_load1r tabOk rfl rfl rfl rfl (by (rw [Nat.zero_add, Nat.mul_one]; exact hv))) ?_ | refine ex_i (s_load1i tabOk rfl rfl rfl (by (rw [Nat.zero_add, Nat.mul_one]; exact hv))) ?_)) | ((with_reducible refine e_ix ?_); (first | refine ex_i (s_ixV1 tabOk rfl rfl zcj rfl rfl rfl rfl rfl zle (by (rw [Nat.zero_add, Nat.mul_one]; exact hv))) ?_ | refine ex_i (s_ixStr tabOk rfl rfl zcj rfl rfl (by (rw [Nat.zero_add, Nat.mul_one]; exact hv))) ?_)))) | ((with_reducible refine isA_store ?_); refine awl_storeA tabOk g_none rfl rfl rfl zpt (by rfl) (by rfl) rfl (Nat.le_of_ble_eq_true rfl) (by rfl) ?_) | refine stA ?_ | (refine hK _ _ _ _ ?_; clear hK hX K) | (refine hX _ _ _ _ _ (by simp) ?_; clear hK hX K))
    refine retT_mk zio ztr rfl rfl (ResL.one zrs) (outT_c zfz rfl rfl)
  · subst e
    have hv := spwc x1 b1 b1'
    generalize spwV x1 = v at hv
    refine ⟨⟨nm, sr, col, kd, v, d⟩, a2, .inl rfl, p3, p4, ?_⟩
    simp only [Sk.c]
    refine act_enter tabOk (sz := 34) Tryz.func21 rfl (by rw [Tryz.ntmps21]; rfl) ?_
    repeat' (first | ((with_reducible refine aw_seqk ?_); intro K hK hX) | ((with_reducible refine isC_reg ?_); refine aw_prune [0, 1, 3, 4, 6] rfl rfl ?_; with_reducible refine aw_region ?_) | ((with_reducible refine isA_call ?_); refine awl_callT (h0) g_none rfl zby rfl rfl rfl rfl zcv rfl ztp ?_) | ((with_reducible refine isA_call ?_); refine awl_callT (h1) g_none rfl zby rfl rfl rfl rfl zcv rfl ztp ?_) | (((with_reducible refine isA_any ?_); refine xA ?_); (first | ((with_reducible refine e_load ?_); (first | refine ex_i (s_load1 tabOk rfl rfl rfl rfl (by (rw [Nat.zero_add, Nat.mul_one]; exact hv))) ?_ | refine ex_i (s_load1r tabOk rfl rfl rfl rfl (by (rw [Nat.zero_add, Nat.mul_one]; exact hv))) ?_ | refine ex_i (s_load1i tabOk rfl rfl rfl (by (rw [Nat.zero_add, Nat.mul_one]; exact hv))) ?_)) | ((with_reducible refine e_ix ?_); (first | refine ex_i (s_ixV1 tabOk rfl rfl zcj rfl rfl rfl rfl rfl zle (by (rw [Nat.zero_add, Nat.mul_one]; exact hv))) ?_ | refine ex_i (s_ixStr tabOk rfl rfl zcj rfl rfl (by (rw [Nat.zero_add, Nat.mul_one]; exact hv))) ?_)))) | ((with_reducible refine isA_store ?_); refine awl_storeA tabOk g_none rfl rfl rfl zpt (by rfl) (by rfl) rfl (Nat.le_of_ble_eq_true rfl) (by rfl) ?_) | refine stA ?_ | (refine hK _ _ _ _ ?_; clear hK hX K) | (refine hX _ _ _ _ _ (by simp) ?_; clear hK hX K))
    refine retT_mk zio ztr rfl rfl (ResL.one zrs) (outT_c zfz rfl rfl)
  · subst e
    have hv := spdc x1 b1 b1'
    generalize spdV x1 = v at hv
    refine ⟨⟨nm, sr, col, kd, w, v⟩, a2, .inl rfl, p3, p4, ?_⟩
    simp only [Sk.c]
    refine act_enter tabOk (sz := 34) Tryz.func21 rfl (by rw [Tryz.ntmps21]; rfl) ?_
    repeat' (first | ((with_reducible refine aw_seqk ?_); intro K hK hX) | ((with_reducible refine isC_reg ?_); refine aw_prune [0, 1, 3, 4, 6] rfl rfl ?_; with_reducible refine aw_region ?_) | ((with_reducible refine isA_call ?_); refine awl_callT (h0) g_none rfl zby rfl rfl rfl rfl zcv rfl ztp ?_) | ((with_reducible refine isA_call ?_); refine awl_callT (h1) g_none rfl zby rfl rfl rfl rfl zcv rfl ztp ?_) | (((with_reducible refine isA_any ?_); refine xA ?_); (first | ((with_reducible refine e_load ?_); (first | refine ex_i (s_load1 tabOk rfl rfl rfl rfl (by (rw [Nat.zero_add, Nat.mul_one]; exact hv))) ?_ | refine ex_i (s_load1r tabOk rfl rfl rfl rfl (by (rw [Nat.zero_add, Nat.mul_one]; exact hv))) ?_ | refine ex_i (s_load1i tabOk rfl rfl rfl (by (rw [Nat.zero_add, Nat.mul_one]; exact hv))) ?_)) | ((with_reducible refine e_ix ?_); (first | refine ex_i (s_ixV1 tabOk rfl rfl zcj rfl rfl rfl rfl rfl zle (by (rw [Nat.zero_add, Nat.mul_one]; exact hv))) ?_ | refine ex_i (s_ixStr tabOk rfl rfl zcj rfl rfl (by (rw [Nat.zero_add, Nat.mul_one]; exact hv))) ?_)))) | ((with_reducible refine isA_store ?_); refine awl_storeA tabOk g_none rfl rfl rfl zpt (by rfl) (by rfl) rfl (Nat.le_of_ble_eq_true rfl) (by rfl) ?_) | refine stA ?_ | (refine hK _ _ _ _ ?_; clear hK hX K) | (refine hX _ _ _ _ _ (by simp) ?_; clear hK hX K))
    refine retT_mk zio ztr rfl rfl (ResL.one zrs) (outT_c zfz rfl rfl)
  · subst e
    have hv := True.intro
    refine ⟨⟨nm, sr, x1 - 2, kd, w, d⟩, a2, .inr ⟨by simp only; omega, by simp only; omega⟩, p3, p4, ?_⟩
    simp only [Sk.c]
    refine act_enter tabOk (sz := 34) Tryz.func21 rfl (by rw [Tryz.ntmps21]; rfl) ?_
    repeat' (first | ((with_reducible refine aw_seqk ?_); intro K hK hX) | ((with_reducible refine isC_reg ?_); refine aw_prune [0, 1, 3, 4, 6] rfl rfl ?_; with_reducible refine aw_region ?_) | ((with_reducible refine isA_call ?_); refine awl_callT (h0) g_none rfl zby rfl rfl rfl rfl zcv rfl ztp ?_) | ((with_reducible refine isA_call ?_); refine awl_callT (h1) g_none rfl zby rfl rfl rfl rfl zcv rfl ztp ?_) | (((with_reducible refine isA_any ?_); refine xA ?_); (first | ((with_reducible refine e_load ?_); (first | refine ex_i (s_load1 tabOk rfl rfl rfl rfl (by (rw [Nat.zero_add, Nat.mul_one]; exact hv))) ?_ | refine ex_i (s_load1r tabOk rfl rfl rfl rfl (by (rw [Nat.zero_add, Nat.mul_one]; exact hv))) ?_ | refine ex_i (s_load1i tabOk rfl rfl rfl (by (rw [Nat.zero_add, Nat.mul_one]; exact hv))) ?_)) | ((with_reducible refine e_ix ?_); (first | refine ex_i (s_ixV1 tabOk rfl rfl zcj rfl rfl rfl rfl rfl zle (by (rw [Nat.zero_add, Nat.mul_one]; exact hv))) ?_ | refine ex_i (s_ixStr tabOk rfl rfl zcj rfl rfl (by (rw [Nat.zero_add, Nat.mul_one]; exact hv))) ?_)))) | ((with_reducible refine isA_store ?_); refine awl_storeA tabOk g_none rfl rfl rfl zpt (by rfl) (by rfl) rfl (Nat.le_of_ble_eq_true rfl) (by rfl) ?_) | refine stA ?_ | (refine hK _ _ _ _ ?_; clear hK hX K) | (refine hX _ _ _ _ _ (by simp) ?_; clear hK hX K))
    refine retT_mk zio ztr rfl rfl (ResL.one zrs) (outT_c zfz rfl rfl)
end Go.Proofs.YtccnhpaldmjkbaaGreat
