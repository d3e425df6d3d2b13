/-
  Joined texts: T10 T11 AvM3 AvQ3. Lemmas; no statement of a law.
-/
import Derived.Test.YtccnhpaldmjkbaaM9
set_option linter.unusedSimpArgs false
set_option linter.unusedVariables false
namespace Go.Proofs.Ytccnhpaldmjkbaa
open Go Go.RowKit Go.Av
set_option maxRecDepth 100000
def suppE (b : List En) : List En := b.map fun e => ⟨e.r, 1⟩
attribute [local irreducible] Still Adds AWL AW Drw DrwE EStep AC AWR Weak Frz Src RetK Out InK ItK AsK RdK RetT OutT ACT
set_option maxHeartbeats 4000000 in
theorem fits_ok (b : List En) (n : Nat) (hn : b.length = n) (hm : n ≤ 4096) (hb : ∀ e ∈ b, -262144 ≤ e.n ∧ e.n ≤ 262144) : AC Try.prog 66 [.sl 2 n (ec b)] (.tup [.c (.sl 2 n (ec b)), .c (iv 0)]) [] 0 := by
  have hbl : (ec b).length = n * 2 := by rw [ec_length, hn]
  refine ac_enter tabOk (sz := 22) Try.func66 rfl (by rw [Try.ntmps66]; rfl) ?_
  repeat' (first | ((with_reducible refine aw_seqk ?_); intro K hK hX) | ((with_reducible refine isC_reg ?_); refine aw_prune [0, 2, 3, 4] rfl rfl ?_; with_reducible refine aw_region ?_) | refine stA ?_ | (refine hK _ _ _ _ ?_; clear hK hX K) | (refine hX _ _ _ _ _ (by simp) ?_; clear hK hX K))
  refine aw_loopo [4] [] rfl rfl (fun i : Nat => [(4, .c (iv i))]) (fun i => []) (fun i => i ≤ n) (fun i => n - i) 0 (by omega) weakA ?_
  intro i hi K hK hX
  by_cases hlt : i < n
  · obtain ⟨e, he⟩ : ∃ e, b[i]? = some e := ⟨b[i]'(by omega), List.getElem?_eq_getElem _⟩
    have hen := ec_n he
    have h1 := rcount_ok e.n
    rw [decide_eq_true (hb e (List.mem_of_getElem? he))] at h1
    clear hb
    obtain ⟨r, c⟩ := e
    simp only at *
    repeat' (first | ((with_reducible refine aw_seqk ?_); intro K hK hX) | ((with_reducible refine isC_reg ?_); refine aw_prune [0, 2, 3, 4] rfl rfl ?_; with_reducible refine aw_region ?_) | ((with_reducible refine isA_call ?_); (first | refine zA ?_ | refine zN ?_); (first | refine c0 (h1) ?_)) | (((with_reducible refine isA_any ?_); refine xA ?_); (first | ((with_reducible refine e_load ?_); (first | refine ex_i (s_load1 tabOk rfl rfl rfl rfl (by exact hen)) ?_ | refine ex_i (s_load1r tabOk rfl rfl rfl rfl (by exact hen)) ?_ | refine ex_i (s_load1i tabOk rfl rfl rfl (by exact hen)) ?_)) | ((with_reducible refine e_ix ?_); (first | refine ex_i (s_ixV1 tabOk rfl rfl zcj rfl rfl rfl rfl rfl zle (by exact hen)) ?_ | refine ex_i (s_ixStr tabOk rfl rfl zcj rfl rfl (by exact hen)) ?_)))) | refine stA ?_ | (refine hK _ _ _ _ ?_; clear hK hX K) | (refine hX _ _ _ _ _ (by simp) ?_; clear hK hX K))
    exact ⟨i + 1, by omega, by omega, weakA⟩
  · clear hb
    repeat' (first | ((with_reducible refine aw_seqk ?_); intro K hK hX) | ((with_reducible refine isC_reg ?_); refine aw_prune [0, 2, 3, 4] rfl rfl ?_; with_reducible refine aw_region ?_) | refine stA ?_ | (refine hK _ _ _ _ ?_; clear hK hX K) | (refine hX _ _ _ _ _ (by simp) ?_; clear hK hX K))
    refine retK_mk zio ztr rfl (ResL.two (ResA.tmp rfl) (ResA.tmp rfl)) (out_t (frzl_cons zfz (frzl_cons zfz frzl_nil)))
open Classical in
set_option maxHeartbeats 4000000 in
theorem norm_ok (b : List En) (n N : Nat) (hn : b.length = n) (hm : n ≤ 1000) (hr : ∀ e ∈ b, rowP e.r) (hb : absS b ≤ 1000) (hN : (sortE b).length = N) : AC Try.prog 56 [.sl 2 n (ec b)] (.tup [.c (.sl 2 N (ec (sortE b))), .c (iv 0)]) [] 0 := by
  have hbl : (ec b).length = n * 2 := by rw [ec_length, hn]
  have hfit : fitB b := fun e he => by have := (hr e he).1; simp only [maxLen]; omega
  have hs := sort_ok n b N hn (by omega) hfit (by omega) hN
  obtain ⟨f1, f2, f3⟩ := sortE_facts n b (by omega)
  have hf := fits_ok (sortE b) N hN (by omega) fun e he => by have := absS_mem he; omega
  generalize sortE b = S at hs hf hN f1 f2 f3 ⊢
  clear f1 f2 f3
  refine ac_enter tabOk (sz := 32) Try.func56 rfl (by rw [Try.ntmps56]; rfl) ?_
  repeat' (first | ((with_reducible refine aw_seqk ?_); intro K hK hX) | ((with_reducible refine isC_reg ?_); refine aw_prune [0, 2, 3, 4] rfl rfl ?_; with_reducible refine aw_region ?_) | refine stA ?_ | (refine hK _ _ _ _ ?_; clear hK hX K) | (refine hX _ _ _ _ _ (by simp) ?_; clear hK hX K))
  refine aw_loopo [4] [] rfl rfl (fun i : Nat => [(4, .c (iv i))]) (fun i => []) (fun i => i ≤ n) (fun i => n - i) 0 (by omega) weakA ?_
  intro i hi K hK hX
  by_cases hlt : i < n
  · obtain ⟨e, he⟩ : ∃ e, b[i]? = some e := ⟨b[i]'(by omega), List.getElem?_eq_getElem _⟩
    have hmem := List.mem_of_getElem? he
    have hen := ec_n he
    have her := ec_row he
    have hab := absS_mem hmem
    have h1 := rcount_ok e.n
    rw [decide_eq_true (show -262144 ≤ e.n ∧ e.n ≤ 262144 by omega)] at h1
    have h2 := rvrow_ok e.r e.r.length rfl (hfit e hmem)
    rw [decide_eq_true (hr e hmem)] at h2
    clear hr hfit hs hf hab
    obtain ⟨r, c⟩ := e
    simp only at *
    repeat' (first | ((with_reducible refine aw_seqk ?_); intro K hK hX) | ((with_reducible refine isC_reg ?_); refine aw_prune [0, 2, 3, 4] rfl rfl ?_; with_reducible refine aw_region ?_) | ((with_reducible refine isA_call ?_); (first | refine zA ?_ | refine zN ?_); (first | refine c0 (h1) ?_ | refine c0 (h2) ?_)) | (((with_reducible refine isA_any ?_); refine xA ?_); (first | ((with_reducible refine e_load ?_); (first | refine ex_i (s_load1 tabOk rfl rfl rfl rfl (by first | exact hen | exact her)) ?_ | refine ex_i (s_load1r tabOk rfl rfl rfl rfl (by first | exact hen | exact her)) ?_ | refine ex_i (s_load1i tabOk rfl rfl rfl (by first | exact hen | exact her)) ?_)) | ((with_reducible refine e_ix ?_); (first | refine ex_i (s_ixV1 tabOk rfl rfl zcj rfl rfl rfl rfl rfl zle (by first | exact hen | exact her)) ?_ | refine ex_i (s_ixStr tabOk rfl rfl zcj rfl rfl (by first | exact hen | exact her)) ?_)))) | refine stA ?_ | (refine hK _ _ _ _ ?_; clear hK hX K) | (refine hX _ _ _ _ _ (by simp) ?_; clear hK hX K))
    exact ⟨i + 1, by omega, by omega, weakA⟩
  · clear hr hfit
    repeat' (first | ((with_reducible refine aw_seqk ?_); intro K hK hX) | ((with_reducible refine isC_reg ?_); refine aw_prune [0, 2, 3, 4] rfl rfl ?_; with_reducible refine aw_region ?_) | ((with_reducible refine isA_call ?_); (first | refine zA ?_ | refine zN ?_); (first | refine c0 (hs) ?_ | refine c0 (hf) ?_)) | refine stA ?_ | (refine hK _ _ _ _ ?_; clear hK hX K) | (refine hX _ _ _ _ _ (by simp) ?_; clear hK hX K))
    refine retK_mk zio ztr rfl (ResL.two (ResA.tmp rfl) (ResA.tmp rfl)) (out_t (frzl_cons zfz (frzl_cons zfz frzl_nil)))
open Classical in
set_option maxHeartbeats 8000000 in
theorem rbag_t {b : List En} {n : Nat} (hn : b.length = n) (hf : fitB b) (hb : bagP b) : AC Try.prog 65 [.sl 2 n (ec b)] (.c (bv true)) [] 0 := by
  have hbl : (ec b).length = n * 2 := by rw [ec_length, hn]
  have b1 : n ≤ 4096 := by rw [← hn]; exact hb.1
  have hall : ∀ i, i < n → goodAt b i := by rw [← hn]; exact hb.2
  clear hb
  refine ac_enter tabOk (sz := 56) Try.func65 rfl (by rw [Try.ntmps65]; rfl) ?_
  repeat' (first | ((with_reducible refine aw_seqk ?_); intro K hK hX) | ((with_reducible refine isC_reg ?_); refine aw_prune [0, 2, 3] rfl rfl ?_; with_reducible refine aw_region ?_) | refine stA ?_ | refine stD ?_ | (refine hK _ _ _ _ ?_; clear hK hX K) | (refine hX _ _ _ _ _ (by simp) ?_; clear hK hX K))
  refine aw_loopo [3] [] rfl rfl (fun i : Nat => [(3, .c (iv i))]) (fun i => []) (fun i => i ≤ n) (fun i => n - i) 0 (by omega) weakA ?_
  intro i hi K hK hX
  by_cases hlt : i < n
  · have hgi := hall i hlt
    clear hall
    obtain ⟨e, he⟩ : ∃ e, b[i]? = some e := ⟨b[i]'(by omega), List.getElem?_eq_getElem _⟩
    have hen := ec_n he
    have her := ec_row he
    have hfe := hf e (List.mem_of_getElem? he)
    obtain ⟨⟨g0, g1, g2⟩, g3, g4⟩ := hgi e he
    have h1 := rcount_ok e.n
    rw [decide_eq_true ⟨g0, g1⟩] at h1
    have h2 := rvrow_ok e.r e.r.length rfl hfe
    rw [decide_eq_true g2] at h2
    cases i with
    | zero =>
      clear g4 hgi hf
      obtain ⟨r, c⟩ := e
      simp only at *
      repeat' (first | ((with_reducible refine aw_seqk ?_); intro K hK hX) | ((with_reducible refine isC_reg ?_); refine aw_prune [0, 2, 3] rfl rfl ?_; with_reducible refine aw_region ?_) | ((with_reducible refine isC_draw ?_); refine aw_prune [0, 2, 3] rfl rfl ?_; refine aw_drwE [] ?_) | ((with_reducible refine isA_g ?_); refine a_skip2 rfl rfl rfl ?_) | ((with_reducible refine isA_g ?_); refine a_skipU (g_some rfl rfl zgd) rfl ?_) | ((first | with_reducible refine isA_call ?_ | with_reducible refine isE_call ?_); (first | refine zA ?_ | refine zN ?_ | refine zE ?_); (first | refine c0 (h1) ?_ | refine c0 (h2) ?_)) | ((first | ((with_reducible refine isA_any ?_); refine xA ?_) | ((with_reducible refine isEk_any ?_); refine xE ?_)); (first | ((with_reducible refine e_load ?_); (first | refine ex_i (s_load1 tabOk rfl rfl rfl rfl (by first | exact hen | exact her)) ?_ | refine ex_i (s_load1r tabOk rfl rfl rfl rfl (by first | exact hen | exact her)) ?_ | refine ex_i (s_load1i tabOk rfl rfl rfl (by first | exact hen | exact her)) ?_)) | ((with_reducible refine e_ix ?_); (first | refine ex_i (s_ixV1 tabOk rfl rfl zcj rfl rfl rfl rfl rfl zle (by first | exact hen | exact her)) ?_ | refine ex_i (s_ixStr tabOk rfl rfl zcj rfl rfl (by first | exact hen | exact her)) ?_)))) | refine stA ?_ | refine stE ?_ | (refine hK _ _ _ _ ?_; clear hK hX K) | (refine hX _ _ _ _ _ (by simp) ?_; clear hK hX K))
      exact ⟨0 + 1, by omega, by omega, weakA⟩
    | succ j =>
      obtain ⟨f, hfj⟩ : ∃ f, b[j]? = some f := ⟨b[j]'(by omega), List.getElem?_eq_getElem _⟩
      have hrow := ec_row hfj
      have hc := rrcmp_ok f.r e.r f.r.length e.r.length rfl rfl (hf f (List.mem_of_getElem? hfj)) hfe
      have g5 := g4 f (by omega) (by rw [Nat.add_sub_cancel]; exact hfj)
      have hjj : (((j + 1 : Nat) : Int) - 1).toNat * 2 + 0 = j * 2 := by omega
      clear g4 hgi hf
      obtain ⟨r, c⟩ := e
      simp only at *
      generalize cmpR f.r r = z at hc g5
      repeat' (first | ((with_reducible refine aw_seqk ?_); intro K hK hX) | ((with_reducible refine isC_reg ?_); refine aw_prune [0, 2, 3] rfl rfl ?_; with_reducible refine aw_region ?_) | ((with_reducible refine isC_draw ?_); refine aw_prune [0, 2, 3] rfl rfl ?_; refine aw_drwE [] ?_) | ((with_reducible refine isA_g ?_); refine a_skip2 rfl rfl rfl ?_) | ((with_reducible refine isA_g ?_); refine a_skipU (g_some rfl rfl zgd) rfl ?_) | ((first | with_reducible refine isA_call ?_ | with_reducible refine isE_call ?_); (first | refine zA ?_ | refine zN ?_ | refine zE ?_); (first | refine c0 (h1) ?_ | refine c0 (h2) ?_ | refine c0 (hc) ?_)) | ((first | ((with_reducible refine isA_any ?_); refine xA ?_) | ((with_reducible refine isEk_any ?_); refine xE ?_)); (first | ((with_reducible refine e_load ?_); (first | refine ex_i (s_load1 tabOk rfl rfl rfl rfl (by first | exact hen | exact her | (rw [hjj]; exact hrow))) ?_ | refine ex_i (s_load1r tabOk rfl rfl rfl rfl (by first | exact hen | exact her | (rw [hjj]; exact hrow))) ?_ | refine ex_i (s_load1i tabOk rfl rfl rfl (by first | exact hen | exact her | (rw [hjj]; exact hrow))) ?_)) | ((with_reducible refine e_ix ?_); (first | refine ex_i (s_ixV1 tabOk rfl rfl zcj rfl rfl rfl rfl rfl zle (by first | exact hen | exact her | (rw [hjj]; exact hrow))) ?_ | refine ex_i (s_ixStr tabOk rfl rfl zcj rfl rfl (by first | exact hen | exact her | (rw [hjj]; exact hrow))) ?_)))) | refine stA ?_ | refine stE ?_ | (refine hK _ _ _ _ ?_; clear hK hX K) | (refine hX _ _ _ _ _ (by simp) ?_; clear hK hX K))
      exact ⟨j + 1 + 1, by omega, by omega, weakA⟩
  · repeat' (first | ((with_reducible refine aw_seqk ?_); intro K hK hX) | ((with_reducible refine isC_reg ?_); refine aw_prune [0, 2, 3] rfl rfl ?_; with_reducible refine aw_region ?_) | refine stA ?_ | refine stD ?_ | (refine hK _ _ _ _ ?_; clear hK hX K) | (refine hX _ _ _ _ _ (by simp) ?_; clear hK hX K))
    refine retK_mk zio ztr rfl (ResL.one (ResA.tmp rfl)) zou
end Go.Proofs.Ytccnhpaldmjkbaa
namespace Go.Proofs.Ytccnhpaldmjkbaa
open Go Go.RowKit Go.Av
set_option maxRecDepth 100000
def rowR (l : List Int) (n : Nat) (a : Int) : List Vl := [shortV (nextX l n a 6), shortV (nextX l n (nextA n a 6) 6)]
def rowA (n : Nat) (a : Int) : Int := nextA n (nextA n a 6) 6
def cntV (x : Int) : Int := [1, 1, 1, 2, -1, 3, -2, 0].getD x.toNat 0
def entR (l : List Int) (n : Nat) (a : Int) : En := ⟨rowR l n a, cntV (nextX l n (rowA n a) 8)⟩
def entA (n : Nat) (a : Int) : Int := nextA n (rowA n a) 8
def entsF (l : List Int) (n : Nat) : Nat → Int → List En
  | 0, _ => []
  | i + 1, a => entR l n a :: entsF l n i (entA n a)
def entsA (n : Nat) : Nat → Int → Int
  | 0, a => a
  | i + 1, a => entsA n i (entA n a)
def fixE (sg : Bool) (e : En) : En := if sg = false ∧ e.n < 0 then ⟨e.r, -e.n⟩ else e
def rawF (l : List Int) (n : Nat) (a m : Int) : List En := entsF l n (nextX l n a m).toNat (nextA n a m)
def bagF (l : List Int) (n : Nat) (a m : Int) (sg : Bool) : List En := sortE ((rawF l n a m).map (fixE sg))
def bagA (l : List Int) (n : Nat) (a m : Int) : Int := entsA n (nextX l n a m).toNat (nextA n a m)
theorem rowA_bd (n : Nat) (a : Int) (ha : 0 ≤ a) (ha2 : a ≤ 9223372036854775807) : 0 ≤ rowA n a ∧ rowA n a ≤ 9223372036854775807 := by
  obtain ⟨h1, h2⟩ := nextA_bd n a 6 ha ha2
  exact nextA_bd n _ 6 h1 h2
theorem entA_bd (n : Nat) (a : Int) (ha : 0 ≤ a) (ha2 : a ≤ 9223372036854775807) : 0 ≤ entA n a ∧ entA n a ≤ 9223372036854775807 := by
  obtain ⟨h1, h2⟩ := rowA_bd n a ha ha2
  exact nextA_bd n _ 8 h1 h2
theorem entsA_bd (n : Nat) : ∀ (i : Nat) (a : Int), 0 ≤ a → a ≤ 9223372036854775807 → 0 ≤ entsA n i a ∧ entsA n i a ≤ 9223372036854775807
  | 0, a, h1, h2 => ⟨h1, h2⟩
  | i + 1, a, h1, h2 => by
    obtain ⟨h3, h4⟩ := entA_bd n a h1 h2
    exact entsA_bd n i _ h3 h4
theorem bagA_bd (l : List Int) (n : Nat) (a m : Int) (ha : 0 ≤ a) (ha2 : a ≤ 9223372036854775807) : 0 ≤ bagA l n a m ∧ bagA l n a m ≤ 9223372036854775807 := by
  obtain ⟨h1, h2⟩ := nextA_bd n a m ha ha2
  exact entsA_bd n _ _ h1 h2
theorem cntV_bd (x : Int) : -3 ≤ cntV x ∧ cntV x ≤ 3 := by
  unfold cntV
  rw [List.getD_eq_getElem?_getD]
  generalize x.toNat = k
  match k with
  | 0 => decide
  | 1 => decide
  | 2 => decide
  | 3 => decide
  | 4 => decide
  | 5 => decide
  | 6 => decide
  | 7 => decide
  | k + 8 => simp
theorem entsF_length (l : List Int) (n : Nat) : ∀ (i : Nat) (a : Int), (entsF l n i a).length = i
  | 0, _ => rfl
  | i + 1, a => by rw [entsF, List.length_cons, entsF_length]
theorem entsF_all (l : List Int) (n : Nat) : ∀ (i : Nat) (a : Int), ∀ e ∈ entsF l n i a, rowP e.r ∧ e.r.length = 2 ∧ -3 ≤ e.n ∧ e.n ≤ 3
  | 0, _, e, he => by cases he
  | i + 1, a, e, he => by
    rw [entsF] at he
    rcases List.mem_cons.1 he with rfl | he
    · refine ⟨⟨by simp [entR, rowR], fun v hv => ?_⟩, rfl, (cntV_bd _).1, (cntV_bd _).2⟩
      simp only [entR, rowR, List.mem_cons, List.not_mem_nil, or_false] at hv
      rcases hv with rfl | rfl
      · exact shortV_ok _
      · exact shortV_ok _
    · exact entsF_all l n i _ e he
theorem raw_facts (l : List Int) (n : Nat) (a m : Int) (hm : 2 ≤ m) (hm2 : m ≤ 4294967296) : ((rawF l n a m).length : Int) < m ∧ ∀ e ∈ rawF l n a m, rowP e.r ∧ e.r.length = 2 ∧ -3 ≤ e.n ∧ e.n ≤ 3 := by
  obtain ⟨h1, h2⟩ := nextX_bd l n a m hm hm2
  unfold rawF
  exact ⟨by rw [entsF_length]; omega, entsF_all l n _ _⟩
theorem absS_le {l : List En} {D : Nat} (h : ∀ e ∈ l, e.n.natAbs ≤ D) : absS l ≤ D * l.length := by
  induction l with
  | nil => simp [absS]
  | cons e l ih =>
    have h1 := h e (by simp)
    have h2 := ih fun e he => h e (by simp [he])
    rw [absS_cons, List.length_cons, Nat.mul_add]
    omega
theorem fix_facts (sg : Bool) (l : List En) (h : ∀ e ∈ l, rowP e.r ∧ e.r.length = 2 ∧ -3 ≤ e.n ∧ e.n ≤ 3) : ∀ e ∈ l.map (fixE sg), rowP e.r ∧ e.r.length = 2 ∧ -3 ≤ e.n ∧ e.n ≤ 3 ∧ (sg = false → 0 ≤ e.n) := by
  intro e he
  obtain ⟨f, hf, rfl⟩ := List.mem_map.1 he
  obtain ⟨h1, h2, h3, h4⟩ := h f hf
  unfold fixE
  split
  · exact ⟨h1, h2, by simp only; omega, by simp only; omega, fun _ => by simp only; omega⟩
  · rename_i h5
    exact ⟨h1, h2, h3, h4, fun h => by have : ¬ f.n < 0 := fun h6 => h5 ⟨h, h6⟩; omega⟩
theorem bagF_F (l : List Int) (n : Nat) (a m : Int) (hm : 2 ≤ m) (hm2 : m ≤ 20) : BagF (3 * (m - 1).toNat) (bagF l n a m false) ∧ (∀ e ∈ bagF l n a m false, e.r.length = 2) ∧ (bagF l n a m false).length ≤ (m - 1).toNat := by
  obtain ⟨h1, h2⟩ := raw_facts l n a m hm (by omega)
  have h3 := fix_facts false _ h2
  have h4 : absS ((rawF l n a m).map (fixE false)) ≤ 3 * (rawF l n a m).length := by
    have := absS_le (l := (rawF l n a m).map (fixE false)) (D := 3) fun e he => by obtain ⟨_, _, q1, q2, _⟩ := h3 e he; omega
    rwa [List.length_map] at this
  have h5 := sortE_facts ((rawF l n a m).map (fixE false)).length _ (Nat.le_refl _)
  refine ⟨BagF.sort (fun e he => (h3 e he).2.2.2.2 rfl) (fun e he => (h3 e he).1) (by omega), fun e he => h5.2.2 (fun r => r.length = 2) (fun e he => (h3 e he).2.1) e he, ?_⟩
  have := h5.1
  rw [List.length_map] at this
  unfold bagF
  omega
theorem fx_length {α : Type} (f : α → α) (Z : List α) (i : Nat) : ((Z.take i).map f ++ Z.drop i).length = Z.length := by simp; omega
theorem fx_at {α : Type} (f : α → α) {Z : List α} {i : Nat} {e : α} (h : Z[i]? = some e) : ((Z.take i).map f ++ Z.drop i)[i]? = some e := by
  obtain ⟨h1, h2⟩ := List.getElem?_eq_some_iff.1 h
  rw [List.getElem?_append_right (by simp; omega)]
  simp [h1, h2]
  rw [Nat.min_eq_left (by omega)]
  simp [h1, h2]
theorem fx_succ {α : Type} (f : α → α) {Z : List α} {i : Nat} {e : α} (h : Z[i]? = some e) : (Z.take (i + 1)).map f ++ Z.drop (i + 1) = ((Z.take i).map f ++ Z.drop i).set i (f e) := by
  obtain ⟨h1, h2⟩ := List.getElem?_eq_some_iff.1 h
  rw [List.take_add_one, h, drop_at h, Option.toList_some, List.map_append, List.append_assoc, List.set_append_right _ _ (by simp <;> omega)]
  have : i - ((Z.take i).map f).length = 0 := by simp <;> omega
  rw [this, List.set_cons_zero]
  rfl
theorem fx_same {α : Type} {L : List α} {i : Nat} {e : α} (h : L[i]? = some e) : L.set i e = L := by
  refine List.ext_getElem? fun j => ?_
  rw [List.getElem?_set]
  split
  · rename_i e1; subst e1
    rw [h, if_pos (List.getElem?_eq_some_iff.1 h).1]
  · rfl
theorem ec_set : ∀ {L : List En} {i : Nat} {r : List Vl} {c m : Int}, L[i]? = some ⟨r, c⟩ → (ec L).set (i * 2 + 1) (iv m) = ec (L.set i ⟨r, m⟩)
  | [], i, r, c, m, h => by simp at h
  | e :: L, 0, r, c, m, h => by
    simp at h
    subst h
    simp [ec, En.c]
  | e :: L, i + 1, r, c, m, h => by
    have := ec_set (L := L) (i := i) (r := r) (c := c) (m := m) (by simpa using h)
    have hl : e.c = [.sl 3 e.r.length (rc e.r), iv e.n] := rfl
    unfold ec at this ⊢
    rw [List.set_cons_succ, List.flatMap_cons, List.flatMap_cons, ← this, hl, show (i + 1) * 2 + 1 = (i * 2 + 1) + 1 + 1 by omega]
    rfl
theorem cntc (x : Int) (h1 : 0 ≤ x) (h2 : x < 8) : ([iv 1, iv 1, iv 1, iv 2, iv (-1), iv 3, iv (-2), iv 0] : List CV)[x.toNat]? = some (iv (cntV x)) := by
  rcases (show x = 0 ∨ x = 1 ∨ x = 2 ∨ x = 3 ∨ x = 4 ∨ x = 5 ∨ x = 6 ∨ x = 7 by omega) with e | e | e | e | e | e | e | e <;> subst e <;> rfl
attribute [local irreducible] Still Adds AWL AW Drw DrwE EStep AC AWR Weak Frz Src RetK Out InK ItK AsK RdK RetT OutT ACT
end Go.Proofs.Ytccnhpaldmjkbaa
namespace Go.Av
open Go Go.RowKit
def chainG : Ground → Bool
  | .chain => true
  | .phase => true
  | _ => false
/-- The operation waits for the one at place i, by an edge or by a chain of calls. -/
def chB (l : List Oper) : Nat → Oper → Nat → Bool
  | 0, _, _ => false
  | f + 1, o, i => o.after.any fun e => Region.binds .any e && (Nat.beq e.on i || (chainG e.ground && match l[e.on]? with | some o' => chB l f o' i | none => false))
theorem chB_spec {l : List Oper} {p : Nat → Prop} (hlt : ∀ (j : Nat) (oj : Oper), l[j]? = some oj → ∀ e ∈ oj.after, Region.binds .any e = true → e.on < j) (hcl : ∀ (j : Nat) (oj : Oper), l[j]? = some oj → p j → ∀ e ∈ oj.after, Region.binds .any e = true → p e.on) : ∀ {f : Nat} {o : Oper} {i : Nat}, chB l f o i = true →
    ((∀ e ∈ o.after, Region.binds .any e = true → p e.on) → p i) ∧ ∀ j, l[j]? = some o → i < j ∧ (p j → p i)
  | 0, o, i, h => by cases h
  | f + 1, o, i, h => by
    unfold chB at h
    obtain ⟨e, he, h3⟩ := Array.any_eq_true'.1 h
    simp only [Bool.and_eq_true, Bool.or_eq_true] at h3
    obtain ⟨hb, h3⟩ := h3
    rcases h3 with h3 | ⟨_, h3⟩
    · rw [← Nat.eq_of_beq_eq_true h3]
      exact ⟨fun k => k e he hb, fun j hj => ⟨hlt j o hj e he hb, fun hp => hcl j o hj hp e he hb⟩⟩
    · split at h3
      · rename_i o' ho'
        obtain ⟨_, q2⟩ := chB_spec hlt hcl (f := f) h3
        obtain ⟨q3, q4⟩ := q2 e.on ho'
        exact ⟨fun k => q4 (k e he hb), fun j hj => ⟨Nat.lt_trans q3 (hlt j o hj e he hb), fun hp => q4 (hcl j o hj hp e he hb)⟩⟩
      · cases h3
def eatC (l : List Oper) (es : List Eat) : Bool :=
  (List.range es.length).all fun i => (List.range es.length).all fun j => Nat.beq i j || match es[i]?, es[j]?, l[i]?, l[j]? with
    | some (T, _), some (_, some (k, _)), some oi, some oj => !memB T k || chB l 12 oj i || chB l 12 oi j
    | _, _, _, _ => true
theorem eatC_spec {l : List Oper} {es : List Eat} (h : eatC l es = true) {i j k : Nat} {T T' : List Nat} {c : Wr} {x : Option AObj} {oi oj : Oper} (hij : i ≠ j) (hi : es[i]? = some (T, c)) (hj : es[j]? = some (T', some (k, x))) (hk : k ∈ T) (hoi : l[i]? = some oi) (hoj : l[j]? = some oj) : chB l 12 oj i = true ∨ chB l 12 oi j = true := by
  have h1 := List.all_eq_true.1 h i (List.mem_range.2 (List.getElem?_eq_some_iff.1 hi).1)
  have h2 := List.all_eq_true.1 h1 j (List.mem_range.2 (List.getElem?_eq_some_iff.1 hj).1)
  rw [hi, hj, hoi, hoj] at h2
  have hne : Nat.beq i j = false := by
    cases hb : Nat.beq i j with
    | false => rfl
    | true => exact absurd (Nat.eq_of_beq_eq_true hb) hij
  simp only [hne, Bool.false_or, memB_of hk, Bool.not_true, Bool.or_eq_true] at h2
  exact h2
section perm
variable {P : Program} {ops : Array Oper} {B : Bs} {sz n0 N : Nat} {env0 E : Env} {h0 H : Heap} {dfs : Defs} {l : List Oper} {vs : List AV} {ns : List Nat} {es : List Eat} {G : Nat → Option AObj} {listed : Array Bool}

/-- One operation of the head, whenever it comes up. -/
theorem step_E3 (hc : ChainE P ops l env0 h0 n0 vs ns es G E H N) (hB : headB ops l = true) (hE : eatC l es = true) (hcl : ∀ (j : Nat) (oj : Oper), l[j]? = some oj → listed.getD j false = true → ∀ e ∈ oj.after, Region.binds .any e = true → listed.getD e.on false = true) (hk0 : ∀ p ∈ h0, p.1 < n0) (hsz : ∀ (j : Nat) (oj : Oper) (t : Nat), l[j]? = some oj → oj.dst = some t → t < sz) (hops : ∀ (j : Nat) (oj : Oper), l[j]? = some oj → ops[j]? = some oj) {Q : Exit → Act → World → Prop} {i : Nat} {o : Oper} {a : Act} {w : World} (hi : l[i]? = some o) (hr : i ∈ Region.ready .any ops listed) (hinv : InvE B sz n0 env0 dfs l vs ns es G listed a w)
    {K : Act → World → Prop} (hK : ∀ a' w', InvE B sz n0 env0 dfs l vs ns es G (listed.setIfInBounds i true) a' w' → K a' w') : wpOp P ops Q i K a w := by
  obtain ⟨M, c1, c2, c3, c4, c5⟩ := hinv
  obtain ⟨env', h', hq, Δ, n1, n2, v, T, c, s⟩ := hc.get hk0 i o hi
  have hlt := (List.getElem?_eq_some_iff.1 hi).1
  have hun := (mem_ready.1 hr).1
  have hall : ∀ e ∈ o.after, Region.binds .any e = true → listed.getD e.on false = true := by
    obtain ⟨_, o', ho', hall⟩ := mem_ready.1 hr
    rw [hops i o hi] at ho'
    injection ho' with ho'
    subst ho'
    exact hall
  have hlistsz : i < listed.size := by
    rcases Nat.lt_or_ge i listed.size with h | h
    · exact h
    · simp [Array.getElem?_eq_none h] at hun
  have hb := headB_spec hB hi
  have hu := (show uniqB l = true by simp only [headB, Bool.and_eq_true] at hB; exact hB.1)
  -- what the operation looks at
  have look : ∀ t av, t ∈ o.looksAt ops → lkE env' t = some av → Rep ⟨domL n0 ns l.length listed, M, okOf B (domL n0 ns l.length listed) M (HV es 0 (lst listed) G), w⟩ av (a.tmps.getD t undef) := by
    intro t av ht hav
    rcases needB_spec (hb.2 t ht) with hno | ⟨j, oj, hj, hdj, e, he, heb, hej⟩
    · rcases s.env t av hav with ⟨j, oj, h1, h2, h3, h4⟩ | ⟨h1, h2⟩
      · exact absurd h3 (hno j oj h2)
      · exact c4 t av h1 (fun j o' hj _ => hno j o' hj)
    · have hlj := hall e he heb
      rw [hej] at hlj
      have hji : j < i := by have := hb.1 e he heb; omega
      rcases s.env t av hav with ⟨j', oj', h1, h2, h3, h4⟩ | ⟨h1, h2⟩
      · have := uniqB_spec hu h2 hj h3 hdj
        subst this
        exact c3 j' oj' t av h2 hlj h3 h4
      · exact absurd hdj (h2 j oj hji hj)
  have hdset := domL_set (n0 := n0) (m := l.length) hlt hun s.hn s.hn'
  -- the state behind it
  have fin : ∀ u w' M', Ext ⟨domL n0 ns l.length listed, M, okOf B (domL n0 ns l.length listed) M (HV es 0 (lst listed) G), w⟩ ⟨domL n0 ns l.length (listed.setIfInBounds i true), M', okOf B (domL n0 ns l.length (listed.setIfInBounds i true)) M' (HV es 0 (lst (listed.setIfInBounds i true)) G), w'⟩ → ConcH B (domL n0 ns l.length (listed.setIfInBounds i true)) M' (HV es 0 (lst (listed.setIfInBounds i true)) G) w' → Rep ⟨domL n0 ns l.length (listed.setIfInBounds i true), M', okOf B (domL n0 ns l.length (listed.setIfInBounds i true)) M' (HV es 0 (lst (listed.setIfInBounds i true)) G), w'⟩ v u → K (a.put o.dst u) w' := by
    intro u w' M' hext hcc hv
    refine hK _ _ ⟨M', hcc, ?_, fun j oj t vj hj hl hd hvj => ?_, fun t av hav hno => ?_, ?_⟩
    · cases hd : o.dst with
      | none => simpa [Act.put] using c2
      | some d => simp [Act.put, c2]
    · by_cases hij : i = j
      · subst hij
        rw [hi] at hj; injection hj with hj; subst hj
        rw [s.hv] at hvj; injection hvj with hvj; subst hvj
        have ht := hsz i o t hi hd
        rw [hd]
        simp only [Act.put]
        rw [show (a.tmps.setIfInBounds t u).getD t undef = u by simp [c2, ht]]
        exact hv
      · rw [getD_set_ne false hij] at hl
        have h1 := c3 j oj t vj hj hl hd hvj
        have hne : ∀ d, o.dst = some d → d ≠ t := fun d hdd e => hij (uniqB_spec hu hi hj (by rw [hdd, e]) hd)
        cases hdo : o.dst with
        | none => simpa [Act.put] using Rep.ext hext _ _ h1
        | some d =>
          simp only [Act.put]
          rw [show (a.tmps.setIfInBounds d u).getD t undef = a.tmps.getD t undef by simp [Array.getElem?_setIfInBounds_ne (hne d hdo)]]
          exact Rep.ext hext _ _ h1
    · have hself : o.dst ≠ some t := hno i o hi (by simp [hlistsz])
      have h1 := c4 t av hav (fun j oj hj hl => hno j oj hj (getD_set_true hl))
      cases hdo : o.dst with
      | none => simpa [Act.put] using Rep.ext hext _ _ h1
      | some d =>
        have hne : d ≠ t := fun e => hself (by rw [hdo, e])
        simp only [Act.put]
        rw [show (a.tmps.setIfInBounds d u).getD t undef = a.tmps.getD t undef by simp [Array.getElem?_setIfInBounds_ne hne]]
        exact Rep.ext hext _ _ h1
    · have : (a.put o.dst u).defers = a.defers := by cases o.dst <;> rfl
      rw [this]
      exact c5.ext hext
  -- who writes what it looks at has come, or waits
  have hpi : lst listed i = false := getD_both hun
  have order : ∀ id, id ∈ T → ∀ j T' x, j ≠ i → es[j]? = some (T', some (id, x)) → (j < i ∧ lst listed j = true) ∨ (i < j ∧ lst listed j = false) := by
    intro id hid j T' x hji hj
    have hjl : j < l.length := by rw [← hc.lenE]; exact (List.getElem?_eq_some_iff.1 hj).1
    have hoj := List.getElem?_eq_getElem hjl
    rcases eatC_spec hE (Ne.symm hji) s.he hj hid hi hoj with he | he
    · obtain ⟨h1, h2⟩ := chB_spec (l := l) (p := fun q => listed.getD q false = true) (fun j oj h => (headB_spec hB h).1) hcl he
      obtain ⟨h3, h4⟩ := h2 j hoj
      refine .inr ⟨h3, ?_⟩
      cases hl : lst listed j with
      | false => rfl
      | true => exact absurd ((h4 hl).symm.trans hpi) (by simp)
    · obtain ⟨h1, h2⟩ := chB_spec (l := l) (p := fun q => listed.getD q false = true) (fun j oj h => (headB_spec hB h).1) hcl he
      exact .inl ⟨(h2 i hi).1, h1 hall⟩
  have hset : (∀ k x, c = some (k, x) → k ∈ T) → HV es 0 (lst (listed.setIfInBounds i true)) G = ov c (HV es 0 (lst listed) G) := fun hcT =>
    hv_set s.he hpi (by simp [lst, hlistsz]) (fun j hj => getD_set_ne false (Ne.symm hj)) (fun k x hk j T' x' hij hj => by
      rcases order k (hcT k x hk) j T' x' (by omega) hj with ⟨h1, _⟩ | ⟨_, h2⟩
      · omega
      · exact h2) G
  have hat : ∀ id, id ∈ T → HV es 0 (lst listed) G id = HV (es.take i) 0 (fun _ => true) G id := fun id hid =>
    hv_at s.he hpi (fun j T' x hji hj => by
      rcases order id hid j T' x (by omega) hj with ⟨_, h2⟩ | ⟨h1, _⟩
      · exact h2
      · omega) (fun j T' x hij hj => by
      rcases order id hid j T' x (by omega) hj with ⟨h1, _⟩ | ⟨_, h2⟩
      · omega
      · exact h2) G
  unfold wpOp
  rw [hops i o hi]
  simp only
  -- the guard
  have gd : ∀ b, guardA ops env' o b → Region.wanted o (yielded ops a.tmps) = b := by
    intro b hg
    unfold guardA at hg
    unfold Region.wanted
    cases hgd : o.guard with
    | none => rw [hgd] at hg; exact hg.symm
    | some p =>
      obtain ⟨j, want⟩ := p
      rw [hgd] at hg
      obtain ⟨t, h1, h2⟩ := hg
      rcases h2 with ⟨c, h2, h3⟩ | ⟨h2, rfl⟩
      rotate_left
      · have h4 := look t _ (by
          unfold Oper.looksAt
          rw [hgd]
          exact List.mem_append_right _ (by simp [h1])) h2
        simp only [Rep, RepC] at h4
        simp [yield_undef h1 h4]
      have h4 := look t _ (by
        unfold Oper.looksAt
        rw [hgd]
        exact List.mem_append_right _ (by simp [h1])) h2
      simp only [Rep, RepC] at h4
      have hlt : t < a.tmps.size := by
        rcases Nat.lt_or_ge t a.tmps.size with h1 | h1
        · exact h1
        · simp [h1, undef] at h4
      have : yielded ops a.tmps j = some c := by
        unfold yielded
        rw [h1]
        have h5 : a.tmps[t]? = some (.bool c) := by
          rw [← h4]
          simp [hlt]
        simp [h5]
      simp only [this]
      rw [← h3]
      cases c <;> cases want <;> rfl
  rcases s.step with ⟨hg, hsub, hnT, hcT, hA⟩ | ⟨hg, rfl, rfl, rfl⟩
  · rw [gd true hg, if_pos rfl]
    refine .inl (hA B (domL n0 ns l.length listed) M (HV es 0 (lst listed) G) w a K Q (fun id ob k1 k2 => ?_) (fun id k1 k2 => ⟨?_, ?newid⟩) c1 (fun x av hx => ?_) ?_)
    · -- an object of the text's heap is there
      obtain ⟨k1, hidT⟩ := hsub id ob k1
      rw [hat id hidT]
      rcases Nat.lt_or_ge id n1 with h1 | h1
      · rw [s.old id h1]; exact k1
      · obtain ⟨p, hp, hpi⟩ := lk_mem k1
        have := s.keys p hp
        omega
    case newid =>
      rw [hat id (hnT id k1 k2), hv_same, s.new id k1 k2]
      intro k T' x hk
      exfalso
      rw [List.getElem?_take] at hk
      split at hk
      · rename_i hki
        have hkn : k < ns.length := by rw [hc.le.2.2.1]; omega
        have h1 := hc.wrs k T' id x _ hk (List.getElem?_eq_getElem hkn)
        have h2 := ns_monoE hc (show k ≤ i by omega) (List.getElem?_eq_getElem hkn) s.hn
        omega
      · cases hk
    · rintro (h1 | ⟨j, p, q, h1, h2, h3, h4, h5, h6⟩)
      · have := ns_monoE hc (Nat.zero_le i) hc.le.2.1 s.hn
        omega
      · have hij : i ≠ j := fun e => by subst e; rw [getD_both hun] at h2; cases h2
        rcases Nat.lt_or_gt_of_ne hij with h7 | h7
        · have := ns_monoE hc (show i + 1 ≤ j by omega) s.hn' h3
          omega
        · have := ns_monoE hc (show j + 1 ≤ i by omega) h4 s.hn
          omega
    · cases x with
      | tmp t =>
        simp only [evT] at hx
        split at hx
        · rename_i hm
          exact look t av (memB_mem hm) hx
        · cases hx
      | const x => simp only [evT, Option.some.injEq] at hx; subst hx; simp [Rep, RepC, Act.eval]
      | global g => cases hx
      | func f => simp only [evT, Option.some.injEq] at hx; subst hx; exact ⟨[], rfl, rfl⟩
    · intro u w' M' hext hcc hv
      rw [← hdset, ← hset hcT] at hext hcc hv
      exact fin u w' M' hext hcc hv
  · rw [gd false hg, if_neg (by simp)]
    have hds2 : domL n0 ns l.length (listed.setIfInBounds i true) = domL n0 ns l.length listed := by rw [hdset, ad_self]
    have hhe := hset (fun k x e => by cases e)
    rw [ov_none] at hhe
    refine fin undef w M ?_ ?_ ?_
    · rw [hds2, hhe]; exact Ext.refl _
    · rw [hds2, hhe]; exact c1
    · simp [Rep, RepC]
end perm
theorem aw_drawE3 {P : Program} {sz n0 N : Nat} {env0 E : Env} {h0 H : Heap} {dfs : Defs} {K : AK} {id : Nat} {l : List Oper} {vs : List AV} {ns : List Nat} {es : List Eat} {G : Nat → Option AObj} (m : Nat) (hm : P.follows .mixedOrders = true) (hB : drawB l m = true) (hE : eatC (l.take m) es = true) (hsz : dstsOk (l.take m) sz = true) (hk0 : keysB h0 n0 = true)
    (hc : ChainE P l.toArray (l.take m) env0 h0 n0 vs ns es G E H N) (next : AWL P l.toArray sz (l.drop m) K N E H dfs) : AW P sz (.region id l.toArray true) K n0 env0 h0 dfs := by
  intro B a w hcc rd hrd
  simp only [drawB, Bool.and_eq_true, Bool.or_eq_true] at hB
  obtain ⟨⟨⟨b1, b2⟩, b3⟩, b4⟩ := hB
  have hml : m ≤ l.length := Nat.le_of_ble_eq_true b1
  have htl : (l.take m).length = m := by simp; omega
  have hk0' : ∀ p ∈ h0, p.1 < n0 := fun p hp => by simpa [Nat.blt_eq] using List.all_eq_true.1 hk0 p hp
  have hsz' : ∀ (j : Nat) (oj : Oper) (t : Nat), (l.take m)[j]? = some oj → oj.dst = some t → t < sz := fun j oj t hj hd => by
    have := List.all_eq_true.1 hsz oj (List.mem_of_getElem? hj)
    exact dstOk_spec this t hd
  have hops : ∀ (j : Nat) (oj : Oper), (l.take m)[j]? = some oj → l.toArray[j]? = some oj := fun j oj hj => by
    rw [List.getElem?_take] at hj
    split at hj
    · simpa using hj
    · cases hj
  have hnd : rd = none ∨ ∀ (i : Nat) (o : Oper), l.toArray[i]? = some o → noDef o = true := hrd.imp_right fun k i o ho => all_get (by simpa [plainC] using k) ho
  have hdrop : rd = none ∨ (l.drop m).all noDef = true := hrd.imp_right fun k => List.all_eq_true.2 fun o ho => List.all_eq_true.1 (by simpa [plainC] using k) o (List.mem_of_mem_drop ho)
  refine wpIn_region_any hm ?_
  -- the world behind the draw
  have hdrew : Conc B sz n0 env0 h0 dfs a { w with drawn := w.drawn + 1 } := by
    obtain ⟨M, c1, c2, c3, c4⟩ := hcc
    have hbel : Below w.heap.size w { w with drawn := w.drawn + 1 } := (Below.refl _ _).drew
    have hg := c1.grow hbel n0 n0 (M' := M) (fun _ _ => rfl) (fun id h1 h2 => by omega) (fun id o h1 h2 => by omega) (fun id id' o o' g h1 h2 => by omega) (fun _ id o h1 h2 => by omega)
    rw [ad_self] at hg
    exact ⟨M, hg.1, c2, fun t av ht => Rep.ext hg.2 _ _ (c3 t av ht), c4.ext hg.2⟩
  have key : ∀ (f : Nat) (listed : Array Bool) (a : Act) (w : World), (List.range m).countP (fun j => !listed.getD j false) = f → HeadInv .any l.toArray m listed → InvE B sz n0 env0 dfs (l.take m) vs ns es G listed a w →
      wpAnyIn (WF rd) 0 P .any l.toArray (KC B sz K) (f + (l.length - m)) listed a w := by
    intro f
    induction f with
    | zero =>
      intro listed a w hcnt hinv hI
      have hall := countL_zero m hcnt
      have hlisted : listed = doneL m (l.length - m) := by
        apply Array.ext
        · rw [hinv.size]; simp [doneL]; omega
        · intro j h1 h2
          rw [hinv.size] at h1
          simp only [List.size_toArray] at h1
          by_cases hj : j < m
          · have := hall j hj
            simp [hinv.size, h1] at this
            simp [doneL, hj, this, List.getElem_append]
          · have := hinv.tail j (by omega) (by simpa using h1)
            simp [hinv.size, h1] at this
            simp [doneL, hj, this, List.getElem_append]
      rw [Nat.zero_add]
      have hconc := endE hc (by rw [htl]; exact hall) hI
      have := wpAnyIn_of_seq (F := WF rd) (n := 0) (P := P) (ops := l.toArray) (md := .any) (Q' := KC B sz K) (l.drop m) m listed a w (fun j => by simp [List.getElem?_drop]) (by rw [List.length_drop, hlisted]; exact b4) (next B a w hconc rd hdrop)
      rwa [List.length_drop] at this
    | succ f ih =>
      intro listed a w hcnt hinv hI
      rw [show f + 1 + (l.length - m) = (f + (l.length - m)) + 1 by omega]
      -- some operation of the head is still to come
      have hex : ∃ j, j < m ∧ listed.getD j false = false := by
        have hpos : 0 < (List.range m).countP (fun j => !listed.getD j false) := by omega
        obtain ⟨j, hj, hp⟩ := List.countP_pos_iff.1 hpos
        exact ⟨j, List.mem_range.1 hj, by simpa using hp⟩
      have hsize : ∀ j, j < m → j < listed.size := fun j hj => by rw [hinv.size]; simp; omega
      have hready : Region.ready .any l.toArray listed ≠ [] := by
        obtain ⟨j0, hj0, hu0⟩ := hex
        obtain ⟨j, ⟨hj, hu⟩, hmin⟩ := exists_min (fun j => j < m ∧ listed.getD j false = false) ⟨j0, hj0, hu0⟩
        have hjl : j < (l.take m).length := by omega
        have hb := headB_spec b2 (List.getElem?_eq_getElem hjl)
        have hr : j ∈ Region.ready .any l.toArray listed := by
          refine mem_ready.2 ⟨getD_in (hsize j hj) hu, (l.take m)[j], hops j _ (List.getElem?_eq_getElem hjl), fun e he hbn => ?_⟩
          have hlt := hb.1 e he hbn
          cases hle : listed.getD e.on false with
          | true => rfl
          | false => have := hmin e.on ⟨by omega, hle⟩; omega
        intro h0; rw [h0] at hr; cases hr
      refine ⟨fun h => absurd h hready, fun i hi => ?_⟩
      have him : i < m := by
        rcases Nat.lt_or_ge i m with h | h
        · exact h
        · exfalso
          obtain ⟨_, oi, hoi, _⟩ := mem_ready.1 hi
          have hil : i < l.length := by simpa using (Array.getElem?_eq_some_iff.1 hoi).1
          rcases b3 with b3 | b3
          · have := Nat.eq_of_beq_eq_true b3; omega
          · obtain ⟨j0, hj0, hu0⟩ := hex
            exact tail_waits b3.1 b3.2 (by simp; omega) hinv _ j0 rfl hj0 (getD_in (hsize j0 hj0) hu0) i h hi
      have hil : i < (l.take m).length := by omega
      refine wpOp_in (hnd.imp_right fun k => k i) (step_E3 (Q := fun _ _ _ => False) hc b2 hE (fun j oj hj hl e he hb => hinv.closed j oj (hops j oj hj) hl e he hb) hk0' hsz' hops (List.getElem?_eq_getElem hil) hi hI fun a' w' hI' => ?_)
      refine ih _ a' w' ?_ (hinv.set hi him) hI'
      have := countL_set m him (mem_ready.1 hi).1
      omega
  have hcount : (List.range m).countP (fun j => !(Array.replicate l.toArray.size false).getD j false) = m := by
    rw [List.countP_eq_length.2 (fun j hj => by rw [getD_replicate_false]; rfl), List.length_range]
  have := key m (Array.replicate l.toArray.size false) a _ hcount ⟨by simp, (fun j oj hj hl => by rw [getD_replicate_false] at hl; cases hl), fun t h1 h2 => by simp at h2; simp [h2]⟩ (initE hc hdrew)
  rw [show m + (l.length - m) = l.toArray.size by simp; omega] at this
  exact this
theorem drwE_end3 {P : Program} {l : List Oper} {sz : Nat} {K : AK} {dfs : Defs} {id n0 n : Nat} {env0 env : Env} {h0 h : Heap} {es : List Eat} {rest : List Oper} (hm : P.follows .mixedOrders = true) (hB : drawB l (l.length - rest.length) = true) (hE : eatC (l.take (l.length - rest.length)) es = true) (hsz : dstsOk (l.take (l.length - rest.length)) sz = true) (hk0 : keysB h0 n0 = true) (next : AWL P l.toArray sz rest K n env h dfs) : DrwE P l sz K dfs id n0 env0 h0 es 0 rest n env h := by
  intro pre vs ns G hl hc
  have hlen : l.length - rest.length = pre.length := by rw [← hl]; simp
  rw [hlen] at hB hsz hE
  have ht : l.take pre.length = pre := by rw [← hl]; simp
  have hd : l.drop pre.length = rest := by rw [← hl]; simp
  exact aw_drawE3 pre.length hm hB hE hsz hk0 (by rw [ht]; exact hc) (by rw [hd]; exact next)
/-- An operation that reads no object. -/
theorem d_still0 {P : Program} {l : List Oper} {sz : Nat} {K : AK} {dfs : Defs} {i n0 n m t : Nat} {env0 env : Env} {h0 h : Heap} {es : List Eat} {rest : List Oper} {op : Op} {ty : TypeId} {pos : String} {aft : Array Edge} {gd : Option (Nat × Bool)} {v : AV} (hg : guardA l.toArray env ⟨some t, op, ty, pos, aft, gd⟩ true) (hs : Still P ⟨some t, op, ty, pos, aft, gd⟩ (evT (Oper.looksAt l.toArray ⟨some t, op, ty, pos, aft, gd⟩) env) [] v) (next : DrwE P l sz K dfs i n0 env0 h0 (es ++ [([], none)]) m rest n ((t, v) :: env) h) : DrwE P l sz K dfs i n0 env0 h0 es (m + 1) (⟨some t, op, ty, pos, aft, gd⟩ :: rest) n env h :=
  drwE_step (T := []) (hr := []) (Δ := []) (c := none) hg (Nat.le_refl _) (fun id o h => by cases h) (by simp) trivial (fun k x e => by cases e) hs.adds.est (fun id h1 h2 => by omega) (by simp) next
end Go.Av
namespace Go.Av
open Go Go.RowKit
def lateB : Op → Bool
  | .move _ => true
  | .extract _ _ => true
  | _ => false
def moveB3 (l : List Oper) (i : Nat) : Bool := match l[i]? with
  | some o => lateB o.op && (List.range l.length).all fun j => Nat.beq j i || Region.waitsFor .any l.toArray j i || Region.waitsFor .any l.toArray i j || (match l[j]? with | some oj => o.apart l.toArray oj | none => true)
  | none => false
def drawXB3 (l : List Oper) (m : Nat) (fs : List Nat) : Bool :=
  Nat.ble m l.length && headB l.toArray (l.take m) && (Nat.beq m l.length || (sinkXB l.toArray m fs && Region.chainB .any l.toArray m)) && Region.seqB .any l.toArray (l.length - m) m (doneL m (l.length - m)) && fs.all (fun i => Nat.blt i m && moveB3 l i) && selB l

/-- The operations of the head that nothing waits for. -/
def autoFs (l : List Oper) (m : Nat) : List Nat := (List.range m).filter fun i => moveB3 l i && !(List.range (m + 1)).any fun j => decide (i < j) && Region.waitsFor .any l.toArray j i
end Go.Av
