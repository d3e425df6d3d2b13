/-
  Joined texts: U16 Y3. Lemmas; no statement of a law.
-/
import Derived.Test.YtccnhpaldmjkbaaGreatM12
import Derived.Test.YtccnhpaldmjkbaaGreatM14
import Derived.Test.YtccnhpaldmjkbaaGreatM21
set_option linter.unusedSimpArgs false
set_option linter.unusedVariables false
/-
  Estimates of bottom-k sketches (walk), as the program has them.
-/
namespace Go.Proofs.YtccnhpaldmjkbaaGreat
open Go Go.RowKit Go.Av
set_option maxRecDepth 100000
/-- The estimated number of different values. -/
def ratN (w g : Nat) : Nat := min ((w - 1) * 4611686018427387904 / g) 4611686018427387904
def diffN (w : Nat) (l : List Int) : Int :=
  if l.length < w then l.length else if (l.getD (l.length - 1) 0).toNat = 0 then l.length else (ratN w (l.getD (l.length - 1) 0).toNat : Int)
theorem rat_big {w h lo g : Nat} (hg : 0 < g) (hgb : g < 4611686018427387904) (e : h * 18446744073709551616 + lo = (w - 1) * 4611686018427387904) (hge : g ≤ h) : ratN w g = 4611686018427387904 := by
  unfold ratN
  refine Nat.min_eq_right ?_
  rw [Nat.le_div_iff_mul_le hg, ← e]
  omega
theorem rat_div {w h lo g : Nat} (e : h * 18446744073709551616 + lo = (w - 1) * 4611686018427387904) : (if (4611686018427387904 : Int) < (((h * 18446744073709551616 + lo) / g : Nat) : Int) then (4611686018427387904 : Int) else (((h * 18446744073709551616 + lo) / g : Nat) : Int)) = (ratN w g : Int) := by
  unfold ratN
  rw [e]
  generalize (w - 1) * 4611686018427387904 / g = q
  split <;> omega
theorem ratN_le (w g : Nat) : ratN w g ≤ 4611686018427387904 := Nat.min_le_right ..
attribute [local irreducible] Still Adds AWL AW Drw DrwE EStep AC AWR Weak Frz Src RetK Out InK ItK AsK RdK RetT OutT ACT ACS RetS ACP RetP
set_option maxHeartbeats 4000000 in
theorem diff_ok (nm sr : List UInt8) (col kd d : Int) (w : Nat) (l : List Int) (n : Nat) (hn : l.length = n) (hw1 : 1 ≤ w) (hw : w ≤ 1024) (hnn : n ≤ 1000000) (hb : ∀ x ∈ l, 0 ≤ x ∧ x < 4611686018427387904) : AC Tryz.prog 127 [.agg [sv nm, sv sr, iv col, iv kd, iv w, iv d], .sl 1 n (intc .i64 l)] (.c (iv (diffN w l))) [] 0 := by
  have hil : (intc .i64 l).length = n := by rw [ic_len, hn]
  unfold diffN
  rw [hn]
  by_cases h1 : n < w
  · rw [if_pos h1]
    refine ac_enter tabOk (sz := 49) Tryz.func127 rfl (by rw [Tryz.ntmps127]; rfl) ?_
    repeat' (first | ((with_reducible refine aw_seqk ?_); intro K hK hX) | ((with_reducible refine isC_reg ?_); refine aw_prune [0, 1, 2, 4, 5, 6, 7, 8] rfl rfl ?_; with_reducible refine aw_region ?_) | refine stA ?_ | (refine hK _ _ _ _ ?_; clear hK hX K) | (refine hX _ _ _ _ _ (by simp) ?_; clear hK hX K))
    refine retK_mk zio ztr rfl (ResL.one (ResA.tmp rfl)) zou
  · rw [if_neg h1]
    have hx := gD_at (l := l) (i := n - 1) (by omega)
    have hxb := hb _ (List.mem_of_getElem? hx)
    have hxa := ic_at hx
    generalize l.getD (n - 1) 0 = x at hx hxb hxa ⊢
    obtain ⟨g, rfl⟩ : ∃ g : Nat, x = (g : Int) := ⟨x.toNat, by omega⟩
    obtain ⟨m, hm⟩ : ∃ m, n - 1 = m := ⟨_, rfl⟩
    rw [hm] at hxa
    rw [Int.toNat_natCast]
    have hsub : IntKind.i64.wrap ((n : Int) - 1) = (m : Int) := by rw [w64 (by omega) (by omega)]; omega
    have hcg : IntKind.u64.wrap (g : Int) = (g : Int) := wu64 (by omega) (by omega)
    have hgb : g < 4611686018427387904 := by omega
    clear hx hb hxb
    by_cases h2 : g = 0
    · rw [if_pos h2]
      refine ac_enter tabOk (sz := 49) Tryz.func127 rfl (by rw [Tryz.ntmps127]; rfl) ?_
      repeat' (first | ((with_reducible refine aw_seqk ?_); intro K hK hX) | ((with_reducible refine isC_reg ?_); refine aw_prune [0, 1, 2, 4, 5, 6, 7, 8] rfl rfl ?_; with_reducible refine aw_region ?_) | (((with_reducible refine isA_any ?_); refine xA ?_); (first | ((with_reducible refine e_bin ?_); (first | refine ex_i (s_arit64 rfl rfl rfl hsub) ?_)) | ((with_reducible refine e_conv ?_); (first | refine ex_i (s_convInt tabOk rfl rfl rfl rfl hcg) ?_)) | ((with_reducible refine e_load ?_); (first | refine ex_i (s_load1 tabOk rfl rfl rfl rfl (by (rw [Nat.mul_one]; exact hxa))) ?_ | refine ex_i (s_load1r tabOk rfl rfl rfl rfl (by (rw [Nat.mul_one]; exact hxa))) ?_ | refine ex_i (s_load1i tabOk rfl rfl rfl (by (rw [Nat.mul_one]; exact hxa))) ?_)) | ((with_reducible refine e_ix ?_); (first | refine ex_i (s_ixV1 tabOk rfl rfl zcj rfl rfl rfl rfl rfl zle (by (rw [Nat.mul_one]; exact hxa))) ?_ | refine ex_i (s_ixStr tabOk rfl rfl zcj rfl rfl (by (rw [Nat.mul_one]; exact hxa))) ?_)))) | refine stA ?_ | (refine hK _ _ _ _ ?_; clear hK hX K) | (refine hX _ _ _ _ _ (by simp) ?_; clear hK hX K))
      refine retK_mk zio ztr rfl (ResL.one (ResA.tmp rfl)) zou
    · rw [if_neg h2]
      obtain ⟨w1, hw1e⟩ : ∃ w1, w - 1 = w1 := ⟨_, rfl⟩
      have hswb : IntKind.i64.wrap ((w : Int) - 1) = (w1 : Int) := by rw [w64 (by omega) (by omega)]; omega
      have hcw : IntKind.u64.wrap (w1 : Int) = (w1 : Int) := wu64 (by omega) (by omega)
      have hmul := mul64_ok w1 (by omega)
      obtain ⟨hi, hhi⟩ : ∃ hi, w1 / 4 = hi := ⟨_, rfl⟩
      obtain ⟨lo, hlo⟩ : ∃ lo, w1 * 4611686018427387904 % 18446744073709551616 = lo := ⟨_, rfl⟩
      have he : hi * 18446744073709551616 + lo = (w - 1) * 4611686018427387904 := by omega
      have hlob : lo < 18446744073709551616 := by omega
      rw [hhi, hlo] at hmul
      have hg0 : 0 < g := by omega
      clear hlo hhi
      by_cases h3 : g ≤ hi
      · rw [rat_big hg0 hgb he h3]
        clear he
        refine ac_enter tabOk (sz := 49) Tryz.func127 rfl (by rw [Tryz.ntmps127]; rfl) ?_
        repeat' (first | ((with_reducible refine aw_seqk ?_); intro K hK hX) | ((with_reducible refine isC_reg ?_); refine aw_prune [0, 1, 2, 4, 5, 6, 7, 8] rfl rfl ?_; with_reducible refine aw_region ?_) | ((with_reducible refine isA_call ?_); (first | refine zA ?_ | refine zN ?_); (first | refine c0 (hmul) ?_)) | (((with_reducible refine isA_any ?_); refine xA ?_); (first | ((with_reducible refine e_bin ?_); (first | refine ex_i (s_arit64 rfl rfl rfl hsub) ?_ | refine ex_i (s_arit64 rfl rfl rfl hswb) ?_)) | ((with_reducible refine e_conv ?_); (first | refine ex_i (s_convInt tabOk rfl rfl rfl rfl hcg) ?_ | refine ex_i (s_convInt tabOk rfl rfl rfl rfl hcw) ?_)) | ((with_reducible refine e_load ?_); (first | refine ex_i (s_load1 tabOk rfl rfl rfl rfl (by (rw [Nat.mul_one]; exact hxa))) ?_ | refine ex_i (s_load1r tabOk rfl rfl rfl rfl (by (rw [Nat.mul_one]; exact hxa))) ?_ | refine ex_i (s_load1i tabOk rfl rfl rfl (by (rw [Nat.mul_one]; exact hxa))) ?_)) | ((with_reducible refine e_ix ?_); (first | refine ex_i (s_ixV1 tabOk rfl rfl zcj rfl rfl rfl rfl rfl zle (by (rw [Nat.mul_one]; exact hxa))) ?_ | refine ex_i (s_ixStr tabOk rfl rfl zcj rfl rfl (by (rw [Nat.mul_one]; exact hxa))) ?_)))) | refine stA ?_ | (refine hK _ _ _ _ ?_; clear hK hX K) | (refine hX _ _ _ _ _ (by simp) ?_; clear hK hX K))
        refine retK_mk zio ztr rfl (ResL.one (ResA.tmp rfl)) zou
      · obtain ⟨rr, hdiv⟩ := div64_ok hi lo g (by omega) (by omega) hlob
        have hmin := rat_div (g := g) he
        have hrb := ratN_le w g
        generalize (hi * 18446744073709551616 + lo) / g = q at hdiv hmin
        generalize ratN w g = z at hmin hrb ⊢
        have hcz : IntKind.i64.wrap (z : Int) = (z : Int) := w64 (by omega) (by omega)
        clear he
        refine ac_enter tabOk (sz := 49) Tryz.func127 rfl (by rw [Tryz.ntmps127]; rfl) ?_
        repeat' (first | ((with_reducible refine aw_seqk ?_); intro K hK hX) | ((with_reducible refine isC_reg ?_); refine aw_prune [0, 1, 2, 4, 5, 6, 7, 8] rfl rfl ?_; with_reducible refine aw_region ?_) | ((with_reducible refine isA_call ?_); (first | refine zA ?_ | refine zN ?_); (first | refine c0 (hmul) ?_ | refine c0 (hdiv) ?_)) | (((with_reducible refine isA_any ?_); refine xA ?_); (first | ((with_reducible refine e_bin ?_); (first | refine ex_i (s_arit64 rfl rfl rfl hsub) ?_ | refine ex_i (s_arit64 rfl rfl rfl hswb) ?_)) | ((with_reducible refine e_conv ?_); (first | refine ex_i (s_convInt tabOk rfl rfl rfl rfl hcg) ?_ | refine ex_i (s_convInt tabOk rfl rfl rfl rfl hcw) ?_ | refine ex_i (s_convInt tabOk rfl rfl rfl rfl hcz) ?_)) | ((with_reducible refine e_bi ?_); (first | refine ex_i (s_min rfl rfl hmin) ?_)) | ((with_reducible refine e_load ?_); (first | refine ex_i (s_load1 tabOk rfl rfl rfl rfl (by (rw [Nat.mul_one]; exact hxa))) ?_ | refine ex_i (s_load1r tabOk rfl rfl rfl rfl (by (rw [Nat.mul_one]; exact hxa))) ?_ | refine ex_i (s_load1i tabOk rfl rfl rfl (by (rw [Nat.mul_one]; exact hxa))) ?_)) | ((with_reducible refine e_ix ?_); (first | refine ex_i (s_ixV1 tabOk rfl rfl zcj rfl rfl rfl rfl rfl zle (by (rw [Nat.mul_one]; exact hxa))) ?_ | refine ex_i (s_ixStr tabOk rfl rfl zcj rfl rfl (by (rw [Nat.mul_one]; exact hxa))) ?_)))) | refine stA ?_ | (refine hK _ _ _ _ ?_; clear hK hX K) | (refine hX _ _ _ _ _ (by simp) ?_; clear hK hX K))
        refine retK_mk zio ztr rfl (ResL.one (ResA.tmp rfl)) zou
set_option maxHeartbeats 4000000 in
theorem est2_ok (nm sr : List UInt8) (col d : Int) (w : Nat) (v : Vl) (l : List Int) (n : Nat) (hn : l.length = n) (hf : formP ⟨nm, sr, col, 2, w, d⟩) (hh : hashP w l) : AC Tryz.prog 65 [.agg [sv nm, sv sr, iv col, iv 2, iv w, iv d], .sl 1 n (intc .i64 l), .agg v.c] (.c (iv (diffN w l))) [] 0 := by
  have hil : (intc .i64 l).length = n := by rw [ic_len, hn]
  obtain ⟨f1, f2, f3, f4, f5, f6⟩ := id hf
  simp only at f1 f2 f3 f4 f5 f6
  have hnw : n ≤ w := by rw [← hn]; exact hh.1
  have h1 := valb_ok nm sr col d w l n hn (by simp only [maxLen]; omega) (by omega)
  have : ∀ i : Decidable (formP ⟨nm, sr, col, 2, w, d⟩ ∧ hashP w l), @decide _ i = true := fun i => @decide_eq_true _ i ⟨hf, hh⟩
  rw [this] at h1
  have h2 := diff_ok nm sr col 2 d w l n hn (by omega) (by omega) (by omega) hh.2.2
  generalize diffN w l = z at h2 ⊢
  obtain ⟨a, m, b⟩ := v
  simp only [Vl.c] at *
  clear hf hh f6
  refine ac_enter tabOk (sz := 32) Tryz.func65 rfl (by rw [Tryz.ntmps65]; rfl) ?_
  repeat' (first | ((with_reducible refine aw_seqk ?_); intro K hK hX) | ((with_reducible refine isC_reg ?_); refine aw_prune [0, 1, 2, 3, 5, 6] rfl rfl ?_; with_reducible refine aw_region ?_) | ((with_reducible refine isA_call ?_); (first | refine zA ?_ | refine zN ?_); (first | refine c0 (h1) ?_ | refine c0 (h2) ?_)) | refine stA ?_ | (refine hK _ _ _ _ ?_; clear hK hX K) | (refine hX _ _ _ _ _ (by simp) ?_; clear hK hX K))
  refine retK_mk zio (by exact ⟨es_idle, es_idle_b, trivial⟩) rfl (ResL.one (ResA.tmp rfl)) zou
end Go.Proofs.YtccnhpaldmjkbaaGreat
/-
  Add and Estimate (walk), as the reference has them.
-/
namespace Go.Proofs.YtccnhpaldmjkbaaGreat
open Go Go.RowKit Go.Av
set_option maxRecDepth 100000
theorem dbl_div {m x : Nat} (hx : 0 < x) : (2 * m) / x = 2 * (m / x) + (if x ≤ 2 * (m % x) then 1 else 0) ∧ (2 * m) % x = 2 * (m % x) - (if x ≤ 2 * (m % x) then x else 0) := by
  have h1 := Nat.div_add_mod m x
  have h2 := Nat.mod_lt m hx
  have e : 2 * m = x * (2 * (m / x)) + 2 * (m % x) := by
    have : x * (2 * (m / x)) = 2 * (x * (m / x)) := by rw [Nat.mul_left_comm]
    omega
  by_cases h : x ≤ 2 * (m % x)
  · rw [if_pos h, if_pos h]
    have e2 : 2 * m = (2 * (m % x) - x) + x * (2 * (m / x) + 1) := by rw [Nat.mul_add]; omega
    rw [e2, Nat.add_mul_div_left _ _ hx, Nat.add_mul_mod_self_left, Nat.div_eq_of_lt (by omega), Nat.mod_eq_of_lt (by omega)]
    exact ⟨by omega, rfl⟩
  · rw [if_neg h, if_neg h]
    have e2 : 2 * m = 2 * (m % x) + x * (2 * (m / x)) := by omega
    rw [e2, Nat.add_mul_div_left _ _ hx, Nat.add_mul_mod_self_left, Nat.div_eq_of_lt (by omega), Nat.mod_eq_of_lt (by omega)]
    exact ⟨by omega, rfl⟩
attribute [local irreducible] Still Adds AWL AW Drw DrwE EStep AC AWR Weak Frz Src RetK Out InK ItK AsK RdK RetT OutT ACT ACS RetS ACP RetP
set_option maxHeartbeats 4000000 in
theorem rratio_ok (n x : Nat) (hx : 0 < x) (hx2 : x ≤ 4611686018427387904) (hn : n ≤ 100000) : AC Tryz.prog 132 [iv n, iv x] (.c (iv ((min (n * 4611686018427387904 / x) 4611686018427387904 : Nat) : Int))) [] 0 := by
  have hquo : IntKind.i64.wrap ((n : Int).tdiv (x : Int)) = ((n / x : Nat) : Int) := by
    have hle := Nat.div_le_self n x
    rw [show (n : Int).tdiv (x : Int) = ((n / x : Nat) : Int) by simp]
    generalize n / x = A at hle ⊢
    exact w64 (by omega) (by omega)
  have hrem : (n : Int).tmod (x : Int) = ((n % x : Nat) : Int) := by rw [r64 (by omega), Int.natCast_emod]
  by_cases hnx : x ≤ n
  · have h1 : 0 < n / x := Nat.div_pos hnx hx
    have h2 : min (n * 4611686018427387904 / x) 4611686018427387904 = 4611686018427387904 := Nat.min_eq_right (by rw [Nat.le_div_iff_mul_le hx, Nat.mul_comm]; exact Nat.mul_le_mul_right _ hnx)
    rw [h2]
    generalize n / x = a at *
    generalize n % x = b at *
    refine ac_enter tabOk (sz := 33) Tryz.func132 rfl (by rw [Tryz.ntmps132]; rfl) ?_
    repeat' (first | ((with_reducible refine aw_seqk ?_); intro K hK hX) | ((with_reducible refine isC_reg ?_); refine aw_prune [0, 1, 4, 5, 6, 7] rfl rfl ?_; with_reducible refine aw_region ?_) | ((with_reducible refine isC_draw ?_); refine aw_prune [0, 1, 4, 5, 6, 7] rfl rfl ?_; refine aw_drwF [] ?_) | ((first | ((with_reducible refine isA_any ?_); refine xA ?_) | ((with_reducible refine isDk_any ?_); refine xD ?_)); (first | ((with_reducible refine e_bin ?_); (first | refine ex_i (s_quo (k := .i64) rfl rfl (by omega) hquo) ?_ | refine ex_i (s_rem (k := .i64) rfl rfl (by omega) hrem) ?_)))) | refine stA ?_ | refine stD ?_ | (refine hK _ _ _ _ ?_; clear hK hX K) | (refine hX _ _ _ _ _ (by simp) ?_; clear hK hX K))
    refine retK_mk zio ztr rfl (ResL.one (ResA.tmp rfl)) zou
  · have hd : n / x = 0 := Nat.div_eq_of_lt (by omega)
    have hm : n % x = n := Nat.mod_eq_of_lt (by omega)
    rw [hd] at hquo
    rw [hm] at hrem
    obtain ⟨q, hq⟩ : ∃ q : Nat → Nat, ∀ i, q i = n * 2 ^ i / x := ⟨_, fun _ => rfl⟩
    obtain ⟨r, hr⟩ : ∃ r : Nat → Nat, ∀ i, r i = n * 2 ^ i % x := ⟨_, fun _ => rfl⟩
    have hq0 : 0 = q 0 := by rw [hq]; simp [hd]
    have hr0 : n = r 0 := by rw [hr]; simp [hm]
    have e2 : ∀ i, n * 2 ^ (i + 1) = 2 * (n * 2 ^ i) := fun i => by rw [Nat.pow_succ, ← Nat.mul_assoc, Nat.mul_comm]
    have hqs : ∀ i, q (i + 1) = 2 * q i + (if x ≤ 2 * r i then 1 else 0) := fun i => by rw [hq, hq, hr, e2]; exact (dbl_div hx).1
    have hrs : ∀ i, r (i + 1) = 2 * r i - (if x ≤ 2 * r i then x else 0) := fun i => by rw [hr, hr, e2]; exact (dbl_div hx).2
    have hrb : ∀ i, r i < x := fun i => by rw [hr]; exact Nat.mod_lt _ hx
    have hqb : ∀ i, i < 62 → q i ≤ 2305843009213693952 := fun i hi => by
      rw [hq]
      have h3 : n * 2 ^ i ≤ x * 2 ^ 61 := Nat.mul_le_mul (by omega) (Nat.pow_le_pow_right (by decide) (by omega))
      have := Nat.div_le_div_right (c := x) h3
      rw [Nat.mul_div_cancel_left _ hx] at this
      exact this
    have hend : min (n * 4611686018427387904 / x) 4611686018427387904 = q 62 := by
      rw [hq]
      refine Nat.min_eq_left ?_
      have h3 : n * 2 ^ 62 ≤ x * 2 ^ 62 := Nat.mul_le_mul_right _ (by omega)
      have := Nat.div_le_div_right (c := x) h3
      rw [Nat.mul_div_cancel_left _ hx] at this
      exact this
    rw [hend]
    clear hq hr hend e2 hd hm
    refine ac_enter tabOk (sz := 33) Tryz.func132 rfl (by rw [Tryz.ntmps132]; rfl) ?_
    repeat' (first | ((with_reducible refine aw_seqk ?_); intro K hK hX) | ((with_reducible refine isC_reg ?_); refine aw_prune [0, 1, 4, 5, 6, 7] rfl rfl ?_; with_reducible refine aw_region ?_) | ((with_reducible refine isC_draw ?_); refine aw_prune [0, 1, 4, 5, 6, 7] rfl rfl ?_; refine aw_drwF [] ?_) | ((first | ((with_reducible refine isA_any ?_); refine xA ?_) | ((with_reducible refine isDk_any ?_); refine xD ?_)); (first | ((with_reducible refine e_bin ?_); (first | refine ex_i (s_quo (k := .i64) rfl rfl (by omega) hquo) ?_ | refine ex_i (s_rem (k := .i64) rfl rfl (by omega) hrem) ?_)))) | refine stA ?_ | refine stD ?_ | (refine hK _ _ _ _ ?_; clear hK hX K) | (refine hX _ _ _ _ _ (by simp) ?_; clear hK hX K))
    refine aw_loopo [5, 6, 7] [] rfl rfl (fun i : Nat => [(5, .c (iv (q i))), (6, .c (iv (r i))), (7, .c (iv i))]) (fun i => []) (fun i => i ≤ 62) (fun i => 62 - i) 0 (Nat.zero_le _) (by refine weak_mk rfl ?_ ?_ rfl <;> (repeat' (first | exact weakE_nil | exact weakH_nil | refine weakE_cons rfl (by first | rfl | (first | exact congrArg (fun x : Nat => AV.c (iv x)) hq0 | exact congrArg (fun x : Nat => AV.c (iv x)) hr0) | exact zeq) rfl ?_ | refine weakH_cons rfl (by first | rfl | (first | exact congrArg (fun x : Nat => AV.c (iv x)) hq0 | exact congrArg (fun x : Nat => AV.c (iv x)) hr0) | exact zeq) rfl ?_))) ?_
    intro i hi K hK hX
    by_cases hlt : i < 62
    · have a1 := hqs i
      have a2 := hrs i
      have a3 := hrb i
      have a4 := hqb i hlt
      clear hqs hrs hrb hqb hq0 hr0 hquo hrem
      generalize q i = qi at *
      generalize r i = ri at *
      by_cases hge : x ≤ 2 * ri
      · rw [if_pos hge] at a1 a2
        repeat' (first | ((with_reducible refine aw_seqk ?_); intro K hK hX) | ((with_reducible refine isC_reg ?_); refine aw_prune [0, 1, 4, 5, 6, 7] rfl rfl ?_; with_reducible refine aw_region ?_) | ((with_reducible refine isC_draw ?_); refine aw_prune [0, 1, 4, 5, 6, 7] rfl rfl ?_; refine aw_drwF [] ?_) | refine stA ?_ | refine stD ?_ | (refine hK _ _ _ _ ?_; clear hK hX K) | (refine hX _ _ _ _ _ (by simp) ?_; clear hK hX K))
        exact ⟨i + 1, by omega, by omega, (by refine weak_mk rfl ?_ ?_ rfl <;> (repeat' (first | exact weakE_nil | exact weakH_nil | refine weakE_cons rfl (by first | rfl | (exact int_eq (by omega)) | exact zeq) rfl ?_ | refine weakH_cons rfl (by first | rfl | (exact int_eq (by omega)) | exact zeq) rfl ?_)))⟩
      · rw [if_neg hge] at a1 a2
        repeat' (first | ((with_reducible refine aw_seqk ?_); intro K hK hX) | ((with_reducible refine isC_reg ?_); refine aw_prune [0, 1, 4, 5, 6, 7] rfl rfl ?_; with_reducible refine aw_region ?_) | ((with_reducible refine isC_draw ?_); refine aw_prune [0, 1, 4, 5, 6, 7] rfl rfl ?_; refine aw_drwF [] ?_) | refine stA ?_ | refine stD ?_ | (refine hK _ _ _ _ ?_; clear hK hX K) | (refine hX _ _ _ _ _ (by simp) ?_; clear hK hX K))
        exact ⟨i + 1, by omega, by omega, (by refine weak_mk rfl ?_ ?_ rfl <;> (repeat' (first | exact weakE_nil | exact weakH_nil | refine weakE_cons rfl (by first | rfl | (exact int_eq (by omega)) | exact zeq) rfl ?_ | refine weakH_cons rfl (by first | rfl | (exact int_eq (by omega)) | exact zeq) rfl ?_)))⟩
    · have hin : i = 62 := by omega
      rw [hin]
      clear hqs hrs hrb hqb hq0 hr0 hquo hrem
      repeat' (first | ((with_reducible refine aw_seqk ?_); intro K hK hX) | ((with_reducible refine isC_reg ?_); refine aw_prune [0, 1, 4, 5, 6, 7] rfl rfl ?_; with_reducible refine aw_region ?_) | ((with_reducible refine isC_draw ?_); refine aw_prune [0, 1, 4, 5, 6, 7] rfl rfl ?_; refine aw_drwF [] ?_) | refine stA ?_ | refine stD ?_ | (refine hK _ _ _ _ ?_; clear hK hX K) | (refine hX _ _ _ _ _ (by simp) ?_; clear hK hX K))
      refine retK_mk zio ztr rfl (ResL.one (ResA.tmp rfl)) zou
theorem rbad_t (s : Sk) (X : CV) (v : Vl) (c : Int) (b1 b2 : Bool) (h1 : AC Tryz.prog 23 [.agg s.c, X] (.c (bv b1)) [] 0) (h2 : AC Tryz.prog 133 [.agg v.c] (.c (bv b2)) [] 0) (hb : b1 = false ∨ b2 = false ∨ c < 0 ∨ 262144 < c) : AC Tryz.prog 131 [.agg s.c, X, .agg v.c, iv c] (.c (bv true)) [] 0 := by
  obtain ⟨nm, sr, col, kd, w, d⟩ := s
  obtain ⟨a, m, t⟩ := v
  simp only [Sk.c, Vl.c] at *
  cases b1 with
  | false =>
    refine ac_enter tabOk (sz := 26) Tryz.func131 rfl (by rw [Tryz.ntmps131]; rfl) ?_
    repeat' (first | ((with_reducible refine aw_seqk ?_); intro K hK hX) | ((with_reducible refine isC_reg ?_); refine aw_prune [0, 1, 2, 3, 4, 6, 8] rfl rfl ?_; with_reducible refine aw_region ?_) | ((with_reducible refine isA_call ?_); (first | refine zA ?_ | refine zN ?_); (first | refine c0 (h1) ?_ | refine c0 (h2) ?_)) | refine stA ?_ | (refine hK _ _ _ _ ?_; clear hK hX K) | (refine hX _ _ _ _ _ (by simp) ?_; clear hK hX K))
    refine retK_mk zio ztr rfl (ResL.one (ResA.tmp rfl)) zou
  | true =>
    cases b2 with
    | false =>
      refine ac_enter tabOk (sz := 26) Tryz.func131 rfl (by rw [Tryz.ntmps131]; rfl) ?_
      repeat' (first | ((with_reducible refine aw_seqk ?_); intro K hK hX) | ((with_reducible refine isC_reg ?_); refine aw_prune [0, 1, 2, 3, 4, 6, 8] rfl rfl ?_; with_reducible refine aw_region ?_) | ((with_reducible refine isA_call ?_); (first | refine zA ?_ | refine zN ?_); (first | refine c0 (h1) ?_ | refine c0 (h2) ?_)) | refine stA ?_ | (refine hK _ _ _ _ ?_; clear hK hX K) | (refine hX _ _ _ _ _ (by simp) ?_; clear hK hX K))
      refine retK_mk zio ztr rfl (ResL.one (ResA.tmp rfl)) zou
    | true =>
      by_cases e0 : c < 0
      ·
        refine ac_enter tabOk (sz := 26) Tryz.func131 rfl (by rw [Tryz.ntmps131]; rfl) ?_
        repeat' (first | ((with_reducible refine aw_seqk ?_); intro K hK hX) | ((with_reducible refine isC_reg ?_); refine aw_prune [0, 1, 2, 3, 4, 6, 8] rfl rfl ?_; with_reducible refine aw_region ?_) | ((with_reducible refine isA_call ?_); (first | refine zA ?_ | refine zN ?_); (first | refine c0 (h1) ?_ | refine c0 (h2) ?_)) | refine stA ?_ | (refine hK _ _ _ _ ?_; clear hK hX K) | (refine hX _ _ _ _ _ (by simp) ?_; clear hK hX K))
        refine retK_mk zio ztr rfl (ResL.one (ResA.tmp rfl)) zou
      · have e1 : 262144 < c := by simp at hb; omega
        refine ac_enter tabOk (sz := 26) Tryz.func131 rfl (by rw [Tryz.ntmps131]; rfl) ?_
        repeat' (first | ((with_reducible refine aw_seqk ?_); intro K hK hX) | ((with_reducible refine isC_reg ?_); refine aw_prune [0, 1, 2, 3, 4, 6, 8] rfl rfl ?_; with_reducible refine aw_region ?_) | ((with_reducible refine isA_call ?_); (first | refine zA ?_ | refine zN ?_); (first | refine c0 (h1) ?_ | refine c0 (h2) ?_)) | refine stA ?_ | (refine hK _ _ _ _ ?_; clear hK hX K) | (refine hX _ _ _ _ _ (by simp) ?_; clear hK hX K))
        refine retK_mk zio ztr rfl (ResL.one (ResA.tmp rfl)) zou
theorem rbad_f (s : Sk) (X : CV) (v : Vl) (c : Int) (h1 : AC Tryz.prog 23 [.agg s.c, X] (.c (bv true)) [] 0) (h2 : AC Tryz.prog 133 [.agg v.c] (.c (bv true)) [] 0) (e0 : 0 ≤ c) (e1 : c ≤ 262144) : AC Tryz.prog 131 [.agg s.c, X, .agg v.c, iv c] (.c (bv false)) [] 0 := by
  obtain ⟨nm, sr, col, kd, w, d⟩ := s
  obtain ⟨a, m, t⟩ := v
  simp only [Sk.c, Vl.c] at *
  refine ac_enter tabOk (sz := 26) Tryz.func131 rfl (by rw [Tryz.ntmps131]; rfl) ?_
  repeat' (first | ((with_reducible refine aw_seqk ?_); intro K hK hX) | ((with_reducible refine isC_reg ?_); refine aw_prune [0, 1, 2, 3, 4, 6, 8] rfl rfl ?_; with_reducible refine aw_region ?_) | ((with_reducible refine isA_call ?_); (first | refine zA ?_ | refine zN ?_); (first | refine c0 (h1) ?_ | refine c0 (h2) ?_)) | refine stA ?_ | (refine hK _ _ _ _ ?_; clear hK hX K) | (refine hX _ _ _ _ _ (by simp) ?_; clear hK hX K))
  refine retK_mk zio ztr rfl (ResL.one (ResA.tmp rfl)) zou
theorem radd_bad (s : Sk) (X : CV) (v : Vl) (c : Int) (h1 : AC Tryz.prog 131 [.agg s.c, X, .agg v.c, iv c] (.c (bv true)) [] 0) : AC Tryz.prog 70 [.agg s.c, X, .agg v.c, iv c] (.tup [.c (.sl 1 0 (intc .i64 [])), .c (iv 1)]) [] 0 := by
  obtain ⟨nm, sr, col, kd, w, d⟩ := s
  obtain ⟨a, m, t⟩ := v
  simp only [Sk.c, Vl.c] at *
  refine ac_enter tabOk (sz := 36) Tryz.func70 rfl (by rw [Tryz.ntmps70]; rfl) ?_
  repeat' (first | ((with_reducible refine aw_seqk ?_); intro K hK hX) | ((with_reducible refine isC_reg ?_); refine aw_prune [0, 1, 2, 3, 4, 6, 8, 9, 10] rfl rfl ?_; with_reducible refine aw_region ?_) | ((with_reducible refine isA_call ?_); (first | refine zA ?_ | refine zN ?_); (first | refine c0 (h1) ?_)) | refine stA ?_ | (refine hK _ _ _ _ ?_; clear hK hX K) | (refine hX _ _ _ _ _ (by simp) ?_; clear hK hX K))
  refine retK_mk zio ztr rfl (ResL.two (ResA.tmp rfl) (ResA.tmp rfl)) (out_t (frzl_cons zfz (frzl_cons zfz frzl_nil)))
theorem radd_zero (s : Sk) (l : List Int) (n : Nat) (v : Vl) (c : Int) (hn : l.length = n) (hnn : n ≤ 100000) (h1 : AC Tryz.prog 131 [.agg s.c, .sl 1 n (intc .i64 l), .agg v.c, iv c] (.c (bv false)) [] 0) (hz : v.k = 0 ∨ c = 0) : AC Tryz.prog 70 [.agg s.c, .sl 1 n (intc .i64 l), .agg v.c, iv c] (.tup [.c (.sl 1 n (intc .i64 l)), .c (iv 0)]) [] 0 := by
  have hil : (intc .i64 l).length = n := by rw [intc_length, hn]
  obtain ⟨nm, sr, col, kd, w, d⟩ := s
  obtain ⟨a, m, t⟩ := v
  simp only [Sk.c, Vl.c] at *
  by_cases hc : c = 0
  · subst hc
    clear hz
    refine ac_enter tabOk (sz := 36) Tryz.func70 rfl (by rw [Tryz.ntmps70]; rfl) ?_
    repeat' (first | ((with_reducible refine aw_seqk ?_); intro K hK hX) | ((with_reducible refine isC_reg ?_); refine aw_prune [0, 1, 2, 3, 4, 6, 8, 9, 10] rfl rfl ?_; with_reducible refine aw_region ?_) | ((with_reducible refine isA_call ?_); (first | refine zA ?_ | refine zN ?_); (first | refine c0 (h1) ?_)) | refine stA ?_ | (refine hK _ _ _ _ ?_; clear hK hX K) | (refine hX _ _ _ _ _ (by simp) ?_; clear hK hX K))
    rw [Nat.zero_add n, List.nil_append]
    refine retK_mk zio ztr rfl (ResL.two (ResA.tmp rfl) (ResA.tmp rfl)) (out_t (frzl_cons zfz (frzl_cons zfz frzl_nil)))
  · have ha : a = 0 := hz.resolve_right hc
    subst ha
    clear hz
    refine ac_enter tabOk (sz := 36) Tryz.func70 rfl (by rw [Tryz.ntmps70]; rfl) ?_
    repeat' (first | ((with_reducible refine aw_seqk ?_); intro K hK hX) | ((with_reducible refine isC_reg ?_); refine aw_prune [0, 1, 2, 3, 4, 6, 8, 9, 10] rfl rfl ?_; with_reducible refine aw_region ?_) | ((with_reducible refine isA_call ?_); (first | refine zA ?_ | refine zN ?_); (first | refine c0 (h1) ?_)) | refine stA ?_ | (refine hK _ _ _ _ ?_; clear hK hX K) | (refine hX _ _ _ _ _ (by simp) ?_; clear hK hX K))
    rw [Nat.zero_add n, List.nil_append]
    refine retK_mk zio ztr rfl (ResL.two (ResA.tmp rfl) (ResA.tmp rfl)) (out_t (frzl_cons zfz (frzl_cons zfz frzl_nil)))
theorem radd_res (s : Sk) (X : CV) (v : Vl) (c : Int) (M : List Int) (Q : Nat) (t : Bool) (h1 : AC Tryz.prog 131 [.agg s.c, X, .agg v.c, iv c] (.c (bv false)) [] 0) (h2 : AC Tryz.prog 56 [.agg s.c, X, .agg v.c, iv c] (.c (.sl 1 Q (intc .i64 M))) [] 0) (h3 : AC Tryz.prog 23 [.agg s.c, .sl 1 Q (intc .i64 M)] (.c (bv t)) [] 0) (hz : v.k ≠ 0) (hc : c ≠ 0) : AC Tryz.prog 70 [.agg s.c, X, .agg v.c, iv c] (if t = true then .tup [.c (.sl 1 Q (intc .i64 M)), .c (iv 0)] else .tup [.c (.sl 1 0 (intc .i64 [])), .c (iv 9)]) [] 0 := by
  obtain ⟨nm, sr, col, kd, w, d⟩ := s
  obtain ⟨a, m, t'⟩ := v
  simp only [Sk.c, Vl.c] at *
  cases t with
  | true =>
    rw [if_pos rfl]
    refine ac_enter tabOk (sz := 36) Tryz.func70 rfl (by rw [Tryz.ntmps70]; rfl) ?_
    repeat' (first | ((with_reducible refine aw_seqk ?_); intro K hK hX) | ((with_reducible refine isC_reg ?_); refine aw_prune [0, 1, 2, 3, 4, 6, 8, 9, 10] rfl rfl ?_; with_reducible refine aw_region ?_) | ((with_reducible refine isA_call ?_); (first | refine zA ?_ | refine zN ?_); (first | refine c0 (h1) ?_ | refine c0 (h2) ?_ | refine c0 (h3) ?_)) | refine stA ?_ | (refine hK _ _ _ _ ?_; clear hK hX K) | (refine hX _ _ _ _ _ (by simp) ?_; clear hK hX K))
    refine retK_mk zio ztr rfl (ResL.two (ResA.tmp rfl) (ResA.tmp rfl)) (out_t (frzl_cons zfz (frzl_cons zfz frzl_nil)))
  | false =>
    rw [if_neg (by decide)]
    refine ac_enter tabOk (sz := 36) Tryz.func70 rfl (by rw [Tryz.ntmps70]; rfl) ?_
    repeat' (first | ((with_reducible refine aw_seqk ?_); intro K hK hX) | ((with_reducible refine isC_reg ?_); refine aw_prune [0, 1, 2, 3, 4, 6, 8, 9, 10] rfl rfl ?_; with_reducible refine aw_region ?_) | ((with_reducible refine isA_call ?_); (first | refine zA ?_ | refine zN ?_); (first | refine c0 (h1) ?_ | refine c0 (h2) ?_ | refine c0 (h3) ?_)) | refine stA ?_ | (refine hK _ _ _ _ ?_; clear hK hX K) | (refine hX _ _ _ _ _ (by simp) ?_; clear hK hX K))
    refine retK_mk zio ztr rfl (ResL.two (ResA.tmp rfl) (ResA.tmp rfl)) (out_t (frzl_cons zfz (frzl_cons zfz frzl_nil)))
theorem rest_bad (s : Sk) (X : CV) (v : Vl) (h1 : AC Tryz.prog 23 [.agg s.c, X] (.c (bv false)) [] 0) : AC Tryz.prog 72 [.agg s.c, X, .agg v.c] (.c (iv 0)) [] 0 := by
  obtain ⟨nm, sr, col, kd, w, d⟩ := s
  obtain ⟨a, m, t⟩ := v
  simp only [Sk.c, Vl.c] at *
  refine ac_enter tabOk (sz := 76) Tryz.func72 rfl (by rw [Tryz.ntmps72]; rfl) ?_
  repeat' (first | ((with_reducible refine aw_seqk ?_); intro K hK hX) | ((with_reducible refine isC_reg ?_); refine aw_prune [0, 1, 2, 3, 5, 6, 7, 8, 9] rfl rfl ?_; with_reducible refine aw_region ?_) | ((with_reducible refine isC_draw ?_); refine aw_prune [0, 1, 2, 3, 5, 6, 7, 8, 9] rfl rfl ?_; refine aw_drwF [] ?_) | ((first | with_reducible refine isA_call ?_ | with_reducible refine isD_call ?_); (first | refine zA ?_ | refine zN ?_ | refine zD ?_); (first | refine c0 (h1) ?_)) | refine stA ?_ | refine stD ?_ | (refine hK _ _ _ _ ?_; clear hK hX K) | (refine hX _ _ _ _ _ (by simp) ?_; clear hK hX K))
  refine retK_mk zio ztr rfl (ResL.one (ResA.tmp rfl)) zou
theorem rest_zero (s : Sk) (X : CV) (v : Vl) (b : Bool) (h1 : AC Tryz.prog 23 [.agg s.c, X] (.c (bv true)) [] 0) (h2 : AC Tryz.prog 133 [.agg v.c] (.c (bv b)) [] 0) (hk : s.kd ≠ 2) (hz : v.k = 0 ∨ b = false) : AC Tryz.prog 72 [.agg s.c, X, .agg v.c] (.c (iv 0)) [] 0 := by
  obtain ⟨nm, sr, col, kd, w, d⟩ := s
  obtain ⟨a, m, t⟩ := v
  simp only [Sk.c, Vl.c] at *
  cases b with
  | false =>
    clear hz
    refine ac_enter tabOk (sz := 76) Tryz.func72 rfl (by rw [Tryz.ntmps72]; rfl) ?_
    repeat' (first | ((with_reducible refine aw_seqk ?_); intro K hK hX) | ((with_reducible refine isC_reg ?_); refine aw_prune [0, 1, 2, 3, 5, 6, 7, 8, 9] rfl rfl ?_; with_reducible refine aw_region ?_) | ((with_reducible refine isC_draw ?_); refine aw_prune [0, 1, 2, 3, 5, 6, 7, 8, 9] rfl rfl ?_; refine aw_drwF [] ?_) | ((first | with_reducible refine isA_call ?_ | with_reducible refine isD_call ?_); (first | refine zA ?_ | refine zN ?_ | refine zD ?_); (first | refine c0 (h1) ?_ | refine c0 (h2) ?_)) | refine stA ?_ | refine stD ?_ | (refine hK _ _ _ _ ?_; clear hK hX K) | (refine hX _ _ _ _ _ (by simp) ?_; clear hK hX K))
    refine retK_mk zio ztr rfl (ResL.one (ResA.tmp rfl)) zou
  | true =>
    have h0 : a = 0 := hz.resolve_right (by decide)
    subst h0
    clear hz
    refine ac_enter tabOk (sz := 76) Tryz.func72 rfl (by rw [Tryz.ntmps72]; rfl) ?_
    repeat' (first | ((with_reducible refine aw_seqk ?_); intro K hK hX) | ((with_reducible refine isC_reg ?_); refine aw_prune [0, 1, 2, 3, 5, 6, 7, 8, 9] rfl rfl ?_; with_reducible refine aw_region ?_) | ((with_reducible refine isC_draw ?_); refine aw_prune [0, 1, 2, 3, 5, 6, 7, 8, 9] rfl rfl ?_; refine aw_drwF [] ?_) | ((first | with_reducible refine isA_call ?_ | with_reducible refine isD_call ?_); (first | refine zA ?_ | refine zN ?_ | refine zD ?_); (first | refine c0 (h1) ?_ | refine c0 (h2) ?_)) | refine stA ?_ | refine stD ?_ | (refine hK _ _ _ _ ?_; clear hK hX K) | (refine hX _ _ _ _ _ (by simp) ?_; clear hK hX K))
    refine retK_mk zio ztr rfl (ResL.one (ResA.tmp rfl)) zou
set_option maxHeartbeats 8000000 in
theorem rest2_ok (nm sr : List UInt8) (col d : Int) (w : Nat) (v : Vl) (l : List Int) (n : Nat) (hn : l.length = n) (hf : formP ⟨nm, sr, col, 2, w, d⟩) (hh : hashP w l) : AC Tryz.prog 72 [.agg [sv nm, sv sr, iv col, iv 2, iv w, iv d], .sl 1 n (intc .i64 l), .agg v.c] (.c (iv (diffN w l))) [] 0 := by
  have hil : (intc .i64 l).length = n := by rw [ic_len, hn]
  obtain ⟨w1, w2, _⟩ := id hf
  simp only at w1 w2
  have hnw : n ≤ w := by rw [← hn]; exact hh.1
  have h1 := rvalb_ok nm sr col d w l n hn (by simp only [maxLen]; omega) (by omega)
  have : ∀ i : Decidable (formP ⟨nm, sr, col, 2, w, d⟩ ∧ hashP w l), @decide _ i = true := fun i => @decide_eq_true _ i ⟨hf, hh⟩
  rw [this] at h1
  have hb := hh.2.2
  clear this hf hh
  obtain ⟨a, m, t⟩ := v
  simp only [Vl.c]
  unfold diffN
  rw [hn]
  by_cases hlt : n < w
  · rw [if_pos hlt]
    refine ac_enter tabOk (sz := 76) Tryz.func72 rfl (by rw [Tryz.ntmps72]; rfl) ?_
    repeat' (first | ((with_reducible refine aw_seqk ?_); intro K hK hX) | ((with_reducible refine isC_reg ?_); refine aw_prune [0, 1, 2, 3, 5, 6, 7, 8, 9] rfl rfl ?_; with_reducible refine aw_region ?_) | ((with_reducible refine isC_draw ?_); refine aw_prune [0, 1, 2, 3, 5, 6, 7, 8, 9] rfl rfl ?_; refine aw_drwF [] ?_) | ((first | with_reducible refine isA_call ?_ | with_reducible refine isD_call ?_); (first | refine zA ?_ | refine zN ?_ | refine zD ?_); (first | refine c0 (h1) ?_)) | refine stA ?_ | refine stD ?_ | (refine hK _ _ _ _ ?_; clear hK hX K) | (refine hX _ _ _ _ _ (by simp) ?_; clear hK hX K))
    refine retK_mk zio ztr rfl (ResL.one (ResA.tmp rfl)) zou
  · rw [if_neg hlt]
    have hnw2 : n = w := by omega
    have hy := gD_at (l := l) (i := n - 1) (by omega)
    obtain ⟨y1, y2⟩ := hb _ (List.mem_of_getElem? hy)
    have hya := ic_at hy
    obtain ⟨k, hk⟩ : ∃ k, n - 1 = k := ⟨_, rfl⟩
    have hsub : IntKind.i64.wrap ((n : Int) - 1) = (k : Int) := by rw [w64 (by omega) (by omega)]; omega
    have hsub2 : IntKind.i64.wrap ((w : Int) - 1) = (k : Int) := by rw [w64 (by omega) (by omega)]; omega
    rw [hk] at hya y1 y2 ⊢
    generalize l.getD k 0 = y at hya y1 y2 ⊢
    obtain ⟨g, rfl⟩ : ∃ g : Nat, y = g := ⟨y.toNat, by omega⟩
    rw [Int.toNat_natCast]
    have hkn : k < n := by omega
    by_cases g0 : g = 0
    · rw [if_pos g0]
      subst g0
      clear hy hb
      refine ac_enter tabOk (sz := 76) Tryz.func72 rfl (by rw [Tryz.ntmps72]; rfl) ?_
      repeat' (first | ((with_reducible refine aw_seqk ?_); intro K hK hX) | ((with_reducible refine isC_reg ?_); refine aw_prune [0, 1, 2, 3, 5, 6, 7, 8, 9] rfl rfl ?_; with_reducible refine aw_region ?_) | ((with_reducible refine isC_draw ?_); refine aw_prune [0, 1, 2, 3, 5, 6, 7, 8, 9] rfl rfl ?_; refine aw_drwF [] ?_) | ((first | with_reducible refine isA_call ?_ | with_reducible refine isD_call ?_); (first | refine zA ?_ | refine zN ?_ | refine zD ?_); (first | refine c0 (h1) ?_)) | ((first | ((with_reducible refine isA_any ?_); refine xA ?_) | ((with_reducible refine isDk_any ?_); refine xD ?_)); (first | ((with_reducible refine e_bin ?_); (first | refine ex_i (s_arit64 rfl rfl rfl hsub) ?_)) | ((with_reducible refine e_load ?_); (first | refine ex_i (s_load1 tabOk rfl rfl rfl rfl (by (rw [Nat.mul_one]; exact hya))) ?_ | refine ex_i (s_load1r tabOk rfl rfl rfl rfl (by (rw [Nat.mul_one]; exact hya))) ?_ | refine ex_i (s_load1i tabOk rfl rfl rfl (by (rw [Nat.mul_one]; exact hya))) ?_)) | ((with_reducible refine e_ix ?_); (first | refine ex_i (s_ixV1 tabOk rfl rfl zcj rfl rfl rfl rfl rfl zle (by (rw [Nat.mul_one]; exact hya))) ?_ | refine ex_i (s_ixStr tabOk rfl rfl zcj rfl rfl (by (rw [Nat.mul_one]; exact hya))) ?_)))) | refine stA ?_ | refine stD ?_ | (refine hK _ _ _ _ ?_; clear hK hX K) | (refine hX _ _ _ _ _ (by simp) ?_; clear hK hX K))
      refine retK_mk zio ztr rfl (ResL.one (ResA.tmp rfl)) zou
    · rw [if_neg g0]
      have h2 := rratio_ok k g (by omega) (by omega) (by omega)
      unfold ratN
      rw [show w - 1 = k by omega]
      generalize min (k * 4611686018427387904 / g) 4611686018427387904 = z at h2 ⊢
      clear hy hb
      refine ac_enter tabOk (sz := 76) Tryz.func72 rfl (by rw [Tryz.ntmps72]; rfl) ?_
      repeat' (first | ((with_reducible refine aw_seqk ?_); intro K hK hX) | ((with_reducible refine isC_reg ?_); refine aw_prune [0, 1, 2, 3, 5, 6, 7, 8, 9] rfl rfl ?_; with_reducible refine aw_region ?_) | ((with_reducible refine isC_draw ?_); refine aw_prune [0, 1, 2, 3, 5, 6, 7, 8, 9] rfl rfl ?_; refine aw_drwF [] ?_) | ((first | with_reducible refine isA_call ?_ | with_reducible refine isD_call ?_); (first | refine zA ?_ | refine zN ?_ | refine zD ?_); (first | refine c0 (h1) ?_ | refine c0 (h2) ?_)) | ((first | ((with_reducible refine isA_any ?_); refine xA ?_) | ((with_reducible refine isDk_any ?_); refine xD ?_)); (first | ((with_reducible refine e_bin ?_); (first | refine ex_i (s_arit64 rfl rfl rfl hsub) ?_ | refine ex_i (s_arit64 rfl rfl rfl hsub2) ?_)) | ((with_reducible refine e_load ?_); (first | refine ex_i (s_load1 tabOk rfl rfl rfl rfl (by (rw [Nat.mul_one]; exact hya))) ?_ | refine ex_i (s_load1r tabOk rfl rfl rfl rfl (by (rw [Nat.mul_one]; exact hya))) ?_ | refine ex_i (s_load1i tabOk rfl rfl rfl (by (rw [Nat.mul_one]; exact hya))) ?_)) | ((with_reducible refine e_ix ?_); (first | refine ex_i (s_ixV1 tabOk rfl rfl zcj rfl rfl rfl rfl rfl zle (by (rw [Nat.mul_one]; exact hya))) ?_ | refine ex_i (s_ixStr tabOk rfl rfl zcj rfl rfl (by (rw [Nat.mul_one]; exact hya))) ?_)))) | refine stA ?_ | refine stD ?_ | (refine hK _ _ _ _ ?_; clear hK hX K) | (refine hX _ _ _ _ _ (by simp) ?_; clear hK hX K))
      refine retK_mk zio ztr rfl (ResL.one (ResA.tmp rfl)) zou
set_option maxHeartbeats 8000000 in
theorem rest_ok (nm sr : List UInt8) (col kd : Int) (w d : Nat) (v : Vl) (l : List Int) (n : Nat) (hn : l.length = n) (hk : kd ≠ 2) (hv : valC ⟨nm, sr, col, kd, w, d⟩ l) (ho : okP v) (hz : v.k ≠ 0) : AC Tryz.prog 72 [.agg [sv nm, sv sr, iv col, iv kd, iv w, iv d], .sl 1 n (intc .i64 l), .agg v.c] (.c (iv (leastN l w v d))) [] 0 := by
  have hil : (intc .i64 l).length = n := by rw [ic_len, hn]
  obtain ⟨⟨f1, f2, f3, f4, f5, f6⟩, f7, f8, f9⟩ := id hv
  simp only at f1 f2 f3 f4 f5 f6 f7 f8
  have hwd : n = w * d := by
    have : (w : Int) * (d : Int) = ((w * d : Nat) : Int) := by simp
    omega
  have hn1 : n ≤ 1024 := by
    have : (w : Int) * (d : Int) = ((w * d : Nat) : Int) := by simp
    omega
  have h1 := rvalc_ok ⟨nm, sr, col, kd, w, d⟩ l n hn hk (by simp only [maxLen]; omega)
  have : ∀ i : Decidable (valC ⟨nm, sr, col, kd, w, d⟩ l), @decide _ i = true := fun i => @decide_eq_true _ i hv
  rw [this] at h1
  have h2 := rvalid_ok v
  rw [okV_t ho] at h2
  have h3 := rplaces_ok nm sr col kd w d v (by omega) (by omega) (by omega)
  have hpat := fun i (hi : i < d) => ic_at (plcL_at w v hi)
  have hpln : (intc .i64 (plcL w v d)).length = d := by rw [ic_len, plcL_length]
  have hlt2 : ∀ j, j < d → placeV w v j < n := fun j h => by rw [hwd]; exact placeV_lt v (by omega) h
  have hcat : ∀ j, j < d → (intc .i64 l)[placeV w v j]? = some (iv (l.getD (placeV w v j) 0)) := fun j h => ic_at (gD_at (by have := hlt2 j h; omega))
  obtain ⟨L, hL⟩ : ∃ L : Nat → Int, ∀ i, L i = leastN l w v i := ⟨_, fun _ => rfl⟩
  have hL0 : l.getD (placeV w v 0) 0 = L 0 := by rw [hL]; rfl
  have hLs : ∀ i, L (i + 1) = if l.getD (placeV w v i) 0 < L i then l.getD (placeV w v i) 0 else L i := fun i => by rw [hL, hL]; rfl
  have hp0 := hpat 0 (by omega)
  have hc0 := hcat 0 (by omega)
  have hl0 := hlt2 0 (by omega)
  rw [hL0] at hc0
  rw [← hL]
  clear hL hL0 f9 this hv
  generalize plcL w v d = pc at *
  generalize placeV w v = pv at *
  obtain ⟨a, m, t⟩ := v
  simp only [Vl.c, Sk.c] at *
  have hz' : a ≠ 0 := hz
  clear hz ho
  refine ac_enter tabOk (sz := 76) Tryz.func72 rfl (by rw [Tryz.ntmps72]; rfl) ?_
  repeat' (first | ((with_reducible refine aw_seqk ?_); intro K hK hX) | ((with_reducible refine isC_reg ?_); refine aw_prune [0, 1, 2, 3, 5, 6, 7, 8, 9] rfl rfl ?_; with_reducible refine aw_region ?_) | ((with_reducible refine isC_draw ?_); refine aw_prune [0, 1, 2, 3, 5, 6, 7, 8, 9] rfl rfl ?_; refine aw_drwF [] ?_) | ((first | with_reducible refine isA_call ?_ | with_reducible refine isD_call ?_); (first | refine zA ?_ | refine zN ?_ | refine zD ?_); (first | refine c0 (h1) ?_ | refine c0 (h2) ?_ | refine c0 (h3) ?_)) | ((first | ((with_reducible refine isA_any ?_); refine xA ?_) | ((with_reducible refine isDk_any ?_); refine xD ?_)); (first | ((with_reducible refine e_load ?_); (first | refine ex_i (s_load1 tabOk rfl rfl rfl rfl (by first | exact hp0 | (rw [Nat.mul_one]; exact hc0))) ?_ | refine ex_i (s_load1r tabOk rfl rfl rfl rfl (by first | exact hp0 | (rw [Nat.mul_one]; exact hc0))) ?_ | refine ex_i (s_load1i tabOk rfl rfl rfl (by first | exact hp0 | (rw [Nat.mul_one]; exact hc0))) ?_)) | ((with_reducible refine e_ix ?_); (first | refine ex_i (s_ixV1 tabOk rfl rfl zcj rfl rfl rfl rfl rfl zle (by first | exact hp0 | (rw [Nat.mul_one]; exact hc0))) ?_ | refine ex_i (s_ixStr tabOk rfl rfl zcj rfl rfl (by first | exact hp0 | (rw [Nat.mul_one]; exact hc0))) ?_)))) | refine stA ?_ | refine stD ?_ | (refine hK _ _ _ _ ?_; clear hK hX K) | (refine hX _ _ _ _ _ (by simp) ?_; clear hK hX K))
  refine aw_loopo [8, 9] [] rfl rfl (fun i : Nat => [(8, .c (iv (L i))), (9, .c (iv i))]) (fun i => []) (fun i => i ≤ d) (fun i => d - i) 0 (Nat.zero_le _) weakA ?_
  intro i hi K hK hX
  by_cases hlt : i < d
  · have hp := hpat i hlt
    have hc := hcat i hlt
    have hl := hlt2 i hlt
    have hs := hLs i
    clear hpat hcat hlt2 hLs hp0 hc0 hl0 h1 h2 h3
    generalize pv i = p at *
    generalize l.getD p 0 = y at *
    repeat' (first | ((with_reducible refine aw_seqk ?_); intro K hK hX) | ((with_reducible refine isC_reg ?_); refine aw_prune [0, 1, 2, 3, 5, 6, 7, 8, 9] rfl rfl ?_; with_reducible refine aw_region ?_) | ((with_reducible refine isC_draw ?_); refine aw_prune [0, 1, 2, 3, 5, 6, 7, 8, 9] rfl rfl ?_; refine aw_drwF [] ?_) | ((first | ((with_reducible refine isA_any ?_); refine xA ?_) | ((with_reducible refine isDk_any ?_); refine xD ?_)); (first | ((with_reducible refine e_bi ?_); (first | refine ex_i (s_min rfl rfl hs.symm) ?_)) | ((with_reducible refine e_load ?_); (first | refine ex_i (s_load1 tabOk rfl rfl rfl rfl (by first | (rw [Nat.mul_one]; exact hp) | (rw [Nat.mul_one]; exact hc))) ?_ | refine ex_i (s_load1r tabOk rfl rfl rfl rfl (by first | (rw [Nat.mul_one]; exact hp) | (rw [Nat.mul_one]; exact hc))) ?_ | refine ex_i (s_load1i tabOk rfl rfl rfl (by first | (rw [Nat.mul_one]; exact hp) | (rw [Nat.mul_one]; exact hc))) ?_)) | ((with_reducible refine e_ix ?_); (first | refine ex_i (s_ixV1 tabOk rfl rfl zcj rfl rfl rfl rfl rfl zle (by first | (rw [Nat.mul_one]; exact hp) | (rw [Nat.mul_one]; exact hc))) ?_ | refine ex_i (s_ixStr tabOk rfl rfl zcj rfl rfl (by first | (rw [Nat.mul_one]; exact hp) | (rw [Nat.mul_one]; exact hc))) ?_)))) | refine stA ?_ | refine stD ?_ | (refine hK _ _ _ _ ?_; clear hK hX K) | (refine hX _ _ _ _ _ (by simp) ?_; clear hK hX K))
    exact ⟨i + 1, by omega, by omega, weakA⟩
  · have hin : i = d := by omega
    rw [hin]
    clear hpat hcat hlt2 hLs hp0 hc0 hl0 h1 h2 h3
    repeat' (first | ((with_reducible refine aw_seqk ?_); intro K hK hX) | ((with_reducible refine isC_reg ?_); refine aw_prune [0, 1, 2, 3, 5, 6, 7, 8, 9] rfl rfl ?_; with_reducible refine aw_region ?_) | ((with_reducible refine isC_draw ?_); refine aw_prune [0, 1, 2, 3, 5, 6, 7, 8, 9] rfl rfl ?_; refine aw_drwF [] ?_) | refine stA ?_ | refine stD ?_ | (refine hK _ _ _ _ ?_; clear hK hX K) | (refine hX _ _ _ _ _ (by simp) ?_; clear hK hX K))
    refine retK_mk zio ztr rfl (ResL.one (ResA.tmp rfl)) zou
end Go.Proofs.YtccnhpaldmjkbaaGreat
