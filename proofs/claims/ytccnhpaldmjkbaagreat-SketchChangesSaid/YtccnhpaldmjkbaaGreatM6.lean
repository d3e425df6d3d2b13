/-
  Joined texts: U5 AvSk AvQ3 Z4 Z5 Zp Z6. Lemmas; no statement of a law.
-/
import Derived.Test.YtccnhpaldmjkbaaGreatM5
set_option linter.unusedSimpArgs false
set_option linter.unusedVariables false
/-
  Bottom-k sketches (walk): the smallest numbers, valid cells, sketches of bags.
-/
namespace Go.Proofs.YtccnhpaldmjkbaaGreat
open Go Go.RowKit Go.Av
set_option maxRecDepth 100000
def prevI (l : List Int) (i : Nat) : Int := if i = 0 then -1 else l.getD (i - 1) 0
theorem prevI_succ (l : List Int) (i : Nat) : prevI l (i + 1) = l.getD i 0 := rfl
theorem hashP_iff {w : Nat} {l : List Int} : hashP w l ↔ l.length ≤ w ∧ ∀ i, i < l.length → ∀ x, l[i]? = some x → prevI l i < x ∧ x < 4611686018427387904 := by
  constructor
  · rintro ⟨h1, h2, h3⟩
    refine ⟨h1, fun i hi x hx => ⟨?_, (h3 x (List.mem_of_getElem? hx)).2⟩⟩
    unfold prevI
    by_cases h : i = 0
    · rw [if_pos h]
      have := (h3 x (List.mem_of_getElem? hx)).1
      omega
    · rw [if_neg h]
      have e1 := gD_at (l := l) (i := i - 1) (by omega)
      obtain ⟨h4, h5⟩ := List.getElem?_eq_some_iff.1 e1
      obtain ⟨h6, h7⟩ := List.getElem?_eq_some_iff.1 hx
      have := List.pairwise_iff_getElem.1 h2 (i - 1) i h4 h6 (by omega)
      omega
  · rintro ⟨h1, h2⟩
    have key : ∀ j, j < l.length → ∀ i, i < j → l.getD i 0 < l.getD j 0 := by
      intro j
      induction j with
      | zero => intro _ i hi; omega
      | succ j ih =>
        intro hj i hi
        have h3 := (h2 (j + 1) hj _ (gD_at hj)).1
        rw [prevI_succ] at h3
        by_cases h : i = j
        · rw [h]; exact h3
        · have := ih (by omega) i (by omega)
          omega
    refine ⟨h1, List.pairwise_iff_getElem.2 fun i j hi hj hij => ?_, fun x hx => ?_⟩
    · have := key j hj i hij
      have e1 := gD_at (l := l) (i := i) hi
      have e2 := gD_at (l := l) (i := j) hj
      rw [List.getElem?_eq_getElem hi] at e1
      rw [List.getElem?_eq_getElem hj] at e2
      injection e1 with e1
      injection e2 with e2
      omega
    · obtain ⟨i, hi⟩ := List.mem_iff_getElem?.1 hx
      obtain ⟨h6, h7⟩ := List.getElem?_eq_some_iff.1 hi
      refine ⟨?_, (h2 i h6 x hi).2⟩
      have h0 := (h2 0 (by omega) _ (gD_at (by omega))).1
      have : prevI l 0 = -1 := rfl
      rw [this] at h0
      have e1 := gD_at (l := l) (i := i) h6
      rw [hi] at e1
      injection e1 with e1
      by_cases h : i = 0
      · subst h; omega
      · have := key i h6 0 (by omega)
        omega
theorem qu64 {a b : Nat} (h : a < 18446744073709551616) (hb : 0 < b) : IntKind.u64.wrap ((a : Int).tdiv (b : Int)) = ((a / b : Nat) : Int) := by
  have : (a : Int).tdiv (b : Int) = ((a / b : Nat) : Int) := by simp
  rw [this]
  have h2 := Nat.div_le_self a b
  generalize a / b = c at h2 ⊢
  exact wu64 (by omega) (by omega)
attribute [local irreducible] Still Adds AWL AW Drw DrwE EStep AC AWR Weak Frz Src RetK Out InK ItK AsK RdK RetT OutT ACT ACS RetS ACP RetP
open Classical in
set_option maxHeartbeats 4000000 in
theorem vhash_ok (nm sr : List UInt8) (col kd d : Int) (w : Nat) (l : List Int) (n : Nat) (hn : l.length = n) (hm : n ≤ maxLen) (hw : (w : Int) ≤ 9223372036854775807) : AC Tryz.prog 59 [.agg [sv nm, sv sr, iv col, iv kd, iv w, iv d], .sl 1 n (intc .i64 l)] (.c (bv (decide (hashP w l)))) [] 0 := by
  have hml : n ≤ 9223372036854775807 := hm
  clear hm
  have hil : (intc .i64 l).length = n := by rw [ic_len, hn]
  by_cases f1 : n ≤ w
  · by_cases hall : ∀ i, i < n → ∀ x, l[i]? = some x → prevI l i < x ∧ x < 4611686018427387904
    · rw [decide_eq_true (hashP_iff.2 ⟨by omega, by rw [hn]; exact hall⟩)]
      refine ac_enter tabOk (sz := 28) Tryz.func59 rfl (by rw [Tryz.ntmps59]; rfl) ?_
      repeat' (first | ((with_reducible refine aw_seqk ?_); intro K hK hX) | ((with_reducible refine isC_reg ?_); refine aw_prune [0, 1, 2, 4, 5, 7, 13, 14, 15] rfl rfl ?_; with_reducible refine aw_region ?_) | refine stA ?_ | (refine hK _ _ _ _ ?_; clear hK hX K) | (refine hX _ _ _ _ _ (by simp) ?_; clear hK hX K))
      refine aw_loopo [5, 7, 15] [] rfl rfl (fun i : Nat => [(5, .c (iv (prevI l i))), (15, .c (iv i))]) (fun i => []) (fun i => i ≤ n) (fun i => n - i) 0 (by omega) weakA ?_
      intro i hi K hK hX
      by_cases hlt : i < n
      · obtain ⟨x, hx⟩ : ∃ x, l[i]? = some x := ⟨l[i]'(by omega), List.getElem?_eq_getElem _⟩
        obtain ⟨x1, x2⟩ := hall i hlt x hx
        have hxa := ic_at hx
        have hp : prevI l (i + 1) = x := by rw [prevI_succ, List.getD_eq_getElem?_getD, hx]; rfl
        generalize prevI l i = p at x1 ⊢
        clear hall
        repeat' (first | ((with_reducible refine aw_seqk ?_); intro K hK hX) | ((with_reducible refine isC_reg ?_); refine aw_prune [0, 1, 2, 4, 5, 7, 13, 14, 15] rfl rfl ?_; with_reducible refine aw_region ?_) | (((with_reducible refine isA_any ?_); refine xA ?_); (first | ((with_reducible refine e_load ?_); (first | refine ex_i (s_load1 tabOk rfl rfl rfl rfl (by (rw [Nat.mul_one]; exact hxa))) ?_ | refine ex_i (s_load1r tabOk rfl rfl rfl rfl (by (rw [Nat.mul_one]; exact hxa))) ?_ | refine ex_i (s_load1i tabOk rfl rfl rfl (by (rw [Nat.mul_one]; exact hxa))) ?_)) | ((with_reducible refine e_ix ?_); (first | refine ex_i (s_ixV1 tabOk rfl rfl zcj rfl rfl rfl rfl rfl zle (by (rw [Nat.mul_one]; exact hxa))) ?_ | refine ex_i (s_ixStr tabOk rfl rfl zcj rfl rfl (by (rw [Nat.mul_one]; exact hxa))) ?_)))) | refine stA ?_ | (refine hK _ _ _ _ ?_; clear hK hX K) | (refine hX _ _ _ _ _ (by simp) ?_; clear hK hX K))
        exact ⟨i + 1, by omega, by omega, (by refine weak_mk rfl ?_ ?_ rfl <;> (repeat' (first | exact weakE_nil | exact weakH_nil | refine weakE_cons rfl (by first | rfl | (rw [hp]) | exact zeq) rfl ?_ | refine weakH_cons rfl (by first | rfl | (rw [hp]) | exact zeq) rfl ?_)))⟩
      · clear hall
        repeat' (first | ((with_reducible refine aw_seqk ?_); intro K hK hX) | ((with_reducible refine isC_reg ?_); refine aw_prune [0, 1, 2, 4, 5, 7, 13, 14, 15] rfl rfl ?_; with_reducible refine aw_region ?_) | refine stA ?_ | (refine hK _ _ _ _ ?_; clear hK hX K) | (refine hX _ _ _ _ _ (by simp) ?_; clear hK hX K))
        refine retK_mk zio ztr rfl (ResL.one (ResA.tmp rfl)) zou
    · obtain ⟨q, hq, hbad, hgood⟩ := first_bad hall
      rw [decide_eq_false (fun h => hbad ((hashP_iff.1 h).2 q (by omega)))]
      refine ac_enter tabOk (sz := 28) Tryz.func59 rfl (by rw [Tryz.ntmps59]; rfl) ?_
      repeat' (first | ((with_reducible refine aw_seqk ?_); intro K hK hX) | ((with_reducible refine isC_reg ?_); refine aw_prune [0, 1, 2, 4, 5, 7, 13, 14, 15] rfl rfl ?_; with_reducible refine aw_region ?_) | refine stA ?_ | (refine hK _ _ _ _ ?_; clear hK hX K) | (refine hX _ _ _ _ _ (by simp) ?_; clear hK hX K))
      refine aw_loopo [5, 7, 15] [] rfl rfl (fun i : Nat => [(5, .c (iv (prevI l i))), (15, .c (iv i))]) (fun i => []) (fun i => i ≤ q) (fun i => q - i) 0 (by omega) weakA ?_
      intro i hi K hK hX
      have hin : i < n := by omega
      obtain ⟨x, hx⟩ : ∃ x, l[i]? = some x := ⟨l[i]'(by omega), List.getElem?_eq_getElem _⟩
      have hxa := ic_at hx
      have hp : prevI l (i + 1) = x := by rw [prevI_succ, List.getD_eq_getElem?_getD, hx]; rfl
      by_cases hlt : i < q
      · obtain ⟨x1, x2⟩ := hgood i hlt x hx
        generalize prevI l i = p at x1 ⊢
        clear hbad hgood hall
        repeat' (first | ((with_reducible refine aw_seqk ?_); intro K hK hX) | ((with_reducible refine isC_reg ?_); refine aw_prune [0, 1, 2, 4, 5, 7, 13, 14, 15] rfl rfl ?_; with_reducible refine aw_region ?_) | (((with_reducible refine isA_any ?_); refine xA ?_); (first | ((with_reducible refine e_load ?_); (first | refine ex_i (s_load1 tabOk rfl rfl rfl rfl (by (rw [Nat.mul_one]; exact hxa))) ?_ | refine ex_i (s_load1r tabOk rfl rfl rfl rfl (by (rw [Nat.mul_one]; exact hxa))) ?_ | refine ex_i (s_load1i tabOk rfl rfl rfl (by (rw [Nat.mul_one]; exact hxa))) ?_)) | ((with_reducible refine e_ix ?_); (first | refine ex_i (s_ixV1 tabOk rfl rfl zcj rfl rfl rfl rfl rfl zle (by (rw [Nat.mul_one]; exact hxa))) ?_ | refine ex_i (s_ixStr tabOk rfl rfl zcj rfl rfl (by (rw [Nat.mul_one]; exact hxa))) ?_)))) | refine stA ?_ | (refine hK _ _ _ _ ?_; clear hK hX K) | (refine hX _ _ _ _ _ (by simp) ?_; clear hK hX K))
        exact ⟨i + 1, by omega, by omega, (by refine weak_mk rfl ?_ ?_ rfl <;> (repeat' (first | exact weakE_nil | exact weakH_nil | refine weakE_cons rfl (by first | rfl | (rw [hp]) | exact zeq) rfl ?_ | refine weakH_cons rfl (by first | rfl | (rw [hp]) | exact zeq) rfl ?_)))⟩
      · have hiq : i = q := by omega
        have hnx : ¬ (prevI l i < x ∧ x < 4611686018427387904) := fun h => hbad fun y hy => by
          rw [← hiq, hx] at hy; injection hy with hy; subst hy; rw [← hiq]; exact h
        generalize prevI l i = p at hnx ⊢
        clear hbad hgood hall
        by_cases x1 : x ≤ p
        · repeat' (first | ((with_reducible refine aw_seqk ?_); intro K hK hX) | ((with_reducible refine isC_reg ?_); refine aw_prune [0, 1, 2, 4, 5, 7, 13, 14, 15] rfl rfl ?_; with_reducible refine aw_region ?_) | (((with_reducible refine isA_any ?_); refine xA ?_); (first | ((with_reducible refine e_load ?_); (first | refine ex_i (s_load1 tabOk rfl rfl rfl rfl (by (rw [Nat.mul_one]; exact hxa))) ?_ | refine ex_i (s_load1r tabOk rfl rfl rfl rfl (by (rw [Nat.mul_one]; exact hxa))) ?_ | refine ex_i (s_load1i tabOk rfl rfl rfl (by (rw [Nat.mul_one]; exact hxa))) ?_)) | ((with_reducible refine e_ix ?_); (first | refine ex_i (s_ixV1 tabOk rfl rfl zcj rfl rfl rfl rfl rfl zle (by (rw [Nat.mul_one]; exact hxa))) ?_ | refine ex_i (s_ixStr tabOk rfl rfl zcj rfl rfl (by (rw [Nat.mul_one]; exact hxa))) ?_)))) | refine stA ?_ | (refine hK _ _ _ _ ?_; clear hK hX K) | (refine hX _ _ _ _ _ (by simp) ?_; clear hK hX K))
          refine retK_mk zio ztr rfl (ResL.one (ResA.tmp rfl)) zou
        · have x2 : 4611686018427387904 ≤ x := by omega
          repeat' (first | ((with_reducible refine aw_seqk ?_); intro K hK hX) | ((with_reducible refine isC_reg ?_); refine aw_prune [0, 1, 2, 4, 5, 7, 13, 14, 15] rfl rfl ?_; with_reducible refine aw_region ?_) | (((with_reducible refine isA_any ?_); refine xA ?_); (first | ((with_reducible refine e_load ?_); (first | refine ex_i (s_load1 tabOk rfl rfl rfl rfl (by (rw [Nat.mul_one]; exact hxa))) ?_ | refine ex_i (s_load1r tabOk rfl rfl rfl rfl (by (rw [Nat.mul_one]; exact hxa))) ?_ | refine ex_i (s_load1i tabOk rfl rfl rfl (by (rw [Nat.mul_one]; exact hxa))) ?_)) | ((with_reducible refine e_ix ?_); (first | refine ex_i (s_ixV1 tabOk rfl rfl zcj rfl rfl rfl rfl rfl zle (by (rw [Nat.mul_one]; exact hxa))) ?_ | refine ex_i (s_ixStr tabOk rfl rfl zcj rfl rfl (by (rw [Nat.mul_one]; exact hxa))) ?_)))) | refine stA ?_ | (refine hK _ _ _ _ ?_; clear hK hX K) | (refine hX _ _ _ _ _ (by simp) ?_; clear hK hX K))
          refine retK_mk zio ztr rfl (ResL.one (ResA.tmp rfl)) zou
  · rw [decide_eq_false (fun h => f1 (by have := h.1; omega))]
    refine ac_enter tabOk (sz := 28) Tryz.func59 rfl (by rw [Tryz.ntmps59]; rfl) ?_
    repeat' (first | ((with_reducible refine aw_seqk ?_); intro K hK hX) | ((with_reducible refine isC_reg ?_); refine aw_prune [0, 1, 2, 4, 5, 7, 13, 14, 15] rfl rfl ?_; with_reducible refine aw_region ?_) | refine stA ?_ | (refine hK _ _ _ _ ?_; clear hK hX K) | (refine hX _ _ _ _ _ (by simp) ?_; clear hK hX K))
    refine retK_mk zio ztr rfl (ResL.one (ResA.tmp rfl)) zou
open Classical in
set_option maxHeartbeats 4000000 in
theorem valb_ok (nm sr : List UInt8) (col d : Int) (w : Nat) (l : List Int) (n : Nat) (hn : l.length = n) (hm : n ≤ maxLen) (hw : (w : Int) ≤ 9223372036854775807) : AC Tryz.prog 22 [.agg [sv nm, sv sr, iv col, iv 2, iv w, iv d], .sl 1 n (intc .i64 l)] (.c (bv (decide (formP ⟨nm, sr, col, 2, w, d⟩ ∧ hashP w l)))) [] 0 := by
  have hf := form_ok ⟨nm, sr, col, 2, w, d⟩
  have h1 := vhash_ok nm sr col 2 d w l n hn hm hw
  simp only [Sk.c] at hf
  by_cases f1 : formP ⟨nm, sr, col, 2, w, d⟩
  · rw [form_t f1] at hf
    have e : ∀ i j, @decide (formP ⟨nm, sr, col, 2, w, d⟩ ∧ hashP w l) i = @decide (hashP w l) j := fun i j => by
      by_cases h : hashP w l <;> simp [f1, h]
    rw [e _ (Classical.propDecidable _)]
    generalize @decide (hashP w l) _ = b at h1 ⊢
    refine ac_enter tabOk (sz := 31) Tryz.func22 rfl (by rw [Tryz.ntmps22]; rfl) ?_
    repeat' (first | ((with_reducible refine aw_seqk ?_); intro K hK hX) | ((with_reducible refine isC_reg ?_); refine aw_prune [0, 1, 2, 4, 5] rfl rfl ?_; with_reducible refine aw_region ?_) | ((with_reducible refine isA_call ?_); (first | refine zA ?_ | refine zN ?_); (first | refine c0 (hf) ?_ | refine c0 (h1) ?_)) | refine stA ?_ | (refine hK _ _ _ _ ?_; clear hK hX K) | (refine hX _ _ _ _ _ (by simp) ?_; clear hK hX K))
    refine retK_mk zio (by exact ⟨va_idle, va_idle_b, trivial⟩) rfl (ResL.one (ResA.tmp rfl)) zou
  · rw [form_f f1] at hf
    rw [decide_eq_false (fun h => f1 h.1)]
    refine ac_enter tabOk (sz := 31) Tryz.func22 rfl (by rw [Tryz.ntmps22]; rfl) ?_
    repeat' (first | ((with_reducible refine aw_seqk ?_); intro K hK hX) | ((with_reducible refine isC_reg ?_); refine aw_prune [0, 1, 2, 4, 5] rfl rfl ?_; with_reducible refine aw_region ?_) | ((with_reducible refine isA_call ?_); (first | refine zA ?_ | refine zN ?_); (first | refine c0 (hf) ?_)) | refine stA ?_ | (refine hK _ _ _ _ ?_; clear hK hX K) | (refine hX _ _ _ _ _ (by simp) ?_; clear hK hX K))
    refine retK_mk zio (by exact ⟨va_idle, va_idle_b, trivial⟩) rfl (ResL.one (ResA.tmp rfl)) zou
set_option maxHeartbeats 4000000 in
theorem smallest_ok (nm sr : List UInt8) (col kd d : Int) (w : Nat) (l : List Int) (n : Nat) (hn : l.length = n) (h0 : 0 < n) (hnn : n ≤ 1000000) (hw : w ≤ 100000) : ACP Tryz.prog 129 2 1 n [.agg [sv nm, sv sr, iv col, iv kd, iv w, iv d]] (intc .i64 l) [] (intc .i64 (smallI w l)) (smallI w l).length := by
  have h1 := sort64_ok l n hn hnn
  have hsl := sortI_length l
  have h2 := compact_ok (sortI l) n (by rw [hsl, hn]) h0 hnn
  have hS : smallI w l = (compN (sortI l) n).take w := by unfold smallI ascL; rw [hn]
  have hcl := compN_length (sortI l) n
  have hsi : (intc .i64 (sortI l)).length = n := by rw [ic_len, hsl, hn]
  have hil : (intc .i64 l).length = n := by rw [ic_len, hn]
  rw [hS]
  generalize compN (sortI l) n = C at *
  obtain ⟨m, hm⟩ : ∃ m, C.length = m := ⟨_, rfl⟩
  have hci : (intc .i64 C).length = m := by rw [ic_len, hm]
  obtain ⟨q, hq⟩ : ∃ q, min w m = q := ⟨_, rfl⟩
  have hql : (C.take w).length = q := by rw [List.length_take, hm, hq]
  have hct : C.take w = C.take q := by
    rw [← hq]
    by_cases h : w ≤ m
    · rw [Nat.min_eq_left h]
    · rw [Nat.min_eq_right (by omega), List.take_of_length_le (by omega), List.take_of_length_le (by omega)]
  rw [hm] at h2 hcl
  rw [hql, hct]
  have hmin : (if (m : Int) < (w : Int) then (m : Int) else (w : Int)) = (q : Int) := by split <;> omega
  have hqm : q ≤ m := by omega
  clear hS hsl hql hct hq
  refine acp_enter tabOk (sz := 16) Tryz.func129 rfl (by rw [Tryz.ntmps129]; rfl) (h0) ?_
  repeat' (first | ((with_reducible refine aw_seqk ?_); intro K hK hX) | ((with_reducible refine isC_reg ?_); refine aw_prune [0, 1, 2, 4] rfl rfl ?_; with_reducible refine aw_region ?_) | ((with_reducible refine isA_call ?_); refine awl_callS (h1) g_none rfl zby (h0) rfl rfl (rfl) rfl zcv ?_) | ((with_reducible refine isA_call ?_); refine awl_callP (h2) g_none rfl zby (h0) rfl rfl (rfl) rfl zcv ?_) | (((with_reducible refine isA_any ?_); refine xA ?_); (first | ((with_reducible refine e_bi ?_); (first | refine ex_i (s_min rfl rfl hmin) ?_)))) | refine stA ?_ | (refine hK _ _ _ _ ?_; clear hK hX K) | (refine hX _ _ _ _ _ (by simp) ?_; clear hK hX K))
  refine retP_mk zio ztr rfl rfl rfl rfl (by rw [Nat.mul_one, ← ic_take]) (ResL.one (ResA.tmp rfl))
end Go.Proofs.YtccnhpaldmjkbaaGreat
/-
  Operations behind a guard that was itself passed over. For every program.
-/
namespace Go.Av
open Go Go.RowKit
section
variable {P : Program} {sz n t : Nat} {env : Env} {h : Heap} {dfs : Defs} {K : AK} {ops : Array Oper} {rest : List Oper} {op : Op} {ty : TypeId} {pos : String} {aft : Array Edge} {gd : Option (Nat × Bool)}
/-- What is passed over leaves the undefined value. -/
theorem a_skipU (hg : guardA ops env ⟨some t, op, ty, pos, aft, gd⟩ false) (hd : Nat.blt t sz = true) (next : AWL P ops sz rest K n ((t, .c (.v undef)) :: env) h dfs) : AWL P ops sz (⟨some t, op, ty, pos, aft, gd⟩ :: rest) K n env h dfs := by
  intro B a w hc
  obtain ⟨M, h1, h2, h3, h4⟩ := hc
  refine wplg_step fun K' hK' => ?_
  rw [if_neg (by rw [hg.wanted h3]; simp)]
  obtain ⟨p1, p2, p3⟩ := put_env (d := some t) (v := .c (.v undef)) (u := undef) h2 h3 (Ext.refl _) (dstOk_spec (d := some t) hd) (by simp [Rep, RepC])
  exact hK' _ _ (next B _ _ ⟨M, h1, p1, p2, by rw [p3]; exact h4⟩)
/-- A guard whose own operation was passed over is not met. -/
theorem a_skip2 {j s : Nat} {want : Bool} (hs : (ops[j]?).bind (·.dst) = some s) (hv : lkE env s = some (.c (.v undef))) (hd : Nat.blt t sz = true) (next : AWL P ops sz rest K n ((t, .c (.v undef)) :: env) h dfs) : AWL P ops sz (⟨some t, op, ty, pos, aft, some (j, want)⟩ :: rest) K n env h dfs := by
  intro B a w hc
  obtain ⟨M, h1, h2, h3, h4⟩ := hc
  refine wplg_step fun K' hK' => ?_
  have hw : Region.wanted ⟨some t, op, ty, pos, aft, some (j, want)⟩ (yielded ops a.tmps) = false := by
    have h5 := h3 s _ hv
    simp only [Rep, RepC] at h5
    have : yielded ops a.tmps j = none := by
      unfold yielded
      rw [hs]
      simp only [Option.bind_some]
      cases hq : a.tmps[s]? with
      | none => rfl
      | some q =>
        have : q = undef := by rw [← h5]; simp [hq]
        subst this
        rfl
    simp [Region.wanted, this]
  rw [if_neg (by rw [hw]; simp)]
  obtain ⟨p1, p2, p3⟩ := put_env (d := some t) (v := .c (.v undef)) (u := undef) h2 h3 (Ext.refl _) (dstOk_spec (d := some t) hd) (by simp [Rep, RepC])
  exact hK' _ _ (next B _ _ ⟨M, h1, p1, p2, by rw [p3]; exact h4⟩)
end
end Go.Av
/-
  Regions that draw their order, in which a mere move or the taking apart of a tuple may come late. For every program.
-/
namespace Go.Av
open Go Go.RowKit
def lateB : Op → Bool
  | .move _ => true
  | .extract _ _ => true
  | _ => false
theorem lateB_about {P : Program} {w : World} {o : Oper} {f : Operand → Value} (h : lateB o.op = true) : o.about P w f = none := by
  cases hop : o.op with
  | move x => simp [Oper.about, hop]
  | extract x k => simp [Oper.about, hop]
  | _ => rw [hop] at h; cases h
theorem lateB_exec {P : Program} {w : World} {o : Oper} {a : Act} {K : Act → World → Prop} (h : lateB o.op = true) (hst : o.wp P a w K (fun _ _ _ => False)) : ∃ v, ∀ w, (execOp a.eval o).run P w = .ok (.value v) w := by
  cases hop : o.op with
  | move x => exact ⟨a.eval x, fun w => by simp [execOp, hop]⟩
  | extract x k =>
    unfold Oper.wp at hst
    cases hx : a.eval x with
    | tuple us =>
      cases hk : us[k]? with
      | some v => exact ⟨v, fun w => by simp [execOp, hop, hx, hk, Instr.extract]⟩
      | none => simp [execOp, hop, hx, hk, Instr.extract, stuck, Result.andThen, Oper.upon] at hst
    | _ => simp [execOp, hop, hx, Instr.extract, stuck, Result.andThen, Oper.upon] at hst
  | _ => rw [hop] at h; cases h
def moveB3 (l : List Oper) (i : Nat) : Bool := match l[i]? with
  | some o => lateB o.op && (List.range l.length).all fun j => Nat.beq j i || Region.waitsFor .any l.toArray j i || Region.waitsFor .any l.toArray i j || (match l[j]? with | some oj => o.apart l.toArray oj | none => true)
  | none => false
def drawXB3 (l : List Oper) (m : Nat) (fs : List Nat) : Bool :=
  Nat.ble m l.length && headB l.toArray (l.take m) && (Nat.beq m l.length || (sinkXB l.toArray m fs && Region.chainB .any l.toArray m)) && Region.seqB .any l.toArray (l.length - m) m (doneL m (l.length - m)) && fs.all (fun i => Nat.blt i m && moveB3 l i) && selB l

theorem aw_drawX3 {P : Program} {sz n0 N : Nat} {env0 E : Env} {h0 H : Heap} {dfs : Defs} {K : AK} {id : Nat} {l : List Oper} {vs : List AV} {ns : List Nat} (fs : List Nat) (m : Nat) (hm : P.follows .mixedOrders = true) (hB : drawXB3 l m fs = true) (hsz : dstsOk (l.take m) sz = true) (hk0 : keysB h0 n0 = true)
    (hc : Chain P l.toArray (l.take m) env0 h0 n0 vs ns E H N) (next : AWL P l.toArray sz (l.drop m) (onlyN K) N E H dfs) : AW P sz (.region id l.toArray true) K n0 env0 h0 dfs := by
  refine aw_mono (K' := onlyN K) ?_ (fun e n env h dfs hk => by obtain ⟨rfl, hk⟩ := hk; exact hk)
  intro B a w hcc rd hrd
  simp only [drawXB3, Bool.and_eq_true, Bool.or_eq_true] at hB
  obtain ⟨⟨⟨⟨⟨b1, b2⟩, b3⟩, b4⟩, b5⟩, b6⟩ := hB
  have hml : m ≤ l.length := Nat.le_of_ble_eq_true b1
  have htl : (l.take m).length = m := by simp; omega
  have hk0' : ∀ p ∈ h0, p.1 < n0 := fun p hp => by simpa [Nat.blt_eq] using List.all_eq_true.1 hk0 p hp
  have hsz' : ∀ (j : Nat) (oj : Oper) (t : Nat), (l.take m)[j]? = some oj → oj.dst = some t → t < sz := fun j oj t hj hd => by
    have := List.all_eq_true.1 hsz oj (List.mem_of_getElem? hj)
    exact dstOk_spec this t hd
  have hops : ∀ (j : Nat) (oj : Oper), (l.take m)[j]? = some oj → l.toArray[j]? = some oj := fun j oj hj => by
    rw [List.getElem?_take] at hj
    split at hj
    · simpa using hj
    · cases hj
  have hsel : ∀ (j : Nat) (o : Oper) cs b, l.toArray[j]? = some o → o.op ≠ .select cs b := fun j o cs b hj he => by
    have hj' : l[j]? = some o := by simpa using hj
    have := List.all_eq_true.1 b6 o (List.mem_of_getElem? hj')
    rw [he] at this
    cases this
  have hnd : rd = none ∨ ∀ (i : Nat) (o : Oper), l.toArray[i]? = some o → noDef o = true := hrd.imp_right fun k i o ho => all_get (by simpa [plainC] using k) ho
  have hdrop : rd = none ∨ (l.drop m).all noDef = true := hrd.imp_right fun k => List.all_eq_true.2 fun o ho => List.all_eq_true.1 (by simpa [plainC] using k) o (List.mem_of_mem_drop ho)
  refine wpIn_region_any hm (wpAnyIn_rd hnd _ _ _ _ ?_)
  have hdrew : Conc B sz n0 env0 h0 dfs a { w with drawn := w.drawn + 1 } := by
    obtain ⟨M, c1, c2, c3, c4⟩ := hcc
    have hbel : Below w.heap.size w { w with drawn := w.drawn + 1 } := (Below.refl _ _).drew
    have hg := c1.grow hbel n0 n0 (M' := M) (fun _ _ => rfl) (fun id h1 h2 => by omega) (fun id o h1 h2 => by omega) (fun id id' o o' g h1 h2 => by omega) (fun _ id o h1 h2 => by omega)
    rw [ad_self] at hg
    exact ⟨M, hg.1, c2, fun t av ht => Rep.ext hg.2 _ _ (c3 t av ht), c4.ext hg.2⟩
  have hQ : ∀ (o : Oper) (v : Value) c a w, KC B sz (onlyN K) (.panic c) (a.put o.dst v) w → KC B sz (onlyN K) (.panic c) a w := fun o v c a w h => by
    obtain ⟨n, env, h, dfs, ⟨h1, _⟩, _⟩ := h
    cases h1
  have key : ∀ (f : Nat) (listed : Array Bool) (a : Act) (w : World), (List.range m).countP (fun j => !listed.getD j false) = f → HeadInv .any l.toArray m listed → InvL B sz n0 env0 dfs (l.take m) vs ns H listed a w →
      wpAnyIn (WF none) 0 P .any l.toArray (KC B sz (onlyN K)) (f + (l.length - m)) listed a w := by
    intro f
    induction f with
    | zero =>
      intro listed a w hcnt hinv hI
      have hall := countL_zero m hcnt
      have hlisted : listed = doneL m (l.length - m) := by
        apply Array.ext
        · rw [hinv.size]; simp [doneL]; omega
        · intro j h1 h2
          rw [hinv.size] at h1
          simp only [List.size_toArray] at h1
          by_cases hj : j < m
          · have := hall j hj
            simp [hinv.size, h1] at this
            simp [doneL, hj, this, List.getElem_append]
          · have := hinv.tail j (by omega) (by simpa using h1)
            simp [hinv.size, h1] at this
            simp [doneL, hj, this, List.getElem_append]
      rw [Nat.zero_add]
      have hconc := endL hc (by rw [htl]; exact hall) hI
      have := wpAnyIn_of_seq (F := WF none) (n := 0) (P := P) (ops := l.toArray) (md := .any) (Q' := KC B sz (onlyN K)) (l.drop m) m listed a w (fun j => by simp [List.getElem?_drop]) (by rw [List.length_drop, hlisted]; exact b4) (next B a w hconc none (.inl rfl))
      rwa [List.length_drop] at this
    | succ f ih =>
      intro listed a w hcnt hinv hI
      rw [show f + 1 + (l.length - m) = (f + (l.length - m)) + 1 by omega]
      by_cases hfree : ∃ i, memB fs i = true ∧ i ∈ Region.ready .any l.toArray listed
      · obtain ⟨i, hif, hir⟩ := hfree
        have h5 := List.all_eq_true.1 b5 i (memB_mem hif)
        simp only [Bool.and_eq_true, Nat.blt_eq] at h5
        obtain ⟨him, hmv⟩ := h5
        have hil : i < (l.take m).length := by omega
        have hit : (l.take m)[i]? = some (l.take m)[i] := List.getElem?_eq_getElem hil
        generalize (l.take m)[i] = oi at hit
        have hia := hops i oi hit
        have hil' : l[i]? = some oi := by simpa using hia
        unfold moveB3 at hmv
        rw [hil'] at hmv
        simp only [Bool.and_eq_true] at hmv
        obtain ⟨hmo, hap⟩ := hmv
        have habo : ∀ w, oi.about P w a.eval = none := fun w => lateB_about hmo
        have hst := step_L (Q := fun _ _ _ => False) hc b2 hk0' hsz' hops hit hir hI (K := fun a' w' => InvL B sz n0 env0 dfs (l.take m) vs ns H (listed.setIfInBounds i true) a' w') (fun a' w' h => h)
        unfold wpOp at hst
        rw [hia] at hst
        simp only at hst
        have hcnt' : (List.range m).countP (fun j => !(listed.setIfInBounds i true).getD j false) = f := by
          have := countL_set m him (mem_ready.1 hir).1
          omega
        have hfr : ∀ j oj, l.toArray[j]? = some oj → j ≠ i → listed.getD j true = false → (∀ e ∈ oj.after, Region.binds .any e = true → e.on ≠ i) → oi.apart l.toArray oj = true := fun j oj hj hji hlj hno => by
          have hj' : l[j]? = some oj := by simpa using hj
          have hjl : j < l.length := (List.getElem?_eq_some_iff.1 hj').1
          have := List.all_eq_true.1 hap j (List.mem_range.2 hjl)
          rw [hj'] at this
          simp only [Bool.or_eq_true] at this
          rcases this with ((this | this) | this) | this
          · exact absurd (Nat.eq_of_beq_eq_true this) hji
          · obtain ⟨oj', hoj', e, he, hb, hon⟩ := Region.waitsFor_spec this
            have : oj' = oj := Option.some.inj (hoj'.symm.trans hj)
            subst this
            exact absurd hon (hno e he hb)
          · obtain ⟨oi', hoi', e, he, hb, hon⟩ := Region.waitsFor_spec this
            obtain ⟨_, o', ho', hall⟩ := mem_ready.1 hir
            have e1 : oi' = o' := Option.some.inj (hoi'.symm.trans ho')
            subst e1
            have h7 := hall e he hb
            rw [hon, getD_both hlj] at h7
            cases h7
          · exact this
        by_cases hwt : Region.wanted oi (yielded l.toArray a.tmps) = true
        · rw [if_pos hwt] at hst
          rcases hst with hst | ⟨_, _, _, hst⟩
          · obtain ⟨v, hexec⟩ := lateB_exec hmo hst
            unfold Oper.wp at hst
            rw [hexec w] at hst
            exact wpAnyIn_first (v := v) rfl hia hsel (hQ oi _) _ listed a w hfr hir ⟨.inl ⟨hwt, hexec⟩, habo⟩ (ih _ _ _ hcnt' (hinv.set hir him) hst)
          · exact hst.elim
        · rw [if_neg hwt] at hst
          exact wpAnyIn_first (v := undef) rfl hia hsel (hQ oi _) _ listed a w hfr hir ⟨.inr ⟨by simpa using hwt, rfl⟩, habo⟩ (ih _ _ _ hcnt' (hinv.set hir him) hst)
      -- some operation of the head is still to come
      · have hex : ∃ j, j < m ∧ listed.getD j false = false := by
          have hpos : 0 < (List.range m).countP (fun j => !listed.getD j false) := by omega
          obtain ⟨j, hj, hp⟩ := List.countP_pos_iff.1 hpos
          exact ⟨j, List.mem_range.1 hj, by simpa using hp⟩
        have hsize : ∀ j, j < m → j < listed.size := fun j hj => by rw [hinv.size]; simp; omega
        have hmin : ∃ j, j < m ∧ listed.getD j false = false ∧ j ∈ Region.ready .any l.toArray listed := by
          obtain ⟨j0, hj0, hu0⟩ := hex
          obtain ⟨j, ⟨hj, hu⟩, hmin⟩ := exists_min (fun j => j < m ∧ listed.getD j false = false) ⟨j0, hj0, hu0⟩
          have hjl : j < (l.take m).length := by omega
          have hb := headB_spec b2 (List.getElem?_eq_getElem hjl)
          refine ⟨j, hj, hu, mem_ready.2 ⟨getD_in (hsize j hj) hu, (l.take m)[j], hops j _ (List.getElem?_eq_getElem hjl), fun e he hbn => ?_⟩⟩
          have hlt := hb.1 e he hbn
          cases hle : listed.getD e.on false with
          | true => rfl
          | false => have := hmin e.on ⟨by omega, hle⟩; omega
        obtain ⟨j0, hj0, hu0, hr0⟩ := hmin
        have hjf : memB fs j0 = false := by
          cases hq : memB fs j0 with
          | false => rfl
          | true => exact absurd ⟨j0, hq, hr0⟩ hfree
        refine ⟨fun h => absurd h (fun h0 => by rw [h0] at hr0; cases hr0), fun i hi => ?_⟩
        have him : i < m := by
          rcases Nat.lt_or_ge i m with h | h
          · exact h
          · exfalso
            obtain ⟨_, oi, hoi, _⟩ := mem_ready.1 hi
            have hil : i < l.length := by simpa using (Array.getElem?_eq_some_iff.1 hoi).1
            rcases b3 with b3 | b3
            · have := Nat.eq_of_beq_eq_true b3; omega
            · exact tail_waitsX b3.1 b3.2 (by simp; omega) hinv _ j0 rfl hj0 hjf (getD_in (hsize j0 hj0) hu0) i h hi
        have hil : i < (l.take m).length := by omega
        refine wpOp_in (rd := none) (.inl rfl) (step_L (Q := fun _ _ _ => False) hc b2 hk0' hsz' hops (List.getElem?_eq_getElem hil) hi hI fun a' w' hI' => ?_)
        refine ih _ a' w' ?_ (hinv.set hi him) hI'
        have := countL_set m him (mem_ready.1 hi).1
        omega
  have hcount : (List.range m).countP (fun j => !(Array.replicate l.toArray.size false).getD j false) = m := by
    rw [List.countP_eq_length.2 (fun j hj => by rw [getD_replicate_false]; rfl), List.length_range]
  have := key m (Array.replicate l.toArray.size false) a _ hcount ⟨by simp, (fun j oj hj hl => by rw [getD_replicate_false] at hl; cases hl), fun t h1 h2 => by simp at h2; simp [h2]⟩ (initL hc hdrew)
  rw [show m + (l.length - m) = l.toArray.size by simp; omega] at this
  exact this
theorem drw_endX3 {P : Program} {l : List Oper} {sz : Nat} {K : AK} {dfs : Defs} {id n0 n : Nat} {env0 env : Env} {h0 h : Heap} {rest : List Oper} (fs : List Nat) (hm : P.follows .mixedOrders = true) (hB : drawXB3 l (l.length - rest.length) fs = true) (hsz : dstsOk (l.take (l.length - rest.length)) sz = true) (hk0 : keysB h0 n0 = true) (next : AWL P l.toArray sz rest (onlyN K) n env h dfs) : Drw P l sz K dfs id n0 env0 h0 0 rest n env h := by
  intro pre vs ns hl hc
  have hlen : l.length - rest.length = pre.length := by rw [← hl]; simp
  rw [hlen] at hB hsz
  have ht : l.take pre.length = pre := by rw [← hl]; simp
  have hd : l.drop pre.length = rest := by rw [← hl]; simp
  exact aw_drawX3 fs pre.length hm hB hsz hk0 (by rw [ht]; exact hc) (by rw [hd]; exact next)
/-- The operations of the head that nothing waits for. -/
def autoFs (l : List Oper) (m : Nat) : List Nat := (List.range m).filter fun i => moveB3 l i && !(List.range (m + 1)).any fun j => decide (i < j) && Region.waitsFor .any l.toArray j i
theorem drw_endA {P : Program} {l : List Oper} {sz : Nat} {K : AK} {dfs : Defs} {id n0 n : Nat} {env0 env : Env} {h0 h : Heap} {rest : List Oper} (hm : P.follows .mixedOrders = true) (hB : drawXB3 l (l.length - rest.length) (autoFs l (l.length - rest.length)) = true) (hsz : dstsOk (l.take (l.length - rest.length)) sz = true) (hk0 : keysB h0 n0 = true) (next : AWL P l.toArray sz rest (onlyN K) n env h dfs) : Drw P l sz K dfs id n0 env0 h0 0 rest n env h := drw_endX3 _ hm hB hsz hk0 next
end Go.Av
/-
  Places of values (walk), as the reference has them.
-/
namespace Go.Proofs.YtccnhpaldmjkbaaGreat
open Go Go.RowKit Go.Av
set_option maxRecDepth 100000
def plcL (w : Nat) (v : Vl) (d : Nat) : List Int := (List.range d).map fun i => (placeV w v i : Int)
theorem plcL_step (w : Nat) (v : Vl) (i : Nat) : plcL w v (i + 1) = plcL w v i ++ [(placeV w v i : Int)] := by simp [plcL, List.range_succ]
theorem plcL_length (w : Nat) (v : Vl) (d : Nat) : (plcL w v d).length = d := by simp [plcL]
theorem plcL_at (w : Nat) (v : Vl) {i d : Nat} (h : i < d) : (plcL w v d)[i]? = some (placeV w v i : Int) := by simp [plcL, h]
attribute [local irreducible] Still Adds AWL AW Drw DrwE EStep AC AWR Weak Frz Src RetK Out InK ItK AsK RdK RetT OutT ACT ACS RetS ACP RetP
set_option maxHeartbeats 4000000 in
theorem rplaces_ok (nm sr : List UInt8) (col kd : Int) (w d : Nat) (v : Vl) (hw : 0 < w) (hw2 : w ≤ 1024) (hd : d ≤ 8) : AC Tryz.prog 116 [.agg [sv nm, sv sr, iv col, iv kd, iv w, iv d], .agg v.c] (.c (.sl 1 d (intc .i64 (plcL w v d)))) [] 0 := by
  obtain ⟨P, hP⟩ : ∃ P : Nat → List Int, ∀ i, P i = plcL w v i := ⟨_, fun _ => rfl⟩
  have hPl : ∀ i, (P i).length = i := fun i => by rw [hP, plcL_length]
  have hP0 : [] = P 0 := (hP 0).symm
  have hPs : ∀ i, P (i + 1) = P i ++ [(placeV w v i : Int)] := fun i => by rw [hP, hP, plcL_step]
  have hh := fun (i : Nat) (hi : i < 8) => rhash_ok v (i : Int) (UInt8.ofNat i) (row_byte (by omega))
  have hpv : ∀ i, placeV w v i = i * w + (hashV v (UInt8.ofNat i)).toNat % w := fun i => rfl
  rw [← hP]
  clear hP
  generalize placeV w v = pl at hPs hpv
  generalize hashV v = hv at hh hpv
  obtain ⟨a, m, t⟩ := v
  simp only [Vl.c] at *
  refine ac_enter tabOk (sz := 30) Tryz.func116 rfl (by rw [Tryz.ntmps116]; rfl) ?_
  repeat' (first | ((with_reducible refine aw_seqk ?_); intro K hK hX) | ((with_reducible refine isC_reg ?_); refine aw_prune [0, 1, 2, 3, 4, 5, 6] rfl rfl ?_; with_reducible refine aw_region ?_) | ((with_reducible refine isC_draw ?_); refine aw_prune [0, 1, 2, 3, 4, 5, 6] rfl rfl ?_; refine aw_drwF [] ?_) | refine stA ?_ | refine stD ?_ | (refine hK _ _ _ _ ?_; clear hK hX K) | (refine hX _ _ _ _ _ (by simp) ?_; clear hK hX K))
  refine aw_nilown 5 3 1 rfl ?_
  refine aw_loopo [5, 6] [2] rfl rfl (fun i : Nat => [(5, .own 2 0 i 1 true), (6, .c (iv i))]) (fun i => [(2, .row 3 (intc .i64 (P i)))]) (fun i => i ≤ d) (fun i => d - i) 0 (Nat.zero_le _) (by refine weak_mk rfl ?_ ?_ rfl <;> (repeat' (first | exact weakE_nil | exact weakH_nil | refine weakE_cons rfl (by first | rfl | (exact congrArg (fun x => AObj.row 3 (intc .i64 x)) hP0) | exact zeq) rfl ?_ | refine weakH_cons rfl (by first | rfl | (exact congrArg (fun x => AObj.row 3 (intc .i64 x)) hP0) | exact zeq) rfl ?_))) ?_
  intro i hi K hK hX
  have hil : (intc .i64 (P i)).length = i := by rw [ic_len, hPl]
  by_cases hlt : i < d
  · have hhi := hh i (by omega)
    have hps := hPs i
    have hpi := hpv i
    clear hh hPs hpv hPl hP0
    generalize hv (UInt8.ofNat i) = x at hhi hpi
    have hmw := Nat.mod_lt x.toNat hw
    have hrem : ((x.toNat : Int)).tmod (w : Int) = ((x.toNat % w : Nat) : Int) := by rw [r64 (by omega), Int.natCast_emod]
    have hmul : i * w ≤ 8 * 1024 := Nat.mul_le_mul (by omega) hw2
    have hm64 : IntKind.i64.wrap ((i : Int) * (w : Int)) = ((i * w : Nat) : Int) := by rw [show (i : Int) * (w : Int) = ((i * w : Nat) : Int) by simp]; exact w64 (by omega) (by omega)
    generalize x.toNat % w = r at hmw hrem hpi
    generalize i * w = q at hmul hm64 hpi
    have hadd : IntKind.i64.wrap ((q : Int) + (r : Int)) = (pl i : Int) := by rw [hpi, w64 (by omega) (by omega)]; simp
    have hcr : IntKind.i64.wrap (r : Int) = (r : Int) := w64 (by omega) (by omega)
    have hrow : intc .i64 (P i) ++ [iv (pl i)] = intc .i64 (P (i + 1)) := by rw [hps]; simp [intc]
    clear hpi hps
    generalize pl i = z at hadd hrow
    repeat' (first | ((with_reducible refine aw_seqk ?_); intro K hK hX) | ((with_reducible refine isC_reg ?_); refine aw_prune [0, 1, 2, 3, 4, 5, 6] rfl rfl ?_; with_reducible refine aw_region ?_) | ((with_reducible refine isC_draw ?_); refine aw_prune [0, 1, 2, 3, 4, 5, 6] rfl rfl ?_; refine aw_drwF [] ?_) | ((first | with_reducible refine isA_call ?_ | with_reducible refine isD_call ?_); (first | refine zA ?_ | refine zN ?_ | refine zD ?_); (first | refine c0 (hhi) ?_)) | ((first | ((with_reducible refine isA_any ?_); refine xA ?_) | ((with_reducible refine isDk_any ?_); refine xD ?_)); (first | ((with_reducible refine e_bin ?_); (first | refine ex_i (s_arit64 rfl rfl rfl hm64) ?_ | refine ex_i (s_rem (k := .u64) rfl rfl (by omega) hrem) ?_ | refine ex_i (s_arit64 rfl rfl rfl hadd) ?_)) | ((with_reducible refine e_conv ?_); (first | refine ex_i (s_convInt tabOk rfl rfl rfl rfl (wu64 (by omega) (by omega))) ?_ | refine ex_i (s_convInt tabOk rfl rfl rfl rfl hcr) ?_)))) | refine stA ?_ | refine stD ?_ | (refine hK _ _ _ _ ?_; clear hK hX K) | (refine hX _ _ _ _ _ (by simp) ?_; clear hK hX K))
    exact ⟨i + 1, by omega, by omega, (by refine weak_ren [0, 1, 4] rfl rfl ?_ ?_ rfl rfl <;> (repeat' (first | exact weakER_nil | exact weakHR_nil | refine weakER_cons rfl (by first | rfl | (exact congrArg (AObj.row 3) hrow) | exact zeq) rfl ?_ | refine weakHR_cons rfl (by first | rfl | (exact congrArg (AObj.row 3) hrow) | exact zeq) rfl ?_)))⟩
  · have hie : i = d := by omega
    rw [hie] at hil ⊢
    repeat' (first | ((with_reducible refine aw_seqk ?_); intro K hK hX) | ((with_reducible refine isC_reg ?_); refine aw_prune [0, 1, 2, 3, 4, 5, 6] rfl rfl ?_; with_reducible refine aw_region ?_) | ((with_reducible refine isC_draw ?_); refine aw_prune [0, 1, 2, 3, 4, 5, 6] rfl rfl ?_; refine aw_drwF [] ?_) | refine stA ?_ | refine stD ?_ | (refine hK _ _ _ _ ?_; clear hK hX K) | (refine hX _ _ _ _ _ (by simp) ?_; clear hK hX K))
    refine retK_mk zio ztr rfl (ResL.one (ResA.tmp rfl)) zou
end Go.Proofs.YtccnhpaldmjkbaaGreat
/-
  Adding values to cells (walk), as the reference has it.
-/
namespace Go.Proofs.YtccnhpaldmjkbaaGreat
open Go Go.RowKit Go.Av
set_option maxRecDepth 100000
attribute [local irreducible] Still Adds AWL AW Drw DrwE EStep AC AWR Weak Frz Src RetK Out InK ItK AsK RdK RetT OutT ACT ACS RetS ACP RetP
set_option maxHeartbeats 8000000 in
theorem raddc_ok (nm sr : List UInt8) (col kd : Int) (w d : Nat) (v : Vl) (l : List Int) (N : Nat) (c : Int) (hk : kd = 0 ∨ kd = 1) (hn : l.length = N) (hN : w * d = N) (hw : 0 < w) (hw2 : w ≤ 1024) (hd : d ≤ 8) (hc : 0 ≤ c) (hc2 : c ≤ 262144) (hin : inB l 10000000000000) : AC Tryz.prog 56 [.agg [sv nm, sv sr, iv col, iv kd, iv w, iv d], .sl 1 N (intc .i64 l), .agg v.c, iv c] (.c (.sl 1 N (intc .i64 (addN kd w v c l d)))) [] 0 := by
  have hil : (intc .i64 l).length = N := by rw [ic_len, hn]
  have hNb : N ≤ 8192 := by rw [← hN]; exact Nat.mul_le_mul hw2 hd
  have hpl := rplaces_ok nm sr col kd w d v hw hw2 hd
  have hpat := fun i (hi : i < d) => ic_at (plcL_at w v hi)
  have hpln : (intc .i64 (plcL w v d)).length = d := by rw [ic_len, plcL_length]
  obtain ⟨ad, had⟩ : ∃ ad : Nat → List Int, ∀ i, ad i = addN kd w v c l i := ⟨_, fun _ => rfl⟩
  have hap : ∀ j, ad (j + 1) = putP kd (ad j) (placeV w v j) c := fun j => by rw [had, had]; rfl
  have hal : ∀ j, (ad j).length = N := fun j => by rw [had, addN_length, hn]
  have hai : ∀ j, j ≤ d → inB (ad j) 20000000000000 := fun j hj => by
    rw [had]
    have h1 := addN_inB (kd := kd) (w := w) (v := v) hin (by omega) hc j
    refine inB_mono h1 ?_
    have : (j : Int) * (c + 1) ≤ 8 * 262145 := Int.mul_le_mul (by omega) (by omega) (by omega) (by omega)
    omega
  have had0 : l = ad 0 := (had 0).symm
  have hlt2 : ∀ j, j < d → placeV w v j < N := fun j h => by rw [← hN]; exact placeV_lt v hw h
  rw [← had]
  clear had
  generalize plcL w v d = pc at *
  generalize placeV w v = pv at *
  obtain ⟨a, m, t⟩ := v
  simp only [Vl.c] at *
  refine ac_enter tabOk (sz := 55) Tryz.func56 rfl (by rw [Tryz.ntmps56]; rfl) ?_
  repeat' (first | ((with_reducible refine aw_seqk ?_); intro K hK hX) | ((with_reducible refine isC_reg ?_); refine aw_prune [0, 1, 2, 3, 4, 6, 8, 9, 10, 11] rfl rfl ?_; with_reducible refine aw_region ?_) | ((with_reducible refine isC_draw ?_); refine aw_prune [0, 1, 2, 3, 4, 6, 8, 9, 10, 11] rfl rfl ?_; refine aw_drwF [] ?_) | ((first | with_reducible refine isA_call ?_ | with_reducible refine isD_call ?_); (first | refine zA ?_ | refine zN ?_ | refine zD ?_); (first | refine c0 (hpl) ?_)) | refine stA ?_ | refine stD ?_ | (refine hK _ _ _ _ ?_; clear hK hX K) | (refine hX _ _ _ _ _ (by simp) ?_; clear hK hX K))
  rw [Nat.zero_add N, List.nil_append]
  refine aw_loopo [11] [3] rfl rfl (fun j : Nat => [(11, .c (iv j))]) (fun j => [(3, .row 2 (intc .i64 (ad j)))]) (fun j => j ≤ d) (fun j => d - j) 0 (Nat.zero_le _) (by refine weak_mk rfl ?_ ?_ rfl <;> (repeat' (first | exact weakE_nil | exact weakH_nil | refine weakE_cons rfl (by first | rfl | (exact congrArg (fun x => AObj.row 2 (intc .i64 x)) had0) | exact zeq) rfl ?_ | refine weakH_cons rfl (by first | rfl | (exact congrArg (fun x => AObj.row 2 (intc .i64 x)) had0) | exact zeq) rfl ?_))) ?_
  intro j hj K hK hX
  have hjl := hal j
  have hji : (intc .i64 (ad j)).length = N := by rw [ic_len, hjl]
  by_cases hjd : j < d
  · have hpj := hpat j hjd
    have hpN := hlt2 j hjd
    have hput := hap j
    have hbj := getD_inB (hai j hj) (by decide) (pv j)
    have hgt := ic_at (gD_at (l := ad j) (i := pv j) (by omega))
    unfold putP at hput
    generalize pv j = p at hpj hpN hput hbj hgt
    generalize (ad j).getD p 0 = g at hput hbj hgt
    clear hpat hap hal hai had0 hlt2 hpl hin
    by_cases k0 : kd = 0
    · rw [if_pos k0] at hput
      have hset : (intc .i64 (ad j)).set (0 + p * 1) (iv (g + c)) = intc .i64 (ad (j + 1)) := by rw [Nat.zero_add, Nat.mul_one, hput, intc_set]
      repeat' (first | ((with_reducible refine aw_seqk ?_); intro K hK hX) | ((with_reducible refine isC_reg ?_); refine aw_prune [0, 1, 2, 3, 4, 6, 8, 9, 10, 11] rfl rfl ?_; with_reducible refine aw_region ?_) | ((with_reducible refine isC_draw ?_); refine aw_prune [0, 1, 2, 3, 4, 6, 8, 9, 10, 11] rfl rfl ?_; refine aw_drwF [] ?_) | ((first | ((with_reducible refine isA_any ?_); refine xA ?_) | ((with_reducible refine isDk_any ?_); refine xD ?_)); (first | ((with_reducible refine e_load ?_); (first | refine ex_i (s_load1 tabOk rfl rfl rfl rfl (by first | (rw [Nat.mul_one]; exact hpj) | (rw [Nat.zero_add, Nat.mul_one]; exact hgt))) ?_ | refine ex_i (s_load1r tabOk rfl rfl rfl rfl (by first | (rw [Nat.mul_one]; exact hpj) | (rw [Nat.zero_add, Nat.mul_one]; exact hgt))) ?_ | refine ex_i (s_load1i tabOk rfl rfl rfl (by first | (rw [Nat.mul_one]; exact hpj) | (rw [Nat.zero_add, Nat.mul_one]; exact hgt))) ?_)) | ((with_reducible refine e_ix ?_); (first | refine ex_i (s_ixV1 tabOk rfl rfl zcj rfl rfl rfl rfl rfl zle (by first | (rw [Nat.mul_one]; exact hpj) | (rw [Nat.zero_add, Nat.mul_one]; exact hgt))) ?_ | refine ex_i (s_ixStr tabOk rfl rfl zcj rfl rfl (by first | (rw [Nat.mul_one]; exact hpj) | (rw [Nat.zero_add, Nat.mul_one]; exact hgt))) ?_)))) | ((with_reducible refine isA_store ?_); (refine awl_store1r tabOk g_none rfl rfl rfl rfl rfl rfl (by first | omega | exact Nat.le_of_ble_eq_true rfl | omega | (simp <;> omega)) ?_)) | refine stA ?_ | refine stD ?_ | (refine hK _ _ _ _ ?_; clear hK hX K) | (refine hX _ _ _ _ _ (by simp) ?_; clear hK hX K))
      exact ⟨j + 1, by omega, by omega, (by refine weak_mk rfl ?_ ?_ rfl <;> (repeat' (first | exact weakE_nil | exact weakH_nil | refine weakE_cons rfl (by first | rfl | (exact congrArg (AObj.row 2) hset) | exact zeq) rfl ?_ | refine weakH_cons rfl (by first | rfl | (exact congrArg (AObj.row 2) hset) | exact zeq) rfl ?_)))⟩
    · have k1 : kd = 1 := by omega
      rw [if_neg k0] at hput
      have hset : ((intc .i64 (ad j)).set (0 + p * 1) (iv (g + c))).set (0 + p * 1) (iv 1) = intc .i64 (ad (j + 1)) := by rw [Nat.zero_add, Nat.mul_one, hput, List.set_set, intc_set]
      have hjs : ((intc .i64 (ad j)).set (0 + p * 1) (iv (g + c))).length = N := by rw [List.length_set, hji]
      repeat' (first | ((with_reducible refine aw_seqk ?_); intro K hK hX) | ((with_reducible refine isC_reg ?_); refine aw_prune [0, 1, 2, 3, 4, 6, 8, 9, 10, 11] rfl rfl ?_; with_reducible refine aw_region ?_) | ((with_reducible refine isC_draw ?_); refine aw_prune [0, 1, 2, 3, 4, 6, 8, 9, 10, 11] rfl rfl ?_; refine aw_drwF [] ?_) | ((first | ((with_reducible refine isA_any ?_); refine xA ?_) | ((with_reducible refine isDk_any ?_); refine xD ?_)); (first | ((with_reducible refine e_load ?_); (first | refine ex_i (s_load1 tabOk rfl rfl rfl rfl (by first | (rw [Nat.mul_one]; exact hpj) | (rw [Nat.zero_add, Nat.mul_one]; exact hgt))) ?_ | refine ex_i (s_load1r tabOk rfl rfl rfl rfl (by first | (rw [Nat.mul_one]; exact hpj) | (rw [Nat.zero_add, Nat.mul_one]; exact hgt))) ?_ | refine ex_i (s_load1i tabOk rfl rfl rfl (by first | (rw [Nat.mul_one]; exact hpj) | (rw [Nat.zero_add, Nat.mul_one]; exact hgt))) ?_)) | ((with_reducible refine e_ix ?_); (first | refine ex_i (s_ixV1 tabOk rfl rfl zcj rfl rfl rfl rfl rfl zle (by first | (rw [Nat.mul_one]; exact hpj) | (rw [Nat.zero_add, Nat.mul_one]; exact hgt))) ?_ | refine ex_i (s_ixStr tabOk rfl rfl zcj rfl rfl (by first | (rw [Nat.mul_one]; exact hpj) | (rw [Nat.zero_add, Nat.mul_one]; exact hgt))) ?_)))) | ((with_reducible refine isA_store ?_); (refine awl_store1r tabOk g_none rfl rfl rfl rfl rfl rfl (by first | omega | exact Nat.le_of_ble_eq_true rfl | omega | (simp <;> omega)) ?_)) | refine stA ?_ | refine stD ?_ | (refine hK _ _ _ _ ?_; clear hK hX K) | (refine hX _ _ _ _ _ (by simp) ?_; clear hK hX K))
      exact ⟨j + 1, by omega, by omega, (by refine weak_mk rfl ?_ ?_ rfl <;> (repeat' (first | exact weakE_nil | exact weakH_nil | refine weakE_cons rfl (by first | rfl | (exact congrArg (AObj.row 2) hset) | exact zeq) rfl ?_ | refine weakH_cons rfl (by first | rfl | (exact congrArg (AObj.row 2) hset) | exact zeq) rfl ?_)))⟩
  · have hjd2 : j = d := by omega
    rw [hjd2] at hji ⊢
    clear hpat hap hal hai had0 hlt2 hpl hin
    repeat' (first | ((with_reducible refine aw_seqk ?_); intro K hK hX) | ((with_reducible refine isC_reg ?_); refine aw_prune [0, 1, 2, 3, 4, 6, 8, 9, 10, 11] rfl rfl ?_; with_reducible refine aw_region ?_) | ((with_reducible refine isC_draw ?_); refine aw_prune [0, 1, 2, 3, 4, 6, 8, 9, 10, 11] rfl rfl ?_; refine aw_drwF [] ?_) | refine stA ?_ | refine stD ?_ | (refine hK _ _ _ _ ?_; clear hK hX K) | (refine hX _ _ _ _ _ (by simp) ?_; clear hK hX K))
    refine retK_mk zio ztr rfl (ResL.one (ResA.tmp rfl)) zou
end Go.Proofs.YtccnhpaldmjkbaaGreat
/-
  Inserting a number into an ascending list of different numbers. Plain.
-/
namespace Go.Proofs.YtccnhpaldmjkbaaGreat
open Go Go.RowKit Go.Av
set_option maxRecDepth 100000
theorem small_of {w : Nat} {l m : List Int} (hm : ascI m) (h : ∀ y, y ∈ m ↔ y ∈ l) : smallI w l = m.take w := by
  unfold smallI
  rw [ascI_ext (ascL_facts l).1 hm fun y => by rw [(ascL_facts l).2, h]]
theorem bot_hit {w : Nat} {l : List Int} {x : Int} {k : Nat} (ha : ascI l) (hl : l.length ≤ w) (hx : l[k]? = some x) : smallI w (l ++ [x]) = l := by
  have hm := List.mem_of_getElem? hx
  rw [small_of (m := l) ha fun y => ⟨fun h => by simp [h], fun h => by
    rcases List.mem_append.1 h with h | h
    · exact h
    · rw [List.mem_singleton.1 h]; exact hm⟩]
  exact List.take_of_length_le hl
theorem drop_ge {l : List Int} {k : Nat} {x : Int} (ha : ascI l) (h2 : k < l.length → x < l.getD k 0) : ∀ y ∈ l.drop k, x < y := by
  intro y hy
  by_cases hk : k < l.length
  · have h3 := h2 hk
    have h4 := List.drop_eq_getElem_cons hk
    have h5 := gD_at (l := l) (i := k) hk
    rw [List.getElem?_eq_getElem hk] at h5
    injection h5 with h5
    have h6 : ascI (l.drop k) := ha.sublist (List.drop_sublist _ _)
    rw [h4, h5] at h6 hy
    rcases List.mem_cons.1 hy with h | h
    · omega
    · have := (List.pairwise_cons.1 h6).1 y h
      omega
  · rw [List.drop_eq_nil_of_le (by omega)] at hy
    cases hy
theorem bot_ins {w : Nat} {l : List Int} {x : Int} {k : Nat} (ha : ascI l) (h1 : ∀ j, j < k → l.getD j 0 < x) (h2 : k < l.length → x < l.getD k 0) : smallI w (l ++ [x]) = (l.take k ++ x :: l.drop k).take w := by
  have hd := drop_ge ha h2
  have ht : ∀ y ∈ l.take k, y < x := fun y hy => by
    obtain ⟨j, hj, _, rfl⟩ := mem_take_getD hy
    exact h1 j hj
  refine small_of (List.pairwise_append.2 ⟨ha.sublist (List.take_sublist _ _), List.pairwise_cons.2 ⟨hd, ha.sublist (List.drop_sublist _ _)⟩, fun y hy z hz => ?_⟩) fun y => ?_
  · have := ht y hy
    rcases List.mem_cons.1 hz with h | h
    · omega
    · have := hd z h
      omega
  · constructor
    · intro h
      rcases List.mem_append.1 h with h | h
      · exact List.mem_append.2 (.inl (List.mem_of_mem_take h))
      · rcases List.mem_cons.1 h with h | h
        · simp [h]
        · exact List.mem_append.2 (.inl (List.mem_of_mem_drop h))
    · intro h
      rcases List.mem_append.1 h with h | h
      · rw [← List.take_append_drop k l] at h
        rcases List.mem_append.1 h with h | h
        · exact List.mem_append.2 (.inl h)
        · exact List.mem_append.2 (.inr (List.mem_cons.2 (.inr h)))
      · rw [List.mem_singleton.1 h]
        exact List.mem_append.2 (.inr (List.mem_cons.2 (.inl rfl)))
end Go.Proofs.YtccnhpaldmjkbaaGreat
/-
  Bottom-k lists (walk), as the reference has them.
-/
namespace Go.Proofs.YtccnhpaldmjkbaaGreat
open Go Go.RowKit Go.Av
set_option maxRecDepth 100000
attribute [local irreducible] Still Adds AWL AW Drw DrwE EStep AC AWR Weak Frz Src RetK Out InK ItK AsK RdK RetT OutT ACT ACS RetS ACP RetP
theorem first_ge (l : List Int) (x : Int) : ∃ k, k ≤ l.length ∧ (∀ j, j < k → l.getD j 0 < x) ∧ (k < l.length → x ≤ l.getD k 0) := by
  by_cases h : ∀ j, j < l.length → l.getD j 0 < x
  · exact ⟨l.length, Nat.le_refl _, h, fun h => absurd h (by omega)⟩
  · obtain ⟨q, hq, hb, hg⟩ := first_bad h
    exact ⟨q, by omega, hg, fun _ => by omega⟩
set_option maxHeartbeats 8000000 in
theorem rbot_ok (l : List Int) (x : Int) (w n Q : Nat) (hn : l.length = n) (ha : ascI l) (hl : n ≤ w) (hw : w ≤ 1024) (hQ : (smallI w (l ++ [x])).length = Q) : AC Tryz.prog 114 [.sl 1 n (intc .i64 l), iv x, iv w] (.c (.sl 1 Q (intc .i64 (smallI w (l ++ [x]))))) [] 0 := by
  have hil : (intc .i64 l).length = n := by rw [ic_len, hn]
  obtain ⟨k, k1, k2, k3⟩ := first_ge l x
  rw [hn] at k1 k3
  have hat : ∀ j, j < n → (intc .i64 l)[j]? = some (iv (l.getD j 0)) := fun j hj => ic_at (gD_at (by omega))
  by_cases hhit : k < n ∧ l.getD k 0 = x
  · obtain ⟨hk, hx⟩ := hhit
    have hs := bot_hit (w := w) (k := k) (x := x) ha (by omega) (by rw [gD_at (by omega), hx])
    rw [hs] at hQ ⊢
    obtain rfl : n = Q := by omega
    have hxk := hat k hk
    rw [hx] at hxk
    clear hs ha
    refine ac_enter tabOk (sz := 56) Tryz.func114 rfl (by rw [Tryz.ntmps114]; rfl) ?_
    repeat' (first | ((with_reducible refine aw_seqk ?_); intro K hK hX) | ((with_reducible refine isC_reg ?_); refine aw_prune [0, 1, 2, 6, 7, 8] rfl rfl ?_; with_reducible refine aw_region ?_) | ((with_reducible refine isC_draw ?_); refine aw_prune [0, 1, 2, 6, 7, 8] rfl rfl ?_; refine aw_drwF [] ?_) | refine stA ?_ | refine stD ?_ | (refine hK _ _ _ _ ?_; clear hK hX K) | (refine hX _ _ _ _ _ (by simp) ?_; clear hK hX K))
    refine aw_loopo [7] [] rfl rfl (fun j : Nat => [(7, .c (iv j))]) (fun j => []) (fun j => j ≤ k) (fun j => k - j) 0 (Nat.zero_le _) weakA ?_
    intro j hj K hK hX
    by_cases hlt : j < k
    · have hy := hat j (by omega)
      have hyx := k2 j hlt
      generalize l.getD j 0 = y at hy hyx
      clear hat k2 k3
      repeat' (first | ((with_reducible refine aw_seqk ?_); intro K hK hX) | ((with_reducible refine isC_reg ?_); refine aw_prune [0, 1, 2, 6, 7, 8] rfl rfl ?_; with_reducible refine aw_region ?_) | ((with_reducible refine isC_draw ?_); refine aw_prune [0, 1, 2, 6, 7, 8] rfl rfl ?_; refine aw_drwF [] ?_) | ((first | ((with_reducible refine isA_any ?_); refine xA ?_) | ((with_reducible refine isDk_any ?_); refine xD ?_)); (first | ((with_reducible refine e_load ?_); (first | refine ex_i (s_load1 tabOk rfl rfl rfl rfl (by (rw [Nat.mul_one]; exact hy))) ?_ | refine ex_i (s_load1r tabOk rfl rfl rfl rfl (by (rw [Nat.mul_one]; exact hy))) ?_ | refine ex_i (s_load1i tabOk rfl rfl rfl (by (rw [Nat.mul_one]; exact hy))) ?_)) | ((with_reducible refine e_ix ?_); (first | refine ex_i (s_ixV1 tabOk rfl rfl zcj rfl rfl rfl rfl rfl zle (by (rw [Nat.mul_one]; exact hy))) ?_ | refine ex_i (s_ixStr tabOk rfl rfl zcj rfl rfl (by (rw [Nat.mul_one]; exact hy))) ?_)))) | refine stA ?_ | refine stD ?_ | (refine hK _ _ _ _ ?_; clear hK hX K) | (refine hX _ _ _ _ _ (by simp) ?_; clear hK hX K))
      exact ⟨j + 1, by omega, by omega, weakA⟩
    · have hjk : j = k := by omega
      rw [hjk]
      clear hat k2 k3
      repeat' (first | ((with_reducible refine aw_seqk ?_); intro K hK hX) | ((with_reducible refine isC_reg ?_); refine aw_prune [0, 1, 2, 6, 7, 8] rfl rfl ?_; with_reducible refine aw_region ?_) | ((with_reducible refine isC_draw ?_); refine aw_prune [0, 1, 2, 6, 7, 8] rfl rfl ?_; refine aw_drwF [] ?_) | ((first | ((with_reducible refine isA_any ?_); refine xA ?_) | ((with_reducible refine isDk_any ?_); refine xD ?_)); (first | ((with_reducible refine e_load ?_); (first | refine ex_i (s_load1 tabOk rfl rfl rfl rfl (by (rw [Nat.mul_one]; exact hxk))) ?_ | refine ex_i (s_load1r tabOk rfl rfl rfl rfl (by (rw [Nat.mul_one]; exact hxk))) ?_ | refine ex_i (s_load1i tabOk rfl rfl rfl (by (rw [Nat.mul_one]; exact hxk))) ?_)) | ((with_reducible refine e_ix ?_); (first | refine ex_i (s_ixV1 tabOk rfl rfl zcj rfl rfl rfl rfl rfl zle (by (rw [Nat.mul_one]; exact hxk))) ?_ | refine ex_i (s_ixStr tabOk rfl rfl zcj rfl rfl (by (rw [Nat.mul_one]; exact hxk))) ?_)))) | refine stA ?_ | refine stD ?_ | (refine hK _ _ _ _ ?_; clear hK hX K) | (refine hX _ _ _ _ _ (by simp) ?_; clear hK hX K))
      refine retK_mk zio ztr rfl (ResL.one (ResA.tmp rfl)) zou
  · have k4 : k < n → x < l.getD k 0 := fun h => by
      have := k3 h
      have : l.getD k 0 ≠ x := fun e => hhit ⟨h, e⟩
      omega
    have hs := bot_ins (w := w) (k := k) (x := x) ha k2 (by rw [hn]; exact k4)
    rw [hs] at hQ ⊢
    have hrow : (intc .i64 l).take k ++ [iv x] ++ (intc .i64 l).drop k = intc .i64 (l.take k ++ x :: l.drop k) := by simp [intc, List.map_take, List.map_drop]
    have hrow2 : [] ++ List.take ((k - 0) * 1) (List.drop (0 * 1) (intc .i64 l)) ++ [[CV.v (Value.int IntKind.i64 x)]].flatten ++ List.take ((n - k) * 1) (List.drop (k * 1) (intc .i64 l)) = intc .i64 (l.take k ++ x :: l.drop k) := by
      rw [← hrow]
      simp only [Nat.sub_zero, Nat.mul_one, Nat.zero_mul, List.drop_zero, List.nil_append]
      rw [List.take_of_length_le (l := List.drop k _) (by rw [List.length_drop, hil]; omega)]
      rfl
    obtain ⟨M, hM⟩ : ∃ M, l.take k ++ x :: l.drop k = M := ⟨_, rfl⟩
    have hML : M.length = n + 1 := by rw [← hM, List.length_append, List.length_cons, List.length_take, List.length_drop]; omega
    have hsz : 0 + (k - 0) + 1 + (n - k) = n + 1 := by omega
    rw [hM] at hQ hrow2 ⊢
    have hil2 : (intc .i64 M).length = n + 1 := by rw [ic_len, hML]
    clear hs ha k3 hhit hrow hM
    refine ac_enter tabOk (sz := 56) Tryz.func114 rfl (by rw [Tryz.ntmps114]; rfl) ?_
    repeat' (first | ((with_reducible refine aw_seqk ?_); intro K hK hX) | ((with_reducible refine isC_reg ?_); refine aw_prune [0, 1, 2, 6, 7, 8] rfl rfl ?_; with_reducible refine aw_region ?_) | ((with_reducible refine isC_draw ?_); refine aw_prune [0, 1, 2, 6, 7, 8] rfl rfl ?_; refine aw_drwF [] ?_) | refine stA ?_ | refine stD ?_ | (refine hK _ _ _ _ ?_; clear hK hX K) | (refine hX _ _ _ _ _ (by simp) ?_; clear hK hX K))
    refine aw_loopo [7] [] rfl rfl (fun j : Nat => [(7, .c (iv j))]) (fun j => []) (fun j => j ≤ k) (fun j => k - j) 0 (Nat.zero_le _) weakA ?_
    intro j hj K hK hX
    by_cases hlt : j < k
    · have hy := hat j (by omega)
      have hyx := k2 j hlt
      generalize l.getD j 0 = y at hy hyx
      clear hat k2 k4
      repeat' (first | ((with_reducible refine aw_seqk ?_); intro K hK hX) | ((with_reducible refine isC_reg ?_); refine aw_prune [0, 1, 2, 6, 7, 8] rfl rfl ?_; with_reducible refine aw_region ?_) | ((with_reducible refine isC_draw ?_); refine aw_prune [0, 1, 2, 6, 7, 8] rfl rfl ?_; refine aw_drwF [] ?_) | ((first | ((with_reducible refine isA_any ?_); refine xA ?_) | ((with_reducible refine isDk_any ?_); refine xD ?_)); (first | ((with_reducible refine e_load ?_); (first | refine ex_i (s_load1 tabOk rfl rfl rfl rfl (by (rw [Nat.mul_one]; exact hy))) ?_ | refine ex_i (s_load1r tabOk rfl rfl rfl rfl (by (rw [Nat.mul_one]; exact hy))) ?_ | refine ex_i (s_load1i tabOk rfl rfl rfl (by (rw [Nat.mul_one]; exact hy))) ?_)) | ((with_reducible refine e_ix ?_); (first | refine ex_i (s_ixV1 tabOk rfl rfl zcj rfl rfl rfl rfl rfl zle (by (rw [Nat.mul_one]; exact hy))) ?_ | refine ex_i (s_ixStr tabOk rfl rfl zcj rfl rfl (by (rw [Nat.mul_one]; exact hy))) ?_)))) | refine stA ?_ | refine stD ?_ | (refine hK _ _ _ _ ?_; clear hK hX K) | (refine hX _ _ _ _ _ (by simp) ?_; clear hK hX K))
      exact ⟨j + 1, by omega, by omega, weakA⟩
    · have hjk : j = k := by omega
      rw [hjk]
      by_cases hkn : k < n
      · have hy := hat k hkn
        have hyx := k4 hkn
        generalize l.getD k 0 = y at hy hyx
        clear hat k2 k4
        repeat' (first | ((with_reducible refine aw_seqk ?_); intro K hK hX) | ((with_reducible refine isC_reg ?_); refine aw_prune [0, 1, 2, 6, 7, 8] rfl rfl ?_; with_reducible refine aw_region ?_) | ((with_reducible refine isE_move ?_); refine d_still0 g_none (s_move rfl) ?_) | ((with_reducible refine isC_draw (i := 6) ?_); refine aw_prune [0, 1, 2, 6, 7, 8] rfl rfl ?_; refine aw_drwE [] ?_) | ((with_reducible refine isC_draw ?_); refine aw_prune [0, 1, 2, 6, 7, 8] rfl rfl ?_; refine aw_drwF [] ?_) | ((first | ((with_reducible refine isA_any ?_); refine xA ?_) | ((with_reducible refine isDk_any ?_); refine xD ?_) | ((with_reducible refine isEk_any ?_); refine xE ?_)); (first | ((with_reducible refine e_load ?_); (first | refine ex_i (s_load1 tabOk rfl rfl rfl rfl (by (rw [Nat.mul_one]; exact hy))) ?_ | refine ex_i (s_load1r tabOk rfl rfl rfl rfl (by (rw [Nat.mul_one]; exact hy))) ?_ | refine ex_i (s_load1i tabOk rfl rfl rfl (by (rw [Nat.mul_one]; exact hy))) ?_)) | ((with_reducible refine e_ix ?_); (first | refine ex_i (s_ixV1 tabOk rfl rfl zcj rfl rfl rfl rfl rfl zle (by (rw [Nat.mul_one]; exact hy))) ?_ | refine ex_i (s_ixStr tabOk rfl rfl zcj rfl rfl (by (rw [Nat.mul_one]; exact hy))) ?_)))) | (refine drwE_end3 (by kernel_rfl) (by kernel_rfl) (by kernel_rfl) (by kernel_rfl) rfl ?_) | refine stA ?_ | refine stD ?_ | refine stE ?_ | (refine hK _ _ _ _ ?_; clear hK hX K) | (refine hX _ _ _ _ _ (by simp) ?_; clear hK hX K))
        rw [hsz, hrow2]
        by_cases hb : w < n + 1
        · have hQw : w = Q := by rw [← hQ, List.length_take]; omega
          rw [← hQw, ic_take] at hK
          repeat' (first | ((with_reducible refine aw_seqk ?_); intro K hK hX) | ((with_reducible refine isC_reg ?_); refine aw_prune [0, 1, 2, 6, 7, 8] rfl rfl ?_; with_reducible refine aw_region ?_) | ((with_reducible refine isC_draw ?_); refine aw_prune [0, 1, 2, 6, 7, 8] rfl rfl ?_; refine aw_drwF [] ?_) | refine stA ?_ | refine stD ?_ | (refine hK _ _ _ _ ?_; clear hK hX K) | (refine hX _ _ _ _ _ (by simp) ?_; clear hK hX K))
          refine retK_mk zio ztr rfl (ResL.one (ResA.tmp rfl)) zou
        · have hQw : n + 1 = Q := by rw [← hQ, List.length_take]; omega
          rw [← hQw, List.take_of_length_le (by omega)] at hK
          repeat' (first | ((with_reducible refine aw_seqk ?_); intro K hK hX) | ((with_reducible refine isC_reg ?_); refine aw_prune [0, 1, 2, 6, 7, 8] rfl rfl ?_; with_reducible refine aw_region ?_) | ((with_reducible refine isC_draw ?_); refine aw_prune [0, 1, 2, 6, 7, 8] rfl rfl ?_; refine aw_drwF [] ?_) | refine stA ?_ | refine stD ?_ | (refine hK _ _ _ _ ?_; clear hK hX K) | (refine hX _ _ _ _ _ (by simp) ?_; clear hK hX K))
          refine retK_mk zio ztr rfl (ResL.one (ResA.tmp rfl)) zou
      · clear hat k2 k4
        repeat' (first | ((with_reducible refine aw_seqk ?_); intro K hK hX) | ((with_reducible refine isC_reg ?_); refine aw_prune [0, 1, 2, 6, 7, 8] rfl rfl ?_; with_reducible refine aw_region ?_) | ((with_reducible refine isE_move ?_); refine d_still0 g_none (s_move rfl) ?_) | ((with_reducible refine isC_draw (i := 6) ?_); refine aw_prune [0, 1, 2, 6, 7, 8] rfl rfl ?_; refine aw_drwE [] ?_) | ((with_reducible refine isC_draw ?_); refine aw_prune [0, 1, 2, 6, 7, 8] rfl rfl ?_; refine aw_drwF [] ?_) | (refine drwE_end3 (by kernel_rfl) (by kernel_rfl) (by kernel_rfl) (by kernel_rfl) rfl ?_) | refine stA ?_ | refine stD ?_ | refine stE ?_ | (refine hK _ _ _ _ ?_; clear hK hX K) | (refine hX _ _ _ _ _ (by simp) ?_; clear hK hX K))
        rw [hsz, hrow2]
        by_cases hb : w < n + 1
        · have hQw : w = Q := by rw [← hQ, List.length_take]; omega
          rw [← hQw, ic_take] at hK
          repeat' (first | ((with_reducible refine aw_seqk ?_); intro K hK hX) | ((with_reducible refine isC_reg ?_); refine aw_prune [0, 1, 2, 6, 7, 8] rfl rfl ?_; with_reducible refine aw_region ?_) | ((with_reducible refine isC_draw ?_); refine aw_prune [0, 1, 2, 6, 7, 8] rfl rfl ?_; refine aw_drwF [] ?_) | refine stA ?_ | refine stD ?_ | (refine hK _ _ _ _ ?_; clear hK hX K) | (refine hX _ _ _ _ _ (by simp) ?_; clear hK hX K))
          refine retK_mk zio ztr rfl (ResL.one (ResA.tmp rfl)) zou
        · have hQw : n + 1 = Q := by rw [← hQ, List.length_take]; omega
          rw [← hQw, List.take_of_length_le (by omega)] at hK
          repeat' (first | ((with_reducible refine aw_seqk ?_); intro K hK hX) | ((with_reducible refine isC_reg ?_); refine aw_prune [0, 1, 2, 6, 7, 8] rfl rfl ?_; with_reducible refine aw_region ?_) | ((with_reducible refine isC_draw ?_); refine aw_prune [0, 1, 2, 6, 7, 8] rfl rfl ?_; refine aw_drwF [] ?_) | refine stA ?_ | refine stD ?_ | (refine hK _ _ _ _ ?_; clear hK hX K) | (refine hX _ _ _ _ _ (by simp) ?_; clear hK hX K))
          refine retK_mk zio ztr rfl (ResL.one (ResA.tmp rfl)) zou
end Go.Proofs.YtccnhpaldmjkbaaGreat
