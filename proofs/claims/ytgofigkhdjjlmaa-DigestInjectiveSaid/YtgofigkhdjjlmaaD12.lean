/-
  The laws DigestPermutes, DigestInjective, DigestSums (walk and plain).
-/
import Derived.Test.YtgofigkhdjjlmaaD11
import Derived.Test.YtgofigkhdjjlmaaDR
import Derived.Test.YtgofigkhdjjlmaaAvS
import Derived.Test.YtgofigkhdjjlmaaAvT
set_option linter.unusedVariables false
set_option linter.unusedSimpArgs false
namespace Go.Proofs.Ytgofigkhdjjlmaa
open Go Go.RowKit Go.Av
set_option maxRecDepth 100000
/- The permutation is injective. -/
theorem odd_zero (D : Nat → Bool) (a b : Nat) (hp : ∀ i, D (i + 64) = D i) (h : ∀ i, D i = (D (i + a) ^^ D (i + b))) : ∀ i, D i = false := by
  have step : ∀ k, (∀ i, D i = (D (i + k * a) ^^ D (i + k * b))) → ∀ i, D i = (D (i + (2 * k) * a) ^^ D (i + (2 * k) * b)) := by
    intro k hk i
    have h1 := hk i
    have h2 := hk (i + k * a)
    have h3 := hk (i + k * b)
    rw [h1, h2, h3]
    have e1 : i + k * a + k * b = i + k * b + k * a := by omega
    have e2 : i + k * a + k * a = i + (2 * k) * a := by rw [Nat.mul_assoc, Nat.two_mul]; omega
    have e3 : i + k * b + k * b = i + (2 * k) * b := by rw [Nat.mul_assoc, Nat.two_mul]; omega
    rw [e1, e2, e3]
    cases D (i + 2 * k * a) <;> cases D (i + k * b + k * a) <;> cases D (i + 2 * k * b) <;> rfl
  have h64 := step 32 (step 16 (step 8 (step 4 (step 2 (step 1 (fun i => by simpa using h i))))))
  have per : ∀ m i, D (i + 64 * m) = D i := by
    intro m
    induction m with
    | zero => intro i; rfl
    | succ m ih => intro i; rw [show i + 64 * (m + 1) = (i + 64 * m) + 64 by omega, hp, ih]
  intro i
  have := h64 i
  rw [show 2 * 32 = 64 from rfl, per a i, per b i] at this
  rw [this]
  cases D i <;> rfl
theorem rotr_bit (x : BitVec 64) (n i : Nat) (h0 : 0 < n) (h1 : n < 64) (hi : i < 64) : (rotr x n).getLsbD i = x.getLsbD ((i + n) % 64) := by
  unfold rotr
  rw [BitVec.getLsbD_or, BitVec.getLsbD_ushiftRight, BitVec.getLsbD_shiftLeft]
  rcases Nat.lt_or_ge (i + n) 64 with h | h
  · rw [Nat.mod_eq_of_lt h, Nat.add_comm n i]
    have : decide (i < 64 - n) = true := decide_eq_true (by omega)
    simp [this]
  · rw [show (i + n) % 64 = i - (64 - n) by omega]
    have h2 : decide (i < 64 - n) = false := decide_eq_false (by omega)
    have h3 : x.getLsbD (n + i) = false := BitVec.getLsbD_of_ge _ _ (by omega)
    simp [h2, h3, hi]
theorem mix_inj (a b : Nat) (ha : 0 < a) (ha' : a < 64) (hb : 0 < b) (hb' : b < 64) (x y : BitVec 64) (h : mix x a b = mix y a b) : x = y := by
  have key := odd_zero (fun i => x.getLsbD (i % 64) ^^ y.getLsbD (i % 64)) a b (fun i => by simp) (fun i => by
    have h1 : (mix x a b).getLsbD (i % 64) = (mix y a b).getLsbD (i % 64) := by rw [h]
    have hi : i % 64 < 64 := Nat.mod_lt _ (by decide)
    simp only [mix, BitVec.getLsbD_xor, rotr_bit _ _ _ ha ha' hi, rotr_bit _ _ _ hb hb' hi, Nat.mod_add_mod] at h1
    show (x.getLsbD (i % 64) ^^ y.getLsbD (i % 64)) = ((x.getLsbD ((i + a) % 64) ^^ y.getLsbD ((i + a) % 64)) ^^ (x.getLsbD ((i + b) % 64) ^^ y.getLsbD ((i + b) % 64)))
    revert h1
    cases x.getLsbD (i % 64) <;> cases y.getLsbD (i % 64) <;> cases x.getLsbD ((i + a) % 64) <;> cases y.getLsbD ((i + a) % 64) <;> cases x.getLsbD ((i + b) % 64) <;> cases y.getLsbD ((i + b) % 64) <;> decide)
  apply BitVec.eq_of_getLsbD_eq
  intro i hi
  have := key i
  simp only [Nat.mod_eq_of_lt hi] at this
  revert this
  cases x.getLsbD i <;> cases y.getLsbD i <;> decide
/-- The round ahead of the mixing, bit by bit. -/
def prb (k a b c d e : Bool) : Bool × Bool × Bool × Bool × Bool :=
  let c := c ^^ k
  let a := a ^^ e
  let e := e ^^ d
  let c := c ^^ b
  let t0 := !a && b
  let t1 := !b && c
  let t2 := !c && d
  let t3 := !d && e
  let t4 := !e && a
  let a := a ^^ t1
  let b := b ^^ t2
  let c := c ^^ t3
  let d := d ^^ t4
  let e := e ^^ t0
  let b := b ^^ a
  let a := a ^^ e
  let d := d ^^ c
  let c := !c
  (a, b, c, d, e)
set_option synthInstance.maxSize 1000 in
set_option synthInstance.maxHeartbeats 1000000 in
theorem prb_inj : ∀ k a b c d e a' b' c' d' e', prb k a b c d e = prb k a' b' c' d' e' → a = a' ∧ b = b' ∧ c = c' ∧ d = d' ∧ e = e' := by decide +kernel
def prw (k : BitVec 64) (s : S5) : S5 := lin2 (uk (lin k s) (tk (lin k s) 5) 5)
theorem prw_bits (k : BitVec 64) (s : S5) (i : Nat) (hi : i < 64) : ((prw k s).a.getLsbD i, (prw k s).b.getLsbD i, (prw k s).c.getLsbD i, (prw k s).d.getLsbD i, (prw k s).e.getLsbD i) = prb (k.getLsbD i) (s.a.getLsbD i) (s.b.getLsbD i) (s.c.getLsbD i) (s.d.getLsbD i) (s.e.getLsbD i) := by
  cases s
  simp [prw, lin2, uk, lin, tk, S5.get, S5.put, nx, prb, hi]
theorem prw_inj (k : BitVec 64) (s t : S5) (h : prw k s = prw k t) : s = t := by
  have key : ∀ i, i < 64 → s.a.getLsbD i = t.a.getLsbD i ∧ s.b.getLsbD i = t.b.getLsbD i ∧ s.c.getLsbD i = t.c.getLsbD i ∧ s.d.getLsbD i = t.d.getLsbD i ∧ s.e.getLsbD i = t.e.getLsbD i := fun i hi =>
    prb_inj _ _ _ _ _ _ _ _ _ _ _ (by rw [← prw_bits k s i hi, ← prw_bits k t i hi, h])
  cases s
  cases t
  simp only [S5.mk.injEq]
  exact ⟨BitVec.eq_of_getLsbD_eq fun i hi => (key i hi).1, BitVec.eq_of_getLsbD_eq fun i hi => (key i hi).2.1, BitVec.eq_of_getLsbD_eq fun i hi => (key i hi).2.2.1, BitVec.eq_of_getLsbD_eq fun i hi => (key i hi).2.2.2.1, BitVec.eq_of_getLsbD_eq fun i hi => (key i hi).2.2.2.2⟩
theorem rnd_prw (k : BitVec 64) (s : S5) : rnd k s = ⟨mix (prw k s).a 19 28, mix (prw k s).b 61 39, mix (prw k s).c 1 6, mix (prw k s).d 10 17, mix (prw k s).e 7 41⟩ := by
  cases s
  rfl
theorem rnd_inj (k : BitVec 64) (s t : S5) (h : rnd k s = rnd k t) : s = t := by
  rw [rnd_prw, rnd_prw] at h
  simp only [S5.mk.injEq] at h
  obtain ⟨h1, h2, h3, h4, h5⟩ := h
  refine prw_inj k s t ?_
  have e1 := mix_inj 19 28 (by decide) (by decide) (by decide) (by decide) _ _ h1
  have e2 := mix_inj 61 39 (by decide) (by decide) (by decide) (by decide) _ _ h2
  have e3 := mix_inj 1 6 (by decide) (by decide) (by decide) (by decide) _ _ h3
  have e4 := mix_inj 10 17 (by decide) (by decide) (by decide) (by decide) _ _ h4
  have e5 := mix_inj 7 41 (by decide) (by decide) (by decide) (by decide) _ _ h5
  revert e1 e2 e3 e4 e5
  cases prw k s
  cases prw k t
  simp only [S5.mk.injEq]
  exact fun a b c d e => ⟨a, b, c, d, e⟩
theorem perm_inj : ∀ (r : Nat) (s t : S5), perm r s = perm r t → s = t
  | 0, s, t, h => h
  | r + 1, s, t, h => perm_inj r s t (rnd_inj _ _ _ h)
theorem permute_inj (s t : S5) : permute s = permute t ↔ s = t := ⟨perm_inj 12 s t, fun h => by rw [h]⟩
theorem cs_int (s : S5) : s.cs = intc .u64 [(s.a.toNat : Int), (s.b.toNat : Int), (s.c.toNat : Int), (s.d.toNat : Int), (s.e.toNat : Int)] := rfl
theorem s5_inj (s t : S5) : ([(s.a.toNat : Int), (s.b.toNat : Int), (s.c.toNat : Int), (s.d.toNat : Int), (s.e.toNat : Int)] = [(t.a.toNat : Int), (t.b.toNat : Int), (t.c.toNat : Int), (t.d.toNat : Int), (t.e.toNat : Int)]) ↔ s = t := by
  constructor
  · intro h
    simp only [List.cons.injEq, and_true] at h
    obtain ⟨h1, h2, h3, h4, h5⟩ := h
    cases s
    cases t
    simp only [S5.mk.injEq]
    simp only at h1 h2 h3 h4 h5
    exact ⟨BitVec.eq_of_toNat_eq (by omega), BitVec.eq_of_toNat_eq (by omega), BitVec.eq_of_toNat_eq (by omega), BitVec.eq_of_toNat_eq (by omega), BitVec.eq_of_toNat_eq (by omega)⟩
  · rintro rfl; rfl
section
variable {P : Program} {tab : Tab} {ev : Evl} {h : Heap} {d : Option Tmp} {T ty T' E : Nat} {x y : Operand} {pos : String} {aft : Array Edge} {gd : Option (Nat × Bool)} {e e' : TyE} {s t : S5} {b : Bool} (tb : TabOk P tab) (hg : P.eqGuardType P.depth T = false) (hT : tyLook tab T = some e) (hk : e.kind = .array 5 E) (hE : tyLook tab E = some e') (hke : e'.kind = .int .u64) (hs : Nat.beq e'.size 1 = true) (hx : ev x = some (.c (.agg s.cs))) (hy : ev y = some (.c (.agg t.cs)))
include tb hg hT hk hE hke hs hx hy
theorem s_eqlS5 (hb : decide (s = t) = b) : Still P ⟨d, .binOp .eql T x y T', ty, pos, aft, gd⟩ ev h (.c (.v (.bool b))) :=
  s_eqlA tb hg hT hk hE hke hs hx hy (cs_int s) (cs_int t) rfl rfl (by rw [← hb]; exact decide_eq_decide.2 (s5_inj s t))
end
attribute [local irreducible] Still Adds AWL AW Drw AC AWR Weak Frz Src RetK Out InK permute
set_option maxHeartbeats 4000000 in
theorem law_permutes (s : S5) : AC Try.prog 5 [.agg s.cs] (.c (.v (.bool true))) [] 0 := by
  refine ac_enter tabOk (sz := 11) Try.func5 rfl (by rw [Try.ntmps5]; rfl) ?_
  repeat' (first
    | ((with_reducible refine isC_any ?_); (first | ((with_reducible refine aw_seqk ?_); intro K hK hX) | ((with_reducible refine isC_reg ?_); refine aw_prune [0, 1, 2] rfl rfl ?_; with_reducible refine aw_region ?_) | ((with_reducible refine isC_cond ?_); (first | (refine aw_condT rfl rfl ?_) | (refine aw_condF rfl rfl ?_) | (refine aw_condT rfl (by first | rfl | assumption | exact decide_eq_true (by omega) | (simp only [*] <;> fail) | fail) ?_) | (refine aw_condF rfl (by first | rfl | assumption | exact decide_eq_false (by omega) | (simp only [*] <;> fail) | fail) ?_))) | ((with_reducible refine isC_draw ?_); refine aw_prune [0, 1, 2] rfl rfl ?_; refine aw_drwF [] ?_) | (with_reducible refine aw_block ?_) | (with_reducible refine aw_skip ?_) | (with_reducible refine aw_exit ?_) | (with_reducible refine aw_ret ?_)))
    | (refine drw_end (by kernel_rfl) (by kernel_rfl) (by kernel_rfl) rfl ?_)
    | ((with_reducible refine isA_g ?_); (refine a_skip (g_some rfl rfl (by first | rfl | assumption | (simp only [*] <;> fail) | fail)) rfl ?_))
    | ((with_reducible refine isD_g ?_); (refine d_skip (g_some rfl rfl (by first | rfl | assumption | (simp only [*] <;> fail) | fail)) ?_))
    | ((first | with_reducible refine isA_call ?_ | with_reducible refine isD_call ?_); (first | refine z_a g_none rfl ?_ | refine z_d g_none ?_ | refine z_n g_none ?_ | refine z_a (g_some rfl rfl (by first | rfl | assumption | (simp only [*] <;> fail) | fail)) rfl ?_ | refine z_d (g_some rfl rfl (by first | rfl | assumption | (simp only [*] <;> fail) | fail)) ?_); (first | (refine ct_0 (permute_ok s) (by unfold Body; kernel_rfl) rfl (by first | exact cvl_rfl | ((repeat' (first | exact cvl_nil | refine cvl_cons ?_ ?_ | (first | exact cv_rfl | exact cv_nil | (refine cv_sl ?_ ?_ <;> first | rfl | omega | (simp <;> fail) | fail) | (refine cv_eq ?_; first | rfl | (simp <;> fail) | fail)))) <;> fail) | fail) rfl ?_) | (refine ct_0 (rpermute_ok s) (by unfold Body; kernel_rfl) rfl (by first | exact cvl_rfl | ((repeat' (first | exact cvl_nil | refine cvl_cons ?_ ?_ | (first | exact cv_rfl | exact cv_nil | (refine cv_sl ?_ ?_ <;> first | rfl | omega | (simp <;> fail) | fail) | (refine cv_eq ?_; first | rfl | (simp <;> fail) | fail)))) <;> fail) | fail) rfl ?_) | (refine ct_0 (awake_ok) (by unfold Body; kernel_rfl) rfl (by first | exact cvl_rfl | ((repeat' (first | exact cvl_nil | refine cvl_cons ?_ ?_ | (first | exact cv_rfl | exact cv_nil | (refine cv_sl ?_ ?_ <;> first | rfl | omega | (simp <;> fail) | fail) | (refine cv_eq ?_; first | rfl | (simp <;> fail) | fail)))) <;> fail) | fail) rfl ?_)))
    | ((first | with_reducible refine isA_box ?_ | with_reducible refine isD_box ?_); (first | refine y_a g_none rfl ?_ | refine y_d g_none ?_); (first | refine ey_i (a_boxR (tab := tab) rfl rfl rfl) rfl ?_ | refine ey_i (a_box1 rfl rfl) rfl ?_ | refine ey_i (a_boxA rfl (by first | exact Parts.mixed _ | exact Parts.closed _)) rfl ?_))
    | ((first | refine x_a g_none rfl ?_ | refine x_d g_none ?_ | refine x_a (g_some rfl rfl (by first | rfl | assumption | (simp only [*] <;> fail) | fail)) rfl ?_ | refine x_d (g_some rfl rfl (by first | rfl | assumption | (simp only [*] <;> fail) | fail)) ?_); (first
      | ((with_reducible refine e_move ?_); (first | refine ex_i (s_move rfl) ?_))
      | ((with_reducible refine e_load ?_); (first | refine ex_i (s_load1 tabOk rfl rfl rfl rfl (by first | rfl | fail)) ?_ | refine ex_i (s_load1r tabOk rfl rfl rfl rfl (by first | rfl | fail)) ?_ | refine ex_i (s_load1i tabOk rfl rfl rfl (by first | rfl | fail)) ?_ | refine ex_i (s_loadA tabOk rfl rfl rfl rfl rfl rfl (by first | exact IsAgg.closed rfl rfl | exact IsAgg.mixed _)) ?_ | refine ex_i (s_loadAr tabOk rfl rfl rfl rfl (by first | fail | exact whole0 (by first | rfl | omega) | rfl) (by first | rfl | (simp <;> fail) | omega | (simp; omega))) ?_ | refine ex_i (s_loadAi tabOk rfl rfl rfl (by first | fail | exact whole0 (by first | rfl | omega) | rfl) (by first | rfl | (simp <;> fail) | omega | (simp; omega))) ?_))
      | ((with_reducible refine e_bin ?_); (first | refine ex_i (s_eqlS5 tabOk (by kernel_rfl) rfl rfl rfl rfl rfl rfl rfl (decide_eq_true rfl)) ?_ | refine ex_i (s_cmp rfl rfl rfl rfl) ?_ | refine ex_i (s_eqlB tabOk rfl rfl rfl rfl rfl) ?_ | refine ex_i (s_eqlS rfl rfl rfl) ?_))
      | ((with_reducible refine e_assign ?_); (first | refine ex_i (s_assign rfl) ?_))
      | ((with_reducible refine e_pick ?_); (first | refine ex_i (s_pickT rfl rfl) ?_ | refine ex_i (s_pickF rfl rfl) ?_ | refine ex_i (s_pickTb rfl (by first | assumption | exact decide_eq_true (by omega) | (simp only [*] <;> fail) | fail) rfl) ?_ | refine ex_i (s_pickFb rfl (by first | assumption | exact decide_eq_false (by omega) | (simp only [*] <;> fail) | fail) rfl) ?_))))
    | (with_reducible refine awl_nil ?_)
    | (refine hK _ _ _ _ ?_; clear hK hX K)
    | (refine hX _ _ _ _ _ (by simp) ?_; clear hK hX K)
    | (with_reducible refine k_then ?_)
    | (with_reducible refine k_thenX ?_)
    | (with_reducible refine k_thenR ?_)
    | (with_reducible refine k_blk ?_)
    | (with_reducible refine k_blkR ?_)
    | (refine k_blkH rfl ?_)
    | (refine k_blkM rfl ?_))
  refine retK_mk (by first | exact .inl rfl | exact .inr rfl) (by exact trivial) (ResL.one (ResA.tmp rfl)) (by first | exact out_c (by first | exact frz_c cv_rfl | exact frz_c cv_nil | exact frz_ownW rfl rfl (by first | rfl | (simp <;> fail) | omega | (simp; omega)) | exact frz_eq (frz_c cv_rfl) (by first | rfl | (simp <;> fail) | fail)) | exact out_own rfl rfl | exact out_t (frzl_cons (by first | exact frz_c cv_rfl | exact frz_c cv_nil | exact frz_ownW rfl rfl (by first | rfl | (simp <;> fail) | omega | (simp; omega)) | exact frz_eq (frz_c cv_rfl) (by first | rfl | (simp <;> fail) | fail)) frzl_nil) | exact out_t (frzl_cons (by first | exact frz_c cv_rfl | exact frz_c cv_nil | exact frz_ownW rfl rfl (by first | rfl | (simp <;> fail) | omega | (simp; omega)) | exact frz_eq (frz_c cv_rfl) (by first | rfl | (simp <;> fail) | fail)) (frzl_cons (by first | exact frz_c cv_rfl | exact frz_c cv_nil | exact frz_ownW rfl rfl (by first | rfl | (simp <;> fail) | omega | (simp; omega)) | exact frz_eq (frz_c cv_rfl) (by first | rfl | (simp <;> fail) | fail)) frzl_nil)) | exact out_t frzl_nil)
set_option maxHeartbeats 4000000 in
theorem law_injective (s t : S5) : AC Try.prog 6 [.agg s.cs, .agg t.cs] (.c (.v (.bool true))) [] 0 := by
  have hb : (decide (permute s = permute t) == decide (s = t)) = true := by
    by_cases h : s = t
    · subst h; simp
    · rw [decide_eq_false h, decide_eq_false (fun e => h ((permute_inj s t).1 e))]; rfl
  refine ac_enter tabOk (sz := 17) Try.func6 rfl (by rw [Try.ntmps6]; rfl) ?_
  repeat' (first
    | ((with_reducible refine isC_any ?_); (first | ((with_reducible refine aw_seqk ?_); intro K hK hX) | ((with_reducible refine isC_reg ?_); refine aw_prune [0, 1, 2, 3, 4] rfl rfl ?_; with_reducible refine aw_region ?_) | ((with_reducible refine isC_cond ?_); (first | (refine aw_condT rfl rfl ?_) | (refine aw_condF rfl rfl ?_) | (refine aw_condT rfl (by first | rfl | assumption | exact decide_eq_true (by omega) | (simp only [*] <;> fail) | fail) ?_) | (refine aw_condF rfl (by first | rfl | assumption | exact decide_eq_false (by omega) | (simp only [*] <;> fail) | fail) ?_))) | ((with_reducible refine isC_draw ?_); refine aw_prune [0, 1, 2, 3, 4] rfl rfl ?_; refine aw_drwF [] ?_) | (with_reducible refine aw_block ?_) | (with_reducible refine aw_skip ?_) | (with_reducible refine aw_exit ?_) | (with_reducible refine aw_ret ?_)))
    | (refine drw_end (by kernel_rfl) (by kernel_rfl) (by kernel_rfl) rfl ?_)
    | ((with_reducible refine isA_g ?_); (refine a_skip (g_some rfl rfl (by first | rfl | assumption | (simp only [*] <;> fail) | fail)) rfl ?_))
    | ((with_reducible refine isD_g ?_); (refine d_skip (g_some rfl rfl (by first | rfl | assumption | (simp only [*] <;> fail) | fail)) ?_))
    | ((first | with_reducible refine isA_call ?_ | with_reducible refine isD_call ?_); (first | refine z_a g_none rfl ?_ | refine z_d g_none ?_ | refine z_n g_none ?_ | refine z_a (g_some rfl rfl (by first | rfl | assumption | (simp only [*] <;> fail) | fail)) rfl ?_ | refine z_d (g_some rfl rfl (by first | rfl | assumption | (simp only [*] <;> fail) | fail)) ?_); (first | (refine ct_0 (permute_ok s) (by unfold Body; kernel_rfl) rfl (by first | exact cvl_rfl | ((repeat' (first | exact cvl_nil | refine cvl_cons ?_ ?_ | (first | exact cv_rfl | exact cv_nil | (refine cv_sl ?_ ?_ <;> first | rfl | omega | (simp <;> fail) | fail) | (refine cv_eq ?_; first | rfl | (simp <;> fail) | fail)))) <;> fail) | fail) rfl ?_) | (refine ct_0 (permute_ok t) (by unfold Body; kernel_rfl) rfl (by first | exact cvl_rfl | ((repeat' (first | exact cvl_nil | refine cvl_cons ?_ ?_ | (first | exact cv_rfl | exact cv_nil | (refine cv_sl ?_ ?_ <;> first | rfl | omega | (simp <;> fail) | fail) | (refine cv_eq ?_; first | rfl | (simp <;> fail) | fail)))) <;> fail) | fail) rfl ?_) | (refine ct_0 (awake_ok) (by unfold Body; kernel_rfl) rfl (by first | exact cvl_rfl | ((repeat' (first | exact cvl_nil | refine cvl_cons ?_ ?_ | (first | exact cv_rfl | exact cv_nil | (refine cv_sl ?_ ?_ <;> first | rfl | omega | (simp <;> fail) | fail) | (refine cv_eq ?_; first | rfl | (simp <;> fail) | fail)))) <;> fail) | fail) rfl ?_)))
    | ((first | with_reducible refine isA_box ?_ | with_reducible refine isD_box ?_); (first | refine y_a g_none rfl ?_ | refine y_d g_none ?_); (first | refine ey_i (a_boxR (tab := tab) rfl rfl rfl) rfl ?_ | refine ey_i (a_box1 rfl rfl) rfl ?_ | refine ey_i (a_boxA rfl (by first | exact Parts.mixed _ | exact Parts.closed _)) rfl ?_))
    | ((first | refine x_a g_none rfl ?_ | refine x_d g_none ?_ | refine x_a (g_some rfl rfl (by first | rfl | assumption | (simp only [*] <;> fail) | fail)) rfl ?_ | refine x_d (g_some rfl rfl (by first | rfl | assumption | (simp only [*] <;> fail) | fail)) ?_); (first
      | ((with_reducible refine e_move ?_); (first | refine ex_i (s_move rfl) ?_))
      | ((with_reducible refine e_load ?_); (first | refine ex_i (s_load1 tabOk rfl rfl rfl rfl (by first | rfl | fail)) ?_ | refine ex_i (s_load1r tabOk rfl rfl rfl rfl (by first | rfl | fail)) ?_ | refine ex_i (s_load1i tabOk rfl rfl rfl (by first | rfl | fail)) ?_ | refine ex_i (s_loadA tabOk rfl rfl rfl rfl rfl rfl (by first | exact IsAgg.closed rfl rfl | exact IsAgg.mixed _)) ?_ | refine ex_i (s_loadAr tabOk rfl rfl rfl rfl (by first | fail | exact whole0 (by first | rfl | omega) | rfl) (by first | rfl | (simp <;> fail) | omega | (simp; omega))) ?_ | refine ex_i (s_loadAi tabOk rfl rfl rfl (by first | fail | exact whole0 (by first | rfl | omega) | rfl) (by first | rfl | (simp <;> fail) | omega | (simp; omega))) ?_))
      | ((with_reducible refine e_bin ?_); (first | refine ex_i (s_eqlS5 tabOk (by kernel_rfl) rfl rfl rfl rfl rfl rfl rfl rfl) ?_ | refine ex_i (s_eqlB tabOk rfl rfl rfl rfl hb) ?_ | refine ex_i (s_cmp rfl rfl rfl rfl) ?_ | refine ex_i (s_eqlB tabOk rfl rfl rfl rfl rfl) ?_ | refine ex_i (s_eqlS rfl rfl rfl) ?_))
      | ((with_reducible refine e_assign ?_); (first | refine ex_i (s_assign rfl) ?_))
      | ((with_reducible refine e_pick ?_); (first | refine ex_i (s_pickT rfl rfl) ?_ | refine ex_i (s_pickF rfl rfl) ?_ | refine ex_i (s_pickTb rfl (by first | assumption | exact decide_eq_true (by omega) | (simp only [*] <;> fail) | fail) rfl) ?_ | refine ex_i (s_pickFb rfl (by first | assumption | exact decide_eq_false (by omega) | (simp only [*] <;> fail) | fail) rfl) ?_))))
    | (with_reducible refine awl_nil ?_)
    | (refine hK _ _ _ _ ?_; clear hK hX K)
    | (refine hX _ _ _ _ _ (by simp) ?_; clear hK hX K)
    | (with_reducible refine k_then ?_)
    | (with_reducible refine k_thenX ?_)
    | (with_reducible refine k_thenR ?_)
    | (with_reducible refine k_blk ?_)
    | (with_reducible refine k_blkR ?_)
    | (refine k_blkH rfl ?_)
    | (refine k_blkM rfl ?_))
  refine retK_mk (by first | exact .inl rfl | exact .inr rfl) (by exact trivial) (ResL.one (ResA.tmp rfl)) (by first | exact out_c (by first | exact frz_c cv_rfl | exact frz_c cv_nil | exact frz_ownW rfl rfl (by first | rfl | (simp <;> fail) | omega | (simp; omega)) | exact frz_eq (frz_c cv_rfl) (by first | rfl | (simp <;> fail) | fail)) | exact out_own rfl rfl | exact out_t (frzl_cons (by first | exact frz_c cv_rfl | exact frz_c cv_nil | exact frz_ownW rfl rfl (by first | rfl | (simp <;> fail) | omega | (simp; omega)) | exact frz_eq (frz_c cv_rfl) (by first | rfl | (simp <;> fail) | fail)) frzl_nil) | exact out_t (frzl_cons (by first | exact frz_c cv_rfl | exact frz_c cv_nil | exact frz_ownW rfl rfl (by first | rfl | (simp <;> fail) | omega | (simp; omega)) | exact frz_eq (frz_c cv_rfl) (by first | rfl | (simp <;> fail) | fail)) (frzl_cons (by first | exact frz_c cv_rfl | exact frz_c cv_nil | exact frz_ownW rfl rfl (by first | rfl | (simp <;> fail) | omega | (simp; omega)) | exact frz_eq (frz_c cv_rfl) (by first | rfl | (simp <;> fail) | fail)) frzl_nil)) | exact out_t frzl_nil)
set_option maxHeartbeats 4000000 in
theorem law_sums (dom : BitVec 64) (l : List UInt8) (n : Nat) (hl : l.length = n) : AC Try.prog 7 [wv dom, .sl 1 n (u8c l)] (.c (.v (.bool true))) [] 0 := by
  by_cases hn : n ≤ 300
  · have hs := sum_length dom l
    refine ac_enter tabOk (sz := 19) Try.func7 rfl (by rw [Try.ntmps7]; rfl) ?_
    repeat' (first
    | ((with_reducible refine isC_any ?_); (first | ((with_reducible refine aw_seqk ?_); intro K hK hX) | ((with_reducible refine isC_reg ?_); refine aw_prune [0, 1, 4] rfl rfl ?_; with_reducible refine aw_region ?_) | ((with_reducible refine isC_cond ?_); (first | (refine aw_condT rfl rfl ?_) | (refine aw_condF rfl rfl ?_) | (refine aw_condT rfl (by first | rfl | assumption | exact decide_eq_true (by omega) | (simp only [*] <;> fail) | fail) ?_) | (refine aw_condF rfl (by first | rfl | assumption | exact decide_eq_false (by omega) | (simp only [*] <;> fail) | fail) ?_))) | (with_reducible refine aw_block ?_) | (with_reducible refine aw_skip ?_) | (with_reducible refine aw_exit ?_) | (with_reducible refine aw_ret ?_)))
    | ((with_reducible refine isA_g ?_); (refine a_skip (g_some rfl rfl (by first | rfl | assumption | (simp only [*] <;> fail) | fail)) rfl ?_))
    | ((with_reducible refine isA_call ?_); (first | refine z_a g_none rfl ?_ | refine z_n g_none ?_ | refine z_a (g_some rfl rfl (by first | rfl | assumption | (simp only [*] <;> fail) | fail)) rfl ?_); (first | (refine ct_0 (sum_ok dom l n hl (by simp only [maxLen]; omega)) (by unfold Body; kernel_rfl) rfl (by first | exact cvl_rfl | ((repeat' (first | exact cvl_nil | refine cvl_cons ?_ ?_ | (first | exact cv_rfl | exact cv_nil | (refine cv_sl ?_ ?_ <;> first | rfl | omega | (simp <;> fail) | fail) | (refine cv_eq ?_; first | rfl | (simp <;> fail) | fail)))) <;> fail) | fail) rfl ?_) | (refine ct_0 (rsum_ok dom l n hl (by omega)) (by unfold Body; kernel_rfl) rfl (by first | exact cvl_rfl | ((repeat' (first | exact cvl_nil | refine cvl_cons ?_ ?_ | (first | exact cv_rfl | exact cv_nil | (refine cv_sl ?_ ?_ <;> first | rfl | omega | (simp <;> fail) | fail) | (refine cv_eq ?_; first | rfl | (simp <;> fail) | fail)))) <;> fail) | fail) rfl ?_) | (refine ct_0 (awake_ok) (by unfold Body; kernel_rfl) rfl (by first | exact cvl_rfl | ((repeat' (first | exact cvl_nil | refine cvl_cons ?_ ?_ | (first | exact cv_rfl | exact cv_nil | (refine cv_sl ?_ ?_ <;> first | rfl | omega | (simp <;> fail) | fail) | (refine cv_eq ?_; first | rfl | (simp <;> fail) | fail)))) <;> fail) | fail) rfl ?_)))
    | ((first | refine x_a g_none rfl ?_ | refine x_a (g_some rfl rfl (by first | rfl | assumption | (simp only [*] <;> fail) | fail)) rfl ?_); (first
      | ((with_reducible refine e_move ?_); (first | refine ex_i (s_move rfl) ?_))
      | ((with_reducible refine e_bin ?_); (first | refine ex_i (s_eqlU tabOk (by kernel_rfl) rfl rfl rfl rfl rfl rfl rfl rfl rfl hs hs (decide_eq_true rfl)) ?_ | refine ex_i (s_cmp rfl rfl rfl rfl) ?_ | refine ex_i (s_eqlB tabOk rfl rfl rfl rfl rfl) ?_ | refine ex_i (s_eqlS rfl rfl rfl) ?_))
      | ((with_reducible refine e_assign ?_); (first | refine ex_i (s_assign rfl) ?_))
      | ((with_reducible refine e_bi ?_); (first | refine ex_i (s_lenC tabOk rfl rfl rfl) ?_ | refine ex_i (s_lenO tabOk rfl rfl rfl) ?_ | refine ex_i (s_lenS tabOk rfl rfl rfl) ?_ | refine ex_i (s_lenN tabOk rfl rfl rfl) ?_))
      | ((with_reducible refine e_pick ?_); (first | refine ex_i (s_pickT rfl rfl) ?_ | refine ex_i (s_pickF rfl rfl) ?_ | refine ex_i (s_pickTb rfl (by first | assumption | exact decide_eq_true (by omega) | (simp only [*] <;> fail) | fail) rfl) ?_ | refine ex_i (s_pickFb rfl (by first | assumption | exact decide_eq_false (by omega) | (simp only [*] <;> fail) | fail) rfl) ?_))))
    | (with_reducible refine awl_nil ?_)
    | (refine hK _ _ _ _ ?_; clear hK hX K)
    | (refine hX _ _ _ _ _ (by simp) ?_; clear hK hX K)
    | (with_reducible refine k_then ?_)
    | (with_reducible refine k_thenX ?_)
    | (with_reducible refine k_thenR ?_)
    | (with_reducible refine k_blk ?_)
    | (with_reducible refine k_blkR ?_)
    | (refine k_blkH rfl ?_)
    | (refine k_blkM rfl ?_))
    refine retK_mk (by first | exact .inl rfl | exact .inr rfl) (by exact trivial) (ResL.one (ResA.tmp rfl)) (by first | exact out_c (by first | exact frz_c cv_rfl | exact frz_c cv_nil | exact frz_ownW rfl rfl (by first | rfl | (simp <;> fail) | omega | (simp; omega)) | exact frz_eq (frz_c cv_rfl) (by first | rfl | (simp <;> fail) | fail)) | exact out_own rfl rfl | exact out_t (frzl_cons (by first | exact frz_c cv_rfl | exact frz_c cv_nil | exact frz_ownW rfl rfl (by first | rfl | (simp <;> fail) | omega | (simp; omega)) | exact frz_eq (frz_c cv_rfl) (by first | rfl | (simp <;> fail) | fail)) frzl_nil) | exact out_t (frzl_cons (by first | exact frz_c cv_rfl | exact frz_c cv_nil | exact frz_ownW rfl rfl (by first | rfl | (simp <;> fail) | omega | (simp; omega)) | exact frz_eq (frz_c cv_rfl) (by first | rfl | (simp <;> fail) | fail)) (frzl_cons (by first | exact frz_c cv_rfl | exact frz_c cv_nil | exact frz_ownW rfl rfl (by first | rfl | (simp <;> fail) | omega | (simp; omega)) | exact frz_eq (frz_c cv_rfl) (by first | rfl | (simp <;> fail) | fail)) frzl_nil)) | exact out_t frzl_nil)
  · refine ac_enter tabOk (sz := 19) Try.func7 rfl (by rw [Try.ntmps7]; rfl) ?_
    repeat' (first
    | ((with_reducible refine isC_any ?_); (first | ((with_reducible refine aw_seqk ?_); intro K hK hX) | ((with_reducible refine isC_reg ?_); refine aw_prune [0, 1, 4] rfl rfl ?_; with_reducible refine aw_region ?_) | ((with_reducible refine isC_cond ?_); (first | (refine aw_condT rfl rfl ?_) | (refine aw_condF rfl rfl ?_) | (refine aw_condT rfl (by first | rfl | assumption | exact decide_eq_true (by omega) | (simp only [*] <;> fail) | fail) ?_) | (refine aw_condF rfl (by first | rfl | assumption | exact decide_eq_false (by omega) | (simp only [*] <;> fail) | fail) ?_))) | (with_reducible refine aw_block ?_) | (with_reducible refine aw_skip ?_) | (with_reducible refine aw_exit ?_) | (with_reducible refine aw_ret ?_)))
    | ((with_reducible refine isA_g ?_); (refine a_skip (g_some rfl rfl (by first | rfl | assumption | (simp only [*] <;> fail) | fail)) rfl ?_))
    | ((with_reducible refine isA_call ?_); (first | refine z_a g_none rfl ?_ | refine z_n g_none ?_ | refine z_a (g_some rfl rfl (by first | rfl | assumption | (simp only [*] <;> fail) | fail)) rfl ?_); (first | (refine ct_0 (awake_ok) (by unfold Body; kernel_rfl) rfl (by first | exact cvl_rfl | ((repeat' (first | exact cvl_nil | refine cvl_cons ?_ ?_ | (first | exact cv_rfl | exact cv_nil | (refine cv_sl ?_ ?_ <;> first | rfl | omega | (simp <;> fail) | fail) | (refine cv_eq ?_; first | rfl | (simp <;> fail) | fail)))) <;> fail) | fail) rfl ?_)))
    | ((first | refine x_a g_none rfl ?_ | refine x_a (g_some rfl rfl (by first | rfl | assumption | (simp only [*] <;> fail) | fail)) rfl ?_); (first
      | ((with_reducible refine e_move ?_); (first | refine ex_i (s_move rfl) ?_))
      | ((with_reducible refine e_bin ?_); (first | refine ex_i (s_cmp rfl rfl rfl rfl) ?_ | refine ex_i (s_eqlB tabOk rfl rfl rfl rfl rfl) ?_ | refine ex_i (s_eqlS rfl rfl rfl) ?_))
      | ((with_reducible refine e_assign ?_); (first | refine ex_i (s_assign rfl) ?_))
      | ((with_reducible refine e_bi ?_); (first | refine ex_i (s_lenC tabOk rfl rfl rfl) ?_ | refine ex_i (s_lenO tabOk rfl rfl rfl) ?_ | refine ex_i (s_lenS tabOk rfl rfl rfl) ?_ | refine ex_i (s_lenN tabOk rfl rfl rfl) ?_))
      | ((with_reducible refine e_pick ?_); (first | refine ex_i (s_pickT rfl rfl) ?_ | refine ex_i (s_pickF rfl rfl) ?_ | refine ex_i (s_pickTb rfl (by first | assumption | exact decide_eq_true (by omega) | (simp only [*] <;> fail) | fail) rfl) ?_ | refine ex_i (s_pickFb rfl (by first | assumption | exact decide_eq_false (by omega) | (simp only [*] <;> fail) | fail) rfl) ?_))))
    | (with_reducible refine awl_nil ?_)
    | (refine hK _ _ _ _ ?_; clear hK hX K)
    | (refine hX _ _ _ _ _ (by simp) ?_; clear hK hX K)
    | (with_reducible refine k_then ?_)
    | (with_reducible refine k_thenX ?_)
    | (with_reducible refine k_thenR ?_)
    | (with_reducible refine k_blk ?_)
    | (with_reducible refine k_blkR ?_)
    | (refine k_blkH rfl ?_)
    | (refine k_blkM rfl ?_))
    refine retK_mk (by first | exact .inl rfl | exact .inr rfl) (by exact trivial) (ResL.one (ResA.tmp rfl)) (by first | exact out_c (by first | exact frz_c cv_rfl | exact frz_c cv_nil | exact frz_ownW rfl rfl (by first | rfl | (simp <;> fail) | omega | (simp; omega)) | exact frz_eq (frz_c cv_rfl) (by first | rfl | (simp <;> fail) | fail)) | exact out_own rfl rfl | exact out_t (frzl_cons (by first | exact frz_c cv_rfl | exact frz_c cv_nil | exact frz_ownW rfl rfl (by first | rfl | (simp <;> fail) | omega | (simp; omega)) | exact frz_eq (frz_c cv_rfl) (by first | rfl | (simp <;> fail) | fail)) frzl_nil) | exact out_t (frzl_cons (by first | exact frz_c cv_rfl | exact frz_c cv_nil | exact frz_ownW rfl rfl (by first | rfl | (simp <;> fail) | omega | (simp; omega)) | exact frz_eq (frz_c cv_rfl) (by first | rfl | (simp <;> fail) | fail)) (frzl_cons (by first | exact frz_c cv_rfl | exact frz_c cv_nil | exact frz_ownW rfl rfl (by first | rfl | (simp <;> fail) | omega | (simp; omega)) | exact frz_eq (frz_c cv_rfl) (by first | rfl | (simp <;> fail) | fail)) frzl_nil)) | exact out_t frzl_nil)
end Go.Proofs.Ytgofigkhdjjlmaa
