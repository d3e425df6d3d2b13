/-
  Joined texts: T6 T7 T8 U3 U6 Z8a. Lemmas; no statement of a law.
-/
import Derived.Test.YtccnhpaldmjkbaaGreatM9
set_option linter.unusedSimpArgs false
set_option linter.unusedVariables false
/-
  Sorted lists of entries (walk), as the reference has them.
-/
namespace Go.Proofs.YtccnhpaldmjkbaaGreat
open Go Go.RowKit Go.Av
set_option maxRecDepth 100000
def sortE (l : List En) : List En :=
  if h : l.length ≤ 1 then l.filter fun e => e.n ≠ 0
  else mergeE (sortE (l.take (l.length / 2))) (sortE (l.drop (l.length / 2)))
termination_by l.length
decreasing_by
  · rw [List.length_take]; omega
  · rw [List.length_drop]; omega
theorem sortE_big {l : List En} {n : Nat} (hn : l.length = n) (h : 1 < n) : sortE l = mergeE (sortE (l.take (n / 2))) (sortE (l.drop (n / 2))) := by
  subst hn
  rw [sortE, dif_neg (by omega)]
theorem ec_take : ∀ (l : List En) (k : Nat), (ec l).take (k * 2) = ec (l.take k)
  | [], k => by simp [ec]
  | e :: l, 0 => by simp [ec]
  | e :: l, k + 1 => by
    have := ec_take l k
    have hl : e.c.length = 2 := rfl
    unfold ec at this ⊢
    rw [List.take_succ_cons, List.flatMap_cons, List.flatMap_cons, show (k + 1) * 2 = e.c.length + k * 2 by rw [hl]; omega, List.take_length_add_append, this]
theorem ec_drop : ∀ (l : List En) (k : Nat), (ec l).drop (k * 2) = ec (l.drop k)
  | [], k => by simp [ec]
  | e :: l, 0 => by simp [ec]
  | e :: l, k + 1 => by
    have := ec_drop l k
    have hl : e.c.length = 2 := rfl
    unfold ec at this ⊢
    rw [List.drop_succ_cons, List.flatMap_cons, show (k + 1) * 2 = e.c.length + k * 2 by rw [hl]; omega, List.drop_length_add_append, this]
theorem absS_app (a b : List En) : absS (a ++ b) = absS a + absS b := by simp [absS]
theorem sortE_facts : ∀ (n : Nat) (l : List En), l.length ≤ n → (sortE l).length ≤ l.length ∧ absS (sortE l) ≤ absS l ∧ ∀ p : List Vl → Prop, (∀ e ∈ l, p e.r) → ∀ e ∈ sortE l, p e.r := by
  intro n
  induction n with
  | zero =>
    intro l h
    have : l = [] := List.eq_nil_of_length_eq_zero (by omega)
    subst this
    rw [sortE]
    simp [absS]
  | succ n ih =>
    intro l h
    by_cases h1 : l.length ≤ 1
    · rw [sortE, dif_pos h1]
      refine ⟨List.length_filter_le .., ?_, fun p hp e he => hp e (List.mem_filter.1 he).1⟩
      match l, h1 with
      | [], _ => simp [absS]
      | [e], _ =>
        by_cases h0 : e.n = 0
        · simp [absS, h0]
        · simp [absS, h0]
    · rw [sortE_big rfl (by omega)]
      obtain ⟨a1, a2, a3⟩ := ih (l.take (l.length / 2)) (by rw [List.length_take]; omega)
      obtain ⟨b1, b2, b3⟩ := ih (l.drop (l.length / 2)) (by rw [List.length_drop]; omega)
      have h3 := mergeE_length (sortE (l.take (l.length / 2))) (sortE (l.drop (l.length / 2)))
      have h4 := mergeE_abs (sortE (l.take (l.length / 2))) (sortE (l.drop (l.length / 2)))
      have h5 := absS_app (l.take (l.length / 2)) (l.drop (l.length / 2))
      rw [List.take_append_drop] at h5
      rw [List.length_take] at a1
      rw [List.length_drop] at b1
      exact ⟨by omega, by omega, fun p hp => mergeE_rows _ _ p (a3 p fun e he => hp e (List.mem_of_mem_take he)) (b3 p fun e he => hp e (List.mem_of_mem_drop he))⟩
attribute [local irreducible] Still Adds AWL AW Drw DrwE EStep AC AWR Weak Frz Src RetK Out InK ItK AsK RdK RetT OutT ACT
attribute [local simp] ec_take ec_drop ec_length
theorem AC.len {P : Program} {f : FuncId} {args : List CV} {N N' : Nat} {cs : List CV} (h : AC P f args (.c (.sl 2 N cs)) [] 0) (e : N = N') : AC P f args (.c (.sl 2 N' cs)) [] 0 := e ▸ h
set_option maxHeartbeats 8000000 in
theorem sort_ok (n : Nat) : ∀ (l : List En) (N : Nat), l.length = n → n ≤ 100000 → fitB l → absS l ≤ 1000000000000 → (sortE l).length = N → AC Tryz.prog 104 [.sl 2 n (ec l)] (.c (.sl 2 N (ec (sortE l)))) [] 0 := by
  induction n using Nat.strongRecOn with
  | _ n ih =>
  intro l N hn hnn hf hb hN
  have hll : (ec l).length = n * 2 := by rw [ec_length, hn]
  by_cases n0 : n = 0
  · subst n0
    have : l = [] := List.eq_nil_of_length_eq_zero hn
    subst this
    have e1 : sortE [] = [] := by rw [sortE]; rfl
    rw [e1] at hN ⊢
    obtain rfl : N = 0 := hN.symm
    clear ih
    refine ac_enter tabOk (sz := 31) Tryz.func104 rfl (by rw [Tryz.ntmps104]; rfl) ?_
    repeat' (first | ((with_reducible refine aw_seqk ?_); intro K hK hX) | ((with_reducible refine isC_reg ?_); refine aw_prune [0, 2] rfl rfl ?_; with_reducible refine aw_region ?_) | ((with_reducible refine isC_draw ?_); refine aw_prune [0, 2] rfl rfl ?_; refine aw_drwF [] ?_) | refine stA ?_ | refine stD ?_ | (refine hK _ _ _ _ ?_; clear hK hX K) | (refine hX _ _ _ _ _ (by simp) ?_; clear hK hX K))
    refine retK_mk zio ztr rfl (ResL.one (ResA.tmp rfl)) zou
  · by_cases n1 : n = 1
    · subst n1
      obtain ⟨e, rfl⟩ : ∃ e, l = [e] := by
        match l, hn with
        | [e], _ => exact ⟨e, rfl⟩
      have e1 : sortE [e] = [e].filter fun e => e.n ≠ 0 := by rw [sortE]; rfl
      rw [e1] at hN ⊢
      obtain ⟨r, c⟩ := e
      clear ih e1
      by_cases h0 : c = 0
      · have e2 : ([⟨r, c⟩] : List En).filter (fun e => e.n ≠ 0) = [] := by simp [h0]
        rw [e2] at hN ⊢
        obtain rfl : N = 0 := hN.symm
        refine ac_enter tabOk (sz := 31) Tryz.func104 rfl (by rw [Tryz.ntmps104]; rfl) ?_
        repeat' (first | ((with_reducible refine aw_seqk ?_); intro K hK hX) | ((with_reducible refine isC_reg ?_); refine aw_prune [0, 2] rfl rfl ?_; with_reducible refine aw_region ?_) | ((with_reducible refine isC_draw ?_); refine aw_prune [0, 2] rfl rfl ?_; refine aw_drwF [] ?_) | refine stA ?_ | refine stD ?_ | (refine hK _ _ _ _ ?_; clear hK hX K) | (refine hX _ _ _ _ _ (by simp) ?_; clear hK hX K))
        refine retK_mk zio ztr rfl (ResL.one (ResA.tmp rfl)) zou
      · have e2 : ([⟨r, c⟩] : List En).filter (fun e => e.n ≠ 0) = [⟨r, c⟩] := by simp [h0]
        rw [e2] at hN ⊢
        obtain rfl : N = 1 := hN.symm
        refine ac_enter tabOk (sz := 31) Tryz.func104 rfl (by rw [Tryz.ntmps104]; rfl) ?_
        repeat' (first | ((with_reducible refine aw_seqk ?_); intro K hK hX) | ((with_reducible refine isC_reg ?_); refine aw_prune [0, 2] rfl rfl ?_; with_reducible refine aw_region ?_) | ((with_reducible refine isC_draw ?_); refine aw_prune [0, 2] rfl rfl ?_; refine aw_drwF [] ?_) | ((first | with_reducible refine isA_bslice ?_ | with_reducible refine isD_bslice ?_); (first | refine wA ?_ | refine wD ?_); (first | refine ew_i (adds_closed (b_bslice0 tabOk rfl rfl rfl rfl rfl) zln) ?_ | refine ew_i (adds_closed (b_bslice tabOk rfl rfl rfl rfl rfl rfl rfl rfl rfl rfl rfl rfl (flatLF_ok rfl) (by first | rfl | exact all1 (by assumption) | (simp <;> fail) | fail) (by rfl)) zln) ?_)) | refine stA ?_ | refine stD ?_ | (refine hK _ _ _ _ ?_; clear hK hX K) | (refine hX _ _ _ _ _ (by simp) ?_; clear hK hX K))
        refine retK_mk zio ztr rfl (ResL.one (ResA.tmp rfl)) zou
    · obtain ⟨a1, a2, a3⟩ := sortE_facts (n / 2) (l.take (n / 2)) (by rw [List.length_take]; omega)
      obtain ⟨b1, b2, b3⟩ := sortE_facts n (l.drop (n / 2)) (by rw [List.length_drop]; omega)
      have h5 := absS_app (l.take (n / 2)) (l.drop (n / 2))
      rw [List.take_append_drop] at h5
      have l1 : (l.take (n / 2)).length = n / 2 := by rw [List.length_take]; omega
      have l2 : (l.drop (n / 2)).length = n - n / 2 := by rw [List.length_drop]; omega
      rw [l1] at a1
      rw [l2] at b1
      have f1 : fitB (l.take (n / 2)) := fun e he => hf e (List.mem_of_mem_take he)
      have f2 : fitB (l.drop (n / 2)) := fun e he => hf e (List.mem_of_mem_drop he)
      obtain ⟨N1, hN1⟩ : ∃ N1, (sortE (l.take (n / 2))).length = N1 := ⟨_, rfl⟩
      obtain ⟨N2, hN2⟩ : ∃ N2, (sortE (l.drop (n / 2))).length = N2 := ⟨_, rfl⟩
      have h1 := ih (n / 2) (by omega) (l.take (n / 2)) N1 l1 (by omega) f1 (by omega) hN1
      have h2 := ih (n - n / 2) (by omega) (l.drop (n / 2)) N2 l2 (by omega) f2 (by omega) hN2
      rw [sortE_big hn (by omega)] at hN ⊢
      have h3 := merge_ok (sortE (l.take (n / 2))) (sortE (l.drop (n / 2))) N1 N2 N hN1 hN2 (by omega) (by omega) (a3 (fun r => r.length ≤ maxLen) f1) (b3 (fun r => r.length ≤ maxLen) f2) (by omega) (by omega) hN
      have hq : IntKind.i64.wrap ((n : Int).tdiv 2) = ((n / 2 : Nat) : Int) := by rw [q64 (by omega) (by omega) (by omega)]; omega
      rw [← ec_take] at h1
      rw [← ec_drop] at h2
      have h2' := AC.args h2 (args' := [.sl 2 (n - n / 2) (((ec l).drop (n / 2 * 2)).take ((n - n / 2) * 2))]) (cvl_cons (cv_sl rfl (List.take_of_length_le (by rw [List.length_drop, hll]; omega))) cvl_nil)
      generalize sortE (l.take (n / 2)) = X at h1 h3 ⊢
      generalize sortE (l.drop (n / 2)) = Y at h2 h2' h3 ⊢
      clear ih a1 a2 a3 b1 b2 b3 h5 f1 f2
      refine ac_enter tabOk (sz := 31) Tryz.func104 rfl (by rw [Tryz.ntmps104]; rfl) ?_
      repeat' (first | ((with_reducible refine aw_seqk ?_); intro K hK hX) | ((with_reducible refine isC_reg ?_); refine aw_prune [0, 2] rfl rfl ?_; with_reducible refine aw_region ?_) | ((with_reducible refine isC_draw ?_); refine aw_prune [0, 2] rfl rfl ?_; refine aw_drwF [] ?_) | ((first | with_reducible refine isA_call ?_ | with_reducible refine isD_call ?_); (first | refine zA ?_ | refine zN ?_ | refine zD ?_); (first | refine c0 (h1) ?_ | refine c0 (h2') ?_ | refine c0 (h2) ?_ | refine c0 (h3) ?_)) | ((first | ((with_reducible refine isA_any ?_); refine xA ?_) | ((with_reducible refine isDk_any ?_); refine xD ?_)); (first | ((with_reducible refine e_bin ?_); (first | refine ex_i (s_quo (k := .i64) rfl rfl (by decide) hq) ?_)))) | refine stA ?_ | refine stD ?_ | (refine hK _ _ _ _ ?_; clear hK hX K) | (refine hX _ _ _ _ _ (by simp) ?_; clear hK hX K))
      refine retK_mk zio ztr rfl (ResL.one (ResA.tmp rfl)) zou
end Go.Proofs.YtccnhpaldmjkbaaGreat
/-
  The order of rows; sums of sorted lists of entries. Plain.
-/
namespace Go.Proofs.YtccnhpaldmjkbaaGreat
open Go Go.RowKit Go.Av
set_option maxRecDepth 100000
/-- A comparison by a total preorder. -/
structure GC {α : Type} (c : α → α → Int) : Prop where
  anti : ∀ x y, c y x = - c x y
  tr : ∀ x y z, c x y ≤ 0 → c y z ≤ 0 → c x z ≤ 0
section
variable {α : Type} {c : α → α → Int}
theorem GC.tr0 (h : GC c) {x y z : α} (h1 : c x y ≤ 0) (h2 : c y z ≤ 0) (h3 : c x z = 0) : c x y = 0 ∧ c y z = 0 := by
  have a1 := h.anti x z
  have a2 := h.anti x y
  have a3 := h.anti y z
  have b1 := h.tr y z x h2 (by omega)
  have b2 := h.tr z x y (by omega) h1
  omega
theorem GC.lt (h : GC c) {x y z : α} (h1 : c x y < 0) (h2 : c y z < 0) : c x z < 0 := by
  have b1 := h.tr x y z (by omega) (by omega)
  by_cases h3 : c x z = 0
  · have := h.tr0 (y := y) (by omega) (by omega) h3; omega
  · omega
theorem GC.eqlt (h : GC c) {x y z : α} (h1 : c x y = 0) (h2 : c y z < 0) : c x z < 0 := by
  have b1 := h.tr x y z (by omega) (by omega)
  by_cases h3 : c x z = 0
  · have := h.tr0 (y := y) (by omega) (by omega) h3; omega
  · omega
end
theorem gc_Z : GC cmpZ := by
  constructor
  · intro x y; unfold cmpZ; split <;> (try split) <;> omega
  · intro x y z; unfold cmpZ; split <;> (try split) <;> (try split) <;> (try split) <;> (try split) <;> (try split) <;> omega
theorem u8_eq {a b : UInt8} (h1 : ¬ a < b) (h2 : ¬ b < a) : a = b := by
  apply UInt8.toNat_inj.1
  have e1 : ¬ a.toNat < b.toNat := h1
  have e2 : ¬ b.toNat < a.toNat := h2
  omega
theorem gc_B : GC Lib.compareBytes := by
  constructor
  · intro x
    induction x with
    | nil => intro y; cases y <;> rfl
    | cons a x ih =>
      intro y
      cases y with
      | nil => rfl
      | cons b y =>
        unfold Lib.compareBytes
        by_cases h1 : a < b
        · have h2 : ¬ b < a := fun h => by have e1 : a.toNat < b.toNat := h1; have e2 : b.toNat < a.toNat := h; omega
          simp [h1, h2]
        · by_cases h2 : b < a
          · simp [h1, h2]
          · simp [h1, h2, ih y]
  · intro x
    induction x with
    | nil =>
      intro y z h1 h2
      cases z with
      | nil => simp [Lib.compareBytes]
      | cons c z => simp [Lib.compareBytes]
    | cons a x ih =>
      intro y z h1 h2
      cases y with
      | nil => simp [Lib.compareBytes] at h1
      | cons b y =>
        cases z with
        | nil => simp [Lib.compareBytes] at h2
        | cons c z =>
          unfold Lib.compareBytes at h1 h2 ⊢
          by_cases p1 : a < b
          · have e1 : a.toNat < b.toNat := p1
            by_cases p2 : b < c
            · have e2 : b.toNat < c.toNat := p2
              have : a < c := by show a.toNat < c.toNat; omega
              simp [this]
            · by_cases p3 : c < b
              · simp [p2, p3] at h2
              · have := u8_eq p2 p3
                subst this
                simp [p1]
          · by_cases p4 : b < a
            · simp [p1, p4] at h1
            · have := u8_eq p1 p4
              subst this
              by_cases p2 : a < c
              · simp [p2]
              · by_cases p3 : c < a
                · simp [p2, p3] at h2
                · simp [p1] at h1
                  simp [p2, p3] at h2 ⊢
                  exact ih y z h1 h2
theorem gc_V : GC cmpV := by
  constructor
  · intro x y
    unfold cmpV
    by_cases h1 : x.k = y.k
    · have e1 : ¬ (y.k ≠ x.k) := fun h => h h1.symm
      have e2 : ¬ (x.k ≠ y.k) := fun h => h h1
      rw [if_neg e1, if_neg e2, h1]
      by_cases h2 : y.k = 1
      · rw [if_pos h2, if_pos h2]; exact gc_Z.anti _ _
      · rw [if_neg h2, if_neg h2]
        by_cases h3 : y.k = 2
        · rw [if_pos h3, if_pos h3]; exact gc_B.anti _ _
        · rw [if_neg h3, if_neg h3]; rfl
    · rw [if_pos (fun h => h1 h.symm), if_pos h1]; exact gc_Z.anti _ _
  · intro x y z h1 h2
    unfold cmpV at h1 h2 ⊢
    by_cases e1 : x.k = y.k
    · by_cases e2 : y.k = z.k
      · have e3 := e1.trans e2
        rw [if_neg (fun h => h e1)] at h1
        rw [if_neg (fun h => h e2), ← e1] at h2
        rw [if_neg (fun h => h e3)]
        by_cases p1 : x.k = 1
        · rw [if_pos p1] at h1 h2 ⊢; exact gc_Z.tr _ _ _ h1 h2
        · rw [if_neg p1] at h1 h2 ⊢
          by_cases p2 : x.k = 2
          · rw [if_pos p2] at h1 h2 ⊢; exact gc_B.tr _ _ _ h1 h2
          · rw [if_neg p2]; omega
      · rw [if_pos e2] at h2
        rw [if_pos (by omega), e1]; exact h2
    · rw [if_pos e1] at h1
      by_cases e2 : y.k = z.k
      · rw [if_pos (by omega), ← e2]; exact h1
      · rw [if_pos e2] at h2
        have := gc_Z.tr _ _ _ h1 h2
        by_cases e3 : x.k = z.k
        · exfalso
          unfold cmpZ at h1 h2
          split at h1 <;> (try split at h1) <;> split at h2 <;> (try split at h2) <;> omega
        · rw [if_pos e3]; exact this
theorem gc_R : GC cmpR := by
  constructor
  · intro x
    induction x with
    | nil => intro y; cases y <;> rfl
    | cons a x ih =>
      intro y
      cases y with
      | nil => rfl
      | cons b y =>
        unfold cmpR
        have h := gc_V.anti (clV a) (clV b)
        by_cases h1 : cmpV (clV a) (clV b) = 0
        · rw [if_neg (by omega), if_neg (by omega)]; exact ih y
        · rw [if_pos (by omega), if_pos (by omega)]; exact h
  · intro x
    induction x with
    | nil =>
      intro y z h1 h2
      cases z with
      | nil => simp [cmpR]
      | cons c z => simp [cmpR]
    | cons a x ih =>
      intro y z h1 h2
      cases y with
      | nil => simp [cmpR] at h1
      | cons b y =>
        cases z with
        | nil => simp [cmpR] at h2
        | cons c z =>
          unfold cmpR at h1 h2 ⊢
          have q1 : cmpV (clV a) (clV b) ≤ 0 := by split at h1 <;> omega
          have q2 : cmpV (clV b) (clV c) ≤ 0 := by split at h2 <;> omega
          have q3 := gc_V.tr _ _ _ q1 q2
          by_cases q4 : cmpV (clV a) (clV c) = 0
          · obtain ⟨q5, q6⟩ := gc_V.tr0 q1 q2 q4
            rw [if_neg (by omega)] at h1 h2 ⊢
            exact ih y z h1 h2
          · rw [if_pos q4]; exact q3
/-- Ascending rows, all different. -/
def srtE (b : List En) : Prop := b.Pairwise fun e f => cmpR e.r f.r < 0
theorem mergeE_all (Q : En → Prop) (hQ : ∀ e f, Q e → Q f → cmpR e.r f.r = 0 → e.n + f.n ≠ 0 → Q ⟨e.r, e.n + f.n⟩) : ∀ (a b : List En), (∀ e ∈ a, Q e) → (∀ e ∈ b, Q e) → ∀ e ∈ mergeE a b, Q e := by
  intro a b
  induction a, b using mergeE.induct with
  | case1 bt1 => intro _ h; rw [mergeE]; exact h
  | case2 a at1 => intro h _; rw [mergeE]; exact h
  | case3 a at1 b bt1 h ih =>
    intro h1 h2; rw [mergeE, if_pos h]
    intro e he
    rcases List.mem_cons.1 he with rfl | he
    · exact h1 _ (by simp)
    · exact ih (fun e he => h1 e (by simp [he])) h2 e he
  | case4 a at1 b bt1 h h2 ih =>
    intro h1 h3; rw [mergeE, if_neg h, if_pos h2]
    intro e he
    rcases List.mem_cons.1 he with rfl | he
    · exact h3 _ (by simp)
    · exact ih h1 (fun e he => h3 e (by simp [he])) e he
  | case5 a at1 b bt1 h h2 h3 ih =>
    intro h1 h4; rw [mergeE, if_neg h, if_neg h2, if_pos h3]
    intro e he
    rcases List.mem_cons.1 he with rfl | he
    · exact hQ a b (h1 a (by simp)) (h4 b (by simp)) (by omega) h3
    · exact ih (fun e he => h1 e (by simp [he])) (fun e he => h4 e (by simp [he])) e he
  | case6 a at1 b bt1 h h2 h3 ih =>
    intro h1 h4; rw [mergeE, if_neg h, if_neg h2, if_neg h3]
    exact ih (fun e he => h1 e (by simp [he])) (fun e he => h4 e (by simp [he]))
theorem mergeE_srt : ∀ (a b : List En), srtE a → srtE b → srtE (mergeE a b) := by
  intro a b
  induction a, b using mergeE.induct with
  | case1 bt1 => intro _ h; rw [mergeE]; exact h
  | case2 a at1 => intro h _; rw [mergeE]; exact h
  | case3 a at1 b bt1 h ih =>
    intro h1 h2; rw [mergeE, if_pos h]
    obtain ⟨h3, h4⟩ := List.pairwise_cons.1 h1
    obtain ⟨h5, h6⟩ := List.pairwise_cons.1 h2
    refine List.pairwise_cons.2 ⟨mergeE_rows _ _ (fun r => cmpR a.r r < 0) h3 fun e he => ?_, ih h4 h2⟩
    rcases List.mem_cons.1 he with rfl | he
    · exact h
    · exact gc_R.lt h (h5 e he)
  | case4 a at1 b bt1 h h2 ih =>
    intro h1 h3; rw [mergeE, if_neg h, if_pos h2]
    obtain ⟨h4, h5⟩ := List.pairwise_cons.1 h1
    obtain ⟨h6, h7⟩ := List.pairwise_cons.1 h3
    have hba : cmpR b.r a.r < 0 := by have := gc_R.anti a.r b.r; omega
    refine List.pairwise_cons.2 ⟨mergeE_rows _ _ (fun r => cmpR b.r r < 0) (fun e he => ?_) h6, ih h1 h7⟩
    rcases List.mem_cons.1 he with rfl | he
    · exact hba
    · exact gc_R.lt hba (h4 e he)
  | case5 a at1 b bt1 h h2 h3 ih =>
    intro h1 h4; rw [mergeE, if_neg h, if_neg h2, if_pos h3]
    obtain ⟨h5, h6⟩ := List.pairwise_cons.1 h1
    obtain ⟨h7, h8⟩ := List.pairwise_cons.1 h4
    exact List.pairwise_cons.2 ⟨mergeE_rows _ _ (fun r => cmpR a.r r < 0) h5 fun e he => gc_R.eqlt (by omega) (h7 e he), ih h6 h8⟩
  | case6 a at1 b bt1 h h2 h3 ih =>
    intro h1 h4; rw [mergeE, if_neg h, if_neg h2, if_neg h3]
    exact ih (List.pairwise_cons.1 h1).2 (List.pairwise_cons.1 h4).2
theorem sortE_ind (C : List En → Prop) (h0 : ∀ l : List En, l.length ≤ 1 → C (l.filter fun e => e.n ≠ 0)) (h1 : ∀ a b : List En, C a → C b → C (mergeE a b)) : ∀ (n : Nat) (l : List En), l.length ≤ n → C (sortE l) := by
  intro n
  induction n with
  | zero => intro l hl; rw [sortE, dif_pos (by omega)]; exact h0 l (by omega)
  | succ n ih =>
    intro l hl
    by_cases hl1 : l.length ≤ 1
    · rw [sortE, dif_pos hl1]; exact h0 l hl1
    · rw [sortE_big rfl (by omega)]
      exact h1 _ _ (ih _ (by rw [List.length_take]; omega)) (ih _ (by rw [List.length_drop]; omega))
theorem sortE_srt (l : List En) : srtE (sortE l) := by
  refine sortE_ind srtE (fun l hl => ?_) (fun a b => mergeE_srt a b) l.length l (Nat.le_refl _)
  match l, hl with
  | [], _ => exact List.Pairwise.nil
  | [e], _ => exact List.Pairwise.sublist (List.filter_sublist) (List.pairwise_singleton _ _)
theorem sortE_all (Q : En → Prop) (hQ : ∀ e f, Q e → Q f → cmpR e.r f.r = 0 → e.n + f.n ≠ 0 → Q ⟨e.r, e.n + f.n⟩) : ∀ (n : Nat) (l : List En), l.length ≤ n → (∀ e ∈ l, e.n ≠ 0 → Q e) → ∀ e ∈ sortE l, Q e := by
  intro n
  induction n with
  | zero =>
    intro l hl h; rw [sortE, dif_pos (by omega)]
    intro e he
    obtain ⟨h1, h2⟩ := List.mem_filter.1 he
    exact h e h1 (by simpa using h2)
  | succ n ih =>
    intro l hl h
    by_cases hl1 : l.length ≤ 1
    · rw [sortE, dif_pos hl1]
      intro e he
      obtain ⟨h1, h2⟩ := List.mem_filter.1 he
      exact h e h1 (by simpa using h2)
    · rw [sortE_big rfl (by omega)]
      exact mergeE_all Q hQ _ _ (ih _ (by rw [List.length_take]; omega) fun e he => h e (List.mem_of_mem_take he)) (ih _ (by rw [List.length_drop]; omega) fun e he => h e (List.mem_of_mem_drop he))
/-- Sums over the rows. -/
def wsum (g : List Vl → Int) (b : List En) : Int := (b.map fun e => e.n * g e.r).sum
def okR (b : List En) : Prop := ∀ e ∈ b, ∀ v ∈ e.r, okP v
/-- A valid bag without negative counts. -/
structure BagF (M : Nat) (b : List En) : Prop where
  srt : srtE b
  pos : ∀ e ∈ b, 0 < e.n
  row : ∀ e ∈ b, rowP e.r
  abs : absS b ≤ M
theorem BagF.len {M : Nat} {b : List En} (h : BagF M b) : b.length ≤ M := by
  have h1 := h.pos
  have h2 := h.abs
  clear h
  induction b generalizing M with
  | nil => simp
  | cons e b ih =>
    rw [absS_cons] at h2
    have := h1 e (by simp)
    have := ih (M := M - e.n.natAbs) (fun e he => h1 e (by simp [he])) (by omega)
    simp only [List.length_cons]; omega
theorem BagF.ok {M : Nat} {b : List En} (h : BagF M b) : okR b := fun e he v hv => (h.row e he).2 v hv
theorem BagF.fit {M : Nat} {b : List En} (h : BagF M b) : fitB b := fun e he => by have := (h.row e he).1; simp only [maxLen]; omega
theorem BagF.posP {M : Nat} {b : List En} (h : BagF M b) (hM : M ≤ 4096) : posP b := by
  refine ⟨⟨Nat.le_trans h.len hM, fun i hi e he => ?_⟩, fun e he => by have := h.pos e he; omega⟩
  have hm := List.mem_of_getElem? he
  have h1 := absS_mem hm
  have h2 := h.abs
  have h3 := h.pos e hm
  refine ⟨⟨by omega, by omega, h.row e hm⟩, by omega, fun f hi0 hf => ?_⟩
  obtain ⟨h4, h5⟩ := List.getElem?_eq_some_iff.1 he
  obtain ⟨h6, h7⟩ := List.getElem?_eq_some_iff.1 hf
  have := List.pairwise_iff_getElem.1 h.srt (i - 1) i h6 h4 (by omega)
  rw [h5, h7] at this
  exact this
theorem BagF.sort {M : Nat} {l : List En} (h1 : ∀ e ∈ l, 0 ≤ e.n) (h2 : ∀ e ∈ l, rowP e.r) (h3 : absS l ≤ M) : BagF M (sortE l) := by
  obtain ⟨_, f2, f3⟩ := sortE_facts l.length l (Nat.le_refl _)
  exact ⟨sortE_srt l, sortE_all (fun e => 0 < e.n) (fun e f h1 h2 _ _ => by simp only at h1 h2 ⊢; omega) l.length l (Nat.le_refl _) (fun e he h0 => by have := h1 e he; omega), f3 rowP h2, by omega⟩
end Go.Proofs.YtccnhpaldmjkbaaGreat
/-
  Count sketches: what the cells hold. Plain.
-/
namespace Go.Proofs.YtccnhpaldmjkbaaGreat
open Go Go.RowKit Go.Av
set_option maxRecDepth 100000
/-- How many of a value's first places are a cell. -/
def cnt (w : Nat) (v : Vl) (p : Nat) : Nat → Nat
  | 0 => 0
  | i + 1 => cnt w v p i + (if placeV w v i = p then 1 else 0)
theorem cnt_le (w : Nat) (v : Vl) (p i : Nat) : cnt w v p i ≤ i := by
  induction i with
  | zero => exact Nat.le_refl _
  | succ i ih => rw [cnt]; split <;> omega
theorem getD_set {l : List Int} {q p : Nat} {x : Int} (hp : p < l.length) : (l.set q x).getD p 0 = if q = p then x else l.getD p 0 := by
  rw [List.getD_eq_getElem?_getD, List.getD_eq_getElem?_getD, List.getElem?_set]
  by_cases h : q = p
  · subst h; rw [if_pos rfl, if_pos hp, if_pos rfl]; rfl
  · rw [if_neg h, if_neg h]
theorem addN_getD (w : Nat) (v : Vl) (n : Int) (l : List Int) {p : Nat} (hp : p < l.length) : ∀ i, (addN 0 w v n l i).getD p 0 = l.getD p 0 + n * (cnt w v p i : Int)
  | 0 => by simp [addN, cnt]
  | i + 1 => by
    have ih := addN_getD w v n l hp i
    rw [addN, putP, if_pos rfl, getD_set (by rw [addN_length]; exact hp), cnt]
    by_cases h : placeV w v i = p
    · rw [if_pos h, if_pos h, h, ih]
      push_cast
      rw [Int.mul_add]; omega
    · rw [if_neg h, if_neg h, ih]; simp
def hits (w d col p : Nat) (r : List Vl) : Int := if (cellV r col).k = 0 then 0 else (cnt w (cellV r col) p d : Int)
/-- An entry the other way round. -/
def En.neg (e : En) : En := ⟨e.r, -e.n⟩
def remN (w d col : Nat) (l : List Int) (b : List En) (i : Nat) : List Int := (b.take i).foldl (fun l e => stepE 0 w d col l e.neg) l
end Go.Proofs.YtccnhpaldmjkbaaGreat
/-
  The numbers of a bag's values in a bottom-k sketch. Plain.
-/
namespace Go.Proofs.YtccnhpaldmjkbaaGreat
open Go Go.RowKit Go.Av
set_option maxRecDepth 100000
/-- The number of a value in a bottom-k sketch. -/
def botN (v : Vl) : Int := (((hashV v (UInt8.ofNat 0)).toNat / 4 : Nat) : Int)
theorem botN_bd (v : Vl) : 0 ≤ botN v ∧ botN v < 4611686018427387904 := by
  unfold botN
  have := (hashV v (UInt8.ofNat 0)).isLt
  omega
def hashE (col : Nat) (b : List En) : List Int := b.flatMap fun e => if (cellV e.r col).k = 0 then [] else [botN (cellV e.r col)]
theorem hashE_step {col : Nat} {b : List En} {i : Nat} {e : En} (h : b[i]? = some e) : hashE col (b.take (i + 1)) = hashE col (b.take i) ++ if (cellV e.r col).k = 0 then [] else [botN (cellV e.r col)] := by
  unfold hashE
  rw [List.take_add_one, h]
  simp
theorem hashE_mem {col : Nat} {b : List En} {x : Int} : x ∈ hashE col b ↔ ∃ e ∈ b, (cellV e.r col).k ≠ 0 ∧ botN (cellV e.r col) = x := by
  unfold hashE
  rw [List.mem_flatMap]
  constructor
  · rintro ⟨e, he, hx⟩
    by_cases h : (cellV e.r col).k = 0
    · rw [if_pos h] at hx; cases hx
    · rw [if_neg h] at hx
      exact ⟨e, he, h, by simpa using (List.mem_singleton.1 hx).symm⟩
  · rintro ⟨e, he, h, hx⟩
    exact ⟨e, he, by rw [if_neg h]; simp [hx]⟩
theorem hashE_bd {col : Nat} {b : List En} {x : Int} (h : x ∈ hashE col b) : 0 ≤ x ∧ x < 4611686018427387904 := by
  obtain ⟨e, _, _, rfl⟩ := hashE_mem.1 h
  exact botN_bd _
end Go.Proofs.YtccnhpaldmjkbaaGreat
/-
  Bottom-k sketches of bags (walk).
-/
namespace Go.Proofs.YtccnhpaldmjkbaaGreat
open Go Go.RowKit Go.Av
set_option maxRecDepth 100000
attribute [local irreducible] Still Adds AWL AW Drw DrwE EStep AC AWR Weak Frz Src RetK Out InK ItK AsK RdK RetT OutT ACT ACS RetS ACP RetP
set_option maxHeartbeats 4000000 in
theorem both_ok (v : Vl) : AC Tryz.prog 130 [.agg v.c] (.c (iv (botN v))) [] 0 := by
  have hh := hash_ok v ((0 : Nat) : Int) (UInt8.ofNat 0) (row_byte (by decide))
  unfold botN
  generalize hashV v (UInt8.ofNat 0) = x at hh ⊢
  have hx := x.isLt
  have hq := qu64 (a := x.toNat) (b := 4) hx (by decide)
  have hc : IntKind.i64.wrap ((x.toNat / 4 : Nat) : Int) = ((x.toNat / 4 : Nat) : Int) := w64 (by omega) (by omega)
  generalize x.toNat / 4 = y at hq hc ⊢
  obtain ⟨a, m, b⟩ := v
  simp only [Vl.c] at *
  refine ac_enter tabOk (sz := 7) Tryz.func130 rfl (by rw [Tryz.ntmps130]; rfl) ?_
  repeat' (first | ((with_reducible refine aw_seqk ?_); intro K hK hX) | ((with_reducible refine isC_reg ?_); refine aw_prune [0, 1, 2] rfl rfl ?_; with_reducible refine aw_region ?_) | ((with_reducible refine isA_call ?_); (first | refine zA ?_ | refine zN ?_); (first | refine c0 (hh) ?_)) | (((with_reducible refine isA_any ?_); refine xA ?_); (first | ((with_reducible refine e_bin ?_); (first | refine ex_i (s_quo (k := .u64) rfl rfl (by decide) hq) ?_)) | ((with_reducible refine e_conv ?_); (first | refine ex_i (s_convInt tabOk rfl rfl rfl rfl hc) ?_)))) | refine stA ?_ | (refine hK _ _ _ _ ?_; clear hK hX K) | (refine hX _ _ _ _ _ (by simp) ?_; clear hK hX K))
  refine retK_mk zio ztr rfl (ResL.one (ResA.tmp rfl)) zou
end Go.Proofs.YtccnhpaldmjkbaaGreat
/-
  Sketches of bags (walk), as the reference has them.
-/
namespace Go.Proofs.YtccnhpaldmjkbaaGreat
open Go Go.RowKit Go.Av
set_option maxRecDepth 100000
attribute [local irreducible] Still Adds AWL AW Drw DrwE EStep AC AWR Weak Frz Src RetK Out InK ItK AsK RdK RetT OutT ACT ACS RetS ACP RetP
theorem rnew_ok (nm sr : List UInt8) (col kd : Int) (w d N : Nat) (hk : kd ≠ 2) (hN : w * d = N) (hNb : N ≤ 8192) : AC Tryz.prog 55 [.agg [sv nm, sv sr, iv col, iv kd, iv w, iv d]] (.c (.sl 1 N (intc .i64 (List.replicate N 0)))) [] 0 := by
  have hpr : (w : Int) * (d : Int) = (N : Int) := by rw [← hN, Int.natCast_mul]
  have hmul : IntKind.i64.wrap ((w : Int) * (d : Int)) = (N : Int) := by rw [hpr]; exact w64 (by omega) (by omega)
  have hz := zc_int N
  have hzl : (intc .i64 (List.replicate N 0)).length = N := by rw [intc_length, List.length_replicate]
  refine ac_enter tabOk (sz := 12) Tryz.func55 rfl (by rw [Tryz.ntmps55]; rfl) ?_
  repeat' (first | ((with_reducible refine aw_seqk ?_); intro K hK hX) | ((with_reducible refine isC_reg ?_); refine aw_prune [0, 1, 2] rfl rfl ?_; with_reducible refine aw_region ?_) | (((with_reducible refine isA_any ?_); refine xA ?_); (first | ((with_reducible refine e_bin ?_); (first | refine ex_i (s_arit64 rfl rfl rfl hmul) ?_)))) | refine stA ?_ | (refine hK _ _ _ _ ?_; clear hK hX K) | (refine hX _ _ _ _ _ (by simp) ?_; clear hK hX K))
  rw [hz]
  refine retK_mk zio ztr rfl (ResL.one (ResA.tmp rfl)) zou
theorem rnew2_ok (nm sr : List UInt8) (col w d : Int) : AC Tryz.prog 55 [.agg [sv nm, sv sr, iv col, iv 2, iv w, iv d]] (.c (.v (.slice none 0 0))) [] 0 := by
  refine ac_enter tabOk (sz := 12) Tryz.func55 rfl (by rw [Tryz.ntmps55]; rfl) ?_
  repeat' (first | ((with_reducible refine aw_seqk ?_); intro K hK hX) | ((with_reducible refine isC_reg ?_); refine aw_prune [0, 1, 2] rfl rfl ?_; with_reducible refine aw_region ?_) | refine stA ?_ | (refine hK _ _ _ _ ?_; clear hK hX K) | (refine hX _ _ _ _ _ (by simp) ?_; clear hK hX K))
  refine retK_mk zio ztr rfl (ResL.one (ResA.tmp rfl)) zou
theorem rcz_kd {r : List Vl} {i : Nat} {v : Vl} (h : r[i]? = some v) : (rc r)[i * 3]? = some (iv v.k) := by
  have := rc_at h
  have h2 : (((rc r).drop (i * 3)).take 3)[0]? = some (iv v.k) := by rw [this]; rfl
  rw [List.getElem?_take_of_lt (by omega), List.getElem?_drop] at h2
  simpa using h2
theorem cellz_at {r : List Vl} {col : Nat} {v : Vl} (h : r[col]? = some v) : cellV r col = v := by
  unfold cellV; rw [List.getD_eq_getElem?_getD, h]; rfl
theorem cellz_no {r : List Vl} {col : Nat} (h : r.length ≤ col) : cellV r col = Vl.nul := by
  unfold cellV; rw [List.getD_eq_getElem?_getD, List.getElem?_eq_none h]; rfl
set_option maxHeartbeats 8000000 in
theorem rbuildc_ok (nm sr : List UInt8) (col : Nat) (kd : Int) (w d N : Nat) (b : List En) (n : Nat) (hn : b.length = n) (hfb : fitB b) (hk : kd ≠ 2) (hf : formP ⟨nm, sr, col, kd, w, d⟩) (hp : posP b) (hcol : (col : Int) ≤ 9223372036854775807) (hN : w * d = N) : AC Tryz.prog 19 [.agg [sv nm, sv sr, iv col, iv kd, iv w, iv d], .sl 2 n (ec b)] (.tup [.c (.sl 1 N (intc .i64 (buildN kd w d col b n))), .c (iv 0)]) [] 0 := by
  have hbl : (ec b).length = n * 2 := by rw [ec_length, hn]
  obtain ⟨f1, f2, f3, f4, f5, f6⟩ := id hf
  simp only at f1 f2 f3 f4 f5 f6
  have hn4 : n ≤ 4096 := by have := hp.1.1; omega
  have hm : n ≤ maxLen := by simp only [maxLen]; omega
  have h1 := rform_ok ⟨nm, sr, col, kd, w, d⟩
  rw [form_t hf] at h1
  have h2 := rpos_ok b n hn hm hfb
  have : ∀ i : Decidable (posP b), @decide _ i = true := fun i => @decide_eq_true _ i hp
  rw [this] at h2
  simp only [Sk.c] at h1
  have hNl : N ≤ 1024 := by rw [← hN]; exact_mod_cast f5
  have h3 := rnew_ok nm sr col kd w d N hk hN (by omega)
  have hbe : ∀ e ∈ b, 0 ≤ e.n ∧ e.n ≤ 262144 := fun e he => by
    obtain ⟨j, hj⟩ := List.mem_iff_getElem?.1 he
    have := (hp.1.2 j (List.getElem?_eq_some_iff.1 hj).1 e hj).1
    exact ⟨hp.2 e he, this.2.1⟩
  obtain ⟨B, hB⟩ : ∃ B : Nat → List Int, ∀ i, B i = buildN kd w d col b i := ⟨_, fun _ => rfl⟩
  have hB0 : List.replicate N 0 = B 0 := by rw [hB, ← hN]; rfl
  have hBl : ∀ i, (B i).length = N := fun i => by rw [hB, buildN_length, hN]
  have hBs : ∀ i e, b[i]? = some e → B (i + 1) = stepE kd w d col (B i) e := fun i e he => by rw [hB, hB, buildN_step he]
  have hBi : ∀ i, i ≤ n → inB (B i) 10000000000000 := fun i hi => by
    rw [hB]
    exact inB_mono (buildN_inB (by omega) hbe i (by omega)) (by omega)
  rw [← hB]
  clear hB hp hf this hm
  refine ac_enter tabOk (sz := 69) Tryz.func19 rfl (by rw [Tryz.ntmps19]; rfl) ?_
  repeat' (first | ((with_reducible refine aw_seqk ?_); intro K hK hX) | ((with_reducible refine isC_reg ?_); refine aw_prune [0, 1, 2, 4, 5, 6, 7] rfl rfl ?_; with_reducible refine aw_region ?_) | ((with_reducible refine isC_draw ?_); refine aw_prune [0, 1, 2, 4, 5, 6, 7] rfl rfl ?_; refine aw_drwF [] ?_) | ((first | with_reducible refine isA_call ?_ | with_reducible refine isD_call ?_); (first | refine zA ?_ | refine zN ?_ | refine zD ?_); (first | refine c0 (h1) ?_ | refine c0 (h2) ?_ | refine c0 (h3) ?_)) | refine stA ?_ | refine stD ?_ | (refine hK _ _ _ _ ?_; clear hK hX K) | (refine hX _ _ _ _ _ (by simp) ?_; clear hK hX K))
  clear h1 h2 h3
  refine aw_loopo [6, 7] [] rfl rfl (fun i : Nat => [(6, .c (.sl 1 N (intc .i64 (B i)))), (7, .c (iv i))]) (fun i => []) (fun i => i ≤ n) (fun i => n - i) 0 (Nat.zero_le _) (by refine weak_mk rfl ?_ ?_ rfl <;> (repeat' (first | exact weakE_nil | exact weakH_nil | refine weakE_cons rfl (by first | rfl | (exact congrArg (fun x => AV.c (CV.sl 1 N (intc .i64 x))) hB0) | exact zeq) rfl ?_ | refine weakH_cons rfl (by first | rfl | (exact congrArg (fun x => AV.c (CV.sl 1 N (intc .i64 x))) hB0) | exact zeq) rfl ?_))) ?_
  intro i hi K hK hX
  have hli : (intc .i64 (B i)).length = N := by rw [ic_len, hBl]
  by_cases hlt : i < n
  · obtain ⟨e, he⟩ : ∃ e, b[i]? = some e := ⟨b[i]'(by omega), List.getElem?_eq_getElem _⟩
    have hmem := List.mem_of_getElem? he
    have her := ec_row he
    have hen := ec_n he
    have hst := hBs i e he
    obtain ⟨e1, e2⟩ := hbe e hmem
    have hrl := rc_length e.r
    have hfe := hfb e hmem
    unfold stepE at hst
    by_cases hc : col < e.r.length
    · obtain ⟨v, hv⟩ : ∃ v, e.r[col]? = some v := ⟨e.r[col]'hc, List.getElem?_eq_getElem _⟩
      rw [cellz_at hv] at hst
      have hav := rc_at hv
      have hkv := rcz_kd hv
      by_cases hz : v.k = 0
      · rw [if_pos hz] at hst
        rw [hz] at hkv
        obtain ⟨r, c⟩ := e
        simp only at *
        generalize r.length = rn at *
        clear hbe hBs hBi hfb he hmem hBl hB0 hv
        repeat' (first | ((with_reducible refine aw_seqk ?_); intro K hK hX) | ((with_reducible refine isC_reg ?_); refine aw_prune [0, 1, 2, 4, 5, 6, 7] rfl rfl ?_; with_reducible refine aw_region ?_) | ((with_reducible refine isC_draw ?_); refine aw_prune [0, 1, 2, 4, 5, 6, 7] rfl rfl ?_; refine aw_drwF [] ?_) | (refine drw_endA (by kernel_rfl) (by kernel_rfl) (by kernel_rfl) rfl ?_) | (refine k_only ?_) | ((first | ((with_reducible refine isA_any ?_); refine xA ?_) | ((with_reducible refine isDk_any ?_); refine xD ?_)); (first | ((with_reducible refine e_load ?_); (first | refine ex_i (s_load1 tabOk rfl rfl rfl rfl (by first | exact her | exact hkv)) ?_ | refine ex_i (s_load1r tabOk rfl rfl rfl rfl (by first | exact her | exact hkv)) ?_ | refine ex_i (s_load1i tabOk rfl rfl rfl (by first | exact her | exact hkv)) ?_)) | ((with_reducible refine e_ix ?_); (first | refine ex_i (s_ixV1 tabOk rfl rfl zcj rfl rfl rfl rfl rfl zle (by first | exact her | exact hkv)) ?_ | refine ex_i (s_ixStr tabOk rfl rfl zcj rfl rfl (by first | exact her | exact hkv)) ?_)))) | ((with_reducible refine isA_store ?_); refine awl_storeA tabOk g_none rfl rfl rfl zpt (by rfl) (by rfl) rfl (Nat.le_of_ble_eq_true rfl) (by rfl) ?_) | refine stA ?_ | refine stD ?_ | (refine hK _ _ _ _ ?_; clear hK hX K) | (refine hX _ _ _ _ _ (by simp) ?_; clear hK hX K))
        exact ⟨i + 1, by omega, by omega, (by refine weak_mk rfl ?_ ?_ rfl <;> (repeat' (first | exact weakE_nil | exact weakH_nil | refine weakE_cons rfl (by first | rfl | (exact congrArg (fun x => AV.c (CV.sl 1 N (intc .i64 x))) hst.symm) | exact zeq) rfl ?_ | refine weakH_cons rfl (by first | rfl | (exact congrArg (fun x => AV.c (CV.sl 1 N (intc .i64 x))) hst.symm) | exact zeq) rfl ?_)))⟩
      · rw [if_neg hz] at hst
        have had := raddc_ok nm sr col kd w d v (B i) N e.n (by omega) (hBl i) hN (by omega) (by omega) (by omega) e1 e2 (hBi i hi)
        rw [← hst] at had
        obtain ⟨r, c⟩ := e
        obtain ⟨va, vm, vt⟩ := v
        simp only [Vl.c] at *
        generalize r.length = rn at *
        clear hbe hBs hBi hfb he hmem hBl hB0 hv
        repeat' (first | ((with_reducible refine aw_seqk ?_); intro K hK hX) | ((with_reducible refine isC_reg ?_); refine aw_prune [0, 1, 2, 4, 5, 6, 7] rfl rfl ?_; with_reducible refine aw_region ?_) | ((with_reducible refine isC_draw ?_); refine aw_prune [0, 1, 2, 4, 5, 6, 7] rfl rfl ?_; refine aw_drwF [] ?_) | (refine drw_endA (by kernel_rfl) (by kernel_rfl) (by kernel_rfl) rfl ?_) | (refine k_only ?_) | ((first | with_reducible refine isA_call ?_ | with_reducible refine isD_call ?_); (first | refine zA ?_ | refine zN ?_ | refine zD ?_); (first | refine c0 (had) ?_)) | ((first | ((with_reducible refine isA_any ?_); refine xA ?_) | ((with_reducible refine isDk_any ?_); refine xD ?_)); (first | ((with_reducible refine e_load ?_); (first | refine ex_i (s_load1 tabOk rfl rfl rfl rfl (by first | exact her | exact hkv | exact hen)) ?_ | refine ex_i (s_load1r tabOk rfl rfl rfl rfl (by first | exact her | exact hkv | exact hen)) ?_ | refine ex_i (s_load1i tabOk rfl rfl rfl (by first | exact her | exact hkv | exact hen)) ?_ | refine ex_i (s_loadAr tabOk rfl rfl rfl rfl (by first | exact hav | exact whole0 (by first | rfl | omega) | rfl) zln) ?_ | refine ex_i (s_loadAi tabOk rfl rfl rfl (by first | exact hav | exact whole0 (by first | rfl | omega) | rfl) zln) ?_)) | ((with_reducible refine e_ix ?_); (first | refine ex_i (s_ixV1 tabOk rfl rfl zcj rfl rfl rfl rfl rfl zle (by first | exact her | exact hkv | exact hen)) ?_ | refine ex_i (s_ixStr tabOk rfl rfl zcj rfl rfl (by first | exact her | exact hkv | exact hen)) ?_)) | ((with_reducible refine e_slice ?_); (first | refine ex_i (s_slArri tabOk rfl rfl rfl rfl zbd zbd zle zle (by decide) (by first | exact hav | exact whole0 (by first | rfl | omega) | rfl) zln) ?_)))) | ((with_reducible refine isA_store ?_); refine awl_storeA tabOk g_none rfl rfl rfl zpt (by rfl) (by rfl) rfl (Nat.le_of_ble_eq_true rfl) (by rfl) ?_) | refine stA ?_ | refine stD ?_ | (refine hK _ _ _ _ ?_; clear hK hX K) | (refine hX _ _ _ _ _ (by simp) ?_; clear hK hX K))
        exact ⟨i + 1, by omega, by omega, weakA⟩
    · rw [cellz_no (by omega), if_pos (show Vl.nul.k = 0 from rfl)] at hst
      obtain ⟨r, c⟩ := e
      simp only at *
      generalize r.length = rn at *
      clear hbe hBs hBi hfb he hmem hBl hB0
      repeat' (first | ((with_reducible refine aw_seqk ?_); intro K hK hX) | ((with_reducible refine isC_reg ?_); refine aw_prune [0, 1, 2, 4, 5, 6, 7] rfl rfl ?_; with_reducible refine aw_region ?_) | ((with_reducible refine isC_draw ?_); refine aw_prune [0, 1, 2, 4, 5, 6, 7] rfl rfl ?_; refine aw_drwF [] ?_) | (refine drw_endA (by kernel_rfl) (by kernel_rfl) (by kernel_rfl) rfl ?_) | (refine k_only ?_) | ((first | ((with_reducible refine isA_any ?_); refine xA ?_) | ((with_reducible refine isDk_any ?_); refine xD ?_)); (first | ((with_reducible refine e_load ?_); (first | refine ex_i (s_load1 tabOk rfl rfl rfl rfl (by first | exact her | exact hen)) ?_ | refine ex_i (s_load1r tabOk rfl rfl rfl rfl (by first | exact her | exact hen)) ?_ | refine ex_i (s_load1i tabOk rfl rfl rfl (by first | exact her | exact hen)) ?_)) | ((with_reducible refine e_ix ?_); (first | refine ex_i (s_ixV1 tabOk rfl rfl zcj rfl rfl rfl rfl rfl zle (by first | exact her | exact hen)) ?_ | refine ex_i (s_ixStr tabOk rfl rfl zcj rfl rfl (by first | exact her | exact hen)) ?_)))) | ((with_reducible refine isA_store ?_); refine awl_storeA tabOk g_none rfl rfl rfl zpt (by rfl) (by rfl) rfl (Nat.le_of_ble_eq_true rfl) (by rfl) ?_) | refine stA ?_ | refine stD ?_ | (refine hK _ _ _ _ ?_; clear hK hX K) | (refine hX _ _ _ _ _ (by simp) ?_; clear hK hX K))
      exact ⟨i + 1, by omega, by omega, (by refine weak_mk rfl ?_ ?_ rfl <;> (repeat' (first | exact weakE_nil | exact weakH_nil | refine weakE_cons rfl (by first | rfl | (exact congrArg (fun x => AV.c (CV.sl 1 N (intc .i64 x))) hst.symm) | exact zeq) rfl ?_ | refine weakH_cons rfl (by first | rfl | (exact congrArg (fun x => AV.c (CV.sl 1 N (intc .i64 x))) hst.symm) | exact zeq) rfl ?_)))⟩
  · have hin : i = n := by omega
    rw [hin]
    clear hbe hBs hBi hfb hB0
    repeat' (first | ((with_reducible refine aw_seqk ?_); intro K hK hX) | ((with_reducible refine isC_reg ?_); refine aw_prune [0, 1, 2, 4, 5, 6, 7] rfl rfl ?_; with_reducible refine aw_region ?_) | ((with_reducible refine isC_draw ?_); refine aw_prune [0, 1, 2, 4, 5, 6, 7] rfl rfl ?_; refine aw_drwF [] ?_) | refine stA ?_ | refine stD ?_ | (refine hK _ _ _ _ ?_; clear hK hX K) | (refine hX _ _ _ _ _ (by simp) ?_; clear hK hX K))
    refine retK_mk zio ztr rfl (ResL.two (ResA.tmp rfl) (ResA.tmp rfl)) (out_t (frzl_cons zfz (frzl_cons zfz frzl_nil)))
theorem raddb_ok (nm sr : List UInt8) (col d : Int) (w : Nat) (v : Vl) (l : List Int) (c : Int) (n Q : Nat) (hn : l.length = n) (ha : ascI l) (hl : n ≤ w) (hw : w ≤ 1024) (hQ : (smallI w (l ++ [botN v])).length = Q) : AC Tryz.prog 56 [.agg [sv nm, sv sr, iv col, iv 2, iv w, iv d], .sl 1 n (intc .i64 l), .agg v.c, iv c] (.c (.sl 1 Q (intc .i64 (smallI w (l ++ [botN v]))))) [] 0 := by
  have hil : (intc .i64 l).length = n := by rw [ic_len, hn]
  have h2 := rbot_ok l (botN v) w n Q hn ha hl hw hQ
  have hh := rhash_ok v ((0 : Nat) : Int) (UInt8.ofNat 0) (row_byte (by decide))
  unfold botN at *
  generalize smallI w _ = S at *
  generalize hashV v (UInt8.ofNat 0) = x at hh h2
  have hx := x.isLt
  have hq := qu64 (a := x.toNat) (b := 4) hx (by decide)
  have hc : IntKind.i64.wrap ((x.toNat / 4 : Nat) : Int) = ((x.toNat / 4 : Nat) : Int) := w64 (by omega) (by omega)
  generalize x.toNat / 4 = y at hq hc h2
  obtain ⟨a, m, b⟩ := v
  simp only [Vl.c] at *
  clear ha hQ
  refine ac_enter tabOk (sz := 55) Tryz.func56 rfl (by rw [Tryz.ntmps56]; rfl) ?_
  repeat' (first | ((with_reducible refine aw_seqk ?_); intro K hK hX) | ((with_reducible refine isC_reg ?_); refine aw_prune [0, 1, 2, 3, 4, 6, 8, 9, 10, 11] rfl rfl ?_; with_reducible refine aw_region ?_) | ((with_reducible refine isC_draw ?_); refine aw_prune [0, 1, 2, 3, 4, 6, 8, 9, 10, 11] rfl rfl ?_; refine aw_drwF [] ?_) | ((first | with_reducible refine isA_call ?_ | with_reducible refine isD_call ?_); (first | refine zA ?_ | refine zN ?_ | refine zD ?_); (first | refine c0 (hh) ?_ | refine c0 (h2) ?_)) | ((first | ((with_reducible refine isA_any ?_); refine xA ?_) | ((with_reducible refine isDk_any ?_); refine xD ?_)); (first | ((with_reducible refine e_bin ?_); (first | refine ex_i (s_quo (k := .u64) rfl rfl (by decide) hq) ?_)) | ((with_reducible refine e_conv ?_); (first | refine ex_i (s_convInt tabOk rfl rfl rfl rfl hc) ?_)))) | refine stA ?_ | refine stD ?_ | (refine hK _ _ _ _ ?_; clear hK hX K) | (refine hX _ _ _ _ _ (by simp) ?_; clear hK hX K))
  refine retK_mk zio ztr rfl (ResL.one (ResA.tmp rfl)) zou
end Go.Proofs.YtccnhpaldmjkbaaGreat
