/-
  Joined texts: T6 T7 T8. Lemmas; no statement of a law.
-/
import Derived.Test.YtccnhpaldmjkbaaGreatQ9
set_option linter.unusedSimpArgs false
set_option linter.unusedVariables false
namespace Go.Proofs.YtccnhpaldmjkbaaGreat
open Go Go.RowKit Go.Av
set_option maxRecDepth 100000
def sortE (l : List En) : List En :=
  if h : l.length ≤ 1 then l.filter fun e => e.n ≠ 0
  else mergeE (sortE (l.take (l.length / 2))) (sortE (l.drop (l.length / 2)))
termination_by l.length
decreasing_by
  · rw [List.length_take]; omega
  · rw [List.length_drop]; omega
theorem kS {l : List En} {n : Nat} (hn : l.length = n) (h : 1 < n) : sortE l = mergeE (sortE (l.take (n / 2))) (sortE (l.drop (n / 2))) := by
  subst hn
  rw [sortE, dif_neg (by omega)]
theorem tF : ∀ (l : List En) (k : Nat), (ec l).take (k * 2) = ec (l.take k)
  | [], k => by simp [ec]
  | e :: l, 0 => by simp [ec]
  | e :: l, k + 1 => by
    have := tF l k
    have hl : e.c.length = 2 := rfl
    unfold ec at this ⊢
    rw [List.take_succ_cons, List.flatMap_cons, List.flatMap_cons, show (k + 1) * 2 = e.c.length + k * 2 by rw [hl]; omega, List.take_length_add_append, this]
theorem tE : ∀ (l : List En) (k : Nat), (ec l).drop (k * 2) = ec (l.drop k)
  | [], k => by simp [ec]
  | e :: l, 0 => by simp [ec]
  | e :: l, k + 1 => by
    have := tE l k
    have hl : e.c.length = 2 := rfl
    unfold ec at this ⊢
    rw [List.drop_succ_cons, List.flatMap_cons, show (k + 1) * 2 = e.c.length + k * 2 by rw [hl]; omega, List.drop_length_add_append, this]
theorem uS (a b : List En) : absS (a ++ b) = absS a + absS b := by simp [absS]
theorem fZ : ∀ (n : Nat) (l : List En), l.length ≤ n → (sortE l).length ≤ l.length ∧ absS (sortE l) ≤ absS l ∧ ∀ p : List Vl → Prop, (∀ e ∈ l, p e.r) → ∀ e ∈ sortE l, p e.r := by
  intro n
  induction n with
  | zero =>
    intro l h
    have : l = [] := List.eq_nil_of_length_eq_zero (by omega)
    subst this
    rw [sortE]
    simp [absS]
  | succ n ih =>
    intro l h
    by_cases h1 : l.length ≤ 1
    · rw [sortE, dif_pos h1]
      refine ⟨List.length_filter_le .., ?_, fun p hp e he => hp e (List.mem_filter.1 he).1⟩
      match l, h1 with
      | [], _ => simp [absS]
      | [e], _ =>
        by_cases h0 : e.n = 0
        · simp [absS, h0]
        · simp [absS, h0]
    · rw [kS rfl (by omega)]
      obtain ⟨a1, a2, a3⟩ := ih (l.take (l.length / 2)) (by rw [List.length_take]; omega)
      obtain ⟨b1, b2, b3⟩ := ih (l.drop (l.length / 2)) (by rw [List.length_drop]; omega)
      have h3 := kU (sortE (l.take (l.length / 2))) (sortE (l.drop (l.length / 2)))
      have h4 := qF (sortE (l.take (l.length / 2))) (sortE (l.drop (l.length / 2)))
      have h5 := uS (l.take (l.length / 2)) (l.drop (l.length / 2))
      rw [List.take_append_drop] at h5
      rw [List.length_take] at a1
      rw [List.length_drop] at b1
      exact ⟨by omega, by omega, fun p hp => eW _ _ p (a3 p fun e he => hp e (List.mem_of_mem_take he)) (b3 p fun e he => hp e (List.mem_of_mem_drop he))⟩
attribute [local irreducible] Still Adds AWL AW Drw DrwE EStep AC AWR Weak Frz Src RetK Out InK ItK AsK RdK RetT OutT ACT
attribute [local simp] tF tE bH
theorem AC.len {P : Program} {f : FuncId} {args : List CV} {N N' : Nat} {cs : List CV} (h : AC P f args (.c (.sl 2 N cs)) [] 0) (e : N = N') : AC P f args (.c (.sl 2 N' cs)) [] 0 := e ▸ h
set_option maxHeartbeats 8000000 in
theorem sort_ok (n : Nat) : ∀ (l : List En) (N : Nat), l.length = n → n ≤ 100000 → fitB l → absS l ≤ 1000000000000 → (sortE l).length = N → AC Tryz.prog 104 [.sl 2 n (ec l)] (.c (.sl 2 N (ec (sortE l)))) [] 0 := by
  induction n using Nat.strongRecOn with
  | _ n ih =>
  intro l N hn hnn hf hb hN
  have hll : (ec l).length = n * 2 := by rw [bH, hn]
  by_cases n0 : n = 0
  · subst n0
    have : l = [] := List.eq_nil_of_length_eq_zero hn
    subst this
    have e1 : sortE [] = [] := by rw [sortE]; rfl
    rw [e1] at hN ⊢
    obtain rfl : N = 0 := hN.symm
    clear ih
    refine aJ tabOk (sz := 31) Tryz.func104 rfl (by rw [Tryz.ntmps104]; rfl) ?_
    repeat' (first | ((with_reducible refine aB ?_); intro K hK hX) | ((with_reducible refine aC ?_); refine aD [0, 2] rfl rfl ?_) | ((with_reducible refine aF ?_); refine aG [0, 2] rfl rfl ?_; refine aI [] ?_) | refine stA ?_ | refine stD ?_ | ((first | refine hK _ _ _ _ ?_ | refine hX _ _ _ _ _ (by simp) ?_); clear hK hX K))
    refine aK zio ztr rfl (ResL.one (ResA.tmp rfl)) zou
  · by_cases n1 : n = 1
    · subst n1
      obtain ⟨e, rfl⟩ : ∃ e, l = [e] := by
        match l, hn with
        | [e], _ => exact ⟨e, rfl⟩
      have e1 : sortE [e] = [e].filter fun e => e.n ≠ 0 := by rw [sortE]; rfl
      rw [e1] at hN ⊢
      obtain ⟨r, c⟩ := e
      clear ih e1
      by_cases h0 : c = 0
      · have e2 : ([⟨r, c⟩] : List En).filter (fun e => e.n ≠ 0) = [] := by simp [h0]
        rw [e2] at hN ⊢
        obtain rfl : N = 0 := hN.symm
        refine aJ tabOk (sz := 31) Tryz.func104 rfl (by rw [Tryz.ntmps104]; rfl) ?_
        repeat' (first | ((with_reducible refine aB ?_); intro K hK hX) | ((with_reducible refine aC ?_); refine aD [0, 2] rfl rfl ?_) | ((with_reducible refine aF ?_); refine aG [0, 2] rfl rfl ?_; refine aI [] ?_) | refine stA ?_ | refine stD ?_ | ((first | refine hK _ _ _ _ ?_ | refine hX _ _ _ _ _ (by simp) ?_); clear hK hX K))
        refine aK zio ztr rfl (ResL.one (ResA.tmp rfl)) zou
      · have e2 : ([⟨r, c⟩] : List En).filter (fun e => e.n ≠ 0) = [⟨r, c⟩] := by simp [h0]
        rw [e2] at hN ⊢
        obtain rfl : N = 1 := hN.symm
        refine aJ tabOk (sz := 31) Tryz.func104 rfl (by rw [Tryz.ntmps104]; rfl) ?_
        repeat' (first | ((with_reducible refine aB ?_); intro K hK hX) | ((with_reducible refine aC ?_); refine aD [0, 2] rfl rfl ?_) | ((with_reducible refine aF ?_); refine aG [0, 2] rfl rfl ?_; refine aI [] ?_) | ((first | with_reducible refine cK ?_ | with_reducible refine dQ ?_); (first | refine wA ?_ | refine wD ?_); (first | refine eL (bK (cM tabOk rfl rfl rfl rfl rfl) zln) ?_ | refine eL (bK (cU tabOk rfl rfl rfl rfl rfl rfl rfl rfl rfl rfl rfl rfl (cI rfl) (by first | rfl | exact all1 (by assumption) | (simp <;> fail) | fail) (by rfl)) zln) ?_)) | refine stA ?_ | refine stD ?_ | ((first | refine hK _ _ _ _ ?_ | refine hX _ _ _ _ _ (by simp) ?_); clear hK hX K))
        refine aK zio ztr rfl (ResL.one (ResA.tmp rfl)) zou
    · obtain ⟨a1, a2, a3⟩ := fZ (n / 2) (l.take (n / 2)) (by rw [List.length_take]; omega)
      obtain ⟨b1, b2, b3⟩ := fZ n (l.drop (n / 2)) (by rw [List.length_drop]; omega)
      have h5 := uS (l.take (n / 2)) (l.drop (n / 2))
      rw [List.take_append_drop] at h5
      have l1 : (l.take (n / 2)).length = n / 2 := by rw [List.length_take]; omega
      have l2 : (l.drop (n / 2)).length = n - n / 2 := by rw [List.length_drop]; omega
      rw [l1] at a1
      rw [l2] at b1
      have f1 : fitB (l.take (n / 2)) := fun e he => hf e (List.mem_of_mem_take he)
      have f2 : fitB (l.drop (n / 2)) := fun e he => hf e (List.mem_of_mem_drop he)
      obtain ⟨N1, hN1⟩ : ∃ N1, (sortE (l.take (n / 2))).length = N1 := ⟨_, rfl⟩
      obtain ⟨N2, hN2⟩ : ∃ N2, (sortE (l.drop (n / 2))).length = N2 := ⟨_, rfl⟩
      have h1 := ih (n / 2) (by omega) (l.take (n / 2)) N1 l1 (by omega) f1 (by omega) hN1
      have h2 := ih (n - n / 2) (by omega) (l.drop (n / 2)) N2 l2 (by omega) f2 (by omega) hN2
      rw [kS hn (by omega)] at hN ⊢
      have h3 := merge_ok (sortE (l.take (n / 2))) (sortE (l.drop (n / 2))) N1 N2 N hN1 hN2 (by omega) (by omega) (a3 (fun r => r.length ≤ maxLen) f1) (b3 (fun r => r.length ≤ maxLen) f2) (by omega) (by omega) hN
      have hq : IntKind.i64.wrap ((n : Int).tdiv 2) = ((n / 2 : Nat) : Int) := by rw [q64 (by omega) (by omega) (by omega)]; omega
      rw [← tF] at h1
      rw [← tE] at h2
      have h2' := AC.args h2 (args' := [.sl 2 (n - n / 2) (((ec l).drop (n / 2 * 2)).take ((n - n / 2) * 2))]) (dF (dA rfl (List.take_of_length_le (by rw [List.length_drop, hll]; omega))) gO)
      generalize sortE (l.take (n / 2)) = X at h1 h3 ⊢
      generalize sortE (l.drop (n / 2)) = Y at h2 h2' h3 ⊢
      clear ih a1 a2 a3 b1 b2 b3 h5 f1 f2
      refine aJ tabOk (sz := 31) Tryz.func104 rfl (by rw [Tryz.ntmps104]; rfl) ?_
      repeat' (first | ((with_reducible refine aB ?_); intro K hK hX) | ((with_reducible refine aC ?_); refine aD [0, 2] rfl rfl ?_) | ((with_reducible refine aF ?_); refine aG [0, 2] rfl rfl ?_; refine aI [] ?_) | ((first | with_reducible refine aE ?_ | with_reducible refine aT ?_); (first | refine zA ?_ | refine zN ?_ | refine zD ?_); (first | refine c0 h1 ?_ | refine c0 h2' ?_ | refine c0 h2 ?_ | refine c0 h3 ?_)) | ((first | ((with_reducible refine aH ?_); refine xA ?_) | ((with_reducible refine aO ?_); refine xD ?_)); (first | ((with_reducible refine aU ?_); (first | refine aA (mK (k := .i64) rfl rfl (by decide) hq) ?_)))) | refine stA ?_ | refine stD ?_ | ((first | refine hK _ _ _ _ ?_ | refine hX _ _ _ _ _ (by simp) ?_); clear hK hX K))
      refine aK zio ztr rfl (ResL.one (ResA.tmp rfl)) zou
end Go.Proofs.YtccnhpaldmjkbaaGreat
namespace Go.Proofs.YtccnhpaldmjkbaaGreat
open Go Go.RowKit Go.Av
set_option maxRecDepth 100000
structure GC {α : Type} (c : α → α → Int) : Prop where
  anti : ∀ x y, c y x = - c x y
  tr : ∀ x y z, c x y ≤ 0 → c y z ≤ 0 → c x z ≤ 0
section
variable {α : Type} {c : α → α → Int}
theorem GC.tr0 (h : GC c) {x y z : α} (h1 : c x y ≤ 0) (h2 : c y z ≤ 0) (h3 : c x z = 0) : c x y = 0 ∧ c y z = 0 := by
  have a1 := h.anti x z
  have a2 := h.anti x y
  have a3 := h.anti y z
  have b1 := h.tr y z x h2 (by omega)
  have b2 := h.tr z x y (by omega) h1
  omega
theorem GC.lt (h : GC c) {x y z : α} (h1 : c x y < 0) (h2 : c y z < 0) : c x z < 0 := by
  have b1 := h.tr x y z (by omega) (by omega)
  by_cases h3 : c x z = 0
  · have := h.tr0 (y := y) (by omega) (by omega) h3; omega
  · omega
theorem GC.eqlt (h : GC c) {x y z : α} (h1 : c x y = 0) (h2 : c y z < 0) : c x z < 0 := by
  have b1 := h.tr x y z (by omega) (by omega)
  by_cases h3 : c x z = 0
  · have := h.tr0 (y := y) (by omega) (by omega) h3; omega
  · omega
end
theorem gc_Z : GC cmpZ := by
  constructor
  · intro x y; unfold cmpZ; split <;> (try split) <;> omega
  · intro x y z; unfold cmpZ; split <;> (try split) <;> (try split) <;> (try split) <;> (try split) <;> (try split) <;> omega
theorem u8_eq {a b : UInt8} (h1 : ¬ a < b) (h2 : ¬ b < a) : a = b := by
  apply UInt8.toNat_inj.1
  have e1 : ¬ a.toNat < b.toNat := h1
  have e2 : ¬ b.toNat < a.toNat := h2
  omega
theorem gc_B : GC Lib.compareBytes := by
  constructor
  · intro x
    induction x with
    | nil => intro y; cases y <;> rfl
    | cons a x ih =>
      intro y
      cases y with
      | nil => rfl
      | cons b y =>
        unfold Lib.compareBytes
        by_cases h1 : a < b
        · have h2 : ¬ b < a := fun h => by have e1 : a.toNat < b.toNat := h1; have e2 : b.toNat < a.toNat := h; omega
          simp [h1, h2]
        · by_cases h2 : b < a
          · simp [h1, h2]
          · simp [h1, h2, ih y]
  · intro x
    induction x with
    | nil =>
      intro y z h1 h2
      cases z with
      | nil => simp [Lib.compareBytes]
      | cons c z => simp [Lib.compareBytes]
    | cons a x ih =>
      intro y z h1 h2
      cases y with
      | nil => simp [Lib.compareBytes] at h1
      | cons b y =>
        cases z with
        | nil => simp [Lib.compareBytes] at h2
        | cons c z =>
          unfold Lib.compareBytes at h1 h2 ⊢
          by_cases p1 : a < b
          · have e1 : a.toNat < b.toNat := p1
            by_cases p2 : b < c
            · have e2 : b.toNat < c.toNat := p2
              have : a < c := by show a.toNat < c.toNat; omega
              simp [this]
            · by_cases p3 : c < b
              · simp [p2, p3] at h2
              · have := u8_eq p2 p3
                subst this
                simp [p1]
          · by_cases p4 : b < a
            · simp [p1, p4] at h1
            · have := u8_eq p1 p4
              subst this
              by_cases p2 : a < c
              · simp [p2]
              · by_cases p3 : c < a
                · simp [p2, p3] at h2
                · simp [p1] at h1
                  simp [p2, p3] at h2 ⊢
                  exact ih y z h1 h2
theorem gc_V : GC cmpV := by
  constructor
  · intro x y
    unfold cmpV
    by_cases h1 : x.k = y.k
    · have e1 : ¬ (y.k ≠ x.k) := fun h => h h1.symm
      have e2 : ¬ (x.k ≠ y.k) := fun h => h h1
      rw [if_neg e1, if_neg e2, h1]
      by_cases h2 : y.k = 1
      · rw [if_pos h2, if_pos h2]; exact gc_Z.anti _ _
      · rw [if_neg h2, if_neg h2]
        by_cases h3 : y.k = 2
        · rw [if_pos h3, if_pos h3]; exact gc_B.anti _ _
        · rw [if_neg h3, if_neg h3]; rfl
    · rw [if_pos (fun h => h1 h.symm), if_pos h1]; exact gc_Z.anti _ _
  · intro x y z h1 h2
    unfold cmpV at h1 h2 ⊢
    by_cases e1 : x.k = y.k
    · by_cases e2 : y.k = z.k
      · have e3 := e1.trans e2
        rw [if_neg (fun h => h e1)] at h1
        rw [if_neg (fun h => h e2), ← e1] at h2
        rw [if_neg (fun h => h e3)]
        by_cases p1 : x.k = 1
        · rw [if_pos p1] at h1 h2 ⊢; exact gc_Z.tr _ _ _ h1 h2
        · rw [if_neg p1] at h1 h2 ⊢
          by_cases p2 : x.k = 2
          · rw [if_pos p2] at h1 h2 ⊢; exact gc_B.tr _ _ _ h1 h2
          · rw [if_neg p2]; omega
      · rw [if_pos e2] at h2
        rw [if_pos (by omega), e1]; exact h2
    · rw [if_pos e1] at h1
      by_cases e2 : y.k = z.k
      · rw [if_pos (by omega), ← e2]; exact h1
      · rw [if_pos e2] at h2
        have := gc_Z.tr _ _ _ h1 h2
        by_cases e3 : x.k = z.k
        · exfalso
          unfold cmpZ at h1 h2
          split at h1 <;> (try split at h1) <;> split at h2 <;> (try split at h2) <;> omega
        · rw [if_pos e3]; exact this
theorem gc_R : GC cmpR := by
  constructor
  · intro x
    induction x with
    | nil => intro y; cases y <;> rfl
    | cons a x ih =>
      intro y
      cases y with
      | nil => rfl
      | cons b y =>
        unfold cmpR
        have h := gc_V.anti (clV a) (clV b)
        by_cases h1 : cmpV (clV a) (clV b) = 0
        · rw [if_neg (by omega), if_neg (by omega)]; exact ih y
        · rw [if_pos (by omega), if_pos (by omega)]; exact h
  · intro x
    induction x with
    | nil =>
      intro y z h1 h2
      cases z with
      | nil => simp [cmpR]
      | cons c z => simp [cmpR]
    | cons a x ih =>
      intro y z h1 h2
      cases y with
      | nil => simp [cmpR] at h1
      | cons b y =>
        cases z with
        | nil => simp [cmpR] at h2
        | cons c z =>
          unfold cmpR at h1 h2 ⊢
          have q1 : cmpV (clV a) (clV b) ≤ 0 := by split at h1 <;> omega
          have q2 : cmpV (clV b) (clV c) ≤ 0 := by split at h2 <;> omega
          have q3 := gc_V.tr _ _ _ q1 q2
          by_cases q4 : cmpV (clV a) (clV c) = 0
          · obtain ⟨q5, q6⟩ := gc_V.tr0 q1 q2 q4
            rw [if_neg (by omega)] at h1 h2 ⊢
            exact ih y z h1 h2
          · rw [if_pos q4]; exact q3
theorem dE (r : List Vl) : cmpR r r = 0 := by have := gc_R.anti r r; omega
theorem cmpZ_eq {a b : Int} (h : cmpZ a b = 0) : a = b := by unfold cmpZ at h; split at h <;> (try split at h) <;> omega
theorem cmpV_eq {x y : Vl} (hx : okP x) (hy : okP y) (h : cmpV x y = 0) : x = y := by
  unfold cmpV at h
  obtain ⟨k, n, t⟩ := x
  obtain ⟨k', n', t'⟩ := y
  simp only [okP] at hx hy h
  by_cases e1 : k = k'
  · subst e1
    rw [if_neg (fun h => h rfl)] at h
    by_cases p1 : k = 1
    · rw [if_pos p1] at h
      have := cmpZ_eq h
      subst this
      rcases hx with ⟨a, _⟩ | ⟨_, _, _, a⟩ | ⟨a, _⟩
      · omega
      · rcases hy with ⟨b, _⟩ | ⟨_, _, _, b⟩ | ⟨b, _⟩
        · omega
        · rw [a, b]
        · omega
      · omega
    · rw [if_neg p1] at h
      by_cases p2 : k = 2
      · rw [if_pos p2] at h
        have := (kJ _ _).1 h
        subst this
        rcases hx with ⟨a, _⟩ | ⟨a, _⟩ | ⟨_, a, _⟩
        · omega
        · omega
        · rcases hy with ⟨b, _⟩ | ⟨b, _⟩ | ⟨_, b, _⟩
          · omega
          · omega
          · rw [a, b]
      · rcases hx with ⟨_, a1, a2⟩ | ⟨a, _⟩ | ⟨a, _⟩
        · rcases hy with ⟨_, b1, b2⟩ | ⟨b, _⟩ | ⟨b, _⟩
          · rw [a1, a2, b1, b2]
          · omega
          · omega
        · omega
        · omega
  · rw [if_pos e1] at h
    exact absurd (cmpZ_eq h) e1
theorem fB : ∀ {r s : List Vl}, (∀ v ∈ r, okP v) → (∀ v ∈ s, okP v) → cmpR r s = 0 → r = s
  | [], [], _, _, _ => rfl
  | [], _ :: _, _, _, h => by simp [cmpR] at h
  | _ :: _, [], _, _, h => by simp [cmpR] at h
  | a :: r, b :: s, hr, hs, h => by
    unfold cmpR at h
    have ha := hr a (by simp)
    have hb := hs b (by simp)
    rw [eZ ha, eZ hb] at h
    by_cases h1 : cmpV a b = 0
    · rw [if_neg (by omega)] at h
      rw [cmpV_eq ha hb h1, fB (fun v hv => hr v (by simp [hv])) (fun v hv => hs v (by simp [hv])) h]
    · rw [if_pos h1] at h; exact absurd h h1
def srtE (b : List En) : Prop := b.Pairwise fun e f => cmpR e.r f.r < 0
theorem lH (Q : En → Prop) (hQ : ∀ e f, Q e → Q f → cmpR e.r f.r = 0 → e.n + f.n ≠ 0 → Q ⟨e.r, e.n + f.n⟩) : ∀ (a b : List En), (∀ e ∈ a, Q e) → (∀ e ∈ b, Q e) → ∀ e ∈ mergeE a b, Q e := by
  intro a b
  induction a, b using mergeE.induct with
  | case1 bt1 => intro _ h; rw [mergeE]; exact h
  | case2 a at1 => intro h _; rw [mergeE]; exact h
  | case3 a at1 b bt1 h ih =>
    intro h1 h2; rw [mergeE, if_pos h]
    intro e he
    rcases List.mem_cons.1 he with rfl | he
    · exact h1 _ (by simp)
    · exact ih (fun e he => h1 e (by simp [he])) h2 e he
  | case4 a at1 b bt1 h h2 ih =>
    intro h1 h3; rw [mergeE, if_neg h, if_pos h2]
    intro e he
    rcases List.mem_cons.1 he with rfl | he
    · exact h3 _ (by simp)
    · exact ih h1 (fun e he => h3 e (by simp [he])) e he
  | case5 a at1 b bt1 h h2 h3 ih =>
    intro h1 h4; rw [mergeE, if_neg h, if_neg h2, if_pos h3]
    intro e he
    rcases List.mem_cons.1 he with rfl | he
    · exact hQ a b (h1 a (by simp)) (h4 b (by simp)) (by omega) h3
    · exact ih (fun e he => h1 e (by simp [he])) (fun e he => h4 e (by simp [he])) e he
  | case6 a at1 b bt1 h h2 h3 ih =>
    intro h1 h4; rw [mergeE, if_neg h, if_neg h2, if_neg h3]
    exact ih (fun e he => h1 e (by simp [he])) (fun e he => h4 e (by simp [he]))
theorem lI : ∀ (a b : List En), srtE a → srtE b → srtE (mergeE a b) := by
  intro a b
  induction a, b using mergeE.induct with
  | case1 bt1 => intro _ h; rw [mergeE]; exact h
  | case2 a at1 => intro h _; rw [mergeE]; exact h
  | case3 a at1 b bt1 h ih =>
    intro h1 h2; rw [mergeE, if_pos h]
    obtain ⟨h3, h4⟩ := List.pairwise_cons.1 h1
    obtain ⟨h5, h6⟩ := List.pairwise_cons.1 h2
    refine List.pairwise_cons.2 ⟨eW _ _ (fun r => cmpR a.r r < 0) h3 fun e he => ?_, ih h4 h2⟩
    rcases List.mem_cons.1 he with rfl | he
    · exact h
    · exact gc_R.lt h (h5 e he)
  | case4 a at1 b bt1 h h2 ih =>
    intro h1 h3; rw [mergeE, if_neg h, if_pos h2]
    obtain ⟨h4, h5⟩ := List.pairwise_cons.1 h1
    obtain ⟨h6, h7⟩ := List.pairwise_cons.1 h3
    have hba : cmpR b.r a.r < 0 := by have := gc_R.anti a.r b.r; omega
    refine List.pairwise_cons.2 ⟨eW _ _ (fun r => cmpR b.r r < 0) (fun e he => ?_) h6, ih h1 h7⟩
    rcases List.mem_cons.1 he with rfl | he
    · exact hba
    · exact gc_R.lt hba (h4 e he)
  | case5 a at1 b bt1 h h2 h3 ih =>
    intro h1 h4; rw [mergeE, if_neg h, if_neg h2, if_pos h3]
    obtain ⟨h5, h6⟩ := List.pairwise_cons.1 h1
    obtain ⟨h7, h8⟩ := List.pairwise_cons.1 h4
    exact List.pairwise_cons.2 ⟨eW _ _ (fun r => cmpR a.r r < 0) h5 fun e he => gc_R.eqlt (by omega) (h7 e he), ih h6 h8⟩
  | case6 a at1 b bt1 h h2 h3 ih =>
    intro h1 h4; rw [mergeE, if_neg h, if_neg h2, if_neg h3]
    exact ih (List.pairwise_cons.1 h1).2 (List.pairwise_cons.1 h4).2
theorem sortE_ind (C : List En → Prop) (h0 : ∀ l : List En, l.length ≤ 1 → C (l.filter fun e => e.n ≠ 0)) (h1 : ∀ a b : List En, C a → C b → C (mergeE a b)) : ∀ (n : Nat) (l : List En), l.length ≤ n → C (sortE l) := by
  intro n
  induction n with
  | zero => intro l hl; rw [sortE, dif_pos (by omega)]; exact h0 l (by omega)
  | succ n ih =>
    intro l hl
    by_cases hl1 : l.length ≤ 1
    · rw [sortE, dif_pos hl1]; exact h0 l hl1
    · rw [kS rfl (by omega)]
      exact h1 _ _ (ih _ (by rw [List.length_take]; omega)) (ih _ (by rw [List.length_drop]; omega))
theorem sortE_srt (l : List En) : srtE (sortE l) := by
  refine sortE_ind srtE (fun l hl => ?_) (fun a b => lI a b) l.length l (Nat.le_refl _)
  match l, hl with
  | [], _ => exact List.Pairwise.nil
  | [e], _ => exact List.Pairwise.sublist (List.filter_sublist) (List.pairwise_singleton _ _)
theorem sortE_all (Q : En → Prop) (hQ : ∀ e f, Q e → Q f → cmpR e.r f.r = 0 → e.n + f.n ≠ 0 → Q ⟨e.r, e.n + f.n⟩) : ∀ (n : Nat) (l : List En), l.length ≤ n → (∀ e ∈ l, e.n ≠ 0 → Q e) → ∀ e ∈ sortE l, Q e := by
  intro n
  induction n with
  | zero =>
    intro l hl h; rw [sortE, dif_pos (by omega)]
    intro e he
    obtain ⟨h1, h2⟩ := List.mem_filter.1 he
    exact h e h1 (by simpa using h2)
  | succ n ih =>
    intro l hl h
    by_cases hl1 : l.length ≤ 1
    · rw [sortE, dif_pos hl1]
      intro e he
      obtain ⟨h1, h2⟩ := List.mem_filter.1 he
      exact h e h1 (by simpa using h2)
    · rw [kS rfl (by omega)]
      exact lH Q hQ _ _ (ih _ (by rw [List.length_take]; omega) fun e he => h e (List.mem_of_mem_take he)) (ih _ (by rw [List.length_drop]; omega) fun e he => h e (List.mem_of_mem_drop he))
def wsum (g : List Vl → Int) (b : List En) : Int := (b.map fun e => e.n * g e.r).sum
theorem cP (g : List Vl → Int) (e : En) (b : List En) : wsum g (e :: b) = e.n * g e.r + wsum g b := by simp [wsum]
theorem mR (g : List Vl → Int) : wsum g [] = 0 := rfl
def okR (b : List En) : Prop := ∀ e ∈ b, ∀ v ∈ e.r, okP v
theorem oB (g : List Vl → Int) : ∀ (a b : List En), okR a → okR b → wsum g (mergeE a b) = wsum g a + wsum g b := by
  intro a b
  induction a, b using mergeE.induct with
  | case1 bt1 => intro _ h; rw [mergeE, mR]; omega
  | case2 a at1 => intro h _; rw [mergeE, mR]; omega
  | case3 a at1 b bt1 h ih =>
    intro h1 h2; rw [mergeE, if_pos h, cP, ih (fun e he => h1 e (by simp [he])) h2, cP g a]; omega
  | case4 a at1 b bt1 h h2 ih =>
    intro h1 h3; rw [mergeE, if_neg h, if_pos h2, cP, ih h1 (fun e he => h3 e (by simp [he])), cP g b]; omega
  | case5 a at1 b bt1 h h2 h3 ih =>
    intro h1 h4
    rw [mergeE, if_neg h, if_neg h2, if_pos h3, cP, ih (fun e he => h1 e (by simp [he])) (fun e he => h4 e (by simp [he])), cP, cP]
    have : a.r = b.r := fB (h1 a (by simp)) (h4 b (by simp)) (by omega)
    simp only
    rw [this, Int.add_mul]; omega
  | case6 a at1 b bt1 h h2 h3 ih =>
    intro h1 h4
    rw [mergeE, if_neg h, if_neg h2, if_neg h3, ih (fun e he => h1 e (by simp [he])) (fun e he => h4 e (by simp [he])), cP, cP]
    have : a.r = b.r := fB (h1 a (by simp)) (h4 b (by simp)) (by omega)
    have h5 : a.n + b.n = 0 := by omega
    have : a.n * g a.r + b.n * g b.r = 0 := by rw [this, ← Int.add_mul, h5, Int.zero_mul]
    omega
structure BagF (M : Nat) (b : List En) : Prop where
  srt : srtE b
  pos : ∀ e ∈ b, 0 < e.n
  row : ∀ e ∈ b, rowP e.r
  abs : absS b ≤ M
theorem BagF.len {M : Nat} {b : List En} (h : BagF M b) : b.length ≤ M := by
  have h1 := h.pos
  have h2 := h.abs
  clear h
  induction b generalizing M with
  | nil => simp
  | cons e b ih =>
    rw [gE] at h2
    have := h1 e (by simp)
    have := ih (M := M - e.n.natAbs) (fun e he => h1 e (by simp [he])) (by omega)
    simp only [List.length_cons]; omega
theorem BagF.ok {M : Nat} {b : List En} (h : BagF M b) : okR b := fun e he v hv => (h.row e he).2 v hv
theorem BagF.fit {M : Nat} {b : List En} (h : BagF M b) : fitB b := fun e he => by have := (h.row e he).1; simp only [maxLen]; omega
theorem BagF.posP {M : Nat} {b : List En} (h : BagF M b) (hM : M ≤ 4096) : posP b := by
  refine ⟨⟨Nat.le_trans h.len hM, fun i hi e he => ?_⟩, fun e he => by have := h.pos e he; omega⟩
  have hm := List.mem_of_getElem? he
  have h1 := jK hm
  have h2 := h.abs
  have h3 := h.pos e hm
  refine ⟨⟨by omega, by omega, h.row e hm⟩, by omega, fun f hi0 hf => ?_⟩
  obtain ⟨h4, h5⟩ := List.getElem?_eq_some_iff.1 he
  obtain ⟨h6, h7⟩ := List.getElem?_eq_some_iff.1 hf
  have := List.pairwise_iff_getElem.1 h.srt (i - 1) i h6 h4 (by omega)
  rw [h5, h7] at this
  exact this
theorem BagF.merge {M N : Nat} {a b : List En} (ha : BagF M a) (hb : BagF N b) : BagF (M + N) (mergeE a b) :=
  ⟨lI _ _ ha.srt hb.srt, lH (fun e => 0 < e.n) (fun e f h1 h2 _ _ => by simp only at h1 h2 ⊢; omega) _ _ ha.pos hb.pos, eW _ _ rowP ha.row hb.row, by have := qF a b; have := ha.abs; have := hb.abs; omega⟩
theorem BagF.sort {M : Nat} {l : List En} (h1 : ∀ e ∈ l, 0 ≤ e.n) (h2 : ∀ e ∈ l, rowP e.r) (h3 : absS l ≤ M) : BagF M (sortE l) := by
  obtain ⟨_, f2, f3⟩ := fZ l.length l (Nat.le_refl _)
  exact ⟨sortE_srt l, sortE_all (fun e => 0 < e.n) (fun e f h1 h2 _ _ => by simp only at h1 h2 ⊢; omega) l.length l (Nat.le_refl _) (fun e he h0 => by have := h1 e he; omega), f3 rowP h2, by omega⟩
end Go.Proofs.YtccnhpaldmjkbaaGreat
namespace Go.Proofs.YtccnhpaldmjkbaaGreat
open Go Go.RowKit Go.Av
set_option maxRecDepth 100000
def cnt (w : Nat) (v : Vl) (p : Nat) : Nat → Nat
  | 0 => 0
  | i + 1 => cnt w v p i + (if placeV w v i = p then 1 else 0)
def hits (w d col p : Nat) (r : List Vl) : Int := if (cellV r col).k = 0 then 0 else (cnt w (cellV r col) p d : Int)
def En.neg (e : En) : En := ⟨e.r, -e.n⟩
def remN (w d col : Nat) (l : List Int) (b : List En) (i : Nat) : List Int := (b.take i).foldl (fun l e => stepE 0 w d col l e.neg) l
end Go.Proofs.YtccnhpaldmjkbaaGreat
