/-
  Joined texts: JL. Lemmas; no statement of a law.
-/
import Derived.Test.YtccnhpaldmjkbaaGreatQ34
import Derived.Test.YtccnhpaldmjkbaaGreatQ35
set_option maxHeartbeats 16000000
set_option linter.unusedSimpArgs false
set_option linter.unusedVariables false
namespace Go.Proofs.YtccnhpaldmjkbaaGreat
open Go Go.RowKit Go.Av
set_option maxRecDepth 100000
theorem ins_ec (l : List En) (x : En) (n k : Nat) (hn : l.length = n) (hk : k ≤ n) {R : List En} (h : R = l.take k ++ x :: l.drop k) : 0 + (k - 0) + 1 + (n - k) = R.length ∧ ([] ++ List.take ((k - 0) * 2) (List.drop (0 * 2) (ec l)) ++ [x.c].flatten) ++ List.take ((n - k) * 2) (List.drop (k * 2) (ec l)) = ec R := by
  subst h
  have hd : ((ec l).drop (k * 2)).length = (n - k) * 2 := by rw [List.length_drop, bH, hn, Nat.sub_mul]
  have e1 : (ec l).take (k * 2) = ec (l.take k) := by
    conv => lhs; rw [← List.take_append_drop k l, iW]
    rw [List.take_append_of_le_length (by rw [bH, List.length_take]; omega), List.take_of_length_le (by rw [bH, List.length_take]; omega)]
  have e2 : (ec l).drop (k * 2) = ec (l.drop k) := by
    conv => lhs; rw [← List.take_append_drop k l, iW]
    rw [List.drop_append_of_le_length (by rw [bH, List.length_take]; omega), List.drop_of_length_le (by rw [bH, List.length_take]; omega), List.nil_append]
  refine ⟨by rw [List.length_append, List.length_cons, List.length_take, List.length_drop]; omega, ?_⟩
  simp only [Nat.zero_mul, List.drop_zero, Nat.sub_zero]
  rw [List.take_of_length_le (Nat.le_of_eq hd), e1, e2, iW]
  simp [ec]
attribute [local irreducible] Still Adds AWL AW Drw DrwE EStep AC AWR Weak Frz Src RetK Out InK ItK AsK RdK
open Classical in
theorem rlook_bad (p : List Po) (n : Nat) (w : Wd) (hn : p.length = n) (hm : n ≤ maxLen) (hf : ∀ x ∈ p, x.r.length ≤ maxLen ∧ x.w.length ≤ 1000000) (hv : ¬ valP p) : AC Tryz.prog 39 [.sl 3 n (pc p), sv w] (.c (.sl 2 0 [])) [] 0 := by
  have h1 := kA p n hn hm hf
  rw [decide_eq_false hv] at h1
  refine aJ tabOk (sz := 38) Tryz.func39 rfl (by rw [Tryz.ntmps39]; rfl) ?_
  repeat' (first | ((with_reducible refine aB ?_); intro K hK hX) | ((with_reducible refine aC ?_); refine aD [0, 1, 4, 5, 6] rfl rfl ?_) | ((with_reducible refine aF ?_); refine aG [0, 1, 4, 5, 6] rfl rfl ?_; refine aI [] ?_) | ((first | with_reducible refine aE ?_ | with_reducible refine aT ?_); (first | refine zA ?_ | refine zN ?_ | refine zD ?_); (first | refine c0 h1 ?_)) | refine stA ?_ | refine stD ?_ | ((first | refine hK _ _ _ _ ?_ | refine hX _ _ _ _ _ (by simp) ?_); clear hK hX K))
  refine aK zio ztr rfl (ResL.one (ResA.tmp rfl)) zou
open Classical in
theorem wO (p : List Po) (n : Nat) (w : Wd) (hn : p.length = n) (hm : n ≤ 1000000) (hv : valP p) (M : Nat) (hM : (lkP p w).length = M) : AC Tryz.prog 39 [.sl 3 n (pc p), sv w] (.c (.sl 2 M (ec (lkP p w)))) [] 0 := by
  have h1 := kA p n hn (by simp only [maxLen]; omega) (fun x hx => by obtain ⟨a, b, _⟩ := (gL hv).2 x hx; have := a.2.1; have := b.1; simp only [maxLen]; omega)
  rw [decide_eq_true hv] at h1
  have hcl : (pc p).length = n * 3 := by rw [bQ, hn]
  obtain ⟨q, hq⟩ : ∃ q : Nat → Nat, ∀ i, (lkP (p.take i) w).length = q i := ⟨_, fun _ => rfl⟩
  have hql : ∀ i, q i ≤ 1000000 := fun i => by
    have := oK (p.take i) w
    rw [hq, List.length_take] at this
    omega
  have hq0 : 0 = q 0 := by rw [← hq]; rfl
  have hqn : q n = M := by rw [← hq, List.take_of_length_le (by omega), hM]
  have hrn : ec (lkP (p.take n) w) = ec (lkP p w) := by rw [List.take_of_length_le (by omega)]
  generalize ec (lkP p w) = R at hrn ⊢
  clear hM hv
  refine aJ tabOk (sz := 38) Tryz.func39 rfl (by rw [Tryz.ntmps39]; rfl) ?_
  repeat' (first | ((with_reducible refine aB ?_); intro K hK hX) | ((with_reducible refine aC ?_); refine aD [0, 1, 4, 5, 6] rfl rfl ?_) | ((with_reducible refine aF ?_); refine aG [0, 1, 4, 5, 6] rfl rfl ?_; refine aI [] ?_) | ((first | with_reducible refine aE ?_ | with_reducible refine aT ?_); (first | refine zA ?_ | refine zN ?_ | refine zD ?_); (first | refine c0 h1 ?_)) | refine stA ?_ | refine stD ?_ | ((first | refine hK _ _ _ _ ?_ | refine hX _ _ _ _ _ (by simp) ?_); clear hK hX K))
  refine dK 5 68 2 rfl ?_
  refine bC [5, 6] [0] rfl rfl (fun i : Nat => [(5, .own 0 0 (q i) 2 true), (6, .c (iv i))]) (fun i => [(0, .row 68 (ec (lkP (p.take i) w)))]) (fun i => i ≤ n) (fun i => n - i) 0 (Nat.zero_le _) (by refine bZ rfl ?_ ?_ rfl <;> (repeat' (first | exact bG | exact bM | refine aZ rfl (by first | rfl | (first | exact congrArg (fun x => AV.own 0 0 x 2 true) hq0) | exact zeq) rfl ?_ | refine aY rfl (by first | rfl | (first | exact congrArg (fun x => AV.own 0 0 x 2 true) hq0) | exact zeq) rfl ?_))) ?_
  intro i hi K hK hX
  have hqi := hql i
  have hLl : (ec (lkP (p.take i) w)).length = q i * 2 := by rw [bH, hq]
  by_cases hlt : i < n
  · obtain ⟨x, hx⟩ : ∃ x, p[i]? = some x := ⟨_, List.getElem?_eq_getElem (by omega)⟩
    have haw := pc_w hx
    have har := pc_r hx
    have han := pc_n hx
    have hst := vZ (w := w) hx
    have hqs := hq (i + 1)
    by_cases he : x.w = w
    · rw [if_pos he] at hst
      have heq := decide_eq_true he
      rw [hst, List.length_append, hq] at hqs
      have hqe : q i + 1 = q (i + 1) := hqs
      have hnx : ec (lkP (p.take i) w) ++ [.sl 3 x.r.length (rc x.r), iv x.n] = ec (lkP (p.take (i + 1)) w) := by rw [hst, iW]; rfl
      clear hst hqs hq hx hrn hq0 he
      generalize ec (lkP (p.take i) w) = L at *
      obtain ⟨w', r, c⟩ := x
      simp only at *
      repeat' (first | ((with_reducible refine aB ?_); intro K hK hX) | ((with_reducible refine aC ?_); refine aD [0, 1, 4, 5, 6] rfl rfl ?_) | ((with_reducible refine aF (i := 8) ?_); refine aG [0, 1, 4, 5, 6] rfl rfl ?_; refine cJ [] ?_) | ((with_reducible refine aF ?_); refine aG [0, 1, 4, 5, 6] rfl rfl ?_; refine aI [] ?_) | ((first | ((with_reducible refine aH ?_); refine xA ?_) | ((with_reducible refine aO ?_); refine xD ?_) | ((with_reducible refine cN ?_); refine xE ?_)); (first | ((with_reducible refine aU ?_); (first | refine aA (cC rfl rfl heq) ?_)) | ((with_reducible refine aP ?_); (first | refine aA (aR tabOk rfl rfl rfl rfl (by first | exact haw | exact har | exact han)) ?_ | refine aA (aN tabOk rfl rfl rfl rfl (by first | exact haw | exact har | exact han)) ?_ | refine aA (aM tabOk rfl rfl rfl (by first | exact haw | exact har | exact han)) ?_)) | ((with_reducible refine bR ?_); (first | refine aA (s_ixV1 tabOk rfl rfl zcj rfl rfl rfl rfl rfl zle (by first | exact haw | exact har | exact han)) ?_ | refine aA (aQ tabOk rfl rfl zcj rfl rfl (by first | exact haw | exact har | exact han)) ?_)))) | refine stA ?_ | refine stD ?_ | refine stE ?_ | ((first | refine hK _ _ _ _ ?_ | refine hX _ _ _ _ _ (by simp) ?_); clear hK hX K))
      exact ⟨i + 1, by omega, by omega, (by refine bS [2] rfl rfl ?_ ?_ rfl rfl <;> (repeat' (first | exact bI | exact bJ | refine bF rfl (by first | rfl | (exact congrArg (AObj.row 68) hnx) | exact zeq) rfl ?_ | refine bB rfl (by first | rfl | (exact congrArg (AObj.row 68) hnx) | exact zeq) rfl ?_)))⟩
    · rw [if_neg he] at hst
      have heq := decide_eq_false he
      rw [hst, hq] at hqs
      have hnx : ec (lkP (p.take i) w) = ec (lkP (p.take (i + 1)) w) := by rw [hst]
      clear hst hq hx hrn hq0 he
      generalize ec (lkP (p.take i) w) = L at *
      obtain ⟨w', r, c⟩ := x
      simp only at *
      repeat' (first | ((with_reducible refine aB ?_); intro K hK hX) | ((with_reducible refine aC ?_); refine aD [0, 1, 4, 5, 6] rfl rfl ?_) | ((with_reducible refine aF ?_); refine aG [0, 1, 4, 5, 6] rfl rfl ?_; refine aI [] ?_) | ((first | ((with_reducible refine aH ?_); refine xA ?_) | ((with_reducible refine aO ?_); refine xD ?_)); (first | ((with_reducible refine aU ?_); (first | refine aA (cC rfl rfl heq) ?_)) | ((with_reducible refine aP ?_); (first | refine aA (aR tabOk rfl rfl rfl rfl (by first | exact haw | exact har | exact han)) ?_ | refine aA (aN tabOk rfl rfl rfl rfl (by first | exact haw | exact har | exact han)) ?_ | refine aA (aM tabOk rfl rfl rfl (by first | exact haw | exact har | exact han)) ?_)) | ((with_reducible refine bR ?_); (first | refine aA (s_ixV1 tabOk rfl rfl zcj rfl rfl rfl rfl rfl zle (by first | exact haw | exact har | exact han)) ?_ | refine aA (aQ tabOk rfl rfl zcj rfl rfl (by first | exact haw | exact har | exact han)) ?_)))) | refine stA ?_ | refine stD ?_ | ((first | refine hK _ _ _ _ ?_ | refine hX _ _ _ _ _ (by simp) ?_); clear hK hX K))
      exact ⟨i + 1, by omega, by omega, (by refine bZ rfl ?_ ?_ rfl <;> (repeat' (first | exact bG | exact bM | refine aZ rfl (by first | rfl | (first | exact congrArg (fun x => AV.own 0 0 x 2 true) hqs | exact congrArg (AObj.row 68) hnx) | exact zeq) rfl ?_ | refine aY rfl (by first | rfl | (first | exact congrArg (fun x => AV.own 0 0 x 2 true) hqs | exact congrArg (AObj.row 68) hnx) | exact zeq) rfl ?_)))⟩
  · have hie : i = n := by omega
    rw [hie] at hLl ⊢
    clear hq hq0
    repeat' (first | ((with_reducible refine aB ?_); intro K hK hX) | ((with_reducible refine aC ?_); refine aD [0, 1, 4, 5, 6] rfl rfl ?_) | ((with_reducible refine aF ?_); refine aG [0, 1, 4, 5, 6] rfl rfl ?_; refine aI [] ?_) | refine stA ?_ | refine stD ?_ | ((first | refine hK _ _ _ _ ?_ | refine hX _ _ _ _ _ (by simp) ?_); clear hK hX K))
    refine aK zio ztr rfl (ResL.one (ResA.tmp rfl)) (cE (bO (cD rfl rfl hLl) (dA hqn hrn)))
end Go.Proofs.YtccnhpaldmjkbaaGreat
