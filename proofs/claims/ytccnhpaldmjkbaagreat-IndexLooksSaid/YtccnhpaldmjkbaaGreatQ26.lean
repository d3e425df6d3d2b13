/-
  Joined texts: AvSh IQ I9. Lemmas; no statement of a law.
-/
import Derived.Test.YtccnhpaldmjkbaaGreatQ24
set_option maxHeartbeats 16000000
set_option linter.unusedSimpArgs false
set_option linter.unusedVariables false
namespace Go.Av
open Go Go.RowKit
section
variable {P : Program} {tab : Tab} {ev : Evl} {h : Heap} {d : Option Tmp} {T ty : TypeId} {pos : String} {aft : Array Edge} {gd : Option (Nat × Bool)} {q : Nat} {x y : Operand}
end
section
variable {P : Program} {tab : Tab} {sz n i0 n0 m : Nat} {env env0 : Env} {h h0 hr : Heap} {dfs : Defs} {K : AK} {ops : Array Oper} {l rest : List Oper} {es : List Eat} {ids : List Nat} {d : Option Tmp} {t : Tmp} {T ty : TypeId} {pos : String} {aft : Array Edge} {gd : Option (Nat × Bool)} {x y : Operand}
end
end Go.Av
namespace Go.Proofs.YtccnhpaldmjkbaaGreat
open Go Go.RowKit Go.Av
set_option maxRecDepth 100000
def idxP : List Po → Po → Nat
  | [], _ => 0
  | y :: l, x => if cmpP y x < 0 then idxP l x + 1 else 0
theorem idxP_le : ∀ (l : List Po) (x : Po), idxP l x ≤ l.length
  | [], x => Nat.le_refl _
  | y :: l, x => by
    have := idxP_le l x
    rw [idxP]
    split
    · rw [List.length_cons]; omega
    · omega
theorem idxP_lt : ∀ {l : List Po} {x y : Po} {k : Nat}, k < idxP l x → l[k]? = some y → cmpP y x < 0
  | [], x, y, k, h, _ => by simp [idxP] at h
  | z :: l, x, y, k, h, hy => by
    rw [idxP] at h
    split at h
    · rename_i hz
      cases k with
      | zero => simp at hy; subst hy; exact hz
      | succ k => exact idxP_lt (l := l) (k := k) (by omega) (by simpa using hy)
    · omega
theorem idxP_at : ∀ {l : List Po} {x y : Po}, l[idxP l x]? = some y → ¬ cmpP y x < 0
  | [], x, y, h => by simp at h
  | z :: l, x, y, h => by
    rw [idxP] at h
    split at h
    · exact idxP_at (l := l) (by simpa using h)
    · rename_i hz
      simp at h; subst h; exact hz
theorem uU : ∀ (l : List Po) (x : Po), (∀ y, l[idxP l x]? = some y → cmpP y x ≠ 0) → addR l x = l.take (idxP l x) ++ x :: l.drop (idxP l x)
  | [], x, _ => rfl
  | z :: l, x, h => by
    rw [addR, idxP]
    rw [idxP] at h
    split
    · rename_i hz
      rw [if_pos hz] at h
      rw [uU l x fun y hy => h y (by simpa using hy)]; rfl
    · rename_i hz
      rw [if_neg hz] at h
      have := h z (by simp)
      rw [if_pos (by omega)]; rfl
theorem uT (q : Po → Prop) (hq : ∀ y x : Po, q y → q x → q ⟨y.w, y.r, y.n + x.n⟩) : ∀ {l : List Po} {x : Po}, (∀ y ∈ l, q y) → q x → ∀ y ∈ addR l x, q y
  | [], x, _, hx => fun y hy => by
    have : y = x := by simpa [addR] using hy
    rw [this]; exact hx
  | z :: l, x, hl, hx => fun y hy => by
    have hz := hl z (by simp)
    have ih := uT q hq (l := l) (x := x) (fun y hy => hl y (by simp [hy])) hx
    rw [addR] at hy
    split at hy
    · rcases List.mem_cons.1 hy with e | hy
      · rw [e]; exact hz
      · exact ih y hy
    · split at hy
      · rcases List.mem_cons.1 hy with e | hy
        · rw [e]; exact hx
        · exact hl y hy
      · split at hy
        · rcases List.mem_cons.1 hy with e | hy
          · rw [e]; exact hq z x hz hx
          · exact hl y (by simp [hy])
        · exact hl y (by simp [hy])
def foldP (p0 : List Po) (ps : List (Wd × En)) : List Po := (ps.map mkPo).foldl addR p0
theorem lC (p0 : List Po) (ps : List (Wd × En)) (p : Wd × En) : foldP p0 (ps ++ [p]) = addR (foldP p0 ps) (mkPo p) := by unfold foldP; rw [List.map_append, List.foldl_append]; rfl
theorem nC (p0 : List Po) (ps : List (Wd × En)) : (foldP p0 ps).length ≤ p0.length + ps.length := by
  refine snocI (p := fun ps => (foldP p0 ps).length ≤ p0.length + ps.length) (Nat.le_refl _) (fun ps p ih => ?_) ps
  have := uV (foldP p0 ps) (mkPo p)
  rw [lC, List.length_append, List.length_singleton]; omega
theorem rV (q : Po → Prop) (hq : ∀ y x : Po, q y → q x → q ⟨y.w, y.r, y.n + x.n⟩) {p0 : List Po} (h0 : ∀ y ∈ p0, q y) (ps : List (Wd × En)) (hp : ∀ p ∈ ps, q (mkPo p)) : ∀ y ∈ foldP p0 ps, q y := by
  revert hp
  refine snocI (p := fun ps => (∀ p ∈ ps, q (mkPo p)) → ∀ y ∈ foldP p0 ps, q y) (fun _ => h0) (fun ps p ih hp => ?_) ps
  rw [lC]
  exact uT q hq (ih fun p hp' => hp p (by simp [hp'])) (hp p (by simp))
theorem cmpP_ne {x y : Po} (hx : ∀ v ∈ x.r, okP v) (hy : ∀ v ∈ y.r, okP v) (h : ¬ (x.w = y.w ∧ x.r = y.r)) : cmpP x y ≠ 0 := fun e => by
  unfold cmpP at e
  by_cases h1 : Lib.compareBytes x.w y.w = 0
  · rw [if_neg (by omega)] at e
    exact h ⟨(kJ _ _).1 h1, fB hx hy e⟩
  · rw [if_pos h1] at e; exact h1 e
theorem prs_new {col : Nat} {b : List En} (hb : GoodE b) {i j : Nat} {e : En} {w : Wd} (he : b[i]? = some e) (hw : (wdsE col e.r)[j]? = some w) : ∀ y ∈ foldP [] (prs col (b.take i) ++ ((wdsE col e.r).take j).map fun w => (w, e)), cmpP y (mkPo (w, e)) ≠ 0 := by
  have hem := List.mem_of_getElem? he
  refine rV (fun y => cmpP y (mkPo (w, e)) ≠ 0) (fun y x hy _ => hy) (fun y hy => by cases hy) _ fun p hp => ?_
  rcases List.mem_append.1 hp with hp | hp
  · obtain ⟨h1, h2⟩ := gC hp
    refine cmpP_ne (hb.ok _ (List.mem_of_mem_take h1)) (hb.ok e hem) fun h => ?_
    obtain ⟨k, hk⟩ := List.mem_iff_getElem?.1 h1
    have hki : k < i := by
      have := (List.getElem?_eq_some_iff.1 hk).1
      rw [List.length_take] at this
      omega
    rw [List.getElem?_take_of_lt hki] at hk
    obtain ⟨q1, q2⟩ := List.getElem?_eq_some_iff.1 hk
    obtain ⟨q3, q4⟩ := List.getElem?_eq_some_iff.1 he
    have := List.pairwise_iff_getElem.1 hb.srt k i q1 q3 hki
    rw [q2, q4] at this
    have hr : p.2.r = e.r := h.2
    rw [hr, dE] at this
    omega
  · obtain ⟨v, hv, rfl⟩ := List.mem_map.1 hp
    refine cmpP_ne (hb.ok e hem) (hb.ok e hem) fun h => ?_
    have hvw : v = w := h.1
    subst hvw
    obtain ⟨k, hk⟩ := List.mem_iff_getElem?.1 hv
    have hki : k < j := by
      have := (List.getElem?_eq_some_iff.1 hk).1
      rw [List.length_take] at this
      omega
    rw [List.getElem?_take_of_lt hki] at hk
    obtain ⟨q1, q2⟩ := List.getElem?_eq_some_iff.1 hk
    obtain ⟨q3, q4⟩ := List.getElem?_eq_some_iff.1 hw
    have := List.pairwise_iff_getElem.1 (kX (xP col e.r)) k j q1 q3 hki
    exact this (q2.trans q4.symm)
theorem zC {col : Nat} {b : List En} (hb : GoodE b) : foldP [] (prs col b) = postP (prs col b) := by
  have := post_ref (col := col) (p := []) (b := b) (fun y hy => by cases hy) GoodE.nil hb
  rw [qG] at this
  exact this
end Go.Proofs.YtccnhpaldmjkbaaGreat
namespace Go.Proofs.YtccnhpaldmjkbaaGreat
open Go Go.RowKit Go.Av
set_option maxRecDepth 100000
theorem slP {a b : Nat} {l m : List Po} (h : l = m) (ha : l.length = a) (hb : m.length = b) : AV.c (.sl 3 a (pc l)) = AV.c (.sl 3 b (pc m)) := by subst h; rw [← ha, ← hb]
theorem ins_pc (l : List Po) (x : Po) (n k : Nat) (hn : l.length = n) (hk : k ≤ n) {R : List Po} (h : R = l.take k ++ x :: l.drop k) : 0 + (k - 0) + 1 + (n - k) = R.length ∧ ([] ++ List.take ((k - 0) * 3) (List.drop (0 * 3) (pc l)) ++ [x.c].flatten) ++ List.take ((n - k) * 3) (List.drop (k * 3) (pc l)) = pc R := by
  subst h
  have hd : ((pc l).drop (k * 3)).length = (n - k) * 3 := by rw [List.length_drop, bQ, hn, Nat.sub_mul]
  have e1 : (pc l).take (k * 3) = pc (l.take k) := by
    conv => lhs; rw [← List.take_append_drop k l, qJ]
    rw [List.take_append_of_le_length (by rw [bQ, List.length_take]; omega), List.take_of_length_le (by rw [bQ, List.length_take]; omega)]
  have e2 : (pc l).drop (k * 3) = pc (l.drop k) := by
    conv => lhs; rw [← List.take_append_drop k l, qJ]
    rw [List.drop_append_of_le_length (by rw [bQ, List.length_take]; omega), List.drop_of_length_le (by rw [bQ, List.length_take]; omega), List.nil_append]
  refine ⟨by rw [List.length_append, List.length_cons, List.length_take, List.length_drop]; omega, ?_⟩
  simp only [Nat.zero_mul, List.drop_zero, Nat.sub_zero]
  rw [List.take_of_length_le (Nat.le_of_eq hd), e1, e2, qJ, pc_cons]
  simp
attribute [local irreducible] Still Adds AWL AW Drw DrwE EStep AC AWR Weak Frz Src RetK Out InK ItK AsK RdK
theorem mH (x y : Po) (hx : x.r.length ≤ maxLen) (hy : y.r.length ≤ maxLen) : AC Tryz.prog 82 [.agg x.c, .agg y.c] (.c (bv (decide (cmpP x y < 0)))) [] 0 := by
  have hl := mC x.w y.w
  have hc := fY x.r y.r x.r.length y.r.length rfl rfl hx hy
  by_cases h1 : Lib.compareBytes x.w y.w < 0
  · have e : cmpP x y < 0 := by unfold cmpP; rw [if_pos (by omega)]; exact h1
    rw [decide_eq_true e]
    rw [decide_eq_true h1] at hl
    clear hc e h1
    obtain ⟨xw, xr, xn⟩ := x
    obtain ⟨yw, yr, yn⟩ := y
    simp only [Po.c] at *
    refine aJ tabOk (sz := 25) Tryz.func82 rfl (by rw [Tryz.ntmps82]; rfl) ?_
    repeat' (first | ((with_reducible refine aB ?_); intro K hK hX) | ((with_reducible refine aC ?_); refine aD [0, 1, 2, 3, 4] rfl rfl ?_) | (((with_reducible refine aH ?_); refine xA ?_); (first | ((with_reducible refine aU ?_); (first | refine aA (fM rfl rfl hl) ?_)))) | refine stA ?_ | ((first | refine hK _ _ _ _ ?_ | refine hX _ _ _ _ _ (by simp) ?_); clear hK hX K))
    refine aK zio ztr rfl (ResL.one (ResA.tmp rfl)) zou
  · rw [decide_eq_false h1] at hl
    by_cases h2 : x.w = y.w
    · have h0 : Lib.compareBytes x.w y.w = 0 := (kJ _ _).2 h2
      have e : cmpP x y = cmpR x.r y.r := by unfold cmpP; rw [if_neg (by omega)]
      rw [e]
      have heq := decide_eq_true h2
      generalize cmpR x.r y.r = c at hc ⊢
      clear h0 e h1 h2
      obtain ⟨xw, xr, xn⟩ := x
      obtain ⟨yw, yr, yn⟩ := y
      simp only [Po.c] at *
      refine aJ tabOk (sz := 25) Tryz.func82 rfl (by rw [Tryz.ntmps82]; rfl) ?_
      repeat' (first | ((with_reducible refine aB ?_); intro K hK hX) | ((with_reducible refine aC ?_); refine aD [0, 1, 2, 3, 4] rfl rfl ?_) | ((with_reducible refine aE ?_); (first | refine zA ?_ | refine zN ?_); (first | refine c0 hc ?_)) | (((with_reducible refine aH ?_); refine xA ?_); (first | ((with_reducible refine aU ?_); (first | refine aA (fM rfl rfl hl) ?_ | refine aA (cC rfl rfl heq) ?_)))) | refine stA ?_ | ((first | refine hK _ _ _ _ ?_ | refine hX _ _ _ _ _ (by simp) ?_); clear hK hX K))
      refine aK zio ztr rfl (ResL.one (ResA.tmp rfl)) zou
    · have h0 : Lib.compareBytes x.w y.w ≠ 0 := fun h => h2 ((kJ _ _).1 h)
      have e : ¬ cmpP x y < 0 := by unfold cmpP; rw [if_pos h0]; exact h1
      rw [decide_eq_false e]
      have heq := decide_eq_false h2
      clear hc e h1 h2 h0
      obtain ⟨xw, xr, xn⟩ := x
      obtain ⟨yw, yr, yn⟩ := y
      simp only [Po.c] at *
      refine aJ tabOk (sz := 25) Tryz.func82 rfl (by rw [Tryz.ntmps82]; rfl) ?_
      repeat' (first | ((with_reducible refine aB ?_); intro K hK hX) | ((with_reducible refine aC ?_); refine aD [0, 1, 2, 3, 4] rfl rfl ?_) | (((with_reducible refine aH ?_); refine xA ?_); (first | ((with_reducible refine aU ?_); (first | refine aA (fM rfl rfl hl) ?_ | refine aA (cC rfl rfl heq) ?_)))) | refine stA ?_ | ((first | refine hK _ _ _ _ ?_ | refine hX _ _ _ _ _ (by simp) ?_); clear hK hX K))
      refine aK zio ztr rfl (ResL.one (ResA.tmp rfl)) zou
theorem raddP_ok (l : List Po) (x : Po) (n : Nat) (hn : l.length = n) (hm : n ≤ 2000000) (hfl : ∀ y ∈ l, y.r.length ≤ maxLen) (hfx : x.r.length ≤ maxLen) (hnew : ∀ y, l[idxP l x]? = some y → cmpP y x ≠ 0) : AC Tryz.prog 107 [.sl 3 n (pc l), .agg x.c] (.c (.sl 3 (addR l x).length (pc (addR l x)))) [] 0 := by
  obtain ⟨k, hk⟩ : ∃ k, idxP l x = k := ⟨_, rfl⟩
  have hkn : k ≤ n := by rw [← hk, ← hn]; exact idxP_le l x
  have hR := uU l x hnew
  rw [hk] at hR
  obtain ⟨w1, w2⟩ := ins_pc l x n k hn hkn hR
  have hlt : ∀ j y, j < k → l[j]? = some y → cmpP y x < 0 := fun j y hj hy => idxP_lt (by rw [hk]; exact hj) hy
  have hge : ∀ y, l[k]? = some y → 0 < cmpP y x := fun y hy => by
    have h1 := idxP_at (l := l) (x := x) (y := y) (by rw [hk]; exact hy)
    have h2 := hnew y (by rw [hk]; exact hy)
    omega
  have hcl : (pc l).length = n * 3 := by rw [bQ, hn]
  generalize addR l x = R at *
  clear hR hk hnew
  have ht : ((pc l).take (k * 3)).length = k * 3 := by rw [List.length_take]; omega
  have hd : ((pc l).drop (k * 3)).length = (n - k) * 3 := by rw [List.length_drop, hcl, Nat.sub_mul]
  refine aJ tabOk (sz := 73) Tryz.func107 rfl (by rw [Tryz.ntmps107]; rfl) ?_
  repeat' (first | ((with_reducible refine aB ?_); intro K hK hX) | ((with_reducible refine aC ?_); refine aD [0, 1, 3, 4, 5, 6] rfl rfl ?_) | ((with_reducible refine aF ?_); refine aG [0, 1, 3, 4, 5, 6] rfl rfl ?_; refine aI [] ?_) | refine stA ?_ | refine stD ?_ | ((first | refine hK _ _ _ _ ?_ | refine hX _ _ _ _ _ (by simp) ?_); clear hK hX K))
  refine bC [5] [] rfl rfl (fun i : Nat => [(5, .c (iv i))]) (fun i => []) (fun i => i ≤ k) (fun i => k - i) 0 (Nat.zero_le _) weakA ?_
  intro i hi K hK hX
  by_cases hik : i < k
  · obtain ⟨y, hy⟩ : ∃ y, l[i]? = some y := ⟨_, List.getElem?_eq_getElem (by omega)⟩
    have hat := iM hy
    have hls := mH y x (hfl y (List.mem_of_getElem? hy)) hfx
    rw [decide_eq_true (hlt i y hik hy)] at hls
    clear hge hlt w1 w2 ht hd hy
    obtain ⟨yw, yr, yn⟩ := y
    obtain ⟨xw, xr, xn⟩ := x
    simp only [Po.c] at *
    have hin : i < n := by omega
    repeat' (first | ((with_reducible refine aB ?_); intro K hK hX) | ((with_reducible refine aC ?_); refine aD [0, 1, 3, 4, 5, 6] rfl rfl ?_) | ((with_reducible refine aF ?_); refine aG [0, 1, 3, 4, 5, 6] rfl rfl ?_; refine aI [] ?_) | ((first | with_reducible refine aE ?_ | with_reducible refine aT ?_); (first | refine zA ?_ | refine zN ?_ | refine zD ?_); (first | refine c0 hls ?_)) | ((first | ((with_reducible refine aH ?_); refine xA ?_) | ((with_reducible refine aO ?_); refine xD ?_)); (first | ((with_reducible refine aP ?_); (first | refine aA (aW tabOk rfl rfl rfl rfl (by first | exact hat | exact whole0 (by first | rfl | omega) | rfl) zln) ?_ | refine aA (aV tabOk rfl rfl rfl (by first | exact hat | exact whole0 (by first | rfl | omega) | rfl) zln) ?_)) | ((with_reducible refine bE ?_); (first | refine aA (s_slArri tabOk rfl rfl rfl rfl zbd zbd zle zle (by decide) (by first | exact hat | exact whole0 (by first | rfl | omega) | rfl) zln) ?_)))) | refine stA ?_ | refine stD ?_ | ((first | refine hK _ _ _ _ ?_ | refine hX _ _ _ _ _ (by simp) ?_); clear hK hX K))
    exact ⟨i + 1, by omega, by omega, weakA⟩
  · have hie : i = k := by omega
    rw [hie]
    clear hlt hik hi
    by_cases hkl : k < n
    · obtain ⟨y, hy⟩ : ∃ y, l[k]? = some y := ⟨_, List.getElem?_eq_getElem (by omega)⟩
      have hat := iM hy
      have h1 := hge y hy
      have h2 := gc_P.anti x y
      have hls := mH y x (hfl y (List.mem_of_getElem? hy)) hfx
      rw [decide_eq_false (by omega)] at hls
      have hgr := mH x y hfx (hfl y (List.mem_of_getElem? hy))
      rw [decide_eq_true (by omega)] at hgr
      clear hge hy h1 h2 hfl hfx
      obtain ⟨yw, yr, yn⟩ := y
      obtain ⟨xw, xr, xn⟩ := x
      simp only [Po.c] at *
      repeat' (first | ((with_reducible refine aB ?_); intro K hK hX) | ((with_reducible refine aC ?_); refine aD [0, 1, 3, 4, 5, 6] rfl rfl ?_) | ((with_reducible refine aF (i := 5) ?_); refine aG [0, 1, 3, 4, 5, 6] rfl rfl ?_; refine cJ [] ?_) | ((with_reducible refine aF ?_); refine aG [0, 1, 3, 4, 5, 6] rfl rfl ?_; refine aI [] ?_) | ((first | with_reducible refine aE ?_ | with_reducible refine aT ?_ | with_reducible refine bW ?_); (first | refine zA ?_ | refine zN ?_ | refine zD ?_ | refine zE ?_); (first | refine c0 hls ?_ | refine c0 hgr ?_)) | ((first | ((with_reducible refine aH ?_); refine xA ?_) | ((with_reducible refine aO ?_); refine xD ?_) | ((with_reducible refine cN ?_); refine xE ?_)); (first | ((with_reducible refine aP ?_); (first | refine aA (aW tabOk rfl rfl rfl rfl (by first | exact hat | exact whole0 (by first | rfl | omega) | rfl) zln) ?_ | refine aA (aV tabOk rfl rfl rfl (by first | exact hat | exact whole0 (by first | rfl | omega) | rfl) zln) ?_)) | ((with_reducible refine bE ?_); (first | refine aA (s_slArri tabOk rfl rfl rfl rfl zbd zbd zle zle (by decide) (by first | exact hat | exact whole0 (by first | rfl | omega) | rfl) zln) ?_)))) | refine stA ?_ | refine stD ?_ | refine stE ?_ | ((first | refine hK _ _ _ _ ?_ | refine hX _ _ _ _ _ (by simp) ?_); clear hK hX K))
      refine aK zio ztr rfl (ResL.one (ResA.tmp rfl)) (cE (bO (cD rfl rfl (by rw [w2, bQ, ← w1])) (dA w1 w2)))
    · have hkn2 : k = n := by omega
      clear hge hfl hfx
      obtain ⟨xw, xr, xn⟩ := x
      simp only [Po.c] at *
      repeat' (first | ((with_reducible refine aB ?_); intro K hK hX) | ((with_reducible refine aC ?_); refine aD [0, 1, 3, 4, 5, 6] rfl rfl ?_) | ((with_reducible refine aF (i := 5) ?_); refine aG [0, 1, 3, 4, 5, 6] rfl rfl ?_; refine cJ [] ?_) | ((with_reducible refine aF ?_); refine aG [0, 1, 3, 4, 5, 6] rfl rfl ?_; refine aI [] ?_) | refine stA ?_ | refine stD ?_ | refine stE ?_ | ((first | refine hK _ _ _ _ ?_ | refine hX _ _ _ _ _ (by simp) ?_); clear hK hX K))
      refine aK zio ztr rfl (ResL.one (ResA.tmp rfl)) (cE (bO (cD rfl rfl (by rw [w2, bQ, ← w1])) (dA w1 w2)))
theorem raddN_ok (l : List Po) (x : Po) (n : Nat) (hn : l.length = n) (hm : n ≤ 2000000) (hfl : ∀ y ∈ l, y.r.length ≤ maxLen) (hfx : x.r.length ≤ maxLen) (hnew : ∀ y ∈ l, cmpP y x ≠ 0) : AC Tryz.prog 107 [.sl 3 n (pc l), .agg x.c] (.c (.sl 3 (addR l x).length (pc (addR l x)))) [] 0 := raddP_ok l x n hn hm hfl hfx fun y hy => hnew y (List.mem_of_getElem? hy)
def atP (p0 : List Po) (col : Nat) (b : List En) (i : Nat) (e : En) (j : Nat) : List Po := foldP p0 (prs col (b.take i) ++ ((wdsE col e.r).take j).map fun w => (w, e))
def AddC (l : List Po) (x : Po) : Prop := AC Tryz.prog 107 [.sl 3 l.length (pc l), .agg x.c] (.c (.sl 3 (addR l x).length (pc (addR l x)))) [] 0
theorem rpost_ok (p0 : List Po) (m0 : Nat) (hm0 : p0.length = m0) (hm1 : m0 ≤ 500000) (b : List En) (n : Nat) (hn : b.length = n) (hn2 : n ≤ 4096) (hb : ∀ e ∈ b, rowP e.r) (col : Nat) (hc : (col : Int) ≤ 9223372036854775807) (M : Nat) (hM : (foldP p0 (prs col b)).length = M)
    (hadd : ∀ i j e w, b[i]? = some e → (wdsE col e.r)[j]? = some w → AddC (atP p0 col b i e j) (mkPo (w, e))) : AC Tryz.prog 46 [.sl 3 m0 (pc p0), .sl 2 n (ec b), iv col] (.c (.sl 3 M (pc (foldP p0 (prs col b))))) [] 0 := by
  have hbl : (ec b).length = n * 2 := by rw [bH, hn]
  have hokR : okR b := fun e he => (hb e he).2
  obtain ⟨P, hP⟩ : ∃ P : Nat → List Po, ∀ i, P i = foldP p0 (prs col (b.take i)) := ⟨_, fun _ => rfl⟩
  obtain ⟨p, hp⟩ : ∃ p : Nat → Nat, ∀ i, (P i).length = p i := ⟨_, fun _ => rfl⟩
  have hA0 : AV.c (.sl 3 m0 (pc p0)) = AV.c (.sl 3 (p 0) (pc (P 0))) := slP (by rw [hP]; rfl) hm0 (hp 0)
  have hPn : P n = foldP p0 (prs col b) := by rw [hP, List.take_of_length_le (by omega)]
  have w1 : p n = M := by rw [← hp, hPn, hM]
  have w2 : pc (P n) = pc (foldP p0 (prs col b)) := by rw [hPn]
  have hpl : ∀ i, p i ≤ 700000 := fun i => by
    have h1 := nC p0 (prs col (b.take i))
    have h2 := eP (col := col) (b := b.take i) (fun e he => hokR e (List.mem_of_mem_take he))
    rw [List.length_take] at h2
    rw [← hp, hP]
    omega
  generalize foldP p0 (prs col b) = F at w2 ⊢
  clear hPn hM
  refine aJ tabOk (sz := 70) Tryz.func46 rfl (by rw [Tryz.ntmps46]; rfl) ?_
  repeat' (first | ((with_reducible refine aB ?_); intro K hK hX) | ((with_reducible refine aC ?_); refine aD [0, 1, 2, 6, 7, 8, 9] rfl rfl ?_) | ((with_reducible refine aF ?_); refine aG [0, 1, 2, 6, 7, 8, 9] rfl rfl ?_; refine aI [] ?_) | refine stA ?_ | refine stD ?_ | ((first | refine hK _ _ _ _ ?_ | refine hX _ _ _ _ _ (by simp) ?_); clear hK hX K))
  refine bC [0, 7, 8, 9] [] rfl rfl (fun i : Nat => [(0, .c (.sl 3 (p i) (pc (P i)))), (7, .c (iv i))]) (fun i => []) (fun i => i ≤ n) (fun i => n - i) 0 (Nat.zero_le _) (by refine bZ rfl ?_ ?_ rfl <;> (repeat' (first | exact bG | exact bM | refine aZ rfl (by first | rfl | (exact hA0) | exact zeq) rfl ?_ | refine aY rfl (by first | rfl | (exact hA0) | exact zeq) rfl ?_))) ?_
  intro i hi K hK hX
  have hpi := hpl i
  have hpcl : (pc (P i)).length = p i * 3 := by rw [bQ, hp]
  by_cases hlt : i < n
  · obtain ⟨e, he⟩ : ∃ e, b[i]? = some e := ⟨b[i]'(by omega), List.getElem?_eq_getElem _⟩
    have hen := lB he
    have her := dW he
    have hrw := hb e (List.mem_of_getElem? he)
    have hstep : prs col (b.take (i + 1)) = prs col (b.take i) ++ (wdsE col e.r).map fun w => (w, e) := by
      rw [List.take_add_one, he, Option.toList_some, prs_app]; simp [prs]
    have had := fun j w hw => hadd i j e w he hw
    clear hA0 w1 w2 hadd
    by_cases hcl : col < e.r.length
    · obtain ⟨v, hv⟩ : ∃ v, e.r[col]? = some v := ⟨_, List.getElem?_eq_getElem hcl⟩
      have hvk := rc_kI hv
      have hvt := rc_tI hv
      by_cases hk : v.k = 2
      · have hvok : okP v := hrw.2 v (List.mem_of_getElem? hv)
        have hvl : v.t.length ≤ 32 := by
          rcases hvok with ⟨_, _, h3⟩ | ⟨_, _, _, h3⟩ | ⟨_, _, h3⟩
          · rw [h3]; decide
          · rw [h3]; decide
          · exact h3
        have hwd : wdsE col e.r = wordsP v.t := by unfold wdsE; rw [hv]; simp only [hk, if_true]
        have hwk := sL v.t (by omega)
        obtain ⟨hwl, hwm⟩ := eK v.t
        obtain ⟨G, hG⟩ : ∃ G : Nat → List Po, ∀ j, G j = atP p0 col b i e j := ⟨_, fun _ => rfl⟩
        obtain ⟨g, hg⟩ : ∃ g : Nat → Nat, ∀ j, (G j).length = g j := ⟨_, fun _ => rfl⟩
        have had2 : ∀ j w, (wordsP v.t)[j]? = some w → AC Tryz.prog 107 [.sl 3 (g j) (pc (G j)), .agg (mkPo (w, e)).c] (.c (.sl 3 (g (j + 1)) (pc (G (j + 1))))) [] 0 := fun j w hw => by
          rw [← hwd] at hw
          have h1 := had j w hw
          have h2 : G (j + 1) = addR (G j) (mkPo (w, e)) := by
            rw [hG, hG]
            unfold atP
            rw [List.take_add_one, hw, Option.toList_some, List.map_append, ← List.append_assoc]
            exact lC _ _ _
          rw [← hg j, ← hg (j + 1), h2, hG j]
          exact h1
        have hG0 : P i = G 0 := by rw [hP, hG]; unfold atP; simp
        have hGm : G (wordsP v.t).length = P (i + 1) := by rw [hG, hP, hstep]; unfold atP; rw [hwd, List.take_length]
        have hgl : ∀ j, g j ≤ 700000 := fun j => by
          rw [← hg, hG]
          unfold atP
          have h1 := nC p0 (prs col (b.take i) ++ ((wdsE col e.r).take j).map fun w => (w, e))
          have h2 := eP (col := col) (b := b.take i) (fun e he => hokR e (List.mem_of_mem_take he))
          rw [List.length_take] at h2
          have h3 : (wdsE col e.r).length ≤ 32 := by rw [hwd]; omega
          rw [List.length_append, List.length_map, List.length_take] at h1
          omega
        generalize wordsP v.t = W at *
        obtain ⟨m, hm⟩ : ∃ m, W.length = m := ⟨_, rfl⟩
        rw [hm] at hwk hwl hGm
        have hWl : (strc W).length = m := by rw [bU, hm]
        have hA1 := slP hG0 (hp i) (hg 0)
        have hA2 := slP hGm (hg m) (hp (i + 1))
        clear had hwm hstep hP hokR hb hn hG hwd hvok hpl hG0 hGm
        obtain ⟨vk, vn, vt⟩ := v
        obtain ⟨r, c⟩ := e
        simp only [mkPo, Po.c] at *
        subst hk
        repeat' (first | ((with_reducible refine aB ?_); intro K hK hX) | ((with_reducible refine aC ?_); refine aD [0, 1, 2, 6, 7, 8, 9] rfl rfl ?_) | ((with_reducible refine aF ?_); refine aG [0, 1, 2, 6, 7, 8, 9] rfl rfl ?_; refine aI [] ?_) | ((first | with_reducible refine aE ?_ | with_reducible refine aT ?_); (first | refine zA ?_ | refine zN ?_ | refine zD ?_); (first | refine c0 hwk ?_)) | ((first | ((with_reducible refine aH ?_); refine xA ?_) | ((with_reducible refine aO ?_); refine xD ?_)); (first | ((with_reducible refine aP ?_); (first | refine aA (aR tabOk rfl rfl rfl rfl (by first | exact her | exact hvk | exact hvt)) ?_ | refine aA (aN tabOk rfl rfl rfl rfl (by first | exact her | exact hvk | exact hvt)) ?_ | refine aA (aM tabOk rfl rfl rfl (by first | exact her | exact hvk | exact hvt)) ?_)) | ((with_reducible refine bR ?_); (first | refine aA (s_ixV1 tabOk rfl rfl zcj rfl rfl rfl rfl rfl zle (by first | exact her | exact hvk | exact hvt)) ?_ | refine aA (aQ tabOk rfl rfl zcj rfl rfl (by first | exact her | exact hvk | exact hvt)) ?_)))) | refine stA ?_ | refine stD ?_ | ((first | refine hK _ _ _ _ ?_ | refine hX _ _ _ _ _ (by simp) ?_); clear hK hX K))
        refine bC [0, 9] [] rfl rfl (fun j : Nat => [(0, .c (.sl 3 (g j) (pc (G j)))), (9, .c (iv j))]) (fun j => []) (fun j => j ≤ m) (fun j => m - j) 0 (Nat.zero_le _) (by refine bZ rfl ?_ ?_ rfl <;> (repeat' (first | exact bG | exact bM | refine aZ rfl (by first | rfl | (exact hA1) | exact zeq) rfl ?_ | refine aY rfl (by first | rfl | (exact hA1) | exact zeq) rfl ?_))) ?_
        intro j hj K hK hX
        have hgj := hgl j
        have hgcl : (pc (G j)).length = g j * 3 := by rw [bQ, hg]
        by_cases hjm : j < m
        · obtain ⟨w, hw⟩ : ∃ w, W[j]? = some w := ⟨_, List.getElem?_eq_getElem (by omega)⟩
          have hws := eF hw
          have ha := had2 j w hw
          clear had2 hA1 hA2 hgl
          repeat' (first | ((with_reducible refine aB ?_); intro K hK hX) | ((with_reducible refine aC ?_); refine aD [0, 1, 2, 6, 7, 8, 9] rfl rfl ?_) | ((with_reducible refine aF ?_); refine aG [0, 1, 2, 6, 7, 8, 9] rfl rfl ?_; refine aI [] ?_) | ((first | with_reducible refine aE ?_ | with_reducible refine aT ?_); (first | refine zA ?_ | refine zN ?_ | refine zD ?_); (first | refine c0 ha ?_)) | ((first | ((with_reducible refine aH ?_); refine xA ?_) | ((with_reducible refine aO ?_); refine xD ?_)); (first | ((with_reducible refine aP ?_); (first | refine aA (aR tabOk rfl rfl rfl rfl (by first | (rw [Nat.mul_one]; exact hws) | exact her | exact hen)) ?_ | refine aA (aN tabOk rfl rfl rfl rfl (by first | (rw [Nat.mul_one]; exact hws) | exact her | exact hen)) ?_ | refine aA (aM tabOk rfl rfl rfl (by first | (rw [Nat.mul_one]; exact hws) | exact her | exact hen)) ?_)) | ((with_reducible refine bR ?_); (first | refine aA (s_ixV1 tabOk rfl rfl zcj rfl rfl rfl rfl rfl zle (by first | (rw [Nat.mul_one]; exact hws) | exact her | exact hen)) ?_ | refine aA (aQ tabOk rfl rfl zcj rfl rfl (by first | (rw [Nat.mul_one]; exact hws) | exact her | exact hen)) ?_)))) | refine stA ?_ | refine stD ?_ | ((first | refine hK _ _ _ _ ?_ | refine hX _ _ _ _ _ (by simp) ?_); clear hK hX K))
          exact ⟨j + 1, by omega, by omega, weakA⟩
        · have hje : j = m := by omega
          rw [hje]
          clear had2 hA1 hgl
          repeat' (first | ((with_reducible refine aB ?_); intro K hK hX) | ((with_reducible refine aC ?_); refine aD [0, 1, 2, 6, 7, 8, 9] rfl rfl ?_) | ((with_reducible refine aF ?_); refine aG [0, 1, 2, 6, 7, 8, 9] rfl rfl ?_; refine aI [] ?_) | refine stA ?_ | refine stD ?_ | ((first | refine hK _ _ _ _ ?_ | refine hX _ _ _ _ _ (by simp) ?_); clear hK hX K))
          exact ⟨i + 1, by omega, by omega, (by refine bZ rfl ?_ ?_ rfl <;> (repeat' (first | exact bG | exact bM | refine aZ rfl (by first | rfl | (exact hA2) | exact zeq) rfl ?_ | refine aY rfl (by first | rfl | (exact hA2) | exact zeq) rfl ?_)))⟩
      · have hwd : wdsE col e.r = [] := by unfold wdsE; rw [hv]; simp only [hk, if_false]
        have hPe : P i = P (i + 1) := by rw [hP, hP, hstep, hwd, List.map_nil, List.append_nil]
        have hA2 := slP hPe (hp i) (hp (i + 1))
        clear had hstep hP hokR hb hn hwd hpl hPe hrw
        obtain ⟨vk, vn, vt⟩ := v
        obtain ⟨r, c⟩ := e
        simp only at *
        repeat' (first | ((with_reducible refine aB ?_); intro K hK hX) | ((with_reducible refine aC ?_); refine aD [0, 1, 2, 6, 7, 8, 9] rfl rfl ?_) | ((with_reducible refine aF ?_); refine aG [0, 1, 2, 6, 7, 8, 9] rfl rfl ?_; refine aI [] ?_) | ((first | ((with_reducible refine aH ?_); refine xA ?_) | ((with_reducible refine aO ?_); refine xD ?_)); (first | ((with_reducible refine aP ?_); (first | refine aA (aR tabOk rfl rfl rfl rfl (by first | exact her | exact hvk | exact hvt)) ?_ | refine aA (aN tabOk rfl rfl rfl rfl (by first | exact her | exact hvk | exact hvt)) ?_ | refine aA (aM tabOk rfl rfl rfl (by first | exact her | exact hvk | exact hvt)) ?_)) | ((with_reducible refine bR ?_); (first | refine aA (s_ixV1 tabOk rfl rfl zcj rfl rfl rfl rfl rfl zle (by first | exact her | exact hvk | exact hvt)) ?_ | refine aA (aQ tabOk rfl rfl zcj rfl rfl (by first | exact her | exact hvk | exact hvt)) ?_)))) | refine stA ?_ | refine stD ?_ | ((first | refine hK _ _ _ _ ?_ | refine hX _ _ _ _ _ (by simp) ?_); clear hK hX K))
        exact ⟨i + 1, by omega, by omega, (by refine bZ rfl ?_ ?_ rfl <;> (repeat' (first | exact bG | exact bM | refine aZ rfl (by first | rfl | (exact hA2) | exact zeq) rfl ?_ | refine aY rfl (by first | rfl | (exact hA2) | exact zeq) rfl ?_)))⟩
    · have hwd : wdsE col e.r = [] := by unfold wdsE; rw [List.getElem?_eq_none (by omega)]
      have hPe : P i = P (i + 1) := by rw [hP, hP, hstep, hwd, List.map_nil, List.append_nil]
      have hA2 := slP hPe (hp i) (hp (i + 1))
      clear had hstep hP hokR hb hn hwd hpl hPe hrw
      obtain ⟨r, c⟩ := e
      simp only at *
      repeat' (first | ((with_reducible refine aB ?_); intro K hK hX) | ((with_reducible refine aC ?_); refine aD [0, 1, 2, 6, 7, 8, 9] rfl rfl ?_) | ((with_reducible refine aF ?_); refine aG [0, 1, 2, 6, 7, 8, 9] rfl rfl ?_; refine aI [] ?_) | ((first | ((with_reducible refine aH ?_); refine xA ?_) | ((with_reducible refine aO ?_); refine xD ?_)); (first | ((with_reducible refine aP ?_); (first | refine aA (aR tabOk rfl rfl rfl rfl (by exact her)) ?_ | refine aA (aN tabOk rfl rfl rfl rfl (by exact her)) ?_ | refine aA (aM tabOk rfl rfl rfl (by exact her)) ?_)) | ((with_reducible refine bR ?_); (first | refine aA (s_ixV1 tabOk rfl rfl zcj rfl rfl rfl rfl rfl zle (by exact her)) ?_ | refine aA (aQ tabOk rfl rfl zcj rfl rfl (by exact her)) ?_)))) | refine stA ?_ | refine stD ?_ | ((first | refine hK _ _ _ _ ?_ | refine hX _ _ _ _ _ (by simp) ?_); clear hK hX K))
      exact ⟨i + 1, by omega, by omega, (by refine bZ rfl ?_ ?_ rfl <;> (repeat' (first | exact bG | exact bM | refine aZ rfl (by first | rfl | (exact hA2) | exact zeq) rfl ?_ | refine aY rfl (by first | rfl | (exact hA2) | exact zeq) rfl ?_)))⟩
  · have hie : i = n := by omega
    rw [hie]
    clear hA0 hadd hpl
    repeat' (first | ((with_reducible refine aB ?_); intro K hK hX) | ((with_reducible refine aC ?_); refine aD [0, 1, 2, 6, 7, 8, 9] rfl rfl ?_) | ((with_reducible refine aF ?_); refine aG [0, 1, 2, 6, 7, 8, 9] rfl rfl ?_; refine aI [] ?_) | refine stA ?_ | refine stD ?_ | ((first | refine hK _ _ _ _ ?_ | refine hX _ _ _ _ _ (by simp) ?_); clear hK hX K))
    refine aK zio ztr rfl (ResL.one (ResA.tmp rfl)) (cE (bO (bY bL) (dA w1 w2)))
end Go.Proofs.YtccnhpaldmjkbaaGreat
