/-
  Joined texts: T15 IY T16. Lemmas; no statement of a law.
-/
import Derived.Test.YtccnhpaldmjkbaaGreatM11
import Derived.Test.YtccnhpaldmjkbaaGreatM12
import Derived.Test.YtccnhpaldmjkbaaGreatM26
set_option linter.unusedSimpArgs false
set_option linter.unusedVariables false
/-
  Sorting and adding up entries, with a row of the call's own (walk).
-/
namespace Go.Proofs.YtccnhpaldmjkbaaGreat
open Go Go.RowKit Go.Av
set_option maxRecDepth 100000
theorem pX {n size : Nat} {T : TypeId} {h : Heap} : Out n h (.c (.v (.slice none 0 0))) (.own 0 0 0 size true) [(0, .row T [])] 1 := by
  intro w0 ok M w u hc hu
  simp only [Rep, RepC] at hu
  refine ⟨fun _ => none, ⟨hc.fr, fun id o hid hH => ?_, fun id id' o o' g _ _ _ _ h5 => (by cases h5), fun id o g _ _ h5 => (by cases h5)⟩, ⟨Nat.zero_lt_one, .inl ⟨rfl, rfl, rfl, hu⟩⟩⟩
  have hid : id < 1 := hid
  obtain rfl : id = 0 := by omega
  have : some (AObj.row T []) = some o := hH
  injection this with this
  subst this
  exact .inl ⟨rfl, rfl⟩
attribute [local irreducible] Still Adds AWL AW Drw DrwE EStep AC AWR Weak Frz Src RetK Out InK ItK AsK RdK RetT OutT ACT
set_option maxHeartbeats 4000000 in
theorem sort_own (n : Nat) (l : List En) (N : Nat) (hn : l.length = n) (hnn : n ≤ 100000) (hf : fitB l) (hb : absS l ≤ 1000000000000) (hN : (sortE l).length = N) : AC Tryz.prog 104 [.sl 2 n (ec l)] (.own 0 0 N 2 true) [(0, .row 68 (ec (sortE l)))] 1 := by
  have hll : (ec l).length = n * 2 := by rw [bM, hn]
  by_cases n0 : n = 0
  · subst n0
    have : l = [] := List.eq_nil_of_length_eq_zero hn
    subst this
    have e1 : sortE [] = [] := by rw [sortE]; rfl
    rw [e1] at hN ⊢
    obtain rfl : N = 0 := hN.symm
    refine aJ tabOk (sz := 31) Tryz.func104 rfl (by rw [Tryz.ntmps104]; rfl) ?_
    repeat' (first | ((with_reducible refine aD ?_); intro K hK hX) | ((with_reducible refine aE ?_); refine aA [0, 2] rfl rfl ?_; with_reducible refine aB ?_) | ((with_reducible refine aG ?_); refine aA [0, 2] rfl rfl ?_; refine aL [] ?_) | refine stA ?_ | refine stD ?_ | ((first | refine hK _ _ _ _ ?_ | refine hX _ _ _ _ _ (by simp) ?_); clear hK hX K))
    refine aK zio ztr rfl (ResL.one (ResA.tmp rfl)) pX
  · by_cases n1 : n = 1
    · subst n1
      obtain ⟨e, rfl⟩ : ∃ e, l = [e] := by
        match l, hn with
        | [e], _ => exact ⟨e, rfl⟩
      have e1 : sortE [e] = [e].filter fun e => e.n ≠ 0 := by rw [sortE]; rfl
      rw [e1] at hN ⊢
      obtain ⟨r, c⟩ := e
      clear e1
      by_cases h0 : c = 0
      · have e2 : ([⟨r, c⟩] : List En).filter (fun e => e.n ≠ 0) = [] := by simp [h0]
        rw [e2] at hN ⊢
        obtain rfl : N = 0 := hN.symm
        refine aJ tabOk (sz := 31) Tryz.func104 rfl (by rw [Tryz.ntmps104]; rfl) ?_
        repeat' (first | ((with_reducible refine aD ?_); intro K hK hX) | ((with_reducible refine aE ?_); refine aA [0, 2] rfl rfl ?_; with_reducible refine aB ?_) | ((with_reducible refine aG ?_); refine aA [0, 2] rfl rfl ?_; refine aL [] ?_) | refine stA ?_ | refine stD ?_ | ((first | refine hK _ _ _ _ ?_ | refine hX _ _ _ _ _ (by simp) ?_); clear hK hX K))
        refine aK zio ztr rfl (ResL.one (ResA.tmp rfl)) pX
      · have e2 : ([⟨r, c⟩] : List En).filter (fun e => e.n ≠ 0) = [⟨r, c⟩] := by simp [h0]
        rw [e2] at hN ⊢
        obtain rfl : N = 1 := hN.symm
        refine aJ tabOk (sz := 31) Tryz.func104 rfl (by rw [Tryz.ntmps104]; rfl) ?_
        repeat' (first | ((with_reducible refine aD ?_); intro K hK hX) | ((with_reducible refine aE ?_); refine aA [0, 2] rfl rfl ?_; with_reducible refine aB ?_) | ((with_reducible refine aG ?_); refine aA [0, 2] rfl rfl ?_; refine aL [] ?_) | refine stA ?_ | refine stD ?_ | ((first | refine hK _ _ _ _ ?_ | refine hX _ _ _ _ _ (by simp) ?_); clear hK hX K))
        refine aK zio ztr rfl (ResL.one (ResA.tmp rfl)) (oU rfl rfl)
    · obtain ⟨a1, a2, a3⟩ := cT (n / 2) (l.take (n / 2)) (by rw [List.length_take]; omega)
      obtain ⟨b1, b2, b3⟩ := cT n (l.drop (n / 2)) (by rw [List.length_drop]; omega)
      have h5 := mH (l.take (n / 2)) (l.drop (n / 2))
      rw [List.take_append_drop] at h5
      have l1 : (l.take (n / 2)).length = n / 2 := by rw [List.length_take]; omega
      have l2 : (l.drop (n / 2)).length = n - n / 2 := by rw [List.length_drop]; omega
      rw [l1] at a1
      rw [l2] at b1
      have f1 : fitB (l.take (n / 2)) := fun e he => hf e (List.mem_of_mem_take he)
      have f2 : fitB (l.drop (n / 2)) := fun e he => hf e (List.mem_of_mem_drop he)
      obtain ⟨N1, hN1⟩ : ∃ N1, (sortE (l.take (n / 2))).length = N1 := ⟨_, rfl⟩
      obtain ⟨N2, hN2⟩ : ∃ N2, (sortE (l.drop (n / 2))).length = N2 := ⟨_, rfl⟩
      have h1 := sort_ok (n / 2) (l.take (n / 2)) N1 l1 (by omega) f1 (by omega) hN1
      have h2 := sort_ok (n - n / 2) (l.drop (n / 2)) N2 l2 (by omega) f2 (by omega) hN2
      rw [gR hn (by omega)] at hN ⊢
      have h3 := merge_own (sortE (l.take (n / 2))) (sortE (l.drop (n / 2))) N1 N2 N hN1 hN2 (by omega) (by omega) (a3 (fun r => r.length ≤ maxLen) f1) (b3 (fun r => r.length ≤ maxLen) f2) (by omega) (by omega) hN
      have hq : IntKind.i64.wrap ((n : Int).tdiv 2) = ((n / 2 : Nat) : Int) := by rw [q64 (by omega) (by omega) (by omega)]; omega
      rw [← oQ] at h1
      rw [← oP] at h2
      have h2' := AC.args h2 (args' := [.sl 2 (n - n / 2) (((ec l).drop (n / 2 * 2)).take ((n - n / 2) * 2))]) (eY (cV rfl (List.take_of_length_le (by rw [List.length_drop, hll]; omega))) gL)
      generalize sortE (l.take (n / 2)) = X at h1 h3 ⊢
      generalize sortE (l.drop (n / 2)) = Y at h2 h2' h3 ⊢
      clear a1 a2 a3 b1 b2 b3 h5 f1 f2
      refine aJ tabOk (sz := 31) Tryz.func104 rfl (by rw [Tryz.ntmps104]; rfl) ?_
      repeat' (first | ((with_reducible refine aD ?_); intro K hK hX) | ((with_reducible refine aE ?_); refine aA [0, 2] rfl rfl ?_; with_reducible refine aB ?_) | ((with_reducible refine aG ?_); refine aA [0, 2] rfl rfl ?_; refine aL [] ?_) | ((first | with_reducible refine aF ?_ | with_reducible refine bC ?_); (first | refine zA ?_ | refine zN ?_ | refine zD ?_); (first | refine c0 (h1) ?_ | refine c0 (h2') ?_ | refine c0 (h2) ?_ | refine c1 (h3) ?_)) | ((first | ((with_reducible refine aI ?_); refine xA ?_) | ((with_reducible refine aP ?_); refine xD ?_)); (first | ((with_reducible refine aX ?_); (first | refine aC (lJ (k := .i64) rfl rfl (by decide) hq) ?_)))) | refine stA ?_ | refine stD ?_ | ((first | refine hK _ _ _ _ ?_ | refine hX _ _ _ _ _ (by simp) ?_); clear hK hX K))
      refine aK zio ztr rfl (ResL.one (ResA.tmp rfl)) (oU rfl rfl)
open Classical in
set_option maxHeartbeats 4000000 in
theorem norm_own (b : List En) (n N : Nat) (hn : b.length = n) (hm : n ≤ 1000) (hr : ∀ e ∈ b, rowP e.r) (hb : absS b ≤ 1000) (hN : (sortE b).length = N) : AC Tryz.prog 44 [.sl 2 n (ec b)] (.tup [.own 0 0 N 2 true, .c (iv 0)]) [(0, .row 68 (ec (sortE b)))] 1 := by
  have hbl : (ec b).length = n * 2 := by rw [bM, hn]
  have hfit : fitB b := fun e he => by have := (hr e he).1; simp only [maxLen]; omega
  have hs := sort_own n b N hn (by omega) hfit (by omega) hN
  obtain ⟨f1, f2, f3⟩ := cT n b (by omega)
  have hSl : (ec (sortE b)).length = N * 2 := by rw [bM, hN]
  have hcs : ∀ e ∈ sortE b, -262144 ≤ e.n ∧ e.n ≤ 262144 := fun e he => by have := eI he; omega
  generalize sortE b = S at hs hN f1 f2 f3 hSl hcs ⊢
  clear f2 f3
  refine aJ tabOk (sz := 32) Tryz.func44 rfl (by rw [Tryz.ntmps44]; rfl) ?_
  repeat' (first | ((with_reducible refine aD ?_); intro K hK hX) | ((with_reducible refine aE ?_); refine aA [0, 2, 3, 4] rfl rfl ?_; with_reducible refine aB ?_) | refine stA ?_ | ((first | refine hK _ _ _ _ ?_ | refine hX _ _ _ _ _ (by simp) ?_); clear hK hX K))
  refine bD [4] [] rfl rfl (fun i : Nat => [(4, .c (iv i))]) (fun i => []) (fun i => i ≤ n) (fun i => n - i) 0 (by omega) weakA ?_
  intro i hi K hK hX
  by_cases hlt : i < n
  · obtain ⟨e, he⟩ : ∃ e, b[i]? = some e := ⟨b[i]'(by omega), List.getElem?_eq_getElem _⟩
    have hmem := List.mem_of_getElem? he
    have hen := lF he
    have her := eV he
    have hab := eI hmem
    have h1 := fZ e.n
    rw [decide_eq_true (show -262144 ≤ e.n ∧ e.n ≤ 262144 by omega)] at h1
    have h2 := jD e.r e.r.length rfl (hfit e hmem)
    rw [decide_eq_true (hr e hmem)] at h2
    clear hr hfit hs hab hcs
    obtain ⟨r, c⟩ := e
    simp only at *
    repeat' (first | ((with_reducible refine aD ?_); intro K hK hX) | ((with_reducible refine aE ?_); refine aA [0, 2, 3, 4] rfl rfl ?_; with_reducible refine aB ?_) | ((with_reducible refine aF ?_); (first | refine zA ?_ | refine zN ?_); (first | refine c0 (h1) ?_ | refine c0 (h2) ?_)) | (((with_reducible refine aI ?_); refine xA ?_); (first | ((with_reducible refine aO ?_); (first | refine aC (aT tabOk rfl rfl rfl rfl (by first | exact hen | exact her)) ?_ | refine aC (aN tabOk rfl rfl rfl rfl (by first | exact hen | exact her)) ?_ | refine aC (aM tabOk rfl rfl rfl (by first | exact hen | exact her)) ?_)) | ((with_reducible refine bX ?_); (first | refine aC (s_ixV1 tabOk rfl rfl zcj rfl rfl rfl rfl rfl zle (by first | exact hen | exact her)) ?_ | refine aC (aS tabOk rfl rfl zcj rfl rfl (by first | exact hen | exact her)) ?_)))) | refine stA ?_ | ((first | refine hK _ _ _ _ ?_ | refine hX _ _ _ _ _ (by simp) ?_); clear hK hX K))
    exact ⟨i + 1, by omega, by omega, weakA⟩
  · clear hr hfit
    repeat' (first | ((with_reducible refine aD ?_); intro K hK hX) | ((with_reducible refine aE ?_); refine aA [0, 2, 3, 4] rfl rfl ?_; with_reducible refine aB ?_) | ((with_reducible refine aF ?_); (first | refine zA ?_ | refine zN ?_); (first | refine c1 (hs) ?_)) | ((first | with_reducible refine aF ?_ | with_reducible refine aR ?_); refine aY tabOk [0, 1, 2, 3, 4, 5, 6, 7, 8, 9, 10, 11, 12, 13, 14, 15, 16, 17, 18, 19, 20, 21, 22, 23, 24, 25, 26, 27, 28, 29, 30, 31] aH rfl rfl zby Tryz.func103 rfl rfl rfl (szf := 22) (by rw [Tryz.ntmps103]; rfl) rfl ?_) | refine stA ?_ | ((first | refine hK _ _ _ _ ?_ | refine hX _ _ _ _ _ (by simp) ?_); clear hK hX K) | (first | refine bJ zio ztr rfl rfl (ResL.two (ResA.tmp rfl) (ResA.tmp rfl)) ?_ | refine bI zio ztr rfl rfl (ResL.two (ResA.tmp rfl) (ResA.tmp rfl)) ?_))
    refine bD [4] [] rfl rfl (fun i : Nat => [(4, .c (iv i))]) (fun i => []) (fun i => i ≤ N) (fun i => N - i) 0 (by omega) weakA ?_
    intro k hk K hK hX
    by_cases hlt : k < N
    · obtain ⟨e, he⟩ : ∃ e, S[k]? = some e := ⟨S[k]'(by omega), List.getElem?_eq_getElem _⟩
      have hen := lF he
      have h1 := fZ e.n
      rw [decide_eq_true (hcs e (List.mem_of_getElem? he))] at h1
      clear hcs hs
      obtain ⟨r, c⟩ := e
      simp only at *
      repeat' (first | ((with_reducible refine aD ?_); intro K hK hX) | ((with_reducible refine aE ?_); refine aA [0, 2, 3, 4] rfl rfl ?_; with_reducible refine aB ?_) | ((with_reducible refine aF ?_); (first | refine zA ?_ | refine zN ?_); (first | refine c0 (h1) ?_)) | ((first | with_reducible refine aF ?_ | with_reducible refine aR ?_); refine aY tabOk [0, 1, 2, 3, 4, 5, 6, 7, 8, 9, 10, 11, 12, 13, 14, 15, 16, 17, 18, 19, 20, 21, 22, 23, 24, 25, 26, 27, 28, 29, 30, 31] aH rfl rfl zby Tryz.func103 rfl rfl rfl (szf := 22) (by rw [Tryz.ntmps103]; rfl) rfl ?_) | (((with_reducible refine aI ?_); refine xA ?_); (first | ((with_reducible refine aO ?_); (first | refine aC (aT tabOk rfl rfl rfl rfl (by first | exact hen | (rw [Nat.zero_add]; exact hen))) ?_ | refine aC (aN tabOk rfl rfl rfl rfl (by first | exact hen | (rw [Nat.zero_add]; exact hen))) ?_ | refine aC (aM tabOk rfl rfl rfl (by first | exact hen | (rw [Nat.zero_add]; exact hen))) ?_)) | ((with_reducible refine bX ?_); (first | refine aC (s_ixV1 tabOk rfl rfl zcj rfl rfl rfl rfl rfl zle (by first | exact hen | (rw [Nat.zero_add]; exact hen))) ?_ | refine aC (aS tabOk rfl rfl zcj rfl rfl (by first | exact hen | (rw [Nat.zero_add]; exact hen))) ?_)))) | refine stA ?_ | ((first | refine hK _ _ _ _ ?_ | refine hX _ _ _ _ _ (by simp) ?_); clear hK hX K) | (first | refine bJ zio ztr rfl rfl (ResL.two (ResA.tmp rfl) (ResA.tmp rfl)) ?_ | refine bI zio ztr rfl rfl (ResL.two (ResA.tmp rfl) (ResA.tmp rfl)) ?_))
      exact ⟨k + 1, by omega, by omega, weakA⟩
    · clear hcs hs
      repeat' (first | ((with_reducible refine aD ?_); intro K hK hX) | ((with_reducible refine aE ?_); refine aA [0, 2, 3, 4] rfl rfl ?_; with_reducible refine aB ?_) | ((first | with_reducible refine aF ?_ | with_reducible refine aR ?_); refine aY tabOk [0, 1, 2, 3, 4, 5, 6, 7, 8, 9, 10, 11, 12, 13, 14, 15, 16, 17, 18, 19, 20, 21, 22, 23, 24, 25, 26, 27, 28, 29, 30, 31] aH rfl rfl zby Tryz.func103 rfl rfl rfl (szf := 22) (by rw [Tryz.ntmps103]; rfl) rfl ?_) | refine stA ?_ | ((first | refine hK _ _ _ _ ?_ | refine hX _ _ _ _ _ (by simp) ?_); clear hK hX K) | (first | refine bJ zio ztr rfl rfl (ResL.two (ResA.tmp rfl) (ResA.tmp rfl)) ?_ | refine bI zio ztr rfl rfl (ResL.two (ResA.tmp rfl) (ResA.tmp rfl)) ?_))
      refine aK zio ztr rfl (ResL.two (ResA.tmp rfl) (ResA.tmp rfl)) (out_ren (σ := [0]) (by simp) (keep1 rfl rfl) (ren_tup (renl_cons (ren_own rfl) (renl_cons (ren_c (cI bW)) renl_nil))))
end Go.Proofs.YtccnhpaldmjkbaaGreat
/-
  An index follows its bag (plain): the postings of a sum of bags are the sum of the postings.
-/
namespace Go.Proofs.YtccnhpaldmjkbaaGreat
open Go Go.RowKit Go.Av
set_option maxRecDepth 100000
def wdG (g : List Vl → Int) (col : Nat) (r : List Vl) : Int := ((wdsE col r).map fun w => g (⟨2, 0, w⟩ :: r)).sum
structure BagS (M : Nat) (b : List En) : Prop where
  srt : srtE b
  nz : ∀ e ∈ b, e.n ≠ 0
  row : ∀ e ∈ b, rowP e.r
  abs : absS b ≤ M
  len : b.length ≤ M
theorem BagS.good {M : Nat} {b : List En} (h : BagS M b) : GoodE b := ⟨h.srt, fun e he v hv => (h.row e he).2 v hv, h.nz⟩
theorem BagS.fit {M : Nat} {b : List En} (h : BagS M b) : fitB b := fun e he => by have := (h.row e he).1; simp only [maxLen]; omega
theorem BagS.bagP {M : Nat} {b : List En} (h : BagS M b) (hM : M ≤ 4096) : bagP b := by
  refine ⟨Nat.le_trans h.len hM, fun i hi e he => ?_⟩
  have hm := List.mem_of_getElem? he
  have h1 := eI hm
  have h2 := h.abs
  refine ⟨⟨by omega, by omega, h.row e hm⟩, h.nz e hm, fun f hi0 hf => ?_⟩
  obtain ⟨h4, h5⟩ := List.getElem?_eq_some_iff.1 he
  obtain ⟨h6, h7⟩ := List.getElem?_eq_some_iff.1 hf
  have := List.pairwise_iff_getElem.1 h.srt (i - 1) i h6 h4 (by omega)
  rw [h5, h7] at this
  exact this
theorem abs_len : ∀ {b : List En}, (∀ e ∈ b, e.n ≠ 0) → b.length ≤ absS b
  | [], _ => Nat.zero_le _
  | e :: b, h => by
    have h1 := abs_len (b := b) fun f hf => h f (by simp [hf])
    have h2 := h e (by simp)
    rw [dN, List.length_cons]; omega
theorem BagS.sort {M : Nat} {l : List En} (h2 : ∀ e ∈ l, rowP e.r) (h3 : absS l ≤ M) : BagS M (sortE l) := by
  obtain ⟨_, f2, f3⟩ := cT l.length l (Nat.le_refl _)
  have hz := sortE_all (fun e => e.n ≠ 0) (fun e f h1 h2 _ h => h) l.length l (Nat.le_refl _) (fun e he h0 => h0)
  exact ⟨sortE_srt l, hz, f3 rowP h2, by omega, Nat.le_trans (abs_len hz) (by omega)⟩
theorem BagF.toS {M : Nat} {b : List En} (h : BagF M b) : BagS M b := ⟨h.srt, fun e he => by have := h.pos e he; omega, h.row, h.abs, h.len⟩
theorem sortE_wsum (g : List Vl → Int) : ∀ (n : Nat) (l : List En), l.length ≤ n → okR l → wsum g (sortE l) = wsum g l := by
  intro n
  induction n using Nat.strongRecOn with
  | _ n ih =>
    intro l hl ho
    by_cases h1 : 1 < l.length
    · have t1 : okR (l.take (l.length / 2)) := fun e he => ho e (List.mem_of_mem_take he)
      have t2 : okR (l.drop (l.length / 2)) := fun e he => ho e (List.mem_of_mem_drop he)
      have s1 : okR (sortE (l.take (l.length / 2))) := fun e he v hv => (cT _ _ (Nat.le_refl _)).2.2 (fun r => ∀ v ∈ r, okP v) t1 e he v hv
      have s2 : okR (sortE (l.drop (l.length / 2))) := fun e he v hv => (cT _ _ (Nat.le_refl _)).2.2 (fun r => ∀ v ∈ r, okP v) t2 e he v hv
      rw [gR rfl h1, iK g _ _ s1 s2, ih (l.length / 2) (by omega) _ (by rw [List.length_take]; omega) t1, ih (l.length - l.length / 2) (by omega) _ (by rw [List.length_drop]; omega) t2, ← qR, List.take_append_drop]
    · match l, h1 with
      | [], _ => rw [sortE]; rfl
      | [e], _ =>
        rw [sortE]
        by_cases h0 : e.n = 0
        · simp [h0, wsum]
        · simp [h0, wsum]
      | a :: b :: l, h => simp at h
theorem fit_pos {M N : Nat} {b d : List En} (hb : BagF M b) (hd : BagS N d) (h : ∀ e ∈ mergeE b d, 0 ≤ wsum (ind e.r) b + wsum (ind e.r) d) : BagF (M + N) (mergeE b d) := by
  have hg := hb.toS.good.merge hd.good
  have h1 := jM b d
  have h2 := hb.abs
  have h3 := hd.abs
  refine ⟨hg.srt, fun e he => ?_, eM _ _ rowP hb.row hd.row, by omega⟩
  have h4 := kJ hg.srt he
  rw [iK _ _ _ hb.ok hd.good.ok] at h4
  have := h e he
  have := hg.nz e he
  omega
section tape
def fitStep (l : List Int) (n : Nat) (s : List En × Int) (e : En) : List En × Int :=
  if nextX l n s.2 3 = 0 then (s.1 ++ [⟨e.r, -(1 + nextX l n (nextA n s.2 3) e.n)⟩], nextA n (nextA n s.2 3) e.n) else (s.1, nextA n s.2 3)
def fitS (l : List Int) (n : Nat) (s : List En × Int) (b : List En) (i : Nat) : List En × Int := (b.take i).foldl (fitStep l n) s
theorem fitS_zero (l : List Int) (n : Nat) (s : List En × Int) (b : List En) : fitS l n s b 0 = s := rfl
theorem fitS_succ {l : List Int} {n : Nat} {s : List En × Int} {b : List En} {i : Nat} {e : En} (h : b[i]? = some e) : fitS l n s b (i + 1) = fitStep l n (fitS l n s b i) e := by
  unfold fitS
  rw [List.take_add_one, h, Option.toList_some, List.foldl_append]; rfl
theorem nextX_one (l : List Int) (n : Nat) (a m : Int) (hm : 1 ≤ m) (hm2 : m ≤ 4294967296) : 0 ≤ nextX l n a m ∧ nextX l n a m < m := by
  by_cases h : m = 1
  · subst h
    unfold nextX
    rw [if_pos (.inl (by decide))]
    decide
  · exact cJ l n a m (by omega) hm2
theorem ind_nn (r s : List Vl) : 0 ≤ ind r s ∧ ind r s ≤ (1 : Nat) := by unfold ind; split <;> decide
theorem take_snoc {b : List En} {i : Nat} {e : En} (h : b[i]? = some e) : b.take (i + 1) = b.take i ++ [e] := by rw [List.take_add_one, h]; rfl
theorem nE (l : List En) (e : En) : absS (l ++ [e]) = absS l + e.n.natAbs := by rw [mH, dN]; rfl
theorem pO (l : List Int) (n : Nat) (B b : List En) (a : Int) (ha : 0 ≤ a ∧ a ≤ 9223372036854775807) (hB : ∀ e ∈ B, rowP e.r) (hb : ∀ e ∈ b, rowP e.r ∧ 1 ≤ e.n ∧ e.n ≤ 1000) : ∀ i, i ≤ b.length →
    ((fitS l n (B, a) b i).1.length ≤ B.length + i ∧ absS (fitS l n (B, a) b i).1 ≤ absS B + absS (b.take i) ∧ (∀ e ∈ (fitS l n (B, a) b i).1, rowP e.r) ∧ (∀ r, wsum (ind r) B ≤ wsum (ind r) (b.take i) + wsum (ind r) (fitS l n (B, a) b i).1)) ∧ 0 ≤ (fitS l n (B, a) b i).2 ∧ (fitS l n (B, a) b i).2 ≤ 9223372036854775807 := by
  intro i
  induction i with
  | zero => exact fun _ => ⟨⟨Nat.le_refl _, by simp [fitS_zero, absS], hB, fun r => by simp [fitS_zero, wsum]⟩, ha⟩
  | succ i ih =>
    intro hi
    obtain ⟨⟨h1, h2, h3, h4⟩, h5, h6⟩ := ih (by omega)
    obtain ⟨e, he⟩ : ∃ e, b[i]? = some e := ⟨b[i]'(by omega), List.getElem?_eq_getElem _⟩
    obtain ⟨b1, b2, b3⟩ := hb e (List.mem_of_getElem? he)
    obtain ⟨p1, p2⟩ := bK n (fitS l n (B, a) b i).2 3 h5 h6
    rw [fitS_succ he, take_snoc he]
    unfold fitStep
    by_cases hx : nextX l n (fitS l n (B, a) b i).2 3 = 0
    · obtain ⟨x1, x2⟩ := nextX_one l n (nextA n (fitS l n (B, a) b i).2 3) e.n b2 (by omega)
      obtain ⟨p3, p4⟩ := bK n (nextA n (fitS l n (B, a) b i).2 3) e.n p1 p2
      rw [if_pos hx]
      generalize nextX l n (nextA n (fitS l n (B, a) b i).2 3) e.n = x at *
      refine ⟨⟨by simp only [List.length_append, List.length_singleton]; omega, ?_, fun f hf => ?_, fun r => ?_⟩, p3, p4⟩
      · rw [nE, nE]
        simp only
        omega
      · rcases List.mem_append.1 hf with hf | hf
        · exact h3 f hf
        · rw [List.mem_singleton.1 hf]; exact b1
      · have := h4 r
        have hi := ind_nn r e.r
        simp only [qR, cO, jG]
        have e1 : -(1 + x) * ind r e.r = -(ind r e.r * (1 + x)) := by rw [Int.neg_mul, Int.mul_comm]
        have e2 : e.n * ind r e.r = ind r e.r * e.n := Int.mul_comm _ _
        have e3 : ind r e.r * (1 + x) ≤ ind r e.r * e.n := Int.mul_le_mul_of_nonneg_left (by omega) hi.1
        rw [e1, e2]
        omega
    · rw [if_neg hx]
      refine ⟨⟨by simp only; omega, by rw [nE]; simp only; omega, h3, fun r => ?_⟩, p1, p2⟩
      have := h4 r
      have hi := ind_nn r e.r
      have e3 : 0 ≤ e.n * ind r e.r := Int.mul_nonneg (by omega) hi.1
      simp only [qR, cO, jG]
      omega
theorem fit_all (l : List Int) (n : Nat) {M N : Nat} {B b : List En} (a : Int) (ha : 0 ≤ a ∧ a ≤ 9223372036854775807) (hB : BagF M B) (hb : BagF N b) (hN : N ≤ 1000) :
    BagS (M + N) (sortE (fitS l n (B, a) b b.length).1) ∧ BagF (N + (M + N)) (mergeE b (sortE (fitS l n (B, a) b b.length).1)) ∧ (fitS l n (B, a) b b.length).1.length ≤ M + N ∧ absS (fitS l n (B, a) b b.length).1 ≤ M + N ∧ (∀ e ∈ (fitS l n (B, a) b b.length).1, rowP e.r) ∧ 0 ≤ (fitS l n (B, a) b b.length).2 ∧ (fitS l n (B, a) b b.length).2 ≤ 9223372036854775807 := by
  have hbb : ∀ e ∈ b, rowP e.r ∧ 1 ≤ e.n ∧ e.n ≤ 1000 := fun e he => by
    have h1 := hb.pos e he
    have h2 := eI he
    have h3 := hb.abs
    exact ⟨hb.row e he, by omega, by omega⟩
  obtain ⟨⟨h1, h2, h3, h4⟩, h5, h6⟩ := pO l n B b a ha hB.row hbb b.length (Nat.le_refl _)
  rw [List.take_length] at h2 h4
  have k1 := hB.len
  have k2 := hB.abs
  have k3 := hb.len
  have k4 := hb.abs
  have hS : BagS (M + N) (sortE (fitS l n (B, a) b b.length).1) := BagS.sort h3 (by omega)
  refine ⟨hS, fit_pos hb hS fun e _ => ?_, by omega, by omega, h3, h5, h6⟩
  have := h4 e.r
  have h7 := (wsum_bd (g := ind e.r) (D := 1) (ind_nn e.r) (b := B) hB.pos).1
  rw [sortE_wsum _ _ _ (Nat.le_refl _) (fun f hf v hv => (h3 f hf).2 v hv)]
  omega
end tape
end Go.Proofs.YtccnhpaldmjkbaaGreat
/-
  Tape.Fitting (walk).
-/
namespace Go.Proofs.YtccnhpaldmjkbaaGreat
open Go Go.RowKit Go.Av
set_option maxRecDepth 100000
attribute [local irreducible] Still Adds AWL AW Drw DrwE EStep AC AWR Weak Frz Src RetK Out InK ItK AsK RdK RetT OutT ACT
set_option maxHeartbeats 8000000 in
theorem tfit_ok (l : List Int) (n : Nat) (a : Int) (b : List En) (nb N M : Nat) (hn : l.length = n) (hnn : n ≤ maxLen) (ha0 : 0 ≤ a) (ha : a ≤ 9223372036854775807) (hb : b.length = nb) (hb2 : nb ≤ 1000) (hbr : ∀ e ∈ b, 1 ≤ e.n ∧ e.n ≤ 1000) (hN : (bagF l n a 5 false).length = N)
    (hM : (sortE (fitS l n (bagF l n a 5 false, bagA l n a 5) b nb).1).length = M) (hfl : ∀ i, i ≤ nb → (fitS l n (bagF l n a 5 false, bagA l n a 5) b i).1.length ≤ 1000 ∧ 0 ≤ (fitS l n (bagF l n a 5 false, bagA l n a 5) b i).2 ∧ (fitS l n (bagF l n a 5 false, bagA l n a 5) b i).2 ≤ 9223372036854775807)
    (hfe : absS (fitS l n (bagF l n a 5 false, bagA l n a 5) b nb).1 ≤ 1000 ∧ ∀ e ∈ (fitS l n (bagF l n a 5 false, bagA l n a 5) b nb).1, rowP e.r) :
    ACT Tryz.prog 12 72 (tpC l n a) [.sl 2 nb (ec b), iv 2] (tpC l n (fitS l n (bagF l n a 5 false, bagA l n a 5) b nb).2) (.sl 2 M (ec (sortE (fitS l n (bagF l n a 5 false, bagA l n a 5) b nb).1))) := by
  have hbl : (ec b).length = nb * 2 := by rw [bM, hb]
  obtain ⟨m, hmi⟩ : ∃ m : Int, (4 : Int) + 1 = m := ⟨_, rfl⟩
  have h5 : (5 : Int) = m := by omega
  rw [h5] at hN hM hfl hfe ⊢
  have hm : 2 ≤ m := by omega
  have hm2 : m ≤ 20 := by omega
  clear h5
  obtain ⟨hr1, hr2⟩ := kX l n a m hm (by omega)
  have hfx := kQ false _ hr2
  have hx0 := cU l n a m hn hnn ha0 ha (by omega)
  obtain ⟨b1, b2⟩ := cJ l n a m hm (by omega)
  obtain ⟨b3, b4⟩ := bK n a m ha0 ha
  unfold bagF bagA at *
  obtain ⟨Q, hQ⟩ : ∃ Q, (rawF l n a m).length = Q := ⟨_, rfl⟩
  have hQ2 : (nextX l n a m).toNat = Q := by rw [← hQ, rawF, eQ]
  have hQ3 : nextX l n a m = (Q : Int) := by omega
  have hnm := norm_own ((rawF l n a m).map (fixE false)) Q N (by rw [List.length_map, hQ]) (by omega) (fun e he => (hfx e he).1)
    (by have := mI (l := (rawF l n a m).map (fixE false)) (D := 3) fun e he => by obtain ⟨_, _, q1, q2, _⟩ := hfx e he; omega
        rw [List.length_map] at this; omega) hN
  rw [hQ3] at hx0
  rw [hQ2] at hM hfl hfe ⊢
  have hZ : rawF l n a m = entsF l n Q (nextA n a m) := by rw [← hQ2]; rfl
  generalize rawF l n a m = Z at *
  generalize nextA n a m = a0 at *
  obtain ⟨A', hA⟩ : ∃ A', entsA n Q a0 = A' := ⟨_, rfl⟩
  rw [hA] at hM hfl hfe ⊢
  generalize hS : sortE (Z.map (fixE false)) = S at hnm hN hM hfl hfe ⊢
  have hQ20 : Q ≤ 20 := by omega
  rw [← hmi] at hx0
  clear hfx hr1 hQ2 hQ3 b1 b2 hS
  refine bN tabOk (sz := 47) Tryz.func12 rfl (by rw [Tryz.ntmps12]; rfl) ?_
  repeat' (first | ((with_reducible refine aD ?_); intro K hK hX) | ((with_reducible refine aE ?_); refine aA [0, 1, 2, 3, 6, 7, 8, 9, 10, 11] rfl rfl ?_; with_reducible refine aB ?_) | ((with_reducible refine aG ?_); refine aA [0, 1, 2, 3, 6, 7, 8, 9, 10, 11] rfl rfl ?_; refine aL [14, 49] ?_) | ((with_reducible refine aF ?_); refine aQ (hx0) aH rfl zby rfl rfl rfl rfl zcv rfl ztp ?_) | ((first | with_reducible refine aF ?_ | with_reducible refine aR ?_); refine aY tabOk [0, 1, 2, 3, 4, 5, 6, 7, 8, 9, 10, 11, 12, 13, 14, 15, 16, 17, 18, 19, 20, 21, 22, 23, 24, 25, 26, 27, 28, 29, 30, 31, 32, 33, 34, 35, 36, 37, 38, 39, 40, 41, 42, 43, 44, 45, 46, 47, 48] aH rfl rfl zby Tryz.func14 rfl rfl rfl (szf := 49) (by rw [Tryz.ntmps14]; rfl) rfl ?_) | ((first | with_reducible refine aF ?_ | with_reducible refine aR ?_); refine aY tabOk [0, 1, 2, 3, 4, 5, 6, 7, 8, 9, 10, 11, 12, 13, 14, 15, 16, 17, 18, 19, 20, 21, 22, 23, 24, 25, 26, 27, 28, 29, 30, 31, 32, 33, 34, 35, 36, 37, 38, 39, 40, 41, 42, 43, 44, 45, 46, 47, 48] aH rfl rfl zby Tryz.func49 rfl rfl rfl (szf := 40) (by rw [Tryz.ntmps49]; rfl) rfl ?_) | ((first | ((with_reducible refine aI ?_); refine xA ?_) | ((with_reducible refine aP ?_); refine xD ?_)); (first | ((with_reducible refine aX ?_); (first | refine aC (bV rfl rfl rfl (w64 (by omega) (by omega))) ?_)))) | refine stA ?_ | refine stD ?_ | ((first | refine hK _ _ _ _ ?_ | refine hX _ _ _ _ _ (by simp) ?_); clear hK hX K) | (first | refine bJ zio ztr rfl rfl (ResL.one (ResA.tmp rfl)) ?_ | refine bI zio ztr rfl rfl (ResL.one (ResA.tmp rfl)) ?_))
  refine fW 7 68 2 rfl ?_
  refine bD [7, 8, 9, 10, 11, 12, 13, 14] [0, 1] rfl rfl (fun p : Nat × Int × List En × Nat => [(7, .own 1 0 p.2.2.2 2 true), (8, .c (iv p.1))]) (fun p => [(0, .blk 72 [.c (.sl 1 n (intc .i64 l)), .c (iv p.2.1)]), (1, .row 68 (ec p.2.2.1))]) (fun p => p.2.2.1.length = p.2.2.2 ∧ 0 ≤ p.2.1 ∧ p.2.1 ≤ 9223372036854775807 ∧ p.2.2.1 ++ entsF l n p.1 p.2.1 = Z ∧ entsA n p.1 p.2.1 = A') (fun p => p.1) (Q, a0, [], 0) ⟨rfl, b3, b4, hZ.symm, hA⟩ weakA ?_
  rintro ⟨i, a1, o, q⟩ ⟨hq, i1, i2, hst, hse⟩ K hK hX
  dsimp only at hq i1 i2 hst hse ⊢
  have hlo : (ec o).length = q * 2 := by rw [bM, hq]
  have hqi : q + i = Q := by rw [← hQ, ← hst, List.length_append, eQ, hq]
  cases i with
  | succ i =>
    rw [entsF] at hst
    rw [entsA] at hse
    have e1 : entR l n a1 = ⟨[shortV (nextX l n a1 6), shortV (nextX l n (nextA n a1 6) 6)], cntV (nextX l n (nextA n (nextA n a1 6) 6) 8)⟩ := rfl
    have e2 : entA n a1 = nextA n (nextA n (nextA n a1 6) 6) 8 := rfl
    rw [e1, e2] at hst
    rw [e2] at hse
    clear e1 e2
    have h1 := iB l n a1 hn hnn i1 i2
    obtain ⟨p1, p2⟩ := bK n a1 6 i1 i2
    generalize shortV (nextX l n a1 6) = v1 at *
    generalize nextA n a1 6 = a2 at *
    have h2 := iB l n a2 hn hnn p1 p2
    obtain ⟨p3, p4⟩ := bK n a2 6 p1 p2
    generalize shortV (nextX l n a2 6) = v2 at *
    generalize nextA n a2 6 = a3 at *
    have h3 := cU l n a3 8 hn hnn p3 p4 (by decide)
    obtain ⟨x1, x2⟩ := cJ l n a3 8 (by decide) (by decide)
    obtain ⟨p5, p6⟩ := bK n a3 8 p3 p4
    generalize nextX l n a3 8 = x at *
    generalize nextA n a3 8 = a4 at *
    have hcx := cntc x x1 x2
    generalize cntV x = c at hcx hst
    have hst' := gN hst
    clear hx0 hnm hZ hA hr2 hst
    obtain ⟨k1, m1', t1⟩ := v1
    obtain ⟨k2, m2', t2⟩ := v2
    simp only [Vl.c] at h1 h2
    repeat' (first | ((with_reducible refine aD ?_); intro K hK hX) | ((with_reducible refine aE ?_); refine aA [0, 1, 2, 3, 6, 7, 8, 9, 10, 11] rfl rfl ?_; with_reducible refine aB ?_) | ((with_reducible refine aG ?_); refine aA [0, 1, 2, 3, 6, 7, 8, 9, 10, 11] rfl rfl ?_; refine aL [14, 49] ?_) | ((with_reducible refine isC_loop ?_); refine qV 3 ?_) | (refine awr_k ?_; intro K hK hX) | ((with_reducible refine aF ?_); refine aQ (h1) aH rfl zby rfl rfl rfl rfl zcv rfl ztp ?_) | ((with_reducible refine aF ?_); refine aQ (h2) aH rfl zby rfl rfl rfl rfl zcv rfl ztp ?_) | ((with_reducible refine aF ?_); refine aQ (h3) aH rfl zby rfl rfl rfl rfl zcv rfl ztp ?_) | ((with_reducible refine nO ?_); refine lN 30 rfl rfl zln ?_) | ((first | with_reducible refine aF ?_ | with_reducible refine aR ?_); refine aY tabOk [0, 1, 2, 3, 4, 5, 6, 7, 8, 9, 10, 11, 12, 13, 14, 15, 16, 17, 18, 19, 20, 21, 22, 23, 24, 25, 26, 27, 28, 29, 30, 31, 32, 33, 34, 35, 36, 37, 38, 39, 40, 41, 42, 43, 44, 45, 46, 47, 48] aH rfl rfl zby Tryz.func14 rfl rfl rfl (szf := 49) (by rw [Tryz.ntmps14]; rfl) rfl ?_) | ((first | with_reducible refine aF ?_ | with_reducible refine aR ?_); refine aY tabOk [0, 1, 2, 3, 4, 5, 6, 7, 8, 9, 10, 11, 12, 13, 14, 15, 16, 17, 18, 19, 20, 21, 22, 23, 24, 25, 26, 27, 28, 29, 30, 31, 32, 33, 34, 35, 36, 37, 38, 39, 40, 41, 42, 43, 44, 45, 46, 47, 48] aH rfl rfl zby Tryz.func49 rfl rfl rfl (szf := 40) (by rw [Tryz.ntmps49]; rfl) rfl ?_) | ((first | ((with_reducible refine aI ?_); refine xA ?_) | ((with_reducible refine aP ?_); refine xD ?_)); (first | ((with_reducible refine aO ?_); (first | refine aC (aT tabOk rfl rfl rfl rfl (by (rw [Nat.zero_add, Nat.mul_one]; exact hcx))) ?_ | refine aC (aN tabOk rfl rfl rfl rfl (by (rw [Nat.zero_add, Nat.mul_one]; exact hcx))) ?_ | refine aC (aM tabOk rfl rfl rfl (by (rw [Nat.zero_add, Nat.mul_one]; exact hcx))) ?_)) | ((with_reducible refine bX ?_); (first | refine aC (s_ixV1 tabOk rfl rfl zcj rfl rfl rfl rfl rfl zle (by (rw [Nat.zero_add, Nat.mul_one]; exact hcx))) ?_ | refine aC (aS tabOk rfl rfl zcj rfl rfl (by (rw [Nat.zero_add, Nat.mul_one]; exact hcx))) ?_)))) | refine stA ?_ | refine stD ?_ | ((first | refine hK _ _ _ _ ?_ | refine hX _ _ _ _ _ (by simp) ?_); clear hK hX K) | (first | refine bJ zio ztr rfl rfl (ResL.one (ResA.tmp rfl)) ?_ | refine bI zio ztr rfl rfl (ResL.one (ResA.tmp rfl)) ?_))
    exact ⟨(i, a4, o ++ [⟨[⟨k1, m1', t1⟩, ⟨k2, m2', t2⟩], c⟩], q + 1), ⟨by rw [List.length_append, hq]; rfl, p5, p6, hst', hse⟩, by simp only; omega, (by refine cE [0, 8] rfl rfl ?_ ?_ rfl rfl <;> (repeat' (first | exact bQ | exact bR | refine bL rfl (by first | rfl | (exact congrArg (AObj.row 68) (dM o ⟨[⟨k1, m1', t1⟩, ⟨k2, m2', t2⟩], c⟩)) | exact zeq) rfl ?_ | refine bH rfl (by first | rfl | (exact congrArg (AObj.row 68) (dM o ⟨[⟨k1, m1', t1⟩, ⟨k2, m2', t2⟩], c⟩)) | exact zeq) rfl ?_)))⟩
  | zero =>
    rw [entsF, List.append_nil] at hst
    rw [entsA] at hse
    rw [hst] at hlo ⊢
    rw [hse]
    have hqQ : q = Q := by omega
    rw [hqQ] at hlo ⊢
    clear hZ hA b3 b4 hx0 hst hse hq hqi hqQ i1 i2
    have fx0 : Z = (Z.take 0).map (fixE false) ++ Z.drop 0 := by simp
    have fxN : (Z.take Q).map (fixE false) ++ Z.drop Q = Z.map (fixE false) := by rw [List.take_of_length_le (by omega), List.drop_eq_nil_of_le (by omega), List.append_nil]
    repeat' (first | ((with_reducible refine aD ?_); intro K hK hX) | ((with_reducible refine aE ?_); refine aA [0, 1, 2, 3, 6, 7, 8, 9, 10, 11] rfl rfl ?_; with_reducible refine aB ?_) | ((with_reducible refine aG ?_); refine aA [0, 1, 2, 3, 6, 7, 8, 9, 10, 11] rfl rfl ?_; refine aL [14, 49] ?_) | ((first | with_reducible refine aF ?_ | with_reducible refine aR ?_); refine aY tabOk [0, 1, 2, 3, 4, 5, 6, 7, 8, 9, 10, 11, 12, 13, 14, 15, 16, 17, 18, 19, 20, 21, 22, 23, 24, 25, 26, 27, 28, 29, 30, 31, 32, 33, 34, 35, 36, 37, 38, 39, 40, 41, 42, 43, 44, 45, 46, 47, 48] aH rfl rfl zby Tryz.func14 rfl rfl rfl (szf := 49) (by rw [Tryz.ntmps14]; rfl) rfl ?_) | ((first | with_reducible refine aF ?_ | with_reducible refine aR ?_); refine aY tabOk [0, 1, 2, 3, 4, 5, 6, 7, 8, 9, 10, 11, 12, 13, 14, 15, 16, 17, 18, 19, 20, 21, 22, 23, 24, 25, 26, 27, 28, 29, 30, 31, 32, 33, 34, 35, 36, 37, 38, 39, 40, 41, 42, 43, 44, 45, 46, 47, 48] aH rfl rfl zby Tryz.func49 rfl rfl rfl (szf := 40) (by rw [Tryz.ntmps49]; rfl) rfl ?_) | refine stA ?_ | refine stD ?_ | ((first | refine hK _ _ _ _ ?_ | refine hX _ _ _ _ _ (by simp) ?_); clear hK hX K) | (first | refine bJ zio ztr rfl rfl (ResL.one (ResA.tmp rfl)) ?_ | refine bI zio ztr rfl rfl (ResL.one (ResA.tmp rfl)) ?_))
    refine bD [10] [1] rfl rfl (fun i : Nat => [(10, .c (iv i))]) (fun i => [(1, .row 68 (ec ((Z.take i).map (fixE false) ++ Z.drop i)))]) (fun i => i ≤ Q) (fun i => Q - i) 0 (Nat.zero_le _) (by refine cL rfl ?_ ?_ rfl <;> (repeat' (first | exact bO | exact bZ | refine bG rfl (by first | rfl | (exact congrArg (fun x => AObj.row 68 (ec x)) fx0) | exact zeq) rfl ?_ | refine bP rfl (by first | rfl | (exact congrArg (fun x => AObj.row 68 (ec x)) fx0) | exact zeq) rfl ?_))) ?_
    intro i hi K hK hX
    have hLl : (ec ((Z.take i).map (fixE false) ++ Z.drop i)).length = Q * 2 := by rw [bM, fx_length, hQ]
    by_cases hlt : i < Q
    · obtain ⟨e, he⟩ : ∃ e, Z[i]? = some e := ⟨Z[i]'(by omega), List.getElem?_eq_getElem _⟩
      have hat := fx_at (fixE false) he
      have hsu := fx_succ (fixE false) he
      have hen := lF hat
      have hbd := hr2 e (List.mem_of_getElem? he)
      generalize (Z.take i).map (fixE false) ++ Z.drop i = L at *
      obtain ⟨r, c⟩ := e
      obtain ⟨_, _, hc1, hc2⟩ := hbd
      simp only at hen hc1 hc2
      clear hr2 hnm fx0 fxN he
      by_cases hneg : c < 0
      · have hf : fixE false ⟨r, c⟩ = ⟨r, -c⟩ := by unfold fixE; rw [if_pos ⟨rfl, hneg⟩]
        have hz : 0 - c = -c := by omega
        rw [hf, ← hz] at hsu
        have hset : (ec L).set (0 + i * 2 + 1) (iv (0 - c)) = ec ((Z.take (i + 1)).map (fixE false) ++ Z.drop (i + 1)) := by rw [Nat.zero_add, hsu]; exact pM (m := 0 - c) hat
        repeat' (first | ((with_reducible refine aD ?_); intro K hK hX) | ((with_reducible refine aE ?_); refine aA [0, 1, 2, 3, 6, 7, 8, 9, 10, 11] rfl rfl ?_; with_reducible refine aB ?_) | ((with_reducible refine aG ?_); refine aA [0, 1, 2, 3, 6, 7, 8, 9, 10, 11] rfl rfl ?_; refine aL [14, 49] ?_) | ((first | with_reducible refine aF ?_ | with_reducible refine aR ?_); refine aY tabOk [0, 1, 2, 3, 4, 5, 6, 7, 8, 9, 10, 11, 12, 13, 14, 15, 16, 17, 18, 19, 20, 21, 22, 23, 24, 25, 26, 27, 28, 29, 30, 31, 32, 33, 34, 35, 36, 37, 38, 39, 40, 41, 42, 43, 44, 45, 46, 47, 48] aH rfl rfl zby Tryz.func14 rfl rfl rfl (szf := 49) (by rw [Tryz.ntmps14]; rfl) rfl ?_) | ((first | with_reducible refine aF ?_ | with_reducible refine aR ?_); refine aY tabOk [0, 1, 2, 3, 4, 5, 6, 7, 8, 9, 10, 11, 12, 13, 14, 15, 16, 17, 18, 19, 20, 21, 22, 23, 24, 25, 26, 27, 28, 29, 30, 31, 32, 33, 34, 35, 36, 37, 38, 39, 40, 41, 42, 43, 44, 45, 46, 47, 48] aH rfl rfl zby Tryz.func49 rfl rfl rfl (szf := 40) (by rw [Tryz.ntmps49]; rfl) rfl ?_) | ((first | ((with_reducible refine aI ?_); refine xA ?_) | ((with_reducible refine aP ?_); refine xD ?_)); (first | ((with_reducible refine aO ?_); (first | refine aC (aT tabOk rfl rfl rfl rfl (by (rw [Nat.zero_add]; exact hen))) ?_ | refine aC (aN tabOk rfl rfl rfl rfl (by (rw [Nat.zero_add]; exact hen))) ?_ | refine aC (aM tabOk rfl rfl rfl (by (rw [Nat.zero_add]; exact hen))) ?_)) | ((with_reducible refine bX ?_); (first | refine aC (s_ixV1 tabOk rfl rfl zcj rfl rfl rfl rfl rfl zle (by (rw [Nat.zero_add]; exact hen))) ?_ | refine aC (aS tabOk rfl rfl zcj rfl rfl (by (rw [Nat.zero_add]; exact hen))) ?_)))) | ((with_reducible refine dB ?_); (refine fP tabOk aH rfl rfl rfl rfl rfl rfl (by first | omega | exact Nat.le_of_ble_eq_true rfl | omega | (simp <;> omega)) ?_)) | refine stA ?_ | refine stD ?_ | ((first | refine hK _ _ _ _ ?_ | refine hX _ _ _ _ _ (by simp) ?_); clear hK hX K) | (first | refine bJ zio ztr rfl rfl (ResL.one (ResA.tmp rfl)) ?_ | refine bI zio ztr rfl rfl (ResL.one (ResA.tmp rfl)) ?_))
        exact ⟨i + 1, by omega, by omega, (by refine cL rfl ?_ ?_ rfl <;> (repeat' (first | exact bO | exact bZ | refine bG rfl (by first | rfl | (exact congrArg (AObj.row 68) hset) | exact zeq) rfl ?_ | refine bP rfl (by first | rfl | (exact congrArg (AObj.row 68) hset) | exact zeq) rfl ?_)))⟩
      · have hf : fixE false ⟨r, c⟩ = ⟨r, c⟩ := by unfold fixE; rw [if_neg (fun h => hneg h.2)]
        rw [hf, fx_same hat] at hsu
        repeat' (first | ((with_reducible refine aD ?_); intro K hK hX) | ((with_reducible refine aE ?_); refine aA [0, 1, 2, 3, 6, 7, 8, 9, 10, 11] rfl rfl ?_; with_reducible refine aB ?_) | ((with_reducible refine aG ?_); refine aA [0, 1, 2, 3, 6, 7, 8, 9, 10, 11] rfl rfl ?_; refine aL [14, 49] ?_) | ((first | with_reducible refine aF ?_ | with_reducible refine aR ?_); refine aY tabOk [0, 1, 2, 3, 4, 5, 6, 7, 8, 9, 10, 11, 12, 13, 14, 15, 16, 17, 18, 19, 20, 21, 22, 23, 24, 25, 26, 27, 28, 29, 30, 31, 32, 33, 34, 35, 36, 37, 38, 39, 40, 41, 42, 43, 44, 45, 46, 47, 48] aH rfl rfl zby Tryz.func14 rfl rfl rfl (szf := 49) (by rw [Tryz.ntmps14]; rfl) rfl ?_) | ((first | with_reducible refine aF ?_ | with_reducible refine aR ?_); refine aY tabOk [0, 1, 2, 3, 4, 5, 6, 7, 8, 9, 10, 11, 12, 13, 14, 15, 16, 17, 18, 19, 20, 21, 22, 23, 24, 25, 26, 27, 28, 29, 30, 31, 32, 33, 34, 35, 36, 37, 38, 39, 40, 41, 42, 43, 44, 45, 46, 47, 48] aH rfl rfl zby Tryz.func49 rfl rfl rfl (szf := 40) (by rw [Tryz.ntmps49]; rfl) rfl ?_) | ((first | ((with_reducible refine aI ?_); refine xA ?_) | ((with_reducible refine aP ?_); refine xD ?_)); (first | ((with_reducible refine aO ?_); (first | refine aC (aT tabOk rfl rfl rfl rfl (by (rw [Nat.zero_add]; exact hen))) ?_ | refine aC (aN tabOk rfl rfl rfl rfl (by (rw [Nat.zero_add]; exact hen))) ?_ | refine aC (aM tabOk rfl rfl rfl (by (rw [Nat.zero_add]; exact hen))) ?_)) | ((with_reducible refine bX ?_); (first | refine aC (s_ixV1 tabOk rfl rfl zcj rfl rfl rfl rfl rfl zle (by (rw [Nat.zero_add]; exact hen))) ?_ | refine aC (aS tabOk rfl rfl zcj rfl rfl (by (rw [Nat.zero_add]; exact hen))) ?_)))) | refine stA ?_ | refine stD ?_ | ((first | refine hK _ _ _ _ ?_ | refine hX _ _ _ _ _ (by simp) ?_); clear hK hX K) | (first | refine bJ zio ztr rfl rfl (ResL.one (ResA.tmp rfl)) ?_ | refine bI zio ztr rfl rfl (ResL.one (ResA.tmp rfl)) ?_))
        exact ⟨i + 1, by omega, by omega, (by refine cL rfl ?_ ?_ rfl <;> (repeat' (first | exact bO | exact bZ | refine bG rfl (by first | rfl | (exact congrArg (fun x => AObj.row 68 (ec x)) hsu.symm) | exact zeq) rfl ?_ | refine bP rfl (by first | rfl | (exact congrArg (fun x => AObj.row 68 (ec x)) hsu.symm) | exact zeq) rfl ?_)))⟩
    · have hiQ : i = Q := by omega
      rw [hiQ] at hLl ⊢
      rw [fxN] at hLl ⊢
      clear hr2 fx0 fxN
      have hSl : (ec S).length = N * 2 := by rw [bM, hN]
      obtain ⟨W, hW⟩ : ∃ W : Nat → List En × Int, ∀ i, W i = fitS l n (S, A') b i := ⟨_, fun _ => rfl⟩
      have hW0 : W 0 = (S, A') := by rw [hW]; rfl
      obtain ⟨q, hq⟩ : ∃ q : Nat → Nat, ∀ i, (W i).1.length = q i := ⟨_, fun _ => rfl⟩
      have hq0 : N = q 0 := by rw [← hq, hW0]; exact hN.symm
      have hs0 : ec S = ec (W 0).1 := by rw [hW0]
      have ha0' : A' = (W 0).2 := by rw [hW0]
      have hWs : ∀ i e, b[i]? = some e → W (i + 1) = fitStep l n (W i) e := fun i e he => by rw [hW, hW]; exact fitS_succ he
      simp only [← hW] at hM hfl hfe ⊢
      have hWnb : W nb = fitS l n (S, A') b nb := hW nb
      clear hW hW0
      repeat' (first | ((with_reducible refine aD ?_); intro K hK hX) | ((with_reducible refine aE ?_); refine aA [0, 1, 2, 3, 6, 7, 8, 9, 10, 11] rfl rfl ?_; with_reducible refine aB ?_) | ((with_reducible refine aG ?_); refine aA [0, 1, 2, 3, 6, 7, 8, 9, 10, 11] rfl rfl ?_; refine aL [14] ?_) | ((with_reducible refine aF ?_); refine lN 44 rfl rfl zln ?_) | ((with_reducible refine aF ?_); refine pF aH rfl zby rfl hnm mM rfl ?_) | ((first | with_reducible refine aF ?_ | with_reducible refine aR ?_); refine aY tabOk [0, 1, 2, 3, 4, 5, 6, 7, 8, 9, 10, 11, 12, 13, 14, 15, 16, 17, 18, 19, 20, 21, 22, 23, 24, 25, 26, 27, 28, 29, 30, 31, 32, 33, 34, 35, 36, 37, 38, 39, 40, 41, 42, 43, 44, 45, 46, 47, 48] aH rfl rfl zby Tryz.func14 rfl rfl rfl (szf := 49) (by rw [Tryz.ntmps14]; rfl) rfl ?_) | refine stA ?_ | refine stD ?_ | ((first | refine hK _ _ _ _ ?_ | refine hX _ _ _ _ _ (by simp) ?_); clear hK hX K) | (first | refine bJ zio ztr rfl rfl (ResL.one (ResA.tmp rfl)) ?_ | refine bI zio ztr rfl rfl (ResL.one (ResA.tmp rfl)) ?_))
      clear hnm hQ hN hiQ hlt
      refine bD [7, 8, 11] [0, 2] rfl rfl (fun i : Nat => [(7, .own 2 0 (q i) 2 true), (8, .c (iv i))]) (fun i => [(0, .blk 72 [.c (.sl 1 n (intc .i64 l)), .c (iv (W i).2)]), (2, .row 68 (ec (W i).1))]) (fun i => i ≤ nb) (fun i => nb - i) 0 (Nat.zero_le _) (by refine cL rfl ?_ ?_ rfl <;> (repeat' (first | exact bO | exact bZ | refine bG rfl (by first | rfl | (first | exact congrArg (fun x => AV.own 2 0 x 2 true) hq0 | exact congrArg (AObj.row 68) hs0 | exact congrArg (fun x => AObj.blk 72 [.c (.sl 1 n (intc .i64 l)), .c (iv x)]) ha0') | exact zeq) rfl ?_ | refine bP rfl (by first | rfl | (first | exact congrArg (fun x => AV.own 2 0 x 2 true) hq0 | exact congrArg (AObj.row 68) hs0 | exact congrArg (fun x => AObj.blk 72 [.c (.sl 1 n (intc .i64 l)), .c (iv x)]) ha0') | exact zeq) rfl ?_))) ?_
      clear hi hLl
      intro i hi K hK hX
      obtain ⟨f1, f2, f3⟩ := hfl i hi
      rw [hq] at f1
      have hLl : (ec (W i).1).length = q i * 2 := by rw [bM, hq]
      by_cases hlt : i < nb
      · obtain ⟨e, he⟩ : ∃ e, b[i]? = some e := ⟨b[i]'(by omega), List.getElem?_eq_getElem _⟩
        have hen := lF he
        have her := eV he
        have hWn := hWs i e he
        have hbe := hbr e (List.mem_of_getElem? he)
        have h1 := cU l n (W i).2 3 hn hnn f2 f3 (by decide)
        obtain ⟨p1, p2⟩ := bK n (W i).2 3 f2 f3
        have hqs := hq (i + 1)
        unfold fitStep at hWn
        by_cases hx : nextX l n (W i).2 3 = 0
        · rw [if_pos hx] at hWn
          have h2 := cU l n (nextA n (W i).2 3) e.n hn hnn p1 p2 (by omega)
          obtain ⟨x1, x2⟩ := nextX_one l n (nextA n (W i).2 3) e.n hbe.1 (by omega)
          rw [hx] at h1
          generalize nextX l n (nextA n (W i).2 3) e.n = x at *
          have ha2 : nextA n (nextA n (W i).2 3) e.n = (W (i + 1)).2 := by rw [hWn]
          rw [ha2] at h2
          rw [hWn, List.length_append, hq] at hqs
          have hqe : q i + 1 = q (i + 1) := hqs
          have hnx : ec (W i).1 ++ [.sl 3 e.r.length (rc e.r), iv (0 - (1 + x))] = ec (W (i + 1)).1 := by rw [hWn, ec_app, Int.zero_sub]; rfl
          generalize nextA n (W i).2 3 = a2 at *
          clear hWn hWs hq hq0 hs0 ha0' hqs hfl hfe hM hbr hx ha2 he hWnb
          obtain ⟨r, c⟩ := e
          simp only at *
          repeat' (first | ((with_reducible refine aD ?_); intro K hK hX) | ((with_reducible refine aE ?_); refine aA [0, 1, 2, 6, 7, 8, 9] rfl rfl ?_; with_reducible refine aB ?_) | ((with_reducible refine aG (i := 6) ?_); refine aA [0, 1, 2, 6, 7, 8, 9] rfl rfl ?_; refine cK [] ?_) | ((with_reducible refine aG ?_); refine aA [0, 1, 2, 6, 7, 8, 9] rfl rfl ?_; refine aL [] ?_) | ((with_reducible refine aF ?_); refine aQ (h1) aH rfl zby rfl rfl rfl rfl zcv rfl ztp ?_) | ((with_reducible refine bU ?_); refine eA (h1) aH rfl rfl zby rfl rfl rfl rfl zcv rfl ztp rfl ?_) | ((with_reducible refine aF ?_); refine aQ (h2) aH rfl zby rfl rfl rfl rfl zcv rfl ztp ?_) | ((with_reducible refine bU ?_); refine eA (h2) aH rfl rfl zby rfl rfl rfl rfl zcv rfl ztp rfl ?_) | ((first | ((with_reducible refine aI ?_); refine xA ?_) | ((with_reducible refine aP ?_); refine xD ?_) | ((with_reducible refine cP ?_); refine xE ?_)); (first | ((with_reducible refine aO ?_); (first | refine aC (aT tabOk rfl rfl rfl rfl (by first | exact her | exact hen)) ?_ | refine aC (aN tabOk rfl rfl rfl rfl (by first | exact her | exact hen)) ?_ | refine aC (aM tabOk rfl rfl rfl (by first | exact her | exact hen)) ?_)) | ((with_reducible refine bX ?_); (first | refine aC (s_ixV1 tabOk rfl rfl zcj rfl rfl rfl rfl rfl zle (by first | exact her | exact hen)) ?_ | refine aC (aS tabOk rfl rfl zcj rfl rfl (by first | exact her | exact hen)) ?_)))) | refine stA ?_ | refine stD ?_ | refine stE ?_ | ((first | refine hK _ _ _ _ ?_ | refine hX _ _ _ _ _ (by simp) ?_); clear hK hX K))
          exact ⟨i + 1, by omega, by omega, (by refine cE [0, 1, 4] rfl rfl ?_ ?_ rfl rfl <;> (repeat' (first | exact bQ | exact bR | refine bL rfl (by first | rfl | (exact congrArg (AObj.row 68) hnx) | exact zeq) rfl ?_ | refine bH rfl (by first | rfl | (exact congrArg (AObj.row 68) hnx) | exact zeq) rfl ?_)))⟩
        · rw [if_neg hx] at hWn
          have ha2 : nextA n (W i).2 3 = (W (i + 1)).2 := by rw [hWn]
          rw [ha2] at h1
          rw [hWn, hq] at hqs
          have hnx : ec (W i).1 = ec (W (i + 1)).1 := by rw [hWn]
          generalize nextX l n (W i).2 3 = x at *
          clear hWn hWs hq hq0 hs0 ha0' hfl hfe hM hbr he ha2 p1 p2 hWnb
          repeat' (first | ((with_reducible refine aD ?_); intro K hK hX) | ((with_reducible refine aE ?_); refine aA [0, 1, 2, 6, 7, 8, 9] rfl rfl ?_; with_reducible refine aB ?_) | ((with_reducible refine aG ?_); refine aA [0, 1, 2, 6, 7, 8, 9] rfl rfl ?_; refine aL [] ?_) | ((with_reducible refine aF ?_); refine aQ (h1) aH rfl zby rfl rfl rfl rfl zcv rfl ztp ?_) | refine stA ?_ | refine stD ?_ | ((first | refine hK _ _ _ _ ?_ | refine hX _ _ _ _ _ (by simp) ?_); clear hK hX K))
          exact ⟨i + 1, by omega, by omega, (by refine cL rfl ?_ ?_ rfl <;> (repeat' (first | exact bO | exact bZ | refine bG rfl (by first | rfl | (first | exact congrArg (fun x => AV.own 2 0 x 2 true) hqs | exact congrArg (AObj.row 68) hnx) | exact zeq) rfl ?_ | refine bP rfl (by first | rfl | (first | exact congrArg (fun x => AV.own 2 0 x 2 true) hqs | exact congrArg (AObj.row 68) hnx) | exact zeq) rfl ?_)))⟩
      · have hie : i = nb := by omega
        rw [hie] at hLl ⊢
        have hnm := norm_ok (W nb).1 (q nb) M (hq nb) (by have := (hfl nb (Nat.le_refl _)).1; rw [hq] at this; exact this) hfe.2 hfe.1 hM
        rw [hWnb] at hnm hLl ⊢
        clear hWs hq hq0 hs0 ha0' hfl hfe hbr hWnb hM
        repeat' (first | ((with_reducible refine aD ?_); intro K hK hX) | ((with_reducible refine aE ?_); refine aA [0, 1, 2, 6, 7, 8, 9] rfl rfl ?_; with_reducible refine aB ?_) | ((with_reducible refine aG ?_); refine aA [0, 1, 2, 6, 7, 8, 9] rfl rfl ?_; refine aL [] ?_) | ((with_reducible refine aF ?_); refine lN 42 rfl rfl zln ?_) | ((first | with_reducible refine aF ?_ | with_reducible refine bC ?_); (first | refine zA ?_ | refine zN ?_ | refine zD ?_); (first | refine c0 (hnm) ?_)) | refine stA ?_ | refine stD ?_ | ((first | refine hK _ _ _ _ ?_ | refine hX _ _ _ _ _ (by simp) ?_); clear hK hX K))
        refine cC zio ztr rfl rfl (ResL.one (ResA.tmp rfl)) (cM zfz rfl rfl)
end Go.Proofs.YtccnhpaldmjkbaaGreat
