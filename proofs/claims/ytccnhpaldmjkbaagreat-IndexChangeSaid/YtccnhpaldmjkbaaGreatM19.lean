/-
  Joined texts: Z13. Lemmas; no statement of a law.
-/
import Derived.Test.YtccnhpaldmjkbaaGreatM18
set_option linter.unusedSimpArgs false
set_option linter.unusedVariables false
/-
  Bags with one property broken, off a tape (walk).
-/
namespace Go.Proofs.YtccnhpaldmjkbaaGreat
open Go Go.RowKit Go.Av
set_option maxRecDepth 100000
theorem ec_setr : ∀ {L : List En} {i : Nat} {r s : List Vl} {c : Int} {N : Nat}, L[i]? = some ⟨r, c⟩ → s.length = N → (ec L).set (i * 2) (.sl 3 N (rc s)) = ec (L.set i ⟨s, c⟩)
  | [], _, _, _, _, _, h, _ => by simp at h
  | e :: L, 0, r, s, c, N, h, hN => by
    simp at h
    subst h hN
    simp [ec, En.c]
  | e :: L, i + 1, r, s, c, N, h, hN => by
    have := ec_setr (L := L) (i := i) (r := r) (s := s) (c := c) (N := N) (by simpa using h) hN
    have hl : e.c = [.sl 3 e.r.length (rc e.r), iv e.n] := rfl
    unfold ec at this ⊢
    rw [List.set_cons_succ, List.flatMap_cons, List.flatMap_cons, ← this, hl, show (i + 1) * 2 = (i * 2) + 1 + 1 by omega]
    rfl
theorem ec_lay : ∀ (L : List En) (i : Nat) (g : En), i < L.length → lay (ec L) (i * 2) g.c = ec (L.set i g)
  | [], _, _, h => by simp at h
  | e :: L, 0, g, _ => by simp [lay, ec, En.c]
  | e :: L, i + 1, g, h => by
    have := ec_lay L i g (by simpa using h)
    have hl : e.c = [.sl 3 e.r.length (rc e.r), iv e.n] := rfl
    have hg : g.c.length = 2 := rfl
    unfold lay at this ⊢
    unfold ec at this ⊢
    rw [List.set_cons_succ, List.flatMap_cons, List.flatMap_cons, ← this, hl, hg, show (i + 1) * 2 = (i * 2) + 1 + 1 by omega, show i * 2 + 1 + 1 + 2 = (i * 2 + 2) + 1 + 1 by omega]
    rfl
theorem zc_nul (k : Nat) : zc [Value.int .i64 0, Value.int .i64 0, Value.string ⟨#[]⟩] k = rc (List.replicate k Vl.nul) := by
  induction k with
  | zero => rfl
  | succ k ih =>
    unfold zc at ih ⊢
    rw [List.replicate_succ, List.flatten_cons, ih, List.replicate_succ]
    rfl
theorem kP {b : List En} {i : Nat} {e : En} (hb : fitB b) (he : e.r.length ≤ maxLen) : fitB (b.set i e) := fun f hf => by
  rcases List.mem_or_eq_of_mem_set hf with h | rfl
  · exact hb f h
  · exact he
def spcV (x : Int) : Int := [262144, 262145, -262145].getD x.toNat 0
theorem spcc (x : Int) (h1 : 0 ≤ x) (h2 : x < 3) : ([iv 262144, iv 262145, iv (-262145)] : List CV)[0 + x.toNat * 1]? = some (iv (spcV x)) := by
  rcases (show x = 0 ∨ x = 1 ∨ x = 2 by omega) with e | e | e <;> subst e <;> rfl
attribute [local irreducible] Still Adds AWL AW Drw DrwE EStep AC AWR Weak Frz Src RetK Out InK ItK AsK RdK RetT OutT ACT ACS RetS ACP RetP
set_option maxHeartbeats 16000000 in
theorem tspb_ok (l : List Int) (n : Nat) (a : Int) (b : List En) (q : Nat) (hn : l.length = n) (hnn : n ≤ maxLen) (ha0 : 0 ≤ a) (ha : a ≤ 9223372036854775807) (hq : b.length = q) (hq2 : q ≤ 1000) (hfb : fitB b) :
    ∃ (e : List En) (Q : Nat) (a' : Int), e.length = Q ∧ Q ≤ q + 1 ∧ fitB e ∧ 0 ≤ a' ∧ a' ≤ 9223372036854775807 ∧ ACT Tryz.prog 16 72 (tpC l n a) [.sl 2 q (ec b)] (tpC l n a') (.sl 2 Q (ec e)) := by
  have hbl : (ec b).length = q * 2 := by rw [bM, hq]
  by_cases q0 : q = 0
  · obtain ⟨r, N, a', hr, hN, b1, b2, h0⟩ := trow_ok l n a 2 3 hn hnn ha0 ha (by decide) (by decide) (by decide)
    refine ⟨[⟨r, 0⟩], 1, a', rfl, by omega, fun f hf => ?_, b1, b2, ?_⟩
    · rw [List.mem_singleton.1 hf]; simp only [maxLen]; omega
    · have h1 := True.intro
      have hz : [CV.sl 3 N (rc r), iv 0] = ec [⟨r, 0⟩] := by simp [ec, En.c, hr]
      rw [← hz]
      clear hz hfb
      refine bN tabOk (sz := 80) Tryz.func16 rfl (by rw [Tryz.ntmps16]; rfl) ?_
      repeat' (first | ((with_reducible refine aD ?_); intro K hK hX) | ((with_reducible refine aE ?_); refine aA [0, 1, 4, 5, 6, 22] rfl rfl ?_; with_reducible refine aB ?_) | ((with_reducible refine aG ?_); refine aA [0, 1, 4, 5, 6, 22] rfl rfl ?_; refine aL [] ?_) | refine stA ?_ | refine stD ?_ | ((first | refine hK _ _ _ _ ?_ | refine hX _ _ _ _ _ (by simp) ?_); clear hK hX K))
      rw [Nat.zero_add q, List.nil_append]
      repeat' (first | ((with_reducible refine aD ?_); intro K hK hX) | ((with_reducible refine aE ?_); refine aA [0, 1, 4, 5, 6, 22] rfl rfl ?_; with_reducible refine aB ?_) | ((with_reducible refine aG ?_); refine aA [0, 1, 4, 5, 6, 22] rfl rfl ?_; refine aL [] ?_) | ((with_reducible refine aF ?_); refine aQ (h0) aH rfl zby rfl rfl rfl rfl zcv rfl ztp ?_) | ((with_reducible refine aF ?_); refine aQ (h1) aH rfl zby rfl rfl rfl rfl zcv rfl ztp ?_) | fail | refine stA ?_ | refine stD ?_ | ((first | refine hK _ _ _ _ ?_ | refine hX _ _ _ _ _ (by simp) ?_); clear hK hX K))
      refine cC zio ztr rfl rfl (ResL.one (ResA.tmp rfl)) (cM zfz rfl rfl)
  · have h0 := cU l n a q hn hnn ha0 ha (by omega)
    obtain ⟨p1, p2⟩ := bK n a q ha0 ha
    have hb3 : 0 ≤ nextX l n a q ∧ nextX l n a q < q := by
      by_cases q1 : q = 1
      · subst q1
        unfold nextX
        rw [if_pos (.inl (by decide))]
        decide
      · exact cJ l n a q (by omega) (by omega)
    generalize nextX l n a q = x0 at *
    generalize nextA n a q = a1 at *
    obtain ⟨j, rfl⟩ : ∃ j : Nat, x0 = j := ⟨x0.toNat, by omega⟩
    have hjq : j < q := by omega
    have h1 := cU l n a1 6 hn hnn p1 p2 (by decide)
    obtain ⟨b1, b1'⟩ := cJ l n a1 6 (by decide) (by decide)
    obtain ⟨p3, p4⟩ := bK n a1 6 p1 p2
    generalize nextX l n a1 6 = x1 at *
    generalize nextA n a1 6 = a2 at *
    obtain ⟨f, hf⟩ : ∃ f, b[j]? = some f := ⟨b[j]'(by omega), List.getElem?_eq_getElem _⟩
    have hff := hfb f (List.mem_of_getElem? hf)
    rcases (show x1 = 0 ∨ x1 = 1 ∨ x1 = 2 ∨ x1 = 3 ∨ x1 = 4 ∨ x1 = 5 by omega) with e | e | e | e | e | e
    · subst e
      obtain ⟨r, c⟩ := f
      refine ⟨b.set j ⟨r, 0⟩, q, a2, by rw [List.length_set, hq], by omega, kP hfb hff, p3, p4, ?_⟩
      have hset : (ec b).set (0 + j * 2 + 1) (iv 0) = ec (b.set j ⟨r, 0⟩) := by rw [Nat.zero_add]; exact pM hf
      clear hfb hff hf
      refine bN tabOk (sz := 80) Tryz.func16 rfl (by rw [Tryz.ntmps16]; rfl) ?_
      repeat' (first | ((with_reducible refine aD ?_); intro K hK hX) | ((with_reducible refine aE ?_); refine aA [0, 1, 4, 5, 6, 22] rfl rfl ?_; with_reducible refine aB ?_) | ((with_reducible refine aG ?_); refine aA [0, 1, 4, 5, 6, 22] rfl rfl ?_; refine aL [] ?_) | refine stA ?_ | refine stD ?_ | ((first | refine hK _ _ _ _ ?_ | refine hX _ _ _ _ _ (by simp) ?_); clear hK hX K))
      rw [Nat.zero_add q, List.nil_append]
      repeat' (first | ((with_reducible refine aD ?_); intro K hK hX) | ((with_reducible refine aE ?_); refine aA [0, 1, 4, 5, 6, 22] rfl rfl ?_; with_reducible refine aB ?_) | ((with_reducible refine aG ?_); refine aA [0, 1, 4, 5, 6, 22] rfl rfl ?_; refine aL [] ?_) | ((with_reducible refine aF ?_); refine aQ (h0) aH rfl zby rfl rfl rfl rfl zcv rfl ztp ?_) | ((with_reducible refine aF ?_); refine aQ (h1) aH rfl zby rfl rfl rfl rfl zcv rfl ztp ?_) | fail | refine stA ?_ | refine stD ?_ | ((first | refine hK _ _ _ _ ?_ | refine hX _ _ _ _ _ (by simp) ?_); clear hK hX K))
      refine cC zio ztr rfl rfl (ResL.one (ResA.tmp rfl)) (cM (bS (cB rfl rfl (by rw [List.length_set, hbl])) (cV rfl hset)) rfl rfl)
    · subst e
      obtain ⟨r, c⟩ := f
      have h2 := cU l n a2 3 hn hnn p3 p4 (by decide)
      obtain ⟨b2, b2'⟩ := cJ l n a2 3 (by decide) (by decide)
      obtain ⟨p5, p6⟩ := bK n a2 3 p3 p4
      generalize nextX l n a2 3 = x2 at *
      generalize nextA n a2 3 = a3 at *
      have hv := spcc x2 b2 b2'
      generalize spcV x2 = v at hv
      refine ⟨b.set j ⟨r, v⟩, q, a3, by rw [List.length_set, hq], by omega, kP hfb hff, p5, p6, ?_⟩
      have hset : (ec b).set (0 + j * 2 + 1) (iv v) = ec (b.set j ⟨r, v⟩) := by rw [Nat.zero_add]; exact pM hf
      clear hfb hff hf
      refine bN tabOk (sz := 80) Tryz.func16 rfl (by rw [Tryz.ntmps16]; rfl) ?_
      repeat' (first | ((with_reducible refine aD ?_); intro K hK hX) | ((with_reducible refine aE ?_); refine aA [0, 1, 4, 5, 6, 22] rfl rfl ?_; with_reducible refine aB ?_) | ((with_reducible refine aG ?_); refine aA [0, 1, 4, 5, 6, 22] rfl rfl ?_; refine aL [] ?_) | refine stA ?_ | refine stD ?_ | ((first | refine hK _ _ _ _ ?_ | refine hX _ _ _ _ _ (by simp) ?_); clear hK hX K))
      rw [Nat.zero_add q, List.nil_append]
      repeat' (first | ((with_reducible refine aD ?_); intro K hK hX) | ((with_reducible refine aE ?_); refine aA [0, 1, 4, 5, 6, 22] rfl rfl ?_; with_reducible refine aB ?_) | ((with_reducible refine aG ?_); refine aA [0, 1, 4, 5, 6, 22] rfl rfl ?_; refine aL [] ?_) | ((with_reducible refine aF ?_); refine aQ (h0) aH rfl zby rfl rfl rfl rfl zcv rfl ztp ?_) | ((with_reducible refine aF ?_); refine aQ (h1) aH rfl zby rfl rfl rfl rfl zcv rfl ztp ?_) | ((with_reducible refine aF ?_); refine aQ (h2) aH rfl zby rfl rfl rfl rfl zcv rfl ztp ?_) | fail | ((first | ((with_reducible refine aI ?_); refine xA ?_) | ((with_reducible refine aP ?_); refine xD ?_)); (first | ((with_reducible refine aO ?_); (first | refine aC (aT tabOk rfl rfl rfl rfl (by exact hv)) ?_ | refine aC (aN tabOk rfl rfl rfl rfl (by exact hv)) ?_ | refine aC (aM tabOk rfl rfl rfl (by exact hv)) ?_)) | ((with_reducible refine bX ?_); (first | refine aC (s_ixV1 tabOk rfl rfl zcj rfl rfl rfl rfl rfl zle (by exact hv)) ?_ | refine aC (aS tabOk rfl rfl zcj rfl rfl (by exact hv)) ?_)))) | refine stA ?_ | refine stD ?_ | ((first | refine hK _ _ _ _ ?_ | refine hX _ _ _ _ _ (by simp) ?_); clear hK hX K))
      refine cC zio ztr rfl rfl (ResL.one (ResA.tmp rfl)) (cM (bS (cB rfl rfl (by rw [List.length_set, hbl])) (cV rfl hset)) rfl rfl)
    · subst e
      refine ⟨b ++ [f], q + 1, a2, by rw [List.length_append, hq]; rfl, by omega, fun g hg => ?_, p3, p4, ?_⟩
      · rcases List.mem_append.1 hg with h | h
        · exact hfb g h
        · rw [List.mem_singleton.1 h]; exact hff
      · have hat := gJ hf
        have happ : ec b ++ f.c = ec (b ++ [f]) := by rw [ec_app]; simp [ec]
        have hapl : (ec b ++ f.c).length = (q + 1) * 2 := by rw [happ, bM, List.length_append, hq]; rfl
        have hw : ((ec b).drop (0 + j * 2)).take 2 = f.c := by rw [Nat.zero_add]; exact hat
        obtain ⟨r, c⟩ := f
        simp only [En.c] at happ hapl hw
        clear hfb hff hf hat
        refine bN tabOk (sz := 80) Tryz.func16 rfl (by rw [Tryz.ntmps16]; rfl) ?_
        repeat' (first | ((with_reducible refine aD ?_); intro K hK hX) | ((with_reducible refine aE ?_); refine aA [0, 1, 4, 5, 6, 22] rfl rfl ?_; with_reducible refine aB ?_) | ((with_reducible refine aG ?_); refine aA [0, 1, 4, 5, 6, 22] rfl rfl ?_; refine aL [] ?_) | refine stA ?_ | refine stD ?_ | ((first | refine hK _ _ _ _ ?_ | refine hX _ _ _ _ _ (by simp) ?_); clear hK hX K))
        rw [Nat.zero_add q, List.nil_append]
        repeat' (first | ((with_reducible refine aD ?_); intro K hK hX) | ((with_reducible refine aE ?_); refine aA [0, 1, 4, 5, 6, 22] rfl rfl ?_; with_reducible refine aB ?_) | ((with_reducible refine aG ?_); refine aA [0, 1, 4, 5, 6, 22] rfl rfl ?_; refine aL [] ?_) | ((with_reducible refine aF ?_); refine aQ (h0) aH rfl zby rfl rfl rfl rfl zcv rfl ztp ?_) | ((with_reducible refine aF ?_); refine aQ (h1) aH rfl zby rfl rfl rfl rfl zcv rfl ztp ?_) | fail | ((first | ((with_reducible refine aI ?_); refine xA ?_) | ((with_reducible refine aP ?_); refine xD ?_)); (first | ((with_reducible refine aO ?_); (first | refine aC (aW tabOk rfl rfl rfl rfl (by first | exact hw | exact whole0 (by first | rfl | omega) | rfl) zln) ?_ | refine aC (aV tabOk rfl rfl rfl (by first | exact hw | exact whole0 (by first | rfl | omega) | rfl) zln) ?_)) | ((with_reducible refine bB ?_); (first | refine aC (s_slArri tabOk rfl rfl rfl rfl zbd zbd zle zle (by decide) (by first | exact hw | exact whole0 (by first | rfl | omega) | rfl) zln) ?_)))) | refine stA ?_ | refine stD ?_ | ((first | refine hK _ _ _ _ ?_ | refine hX _ _ _ _ _ (by simp) ?_); clear hK hX K))
        refine cC zio ztr rfl rfl (ResL.one (ResA.tmp rfl)) (cM (bS (cB rfl rfl hapl) (cV rfl happ)) rfl rfl)
    · subst e
      obtain ⟨r, c⟩ := f
      refine ⟨b.set j ⟨[⟨1, 1, [120]⟩], c⟩, q, a2, by rw [List.length_set, hq], by omega, kP hfb (by simp [maxLen]), p3, p4, ?_⟩
      have hset : (ec b).set (0 + j * 2) (.sl 3 1 [iv 1, iv 1, sv [120]]) = ec (b.set j ⟨[⟨1, 1, [120]⟩], c⟩) := by rw [Nat.zero_add]; exact ec_setr (s := [⟨1, 1, [120]⟩]) hf rfl
      clear hfb hff hf
      refine bN tabOk (sz := 80) Tryz.func16 rfl (by rw [Tryz.ntmps16]; rfl) ?_
      repeat' (first | ((with_reducible refine aD ?_); intro K hK hX) | ((with_reducible refine aE ?_); refine aA [0, 1, 4, 5, 6, 22] rfl rfl ?_; with_reducible refine aB ?_) | ((with_reducible refine aG ?_); refine aA [0, 1, 4, 5, 6, 22] rfl rfl ?_; refine aL [] ?_) | refine stA ?_ | refine stD ?_ | ((first | refine hK _ _ _ _ ?_ | refine hX _ _ _ _ _ (by simp) ?_); clear hK hX K))
      rw [Nat.zero_add q, List.nil_append]
      repeat' (first | ((with_reducible refine aD ?_); intro K hK hX) | ((with_reducible refine aE ?_); refine aA [0, 1, 4, 5, 6, 22] rfl rfl ?_; with_reducible refine aB ?_) | ((with_reducible refine aG ?_); refine aA [0, 1, 4, 5, 6, 22] rfl rfl ?_; refine aL [] ?_) | ((with_reducible refine aF ?_); refine aQ (h0) aH rfl zby rfl rfl rfl rfl zcv rfl ztp ?_) | ((with_reducible refine aF ?_); refine aQ (h1) aH rfl zby rfl rfl rfl rfl zcv rfl ztp ?_) | ((first | with_reducible refine dW ?_ | with_reducible refine fL ?_); (first | refine wA ?_ | refine wD ?_); (first | refine iE (cG (dP tabOk rfl rfl rfl rfl rfl) zln) ?_ | refine iE (cG (eC tabOk rfl rfl rfl rfl rfl rfl rfl rfl rfl rfl rfl rfl (dI rfl) (by first | rfl | exact all1 (by assumption) | (simp <;> fail) | fail) (by rfl)) zln) ?_)) | fail | refine stA ?_ | refine stD ?_ | ((first | refine hK _ _ _ _ ?_ | refine hX _ _ _ _ _ (by simp) ?_); clear hK hX K))
      refine cC zio ztr rfl rfl (ResL.one (ResA.tmp rfl)) (cM (bS (cB rfl rfl (by rw [List.length_set, hbl])) (cV rfl hset)) rfl rfl)
    · subst e
      obtain ⟨g, hg⟩ : ∃ g, b[0]? = some g := ⟨b[0]'(by omega), List.getElem?_eq_getElem _⟩
      have hgf := hfb g (List.mem_of_getElem? hg)
      refine ⟨(b.set j g).set 0 f, q, a2, by rw [List.length_set, List.length_set, hq], by omega, kP (kP hfb hgf) hff, p3, p4, ?_⟩
      have hw1 : ((ec b).drop (0 + j * 2)).take 2 = f.c := by rw [Nat.zero_add]; exact gJ hf
      have hw2 : ((ec b).drop (0 + 0 * 2)).take 2 = g.c := by rw [Nat.zero_add]; exact gJ hg
      have hla : lay (lay (ec b) (0 + j * 2) g.c) (0 + 0 * 2) f.c = ec ((b.set j g).set 0 f) := by
        rw [Nat.zero_add, ec_lay b j g (by omega)]
        exact ec_lay _ 0 f (by rw [List.length_set]; omega)
      have hll : (lay (ec b) (0 + j * 2) g.c).length = q * 2 := by
        rw [lT _ _ _ (by rw [hbl]; simp only [En.c, List.length_cons, List.length_nil]; omega), hbl]
      have hll2 : (lay (lay (ec b) (0 + j * 2) g.c) (0 + 0 * 2) f.c).length = q * 2 := by rw [hla, bM, List.length_set, List.length_set, hq]
      obtain ⟨r, c⟩ := f
      obtain ⟨r', c'⟩ := g
      simp only [En.c] at hw1 hw2 hla hll hll2
      clear hfb hff hf hg hgf
      have hll' := hll
      simp only [Nat.zero_add] at hll'
      refine bN tabOk (sz := 80) Tryz.func16 rfl (by rw [Tryz.ntmps16]; rfl) ?_
      repeat' (first | ((with_reducible refine aD ?_); intro K hK hX) | ((with_reducible refine aE ?_); refine aA [0, 1, 4, 5, 6, 22] rfl rfl ?_; with_reducible refine aB ?_) | ((with_reducible refine aG ?_); refine aA [0, 1, 4, 5, 6, 22] rfl rfl ?_; refine aL [] ?_) | refine stA ?_ | refine stD ?_ | ((first | refine hK _ _ _ _ ?_ | refine hX _ _ _ _ _ (by simp) ?_); clear hK hX K))
      rw [Nat.zero_add q, List.nil_append]
      repeat' (first | ((with_reducible refine aD ?_); intro K hK hX) | ((with_reducible refine aE ?_); refine aA [0, 1, 4, 5, 6, 22] rfl rfl ?_; with_reducible refine aB ?_) | ((with_reducible refine gZ ?_); refine gX aH (iU rfl) ?_) | ((with_reducible refine aG ?_); refine aA [0, 1, 4, 5, 6, 22] rfl rfl ?_; refine cK [] ?_) | ((with_reducible refine aF ?_); refine aQ (h0) aH rfl zby rfl rfl rfl rfl zcv rfl ztp ?_) | ((with_reducible refine bU ?_); refine eA (h0) aH rfl rfl zby rfl rfl rfl rfl zcv rfl ztp rfl ?_) | ((with_reducible refine aF ?_); refine aQ (h1) aH rfl zby rfl rfl rfl rfl zcv rfl ztp ?_) | ((with_reducible refine bU ?_); refine eA (h1) aH rfl rfl zby rfl rfl rfl rfl zcv rfl ztp rfl ?_) | fail | ((first | ((with_reducible refine aI ?_); refine xA ?_) | ((with_reducible refine cP ?_); refine xE ?_)); (first | ((with_reducible refine aO ?_); (first | refine aC (aW tabOk rfl rfl rfl rfl (by first | first | exact hw1 | exact hw2 | exact whole0 (by first | rfl | omega) | rfl) zln) ?_ | refine aC (aV tabOk rfl rfl rfl (by first | first | exact hw1 | exact hw2 | exact whole0 (by first | rfl | omega) | rfl) zln) ?_)) | ((with_reducible refine bB ?_); (first | refine aC (s_slArri tabOk rfl rfl rfl rfl zbd zbd zle zle (by decide) (by first | first | exact hw1 | exact hw2 | exact whole0 (by first | rfl | omega) | rfl) zln) ?_)))) | (refine fX (by kernel_rfl) (by kernel_rfl) (by kernel_rfl) (by kernel_rfl) rfl ?_) | refine stA ?_ | refine stE ?_ | ((first | refine hK _ _ _ _ ?_ | refine hX _ _ _ _ _ (by simp) ?_); clear hK hX K))
      try with_reducible refine nP ?_
      try refine nH tabOk aH rfl rfl rfl rfl rfl (by rfl) rfl (by show 0 + 0 * 2 + 2 ≤ _; rw [hll]; omega) (by rfl) rfl ?_
      repeat' (first | ((with_reducible refine aD ?_); intro K hK hX) | ((with_reducible refine aE ?_); refine aA [0, 1, 4, 5, 6, 22] rfl rfl ?_; with_reducible refine aB ?_) | ((with_reducible refine gZ ?_); refine gX aH (iU rfl) ?_) | ((with_reducible refine aG ?_); refine aA [0, 1, 4, 5, 6, 22] rfl rfl ?_; refine cK [] ?_) | (refine fX (by kernel_rfl) (by kernel_rfl) (by kernel_rfl) (by kernel_rfl) rfl ?_) | refine stA ?_ | refine stE ?_ | ((first | refine hK _ _ _ _ ?_ | refine hX _ _ _ _ _ (by simp) ?_); clear hK hX K))
      refine cC zio ztr rfl rfl (ResL.one (ResA.tmp rfl)) (cM (bS (cB rfl rfl hll2) (cV rfl hla)) rfl rfl)
    · subst e
      obtain ⟨r, c⟩ := f
      have h2 := cU l n a2 2 hn hnn p3 p4 (by decide)
      obtain ⟨b2, b2'⟩ := cJ l n a2 2 (by decide) (by decide)
      obtain ⟨p5, p6⟩ := bK n a2 2 p3 p4
      generalize nextX l n a2 2 = x2 at *
      generalize nextA n a2 2 = a3 at *
      obtain ⟨X, rfl⟩ : ∃ X : Nat, x2 = X := ⟨x2.toNat, by omega⟩
      obtain ⟨W, hW⟩ : ∃ W : Nat, 16 + X = W := ⟨_, rfl⟩
      refine ⟨b.set j ⟨List.replicate W Vl.nul, c⟩, q, a3, by rw [List.length_set, hq], by omega, kP hfb (by simp only [List.length_replicate, maxLen]; omega), p5, p6, ?_⟩
      have hset : (ec b).set (0 + j * 2) (.sl 3 W (zc [Value.int .i64 0, Value.int .i64 0, Value.string ⟨#[]⟩] W)) = ec (b.set j ⟨List.replicate W Vl.nul, c⟩) := by rw [Nat.zero_add, zc_nul]; exact ec_setr hf (by simp)
      have hadd : IntKind.i64.wrap ((16 : Int) + (X : Int)) = (W : Int) := by rw [← hW, w64 (by omega) (by omega)]; omega
      have hzl : (zc [Value.int .i64 0, Value.int .i64 0, Value.string ⟨#[]⟩] W).length = W * 3 := by rw [zc_length]; rfl
      clear hfb hff hf
      refine bN tabOk (sz := 80) Tryz.func16 rfl (by rw [Tryz.ntmps16]; rfl) ?_
      repeat' (first | ((with_reducible refine aD ?_); intro K hK hX) | ((with_reducible refine aE ?_); refine aA [0, 1, 4, 5, 6, 22] rfl rfl ?_; with_reducible refine aB ?_) | ((with_reducible refine aG ?_); refine aA [0, 1, 4, 5, 6, 22] rfl rfl ?_; refine aL [] ?_) | refine stA ?_ | refine stD ?_ | ((first | refine hK _ _ _ _ ?_ | refine hX _ _ _ _ _ (by simp) ?_); clear hK hX K))
      rw [Nat.zero_add q, List.nil_append]
      repeat' (first | ((with_reducible refine aD ?_); intro K hK hX) | ((with_reducible refine aE ?_); refine aA [0, 1, 4, 5, 6, 22] rfl rfl ?_; with_reducible refine aB ?_) | ((with_reducible refine aG ?_); refine aA [0, 1, 4, 5, 6, 22] rfl rfl ?_; refine aL [] ?_) | ((with_reducible refine aF ?_); refine aQ (h0) aH rfl zby rfl rfl rfl rfl zcv rfl ztp ?_) | ((with_reducible refine aF ?_); refine aQ (h1) aH rfl zby rfl rfl rfl rfl zcv rfl ztp ?_) | ((with_reducible refine aF ?_); refine aQ (h2) aH rfl zby rfl rfl rfl rfl zcv rfl ztp ?_) | ((with_reducible refine dB ?_); refine lN 28 rfl rfl hzl ?_) | fail | ((first | ((with_reducible refine aI ?_); refine xA ?_) | ((with_reducible refine aP ?_); refine xD ?_)); (first | ((with_reducible refine aX ?_); (first | refine aC (bV rfl rfl rfl hadd) ?_)))) | refine stA ?_ | refine stD ?_ | ((first | refine hK _ _ _ _ ?_ | refine hX _ _ _ _ _ (by simp) ?_); clear hK hX K))
      refine cC zio ztr rfl rfl (ResL.one (ResA.tmp rfl)) (cM (bS (cB rfl rfl (by rw [List.length_set, hbl])) (cV rfl hset)) rfl rfl)
end Go.Proofs.YtccnhpaldmjkbaaGreat
