/-
  Joined texts: T17. Lemmas; no statement of a law.
-/
import Derived.Test.YtccnhpaldmjkbaaGreatQ19
import Derived.Test.YtccnhpaldmjkbaaGreatQ29
import Derived.Test.YtccnhpaldmjkbaaGreatQ33
set_option linter.unusedSimpArgs false
set_option linter.unusedVariables false
namespace Go.Proofs.YtccnhpaldmjkbaaGreat
open Go Go.RowKit Go.Av
set_option maxRecDepth 100000
theorem pc_setw : ∀ {l : List Po} {k : Nat} {y : Po} (w : Wd), l[k]? = some y → (pc l).set (k * 3) (sv w) = pc (l.set k ⟨w, y.r, y.n⟩)
  | [], k, y, s, h => by simp at h
  | z :: l, 0, y, s, h => by
    simp at h
    subst h
    rfl
  | z :: l, k + 1, y, s, h => by
    have ih := pc_setw (l := l) (k := k) s (by simpa using h)
    have e : pc (z :: l) = [sv z.w, .sl 3 z.r.length (rc z.r), iv z.n] ++ pc l := rfl
    rw [e, show (k + 1) * 3 = (k * 3) + 3 by omega]
    simp only [List.cons_append, List.nil_append, List.set_cons_succ, ih]
    rfl
theorem pc_setr : ∀ {l : List Po} {k : Nat} {y : Po} {s : List Vl} {N : Nat}, l[k]? = some y → s.length = N → (pc l).set (k * 3 + 1) (.sl 3 N (rc s)) = pc (l.set k ⟨y.w, s, y.n⟩)
  | [], k, y, s, N, h, _ => by simp at h
  | z :: l, 0, y, s, N, h, hN => by
    simp at h
    subst h hN
    rfl
  | z :: l, k + 1, y, s, N, h, hN => by
    have ih := pc_setr (l := l) (k := k) (s := s) (N := N) (by simpa using h) hN
    have e : pc (z :: l) = [sv z.w, .sl 3 z.r.length (rc z.r), iv z.n] ++ pc l := rfl
    rw [e, show (k + 1) * 3 + 1 = (k * 3 + 1) + 3 by omega]
    simp only [List.cons_append, List.nil_append, List.set_cons_succ, ih]
    rfl
theorem zR : ∀ (L : List Po) (i : Nat) (g : Po), i < L.length → lay (pc L) (i * 3) g.c = pc (L.set i g)
  | [], _, _, h => by simp at h
  | e :: L, 0, g, _ => by simp [lay, pc, Po.c]
  | e :: L, i + 1, g, h => by
    have := zR L i g (by simpa using h)
    have hl : e.c = [sv e.w, .sl 3 e.r.length (rc e.r), iv e.n] := rfl
    have hg : g.c.length = 3 := rfl
    unfold lay at this ⊢
    unfold pc at this ⊢
    rw [List.set_cons_succ, List.flatMap_cons, List.flatMap_cons, ← this, hl, hg, show (i + 1) * 3 = (i * 3) + 1 + 1 + 1 by omega, show i * 3 + 1 + 1 + 1 + 3 = (i * 3 + 3) + 1 + 1 + 1 by omega]
    rfl
def fitP (p : List Po) : Prop := ∀ x ∈ p, x.r.length ≤ 1000 ∧ x.w.length ≤ 1000
theorem jR {b : List Po} {i : Nat} {e : Po} (hb : fitP b) (h1 : e.r.length ≤ 1000) (h2 : e.w.length ≤ 1000) : fitP (b.set i e) := fun f hf => by
  rcases List.mem_or_eq_of_mem_set hf with h | rfl
  · exact hb f h
  · exact ⟨h1, h2⟩
theorem xY (x : Int) : (wrdW x).length ≤ 1000 := by
  unfold wrdW
  have h : ∀ k : Nat, (wrdL.getD k []).length ≤ 1000 := fun k => by
    match k with
    | 0 => decide
    | 1 => decide
    | 2 => decide
    | 3 => decide
    | 4 => decide
    | 5 => decide
    | 6 => decide
    | 7 => decide
    | 8 => decide
    | k + 9 => exact Nat.zero_le _
  exact h _
theorem yP {size n : Nat} {xs ys : List CV} (hl : ys.length = xs.length) (h : CvL xs ys) : Cv (.sl size n xs) (.sl size n ys) := fun ok w u hu => by
  simp only [RepC] at hu ⊢
  obtain ⟨A, c, us, e, h1, h2, h3, h4, h5, h6⟩ := hu
  exact ⟨A, c, us, e, h1, h2, hl.trans h3, h _ _ _ h4, h5, h6⟩
def sppV (x : Int) : Int := [0, -1, 262144, 262145].getD x.toNat 0
theorem sppc (x : Int) (h1 : 0 ≤ x) (h2 : x < 4) : ([iv 0, iv (-1), iv 262144, iv 262145] : List CV)[0 + x.toNat * 1]? = some (iv (sppV x)) := by
  rcases (show x = 0 ∨ x = 1 ∨ x = 2 ∨ x = 3 by omega) with e | e | e | e <;> subst e <;> rfl
attribute [local irreducible] Still Adds AWL AW Drw DrwE EStep AC AWR Weak Frz Src RetK Out InK ItK AsK RdK RetT OutT ACT ACS RetS ACP RetP
set_option maxHeartbeats 16000000 in
theorem tspp_ok (l : List Int) (n : Nat) (a : Int) (b : List Po) (q : Nat) (hn : l.length = n) (hnn : n ≤ maxLen) (ha0 : 0 ≤ a) (ha : a ≤ 9223372036854775807) (hq : b.length = q) (hq2 : q ≤ 100000) (hfb : fitP b) :
    ∃ (e : List Po) (Q : Nat) (a' : Int), e.length = Q ∧ Q ≤ q + 1 ∧ fitP e ∧ 0 ≤ a' ∧ a' ≤ 9223372036854775807 ∧ ACT Tryz.prog 15 72 (tpC l n a) [.sl 3 q (pc b)] (tpC l n a') (.sl 3 Q (pc e)) := by
  have hbl : (pc b).length = q * 3 := by rw [bQ, hq]
  by_cases q0 : q = 0
  · have h0 := kH l n a hn hnn ha0 ha
    obtain ⟨p1, p2⟩ := cB n a 9 ha0 ha
    refine ⟨[⟨wrdW (nextX l n a 9), [], 1⟩], 1, nextA n a 9, rfl, by omega, fun f hf => ?_, p1, p2, ?_⟩
    · rw [List.mem_singleton.1 hf]; exact ⟨Nat.zero_le _, xY _⟩
    · generalize wrdW (nextX l n a 9) = w at *
      have h1 := True.intro
      have hz : [sv w, CV.sl 3 0 [], iv 1] = pc [⟨w, [], 1⟩] := rfl
      rw [← hz]
      clear hz hfb
      refine bX tabOk (sz := 72) Tryz.func15 rfl (by rw [Tryz.ntmps15]; rfl) ?_
      repeat' (first | ((with_reducible refine aB ?_); intro K hK hX) | ((with_reducible refine aC ?_); refine aD [0, 1, 4, 5, 6, 22] rfl rfl ?_) | ((with_reducible refine aF ?_); refine aG [0, 1, 4, 5, 6, 22] rfl rfl ?_; refine aI [] ?_) | refine stA ?_ | refine stD ?_ | ((first | refine hK _ _ _ _ ?_ | refine hX _ _ _ _ _ (by simp) ?_); clear hK hX K))
      rw [Nat.zero_add q, List.nil_append]
      repeat' (first | ((with_reducible refine aB ?_); intro K hK hX) | ((with_reducible refine aC ?_); refine aD [0, 1, 4, 5, 6, 22] rfl rfl ?_) | ((with_reducible refine aF ?_); refine aG [0, 1, 4, 5, 6, 22] rfl rfl ?_; refine aI [] ?_) | ((with_reducible refine aE ?_); refine aX (h0) aL rfl zby rfl rfl rfl rfl zcv rfl ztp ?_) | ((with_reducible refine aE ?_); refine aX (h1) aL rfl zby rfl rfl rfl rfl zcv rfl ztp ?_) | fail | refine stA ?_ | refine stD ?_ | ((first | refine hK _ _ _ _ ?_ | refine hX _ _ _ _ _ (by simp) ?_); clear hK hX K))
      refine cH zio ztr rfl rfl (ResL.one (ResA.tmp rfl)) (cT (bO (cD rfl rfl rfl) (yP rfl (dF bL (dF eB kK)))) rfl rfl)
  · have h0 := dZ l n a q hn hnn ha0 ha (by omega)
    obtain ⟨p1, p2⟩ := cB n a q ha0 ha
    have hb3 : 0 ≤ nextX l n a q ∧ nextX l n a q < q := by
      by_cases q1 : q = 1
      · subst q1
        unfold nextX
        rw [if_pos (.inl (by decide))]
        decide
      · exact cX l n a q (by omega) (by omega)
    generalize nextX l n a q = x0 at *
    generalize nextA n a q = a1 at *
    obtain ⟨j, rfl⟩ : ∃ j : Nat, x0 = j := ⟨x0.toNat, by omega⟩
    have hjq : j < q := by omega
    have h1 := dZ l n a1 5 hn hnn p1 p2 (by decide)
    obtain ⟨b1, b1'⟩ := cX l n a1 5 (by decide) (by decide)
    obtain ⟨p3, p4⟩ := cB n a1 5 p1 p2
    generalize nextX l n a1 5 = x1 at *
    generalize nextA n a1 5 = a2 at *
    obtain ⟨f, hf⟩ : ∃ f, b[j]? = some f := ⟨b[j]'(by omega), List.getElem?_eq_getElem _⟩
    obtain ⟨hfr, hfw⟩ := hfb f (List.mem_of_getElem? hf)
    rcases (show x1 = 0 ∨ x1 = 1 ∨ x1 = 2 ∨ x1 = 3 ∨ x1 = 4 by omega) with e | e | e | e | e
    · subst e
      obtain ⟨w, r, c⟩ := f
      have h2 := kH l n a2 hn hnn p3 p4
      obtain ⟨p5, p6⟩ := cB n a2 9 p3 p4
      have hwl := xY (nextX l n a2 9)
      generalize wrdW (nextX l n a2 9) = v at *
      generalize nextA n a2 9 = a3 at *
      refine ⟨b.set j ⟨v, r, c⟩, q, a3, by rw [List.length_set, hq], by omega, jR hfb hfr hwl, p5, p6, ?_⟩
      have hset : (pc b).set (0 + j * 3) (sv v) = pc (b.set j ⟨v, r, c⟩) := by rw [Nat.zero_add]; exact pc_setw v hf
      clear hfb hfr hfw hf
      refine bX tabOk (sz := 72) Tryz.func15 rfl (by rw [Tryz.ntmps15]; rfl) ?_
      repeat' (first | ((with_reducible refine aB ?_); intro K hK hX) | ((with_reducible refine aC ?_); refine aD [0, 1, 4, 5, 6, 22] rfl rfl ?_) | ((with_reducible refine aF ?_); refine aG [0, 1, 4, 5, 6, 22] rfl rfl ?_; refine aI [] ?_) | refine stA ?_ | refine stD ?_ | ((first | refine hK _ _ _ _ ?_ | refine hX _ _ _ _ _ (by simp) ?_); clear hK hX K))
      rw [Nat.zero_add q, List.nil_append]
      repeat' (first | ((with_reducible refine aB ?_); intro K hK hX) | ((with_reducible refine aC ?_); refine aD [0, 1, 4, 5, 6, 22] rfl rfl ?_) | ((with_reducible refine aF ?_); refine aG [0, 1, 4, 5, 6, 22] rfl rfl ?_; refine aI [] ?_) | ((with_reducible refine aE ?_); refine aX (h0) aL rfl zby rfl rfl rfl rfl zcv rfl ztp ?_) | ((with_reducible refine aE ?_); refine aX (h1) aL rfl zby rfl rfl rfl rfl zcv rfl ztp ?_) | ((with_reducible refine aE ?_); refine aX (h2) aL rfl zby rfl rfl rfl rfl zcv rfl ztp ?_) | fail | refine stA ?_ | refine stD ?_ | ((first | refine hK _ _ _ _ ?_ | refine hX _ _ _ _ _ (by simp) ?_); clear hK hX K))
      refine cH zio ztr rfl rfl (ResL.one (ResA.tmp rfl)) (cT (bO (cD rfl rfl (by rw [List.length_set, hbl])) (dA rfl hset)) rfl rfl)
    · subst e
      obtain ⟨w, r, c⟩ := f
      have h2 := dZ l n a2 4 hn hnn p3 p4 (by decide)
      obtain ⟨b2, b2'⟩ := cX l n a2 4 (by decide) (by decide)
      obtain ⟨p5, p6⟩ := cB n a2 4 p3 p4
      generalize nextX l n a2 4 = x2 at *
      generalize nextA n a2 4 = a3 at *
      have hv := sppc x2 b2 b2'
      generalize sppV x2 = v at hv
      refine ⟨b.set j ⟨w, r, v⟩, q, a3, by rw [List.length_set, hq], by omega, jR hfb hfr hfw, p5, p6, ?_⟩
      have hset : (pc b).set (0 + j * 3 + 2) (iv v) = pc (b.set j ⟨w, r, v⟩) := by rw [Nat.zero_add]; exact pc_set v hf
      clear hfb hfr hfw hf
      refine bX tabOk (sz := 72) Tryz.func15 rfl (by rw [Tryz.ntmps15]; rfl) ?_
      repeat' (first | ((with_reducible refine aB ?_); intro K hK hX) | ((with_reducible refine aC ?_); refine aD [0, 1, 4, 5, 6, 22] rfl rfl ?_) | ((with_reducible refine aF ?_); refine aG [0, 1, 4, 5, 6, 22] rfl rfl ?_; refine aI [] ?_) | refine stA ?_ | refine stD ?_ | ((first | refine hK _ _ _ _ ?_ | refine hX _ _ _ _ _ (by simp) ?_); clear hK hX K))
      rw [Nat.zero_add q, List.nil_append]
      repeat' (first | ((with_reducible refine aB ?_); intro K hK hX) | ((with_reducible refine aC ?_); refine aD [0, 1, 4, 5, 6, 22] rfl rfl ?_) | ((with_reducible refine aF ?_); refine aG [0, 1, 4, 5, 6, 22] rfl rfl ?_; refine aI [] ?_) | ((with_reducible refine aE ?_); refine aX (h0) aL rfl zby rfl rfl rfl rfl zcv rfl ztp ?_) | ((with_reducible refine aE ?_); refine aX (h1) aL rfl zby rfl rfl rfl rfl zcv rfl ztp ?_) | ((with_reducible refine aE ?_); refine aX (h2) aL rfl zby rfl rfl rfl rfl zcv rfl ztp ?_) | fail | ((first | ((with_reducible refine aH ?_); refine xA ?_) | ((with_reducible refine aO ?_); refine xD ?_)); (first | ((with_reducible refine aP ?_); (first | refine aA (aR tabOk rfl rfl rfl rfl (by exact hv)) ?_ | refine aA (aN tabOk rfl rfl rfl rfl (by exact hv)) ?_ | refine aA (aM tabOk rfl rfl rfl (by exact hv)) ?_)) | ((with_reducible refine bR ?_); (first | refine aA (s_ixV1 tabOk rfl rfl zcj rfl rfl rfl rfl rfl zle (by exact hv)) ?_ | refine aA (aQ tabOk rfl rfl zcj rfl rfl (by exact hv)) ?_)))) | refine stA ?_ | refine stD ?_ | ((first | refine hK _ _ _ _ ?_ | refine hX _ _ _ _ _ (by simp) ?_); clear hK hX K))
      refine cH zio ztr rfl rfl (ResL.one (ResA.tmp rfl)) (cT (bO (cD rfl rfl (by rw [List.length_set, hbl])) (dA rfl hset)) rfl rfl)
    · subst e
      refine ⟨b ++ [f], q + 1, a2, by rw [List.length_append, hq]; rfl, by omega, fun g hg => ?_, p3, p4, ?_⟩
      · rcases List.mem_append.1 hg with h | h
        · exact hfb g h
        · rw [List.mem_singleton.1 h]; exact ⟨hfr, hfw⟩
      · have hat := iM hf
        have happ : pc b ++ f.c = pc (b ++ [f]) := by rw [qJ]; simp [pc]
        have hapl : (pc b ++ f.c).length = (q + 1) * 3 := by rw [happ, bQ, List.length_append, hq]; rfl
        have hw : ((pc b).drop (0 + j * 3)).take 3 = f.c := by rw [Nat.zero_add]; exact hat
        obtain ⟨w, r, c⟩ := f
        simp only [Po.c] at happ hapl hw
        clear hfb hfr hfw hf hat
        refine bX tabOk (sz := 72) Tryz.func15 rfl (by rw [Tryz.ntmps15]; rfl) ?_
        repeat' (first | ((with_reducible refine aB ?_); intro K hK hX) | ((with_reducible refine aC ?_); refine aD [0, 1, 4, 5, 6, 22] rfl rfl ?_) | ((with_reducible refine aF ?_); refine aG [0, 1, 4, 5, 6, 22] rfl rfl ?_; refine aI [] ?_) | refine stA ?_ | refine stD ?_ | ((first | refine hK _ _ _ _ ?_ | refine hX _ _ _ _ _ (by simp) ?_); clear hK hX K))
        rw [Nat.zero_add q, List.nil_append]
        repeat' (first | ((with_reducible refine aB ?_); intro K hK hX) | ((with_reducible refine aC ?_); refine aD [0, 1, 4, 5, 6, 22] rfl rfl ?_) | ((with_reducible refine aF ?_); refine aG [0, 1, 4, 5, 6, 22] rfl rfl ?_; refine aI [] ?_) | ((with_reducible refine aE ?_); refine aX (h0) aL rfl zby rfl rfl rfl rfl zcv rfl ztp ?_) | ((with_reducible refine aE ?_); refine aX (h1) aL rfl zby rfl rfl rfl rfl zcv rfl ztp ?_) | fail | ((first | ((with_reducible refine aH ?_); refine xA ?_) | ((with_reducible refine aO ?_); refine xD ?_)); (first | ((with_reducible refine aP ?_); (first | refine aA (aW tabOk rfl rfl rfl rfl (by first | exact hw | exact whole0 (by first | rfl | omega) | rfl) zln) ?_ | refine aA (aV tabOk rfl rfl rfl (by first | exact hw | exact whole0 (by first | rfl | omega) | rfl) zln) ?_)) | ((with_reducible refine bE ?_); (first | refine aA (s_slArri tabOk rfl rfl rfl rfl zbd zbd zle zle (by decide) (by first | exact hw | exact whole0 (by first | rfl | omega) | rfl) zln) ?_)))) | refine stA ?_ | refine stD ?_ | ((first | refine hK _ _ _ _ ?_ | refine hX _ _ _ _ _ (by simp) ?_); clear hK hX K))
        refine cH zio ztr rfl rfl (ResL.one (ResA.tmp rfl)) (cT (bO (cD rfl rfl hapl) (dA rfl happ)) rfl rfl)
    · subst e
      obtain ⟨g, hg⟩ : ∃ g, b[0]? = some g := ⟨b[0]'(by omega), List.getElem?_eq_getElem _⟩
      obtain ⟨hgr, hgw⟩ := hfb g (List.mem_of_getElem? hg)
      refine ⟨(b.set j g).set 0 f, q, a2, by rw [List.length_set, List.length_set, hq], by omega, jR (jR hfb hgr hgw) hfr hfw, p3, p4, ?_⟩
      have hw1 : ((pc b).drop (0 + j * 3)).take 3 = f.c := by rw [Nat.zero_add]; exact iM hf
      have hw2 : ((pc b).drop (0 + 0 * 3)).take 3 = g.c := by rw [Nat.zero_add]; exact iM hg
      have hla : lay (lay (pc b) (0 + j * 3) g.c) (0 + 0 * 3) f.c = pc ((b.set j g).set 0 f) := by
        rw [Nat.zero_add, zR b j g (by omega)]
        exact zR _ 0 f (by rw [List.length_set]; omega)
      have hll : (lay (pc b) (0 + j * 3) g.c).length = q * 3 := by
        rw [qA _ _ _ (by rw [hbl]; simp only [Po.c, List.length_cons, List.length_nil]; omega), hbl]
      have hll2 : (lay (lay (pc b) (0 + j * 3) g.c) (0 + 0 * 3) f.c).length = q * 3 := by rw [hla, bQ, List.length_set, List.length_set, hq]
      obtain ⟨w, r, c⟩ := f
      obtain ⟨w', r', c'⟩ := g
      simp only [Po.c] at hw1 hw2 hla hll hll2
      clear hfb hfr hfw hf hg hgr hgw
      have hll' := hll
      simp only [Nat.zero_add] at hll'
      refine bX tabOk (sz := 72) Tryz.func15 rfl (by rw [Tryz.ntmps15]; rfl) ?_
      repeat' (first | ((with_reducible refine aB ?_); intro K hK hX) | ((with_reducible refine aC ?_); refine aD [0, 1, 4, 5, 6, 22] rfl rfl ?_) | ((with_reducible refine aF ?_); refine aG [0, 1, 4, 5, 6, 22] rfl rfl ?_; refine aI [] ?_) | refine stA ?_ | refine stD ?_ | ((first | refine hK _ _ _ _ ?_ | refine hX _ _ _ _ _ (by simp) ?_); clear hK hX K))
      rw [Nat.zero_add q, List.nil_append]
      repeat' (first | ((with_reducible refine aB ?_); intro K hK hX) | ((with_reducible refine aC ?_); refine aD [0, 1, 4, 5, 6, 22] rfl rfl ?_) | ((with_reducible refine jV ?_); refine jN aL (kD rfl) ?_) | ((with_reducible refine aF ?_); refine aG [0, 1, 4, 5, 6, 22] rfl rfl ?_; refine cJ [] ?_) | ((with_reducible refine aE ?_); refine aX (h0) aL rfl zby rfl rfl rfl rfl zcv rfl ztp ?_) | ((with_reducible refine bW ?_); refine eC (h0) aL rfl rfl zby rfl rfl rfl rfl zcv rfl ztp rfl ?_) | ((with_reducible refine aE ?_); refine aX (h1) aL rfl zby rfl rfl rfl rfl zcv rfl ztp ?_) | ((with_reducible refine bW ?_); refine eC (h1) aL rfl rfl zby rfl rfl rfl rfl zcv rfl ztp rfl ?_) | fail | ((first | ((with_reducible refine aH ?_); refine xA ?_) | ((with_reducible refine cN ?_); refine xE ?_)); (first | ((with_reducible refine aP ?_); (first | refine aA (aW tabOk rfl rfl rfl rfl (by first | first | exact hw1 | exact hw2 | exact whole0 (by first | rfl | omega) | rfl) zln) ?_ | refine aA (aV tabOk rfl rfl rfl (by first | first | exact hw1 | exact hw2 | exact whole0 (by first | rfl | omega) | rfl) zln) ?_)) | ((with_reducible refine bE ?_); (first | refine aA (s_slArri tabOk rfl rfl rfl rfl zbd zbd zle zle (by decide) (by first | first | exact hw1 | exact hw2 | exact whole0 (by first | rfl | omega) | rfl) zln) ?_)))) | (refine iE (by kernel_rfl) (by kernel_rfl) (by kernel_rfl) (by kernel_rfl) rfl ?_) | refine stA ?_ | refine stE ?_ | ((first | refine hK _ _ _ _ ?_ | refine hX _ _ _ _ _ (by simp) ?_); clear hK hX K))
      try with_reducible refine sA ?_
      try refine rO tabOk aL rfl rfl rfl rfl rfl (by rfl) rfl (by show 0 + 0 * 3 + 3 ≤ _; rw [hll]; omega) (by rfl) rfl ?_
      repeat' (first | ((with_reducible refine aB ?_); intro K hK hX) | ((with_reducible refine aC ?_); refine aD [0, 1, 4, 5, 6, 22] rfl rfl ?_) | ((with_reducible refine jV ?_); refine jN aL (kD rfl) ?_) | ((with_reducible refine aF ?_); refine aG [0, 1, 4, 5, 6, 22] rfl rfl ?_; refine cJ [] ?_) | (refine iE (by kernel_rfl) (by kernel_rfl) (by kernel_rfl) (by kernel_rfl) rfl ?_) | refine stA ?_ | refine stE ?_ | ((first | refine hK _ _ _ _ ?_ | refine hX _ _ _ _ _ (by simp) ?_); clear hK hX K))
      refine cH zio ztr rfl rfl (ResL.one (ResA.tmp rfl)) (cT (bO (cD rfl rfl hll2) (dA rfl hla)) rfl rfl)
    · subst e
      obtain ⟨w, r, c⟩ := f
      obtain ⟨s, N, a3, hs, hN, p5, p6, h2⟩ := trow_ok l n a2 3 4 hn hnn p3 p4 (by decide) (by decide) (by decide)
      refine ⟨b.set j ⟨w, s, c⟩, q, a3, by rw [List.length_set, hq], by omega, jR hfb (by show s.length ≤ 1000; omega) hfw, p5, p6, ?_⟩
      have hset : (pc b).set (0 + j * 3 + 1) (.sl 3 N (rc s)) = pc (b.set j ⟨w, s, c⟩) := by rw [Nat.zero_add]; exact pc_setr hf hs
      clear hfb hfr hfw hf
      refine bX tabOk (sz := 72) Tryz.func15 rfl (by rw [Tryz.ntmps15]; rfl) ?_
      repeat' (first | ((with_reducible refine aB ?_); intro K hK hX) | ((with_reducible refine aC ?_); refine aD [0, 1, 4, 5, 6, 22] rfl rfl ?_) | ((with_reducible refine aF ?_); refine aG [0, 1, 4, 5, 6, 22] rfl rfl ?_; refine aI [] ?_) | refine stA ?_ | refine stD ?_ | ((first | refine hK _ _ _ _ ?_ | refine hX _ _ _ _ _ (by simp) ?_); clear hK hX K))
      rw [Nat.zero_add q, List.nil_append]
      repeat' (first | ((with_reducible refine aB ?_); intro K hK hX) | ((with_reducible refine aC ?_); refine aD [0, 1, 4, 5, 6, 22] rfl rfl ?_) | ((with_reducible refine aF ?_); refine aG [0, 1, 4, 5, 6, 22] rfl rfl ?_; refine aI [] ?_) | ((with_reducible refine aE ?_); refine aX (h0) aL rfl zby rfl rfl rfl rfl zcv rfl ztp ?_) | ((with_reducible refine aE ?_); refine aX (h1) aL rfl zby rfl rfl rfl rfl zcv rfl ztp ?_) | ((with_reducible refine aE ?_); refine aX (h2) aL rfl zby rfl rfl rfl rfl zcv rfl ztp ?_) | fail | refine stA ?_ | refine stD ?_ | ((first | refine hK _ _ _ _ ?_ | refine hX _ _ _ _ _ (by simp) ?_); clear hK hX K))
      refine cH zio ztr rfl rfl (ResL.one (ResA.tmp rfl)) (cT (bO (cD rfl rfl (by rw [List.length_set, hbl])) (dA rfl hset)) rfl rfl)
end Go.Proofs.YtccnhpaldmjkbaaGreat
