/-
  Joined texts: Z7 T4. Lemmas; no statement of a law.
-/
import Derived.Test.YtccnhpaldmjkbaaGreatQ7
set_option maxHeartbeats 16000000
set_option linter.unusedSimpArgs false
set_option linter.unusedVariables false
namespace Go.Proofs.YtccnhpaldmjkbaaGreat
open Go Go.RowKit Go.Av
set_option maxRecDepth 100000
attribute [local irreducible] Still Adds AWL AW Drw DrwE EStep AC AWR Weak Frz Src RetK Out InK ItK AsK RdK RetT OutT ACT
open Classical in
theorem rbag_ok (b : List En) (n : Nat) (hn : b.length = n) (hm : n ≤ maxLen) (hfb : fitB b) : AC Tryz.prog 105 [.sl 2 n (ec b)] (.c (bv (decide (bagP b)))) [] 0 := by
  have hml : n ≤ 9223372036854775807 := hm
  clear hm
  have hbl : (ec b).length = n * 2 := by rw [bH, hn]
  by_cases hs : n ≤ 4096
  · by_cases hall : ∀ i, i < n → goodAt b i
    · rw [decide_eq_true (show bagP b from ⟨by omega, by rw [hn]; exact hall⟩)]
      refine aJ tabOk (sz := 56) Tryz.func105 rfl (by rw [Tryz.ntmps105]; rfl) ?_
      repeat' (first | ((with_reducible refine aB ?_); intro K hK hX) | ((with_reducible refine aC ?_); refine aD [0, 2, 3] rfl rfl ?_) | ((with_reducible refine aF ?_); refine aG [0, 2, 3] rfl rfl ?_; refine aI [] ?_) | refine stA ?_ | refine stD ?_ | ((first | refine hK _ _ _ _ ?_ | refine hX _ _ _ _ _ (by simp) ?_); clear hK hX K))
      refine bC [3] [] rfl rfl (fun i : Nat => [(3, .c (iv i))]) (fun i => []) (fun i => i ≤ n) (fun i => n - i) 0 (Nat.zero_le _) weakA ?_
      intro i hi K hK hX
      by_cases hlt : i < n
      · obtain ⟨e, he⟩ : ∃ e, b[i]? = some e := ⟨b[i]'(by omega), List.getElem?_eq_getElem _⟩
        have hg := hall i hlt e he
        clear hall
        obtain ⟨⟨g2a, g2b, g1⟩, g3, g4⟩ := hg
        have g2 : -262144 ≤ e.n ∧ e.n ≤ 262144 := ⟨g2a, g2b⟩
        have hv := kB e.r e.r.length rfl (hfb e (List.mem_of_getElem? he))
        rw [decide_eq_true g1] at hv
        have hc := iN e.n
        rw [decide_eq_true g2] at hc
        have her := dW he
        have hen := lB he
        by_cases i0 : 0 < i
        · obtain ⟨k, hk⟩ : ∃ k, i - 1 = k := ⟨_, rfl⟩
          have hkn : k < n := by omega
          obtain ⟨f, hf⟩ : ∃ f, b[k]? = some f := ⟨b[k]'(by omega), List.getElem?_eq_getElem _⟩
          have hfr := dW hf
          have g5 := g4 f i0 (by rw [hk]; exact hf)
          have hz := fY f.r e.r f.r.length e.r.length rfl rfl (hfb f (List.mem_of_getElem? hf)) (hfb e (List.mem_of_getElem? he))
          have hsub : IntKind.i64.wrap ((i : Int) - 1) = (k : Int) := by rw [w64 (by omega) (by omega)]; omega
          obtain ⟨r, c⟩ := e
          obtain ⟨r', c'⟩ := f
          simp only at her hen hfr hz g5 hv hc g3
          generalize cmpR r' r = z at hz g5
          clear hfb he hf g1 g2 g4
          repeat' (first | ((with_reducible refine aB ?_); intro K hK hX) | ((with_reducible refine aC ?_); refine aD [0, 2, 3] rfl rfl ?_) | ((with_reducible refine aF ?_); refine aG [0, 2, 3] rfl rfl ?_; refine aI [] ?_) | ((first | with_reducible refine aE ?_ | with_reducible refine aT ?_); (first | refine zA ?_ | refine zN ?_ | refine zD ?_); (first | refine c0 hv ?_ | refine c0 hc ?_ | refine c0 hz ?_)) | ((first | ((with_reducible refine aH ?_); refine xA ?_) | ((with_reducible refine aO ?_); refine xD ?_)); (first | ((with_reducible refine aU ?_); (first | refine aA (bT rfl rfl rfl hsub) ?_)) | ((with_reducible refine aP ?_); (first | refine aA (aR tabOk rfl rfl rfl rfl (by first | exact her | exact hen | exact hfr)) ?_ | refine aA (aN tabOk rfl rfl rfl rfl (by first | exact her | exact hen | exact hfr)) ?_ | refine aA (aM tabOk rfl rfl rfl (by first | exact her | exact hen | exact hfr)) ?_)) | ((with_reducible refine bR ?_); (first | refine aA (s_ixV1 tabOk rfl rfl zcj rfl rfl rfl rfl rfl zle (by first | exact her | exact hen | exact hfr)) ?_ | refine aA (aQ tabOk rfl rfl zcj rfl rfl (by first | exact her | exact hen | exact hfr)) ?_)))) | refine stA ?_ | refine stD ?_ | ((first | refine hK _ _ _ _ ?_ | refine hX _ _ _ _ _ (by simp) ?_); clear hK hX K))
          exact ⟨i + 1, by omega, by omega, weakA⟩
        · have hfr := her
          have hsub := True.intro
          obtain ⟨r, c⟩ := e
          simp only at her hen hv hc hfr g3
          clear hfb he g1 g2 g4
          repeat' (first | ((with_reducible refine aB ?_); intro K hK hX) | ((with_reducible refine aC ?_); refine aD [0, 2, 3] rfl rfl ?_) | ((with_reducible refine aF ?_); refine aG [0, 2, 3] rfl rfl ?_; refine aI [] ?_) | ((first | with_reducible refine aE ?_ | with_reducible refine aT ?_); (first | refine zA ?_ | refine zN ?_ | refine zD ?_); (first | refine c0 hv ?_ | refine c0 hc ?_)) | ((first | ((with_reducible refine aH ?_); refine xA ?_) | ((with_reducible refine aO ?_); refine xD ?_)); (first | ((with_reducible refine aU ?_); (first | refine aA (bT rfl rfl rfl hsub) ?_)) | ((with_reducible refine aP ?_); (first | refine aA (aR tabOk rfl rfl rfl rfl (by first | exact her | exact hen | exact hfr)) ?_ | refine aA (aN tabOk rfl rfl rfl rfl (by first | exact her | exact hen | exact hfr)) ?_ | refine aA (aM tabOk rfl rfl rfl (by first | exact her | exact hen | exact hfr)) ?_)) | ((with_reducible refine bR ?_); (first | refine aA (s_ixV1 tabOk rfl rfl zcj rfl rfl rfl rfl rfl zle (by first | exact her | exact hen | exact hfr)) ?_ | refine aA (aQ tabOk rfl rfl zcj rfl rfl (by first | exact her | exact hen | exact hfr)) ?_)))) | refine stA ?_ | refine stD ?_ | ((first | refine hK _ _ _ _ ?_ | refine hX _ _ _ _ _ (by simp) ?_); clear hK hX K))
          exact ⟨i + 1, by omega, by omega, weakA⟩
      · clear hall hfb
        repeat' (first | ((with_reducible refine aB ?_); intro K hK hX) | ((with_reducible refine aC ?_); refine aD [0, 2, 3] rfl rfl ?_) | ((with_reducible refine aF ?_); refine aG [0, 2, 3] rfl rfl ?_; refine aI [] ?_) | refine stA ?_ | refine stD ?_ | ((first | refine hK _ _ _ _ ?_ | refine hX _ _ _ _ _ (by simp) ?_); clear hK hX K))
        refine aK zio ztr rfl (ResL.one (ResA.tmp rfl)) zou
    · obtain ⟨q, hq, hbad, hgood⟩ := kL hall
      rw [decide_eq_false (fun h : bagP b => hbad (h.2 q (by omega)))]
      clear hall
      refine aJ tabOk (sz := 56) Tryz.func105 rfl (by rw [Tryz.ntmps105]; rfl) ?_
      repeat' (first | ((with_reducible refine aB ?_); intro K hK hX) | ((with_reducible refine aC ?_); refine aD [0, 2, 3] rfl rfl ?_) | ((with_reducible refine aF ?_); refine aG [0, 2, 3] rfl rfl ?_; refine aI [] ?_) | refine stA ?_ | refine stD ?_ | ((first | refine hK _ _ _ _ ?_ | refine hX _ _ _ _ _ (by simp) ?_); clear hK hX K))
      refine bC [3] [] rfl rfl (fun i : Nat => [(3, .c (iv i))]) (fun i => []) (fun i => i ≤ q) (fun i => q - i) 0 (Nat.zero_le _) weakA ?_
      intro i hi K hK hX
      have hin : i < n := by omega
      obtain ⟨e, he⟩ : ∃ e, b[i]? = some e := ⟨b[i]'(by omega), List.getElem?_eq_getElem _⟩
      by_cases hlt : i < q
      · have hg := hgood i hlt e he
        clear hbad hgood
        obtain ⟨⟨g2a, g2b, g1⟩, g3, g4⟩ := hg
        have g2 : -262144 ≤ e.n ∧ e.n ≤ 262144 := ⟨g2a, g2b⟩
        have hv := kB e.r e.r.length rfl (hfb e (List.mem_of_getElem? he))
        rw [decide_eq_true g1] at hv
        have hc := iN e.n
        rw [decide_eq_true g2] at hc
        have her := dW he
        have hen := lB he
        by_cases i0 : 0 < i
        · obtain ⟨k, hk⟩ : ∃ k, i - 1 = k := ⟨_, rfl⟩
          have hkn : k < n := by omega
          obtain ⟨f, hf⟩ : ∃ f, b[k]? = some f := ⟨b[k]'(by omega), List.getElem?_eq_getElem _⟩
          have hfr := dW hf
          have g5 := g4 f i0 (by rw [hk]; exact hf)
          have hz := fY f.r e.r f.r.length e.r.length rfl rfl (hfb f (List.mem_of_getElem? hf)) (hfb e (List.mem_of_getElem? he))
          have hsub : IntKind.i64.wrap ((i : Int) - 1) = (k : Int) := by rw [w64 (by omega) (by omega)]; omega
          obtain ⟨r, c⟩ := e
          obtain ⟨r', c'⟩ := f
          simp only at her hen hfr hz g5 hv hc g3
          generalize cmpR r' r = z at hz g5
          clear hfb he hf g1 g2 g4
          repeat' (first | ((with_reducible refine aB ?_); intro K hK hX) | ((with_reducible refine aC ?_); refine aD [0, 2, 3] rfl rfl ?_) | ((with_reducible refine aF ?_); refine aG [0, 2, 3] rfl rfl ?_; refine aI [] ?_) | ((first | with_reducible refine aE ?_ | with_reducible refine aT ?_); (first | refine zA ?_ | refine zN ?_ | refine zD ?_); (first | refine c0 hv ?_ | refine c0 hc ?_ | refine c0 hz ?_)) | ((first | ((with_reducible refine aH ?_); refine xA ?_) | ((with_reducible refine aO ?_); refine xD ?_)); (first | ((with_reducible refine aU ?_); (first | refine aA (bT rfl rfl rfl hsub) ?_)) | ((with_reducible refine aP ?_); (first | refine aA (aR tabOk rfl rfl rfl rfl (by first | exact her | exact hen | exact hfr)) ?_ | refine aA (aN tabOk rfl rfl rfl rfl (by first | exact her | exact hen | exact hfr)) ?_ | refine aA (aM tabOk rfl rfl rfl (by first | exact her | exact hen | exact hfr)) ?_)) | ((with_reducible refine bR ?_); (first | refine aA (s_ixV1 tabOk rfl rfl zcj rfl rfl rfl rfl rfl zle (by first | exact her | exact hen | exact hfr)) ?_ | refine aA (aQ tabOk rfl rfl zcj rfl rfl (by first | exact her | exact hen | exact hfr)) ?_)))) | refine stA ?_ | refine stD ?_ | ((first | refine hK _ _ _ _ ?_ | refine hX _ _ _ _ _ (by simp) ?_); clear hK hX K))
          exact ⟨i + 1, by omega, by omega, weakA⟩
        · have hfr := her
          have hsub := True.intro
          obtain ⟨r, c⟩ := e
          simp only at her hen hv hc hfr g3
          clear hfb he g1 g2 g4
          repeat' (first | ((with_reducible refine aB ?_); intro K hK hX) | ((with_reducible refine aC ?_); refine aD [0, 2, 3] rfl rfl ?_) | ((with_reducible refine aF ?_); refine aG [0, 2, 3] rfl rfl ?_; refine aI [] ?_) | ((first | with_reducible refine aE ?_ | with_reducible refine aT ?_); (first | refine zA ?_ | refine zN ?_ | refine zD ?_); (first | refine c0 hv ?_ | refine c0 hc ?_)) | ((first | ((with_reducible refine aH ?_); refine xA ?_) | ((with_reducible refine aO ?_); refine xD ?_)); (first | ((with_reducible refine aU ?_); (first | refine aA (bT rfl rfl rfl hsub) ?_)) | ((with_reducible refine aP ?_); (first | refine aA (aR tabOk rfl rfl rfl rfl (by first | exact her | exact hen | exact hfr)) ?_ | refine aA (aN tabOk rfl rfl rfl rfl (by first | exact her | exact hen | exact hfr)) ?_ | refine aA (aM tabOk rfl rfl rfl (by first | exact her | exact hen | exact hfr)) ?_)) | ((with_reducible refine bR ?_); (first | refine aA (s_ixV1 tabOk rfl rfl zcj rfl rfl rfl rfl rfl zle (by first | exact her | exact hen | exact hfr)) ?_ | refine aA (aQ tabOk rfl rfl zcj rfl rfl (by first | exact her | exact hen | exact hfr)) ?_)))) | refine stA ?_ | refine stD ?_ | ((first | refine hK _ _ _ _ ?_ | refine hX _ _ _ _ _ (by simp) ?_); clear hK hX K))
          exact ⟨i + 1, by omega, by omega, weakA⟩
      · have hiq : i = q := by omega
        have hnx : ¬ (entP e ∧ e.n ≠ 0 ∧ ∀ f, 0 < i → b[i - 1]? = some f → cmpR f.r e.r < 0) := fun h => hbad fun e' he' => by
          rw [← hiq, he] at he'
          injection he' with he'
          subst he'
          rw [← hiq]
          exact h
        clear hbad hgood
        have hv := kB e.r e.r.length rfl (hfb e (List.mem_of_getElem? he))
        have hc := iN e.n
        have her := dW he
        have hen := lB he
        have hsub := True.intro
        by_cases g1 : rowP e.r
        · rw [decide_eq_true g1] at hv
          by_cases g2 : -262144 ≤ e.n ∧ e.n ≤ 262144
          · rw [decide_eq_true g2] at hc
            by_cases g3 : e.n = 0
            · have hfr := her
              obtain ⟨r, c⟩ := e
              simp only at her hen hv hc hfr g3
              clear hnx g1 g2 hfb he
              repeat' (first | ((with_reducible refine aB ?_); intro K hK hX) | ((with_reducible refine aC ?_); refine aD [0, 2, 3] rfl rfl ?_) | ((with_reducible refine aF ?_); refine aG [0, 2, 3] rfl rfl ?_; refine aI [] ?_) | ((first | with_reducible refine aE ?_ | with_reducible refine aT ?_); (first | refine zA ?_ | refine zN ?_ | refine zD ?_); (first | refine c0 hv ?_ | refine c0 hc ?_)) | ((first | ((with_reducible refine aH ?_); refine xA ?_) | ((with_reducible refine aO ?_); refine xD ?_)); (first | ((with_reducible refine aU ?_); (first | refine aA (bT rfl rfl rfl hsub) ?_)) | ((with_reducible refine aP ?_); (first | refine aA (aR tabOk rfl rfl rfl rfl (by first | exact her | exact hen | exact hfr)) ?_ | refine aA (aN tabOk rfl rfl rfl rfl (by first | exact her | exact hen | exact hfr)) ?_ | refine aA (aM tabOk rfl rfl rfl (by first | exact her | exact hen | exact hfr)) ?_)) | ((with_reducible refine bR ?_); (first | refine aA (s_ixV1 tabOk rfl rfl zcj rfl rfl rfl rfl rfl zle (by first | exact her | exact hen | exact hfr)) ?_ | refine aA (aQ tabOk rfl rfl zcj rfl rfl (by first | exact her | exact hen | exact hfr)) ?_)))) | refine stA ?_ | refine stD ?_ | ((first | refine hK _ _ _ _ ?_ | refine hX _ _ _ _ _ (by simp) ?_); clear hK hX K))
              refine aK zio ztr rfl (ResL.one (ResA.tmp rfl)) zou
            · have hex : ∃ f, 0 < i ∧ b[i - 1]? = some f ∧ ¬ cmpR f.r e.r < 0 := Classical.byContradiction fun h => hnx ⟨⟨g2.1, g2.2, g1⟩, g3, fun f i0 hf => Classical.byContradiction fun hh => h ⟨f, i0, hf, hh⟩⟩
              obtain ⟨f, i0, hf, g5⟩ := hex
              obtain ⟨k, hk⟩ : ∃ k, i - 1 = k := ⟨_, rfl⟩
              rw [hk] at hf
              have hkn : k < n := by omega
              have hfr := dW hf
              have hz := fY f.r e.r f.r.length e.r.length rfl rfl (hfb f (List.mem_of_getElem? hf)) (hfb e (List.mem_of_getElem? he))
              have hsub : IntKind.i64.wrap ((i : Int) - 1) = (k : Int) := by rw [w64 (by omega) (by omega)]; omega
              obtain ⟨r, c⟩ := e
              obtain ⟨r', c'⟩ := f
              simp only at her hen hfr hz g5 hv hc g3
              generalize cmpR r' r = z at hz g5
              clear hnx g1 g2 hfb he hf
              repeat' (first | ((with_reducible refine aB ?_); intro K hK hX) | ((with_reducible refine aC ?_); refine aD [0, 2, 3] rfl rfl ?_) | ((with_reducible refine aF ?_); refine aG [0, 2, 3] rfl rfl ?_; refine aI [] ?_) | ((first | with_reducible refine aE ?_ | with_reducible refine aT ?_); (first | refine zA ?_ | refine zN ?_ | refine zD ?_); (first | refine c0 hv ?_ | refine c0 hc ?_ | refine c0 hz ?_)) | ((first | ((with_reducible refine aH ?_); refine xA ?_) | ((with_reducible refine aO ?_); refine xD ?_)); (first | ((with_reducible refine aU ?_); (first | refine aA (bT rfl rfl rfl hsub) ?_)) | ((with_reducible refine aP ?_); (first | refine aA (aR tabOk rfl rfl rfl rfl (by first | exact her | exact hen | exact hfr)) ?_ | refine aA (aN tabOk rfl rfl rfl rfl (by first | exact her | exact hen | exact hfr)) ?_ | refine aA (aM tabOk rfl rfl rfl (by first | exact her | exact hen | exact hfr)) ?_)) | ((with_reducible refine bR ?_); (first | refine aA (s_ixV1 tabOk rfl rfl zcj rfl rfl rfl rfl rfl zle (by first | exact her | exact hen | exact hfr)) ?_ | refine aA (aQ tabOk rfl rfl zcj rfl rfl (by first | exact her | exact hen | exact hfr)) ?_)))) | refine stA ?_ | refine stD ?_ | ((first | refine hK _ _ _ _ ?_ | refine hX _ _ _ _ _ (by simp) ?_); clear hK hX K))
              refine aK zio ztr rfl (ResL.one (ResA.tmp rfl)) zou
          · rw [decide_eq_false g2] at hc
            have hfr := her
            obtain ⟨r, c⟩ := e
            simp only at her hen hv hc hfr
            clear hnx g1 g2 hfb he
            repeat' (first | ((with_reducible refine aB ?_); intro K hK hX) | ((with_reducible refine aC ?_); refine aD [0, 2, 3] rfl rfl ?_) | ((with_reducible refine aF ?_); refine aG [0, 2, 3] rfl rfl ?_; refine aI [] ?_) | ((first | with_reducible refine aE ?_ | with_reducible refine aT ?_); (first | refine zA ?_ | refine zN ?_ | refine zD ?_); (first | refine c0 hv ?_ | refine c0 hc ?_)) | ((first | ((with_reducible refine aH ?_); refine xA ?_) | ((with_reducible refine aO ?_); refine xD ?_)); (first | ((with_reducible refine aU ?_); (first | refine aA (bT rfl rfl rfl hsub) ?_)) | ((with_reducible refine aP ?_); (first | refine aA (aR tabOk rfl rfl rfl rfl (by first | exact her | exact hen | exact hfr)) ?_ | refine aA (aN tabOk rfl rfl rfl rfl (by first | exact her | exact hen | exact hfr)) ?_ | refine aA (aM tabOk rfl rfl rfl (by first | exact her | exact hen | exact hfr)) ?_)) | ((with_reducible refine bR ?_); (first | refine aA (s_ixV1 tabOk rfl rfl zcj rfl rfl rfl rfl rfl zle (by first | exact her | exact hen | exact hfr)) ?_ | refine aA (aQ tabOk rfl rfl zcj rfl rfl (by first | exact her | exact hen | exact hfr)) ?_)))) | refine stA ?_ | refine stD ?_ | ((first | refine hK _ _ _ _ ?_ | refine hX _ _ _ _ _ (by simp) ?_); clear hK hX K))
            refine aK zio ztr rfl (ResL.one (ResA.tmp rfl)) zou
        · rw [decide_eq_false g1] at hv
          have hfr := her
          obtain ⟨r, c⟩ := e
          simp only at her hen hv hc hfr
          clear hnx g1 hc hfb he
          repeat' (first | ((with_reducible refine aB ?_); intro K hK hX) | ((with_reducible refine aC ?_); refine aD [0, 2, 3] rfl rfl ?_) | ((with_reducible refine aF ?_); refine aG [0, 2, 3] rfl rfl ?_; refine aI [] ?_) | ((first | with_reducible refine aE ?_ | with_reducible refine aT ?_); (first | refine zA ?_ | refine zN ?_ | refine zD ?_); (first | refine c0 hv ?_)) | ((first | ((with_reducible refine aH ?_); refine xA ?_) | ((with_reducible refine aO ?_); refine xD ?_)); (first | ((with_reducible refine aU ?_); (first | refine aA (bT rfl rfl rfl hsub) ?_)) | ((with_reducible refine aP ?_); (first | refine aA (aR tabOk rfl rfl rfl rfl (by first | exact her | exact hen | exact hfr)) ?_ | refine aA (aN tabOk rfl rfl rfl rfl (by first | exact her | exact hen | exact hfr)) ?_ | refine aA (aM tabOk rfl rfl rfl (by first | exact her | exact hen | exact hfr)) ?_)) | ((with_reducible refine bR ?_); (first | refine aA (s_ixV1 tabOk rfl rfl zcj rfl rfl rfl rfl rfl zle (by first | exact her | exact hen | exact hfr)) ?_ | refine aA (aQ tabOk rfl rfl zcj rfl rfl (by first | exact her | exact hen | exact hfr)) ?_)))) | refine stA ?_ | refine stD ?_ | ((first | refine hK _ _ _ _ ?_ | refine hX _ _ _ _ _ (by simp) ?_); clear hK hX K))
          refine aK zio ztr rfl (ResL.one (ResA.tmp rfl)) zou
  · rw [decide_eq_false (fun h : bagP b => hs (by have := h.1; omega))]
    refine aJ tabOk (sz := 56) Tryz.func105 rfl (by rw [Tryz.ntmps105]; rfl) ?_
    repeat' (first | ((with_reducible refine aB ?_); intro K hK hX) | ((with_reducible refine aC ?_); refine aD [0, 2, 3] rfl rfl ?_) | ((with_reducible refine aF ?_); refine aG [0, 2, 3] rfl rfl ?_; refine aI [] ?_) | refine stA ?_ | refine stD ?_ | ((first | refine hK _ _ _ _ ?_ | refine hX _ _ _ _ _ (by simp) ?_); clear hK hX K))
    refine aK zio ztr rfl (ResL.one (ResA.tmp rfl)) zou
open Classical in
theorem rpos_ok (b : List En) (n : Nat) (hn : b.length = n) (hm : n ≤ maxLen) (hfb : fitB b) : AC Tryz.prog 45 [.sl 2 n (ec b)] (.c (bv (decide (posP b)))) [] 0 := by
  have h1 := rbag_ok b n hn hm hfb
  have hml : n ≤ 9223372036854775807 := hm
  clear hm
  have hbl : (ec b).length = n * 2 := by rw [bH, hn]
  by_cases hall : ∀ i, i < n → ∀ e, b[i]? = some e → 0 ≤ e.n
  · have e1 : ∀ i j, @decide (posP b) i = @decide (bagP b) j := fun i j => decide_eq_decide.2 ⟨fun h => h.1, fun h => ⟨h, fun e he => by
      obtain ⟨i, hi⟩ := List.mem_iff_getElem?.1 he
      exact hall i (by rw [← hn]; exact (List.getElem?_eq_some_iff.1 hi).1) e hi⟩⟩
    rw [e1 _ (Classical.propDecidable _)]
    generalize @decide (bagP b) _ = t at h1 ⊢
    clear e1
    refine aJ tabOk (sz := 18) Tryz.func45 rfl (by rw [Tryz.ntmps45]; rfl) ?_
    repeat' (first | ((with_reducible refine aB ?_); intro K hK hX) | ((with_reducible refine aC ?_); refine aD [0, 2, 3] rfl rfl ?_) | refine stA ?_ | ((first | refine hK _ _ _ _ ?_ | refine hX _ _ _ _ _ (by simp) ?_); clear hK hX K))
    refine bC [3] [] rfl rfl (fun i : Nat => [(3, .c (iv i))]) (fun i => []) (fun i => i ≤ n) (fun i => n - i) 0 (Nat.zero_le _) weakA ?_
    intro i hi K hK hX
    by_cases hlt : i < n
    · obtain ⟨e, he⟩ : ∃ e, b[i]? = some e := ⟨b[i]'(by omega), List.getElem?_eq_getElem _⟩
      have hp := hall i hlt e he
      have hen := lB he
      obtain ⟨r, c⟩ := e
      simp only at hp hen
      clear hall h1 he hfb
      repeat' (first | ((with_reducible refine aB ?_); intro K hK hX) | ((with_reducible refine aC ?_); refine aD [0, 2, 3] rfl rfl ?_) | (((with_reducible refine aH ?_); refine xA ?_); (first | ((with_reducible refine aP ?_); (first | refine aA (aR tabOk rfl rfl rfl rfl (by exact hen)) ?_ | refine aA (aN tabOk rfl rfl rfl rfl (by exact hen)) ?_ | refine aA (aM tabOk rfl rfl rfl (by exact hen)) ?_)) | ((with_reducible refine bR ?_); (first | refine aA (s_ixV1 tabOk rfl rfl zcj rfl rfl rfl rfl rfl zle (by exact hen)) ?_ | refine aA (aQ tabOk rfl rfl zcj rfl rfl (by exact hen)) ?_)))) | refine stA ?_ | ((first | refine hK _ _ _ _ ?_ | refine hX _ _ _ _ _ (by simp) ?_); clear hK hX K))
      exact ⟨i + 1, by omega, by omega, weakA⟩
    · clear hall hfb
      repeat' (first | ((with_reducible refine aB ?_); intro K hK hX) | ((with_reducible refine aC ?_); refine aD [0, 2, 3] rfl rfl ?_) | ((with_reducible refine aE ?_); (first | refine zA ?_ | refine zN ?_); (first | refine c0 h1 ?_)) | refine stA ?_ | ((first | refine hK _ _ _ _ ?_ | refine hX _ _ _ _ _ (by simp) ?_); clear hK hX K))
      refine aK zio ztr rfl (ResL.one (ResA.tmp rfl)) zou
  · obtain ⟨q, hq, hbad, hgood⟩ := kL hall
    rw [decide_eq_false (fun h : posP b => hbad fun e he => h.2 e (List.mem_of_getElem? he))]
    clear hall h1
    refine aJ tabOk (sz := 18) Tryz.func45 rfl (by rw [Tryz.ntmps45]; rfl) ?_
    repeat' (first | ((with_reducible refine aB ?_); intro K hK hX) | ((with_reducible refine aC ?_); refine aD [0, 2, 3] rfl rfl ?_) | refine stA ?_ | ((first | refine hK _ _ _ _ ?_ | refine hX _ _ _ _ _ (by simp) ?_); clear hK hX K))
    refine bC [3] [] rfl rfl (fun i : Nat => [(3, .c (iv i))]) (fun i => []) (fun i => i ≤ q) (fun i => q - i) 0 (Nat.zero_le _) weakA ?_
    intro i hi K hK hX
    have hin : i < n := by omega
    obtain ⟨e, he⟩ : ∃ e, b[i]? = some e := ⟨b[i]'(by omega), List.getElem?_eq_getElem _⟩
    have hen := lB he
    by_cases hlt : i < q
    · have hp := hgood i hlt e he
      obtain ⟨r, c⟩ := e
      simp only at hp hen
      clear hbad hgood he hfb
      repeat' (first | ((with_reducible refine aB ?_); intro K hK hX) | ((with_reducible refine aC ?_); refine aD [0, 2, 3] rfl rfl ?_) | (((with_reducible refine aH ?_); refine xA ?_); (first | ((with_reducible refine aP ?_); (first | refine aA (aR tabOk rfl rfl rfl rfl (by exact hen)) ?_ | refine aA (aN tabOk rfl rfl rfl rfl (by exact hen)) ?_ | refine aA (aM tabOk rfl rfl rfl (by exact hen)) ?_)) | ((with_reducible refine bR ?_); (first | refine aA (s_ixV1 tabOk rfl rfl zcj rfl rfl rfl rfl rfl zle (by exact hen)) ?_ | refine aA (aQ tabOk rfl rfl zcj rfl rfl (by exact hen)) ?_)))) | refine stA ?_ | ((first | refine hK _ _ _ _ ?_ | refine hX _ _ _ _ _ (by simp) ?_); clear hK hX K))
      exact ⟨i + 1, by omega, by omega, weakA⟩
    · have hiq : i = q := by omega
      have hp : e.n < 0 := by
        have : ¬ 0 ≤ e.n := fun h => hbad fun e' he' => by
          rw [← hiq, he] at he'; injection he' with he'; subst he'; exact h
        omega
      obtain ⟨r, c⟩ := e
      simp only at hp hen
      clear hbad hgood he hfb
      repeat' (first | ((with_reducible refine aB ?_); intro K hK hX) | ((with_reducible refine aC ?_); refine aD [0, 2, 3] rfl rfl ?_) | (((with_reducible refine aH ?_); refine xA ?_); (first | ((with_reducible refine aP ?_); (first | refine aA (aR tabOk rfl rfl rfl rfl (by exact hen)) ?_ | refine aA (aN tabOk rfl rfl rfl rfl (by exact hen)) ?_ | refine aA (aM tabOk rfl rfl rfl (by exact hen)) ?_)) | ((with_reducible refine bR ?_); (first | refine aA (s_ixV1 tabOk rfl rfl zcj rfl rfl rfl rfl rfl zle (by exact hen)) ?_ | refine aA (aQ tabOk rfl rfl zcj rfl rfl (by exact hen)) ?_)))) | refine stA ?_ | ((first | refine hK _ _ _ _ ?_ | refine hX _ _ _ _ _ (by simp) ?_); clear hK hX K))
      refine aK zio ztr rfl (ResL.one (ResA.tmp rfl)) zou
end Go.Proofs.YtccnhpaldmjkbaaGreat
namespace Go.Proofs.YtccnhpaldmjkbaaGreat
open Go Go.RowKit Go.Av
set_option maxRecDepth 100000
def mergeE : List En → List En → List En
  | [], bt1 => bt1
  | a :: at1, [] => a :: at1
  | a :: at1, b :: bt1 => if cmpR a.r b.r < 0 then a :: mergeE at1 (b :: bt1) else if 0 < cmpR a.r b.r then b :: mergeE (a :: at1) bt1 else if a.n + b.n ≠ 0 then ⟨a.r, a.n + b.n⟩ :: mergeE at1 bt1 else mergeE at1 bt1
termination_by a b => a.length + b.length
theorem gJ (b : List En) : mergeE [] b = b := by rw [mergeE]
theorem fX (a : List En) : mergeE a [] = a := by cases a <;> rw [mergeE]
theorem fR {α : Type} {l : List α} {i : Nat} {x : α} (h : l[i]? = some x) : l.drop i = x :: l.drop (i + 1) := by
  obtain ⟨h1, h2⟩ := List.getElem?_eq_some_iff.1 h
  rw [List.drop_eq_getElem_cons h1, h2]
theorem lX {α : Type} {l : List α} {i n : Nat} (hn : l.length = n) (h : n ≤ i) : l.drop i = [] := List.drop_eq_nil_of_le (by omega)
section
variable {a b : List En} {i k n m : Nat} {x y : En}
theorem mg_right (hn : a.length = n) (hi : n ≤ i) (hy : b[k]? = some y) : mergeE (a.drop i) (b.drop k) = y :: mergeE (a.drop i) (b.drop (k + 1)) := by
  rw [lX hn hi, gJ, gJ, fR hy]
theorem mg_left (hm : b.length = m) (hk : m ≤ k) (hx : a[i]? = some x) : mergeE (a.drop i) (b.drop k) = x :: mergeE (a.drop (i + 1)) (b.drop k) := by
  rw [lX hm hk, fX, fX, fR hx]
theorem mg_lt (hx : a[i]? = some x) (hy : b[k]? = some y) (h : cmpR x.r y.r < 0) : mergeE (a.drop i) (b.drop k) = x :: mergeE (a.drop (i + 1)) (b.drop k) := by
  rw [fR hx, fR hy, mergeE, if_pos h]
theorem mg_gt (hx : a[i]? = some x) (hy : b[k]? = some y) (h : 0 < cmpR x.r y.r) : mergeE (a.drop i) (b.drop k) = y :: mergeE (a.drop i) (b.drop (k + 1)) := by
  rw [fR hx, fR hy, mergeE, if_neg (by omega), if_pos h]
theorem mg_eq (hx : a[i]? = some x) (hy : b[k]? = some y) (h : cmpR x.r y.r = 0) (hs : x.n + y.n ≠ 0) : mergeE (a.drop i) (b.drop k) = ⟨x.r, x.n + y.n⟩ :: mergeE (a.drop (i + 1)) (b.drop (k + 1)) := by
  rw [fR hx, fR hy, mergeE, if_neg (by omega), if_neg (by omega), if_pos hs]
theorem mg_no (hx : a[i]? = some x) (hy : b[k]? = some y) (h : cmpR x.r y.r = 0) (hs : x.n + y.n = 0) : mergeE (a.drop i) (b.drop k) = mergeE (a.drop (i + 1)) (b.drop (k + 1)) := by
  rw [fR hx, fR hy, mergeE, if_neg (by omega), if_neg (by omega), if_neg (fun h => h hs)]
end
theorem kU : ∀ (a b : List En), (mergeE a b).length ≤ a.length + b.length := by
  intro a b
  induction a, b using mergeE.induct with
  | case1 bt1 => rw [mergeE]; simp
  | case2 a at1 => rw [mergeE]; simp
  | case3 a at1 b bt1 h ih => rw [mergeE, if_pos h]; simp only [List.length_cons] at ih ⊢; omega
  | case4 a at1 b bt1 h h2 ih => rw [mergeE, if_neg h, if_pos h2]; simp only [List.length_cons] at ih ⊢; omega
  | case5 a at1 b bt1 h h2 h3 ih => rw [mergeE, if_neg h, if_neg h2, if_pos h3]; simp only [List.length_cons] at ih ⊢; omega
  | case6 a at1 b bt1 h h2 h3 ih => rw [mergeE, if_neg h, if_neg h2, if_neg h3]; simp only [List.length_cons] at ih ⊢; omega
theorem iW (a b : List En) : ec (a ++ b) = ec a ++ ec b := by simp [ec]
def absS (l : List En) : Nat := (l.map fun e => e.n.natAbs).sum
theorem jK {l : List En} {e : En} (h : e ∈ l) : e.n.natAbs ≤ absS l := by
  induction l with
  | nil => cases h
  | cons x l ih =>
    unfold absS at ih ⊢
    simp only [List.map_cons, List.sum_cons]
    rcases List.mem_cons.1 h with rfl | h
    · omega
    · have := ih h; omega
theorem gE (e : En) (l : List En) : absS (e :: l) = e.n.natAbs + absS l := by simp [absS]
theorem qF : ∀ (a b : List En), absS (mergeE a b) ≤ absS a + absS b := by
  intro a b
  induction a, b using mergeE.induct with
  | case1 bt1 => rw [mergeE]; simp [absS]
  | case2 a at1 => rw [mergeE]; simp [absS]
  | case3 a at1 b bt1 h ih => rw [mergeE, if_pos h]; simp only [gE] at ih ⊢; omega
  | case4 a at1 b bt1 h h2 ih => rw [mergeE, if_neg h, if_pos h2]; simp only [gE] at ih ⊢; omega
  | case5 a at1 b bt1 h h2 h3 ih => rw [mergeE, if_neg h, if_neg h2, if_pos h3]; simp only [gE] at ih ⊢; omega
  | case6 a at1 b bt1 h h2 h3 ih => rw [mergeE, if_neg h, if_neg h2, if_neg h3]; simp only [gE] at ih ⊢; omega
theorem eW : ∀ (a b : List En) (p : List Vl → Prop), (∀ e ∈ a, p e.r) → (∀ e ∈ b, p e.r) → ∀ e ∈ mergeE a b, p e.r := by
  intro a b p
  induction a, b using mergeE.induct with
  | case1 bt1 => intro _ h; rw [mergeE]; exact h
  | case2 a at1 => intro h _; rw [mergeE]; exact h
  | case3 a at1 b bt1 h ih =>
    intro h1 h2; rw [mergeE, if_pos h]
    intro e he
    rcases List.mem_cons.1 he with rfl | he
    · exact h1 _ (by simp)
    · exact ih (fun e he => h1 e (by simp [he])) h2 e he
  | case4 a at1 b bt1 h h2 ih =>
    intro h1 h3; rw [mergeE, if_neg h, if_pos h2]
    intro e he
    rcases List.mem_cons.1 he with rfl | he
    · exact h3 _ (by simp)
    · exact ih h1 (fun e he => h3 e (by simp [he])) e he
  | case5 a at1 b bt1 h h2 h3 ih =>
    intro h1 h4; rw [mergeE, if_neg h, if_neg h2, if_pos h3]
    intro e he
    rcases List.mem_cons.1 he with rfl | he
    · exact h1 a (by simp)
    · exact ih (fun e he => h1 e (by simp [he])) (fun e he => h4 e (by simp [he])) e he
  | case6 a at1 b bt1 h h2 h3 ih =>
    intro h1 h4; rw [mergeE, if_neg h, if_neg h2, if_neg h3]
    exact ih (fun e he => h1 e (by simp [he])) (fun e he => h4 e (by simp [he]))
end Go.Proofs.YtccnhpaldmjkbaaGreat
