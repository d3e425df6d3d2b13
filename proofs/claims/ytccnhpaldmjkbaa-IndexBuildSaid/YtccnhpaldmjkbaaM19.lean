/-
  Joined texts: Z7. Lemmas; no statement of a law.
-/
import Derived.Test.YtccnhpaldmjkbaaM10
set_option linter.unusedSimpArgs false
set_option linter.unusedVariables false
/-
  Valid and positive bags (walk), as the reference has them.
-/
namespace Go.Proofs.Ytccnhpaldmjkbaa
open Go Go.RowKit Go.Av
set_option maxRecDepth 100000
attribute [local irreducible] Still Adds AWL AW Drw DrwE EStep AC AWR Weak Frz Src RetK Out InK ItK AsK RdK RetT OutT ACT
open Classical in
set_option maxHeartbeats 8000000 in
theorem rbag_ok (b : List En) (n : Nat) (hn : b.length = n) (hm : n ≤ maxLen) (hfb : fitB b) : AC Try.prog 65 [.sl 2 n (ec b)] (.c (bv (decide (bagP b)))) [] 0 := by
  have hml : n ≤ 9223372036854775807 := hm
  clear hm
  have hbl : (ec b).length = n * 2 := by rw [ec_length, hn]
  by_cases hs : n ≤ 4096
  · by_cases hall : ∀ i, i < n → goodAt b i
    · rw [decide_eq_true (show bagP b from ⟨by omega, by rw [hn]; exact hall⟩)]
      refine ac_enter tabOk (sz := 56) Try.func65 rfl (by rw [Try.ntmps65]; rfl) ?_
      repeat' (first | ((with_reducible refine aw_seqk ?_); intro K hK hX) | ((with_reducible refine isC_reg ?_); refine aw_prune [0, 2, 3] rfl rfl ?_; with_reducible refine aw_region ?_) | ((with_reducible refine isC_draw ?_); refine aw_prune [0, 2, 3] rfl rfl ?_; refine aw_drwF [] ?_) | refine stA ?_ | refine stD ?_ | (refine hK _ _ _ _ ?_; clear hK hX K) | (refine hX _ _ _ _ _ (by simp) ?_; clear hK hX K))
      refine aw_loopo [3] [] rfl rfl (fun i : Nat => [(3, .c (iv i))]) (fun i => []) (fun i => i ≤ n) (fun i => n - i) 0 (Nat.zero_le _) weakA ?_
      intro i hi K hK hX
      by_cases hlt : i < n
      · obtain ⟨e, he⟩ : ∃ e, b[i]? = some e := ⟨b[i]'(by omega), List.getElem?_eq_getElem _⟩
        have hg := hall i hlt e he
        clear hall
        obtain ⟨⟨g2a, g2b, g1⟩, g3, g4⟩ := hg
        have g2 : -262144 ≤ e.n ∧ e.n ≤ 262144 := ⟨g2a, g2b⟩
        have hv := rvrow_ok e.r e.r.length rfl (hfb e (List.mem_of_getElem? he))
        rw [decide_eq_true g1] at hv
        have hc := rcount_ok e.n
        rw [decide_eq_true g2] at hc
        have her := ec_row he
        have hen := ec_n he
        by_cases i0 : 0 < i
        · obtain ⟨k, hk⟩ : ∃ k, i - 1 = k := ⟨_, rfl⟩
          have hkn : k < n := by omega
          obtain ⟨f, hf⟩ : ∃ f, b[k]? = some f := ⟨b[k]'(by omega), List.getElem?_eq_getElem _⟩
          have hfr := ec_row hf
          have g5 := g4 f i0 (by rw [hk]; exact hf)
          have hz := rrcmp_ok f.r e.r f.r.length e.r.length rfl rfl (hfb f (List.mem_of_getElem? hf)) (hfb e (List.mem_of_getElem? he))
          have hsub : IntKind.i64.wrap ((i : Int) - 1) = (k : Int) := by rw [w64 (by omega) (by omega)]; omega
          obtain ⟨r, c⟩ := e
          obtain ⟨r', c'⟩ := f
          simp only at her hen hfr hz g5 hv hc g3
          generalize cmpR r' r = z at hz g5
          clear hfb he hf g1 g2 g4
          repeat' (first | ((with_reducible refine aw_seqk ?_); intro K hK hX) | ((with_reducible refine isC_reg ?_); refine aw_prune [0, 2, 3] rfl rfl ?_; with_reducible refine aw_region ?_) | ((with_reducible refine isC_draw ?_); refine aw_prune [0, 2, 3] rfl rfl ?_; refine aw_drwF [] ?_) | ((first | with_reducible refine isA_call ?_ | with_reducible refine isD_call ?_); (first | refine zA ?_ | refine zN ?_ | refine zD ?_); (first | refine c0 (hv) ?_ | refine c0 (hc) ?_ | refine c0 (hz) ?_)) | ((first | ((with_reducible refine isA_any ?_); refine xA ?_) | ((with_reducible refine isDk_any ?_); refine xD ?_)); (first | ((with_reducible refine e_bin ?_); (first | refine ex_i (s_arit64 rfl rfl rfl hsub) ?_)) | ((with_reducible refine e_load ?_); (first | refine ex_i (s_load1 tabOk rfl rfl rfl rfl (by first | exact her | exact hen | exact hfr)) ?_ | refine ex_i (s_load1r tabOk rfl rfl rfl rfl (by first | exact her | exact hen | exact hfr)) ?_ | refine ex_i (s_load1i tabOk rfl rfl rfl (by first | exact her | exact hen | exact hfr)) ?_)) | ((with_reducible refine e_ix ?_); (first | refine ex_i (s_ixV1 tabOk rfl rfl zcj rfl rfl rfl rfl rfl zle (by first | exact her | exact hen | exact hfr)) ?_ | refine ex_i (s_ixStr tabOk rfl rfl zcj rfl rfl (by first | exact her | exact hen | exact hfr)) ?_)))) | refine stA ?_ | refine stD ?_ | (refine hK _ _ _ _ ?_; clear hK hX K) | (refine hX _ _ _ _ _ (by simp) ?_; clear hK hX K))
          exact ⟨i + 1, by omega, by omega, weakA⟩
        · have hfr := her
          have hsub := True.intro
          obtain ⟨r, c⟩ := e
          simp only at her hen hv hc hfr g3
          clear hfb he g1 g2 g4
          repeat' (first | ((with_reducible refine aw_seqk ?_); intro K hK hX) | ((with_reducible refine isC_reg ?_); refine aw_prune [0, 2, 3] rfl rfl ?_; with_reducible refine aw_region ?_) | ((with_reducible refine isC_draw ?_); refine aw_prune [0, 2, 3] rfl rfl ?_; refine aw_drwF [] ?_) | ((first | with_reducible refine isA_call ?_ | with_reducible refine isD_call ?_); (first | refine zA ?_ | refine zN ?_ | refine zD ?_); (first | refine c0 (hv) ?_ | refine c0 (hc) ?_)) | ((first | ((with_reducible refine isA_any ?_); refine xA ?_) | ((with_reducible refine isDk_any ?_); refine xD ?_)); (first | ((with_reducible refine e_bin ?_); (first | refine ex_i (s_arit64 rfl rfl rfl hsub) ?_)) | ((with_reducible refine e_load ?_); (first | refine ex_i (s_load1 tabOk rfl rfl rfl rfl (by first | exact her | exact hen | exact hfr)) ?_ | refine ex_i (s_load1r tabOk rfl rfl rfl rfl (by first | exact her | exact hen | exact hfr)) ?_ | refine ex_i (s_load1i tabOk rfl rfl rfl (by first | exact her | exact hen | exact hfr)) ?_)) | ((with_reducible refine e_ix ?_); (first | refine ex_i (s_ixV1 tabOk rfl rfl zcj rfl rfl rfl rfl rfl zle (by first | exact her | exact hen | exact hfr)) ?_ | refine ex_i (s_ixStr tabOk rfl rfl zcj rfl rfl (by first | exact her | exact hen | exact hfr)) ?_)))) | refine stA ?_ | refine stD ?_ | (refine hK _ _ _ _ ?_; clear hK hX K) | (refine hX _ _ _ _ _ (by simp) ?_; clear hK hX K))
          exact ⟨i + 1, by omega, by omega, weakA⟩
      · clear hall hfb
        repeat' (first | ((with_reducible refine aw_seqk ?_); intro K hK hX) | ((with_reducible refine isC_reg ?_); refine aw_prune [0, 2, 3] rfl rfl ?_; with_reducible refine aw_region ?_) | ((with_reducible refine isC_draw ?_); refine aw_prune [0, 2, 3] rfl rfl ?_; refine aw_drwF [] ?_) | refine stA ?_ | refine stD ?_ | (refine hK _ _ _ _ ?_; clear hK hX K) | (refine hX _ _ _ _ _ (by simp) ?_; clear hK hX K))
        refine retK_mk zio ztr rfl (ResL.one (ResA.tmp rfl)) zou
    · obtain ⟨q, hq, hbad, hgood⟩ := first_bad hall
      rw [decide_eq_false (fun h : bagP b => hbad (h.2 q (by omega)))]
      clear hall
      refine ac_enter tabOk (sz := 56) Try.func65 rfl (by rw [Try.ntmps65]; rfl) ?_
      repeat' (first | ((with_reducible refine aw_seqk ?_); intro K hK hX) | ((with_reducible refine isC_reg ?_); refine aw_prune [0, 2, 3] rfl rfl ?_; with_reducible refine aw_region ?_) | ((with_reducible refine isC_draw ?_); refine aw_prune [0, 2, 3] rfl rfl ?_; refine aw_drwF [] ?_) | refine stA ?_ | refine stD ?_ | (refine hK _ _ _ _ ?_; clear hK hX K) | (refine hX _ _ _ _ _ (by simp) ?_; clear hK hX K))
      refine aw_loopo [3] [] rfl rfl (fun i : Nat => [(3, .c (iv i))]) (fun i => []) (fun i => i ≤ q) (fun i => q - i) 0 (Nat.zero_le _) weakA ?_
      intro i hi K hK hX
      have hin : i < n := by omega
      obtain ⟨e, he⟩ : ∃ e, b[i]? = some e := ⟨b[i]'(by omega), List.getElem?_eq_getElem _⟩
      by_cases hlt : i < q
      · have hg := hgood i hlt e he
        clear hbad hgood
        obtain ⟨⟨g2a, g2b, g1⟩, g3, g4⟩ := hg
        have g2 : -262144 ≤ e.n ∧ e.n ≤ 262144 := ⟨g2a, g2b⟩
        have hv := rvrow_ok e.r e.r.length rfl (hfb e (List.mem_of_getElem? he))
        rw [decide_eq_true g1] at hv
        have hc := rcount_ok e.n
        rw [decide_eq_true g2] at hc
        have her := ec_row he
        have hen := ec_n he
        by_cases i0 : 0 < i
        · obtain ⟨k, hk⟩ : ∃ k, i - 1 = k := ⟨_, rfl⟩
          have hkn : k < n := by omega
          obtain ⟨f, hf⟩ : ∃ f, b[k]? = some f := ⟨b[k]'(by omega), List.getElem?_eq_getElem _⟩
          have hfr := ec_row hf
          have g5 := g4 f i0 (by rw [hk]; exact hf)
          have hz := rrcmp_ok f.r e.r f.r.length e.r.length rfl rfl (hfb f (List.mem_of_getElem? hf)) (hfb e (List.mem_of_getElem? he))
          have hsub : IntKind.i64.wrap ((i : Int) - 1) = (k : Int) := by rw [w64 (by omega) (by omega)]; omega
          obtain ⟨r, c⟩ := e
          obtain ⟨r', c'⟩ := f
          simp only at her hen hfr hz g5 hv hc g3
          generalize cmpR r' r = z at hz g5
          clear hfb he hf g1 g2 g4
          repeat' (first | ((with_reducible refine aw_seqk ?_); intro K hK hX) | ((with_reducible refine isC_reg ?_); refine aw_prune [0, 2, 3] rfl rfl ?_; with_reducible refine aw_region ?_) | ((with_reducible refine isC_draw ?_); refine aw_prune [0, 2, 3] rfl rfl ?_; refine aw_drwF [] ?_) | ((first | with_reducible refine isA_call ?_ | with_reducible refine isD_call ?_); (first | refine zA ?_ | refine zN ?_ | refine zD ?_); (first | refine c0 (hv) ?_ | refine c0 (hc) ?_ | refine c0 (hz) ?_)) | ((first | ((with_reducible refine isA_any ?_); refine xA ?_) | ((with_reducible refine isDk_any ?_); refine xD ?_)); (first | ((with_reducible refine e_bin ?_); (first | refine ex_i (s_arit64 rfl rfl rfl hsub) ?_)) | ((with_reducible refine e_load ?_); (first | refine ex_i (s_load1 tabOk rfl rfl rfl rfl (by first | exact her | exact hen | exact hfr)) ?_ | refine ex_i (s_load1r tabOk rfl rfl rfl rfl (by first | exact her | exact hen | exact hfr)) ?_ | refine ex_i (s_load1i tabOk rfl rfl rfl (by first | exact her | exact hen | exact hfr)) ?_)) | ((with_reducible refine e_ix ?_); (first | refine ex_i (s_ixV1 tabOk rfl rfl zcj rfl rfl rfl rfl rfl zle (by first | exact her | exact hen | exact hfr)) ?_ | refine ex_i (s_ixStr tabOk rfl rfl zcj rfl rfl (by first | exact her | exact hen | exact hfr)) ?_)))) | refine stA ?_ | refine stD ?_ | (refine hK _ _ _ _ ?_; clear hK hX K) | (refine hX _ _ _ _ _ (by simp) ?_; clear hK hX K))
          exact ⟨i + 1, by omega, by omega, weakA⟩
        · have hfr := her
          have hsub := True.intro
          obtain ⟨r, c⟩ := e
          simp only at her hen hv hc hfr g3
          clear hfb he g1 g2 g4
          repeat' (first | ((with_reducible refine aw_seqk ?_); intro K hK hX) | ((with_reducible refine isC_reg ?_); refine aw_prune [0, 2, 3] rfl rfl ?_; with_reducible refine aw_region ?_) | ((with_reducible refine isC_draw ?_); refine aw_prune [0, 2, 3] rfl rfl ?_; refine aw_drwF [] ?_) | ((first | with_reducible refine isA_call ?_ | with_reducible refine isD_call ?_); (first | refine zA ?_ | refine zN ?_ | refine zD ?_); (first | refine c0 (hv) ?_ | refine c0 (hc) ?_)) | ((first | ((with_reducible refine isA_any ?_); refine xA ?_) | ((with_reducible refine isDk_any ?_); refine xD ?_)); (first | ((with_reducible refine e_bin ?_); (first | refine ex_i (s_arit64 rfl rfl rfl hsub) ?_)) | ((with_reducible refine e_load ?_); (first | refine ex_i (s_load1 tabOk rfl rfl rfl rfl (by first | exact her | exact hen | exact hfr)) ?_ | refine ex_i (s_load1r tabOk rfl rfl rfl rfl (by first | exact her | exact hen | exact hfr)) ?_ | refine ex_i (s_load1i tabOk rfl rfl rfl (by first | exact her | exact hen | exact hfr)) ?_)) | ((with_reducible refine e_ix ?_); (first | refine ex_i (s_ixV1 tabOk rfl rfl zcj rfl rfl rfl rfl rfl zle (by first | exact her | exact hen | exact hfr)) ?_ | refine ex_i (s_ixStr tabOk rfl rfl zcj rfl rfl (by first | exact her | exact hen | exact hfr)) ?_)))) | refine stA ?_ | refine stD ?_ | (refine hK _ _ _ _ ?_; clear hK hX K) | (refine hX _ _ _ _ _ (by simp) ?_; clear hK hX K))
          exact ⟨i + 1, by omega, by omega, weakA⟩
      · have hiq : i = q := by omega
        have hnx : ¬ (entP e ∧ e.n ≠ 0 ∧ ∀ f, 0 < i → b[i - 1]? = some f → cmpR f.r e.r < 0) := fun h => hbad fun e' he' => by
          rw [← hiq, he] at he'
          injection he' with he'
          subst he'
          rw [← hiq]
          exact h
        clear hbad hgood
        have hv := rvrow_ok e.r e.r.length rfl (hfb e (List.mem_of_getElem? he))
        have hc := rcount_ok e.n
        have her := ec_row he
        have hen := ec_n he
        have hsub := True.intro
        by_cases g1 : rowP e.r
        · rw [decide_eq_true g1] at hv
          by_cases g2 : -262144 ≤ e.n ∧ e.n ≤ 262144
          · rw [decide_eq_true g2] at hc
            by_cases g3 : e.n = 0
            · have hfr := her
              obtain ⟨r, c⟩ := e
              simp only at her hen hv hc hfr g3
              clear hnx g1 g2 hfb he
              repeat' (first | ((with_reducible refine aw_seqk ?_); intro K hK hX) | ((with_reducible refine isC_reg ?_); refine aw_prune [0, 2, 3] rfl rfl ?_; with_reducible refine aw_region ?_) | ((with_reducible refine isC_draw ?_); refine aw_prune [0, 2, 3] rfl rfl ?_; refine aw_drwF [] ?_) | ((first | with_reducible refine isA_call ?_ | with_reducible refine isD_call ?_); (first | refine zA ?_ | refine zN ?_ | refine zD ?_); (first | refine c0 (hv) ?_ | refine c0 (hc) ?_)) | ((first | ((with_reducible refine isA_any ?_); refine xA ?_) | ((with_reducible refine isDk_any ?_); refine xD ?_)); (first | ((with_reducible refine e_bin ?_); (first | refine ex_i (s_arit64 rfl rfl rfl hsub) ?_)) | ((with_reducible refine e_load ?_); (first | refine ex_i (s_load1 tabOk rfl rfl rfl rfl (by first | exact her | exact hen | exact hfr)) ?_ | refine ex_i (s_load1r tabOk rfl rfl rfl rfl (by first | exact her | exact hen | exact hfr)) ?_ | refine ex_i (s_load1i tabOk rfl rfl rfl (by first | exact her | exact hen | exact hfr)) ?_)) | ((with_reducible refine e_ix ?_); (first | refine ex_i (s_ixV1 tabOk rfl rfl zcj rfl rfl rfl rfl rfl zle (by first | exact her | exact hen | exact hfr)) ?_ | refine ex_i (s_ixStr tabOk rfl rfl zcj rfl rfl (by first | exact her | exact hen | exact hfr)) ?_)))) | refine stA ?_ | refine stD ?_ | (refine hK _ _ _ _ ?_; clear hK hX K) | (refine hX _ _ _ _ _ (by simp) ?_; clear hK hX K))
              refine retK_mk zio ztr rfl (ResL.one (ResA.tmp rfl)) zou
            · have hex : ∃ f, 0 < i ∧ b[i - 1]? = some f ∧ ¬ cmpR f.r e.r < 0 := Classical.byContradiction fun h => hnx ⟨⟨g2.1, g2.2, g1⟩, g3, fun f i0 hf => Classical.byContradiction fun hh => h ⟨f, i0, hf, hh⟩⟩
              obtain ⟨f, i0, hf, g5⟩ := hex
              obtain ⟨k, hk⟩ : ∃ k, i - 1 = k := ⟨_, rfl⟩
              rw [hk] at hf
              have hkn : k < n := by omega
              have hfr := ec_row hf
              have hz := rrcmp_ok f.r e.r f.r.length e.r.length rfl rfl (hfb f (List.mem_of_getElem? hf)) (hfb e (List.mem_of_getElem? he))
              have hsub : IntKind.i64.wrap ((i : Int) - 1) = (k : Int) := by rw [w64 (by omega) (by omega)]; omega
              obtain ⟨r, c⟩ := e
              obtain ⟨r', c'⟩ := f
              simp only at her hen hfr hz g5 hv hc g3
              generalize cmpR r' r = z at hz g5
              clear hnx g1 g2 hfb he hf
              repeat' (first | ((with_reducible refine aw_seqk ?_); intro K hK hX) | ((with_reducible refine isC_reg ?_); refine aw_prune [0, 2, 3] rfl rfl ?_; with_reducible refine aw_region ?_) | ((with_reducible refine isC_draw ?_); refine aw_prune [0, 2, 3] rfl rfl ?_; refine aw_drwF [] ?_) | ((first | with_reducible refine isA_call ?_ | with_reducible refine isD_call ?_); (first | refine zA ?_ | refine zN ?_ | refine zD ?_); (first | refine c0 (hv) ?_ | refine c0 (hc) ?_ | refine c0 (hz) ?_)) | ((first | ((with_reducible refine isA_any ?_); refine xA ?_) | ((with_reducible refine isDk_any ?_); refine xD ?_)); (first | ((with_reducible refine e_bin ?_); (first | refine ex_i (s_arit64 rfl rfl rfl hsub) ?_)) | ((with_reducible refine e_load ?_); (first | refine ex_i (s_load1 tabOk rfl rfl rfl rfl (by first | exact her | exact hen | exact hfr)) ?_ | refine ex_i (s_load1r tabOk rfl rfl rfl rfl (by first | exact her | exact hen | exact hfr)) ?_ | refine ex_i (s_load1i tabOk rfl rfl rfl (by first | exact her | exact hen | exact hfr)) ?_)) | ((with_reducible refine e_ix ?_); (first | refine ex_i (s_ixV1 tabOk rfl rfl zcj rfl rfl rfl rfl rfl zle (by first | exact her | exact hen | exact hfr)) ?_ | refine ex_i (s_ixStr tabOk rfl rfl zcj rfl rfl (by first | exact her | exact hen | exact hfr)) ?_)))) | refine stA ?_ | refine stD ?_ | (refine hK _ _ _ _ ?_; clear hK hX K) | (refine hX _ _ _ _ _ (by simp) ?_; clear hK hX K))
              refine retK_mk zio ztr rfl (ResL.one (ResA.tmp rfl)) zou
          · rw [decide_eq_false g2] at hc
            have hfr := her
            obtain ⟨r, c⟩ := e
            simp only at her hen hv hc hfr
            clear hnx g1 g2 hfb he
            repeat' (first | ((with_reducible refine aw_seqk ?_); intro K hK hX) | ((with_reducible refine isC_reg ?_); refine aw_prune [0, 2, 3] rfl rfl ?_; with_reducible refine aw_region ?_) | ((with_reducible refine isC_draw ?_); refine aw_prune [0, 2, 3] rfl rfl ?_; refine aw_drwF [] ?_) | ((first | with_reducible refine isA_call ?_ | with_reducible refine isD_call ?_); (first | refine zA ?_ | refine zN ?_ | refine zD ?_); (first | refine c0 (hv) ?_ | refine c0 (hc) ?_)) | ((first | ((with_reducible refine isA_any ?_); refine xA ?_) | ((with_reducible refine isDk_any ?_); refine xD ?_)); (first | ((with_reducible refine e_bin ?_); (first | refine ex_i (s_arit64 rfl rfl rfl hsub) ?_)) | ((with_reducible refine e_load ?_); (first | refine ex_i (s_load1 tabOk rfl rfl rfl rfl (by first | exact her | exact hen | exact hfr)) ?_ | refine ex_i (s_load1r tabOk rfl rfl rfl rfl (by first | exact her | exact hen | exact hfr)) ?_ | refine ex_i (s_load1i tabOk rfl rfl rfl (by first | exact her | exact hen | exact hfr)) ?_)) | ((with_reducible refine e_ix ?_); (first | refine ex_i (s_ixV1 tabOk rfl rfl zcj rfl rfl rfl rfl rfl zle (by first | exact her | exact hen | exact hfr)) ?_ | refine ex_i (s_ixStr tabOk rfl rfl zcj rfl rfl (by first | exact her | exact hen | exact hfr)) ?_)))) | refine stA ?_ | refine stD ?_ | (refine hK _ _ _ _ ?_; clear hK hX K) | (refine hX _ _ _ _ _ (by simp) ?_; clear hK hX K))
            refine retK_mk zio ztr rfl (ResL.one (ResA.tmp rfl)) zou
        · rw [decide_eq_false g1] at hv
          have hfr := her
          obtain ⟨r, c⟩ := e
          simp only at her hen hv hc hfr
          clear hnx g1 hc hfb he
          repeat' (first | ((with_reducible refine aw_seqk ?_); intro K hK hX) | ((with_reducible refine isC_reg ?_); refine aw_prune [0, 2, 3] rfl rfl ?_; with_reducible refine aw_region ?_) | ((with_reducible refine isC_draw ?_); refine aw_prune [0, 2, 3] rfl rfl ?_; refine aw_drwF [] ?_) | ((first | with_reducible refine isA_call ?_ | with_reducible refine isD_call ?_); (first | refine zA ?_ | refine zN ?_ | refine zD ?_); (first | refine c0 (hv) ?_)) | ((first | ((with_reducible refine isA_any ?_); refine xA ?_) | ((with_reducible refine isDk_any ?_); refine xD ?_)); (first | ((with_reducible refine e_bin ?_); (first | refine ex_i (s_arit64 rfl rfl rfl hsub) ?_)) | ((with_reducible refine e_load ?_); (first | refine ex_i (s_load1 tabOk rfl rfl rfl rfl (by first | exact her | exact hen | exact hfr)) ?_ | refine ex_i (s_load1r tabOk rfl rfl rfl rfl (by first | exact her | exact hen | exact hfr)) ?_ | refine ex_i (s_load1i tabOk rfl rfl rfl (by first | exact her | exact hen | exact hfr)) ?_)) | ((with_reducible refine e_ix ?_); (first | refine ex_i (s_ixV1 tabOk rfl rfl zcj rfl rfl rfl rfl rfl zle (by first | exact her | exact hen | exact hfr)) ?_ | refine ex_i (s_ixStr tabOk rfl rfl zcj rfl rfl (by first | exact her | exact hen | exact hfr)) ?_)))) | refine stA ?_ | refine stD ?_ | (refine hK _ _ _ _ ?_; clear hK hX K) | (refine hX _ _ _ _ _ (by simp) ?_; clear hK hX K))
          refine retK_mk zio ztr rfl (ResL.one (ResA.tmp rfl)) zou
  · rw [decide_eq_false (fun h : bagP b => hs (by have := h.1; omega))]
    refine ac_enter tabOk (sz := 56) Try.func65 rfl (by rw [Try.ntmps65]; rfl) ?_
    repeat' (first | ((with_reducible refine aw_seqk ?_); intro K hK hX) | ((with_reducible refine isC_reg ?_); refine aw_prune [0, 2, 3] rfl rfl ?_; with_reducible refine aw_region ?_) | ((with_reducible refine isC_draw ?_); refine aw_prune [0, 2, 3] rfl rfl ?_; refine aw_drwF [] ?_) | refine stA ?_ | refine stD ?_ | (refine hK _ _ _ _ ?_; clear hK hX K) | (refine hX _ _ _ _ _ (by simp) ?_; clear hK hX K))
    refine retK_mk zio ztr rfl (ResL.one (ResA.tmp rfl)) zou
open Classical in
set_option maxHeartbeats 4000000 in
theorem rpos_ok (b : List En) (n : Nat) (hn : b.length = n) (hm : n ≤ maxLen) (hfb : fitB b) : AC Try.prog 113 [.sl 2 n (ec b)] (.c (bv (decide (posP b)))) [] 0 := by
  have h1 := rbag_ok b n hn hm hfb
  have hml : n ≤ 9223372036854775807 := hm
  clear hm
  have hbl : (ec b).length = n * 2 := by rw [ec_length, hn]
  by_cases hall : ∀ i, i < n → ∀ e, b[i]? = some e → 0 ≤ e.n
  · have e1 : ∀ i j, @decide (posP b) i = @decide (bagP b) j := fun i j => decide_eq_decide.2 ⟨fun h => h.1, fun h => ⟨h, fun e he => by
      obtain ⟨i, hi⟩ := List.mem_iff_getElem?.1 he
      exact hall i (by rw [← hn]; exact (List.getElem?_eq_some_iff.1 hi).1) e hi⟩⟩
    rw [e1 _ (Classical.propDecidable _)]
    generalize @decide (bagP b) _ = t at h1 ⊢
    clear e1
    refine ac_enter tabOk (sz := 18) Try.func113 rfl (by rw [Try.ntmps113]; rfl) ?_
    repeat' (first | ((with_reducible refine aw_seqk ?_); intro K hK hX) | ((with_reducible refine isC_reg ?_); refine aw_prune [0, 2, 3] rfl rfl ?_; with_reducible refine aw_region ?_) | refine stA ?_ | (refine hK _ _ _ _ ?_; clear hK hX K) | (refine hX _ _ _ _ _ (by simp) ?_; clear hK hX K))
    refine aw_loopo [3] [] rfl rfl (fun i : Nat => [(3, .c (iv i))]) (fun i => []) (fun i => i ≤ n) (fun i => n - i) 0 (Nat.zero_le _) weakA ?_
    intro i hi K hK hX
    by_cases hlt : i < n
    · obtain ⟨e, he⟩ : ∃ e, b[i]? = some e := ⟨b[i]'(by omega), List.getElem?_eq_getElem _⟩
      have hp := hall i hlt e he
      have hen := ec_n he
      obtain ⟨r, c⟩ := e
      simp only at hp hen
      clear hall h1 he hfb
      repeat' (first | ((with_reducible refine aw_seqk ?_); intro K hK hX) | ((with_reducible refine isC_reg ?_); refine aw_prune [0, 2, 3] rfl rfl ?_; with_reducible refine aw_region ?_) | (((with_reducible refine isA_any ?_); refine xA ?_); (first | ((with_reducible refine e_load ?_); (first | refine ex_i (s_load1 tabOk rfl rfl rfl rfl (by exact hen)) ?_ | refine ex_i (s_load1r tabOk rfl rfl rfl rfl (by exact hen)) ?_ | refine ex_i (s_load1i tabOk rfl rfl rfl (by exact hen)) ?_)) | ((with_reducible refine e_ix ?_); (first | refine ex_i (s_ixV1 tabOk rfl rfl zcj rfl rfl rfl rfl rfl zle (by exact hen)) ?_ | refine ex_i (s_ixStr tabOk rfl rfl zcj rfl rfl (by exact hen)) ?_)))) | refine stA ?_ | (refine hK _ _ _ _ ?_; clear hK hX K) | (refine hX _ _ _ _ _ (by simp) ?_; clear hK hX K))
      exact ⟨i + 1, by omega, by omega, weakA⟩
    · clear hall hfb
      repeat' (first | ((with_reducible refine aw_seqk ?_); intro K hK hX) | ((with_reducible refine isC_reg ?_); refine aw_prune [0, 2, 3] rfl rfl ?_; with_reducible refine aw_region ?_) | ((with_reducible refine isA_call ?_); (first | refine zA ?_ | refine zN ?_); (first | refine c0 (h1) ?_)) | refine stA ?_ | (refine hK _ _ _ _ ?_; clear hK hX K) | (refine hX _ _ _ _ _ (by simp) ?_; clear hK hX K))
      refine retK_mk zio ztr rfl (ResL.one (ResA.tmp rfl)) zou
  · obtain ⟨q, hq, hbad, hgood⟩ := first_bad hall
    rw [decide_eq_false (fun h : posP b => hbad fun e he => h.2 e (List.mem_of_getElem? he))]
    clear hall h1
    refine ac_enter tabOk (sz := 18) Try.func113 rfl (by rw [Try.ntmps113]; rfl) ?_
    repeat' (first | ((with_reducible refine aw_seqk ?_); intro K hK hX) | ((with_reducible refine isC_reg ?_); refine aw_prune [0, 2, 3] rfl rfl ?_; with_reducible refine aw_region ?_) | refine stA ?_ | (refine hK _ _ _ _ ?_; clear hK hX K) | (refine hX _ _ _ _ _ (by simp) ?_; clear hK hX K))
    refine aw_loopo [3] [] rfl rfl (fun i : Nat => [(3, .c (iv i))]) (fun i => []) (fun i => i ≤ q) (fun i => q - i) 0 (Nat.zero_le _) weakA ?_
    intro i hi K hK hX
    have hin : i < n := by omega
    obtain ⟨e, he⟩ : ∃ e, b[i]? = some e := ⟨b[i]'(by omega), List.getElem?_eq_getElem _⟩
    have hen := ec_n he
    by_cases hlt : i < q
    · have hp := hgood i hlt e he
      obtain ⟨r, c⟩ := e
      simp only at hp hen
      clear hbad hgood he hfb
      repeat' (first | ((with_reducible refine aw_seqk ?_); intro K hK hX) | ((with_reducible refine isC_reg ?_); refine aw_prune [0, 2, 3] rfl rfl ?_; with_reducible refine aw_region ?_) | (((with_reducible refine isA_any ?_); refine xA ?_); (first | ((with_reducible refine e_load ?_); (first | refine ex_i (s_load1 tabOk rfl rfl rfl rfl (by exact hen)) ?_ | refine ex_i (s_load1r tabOk rfl rfl rfl rfl (by exact hen)) ?_ | refine ex_i (s_load1i tabOk rfl rfl rfl (by exact hen)) ?_)) | ((with_reducible refine e_ix ?_); (first | refine ex_i (s_ixV1 tabOk rfl rfl zcj rfl rfl rfl rfl rfl zle (by exact hen)) ?_ | refine ex_i (s_ixStr tabOk rfl rfl zcj rfl rfl (by exact hen)) ?_)))) | refine stA ?_ | (refine hK _ _ _ _ ?_; clear hK hX K) | (refine hX _ _ _ _ _ (by simp) ?_; clear hK hX K))
      exact ⟨i + 1, by omega, by omega, weakA⟩
    · have hiq : i = q := by omega
      have hp : e.n < 0 := by
        have : ¬ 0 ≤ e.n := fun h => hbad fun e' he' => by
          rw [← hiq, he] at he'; injection he' with he'; subst he'; exact h
        omega
      obtain ⟨r, c⟩ := e
      simp only at hp hen
      clear hbad hgood he hfb
      repeat' (first | ((with_reducible refine aw_seqk ?_); intro K hK hX) | ((with_reducible refine isC_reg ?_); refine aw_prune [0, 2, 3] rfl rfl ?_; with_reducible refine aw_region ?_) | (((with_reducible refine isA_any ?_); refine xA ?_); (first | ((with_reducible refine e_load ?_); (first | refine ex_i (s_load1 tabOk rfl rfl rfl rfl (by exact hen)) ?_ | refine ex_i (s_load1r tabOk rfl rfl rfl rfl (by exact hen)) ?_ | refine ex_i (s_load1i tabOk rfl rfl rfl (by exact hen)) ?_)) | ((with_reducible refine e_ix ?_); (first | refine ex_i (s_ixV1 tabOk rfl rfl zcj rfl rfl rfl rfl rfl zle (by exact hen)) ?_ | refine ex_i (s_ixStr tabOk rfl rfl zcj rfl rfl (by exact hen)) ?_)))) | refine stA ?_ | (refine hK _ _ _ _ ?_; clear hK hX K) | (refine hX _ _ _ _ _ (by simp) ?_; clear hK hX K))
      refine retK_mk zio ztr rfl (ResL.one (ResA.tmp rfl)) zou
end Go.Proofs.Ytccnhpaldmjkbaa
