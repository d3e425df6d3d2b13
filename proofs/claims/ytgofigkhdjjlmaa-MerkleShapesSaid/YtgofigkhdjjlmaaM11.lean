/-
  Joined texts: E16. Lemmas; no statement of a law.
-/
import Derived.Test.YtgofigkhdjjlmaaM1
import Derived.Test.YtgofigkhdjjlmaaM2
import Derived.Test.YtgofigkhdjjlmaaM3
import Derived.Test.YtgofigkhdjjlmaaM4
import Derived.Test.YtgofigkhdjjlmaaM5
import Derived.Test.YtgofigkhdjjlmaaM6
import Derived.Test.YtgofigkhdjjlmaaM7
import Derived.Test.YtgofigkhdjjlmaaM10
/-
  The law MerkleShapes (walk).
-/
set_option linter.unusedVariables false
set_option linter.unusedSimpArgs false
namespace Go.Proofs.Ytgofigkhdjjlmaa
open Go Go.RowKit Go.Av
set_option maxRecDepth 100000
theorem getD_app {S T : List (List UInt8)} {u : Nat} (h : u < S.length) : (S ++ T).getD u [] = S.getD u [] := by
  simp [List.getD, List.getElem?_append, h]
/-- Siblings behind those that are used change nothing of the way up. -/
theorem apl_more : ∀ (q : Nat) {n : Nat} {S T : List (List UInt8)} {i u : Nat} {x y : List UInt8} {v : Nat}, n ≤ q → apl S n i u x = some (y, v) → apl (S ++ T) n i u x = some (y, v) := by
  intro q
  induction q with
  | zero =>
    intro n S T i u x y v hn h
    rw [apl_end (by omega)] at h ⊢
    exact h
  | succ q ih =>
    intro n S T i u x y v hn h
    by_cases h1 : n ≤ 1
    · rw [apl_end h1] at h ⊢; exact h
    · by_cases h2 : i % 2 = 1 ∨ i + 1 < n
      · by_cases h3 : u < S.length
        · have h3' : u < (S ++ T).length := by rw [List.length_append]; omega
          by_cases h4 : i % 2 = 1
          · rw [apl_odd h1 h4 h3] at h
            rw [apl_odd h1 h4 h3', getD_app h3]
            exact ih (by omega) h
          · rw [apl_even h1 (by omega) (by omega) h3] at h
            rw [apl_even h1 (by omega) (by omega) h3', getD_app h3]
            exact ih (by omega) h
        · rw [apl_out h1 h2 h3] at h; cases h
      · rw [apl_lone h1 (by omega) (by omega)] at h ⊢
        exact ih (by omega) h
/-- Too few siblings. -/
theorem apl_less : ∀ (q : Nat) {n : Nat} {S T : List (List UInt8)} {i u : Nat} {x y : List UInt8} {v : Nat}, n ≤ q → apl (S ++ T) n i u x = some (y, v) → u ≤ S.length → S.length < v → apl S n i u x = none := by
  intro q
  induction q with
  | zero =>
    intro n S T i u x y v hn h hu hv
    rw [apl_end (by omega)] at h
    injection h with h
    injection h with _ h
    omega
  | succ q ih =>
    intro n S T i u x y v hn h hu hv
    by_cases h1 : n ≤ 1
    · rw [apl_end h1] at h
      injection h with h
      injection h with _ h
      omega
    · by_cases h2 : i % 2 = 1 ∨ i + 1 < n
      · by_cases h3 : u < S.length
        · have h3' : u < (S ++ T).length := by rw [List.length_append]; omega
          by_cases h4 : i % 2 = 1
          · rw [apl_odd h1 h4 h3', getD_app h3] at h
            rw [apl_odd h1 h4 h3]
            exact ih (by omega) h (by omega) hv
          · rw [apl_even h1 (by omega) (by omega) h3', getD_app h3] at h
            rw [apl_even h1 (by omega) (by omega) h3]
            exact ih (by omega) h (by omega) hv
        · exact apl_out h1 h2 h3
      · rw [apl_lone h1 (by omega) (by omega)] at h ⊢
        exact ih (by omega) h hu hv
theorem verP_bad {root leaf : List UInt8} {i c : Int} {S : List (List UInt8)} (h : c < 1 ∨ 4096 < c ∨ i < 0 ∨ c ≤ i) : verP root leaf i c S = false := by
  unfold verP
  rw [appP_bad h]
  rfl
theorem verP_more {root leaf d : List UInt8} {L : List (List UInt8)} {I n : Nat} (hn : L.length = n) (hI : I < n) (hnn : n ≤ 4096) : verP root leaf (I : Int) (n : Int) (sibD (L.map nodeD) I ++ [d]) = false := by
  have hl : (L.map nodeD).length = n := by simp [hn]
  have := apl_sib n (L := L.map nodeD) (i := I) [] (nodeD leaf) (by omega) (by omega)
  simp only [List.nil_append, List.length_nil, hl] at this
  have h2 := apl_more n (T := [d]) (Nat.le_refl _) this
  unfold verP
  rw [appP_good (by omega), h2]
  have hfin : ∀ (t : List UInt8) (A : List (List UInt8)), finP n (A ++ [d]) (some (t, A.length)) = (zero32, 1) := fun t A => by
    show (if A.length = (A ++ [d]).length then _ else _) = _
    rw [if_neg (by simp)]
  rw [hfin]
  rfl
theorem verP_less {root leaf : List UInt8} {L : List (List UInt8)} {I n m : Nat} (hn : L.length = n) (hI : I < n) (hnn : n ≤ 4096) (hm : (sibD (L.map nodeD) I).length = m) (hm0 : 0 < m) : verP root leaf (I : Int) (n : Int) ((sibD (L.map nodeD) I).take (m - 1)) = false := by
  have hl : (L.map nodeD).length = n := by simp [hn]
  have := apl_sib n (L := L.map nodeD) (i := I) [] (nodeD leaf) (by omega) (by omega)
  simp only [List.nil_append, List.length_nil, hl] at this
  rw [← List.take_append_drop (m - 1) (sibD (L.map nodeD) I)] at this
  have h2 := apl_less n (Nat.le_refl _) this (by omega) (by simp [hm]; omega)
  unfold verP
  rw [appP_good (by omega), h2]
  rfl
theorem take_dc' {S : List (List UInt8)} {m j : Nat} (hS : all32 S) (hm : S.length = m) (hj : j ≤ m) : (dc S).take (j * 32) = dc (S.take j) := by
  unfold dc
  rw [u8c_take]
  congr 1
  have : (S.take j).flatten.length = j * 32 := by
    rw [flat_len (fun d hd => hS d (List.mem_of_mem_take hd)), List.length_take]
    omega
  conv => lhs; rw [← List.take_append_drop j S, List.flatten_append]
  rw [List.take_append_of_le_length (by omega), List.take_of_length_le (by omega)]
attribute [local irreducible] Still Adds AWL AW Drw DrwE EStep AC AWR Weak Frz Src RetK Out InK ItK AsK RdK permute
attribute [local simp] u8c_take u8c_drop u8c_app
set_option maxHeartbeats 8000000 in
theorem law_mshapes (L : List (List UInt8)) (k : Nat) (i : Int) (x : List UInt8) (hL : all32 L) (hk : L.length = k) (hx : x.length = 32) : AC Try.prog 22 [.sl 32 k (dc L), iv i, .agg (u8c x)] (.c (.v (.bool true))) [] 0 := by
  have hux : (u8c x).length = 32 := by rw [u8c_length, hx]
  by_cases b1 : (30 : Int) < (k : Int)
  · refine ac_enter tabOk (sz := 136) Try.func22 rfl (by rw [Try.ntmps22]; rfl) ?_
    repeat' (first
    | ((with_reducible refine aw_seqk ?_); intro K hK hX)
    | ((with_reducible refine isC_reg ?_); refine aw_prune [0, 1, 2, 5, 6, 7, 8, 9, 10, 11, 12, 13, 14, 15, 16] rfl rfl ?_; with_reducible refine aw_region ?_)
    | ((with_reducible refine isC_draw ?_); refine aw_prune [0, 1, 2, 5, 6, 7, 8, 9, 10, 11, 12, 13, 14, 15, 16] rfl rfl ?_; refine aw_drwF [] ?_)
    | ((first | with_reducible refine isA_call ?_ | with_reducible refine isD_call ?_); (first | refine zA ?_ | refine zN ?_ | refine zD ?_); (first | refine c0 (awake38_ok) ?_))
    | refine stA ?_
    | refine stD ?_
    | (refine hK _ _ _ _ ?_; clear hK hX K)
    | (refine hX _ _ _ _ _ (by simp) ?_; clear hK hX K))
    refine retK_mk (by first | exact .inl rfl | exact .inr rfl) (by exact trivial) rfl (ResL.one (ResA.tmp rfl)) (by first | exact out_c (by first | exact frz_c cv_rfl | exact frz_c cv_nil | exact frz_ownW rfl rfl (by first | rfl | with_reducible assumption | (simp <;> fail) | omega | (simp; omega) | assumption) | exact frz_eq (frz_c cv_rfl) (by first | rfl | (simp <;> fail) | fail)) | exact out_own rfl rfl)
  · by_cases b2 : (k : Int) = 0
    · refine ac_enter tabOk (sz := 136) Try.func22 rfl (by rw [Try.ntmps22]; rfl) ?_
      repeat' (first
    | ((with_reducible refine aw_seqk ?_); intro K hK hX)
    | ((with_reducible refine isC_reg ?_); refine aw_prune [0, 1, 2, 5, 6, 7, 8, 9, 10, 11, 12, 13, 14, 15, 16] rfl rfl ?_; with_reducible refine aw_region ?_)
    | ((with_reducible refine isC_draw ?_); refine aw_prune [0, 1, 2, 5, 6, 7, 8, 9, 10, 11, 12, 13, 14, 15, 16] rfl rfl ?_; refine aw_drwF [] ?_)
    | ((first | with_reducible refine isA_call ?_ | with_reducible refine isD_call ?_); (first | refine zA ?_ | refine zN ?_ | refine zD ?_); (first | refine c0 (awake38_ok) ?_))
    | refine stA ?_
    | refine stD ?_
    | (refine hK _ _ _ _ ?_; clear hK hX K)
    | (refine hX _ _ _ _ _ (by simp) ?_; clear hK hX K))
      refine retK_mk (by first | exact .inl rfl | exact .inr rfl) (by exact trivial) rfl (ResL.one (ResA.tmp rfl)) (by first | exact out_c (by first | exact frz_c cv_rfl | exact frz_c cv_nil | exact frz_ownW rfl rfl (by first | rfl | with_reducible assumption | (simp <;> fail) | omega | (simp; omega) | assumption) | exact frz_eq (frz_c cv_rfl) (by first | rfl | (simp <;> fail) | fail)) | exact out_own rfl rfl)
    · have hdl := dc_length hL hk
      have hJ : (BitVec.ofInt 64 i).toNat % k < k := Nat.mod_lt _ (by omega)
      obtain ⟨J, hJe⟩ : ∃ J, (BitVec.ofInt 64 i).toNat % k = J := ⟨_, rfl⟩
      rw [hJe] at hJ
      have hsf := sib_facts (L := L) (I := J) (n := k) hk hJ
      obtain ⟨m, hm⟩ : ∃ m, (sibD (L.map nodeD) J).length = m := ⟨_, rfl⟩
      have h1 := root38_ok L k hL hk (by omega)
      have h2 := prove_ok L J k m hL hk (by omega) hJ hm
      have hrl := root_length L
      have hru : (u8c (rootD L)).length = 32 := by rw [u8c_length, hrl]
      have hvp := verP_sib (L := L) (I := J) (n := k) hk hJ (by omega)
      have hvm := verP_more (root := rootD L) (leaf := L.getD J []) (d := x) (L := L) (I := J) (n := k) hk hJ (by omega)
      have hvl := fun h => verP_less (root := rootD L) (leaf := L.getD J []) (L := L) (I := J) (n := k) (m := m) hk hJ (by omega) hm h
      have hd := getD32 hL J (by omega)
      have hda := dig_at hL J (by omega)
      rw [hm] at hsf
      generalize rootD L = R at h1 hrl hru hvp hvm hvl
      generalize L.getD J [] = d at hd hda hvp hvm hvl
      have hud : (u8c d).length = 32 := by rw [u8c_length, hd]
      generalize sibD (L.map nodeD) J = S at h2 hm hvp hvm hvl hsf
      have hSa := hsf.1
      have hdS := dc_length hSa hm
      have hap : dc S ++ [u8c x].flatten = dc (S ++ [x]) := by simp [dc, u8c_app]
      have hSx : all32 (S ++ [x]) := fun y hy => by
        rcases List.mem_append.1 hy with hy | hy
        · exact hSa y hy
        · rw [List.mem_singleton.1 hy]; exact hx
      have g1 := verify_ok R d J k S m hrl hd hSa hm (by omega)
      rw [hvp] at g1
      have g2 := verify_ok R d J k (S ++ [x]) (m + 1) hrl hd hSx (by simp [hm]) (by omega)
      rw [hvm] at g2
      have g3 := verify_ok R d k k S m hrl hd hSa hm (by omega)
      rw [verP_bad (by omega)] at g3
      have g4 := verify_ok R d J 4097 S m hrl hd hSa hm (by omega)
      rw [verP_bad (by omega)] at g4
      have hdx : (dc (S ++ [x])).length = (m + 1) * 32 := dc_length hSx (by simp [hm])
      rw [← hap] at g2 hdx
      have hdx' : (dc S ++ [u8c x].flatten).length = (0 + m + 1) * 32 := by rw [hdx, Nat.zero_add]
      by_cases h0 : 0 < m
      · have h0' : (0 : Int) < (m : Int) := by omega
        have g5 := verify_ok R d J k (S.take (m - 1)) (m - 1) hrl hd (fun y hy => hSa y (List.mem_of_mem_take hy)) (by simp [hm]) (by omega)
        rw [hvl h0, ← take_dc' hSa hm (by omega)] at g5
        refine ac_enter tabOk (sz := 136) Try.func22 rfl (by rw [Try.ntmps22]; rfl) ?_
        repeat' (first
    | ((with_reducible refine aw_seqk ?_); intro K hK hX)
    | ((with_reducible refine isC_reg ?_); refine aw_prune [0, 1, 2, 5, 6, 7, 8, 9, 10, 11, 12, 13, 14, 15, 16] rfl rfl ?_; with_reducible refine aw_region ?_)
    | ((with_reducible refine isC_draw ?_); refine aw_prune [0, 1, 2, 5, 6, 7, 8, 9, 10, 11, 12, 13, 14, 15, 16] rfl rfl ?_; refine aw_drwE [] ?_)
    | ((first | with_reducible refine isA_call ?_ | with_reducible refine isE_call ?_); (first | refine wA ?_ | refine wN ?_ | refine wE ?_); (first | refine cF (g2) ?_ (hfz := (frzl_cons (frz_c cv_rfl) (frzl_cons (frz_c cv_rfl) (frzl_cons (frz_agg rfl (frzl_cons (frz_c cv_rfl) (frzl_cons (frz_c cv_rfl) (frzl_cons (frz_cv (frz_ownW rfl rfl hdx') (cv_sl (by omega) rfl)) frzl_nil)))) frzl_nil))))))
    | ((first | with_reducible refine isA_call ?_ | with_reducible refine isE_call ?_); (first | refine zA ?_ | refine zN ?_ | refine zE ?_); (first | refine c0 (h1) ?_ | refine c0 (h2) ?_ | refine c0 (g1) ?_ | refine c0 (g3) ?_ | refine c0 (g4) ?_ | refine c0 (g5) ?_ | refine c0 (awake38_ok) ?_))
    | ((first | ((with_reducible refine isA_any ?_); refine xA ?_) | ((with_reducible refine isEk_any ?_); refine xE ?_)); (first | ((with_reducible refine e_conv ?_); (first | refine ex_i (s_convInt tabOk rfl rfl rfl rfl (show IntKind.u64.wrap (k : Int) = (k : Int) from wu64 (by omega) (by omega))) ?_)) | ((with_reducible refine e_bin ?_); (first | refine ex_i (s_remUe (by omega) hJe rfl rfl rfl) ?_)) | ((with_reducible refine e_load ?_); (first | refine ex_i (s_loadAr tabOk rfl rfl rfl rfl (by first | exact hda | exact whole0 (by first | rfl | omega) | rfl) (by first | rfl | with_reducible assumption | (simp <;> fail) | omega | (simp; omega) | assumption)) ?_ | refine ex_i (s_loadAi tabOk rfl rfl rfl (by first | exact hda | exact whole0 (by first | rfl | omega) | rfl) (by first | rfl | with_reducible assumption | (simp <;> fail) | omega | (simp; omega) | assumption)) ?_)) | ((with_reducible refine e_slice ?_); (first | refine ex_i (s_slArri tabOk rfl rfl rfl rfl (by first | exact Bd.no | exact Bd.yes rfl (by first | with_reducible exact cast_self _ | with_reducible exact cast_lit _ | exact nt (by omega) | rfl)) (by first | exact Bd.no | exact Bd.yes rfl (by first | with_reducible exact cast_self _ | with_reducible exact cast_lit _ | exact nt (by omega) | rfl)) (by first | exact Nat.le_of_ble_eq_true rfl | omega | (simp; omega)) (by first | exact Nat.le_of_ble_eq_true rfl | omega | (simp; omega)) (by decide) (by first | exact hda | exact whole0 (by first | rfl | omega) | rfl) (by first | rfl | with_reducible assumption | (simp <;> fail) | omega | (simp; omega) | assumption)) ?_))))
    | ((with_reducible refine isA_store ?_); refine awl_storeA tabOk g_none rfl rfl rfl (by first | exact Parts.mixed _ | exact Parts.closed _) (by rfl) (by rfl) rfl (Nat.le_of_ble_eq_true rfl) (by rfl) ?_)
    | ((with_reducible refine isE_store ?_); refine d_storeA tabOk g_none rfl rfl rfl rfl rfl (by first | exact Parts.mixed _ | exact Parts.closed _) (by rfl) (by rfl) rfl (Nat.le_of_ble_eq_true rfl) (by rfl) rfl ?_)
    | refine stA ?_
    | refine stE ?_
    | (refine hK _ _ _ _ ?_; clear hK hX K)
    | (refine hX _ _ _ _ _ (by simp) ?_; clear hK hX K))
        refine retK_mk (by first | exact .inl rfl | exact .inr rfl) (by exact trivial) rfl (ResL.one (ResA.tmp rfl)) (by first | exact out_c (by first | exact frz_c cv_rfl | exact frz_c cv_nil | exact frz_ownW rfl rfl (by first | rfl | with_reducible assumption | (simp <;> fail) | omega | (simp; omega) | assumption) | exact frz_eq (frz_c cv_rfl) (by first | rfl | (simp <;> fail) | fail)) | exact out_own rfl rfl)
      · have h0' : ¬ (0 : Int) < (m : Int) := by omega
        refine ac_enter tabOk (sz := 136) Try.func22 rfl (by rw [Try.ntmps22]; rfl) ?_
        repeat' (first
    | ((with_reducible refine aw_seqk ?_); intro K hK hX)
    | ((with_reducible refine isC_reg ?_); refine aw_prune [0, 1, 2, 5, 6, 7, 8, 9, 10, 11, 12, 13, 14, 15, 16] rfl rfl ?_; with_reducible refine aw_region ?_)
    | ((with_reducible refine isC_draw ?_); refine aw_prune [0, 1, 2, 5, 6, 7, 8, 9, 10, 11, 12, 13, 14, 15, 16] rfl rfl ?_; refine aw_drwE [] ?_)
    | ((first | with_reducible refine isA_call ?_ | with_reducible refine isE_call ?_); (first | refine wA ?_ | refine wN ?_ | refine wE ?_); (first | refine cF (g2) ?_ (hfz := (frzl_cons (frz_c cv_rfl) (frzl_cons (frz_c cv_rfl) (frzl_cons (frz_agg rfl (frzl_cons (frz_c cv_rfl) (frzl_cons (frz_c cv_rfl) (frzl_cons (frz_cv (frz_ownW rfl rfl hdx') (cv_sl (by omega) rfl)) frzl_nil)))) frzl_nil))))))
    | ((first | with_reducible refine isA_call ?_ | with_reducible refine isE_call ?_); (first | refine zA ?_ | refine zN ?_ | refine zE ?_); (first | refine c0 (h1) ?_ | refine c0 (h2) ?_ | refine c0 (g1) ?_ | refine c0 (g3) ?_ | refine c0 (g4) ?_ | refine c0 (awake38_ok) ?_))
    | ((first | ((with_reducible refine isA_any ?_); refine xA ?_) | ((with_reducible refine isEk_any ?_); refine xE ?_)); (first | ((with_reducible refine e_conv ?_); (first | refine ex_i (s_convInt tabOk rfl rfl rfl rfl (show IntKind.u64.wrap (k : Int) = (k : Int) from wu64 (by omega) (by omega))) ?_)) | ((with_reducible refine e_bin ?_); (first | refine ex_i (s_remUe (by omega) hJe rfl rfl rfl) ?_)) | ((with_reducible refine e_load ?_); (first | refine ex_i (s_loadAr tabOk rfl rfl rfl rfl (by first | exact hda | exact whole0 (by first | rfl | omega) | rfl) (by first | rfl | with_reducible assumption | (simp <;> fail) | omega | (simp; omega) | assumption)) ?_ | refine ex_i (s_loadAi tabOk rfl rfl rfl (by first | exact hda | exact whole0 (by first | rfl | omega) | rfl) (by first | rfl | with_reducible assumption | (simp <;> fail) | omega | (simp; omega) | assumption)) ?_)) | ((with_reducible refine e_slice ?_); (first | refine ex_i (s_slArri tabOk rfl rfl rfl rfl (by first | exact Bd.no | exact Bd.yes rfl (by first | with_reducible exact cast_self _ | with_reducible exact cast_lit _ | exact nt (by omega) | rfl)) (by first | exact Bd.no | exact Bd.yes rfl (by first | with_reducible exact cast_self _ | with_reducible exact cast_lit _ | exact nt (by omega) | rfl)) (by first | exact Nat.le_of_ble_eq_true rfl | omega | (simp; omega)) (by first | exact Nat.le_of_ble_eq_true rfl | omega | (simp; omega)) (by decide) (by first | exact hda | exact whole0 (by first | rfl | omega) | rfl) (by first | rfl | with_reducible assumption | (simp <;> fail) | omega | (simp; omega) | assumption)) ?_))))
    | ((with_reducible refine isA_store ?_); refine awl_storeA tabOk g_none rfl rfl rfl (by first | exact Parts.mixed _ | exact Parts.closed _) (by rfl) (by rfl) rfl (Nat.le_of_ble_eq_true rfl) (by rfl) ?_)
    | ((with_reducible refine isE_store ?_); refine d_storeA tabOk g_none rfl rfl rfl rfl rfl (by first | exact Parts.mixed _ | exact Parts.closed _) (by rfl) (by rfl) rfl (Nat.le_of_ble_eq_true rfl) (by rfl) rfl ?_)
    | refine stA ?_
    | refine stE ?_
    | (refine hK _ _ _ _ ?_; clear hK hX K)
    | (refine hX _ _ _ _ _ (by simp) ?_; clear hK hX K))
        refine retK_mk (by first | exact .inl rfl | exact .inr rfl) (by exact trivial) rfl (ResL.one (ResA.tmp rfl)) (by first | exact out_c (by first | exact frz_c cv_rfl | exact frz_c cv_nil | exact frz_ownW rfl rfl (by first | rfl | with_reducible assumption | (simp <;> fail) | omega | (simp; omega) | assumption) | exact frz_eq (frz_c cv_rfl) (by first | rfl | (simp <;> fail) | fail)) | exact out_own rfl rfl)
end Go.Proofs.Ytgofigkhdjjlmaa
