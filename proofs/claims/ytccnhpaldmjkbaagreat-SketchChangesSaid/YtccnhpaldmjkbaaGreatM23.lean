/-
  Joined texts: Y4 Y5. Lemmas; no statement of a law.
-/
import Derived.Test.YtccnhpaldmjkbaaGreatM20
import Derived.Test.YtccnhpaldmjkbaaGreatM22
set_option linter.unusedSimpArgs false
set_option linter.unusedVariables false
/-
  Remove and Merge (walk), as the reference has them.
-/
namespace Go.Proofs.YtccnhpaldmjkbaaGreat
open Go Go.RowKit Go.Av
set_option maxRecDepth 100000
theorem cnt_zero {w : Nat} (v : Vl) (hw : 0 < w) (i : Nat) : ∀ j, j ≤ i → cnt w v (placeV w v i) j = 0
  | 0, _ => rfl
  | j + 1, h => by
    rw [cnt, cnt_zero v hw i j (by omega), if_neg]
    have h1 := Nat.mod_lt (hashV v (UInt8.ofNat j)).toNat hw
    have h2 : (j + 1) * w ≤ i * w := Nat.mul_le_mul_right _ (by omega)
    rw [Nat.add_mul] at h2
    unfold placeV
    omega
theorem sub_keep {w d : Nat} (v : Vl) (c : Int) (l : List Int) (hw : 0 < w) (hl : l.length = w * d) {j : Nat} (hj : j < d) : (addN 0 w v (0 - c) l j).getD (placeV w v j) 0 = l.getD (placeV w v j) 0 := by
  rw [addN_getD w v (0 - c) l (by rw [hl]; exact placeV_lt v hw hj) j, cnt_zero v hw j j (Nat.le_refl _)]
  simp
theorem leastN_le {l : List Int} {w : Nat} {v : Vl} : ∀ {d i : Nat}, i < d → leastN l w v d ≤ l.getD (placeV w v i) 0
  | d + 1, i, h => by
    rw [leastN]
    by_cases e : i = d
    · subst e; split <;> omega
    · have := leastN_le (l := l) (w := w) (v := v) (d := d) (i := i) (by omega)
      split <;> omega
attribute [local irreducible] Still Adds AWL AW Drw DrwE EStep AC AWR Weak Frz Src RetK Out InK ItK AsK RdK RetT OutT ACT ACS RetS ACP RetP
theorem rrem_bad (s : Sk) (X : CV) (v : Vl) (c : Int) (h1 : AC Tryz.prog 131 [.agg s.c, X, .agg v.c, iv c] (.c (bv true)) [] 0) : AC Tryz.prog 71 [.agg s.c, X, .agg v.c, iv c] (.tup [.c (.sl 1 0 (intc .i64 [])), .c (iv 1)]) [] 0 := by
  obtain ⟨nm, sr, col, kd, w, d⟩ := s
  obtain ⟨a, m, t⟩ := v
  simp only [Sk.c, Vl.c] at *
  refine ac_enter tabOk (sz := 61) Tryz.func71 rfl (by rw [Tryz.ntmps71]; rfl) ?_
  repeat' (first | ((with_reducible refine aw_seqk ?_); intro K hK hX) | ((with_reducible refine isC_reg ?_); refine aw_prune [0, 1, 2, 3, 4, 6, 8, 9, 10, 11, 12] rfl rfl ?_; with_reducible refine aw_region ?_) | ((with_reducible refine isA_call ?_); (first | refine zA ?_ | refine zN ?_); (first | refine c0 (h1) ?_)) | refine stA ?_ | (refine hK _ _ _ _ ?_; clear hK hX K) | (refine hX _ _ _ _ _ (by simp) ?_; clear hK hX K))
  refine retK_mk zio ztr rfl (ResL.two (ResA.tmp rfl) (ResA.tmp rfl)) (out_t (frzl_cons zfz (frzl_cons zfz frzl_nil)))
theorem rrem_zero (s : Sk) (l : List Int) (n : Nat) (v : Vl) (c : Int) (hn : l.length = n) (hnn : n ≤ 100000) (h1 : AC Tryz.prog 131 [.agg s.c, .sl 1 n (intc .i64 l), .agg v.c, iv c] (.c (bv false)) [] 0) (hz : v.k = 0 ∨ c = 0) : AC Tryz.prog 71 [.agg s.c, .sl 1 n (intc .i64 l), .agg v.c, iv c] (.tup [.c (.sl 1 n (intc .i64 l)), .c (iv 0)]) [] 0 := by
  have hil : (intc .i64 l).length = n := by rw [intc_length, hn]
  obtain ⟨nm, sr, col, kd, w, d⟩ := s
  obtain ⟨a, m, t⟩ := v
  simp only [Sk.c, Vl.c] at *
  by_cases hc : c = 0
  · subst hc
    clear hz
    refine ac_enter tabOk (sz := 61) Tryz.func71 rfl (by rw [Tryz.ntmps71]; rfl) ?_
    repeat' (first | ((with_reducible refine aw_seqk ?_); intro K hK hX) | ((with_reducible refine isC_reg ?_); refine aw_prune [0, 1, 2, 3, 4, 6, 8, 9, 10, 11, 12] rfl rfl ?_; with_reducible refine aw_region ?_) | ((with_reducible refine isA_call ?_); (first | refine zA ?_ | refine zN ?_); (first | refine c0 (h1) ?_)) | refine stA ?_ | (refine hK _ _ _ _ ?_; clear hK hX K) | (refine hX _ _ _ _ _ (by simp) ?_; clear hK hX K))
    rw [Nat.zero_add n, List.nil_append]
    refine retK_mk zio ztr rfl (ResL.two (ResA.tmp rfl) (ResA.tmp rfl)) (out_t (frzl_cons zfz (frzl_cons zfz frzl_nil)))
  · have ha : a = 0 := hz.resolve_right hc
    subst ha
    clear hz
    refine ac_enter tabOk (sz := 61) Tryz.func71 rfl (by rw [Tryz.ntmps71]; rfl) ?_
    repeat' (first | ((with_reducible refine aw_seqk ?_); intro K hK hX) | ((with_reducible refine isC_reg ?_); refine aw_prune [0, 1, 2, 3, 4, 6, 8, 9, 10, 11, 12] rfl rfl ?_; with_reducible refine aw_region ?_) | ((with_reducible refine isA_call ?_); (first | refine zA ?_ | refine zN ?_); (first | refine c0 (h1) ?_)) | refine stA ?_ | (refine hK _ _ _ _ ?_; clear hK hX K) | (refine hX _ _ _ _ _ (by simp) ?_; clear hK hX K))
    rw [Nat.zero_add n, List.nil_append]
    refine retK_mk zio ztr rfl (ResL.two (ResA.tmp rfl) (ResA.tmp rfl)) (out_t (frzl_cons zfz (frzl_cons zfz frzl_nil)))
theorem rrem_kind (s : Sk) (l : List Int) (n : Nat) (v : Vl) (c : Int) (hn : l.length = n) (hnn : n ≤ 100000) (h1 : AC Tryz.prog 131 [.agg s.c, .sl 1 n (intc .i64 l), .agg v.c, iv c] (.c (bv false)) [] 0) (hz : v.k ≠ 0) (hc : c ≠ 0) (hk : s.kd ≠ 0) : AC Tryz.prog 71 [.agg s.c, .sl 1 n (intc .i64 l), .agg v.c, iv c] (.tup [.c (.sl 1 0 (intc .i64 [])), .c (iv 11)]) [] 0 := by
  have hil : (intc .i64 l).length = n := by rw [intc_length, hn]
  obtain ⟨nm, sr, col, kd, w, d⟩ := s
  obtain ⟨a, m, t⟩ := v
  simp only [Sk.c, Vl.c] at *
  refine ac_enter tabOk (sz := 61) Tryz.func71 rfl (by rw [Tryz.ntmps71]; rfl) ?_
  repeat' (first | ((with_reducible refine aw_seqk ?_); intro K hK hX) | ((with_reducible refine isC_reg ?_); refine aw_prune [0, 1, 2, 3, 4, 6, 8, 9, 10, 11, 12] rfl rfl ?_; with_reducible refine aw_region ?_) | ((with_reducible refine isA_call ?_); (first | refine zA ?_ | refine zN ?_); (first | refine c0 (h1) ?_)) | refine stA ?_ | (refine hK _ _ _ _ ?_; clear hK hX K) | (refine hX _ _ _ _ _ (by simp) ?_; clear hK hX K))
  refine retK_mk zio ztr rfl (ResL.two (ResA.tmp rfl) (ResA.tmp rfl)) (out_t (frzl_cons zfz (frzl_cons zfz frzl_nil)))
set_option maxHeartbeats 8000000 in
theorem rrem_cnt (nm sr : List UInt8) (col : Int) (w d : Nat) (v : Vl) (l : List Int) (n : Nat) (c : Int) (hn : l.length = n) (hw : 0 < w) (hw2 : w ≤ 1024) (hd : d ≤ 8) (hwd : n = w * d) (hin : ∀ x ∈ l, 0 ≤ x ∧ x ≤ 1073741824) (h1 : AC Tryz.prog 131 [.agg [sv nm, sv sr, iv col, iv 0, iv w, iv d], .sl 1 n (intc .i64 l), .agg v.c, iv c] (.c (bv false)) [] 0) (hz : v.k ≠ 0) (hc : 0 < c) (hc2 : c ≤ 262144) (hge : ∀ j, j < d → c ≤ l.getD (placeV w v j) 0) : AC Tryz.prog 71 [.agg [sv nm, sv sr, iv col, iv 0, iv w, iv d], .sl 1 n (intc .i64 l), .agg v.c, iv c] (.tup [.c (.sl 1 n (intc .i64 (addN 0 w v (-c) l d))), .c (iv 0)]) [] 0 := by
  rw [show -c = 0 - c by omega]
  have hil : (intc .i64 l).length = n := by rw [intc_length, hn]
  have hn1 : n ≤ 8192 := by rw [hwd]; exact Nat.mul_le_mul hw2 hd
  have hpl := rplaces_ok nm sr col 0 w d v hw hw2 hd
  have hpat := fun i (hi : i < d) => ic_at (plcL_at w v hi)
  have hpln : (intc .i64 (plcL w v d)).length = d := by rw [ic_len, plcL_length]
  obtain ⟨ad, had⟩ : ∃ ad : Nat → List Int, ∀ i, ad i = addN 0 w v (0 - c) l i := ⟨_, fun _ => rfl⟩
  have hap : ∀ j, ad (j + 1) = putP 0 (ad j) (placeV w v j) (0 - c) := fun j => by rw [had, had]; rfl
  have hal : ∀ j, (ad j).length = n := fun j => by rw [had, addN_length, hn]
  have hak : ∀ j, j < d → (ad j).getD (placeV w v j) 0 = l.getD (placeV w v j) 0 := fun j hj => by rw [had]; exact sub_keep v c l hw (by omega) hj
  have had0 : l = ad 0 := (had 0).symm
  have hlt2 : ∀ j, j < d → placeV w v j < n := fun j h => by rw [hwd]; exact placeV_lt v hw h
  rw [← had]
  clear had
  generalize plcL w v d = pc at *
  generalize placeV w v = pv at *
  obtain ⟨a, m, t⟩ := v
  simp only [Vl.c] at *
  have hz' : a ≠ 0 := hz
  clear hz
  refine ac_enter tabOk (sz := 61) Tryz.func71 rfl (by rw [Tryz.ntmps71]; rfl) ?_
  repeat' (first | ((with_reducible refine aw_seqk ?_); intro K hK hX) | ((with_reducible refine isC_reg ?_); refine aw_prune [0, 1, 2, 3, 4, 6, 8, 9, 10, 11, 12] rfl rfl ?_; with_reducible refine aw_region ?_) | ((with_reducible refine isA_call ?_); (first | refine zA ?_ | refine zN ?_); (first | refine c0 (h1) ?_ | refine c0 (hpl) ?_)) | refine stA ?_ | (refine hK _ _ _ _ ?_; clear hK hX K) | (refine hX _ _ _ _ _ (by simp) ?_; clear hK hX K))
  rw [Nat.zero_add n, List.nil_append]
  refine aw_loopo [12] [3] rfl rfl (fun j : Nat => [(12, .c (iv j))]) (fun j => [(3, .row 2 (intc .i64 (ad j)))]) (fun j => j ≤ d) (fun j => d - j) 0 (Nat.zero_le _) (by refine weak_mk rfl ?_ ?_ rfl <;> (repeat' (first | exact weakE_nil | exact weakH_nil | refine weakE_cons rfl (by first | rfl | (exact congrArg (fun x => AObj.row 2 (intc .i64 x)) had0) | exact zeq) rfl ?_ | refine weakH_cons rfl (by first | rfl | (exact congrArg (fun x => AObj.row 2 (intc .i64 x)) had0) | exact zeq) rfl ?_))) ?_
  intro j hj K hK hX
  have hjl := hal j
  have hji : (intc .i64 (ad j)).length = n := by rw [ic_len, hjl]
  by_cases hjd : j < d
  · have hgj := hge j hjd
    have hpj := hpat j hjd
    have hpN := hlt2 j hjd
    have hput := hap j
    have hgt := ic_at (gD_at (l := ad j) (i := pv j) (by omega))
    rw [hak j hjd] at hgt
    unfold putP at hput
    rw [if_pos rfl, hak j hjd] at hput
    have hin2 := hin _ (List.mem_of_getElem? (gD_at (l := l) (i := pv j) (by omega)))
    clear hpat hap hal hak had0 hlt2 hpl hin
    generalize pv j = p at *
    generalize l.getD p 0 = g at *
    have hset : (intc .i64 (ad j)).set (0 + p * 1) (iv (g - c)) = intc .i64 (ad (j + 1)) := by rw [Nat.zero_add, Nat.mul_one, hput, intc_set, show g + (0 - c) = g - c by omega]
    repeat' (first | ((with_reducible refine aw_seqk ?_); intro K hK hX) | ((with_reducible refine isC_reg ?_); refine aw_prune [0, 1, 2, 3, 4, 6, 8, 9, 10, 11, 12] rfl rfl ?_; with_reducible refine aw_region ?_) | (((with_reducible refine isA_any ?_); refine xA ?_); (first | ((with_reducible refine e_load ?_); (first | refine ex_i (s_load1 tabOk rfl rfl rfl rfl (by first | (rw [Nat.mul_one]; exact hpj) | (rw [Nat.zero_add, Nat.mul_one]; exact hgt))) ?_ | refine ex_i (s_load1r tabOk rfl rfl rfl rfl (by first | (rw [Nat.mul_one]; exact hpj) | (rw [Nat.zero_add, Nat.mul_one]; exact hgt))) ?_ | refine ex_i (s_load1i tabOk rfl rfl rfl (by first | (rw [Nat.mul_one]; exact hpj) | (rw [Nat.zero_add, Nat.mul_one]; exact hgt))) ?_)) | ((with_reducible refine e_ix ?_); (first | refine ex_i (s_ixV1 tabOk rfl rfl zcj rfl rfl rfl rfl rfl zle (by first | (rw [Nat.mul_one]; exact hpj) | (rw [Nat.zero_add, Nat.mul_one]; exact hgt))) ?_ | refine ex_i (s_ixStr tabOk rfl rfl zcj rfl rfl (by first | (rw [Nat.mul_one]; exact hpj) | (rw [Nat.zero_add, Nat.mul_one]; exact hgt))) ?_)))) | ((with_reducible refine isA_store ?_); (refine awl_store1r tabOk g_none rfl rfl rfl rfl rfl rfl (by first | omega | exact Nat.le_of_ble_eq_true rfl | omega | (simp <;> omega)) ?_)) | refine stA ?_ | (refine hK _ _ _ _ ?_; clear hK hX K) | (refine hX _ _ _ _ _ (by simp) ?_; clear hK hX K))
    exact ⟨j + 1, by omega, by omega, (by refine weak_mk rfl ?_ ?_ rfl <;> (repeat' (first | exact weakE_nil | exact weakH_nil | refine weakE_cons rfl (by first | rfl | (exact congrArg (AObj.row 2) hset) | exact zeq) rfl ?_ | refine weakH_cons rfl (by first | rfl | (exact congrArg (AObj.row 2) hset) | exact zeq) rfl ?_)))⟩
  · have hjd2 : j = d := by omega
    rw [hjd2] at hji ⊢
    clear hpat hap hal hak had0 hlt2 hpl hge
    repeat' (first | ((with_reducible refine aw_seqk ?_); intro K hK hX) | ((with_reducible refine isC_reg ?_); refine aw_prune [0, 1, 2, 3, 4, 6, 8, 9, 10, 11, 12] rfl rfl ?_; with_reducible refine aw_region ?_) | refine stA ?_ | (refine hK _ _ _ _ ?_; clear hK hX K) | (refine hX _ _ _ _ _ (by simp) ?_; clear hK hX K))
    refine retK_mk zio ztr rfl (ResL.two (ResA.tmp rfl) (ResA.tmp rfl)) (out_t (frzl_cons zfz (frzl_cons zfz frzl_nil)))
set_option maxHeartbeats 8000000 in
theorem rrem_less (nm sr : List UInt8) (col : Int) (w d : Nat) (v : Vl) (l : List Int) (n : Nat) (c : Int) (hn : l.length = n) (hw : 0 < w) (hw2 : w ≤ 1024) (hd : d ≤ 8) (hwd : n = w * d) (hin : ∀ x ∈ l, 0 ≤ x ∧ x ≤ 1073741824) (h1 : AC Tryz.prog 131 [.agg [sv nm, sv sr, iv col, iv 0, iv w, iv d], .sl 1 n (intc .i64 l), .agg v.c, iv c] (.c (bv false)) [] 0) (hz : v.k ≠ 0) (hc : 0 < c) (hc2 : c ≤ 262144) (hlt : ¬ ∀ j, j < d → c ≤ l.getD (placeV w v j) 0) : AC Tryz.prog 71 [.agg [sv nm, sv sr, iv col, iv 0, iv w, iv d], .sl 1 n (intc .i64 l), .agg v.c, iv c] (.tup [.c (.sl 1 0 (intc .i64 [])), .c (iv 11)]) [] 0 := by
  obtain ⟨q, hq, hbad, hge⟩ := first_bad hlt
  have hil : (intc .i64 l).length = n := by rw [intc_length, hn]
  have hn1 : n ≤ 8192 := by rw [hwd]; exact Nat.mul_le_mul hw2 hd
  have hpl := rplaces_ok nm sr col 0 w d v hw hw2 hd
  have hpat := fun i (hi : i < d) => ic_at (plcL_at w v hi)
  have hpln : (intc .i64 (plcL w v d)).length = d := by rw [ic_len, plcL_length]
  obtain ⟨ad, had⟩ : ∃ ad : Nat → List Int, ∀ i, ad i = addN 0 w v (0 - c) l i := ⟨_, fun _ => rfl⟩
  have hap : ∀ j, ad (j + 1) = putP 0 (ad j) (placeV w v j) (0 - c) := fun j => by rw [had, had]; rfl
  have hal : ∀ j, (ad j).length = n := fun j => by rw [had, addN_length, hn]
  have hak : ∀ j, j < d → (ad j).getD (placeV w v j) 0 = l.getD (placeV w v j) 0 := fun j hj => by rw [had]; exact sub_keep v c l hw (by omega) hj
  have had0 : l = ad 0 := (had 0).symm
  have hlt2 : ∀ j, j < d → placeV w v j < n := fun j h => by rw [hwd]; exact placeV_lt v hw h
  clear had hlt
  generalize plcL w v d = pc at *
  generalize placeV w v = pv at *
  obtain ⟨a, m, t⟩ := v
  simp only [Vl.c] at *
  have hz' : a ≠ 0 := hz
  clear hz
  refine ac_enter tabOk (sz := 61) Tryz.func71 rfl (by rw [Tryz.ntmps71]; rfl) ?_
  repeat' (first | ((with_reducible refine aw_seqk ?_); intro K hK hX) | ((with_reducible refine isC_reg ?_); refine aw_prune [0, 1, 2, 3, 4, 6, 8, 9, 10, 11, 12] rfl rfl ?_; with_reducible refine aw_region ?_) | ((with_reducible refine isA_call ?_); (first | refine zA ?_ | refine zN ?_); (first | refine c0 (h1) ?_ | refine c0 (hpl) ?_)) | refine stA ?_ | (refine hK _ _ _ _ ?_; clear hK hX K) | (refine hX _ _ _ _ _ (by simp) ?_; clear hK hX K))
  rw [Nat.zero_add n, List.nil_append]
  refine aw_loopo [12] [3] rfl rfl (fun j : Nat => [(12, .c (iv j))]) (fun j => [(3, .row 2 (intc .i64 (ad j)))]) (fun j => j ≤ q) (fun j => q - j) 0 (Nat.zero_le _) (by refine weak_mk rfl ?_ ?_ rfl <;> (repeat' (first | exact weakE_nil | exact weakH_nil | refine weakE_cons rfl (by first | rfl | (exact congrArg (fun x => AObj.row 2 (intc .i64 x)) had0) | exact zeq) rfl ?_ | refine weakH_cons rfl (by first | rfl | (exact congrArg (fun x => AObj.row 2 (intc .i64 x)) had0) | exact zeq) rfl ?_))) ?_
  intro j hj K hK hX
  have hjl := hal j
  have hji : (intc .i64 (ad j)).length = n := by rw [ic_len, hjl]
  have hjd : j < d := by omega
  by_cases hjq : j < q
  · have hgj := hge j hjq
    have hpj := hpat j hjd
    have hpN := hlt2 j hjd
    have hput := hap j
    have hgt := ic_at (gD_at (l := ad j) (i := pv j) (by omega))
    rw [hak j hjd] at hgt
    unfold putP at hput
    rw [if_pos rfl, hak j hjd] at hput
    have hin2 := hin _ (List.mem_of_getElem? (gD_at (l := l) (i := pv j) (by omega)))
    clear hpat hap hal hak had0 hlt2 hpl hin
    clear hbad hge
    generalize pv j = p at *
    generalize l.getD p 0 = g at *
    have hset : (intc .i64 (ad j)).set (0 + p * 1) (iv (g - c)) = intc .i64 (ad (j + 1)) := by rw [Nat.zero_add, Nat.mul_one, hput, intc_set, show g + (0 - c) = g - c by omega]
    repeat' (first | ((with_reducible refine aw_seqk ?_); intro K hK hX) | ((with_reducible refine isC_reg ?_); refine aw_prune [0, 1, 2, 3, 4, 6, 8, 9, 10, 11, 12] rfl rfl ?_; with_reducible refine aw_region ?_) | (((with_reducible refine isA_any ?_); refine xA ?_); (first | ((with_reducible refine e_load ?_); (first | refine ex_i (s_load1 tabOk rfl rfl rfl rfl (by first | (rw [Nat.mul_one]; exact hpj) | (rw [Nat.zero_add, Nat.mul_one]; exact hgt))) ?_ | refine ex_i (s_load1r tabOk rfl rfl rfl rfl (by first | (rw [Nat.mul_one]; exact hpj) | (rw [Nat.zero_add, Nat.mul_one]; exact hgt))) ?_ | refine ex_i (s_load1i tabOk rfl rfl rfl (by first | (rw [Nat.mul_one]; exact hpj) | (rw [Nat.zero_add, Nat.mul_one]; exact hgt))) ?_)) | ((with_reducible refine e_ix ?_); (first | refine ex_i (s_ixV1 tabOk rfl rfl zcj rfl rfl rfl rfl rfl zle (by first | (rw [Nat.mul_one]; exact hpj) | (rw [Nat.zero_add, Nat.mul_one]; exact hgt))) ?_ | refine ex_i (s_ixStr tabOk rfl rfl zcj rfl rfl (by first | (rw [Nat.mul_one]; exact hpj) | (rw [Nat.zero_add, Nat.mul_one]; exact hgt))) ?_)))) | ((with_reducible refine isA_store ?_); (refine awl_store1r tabOk g_none rfl rfl rfl rfl rfl rfl (by first | omega | exact Nat.le_of_ble_eq_true rfl | omega | (simp <;> omega)) ?_)) | refine stA ?_ | (refine hK _ _ _ _ ?_; clear hK hX K) | (refine hX _ _ _ _ _ (by simp) ?_; clear hK hX K))
    exact ⟨j + 1, by omega, by omega, (by refine weak_mk rfl ?_ ?_ rfl <;> (repeat' (first | exact weakE_nil | exact weakH_nil | refine weakE_cons rfl (by first | rfl | (exact congrArg (AObj.row 2) hset) | exact zeq) rfl ?_ | refine weakH_cons rfl (by first | rfl | (exact congrArg (AObj.row 2) hset) | exact zeq) rfl ?_)))⟩
  · have hjq2 : q = j := by omega
    rw [hjq2] at hbad
    have hpj := hpat j hjd
    have hpN := hlt2 j hjd
    have hput := hap j
    have hgt := ic_at (gD_at (l := ad j) (i := pv j) (by omega))
    rw [hak j hjd] at hgt
    unfold putP at hput
    rw [if_pos rfl, hak j hjd] at hput
    have hin2 := hin _ (List.mem_of_getElem? (gD_at (l := l) (i := pv j) (by omega)))
    clear hpat hap hal hak had0 hlt2 hpl hin
    clear hge
    generalize pv j = p at *
    generalize l.getD p 0 = g at *
    repeat' (first | ((with_reducible refine aw_seqk ?_); intro K hK hX) | ((with_reducible refine isC_reg ?_); refine aw_prune [0, 1, 2, 3, 4, 6, 8, 9, 10, 11, 12] rfl rfl ?_; with_reducible refine aw_region ?_) | (((with_reducible refine isA_any ?_); refine xA ?_); (first | ((with_reducible refine e_load ?_); (first | refine ex_i (s_load1 tabOk rfl rfl rfl rfl (by first | (rw [Nat.mul_one]; exact hpj) | (rw [Nat.zero_add, Nat.mul_one]; exact hgt))) ?_ | refine ex_i (s_load1r tabOk rfl rfl rfl rfl (by first | (rw [Nat.mul_one]; exact hpj) | (rw [Nat.zero_add, Nat.mul_one]; exact hgt))) ?_ | refine ex_i (s_load1i tabOk rfl rfl rfl (by first | (rw [Nat.mul_one]; exact hpj) | (rw [Nat.zero_add, Nat.mul_one]; exact hgt))) ?_)) | ((with_reducible refine e_ix ?_); (first | refine ex_i (s_ixV1 tabOk rfl rfl zcj rfl rfl rfl rfl rfl zle (by first | (rw [Nat.mul_one]; exact hpj) | (rw [Nat.zero_add, Nat.mul_one]; exact hgt))) ?_ | refine ex_i (s_ixStr tabOk rfl rfl zcj rfl rfl (by first | (rw [Nat.mul_one]; exact hpj) | (rw [Nat.zero_add, Nat.mul_one]; exact hgt))) ?_)))) | refine stA ?_ | (refine hK _ _ _ _ ?_; clear hK hX K) | (refine hX _ _ _ _ _ (by simp) ?_; clear hK hX K))
    refine retK_mk zio ztr rfl (ResL.two (ResA.tmp rfl) (ResA.tmp rfl)) (out_t (frzl_cons zfz (frzl_cons zfz frzl_nil)))
theorem rmer_bad (s : Sk) (X Y : CV) (b1 b2 : Bool) (h1 : AC Tryz.prog 23 [.agg s.c, X] (.c (bv b1)) [] 0) (h2 : AC Tryz.prog 23 [.agg s.c, Y] (.c (bv b2)) [] 0) (hb : b1 = false ∨ b2 = false) : AC Tryz.prog 74 [.agg s.c, X, Y] (.tup [.c (.sl 1 0 (intc .i64 [])), .c (iv 1)]) [] 0 := by
  obtain ⟨nm, sr, col, kd, w, d⟩ := s
  simp only [Sk.c] at *
  cases b1 with
  | false =>
    refine ac_enter tabOk (sz := 71) Tryz.func74 rfl (by rw [Tryz.ntmps74]; rfl) ?_
    repeat' (first | ((with_reducible refine aw_seqk ?_); intro K hK hX) | ((with_reducible refine isC_reg ?_); refine aw_prune [0, 1, 2, 3, 6, 7, 8, 9, 30] rfl rfl ?_; with_reducible refine aw_region ?_) | ((with_reducible refine isC_draw ?_); refine aw_prune [0, 1, 2, 3, 6, 7, 8, 9, 30] rfl rfl ?_; refine aw_drwF [] ?_) | ((first | with_reducible refine isA_call ?_ | with_reducible refine isD_call ?_); (first | refine zA ?_ | refine zN ?_ | refine zD ?_); (first | refine c0 (h1) ?_ | refine c0 (h2) ?_)) | refine stA ?_ | refine stD ?_ | (refine hK _ _ _ _ ?_; clear hK hX K) | (refine hX _ _ _ _ _ (by simp) ?_; clear hK hX K))
    refine retK_mk zio ztr rfl (ResL.two (ResA.tmp rfl) (ResA.tmp rfl)) (out_t (frzl_cons zfz (frzl_cons zfz frzl_nil)))
  | true =>
    cases b2 with
    | false =>
      refine ac_enter tabOk (sz := 71) Tryz.func74 rfl (by rw [Tryz.ntmps74]; rfl) ?_
      repeat' (first | ((with_reducible refine aw_seqk ?_); intro K hK hX) | ((with_reducible refine isC_reg ?_); refine aw_prune [0, 1, 2, 3, 6, 7, 8, 9, 30] rfl rfl ?_; with_reducible refine aw_region ?_) | ((with_reducible refine isC_draw ?_); refine aw_prune [0, 1, 2, 3, 6, 7, 8, 9, 30] rfl rfl ?_; refine aw_drwF [] ?_) | ((first | with_reducible refine isA_call ?_ | with_reducible refine isD_call ?_); (first | refine zA ?_ | refine zN ?_ | refine zD ?_); (first | refine c0 (h1) ?_ | refine c0 (h2) ?_)) | refine stA ?_ | refine stD ?_ | (refine hK _ _ _ _ ?_; clear hK hX K) | (refine hX _ _ _ _ _ (by simp) ?_; clear hK hX K))
      refine retK_mk zio ztr rfl (ResL.two (ResA.tmp rfl) (ResA.tmp rfl)) (out_t (frzl_cons zfz (frzl_cons zfz frzl_nil)))
    | true => simp at hb
theorem ts_at {M Z : List Int} {i n : Nat} {x : Int} (hM : M.length = n) (hi : i ≤ n) (hZ : Z[i]? = some x) : (M.take i ++ Z.drop i)[i]? = some x := by
  rw [List.getElem?_append_right (by rw [List.length_take]; omega), List.length_take, Nat.min_eq_left (by omega), Nat.sub_self, List.getElem?_drop, Nat.add_zero]
  exact hZ
set_option maxHeartbeats 8000000 in
theorem rmer_cells (nm sr : List UInt8) (col kd : Int) (w d : Int) (a b : List Int) (n : Nat) (hk : kd = 0 ∨ kd = 1) (hn : a.length = n) (hm : b.length = n) (hnn : n ≤ 100000) (fa : ∀ x ∈ a, 0 ≤ x ∧ x ≤ 1073741824) (fb : ∀ x ∈ b, 0 ≤ x ∧ x ≤ 1073741824) (h1 : AC Tryz.prog 23 [.agg [sv nm, sv sr, iv col, iv kd, iv w, iv d], .sl 1 n (intc .i64 a)] (.c (bv true)) [] 0) (h2 : AC Tryz.prog 23 [.agg [sv nm, sv sr, iv col, iv kd, iv w, iv d], .sl 1 n (intc .i64 b)] (.c (bv true)) [] 0) (hle : kd = 0 → ∀ i, i < n → ∀ x y, a[i]? = some x → b[i]? = some y → x + y ≤ 1073741824) : AC Tryz.prog 74 [.agg [sv nm, sv sr, iv col, iv kd, iv w, iv d], .sl 1 n (intc .i64 a), .sl 1 n (intc .i64 b)] (.tup [.c (.sl 1 n (intc .i64 (mergeK kd a b))), .c (iv 0)]) [] 0 := by
  have hal : (intc .i64 a).length = n := by rw [intc_length, hn]
  have hbl : (intc .i64 b).length = n := by rw [intc_length, hm]
  have hml := mergeK_length (kd := kd) hn hm
  have hat := fun {i : Nat} {x y : Int} (h : a[i]? = some x) (k : b[i]? = some y) => mergeK_at (kd := kd) h k
  generalize mergeK kd a b = M at *
  have hz0 : a = M.take 0 ++ a.drop 0 := rfl
  have hzn : M.take n ++ a.drop n = M := by rw [List.take_of_length_le (by omega), List.drop_eq_nil_of_le (by omega), List.append_nil]
  refine ac_enter tabOk (sz := 71) Tryz.func74 rfl (by rw [Tryz.ntmps74]; rfl) ?_
  repeat' (first | ((with_reducible refine aw_seqk ?_); intro K hK hX) | ((with_reducible refine isC_reg ?_); refine aw_prune [0, 1, 2, 3, 6, 7, 8, 9, 30] rfl rfl ?_; with_reducible refine aw_region ?_) | ((with_reducible refine isC_draw ?_); refine aw_prune [0, 1, 2, 3, 6, 7, 8, 9, 30] rfl rfl ?_; refine aw_drwF [] ?_) | ((first | with_reducible refine isA_call ?_ | with_reducible refine isD_call ?_); (first | refine zA ?_ | refine zN ?_ | refine zD ?_); (first | refine c0 (h1) ?_ | refine c0 (h2) ?_)) | refine stA ?_ | refine stD ?_ | (refine hK _ _ _ _ ?_; clear hK hX K) | (refine hX _ _ _ _ _ (by simp) ?_; clear hK hX K))
  rw [Nat.zero_add n, List.nil_append]
  refine aw_loopo [9] [2] rfl rfl (fun i : Nat => [(9, .c (iv i))]) (fun i => [(2, .row 2 (intc .i64 (M.take i ++ a.drop i)))]) (fun i => i ≤ n) (fun i => n - i) 0 (Nat.zero_le _) (by refine weak_mk rfl ?_ ?_ rfl <;> (repeat' (first | exact weakE_nil | exact weakH_nil | refine weakE_cons rfl (by first | rfl | (exact congrArg (fun x => AObj.row 2 (intc .i64 x)) hz0) | exact zeq) rfl ?_ | refine weakH_cons rfl (by first | rfl | (exact congrArg (fun x => AObj.row 2 (intc .i64 x)) hz0) | exact zeq) rfl ?_))) ?_
  intro i hi K hK hX
  have hrl := ts_length (i := i) hml hn
  have hri : (intc .i64 (M.take i ++ a.drop i)).length = n := by rw [ic_len, hrl]
  by_cases hlt : i < n
  ·
    obtain ⟨x, hx⟩ : ∃ x, a[i]? = some x := ⟨a[i]'(by omega), List.getElem?_eq_getElem _⟩
    obtain ⟨y, hy⟩ : ∃ y, b[i]? = some y := ⟨b[i]'(by omega), List.getElem?_eq_getElem _⟩
    have hxa := ic_at (ts_at (M := M) hml (by omega) hx)
    have hyb := ic_at hy
    have hts := ts_set (Z := a) (hat hx hy) (by omega)
    obtain ⟨bx1, bx2⟩ := fa x (List.mem_of_getElem? hx)
    obtain ⟨by1, by2⟩ := fb y (List.mem_of_getElem? hy)
    have hlx := fun h => hle h i hlt x y hx hy
    generalize M.take i ++ a.drop i = W at *
    clear hat hz0 hzn h1 h2 fa fb hx hy hle
    rcases hk with k0 | k1
    · have hlx := hlx k0
      rw [if_pos k0] at hts
      subst k0
      have hset : (intc .i64 W).set (0 + i * 1) (iv (x + y)) = intc .i64 (M.take (i + 1) ++ a.drop (i + 1)) := by rw [Nat.zero_add, Nat.mul_one, ← ic_set, hts]
      have hnew : ((intc .i64 W).set (0 + i * 1) (iv (x + y)))[0 + i * 1]? = some (iv (x + y)) := by rw [List.getElem?_set_self (by omega)]
      repeat' (first | ((with_reducible refine aw_seqk ?_); intro K hK hX) | ((with_reducible refine isC_reg ?_); refine aw_prune [0, 1, 2, 3, 6, 7, 8, 9, 30] rfl rfl ?_; with_reducible refine aw_region ?_) | ((with_reducible refine isC_draw ?_); refine aw_prune [0, 1, 2, 3, 6, 7, 8, 9, 30] rfl rfl ?_; refine aw_drwF [] ?_) | ((first | ((with_reducible refine isA_any ?_); refine xA ?_) | ((with_reducible refine isDk_any ?_); refine xD ?_)); (first | ((with_reducible refine e_load ?_); (first | refine ex_i (s_load1 tabOk rfl rfl rfl rfl (by first | (rw [Nat.zero_add, Nat.mul_one]; exact hxa) | (rw [Nat.mul_one]; exact hyb) | exact hnew)) ?_ | refine ex_i (s_load1r tabOk rfl rfl rfl rfl (by first | (rw [Nat.zero_add, Nat.mul_one]; exact hxa) | (rw [Nat.mul_one]; exact hyb) | exact hnew)) ?_ | refine ex_i (s_load1i tabOk rfl rfl rfl (by first | (rw [Nat.zero_add, Nat.mul_one]; exact hxa) | (rw [Nat.mul_one]; exact hyb) | exact hnew)) ?_)) | ((with_reducible refine e_ix ?_); (first | refine ex_i (s_ixV1 tabOk rfl rfl zcj rfl rfl rfl rfl rfl zle (by first | (rw [Nat.zero_add, Nat.mul_one]; exact hxa) | (rw [Nat.mul_one]; exact hyb) | exact hnew)) ?_ | refine ex_i (s_ixStr tabOk rfl rfl zcj rfl rfl (by first | (rw [Nat.zero_add, Nat.mul_one]; exact hxa) | (rw [Nat.mul_one]; exact hyb) | exact hnew)) ?_)))) | ((with_reducible refine isA_store ?_); (refine awl_store1r tabOk g_none rfl rfl rfl rfl rfl rfl (by first | omega | exact Nat.le_of_ble_eq_true rfl | omega | (simp <;> omega)) ?_)) | refine stA ?_ | refine stD ?_ | (refine hK _ _ _ _ ?_; clear hK hX K) | (refine hX _ _ _ _ _ (by simp) ?_; clear hK hX K))
      exact ⟨i + 1, by omega, by omega, (by refine weak_mk rfl ?_ ?_ rfl <;> (repeat' (first | exact weakE_nil | exact weakH_nil | refine weakE_cons rfl (by first | rfl | (exact congrArg (AObj.row 2) hset) | exact zeq) rfl ?_ | refine weakH_cons rfl (by first | rfl | (exact congrArg (AObj.row 2) hset) | exact zeq) rfl ?_)))⟩
    · rw [if_neg (by omega)] at hts
      subst k1
      have hset : (intc .i64 W).set (0 + i * 1) (iv (if x < y then y else x)) = intc .i64 (M.take (i + 1) ++ a.drop (i + 1)) := by rw [Nat.zero_add, Nat.mul_one, ← ic_set, hts]
      repeat' (first | ((with_reducible refine aw_seqk ?_); intro K hK hX) | ((with_reducible refine isC_reg ?_); refine aw_prune [0, 1, 2, 3, 6, 7, 8, 9, 30] rfl rfl ?_; with_reducible refine aw_region ?_) | ((with_reducible refine isC_draw ?_); refine aw_prune [0, 1, 2, 3, 6, 7, 8, 9, 30] rfl rfl ?_; refine aw_drwF [] ?_) | ((first | ((with_reducible refine isA_any ?_); refine xA ?_) | ((with_reducible refine isDk_any ?_); refine xD ?_)); (first | ((with_reducible refine e_load ?_); (first | refine ex_i (s_load1 tabOk rfl rfl rfl rfl (by first | (rw [Nat.zero_add, Nat.mul_one]; exact hxa) | (rw [Nat.mul_one]; exact hyb))) ?_ | refine ex_i (s_load1r tabOk rfl rfl rfl rfl (by first | (rw [Nat.zero_add, Nat.mul_one]; exact hxa) | (rw [Nat.mul_one]; exact hyb))) ?_ | refine ex_i (s_load1i tabOk rfl rfl rfl (by first | (rw [Nat.zero_add, Nat.mul_one]; exact hxa) | (rw [Nat.mul_one]; exact hyb))) ?_)) | ((with_reducible refine e_ix ?_); (first | refine ex_i (s_ixV1 tabOk rfl rfl zcj rfl rfl rfl rfl rfl zle (by first | (rw [Nat.zero_add, Nat.mul_one]; exact hxa) | (rw [Nat.mul_one]; exact hyb))) ?_ | refine ex_i (s_ixStr tabOk rfl rfl zcj rfl rfl (by first | (rw [Nat.zero_add, Nat.mul_one]; exact hxa) | (rw [Nat.mul_one]; exact hyb))) ?_)))) | ((with_reducible refine isA_store ?_); (refine awl_store1r tabOk g_none rfl rfl rfl rfl rfl rfl (by first | omega | exact Nat.le_of_ble_eq_true rfl | omega | (simp <;> omega)) ?_)) | refine stA ?_ | refine stD ?_ | (refine hK _ _ _ _ ?_; clear hK hX K) | (refine hX _ _ _ _ _ (by simp) ?_; clear hK hX K))
      exact ⟨i + 1, by omega, by omega, (by refine weak_mk rfl ?_ ?_ rfl <;> (repeat' (first | exact weakE_nil | exact weakH_nil | refine weakE_cons rfl (by first | rfl | (exact congrArg (AObj.row 2) hset) | exact zeq) rfl ?_ | refine weakH_cons rfl (by first | rfl | (exact congrArg (AObj.row 2) hset) | exact zeq) rfl ?_)))⟩
  · have hie : i = n := by omega
    rw [hie] at hri ⊢
    rw [hzn] at hri ⊢
    clear hat hz0 hzn h1 h2 fa fb hle
    repeat' (first | ((with_reducible refine aw_seqk ?_); intro K hK hX) | ((with_reducible refine isC_reg ?_); refine aw_prune [0, 1, 2, 3, 6, 7, 8, 9, 30] rfl rfl ?_; with_reducible refine aw_region ?_) | ((with_reducible refine isC_draw ?_); refine aw_prune [0, 1, 2, 3, 6, 7, 8, 9, 30] rfl rfl ?_; refine aw_drwF [] ?_) | refine stA ?_ | refine stD ?_ | (refine hK _ _ _ _ ?_; clear hK hX K) | (refine hX _ _ _ _ _ (by simp) ?_; clear hK hX K))
    refine retK_mk zio ztr rfl (ResL.two (ResA.tmp rfl) (ResA.tmp rfl)) (out_t (frzl_cons zfz (frzl_cons zfz frzl_nil)))
set_option maxHeartbeats 8000000 in
theorem rmer_over (nm sr : List UInt8) (col : Int) (w d : Int) (a b : List Int) (n : Nat) (hn : a.length = n) (hm : b.length = n) (hnn : n ≤ 100000) (fa : ∀ x ∈ a, 0 ≤ x ∧ x ≤ 1073741824) (fb : ∀ x ∈ b, 0 ≤ x ∧ x ≤ 1073741824) (h1 : AC Tryz.prog 23 [.agg [sv nm, sv sr, iv col, iv 0, iv w, iv d], .sl 1 n (intc .i64 a)] (.c (bv true)) [] 0) (h2 : AC Tryz.prog 23 [.agg [sv nm, sv sr, iv col, iv 0, iv w, iv d], .sl 1 n (intc .i64 b)] (.c (bv true)) [] 0) (hle : ¬ ∀ i, i < n → ∀ x y, a[i]? = some x → b[i]? = some y → x + y ≤ 1073741824) : AC Tryz.prog 74 [.agg [sv nm, sv sr, iv col, iv 0, iv w, iv d], .sl 1 n (intc .i64 a), .sl 1 n (intc .i64 b)] (.tup [.c (.sl 1 0 (intc .i64 [])), .c (iv 9)]) [] 0 := by
  obtain ⟨q, hq, hbad, hgood⟩ := first_bad hle
  clear hle
  obtain ⟨kd, hkd⟩ : ∃ kd : Int, kd = 0 := ⟨_, rfl⟩
  have hml0 := mergeK_length (kd := kd) hn hm
  obtain ⟨MM, hMM⟩ : ∃ MM, mergeK kd a b = MM := ⟨_, rfl⟩
  have hal : (intc .i64 a).length = n := by rw [intc_length, hn]
  have hbl : (intc .i64 b).length = n := by rw [intc_length, hm]
  have hat := fun {i : Nat} {x y : Int} (h : a[i]? = some x) (k : b[i]? = some y) => mergeK_at (kd := kd) h k
  obtain ⟨M, hM⟩ : ∃ M, mergeK kd a b = M := ⟨_, rfl⟩
  rw [hM] at hml0
  simp only [hM] at hat
  have hml := hml0
  clear hM hMM hml0
  have hz0 : a = M.take 0 ++ a.drop 0 := rfl
  refine ac_enter tabOk (sz := 71) Tryz.func74 rfl (by rw [Tryz.ntmps74]; rfl) ?_
  repeat' (first | ((with_reducible refine aw_seqk ?_); intro K hK hX) | ((with_reducible refine isC_reg ?_); refine aw_prune [0, 1, 2, 3, 6, 7, 8, 9, 30] rfl rfl ?_; with_reducible refine aw_region ?_) | ((with_reducible refine isC_draw ?_); refine aw_prune [0, 1, 2, 3, 6, 7, 8, 9, 30] rfl rfl ?_; refine aw_drwF [] ?_) | ((first | with_reducible refine isA_call ?_ | with_reducible refine isD_call ?_); (first | refine zA ?_ | refine zN ?_ | refine zD ?_); (first | refine c0 (h1) ?_ | refine c0 (h2) ?_)) | refine stA ?_ | refine stD ?_ | (refine hK _ _ _ _ ?_; clear hK hX K) | (refine hX _ _ _ _ _ (by simp) ?_; clear hK hX K))
  rw [Nat.zero_add n, List.nil_append]
  refine aw_loopo [9] [2] rfl rfl (fun i : Nat => [(9, .c (iv i))]) (fun i => [(2, .row 2 (intc .i64 (M.take i ++ a.drop i)))]) (fun i => i ≤ q) (fun i => q - i) 0 (Nat.zero_le _) (by refine weak_mk rfl ?_ ?_ rfl <;> (repeat' (first | exact weakE_nil | exact weakH_nil | refine weakE_cons rfl (by first | rfl | (exact congrArg (fun x => AObj.row 2 (intc .i64 x)) hz0) | exact zeq) rfl ?_ | refine weakH_cons rfl (by first | rfl | (exact congrArg (fun x => AObj.row 2 (intc .i64 x)) hz0) | exact zeq) rfl ?_))) ?_
  intro i hi K hK hX
  have hrl := ts_length (i := i) hml hn
  have hri : (intc .i64 (M.take i ++ a.drop i)).length = n := by rw [ic_len, hrl]
  have hlt : i < n := by omega
  obtain ⟨x, hx⟩ : ∃ x, a[i]? = some x := ⟨a[i]'(by omega), List.getElem?_eq_getElem _⟩
  obtain ⟨y, hy⟩ : ∃ y, b[i]? = some y := ⟨b[i]'(by omega), List.getElem?_eq_getElem _⟩
  have hxa := ic_at (ts_at (M := M) hml (by omega) hx)
  have hyb := ic_at hy
  have hts := ts_set (Z := a) (hat hx hy) (by omega)
  obtain ⟨bx1, bx2⟩ := fa x (List.mem_of_getElem? hx)
  obtain ⟨by1, by2⟩ := fb y (List.mem_of_getElem? hy)
  rw [if_pos hkd] at hts
  have hnew : ((intc .i64 (M.take i ++ a.drop i)).set (0 + i * 1) (iv (x + y)))[0 + i * 1]? = some (iv (x + y)) := by rw [List.getElem?_set_self (by omega)]
  by_cases hiq : i < q
  · have hlx := hgood i hiq x y hx hy
    generalize M.take i ++ a.drop i = W at *
    clear hat hz0 h1 h2 fa fb hx hy hbad hgood
    have hset : (intc .i64 W).set (0 + i * 1) (iv (x + y)) = intc .i64 (M.take (i + 1) ++ a.drop (i + 1)) := by rw [Nat.zero_add, Nat.mul_one, ← ic_set, hts]
    repeat' (first | ((with_reducible refine aw_seqk ?_); intro K hK hX) | ((with_reducible refine isC_reg ?_); refine aw_prune [0, 1, 2, 3, 6, 7, 8, 9, 30] rfl rfl ?_; with_reducible refine aw_region ?_) | ((with_reducible refine isC_draw ?_); refine aw_prune [0, 1, 2, 3, 6, 7, 8, 9, 30] rfl rfl ?_; refine aw_drwF [] ?_) | ((first | ((with_reducible refine isA_any ?_); refine xA ?_) | ((with_reducible refine isDk_any ?_); refine xD ?_)); (first | ((with_reducible refine e_load ?_); (first | refine ex_i (s_load1 tabOk rfl rfl rfl rfl (by first | (rw [Nat.zero_add, Nat.mul_one]; exact hxa) | (rw [Nat.mul_one]; exact hyb) | exact hnew)) ?_ | refine ex_i (s_load1r tabOk rfl rfl rfl rfl (by first | (rw [Nat.zero_add, Nat.mul_one]; exact hxa) | (rw [Nat.mul_one]; exact hyb) | exact hnew)) ?_ | refine ex_i (s_load1i tabOk rfl rfl rfl (by first | (rw [Nat.zero_add, Nat.mul_one]; exact hxa) | (rw [Nat.mul_one]; exact hyb) | exact hnew)) ?_)) | ((with_reducible refine e_ix ?_); (first | refine ex_i (s_ixV1 tabOk rfl rfl zcj rfl rfl rfl rfl rfl zle (by first | (rw [Nat.zero_add, Nat.mul_one]; exact hxa) | (rw [Nat.mul_one]; exact hyb) | exact hnew)) ?_ | refine ex_i (s_ixStr tabOk rfl rfl zcj rfl rfl (by first | (rw [Nat.zero_add, Nat.mul_one]; exact hxa) | (rw [Nat.mul_one]; exact hyb) | exact hnew)) ?_)))) | ((with_reducible refine isA_store ?_); (refine awl_store1r tabOk g_none rfl rfl rfl rfl rfl rfl (by first | omega | exact Nat.le_of_ble_eq_true rfl | omega | (simp <;> omega)) ?_)) | refine stA ?_ | refine stD ?_ | (refine hK _ _ _ _ ?_; clear hK hX K) | (refine hX _ _ _ _ _ (by simp) ?_; clear hK hX K))
    exact ⟨i + 1, by omega, by omega, (by refine weak_mk rfl ?_ ?_ rfl <;> (repeat' (first | exact weakE_nil | exact weakH_nil | refine weakE_cons rfl (by first | rfl | (exact congrArg (AObj.row 2) hset) | exact zeq) rfl ?_ | refine weakH_cons rfl (by first | rfl | (exact congrArg (AObj.row 2) hset) | exact zeq) rfl ?_)))⟩
  · have hiq2 : q = i := by omega
    rw [hiq2] at hbad
    have hlx : 1073741824 < x + y := Classical.byContradiction fun h => hbad fun x' y' hx' hy' => by
      rw [hx] at hx'; rw [hy] at hy'
      injection hx' with hx'; injection hy' with hy'
      subst hx' hy'
      omega
    generalize M.take i ++ a.drop i = W at *
    clear hat hz0 h1 h2 fa fb hx hy hbad hgood hts
    repeat' (first | ((with_reducible refine aw_seqk ?_); intro K hK hX) | ((with_reducible refine isC_reg ?_); refine aw_prune [0, 1, 2, 3, 6, 7, 8, 9, 30] rfl rfl ?_; with_reducible refine aw_region ?_) | ((with_reducible refine isC_draw ?_); refine aw_prune [0, 1, 2, 3, 6, 7, 8, 9, 30] rfl rfl ?_; refine aw_drwF [] ?_) | ((first | ((with_reducible refine isA_any ?_); refine xA ?_) | ((with_reducible refine isDk_any ?_); refine xD ?_)); (first | ((with_reducible refine e_load ?_); (first | refine ex_i (s_load1 tabOk rfl rfl rfl rfl (by first | (rw [Nat.zero_add, Nat.mul_one]; exact hxa) | (rw [Nat.mul_one]; exact hyb) | exact hnew)) ?_ | refine ex_i (s_load1r tabOk rfl rfl rfl rfl (by first | (rw [Nat.zero_add, Nat.mul_one]; exact hxa) | (rw [Nat.mul_one]; exact hyb) | exact hnew)) ?_ | refine ex_i (s_load1i tabOk rfl rfl rfl (by first | (rw [Nat.zero_add, Nat.mul_one]; exact hxa) | (rw [Nat.mul_one]; exact hyb) | exact hnew)) ?_)) | ((with_reducible refine e_ix ?_); (first | refine ex_i (s_ixV1 tabOk rfl rfl zcj rfl rfl rfl rfl rfl zle (by first | (rw [Nat.zero_add, Nat.mul_one]; exact hxa) | (rw [Nat.mul_one]; exact hyb) | exact hnew)) ?_ | refine ex_i (s_ixStr tabOk rfl rfl zcj rfl rfl (by first | (rw [Nat.zero_add, Nat.mul_one]; exact hxa) | (rw [Nat.mul_one]; exact hyb) | exact hnew)) ?_)))) | ((with_reducible refine isA_store ?_); (refine awl_store1r tabOk g_none rfl rfl rfl rfl rfl rfl (by first | omega | exact Nat.le_of_ble_eq_true rfl | omega | (simp <;> omega)) ?_)) | refine stA ?_ | refine stD ?_ | (refine hK _ _ _ _ ?_; clear hK hX K) | (refine hX _ _ _ _ _ (by simp) ?_; clear hK hX K))
    refine retK_mk zio ztr rfl (ResL.two (ResA.tmp rfl) (ResA.tmp rfl)) (out_t (frzl_cons zfz (frzl_cons zfz frzl_nil)))
set_option maxHeartbeats 8000000 in
theorem rmer_bot (nm sr : List UInt8) (col : Int) (w d : Nat) (x y : List Int) (n m Q : Nat) (hn : x.length = n) (hm : y.length = m) (hf : formP ⟨nm, sr, col, 2, w, d⟩) (hx : hashP w x) (hy : hashP w y) (hQ : (smallI w (x ++ y)).length = Q) : AC Tryz.prog 74 [.agg [sv nm, sv sr, iv col, iv 2, iv w, iv d], .sl 1 n (intc .i64 x), .sl 1 m (intc .i64 y)] (.tup [.c (.sl 1 Q (intc .i64 (smallI w (x ++ y)))), .c (iv 0)]) [] 0 := by
  have hxl : (intc .i64 x).length = n := by rw [intc_length, hn]
  have hxl1 : (intc .i64 x).length = n * 1 := by rw [hxl, Nat.mul_one]
  have hyl : (intc .i64 y).length = m := by rw [intc_length, hm]
  have hw2 := hf.2.1
  simp only at hw2
  have hnw : n ≤ w := by rw [← hn]; exact hx.1
  have hmw : m ≤ w := by rw [← hm]; exact hy.1
  have h1 := rvalb_ok nm sr col d w x n hn (by simp only [maxLen]; omega) (by omega)
  have : ∀ i : Decidable (formP ⟨nm, sr, col, 2, w, d⟩ ∧ hashP w x), @decide _ i = true := fun i => @decide_eq_true _ i ⟨hf, hx⟩
  rw [this] at h1
  have h2 := rvalb_ok nm sr col d w y m hm (by simp only [maxLen]; omega) (by omega)
  have : ∀ i : Decidable (formP ⟨nm, sr, col, 2, w, d⟩ ∧ hashP w y), @decide _ i = true := fun i => @decide_eq_true _ i ⟨hf, hy⟩
  rw [this] at h2
  obtain ⟨S, hS⟩ : ∃ S : Nat → List Int, ∀ i, S i = smallI w (x ++ y.take i) := ⟨_, fun _ => rfl⟩
  obtain ⟨q, hq⟩ : ∃ q : Nat → Nat, ∀ i, (S i).length = q i := ⟨_, fun _ => rfl⟩
  have hS0 : x = S 0 := by
    rw [hS, List.take_zero, List.append_nil]
    unfold smallI
    rw [ascL_asc hx.2.1, List.take_of_length_le (by omega)]
  have hq0 : n = q 0 := by rw [← hq, ← hS0, hn]
  have hSm : S m = smallI w (x ++ y) := by rw [hS, List.take_of_length_le (by omega)]
  have hqw : ∀ i, q i ≤ w := fun i => by rw [← hq, hS]; exact smallI_length w _
  have hbt : ∀ i z, y[i]? = some z → AC Tryz.prog 114 [.sl 1 (q i) (intc .i64 (S i)), iv z, iv w] (.c (.sl 1 (q (i + 1)) (intc .i64 (S (i + 1))))) [] 0 := fun i z hz => by
    have e : smallI w (S i ++ [z]) = S (i + 1) := by rw [hS, hS, small_app, List.take_add_one, hz, Option.toList_some, List.append_assoc]
    have h3 := rbot_ok (S i) z w (q i) (q (i + 1)) (hq i) (by rw [hS]; exact smallI_asc w _) (hqw i) (by omega) (by rw [e, hq])
    rw [e] at h3
    exact h3
  rw [← hSm] at hQ ⊢
  have hQm : q m = Q := by rw [← hq, hQ]
  clear hx hy hf this hSm hqw hS
  refine ac_enter tabOk (sz := 71) Tryz.func74 rfl (by rw [Tryz.ntmps74]; rfl) ?_
  repeat' (first | ((with_reducible refine aw_seqk ?_); intro K hK hX) | ((with_reducible refine isC_reg ?_); refine aw_prune [0, 1, 2, 3, 6, 7, 8, 9, 30] rfl rfl ?_; with_reducible refine aw_region ?_) | ((with_reducible refine isC_draw ?_); refine aw_prune [0, 1, 2, 3, 6, 7, 8, 9, 30] rfl rfl ?_; refine aw_drwF [] ?_) | ((first | with_reducible refine isA_call ?_ | with_reducible refine isD_call ?_); (first | refine zA ?_ | refine zN ?_ | refine zD ?_); (first | refine c0 (h1) ?_ | refine c0 (h2) ?_)) | refine stA ?_ | refine stD ?_ | (refine hK _ _ _ _ ?_; clear hK hX K) | (refine hX _ _ _ _ _ (by simp) ?_; clear hK hX K))
  rw [Nat.zero_add n, List.nil_append]
  refine aw_fz 8 rfl rfl hxl1 ?_
  refine aw_loopo [8, 9] [2] rfl rfl (fun i : Nat => [(8, .c (.sl 1 (q i) (intc .i64 (S i)))), (9, .c (iv i))]) (fun i => []) (fun i => i ≤ m) (fun i => m - i) 0 (Nat.zero_le _) (by refine weak_mk rfl ?_ ?_ rfl <;> (repeat' (first | exact weakE_nil | exact weakH_nil | refine weakE_cons rfl (by first | rfl | (rw [← hq0, ← hS0]) | exact zeq) rfl ?_ | refine weakH_cons rfl (by first | rfl | (rw [← hq0, ← hS0]) | exact zeq) rfl ?_))) ?_
  intro i hi K hK hX
  have hil : (intc .i64 (S i)).length = q i := by rw [ic_len, hq]
  by_cases hlt : i < m
  · obtain ⟨z, hz⟩ : ∃ z, y[i]? = some z := ⟨y[i]'(by omega), List.getElem?_eq_getElem _⟩
    have hza := ic_at hz
    have hb := hbt i z hz
    clear hbt hq hS0 hq0 h1 h2 hz
    repeat' (first | ((with_reducible refine aw_seqk ?_); intro K hK hX) | ((with_reducible refine isC_reg ?_); refine aw_prune [0, 1, 2, 3, 6, 7, 8, 9, 30] rfl rfl ?_; with_reducible refine aw_region ?_) | ((with_reducible refine isC_draw ?_); refine aw_prune [0, 1, 2, 3, 6, 7, 8, 9, 30] rfl rfl ?_; refine aw_drwF [] ?_) | (refine drw_endA (by kernel_rfl) (by kernel_rfl) (by kernel_rfl) rfl ?_) | (refine k_only ?_) | ((first | with_reducible refine isA_call ?_ | with_reducible refine isD_call ?_); (first | refine zA ?_ | refine zN ?_ | refine zD ?_); (first | refine c0 (hb) ?_)) | ((first | ((with_reducible refine isA_any ?_); refine xA ?_) | ((with_reducible refine isDk_any ?_); refine xD ?_)); (first | ((with_reducible refine e_load ?_); (first | refine ex_i (s_load1 tabOk rfl rfl rfl rfl (by (rw [Nat.mul_one]; exact hza))) ?_ | refine ex_i (s_load1r tabOk rfl rfl rfl rfl (by (rw [Nat.mul_one]; exact hza))) ?_ | refine ex_i (s_load1i tabOk rfl rfl rfl (by (rw [Nat.mul_one]; exact hza))) ?_)) | ((with_reducible refine e_ix ?_); (first | refine ex_i (s_ixV1 tabOk rfl rfl zcj rfl rfl rfl rfl rfl zle (by (rw [Nat.mul_one]; exact hza))) ?_ | refine ex_i (s_ixStr tabOk rfl rfl zcj rfl rfl (by (rw [Nat.mul_one]; exact hza))) ?_)))) | refine stA ?_ | refine stD ?_ | (refine hK _ _ _ _ ?_; clear hK hX K) | (refine hX _ _ _ _ _ (by simp) ?_; clear hK hX K))
    exact ⟨i + 1, by omega, by omega, weakA⟩
  · have hie : i = m := by omega
    rw [hie] at hil ⊢
    clear hbt hq hS0 hq0 h1 h2
    rw [hQm] at hil ⊢
    repeat' (first | ((with_reducible refine aw_seqk ?_); intro K hK hX) | ((with_reducible refine isC_reg ?_); refine aw_prune [0, 1, 2, 3, 6, 7, 8, 9, 30] rfl rfl ?_; with_reducible refine aw_region ?_) | ((with_reducible refine isC_draw ?_); refine aw_prune [0, 1, 2, 3, 6, 7, 8, 9, 30] rfl rfl ?_; refine aw_drwF [] ?_) | refine stA ?_ | refine stD ?_ | (refine hK _ _ _ _ ?_; clear hK hX K) | (refine hX _ _ _ _ _ (by simp) ?_; clear hK hX K))
    refine retK_mk zio ztr rfl (ResL.two (ResA.tmp rfl) (ResA.tmp rfl)) (out_t (frzl_cons zfz (frzl_cons zfz frzl_nil)))
end Go.Proofs.YtccnhpaldmjkbaaGreat
/-
  Add, Remove, Merge and Estimate: both packages give the same for all arguments.
-/
namespace Go.Proofs.YtccnhpaldmjkbaaGreat
open Go Go.RowKit Go.Av
set_option maxRecDepth 100000
open Classical in
theorem vboth2 (s : Sk) (l : List Int) (n : Nat) (hn : l.length = n) (hm : n ≤ maxLen) : ∃ b : Bool, AC Tryz.prog 22 [.agg s.c, .sl 1 n (intc .i64 l)] (.c (bv b)) [] 0 ∧ AC Tryz.prog 23 [.agg s.c, .sl 1 n (intc .i64 l)] (.c (bv b)) [] 0 ∧ (b = true → s.kd = 2 ∧ formP s ∧ hashP s.w.toNat l ∨ s.kd ≠ 2 ∧ valC s l) := by
  by_cases hk : s.kd = 2
  · by_cases hf : formP s
    · obtain ⟨nm, sr, col, kd, w, d⟩ := s
      simp only at hk
      subst hk
      obtain ⟨f1, f2, f3, f4, f5, f6⟩ := id hf
      simp only at f1 f2
      obtain ⟨W, rfl⟩ : ∃ W : Nat, w = W := ⟨w.toNat, by omega⟩
      exact ⟨_, valb_ok nm sr col d W l n hn hm (by omega), rvalb_ok nm sr col d W l n hn hm (by omega), fun h => .inl ⟨rfl, hf, by simpa using (of_decide_eq_true h).2⟩⟩
    · exact ⟨false, valf_ok s _ hf, rvalf_ok s _ hf, fun h => by cases h⟩
  · exact ⟨_, valc_ok s l n hn hk hm, rvalc_ok s l n hn hk hm, fun h => .inr ⟨hk, of_decide_eq_true h⟩⟩
theorem dec_t {p : Prop} (h : p) : ∀ i : Decidable p, @decide p i = true := fun i => @decide_eq_true _ i h
theorem dec_f {p : Prop} (h : ¬ p) : ∀ i : Decidable p, @decide p i = false := fun i => @decide_eq_false _ i h
attribute [local irreducible] Still Adds AWL AW Drw DrwE EStep AC AWR Weak Frz Src RetK Out InK ItK AsK RdK RetT OutT ACT ACS RetS ACP RetP
set_option maxHeartbeats 8000000 in
theorem addb_emp (nm sr : List UInt8) (col : Int) (w d : Nat) (v : Vl) (Q : Nat) (c : Int) (hf : formP ⟨nm, sr, col, 2, w, d⟩) (ho : okP v) (hz : v.k ≠ 0) (hc1 : 0 < c) (hc2 : c ≤ 262144) (hQ : (smallI w [botN v]).length = Q) : AC Tryz.prog 69 [.agg [sv nm, sv sr, iv col, iv 2, iv w, iv d], .sl 1 0 [], .agg v.c, iv c] (.tup [.c (.sl 1 Q (intc .i64 (smallI w [botN v]))), .c (iv 0)]) [] 0 := by
  have h2 := valid_ok v
  rw [okV_t ho] at h2
  have h4 := both_ok v
  have hw2 := hf.2.1
  simp only at hw2
  have h1 := valb_ok nm sr col d w [] 0 rfl (by simp only [maxLen]; omega) (by omega)
  rw [dec_t (show formP ⟨nm, sr, col, 2, w, d⟩ ∧ hashP w [] from ⟨hf, Nat.zero_le _, List.Pairwise.nil, fun x hx => by cases hx⟩)] at h1
  generalize botN v = y at *
  have hrow : [iv y] = intc .i64 [y] := rfl
  have h5 := smallest_ok nm sr col 2 d w [y] 1 rfl (by omega) (by omega) (by omega)
  rw [hQ] at h5
  generalize smallI w [y] = S at *
  have hSl : (intc .i64 S).length = Q := by rw [ic_len, hQ]
  obtain ⟨a, m, b⟩ := v
  simp only [Vl.c] at *
  have hz' : a ≠ 0 := hz
  clear hz hf
  refine AC.split0 (xs := [_]) (ys := [_, _]) fun A k hk => ?_
  have h1 := AC.args h1 (cvl_cons cv_rfl (cvl_cons (cv_v0 (A := A) hk) cvl_nil))
  cases A with
  | none =>
    have h3 := clone_none k
    refine ac_enter tabOk (sz := 58) Tryz.func69 rfl (by rw [Tryz.ntmps69]; rfl) ?_
    repeat' (first | ((with_reducible refine aw_seqk ?_); intro K hK hX) | ((with_reducible refine isC_reg ?_); refine aw_prune [0, 1, 2, 3, 4, 6, 8, 9, 10] rfl rfl ?_; with_reducible refine aw_region ?_) | ((with_reducible refine isC_draw ?_); refine aw_prune [0, 1, 2, 3, 4, 6, 8, 9, 10] rfl rfl ?_; refine aw_drwE [] ?_) | ((with_reducible refine isA_call ?_); refine awl_callP1 (h5) g_none rfl zby ((by omega)) rfl rfl (hrow) rfl zcv rfl zcv ?_) | ((with_reducible refine isE_call ?_); refine d_callP1 (h5) g_none rfl rfl zby ((by omega)) rfl rfl (hrow) rfl zcv rfl zcv rfl ?_) | ((first | with_reducible refine isA_call ?_ | with_reducible refine isE_call ?_); (first | refine zA ?_ | refine zN ?_ | refine zE ?_); (first | refine c0 (h1) ?_ | refine c0 (h2) ?_ | refine c0 (h3) ?_ | refine c1 (h3) ?_ | refine c0 (h4) ?_)) | refine stA ?_ | refine stE ?_ | (refine hK _ _ _ _ ?_; clear hK hX K) | (refine hX _ _ _ _ _ (by simp) ?_; clear hK hX K))
    refine retK_mk zio (by exact ⟨ad_idle, ad_idle_b, trivial⟩) rfl (ResL.two (ResA.tmp rfl) (ResA.tmp rfl)) (out_t (frzl_cons zfz (frzl_cons zfz frzl_nil)))
  | some b =>
    have h3 := clone_some b k
    refine ac_enter tabOk (sz := 58) Tryz.func69 rfl (by rw [Tryz.ntmps69]; rfl) ?_
    repeat' (first | ((with_reducible refine aw_seqk ?_); intro K hK hX) | ((with_reducible refine isC_reg ?_); refine aw_prune [0, 1, 2, 3, 4, 6, 8, 9, 10] rfl rfl ?_; with_reducible refine aw_region ?_) | ((with_reducible refine isC_draw ?_); refine aw_prune [0, 1, 2, 3, 4, 6, 8, 9, 10] rfl rfl ?_; refine aw_drwE [] ?_) | ((with_reducible refine isA_call ?_); refine awl_callP1 (h5) g_none rfl zby ((by omega)) rfl rfl (hrow) rfl zcv rfl zcv ?_) | ((with_reducible refine isE_call ?_); refine d_callP1 (h5) g_none rfl rfl zby ((by omega)) rfl rfl (hrow) rfl zcv rfl zcv rfl ?_) | ((first | with_reducible refine isA_call ?_ | with_reducible refine isE_call ?_); (first | refine zA ?_ | refine zN ?_ | refine zE ?_); (first | refine c0 (h1) ?_ | refine c0 (h2) ?_ | refine c0 (h3) ?_ | refine c1 (h3) ?_ | refine c0 (h4) ?_)) | refine stA ?_ | refine stE ?_ | (refine hK _ _ _ _ ?_; clear hK hX K) | (refine hX _ _ _ _ _ (by simp) ?_; clear hK hX K))
    refine retK_mk zio (by exact ⟨ad_idle, ad_idle_b, trivial⟩) rfl (ResL.two (ResA.tmp rfl) (ResA.tmp rfl)) (out_t (frzl_cons zfz (frzl_cons zfz frzl_nil)))
theorem add_both (s : Sk) (l : List Int) (q : Nat) (v : Vl) (c : Int) (hl : l.length = q) (hq : q ≤ 2000) : ∃ (M : List Int) (Q : Nat) (z : Int), M.length = Q ∧ Q ≤ 3000 ∧ AC Tryz.prog 69 [.agg s.c, .sl 1 q (intc .i64 l), .agg v.c, iv c] (.tup [.c (.sl 1 Q (intc .i64 M)), .c (iv z)]) [] 0 ∧ AC Tryz.prog 70 [.agg s.c, .sl 1 q (intc .i64 l), .agg v.c, iv c] (.tup [.c (.sl 1 Q (intc .i64 M)), .c (iv z)]) [] 0 := by
  obtain ⟨b, p1, r1, hb⟩ := vboth2 s l q hl (by simp only [maxLen]; omega)
  have p2 := valid_ok v
  have r2 := rvalid_ok v
  by_cases hbad : b = false ∨ okV v = false ∨ c < 0 ∨ 262144 < c
  · exact ⟨[], 0, 1, rfl, by omega, add_bad s _ v c b _ p1 p2 hbad, radd_bad s _ v c (rbad_t s _ v c b _ r1 r2 hbad)⟩
  · have hb1 : b = true := by cases b with | true => rfl | false => exact absurd (.inl rfl) hbad
    have ho1 : okV v = true := by cases h : okV v with | true => rfl | false => exact absurd (.inr (.inl h)) hbad
    have e0 : 0 ≤ c := by have : ¬ c < 0 := fun h => hbad (.inr (.inr (.inl h))); omega
    have e1 : c ≤ 262144 := by have : ¬ 262144 < c := fun h => hbad (.inr (.inr (.inr h))); omega
    have ho : okP v := of_decide_eq_true ho1
    rw [hb1] at p1 r1
    rw [ho1] at p2 r2
    have hrb := rbad_f s _ v c r1 r2 e0 e1
    by_cases hz : v.k = 0 ∨ c = 0
    · exact ⟨l, q, 0, hl, by omega, add_zero s l q v c hl (by omega) p1 p2 e0 e1 hz, radd_zero s l q v c hl (by omega) hrb hz⟩
    · have hk0 : v.k ≠ 0 := fun h => hz (.inl h)
      have hc0 : c ≠ 0 := fun h => hz (.inr h)
      rcases hb hb1 with ⟨k2, hf, hh⟩ | ⟨k2, hv⟩
      · obtain ⟨nm, sr, col, kd, w, d⟩ := s
        simp only at k2
        subst k2
        obtain ⟨f1, f2, f3, f4, f5, f6⟩ := id hf
        simp only at f1 f2 f3 f4 hh
        obtain ⟨W, rfl⟩ : ∃ W : Nat, w = W := ⟨w.toNat, by omega⟩
        obtain ⟨D, rfl⟩ : ∃ D : Nat, d = D := ⟨d.toNat, by omega⟩
        rw [Int.toNat_natCast] at hh
        have hP : hashP W (smallI W (l ++ [botN v])) := smallI_P fun x hx => by
          rcases List.mem_append.1 hx with h | h
          · exact hh.2.2 x h
          · rw [List.mem_singleton.1 h]; exact botN_bd v
        have hP1 := hP.1
        refine ⟨smallI W (l ++ [botN v]), _, 0, rfl, by omega, ?_, ?_⟩
        · by_cases h0 : 0 < q
          · exact addb_some nm sr col W D v l q _ c hl h0 (by omega) hf hh ho hk0 (by omega) e1 rfl
          · obtain rfl : q = 0 := by omega
            obtain rfl : l = [] := List.eq_nil_of_length_eq_zero hl
            exact addb_emp nm sr col W D v _ c hf ho hk0 (by omega) e1 rfl
        · have r3 := rvalb_ok nm sr col D W (smallI W (l ++ [botN v])) _ rfl (by simp only [maxLen]; omega) (by omega)
          rw [dec_t ⟨hf, hP⟩] at r3
          have hlw : q ≤ W := by rw [← hl]; exact hh.1
          exact radd_res _ _ v c _ _ true hrb (raddb_ok nm sr col D W v l c q _ hl hh.2.1 hlw (by omega) rfl) r3 hk0 hc0
      · obtain ⟨nm, sr, col, kd, w, d⟩ := s
        simp only at k2
        obtain ⟨⟨f1, f2, f3, f4, f5, f6⟩, f7, f8, f9⟩ := id hv
        simp only at f1 f2 f3 f4 f5 f6 f7 f8
        obtain ⟨W, rfl⟩ : ∃ W : Nat, w = W := ⟨w.toNat, by omega⟩
        obtain ⟨D, rfl⟩ : ∃ D : Nat, d = D := ⟨d.toNat, by omega⟩
        have hwd : q = W * D := by
          have : (W : Int) * (D : Int) = ((W * D : Nat) : Int) := by simp
          omega
        have hin : inB l 10000000000000 := fun x hx => by
          have := f9 x hx
          unfold okX limZ at this
          simp only at this
          split at this <;> omega
        have hA := raddc_ok nm sr col kd W D v l q c (by omega) hl hwd.symm (by omega) (by omega) (by omega) e0 e1 hin
        have hAl : (addN kd W v c l D).length = q := by rw [addN_length, hl]
        have r3 := rvalc_ok ⟨nm, sr, col, kd, W, D⟩ (addN kd W v c l D) q hAl k2 (by simp only [maxLen]; omega)
        by_cases hv2 : valC ⟨nm, sr, col, kd, W, D⟩ (addN kd W v c l D)
        · rw [dec_t hv2] at r3
          exact ⟨_, q, 0, hAl, by omega, add_cnt nm sr col kd W D v l q c hl (by omega) hv hwd ho hk0 (by omega) e1 hv2, radd_res _ _ v c _ _ true hrb hA r3 hk0 hc0⟩
        · rw [dec_f hv2] at r3
          exact ⟨[], 0, 9, rfl, by omega, add_over nm sr col kd W D v l q c hl (by omega) hv hwd ho hk0 (by omega) e1 hv2, radd_res _ _ v c _ _ false hrb hA r3 hk0 hc0⟩
theorem rem_both (s : Sk) (l : List Int) (q : Nat) (v : Vl) (c : Int) (hl : l.length = q) (hq : q ≤ 2000) : ∃ (M : List Int) (Q : Nat) (z : Int), M.length = Q ∧ Q ≤ 3000 ∧ AC Tryz.prog 64 [.agg s.c, .sl 1 q (intc .i64 l), .agg v.c, iv c] (.tup [.c (.sl 1 Q (intc .i64 M)), .c (iv z)]) [] 0 ∧ AC Tryz.prog 71 [.agg s.c, .sl 1 q (intc .i64 l), .agg v.c, iv c] (.tup [.c (.sl 1 Q (intc .i64 M)), .c (iv z)]) [] 0 := by
  obtain ⟨b, p1, r1, hb⟩ := vboth2 s l q hl (by simp only [maxLen]; omega)
  have p2 := valid_ok v
  have r2 := rvalid_ok v
  by_cases hbad : b = false ∨ okV v = false ∨ c < 0 ∨ 262144 < c
  · exact ⟨[], 0, 1, rfl, by omega, rem_bad s _ v c b _ p1 p2 hbad, rrem_bad s _ v c (rbad_t s _ v c b _ r1 r2 hbad)⟩
  · have hb1 : b = true := by cases b with | true => rfl | false => exact absurd (.inl rfl) hbad
    have ho1 : okV v = true := by cases h : okV v with | true => rfl | false => exact absurd (.inr (.inl h)) hbad
    have e0 : 0 ≤ c := by have : ¬ c < 0 := fun h => hbad (.inr (.inr (.inl h))); omega
    have e1 : c ≤ 262144 := by have : ¬ 262144 < c := fun h => hbad (.inr (.inr (.inr h))); omega
    have ho : okP v := of_decide_eq_true ho1
    rw [hb1] at p1 r1
    rw [ho1] at p2 r2
    have hrb := rbad_f s _ v c r1 r2 e0 e1
    by_cases hz : v.k = 0 ∨ c = 0
    · exact ⟨l, q, 0, hl, by omega, rem_zero s l q v c hl (by omega) p1 p2 e0 e1 hz, rrem_zero s l q v c hl (by omega) hrb hz⟩
    · have hk0 : v.k ≠ 0 := fun h => hz (.inl h)
      have hc0 : c ≠ 0 := fun h => hz (.inr h)
      by_cases hkd : s.kd = 0
      · rcases hb hb1 with ⟨k2, hf, hh⟩ | ⟨k2, hv⟩
        · omega
        · obtain ⟨nm, sr, col, kd, w, d⟩ := s
          simp only at hkd
          subst hkd
          obtain ⟨⟨f1, f2, f3, f4, f5, f6⟩, f7, f8, f9⟩ := id hv
          simp only at f1 f2 f3 f4 f5 f6 f7 f8
          obtain ⟨W, rfl⟩ : ∃ W : Nat, w = W := ⟨w.toNat, by omega⟩
          obtain ⟨D, rfl⟩ : ∃ D : Nat, d = D := ⟨d.toNat, by omega⟩
          have hwd : q = W * D := by
            have : (W : Int) * (D : Int) = ((W * D : Nat) : Int) := by simp
            omega
          have hin : ∀ x ∈ l, 0 ≤ x ∧ x ≤ 1073741824 := fun x hx => by
            have := f9 x hx
            unfold okX limZ at this
            simp only [if_true] at this
            exact this
          by_cases hge : ∀ j, j < D → c ≤ l.getD (placeV W v j) 0
          · exact ⟨_, q, 0, by rw [addN_length, hl], by omega, rem_cnt nm sr col W D v l q c hl (by omega) hv hwd ho hk0 (by omega) e1 (least_ge hge (by omega)), rrem_cnt nm sr col W D v l q c hl (by omega) (by omega) (by omega) hwd hin hrb hk0 (by omega) e1 hge⟩
          · obtain ⟨j, hj, hjb, _⟩ := first_bad hge
            have hle := leastN_le (l := l) (w := W) (v := v) hj
            exact ⟨[], 0, 11, rfl, by omega, rem_less nm sr col W D v l q c hl (by omega) hv hwd ho hk0 (by omega) e1 (by omega), rrem_less nm sr col W D v l q c hl (by omega) (by omega) (by omega) hwd hin hrb hk0 (by omega) e1 hge⟩
      · exact ⟨[], 0, 11, rfl, by omega, rem_kind s l q v c hl (by omega) p1 p2 (by omega) e1 hk0 hkd, rrem_kind s l q v c hl (by omega) hrb hk0 hc0 hkd⟩
theorem est_both (s : Sk) (l : List Int) (q : Nat) (v : Vl) (hl : l.length = q) (hq : q ≤ 2000) : ∃ z : Int, AC Tryz.prog 65 [.agg s.c, .sl 1 q (intc .i64 l), .agg v.c] (.c (iv z)) [] 0 ∧ AC Tryz.prog 72 [.agg s.c, .sl 1 q (intc .i64 l), .agg v.c] (.c (iv z)) [] 0 := by
  obtain ⟨b, p1, r1, hb⟩ := vboth2 s l q hl (by simp only [maxLen]; omega)
  cases b with
  | false => exact ⟨0, est_bad s _ v p1, rest_bad s _ v r1⟩
  | true =>
    rcases hb rfl with ⟨k2, hf, hh⟩ | ⟨k2, hv⟩
    · obtain ⟨nm, sr, col, kd, w, d⟩ := s
      simp only at k2
      subst k2
      obtain ⟨f1, f2, f3, f4, f5, f6⟩ := id hf
      simp only at f1 f2 f3 f4 hh
      obtain ⟨W, rfl⟩ : ∃ W : Nat, w = W := ⟨w.toNat, by omega⟩
      rw [Int.toNat_natCast] at hh
      exact ⟨_, est2_ok nm sr col d W v l q hl hf hh, rest2_ok nm sr col d W v l q hl hf hh⟩
    · by_cases hz : v.k = 0 ∨ okV v = false
      · exact ⟨0, est_zero s _ v _ p1 (valid_ok v) k2 hz, rest_zero s _ v _ r1 (rvalid_ok v) k2 hz⟩
      · have hk0 : v.k ≠ 0 := fun h => hz (.inl h)
        have ho1 : okV v = true := by cases h : okV v with | true => rfl | false => exact absurd (.inr h) hz
        have ho : okP v := of_decide_eq_true ho1
        obtain ⟨nm, sr, col, kd, w, d⟩ := s
        simp only at k2
        obtain ⟨⟨f1, f2, f3, f4, f5, f6⟩, f7, f8, f9⟩ := id hv
        simp only at f1 f2 f3 f4 f5 f6 f7 f8
        obtain ⟨W, rfl⟩ : ∃ W : Nat, w = W := ⟨w.toNat, by omega⟩
        obtain ⟨D, rfl⟩ : ∃ D : Nat, d = D := ⟨d.toNat, by omega⟩
        exact ⟨_, est_ok nm sr col kd W D v l q hl (by simp only [maxLen]; omega) k2 hv ho hk0, rest_ok nm sr col kd W D v l q hl k2 hv ho hk0⟩
theorem mergeK_mem {kd : Int} {a b : List Int} {n : Nat} {z : Int} (ha : a.length = n) (hb : b.length = n) (hz : z ∈ mergeK kd a b) : ∃ i x y, i < n ∧ a[i]? = some x ∧ b[i]? = some y ∧ z = if kd = 0 then x + y else if x < y then y else x := by
  obtain ⟨i, hi⟩ := List.mem_iff_getElem?.1 hz
  have hin : i < n := by rw [← mergeK_length (kd := kd) ha hb]; exact (List.getElem?_eq_some_iff.1 hi).1
  obtain ⟨x, hx⟩ : ∃ x, a[i]? = some x := ⟨a[i]'(by omega), List.getElem?_eq_getElem _⟩
  obtain ⟨y, hy⟩ : ∃ y, b[i]? = some y := ⟨b[i]'(by omega), List.getElem?_eq_getElem _⟩
  refine ⟨i, x, y, hin, hx, hy, ?_⟩
  have := mergeK_at (kd := kd) hx hy
  rw [hi] at this
  injection this
theorem mer_both (s : Sk) (x y : List Int) (n m : Nat) (hn : x.length = n) (hm : y.length = m) (hnn : n ≤ 2000) (hmm : m ≤ 2000) : ∃ (M : List Int) (Q : Nat) (z : Int), M.length = Q ∧ Q ≤ 3000 ∧ AC Tryz.prog 73 [.agg s.c, .sl 1 n (intc .i64 x), .sl 1 m (intc .i64 y)] (.tup [.c (.sl 1 Q (intc .i64 M)), .c (iv z)]) [] 0 ∧ AC Tryz.prog 74 [.agg s.c, .sl 1 n (intc .i64 x), .sl 1 m (intc .i64 y)] (.tup [.c (.sl 1 Q (intc .i64 M)), .c (iv z)]) [] 0 := by
  obtain ⟨b1, p1, r1, hb1⟩ := vboth2 s x n hn (by simp only [maxLen]; omega)
  obtain ⟨b2, p2, r2, hb2⟩ := vboth2 s y m hm (by simp only [maxLen]; omega)
  by_cases hbad : b1 = false ∨ b2 = false
  · exact ⟨[], 0, 1, rfl, by omega, mer_bad s _ _ b1 b2 p1 p2 hbad, rmer_bad s _ _ b1 b2 r1 r2 hbad⟩
  · have e1 : b1 = true := by cases b1 with | true => rfl | false => exact absurd (.inl rfl) hbad
    have e2 : b2 = true := by cases b2 with | true => rfl | false => exact absurd (.inr rfl) hbad
    rw [e1] at p1 r1
    rw [e2] at p2 r2
    rcases hb1 e1 with ⟨k2, hf, hh⟩ | ⟨k2, hv⟩
    · rcases hb2 e2 with ⟨_, _, hh2⟩ | ⟨k3, _⟩
      · obtain ⟨nm, sr, col, kd, w, d⟩ := s
        simp only at k2
        subst k2
        obtain ⟨f1, f2, f3, f4, f5, f6⟩ := id hf
        simp only at f1 f2 f3 f4 hh hh2
        obtain ⟨W, rfl⟩ : ∃ W : Nat, w = W := ⟨w.toNat, by omega⟩
        obtain ⟨D, rfl⟩ : ∃ D : Nat, d = D := ⟨d.toNat, by omega⟩
        rw [Int.toNat_natCast] at hh hh2
        exact ⟨_, _, 0, rfl, by have := smallI_length W (x ++ y); omega, merge_bot nm sr col W D x y n m _ hn hm hf hh hh2 rfl, rmer_bot nm sr col W D x y n m _ hn hm hf hh hh2 rfl⟩
      · exact absurd k2 k3
    · rcases hb2 e2 with ⟨k3, _⟩ | ⟨_, hv2⟩
      · exact absurd k3 k2
      · obtain ⟨nm, sr, col, kd, w, d⟩ := s
        simp only at k2
        obtain ⟨⟨f1, f2, f3, f4, f5, f6⟩, f7, f8, f9⟩ := id hv
        have g8 := hv2.2.2.1
        have g9 := hv2.2.2.2
        simp only at f1 f2 f3 f4 f5 f6 f7 f8 g8
        have hnm : m = n := by omega
        subst hnm
        obtain ⟨W, rfl⟩ : ∃ W : Nat, w = W := ⟨w.toNat, by omega⟩
        obtain ⟨D, rfl⟩ : ∃ D : Nat, d = D := ⟨d.toNat, by omega⟩
        have lim : ∀ l : List Int, (∀ z ∈ l, okX (limZ kd) z) → ∀ z ∈ l, 0 ≤ z ∧ z ≤ 1073741824 := fun l h z hz => by
          have := h z hz
          unfold okX limZ at this
          split at this <;> omega
        have hl := mergeK_length (kd := kd) hn hm
        have hform := hv.1
        by_cases hle : kd = 0 → ∀ i, i < m → ∀ u v, x[i]? = some u → y[i]? = some v → u + v ≤ 1073741824
        · have hvm : valC ⟨nm, sr, col, kd, W, D⟩ (mergeK kd x y) := ⟨hform, k2, by simp only; rw [hl]; omega, fun z hz => by
            obtain ⟨i, u, v, hi, hu, hv', rfl⟩ := mergeK_mem hn hm hz
            have a1 := f9 u (List.mem_of_getElem? hu)
            have a2 := g9 v (List.mem_of_getElem? hv')
            unfold okX limZ at a1 a2 ⊢
            simp only at a1 a2 ⊢
            by_cases k0 : kd = 0
            · have := hle k0 i hi u v hu hv'
              rw [if_pos k0] at a1 a2 ⊢
              rw [if_pos k0]
              omega
            · rw [if_neg k0] at a1 a2 ⊢
              rw [if_neg k0]
              split <;> omega⟩
          exact ⟨_, m, 0, hl, by omega, merge_cells nm sr col kd W D x y m hn hm (by omega) hv hv2 hvm, rmer_cells nm sr col kd W D x y m (by omega) hn hm (by omega) (lim x f9) (lim y g9) r1 r2 hle⟩
        · have k0 : kd = 0 := Classical.byContradiction fun h => hle fun h2 => absurd h2 h
          subst k0
          have hle2 : ¬ ∀ i, i < m → ∀ u v, x[i]? = some u → y[i]? = some v → u + v ≤ 1073741824 := fun h => hle fun _ => h
          have hvm : ¬ valC ⟨nm, sr, col, 0, W, D⟩ (mergeK 0 x y) := fun h => hle2 fun i hi u v hu hv' => by
            have := h.2.2.2 (u + v) (List.mem_of_getElem? (by have := mergeK_at (kd := 0) hu hv'; rw [if_pos rfl] at this; exact this))
            unfold okX limZ at this
            simp only [if_true] at this
            exact this.2
          exact ⟨[], 0, 9, rfl, by omega, merge_over nm sr col 0 W D x y m hn hm (by omega) hv hv2 hvm, rmer_over nm sr col W D x y m hn hm (by omega) (lim x f9) (lim y g9) r1 r2 hle2⟩
end Go.Proofs.YtccnhpaldmjkbaaGreat
