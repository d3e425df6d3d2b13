/-
  Joined texts: F5 F6 F7 F8. Lemmas; no statement of a law.
-/
import Derived.Test.YtgofigkhdjjlmaaM1
import Derived.Test.YtgofigkhdjjlmaaM2
import Derived.Test.YtgofigkhdjjlmaaM3
import Derived.Test.YtgofigkhdjjlmaaM4
import Derived.Test.YtgofigkhdjjlmaaM5
import Derived.Test.YtgofigkhdjjlmaaM6
import Derived.Test.YtgofigkhdjjlmaaM7
import Derived.Test.YtgofigkhdjjlmaaM10
import Derived.Test.YtgofigkhdjjlmaaM12
import Derived.Test.YtgofigkhdjjlmaaM13
import Derived.Test.YtgofigkhdjjlmaaM14
import Derived.Test.YtgofigkhdjjlmaaM15
/-
  One bit of a signature turned. Plain.
-/
set_option linter.unusedVariables false
set_option linter.unusedSimpArgs false
namespace Go.Proofs.Ytgofigkhdjjlmaa
open Go Go.RowKit Go.Av
set_option maxRecDepth 100000
def flipB (d : List UInt8) (j : Nat) : List UInt8 := d.set j (d.getD j 0 ^^^ 1)
theorem flipB_length (d : List UInt8) (j : Nat) : (flipB d j).length = d.length := by simp [flipB]
theorem xor1_ne (b : UInt8) : b ^^^ 1 ≠ b := by
  intro h
  have := congrArg (fun x => x ^^^ b) h
  simp [UInt8.xor_comm, ← UInt8.xor_assoc] at this
theorem flipB_ne {d : List UInt8} {j : Nat} (h : j < d.length) : flipB d j ≠ d := by
  intro e
  have e2 : (flipB d j)[j]? = d[j]? := by rw [e]
  simp only [flipB, List.getElem?_set, h, if_true, List.getElem?_eq_getElem h, List.getD_eq_getElem?_getD, Option.getD_some] at e2
  exact xor1_ne _ (Option.some.inj e2)
theorem u8c_set' (l : List UInt8) (k : Nat) (b : UInt8) : u8c (l.set k b) = (u8c l).set k (.v (.int .u8 b.toNat)) := by simp [u8c, List.map_set]
theorem u8c_at (l : List UInt8) (k : Nat) (h : k < l.length) : (u8c l)[k]? = some (.v (.int .u8 ((l.getD k 0).toNat : Int))) := by
  simp [u8c, List.getElem?_map, List.getElem?_eq_getElem h]
theorem flat_setb : ∀ {L : List (List UInt8)} {i j : Nat} {b : UInt8}, all32 L → i < L.length → j < 32 → L.flatten.set (i * 32 + j) b = (L.set i ((L.getD i []).set j b)).flatten
  | [], i, j, b, _, h, _ => by simp at h
  | d :: L, 0, j, b, hL, h, hj => by
    have hd : d.length = 32 := hL d (by simp)
    simp only [Nat.zero_mul, Nat.zero_add, List.flatten_cons, List.set_cons_zero, List.getD_cons_zero]
    rw [List.set_append_left _ _ (by omega)]
  | d :: L, i + 1, j, b, hL, h, hj => by
    have hd : d.length = 32 := hL d (by simp)
    simp only [List.flatten_cons, List.set_cons_succ, List.getD_cons_succ]
    rw [List.set_append_right _ _ (by omega), show (i + 1) * 32 + j - d.length = i * 32 + j by omega, flat_setb (fun x hx => hL x (by simp [hx])) (by simpa using h) hj]
theorem flat_get : ∀ {L : List (List UInt8)} {i j : Nat}, all32 L → i < L.length → j < 32 → L.flatten.getD (i * 32 + j) 0 = (L.getD i []).getD j 0
  | [], i, j, _, h, _ => by simp at h
  | d :: L, 0, j, hL, h, hj => by
    have hd : d.length = 32 := hL d (by simp)
    rw [Nat.zero_mul, Nat.zero_add, List.flatten_cons, List.getD_cons_zero, List.getD_eq_getElem?_getD, List.getD_eq_getElem?_getD, List.getElem?_append_left (by omega)]
  | d :: L, i + 1, j, hL, h, hj => by
    have hd : d.length = 32 := hL d (by simp)
    have := flat_get (L := L) (i := i) (j := j) (fun x hx => hL x (by simp [hx])) (by simpa using h) hj
    rw [List.getD_cons_succ, ← this, List.flatten_cons, List.getD_eq_getElem?_getD, List.getD_eq_getElem?_getD, List.getElem?_append_right (by omega), show (i + 1) * 32 + j - d.length = i * 32 + j by omega]
def flipL (L : List (List UInt8)) (i j : Nat) : List (List UInt8) := L.set i (flipB (L.getD i []) j)
theorem flipL_length (L : List (List UInt8)) (i j : Nat) : (flipL L i j).length = L.length := by simp [flipL]
theorem flipL_all {L : List (List UInt8)} {i j : Nat} (hL : all32 L) (hi : i < L.length) : all32 (flipL L i j) := fun d hd => by
  rcases List.mem_or_eq_of_mem_set hd with h | rfl
  · exact hL d h
  · rw [flipB_length]; exact getD32 hL i hi
theorem flipL_dc {L : List (List UInt8)} {i j : Nat} {b : UInt8} (hL : all32 L) (hi : i < L.length) (hj : j < 32) (hb : (L.getD i []).getD j 0 = b) : (dc L).set (i * 32 + j) (.v (.int .u8 ((b ^^^ 1).toNat : Int))) = dc (flipL L i j) := by
  subst hb
  unfold dc flipL
  rw [← u8c_set', flat_setb hL hi hj]
  rfl
theorem flat_at_dc {L : List (List UInt8)} {i j : Nat} {b : UInt8} (hL : all32 L) (hi : i < L.length) (hj : j < 32) (hb : (L.getD i []).getD j 0 = b) : (dc L)[i * 32 + j]? = some (.v (.int .u8 (b.toNat : Int))) := by
  subst hb
  unfold dc
  rw [u8c_at _ _ (by rw [flat_len hL]; omega), flat_get hL hi hj]
section
variable {P : Program} {ev : Evl} {h : Heap} {d : Option Tmp} {T T' ty : TypeId} {x y : Operand} {pos : String} {aft : Array Edge} {gd : Option (Nat × Bool)}
theorem s_xor8 {b : UInt8} (hx : ev x = some (.c (.v (.int .u8 (b.toNat : Int))))) (hy : ev y = some (.c (.v (.int .u8 1)))) : Still P ⟨d, .binOp .xor T x y T', ty, pos, aft, gd⟩ ev h (.c (.v (.int .u8 ((b ^^^ 1).toNat : Int)))) :=
  s_xor hx hy (by
    show IntKind.u8.wrap ((BitVec.ofInt 8 (b.toNat : Int) ^^^ BitVec.ofInt 8 1).toNat : Int) = _
    have e1 : BitVec.ofInt 8 (b.toNat : Int) = b.toBitVec := by
      apply BitVec.eq_of_toNat_eq
      have := b.toNat_lt
      simp
    rw [e1, wu8 (by omega) (by have := (b.toBitVec ^^^ BitVec.ofInt 8 1).isLt; omega)]
    rfl)
theorem s_andN {m : Int} {k j : Nat} (hk : k < 1000) (hj : (BitVec.ofInt 64 m &&& BitVec.ofNat 64 k).toNat = j) (hx : ev x = some (.c (.v (.int .i64 m)))) (hy : ev y = some (.c (.v (.int .i64 (k : Int))))) : Still P ⟨d, .binOp .and T x y T', ty, pos, aft, gd⟩ ev h (.c (.v (.int .i64 (j : Int)))) :=
  s_and hx hy (by
    show IntKind.i64.wrap ((BitVec.ofInt 64 m &&& BitVec.ofInt 64 (k : Int)).toNat : Int) = _
    have e1 : BitVec.ofInt 64 (k : Int) = BitVec.ofNat 64 k := by simp
    rw [e1, hj]
    have : j ≤ k := by
      rw [← hj, BitVec.toNat_and, BitVec.toNat_ofNat, Nat.mod_eq_of_lt (by omega)]
      exact Nat.and_le_right
    exact w64 (by omega) (by omega))
end
theorem andN_le (m : Int) (k : Nat) (hk : k < 1000) : (BitVec.ofInt 64 m &&& BitVec.ofNat 64 k).toNat ≤ k := by
  rw [BitVec.toNat_and, BitVec.toNat_ofNat, Nat.mod_eq_of_lt (by omega)]
  exact Nat.and_le_right
theorem sibD_two {L : List (List UInt8)} {I : Nat} (h4 : L.length = 4) (hI : I < 4) : (sibD L I).length = 2 := by
  have hu := upD_length L
  have hv := upD_length (upD L)
  rw [h4] at hu
  rw [hu] at hv
  have hV : ∀ k, sibD (upD (upD L)) k = [] := fun k => sibD_end (by omega)
  have hU : ∀ k, k < 2 → (sibD (upD L) k).length = 1 := fun k hk => by
    by_cases h1 : k % 2 = 1
    · rw [sibD_odd (by omega) h1, hV]; rfl
    · rw [sibD_even (by omega) h1 (by omega), hV]; rfl
  by_cases h1 : I % 2 = 1
  · rw [sibD_odd (by omega) h1, List.length_cons, hU _ (by omega)]
  · rw [sibD_even (by omega) h1 (by omega), List.length_cons, hU _ (by omega)]
theorem pathD_two (seed : List UInt8) (I : Nat) (hI : I < 4) : (pathD seed I).length = 2 := by
  unfold pathD
  exact sibD_two (by simp [leavesD_length]) hI
theorem verP_root {r r' leaf : List UInt8} {i c : Int} {S : List (List UInt8)} (h : verP r leaf i c S = true) (hne : r' ≠ r) : verP r' leaf i c S = false := by
  unfold verP at h ⊢
  simp only [Bool.and_eq_true, decide_eq_true_eq] at h
  rw [decide_eq_false (p := (appP leaf i c S).1 = r') (fun e => hne (e.symm.trans h.2))]
  simp
theorem verS_root {r r' msg : List UInt8} {idx i c : Int} {P S : List (List UInt8)} (h : verS r msg idx P i c S = true) (hne : r' ≠ r) : verS r' msg idx P i c S = false := by
  unfold verS at h ⊢
  split at h
  · rename_i hc
    rw [if_pos hc]
    exact verP_root h hne
  · cases h
theorem verS_bad {r msg : List UInt8} {idx i c : Int} {P S : List (List UInt8)} (h : ¬ (P.length = 35 ∧ i = idx ∧ c = 4)) : verS r msg idx P i c S = false := by
  unfold verS
  rw [if_neg h]
end Go.Proofs.Ytgofigkhdjjlmaa
/-
  The law SignatureDamage (walk).
-/
set_option linter.unusedVariables false
set_option linter.unusedSimpArgs false
namespace Go.Proofs.Ytgofigkhdjjlmaa
open Go Go.RowKit Go.Av
set_option maxRecDepth 100000
theorem take_flat_len' {L : List (List UInt8)} (h : all32 L) {i : Nat} (hi : i ≤ L.length) : L.flatten.take (i * 32) = (L.take i).flatten := by
  have h1 : (L.take i).flatten.length = i * 32 := by
    have := take_flat_len h hi
    rwa [u8c_length] at this
  have h2 : L.flatten = (L.take i).flatten ++ (L.drop i).flatten := by rw [← List.flatten_append, List.take_append_drop]
  rw [h2, List.take_left' h1]
attribute [local irreducible] Still Adds AWL AW Drw DrwE EStep AC AWR Weak Frz Src RetK Out InK ItK AsK RdK permute
attribute [local simp] u8c_take u8c_drop u8c_app
set_option maxHeartbeats 4000000 in
theorem dam_4 (seed msg : List UInt8) (n I N J : Nat) (d0 d1 d2 : Int) (P S : List (List UInt8)) (R : List UInt8) (hs : seed.length = 32) (hn : msg.length = n) (hnn : n ≤ 100) (hI : I < 4) (hNl : N < 35) (hJl : J ≤ 31)
  (hr : ((BitVec.ofInt 64 d0).toNat : Int).tmod 4 = (I : Int)) (hN : ((BitVec.ofInt 64 d2).toNat : Int).tmod 35 = (N : Int)) (hJ : (BitVec.ofInt 64 d2 &&& BitVec.ofNat 64 31).toNat = J) (hC : (BitVec.ofInt 64 d1 &&& BitVec.ofNat 64 7).toNat = 4)
  (hP : all32 P) (hP35 : P.length = 35) (hS : all32 S) (hS2 : S.length = 2) (hR : R.length = 32)
  (hown : AC Try.prog 48 [.agg (u8c seed), iv I, .sl 1 n (u8c msg)] (.tup [.agg [.c (iv I), .own 0 0 35 32 true, .c (iv I), .c (iv 4), .own 1 0 2 32 true], .c (iv 0)]) [(0, .row 35 (dc P)), (1, .row 35 (dc S))] 2)
  (hpub : AC Try.prog 49 [.agg (u8c seed)] (.c (.agg (u8c R))) [] 0) (hgood : verS R msg I P I 4 S = true) :
  AC Try.prog 15 [.agg (u8c seed), .sl 1 n (u8c msg), .agg [iv d0, iv d1, iv d2]] (.c (.v (.bool true))) [] 0 := by
  have hus : (u8c seed).length = 32 := by rw [u8c_length, hs]
  have hur : (u8c R).length = 32 := by rw [u8c_length, hR]
  have hdP := dc_length hP hP35
  have hdS := dc_length hS hS2
  have h1 := sver_ok R msg n I P 35 I 5 S 2 hR hn (by omega) hP hP35 (by decide) hS hS2 (by decide)
  have h2 := rsver_ok R msg n I P 35 I 5 S 2 hR hn (by omega) hP hP35 (by decide) hS hS2 (by decide)
  rw [verS_bad (fun h => absurd h.2.2 (by decide))] at h1 h2
  refine ac_enter tabOk (sz := 153) Try.func15 rfl (by rw [Try.ntmps15]; rfl) ?_
  repeat' (first
    | ((with_reducible refine aw_seqk ?_); intro K hK hX)
    | ((with_reducible refine isC_reg ?_); refine aw_prune [0, 1, 2, 3, 5, 6, 7, 8, 9, 10, 11, 12, 13, 54] rfl rfl ?_; with_reducible refine aw_region ?_)
    | ((with_reducible refine isC_draw ?_); refine aw_prune [0, 1, 2, 3, 5, 6, 7, 8, 9, 10, 11, 12, 13, 54] rfl rfl ?_; refine aw_drwF [] ?_)
    | ((with_reducible refine isA_call ?_); refine awl_call g_none rfl (by unfold Body; kernel_rfl) rfl hown cvl_rfl rfl ?_)
    | ((first | with_reducible refine isA_call ?_ | with_reducible refine isD_call ?_); (first | refine wA ?_ | refine wN ?_ | refine wD ?_); (first | refine cF (h1) ?_ (hfz := (frzl_cons (frz_c cv_rfl) (frzl_cons (frz_c cv_rfl) (frzl_cons (frz_agg rfl (frzl_cons (frz_c cv_rfl) (frzl_cons (frz_ownW rfl rfl hdP) (frzl_cons (frz_c cv_rfl) (frzl_cons (frz_c cv_rfl) (frzl_cons (frz_ownW rfl rfl hdS) frzl_nil)))))) frzl_nil)))) | refine cF (h2) ?_ (hfz := (frzl_cons (frz_c cv_rfl) (frzl_cons (frz_c cv_rfl) (frzl_cons (frz_agg rfl (frzl_cons (frz_c cv_rfl) (frzl_cons (frz_ownW rfl rfl hdP) (frzl_cons (frz_c cv_rfl) (frzl_cons (frz_c cv_rfl) (frzl_cons (frz_ownW rfl rfl hdS) frzl_nil)))))) frzl_nil))))))
    | ((first | with_reducible refine isA_call ?_ | with_reducible refine isD_call ?_); (first | refine zA ?_ | refine zN ?_ | refine zD ?_); (first | refine c0 (hpub) ?_ | refine c0 (awake39_ok) ?_))
    | ((first | ((with_reducible refine isA_any ?_); refine xA ?_) | ((with_reducible refine isDk_any ?_); refine xD ?_)); (first | ((with_reducible refine e_bin ?_); (first | refine ex_i (s_rem (k := .u64) rfl rfl (by decide) hr) ?_ | refine ex_i (s_rem (k := .u64) rfl rfl (by decide) hN) ?_ | refine ex_i (s_andN (k := 7) (by decide) hC rfl rfl) ?_ | refine ex_i (s_andN (k := 31) (by decide) hJ rfl rfl) ?_ | refine ex_i (s_xor8 rfl rfl) ?_))))
    | ((with_reducible refine isA_store ?_); refine awl_storeA tabOk g_none rfl rfl rfl (by first | exact Parts.mixed _ | exact Parts.closed _) (by rfl) (by rfl) rfl (Nat.le_of_ble_eq_true rfl) (by rfl) ?_)
    | refine stA ?_
    | refine stD ?_
    | (refine hK _ _ _ _ ?_; clear hK hX K)
    | (refine hX _ _ _ _ _ (by simp) ?_; clear hK hX K))
  refine retK_mk (by first | exact .inl rfl | exact .inr rfl) (by exact trivial) rfl (ResL.one (ResA.tmp rfl)) (by first | exact out_c (by first | exact frz_c cv_rfl | exact frz_c cv_nil | exact frz_ownW rfl rfl (by first | rfl | with_reducible assumption | (simp <;> fail) | omega | (simp; omega) | assumption) | exact frz_eq (frz_c cv_rfl) (by first | rfl | (simp <;> fail) | fail)) | exact out_own rfl rfl)
set_option maxHeartbeats 4000000 in
theorem dam_2 (seed msg : List UInt8) (n I N J : Nat) (d0 d1 d2 : Int) (P S : List (List UInt8)) (R : List UInt8) (hs : seed.length = 32) (hn : msg.length = n) (hnn : n ≤ 100) (hI : I < 4) (hNl : N < 35) (hJl : J ≤ 31)
  (hr : ((BitVec.ofInt 64 d0).toNat : Int).tmod 4 = (I : Int)) (hN : ((BitVec.ofInt 64 d2).toNat : Int).tmod 35 = (N : Int)) (hJ : (BitVec.ofInt 64 d2 &&& BitVec.ofNat 64 31).toNat = J) (hC : (BitVec.ofInt 64 d1 &&& BitVec.ofNat 64 7).toNat = 2)
  (hP : all32 P) (hP35 : P.length = 35) (hS : all32 S) (hS2 : S.length = 2) (hR : R.length = 32)
  (hown : AC Try.prog 48 [.agg (u8c seed), iv I, .sl 1 n (u8c msg)] (.tup [.agg [.c (iv I), .own 0 0 35 32 true, .c (iv I), .c (iv 4), .own 1 0 2 32 true], .c (iv 0)]) [(0, .row 35 (dc P)), (1, .row 35 (dc S))] 2)
  (hpub : AC Try.prog 49 [.agg (u8c seed)] (.c (.agg (u8c R))) [] 0) (hgood : verS R msg I P I 4 S = true) :
  AC Try.prog 15 [.agg (u8c seed), .sl 1 n (u8c msg), .agg [iv d0, iv d1, iv d2]] (.c (.v (.bool true))) [] 0 := by
  have hus : (u8c seed).length = 32 := by rw [u8c_length, hs]
  have hur : (u8c R).length = 32 := by rw [u8c_length, hR]
  have hdP := dc_length hP hP35
  have hdS := dc_length hS hS2
  obtain ⟨I2, hI2⟩ : ∃ I2 : Nat, ((I : Int) + 1).tmod 4 = (I2 : Int) := ⟨(I + 1) % 4, by rw [r64 (by omega)]; omega⟩
  have hne : ¬ (P.length = 35 ∧ (I : Int) = (I2 : Int) ∧ (4 : Int) = 4) := fun h => by
    rw [r64 (by omega)] at hI2
    omega
  have h1 := sver_ok R msg n I2 P 35 I 4 S 2 hR hn (by omega) hP hP35 (by decide) hS hS2 (by decide)
  have h2 := rsver_ok R msg n I2 P 35 I 4 S 2 hR hn (by omega) hP hP35 (by decide) hS hS2 (by decide)
  rw [verS_bad hne] at h1 h2
  refine ac_enter tabOk (sz := 153) Try.func15 rfl (by rw [Try.ntmps15]; rfl) ?_
  repeat' (first
    | ((with_reducible refine aw_seqk ?_); intro K hK hX)
    | ((with_reducible refine isC_reg ?_); refine aw_prune [0, 1, 2, 3, 5, 6, 7, 8, 9, 10, 11, 12, 13, 54] rfl rfl ?_; with_reducible refine aw_region ?_)
    | ((with_reducible refine isC_draw ?_); refine aw_prune [0, 1, 2, 3, 5, 6, 7, 8, 9, 10, 11, 12, 13, 54] rfl rfl ?_; refine aw_drwF [] ?_)
    | ((with_reducible refine isA_call ?_); refine awl_call g_none rfl (by unfold Body; kernel_rfl) rfl hown cvl_rfl rfl ?_)
    | ((first | with_reducible refine isA_call ?_ | with_reducible refine isD_call ?_); (first | refine wA ?_ | refine wN ?_ | refine wD ?_); (first | refine cF (h1) ?_ (hfz := (frzl_cons (frz_c cv_rfl) (frzl_cons (frz_c cv_rfl) (frzl_cons (frz_agg rfl (frzl_cons (frz_c cv_rfl) (frzl_cons (frz_ownW rfl rfl hdP) (frzl_cons (frz_c cv_rfl) (frzl_cons (frz_c cv_rfl) (frzl_cons (frz_ownW rfl rfl hdS) frzl_nil)))))) frzl_nil)))) | refine cF (h2) ?_ (hfz := (frzl_cons (frz_c cv_rfl) (frzl_cons (frz_c cv_rfl) (frzl_cons (frz_agg rfl (frzl_cons (frz_c cv_rfl) (frzl_cons (frz_ownW rfl rfl hdP) (frzl_cons (frz_c cv_rfl) (frzl_cons (frz_c cv_rfl) (frzl_cons (frz_ownW rfl rfl hdS) frzl_nil)))))) frzl_nil))))))
    | ((first | with_reducible refine isA_call ?_ | with_reducible refine isD_call ?_); (first | refine zA ?_ | refine zN ?_ | refine zD ?_); (first | refine c0 (hpub) ?_ | refine c0 (awake39_ok) ?_))
    | ((first | ((with_reducible refine isA_any ?_); refine xA ?_) | ((with_reducible refine isDk_any ?_); refine xD ?_)); (first | ((with_reducible refine e_bin ?_); (first | refine ex_i (s_rem (k := .u64) rfl rfl (by decide) hr) ?_ | refine ex_i (s_rem (k := .u64) rfl rfl (by decide) hN) ?_ | refine ex_i (s_andN (k := 7) (by decide) hC rfl rfl) ?_ | refine ex_i (s_andN (k := 31) (by decide) hJ rfl rfl) ?_ | refine ex_i (s_xor8 rfl rfl) ?_ | refine ex_i (s_rem (k := .i64) rfl rfl (by decide) hI2) ?_))))
    | ((with_reducible refine isA_store ?_); refine awl_storeA tabOk g_none rfl rfl rfl (by first | exact Parts.mixed _ | exact Parts.closed _) (by rfl) (by rfl) rfl (Nat.le_of_ble_eq_true rfl) (by rfl) ?_)
    | refine stA ?_
    | refine stD ?_
    | (refine hK _ _ _ _ ?_; clear hK hX K)
    | (refine hX _ _ _ _ _ (by simp) ?_; clear hK hX K))
  refine retK_mk (by first | exact .inl rfl | exact .inr rfl) (by exact trivial) rfl (ResL.one (ResA.tmp rfl)) (by first | exact out_c (by first | exact frz_c cv_rfl | exact frz_c cv_nil | exact frz_ownW rfl rfl (by first | rfl | with_reducible assumption | (simp <;> fail) | omega | (simp; omega) | assumption) | exact frz_eq (frz_c cv_rfl) (by first | rfl | (simp <;> fail) | fail)) | exact out_own rfl rfl)
set_option maxHeartbeats 4000000 in
theorem dam_3 (seed msg : List UInt8) (n I N J : Nat) (d0 d1 d2 : Int) (P S : List (List UInt8)) (R : List UInt8) (hs : seed.length = 32) (hn : msg.length = n) (hnn : n ≤ 100) (hI : I < 4) (hNl : N < 35) (hJl : J ≤ 31)
  (hr : ((BitVec.ofInt 64 d0).toNat : Int).tmod 4 = (I : Int)) (hN : ((BitVec.ofInt 64 d2).toNat : Int).tmod 35 = (N : Int)) (hJ : (BitVec.ofInt 64 d2 &&& BitVec.ofNat 64 31).toNat = J) (hC : (BitVec.ofInt 64 d1 &&& BitVec.ofNat 64 7).toNat = 3)
  (hP : all32 P) (hP35 : P.length = 35) (hS : all32 S) (hS2 : S.length = 2) (hR : R.length = 32)
  (hown : AC Try.prog 48 [.agg (u8c seed), iv I, .sl 1 n (u8c msg)] (.tup [.agg [.c (iv I), .own 0 0 35 32 true, .c (iv I), .c (iv 4), .own 1 0 2 32 true], .c (iv 0)]) [(0, .row 35 (dc P)), (1, .row 35 (dc S))] 2)
  (hpub : AC Try.prog 49 [.agg (u8c seed)] (.c (.agg (u8c R))) [] 0) (hgood : verS R msg I P I 4 S = true) :
  AC Try.prog 15 [.agg (u8c seed), .sl 1 n (u8c msg), .agg [iv d0, iv d1, iv d2]] (.c (.v (.bool true))) [] 0 := by
  have hus : (u8c seed).length = 32 := by rw [u8c_length, hs]
  have hur : (u8c R).length = 32 := by rw [u8c_length, hR]
  have hdP := dc_length hP hP35
  have hdS := dc_length hS hS2
  have hPt : all32 (P.take N) := fun d hd => hP d (List.mem_of_mem_take hd)
  have hPl : (P.take N).length = N := by rw [List.length_take]; omega
  have hdT := dc_length hPt hPl
  have hyT : ((dc P).drop 0).take (N * 32) = dc (P.take N) := by
    rw [List.drop_zero]
    unfold dc
    rw [u8c_take, ← take_flat_len' hP (by omega)]
  have h1 := sver_ok R msg n I (P.take N) N I 4 S 2 hR hn (by omega) hPt hPl (by omega) hS hS2 (by decide)
  have h2 := rsver_ok R msg n I (P.take N) N I 4 S 2 hR hn (by omega) hPt hPl (by omega) hS hS2 (by decide)
  rw [verS_bad (fun h => by have := h.1; omega)] at h1 h2
  refine ac_enter tabOk (sz := 153) Try.func15 rfl (by rw [Try.ntmps15]; rfl) ?_
  repeat' (first
    | ((with_reducible refine aw_seqk ?_); intro K hK hX)
    | ((with_reducible refine isC_reg ?_); refine aw_prune [0, 1, 2, 3, 5, 6, 7, 8, 9, 10, 11, 12, 13, 54] rfl rfl ?_; with_reducible refine aw_region ?_)
    | ((with_reducible refine isC_draw ?_); refine aw_prune [0, 1, 2, 3, 5, 6, 7, 8, 9, 10, 11, 12, 13, 54] rfl rfl ?_; refine aw_drwF [] ?_)
    | ((with_reducible refine isA_call ?_); refine awl_call g_none rfl (by unfold Body; kernel_rfl) rfl hown cvl_rfl rfl ?_)
    | ((first | with_reducible refine isA_call ?_ | with_reducible refine isD_call ?_); (first | refine wA ?_ | refine wN ?_ | refine wD ?_); (first | refine cF (h1) ?_ (hfz := (frzl_cons (frz_c cv_rfl) (frzl_cons (frz_c cv_rfl) (frzl_cons (frz_agg rfl (frzl_cons (frz_c cv_rfl) (frzl_cons (frz_own rfl rfl hyT hdT) (frzl_cons (frz_c cv_rfl) (frzl_cons (frz_c cv_rfl) (frzl_cons (frz_ownW rfl rfl hdS) frzl_nil)))))) frzl_nil)))) | refine cF (h2) ?_ (hfz := (frzl_cons (frz_c cv_rfl) (frzl_cons (frz_c cv_rfl) (frzl_cons (frz_agg rfl (frzl_cons (frz_c cv_rfl) (frzl_cons (frz_own rfl rfl hyT hdT) (frzl_cons (frz_c cv_rfl) (frzl_cons (frz_c cv_rfl) (frzl_cons (frz_ownW rfl rfl hdS) frzl_nil)))))) frzl_nil))))))
    | ((first | with_reducible refine isA_call ?_ | with_reducible refine isD_call ?_); (first | refine zA ?_ | refine zN ?_ | refine zD ?_); (first | refine c0 (hpub) ?_ | refine c0 (awake39_ok) ?_))
    | ((first | ((with_reducible refine isA_any ?_); refine xA ?_) | ((with_reducible refine isDk_any ?_); refine xD ?_)); (first | ((with_reducible refine e_bin ?_); (first | refine ex_i (s_rem (k := .u64) rfl rfl (by decide) hr) ?_ | refine ex_i (s_rem (k := .u64) rfl rfl (by decide) hN) ?_ | refine ex_i (s_andN (k := 7) (by decide) hC rfl rfl) ?_ | refine ex_i (s_andN (k := 31) (by decide) hJ rfl rfl) ?_ | refine ex_i (s_xor8 rfl rfl) ?_))))
    | ((with_reducible refine isA_store ?_); refine awl_storeA tabOk g_none rfl rfl rfl (by first | exact Parts.mixed _ | exact Parts.closed _) (by rfl) (by rfl) rfl (Nat.le_of_ble_eq_true rfl) (by rfl) ?_)
    | refine stA ?_
    | refine stD ?_
    | (refine hK _ _ _ _ ?_; clear hK hX K)
    | (refine hX _ _ _ _ _ (by simp) ?_; clear hK hX K))
  refine retK_mk (by first | exact .inl rfl | exact .inr rfl) (by exact trivial) rfl (ResL.one (ResA.tmp rfl)) (by first | exact out_c (by first | exact frz_c cv_rfl | exact frz_c cv_nil | exact frz_ownW rfl rfl (by first | rfl | with_reducible assumption | (simp <;> fail) | omega | (simp; omega) | assumption) | exact frz_eq (frz_c cv_rfl) (by first | rfl | (simp <;> fail) | fail)) | exact out_own rfl rfl)
end Go.Proofs.Ytgofigkhdjjlmaa
/-
  The law SignatureDamage (walk, second part).
-/
set_option linter.unusedVariables false
set_option linter.unusedSimpArgs false
namespace Go.Proofs.Ytgofigkhdjjlmaa
open Go Go.RowKit Go.Av
set_option maxRecDepth 100000
attribute [local irreducible] Still Adds AWL AW Drw DrwE EStep AC AWR Weak Frz Src RetK Out InK ItK AsK RdK permute
attribute [local simp] u8c_take u8c_drop u8c_app
set_option maxHeartbeats 4000000 in
theorem dam_6 (seed msg : List UInt8) (n I N J : Nat) (d0 d1 d2 : Int) (P S : List (List UInt8)) (R : List UInt8) (hs : seed.length = 32) (hn : msg.length = n) (hnn : n ≤ 100) (hI : I < 4) (hNl : N < 35) (hJl : J ≤ 31)
  (hr : ((BitVec.ofInt 64 d0).toNat : Int).tmod 4 = (I : Int)) (hN : ((BitVec.ofInt 64 d2).toNat : Int).tmod 35 = (N : Int)) (hJ : (BitVec.ofInt 64 d2 &&& BitVec.ofNat 64 31).toNat = J) (hC : (BitVec.ofInt 64 d1 &&& BitVec.ofNat 64 7).toNat = 6)
  (hP : all32 P) (hP35 : P.length = 35) (hS : all32 S) (hS2 : S.length = 2) (hR : R.length = 32)
  (hown : AC Try.prog 48 [.agg (u8c seed), iv I, .sl 1 n (u8c msg)] (.tup [.agg [.c (iv I), .own 0 0 35 32 true, .c (iv I), .c (iv 4), .own 1 0 2 32 true], .c (iv 0)]) [(0, .row 35 (dc P)), (1, .row 35 (dc S))] 2)
  (hpub : AC Try.prog 49 [.agg (u8c seed)] (.c (.agg (u8c R))) [] 0) (hgood : verS R msg I P I 4 S = true) :
  AC Try.prog 15 [.agg (u8c seed), .sl 1 n (u8c msg), .agg [iv d0, iv d1, iv d2]] (.c (.v (.bool true))) [] 0 := by
  have hus : (u8c seed).length = 32 := by rw [u8c_length, hs]
  have hur : (u8c R).length = 32 := by rw [u8c_length, hR]
  have hdP := dc_length hP hP35
  have hdS := dc_length hS hS2
  obtain ⟨I2, hI2⟩ : ∃ I2 : Nat, ((I : Int) + 1).tmod 4 = (I2 : Int) := ⟨(I + 1) % 4, by rw [r64 (by omega)]; omega⟩
  have h1 := sver_ok R msg n I2 P 35 I2 4 S 2 hR hn (by omega) hP hP35 (by decide) hS hS2 (by decide)
  have h2 := rsver_ok R msg n I2 P 35 I2 4 S 2 hR hn (by omega) hP hP35 (by decide) hS hS2 (by decide)
  generalize verS R msg I2 P I2 4 S = res at h1 h2
  cases res with
  | false =>
    refine ac_enter tabOk (sz := 153) Try.func15 rfl (by rw [Try.ntmps15]; rfl) ?_
    repeat' (first
    | ((with_reducible refine aw_seqk ?_); intro K hK hX)
    | ((with_reducible refine isC_reg ?_); refine aw_prune [0, 1, 2, 3, 5, 6, 7, 8, 9, 10, 11, 12, 13, 54] rfl rfl ?_; with_reducible refine aw_region ?_)
    | ((with_reducible refine isC_draw ?_); refine aw_prune [0, 1, 2, 3, 5, 6, 7, 8, 9, 10, 11, 12, 13, 54] rfl rfl ?_; refine aw_drwF [] ?_)
    | ((with_reducible refine isA_call ?_); refine awl_call g_none rfl (by unfold Body; kernel_rfl) rfl hown cvl_rfl rfl ?_)
    | ((first | with_reducible refine isA_call ?_ | with_reducible refine isD_call ?_); (first | refine wA ?_ | refine wN ?_ | refine wD ?_); (first | refine cF (h1) ?_ (hfz := (frzl_cons (frz_c cv_rfl) (frzl_cons (frz_c cv_rfl) (frzl_cons (frz_agg rfl (frzl_cons (frz_c cv_rfl) (frzl_cons (frz_ownW rfl rfl hdP) (frzl_cons (frz_c cv_rfl) (frzl_cons (frz_c cv_rfl) (frzl_cons (frz_ownW rfl rfl hdS) frzl_nil)))))) frzl_nil)))) | refine cF (h2) ?_ (hfz := (frzl_cons (frz_c cv_rfl) (frzl_cons (frz_c cv_rfl) (frzl_cons (frz_agg rfl (frzl_cons (frz_c cv_rfl) (frzl_cons (frz_ownW rfl rfl hdP) (frzl_cons (frz_c cv_rfl) (frzl_cons (frz_c cv_rfl) (frzl_cons (frz_ownW rfl rfl hdS) frzl_nil)))))) frzl_nil))))))
    | ((first | with_reducible refine isA_call ?_ | with_reducible refine isD_call ?_); (first | refine zA ?_ | refine zN ?_ | refine zD ?_); (first | refine c0 (hpub) ?_ | refine c0 (awake39_ok) ?_))
    | ((first | ((with_reducible refine isA_any ?_); refine xA ?_) | ((with_reducible refine isDk_any ?_); refine xD ?_)); (first | ((with_reducible refine e_bin ?_); (first | refine ex_i (s_rem (k := .u64) rfl rfl (by decide) hr) ?_ | refine ex_i (s_rem (k := .u64) rfl rfl (by decide) hN) ?_ | refine ex_i (s_andN (k := 7) (by decide) hC rfl rfl) ?_ | refine ex_i (s_andN (k := 31) (by decide) hJ rfl rfl) ?_ | refine ex_i (s_xor8 rfl rfl) ?_ | refine ex_i (s_rem (k := .i64) rfl rfl (by decide) hI2) ?_))))
    | ((with_reducible refine isA_store ?_); refine awl_storeA tabOk g_none rfl rfl rfl (by first | exact Parts.mixed _ | exact Parts.closed _) (by rfl) (by rfl) rfl (Nat.le_of_ble_eq_true rfl) (by rfl) ?_)
    | refine stA ?_
    | refine stD ?_
    | (refine hK _ _ _ _ ?_; clear hK hX K)
    | (refine hX _ _ _ _ _ (by simp) ?_; clear hK hX K))
    refine retK_mk (by first | exact .inl rfl | exact .inr rfl) (by exact trivial) rfl (ResL.one (ResA.tmp rfl)) (by first | exact out_c (by first | exact frz_c cv_rfl | exact frz_c cv_nil | exact frz_ownW rfl rfl (by first | rfl | with_reducible assumption | (simp <;> fail) | omega | (simp; omega) | assumption) | exact frz_eq (frz_c cv_rfl) (by first | rfl | (simp <;> fail) | fail)) | exact out_own rfl rfl)
  | true =>
    refine ac_enter tabOk (sz := 153) Try.func15 rfl (by rw [Try.ntmps15]; rfl) ?_
    repeat' (first
    | ((with_reducible refine aw_seqk ?_); intro K hK hX)
    | ((with_reducible refine isC_reg ?_); refine aw_prune [0, 1, 2, 3, 5, 6, 7, 8, 9, 10, 11, 12, 13, 54] rfl rfl ?_; with_reducible refine aw_region ?_)
    | ((with_reducible refine isC_draw ?_); refine aw_prune [0, 1, 2, 3, 5, 6, 7, 8, 9, 10, 11, 12, 13, 54] rfl rfl ?_; refine aw_drwF [] ?_)
    | ((with_reducible refine isA_call ?_); refine awl_call g_none rfl (by unfold Body; kernel_rfl) rfl hown cvl_rfl rfl ?_)
    | ((first | with_reducible refine isA_call ?_ | with_reducible refine isD_call ?_); (first | refine wA ?_ | refine wN ?_ | refine wD ?_); (first | refine cF (h1) ?_ (hfz := (frzl_cons (frz_c cv_rfl) (frzl_cons (frz_c cv_rfl) (frzl_cons (frz_agg rfl (frzl_cons (frz_c cv_rfl) (frzl_cons (frz_ownW rfl rfl hdP) (frzl_cons (frz_c cv_rfl) (frzl_cons (frz_c cv_rfl) (frzl_cons (frz_ownW rfl rfl hdS) frzl_nil)))))) frzl_nil)))) | refine cF (h2) ?_ (hfz := (frzl_cons (frz_c cv_rfl) (frzl_cons (frz_c cv_rfl) (frzl_cons (frz_agg rfl (frzl_cons (frz_c cv_rfl) (frzl_cons (frz_ownW rfl rfl hdP) (frzl_cons (frz_c cv_rfl) (frzl_cons (frz_c cv_rfl) (frzl_cons (frz_ownW rfl rfl hdS) frzl_nil)))))) frzl_nil))))))
    | ((first | with_reducible refine isA_call ?_ | with_reducible refine isD_call ?_); (first | refine zA ?_ | refine zN ?_ | refine zD ?_); (first | refine c0 (hpub) ?_ | refine c0 (awake39_ok) ?_))
    | ((first | ((with_reducible refine isA_any ?_); refine xA ?_) | ((with_reducible refine isDk_any ?_); refine xD ?_)); (first | ((with_reducible refine e_bin ?_); (first | refine ex_i (s_rem (k := .u64) rfl rfl (by decide) hr) ?_ | refine ex_i (s_rem (k := .u64) rfl rfl (by decide) hN) ?_ | refine ex_i (s_andN (k := 7) (by decide) hC rfl rfl) ?_ | refine ex_i (s_andN (k := 31) (by decide) hJ rfl rfl) ?_ | refine ex_i (s_xor8 rfl rfl) ?_ | refine ex_i (s_rem (k := .i64) rfl rfl (by decide) hI2) ?_))))
    | ((with_reducible refine isA_store ?_); refine awl_storeA tabOk g_none rfl rfl rfl (by first | exact Parts.mixed _ | exact Parts.closed _) (by rfl) (by rfl) rfl (Nat.le_of_ble_eq_true rfl) (by rfl) ?_)
    | refine stA ?_
    | refine stD ?_
    | (refine hK _ _ _ _ ?_; clear hK hX K)
    | (refine hX _ _ _ _ _ (by simp) ?_; clear hK hX K))
    refine retK_mk (by first | exact .inl rfl | exact .inr rfl) (by exact trivial) rfl (ResL.one (ResA.tmp rfl)) (by first | exact out_c (by first | exact frz_c cv_rfl | exact frz_c cv_nil | exact frz_ownW rfl rfl (by first | rfl | with_reducible assumption | (simp <;> fail) | omega | (simp; omega) | assumption) | exact frz_eq (frz_c cv_rfl) (by first | rfl | (simp <;> fail) | fail)) | exact out_own rfl rfl)
set_option maxHeartbeats 4000000 in
theorem dam_0 (seed msg : List UInt8) (n I N J : Nat) (d0 d1 d2 : Int) (P S : List (List UInt8)) (R : List UInt8) (hs : seed.length = 32) (hn : msg.length = n) (hnn : n ≤ 100) (hI : I < 4) (hNl : N < 35) (hJl : J ≤ 31)
  (hr : ((BitVec.ofInt 64 d0).toNat : Int).tmod 4 = (I : Int)) (hN : ((BitVec.ofInt 64 d2).toNat : Int).tmod 35 = (N : Int)) (hJ : (BitVec.ofInt 64 d2 &&& BitVec.ofNat 64 31).toNat = J) (hC : (BitVec.ofInt 64 d1 &&& BitVec.ofNat 64 7).toNat = 0)
  (hP : all32 P) (hP35 : P.length = 35) (hS : all32 S) (hS2 : S.length = 2) (hR : R.length = 32)
  (hown : AC Try.prog 48 [.agg (u8c seed), iv I, .sl 1 n (u8c msg)] (.tup [.agg [.c (iv I), .own 0 0 35 32 true, .c (iv I), .c (iv 4), .own 1 0 2 32 true], .c (iv 0)]) [(0, .row 35 (dc P)), (1, .row 35 (dc S))] 2)
  (hpub : AC Try.prog 49 [.agg (u8c seed)] (.c (.agg (u8c R))) [] 0) (hgood : verS R msg I P I 4 S = true) :
  AC Try.prog 15 [.agg (u8c seed), .sl 1 n (u8c msg), .agg [iv d0, iv d1, iv d2]] (.c (.v (.bool true))) [] 0 := by
  have hus : (u8c seed).length = 32 := by rw [u8c_length, hs]
  have hur : (u8c R).length = 32 := by rw [u8c_length, hR]
  have hdP := dc_length hP hP35
  have hdS := dc_length hS hS2
  obtain ⟨b, hb⟩ : ∃ b, (P.getD N []).getD J 0 = b := ⟨_, rfl⟩
  have hfl := flipL_dc hP (by omega : N < P.length) (by omega : J < 32) hb
  have hfa := flat_at_dc hP (by omega : N < P.length) (by omega : J < 32) hb
  have hFa := flipL_all (j := J) hP (by omega : N < P.length)
  have hFl := flipL_length P N J
  rw [hP35] at hFl
  have hdF := dc_length hFa hFl
  have h1 := sver_ok R msg n I (flipL P N J) 35 I 4 S 2 hR hn (by omega) hFa hFl (by decide) hS hS2 (by decide)
  have h2 := rsver_ok R msg n I (flipL P N J) 35 I 4 S 2 hR hn (by omega) hFa hFl (by decide) hS hS2 (by decide)
  generalize verS R msg I (flipL P N J) I 4 S = res at h1 h2
  unfold sigV at h1 h2
  have hfl' : (dc P).set (0 + N * 32 + J * 1) (.v (.int .u8 ((b ^^^ 1).toNat : Int))) = dc (flipL P N J) := by rw [Nat.zero_add, Nat.mul_one]; exact hfl
  rw [← hfl'] at h1 h2 hdF
  cases res with
  | false =>
    refine ac_enter tabOk (sz := 153) Try.func15 rfl (by rw [Try.ntmps15]; rfl) ?_
    repeat' (first
    | ((with_reducible refine aw_seqk ?_); intro K hK hX)
    | ((with_reducible refine isC_reg ?_); refine aw_prune [0, 1, 2, 3, 5, 6, 7, 8, 9, 10, 11, 12, 13, 54] rfl rfl ?_; with_reducible refine aw_region ?_)
    | ((with_reducible refine isC_draw ?_); refine aw_prune [0, 1, 2, 3, 5, 6, 7, 8, 9, 10, 11, 12, 13, 54] rfl rfl ?_; refine aw_drwF [] ?_)
    | ((with_reducible refine isA_call ?_); refine awl_call g_none rfl (by unfold Body; kernel_rfl) rfl hown cvl_rfl rfl ?_)
    | ((first | with_reducible refine isA_call ?_ | with_reducible refine isD_call ?_); (first | refine wA ?_ | refine wN ?_ | refine wD ?_); (first | refine cF (h1) ?_ (hfz := (frzl_cons (frz_c cv_rfl) (frzl_cons (frz_c cv_rfl) (frzl_cons (frz_agg rfl (frzl_cons (frz_c cv_rfl) (frzl_cons (frz_ownW rfl rfl hdF) (frzl_cons (frz_c cv_rfl) (frzl_cons (frz_c cv_rfl) (frzl_cons (frz_ownW rfl rfl hdS) frzl_nil)))))) frzl_nil)))) | refine cF (h2) ?_ (hfz := (frzl_cons (frz_c cv_rfl) (frzl_cons (frz_c cv_rfl) (frzl_cons (frz_agg rfl (frzl_cons (frz_c cv_rfl) (frzl_cons (frz_ownW rfl rfl hdF) (frzl_cons (frz_c cv_rfl) (frzl_cons (frz_c cv_rfl) (frzl_cons (frz_ownW rfl rfl hdS) frzl_nil)))))) frzl_nil))))))
    | ((first | with_reducible refine isA_call ?_ | with_reducible refine isD_call ?_); (first | refine zA ?_ | refine zN ?_ | refine zD ?_); (first | refine c0 (hpub) ?_ | refine c0 (awake39_ok) ?_))
    | ((first | ((with_reducible refine isA_any ?_); refine xA ?_) | ((with_reducible refine isDk_any ?_); refine xD ?_)); (first | ((with_reducible refine e_bin ?_); (first | refine ex_i (s_rem (k := .u64) rfl rfl (by decide) hr) ?_ | refine ex_i (s_rem (k := .u64) rfl rfl (by decide) hN) ?_ | refine ex_i (s_andN (k := 7) (by decide) hC rfl rfl) ?_ | refine ex_i (s_andN (k := 31) (by decide) hJ rfl rfl) ?_ | refine ex_i (s_xor8 rfl rfl) ?_)) | ((with_reducible refine e_load ?_); (first | refine ex_i (s_load1 tabOk rfl rfl rfl rfl (by (rw [Nat.zero_add, Nat.mul_one]; exact hfa))) ?_ | refine ex_i (s_load1r tabOk rfl rfl rfl rfl (by (rw [Nat.zero_add, Nat.mul_one]; exact hfa))) ?_ | refine ex_i (s_load1i tabOk rfl rfl rfl (by (rw [Nat.zero_add, Nat.mul_one]; exact hfa))) ?_)) | ((with_reducible refine e_ix ?_); (first | refine ex_i (s_ixV1 tabOk rfl rfl (by first | with_reducible exact cast_self _ | with_reducible exact cast_lit _ | exact nt (by omega) | rfl) rfl rfl rfl rfl rfl (by first | exact Nat.le_of_ble_eq_true rfl | omega | (simp; omega)) (by (rw [Nat.zero_add, Nat.mul_one]; exact hfa))) ?_ | refine ex_i (s_ixStr tabOk rfl rfl (by first | with_reducible exact cast_self _ | with_reducible exact cast_lit _ | exact nt (by omega) | rfl) rfl rfl (by (rw [Nat.zero_add, Nat.mul_one]; exact hfa))) ?_))))
    | ((with_reducible refine isA_store ?_); refine awl_storeA tabOk g_none rfl rfl rfl (by first | exact Parts.mixed _ | exact Parts.closed _) (by rfl) (by rfl) rfl (Nat.le_of_ble_eq_true rfl) (by rfl) ?_)
    | ((with_reducible refine isA_store ?_); (refine awl_store1r tabOk g_none rfl rfl rfl rfl rfl rfl (by first | omega | exact Nat.le_of_ble_eq_true rfl | omega | (simp; omega)) ?_))
    | refine stA ?_
    | refine stD ?_
    | (refine hK _ _ _ _ ?_; clear hK hX K)
    | (refine hX _ _ _ _ _ (by simp) ?_; clear hK hX K))
    refine retK_mk (by first | exact .inl rfl | exact .inr rfl) (by exact trivial) rfl (ResL.one (ResA.tmp rfl)) (by first | exact out_c (by first | exact frz_c cv_rfl | exact frz_c cv_nil | exact frz_ownW rfl rfl (by first | rfl | with_reducible assumption | (simp <;> fail) | omega | (simp; omega) | assumption) | exact frz_eq (frz_c cv_rfl) (by first | rfl | (simp <;> fail) | fail)) | exact out_own rfl rfl)
  | true =>
    refine ac_enter tabOk (sz := 153) Try.func15 rfl (by rw [Try.ntmps15]; rfl) ?_
    repeat' (first
    | ((with_reducible refine aw_seqk ?_); intro K hK hX)
    | ((with_reducible refine isC_reg ?_); refine aw_prune [0, 1, 2, 3, 5, 6, 7, 8, 9, 10, 11, 12, 13, 54] rfl rfl ?_; with_reducible refine aw_region ?_)
    | ((with_reducible refine isC_draw ?_); refine aw_prune [0, 1, 2, 3, 5, 6, 7, 8, 9, 10, 11, 12, 13, 54] rfl rfl ?_; refine aw_drwF [] ?_)
    | ((with_reducible refine isA_call ?_); refine awl_call g_none rfl (by unfold Body; kernel_rfl) rfl hown cvl_rfl rfl ?_)
    | ((first | with_reducible refine isA_call ?_ | with_reducible refine isD_call ?_); (first | refine wA ?_ | refine wN ?_ | refine wD ?_); (first | refine cF (h1) ?_ (hfz := (frzl_cons (frz_c cv_rfl) (frzl_cons (frz_c cv_rfl) (frzl_cons (frz_agg rfl (frzl_cons (frz_c cv_rfl) (frzl_cons (frz_ownW rfl rfl hdF) (frzl_cons (frz_c cv_rfl) (frzl_cons (frz_c cv_rfl) (frzl_cons (frz_ownW rfl rfl hdS) frzl_nil)))))) frzl_nil)))) | refine cF (h2) ?_ (hfz := (frzl_cons (frz_c cv_rfl) (frzl_cons (frz_c cv_rfl) (frzl_cons (frz_agg rfl (frzl_cons (frz_c cv_rfl) (frzl_cons (frz_ownW rfl rfl hdF) (frzl_cons (frz_c cv_rfl) (frzl_cons (frz_c cv_rfl) (frzl_cons (frz_ownW rfl rfl hdS) frzl_nil)))))) frzl_nil))))))
    | ((first | with_reducible refine isA_call ?_ | with_reducible refine isD_call ?_); (first | refine zA ?_ | refine zN ?_ | refine zD ?_); (first | refine c0 (hpub) ?_ | refine c0 (awake39_ok) ?_))
    | ((first | ((with_reducible refine isA_any ?_); refine xA ?_) | ((with_reducible refine isDk_any ?_); refine xD ?_)); (first | ((with_reducible refine e_bin ?_); (first | refine ex_i (s_rem (k := .u64) rfl rfl (by decide) hr) ?_ | refine ex_i (s_rem (k := .u64) rfl rfl (by decide) hN) ?_ | refine ex_i (s_andN (k := 7) (by decide) hC rfl rfl) ?_ | refine ex_i (s_andN (k := 31) (by decide) hJ rfl rfl) ?_ | refine ex_i (s_xor8 rfl rfl) ?_)) | ((with_reducible refine e_load ?_); (first | refine ex_i (s_load1 tabOk rfl rfl rfl rfl (by (rw [Nat.zero_add, Nat.mul_one]; exact hfa))) ?_ | refine ex_i (s_load1r tabOk rfl rfl rfl rfl (by (rw [Nat.zero_add, Nat.mul_one]; exact hfa))) ?_ | refine ex_i (s_load1i tabOk rfl rfl rfl (by (rw [Nat.zero_add, Nat.mul_one]; exact hfa))) ?_)) | ((with_reducible refine e_ix ?_); (first | refine ex_i (s_ixV1 tabOk rfl rfl (by first | with_reducible exact cast_self _ | with_reducible exact cast_lit _ | exact nt (by omega) | rfl) rfl rfl rfl rfl rfl (by first | exact Nat.le_of_ble_eq_true rfl | omega | (simp; omega)) (by (rw [Nat.zero_add, Nat.mul_one]; exact hfa))) ?_ | refine ex_i (s_ixStr tabOk rfl rfl (by first | with_reducible exact cast_self _ | with_reducible exact cast_lit _ | exact nt (by omega) | rfl) rfl rfl (by (rw [Nat.zero_add, Nat.mul_one]; exact hfa))) ?_))))
    | ((with_reducible refine isA_store ?_); refine awl_storeA tabOk g_none rfl rfl rfl (by first | exact Parts.mixed _ | exact Parts.closed _) (by rfl) (by rfl) rfl (Nat.le_of_ble_eq_true rfl) (by rfl) ?_)
    | ((with_reducible refine isA_store ?_); (refine awl_store1r tabOk g_none rfl rfl rfl rfl rfl rfl (by first | omega | exact Nat.le_of_ble_eq_true rfl | omega | (simp; omega)) ?_))
    | refine stA ?_
    | refine stD ?_
    | (refine hK _ _ _ _ ?_; clear hK hX K)
    | (refine hX _ _ _ _ _ (by simp) ?_; clear hK hX K))
    refine retK_mk (by first | exact .inl rfl | exact .inr rfl) (by exact trivial) rfl (ResL.one (ResA.tmp rfl)) (by first | exact out_c (by first | exact frz_c cv_rfl | exact frz_c cv_nil | exact frz_ownW rfl rfl (by first | rfl | with_reducible assumption | (simp <;> fail) | omega | (simp; omega) | assumption) | exact frz_eq (frz_c cv_rfl) (by first | rfl | (simp <;> fail) | fail)) | exact out_own rfl rfl)
end Go.Proofs.Ytgofigkhdjjlmaa
/-
  The law SignatureDamage (walk, third part).
-/
set_option linter.unusedVariables false
set_option linter.unusedSimpArgs false
namespace Go.Proofs.Ytgofigkhdjjlmaa
open Go Go.RowKit Go.Av
set_option maxRecDepth 100000
attribute [local irreducible] Still Adds AWL AW Drw DrwE EStep AC AWR Weak Frz Src RetK Out InK ItK AsK RdK permute
attribute [local simp] u8c_take u8c_drop u8c_app
set_option maxHeartbeats 4000000 in
theorem dam_1 (seed msg : List UInt8) (n I N J : Nat) (d0 d1 d2 : Int) (P S : List (List UInt8)) (R : List UInt8) (hs : seed.length = 32) (hn : msg.length = n) (hnn : n ≤ 100) (hI : I < 4) (hNl : N < 35) (hJl : J ≤ 31)
  (hr : ((BitVec.ofInt 64 d0).toNat : Int).tmod 4 = (I : Int)) (hN : ((BitVec.ofInt 64 d2).toNat : Int).tmod 35 = (N : Int)) (hJ : (BitVec.ofInt 64 d2 &&& BitVec.ofNat 64 31).toNat = J) (hC : (BitVec.ofInt 64 d1 &&& BitVec.ofNat 64 7).toNat = 1)
  (hP : all32 P) (hP35 : P.length = 35) (hS : all32 S) (hS2 : S.length = 2) (hR : R.length = 32)
  (hown : AC Try.prog 48 [.agg (u8c seed), iv I, .sl 1 n (u8c msg)] (.tup [.agg [.c (iv I), .own 0 0 35 32 true, .c (iv I), .c (iv 4), .own 1 0 2 32 true], .c (iv 0)]) [(0, .row 35 (dc P)), (1, .row 35 (dc S))] 2)
  (hpub : AC Try.prog 49 [.agg (u8c seed)] (.c (.agg (u8c R))) [] 0) (hgood : verS R msg I P I 4 S = true) :
  AC Try.prog 15 [.agg (u8c seed), .sl 1 n (u8c msg), .agg [iv d0, iv d1, iv d2]] (.c (.v (.bool true))) [] 0 := by
  have hus : (u8c seed).length = 32 := by rw [u8c_length, hs]
  have hur : (u8c R).length = 32 := by rw [u8c_length, hR]
  have hdP := dc_length hP hP35
  have hdS := dc_length hS hS2
  obtain ⟨b, hb⟩ : ∃ b, (S.getD 0 []).getD J 0 = b := ⟨_, rfl⟩
  have hfl := flipL_dc hS (by omega : 0 < S.length) (by omega : J < 32) hb
  have hfa := flat_at_dc hS (by omega : 0 < S.length) (by omega : J < 32) hb
  have hFa := flipL_all (j := J) hS (by omega : 0 < S.length)
  have hFl := flipL_length S 0 J
  rw [hS2] at hFl
  have hdF := dc_length hFa hFl
  have h1 := sver_ok R msg n I P 35 I 4 (flipL S 0 J) 2 hR hn (by omega) hP hP35 (by decide) hFa hFl (by decide)
  have h2 := rsver_ok R msg n I P 35 I 4 (flipL S 0 J) 2 hR hn (by omega) hP hP35 (by decide) hFa hFl (by decide)
  generalize verS R msg I P I 4 (flipL S 0 J) = res at h1 h2
  unfold sigV at h1 h2
  have e0 : 0 + 0 * 32 + J * 1 = 0 * 32 + J := by omega
  rw [← e0] at hfl hfa
  rw [← hfl] at h1 h2 hdF
  cases res with
  | false =>
    refine ac_enter tabOk (sz := 153) Try.func15 rfl (by rw [Try.ntmps15]; rfl) ?_
    repeat' (first
    | ((with_reducible refine aw_seqk ?_); intro K hK hX)
    | ((with_reducible refine isC_reg ?_); refine aw_prune [0, 1, 2, 3, 5, 6, 7, 8, 9, 10, 11, 12, 13, 54] rfl rfl ?_; with_reducible refine aw_region ?_)
    | ((with_reducible refine isC_draw ?_); refine aw_prune [0, 1, 2, 3, 5, 6, 7, 8, 9, 10, 11, 12, 13, 54] rfl rfl ?_; refine aw_drwF [] ?_)
    | ((with_reducible refine isA_call ?_); refine awl_call g_none rfl (by unfold Body; kernel_rfl) rfl hown cvl_rfl rfl ?_)
    | ((first | with_reducible refine isA_call ?_ | with_reducible refine isD_call ?_); (first | refine wA ?_ | refine wN ?_ | refine wD ?_); (first | refine cF (h1) ?_ (hfz := (frzl_cons (frz_c cv_rfl) (frzl_cons (frz_c cv_rfl) (frzl_cons (frz_agg rfl (frzl_cons (frz_c cv_rfl) (frzl_cons (frz_ownW rfl rfl hdP) (frzl_cons (frz_c cv_rfl) (frzl_cons (frz_c cv_rfl) (frzl_cons (frz_ownW rfl rfl hdF) frzl_nil)))))) frzl_nil)))) | refine cF (h2) ?_ (hfz := (frzl_cons (frz_c cv_rfl) (frzl_cons (frz_c cv_rfl) (frzl_cons (frz_agg rfl (frzl_cons (frz_c cv_rfl) (frzl_cons (frz_ownW rfl rfl hdP) (frzl_cons (frz_c cv_rfl) (frzl_cons (frz_c cv_rfl) (frzl_cons (frz_ownW rfl rfl hdF) frzl_nil)))))) frzl_nil))))))
    | ((first | with_reducible refine isA_call ?_ | with_reducible refine isD_call ?_); (first | refine zA ?_ | refine zN ?_ | refine zD ?_); (first | refine c0 (hpub) ?_ | refine c0 (awake39_ok) ?_))
    | ((first | ((with_reducible refine isA_any ?_); refine xA ?_) | ((with_reducible refine isDk_any ?_); refine xD ?_)); (first | ((with_reducible refine e_bin ?_); (first | refine ex_i (s_rem (k := .u64) rfl rfl (by decide) hr) ?_ | refine ex_i (s_rem (k := .u64) rfl rfl (by decide) hN) ?_ | refine ex_i (s_andN (k := 7) (by decide) hC rfl rfl) ?_ | refine ex_i (s_andN (k := 31) (by decide) hJ rfl rfl) ?_ | refine ex_i (s_xor8 rfl rfl) ?_)) | ((with_reducible refine e_load ?_); (first | refine ex_i (s_load1 tabOk rfl rfl rfl rfl (by exact hfa)) ?_ | refine ex_i (s_load1r tabOk rfl rfl rfl rfl (by exact hfa)) ?_ | refine ex_i (s_load1i tabOk rfl rfl rfl (by exact hfa)) ?_)) | ((with_reducible refine e_ix ?_); (first | refine ex_i (s_ixV1 tabOk rfl rfl (by first | with_reducible exact cast_self _ | with_reducible exact cast_lit _ | exact nt (by omega) | rfl) rfl rfl rfl rfl rfl (by first | exact Nat.le_of_ble_eq_true rfl | omega | (simp; omega)) (by exact hfa)) ?_ | refine ex_i (s_ixStr tabOk rfl rfl (by first | with_reducible exact cast_self _ | with_reducible exact cast_lit _ | exact nt (by omega) | rfl) rfl rfl (by exact hfa)) ?_))))
    | ((with_reducible refine isA_store ?_); refine awl_storeA tabOk g_none rfl rfl rfl (by first | exact Parts.mixed _ | exact Parts.closed _) (by rfl) (by rfl) rfl (Nat.le_of_ble_eq_true rfl) (by rfl) ?_)
    | ((with_reducible refine isA_store ?_); (refine awl_store1r tabOk g_none rfl rfl rfl rfl rfl rfl (by first | omega | exact Nat.le_of_ble_eq_true rfl | omega | (simp; omega)) ?_))
    | refine stA ?_
    | refine stD ?_
    | (refine hK _ _ _ _ ?_; clear hK hX K)
    | (refine hX _ _ _ _ _ (by simp) ?_; clear hK hX K))
    refine retK_mk (by first | exact .inl rfl | exact .inr rfl) (by exact trivial) rfl (ResL.one (ResA.tmp rfl)) (by first | exact out_c (by first | exact frz_c cv_rfl | exact frz_c cv_nil | exact frz_ownW rfl rfl (by first | rfl | with_reducible assumption | (simp <;> fail) | omega | (simp; omega) | assumption) | exact frz_eq (frz_c cv_rfl) (by first | rfl | (simp <;> fail) | fail)) | exact out_own rfl rfl)
  | true =>
    refine ac_enter tabOk (sz := 153) Try.func15 rfl (by rw [Try.ntmps15]; rfl) ?_
    repeat' (first
    | ((with_reducible refine aw_seqk ?_); intro K hK hX)
    | ((with_reducible refine isC_reg ?_); refine aw_prune [0, 1, 2, 3, 5, 6, 7, 8, 9, 10, 11, 12, 13, 54] rfl rfl ?_; with_reducible refine aw_region ?_)
    | ((with_reducible refine isC_draw ?_); refine aw_prune [0, 1, 2, 3, 5, 6, 7, 8, 9, 10, 11, 12, 13, 54] rfl rfl ?_; refine aw_drwF [] ?_)
    | ((with_reducible refine isA_call ?_); refine awl_call g_none rfl (by unfold Body; kernel_rfl) rfl hown cvl_rfl rfl ?_)
    | ((first | with_reducible refine isA_call ?_ | with_reducible refine isD_call ?_); (first | refine wA ?_ | refine wN ?_ | refine wD ?_); (first | refine cF (h1) ?_ (hfz := (frzl_cons (frz_c cv_rfl) (frzl_cons (frz_c cv_rfl) (frzl_cons (frz_agg rfl (frzl_cons (frz_c cv_rfl) (frzl_cons (frz_ownW rfl rfl hdP) (frzl_cons (frz_c cv_rfl) (frzl_cons (frz_c cv_rfl) (frzl_cons (frz_ownW rfl rfl hdF) frzl_nil)))))) frzl_nil)))) | refine cF (h2) ?_ (hfz := (frzl_cons (frz_c cv_rfl) (frzl_cons (frz_c cv_rfl) (frzl_cons (frz_agg rfl (frzl_cons (frz_c cv_rfl) (frzl_cons (frz_ownW rfl rfl hdP) (frzl_cons (frz_c cv_rfl) (frzl_cons (frz_c cv_rfl) (frzl_cons (frz_ownW rfl rfl hdF) frzl_nil)))))) frzl_nil))))))
    | ((first | with_reducible refine isA_call ?_ | with_reducible refine isD_call ?_); (first | refine zA ?_ | refine zN ?_ | refine zD ?_); (first | refine c0 (hpub) ?_ | refine c0 (awake39_ok) ?_))
    | ((first | ((with_reducible refine isA_any ?_); refine xA ?_) | ((with_reducible refine isDk_any ?_); refine xD ?_)); (first | ((with_reducible refine e_bin ?_); (first | refine ex_i (s_rem (k := .u64) rfl rfl (by decide) hr) ?_ | refine ex_i (s_rem (k := .u64) rfl rfl (by decide) hN) ?_ | refine ex_i (s_andN (k := 7) (by decide) hC rfl rfl) ?_ | refine ex_i (s_andN (k := 31) (by decide) hJ rfl rfl) ?_ | refine ex_i (s_xor8 rfl rfl) ?_)) | ((with_reducible refine e_load ?_); (first | refine ex_i (s_load1 tabOk rfl rfl rfl rfl (by exact hfa)) ?_ | refine ex_i (s_load1r tabOk rfl rfl rfl rfl (by exact hfa)) ?_ | refine ex_i (s_load1i tabOk rfl rfl rfl (by exact hfa)) ?_)) | ((with_reducible refine e_ix ?_); (first | refine ex_i (s_ixV1 tabOk rfl rfl (by first | with_reducible exact cast_self _ | with_reducible exact cast_lit _ | exact nt (by omega) | rfl) rfl rfl rfl rfl rfl (by first | exact Nat.le_of_ble_eq_true rfl | omega | (simp; omega)) (by exact hfa)) ?_ | refine ex_i (s_ixStr tabOk rfl rfl (by first | with_reducible exact cast_self _ | with_reducible exact cast_lit _ | exact nt (by omega) | rfl) rfl rfl (by exact hfa)) ?_))))
    | ((with_reducible refine isA_store ?_); refine awl_storeA tabOk g_none rfl rfl rfl (by first | exact Parts.mixed _ | exact Parts.closed _) (by rfl) (by rfl) rfl (Nat.le_of_ble_eq_true rfl) (by rfl) ?_)
    | ((with_reducible refine isA_store ?_); (refine awl_store1r tabOk g_none rfl rfl rfl rfl rfl rfl (by first | omega | exact Nat.le_of_ble_eq_true rfl | omega | (simp; omega)) ?_))
    | refine stA ?_
    | refine stD ?_
    | (refine hK _ _ _ _ ?_; clear hK hX K)
    | (refine hX _ _ _ _ _ (by simp) ?_; clear hK hX K))
    refine retK_mk (by first | exact .inl rfl | exact .inr rfl) (by exact trivial) rfl (ResL.one (ResA.tmp rfl)) (by first | exact out_c (by first | exact frz_c cv_rfl | exact frz_c cv_nil | exact frz_ownW rfl rfl (by first | rfl | with_reducible assumption | (simp <;> fail) | omega | (simp; omega) | assumption) | exact frz_eq (frz_c cv_rfl) (by first | rfl | (simp <;> fail) | fail)) | exact out_own rfl rfl)
set_option maxHeartbeats 4000000 in
theorem dam_7 (seed msg : List UInt8) (n I N J : Nat) (d0 d1 d2 : Int) (P S : List (List UInt8)) (R : List UInt8) (hs : seed.length = 32) (hn : msg.length = n) (hnn : n ≤ 100) (hI : I < 4) (hNl : N < 35) (hJl : J ≤ 31)
  (hr : ((BitVec.ofInt 64 d0).toNat : Int).tmod 4 = (I : Int)) (hN : ((BitVec.ofInt 64 d2).toNat : Int).tmod 35 = (N : Int)) (hJ : (BitVec.ofInt 64 d2 &&& BitVec.ofNat 64 31).toNat = J) (hC : (BitVec.ofInt 64 d1 &&& BitVec.ofNat 64 7).toNat = 7)
  (hP : all32 P) (hP35 : P.length = 35) (hS : all32 S) (hS2 : S.length = 2) (hR : R.length = 32)
  (hown : AC Try.prog 48 [.agg (u8c seed), iv I, .sl 1 n (u8c msg)] (.tup [.agg [.c (iv I), .own 0 0 35 32 true, .c (iv I), .c (iv 4), .own 1 0 2 32 true], .c (iv 0)]) [(0, .row 35 (dc P)), (1, .row 35 (dc S))] 2)
  (hpub : AC Try.prog 49 [.agg (u8c seed)] (.c (.agg (u8c R))) [] 0) (hgood : verS R msg I P I 4 S = true) :
  AC Try.prog 15 [.agg (u8c seed), .sl 1 n (u8c msg), .agg [iv d0, iv d1, iv d2]] (.c (.v (.bool true))) [] 0 := by
  have hus : (u8c seed).length = 32 := by rw [u8c_length, hs]
  have hur : (u8c R).length = 32 := by rw [u8c_length, hR]
  have hdP := dc_length hP hP35
  have hdS := dc_length hS hS2
  obtain ⟨b, hb⟩ : ∃ b, R.getD J 0 = b := ⟨_, rfl⟩
  have hfa := u8c_at R J (by omega)
  rw [hb] at hfa
  have hfl : (u8c R).set (0 + J * 1) (.v (.int .u8 ((b ^^^ 1).toNat : Int))) = u8c (flipB R J) := by
    rw [Nat.zero_add, Nat.mul_one, flipB, hb, u8c_set']
  have hFl : (flipB R J).length = 32 := by rw [flipB_length, hR]
  have h1 := sver_ok (flipB R J) msg n I P 35 I 4 S 2 hFl hn (by omega) hP hP35 (by decide) hS hS2 (by decide)
  have h2 := rsver_ok (flipB R J) msg n I P 35 I 4 S 2 hFl hn (by omega) hP hP35 (by decide) hS hS2 (by decide)
  rw [verS_root hgood (flipB_ne (by omega))] at h1 h2
  rw [← hfl] at h1 h2
  refine ac_enter tabOk (sz := 153) Try.func15 rfl (by rw [Try.ntmps15]; rfl) ?_
  repeat' (first
    | ((with_reducible refine aw_seqk ?_); intro K hK hX)
    | ((with_reducible refine isC_reg ?_); refine aw_prune [0, 1, 2, 3, 5, 6, 7, 8, 9, 10, 11, 12, 13, 54] rfl rfl ?_; with_reducible refine aw_region ?_)
    | ((with_reducible refine isC_draw ?_); refine aw_prune [0, 1, 2, 3, 5, 6, 7, 8, 9, 10, 11, 12, 13, 54] rfl rfl ?_; refine aw_drwF [] ?_)
    | ((with_reducible refine isA_call ?_); refine awl_call g_none rfl (by unfold Body; kernel_rfl) rfl hown cvl_rfl rfl ?_)
    | ((first | with_reducible refine isA_call ?_ | with_reducible refine isD_call ?_); (first | refine wA ?_ | refine wN ?_ | refine wD ?_); (first | refine cF (h1) ?_ (hfz := (frzl_cons (frz_c cv_rfl) (frzl_cons (frz_c cv_rfl) (frzl_cons (frz_agg rfl (frzl_cons (frz_c cv_rfl) (frzl_cons (frz_ownW rfl rfl hdP) (frzl_cons (frz_c cv_rfl) (frzl_cons (frz_c cv_rfl) (frzl_cons (frz_ownW rfl rfl hdS) frzl_nil)))))) frzl_nil)))) | refine cF (h2) ?_ (hfz := (frzl_cons (frz_c cv_rfl) (frzl_cons (frz_c cv_rfl) (frzl_cons (frz_agg rfl (frzl_cons (frz_c cv_rfl) (frzl_cons (frz_ownW rfl rfl hdP) (frzl_cons (frz_c cv_rfl) (frzl_cons (frz_c cv_rfl) (frzl_cons (frz_ownW rfl rfl hdS) frzl_nil)))))) frzl_nil))))))
    | ((first | with_reducible refine isA_call ?_ | with_reducible refine isD_call ?_); (first | refine zA ?_ | refine zN ?_ | refine zD ?_); (first | refine c0 (hpub) ?_ | refine c0 (awake39_ok) ?_))
    | ((first | ((with_reducible refine isA_any ?_); refine xA ?_) | ((with_reducible refine isDk_any ?_); refine xD ?_)); (first | ((with_reducible refine e_bin ?_); (first | refine ex_i (s_rem (k := .u64) rfl rfl (by decide) hr) ?_ | refine ex_i (s_rem (k := .u64) rfl rfl (by decide) hN) ?_ | refine ex_i (s_andN (k := 7) (by decide) hC rfl rfl) ?_ | refine ex_i (s_andN (k := 31) (by decide) hJ rfl rfl) ?_ | refine ex_i (s_xor8 rfl rfl) ?_)) | ((with_reducible refine e_load ?_); (first | refine ex_i (s_load1 tabOk rfl rfl rfl rfl (by (rw [Nat.zero_add, Nat.mul_one]; exact hfa))) ?_ | refine ex_i (s_load1r tabOk rfl rfl rfl rfl (by (rw [Nat.zero_add, Nat.mul_one]; exact hfa))) ?_ | refine ex_i (s_load1i tabOk rfl rfl rfl (by (rw [Nat.zero_add, Nat.mul_one]; exact hfa))) ?_ | refine ex_i (s_loadAr tabOk rfl rfl rfl rfl (by first | exact whole0 (by first | (rw [List.length_set]; exact hur) | exact hur) | exact whole0 (by first | rfl | omega) | rfl) (by first | rfl | with_reducible assumption | (simp <;> fail) | omega | (simp; omega) | assumption)) ?_ | refine ex_i (s_loadAi tabOk rfl rfl rfl (by first | exact whole0 (by first | (rw [List.length_set]; exact hur) | exact hur) | exact whole0 (by first | rfl | omega) | rfl) (by first | rfl | with_reducible assumption | (simp <;> fail) | omega | (simp; omega) | assumption)) ?_)) | ((with_reducible refine e_ix ?_); (first | refine ex_i (s_ixV1 tabOk rfl rfl (by first | with_reducible exact cast_self _ | with_reducible exact cast_lit _ | exact nt (by omega) | rfl) rfl rfl rfl rfl rfl (by first | exact Nat.le_of_ble_eq_true rfl | omega | (simp; omega)) (by (rw [Nat.zero_add, Nat.mul_one]; exact hfa))) ?_ | refine ex_i (s_ixStr tabOk rfl rfl (by first | with_reducible exact cast_self _ | with_reducible exact cast_lit _ | exact nt (by omega) | rfl) rfl rfl (by (rw [Nat.zero_add, Nat.mul_one]; exact hfa))) ?_)) | ((with_reducible refine e_slice ?_); (first | refine ex_i (s_slArri tabOk rfl rfl rfl rfl (by first | exact Bd.no | exact Bd.yes rfl (by first | with_reducible exact cast_self _ | with_reducible exact cast_lit _ | exact nt (by omega) | rfl)) (by first | exact Bd.no | exact Bd.yes rfl (by first | with_reducible exact cast_self _ | with_reducible exact cast_lit _ | exact nt (by omega) | rfl)) (by first | exact Nat.le_of_ble_eq_true rfl | omega | (simp; omega)) (by first | exact Nat.le_of_ble_eq_true rfl | omega | (simp; omega)) (by decide) (by first | exact whole0 (by first | (rw [List.length_set]; exact hur) | exact hur) | exact whole0 (by first | rfl | omega) | rfl) (by first | rfl | with_reducible assumption | (simp <;> fail) | omega | (simp; omega) | assumption)) ?_))))
    | ((with_reducible refine isA_store ?_); refine awl_storeA tabOk g_none rfl rfl rfl (by first | exact Parts.mixed _ | exact Parts.closed _) (by rfl) (by rfl) rfl (Nat.le_of_ble_eq_true rfl) (by rfl) ?_)
    | ((with_reducible refine isA_store ?_); (refine awl_store1r tabOk g_none rfl rfl rfl rfl rfl rfl (by first | omega | exact Nat.le_of_ble_eq_true rfl | omega | (simp; omega)) ?_))
    | refine stA ?_
    | refine stD ?_
    | (refine hK _ _ _ _ ?_; clear hK hX K)
    | (refine hX _ _ _ _ _ (by simp) ?_; clear hK hX K))
  refine retK_mk (by first | exact .inl rfl | exact .inr rfl) (by exact trivial) rfl (ResL.one (ResA.tmp rfl)) (by first | exact out_c (by first | exact frz_c cv_rfl | exact frz_c cv_nil | exact frz_ownW rfl rfl (by first | rfl | with_reducible assumption | (simp <;> fail) | omega | (simp; omega) | assumption) | exact frz_eq (frz_c cv_rfl) (by first | rfl | (simp <;> fail) | fail)) | exact out_own rfl rfl)
set_option maxHeartbeats 4000000 in
theorem dam_5 (seed msg : List UInt8) (n I N J : Nat) (d0 d1 d2 : Int) (P S : List (List UInt8)) (R : List UInt8) (hs : seed.length = 32) (hn : msg.length = n) (hnn : n ≤ 100) (hI : I < 4) (hNl : N < 35) (hJl : J ≤ 31)
  (hr : ((BitVec.ofInt 64 d0).toNat : Int).tmod 4 = (I : Int)) (hN : ((BitVec.ofInt 64 d2).toNat : Int).tmod 35 = (N : Int)) (hJ : (BitVec.ofInt 64 d2 &&& BitVec.ofNat 64 31).toNat = J) (hC : (BitVec.ofInt 64 d1 &&& BitVec.ofNat 64 7).toNat = 5)
  (hP : all32 P) (hP35 : P.length = 35) (hS : all32 S) (hS2 : S.length = 2) (hR : R.length = 32)
  (hown : AC Try.prog 48 [.agg (u8c seed), iv I, .sl 1 n (u8c msg)] (.tup [.agg [.c (iv I), .own 0 0 35 32 true, .c (iv I), .c (iv 4), .own 1 0 2 32 true], .c (iv 0)]) [(0, .row 35 (dc P)), (1, .row 35 (dc S))] 2)
  (hpub : AC Try.prog 49 [.agg (u8c seed)] (.c (.agg (u8c R))) [] 0) (hgood : verS R msg I P I 4 S = true) :
  AC Try.prog 15 [.agg (u8c seed), .sl 1 n (u8c msg), .agg [iv d0, iv d1, iv d2]] (.c (.v (.bool true))) [] 0 := by
  have hus : (u8c seed).length = 32 := by rw [u8c_length, hs]
  have hur : (u8c R).length = 32 := by rw [u8c_length, hR]
  have hdP := dc_length hP hP35
  have hdS := dc_length hS hS2
  obtain ⟨rb, hrb⟩ : ∃ b : UInt8, IntKind.u8.wrap d2 = (b.toNat : Int) := by
    refine ⟨UInt8.ofNat (d2 % 256).toNat, ?_⟩
    rw [IntKind.wrap_u8, UInt8.toNat_ofNat']
    omega
  have hum : (u8c msg).length = n := by rw [u8c_length, hn]
  have hml : (msg ++ [rb]).length = n + 1 := by rw [List.length_append, hn]; rfl
  have h1 := sver_ok R (msg ++ [rb]) (n + 1) I P 35 I 4 S 2 hR hml (by omega) hP hP35 (by decide) hS hS2 (by decide)
  have h2 := rsver_ok R (msg ++ [rb]) (n + 1) I P 35 I 4 S 2 hR hml (by omega) hP hP35 (by decide) hS hS2 (by decide)
  generalize verS R (msg ++ [rb]) I P I 4 S = res at h1 h2
  cases res with
  | false =>
    refine ac_enter tabOk (sz := 153) Try.func15 rfl (by rw [Try.ntmps15]; rfl) ?_
    repeat' (first
    | ((with_reducible refine aw_seqk ?_); intro K hK hX)
    | ((with_reducible refine isC_reg ?_); refine aw_prune [0, 1, 2, 3, 5, 6, 7, 8, 9, 10, 11, 12, 13, 54] rfl rfl ?_; with_reducible refine aw_region ?_)
    | ((with_reducible refine isC_draw ?_); refine aw_prune [0, 1, 2, 3, 5, 6, 7, 8, 9, 10, 11, 12, 13, 54] rfl rfl ?_; refine aw_drwE [] ?_)
    | ((with_reducible refine isA_call ?_); refine awl_call g_none rfl (by unfold Body; kernel_rfl) rfl hown cvl_rfl rfl ?_)
    | ((first | with_reducible refine isA_call ?_ | with_reducible refine isE_call ?_); (first | refine wA ?_ | refine wN ?_ | refine wE ?_); (first | refine cF (h1) ?_ (hfz := (frzl_cons (frz_c cv_rfl) (frzl_cons (frz_cv (frz_ownW rfl rfl (by simp [u8c_length, hn])) (cv_sl (by omega) (by simp [u8c]))) (frzl_cons (frz_agg rfl (frzl_cons (frz_c cv_rfl) (frzl_cons (frz_ownW rfl rfl hdP) (frzl_cons (frz_c cv_rfl) (frzl_cons (frz_c cv_rfl) (frzl_cons (frz_ownW rfl rfl hdS) frzl_nil)))))) frzl_nil)))) | refine cF (h2) ?_ (hfz := (frzl_cons (frz_c cv_rfl) (frzl_cons (frz_cv (frz_ownW rfl rfl (by simp [u8c_length, hn])) (cv_sl (by omega) (by simp [u8c]))) (frzl_cons (frz_agg rfl (frzl_cons (frz_c cv_rfl) (frzl_cons (frz_ownW rfl rfl hdP) (frzl_cons (frz_c cv_rfl) (frzl_cons (frz_c cv_rfl) (frzl_cons (frz_ownW rfl rfl hdS) frzl_nil)))))) frzl_nil))))))
    | ((first | with_reducible refine isA_call ?_ | with_reducible refine isE_call ?_); (first | refine zA ?_ | refine zN ?_ | refine zE ?_); (first | refine c0 (hpub) ?_ | refine c0 (awake39_ok) ?_))
    | ((first | ((with_reducible refine isA_any ?_); refine xA ?_) | ((with_reducible refine isEk_any ?_); refine xE ?_)); (first | ((with_reducible refine e_bin ?_); (first | refine ex_i (s_rem (k := .u64) rfl rfl (by decide) hr) ?_ | refine ex_i (s_rem (k := .u64) rfl rfl (by decide) hN) ?_ | refine ex_i (s_andN (k := 7) (by decide) hC rfl rfl) ?_ | refine ex_i (s_andN (k := 31) (by decide) hJ rfl rfl) ?_ | refine ex_i (s_xor8 rfl rfl) ?_)) | ((with_reducible refine e_conv ?_); (first | refine ex_i (s_convInt tabOk rfl rfl rfl rfl hrb) ?_))))
    | ((with_reducible refine isA_store ?_); refine awl_storeA tabOk g_none rfl rfl rfl (by first | exact Parts.mixed _ | exact Parts.closed _) (by rfl) (by rfl) rfl (Nat.le_of_ble_eq_true rfl) (by rfl) ?_)
    | ((with_reducible refine isE_store ?_); refine d_storeA tabOk g_none rfl rfl rfl rfl rfl (by first | exact Parts.mixed _ | exact Parts.closed _) (by rfl) (by rfl) rfl (Nat.le_of_ble_eq_true rfl) (by rfl) rfl ?_)
    | refine stA ?_
    | refine stE ?_
    | (refine hK _ _ _ _ ?_; clear hK hX K)
    | (refine hX _ _ _ _ _ (by simp) ?_; clear hK hX K))
    refine retK_mk (by first | exact .inl rfl | exact .inr rfl) (by exact trivial) rfl (ResL.one (ResA.tmp rfl)) (by first | exact out_c (by first | exact frz_c cv_rfl | exact frz_c cv_nil | exact frz_ownW rfl rfl (by first | rfl | with_reducible assumption | (simp <;> fail) | omega | (simp; omega) | assumption) | exact frz_eq (frz_c cv_rfl) (by first | rfl | (simp <;> fail) | fail)) | exact out_own rfl rfl)
  | true =>
    refine ac_enter tabOk (sz := 153) Try.func15 rfl (by rw [Try.ntmps15]; rfl) ?_
    repeat' (first
    | ((with_reducible refine aw_seqk ?_); intro K hK hX)
    | ((with_reducible refine isC_reg ?_); refine aw_prune [0, 1, 2, 3, 5, 6, 7, 8, 9, 10, 11, 12, 13, 54] rfl rfl ?_; with_reducible refine aw_region ?_)
    | ((with_reducible refine isC_draw ?_); refine aw_prune [0, 1, 2, 3, 5, 6, 7, 8, 9, 10, 11, 12, 13, 54] rfl rfl ?_; refine aw_drwE [] ?_)
    | ((with_reducible refine isA_call ?_); refine awl_call g_none rfl (by unfold Body; kernel_rfl) rfl hown cvl_rfl rfl ?_)
    | ((first | with_reducible refine isA_call ?_ | with_reducible refine isE_call ?_); (first | refine wA ?_ | refine wN ?_ | refine wE ?_); (first | refine cF (h1) ?_ (hfz := (frzl_cons (frz_c cv_rfl) (frzl_cons (frz_cv (frz_ownW rfl rfl (by simp [u8c_length, hn])) (cv_sl (by omega) (by simp [u8c]))) (frzl_cons (frz_agg rfl (frzl_cons (frz_c cv_rfl) (frzl_cons (frz_ownW rfl rfl hdP) (frzl_cons (frz_c cv_rfl) (frzl_cons (frz_c cv_rfl) (frzl_cons (frz_ownW rfl rfl hdS) frzl_nil)))))) frzl_nil)))) | refine cF (h2) ?_ (hfz := (frzl_cons (frz_c cv_rfl) (frzl_cons (frz_cv (frz_ownW rfl rfl (by simp [u8c_length, hn])) (cv_sl (by omega) (by simp [u8c]))) (frzl_cons (frz_agg rfl (frzl_cons (frz_c cv_rfl) (frzl_cons (frz_ownW rfl rfl hdP) (frzl_cons (frz_c cv_rfl) (frzl_cons (frz_c cv_rfl) (frzl_cons (frz_ownW rfl rfl hdS) frzl_nil)))))) frzl_nil))))))
    | ((first | with_reducible refine isA_call ?_ | with_reducible refine isE_call ?_); (first | refine zA ?_ | refine zN ?_ | refine zE ?_); (first | refine c0 (hpub) ?_ | refine c0 (awake39_ok) ?_))
    | ((first | ((with_reducible refine isA_any ?_); refine xA ?_) | ((with_reducible refine isEk_any ?_); refine xE ?_)); (first | ((with_reducible refine e_bin ?_); (first | refine ex_i (s_rem (k := .u64) rfl rfl (by decide) hr) ?_ | refine ex_i (s_rem (k := .u64) rfl rfl (by decide) hN) ?_ | refine ex_i (s_andN (k := 7) (by decide) hC rfl rfl) ?_ | refine ex_i (s_andN (k := 31) (by decide) hJ rfl rfl) ?_ | refine ex_i (s_xor8 rfl rfl) ?_)) | ((with_reducible refine e_conv ?_); (first | refine ex_i (s_convInt tabOk rfl rfl rfl rfl hrb) ?_))))
    | ((with_reducible refine isA_store ?_); refine awl_storeA tabOk g_none rfl rfl rfl (by first | exact Parts.mixed _ | exact Parts.closed _) (by rfl) (by rfl) rfl (Nat.le_of_ble_eq_true rfl) (by rfl) ?_)
    | ((with_reducible refine isE_store ?_); refine d_storeA tabOk g_none rfl rfl rfl rfl rfl (by first | exact Parts.mixed _ | exact Parts.closed _) (by rfl) (by rfl) rfl (Nat.le_of_ble_eq_true rfl) (by rfl) rfl ?_)
    | refine stA ?_
    | refine stE ?_
    | (refine hK _ _ _ _ ?_; clear hK hX K)
    | (refine hX _ _ _ _ _ (by simp) ?_; clear hK hX K))
    refine retK_mk (by first | exact .inl rfl | exact .inr rfl) (by exact trivial) rfl (ResL.one (ResA.tmp rfl)) (by first | exact out_c (by first | exact frz_c cv_rfl | exact frz_c cv_nil | exact frz_ownW rfl rfl (by first | rfl | with_reducible assumption | (simp <;> fail) | omega | (simp; omega) | assumption) | exact frz_eq (frz_c cv_rfl) (by first | rfl | (simp <;> fail) | fail)) | exact out_own rfl rfl)
theorem dam_big (seed msg : List UInt8) (n : Nat) (d0 d1 d2 : Int) (hs : seed.length = 32) (hn : msg.length = n) (hnn : 100 < n) : AC Try.prog 15 [.agg (u8c seed), .sl 1 n (u8c msg), .agg [iv d0, iv d1, iv d2]] (.c (.v (.bool true))) [] 0 := by
  have hus : (u8c seed).length = 32 := by rw [u8c_length, hs]
  refine ac_enter tabOk (sz := 153) Try.func15 rfl (by rw [Try.ntmps15]; rfl) ?_
  repeat' (first
    | ((with_reducible refine aw_seqk ?_); intro K hK hX)
    | ((with_reducible refine isC_reg ?_); refine aw_prune [0, 1, 2, 3, 5, 6, 7, 8, 9, 10, 11, 12, 13, 54] rfl rfl ?_; with_reducible refine aw_region ?_)
    | ((with_reducible refine isC_draw ?_); refine aw_prune [0, 1, 2, 3, 5, 6, 7, 8, 9, 10, 11, 12, 13, 54] rfl rfl ?_; refine aw_drwF [] ?_)
    | ((first | with_reducible refine isA_call ?_ | with_reducible refine isD_call ?_); (first | refine zA ?_ | refine zN ?_ | refine zD ?_); (first | refine c0 (awake39_ok) ?_))
    | ((with_reducible refine isA_store ?_); refine awl_storeA tabOk g_none rfl rfl rfl (by first | exact Parts.mixed _ | exact Parts.closed _) (by rfl) (by rfl) rfl (Nat.le_of_ble_eq_true rfl) (by rfl) ?_)
    | refine stA ?_
    | refine stD ?_
    | (refine hK _ _ _ _ ?_; clear hK hX K)
    | (refine hX _ _ _ _ _ (by simp) ?_; clear hK hX K))
  refine retK_mk (by first | exact .inl rfl | exact .inr rfl) (by exact trivial) rfl (ResL.one (ResA.tmp rfl)) (by first | exact out_c (by first | exact frz_c cv_rfl | exact frz_c cv_nil | exact frz_ownW rfl rfl (by first | rfl | with_reducible assumption | (simp <;> fail) | omega | (simp; omega) | assumption) | exact frz_eq (frz_c cv_rfl) (by first | rfl | (simp <;> fail) | fail)) | exact out_own rfl rfl)
end Go.Proofs.Ytgofigkhdjjlmaa
