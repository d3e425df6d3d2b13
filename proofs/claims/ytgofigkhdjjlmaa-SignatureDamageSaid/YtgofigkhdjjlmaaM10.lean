/-
  Joined texts: E15. Lemmas; no statement of a law.
-/
import Derived.Test.YtgofigkhdjjlmaaM1
import Derived.Test.YtgofigkhdjjlmaaM2
import Derived.Test.YtgofigkhdjjlmaaM3
import Derived.Test.YtgofigkhdjjlmaaM4
import Derived.Test.YtgofigkhdjjlmaaM5
import Derived.Test.YtgofigkhdjjlmaaM6
import Derived.Test.YtgofigkhdjjlmaaM7
/-
  The laws MerkleAccepts, MerkleReplaces, MerkleLimit (walk).
-/
set_option linter.unusedVariables false
set_option linter.unusedSimpArgs false
namespace Go.Proofs.Ytgofigkhdjjlmaa
open Go Go.RowKit Go.Av
set_option maxRecDepth 100000
section
variable {P : Program} {tab : Tab} {ev : Evl} {h : Heap} {d : Option Tmp} {T ty T' : TypeId} {x y : Operand} {pos : String} {aft : Array Edge} {gd : Option (Nat × Bool)}
theorem s_remUe {b m J : Nat} (hm : 0 < m) (hJ : b % m = J) {Y : Int} (hY : Y = (m : Int)) (hx : ev x = some (.c (.v (.int .u64 (b : Int))))) (hy : ev y = some (.c (.v (.int .u64 Y)))) : Still P ⟨d, .binOp .rem T x y T', ty, pos, aft, gd⟩ ev h (.c (uv J)) := hJ ▸ s_remU hm hY hx hy
end
theorem root_length (L : List (List UInt8)) : (rootD L).length = 32 := sealD_length _ _
theorem hgt4095 : hgt 4095 = 12 := by
  repeat rw [hgt_up (by decide)]
  rw [hgt_end (by decide)]
theorem hgt4096 : hgt 4096 = 12 := by
  repeat rw [hgt_up (by decide)]
  rw [hgt_end (by decide)]
attribute [local irreducible] Still Adds AWL AW Drw DrwE EStep AC AWR Weak Frz Src RetK Out InK ItK AsK RdK permute
attribute [local simp] u8c_take u8c_drop u8c_app
set_option maxHeartbeats 4000000 in
theorem law_maccepts (L : List (List UInt8)) (k : Nat) (hL : all32 L) (hk : L.length = k) : AC Try.prog 20 [.sl 32 k (dc L)] (.c (.v (.bool true))) [] 0 := by
  by_cases b1 : (24 : Int) < (k : Int)
  · refine ac_enter tabOk (sz := 66) Try.func20 rfl (by rw [Try.ntmps20]; rfl) ?_
    repeat' (first
    | ((with_reducible refine aw_seqk ?_); intro K hK hX)
    | ((with_reducible refine isC_reg ?_); refine aw_prune [0, 2, 3, 4, 5, 6, 7] rfl rfl ?_; with_reducible refine aw_region ?_)
    | ((with_reducible refine isC_draw ?_); refine aw_prune [0, 2, 3, 4, 5, 6, 7] rfl rfl ?_; refine aw_drwF [] ?_)
    | ((first | with_reducible refine isA_call ?_ | with_reducible refine isD_call ?_); (first | refine zA ?_ | refine zN ?_ | refine zD ?_); (first | refine c0 (awake38_ok) ?_))
    | refine stA ?_
    | refine stD ?_
    | (refine hK _ _ _ _ ?_; clear hK hX K)
    | (refine hX _ _ _ _ _ (by simp) ?_; clear hK hX K))
    refine retK_mk (by first | exact .inl rfl | exact .inr rfl) (by exact trivial) rfl (ResL.one (ResA.tmp rfl)) (by first | exact out_c (by first | exact frz_c cv_rfl | exact frz_c cv_nil | exact frz_ownW rfl rfl (by first | rfl | with_reducible assumption | (simp <;> fail) | omega | (simp; omega) | assumption) | exact frz_eq (frz_c cv_rfl) (by first | rfl | (simp <;> fail) | fail)) | exact out_own rfl rfl)
  · have hdl := dc_length hL hk
    have h1 := root38_ok L k hL hk (by omega)
    have hrl := root_length L
    have hvp := fun I (hI : I < k) => verP_sib (L := L) (I := I) (n := k) hk hI (by omega)
    have hru : (u8c (rootD L)).length = 32 := by rw [u8c_length, hrl]
    generalize rootD L = R at h1 hrl hru hvp
    have hhe := height_ok (k : Int)
    refine ac_enter tabOk (sz := 66) Try.func20 rfl (by rw [Try.ntmps20]; rfl) ?_
    repeat' (first
    | ((with_reducible refine aw_seqk ?_); intro K hK hX)
    | ((with_reducible refine isC_reg ?_); refine aw_prune [0, 2, 3, 4, 5, 6, 7] rfl rfl ?_; with_reducible refine aw_region ?_)
    | ((with_reducible refine isC_draw ?_); refine aw_prune [0, 2, 3, 4, 5, 6, 7] rfl rfl ?_; refine aw_drwF [] ?_)
    | ((first | with_reducible refine isA_call ?_ | with_reducible refine isD_call ?_); (first | refine zA ?_ | refine zN ?_ | refine zD ?_); (first | refine c0 (h1) ?_))
    | refine stA ?_
    | refine stD ?_
    | (refine hK _ _ _ _ ?_; clear hK hX K)
    | (refine hX _ _ _ _ _ (by simp) ?_; clear hK hX K))
    refine aw_loopo [5, 12, 13, 14, 15, 16, 17, 18] [] rfl rfl (fun i : Nat => [(5, .c (iv i))]) (fun _ => []) (fun i => i ≤ k) (fun i => k - i) 0 (by omega) weakA ?_
    intro i hi K hK hX
    by_cases hlt : i < k
    · have hsf := sib_facts (L := L) (I := i) (n := k) hk hlt
      obtain ⟨m, hm⟩ : ∃ m, (sibD (L.map nodeD) i).length = m := ⟨_, rfl⟩
      have hle := sib_hgt k (L := L.map nodeD) (i := i) (by simp [hk])
      have h2 := prove_ok L i k m hL hk (by omega) (by omega) hm
      rw [hm] at hsf hle
      have hhp : heightP (k : Int) = hgt (L.map nodeD).length := by
        unfold heightP
        rw [if_neg (by omega), Int.toNat_natCast, List.length_map, hk]
      rw [← hhp] at hle
      have h3 := verify_ok R (L.getD i []) i k (sibD (L.map nodeD) i) m hrl (getD32 hL i (by omega)) hsf.1 hm (by omega)
      rw [hvp i hlt] at h3
      have hd := getD32 hL i (by omega)
      have hda := dig_at hL i (by omega)
      generalize L.getD i [] = d at hd hda h3
      have hud : (u8c d).length = 32 := by rw [u8c_length, hd]
      generalize sibD (L.map nodeD) i = S at h2 h3 hm
      clear hhp
      generalize heightP (k : Int) = H at hhe hle
      have hle' : ¬ ((H : Int) < (m : Int)) := by omega
      repeat' (first
    | ((with_reducible refine aw_seqk ?_); intro K hK hX)
    | ((with_reducible refine isC_reg ?_); refine aw_prune [0, 2, 3, 4, 5, 6, 7] rfl rfl ?_; with_reducible refine aw_region ?_)
    | ((with_reducible refine isC_draw ?_); refine aw_prune [0, 2, 3, 4, 5, 6, 7] rfl rfl ?_; refine aw_drwF [] ?_)
    | ((first | with_reducible refine isA_call ?_ | with_reducible refine isD_call ?_); (first | refine zA ?_ | refine zN ?_ | refine zD ?_); (first | refine c0 (h2) ?_ | refine c0 (h3) ?_ | refine c0 (hhe) ?_))
    | ((first | ((with_reducible refine isA_any ?_); refine xA ?_) | ((with_reducible refine isDk_any ?_); refine xD ?_)); (first | ((with_reducible refine e_bin ?_); (first | refine ex_i (s_cmp rfl rfl rfl (decide_eq_false (fun e => e rfl))) ?_ | refine ex_i (s_cmp rfl rfl rfl (decide_eq_false hle')) ?_)) | ((with_reducible refine e_load ?_); (first | refine ex_i (s_loadAr tabOk rfl rfl rfl rfl (by first | exact hda | exact whole0 (by first | rfl | omega) | rfl) (by first | rfl | with_reducible assumption | (simp <;> fail) | omega | (simp; omega) | assumption)) ?_ | refine ex_i (s_loadAi tabOk rfl rfl rfl (by first | exact hda | exact whole0 (by first | rfl | omega) | rfl) (by first | rfl | with_reducible assumption | (simp <;> fail) | omega | (simp; omega) | assumption)) ?_)) | ((with_reducible refine e_slice ?_); (first | refine ex_i (s_slArri tabOk rfl rfl rfl rfl (by first | exact Bd.no | exact Bd.yes rfl (by first | with_reducible exact cast_self _ | with_reducible exact cast_lit _ | exact nt (by omega) | rfl)) (by first | exact Bd.no | exact Bd.yes rfl (by first | with_reducible exact cast_self _ | with_reducible exact cast_lit _ | exact nt (by omega) | rfl)) (by first | exact Nat.le_of_ble_eq_true rfl | omega | (simp; omega)) (by first | exact Nat.le_of_ble_eq_true rfl | omega | (simp; omega)) (by decide) (by first | exact hda | exact whole0 (by first | rfl | omega) | rfl) (by first | rfl | with_reducible assumption | (simp <;> fail) | omega | (simp; omega) | assumption)) ?_))))
    | ((with_reducible refine isA_store ?_); refine awl_storeA tabOk g_none rfl rfl rfl (by first | exact Parts.mixed _ | exact Parts.closed _) (by rfl) (by rfl) rfl (Nat.le_of_ble_eq_true rfl) (by rfl) ?_)
    | refine stA ?_
    | refine stD ?_
    | (refine hK _ _ _ _ ?_; clear hK hX K)
    | (refine hX _ _ _ _ _ (by simp) ?_; clear hK hX K))
      exact ⟨i + 1, by omega, by omega, weakA⟩
    · repeat' (first
    | ((with_reducible refine aw_seqk ?_); intro K hK hX)
    | ((with_reducible refine isC_reg ?_); refine aw_prune [0, 2, 3, 4, 5, 6, 7] rfl rfl ?_; with_reducible refine aw_region ?_)
    | ((with_reducible refine isC_draw ?_); refine aw_prune [0, 2, 3, 4, 5, 6, 7] rfl rfl ?_; refine aw_drwF [] ?_)
    | ((first | with_reducible refine isA_call ?_ | with_reducible refine isD_call ?_); (first | refine zA ?_ | refine zN ?_ | refine zD ?_); (first | refine c0 (awake38_ok) ?_))
    | refine stA ?_
    | refine stD ?_
    | (refine hK _ _ _ _ ?_; clear hK hX K)
    | (refine hX _ _ _ _ _ (by simp) ?_; clear hK hX K))
      refine retK_mk (by first | exact .inl rfl | exact .inr rfl) (by exact trivial) rfl (ResL.one (ResA.tmp rfl)) (by first | exact out_c (by first | exact frz_c cv_rfl | exact frz_c cv_nil | exact frz_ownW rfl rfl (by first | rfl | with_reducible assumption | (simp <;> fail) | omega | (simp; omega) | assumption) | exact frz_eq (frz_c cv_rfl) (by first | rfl | (simp <;> fail) | fail)) | exact out_own rfl rfl)
set_option maxHeartbeats 4000000 in
theorem law_mreplaces (L : List (List UInt8)) (k : Nat) (i : Int) (x : List UInt8) (hL : all32 L) (hk : L.length = k) (hx : x.length = 32) : AC Try.prog 21 [.sl 32 k (dc L), iv i, .agg (u8c x)] (.c (.v (.bool true))) [] 0 := by
  have hux : (u8c x).length = 32 := by rw [u8c_length, hx]
  by_cases b1 : (30 : Int) < (k : Int)
  · refine ac_enter tabOk (sz := 73) Try.func21 rfl (by rw [Try.ntmps21]; rfl) ?_
    repeat' (first
    | ((with_reducible refine aw_seqk ?_); intro K hK hX)
    | ((with_reducible refine isC_reg ?_); refine aw_prune [0, 1, 2, 5, 6, 7, 8, 9, 10, 11, 12, 13, 14] rfl rfl ?_; with_reducible refine aw_region ?_)
    | ((with_reducible refine isA_call ?_); (first | refine zA ?_ | refine zN ?_); (first | refine c0 (awake38_ok) ?_))
    | refine stA ?_
    | (refine hK _ _ _ _ ?_; clear hK hX K)
    | (refine hX _ _ _ _ _ (by simp) ?_; clear hK hX K))
    refine retK_mk (by first | exact .inl rfl | exact .inr rfl) (by exact trivial) rfl (ResL.one (ResA.tmp rfl)) (by first | exact out_c (by first | exact frz_c cv_rfl | exact frz_c cv_nil | exact frz_ownW rfl rfl (by first | rfl | with_reducible assumption | (simp <;> fail) | omega | (simp; omega) | assumption) | exact frz_eq (frz_c cv_rfl) (by first | rfl | (simp <;> fail) | fail)) | exact out_own rfl rfl)
  · by_cases b2 : (k : Int) = 0
    · refine ac_enter tabOk (sz := 73) Try.func21 rfl (by rw [Try.ntmps21]; rfl) ?_
      repeat' (first
    | ((with_reducible refine aw_seqk ?_); intro K hK hX)
    | ((with_reducible refine isC_reg ?_); refine aw_prune [0, 1, 2, 5, 6, 7, 8, 9, 10, 11, 12, 13, 14] rfl rfl ?_; with_reducible refine aw_region ?_)
    | ((with_reducible refine isA_call ?_); (first | refine zA ?_ | refine zN ?_); (first | refine c0 (awake38_ok) ?_))
    | refine stA ?_
    | (refine hK _ _ _ _ ?_; clear hK hX K)
    | (refine hX _ _ _ _ _ (by simp) ?_; clear hK hX K))
      refine retK_mk (by first | exact .inl rfl | exact .inr rfl) (by exact trivial) rfl (ResL.one (ResA.tmp rfl)) (by first | exact out_c (by first | exact frz_c cv_rfl | exact frz_c cv_nil | exact frz_ownW rfl rfl (by first | rfl | with_reducible assumption | (simp <;> fail) | omega | (simp; omega) | assumption) | exact frz_eq (frz_c cv_rfl) (by first | rfl | (simp <;> fail) | fail)) | exact out_own rfl rfl)
    · have hdl := dc_length hL hk
      have hJ : (BitVec.ofInt 64 i).toNat % k < k := Nat.mod_lt _ (by omega)
      obtain ⟨J, hJe⟩ : ∃ J, (BitVec.ofInt 64 i).toNat % k = J := ⟨_, rfl⟩
      rw [hJe] at hJ
      have hsf := sib_facts (L := L) (I := J) (n := k) hk hJ
      obtain ⟨m, hm⟩ : ∃ m, (sibD (L.map nodeD) J).length = m := ⟨_, rfl⟩
      have h2 := prove_ok L J k m hL hk (by omega) hJ hm
      have h3 := apply_ok x J k (sibD (L.map nodeD) J) m hx hsf.1 hm (by omega)
      rw [appP_sib x hk hJ (by omega)] at h3
      dsimp only at h3
      have hst := lay_dc hL J (by omega) x hx
      have hLs : all32 (L.set J x) := fun d hd => by
        rcases List.mem_or_eq_of_mem_set hd with h | h
        · exact hL d h
        · rw [h]; exact hx
      have h4 := root38_ok (L.set J x) k hLs (by rw [List.length_set]; exact hk) (by omega)
      have hds := dc_length (n := k) hLs (by rw [List.length_set]; exact hk)
      have hrl := root_length (L.set J x)
      generalize sibD (L.map nodeD) J = S at h2 h3 hm
      have hru : (u8c (rootD (L.set J x))).length = 32 := by rw [u8c_length, hrl]
      generalize rootD (L.set J x) = R at h3 h4 hrl hru
      refine ac_enter tabOk (sz := 73) Try.func21 rfl (by rw [Try.ntmps21]; rfl) ?_
      repeat' (first
    | ((with_reducible refine aw_seqk ?_); intro K hK hX)
    | ((with_reducible refine isC_reg ?_); refine aw_prune [0, 1, 2, 5, 6, 7, 8, 9, 10, 11, 12, 13, 14] rfl rfl ?_; with_reducible refine aw_region ?_)
    | ((with_reducible refine isA_call ?_); (first | refine wA ?_ | refine wN ?_); (first | refine cF (h4) ?_))
    | ((with_reducible refine isA_call ?_); (first | refine zA ?_ | refine zN ?_); (first | refine c0 (h2) ?_ | refine c0 (h3) ?_ | refine c0 (awake38_ok) ?_))
    | (((with_reducible refine isA_any ?_); refine xA ?_); (first | ((with_reducible refine e_conv ?_); (first | refine ex_i (s_convInt tabOk rfl rfl rfl rfl (show IntKind.u64.wrap (k : Int) = (k : Int) from wu64 (by omega) (by omega))) ?_)) | ((with_reducible refine e_bin ?_); (first | refine ex_i (s_remUe (by omega) hJe rfl rfl rfl) ?_ | refine ex_i (s_eqlU tabOk (by kernel_rfl) rfl rfl rfl rfl rfl rfl rfl rfl rfl hrl hrl (decide_eq_true rfl)) ?_))))
    | ((with_reducible refine isA_store ?_); refine awl_storeA tabOk g_none rfl rfl rfl (by first | exact Parts.mixed _ | exact Parts.closed _) (by rfl) (by rfl) rfl (Nat.le_of_ble_eq_true rfl) (by rfl) ?_)
    | ((with_reducible refine isA_store ?_); (refine awl_store1r tabOk g_none rfl rfl rfl rfl rfl rfl (by first | omega | exact Nat.le_of_ble_eq_true rfl | omega | (simp; omega)) ?_))
    | ((with_reducible refine isA_store ?_); (refine awl_storeAr tabOk g_none rfl rfl rfl (by first | rfl | with_reducible assumption | (simp <;> fail) | omega | (simp; omega) | assumption) rfl (by first | exact Nat.le_of_ble_eq_true rfl | omega | (simp; omega)) (by first | exact hst | exact lay_whole _ _ (by first | rfl | with_reducible assumption | (simp <;> fail) | omega | (simp; omega) | assumption) | rfl) ?_))
    | refine stA ?_
    | (refine hK _ _ _ _ ?_; clear hK hX K)
    | (refine hX _ _ _ _ _ (by simp) ?_; clear hK hX K))
      refine retK_mk (by first | exact .inl rfl | exact .inr rfl) (by exact trivial) rfl (ResL.one (ResA.tmp rfl)) (by first | exact out_c (by first | exact frz_c cv_rfl | exact frz_c cv_nil | exact frz_ownW rfl rfl (by first | rfl | with_reducible assumption | (simp <;> fail) | omega | (simp; omega) | assumption) | exact frz_eq (frz_c cv_rfl) (by first | rfl | (simp <;> fail) | fail)) | exact out_own rfl rfl)
set_option maxHeartbeats 4000000 in
theorem law_mlimit (i : Int) : AC Try.prog 23 [iv i] (.c (.v (.bool true))) [] 0 := by
  have hJ : (BitVec.ofInt 64 i).toNat % 3 < 3 := Nat.mod_lt _ (by decide)
  obtain ⟨J, hJe⟩ : ∃ J, (BitVec.ofInt 64 i).toNat % 3 = J := ⟨_, rfl⟩
  rw [hJe] at hJ
  obtain ⟨n, hn⟩ : ∃ n, n = 4095 + J := ⟨_, rfl⟩
  have hL : all32 (List.replicate n zero32) := fun d hd => by rw [List.eq_of_mem_replicate hd]; exact zero32_length
  have hk : (List.replicate n zero32).length = n := List.length_replicate
  have hzc := zc_dig n
  have hdl := dc_length hL hk
  have hhe := height_ok (n : Int)
  have hadd : IntKind.i64.wrap (4095 + (J : Int)) = (n : Int) := by rw [w64 (by omega) (by omega)]; omega
  by_cases h2 : J < 2
  · have hsf := sib_facts (L := List.replicate n zero32) (I := 5) (n := n) hk (by omega)
    obtain ⟨m, hm⟩ : ∃ m, (sibD ((List.replicate n zero32).map nodeD) 5).length = m := ⟨_, rfl⟩
    have h1 := prove_ok (List.replicate n zero32) 5 n m hL hk (by omega) (by omega) hm
    have hh : heightP (n : Int) = 12 := by
      unfold heightP
      rw [if_neg (by omega), Int.toNat_natCast]
      have : n = 4095 ∨ n = 4096 := by omega
      rcases this with rfl | rfl
      · exact hgt4095
      · exact hgt4096
    rw [hh] at hhe
    generalize sibD ((List.replicate n zero32).map nodeD) 5 = S at h1 hm
    rw [← hzc] at hdl h1
    have h2' : (J : Int) < 2 := by omega
    refine ac_enter tabOk (sz := 59) Try.func23 rfl (by rw [Try.ntmps23]; rfl) ?_
    repeat' (first
    | ((with_reducible refine aw_seqk ?_); intro K hK hX)
    | ((with_reducible refine isC_reg ?_); refine aw_prune [0, 2, 3, 4, 6, 7, 8] rfl rfl ?_; with_reducible refine aw_region ?_)
    | (((with_reducible refine isA_any ?_); refine xA ?_); (first | ((with_reducible refine e_bin ?_); (first | refine ex_i (s_remUe (m := 3) (by decide) hJe rfl rfl rfl) ?_ | refine ex_i (s_arit64 rfl rfl rfl hadd) ?_))))
    | refine stA ?_
    | (refine hK _ _ _ _ ?_; clear hK hX K)
    | (refine hX _ _ _ _ _ (by simp) ?_; clear hK hX K))
    refine awl_weak (weak_fz (E := [(17, .c (.sl 32 n (zc (List.replicate 32 (Value.int .u8 0)) n))), (0, .c (iv i)), (2, .c (.v (.bool false))), (3, .c (iv J)), (4, .c (.sl 32 n (zc (List.replicate 32 (Value.int .u8 0)) n)))]) (Hp := []) (by repeat' (first | exact FzE.nil | refine FzE.cons rfl ?_ ?_ | exact fz_same | exact fz_ref rfl rfl | exact fz_ownW rfl rfl (by first | rfl | with_reducible assumption | (simp <;> fail) | omega | (simp; omega) | assumption) | exact fz_own rfl rfl (by first | exact whole0 (by first | rfl | omega) | rfl) (by first | rfl | with_reducible assumption | (simp <;> fail) | omega | (simp; omega) | assumption))) (by repeat' (first | exact trivial | refine ⟨rfl, ?_⟩))) ?_
    repeat' (first
    | ((with_reducible refine aw_seqk ?_); intro K hK hX)
    | ((with_reducible refine isC_reg ?_); refine aw_prune [0, 2, 3, 4, 6, 7, 8] rfl rfl ?_; with_reducible refine aw_region ?_)
    | ((with_reducible refine isA_call ?_); (first | refine zA ?_ | refine zN ?_); (first | refine c0 (h1) ?_ | refine c0 (hhe) ?_ | refine c0 (awake38_ok) ?_))
    | ((with_reducible refine isA_store ?_); refine awl_storeA tabOk g_none rfl rfl rfl (by first | exact Parts.mixed _ | exact Parts.closed _) (by rfl) (by rfl) rfl (Nat.le_of_ble_eq_true rfl) (by rfl) ?_)
    | refine stA ?_
    | (refine hK _ _ _ _ ?_; clear hK hX K)
    | (refine hX _ _ _ _ _ (by simp) ?_; clear hK hX K))
    refine retK_mk (by first | exact .inl rfl | exact .inr rfl) (by exact trivial) rfl (ResL.one (ResA.tmp rfl)) (by first | exact out_c (by first | exact frz_c cv_rfl | exact frz_c cv_nil | exact frz_ownW rfl rfl (by first | rfl | with_reducible assumption | (simp <;> fail) | omega | (simp; omega) | assumption) | exact frz_eq (frz_c cv_rfl) (by first | rfl | (simp <;> fail) | fail)) | exact out_own rfl rfl)
  · have h1 := prove_big (List.replicate n zero32) 5 n hL hk (by omega)
    have h3 := root38_big (List.replicate n zero32) n hL hk (by omega)
    have hh : heightP (n : Int) = 0 := by
      unfold heightP
      rw [if_pos (by omega)]
    rw [hh] at hhe
    rw [← hzc] at hdl h1 h3
    have h2' : ¬ (J : Int) < 2 := by omega
    refine ac_enter tabOk (sz := 59) Try.func23 rfl (by rw [Try.ntmps23]; rfl) ?_
    repeat' (first
    | ((with_reducible refine aw_seqk ?_); intro K hK hX)
    | ((with_reducible refine isC_reg ?_); refine aw_prune [0, 2, 3, 4, 6, 7, 8] rfl rfl ?_; with_reducible refine aw_region ?_)
    | (((with_reducible refine isA_any ?_); refine xA ?_); (first | ((with_reducible refine e_bin ?_); (first | refine ex_i (s_remUe (m := 3) (by decide) hJe rfl rfl rfl) ?_ | refine ex_i (s_arit64 rfl rfl rfl hadd) ?_))))
    | refine stA ?_
    | (refine hK _ _ _ _ ?_; clear hK hX K)
    | (refine hX _ _ _ _ _ (by simp) ?_; clear hK hX K))
    refine awl_weak (weak_fz (E := [(17, .c (.sl 32 n (zc (List.replicate 32 (Value.int .u8 0)) n))), (0, .c (iv i)), (2, .c (.v (.bool false))), (3, .c (iv J)), (4, .c (.sl 32 n (zc (List.replicate 32 (Value.int .u8 0)) n)))]) (Hp := []) (by repeat' (first | exact FzE.nil | refine FzE.cons rfl ?_ ?_ | exact fz_same | exact fz_ref rfl rfl | exact fz_ownW rfl rfl (by first | rfl | with_reducible assumption | (simp <;> fail) | omega | (simp; omega) | assumption) | exact fz_own rfl rfl (by first | exact whole0 (by first | rfl | omega) | rfl) (by first | rfl | with_reducible assumption | (simp <;> fail) | omega | (simp; omega) | assumption))) (by repeat' (first | exact trivial | refine ⟨rfl, ?_⟩))) ?_
    repeat' (first
    | ((with_reducible refine aw_seqk ?_); intro K hK hX)
    | ((with_reducible refine isC_reg ?_); refine aw_prune [0, 2, 3, 4, 6, 7, 8] rfl rfl ?_; with_reducible refine aw_region ?_)
    | ((with_reducible refine isA_call ?_); (first | refine zA ?_ | refine zN ?_); (first | refine c0 (h1) ?_ | refine c0 (h3) ?_ | refine c0 (hhe) ?_ | refine c0 (awake38_ok) ?_))
    | (((with_reducible refine isA_any ?_); refine xA ?_); (first | ((with_reducible refine e_bin ?_); (first | refine ex_i (s_eqlU tabOk (by kernel_rfl) rfl rfl rfl rfl rfl rfl rfl rfl (l := zero32) (l' := zero32) rfl rfl rfl (decide_eq_true rfl)) ?_))))
    | ((with_reducible refine isA_store ?_); refine awl_storeA tabOk g_none rfl rfl rfl (by first | exact Parts.mixed _ | exact Parts.closed _) (by rfl) (by rfl) rfl (Nat.le_of_ble_eq_true rfl) (by rfl) ?_)
    | refine stA ?_
    | (refine hK _ _ _ _ ?_; clear hK hX K)
    | (refine hX _ _ _ _ _ (by simp) ?_; clear hK hX K))
    refine retK_mk (by first | exact .inl rfl | exact .inr rfl) (by exact trivial) rfl (ResL.one (ResA.tmp rfl)) (by first | exact out_c (by first | exact frz_c cv_rfl | exact frz_c cv_nil | exact frz_ownW rfl rfl (by first | rfl | with_reducible assumption | (simp <;> fail) | omega | (simp; omega) | assumption) | exact frz_eq (frz_c cv_rfl) (by first | rfl | (simp <;> fail) | fail)) | exact out_own rfl rfl)
end Go.Proofs.Ytgofigkhdjjlmaa
