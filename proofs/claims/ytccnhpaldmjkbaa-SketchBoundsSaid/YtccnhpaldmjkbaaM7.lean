/-
  Joined texts: H12. Lemmas; no statement of a law.
-/
import Derived.Test.YtccnhpaldmjkbaaM1
import Derived.Test.YtccnhpaldmjkbaaM2
import Derived.Test.YtccnhpaldmjkbaaM3
import Derived.Test.YtccnhpaldmjkbaaM4
import Derived.Test.YtccnhpaldmjkbaaM5
import Derived.Test.YtccnhpaldmjkbaaM6
/-
  The sanity check of the sketches' laws, and the law SketchHash (walk).
-/
set_option linter.unusedVariables false
set_option linter.unusedSimpArgs false
namespace Go.Proofs.Ytccnhpaldmjkbaa
open Go Go.RowKit Go.Av
set_option maxRecDepth 100000
section
variable {P : Program} {ev : Evl} {h : Heap} {d : Option Tmp} {T T' ty : TypeId} {x y : Operand} {pos : String} {aft : Array Edge} {gd : Option (Nat × Bool)}
theorem s_andN {m : Int} {k j : Nat} (hk : k < 1000) (hj : (BitVec.ofInt 64 m &&& BitVec.ofNat 64 k).toNat = j) (hx : ev x = some (.c (.v (.int .i64 m)))) (hy : ev y = some (.c (.v (.int .i64 (k : Int))))) : Still P ⟨d, .binOp .and T x y T', ty, pos, aft, gd⟩ ev h (.c (.v (.int .i64 (j : Int)))) :=
  s_and hx hy (by
    show IntKind.i64.wrap ((BitVec.ofInt 64 m &&& BitVec.ofInt 64 (k : Int)).toNat : Int) = _
    have e1 : BitVec.ofInt 64 (k : Int) = BitVec.ofNat 64 k := by simp
    rw [e1, hj]
    have : j ≤ k := by
      rw [← hj, BitVec.toNat_and, BitVec.toNat_ofNat, Nat.mod_eq_of_lt (by omega)]
      exact Nat.and_le_right
    exact w64 (by omega) (by omega))
end
theorem andN_le (m : Int) (k : Nat) (hk : k < 1000) : (BitVec.ofInt 64 m &&& BitVec.ofNat 64 k).toNat ≤ k := by
  rw [BitVec.toNat_and, BitVec.toNat_ofNat, Nat.mod_eq_of_lt (by omega)]
  exact Nat.and_le_right
theorem any_byte (m : Int) : ∃ b : UInt8, IntKind.u8.wrap m = (b.toNat : Int) := by
  refine ⟨UInt8.ofNat (m % 256).toNat, ?_⟩
  rw [IntKind.wrap_u8, UInt8.toNat_ofNat']
  omega
/-- The text "a". -/
def vA : Vl := ⟨2, 0, [97]⟩
def bA : List En := [⟨[vA], 3⟩]
def cA : List Int := [0, 0, 0, 3, 3, 0, 0, 0]
theorem cA_eq : buildN 0 4 2 0 bA 1 = cA := by decide +kernel
theorem cA_least : leastN cA 4 vA 2 = 3 := by decide +kernel
theorem okA : okP vA := .inr (.inr ⟨rfl, rfl, by decide⟩)
theorem fitA : fitB bA := fun e he => by
  have : e = ⟨[vA], 3⟩ := by simpa [bA] using he
  subst this
  simp [maxLen]
theorem posA : posP bA := by
  refine ⟨⟨by decide, fun i hi e he => ?_⟩, fun e he => ?_⟩
  · obtain rfl : i = 0 := by simpa [bA] using hi
    have : e = ⟨[vA], 3⟩ := by simpa [bA] using he.symm
    subst this
    exact ⟨⟨by decide, by decide, by decide, fun v hv => by
      have : v = vA := by simpa using hv
      subst this; exact okA⟩, by decide, fun f h => absurd h (by decide)⟩
  · have : e = ⟨[vA], 3⟩ := by simpa [bA] using he
    subst this
    decide
theorem valA : valC ⟨[], [], 0, 0, 4, 2⟩ cA := by
  refine ⟨by unfold formP; decide, by decide, by decide, ?_⟩
  intro x hx
  simp [cA] at hx
  unfold okX limZ
  simp
  omega
theorem valZ : valC ⟨[], [], 0, 1, 4, 1⟩ [0, 0, 0, 0] := by
  refine ⟨by unfold formP; decide, by decide, by decide, ?_⟩
  intro x hx
  simp at hx
  unfold okX limZ
  simp
  omega
attribute [local irreducible] Still Adds AWL AW Drw DrwE EStep AC AWR Weak Frz Src RetK Out InK ItK AsK RdK
set_option maxHeartbeats 4000000 in
theorem awake12_ok : AC Try.prog 33 [] (.c (bv true)) [] 0 := by
  have h1 := rtext_ok [97]
  rw [clV_ok (v := ⟨2, 0, [97]⟩) okA] at h1
  have h2 := build_ok [] [] 0 0 4 2 8 bA 1 rfl (by simp [maxLen]) fitA (by decide) valA.1 posA (by decide) rfl
  rw [cA_eq] at h2
  have h3 := rem_state [] [] 0 4 1 vA [0, 0, 0, 0] 4 1 rfl (by decide) (by decide) valZ okA (by decide) (by decide) (by decide)
  have h4 := est_ok [] [] 0 0 4 2 vA cA 8 rfl (by simp [maxLen]) (by decide) valA okA (by decide)
  rw [cA_least] at h4
  have hcl : (intc .i64 cA).length = 8 := rfl
  simp only [Vl.c, vA] at h1 h3 h4
  refine ac_enter tabOk (sz := 63) Try.func33 rfl (by rw [Try.ntmps33]; rfl) ?_
  repeat' (first
    | ((with_reducible refine aw_seqk ?_); intro K hK hX)
    | ((with_reducible refine isC_reg ?_); refine aw_prune [0, 1, 2, 3, 4, 5, 7, 8, 9] rfl rfl ?_; with_reducible refine aw_region ?_)
    | ((with_reducible refine isC_draw ?_); refine aw_prune [0, 1, 2, 3, 4, 5, 7, 8, 9] rfl rfl ?_; refine aw_drwF [] ?_)
    | ((first | with_reducible refine isA_bslice ?_ | with_reducible refine isD_bslice ?_); (first | refine wA ?_ | refine wD ?_); (first | refine ew_i (adds_closed (b_bslice0 tabOk rfl rfl rfl rfl rfl) zln) ?_ | refine ew_i (adds_closed (b_bslice tabOk rfl rfl rfl rfl rfl rfl rfl rfl rfl rfl rfl rfl (flatLF_ok rfl) (by first | rfl | exact all1 (by assumption) | (simp <;> fail) | fail) (by rfl)) zln) ?_))
    | ((first | with_reducible refine isA_mksl ?_ | with_reducible refine isD_mksl ?_); (first | refine wA ?_ | refine wD ?_); (first | refine ew_i (adds_closed (b_make tabOk rfl rfl rfl rfl rfl rfl rfl rfl rfl rfl zcj zcj zle zle (by simp only [maxLen]; omega) rfl) zln) ?_))
    | ((first | with_reducible refine isA_call ?_ | with_reducible refine isD_call ?_); (first | refine zA ?_ | refine zN ?_ | refine zD ?_); (first | refine c0 (h1) ?_ | refine c0 (h2) ?_ | refine c0 (h3) ?_))
    | refine stA ?_
    | refine stD ?_
    | (refine hK _ _ _ _ ?_; clear hK hX K)
    | (refine hX _ _ _ _ _ (by simp) ?_; clear hK hX K))
  clear h1 h2 h3
  repeat' (first
    | ((with_reducible refine aw_seqk ?_); intro K hK hX)
    | ((with_reducible refine isC_reg ?_); refine aw_prune [0, 1, 2, 3, 4, 5, 7, 8, 9] rfl rfl ?_; with_reducible refine aw_region ?_)
    | ((with_reducible refine isC_draw ?_); refine aw_prune [0, 1, 2, 3, 4, 5, 7, 8, 9] rfl rfl ?_; refine aw_drwF [] ?_)
    | ((with_reducible refine isC_loop ?_); refine aw_rounds 9 ?_)
    | (refine awr_k ?_; intro K hK hX)
    | ((first | with_reducible refine isA_call ?_ | with_reducible refine isD_call ?_); (first | refine zA ?_ | refine zN ?_ | refine zD ?_); (first | refine c0 (h4) ?_))
    | refine stA ?_
    | refine stD ?_
    | (refine hK _ _ _ _ ?_; clear hK hX K)
    | (refine hX _ _ _ _ _ (by simp) ?_; clear hK hX K))
  refine retK_mk (by first | exact .inl rfl | exact .inr rfl) (by exact trivial) rfl (ResL.one (ResA.tmp rfl)) (by first | exact out_c zfz | exact out_own rfl rfl)
set_option maxHeartbeats 4000000 in
theorem law_shash (v : Vl) (row : Int) : AC Try.prog 7 [.agg v.c, iv row] (.c (bv true)) [] 0 := by
  have ha := awake12_ok
  have hsz := sv_len v.t
  obtain ⟨rb, hrb⟩ := any_byte row
  obtain ⟨j, hj⟩ : ∃ j, (BitVec.ofInt 64 row &&& BitVec.ofNat 64 7).toNat = j := ⟨_, rfl⟩
  have hj7 := andN_le row 7 (by decide)
  rw [hj] at hj7
  have h1 := hash_ok v row rb hrb
  have h2 := rhash_ok v row rb hrb
  have h3 := hash_ok v j (UInt8.ofNat j) (row_byte (by omega))
  have h4 := rhash_ok v j (UInt8.ofNat j) (row_byte (by omega))
  generalize hashV v rb = x at h1 h2
  generalize hashV v (UInt8.ofNat j) = y at h3 h4
  obtain ⟨a, m, t⟩ := v
  simp only [Vl.c] at *
  by_cases b1 : 200 < t.length
  · refine ac_enter tabOk (sz := 31) Try.func7 rfl (by rw [Try.ntmps7]; rfl) ?_
    repeat' (first
    | ((with_reducible refine aw_seqk ?_); intro K hK hX)
    | ((with_reducible refine isC_reg ?_); refine aw_prune [0, 1, 2, 4] rfl rfl ?_; with_reducible refine aw_region ?_)
    | ((with_reducible refine isC_draw ?_); refine aw_prune [0, 1, 2, 4] rfl rfl ?_; refine aw_drwF [] ?_)
    | ((first | with_reducible refine isA_call ?_ | with_reducible refine isD_call ?_); (first | refine zA ?_ | refine zN ?_ | refine zD ?_); (first | refine c0 (ha) ?_))
    | refine stA ?_
    | refine stD ?_
    | (refine hK _ _ _ _ ?_; clear hK hX K)
    | (refine hX _ _ _ _ _ (by simp) ?_; clear hK hX K))
    refine retK_mk (by first | exact .inl rfl | exact .inr rfl) (by exact trivial) rfl (ResL.one (ResA.tmp rfl)) (by first | exact out_c zfz | exact out_own rfl rfl)
  · refine ac_enter tabOk (sz := 31) Try.func7 rfl (by rw [Try.ntmps7]; rfl) ?_
    repeat' (first
    | ((with_reducible refine aw_seqk ?_); intro K hK hX)
    | ((with_reducible refine isC_reg ?_); refine aw_prune [0, 1, 2, 4] rfl rfl ?_; with_reducible refine aw_region ?_)
    | ((with_reducible refine isC_draw ?_); refine aw_prune [0, 1, 2, 4] rfl rfl ?_; refine aw_drwF [] ?_)
    | ((first | with_reducible refine isA_call ?_ | with_reducible refine isD_call ?_); (first | refine zA ?_ | refine zN ?_ | refine zD ?_); (first | refine c0 (h1) ?_ | refine c0 (h2) ?_ | refine c0 (h3) ?_ | refine c0 (h4) ?_ | refine c0 (ha) ?_))
    | ((first | ((with_reducible refine isA_any ?_); refine xA ?_) | ((with_reducible refine isDk_any ?_); refine xD ?_)); (first | ((with_reducible refine e_bin ?_); (first | refine ex_i (s_andN (k := 7) (by decide) hj rfl rfl) ?_ | refine ex_i (s_cmp rfl rfl rfl (decide_eq_true rfl)) ?_))))
    | refine stA ?_
    | refine stD ?_
    | (refine hK _ _ _ _ ?_; clear hK hX K)
    | (refine hX _ _ _ _ _ (by simp) ?_; clear hK hX K))
    refine retK_mk (by first | exact .inl rfl | exact .inr rfl) (by exact trivial) rfl (ResL.one (ResA.tmp rfl)) (by first | exact out_c zfz | exact out_own rfl rfl)
end Go.Proofs.Ytccnhpaldmjkbaa
