/-
  erasurelaw32.DiskWhole returns true for every input.
-/
import Derived.Test.YtddlgdppfeeplaaAwake
set_option linter.unusedVariables false
set_option linter.unusedSimpArgs false
namespace Go.Proofs.Ytddlgdppfeeplaa
open Go Go.RowKit Go.Er
set_option maxRecDepth 100000


set_option maxHeartbeats 2000000 in
theorem whole_any (A B : Option Addr) (na nb ca cb : Nat) (a b : List UInt8) (fuel : Int) (w0 : World) (hx : SlR w0 0 w0.heap.size 1 A na ca (u8s a)) (hy : SlR w0 0 w0.heap.size 1 B nb cb (u8s b)) (hf1 : -9223372036854775808 ≤ fuel) (hf2 : fuel ≤ 9223372036854775807) :
    Calls Try.prog 4 #[.slice A na ca, .slice B nb cb, .int .i64 fuel] w0 fun e w' => e = .returned (.bool true) ∧ Below w0.heap.size w0 w' := by
  have hSt := ((St.init w0).arg (.sl _ _ 1 A _ ca _) hx (Nat.le_refl _)).arg (.sl _ _ 1 B _ cb _) hy (Nat.le_refl _)
  have hna : na ≤ 9223372036854775807 := by have h1 := hx.1; have h2 := hx.2.1; simp only [maxLen] at h2; omega
  have hnb : nb ≤ 9223372036854775807 := by have h1 := hy.1; have h2 := hy.2.1; simp only [maxLen] at h2; omega
  by_cases h1 : 100 < na
  · go_enter Try.func4, Try.ntmps4
    go_wp2_with (first
    | (go_at_call 9; refine (awake_any _).mono ?_; rintro e w' ⟨rfl, hb⟩; replace hSt := hSt.call hb; clear hb)
    | ((with_reducible refine is_load ?_); first
       | (refine st_load1 tabOk hSt _ (by exact rfl) (by exact rfl) (by exact rfl) (by first | exact own0 | exact own1 | exact own2 | exact own3 | exact own4 | exact own5 | exact own6 | exact own7 | exact own8 | exact own9) (by exact rfl) ?_)
       | (refine st_loadW tabOk hSt _ (by exact rfl) (by exact rfl) (by exact rfl) (by first | exact own0 | exact own1 | exact own2 | exact own3 | exact own4 | exact own5 | exact own6 | exact own7 | exact own8 | exact own9) (by first | exact rfl | simp) ?_))
    | ((with_reducible refine is_store ?_); first
       | (refine st_storeW tabOk hSt _ (by exact rfl) (by exact rfl) (by first | exact own0 | exact own1 | exact own2 | exact own3 | exact own4 | exact own5 | exact own6 | exact own7 | exact own8 | exact own9) (by exact rfl) (by first | exact rfl | simp) (by first | exact rfl | simp) (by first | exact rfl | simp) ?_; clear hSt; intro w hSt; simp only [List.set_cons_zero, List.set_cons_succ] at hSt)
       | (refine st_store1 tabOk hSt _ (by exact rfl) (by exact rfl) (by first | exact own0 | exact own1 | exact own2 | exact own3 | exact own4 | exact own5 | exact own6 | exact own7 | exact own8 | exact own9) (by first | exact evInt (by exact rfl) | exact evSlice (by exact rfl) | exact evBool (by exact rfl) | exact evStr (by exact rfl) | exact evPtr (by exact rfl) | exact evFn (by exact rfl) | exact evIf (by exact rfl) | exact evNil (by exact rfl) | exact evMap (by exact rfl) | exact evNilFn (by exact rfl)) (by exact rfl) (by first | simp | omega) (by exact rfl) ?_; clear hSt; intro w hSt; simp only [List.set_cons_zero, List.set_cons_succ] at hSt))
    | ((with_reducible refine is_alloc ?_); (refine st_alloc tabOk hSt (by exact rfl) ?_; clear hSt; intro w g hSt; dsimp only at hSt))
    | ((with_reducible refine is_box ?_); first
       | (refine st_boxA hSt (by exact rfl) ?_; clear hSt; intro w g hSt)
       | (refine st_box1 hSt (by first | exact evInt (by exact rfl) | exact evSlice (by exact rfl) | exact evBool (by exact rfl) | exact evStr (by exact rfl) | exact evPtr (by exact rfl) | exact evFn (by exact rfl) | exact evIf (by exact rfl) | exact evNil (by exact rfl) | exact evMap (by exact rfl) | exact evNilFn (by exact rfl)) (by exact rfl) ?_; clear hSt; intro w g hSt))
    | ((with_reducible refine is_conv ?_); first
       | (refine st_tostr (by exact rfl) uB uU8 uStr (by exact rfl) (by first | exact hSt.fact 0 rfl | exact hSt.fact 1 rfl | exact hSt.fact 2 rfl | exact hSt.fact 3 rfl | exact hSt.fact 4 rfl | exact hSt.fact 5 rfl | exact hSt.fact 6 rfl | exact hSt.fact 7 rfl | exact hSt.fact 8 rfl | exact hSt.fact 9 rfl | exact hSt.fact 10 rfl | exact hSt.fact 11 rfl) ?_)
       | (refine st_bconst uB uU8 hSt (by exact rfl) (by exact rfl) (by omega) (by simp [maxLen]) ?_; clear hSt; intro w hSt)))
    go_ret
    exact ⟨rfl, hSt.below⟩
  by_cases h2 : 100 < nb
  · go_enter Try.func4, Try.ntmps4
    go_wp2_with (first
    | (go_at_call 9; refine (awake_any _).mono ?_; rintro e w' ⟨rfl, hb⟩; replace hSt := hSt.call hb; clear hb)
    | ((with_reducible refine is_load ?_); first
       | (refine st_load1 tabOk hSt _ (by exact rfl) (by exact rfl) (by exact rfl) (by first | exact own0 | exact own1 | exact own2 | exact own3 | exact own4 | exact own5 | exact own6 | exact own7 | exact own8 | exact own9) (by exact rfl) ?_)
       | (refine st_loadW tabOk hSt _ (by exact rfl) (by exact rfl) (by exact rfl) (by first | exact own0 | exact own1 | exact own2 | exact own3 | exact own4 | exact own5 | exact own6 | exact own7 | exact own8 | exact own9) (by first | exact rfl | simp) ?_))
    | ((with_reducible refine is_store ?_); first
       | (refine st_storeW tabOk hSt _ (by exact rfl) (by exact rfl) (by first | exact own0 | exact own1 | exact own2 | exact own3 | exact own4 | exact own5 | exact own6 | exact own7 | exact own8 | exact own9) (by exact rfl) (by first | exact rfl | simp) (by first | exact rfl | simp) (by first | exact rfl | simp) ?_; clear hSt; intro w hSt; simp only [List.set_cons_zero, List.set_cons_succ] at hSt)
       | (refine st_store1 tabOk hSt _ (by exact rfl) (by exact rfl) (by first | exact own0 | exact own1 | exact own2 | exact own3 | exact own4 | exact own5 | exact own6 | exact own7 | exact own8 | exact own9) (by first | exact evInt (by exact rfl) | exact evSlice (by exact rfl) | exact evBool (by exact rfl) | exact evStr (by exact rfl) | exact evPtr (by exact rfl) | exact evFn (by exact rfl) | exact evIf (by exact rfl) | exact evNil (by exact rfl) | exact evMap (by exact rfl) | exact evNilFn (by exact rfl)) (by exact rfl) (by first | simp | omega) (by exact rfl) ?_; clear hSt; intro w hSt; simp only [List.set_cons_zero, List.set_cons_succ] at hSt))
    | ((with_reducible refine is_alloc ?_); (refine st_alloc tabOk hSt (by exact rfl) ?_; clear hSt; intro w g hSt; dsimp only at hSt))
    | ((with_reducible refine is_box ?_); first
       | (refine st_boxA hSt (by exact rfl) ?_; clear hSt; intro w g hSt)
       | (refine st_box1 hSt (by first | exact evInt (by exact rfl) | exact evSlice (by exact rfl) | exact evBool (by exact rfl) | exact evStr (by exact rfl) | exact evPtr (by exact rfl) | exact evFn (by exact rfl) | exact evIf (by exact rfl) | exact evNil (by exact rfl) | exact evMap (by exact rfl) | exact evNilFn (by exact rfl)) (by exact rfl) ?_; clear hSt; intro w g hSt))
    | ((with_reducible refine is_conv ?_); first
       | (refine st_tostr (by exact rfl) uB uU8 uStr (by exact rfl) (by first | exact hSt.fact 0 rfl | exact hSt.fact 1 rfl | exact hSt.fact 2 rfl | exact hSt.fact 3 rfl | exact hSt.fact 4 rfl | exact hSt.fact 5 rfl | exact hSt.fact 6 rfl | exact hSt.fact 7 rfl | exact hSt.fact 8 rfl | exact hSt.fact 9 rfl | exact hSt.fact 10 rfl | exact hSt.fact 11 rfl) ?_)
       | (refine st_bconst uB uU8 hSt (by exact rfl) (by exact rfl) (by omega) (by simp [maxLen]) ?_; clear hSt; intro w hSt)))
    go_ret
    exact ⟨rfl, hSt.below⟩
  have hla := hx.len8
  have hlb := hy.len8
  have HLA := Lib.hid hla
  have HLB := Lib.hid hlb
  clear hx hy
  have e1 : appendS ⟨[], [], -1, false⟩ a = (⟨[], a, -1, false⟩, 0) := by
    rw [appendS, if_pos (validB_of (by simp) (by omega)), if_neg (by simp), if_neg (by simp; omega), if_neg (by simp)]
    rfl
  have E1 := Lib.hid e1
  obtain ⟨n, hn, hn130⟩ : ∃ n : Nat, wrap64 ((IntKind.u64.wrap fuel).tmod 130) = n ∧ n < 130 := by
    have hu : 0 ≤ IntKind.u64.wrap fuel := by rw [IntKind.wrap_u64]; omega
    have ht : (IntKind.u64.wrap fuel).tmod 130 = (IntKind.u64.wrap fuel) % 130 := Int.tmod_eq_emod_of_nonneg hu
    refine ⟨((IntKind.u64.wrap fuel) % 130).toNat, ?_, by omega⟩
    rw [ht, IntWalk.wrap64_in _ (by omega)]
    omega
  have e2 : failS ⟨[], a, -1, false⟩ n = (⟨[], a, n, false⟩, 0) := by
    rw [failS, if_pos ⟨validB_of (by simp; omega) (by omega), by omega⟩]
  have E2 := Lib.hid e2
  have hnn : (n : Int) ≤ 9223372036854775807 := by omega
  by_cases hlt : n < nb
  · have e3 : appendS ⟨[], a, n, false⟩ b = (⟨[], a ++ b.take n, 0, true⟩, 104) := by
      rw [appendS, if_pos (validB_of (by simp; omega) (by omega)), if_neg (by simp), if_neg (by simp; omega), if_pos (by simp; omega)]
      rfl
    have E3 := Lib.hid e3
    clear e1 e2 e3 hla hlb
    have hcb : nb ≤ cb := (hSt.fact 0 rfl : SlR w0 0 w0.heap.size 1 B nb cb (u8s b)).1
    have hncb : n ≤ cb := by omega
    have hncb' : (n : Int) ≤ (cb : Int) := by omega
    have hT : SlR w0 0 w0.heap.size 1 B n cb (u8s (b.take n)) := by
      have := (hSt.fact 0 rfl : SlR w0 0 w0.heap.size 1 B nb cb (u8s b)).take n (by omega)
      rwa [Nat.mul_one, u8s_take] at this
    replace hSt := (hSt.also 0 rfl (.sl _ _ 1 B n cb _) hT (Nat.le_refl _) (Nat.le_refl _))
    clear hT
    have E1' := E1
    go_enter Try.func4, Try.ntmps4
    go_wp2_with (first
    | (go_at_call 11; refine (new_any _).mono ?_; rintro e w' ⟨rfl, hb⟩; replace hSt := hSt.call hb; clear hb) | (go_at_call 10; refine (append_to E1.out (SlR.nil _ 0 0 _) (SlR.nil _ 0 0 _) (hSt.fact 2 rfl) (Nat.zero_le _) (Nat.zero_le _) (hSt.fhi 2 rfl) (by omega) (by omega) (by omega) (by omega)).mono ?_)
    | ((with_reducible refine is_load ?_); first
       | (refine st_load1 tabOk hSt _ (by exact rfl) (by exact rfl) (by exact rfl) (by first | exact own0 | exact own1 | exact own2 | exact own3 | exact own4 | exact own5 | exact own6 | exact own7 | exact own8 | exact own9) (by exact rfl) ?_)
       | (refine st_loadW tabOk hSt _ (by exact rfl) (by exact rfl) (by exact rfl) (by first | exact own0 | exact own1 | exact own2 | exact own3 | exact own4 | exact own5 | exact own6 | exact own7 | exact own8 | exact own9) (by first | exact rfl | simp) ?_))
    | ((with_reducible refine is_store ?_); first
       | (refine st_storeW tabOk hSt _ (by exact rfl) (by exact rfl) (by first | exact own0 | exact own1 | exact own2 | exact own3 | exact own4 | exact own5 | exact own6 | exact own7 | exact own8 | exact own9) (by exact rfl) (by first | exact rfl | simp) (by first | exact rfl | simp) (by first | exact rfl | simp) ?_; clear hSt; intro w hSt; simp only [List.set_cons_zero, List.set_cons_succ] at hSt)
       | (refine st_store1 tabOk hSt _ (by exact rfl) (by exact rfl) (by first | exact own0 | exact own1 | exact own2 | exact own3 | exact own4 | exact own5 | exact own6 | exact own7 | exact own8 | exact own9) (by first | exact evInt (by exact rfl) | exact evSlice (by exact rfl) | exact evBool (by exact rfl) | exact evStr (by exact rfl) | exact evPtr (by exact rfl) | exact evFn (by exact rfl) | exact evIf (by exact rfl) | exact evNil (by exact rfl) | exact evMap (by exact rfl) | exact evNilFn (by exact rfl)) (by exact rfl) (by first | simp | omega) (by exact rfl) ?_; clear hSt; intro w hSt; simp only [List.set_cons_zero, List.set_cons_succ] at hSt))
    | ((with_reducible refine is_alloc ?_); (refine st_alloc tabOk hSt (by exact rfl) ?_; clear hSt; intro w g hSt; dsimp only at hSt))
    | ((with_reducible refine is_box ?_); first
       | (refine st_boxA hSt (by exact rfl) ?_; clear hSt; intro w g hSt)
       | (refine st_box1 hSt (by first | exact evInt (by exact rfl) | exact evSlice (by exact rfl) | exact evBool (by exact rfl) | exact evStr (by exact rfl) | exact evPtr (by exact rfl) | exact evFn (by exact rfl) | exact evIf (by exact rfl) | exact evNil (by exact rfl) | exact evMap (by exact rfl) | exact evNilFn (by exact rfl)) (by exact rfl) ?_; clear hSt; intro w g hSt))
    | ((with_reducible refine is_conv ?_); first
       | (refine st_tostr (by exact rfl) uB uU8 uStr (by exact rfl) (by first | exact hSt.fact 0 rfl | exact hSt.fact 1 rfl | exact hSt.fact 2 rfl | exact hSt.fact 3 rfl | exact hSt.fact 4 rfl | exact hSt.fact 5 rfl | exact hSt.fact 6 rfl | exact hSt.fact 7 rfl | exact hSt.fact 8 rfl | exact hSt.fact 9 rfl | exact hSt.fact 10 rfl | exact hSt.fact 11 rfl) ?_)
       | (refine st_bconst uB uU8 hSt (by exact rfl) (by exact rfl) (by omega) (by simp [maxLen]) ?_; clear hSt; intro w hSt)))
    rintro e w' ⟨_, rfl, ⟨A1, B1, n1, m1, c1, d1, rfl, k1, k2⟩, hb⟩
    obtain rfl : 0 = n1 := k1.len8
    have hm1 := HLA.out.symm.trans k2.len8
    obtain rfl : na = m1 := hm1
    replace hSt := hSt.more2 hb (.sl _ _ 1 A1 _ c1 _) (.sl _ _ 1 B1 _ d1 _) k1 k2 (Nat.le_refl _) (Nat.le_refl _) (Nat.le_refl _) (Nat.le_refl _)
    clear k1 k2 hb
    go_wp2_with (first
    | (go_at_call 13; refine (fail_to E2.out (hSt.fact 0 rfl) (hSt.fact 1 rfl) (hSt.fhi 0 rfl) (hSt.fhi 1 rfl) (by omega) (by omega)).mono ?_)
    | ((with_reducible refine is_load ?_); first
       | (refine st_load1 tabOk hSt _ (by exact rfl) (by exact rfl) (by exact rfl) (by first | exact own0 | exact own1 | exact own2 | exact own3 | exact own4 | exact own5 | exact own6 | exact own7 | exact own8 | exact own9) (by exact rfl) ?_)
       | (refine st_loadW tabOk hSt _ (by exact rfl) (by exact rfl) (by exact rfl) (by first | exact own0 | exact own1 | exact own2 | exact own3 | exact own4 | exact own5 | exact own6 | exact own7 | exact own8 | exact own9) (by first | exact rfl | simp) ?_))
    | ((with_reducible refine is_store ?_); first
       | (refine st_storeW tabOk hSt _ (by exact rfl) (by exact rfl) (by first | exact own0 | exact own1 | exact own2 | exact own3 | exact own4 | exact own5 | exact own6 | exact own7 | exact own8 | exact own9) (by exact rfl) (by first | exact rfl | simp) (by first | exact rfl | simp) (by first | exact rfl | simp) ?_; clear hSt; intro w hSt; simp only [List.set_cons_zero, List.set_cons_succ] at hSt)
       | (refine st_store1 tabOk hSt _ (by exact rfl) (by exact rfl) (by first | exact own0 | exact own1 | exact own2 | exact own3 | exact own4 | exact own5 | exact own6 | exact own7 | exact own8 | exact own9) (by first | exact evInt (by exact rfl) | exact evSlice (by exact rfl) | exact evBool (by exact rfl) | exact evStr (by exact rfl) | exact evPtr (by exact rfl) | exact evFn (by exact rfl) | exact evIf (by exact rfl) | exact evNil (by exact rfl) | exact evMap (by exact rfl) | exact evNilFn (by exact rfl)) (by exact rfl) (by first | simp | omega) (by exact rfl) ?_; clear hSt; intro w hSt; simp only [List.set_cons_zero, List.set_cons_succ] at hSt))
    | ((with_reducible refine is_alloc ?_); (refine st_alloc tabOk hSt (by exact rfl) ?_; clear hSt; intro w g hSt; dsimp only at hSt))
    | ((with_reducible refine is_box ?_); first
       | (refine st_boxA hSt (by exact rfl) ?_; clear hSt; intro w g hSt)
       | (refine st_box1 hSt (by first | exact evInt (by exact rfl) | exact evSlice (by exact rfl) | exact evBool (by exact rfl) | exact evStr (by exact rfl) | exact evPtr (by exact rfl) | exact evFn (by exact rfl) | exact evIf (by exact rfl) | exact evNil (by exact rfl) | exact evMap (by exact rfl) | exact evNilFn (by exact rfl)) (by exact rfl) ?_; clear hSt; intro w g hSt))
    | ((with_reducible refine is_conv ?_); first
       | (refine st_tostr (by exact rfl) uB uU8 uStr (by exact rfl) (by first | exact hSt.fact 0 rfl | exact hSt.fact 1 rfl | exact hSt.fact 2 rfl | exact hSt.fact 3 rfl | exact hSt.fact 4 rfl | exact hSt.fact 5 rfl | exact hSt.fact 6 rfl | exact hSt.fact 7 rfl | exact hSt.fact 8 rfl | exact hSt.fact 9 rfl | exact hSt.fact 10 rfl | exact hSt.fact 11 rfl) ?_)
       | (refine st_bconst uB uU8 hSt (by exact rfl) (by exact rfl) (by omega) (by simp [maxLen]) ?_; clear hSt; intro w hSt)))
    rintro e w' ⟨_, rfl, ⟨A2, B2, n2, m2, c2, d2, rfl, k1, k2⟩, hb⟩
    obtain rfl : 0 = n2 := k1.len8
    have hm1 := HLA.out.symm.trans k2.len8
    obtain rfl : na = m2 := hm1
    replace hSt := hSt.more2 hb (.sl _ _ 1 A2 _ c2 _) (.sl _ _ 1 B2 _ d2 _) k1 k2 (Nat.le_refl _) (Nat.le_refl _) (Nat.le_refl _) (Nat.le_refl _)
    clear k1 k2 hb
    go_wp2_with (first
    | (go_at_call 10; refine (append_to E3.out (hSt.fact 0 rfl) (hSt.fact 1 rfl) (hSt.fact 5 rfl) (hSt.fhi 0 rfl) (hSt.fhi 1 rfl) (hSt.fhi 5 rfl) (by omega) (by omega) (by omega) hnn).mono ?_)
    | ((with_reducible refine is_load ?_); first
       | (refine st_load1 tabOk hSt _ (by exact rfl) (by exact rfl) (by exact rfl) (by first | exact own0 | exact own1 | exact own2 | exact own3 | exact own4 | exact own5 | exact own6 | exact own7 | exact own8 | exact own9) (by exact rfl) ?_)
       | (refine st_loadW tabOk hSt _ (by exact rfl) (by exact rfl) (by exact rfl) (by first | exact own0 | exact own1 | exact own2 | exact own3 | exact own4 | exact own5 | exact own6 | exact own7 | exact own8 | exact own9) (by first | exact rfl | simp) ?_))
    | ((with_reducible refine is_store ?_); first
       | (refine st_storeW tabOk hSt _ (by exact rfl) (by exact rfl) (by first | exact own0 | exact own1 | exact own2 | exact own3 | exact own4 | exact own5 | exact own6 | exact own7 | exact own8 | exact own9) (by exact rfl) (by first | exact rfl | simp) (by first | exact rfl | simp) (by first | exact rfl | simp) ?_; clear hSt; intro w hSt; simp only [List.set_cons_zero, List.set_cons_succ] at hSt)
       | (refine st_store1 tabOk hSt _ (by exact rfl) (by exact rfl) (by first | exact own0 | exact own1 | exact own2 | exact own3 | exact own4 | exact own5 | exact own6 | exact own7 | exact own8 | exact own9) (by first | exact evInt (by exact rfl) | exact evSlice (by exact rfl) | exact evBool (by exact rfl) | exact evStr (by exact rfl) | exact evPtr (by exact rfl) | exact evFn (by exact rfl) | exact evIf (by exact rfl) | exact evNil (by exact rfl) | exact evMap (by exact rfl) | exact evNilFn (by exact rfl)) (by exact rfl) (by first | simp | omega) (by exact rfl) ?_; clear hSt; intro w hSt; simp only [List.set_cons_zero, List.set_cons_succ] at hSt))
    | ((with_reducible refine is_alloc ?_); (refine st_alloc tabOk hSt (by exact rfl) ?_; clear hSt; intro w g hSt; dsimp only at hSt))
    | ((with_reducible refine is_box ?_); first
       | (refine st_boxA hSt (by exact rfl) ?_; clear hSt; intro w g hSt)
       | (refine st_box1 hSt (by first | exact evInt (by exact rfl) | exact evSlice (by exact rfl) | exact evBool (by exact rfl) | exact evStr (by exact rfl) | exact evPtr (by exact rfl) | exact evFn (by exact rfl) | exact evIf (by exact rfl) | exact evNil (by exact rfl) | exact evMap (by exact rfl) | exact evNilFn (by exact rfl)) (by exact rfl) ?_; clear hSt; intro w g hSt))
    | ((with_reducible refine is_conv ?_); first
       | (refine st_tostr (by exact rfl) uB uU8 uStr (by exact rfl) (by first | exact hSt.fact 0 rfl | exact hSt.fact 1 rfl | exact hSt.fact 2 rfl | exact hSt.fact 3 rfl | exact hSt.fact 4 rfl | exact hSt.fact 5 rfl | exact hSt.fact 6 rfl | exact hSt.fact 7 rfl | exact hSt.fact 8 rfl | exact hSt.fact 9 rfl | exact hSt.fact 10 rfl | exact hSt.fact 11 rfl) ?_)
       | (refine st_bconst uB uU8 hSt (by exact rfl) (by exact rfl) (by omega) (by simp [maxLen]) ?_; clear hSt; intro w hSt)))
    rintro e w' ⟨_, rfl, ⟨A3, B3, n3, m3, c3, d3, rfl, k1, k2⟩, hb⟩
    obtain rfl : 0 = n3 := k1.len8
    have hm3 := k2.len8
    have hm3' : m3 ≤ 2 ^ 47 := by rw [← hm3]; have := HLA.out; have := HLB.out; simp; omega
    clear hm3
    replace hSt := hSt.more2 hb (.sl _ _ 1 A3 _ c3 _) (.sl _ _ 1 B3 _ d3 _) k1 k2 (Nat.le_refl _) (Nat.le_refl _) (Nat.le_refl _) (Nat.le_refl _)
    clear k1 k2 hb
    go_wp2_with (first
    | fail
    | ((with_reducible refine is_load ?_); first
       | (refine st_load1 tabOk hSt _ (by exact rfl) (by exact rfl) (by exact rfl) (by first | exact own0 | exact own1 | exact own2 | exact own3 | exact own4 | exact own5 | exact own6 | exact own7 | exact own8 | exact own9) (by exact rfl) ?_)
       | (refine st_loadW tabOk hSt _ (by exact rfl) (by exact rfl) (by exact rfl) (by first | exact own0 | exact own1 | exact own2 | exact own3 | exact own4 | exact own5 | exact own6 | exact own7 | exact own8 | exact own9) (by first | exact rfl | simp) ?_))
    | ((with_reducible refine is_store ?_); first
       | (refine st_storeW tabOk hSt _ (by exact rfl) (by exact rfl) (by first | exact own0 | exact own1 | exact own2 | exact own3 | exact own4 | exact own5 | exact own6 | exact own7 | exact own8 | exact own9) (by exact rfl) (by first | exact rfl | simp) (by first | exact rfl | simp) (by first | exact rfl | simp) ?_; clear hSt; intro w hSt; simp only [List.set_cons_zero, List.set_cons_succ] at hSt)
       | (refine st_store1 tabOk hSt _ (by exact rfl) (by exact rfl) (by first | exact own0 | exact own1 | exact own2 | exact own3 | exact own4 | exact own5 | exact own6 | exact own7 | exact own8 | exact own9) (by first | exact evInt (by exact rfl) | exact evSlice (by exact rfl) | exact evBool (by exact rfl) | exact evStr (by exact rfl) | exact evPtr (by exact rfl) | exact evFn (by exact rfl) | exact evIf (by exact rfl) | exact evNil (by exact rfl) | exact evMap (by exact rfl) | exact evNilFn (by exact rfl)) (by exact rfl) (by first | simp | omega) (by exact rfl) ?_; clear hSt; intro w hSt; simp only [List.set_cons_zero, List.set_cons_succ] at hSt))
    | ((with_reducible refine is_alloc ?_); (refine st_alloc tabOk hSt (by exact rfl) ?_; clear hSt; intro w g hSt; dsimp only at hSt))
    | ((with_reducible refine is_box ?_); first
       | (refine st_boxA hSt (by exact rfl) ?_; clear hSt; intro w g hSt)
       | (refine st_box1 hSt (by first | exact evInt (by exact rfl) | exact evSlice (by exact rfl) | exact evBool (by exact rfl) | exact evStr (by exact rfl) | exact evPtr (by exact rfl) | exact evFn (by exact rfl) | exact evIf (by exact rfl) | exact evNil (by exact rfl) | exact evMap (by exact rfl) | exact evNilFn (by exact rfl)) (by exact rfl) ?_; clear hSt; intro w g hSt))
    | ((with_reducible refine is_conv ?_); first
       | (refine st_tostr (by exact rfl) uB uU8 uStr (by exact rfl) (by first | exact hSt.fact 0 rfl | exact hSt.fact 1 rfl | exact hSt.fact 2 rfl | exact hSt.fact 3 rfl | exact hSt.fact 4 rfl | exact hSt.fact 5 rfl | exact hSt.fact 6 rfl | exact hSt.fact 7 rfl | exact hSt.fact 8 rfl | exact hSt.fact 9 rfl | exact hSt.fact 10 rfl | exact hSt.fact 11 rfl) ?_)
       | (refine st_bconst uB uU8 hSt (by exact rfl) (by exact rfl) (by omega) (by simp [maxLen]) ?_; clear hSt; intro w hSt)))
    have hsum : ¬ 9223372036854775807 < na + n := by omega
    have hal : a.length = na := HLA.out
    have htl : (b.take n).length = n := by have := HLB.out; simp; omega
    (refine st_tail 28 (by kernel_rfl) (by kernel_rfl) hSt ?_; clear hSt; intro w hSt; simp only [List.take_succ_cons, List.take_zero, List.drop_succ_cons, List.drop_zero]; (repeat (first | ((with_reducible refine isl_load ?_); first | (refine stl_load1 tabOk hSt _ (by exact rfl) (by exact rfl) (by exact rfl) (by first | exact own0 | exact own1 | exact own2 | exact own3 | exact own4 | exact own5 | exact own6 | exact own7 | exact own8 | exact own9) (by exact rfl) ?_) | (refine stl_loadW tabOk hSt _ (by exact rfl) (by exact rfl) (by exact rfl) (by first | exact own0 | exact own1 | exact own2 | exact own3 | exact own4 | exact own5 | exact own6 | exact own7 | exact own8 | exact own9) (by first | exact rfl | simp) ?_)) | ((with_reducible refine isl_conv ?_); (refine stl_tostr (by exact rfl) uB uU8 uStr (by exact rfl) (by first | exact hSt.fact 0 rfl | exact hSt.fact 1 rfl | exact hSt.fact 2 rfl | exact hSt.fact 3 rfl | exact hSt.fact 4 rfl | exact hSt.fact 5 rfl | exact hSt.fact 6 rfl | exact hSt.fact 7 rfl | exact hSt.fact 8 rfl | exact hSt.fact 9 rfl | exact hSt.fact 10 rfl | exact hSt.fact 11 rfl) ?_)) | still_step)); refine wpStill_nil ?_)
    go_wp2_with (first
    | (go_at_call 9; refine (awake_any _).mono ?_; rintro e w' ⟨rfl, hb⟩; replace hSt := hSt.call hb; clear hb)
    | ((with_reducible refine is_load ?_); first
       | (refine st_load1 tabOk hSt _ (by exact rfl) (by exact rfl) (by exact rfl) (by first | exact own0 | exact own1 | exact own2 | exact own3 | exact own4 | exact own5 | exact own6 | exact own7 | exact own8 | exact own9) (by exact rfl) ?_)
       | (refine st_loadW tabOk hSt _ (by exact rfl) (by exact rfl) (by exact rfl) (by first | exact own0 | exact own1 | exact own2 | exact own3 | exact own4 | exact own5 | exact own6 | exact own7 | exact own8 | exact own9) (by first | exact rfl | simp) ?_))
    | ((with_reducible refine is_store ?_); first
       | (refine st_storeW tabOk hSt _ (by exact rfl) (by exact rfl) (by first | exact own0 | exact own1 | exact own2 | exact own3 | exact own4 | exact own5 | exact own6 | exact own7 | exact own8 | exact own9) (by exact rfl) (by first | exact rfl | simp) (by first | exact rfl | simp) (by first | exact rfl | simp) ?_; clear hSt; intro w hSt; simp only [List.set_cons_zero, List.set_cons_succ] at hSt)
       | (refine st_store1 tabOk hSt _ (by exact rfl) (by exact rfl) (by first | exact own0 | exact own1 | exact own2 | exact own3 | exact own4 | exact own5 | exact own6 | exact own7 | exact own8 | exact own9) (by first | exact evInt (by exact rfl) | exact evSlice (by exact rfl) | exact evBool (by exact rfl) | exact evStr (by exact rfl) | exact evPtr (by exact rfl) | exact evFn (by exact rfl) | exact evIf (by exact rfl) | exact evNil (by exact rfl) | exact evMap (by exact rfl) | exact evNilFn (by exact rfl)) (by exact rfl) (by first | simp | omega) (by exact rfl) ?_; clear hSt; intro w hSt; simp only [List.set_cons_zero, List.set_cons_succ] at hSt))
    | ((with_reducible refine is_alloc ?_); (refine st_alloc tabOk hSt (by exact rfl) ?_; clear hSt; intro w g hSt; dsimp only at hSt))
    | ((with_reducible refine is_box ?_); first
       | (refine st_boxA hSt (by exact rfl) ?_; clear hSt; intro w g hSt)
       | (refine st_box1 hSt (by first | exact evInt (by exact rfl) | exact evSlice (by exact rfl) | exact evBool (by exact rfl) | exact evStr (by exact rfl) | exact evPtr (by exact rfl) | exact evFn (by exact rfl) | exact evIf (by exact rfl) | exact evNil (by exact rfl) | exact evMap (by exact rfl) | exact evNilFn (by exact rfl)) (by exact rfl) ?_; clear hSt; intro w g hSt))
    | ((with_reducible refine is_conv ?_); first
       | (refine st_tostr (by exact rfl) uB uU8 uStr (by exact rfl) (by first | exact hSt.fact 0 rfl | exact hSt.fact 1 rfl | exact hSt.fact 2 rfl | exact hSt.fact 3 rfl | exact hSt.fact 4 rfl | exact hSt.fact 5 rfl | exact hSt.fact 6 rfl | exact hSt.fact 7 rfl | exact hSt.fact 8 rfl | exact hSt.fact 9 rfl | exact hSt.fact 10 rfl | exact hSt.fact 11 rfl) ?_)
       | (refine st_bconst uB uU8 hSt (by exact rfl) (by exact rfl) (by omega) (by simp [maxLen]) ?_; clear hSt; intro w hSt)))
    go_ret
    exact ⟨rfl, hSt.below⟩
  · have e3 : appendS ⟨[], a, n, false⟩ b = (⟨[], a ++ b, n - b.length, false⟩, 0) := by
      rw [appendS, if_pos (validB_of (by simp; omega) (by omega)), if_neg (by simp), if_neg (by simp; omega), if_neg (by simp; omega), if_neg (by simp only; omega)]
    have E3 := Lib.hid e3
    clear e1 e2 e3 hla hlb
    go_enter Try.func4, Try.ntmps4
    go_wp2_with (first
    | (go_at_call 11; refine (new_any _).mono ?_; rintro e w' ⟨rfl, hb⟩; replace hSt := hSt.call hb; clear hb) | (go_at_call 10; refine (append_to E1.out (SlR.nil _ 0 0 _) (SlR.nil _ 0 0 _) (hSt.fact 1 rfl) (Nat.zero_le _) (Nat.zero_le _) (hSt.fhi 1 rfl) (by omega) (by omega) (by omega) (by omega)).mono ?_)
    | ((with_reducible refine is_load ?_); first
       | (refine st_load1 tabOk hSt _ (by exact rfl) (by exact rfl) (by exact rfl) (by first | exact own0 | exact own1 | exact own2 | exact own3 | exact own4 | exact own5 | exact own6 | exact own7 | exact own8 | exact own9) (by exact rfl) ?_)
       | (refine st_loadW tabOk hSt _ (by exact rfl) (by exact rfl) (by exact rfl) (by first | exact own0 | exact own1 | exact own2 | exact own3 | exact own4 | exact own5 | exact own6 | exact own7 | exact own8 | exact own9) (by first | exact rfl | simp) ?_))
    | ((with_reducible refine is_store ?_); first
       | (refine st_storeW tabOk hSt _ (by exact rfl) (by exact rfl) (by first | exact own0 | exact own1 | exact own2 | exact own3 | exact own4 | exact own5 | exact own6 | exact own7 | exact own8 | exact own9) (by exact rfl) (by first | exact rfl | simp) (by first | exact rfl | simp) (by first | exact rfl | simp) ?_; clear hSt; intro w hSt; simp only [List.set_cons_zero, List.set_cons_succ] at hSt)
       | (refine st_store1 tabOk hSt _ (by exact rfl) (by exact rfl) (by first | exact own0 | exact own1 | exact own2 | exact own3 | exact own4 | exact own5 | exact own6 | exact own7 | exact own8 | exact own9) (by first | exact evInt (by exact rfl) | exact evSlice (by exact rfl) | exact evBool (by exact rfl) | exact evStr (by exact rfl) | exact evPtr (by exact rfl) | exact evFn (by exact rfl) | exact evIf (by exact rfl) | exact evNil (by exact rfl) | exact evMap (by exact rfl) | exact evNilFn (by exact rfl)) (by exact rfl) (by first | simp | omega) (by exact rfl) ?_; clear hSt; intro w hSt; simp only [List.set_cons_zero, List.set_cons_succ] at hSt))
    | ((with_reducible refine is_alloc ?_); (refine st_alloc tabOk hSt (by exact rfl) ?_; clear hSt; intro w g hSt; dsimp only at hSt))
    | ((with_reducible refine is_box ?_); first
       | (refine st_boxA hSt (by exact rfl) ?_; clear hSt; intro w g hSt)
       | (refine st_box1 hSt (by first | exact evInt (by exact rfl) | exact evSlice (by exact rfl) | exact evBool (by exact rfl) | exact evStr (by exact rfl) | exact evPtr (by exact rfl) | exact evFn (by exact rfl) | exact evIf (by exact rfl) | exact evNil (by exact rfl) | exact evMap (by exact rfl) | exact evNilFn (by exact rfl)) (by exact rfl) ?_; clear hSt; intro w g hSt))
    | ((with_reducible refine is_conv ?_); first
       | (refine st_tostr (by exact rfl) uB uU8 uStr (by exact rfl) (by first | exact hSt.fact 0 rfl | exact hSt.fact 1 rfl | exact hSt.fact 2 rfl | exact hSt.fact 3 rfl | exact hSt.fact 4 rfl | exact hSt.fact 5 rfl | exact hSt.fact 6 rfl | exact hSt.fact 7 rfl | exact hSt.fact 8 rfl | exact hSt.fact 9 rfl | exact hSt.fact 10 rfl | exact hSt.fact 11 rfl) ?_)
       | (refine st_bconst uB uU8 hSt (by exact rfl) (by exact rfl) (by omega) (by simp [maxLen]) ?_; clear hSt; intro w hSt)))
    rintro e w' ⟨_, rfl, ⟨A1, B1, n1, m1, c1, d1, rfl, k1, k2⟩, hb⟩
    obtain rfl : 0 = n1 := k1.len8
    have hm1 := HLA.out.symm.trans k2.len8
    obtain rfl : na = m1 := hm1
    replace hSt := hSt.more2 hb (.sl _ _ 1 A1 _ c1 _) (.sl _ _ 1 B1 _ d1 _) k1 k2 (Nat.le_refl _) (Nat.le_refl _) (Nat.le_refl _) (Nat.le_refl _)
    clear k1 k2 hb
    go_wp2_with (first
    | (go_at_call 13; refine (fail_to E2.out (hSt.fact 0 rfl) (hSt.fact 1 rfl) (hSt.fhi 0 rfl) (hSt.fhi 1 rfl) (by omega) (by omega)).mono ?_)
    | ((with_reducible refine is_load ?_); first
       | (refine st_load1 tabOk hSt _ (by exact rfl) (by exact rfl) (by exact rfl) (by first | exact own0 | exact own1 | exact own2 | exact own3 | exact own4 | exact own5 | exact own6 | exact own7 | exact own8 | exact own9) (by exact rfl) ?_)
       | (refine st_loadW tabOk hSt _ (by exact rfl) (by exact rfl) (by exact rfl) (by first | exact own0 | exact own1 | exact own2 | exact own3 | exact own4 | exact own5 | exact own6 | exact own7 | exact own8 | exact own9) (by first | exact rfl | simp) ?_))
    | ((with_reducible refine is_store ?_); first
       | (refine st_storeW tabOk hSt _ (by exact rfl) (by exact rfl) (by first | exact own0 | exact own1 | exact own2 | exact own3 | exact own4 | exact own5 | exact own6 | exact own7 | exact own8 | exact own9) (by exact rfl) (by first | exact rfl | simp) (by first | exact rfl | simp) (by first | exact rfl | simp) ?_; clear hSt; intro w hSt; simp only [List.set_cons_zero, List.set_cons_succ] at hSt)
       | (refine st_store1 tabOk hSt _ (by exact rfl) (by exact rfl) (by first | exact own0 | exact own1 | exact own2 | exact own3 | exact own4 | exact own5 | exact own6 | exact own7 | exact own8 | exact own9) (by first | exact evInt (by exact rfl) | exact evSlice (by exact rfl) | exact evBool (by exact rfl) | exact evStr (by exact rfl) | exact evPtr (by exact rfl) | exact evFn (by exact rfl) | exact evIf (by exact rfl) | exact evNil (by exact rfl) | exact evMap (by exact rfl) | exact evNilFn (by exact rfl)) (by exact rfl) (by first | simp | omega) (by exact rfl) ?_; clear hSt; intro w hSt; simp only [List.set_cons_zero, List.set_cons_succ] at hSt))
    | ((with_reducible refine is_alloc ?_); (refine st_alloc tabOk hSt (by exact rfl) ?_; clear hSt; intro w g hSt; dsimp only at hSt))
    | ((with_reducible refine is_box ?_); first
       | (refine st_boxA hSt (by exact rfl) ?_; clear hSt; intro w g hSt)
       | (refine st_box1 hSt (by first | exact evInt (by exact rfl) | exact evSlice (by exact rfl) | exact evBool (by exact rfl) | exact evStr (by exact rfl) | exact evPtr (by exact rfl) | exact evFn (by exact rfl) | exact evIf (by exact rfl) | exact evNil (by exact rfl) | exact evMap (by exact rfl) | exact evNilFn (by exact rfl)) (by exact rfl) ?_; clear hSt; intro w g hSt))
    | ((with_reducible refine is_conv ?_); first
       | (refine st_tostr (by exact rfl) uB uU8 uStr (by exact rfl) (by first | exact hSt.fact 0 rfl | exact hSt.fact 1 rfl | exact hSt.fact 2 rfl | exact hSt.fact 3 rfl | exact hSt.fact 4 rfl | exact hSt.fact 5 rfl | exact hSt.fact 6 rfl | exact hSt.fact 7 rfl | exact hSt.fact 8 rfl | exact hSt.fact 9 rfl | exact hSt.fact 10 rfl | exact hSt.fact 11 rfl) ?_)
       | (refine st_bconst uB uU8 hSt (by exact rfl) (by exact rfl) (by omega) (by simp [maxLen]) ?_; clear hSt; intro w hSt)))
    rintro e w' ⟨_, rfl, ⟨A2, B2, n2, m2, c2, d2, rfl, k1, k2⟩, hb⟩
    obtain rfl : 0 = n2 := k1.len8
    have hm1 := HLA.out.symm.trans k2.len8
    obtain rfl : na = m2 := hm1
    replace hSt := hSt.more2 hb (.sl _ _ 1 A2 _ c2 _) (.sl _ _ 1 B2 _ d2 _) k1 k2 (Nat.le_refl _) (Nat.le_refl _) (Nat.le_refl _) (Nat.le_refl _)
    clear k1 k2 hb
    go_wp2_with (first
    | (go_at_call 10; refine (append_to E3.out (hSt.fact 0 rfl) (hSt.fact 1 rfl) (hSt.fact 4 rfl) (hSt.fhi 0 rfl) (hSt.fhi 1 rfl) (hSt.fhi 4 rfl) (by omega) (by omega) (by omega) hnn).mono ?_)
    | ((with_reducible refine is_load ?_); first
       | (refine st_load1 tabOk hSt _ (by exact rfl) (by exact rfl) (by exact rfl) (by first | exact own0 | exact own1 | exact own2 | exact own3 | exact own4 | exact own5 | exact own6 | exact own7 | exact own8 | exact own9) (by exact rfl) ?_)
       | (refine st_loadW tabOk hSt _ (by exact rfl) (by exact rfl) (by exact rfl) (by first | exact own0 | exact own1 | exact own2 | exact own3 | exact own4 | exact own5 | exact own6 | exact own7 | exact own8 | exact own9) (by first | exact rfl | simp) ?_))
    | ((with_reducible refine is_store ?_); first
       | (refine st_storeW tabOk hSt _ (by exact rfl) (by exact rfl) (by first | exact own0 | exact own1 | exact own2 | exact own3 | exact own4 | exact own5 | exact own6 | exact own7 | exact own8 | exact own9) (by exact rfl) (by first | exact rfl | simp) (by first | exact rfl | simp) (by first | exact rfl | simp) ?_; clear hSt; intro w hSt; simp only [List.set_cons_zero, List.set_cons_succ] at hSt)
       | (refine st_store1 tabOk hSt _ (by exact rfl) (by exact rfl) (by first | exact own0 | exact own1 | exact own2 | exact own3 | exact own4 | exact own5 | exact own6 | exact own7 | exact own8 | exact own9) (by first | exact evInt (by exact rfl) | exact evSlice (by exact rfl) | exact evBool (by exact rfl) | exact evStr (by exact rfl) | exact evPtr (by exact rfl) | exact evFn (by exact rfl) | exact evIf (by exact rfl) | exact evNil (by exact rfl) | exact evMap (by exact rfl) | exact evNilFn (by exact rfl)) (by exact rfl) (by first | simp | omega) (by exact rfl) ?_; clear hSt; intro w hSt; simp only [List.set_cons_zero, List.set_cons_succ] at hSt))
    | ((with_reducible refine is_alloc ?_); (refine st_alloc tabOk hSt (by exact rfl) ?_; clear hSt; intro w g hSt; dsimp only at hSt))
    | ((with_reducible refine is_box ?_); first
       | (refine st_boxA hSt (by exact rfl) ?_; clear hSt; intro w g hSt)
       | (refine st_box1 hSt (by first | exact evInt (by exact rfl) | exact evSlice (by exact rfl) | exact evBool (by exact rfl) | exact evStr (by exact rfl) | exact evPtr (by exact rfl) | exact evFn (by exact rfl) | exact evIf (by exact rfl) | exact evNil (by exact rfl) | exact evMap (by exact rfl) | exact evNilFn (by exact rfl)) (by exact rfl) ?_; clear hSt; intro w g hSt))
    | ((with_reducible refine is_conv ?_); first
       | (refine st_tostr (by exact rfl) uB uU8 uStr (by exact rfl) (by first | exact hSt.fact 0 rfl | exact hSt.fact 1 rfl | exact hSt.fact 2 rfl | exact hSt.fact 3 rfl | exact hSt.fact 4 rfl | exact hSt.fact 5 rfl | exact hSt.fact 6 rfl | exact hSt.fact 7 rfl | exact hSt.fact 8 rfl | exact hSt.fact 9 rfl | exact hSt.fact 10 rfl | exact hSt.fact 11 rfl) ?_)
       | (refine st_bconst uB uU8 hSt (by exact rfl) (by exact rfl) (by omega) (by simp [maxLen]) ?_; clear hSt; intro w hSt)))
    rintro e w' ⟨_, rfl, ⟨A3, B3, n3, m3, c3, d3, rfl, k1, k2⟩, hb⟩
    obtain rfl : 0 = n3 := k1.len8
    have hm3 := k2.len8
    have hm3' : m3 ≤ 2 ^ 47 := by rw [← hm3]; have := HLA.out; have := HLB.out; simp; omega
    clear hm3
    replace hSt := hSt.more2 hb (.sl _ _ 1 A3 _ c3 _) (.sl _ _ 1 B3 _ d3 _) k1 k2 (Nat.le_refl _) (Nat.le_refl _) (Nat.le_refl _) (Nat.le_refl _)
    clear k1 k2 hb
    have e4 : readS ⟨[], a ++ b, n - b.length, false⟩ = (a ++ b, 0) := by
      rw [readS, if_pos (validB_of (by have := HLA.out; have := HLB.out; simp; omega) (by have := HLB.out; omega)), if_neg (by simp)]
      rfl
    have E4 := Lib.hid e4
    clear e4
    go_wp2_with (first
    | (go_at_call 14; refine (read_to E4.out (hSt.fact 0 rfl) (hSt.fact 1 rfl) (hSt.fhi 0 rfl) (hSt.fhi 1 rfl) (by omega) hm3').mono ?_)
    | ((with_reducible refine is_load ?_); first
       | (refine st_load1 tabOk hSt _ (by exact rfl) (by exact rfl) (by exact rfl) (by first | exact own0 | exact own1 | exact own2 | exact own3 | exact own4 | exact own5 | exact own6 | exact own7 | exact own8 | exact own9) (by exact rfl) ?_)
       | (refine st_loadW tabOk hSt _ (by exact rfl) (by exact rfl) (by exact rfl) (by first | exact own0 | exact own1 | exact own2 | exact own3 | exact own4 | exact own5 | exact own6 | exact own7 | exact own8 | exact own9) (by first | exact rfl | simp) ?_))
    | ((with_reducible refine is_store ?_); first
       | (refine st_storeW tabOk hSt _ (by exact rfl) (by exact rfl) (by first | exact own0 | exact own1 | exact own2 | exact own3 | exact own4 | exact own5 | exact own6 | exact own7 | exact own8 | exact own9) (by exact rfl) (by first | exact rfl | simp) (by first | exact rfl | simp) (by first | exact rfl | simp) ?_; clear hSt; intro w hSt; simp only [List.set_cons_zero, List.set_cons_succ] at hSt)
       | (refine st_store1 tabOk hSt _ (by exact rfl) (by exact rfl) (by first | exact own0 | exact own1 | exact own2 | exact own3 | exact own4 | exact own5 | exact own6 | exact own7 | exact own8 | exact own9) (by first | exact evInt (by exact rfl) | exact evSlice (by exact rfl) | exact evBool (by exact rfl) | exact evStr (by exact rfl) | exact evPtr (by exact rfl) | exact evFn (by exact rfl) | exact evIf (by exact rfl) | exact evNil (by exact rfl) | exact evMap (by exact rfl) | exact evNilFn (by exact rfl)) (by exact rfl) (by first | simp | omega) (by exact rfl) ?_; clear hSt; intro w hSt; simp only [List.set_cons_zero, List.set_cons_succ] at hSt))
    | ((with_reducible refine is_alloc ?_); (refine st_alloc tabOk hSt (by exact rfl) ?_; clear hSt; intro w g hSt; dsimp only at hSt))
    | ((with_reducible refine is_box ?_); first
       | (refine st_boxA hSt (by exact rfl) ?_; clear hSt; intro w g hSt)
       | (refine st_box1 hSt (by first | exact evInt (by exact rfl) | exact evSlice (by exact rfl) | exact evBool (by exact rfl) | exact evStr (by exact rfl) | exact evPtr (by exact rfl) | exact evFn (by exact rfl) | exact evIf (by exact rfl) | exact evNil (by exact rfl) | exact evMap (by exact rfl) | exact evNilFn (by exact rfl)) (by exact rfl) ?_; clear hSt; intro w g hSt))
    | ((with_reducible refine is_conv ?_); first
       | (refine st_tostr (by exact rfl) uB uU8 uStr (by exact rfl) (by first | exact hSt.fact 0 rfl | exact hSt.fact 1 rfl | exact hSt.fact 2 rfl | exact hSt.fact 3 rfl | exact hSt.fact 4 rfl | exact hSt.fact 5 rfl | exact hSt.fact 6 rfl | exact hSt.fact 7 rfl | exact hSt.fact 8 rfl | exact hSt.fact 9 rfl | exact hSt.fact 10 rfl | exact hSt.fact 11 rfl) ?_)
       | (refine st_bconst uB uU8 hSt (by exact rfl) (by exact rfl) (by omega) (by simp [maxLen]) ?_; clear hSt; intro w hSt)))
    rintro e w' ⟨A4, n4, c4, rfl, k1, hb⟩
    replace hSt := hSt.more hb (.sl _ _ 1 A4 _ c4 _) k1 (Nat.le_refl _) (Nat.le_refl _)
    clear k1 hb
    have hbl : b.length = nb := HLB.out
    have hal : a.length = na := HLA.out
    have hsum : ¬ 9223372036854775807 < na + nb := by omega
    go_wp2_with (first
    | (go_at_call 9; refine (awake_any _).mono ?_; rintro e w' ⟨rfl, hb⟩; replace hSt := hSt.call hb; clear hb)
    | ((with_reducible refine is_load ?_); first
       | (refine st_load1 tabOk hSt _ (by exact rfl) (by exact rfl) (by exact rfl) (by first | exact own0 | exact own1 | exact own2 | exact own3 | exact own4 | exact own5 | exact own6 | exact own7 | exact own8 | exact own9) (by exact rfl) ?_)
       | (refine st_loadW tabOk hSt _ (by exact rfl) (by exact rfl) (by exact rfl) (by first | exact own0 | exact own1 | exact own2 | exact own3 | exact own4 | exact own5 | exact own6 | exact own7 | exact own8 | exact own9) (by first | exact rfl | simp) ?_))
    | ((with_reducible refine is_store ?_); first
       | (refine st_storeW tabOk hSt _ (by exact rfl) (by exact rfl) (by first | exact own0 | exact own1 | exact own2 | exact own3 | exact own4 | exact own5 | exact own6 | exact own7 | exact own8 | exact own9) (by exact rfl) (by first | exact rfl | simp) (by first | exact rfl | simp) (by first | exact rfl | simp) ?_; clear hSt; intro w hSt; simp only [List.set_cons_zero, List.set_cons_succ] at hSt)
       | (refine st_store1 tabOk hSt _ (by exact rfl) (by exact rfl) (by first | exact own0 | exact own1 | exact own2 | exact own3 | exact own4 | exact own5 | exact own6 | exact own7 | exact own8 | exact own9) (by first | exact evInt (by exact rfl) | exact evSlice (by exact rfl) | exact evBool (by exact rfl) | exact evStr (by exact rfl) | exact evPtr (by exact rfl) | exact evFn (by exact rfl) | exact evIf (by exact rfl) | exact evNil (by exact rfl) | exact evMap (by exact rfl) | exact evNilFn (by exact rfl)) (by exact rfl) (by first | simp | omega) (by exact rfl) ?_; clear hSt; intro w hSt; simp only [List.set_cons_zero, List.set_cons_succ] at hSt))
    | ((with_reducible refine is_alloc ?_); (refine st_alloc tabOk hSt (by exact rfl) ?_; clear hSt; intro w g hSt; dsimp only at hSt))
    | ((with_reducible refine is_box ?_); first
       | (refine st_boxA hSt (by exact rfl) ?_; clear hSt; intro w g hSt)
       | (refine st_box1 hSt (by first | exact evInt (by exact rfl) | exact evSlice (by exact rfl) | exact evBool (by exact rfl) | exact evStr (by exact rfl) | exact evPtr (by exact rfl) | exact evFn (by exact rfl) | exact evIf (by exact rfl) | exact evNil (by exact rfl) | exact evMap (by exact rfl) | exact evNilFn (by exact rfl)) (by exact rfl) ?_; clear hSt; intro w g hSt))
    | ((with_reducible refine is_conv ?_); first
       | (refine st_tostr (by exact rfl) uB uU8 uStr (by exact rfl) (by first | exact hSt.fact 0 rfl | exact hSt.fact 1 rfl | exact hSt.fact 2 rfl | exact hSt.fact 3 rfl | exact hSt.fact 4 rfl | exact hSt.fact 5 rfl | exact hSt.fact 6 rfl | exact hSt.fact 7 rfl | exact hSt.fact 8 rfl | exact hSt.fact 9 rfl | exact hSt.fact 10 rfl | exact hSt.fact 11 rfl) ?_)
       | (refine st_bconst uB uU8 hSt (by exact rfl) (by exact rfl) (by omega) (by simp [maxLen]) ?_; clear hSt; intro w hSt)))
    go_ret
    exact ⟨rfl, hSt.below⟩
end Go.Proofs.Ytddlgdppfeeplaa
