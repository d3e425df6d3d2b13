/-
  The contracts of disk.Crash, disk.Cut and disk.Read.
-/
import Derived.Test.YtddlgdppfeeplaaDisk
set_option linter.unusedVariables false
set_option linter.unusedSimpArgs false
namespace Go.Proofs.Ytddlgdppfeeplaa
open Go Go.RowKit Go.Er
set_option maxRecDepth 100000

def crashS (k : Dk) (n : Int) : Dk × Int :=
  if validB k = true then (⟨k.s ++ k.p.take (min (max n 0) k.p.length).toNat, [], -1, false⟩, 0) else (zeroDk, 1)

set_option maxHeartbeats 1000000 in
theorem crash_any (A B : Option Addr) (ns np c d lo hi lo' hi' : Nat) (s p : List UInt8) (fuel n : Int) (down : Bool) (w0 : World) (hx : SlR w0 lo hi 1 A ns c (u8s s)) (hy : SlR w0 lo' hi' 1 B np d (u8s p))
    (i1 : hi ≤ w0.heap.size) (i2 : hi' ≤ w0.heap.size) (h0 : ns ≤ 2^47) (h0' : np ≤ 2^47) :
    Calls Try.prog 22 #[.agg #[.slice A ns c, .slice B np d, .int .i64 fuel, .bool down], .int .i64 n] w0 (DkErr w0 (crashS ⟨s, p, fuel, down⟩ n)) := by
  obtain rfl := hx.len8
  obtain rfl := hy.len8
  have hSt := ((St.init w0).arg (.sl _ _ 1 B _ d _) hy i2).arg (.sl _ _ 1 A _ c _) hx i1
  have hcd := hy.1
  clear hx hy
  have hmf : ∀ (fn : Fn) (first cap : Array Value) (w : World), (Instr.makeFunc fn first cap).run Try.prog w = .ok (.func fn first cap) w := fun _ _ _ _ => rfl
  cases hv : validB ⟨s, p, fuel, down⟩ with
  | false =>
    have hR : crashS ⟨s, p, fuel, down⟩ n = (zeroDk, 1) := by simp [crashS, hv]
    rw [hR]
    replace hv := validB_no hv
    clear hR
    go_enter_defers Try.func22, Try.ntmps22
    go_wp2_with (first
    | (go_at_call 20; refine (valid_no _ _ _ _ _ _ _ _ _ h0 h0' hv).mono ?_; rintro e w' ⟨rfl, hb⟩; replace hSt := hSt.call hb; clear hb)
    | ((with_reducible refine is_load ?_); first
       | (refine st_load1 tabOk hSt _ (by exact rfl) (by exact rfl) (by exact rfl) (by first | exact own0 | exact own1 | exact own2 | exact own3 | exact own4 | exact own5 | exact own6 | exact own7 | exact own8 | exact own9) (by exact rfl) ?_)
       | (refine st_loadW tabOk hSt _ (by exact rfl) (by exact rfl) (by exact rfl) (by first | exact own0 | exact own1 | exact own2 | exact own3 | exact own4 | exact own5 | exact own6 | exact own7 | exact own8 | exact own9) (by first | exact rfl | simp) ?_))
    | ((with_reducible refine is_store ?_); first
       | (refine st_storeW tabOk hSt _ (by exact rfl) (by exact rfl) (by first | exact own0 | exact own1 | exact own2 | exact own3 | exact own4 | exact own5 | exact own6 | exact own7 | exact own8 | exact own9) (by exact rfl) (by first | exact rfl | simp) (by first | exact rfl | simp) (by first | exact rfl | simp) ?_; clear hSt; intro w hSt; simp only [List.set_cons_zero, List.set_cons_succ] at hSt)
       | (refine st_store1 tabOk hSt _ (by exact rfl) (by exact rfl) (by first | exact own0 | exact own1 | exact own2 | exact own3 | exact own4 | exact own5 | exact own6 | exact own7 | exact own8 | exact own9) (by first | exact evInt (by exact rfl) | exact evSlice (by exact rfl) | exact evBool (by exact rfl) | exact evStr (by exact rfl) | exact evPtr (by exact rfl) | exact evFn (by exact rfl) | exact evIf (by exact rfl) | exact evNil (by exact rfl) | exact evMap (by exact rfl) | exact evNilFn (by exact rfl)) (by exact rfl) (by first | simp | omega) (by exact rfl) ?_; clear hSt; intro w hSt; simp only [List.set_cons_zero, List.set_cons_succ] at hSt))
    | ((with_reducible refine is_alloc ?_); (refine st_alloc tabOk hSt (by exact rfl) ?_; clear hSt; intro w g hSt; dsimp only at hSt))
    | ((with_reducible refine is_box ?_); first
       | (refine st_boxA hSt (by exact rfl) ?_; clear hSt; intro w g hSt)
       | (refine st_box1 hSt (by first | exact evInt (by exact rfl) | exact evSlice (by exact rfl) | exact evBool (by exact rfl) | exact evStr (by exact rfl) | exact evPtr (by exact rfl) | exact evFn (by exact rfl) | exact evIf (by exact rfl) | exact evNil (by exact rfl) | exact evMap (by exact rfl) | exact evNilFn (by exact rfl)) (by exact rfl) ?_; clear hSt; intro w g hSt))
    | ((with_reducible refine is_conv ?_); first
       | (refine st_tostr (by exact rfl) uB uU8 uStr (by exact rfl) (by first | exact hSt.fact 0 rfl | exact hSt.fact 1 rfl | exact hSt.fact 2 rfl | exact hSt.fact 3 rfl | exact hSt.fact 4 rfl | exact hSt.fact 5 rfl | exact hSt.fact 6 rfl | exact hSt.fact 7 rfl | exact hSt.fact 8 rfl | exact hSt.fact 9 rfl | exact hSt.fact 10 rfl | exact hSt.fact 11 rfl) ?_)
       | (refine st_bconst uB uU8 hSt (by exact rfl) (by exact rfl) (by omega) (by simp [maxLen]) ?_; clear hSt; intro w hSt)))
    refine door1 (crash_idle _ _ _) (ret2 (by exact rfl) (Res.agg tabOk hSt _ (by exact rfl) (by exact rfl) (by first | exact own0 | exact own1 | exact own2 | exact own3 | exact own4 | exact own5 | exact own6 | exact own7 | exact own8 | exact own9) (by exact rfl)) (Res.one tabOk hSt _ (by exact rfl) (by exact rfl) (by first | exact own0 | exact own1 | exact own2 | exact own3 | exact own4 | exact own5 | exact own6 | exact own7 | exact own8 | exact own9) (by exact rfl))) ?_ (by simp [go_sem])
    exact ⟨_, rfl, zeroNew _ _, hSt.below⟩
  | true =>
  obtain ⟨h1, h2⟩ := validB_yes hv
  have HV := Lib.hid hv
  clear hv
  by_cases hn : n < 0
  · have hR : crashS ⟨s, p, fuel, down⟩ n = (⟨s ++ p.take 0, [], -1, false⟩, 0) := by
      simp only [crashS, HV.out, if_true, show min (max n 0) (p.length : Int) = (0 : Nat) by omega, Int.toNat_natCast]
    rw [hR]
    clear hR
    have hp0 : ¬ ((p.length : Int) < 0) := by omega
    go_enter_defers Try.func22, Try.ntmps22
    go_wp2_with (first
    | (go_at_call 20; refine (valid_yes _ _ _ _ _ _ _ _ _ h1 h2).mono ?_; rintro e w' ⟨rfl, hb⟩; replace hSt := hSt.call hb; clear hb)
    | ((with_reducible refine is_load ?_); first
       | (refine st_load1 tabOk hSt _ (by exact rfl) (by exact rfl) (by exact rfl) (by first | exact own0 | exact own1 | exact own2 | exact own3 | exact own4 | exact own5 | exact own6 | exact own7 | exact own8 | exact own9) (by exact rfl) ?_)
       | (refine st_loadW tabOk hSt _ (by exact rfl) (by exact rfl) (by exact rfl) (by first | exact own0 | exact own1 | exact own2 | exact own3 | exact own4 | exact own5 | exact own6 | exact own7 | exact own8 | exact own9) (by first | exact rfl | simp) ?_))
    | ((with_reducible refine is_store ?_); first
       | (refine st_storeW tabOk hSt _ (by exact rfl) (by exact rfl) (by first | exact own0 | exact own1 | exact own2 | exact own3 | exact own4 | exact own5 | exact own6 | exact own7 | exact own8 | exact own9) (by exact rfl) (by first | exact rfl | simp) (by first | exact rfl | simp) (by first | exact rfl | simp) ?_; clear hSt; intro w hSt; simp only [List.set_cons_zero, List.set_cons_succ] at hSt)
       | (refine st_store1 tabOk hSt _ (by exact rfl) (by exact rfl) (by first | exact own0 | exact own1 | exact own2 | exact own3 | exact own4 | exact own5 | exact own6 | exact own7 | exact own8 | exact own9) (by first | exact evInt (by exact rfl) | exact evSlice (by exact rfl) | exact evBool (by exact rfl) | exact evStr (by exact rfl) | exact evPtr (by exact rfl) | exact evFn (by exact rfl) | exact evIf (by exact rfl) | exact evNil (by exact rfl) | exact evMap (by exact rfl) | exact evNilFn (by exact rfl)) (by exact rfl) (by first | simp | omega) (by exact rfl) ?_; clear hSt; intro w hSt; simp only [List.set_cons_zero, List.set_cons_succ] at hSt))
    | ((with_reducible refine is_alloc ?_); (refine st_alloc tabOk hSt (by exact rfl) ?_; clear hSt; intro w g hSt; dsimp only at hSt))
    | ((with_reducible refine is_box ?_); first
       | (refine st_boxA hSt (by exact rfl) ?_; clear hSt; intro w g hSt)
       | (refine st_box1 hSt (by first | exact evInt (by exact rfl) | exact evSlice (by exact rfl) | exact evBool (by exact rfl) | exact evStr (by exact rfl) | exact evPtr (by exact rfl) | exact evFn (by exact rfl) | exact evIf (by exact rfl) | exact evNil (by exact rfl) | exact evMap (by exact rfl) | exact evNilFn (by exact rfl)) (by exact rfl) ?_; clear hSt; intro w g hSt))
    | ((with_reducible refine is_conv ?_); first
       | (refine st_tostr (by exact rfl) uB uU8 uStr (by exact rfl) (by first | exact hSt.fact 0 rfl | exact hSt.fact 1 rfl | exact hSt.fact 2 rfl | exact hSt.fact 3 rfl | exact hSt.fact 4 rfl | exact hSt.fact 5 rfl | exact hSt.fact 6 rfl | exact hSt.fact 7 rfl | exact hSt.fact 8 rfl | exact hSt.fact 9 rfl | exact hSt.fact 10 rfl | exact hSt.fact 11 rfl) ?_)
       | (refine st_bconst uB uU8 hSt (by exact rfl) (by exact rfl) (by omega) (by simp [maxLen]) ?_; clear hSt; intro w hSt)))
    (refine st_tail 6 (by kernel_rfl) (by kernel_rfl) hSt ?_; clear hSt; intro w hSt; simp only [List.take_succ_cons, List.take_zero, List.drop_succ_cons, List.drop_zero]; (repeat (first | ((with_reducible refine isl_load ?_); first | (refine stl_load1 tabOk hSt _ (by exact rfl) (by exact rfl) (by exact rfl) (by first | exact own0 | exact own1 | exact own2 | exact own3 | exact own4 | exact own5 | exact own6 | exact own7 | exact own8 | exact own9) (by exact rfl) ?_) | (refine stl_loadW tabOk hSt _ (by exact rfl) (by exact rfl) (by exact rfl) (by first | exact own0 | exact own1 | exact own2 | exact own3 | exact own4 | exact own5 | exact own6 | exact own7 | exact own8 | exact own9) (by first | exact rfl | simp) ?_)) | ((with_reducible refine isl_conv ?_); (refine stl_tostr (by exact rfl) uB uU8 uStr (by exact rfl) (by first | exact hSt.fact 0 rfl | exact hSt.fact 1 rfl | exact hSt.fact 2 rfl | exact hSt.fact 3 rfl | exact hSt.fact 4 rfl | exact hSt.fact 5 rfl | exact hSt.fact 6 rfl | exact hSt.fact 7 rfl | exact hSt.fact 8 rfl | exact hSt.fact 9 rfl | exact hSt.fact 10 rfl | exact hSt.fact 11 rfl) ?_)) | still_step)); refine wpStill_nil ?_)
    have hT : SlR w lo' hi' 1 B 0 d (u8s (p.take 0)) := by
      have := (hSt.fact 1 rfl : SlR w lo' hi' 1 B p.length d (u8s p)).take 0 (by omega)
      rwa [Nat.mul_one, u8s_take] at this
    have HT := Lib.hid hT
    clear hT
    go_wp2_with (first
    | (go_at_call 27; refine (join_any _ _ _ _ _ _ _ _ _ _ s (p.take 0) _ (hSt.fact 0 rfl) HT.out (hSt.fhi 0 rfl) (hSt.fhi 1 rfl) (by omega)).mono ?_; rintro e w' ⟨A2, n2, c2, rfl, k1, hb⟩; have l2 := hSt.size; replace hSt := hSt.more hb (.sl _ _ 1 A2 _ c2 _) k1 (Nat.le_refl _) (Nat.le_refl _); clear k1 hb)
    | ((with_reducible refine is_load ?_); first
       | (refine st_load1 tabOk hSt _ (by exact rfl) (by exact rfl) (by exact rfl) (by first | exact own0 | exact own1 | exact own2 | exact own3 | exact own4 | exact own5 | exact own6 | exact own7 | exact own8 | exact own9) (by exact rfl) ?_)
       | (refine st_loadW tabOk hSt _ (by exact rfl) (by exact rfl) (by exact rfl) (by first | exact own0 | exact own1 | exact own2 | exact own3 | exact own4 | exact own5 | exact own6 | exact own7 | exact own8 | exact own9) (by first | exact rfl | simp) ?_))
    | ((with_reducible refine is_store ?_); first
       | (refine st_storeW tabOk hSt _ (by exact rfl) (by exact rfl) (by first | exact own0 | exact own1 | exact own2 | exact own3 | exact own4 | exact own5 | exact own6 | exact own7 | exact own8 | exact own9) (by exact rfl) (by first | exact rfl | simp) (by first | exact rfl | simp) (by first | exact rfl | simp) ?_; clear hSt; intro w hSt; simp only [List.set_cons_zero, List.set_cons_succ] at hSt)
       | (refine st_store1 tabOk hSt _ (by exact rfl) (by exact rfl) (by first | exact own0 | exact own1 | exact own2 | exact own3 | exact own4 | exact own5 | exact own6 | exact own7 | exact own8 | exact own9) (by first | exact evInt (by exact rfl) | exact evSlice (by exact rfl) | exact evBool (by exact rfl) | exact evStr (by exact rfl) | exact evPtr (by exact rfl) | exact evFn (by exact rfl) | exact evIf (by exact rfl) | exact evNil (by exact rfl) | exact evMap (by exact rfl) | exact evNilFn (by exact rfl)) (by exact rfl) (by first | simp | omega) (by exact rfl) ?_; clear hSt; intro w hSt; simp only [List.set_cons_zero, List.set_cons_succ] at hSt))
    | ((with_reducible refine is_alloc ?_); (refine st_alloc tabOk hSt (by exact rfl) ?_; clear hSt; intro w g hSt; dsimp only at hSt))
    | ((with_reducible refine is_box ?_); first
       | (refine st_boxA hSt (by exact rfl) ?_; clear hSt; intro w g hSt)
       | (refine st_box1 hSt (by first | exact evInt (by exact rfl) | exact evSlice (by exact rfl) | exact evBool (by exact rfl) | exact evStr (by exact rfl) | exact evPtr (by exact rfl) | exact evFn (by exact rfl) | exact evIf (by exact rfl) | exact evNil (by exact rfl) | exact evMap (by exact rfl) | exact evNilFn (by exact rfl)) (by exact rfl) ?_; clear hSt; intro w g hSt))
    | ((with_reducible refine is_conv ?_); first
       | (refine st_tostr (by exact rfl) uB uU8 uStr (by exact rfl) (by first | exact hSt.fact 0 rfl | exact hSt.fact 1 rfl | exact hSt.fact 2 rfl | exact hSt.fact 3 rfl | exact hSt.fact 4 rfl | exact hSt.fact 5 rfl | exact hSt.fact 6 rfl | exact hSt.fact 7 rfl | exact hSt.fact 8 rfl | exact hSt.fact 9 rfl | exact hSt.fact 10 rfl | exact hSt.fact 11 rfl) ?_)
       | (refine st_bconst uB uU8 hSt (by exact rfl) (by exact rfl) (by omega) (by simp [maxLen]) ?_; clear hSt; intro w hSt)))
    refine door1 (crash_idle _ _ _) (ret2 (by exact rfl) (Res.agg tabOk hSt _ (by exact rfl) (by exact rfl) (by first | exact own0 | exact own1 | exact own2 | exact own3 | exact own4 | exact own5 | exact own6 | exact own7 | exact own8 | exact own9) (by exact rfl)) (Res.one tabOk hSt _ (by exact rfl) (by exact rfl) (by first | exact own0 | exact own1 | exact own2 | exact own3 | exact own4 | exact own5 | exact own6 | exact own7 | exact own8 | exact own9) (by exact rfl))) ?_ (by simp [go_sem])
    exact ⟨_, rfl, ⟨A2, none, n2, 0, c2, 0, rfl, ((hSt.fact 0 rfl).mono l2 (hSt.fhi 0 rfl)), SlR.nil _ _ _ _⟩, hSt.below⟩
  · obtain ⟨k, rfl⟩ : ∃ k : Nat, n = k := ⟨n.toNat, by omega⟩
    by_cases hk : k ≤ p.length
    · have hR : crashS ⟨s, p, fuel, down⟩ k = (⟨s ++ p.take k, [], -1, false⟩, 0) := by
        simp only [crashS, HV.out, if_true, show min (max (k : Int) 0) (p.length : Int) = (k : Nat) by omega, Int.toNat_natCast]
      rw [hR]
      clear hR
      have hkd : k ≤ d := by omega
      go_enter_defers Try.func22, Try.ntmps22
      go_wp2_with (first
    | (go_at_call 20; refine (valid_yes _ _ _ _ _ _ _ _ _ h1 h2).mono ?_; rintro e w' ⟨rfl, hb⟩; replace hSt := hSt.call hb; clear hb)
    | ((with_reducible refine is_load ?_); first
       | (refine st_load1 tabOk hSt _ (by exact rfl) (by exact rfl) (by exact rfl) (by first | exact own0 | exact own1 | exact own2 | exact own3 | exact own4 | exact own5 | exact own6 | exact own7 | exact own8 | exact own9) (by exact rfl) ?_)
       | (refine st_loadW tabOk hSt _ (by exact rfl) (by exact rfl) (by exact rfl) (by first | exact own0 | exact own1 | exact own2 | exact own3 | exact own4 | exact own5 | exact own6 | exact own7 | exact own8 | exact own9) (by first | exact rfl | simp) ?_))
    | ((with_reducible refine is_store ?_); first
       | (refine st_storeW tabOk hSt _ (by exact rfl) (by exact rfl) (by first | exact own0 | exact own1 | exact own2 | exact own3 | exact own4 | exact own5 | exact own6 | exact own7 | exact own8 | exact own9) (by exact rfl) (by first | exact rfl | simp) (by first | exact rfl | simp) (by first | exact rfl | simp) ?_; clear hSt; intro w hSt; simp only [List.set_cons_zero, List.set_cons_succ] at hSt)
       | (refine st_store1 tabOk hSt _ (by exact rfl) (by exact rfl) (by first | exact own0 | exact own1 | exact own2 | exact own3 | exact own4 | exact own5 | exact own6 | exact own7 | exact own8 | exact own9) (by first | exact evInt (by exact rfl) | exact evSlice (by exact rfl) | exact evBool (by exact rfl) | exact evStr (by exact rfl) | exact evPtr (by exact rfl) | exact evFn (by exact rfl) | exact evIf (by exact rfl) | exact evNil (by exact rfl) | exact evMap (by exact rfl) | exact evNilFn (by exact rfl)) (by exact rfl) (by first | simp | omega) (by exact rfl) ?_; clear hSt; intro w hSt; simp only [List.set_cons_zero, List.set_cons_succ] at hSt))
    | ((with_reducible refine is_alloc ?_); (refine st_alloc tabOk hSt (by exact rfl) ?_; clear hSt; intro w g hSt; dsimp only at hSt))
    | ((with_reducible refine is_box ?_); first
       | (refine st_boxA hSt (by exact rfl) ?_; clear hSt; intro w g hSt)
       | (refine st_box1 hSt (by first | exact evInt (by exact rfl) | exact evSlice (by exact rfl) | exact evBool (by exact rfl) | exact evStr (by exact rfl) | exact evPtr (by exact rfl) | exact evFn (by exact rfl) | exact evIf (by exact rfl) | exact evNil (by exact rfl) | exact evMap (by exact rfl) | exact evNilFn (by exact rfl)) (by exact rfl) ?_; clear hSt; intro w g hSt))
    | ((with_reducible refine is_conv ?_); first
       | (refine st_tostr (by exact rfl) uB uU8 uStr (by exact rfl) (by first | exact hSt.fact 0 rfl | exact hSt.fact 1 rfl | exact hSt.fact 2 rfl | exact hSt.fact 3 rfl | exact hSt.fact 4 rfl | exact hSt.fact 5 rfl | exact hSt.fact 6 rfl | exact hSt.fact 7 rfl | exact hSt.fact 8 rfl | exact hSt.fact 9 rfl | exact hSt.fact 10 rfl | exact hSt.fact 11 rfl) ?_)
       | (refine st_bconst uB uU8 hSt (by exact rfl) (by exact rfl) (by omega) (by simp [maxLen]) ?_; clear hSt; intro w hSt)))
      (refine st_tail 6 (by kernel_rfl) (by kernel_rfl) hSt ?_; clear hSt; intro w hSt; simp only [List.take_succ_cons, List.take_zero, List.drop_succ_cons, List.drop_zero]; (repeat (first | ((with_reducible refine isl_load ?_); first | (refine stl_load1 tabOk hSt _ (by exact rfl) (by exact rfl) (by exact rfl) (by first | exact own0 | exact own1 | exact own2 | exact own3 | exact own4 | exact own5 | exact own6 | exact own7 | exact own8 | exact own9) (by exact rfl) ?_) | (refine stl_loadW tabOk hSt _ (by exact rfl) (by exact rfl) (by exact rfl) (by first | exact own0 | exact own1 | exact own2 | exact own3 | exact own4 | exact own5 | exact own6 | exact own7 | exact own8 | exact own9) (by first | exact rfl | simp) ?_)) | ((with_reducible refine isl_conv ?_); (refine stl_tostr (by exact rfl) uB uU8 uStr (by exact rfl) (by first | exact hSt.fact 0 rfl | exact hSt.fact 1 rfl | exact hSt.fact 2 rfl | exact hSt.fact 3 rfl | exact hSt.fact 4 rfl | exact hSt.fact 5 rfl | exact hSt.fact 6 rfl | exact hSt.fact 7 rfl | exact hSt.fact 8 rfl | exact hSt.fact 9 rfl | exact hSt.fact 10 rfl | exact hSt.fact 11 rfl) ?_)) | still_step)); refine wpStill_nil ?_)
      have hT : SlR w lo' hi' 1 B k d (u8s (p.take k)) := by
        have := (hSt.fact 1 rfl : SlR w lo' hi' 1 B p.length d (u8s p)).take k (by omega)
        rwa [Nat.mul_one, u8s_take] at this
      have HT := Lib.hid hT
      clear hT
      go_wp2_with (first
    | (go_at_call 27; refine (join_any _ _ _ _ _ _ _ _ _ _ s (p.take k) _ (hSt.fact 0 rfl) HT.out (hSt.fhi 0 rfl) (hSt.fhi 1 rfl) (by omega)).mono ?_; rintro e w' ⟨A2, n2, c2, rfl, k1, hb⟩; have l2 := hSt.size; replace hSt := hSt.more hb (.sl _ _ 1 A2 _ c2 _) k1 (Nat.le_refl _) (Nat.le_refl _); clear k1 hb)
    | ((with_reducible refine is_load ?_); first
       | (refine st_load1 tabOk hSt _ (by exact rfl) (by exact rfl) (by exact rfl) (by first | exact own0 | exact own1 | exact own2 | exact own3 | exact own4 | exact own5 | exact own6 | exact own7 | exact own8 | exact own9) (by exact rfl) ?_)
       | (refine st_loadW tabOk hSt _ (by exact rfl) (by exact rfl) (by exact rfl) (by first | exact own0 | exact own1 | exact own2 | exact own3 | exact own4 | exact own5 | exact own6 | exact own7 | exact own8 | exact own9) (by first | exact rfl | simp) ?_))
    | ((with_reducible refine is_store ?_); first
       | (refine st_storeW tabOk hSt _ (by exact rfl) (by exact rfl) (by first | exact own0 | exact own1 | exact own2 | exact own3 | exact own4 | exact own5 | exact own6 | exact own7 | exact own8 | exact own9) (by exact rfl) (by first | exact rfl | simp) (by first | exact rfl | simp) (by first | exact rfl | simp) ?_; clear hSt; intro w hSt; simp only [List.set_cons_zero, List.set_cons_succ] at hSt)
       | (refine st_store1 tabOk hSt _ (by exact rfl) (by exact rfl) (by first | exact own0 | exact own1 | exact own2 | exact own3 | exact own4 | exact own5 | exact own6 | exact own7 | exact own8 | exact own9) (by first | exact evInt (by exact rfl) | exact evSlice (by exact rfl) | exact evBool (by exact rfl) | exact evStr (by exact rfl) | exact evPtr (by exact rfl) | exact evFn (by exact rfl) | exact evIf (by exact rfl) | exact evNil (by exact rfl) | exact evMap (by exact rfl) | exact evNilFn (by exact rfl)) (by exact rfl) (by first | simp | omega) (by exact rfl) ?_; clear hSt; intro w hSt; simp only [List.set_cons_zero, List.set_cons_succ] at hSt))
    | ((with_reducible refine is_alloc ?_); (refine st_alloc tabOk hSt (by exact rfl) ?_; clear hSt; intro w g hSt; dsimp only at hSt))
    | ((with_reducible refine is_box ?_); first
       | (refine st_boxA hSt (by exact rfl) ?_; clear hSt; intro w g hSt)
       | (refine st_box1 hSt (by first | exact evInt (by exact rfl) | exact evSlice (by exact rfl) | exact evBool (by exact rfl) | exact evStr (by exact rfl) | exact evPtr (by exact rfl) | exact evFn (by exact rfl) | exact evIf (by exact rfl) | exact evNil (by exact rfl) | exact evMap (by exact rfl) | exact evNilFn (by exact rfl)) (by exact rfl) ?_; clear hSt; intro w g hSt))
    | ((with_reducible refine is_conv ?_); first
       | (refine st_tostr (by exact rfl) uB uU8 uStr (by exact rfl) (by first | exact hSt.fact 0 rfl | exact hSt.fact 1 rfl | exact hSt.fact 2 rfl | exact hSt.fact 3 rfl | exact hSt.fact 4 rfl | exact hSt.fact 5 rfl | exact hSt.fact 6 rfl | exact hSt.fact 7 rfl | exact hSt.fact 8 rfl | exact hSt.fact 9 rfl | exact hSt.fact 10 rfl | exact hSt.fact 11 rfl) ?_)
       | (refine st_bconst uB uU8 hSt (by exact rfl) (by exact rfl) (by omega) (by simp [maxLen]) ?_; clear hSt; intro w hSt)))
      refine door1 (crash_idle _ _ _) (ret2 (by exact rfl) (Res.agg tabOk hSt _ (by exact rfl) (by exact rfl) (by first | exact own0 | exact own1 | exact own2 | exact own3 | exact own4 | exact own5 | exact own6 | exact own7 | exact own8 | exact own9) (by exact rfl)) (Res.one tabOk hSt _ (by exact rfl) (by exact rfl) (by first | exact own0 | exact own1 | exact own2 | exact own3 | exact own4 | exact own5 | exact own6 | exact own7 | exact own8 | exact own9) (by exact rfl))) ?_ (by simp [go_sem])
      exact ⟨_, rfl, ⟨A2, none, n2, 0, c2, 0, rfl, ((hSt.fact 0 rfl).mono l2 (hSt.fhi 0 rfl)), SlR.nil _ _ _ _⟩, hSt.below⟩
    · have hR : crashS ⟨s, p, fuel, down⟩ k = (⟨s ++ p.take p.length, [], -1, false⟩, 0) := by
        simp only [crashS, HV.out, if_true, show min (max (k : Int) 0) (p.length : Int) = (p.length : Nat) by omega, Int.toNat_natCast]
      rw [hR]
      clear hR
      go_enter_defers Try.func22, Try.ntmps22
      go_wp2_with (first
    | (go_at_call 20; refine (valid_yes _ _ _ _ _ _ _ _ _ h1 h2).mono ?_; rintro e w' ⟨rfl, hb⟩; replace hSt := hSt.call hb; clear hb)
    | ((with_reducible refine is_load ?_); first
       | (refine st_load1 tabOk hSt _ (by exact rfl) (by exact rfl) (by exact rfl) (by first | exact own0 | exact own1 | exact own2 | exact own3 | exact own4 | exact own5 | exact own6 | exact own7 | exact own8 | exact own9) (by exact rfl) ?_)
       | (refine st_loadW tabOk hSt _ (by exact rfl) (by exact rfl) (by exact rfl) (by first | exact own0 | exact own1 | exact own2 | exact own3 | exact own4 | exact own5 | exact own6 | exact own7 | exact own8 | exact own9) (by first | exact rfl | simp) ?_))
    | ((with_reducible refine is_store ?_); first
       | (refine st_storeW tabOk hSt _ (by exact rfl) (by exact rfl) (by first | exact own0 | exact own1 | exact own2 | exact own3 | exact own4 | exact own5 | exact own6 | exact own7 | exact own8 | exact own9) (by exact rfl) (by first | exact rfl | simp) (by first | exact rfl | simp) (by first | exact rfl | simp) ?_; clear hSt; intro w hSt; simp only [List.set_cons_zero, List.set_cons_succ] at hSt)
       | (refine st_store1 tabOk hSt _ (by exact rfl) (by exact rfl) (by first | exact own0 | exact own1 | exact own2 | exact own3 | exact own4 | exact own5 | exact own6 | exact own7 | exact own8 | exact own9) (by first | exact evInt (by exact rfl) | exact evSlice (by exact rfl) | exact evBool (by exact rfl) | exact evStr (by exact rfl) | exact evPtr (by exact rfl) | exact evFn (by exact rfl) | exact evIf (by exact rfl) | exact evNil (by exact rfl) | exact evMap (by exact rfl) | exact evNilFn (by exact rfl)) (by exact rfl) (by first | simp | omega) (by exact rfl) ?_; clear hSt; intro w hSt; simp only [List.set_cons_zero, List.set_cons_succ] at hSt))
    | ((with_reducible refine is_alloc ?_); (refine st_alloc tabOk hSt (by exact rfl) ?_; clear hSt; intro w g hSt; dsimp only at hSt))
    | ((with_reducible refine is_box ?_); first
       | (refine st_boxA hSt (by exact rfl) ?_; clear hSt; intro w g hSt)
       | (refine st_box1 hSt (by first | exact evInt (by exact rfl) | exact evSlice (by exact rfl) | exact evBool (by exact rfl) | exact evStr (by exact rfl) | exact evPtr (by exact rfl) | exact evFn (by exact rfl) | exact evIf (by exact rfl) | exact evNil (by exact rfl) | exact evMap (by exact rfl) | exact evNilFn (by exact rfl)) (by exact rfl) ?_; clear hSt; intro w g hSt))
    | ((with_reducible refine is_conv ?_); first
       | (refine st_tostr (by exact rfl) uB uU8 uStr (by exact rfl) (by first | exact hSt.fact 0 rfl | exact hSt.fact 1 rfl | exact hSt.fact 2 rfl | exact hSt.fact 3 rfl | exact hSt.fact 4 rfl | exact hSt.fact 5 rfl | exact hSt.fact 6 rfl | exact hSt.fact 7 rfl | exact hSt.fact 8 rfl | exact hSt.fact 9 rfl | exact hSt.fact 10 rfl | exact hSt.fact 11 rfl) ?_)
       | (refine st_bconst uB uU8 hSt (by exact rfl) (by exact rfl) (by omega) (by simp [maxLen]) ?_; clear hSt; intro w hSt)))
      (refine st_tail 6 (by kernel_rfl) (by kernel_rfl) hSt ?_; clear hSt; intro w hSt; simp only [List.take_succ_cons, List.take_zero, List.drop_succ_cons, List.drop_zero]; (repeat (first | ((with_reducible refine isl_load ?_); first | (refine stl_load1 tabOk hSt _ (by exact rfl) (by exact rfl) (by exact rfl) (by first | exact own0 | exact own1 | exact own2 | exact own3 | exact own4 | exact own5 | exact own6 | exact own7 | exact own8 | exact own9) (by exact rfl) ?_) | (refine stl_loadW tabOk hSt _ (by exact rfl) (by exact rfl) (by exact rfl) (by first | exact own0 | exact own1 | exact own2 | exact own3 | exact own4 | exact own5 | exact own6 | exact own7 | exact own8 | exact own9) (by first | exact rfl | simp) ?_)) | ((with_reducible refine isl_conv ?_); (refine stl_tostr (by exact rfl) uB uU8 uStr (by exact rfl) (by first | exact hSt.fact 0 rfl | exact hSt.fact 1 rfl | exact hSt.fact 2 rfl | exact hSt.fact 3 rfl | exact hSt.fact 4 rfl | exact hSt.fact 5 rfl | exact hSt.fact 6 rfl | exact hSt.fact 7 rfl | exact hSt.fact 8 rfl | exact hSt.fact 9 rfl | exact hSt.fact 10 rfl | exact hSt.fact 11 rfl) ?_)) | still_step)); refine wpStill_nil ?_)
      have hT : SlR w lo' hi' 1 B p.length d (u8s (p.take p.length)) := by
        have := (hSt.fact 1 rfl : SlR w lo' hi' 1 B p.length d (u8s p)).take p.length (by omega)
        rwa [Nat.mul_one, u8s_take] at this
      have HT := Lib.hid hT
      clear hT
      go_wp2_with (first
    | (go_at_call 27; refine (join_any _ _ _ _ _ _ _ _ _ _ s (p.take p.length) _ (hSt.fact 0 rfl) HT.out (hSt.fhi 0 rfl) (hSt.fhi 1 rfl) (by omega)).mono ?_; rintro e w' ⟨A2, n2, c2, rfl, k1, hb⟩; have l2 := hSt.size; replace hSt := hSt.more hb (.sl _ _ 1 A2 _ c2 _) k1 (Nat.le_refl _) (Nat.le_refl _); clear k1 hb)
    | ((with_reducible refine is_load ?_); first
       | (refine st_load1 tabOk hSt _ (by exact rfl) (by exact rfl) (by exact rfl) (by first | exact own0 | exact own1 | exact own2 | exact own3 | exact own4 | exact own5 | exact own6 | exact own7 | exact own8 | exact own9) (by exact rfl) ?_)
       | (refine st_loadW tabOk hSt _ (by exact rfl) (by exact rfl) (by exact rfl) (by first | exact own0 | exact own1 | exact own2 | exact own3 | exact own4 | exact own5 | exact own6 | exact own7 | exact own8 | exact own9) (by first | exact rfl | simp) ?_))
    | ((with_reducible refine is_store ?_); first
       | (refine st_storeW tabOk hSt _ (by exact rfl) (by exact rfl) (by first | exact own0 | exact own1 | exact own2 | exact own3 | exact own4 | exact own5 | exact own6 | exact own7 | exact own8 | exact own9) (by exact rfl) (by first | exact rfl | simp) (by first | exact rfl | simp) (by first | exact rfl | simp) ?_; clear hSt; intro w hSt; simp only [List.set_cons_zero, List.set_cons_succ] at hSt)
       | (refine st_store1 tabOk hSt _ (by exact rfl) (by exact rfl) (by first | exact own0 | exact own1 | exact own2 | exact own3 | exact own4 | exact own5 | exact own6 | exact own7 | exact own8 | exact own9) (by first | exact evInt (by exact rfl) | exact evSlice (by exact rfl) | exact evBool (by exact rfl) | exact evStr (by exact rfl) | exact evPtr (by exact rfl) | exact evFn (by exact rfl) | exact evIf (by exact rfl) | exact evNil (by exact rfl) | exact evMap (by exact rfl) | exact evNilFn (by exact rfl)) (by exact rfl) (by first | simp | omega) (by exact rfl) ?_; clear hSt; intro w hSt; simp only [List.set_cons_zero, List.set_cons_succ] at hSt))
    | ((with_reducible refine is_alloc ?_); (refine st_alloc tabOk hSt (by exact rfl) ?_; clear hSt; intro w g hSt; dsimp only at hSt))
    | ((with_reducible refine is_box ?_); first
       | (refine st_boxA hSt (by exact rfl) ?_; clear hSt; intro w g hSt)
       | (refine st_box1 hSt (by first | exact evInt (by exact rfl) | exact evSlice (by exact rfl) | exact evBool (by exact rfl) | exact evStr (by exact rfl) | exact evPtr (by exact rfl) | exact evFn (by exact rfl) | exact evIf (by exact rfl) | exact evNil (by exact rfl) | exact evMap (by exact rfl) | exact evNilFn (by exact rfl)) (by exact rfl) ?_; clear hSt; intro w g hSt))
    | ((with_reducible refine is_conv ?_); first
       | (refine st_tostr (by exact rfl) uB uU8 uStr (by exact rfl) (by first | exact hSt.fact 0 rfl | exact hSt.fact 1 rfl | exact hSt.fact 2 rfl | exact hSt.fact 3 rfl | exact hSt.fact 4 rfl | exact hSt.fact 5 rfl | exact hSt.fact 6 rfl | exact hSt.fact 7 rfl | exact hSt.fact 8 rfl | exact hSt.fact 9 rfl | exact hSt.fact 10 rfl | exact hSt.fact 11 rfl) ?_)
       | (refine st_bconst uB uU8 hSt (by exact rfl) (by exact rfl) (by omega) (by simp [maxLen]) ?_; clear hSt; intro w hSt)))
      refine door1 (crash_idle _ _ _) (ret2 (by exact rfl) (Res.agg tabOk hSt _ (by exact rfl) (by exact rfl) (by first | exact own0 | exact own1 | exact own2 | exact own3 | exact own4 | exact own5 | exact own6 | exact own7 | exact own8 | exact own9) (by exact rfl)) (Res.one tabOk hSt _ (by exact rfl) (by exact rfl) (by first | exact own0 | exact own1 | exact own2 | exact own3 | exact own4 | exact own5 | exact own6 | exact own7 | exact own8 | exact own9) (by exact rfl))) ?_ (by simp [go_sem])
      exact ⟨_, rfl, ⟨A2, none, n2, 0, c2, 0, rfl, ((hSt.fact 0 rfl).mono l2 (hSt.fhi 0 rfl)), SlR.nil _ _ _ _⟩, hSt.below⟩

def cutS (k : Dk) (n : Int) : Dk × Int :=
  if validB k = true ∧ 0 ≤ n ∧ n ≤ k.s.length + k.p.length then
    if k.down = true then (k, 104) else (⟨(k.s ++ k.p).take n.toNat, [], k.fuel, false⟩, 0)
  else (zeroDk, 1)

set_option maxHeartbeats 1000000 in
theorem cut_any (A B : Option Addr) (ns np c d lo hi lo' hi' : Nat) (s p : List UInt8) (fuel n : Int) (down : Bool) (w0 : World) (hx : SlR w0 lo hi 1 A ns c (u8s s)) (hy : SlR w0 lo' hi' 1 B np d (u8s p))
    (i1 : hi ≤ w0.heap.size) (i2 : hi' ≤ w0.heap.size) (h0 : ns ≤ 2^47) (h0' : np ≤ 2^47) :
    Calls Try.prog 24 #[.agg #[.slice A ns c, .slice B np d, .int .i64 fuel, .bool down], .int .i64 n] w0 (DkErr w0 (cutS ⟨s, p, fuel, down⟩ n)) := by
  obtain rfl := hx.len8
  obtain rfl := hy.len8
  have hSt := ((St.init w0).arg (.sl _ _ 1 B _ d _) hy i2).arg (.sl _ _ 1 A _ c _) hx i1
  clear hx hy
  have hmf : ∀ (fn : Fn) (first cap : Array Value) (w : World), (Instr.makeFunc fn first cap).run Try.prog w = .ok (.func fn first cap) w := fun _ _ _ _ => rfl
  cases hv : validB ⟨s, p, fuel, down⟩ with
  | false =>
    have hR : cutS ⟨s, p, fuel, down⟩ n = (zeroDk, 1) := by simp [cutS, hv]
    rw [hR]
    replace hv := validB_no hv
    clear hR
    go_enter_defers Try.func24, Try.ntmps24
    go_wp2_with (first
    | (go_at_call 20; refine (valid_no _ _ _ _ _ _ _ _ _ h0 h0' hv).mono ?_; rintro e w' ⟨rfl, hb⟩; replace hSt := hSt.call hb; clear hb)
    | ((with_reducible refine is_load ?_); first
       | (refine st_load1 tabOk hSt _ (by exact rfl) (by exact rfl) (by exact rfl) (by first | exact own0 | exact own1 | exact own2 | exact own3 | exact own4 | exact own5 | exact own6 | exact own7 | exact own8 | exact own9) (by exact rfl) ?_)
       | (refine st_loadW tabOk hSt _ (by exact rfl) (by exact rfl) (by exact rfl) (by first | exact own0 | exact own1 | exact own2 | exact own3 | exact own4 | exact own5 | exact own6 | exact own7 | exact own8 | exact own9) (by first | exact rfl | simp) ?_))
    | ((with_reducible refine is_store ?_); first
       | (refine st_storeW tabOk hSt _ (by exact rfl) (by exact rfl) (by first | exact own0 | exact own1 | exact own2 | exact own3 | exact own4 | exact own5 | exact own6 | exact own7 | exact own8 | exact own9) (by exact rfl) (by first | exact rfl | simp) (by first | exact rfl | simp) (by first | exact rfl | simp) ?_; clear hSt; intro w hSt; simp only [List.set_cons_zero, List.set_cons_succ] at hSt)
       | (refine st_store1 tabOk hSt _ (by exact rfl) (by exact rfl) (by first | exact own0 | exact own1 | exact own2 | exact own3 | exact own4 | exact own5 | exact own6 | exact own7 | exact own8 | exact own9) (by first | exact evInt (by exact rfl) | exact evSlice (by exact rfl) | exact evBool (by exact rfl) | exact evStr (by exact rfl) | exact evPtr (by exact rfl) | exact evFn (by exact rfl) | exact evIf (by exact rfl) | exact evNil (by exact rfl) | exact evMap (by exact rfl) | exact evNilFn (by exact rfl)) (by exact rfl) (by first | simp | omega) (by exact rfl) ?_; clear hSt; intro w hSt; simp only [List.set_cons_zero, List.set_cons_succ] at hSt))
    | ((with_reducible refine is_alloc ?_); (refine st_alloc tabOk hSt (by exact rfl) ?_; clear hSt; intro w g hSt; dsimp only at hSt))
    | ((with_reducible refine is_box ?_); first
       | (refine st_boxA hSt (by exact rfl) ?_; clear hSt; intro w g hSt)
       | (refine st_box1 hSt (by first | exact evInt (by exact rfl) | exact evSlice (by exact rfl) | exact evBool (by exact rfl) | exact evStr (by exact rfl) | exact evPtr (by exact rfl) | exact evFn (by exact rfl) | exact evIf (by exact rfl) | exact evNil (by exact rfl) | exact evMap (by exact rfl) | exact evNilFn (by exact rfl)) (by exact rfl) ?_; clear hSt; intro w g hSt))
    | ((with_reducible refine is_conv ?_); first
       | (refine st_tostr (by exact rfl) uB uU8 uStr (by exact rfl) (by first | exact hSt.fact 0 rfl | exact hSt.fact 1 rfl | exact hSt.fact 2 rfl | exact hSt.fact 3 rfl | exact hSt.fact 4 rfl | exact hSt.fact 5 rfl | exact hSt.fact 6 rfl | exact hSt.fact 7 rfl | exact hSt.fact 8 rfl | exact hSt.fact 9 rfl | exact hSt.fact 10 rfl | exact hSt.fact 11 rfl) ?_)
       | (refine st_bconst uB uU8 hSt (by exact rfl) (by exact rfl) (by omega) (by simp [maxLen]) ?_; clear hSt; intro w hSt)))
    refine door1 (cut_idle _ _ _) (ret2 (by exact rfl) (Res.agg tabOk hSt _ (by exact rfl) (by exact rfl) (by first | exact own0 | exact own1 | exact own2 | exact own3 | exact own4 | exact own5 | exact own6 | exact own7 | exact own8 | exact own9) (by exact rfl)) (Res.one tabOk hSt _ (by exact rfl) (by exact rfl) (by first | exact own0 | exact own1 | exact own2 | exact own3 | exact own4 | exact own5 | exact own6 | exact own7 | exact own8 | exact own9) (by exact rfl))) ?_ (by simp [go_sem])
    exact ⟨_, rfl, zeroNew _ _, hSt.below⟩
  | true =>
  obtain ⟨h1, h2⟩ := validB_yes hv
  have HV := Lib.hid hv
  clear hv
  by_cases hn : n < 0
  · have hR : cutS ⟨s, p, fuel, down⟩ n = (zeroDk, 1) := by
      rw [cutS, if_neg (by omega)]
    rw [hR]
    clear hR
    go_enter_defers Try.func24, Try.ntmps24
    go_wp2_with (first
    | (go_at_call 20; refine (valid_yes _ _ _ _ _ _ _ _ _ h1 h2).mono ?_; rintro e w' ⟨rfl, hb⟩; replace hSt := hSt.call hb; clear hb)
    | ((with_reducible refine is_load ?_); first
       | (refine st_load1 tabOk hSt _ (by exact rfl) (by exact rfl) (by exact rfl) (by first | exact own0 | exact own1 | exact own2 | exact own3 | exact own4 | exact own5 | exact own6 | exact own7 | exact own8 | exact own9) (by exact rfl) ?_)
       | (refine st_loadW tabOk hSt _ (by exact rfl) (by exact rfl) (by exact rfl) (by first | exact own0 | exact own1 | exact own2 | exact own3 | exact own4 | exact own5 | exact own6 | exact own7 | exact own8 | exact own9) (by first | exact rfl | simp) ?_))
    | ((with_reducible refine is_store ?_); first
       | (refine st_storeW tabOk hSt _ (by exact rfl) (by exact rfl) (by first | exact own0 | exact own1 | exact own2 | exact own3 | exact own4 | exact own5 | exact own6 | exact own7 | exact own8 | exact own9) (by exact rfl) (by first | exact rfl | simp) (by first | exact rfl | simp) (by first | exact rfl | simp) ?_; clear hSt; intro w hSt; simp only [List.set_cons_zero, List.set_cons_succ] at hSt)
       | (refine st_store1 tabOk hSt _ (by exact rfl) (by exact rfl) (by first | exact own0 | exact own1 | exact own2 | exact own3 | exact own4 | exact own5 | exact own6 | exact own7 | exact own8 | exact own9) (by first | exact evInt (by exact rfl) | exact evSlice (by exact rfl) | exact evBool (by exact rfl) | exact evStr (by exact rfl) | exact evPtr (by exact rfl) | exact evFn (by exact rfl) | exact evIf (by exact rfl) | exact evNil (by exact rfl) | exact evMap (by exact rfl) | exact evNilFn (by exact rfl)) (by exact rfl) (by first | simp | omega) (by exact rfl) ?_; clear hSt; intro w hSt; simp only [List.set_cons_zero, List.set_cons_succ] at hSt))
    | ((with_reducible refine is_alloc ?_); (refine st_alloc tabOk hSt (by exact rfl) ?_; clear hSt; intro w g hSt; dsimp only at hSt))
    | ((with_reducible refine is_box ?_); first
       | (refine st_boxA hSt (by exact rfl) ?_; clear hSt; intro w g hSt)
       | (refine st_box1 hSt (by first | exact evInt (by exact rfl) | exact evSlice (by exact rfl) | exact evBool (by exact rfl) | exact evStr (by exact rfl) | exact evPtr (by exact rfl) | exact evFn (by exact rfl) | exact evIf (by exact rfl) | exact evNil (by exact rfl) | exact evMap (by exact rfl) | exact evNilFn (by exact rfl)) (by exact rfl) ?_; clear hSt; intro w g hSt))
    | ((with_reducible refine is_conv ?_); first
       | (refine st_tostr (by exact rfl) uB uU8 uStr (by exact rfl) (by first | exact hSt.fact 0 rfl | exact hSt.fact 1 rfl | exact hSt.fact 2 rfl | exact hSt.fact 3 rfl | exact hSt.fact 4 rfl | exact hSt.fact 5 rfl | exact hSt.fact 6 rfl | exact hSt.fact 7 rfl | exact hSt.fact 8 rfl | exact hSt.fact 9 rfl | exact hSt.fact 10 rfl | exact hSt.fact 11 rfl) ?_)
       | (refine st_bconst uB uU8 hSt (by exact rfl) (by exact rfl) (by omega) (by simp [maxLen]) ?_; clear hSt; intro w hSt)))
    refine door1 (cut_idle _ _ _) (ret2 (by exact rfl) (Res.agg tabOk hSt _ (by exact rfl) (by exact rfl) (by first | exact own0 | exact own1 | exact own2 | exact own3 | exact own4 | exact own5 | exact own6 | exact own7 | exact own8 | exact own9) (by exact rfl)) (Res.one tabOk hSt _ (by exact rfl) (by exact rfl) (by first | exact own0 | exact own1 | exact own2 | exact own3 | exact own4 | exact own5 | exact own6 | exact own7 | exact own8 | exact own9) (by exact rfl))) ?_ (by simp [go_sem])
    exact ⟨_, rfl, zeroNew _ _, hSt.below⟩
  obtain ⟨k, rfl⟩ : ∃ k : Nat, n = k := ⟨n.toNat, by omega⟩
  by_cases hk : s.length + p.length < k
  · have hR : cutS ⟨s, p, fuel, down⟩ k = (zeroDk, 1) := by
      rw [cutS, if_neg (by simp only; omega)]
    rw [hR]
    clear hR
    have hk' : (s.length : Int) + (p.length : Int) < (k : Int) := by omega
    go_enter_defers Try.func24, Try.ntmps24
    go_wp2_with (first
    | (go_at_call 20; refine (valid_yes _ _ _ _ _ _ _ _ _ h1 h2).mono ?_; rintro e w' ⟨rfl, hb⟩; replace hSt := hSt.call hb; clear hb)
    | ((with_reducible refine is_load ?_); first
       | (refine st_load1 tabOk hSt _ (by exact rfl) (by exact rfl) (by exact rfl) (by first | exact own0 | exact own1 | exact own2 | exact own3 | exact own4 | exact own5 | exact own6 | exact own7 | exact own8 | exact own9) (by exact rfl) ?_)
       | (refine st_loadW tabOk hSt _ (by exact rfl) (by exact rfl) (by exact rfl) (by first | exact own0 | exact own1 | exact own2 | exact own3 | exact own4 | exact own5 | exact own6 | exact own7 | exact own8 | exact own9) (by first | exact rfl | simp) ?_))
    | ((with_reducible refine is_store ?_); first
       | (refine st_storeW tabOk hSt _ (by exact rfl) (by exact rfl) (by first | exact own0 | exact own1 | exact own2 | exact own3 | exact own4 | exact own5 | exact own6 | exact own7 | exact own8 | exact own9) (by exact rfl) (by first | exact rfl | simp) (by first | exact rfl | simp) (by first | exact rfl | simp) ?_; clear hSt; intro w hSt; simp only [List.set_cons_zero, List.set_cons_succ] at hSt)
       | (refine st_store1 tabOk hSt _ (by exact rfl) (by exact rfl) (by first | exact own0 | exact own1 | exact own2 | exact own3 | exact own4 | exact own5 | exact own6 | exact own7 | exact own8 | exact own9) (by first | exact evInt (by exact rfl) | exact evSlice (by exact rfl) | exact evBool (by exact rfl) | exact evStr (by exact rfl) | exact evPtr (by exact rfl) | exact evFn (by exact rfl) | exact evIf (by exact rfl) | exact evNil (by exact rfl) | exact evMap (by exact rfl) | exact evNilFn (by exact rfl)) (by exact rfl) (by first | simp | omega) (by exact rfl) ?_; clear hSt; intro w hSt; simp only [List.set_cons_zero, List.set_cons_succ] at hSt))
    | ((with_reducible refine is_alloc ?_); (refine st_alloc tabOk hSt (by exact rfl) ?_; clear hSt; intro w g hSt; dsimp only at hSt))
    | ((with_reducible refine is_box ?_); first
       | (refine st_boxA hSt (by exact rfl) ?_; clear hSt; intro w g hSt)
       | (refine st_box1 hSt (by first | exact evInt (by exact rfl) | exact evSlice (by exact rfl) | exact evBool (by exact rfl) | exact evStr (by exact rfl) | exact evPtr (by exact rfl) | exact evFn (by exact rfl) | exact evIf (by exact rfl) | exact evNil (by exact rfl) | exact evMap (by exact rfl) | exact evNilFn (by exact rfl)) (by exact rfl) ?_; clear hSt; intro w g hSt))
    | ((with_reducible refine is_conv ?_); first
       | (refine st_tostr (by exact rfl) uB uU8 uStr (by exact rfl) (by first | exact hSt.fact 0 rfl | exact hSt.fact 1 rfl | exact hSt.fact 2 rfl | exact hSt.fact 3 rfl | exact hSt.fact 4 rfl | exact hSt.fact 5 rfl | exact hSt.fact 6 rfl | exact hSt.fact 7 rfl | exact hSt.fact 8 rfl | exact hSt.fact 9 rfl | exact hSt.fact 10 rfl | exact hSt.fact 11 rfl) ?_)
       | (refine st_bconst uB uU8 hSt (by exact rfl) (by exact rfl) (by omega) (by simp [maxLen]) ?_; clear hSt; intro w hSt)))
    refine door1 (cut_idle _ _ _) (ret2 (by exact rfl) (Res.agg tabOk hSt _ (by exact rfl) (by exact rfl) (by first | exact own0 | exact own1 | exact own2 | exact own3 | exact own4 | exact own5 | exact own6 | exact own7 | exact own8 | exact own9) (by exact rfl)) (Res.one tabOk hSt _ (by exact rfl) (by exact rfl) (by first | exact own0 | exact own1 | exact own2 | exact own3 | exact own4 | exact own5 | exact own6 | exact own7 | exact own8 | exact own9) (by exact rfl))) ?_ (by simp [go_sem])
    exact ⟨_, rfl, zeroNew _ _, hSt.below⟩
  have hk' : ¬ (s.length : Int) + (p.length : Int) < (k : Int) := by omega
  cases down with
  | true =>
    have hR : cutS ⟨s, p, fuel, true⟩ k = (⟨s, p, fuel, true⟩, 104) := by
      rw [cutS, if_pos ⟨HV.out, by omega, by simp only; omega⟩]; rfl
    rw [hR]
    clear hR
    go_enter_defers Try.func24, Try.ntmps24
    go_wp2_with (first
    | (go_at_call 20; refine (valid_yes _ _ _ _ _ _ _ _ _ h1 h2).mono ?_; rintro e w' ⟨rfl, hb⟩; replace hSt := hSt.call hb; clear hb) | (go_at_call 26; refine (clone_any _ _ _ _ _ _ _ _ _ _ s p _ _ _ (hSt.fact 0 rfl) (hSt.fact 1 rfl) (hSt.fhi 0 rfl) (hSt.fhi 1 rfl) (by omega)).mono ?_; rintro e w' ⟨_, rfl, ⟨A1, B1, n1, m1, c1, d1, rfl, k1, k2⟩, hb⟩; have l1 := hSt.size; replace hSt := hSt.more2 hb (.sl _ _ 1 A1 _ c1 _) (.sl _ _ 1 B1 _ d1 _) k1 k2 (Nat.le_refl _) (Nat.le_refl _) (Nat.le_refl _) (Nat.le_refl _); clear k1 k2 hb)
    | ((with_reducible refine is_load ?_); first
       | (refine st_load1 tabOk hSt _ (by exact rfl) (by exact rfl) (by exact rfl) (by first | exact own0 | exact own1 | exact own2 | exact own3 | exact own4 | exact own5 | exact own6 | exact own7 | exact own8 | exact own9) (by exact rfl) ?_)
       | (refine st_loadW tabOk hSt _ (by exact rfl) (by exact rfl) (by exact rfl) (by first | exact own0 | exact own1 | exact own2 | exact own3 | exact own4 | exact own5 | exact own6 | exact own7 | exact own8 | exact own9) (by first | exact rfl | simp) ?_))
    | ((with_reducible refine is_store ?_); first
       | (refine st_storeW tabOk hSt _ (by exact rfl) (by exact rfl) (by first | exact own0 | exact own1 | exact own2 | exact own3 | exact own4 | exact own5 | exact own6 | exact own7 | exact own8 | exact own9) (by exact rfl) (by first | exact rfl | simp) (by first | exact rfl | simp) (by first | exact rfl | simp) ?_; clear hSt; intro w hSt; simp only [List.set_cons_zero, List.set_cons_succ] at hSt)
       | (refine st_store1 tabOk hSt _ (by exact rfl) (by exact rfl) (by first | exact own0 | exact own1 | exact own2 | exact own3 | exact own4 | exact own5 | exact own6 | exact own7 | exact own8 | exact own9) (by first | exact evInt (by exact rfl) | exact evSlice (by exact rfl) | exact evBool (by exact rfl) | exact evStr (by exact rfl) | exact evPtr (by exact rfl) | exact evFn (by exact rfl) | exact evIf (by exact rfl) | exact evNil (by exact rfl) | exact evMap (by exact rfl) | exact evNilFn (by exact rfl)) (by exact rfl) (by first | simp | omega) (by exact rfl) ?_; clear hSt; intro w hSt; simp only [List.set_cons_zero, List.set_cons_succ] at hSt))
    | ((with_reducible refine is_alloc ?_); (refine st_alloc tabOk hSt (by exact rfl) ?_; clear hSt; intro w g hSt; dsimp only at hSt))
    | ((with_reducible refine is_box ?_); first
       | (refine st_boxA hSt (by exact rfl) ?_; clear hSt; intro w g hSt)
       | (refine st_box1 hSt (by first | exact evInt (by exact rfl) | exact evSlice (by exact rfl) | exact evBool (by exact rfl) | exact evStr (by exact rfl) | exact evPtr (by exact rfl) | exact evFn (by exact rfl) | exact evIf (by exact rfl) | exact evNil (by exact rfl) | exact evMap (by exact rfl) | exact evNilFn (by exact rfl)) (by exact rfl) ?_; clear hSt; intro w g hSt))
    | ((with_reducible refine is_conv ?_); first
       | (refine st_tostr (by exact rfl) uB uU8 uStr (by exact rfl) (by first | exact hSt.fact 0 rfl | exact hSt.fact 1 rfl | exact hSt.fact 2 rfl | exact hSt.fact 3 rfl | exact hSt.fact 4 rfl | exact hSt.fact 5 rfl | exact hSt.fact 6 rfl | exact hSt.fact 7 rfl | exact hSt.fact 8 rfl | exact hSt.fact 9 rfl | exact hSt.fact 10 rfl | exact hSt.fact 11 rfl) ?_)
       | (refine st_bconst uB uU8 hSt (by exact rfl) (by exact rfl) (by omega) (by simp [maxLen]) ?_; clear hSt; intro w hSt)))
    refine door1 (cut_idle _ _ _) (ret2 (by exact rfl) (Res.agg tabOk hSt _ (by exact rfl) (by exact rfl) (by first | exact own0 | exact own1 | exact own2 | exact own3 | exact own4 | exact own5 | exact own6 | exact own7 | exact own8 | exact own9) (by exact rfl)) (Res.one tabOk hSt _ (by exact rfl) (by exact rfl) (by first | exact own0 | exact own1 | exact own2 | exact own3 | exact own4 | exact own5 | exact own6 | exact own7 | exact own8 | exact own9) (by exact rfl))) ?_ (by simp [go_sem])
    exact ⟨_, rfl, ⟨A1, B1, n1, m1, c1, d1, rfl, ((hSt.fact 0 rfl).mono l1 (hSt.fhi 0 rfl)), ((hSt.fact 1 rfl).mono l1 (hSt.fhi 1 rfl))⟩, hSt.below⟩
  | false =>
    have hR : cutS ⟨s, p, fuel, false⟩ k = (⟨(s ++ p).take k, [], fuel, false⟩, 0) := by
      rw [cutS, if_pos ⟨HV.out, by omega, by simp only; omega⟩]; simp
    rw [hR]
    clear hR
    go_enter_defers Try.func24, Try.ntmps24
    go_wp2_with (first
    | (go_at_call 20; refine (valid_yes _ _ _ _ _ _ _ _ _ h1 h2).mono ?_; rintro e w' ⟨rfl, hb⟩; replace hSt := hSt.call hb; clear hb) | (go_at_call 26; refine (clone_any _ _ _ _ _ _ _ _ _ _ s p _ _ _ (hSt.fact 0 rfl) (hSt.fact 1 rfl) (hSt.fhi 0 rfl) (hSt.fhi 1 rfl) (by omega)).mono ?_; rintro e w' ⟨_, rfl, ⟨A1, B1, n1, m1, c1, d1, rfl, k1, k2⟩, hb⟩; have l1 := hSt.size; replace hSt := hSt.more2 hb (.sl _ _ 1 A1 _ c1 _) (.sl _ _ 1 B1 _ d1 _) k1 k2 (Nat.le_refl _) (Nat.le_refl _) (Nat.le_refl _) (Nat.le_refl _); clear k1 k2 hb) | (go_at_call 27; refine (join_any _ _ _ _ _ _ _ _ _ _ s p _ (hSt.fact 2 rfl) (hSt.fact 3 rfl) (hSt.fhi 2 rfl) (hSt.fhi 3 rfl) (by omega)).mono ?_)
    | ((with_reducible refine is_load ?_); first
       | (refine st_load1 tabOk hSt _ (by exact rfl) (by exact rfl) (by exact rfl) (by first | exact own0 | exact own1 | exact own2 | exact own3 | exact own4 | exact own5 | exact own6 | exact own7 | exact own8 | exact own9) (by exact rfl) ?_)
       | (refine st_loadW tabOk hSt _ (by exact rfl) (by exact rfl) (by exact rfl) (by first | exact own0 | exact own1 | exact own2 | exact own3 | exact own4 | exact own5 | exact own6 | exact own7 | exact own8 | exact own9) (by first | exact rfl | simp) ?_))
    | ((with_reducible refine is_store ?_); first
       | (refine st_storeW tabOk hSt _ (by exact rfl) (by exact rfl) (by first | exact own0 | exact own1 | exact own2 | exact own3 | exact own4 | exact own5 | exact own6 | exact own7 | exact own8 | exact own9) (by exact rfl) (by first | exact rfl | simp) (by first | exact rfl | simp) (by first | exact rfl | simp) ?_; clear hSt; intro w hSt; simp only [List.set_cons_zero, List.set_cons_succ] at hSt)
       | (refine st_store1 tabOk hSt _ (by exact rfl) (by exact rfl) (by first | exact own0 | exact own1 | exact own2 | exact own3 | exact own4 | exact own5 | exact own6 | exact own7 | exact own8 | exact own9) (by first | exact evInt (by exact rfl) | exact evSlice (by exact rfl) | exact evBool (by exact rfl) | exact evStr (by exact rfl) | exact evPtr (by exact rfl) | exact evFn (by exact rfl) | exact evIf (by exact rfl) | exact evNil (by exact rfl) | exact evMap (by exact rfl) | exact evNilFn (by exact rfl)) (by exact rfl) (by first | simp | omega) (by exact rfl) ?_; clear hSt; intro w hSt; simp only [List.set_cons_zero, List.set_cons_succ] at hSt))
    | ((with_reducible refine is_alloc ?_); (refine st_alloc tabOk hSt (by exact rfl) ?_; clear hSt; intro w g hSt; dsimp only at hSt))
    | ((with_reducible refine is_box ?_); first
       | (refine st_boxA hSt (by exact rfl) ?_; clear hSt; intro w g hSt)
       | (refine st_box1 hSt (by first | exact evInt (by exact rfl) | exact evSlice (by exact rfl) | exact evBool (by exact rfl) | exact evStr (by exact rfl) | exact evPtr (by exact rfl) | exact evFn (by exact rfl) | exact evIf (by exact rfl) | exact evNil (by exact rfl) | exact evMap (by exact rfl) | exact evNilFn (by exact rfl)) (by exact rfl) ?_; clear hSt; intro w g hSt))
    | ((with_reducible refine is_conv ?_); first
       | (refine st_tostr (by exact rfl) uB uU8 uStr (by exact rfl) (by first | exact hSt.fact 0 rfl | exact hSt.fact 1 rfl | exact hSt.fact 2 rfl | exact hSt.fact 3 rfl | exact hSt.fact 4 rfl | exact hSt.fact 5 rfl | exact hSt.fact 6 rfl | exact hSt.fact 7 rfl | exact hSt.fact 8 rfl | exact hSt.fact 9 rfl | exact hSt.fact 10 rfl | exact hSt.fact 11 rfl) ?_)
       | (refine st_bconst uB uU8 hSt (by exact rfl) (by exact rfl) (by omega) (by simp [maxLen]) ?_; clear hSt; intro w hSt)))
    rintro e w' ⟨A2, n2, c2, rfl, k1, hb⟩
    have l2 := hSt.size
    have hn2 := k1.len8
    have hc2 := k1.1
    have hm2 := k1.2.1
    rw [List.length_append] at hn2
    have e1 : k ≤ c2 := by omega
    have e1' : (k : Int) ≤ (c2 : Int) := by omega
    have k2 := (k1.take k (by omega)).cap k (Nat.le_refl _) (by omega)
    rw [Nat.mul_one, u8s_take] at k2
    replace hSt := hSt.more hb (.sl _ _ 1 A2 _ k _) k2 (Nat.le_refl _) (Nat.le_refl _)
    clear k1 k2 hb hn2
    go_wp2_with (first
    | fail
    | ((with_reducible refine is_load ?_); first
       | (refine st_load1 tabOk hSt _ (by exact rfl) (by exact rfl) (by exact rfl) (by first | exact own0 | exact own1 | exact own2 | exact own3 | exact own4 | exact own5 | exact own6 | exact own7 | exact own8 | exact own9) (by exact rfl) ?_)
       | (refine st_loadW tabOk hSt _ (by exact rfl) (by exact rfl) (by exact rfl) (by first | exact own0 | exact own1 | exact own2 | exact own3 | exact own4 | exact own5 | exact own6 | exact own7 | exact own8 | exact own9) (by first | exact rfl | simp) ?_))
    | ((with_reducible refine is_store ?_); first
       | (refine st_storeW tabOk hSt _ (by exact rfl) (by exact rfl) (by first | exact own0 | exact own1 | exact own2 | exact own3 | exact own4 | exact own5 | exact own6 | exact own7 | exact own8 | exact own9) (by exact rfl) (by first | exact rfl | simp) (by first | exact rfl | simp) (by first | exact rfl | simp) ?_; clear hSt; intro w hSt; simp only [List.set_cons_zero, List.set_cons_succ] at hSt)
       | (refine st_store1 tabOk hSt _ (by exact rfl) (by exact rfl) (by first | exact own0 | exact own1 | exact own2 | exact own3 | exact own4 | exact own5 | exact own6 | exact own7 | exact own8 | exact own9) (by first | exact evInt (by exact rfl) | exact evSlice (by exact rfl) | exact evBool (by exact rfl) | exact evStr (by exact rfl) | exact evPtr (by exact rfl) | exact evFn (by exact rfl) | exact evIf (by exact rfl) | exact evNil (by exact rfl) | exact evMap (by exact rfl) | exact evNilFn (by exact rfl)) (by exact rfl) (by first | simp | omega) (by exact rfl) ?_; clear hSt; intro w hSt; simp only [List.set_cons_zero, List.set_cons_succ] at hSt))
    | ((with_reducible refine is_alloc ?_); (refine st_alloc tabOk hSt (by exact rfl) ?_; clear hSt; intro w g hSt; dsimp only at hSt))
    | ((with_reducible refine is_box ?_); first
       | (refine st_boxA hSt (by exact rfl) ?_; clear hSt; intro w g hSt)
       | (refine st_box1 hSt (by first | exact evInt (by exact rfl) | exact evSlice (by exact rfl) | exact evBool (by exact rfl) | exact evStr (by exact rfl) | exact evPtr (by exact rfl) | exact evFn (by exact rfl) | exact evIf (by exact rfl) | exact evNil (by exact rfl) | exact evMap (by exact rfl) | exact evNilFn (by exact rfl)) (by exact rfl) ?_; clear hSt; intro w g hSt))
    | ((with_reducible refine is_conv ?_); first
       | (refine st_tostr (by exact rfl) uB uU8 uStr (by exact rfl) (by first | exact hSt.fact 0 rfl | exact hSt.fact 1 rfl | exact hSt.fact 2 rfl | exact hSt.fact 3 rfl | exact hSt.fact 4 rfl | exact hSt.fact 5 rfl | exact hSt.fact 6 rfl | exact hSt.fact 7 rfl | exact hSt.fact 8 rfl | exact hSt.fact 9 rfl | exact hSt.fact 10 rfl | exact hSt.fact 11 rfl) ?_)
       | (refine st_bconst uB uU8 hSt (by exact rfl) (by exact rfl) (by omega) (by simp [maxLen]) ?_; clear hSt; intro w hSt)))
    refine door1 (cut_idle _ _ _) (ret2 (by exact rfl) (Res.agg tabOk hSt _ (by exact rfl) (by exact rfl) (by first | exact own0 | exact own1 | exact own2 | exact own3 | exact own4 | exact own5 | exact own6 | exact own7 | exact own8 | exact own9) (by exact rfl)) (Res.one tabOk hSt _ (by exact rfl) (by exact rfl) (by first | exact own0 | exact own1 | exact own2 | exact own3 | exact own4 | exact own5 | exact own6 | exact own7 | exact own8 | exact own9) (by exact rfl))) ?_ (by simp [go_sem])
    exact ⟨_, rfl, ⟨A2, none, k, 0, k, 0, rfl, ((hSt.fact 0 rfl).mono l2 (hSt.fhi 0 rfl)), SlR.nil _ _ _ _⟩, hSt.below⟩

def readS (k : Dk) : List UInt8 × Int :=
  if validB k = true then (if k.down = true then ([], 104) else (k.s ++ k.p, 0)) else ([], 1)

set_option maxHeartbeats 1000000 in
theorem read_any (A B : Option Addr) (ns np c d lo hi lo' hi' : Nat) (s p : List UInt8) (fuel : Int) (down : Bool) (w0 : World) (hx : SlR w0 lo hi 1 A ns c (u8s s)) (hy : SlR w0 lo' hi' 1 B np d (u8s p))
    (i1 : hi ≤ w0.heap.size) (i2 : hi' ≤ w0.heap.size) (h0 : ns ≤ 2^47) (h0' : np ≤ 2^47) :
    Calls Try.prog 14 #[.agg #[.slice A ns c, .slice B np d, .int .i64 fuel, .bool down]] w0 (BytesErr w0 (readS ⟨s, p, fuel, down⟩)) := by
  obtain rfl := hx.len8
  obtain rfl := hy.len8
  have hSt := ((St.init w0).arg (.sl _ _ 1 B _ d _) hy i2).arg (.sl _ _ 1 A _ c _) hx i1
  clear hx hy
  have hmf : ∀ (fn : Fn) (first cap : Array Value) (w : World), (Instr.makeFunc fn first cap).run Try.prog w = .ok (.func fn first cap) w := fun _ _ _ _ => rfl
  cases hv : validB ⟨s, p, fuel, down⟩ with
  | false =>
    have hR : readS ⟨s, p, fuel, down⟩ = ([], 1) := by simp [readS, hv]
    rw [hR]
    replace hv := validB_no hv
    clear hR
    go_enter_defers Try.func14, Try.ntmps14
    go_wp2_with (first
    | (go_at_call 20; refine (valid_no _ _ _ _ _ _ _ _ _ h0 h0' hv).mono ?_; rintro e w' ⟨rfl, hb⟩; replace hSt := hSt.call hb; clear hb)
    | ((with_reducible refine is_load ?_); first
       | (refine st_load1 tabOk hSt _ (by exact rfl) (by exact rfl) (by exact rfl) (by first | exact own0 | exact own1 | exact own2 | exact own3 | exact own4 | exact own5 | exact own6 | exact own7 | exact own8 | exact own9) (by exact rfl) ?_)
       | (refine st_loadW tabOk hSt _ (by exact rfl) (by exact rfl) (by exact rfl) (by first | exact own0 | exact own1 | exact own2 | exact own3 | exact own4 | exact own5 | exact own6 | exact own7 | exact own8 | exact own9) (by first | exact rfl | simp) ?_))
    | ((with_reducible refine is_store ?_); first
       | (refine st_storeW tabOk hSt _ (by exact rfl) (by exact rfl) (by first | exact own0 | exact own1 | exact own2 | exact own3 | exact own4 | exact own5 | exact own6 | exact own7 | exact own8 | exact own9) (by exact rfl) (by first | exact rfl | simp) (by first | exact rfl | simp) (by first | exact rfl | simp) ?_; clear hSt; intro w hSt; simp only [List.set_cons_zero, List.set_cons_succ] at hSt)
       | (refine st_store1 tabOk hSt _ (by exact rfl) (by exact rfl) (by first | exact own0 | exact own1 | exact own2 | exact own3 | exact own4 | exact own5 | exact own6 | exact own7 | exact own8 | exact own9) (by first | exact evInt (by exact rfl) | exact evSlice (by exact rfl) | exact evBool (by exact rfl) | exact evStr (by exact rfl) | exact evPtr (by exact rfl) | exact evFn (by exact rfl) | exact evIf (by exact rfl) | exact evNil (by exact rfl) | exact evMap (by exact rfl) | exact evNilFn (by exact rfl)) (by exact rfl) (by first | simp | omega) (by exact rfl) ?_; clear hSt; intro w hSt; simp only [List.set_cons_zero, List.set_cons_succ] at hSt))
    | ((with_reducible refine is_alloc ?_); (refine st_alloc tabOk hSt (by exact rfl) ?_; clear hSt; intro w g hSt; dsimp only at hSt))
    | ((with_reducible refine is_box ?_); first
       | (refine st_boxA hSt (by exact rfl) ?_; clear hSt; intro w g hSt)
       | (refine st_box1 hSt (by first | exact evInt (by exact rfl) | exact evSlice (by exact rfl) | exact evBool (by exact rfl) | exact evStr (by exact rfl) | exact evPtr (by exact rfl) | exact evFn (by exact rfl) | exact evIf (by exact rfl) | exact evNil (by exact rfl) | exact evMap (by exact rfl) | exact evNilFn (by exact rfl)) (by exact rfl) ?_; clear hSt; intro w g hSt))
    | ((with_reducible refine is_conv ?_); first
       | (refine st_tostr (by exact rfl) uB uU8 uStr (by exact rfl) (by first | exact hSt.fact 0 rfl | exact hSt.fact 1 rfl | exact hSt.fact 2 rfl | exact hSt.fact 3 rfl | exact hSt.fact 4 rfl | exact hSt.fact 5 rfl | exact hSt.fact 6 rfl | exact hSt.fact 7 rfl | exact hSt.fact 8 rfl | exact hSt.fact 9 rfl | exact hSt.fact 10 rfl | exact hSt.fact 11 rfl) ?_)
       | (refine st_bconst uB uU8 hSt (by exact rfl) (by exact rfl) (by omega) (by simp [maxLen]) ?_; clear hSt; intro w hSt)))
    refine door1 (read_idle _ _ _) (ret2 (by exact rfl) (Res.one tabOk hSt _ (by exact rfl) (by exact rfl) (by first | exact own0 | exact own1 | exact own2 | exact own3 | exact own4 | exact own5 | exact own6 | exact own7 | exact own8 | exact own9) (by exact rfl)) (Res.one tabOk hSt _ (by exact rfl) (by exact rfl) (by first | exact own0 | exact own1 | exact own2 | exact own3 | exact own4 | exact own5 | exact own6 | exact own7 | exact own8 | exact own9) (by exact rfl))) ?_ (by simp [go_sem])
    exact ⟨none, 0, 0, rfl, SlR.nil _ _ _ _, hSt.below⟩
  | true =>
  obtain ⟨h1, h2⟩ := validB_yes hv
  have HV := Lib.hid hv
  clear hv
  cases down with
  | true =>
    have hR : readS ⟨s, p, fuel, true⟩ = ([], 104) := by simp [readS, HV.out]
    rw [hR]
    clear hR
    go_enter_defers Try.func14, Try.ntmps14
    go_wp2_with (first
    | (go_at_call 20; refine (valid_yes _ _ _ _ _ _ _ _ _ h1 h2).mono ?_; rintro e w' ⟨rfl, hb⟩; replace hSt := hSt.call hb; clear hb)
    | ((with_reducible refine is_load ?_); first
       | (refine st_load1 tabOk hSt _ (by exact rfl) (by exact rfl) (by exact rfl) (by first | exact own0 | exact own1 | exact own2 | exact own3 | exact own4 | exact own5 | exact own6 | exact own7 | exact own8 | exact own9) (by exact rfl) ?_)
       | (refine st_loadW tabOk hSt _ (by exact rfl) (by exact rfl) (by exact rfl) (by first | exact own0 | exact own1 | exact own2 | exact own3 | exact own4 | exact own5 | exact own6 | exact own7 | exact own8 | exact own9) (by first | exact rfl | simp) ?_))
    | ((with_reducible refine is_store ?_); first
       | (refine st_storeW tabOk hSt _ (by exact rfl) (by exact rfl) (by first | exact own0 | exact own1 | exact own2 | exact own3 | exact own4 | exact own5 | exact own6 | exact own7 | exact own8 | exact own9) (by exact rfl) (by first | exact rfl | simp) (by first | exact rfl | simp) (by first | exact rfl | simp) ?_; clear hSt; intro w hSt; simp only [List.set_cons_zero, List.set_cons_succ] at hSt)
       | (refine st_store1 tabOk hSt _ (by exact rfl) (by exact rfl) (by first | exact own0 | exact own1 | exact own2 | exact own3 | exact own4 | exact own5 | exact own6 | exact own7 | exact own8 | exact own9) (by first | exact evInt (by exact rfl) | exact evSlice (by exact rfl) | exact evBool (by exact rfl) | exact evStr (by exact rfl) | exact evPtr (by exact rfl) | exact evFn (by exact rfl) | exact evIf (by exact rfl) | exact evNil (by exact rfl) | exact evMap (by exact rfl) | exact evNilFn (by exact rfl)) (by exact rfl) (by first | simp | omega) (by exact rfl) ?_; clear hSt; intro w hSt; simp only [List.set_cons_zero, List.set_cons_succ] at hSt))
    | ((with_reducible refine is_alloc ?_); (refine st_alloc tabOk hSt (by exact rfl) ?_; clear hSt; intro w g hSt; dsimp only at hSt))
    | ((with_reducible refine is_box ?_); first
       | (refine st_boxA hSt (by exact rfl) ?_; clear hSt; intro w g hSt)
       | (refine st_box1 hSt (by first | exact evInt (by exact rfl) | exact evSlice (by exact rfl) | exact evBool (by exact rfl) | exact evStr (by exact rfl) | exact evPtr (by exact rfl) | exact evFn (by exact rfl) | exact evIf (by exact rfl) | exact evNil (by exact rfl) | exact evMap (by exact rfl) | exact evNilFn (by exact rfl)) (by exact rfl) ?_; clear hSt; intro w g hSt))
    | ((with_reducible refine is_conv ?_); first
       | (refine st_tostr (by exact rfl) uB uU8 uStr (by exact rfl) (by first | exact hSt.fact 0 rfl | exact hSt.fact 1 rfl | exact hSt.fact 2 rfl | exact hSt.fact 3 rfl | exact hSt.fact 4 rfl | exact hSt.fact 5 rfl | exact hSt.fact 6 rfl | exact hSt.fact 7 rfl | exact hSt.fact 8 rfl | exact hSt.fact 9 rfl | exact hSt.fact 10 rfl | exact hSt.fact 11 rfl) ?_)
       | (refine st_bconst uB uU8 hSt (by exact rfl) (by exact rfl) (by omega) (by simp [maxLen]) ?_; clear hSt; intro w hSt)))
    refine door1 (read_idle _ _ _) (ret2 (by exact rfl) (Res.one tabOk hSt _ (by exact rfl) (by exact rfl) (by first | exact own0 | exact own1 | exact own2 | exact own3 | exact own4 | exact own5 | exact own6 | exact own7 | exact own8 | exact own9) (by exact rfl)) (Res.one tabOk hSt _ (by exact rfl) (by exact rfl) (by first | exact own0 | exact own1 | exact own2 | exact own3 | exact own4 | exact own5 | exact own6 | exact own7 | exact own8 | exact own9) (by exact rfl))) ?_ (by simp [go_sem])
    exact ⟨none, 0, 0, rfl, SlR.nil _ _ _ _, hSt.below⟩
  | false =>
    have hR : readS ⟨s, p, fuel, false⟩ = (s ++ p, 0) := by simp [readS, HV.out]
    rw [hR]
    clear hR
    go_enter_defers Try.func14, Try.ntmps14
    go_wp2_with (first
    | (go_at_call 20; refine (valid_yes _ _ _ _ _ _ _ _ _ h1 h2).mono ?_; rintro e w' ⟨rfl, hb⟩; replace hSt := hSt.call hb; clear hb) | (go_at_call 27; refine (join_any _ _ _ _ _ _ _ _ _ _ s p _ (hSt.fact 0 rfl) (hSt.fact 1 rfl) (hSt.fhi 0 rfl) (hSt.fhi 1 rfl) (by omega)).mono ?_; rintro e w' ⟨A2, n2, c2, rfl, k1, hb⟩; have l2 := hSt.size; replace hSt := hSt.more hb (.sl _ _ 1 A2 _ c2 _) k1 (Nat.le_refl _) (Nat.le_refl _); clear k1 hb)
    | ((with_reducible refine is_load ?_); first
       | (refine st_load1 tabOk hSt _ (by exact rfl) (by exact rfl) (by exact rfl) (by first | exact own0 | exact own1 | exact own2 | exact own3 | exact own4 | exact own5 | exact own6 | exact own7 | exact own8 | exact own9) (by exact rfl) ?_)
       | (refine st_loadW tabOk hSt _ (by exact rfl) (by exact rfl) (by exact rfl) (by first | exact own0 | exact own1 | exact own2 | exact own3 | exact own4 | exact own5 | exact own6 | exact own7 | exact own8 | exact own9) (by first | exact rfl | simp) ?_))
    | ((with_reducible refine is_store ?_); first
       | (refine st_storeW tabOk hSt _ (by exact rfl) (by exact rfl) (by first | exact own0 | exact own1 | exact own2 | exact own3 | exact own4 | exact own5 | exact own6 | exact own7 | exact own8 | exact own9) (by exact rfl) (by first | exact rfl | simp) (by first | exact rfl | simp) (by first | exact rfl | simp) ?_; clear hSt; intro w hSt; simp only [List.set_cons_zero, List.set_cons_succ] at hSt)
       | (refine st_store1 tabOk hSt _ (by exact rfl) (by exact rfl) (by first | exact own0 | exact own1 | exact own2 | exact own3 | exact own4 | exact own5 | exact own6 | exact own7 | exact own8 | exact own9) (by first | exact evInt (by exact rfl) | exact evSlice (by exact rfl) | exact evBool (by exact rfl) | exact evStr (by exact rfl) | exact evPtr (by exact rfl) | exact evFn (by exact rfl) | exact evIf (by exact rfl) | exact evNil (by exact rfl) | exact evMap (by exact rfl) | exact evNilFn (by exact rfl)) (by exact rfl) (by first | simp | omega) (by exact rfl) ?_; clear hSt; intro w hSt; simp only [List.set_cons_zero, List.set_cons_succ] at hSt))
    | ((with_reducible refine is_alloc ?_); (refine st_alloc tabOk hSt (by exact rfl) ?_; clear hSt; intro w g hSt; dsimp only at hSt))
    | ((with_reducible refine is_box ?_); first
       | (refine st_boxA hSt (by exact rfl) ?_; clear hSt; intro w g hSt)
       | (refine st_box1 hSt (by first | exact evInt (by exact rfl) | exact evSlice (by exact rfl) | exact evBool (by exact rfl) | exact evStr (by exact rfl) | exact evPtr (by exact rfl) | exact evFn (by exact rfl) | exact evIf (by exact rfl) | exact evNil (by exact rfl) | exact evMap (by exact rfl) | exact evNilFn (by exact rfl)) (by exact rfl) ?_; clear hSt; intro w g hSt))
    | ((with_reducible refine is_conv ?_); first
       | (refine st_tostr (by exact rfl) uB uU8 uStr (by exact rfl) (by first | exact hSt.fact 0 rfl | exact hSt.fact 1 rfl | exact hSt.fact 2 rfl | exact hSt.fact 3 rfl | exact hSt.fact 4 rfl | exact hSt.fact 5 rfl | exact hSt.fact 6 rfl | exact hSt.fact 7 rfl | exact hSt.fact 8 rfl | exact hSt.fact 9 rfl | exact hSt.fact 10 rfl | exact hSt.fact 11 rfl) ?_)
       | (refine st_bconst uB uU8 hSt (by exact rfl) (by exact rfl) (by omega) (by simp [maxLen]) ?_; clear hSt; intro w hSt)))
    refine door1 (read_idle _ _ _) (ret2 (by exact rfl) (Res.one tabOk hSt _ (by exact rfl) (by exact rfl) (by first | exact own0 | exact own1 | exact own2 | exact own3 | exact own4 | exact own5 | exact own6 | exact own7 | exact own8 | exact own9) (by exact rfl)) (Res.one tabOk hSt _ (by exact rfl) (by exact rfl) (by first | exact own0 | exact own1 | exact own2 | exact own3 | exact own4 | exact own5 | exact own6 | exact own7 | exact own8 | exact own9) (by exact rfl))) ?_ (by simp [go_sem])
    exact ⟨A2, n2, c2, rfl, ((hSt.fact 0 rfl).mono l2 (hSt.fhi 0 rfl)), hSt.below⟩
end Go.Proofs.Ytddlgdppfeeplaa
