/-
  The contract of erasurelaw32.awake: it returns true.
-/
import Derived.Test.YtddlgdppfeeplaaDiskF
import Derived.Test.YtddlgdppfeeplaaDiskC
import Derived.Test.YtddlgdppfeeplaaSame
set_option linter.unusedVariables false
set_option linter.unusedSimpArgs false
namespace Go.Proofs.Ytddlgdppfeeplaa
open Go Go.RowKit Go.Er
set_option maxRecDepth 100000

theorem append_to {A B C : Option Addr} {ns np nb c d cb lo hi lo' hi' lob hib : Nat} {s p b : List UInt8} {fuel : Int} {down : Bool} {w0 : World} {r : Dk × Int} (he : appendS ⟨s, p, fuel, down⟩ b = r) (hx : SlR w0 lo hi 1 A ns c (u8s s)) (hy : SlR w0 lo' hi' 1 B np d (u8s p)) (hz : SlR w0 lob hib 1 C nb cb (u8s b))
    (i1 : hi ≤ w0.heap.size) (i2 : hi' ≤ w0.heap.size) (i3 : hib ≤ w0.heap.size) (h0 : ns ≤ 2^47) (h0' : np ≤ 2^47) (h0b : nb ≤ 2^47) (hfu : fuel ≤ 9223372036854775807) :
    Calls Try.prog 10 #[.agg #[.slice A ns c, .slice B np d, .int .i64 fuel, .bool down], .slice C nb cb] w0 (DkErr w0 r) :=
  he ▸ append_any A B C ns np nb c d cb lo hi lo' hi' lob hib s p b fuel down w0 hx hy hz i1 i2 i3 h0 h0' h0b hfu
theorem fail_to {A B : Option Addr} {ns np c d lo hi lo' hi' : Nat} {s p : List UInt8} {fuel f : Int} {down : Bool} {w0 : World} {r : Dk × Int} (he : failS ⟨s, p, fuel, down⟩ f = r) (hx : SlR w0 lo hi 1 A ns c (u8s s)) (hy : SlR w0 lo' hi' 1 B np d (u8s p))
    (i1 : hi ≤ w0.heap.size) (i2 : hi' ≤ w0.heap.size) (h0 : ns ≤ 2^47) (h0' : np ≤ 2^47) :
    Calls Try.prog 13 #[.agg #[.slice A ns c, .slice B np d, .int .i64 fuel, .bool down], .int .i64 f] w0 (DkErr w0 r) :=
  he ▸ fail_any A B ns np c d lo hi lo' hi' s p fuel f down w0 hx hy i1 i2 h0 h0'
theorem crash_to {A B : Option Addr} {ns np c d lo hi lo' hi' : Nat} {s p : List UInt8} {fuel f : Int} {down : Bool} {w0 : World} {r : Dk × Int} (he : crashS ⟨s, p, fuel, down⟩ f = r) (hx : SlR w0 lo hi 1 A ns c (u8s s)) (hy : SlR w0 lo' hi' 1 B np d (u8s p))
    (i1 : hi ≤ w0.heap.size) (i2 : hi' ≤ w0.heap.size) (h0 : ns ≤ 2^47) (h0' : np ≤ 2^47) :
    Calls Try.prog 22 #[.agg #[.slice A ns c, .slice B np d, .int .i64 fuel, .bool down], .int .i64 f] w0 (DkErr w0 r) :=
  he ▸ crash_any A B ns np c d lo hi lo' hi' s p fuel f down w0 hx hy i1 i2 h0 h0'
theorem cut_to {A B : Option Addr} {ns np c d lo hi lo' hi' : Nat} {s p : List UInt8} {fuel f : Int} {down : Bool} {w0 : World} {r : Dk × Int} (he : cutS ⟨s, p, fuel, down⟩ f = r) (hx : SlR w0 lo hi 1 A ns c (u8s s)) (hy : SlR w0 lo' hi' 1 B np d (u8s p))
    (i1 : hi ≤ w0.heap.size) (i2 : hi' ≤ w0.heap.size) (h0 : ns ≤ 2^47) (h0' : np ≤ 2^47) :
    Calls Try.prog 24 #[.agg #[.slice A ns c, .slice B np d, .int .i64 fuel, .bool down], .int .i64 f] w0 (DkErr w0 r) :=
  he ▸ cut_any A B ns np c d lo hi lo' hi' s p fuel f down w0 hx hy i1 i2 h0 h0'
theorem sync_to {A B : Option Addr} {ns np c d lo hi lo' hi' : Nat} {s p : List UInt8} {fuel : Int} {down : Bool} {w0 : World} {r : Dk × Int} (he : syncS ⟨s, p, fuel, down⟩ = r) (hx : SlR w0 lo hi 1 A ns c (u8s s)) (hy : SlR w0 lo' hi' 1 B np d (u8s p))
    (i1 : hi ≤ w0.heap.size) (i2 : hi' ≤ w0.heap.size) (h0 : ns ≤ 2^47) (h0' : np ≤ 2^47) :
    Calls Try.prog 23 #[.agg #[.slice A ns c, .slice B np d, .int .i64 fuel, .bool down]] w0 (DkErr w0 r) :=
  he ▸ sync_any A B ns np c d lo hi lo' hi' s p fuel down w0 hx hy i1 i2 h0 h0'
theorem read_to {A B : Option Addr} {ns np c d lo hi lo' hi' : Nat} {s p : List UInt8} {fuel : Int} {down : Bool} {w0 : World} {r : List UInt8 × Int} (he : readS ⟨s, p, fuel, down⟩ = r) (hx : SlR w0 lo hi 1 A ns c (u8s s)) (hy : SlR w0 lo' hi' 1 B np d (u8s p))
    (i1 : hi ≤ w0.heap.size) (i2 : hi' ≤ w0.heap.size) (h0 : ns ≤ 2^47) (h0' : np ≤ 2^47) :
    Calls Try.prog 14 #[.agg #[.slice A ns c, .slice B np d, .int .i64 fuel, .bool down]] w0 (BytesErr w0 r) :=
  he ▸ read_any A B ns np c d lo hi lo' hi' s p fuel down w0 hx hy i1 i2 h0 h0'

set_option maxHeartbeats 2000000 in
theorem awake_any (w0 : World) : Calls Try.prog 9 #[] w0 fun e w' => e = .returned (.bool true) ∧ Below w0.heap.size w0 w' := by
  have hSt := St.init w0
  go_enter Try.func9, Try.ntmps9
  go_wp2_with (first
    | (go_at_call 11; refine (new_any _).mono ?_; rintro e w' ⟨rfl, hb⟩; replace hSt := hSt.call hb; clear hb) | (go_at_call 13; refine (fail_to (s := []) (p := []) (r := (⟨[], [], 2, false⟩, 0)) rfl (SlR.nil _ 0 0 _) (SlR.nil _ 0 0 _) (Nat.zero_le _) (Nat.zero_le _) (by omega) (by omega)).mono ?_)
    | ((with_reducible refine is_load ?_); first
       | (refine st_load1 tabOk hSt _ (by exact rfl) (by exact rfl) (by exact rfl) (by first | exact own0 | exact own1 | exact own2 | exact own3 | exact own4 | exact own5 | exact own6 | exact own7 | exact own8 | exact own9) (by exact rfl) ?_)
       | (refine st_loadW tabOk hSt _ (by exact rfl) (by exact rfl) (by exact rfl) (by first | exact own0 | exact own1 | exact own2 | exact own3 | exact own4 | exact own5 | exact own6 | exact own7 | exact own8 | exact own9) (by first | exact rfl | simp) ?_))
    | ((with_reducible refine is_store ?_); first
       | (refine st_storeW tabOk hSt _ (by exact rfl) (by exact rfl) (by first | exact own0 | exact own1 | exact own2 | exact own3 | exact own4 | exact own5 | exact own6 | exact own7 | exact own8 | exact own9) (by exact rfl) (by first | exact rfl | simp) (by first | exact rfl | simp) (by first | exact rfl | simp) ?_; clear hSt; intro w hSt; simp only [List.set_cons_zero, List.set_cons_succ] at hSt)
       | (refine st_store1 tabOk hSt _ (by exact rfl) (by exact rfl) (by first | exact own0 | exact own1 | exact own2 | exact own3 | exact own4 | exact own5 | exact own6 | exact own7 | exact own8 | exact own9) (by first | exact evInt (by exact rfl) | exact evSlice (by exact rfl) | exact evBool (by exact rfl) | exact evStr (by exact rfl) | exact evPtr (by exact rfl) | exact evFn (by exact rfl) | exact evIf (by exact rfl) | exact evNil (by exact rfl) | exact evMap (by exact rfl) | exact evNilFn (by exact rfl)) (by exact rfl) (by first | simp | omega) (by exact rfl) ?_; clear hSt; intro w hSt; simp only [List.set_cons_zero, List.set_cons_succ] at hSt))
    | ((with_reducible refine is_alloc ?_); (refine st_alloc tabOk hSt (by exact rfl) ?_; clear hSt; intro w g hSt; dsimp only at hSt))
    | ((with_reducible refine is_box ?_); first
       | (refine st_boxA hSt (by exact rfl) ?_; clear hSt; intro w g hSt)
       | (refine st_box1 hSt (by first | exact evInt (by exact rfl) | exact evSlice (by exact rfl) | exact evBool (by exact rfl) | exact evStr (by exact rfl) | exact evPtr (by exact rfl) | exact evFn (by exact rfl) | exact evIf (by exact rfl) | exact evNil (by exact rfl) | exact evMap (by exact rfl) | exact evNilFn (by exact rfl)) (by exact rfl) ?_; clear hSt; intro w g hSt))
    | ((with_reducible refine is_conv ?_); first
       | (refine st_tostr (by exact rfl) uB uU8 uStr (by exact rfl) (by first | exact hSt.fact 0 rfl | exact hSt.fact 1 rfl | exact hSt.fact 2 rfl | exact hSt.fact 3 rfl | exact hSt.fact 4 rfl | exact hSt.fact 5 rfl | exact hSt.fact 6 rfl | exact hSt.fact 7 rfl | exact hSt.fact 8 rfl | exact hSt.fact 9 rfl | exact hSt.fact 10 rfl | exact hSt.fact 11 rfl | exact hSt.fact 12 rfl | exact hSt.fact 13 rfl | exact hSt.fact 14 rfl | exact hSt.fact 15 rfl | exact hSt.fact 16 rfl | exact hSt.fact 17 rfl | exact hSt.fact 18 rfl | exact hSt.fact 19 rfl | exact hSt.fact 20 rfl | exact hSt.fact 21 rfl | exact hSt.fact 22 rfl | exact hSt.fact 23 rfl) ?_)
       | (refine st_bconst uB uU8 hSt (by exact rfl) (by exact rfl) (by omega) (by simp [maxLen]) ?_; clear hSt; intro w hSt)))
  rintro e w' ⟨_, rfl, ⟨A1, B1, n1, m1, c1, d1, rfl, k1, k2⟩, hb⟩
  obtain rfl : 0 = n1 := k1.len8
  obtain rfl : 0 = m1 := k2.len8
  replace hSt := hSt.more2 hb (.sl _ _ 1 A1 _ c1 _) (.sl _ _ 1 B1 _ d1 _) k1 k2 (Nat.le_refl _) (Nat.le_refl _) (Nat.le_refl _) (Nat.le_refl _)
  clear k1 k2 hb
  go_wp2_with (first
    | ((with_reducible refine is_bslice ?_); (refine st_bsliceV tB hSt [_, _, _] [.int _ _, .int _ _, .int _ _] (by omega) (by omega) (by exact rfl) (by exact rfl) (by exact rfl) (by simp [Value.cells]) ?_; clear hSt; intro w g hSt))
    | ((with_reducible refine is_load ?_); first
       | (refine st_load1 tabOk hSt _ (by exact rfl) (by exact rfl) (by exact rfl) (by first | exact own0 | exact own1 | exact own2 | exact own3 | exact own4 | exact own5 | exact own6 | exact own7 | exact own8 | exact own9) (by exact rfl) ?_)
       | (refine st_loadW tabOk hSt _ (by exact rfl) (by exact rfl) (by exact rfl) (by first | exact own0 | exact own1 | exact own2 | exact own3 | exact own4 | exact own5 | exact own6 | exact own7 | exact own8 | exact own9) (by first | exact rfl | simp) ?_))
    | ((with_reducible refine is_store ?_); first
       | (refine st_storeW tabOk hSt _ (by exact rfl) (by exact rfl) (by first | exact own0 | exact own1 | exact own2 | exact own3 | exact own4 | exact own5 | exact own6 | exact own7 | exact own8 | exact own9) (by exact rfl) (by first | exact rfl | simp) (by first | exact rfl | simp) (by first | exact rfl | simp) ?_; clear hSt; intro w hSt; simp only [List.set_cons_zero, List.set_cons_succ] at hSt)
       | (refine st_store1 tabOk hSt _ (by exact rfl) (by exact rfl) (by first | exact own0 | exact own1 | exact own2 | exact own3 | exact own4 | exact own5 | exact own6 | exact own7 | exact own8 | exact own9) (by first | exact evInt (by exact rfl) | exact evSlice (by exact rfl) | exact evBool (by exact rfl) | exact evStr (by exact rfl) | exact evPtr (by exact rfl) | exact evFn (by exact rfl) | exact evIf (by exact rfl) | exact evNil (by exact rfl) | exact evMap (by exact rfl) | exact evNilFn (by exact rfl)) (by exact rfl) (by first | simp | omega) (by exact rfl) ?_; clear hSt; intro w hSt; simp only [List.set_cons_zero, List.set_cons_succ] at hSt))
    | ((with_reducible refine is_alloc ?_); (refine st_alloc tabOk hSt (by exact rfl) ?_; clear hSt; intro w g hSt; dsimp only at hSt))
    | ((with_reducible refine is_box ?_); first
       | (refine st_boxA hSt (by exact rfl) ?_; clear hSt; intro w g hSt)
       | (refine st_box1 hSt (by first | exact evInt (by exact rfl) | exact evSlice (by exact rfl) | exact evBool (by exact rfl) | exact evStr (by exact rfl) | exact evPtr (by exact rfl) | exact evFn (by exact rfl) | exact evIf (by exact rfl) | exact evNil (by exact rfl) | exact evMap (by exact rfl) | exact evNilFn (by exact rfl)) (by exact rfl) ?_; clear hSt; intro w g hSt))
    | ((with_reducible refine is_conv ?_); first
       | (refine st_tostr (by exact rfl) uB uU8 uStr (by exact rfl) (by first | exact hSt.fact 0 rfl | exact hSt.fact 1 rfl | exact hSt.fact 2 rfl | exact hSt.fact 3 rfl | exact hSt.fact 4 rfl | exact hSt.fact 5 rfl | exact hSt.fact 6 rfl | exact hSt.fact 7 rfl | exact hSt.fact 8 rfl | exact hSt.fact 9 rfl | exact hSt.fact 10 rfl | exact hSt.fact 11 rfl | exact hSt.fact 12 rfl | exact hSt.fact 13 rfl | exact hSt.fact 14 rfl | exact hSt.fact 15 rfl | exact hSt.fact 16 rfl | exact hSt.fact 17 rfl | exact hSt.fact 18 rfl | exact hSt.fact 19 rfl | exact hSt.fact 20 rfl | exact hSt.fact 21 rfl | exact hSt.fact 22 rfl | exact hSt.fact 23 rfl) ?_)
       | (refine st_bconst uB uU8 hSt (by exact rfl) (by exact rfl) (by omega) (by simp [maxLen]) ?_; clear hSt; intro w hSt)))
  refine (append_to (b := [97, 98, 99]) (r := (⟨[], [97, 98], 0, true⟩, 104)) rfl (hSt.fact 1 rfl) (hSt.fact 2 rfl) (hSt.fact 0 rfl) (hSt.fhi 1 rfl) (hSt.fhi 2 rfl) (hSt.fhi 0 rfl) (by omega) (by omega) (by omega) (by omega)).mono ?_
  rintro e w' ⟨_, rfl, ⟨A2, B2, n1, m1, c2, d2, rfl, k1, k2⟩, hb⟩
  obtain rfl : 0 = n1 := k1.len8
  obtain rfl : 2 = m1 := k2.len8
  replace hSt := hSt.more2 hb (.sl _ _ 1 A2 _ c2 _) (.sl _ _ 1 B2 _ d2 _) k1 k2 (Nat.le_refl _) (Nat.le_refl _) (Nat.le_refl _) (Nat.le_refl _)
  clear k1 k2 hb
  go_wp2_with (first
    | (go_at_call 22; refine (crash_to (r := (⟨[97], [], -1, false⟩, 0)) rfl (hSt.fact 0 rfl) (hSt.fact 1 rfl) (hSt.fhi 0 rfl) (hSt.fhi 1 rfl) (by omega) (by omega)).mono ?_)
    | ((with_reducible refine is_load ?_); first
       | (refine st_load1 tabOk hSt _ (by exact rfl) (by exact rfl) (by exact rfl) (by first | exact own0 | exact own1 | exact own2 | exact own3 | exact own4 | exact own5 | exact own6 | exact own7 | exact own8 | exact own9) (by exact rfl) ?_)
       | (refine st_loadW tabOk hSt _ (by exact rfl) (by exact rfl) (by exact rfl) (by first | exact own0 | exact own1 | exact own2 | exact own3 | exact own4 | exact own5 | exact own6 | exact own7 | exact own8 | exact own9) (by first | exact rfl | simp) ?_))
    | ((with_reducible refine is_store ?_); first
       | (refine st_storeW tabOk hSt _ (by exact rfl) (by exact rfl) (by first | exact own0 | exact own1 | exact own2 | exact own3 | exact own4 | exact own5 | exact own6 | exact own7 | exact own8 | exact own9) (by exact rfl) (by first | exact rfl | simp) (by first | exact rfl | simp) (by first | exact rfl | simp) ?_; clear hSt; intro w hSt; simp only [List.set_cons_zero, List.set_cons_succ] at hSt)
       | (refine st_store1 tabOk hSt _ (by exact rfl) (by exact rfl) (by first | exact own0 | exact own1 | exact own2 | exact own3 | exact own4 | exact own5 | exact own6 | exact own7 | exact own8 | exact own9) (by first | exact evInt (by exact rfl) | exact evSlice (by exact rfl) | exact evBool (by exact rfl) | exact evStr (by exact rfl) | exact evPtr (by exact rfl) | exact evFn (by exact rfl) | exact evIf (by exact rfl) | exact evNil (by exact rfl) | exact evMap (by exact rfl) | exact evNilFn (by exact rfl)) (by exact rfl) (by first | simp | omega) (by exact rfl) ?_; clear hSt; intro w hSt; simp only [List.set_cons_zero, List.set_cons_succ] at hSt))
    | ((with_reducible refine is_alloc ?_); (refine st_alloc tabOk hSt (by exact rfl) ?_; clear hSt; intro w g hSt; dsimp only at hSt))
    | ((with_reducible refine is_box ?_); first
       | (refine st_boxA hSt (by exact rfl) ?_; clear hSt; intro w g hSt)
       | (refine st_box1 hSt (by first | exact evInt (by exact rfl) | exact evSlice (by exact rfl) | exact evBool (by exact rfl) | exact evStr (by exact rfl) | exact evPtr (by exact rfl) | exact evFn (by exact rfl) | exact evIf (by exact rfl) | exact evNil (by exact rfl) | exact evMap (by exact rfl) | exact evNilFn (by exact rfl)) (by exact rfl) ?_; clear hSt; intro w g hSt))
    | ((with_reducible refine is_conv ?_); first
       | (refine st_tostr (by exact rfl) uB uU8 uStr (by exact rfl) (by first | exact hSt.fact 0 rfl | exact hSt.fact 1 rfl | exact hSt.fact 2 rfl | exact hSt.fact 3 rfl | exact hSt.fact 4 rfl | exact hSt.fact 5 rfl | exact hSt.fact 6 rfl | exact hSt.fact 7 rfl | exact hSt.fact 8 rfl | exact hSt.fact 9 rfl | exact hSt.fact 10 rfl | exact hSt.fact 11 rfl | exact hSt.fact 12 rfl | exact hSt.fact 13 rfl | exact hSt.fact 14 rfl | exact hSt.fact 15 rfl | exact hSt.fact 16 rfl | exact hSt.fact 17 rfl | exact hSt.fact 18 rfl | exact hSt.fact 19 rfl | exact hSt.fact 20 rfl | exact hSt.fact 21 rfl | exact hSt.fact 22 rfl | exact hSt.fact 23 rfl) ?_)
       | (refine st_bconst uB uU8 hSt (by exact rfl) (by exact rfl) (by omega) (by simp [maxLen]) ?_; clear hSt; intro w hSt)))
  rintro e w' ⟨_, rfl, ⟨A3, B3, n1, m1, c3, d3, rfl, k1, k2⟩, hb⟩
  obtain rfl : 1 = n1 := k1.len8
  obtain rfl : 0 = m1 := k2.len8
  replace hSt := hSt.more2 hb (.sl _ _ 1 A3 _ c3 _) (.sl _ _ 1 B3 _ d3 _) k1 k2 (Nat.le_refl _) (Nat.le_refl _) (Nat.le_refl _) (Nat.le_refl _)
  clear k1 k2 hb
  go_wp2_with (first
    | (go_at_call 14; refine (read_to (r := ([97], 0)) rfl (hSt.fact 0 rfl) (hSt.fact 1 rfl) (hSt.fhi 0 rfl) (hSt.fhi 1 rfl) (by omega) (by omega)).mono ?_)
    | ((with_reducible refine is_load ?_); first
       | (refine st_load1 tabOk hSt _ (by exact rfl) (by exact rfl) (by exact rfl) (by first | exact own0 | exact own1 | exact own2 | exact own3 | exact own4 | exact own5 | exact own6 | exact own7 | exact own8 | exact own9) (by exact rfl) ?_)
       | (refine st_loadW tabOk hSt _ (by exact rfl) (by exact rfl) (by exact rfl) (by first | exact own0 | exact own1 | exact own2 | exact own3 | exact own4 | exact own5 | exact own6 | exact own7 | exact own8 | exact own9) (by first | exact rfl | simp) ?_))
    | ((with_reducible refine is_store ?_); first
       | (refine st_storeW tabOk hSt _ (by exact rfl) (by exact rfl) (by first | exact own0 | exact own1 | exact own2 | exact own3 | exact own4 | exact own5 | exact own6 | exact own7 | exact own8 | exact own9) (by exact rfl) (by first | exact rfl | simp) (by first | exact rfl | simp) (by first | exact rfl | simp) ?_; clear hSt; intro w hSt; simp only [List.set_cons_zero, List.set_cons_succ] at hSt)
       | (refine st_store1 tabOk hSt _ (by exact rfl) (by exact rfl) (by first | exact own0 | exact own1 | exact own2 | exact own3 | exact own4 | exact own5 | exact own6 | exact own7 | exact own8 | exact own9) (by first | exact evInt (by exact rfl) | exact evSlice (by exact rfl) | exact evBool (by exact rfl) | exact evStr (by exact rfl) | exact evPtr (by exact rfl) | exact evFn (by exact rfl) | exact evIf (by exact rfl) | exact evNil (by exact rfl) | exact evMap (by exact rfl) | exact evNilFn (by exact rfl)) (by exact rfl) (by first | simp | omega) (by exact rfl) ?_; clear hSt; intro w hSt; simp only [List.set_cons_zero, List.set_cons_succ] at hSt))
    | ((with_reducible refine is_alloc ?_); (refine st_alloc tabOk hSt (by exact rfl) ?_; clear hSt; intro w g hSt; dsimp only at hSt))
    | ((with_reducible refine is_box ?_); first
       | (refine st_boxA hSt (by exact rfl) ?_; clear hSt; intro w g hSt)
       | (refine st_box1 hSt (by first | exact evInt (by exact rfl) | exact evSlice (by exact rfl) | exact evBool (by exact rfl) | exact evStr (by exact rfl) | exact evPtr (by exact rfl) | exact evFn (by exact rfl) | exact evIf (by exact rfl) | exact evNil (by exact rfl) | exact evMap (by exact rfl) | exact evNilFn (by exact rfl)) (by exact rfl) ?_; clear hSt; intro w g hSt))
    | ((with_reducible refine is_conv ?_); first
       | (refine st_tostr (by exact rfl) uB uU8 uStr (by exact rfl) (by first | exact hSt.fact 0 rfl | exact hSt.fact 1 rfl | exact hSt.fact 2 rfl | exact hSt.fact 3 rfl | exact hSt.fact 4 rfl | exact hSt.fact 5 rfl | exact hSt.fact 6 rfl | exact hSt.fact 7 rfl | exact hSt.fact 8 rfl | exact hSt.fact 9 rfl | exact hSt.fact 10 rfl | exact hSt.fact 11 rfl | exact hSt.fact 12 rfl | exact hSt.fact 13 rfl | exact hSt.fact 14 rfl | exact hSt.fact 15 rfl | exact hSt.fact 16 rfl | exact hSt.fact 17 rfl | exact hSt.fact 18 rfl | exact hSt.fact 19 rfl | exact hSt.fact 20 rfl | exact hSt.fact 21 rfl | exact hSt.fact 22 rfl | exact hSt.fact 23 rfl) ?_)
       | (refine st_bconst uB uU8 hSt (by exact rfl) (by exact rfl) (by omega) (by simp [maxLen]) ?_; clear hSt; intro w hSt)))
  rintro e w' ⟨A4, n1, c4, rfl, k1, hb⟩
  obtain rfl : 1 = n1 := k1.len8
  replace hSt := hSt.more hb (.sl _ _ 1 A4 _ c4 _) k1 (Nat.le_refl _) (Nat.le_refl _)
  clear k1 hb
  go_wp2_with (first
    | fail
    | ((with_reducible refine is_load ?_); first
       | (refine st_load1 tabOk hSt _ (by exact rfl) (by exact rfl) (by exact rfl) (by first | exact own0 | exact own1 | exact own2 | exact own3 | exact own4 | exact own5 | exact own6 | exact own7 | exact own8 | exact own9) (by exact rfl) ?_)
       | (refine st_loadW tabOk hSt _ (by exact rfl) (by exact rfl) (by exact rfl) (by first | exact own0 | exact own1 | exact own2 | exact own3 | exact own4 | exact own5 | exact own6 | exact own7 | exact own8 | exact own9) (by first | exact rfl | simp) ?_))
    | ((with_reducible refine is_store ?_); first
       | (refine st_storeW tabOk hSt _ (by exact rfl) (by exact rfl) (by first | exact own0 | exact own1 | exact own2 | exact own3 | exact own4 | exact own5 | exact own6 | exact own7 | exact own8 | exact own9) (by exact rfl) (by first | exact rfl | simp) (by first | exact rfl | simp) (by first | exact rfl | simp) ?_; clear hSt; intro w hSt; simp only [List.set_cons_zero, List.set_cons_succ] at hSt)
       | (refine st_store1 tabOk hSt _ (by exact rfl) (by exact rfl) (by first | exact own0 | exact own1 | exact own2 | exact own3 | exact own4 | exact own5 | exact own6 | exact own7 | exact own8 | exact own9) (by first | exact evInt (by exact rfl) | exact evSlice (by exact rfl) | exact evBool (by exact rfl) | exact evStr (by exact rfl) | exact evPtr (by exact rfl) | exact evFn (by exact rfl) | exact evIf (by exact rfl) | exact evNil (by exact rfl) | exact evMap (by exact rfl) | exact evNilFn (by exact rfl)) (by exact rfl) (by first | simp | omega) (by exact rfl) ?_; clear hSt; intro w hSt; simp only [List.set_cons_zero, List.set_cons_succ] at hSt))
    | ((with_reducible refine is_alloc ?_); (refine st_alloc tabOk hSt (by exact rfl) ?_; clear hSt; intro w g hSt; dsimp only at hSt))
    | ((with_reducible refine is_box ?_); first
       | (refine st_boxA hSt (by exact rfl) ?_; clear hSt; intro w g hSt)
       | (refine st_box1 hSt (by first | exact evInt (by exact rfl) | exact evSlice (by exact rfl) | exact evBool (by exact rfl) | exact evStr (by exact rfl) | exact evPtr (by exact rfl) | exact evFn (by exact rfl) | exact evIf (by exact rfl) | exact evNil (by exact rfl) | exact evMap (by exact rfl) | exact evNilFn (by exact rfl)) (by exact rfl) ?_; clear hSt; intro w g hSt))
    | ((with_reducible refine is_conv ?_); first
       | (refine st_tostr (by exact rfl) uB uU8 uStr (by exact rfl) (by first | exact hSt.fact 0 rfl | exact hSt.fact 1 rfl | exact hSt.fact 2 rfl | exact hSt.fact 3 rfl | exact hSt.fact 4 rfl | exact hSt.fact 5 rfl | exact hSt.fact 6 rfl | exact hSt.fact 7 rfl | exact hSt.fact 8 rfl | exact hSt.fact 9 rfl | exact hSt.fact 10 rfl | exact hSt.fact 11 rfl | exact hSt.fact 12 rfl | exact hSt.fact 13 rfl | exact hSt.fact 14 rfl | exact hSt.fact 15 rfl | exact hSt.fact 16 rfl | exact hSt.fact 17 rfl | exact hSt.fact 18 rfl | exact hSt.fact 19 rfl | exact hSt.fact 20 rfl | exact hSt.fact 21 rfl | exact hSt.fact 22 rfl | exact hSt.fact 23 rfl) ?_)
       | (refine st_bconst uB uU8 hSt (by exact rfl) (by exact rfl) (by omega) (by simp [maxLen]) ?_; clear hSt; intro w hSt)))
  go_ret
  exact ⟨rfl, hSt.below⟩
end Go.Proofs.Ytddlgdppfeeplaa
