/-
  The contracts of disk.Append, Fail, Sync, Crash, Cut and Read.
-/
import Derived.Test.YtddlgdppfeeplaaClone
set_option linter.unusedVariables false
set_option linter.unusedSimpArgs false
namespace Go.Proofs.Ytddlgdppfeeplaa
open Go Go.RowKit Go.Er
set_option maxRecDepth 100000

def zeroDk : Dk := ⟨[], [], 0, false⟩

theorem zeroNew (w w' : World) : NewDk w zeroDk (.agg #[.slice none 0 0, .slice none 0 0, .int .i64 0, .bool false]) w' :=
  ⟨none, none, 0, 0, 0, 0, rfl, SlR.nil _ _ _ _, SlR.nil _ _ _ _⟩

def BytesErr (w : World) (r : List UInt8 × Int) (e : Ending) (w' : World) : Prop :=
  ∃ C n k, e = .returned (.tuple #[.slice C n k, .int .i64 r.2]) ∧ SlR w' w.heap.size w'.heap.size 1 C n k (u8s r.1) ∧ Below w.heap.size w w'

theorem validB_no {s p : List UInt8} {fuel : Int} {down : Bool} (h : validB ⟨s, p, fuel, down⟩ = false) : ¬ (s.length + p.length ≤ 131072 ∧ -1 ≤ fuel) := by
  simp only [validB, Bool.and_eq_false_iff, decide_eq_false_iff_not] at h
  omega
theorem validB_of {s p : List UInt8} {fuel : Int} {down : Bool} (h1 : s.length + p.length ≤ 131072) (h2 : -1 ≤ fuel) : validB ⟨s, p, fuel, down⟩ = true := by
  simp only [validB, Bool.and_eq_true, decide_eq_true_eq]
  exact ⟨h1, h2⟩
theorem validB_yes {s p : List UInt8} {fuel : Int} {down : Bool} (h : validB ⟨s, p, fuel, down⟩ = true) : s.length + p.length ≤ 131072 ∧ -1 ≤ fuel := by
  simp only [validB, Bool.and_eq_true, decide_eq_true_eq] at h
  exact h

def appendS (k : Dk) (b : List UInt8) : Dk × Int :=
  if validB k = true then
    if k.down = true then (k, 104)
    else if 131072 - k.s.length - k.p.length < b.length then (zeroDk, 8)
    else if k.fuel ≠ -1 ∧ k.fuel < b.length then (⟨k.s, k.p ++ b.take k.fuel.toNat, 0, true⟩, 104)
    else (⟨k.s, k.p ++ b, if k.fuel = -1 then -1 else k.fuel - b.length, false⟩, 0)
  else (zeroDk, 1)

set_option maxHeartbeats 1000000 in
theorem append_any (A B C : Option Addr) (ns np nb c d cb lo hi lo' hi' lob hib : Nat) (s p b : List UInt8) (fuel : Int) (down : Bool) (w0 : World) (hx : SlR w0 lo hi 1 A ns c (u8s s)) (hy : SlR w0 lo' hi' 1 B np d (u8s p)) (hz : SlR w0 lob hib 1 C nb cb (u8s b))
    (i1 : hi ≤ w0.heap.size) (i2 : hi' ≤ w0.heap.size) (i3 : hib ≤ w0.heap.size) (h0 : ns ≤ 2^47) (h0' : np ≤ 2^47) (h0b : nb ≤ 2^47) (hfu : fuel ≤ 9223372036854775807) :
    Calls Try.prog 10 #[.agg #[.slice A ns c, .slice B np d, .int .i64 fuel, .bool down], .slice C nb cb] w0 (DkErr w0 (appendS ⟨s, p, fuel, down⟩ b)) := by
  obtain rfl := hx.len8
  obtain rfl := hy.len8
  obtain rfl := hz.len8
  have hSt := (((St.init w0).arg (.sl _ _ 1 C _ cb _) hz i3).arg (.sl _ _ 1 B _ d _) hy i2).arg (.sl _ _ 1 A _ c _) hx i1
  have hcb := hz.1
  clear hx hy hz
  have hmf : ∀ (fn : Fn) (first cap : Array Value) (w : World), (Instr.makeFunc fn first cap).run Try.prog w = .ok (.func fn first cap) w := fun _ _ _ _ => rfl
  cases hv : validB ⟨s, p, fuel, down⟩ with
  | false =>
    have hR : appendS ⟨s, p, fuel, down⟩ b = (zeroDk, 1) := by simp [appendS, hv]
    rw [hR]
    replace hv := validB_no hv
    clear hR
    go_enter_defers Try.func10, Try.ntmps10
    go_wp2_with (first
    | (go_at_call 20; refine (valid_no _ _ _ _ _ _ _ _ _ h0 h0' hv).mono ?_; rintro e w' ⟨rfl, hb⟩; replace hSt := hSt.call hb; clear hb)
    | ((with_reducible refine is_load ?_); first
       | (refine st_load1 tabOk hSt _ (by exact rfl) (by exact rfl) (by exact rfl) (by first | exact own0 | exact own1 | exact own2 | exact own3 | exact own4 | exact own5 | exact own6 | exact own7 | exact own8 | exact own9) (by exact rfl) ?_)
       | (refine st_loadW tabOk hSt _ (by exact rfl) (by exact rfl) (by exact rfl) (by first | exact own0 | exact own1 | exact own2 | exact own3 | exact own4 | exact own5 | exact own6 | exact own7 | exact own8 | exact own9) (by first | exact rfl | simp) ?_))
    | ((with_reducible refine is_store ?_); first
       | (refine st_storeW tabOk hSt _ (by exact rfl) (by exact rfl) (by first | exact own0 | exact own1 | exact own2 | exact own3 | exact own4 | exact own5 | exact own6 | exact own7 | exact own8 | exact own9) (by exact rfl) (by first | exact rfl | simp) (by first | exact rfl | simp) (by first | exact rfl | simp) ?_; clear hSt; intro w hSt; simp only [List.set_cons_zero, List.set_cons_succ] at hSt)
       | (refine st_store1 tabOk hSt _ (by exact rfl) (by exact rfl) (by first | exact own0 | exact own1 | exact own2 | exact own3 | exact own4 | exact own5 | exact own6 | exact own7 | exact own8 | exact own9) (by first | exact evInt (by exact rfl) | exact evSlice (by exact rfl) | exact evBool (by exact rfl) | exact evStr (by exact rfl) | exact evPtr (by exact rfl) | exact evFn (by exact rfl) | exact evIf (by exact rfl) | exact evNil (by exact rfl) | exact evMap (by exact rfl) | exact evNilFn (by exact rfl)) (by exact rfl) (by first | simp | omega) (by exact rfl) ?_; clear hSt; intro w hSt; simp only [List.set_cons_zero, List.set_cons_succ] at hSt))
    | ((with_reducible refine is_alloc ?_); (refine st_alloc tabOk hSt (by exact rfl) ?_; clear hSt; intro w g hSt; dsimp only at hSt))
    | ((with_reducible refine is_box ?_); first
       | (refine st_boxA hSt (by exact rfl) ?_; clear hSt; intro w g hSt)
       | (refine st_box1 hSt (by first | exact evInt (by exact rfl) | exact evSlice (by exact rfl) | exact evBool (by exact rfl) | exact evStr (by exact rfl) | exact evPtr (by exact rfl) | exact evFn (by exact rfl) | exact evIf (by exact rfl) | exact evNil (by exact rfl) | exact evMap (by exact rfl) | exact evNilFn (by exact rfl)) (by exact rfl) ?_; clear hSt; intro w g hSt))
    | ((with_reducible refine is_conv ?_); first
       | (refine st_tostr (by exact rfl) uB uU8 uStr (by exact rfl) (by first | exact hSt.fact 0 rfl | exact hSt.fact 1 rfl | exact hSt.fact 2 rfl | exact hSt.fact 3 rfl | exact hSt.fact 4 rfl | exact hSt.fact 5 rfl | exact hSt.fact 6 rfl | exact hSt.fact 7 rfl | exact hSt.fact 8 rfl | exact hSt.fact 9 rfl | exact hSt.fact 10 rfl | exact hSt.fact 11 rfl) ?_)
       | (refine st_bconst uB uU8 hSt (by exact rfl) (by exact rfl) (by omega) (by simp [maxLen]) ?_; clear hSt; intro w hSt)))
    refine door1 (append_idle _ _ _) (ret2 (by exact rfl) (Res.agg tabOk hSt _ (by exact rfl) (by exact rfl) (by first | exact own0 | exact own1 | exact own2 | exact own3 | exact own4 | exact own5 | exact own6 | exact own7 | exact own8 | exact own9) (by exact rfl)) (Res.one tabOk hSt _ (by exact rfl) (by exact rfl) (by first | exact own0 | exact own1 | exact own2 | exact own3 | exact own4 | exact own5 | exact own6 | exact own7 | exact own8 | exact own9) (by exact rfl))) ?_ (by simp [go_sem])
    exact ⟨_, rfl, zeroNew _ _, hSt.below⟩
  | true =>
  obtain ⟨h1, h2⟩ := validB_yes hv
  have HV := Lib.hid hv
  clear hv
  cases down with
  | true =>
    have hR : appendS ⟨s, p, fuel, true⟩ b = (⟨s, p, fuel, true⟩, 104) := by simp [appendS, HV.out]
    rw [hR]
    clear hR
    go_enter_defers Try.func10, Try.ntmps10
    go_wp2_with (first
    | (go_at_call 20; refine (valid_yes _ _ _ _ _ _ _ _ _ h1 h2).mono ?_; rintro e w' ⟨rfl, hb⟩; replace hSt := hSt.call hb; clear hb) | (go_at_call 26; refine (clone_any _ _ _ _ _ _ _ _ _ _ s p _ _ _ (hSt.fact 0 rfl) (hSt.fact 1 rfl) (hSt.fhi 0 rfl) (hSt.fhi 1 rfl) (by omega)).mono ?_; rintro e w' ⟨_, rfl, ⟨A1, B1, n1, m1, c1, d1, rfl, k1, k2⟩, hb⟩; have l1 := hSt.size; replace hSt := hSt.more2 hb (.sl _ _ 1 A1 _ c1 _) (.sl _ _ 1 B1 _ d1 _) k1 k2 (Nat.le_refl _) (Nat.le_refl _) (Nat.le_refl _) (Nat.le_refl _); clear k1 k2 hb)
    | ((with_reducible refine is_load ?_); first
       | (refine st_load1 tabOk hSt _ (by exact rfl) (by exact rfl) (by exact rfl) (by first | exact own0 | exact own1 | exact own2 | exact own3 | exact own4 | exact own5 | exact own6 | exact own7 | exact own8 | exact own9) (by exact rfl) ?_)
       | (refine st_loadW tabOk hSt _ (by exact rfl) (by exact rfl) (by exact rfl) (by first | exact own0 | exact own1 | exact own2 | exact own3 | exact own4 | exact own5 | exact own6 | exact own7 | exact own8 | exact own9) (by first | exact rfl | simp) ?_))
    | ((with_reducible refine is_store ?_); first
       | (refine st_storeW tabOk hSt _ (by exact rfl) (by exact rfl) (by first | exact own0 | exact own1 | exact own2 | exact own3 | exact own4 | exact own5 | exact own6 | exact own7 | exact own8 | exact own9) (by exact rfl) (by first | exact rfl | simp) (by first | exact rfl | simp) (by first | exact rfl | simp) ?_; clear hSt; intro w hSt; simp only [List.set_cons_zero, List.set_cons_succ] at hSt)
       | (refine st_store1 tabOk hSt _ (by exact rfl) (by exact rfl) (by first | exact own0 | exact own1 | exact own2 | exact own3 | exact own4 | exact own5 | exact own6 | exact own7 | exact own8 | exact own9) (by first | exact evInt (by exact rfl) | exact evSlice (by exact rfl) | exact evBool (by exact rfl) | exact evStr (by exact rfl) | exact evPtr (by exact rfl) | exact evFn (by exact rfl) | exact evIf (by exact rfl) | exact evNil (by exact rfl) | exact evMap (by exact rfl) | exact evNilFn (by exact rfl)) (by exact rfl) (by first | simp | omega) (by exact rfl) ?_; clear hSt; intro w hSt; simp only [List.set_cons_zero, List.set_cons_succ] at hSt))
    | ((with_reducible refine is_alloc ?_); (refine st_alloc tabOk hSt (by exact rfl) ?_; clear hSt; intro w g hSt; dsimp only at hSt))
    | ((with_reducible refine is_box ?_); first
       | (refine st_boxA hSt (by exact rfl) ?_; clear hSt; intro w g hSt)
       | (refine st_box1 hSt (by first | exact evInt (by exact rfl) | exact evSlice (by exact rfl) | exact evBool (by exact rfl) | exact evStr (by exact rfl) | exact evPtr (by exact rfl) | exact evFn (by exact rfl) | exact evIf (by exact rfl) | exact evNil (by exact rfl) | exact evMap (by exact rfl) | exact evNilFn (by exact rfl)) (by exact rfl) ?_; clear hSt; intro w g hSt))
    | ((with_reducible refine is_conv ?_); first
       | (refine st_tostr (by exact rfl) uB uU8 uStr (by exact rfl) (by first | exact hSt.fact 0 rfl | exact hSt.fact 1 rfl | exact hSt.fact 2 rfl | exact hSt.fact 3 rfl | exact hSt.fact 4 rfl | exact hSt.fact 5 rfl | exact hSt.fact 6 rfl | exact hSt.fact 7 rfl | exact hSt.fact 8 rfl | exact hSt.fact 9 rfl | exact hSt.fact 10 rfl | exact hSt.fact 11 rfl) ?_)
       | (refine st_bconst uB uU8 hSt (by exact rfl) (by exact rfl) (by omega) (by simp [maxLen]) ?_; clear hSt; intro w hSt)))
    refine door1 (append_idle _ _ _) (ret2 (by exact rfl) (Res.agg tabOk hSt _ (by exact rfl) (by exact rfl) (by first | exact own0 | exact own1 | exact own2 | exact own3 | exact own4 | exact own5 | exact own6 | exact own7 | exact own8 | exact own9) (by exact rfl)) (Res.one tabOk hSt _ (by exact rfl) (by exact rfl) (by first | exact own0 | exact own1 | exact own2 | exact own3 | exact own4 | exact own5 | exact own6 | exact own7 | exact own8 | exact own9) (by exact rfl))) ?_ (by simp [go_sem])
    exact ⟨_, rfl, ⟨A1, B1, n1, m1, c1, d1, rfl, ((hSt.fact 0 rfl).mono l1 (hSt.fhi 0 rfl)), ((hSt.fact 1 rfl).mono l1 (hSt.fhi 1 rfl))⟩, hSt.below⟩
  | false =>
  by_cases hf : 131072 - s.length - p.length < b.length
  · have hR : appendS ⟨s, p, fuel, false⟩ b = (zeroDk, 8) := by simp [appendS, HV.out, hf]
    rw [hR]
    clear hR
    have hf' : (131072 : Int) - s.length - p.length < b.length := by omega
    go_enter_defers Try.func10, Try.ntmps10
    go_wp2_with (first
    | (go_at_call 20; refine (valid_yes _ _ _ _ _ _ _ _ _ h1 h2).mono ?_; rintro e w' ⟨rfl, hb⟩; replace hSt := hSt.call hb; clear hb)
    | ((with_reducible refine is_load ?_); first
       | (refine st_load1 tabOk hSt _ (by exact rfl) (by exact rfl) (by exact rfl) (by first | exact own0 | exact own1 | exact own2 | exact own3 | exact own4 | exact own5 | exact own6 | exact own7 | exact own8 | exact own9) (by exact rfl) ?_)
       | (refine st_loadW tabOk hSt _ (by exact rfl) (by exact rfl) (by exact rfl) (by first | exact own0 | exact own1 | exact own2 | exact own3 | exact own4 | exact own5 | exact own6 | exact own7 | exact own8 | exact own9) (by first | exact rfl | simp) ?_))
    | ((with_reducible refine is_store ?_); first
       | (refine st_storeW tabOk hSt _ (by exact rfl) (by exact rfl) (by first | exact own0 | exact own1 | exact own2 | exact own3 | exact own4 | exact own5 | exact own6 | exact own7 | exact own8 | exact own9) (by exact rfl) (by first | exact rfl | simp) (by first | exact rfl | simp) (by first | exact rfl | simp) ?_; clear hSt; intro w hSt; simp only [List.set_cons_zero, List.set_cons_succ] at hSt)
       | (refine st_store1 tabOk hSt _ (by exact rfl) (by exact rfl) (by first | exact own0 | exact own1 | exact own2 | exact own3 | exact own4 | exact own5 | exact own6 | exact own7 | exact own8 | exact own9) (by first | exact evInt (by exact rfl) | exact evSlice (by exact rfl) | exact evBool (by exact rfl) | exact evStr (by exact rfl) | exact evPtr (by exact rfl) | exact evFn (by exact rfl) | exact evIf (by exact rfl) | exact evNil (by exact rfl) | exact evMap (by exact rfl) | exact evNilFn (by exact rfl)) (by exact rfl) (by first | simp | omega) (by exact rfl) ?_; clear hSt; intro w hSt; simp only [List.set_cons_zero, List.set_cons_succ] at hSt))
    | ((with_reducible refine is_alloc ?_); (refine st_alloc tabOk hSt (by exact rfl) ?_; clear hSt; intro w g hSt; dsimp only at hSt))
    | ((with_reducible refine is_box ?_); first
       | (refine st_boxA hSt (by exact rfl) ?_; clear hSt; intro w g hSt)
       | (refine st_box1 hSt (by first | exact evInt (by exact rfl) | exact evSlice (by exact rfl) | exact evBool (by exact rfl) | exact evStr (by exact rfl) | exact evPtr (by exact rfl) | exact evFn (by exact rfl) | exact evIf (by exact rfl) | exact evNil (by exact rfl) | exact evMap (by exact rfl) | exact evNilFn (by exact rfl)) (by exact rfl) ?_; clear hSt; intro w g hSt))
    | ((with_reducible refine is_conv ?_); first
       | (refine st_tostr (by exact rfl) uB uU8 uStr (by exact rfl) (by first | exact hSt.fact 0 rfl | exact hSt.fact 1 rfl | exact hSt.fact 2 rfl | exact hSt.fact 3 rfl | exact hSt.fact 4 rfl | exact hSt.fact 5 rfl | exact hSt.fact 6 rfl | exact hSt.fact 7 rfl | exact hSt.fact 8 rfl | exact hSt.fact 9 rfl | exact hSt.fact 10 rfl | exact hSt.fact 11 rfl) ?_)
       | (refine st_bconst uB uU8 hSt (by exact rfl) (by exact rfl) (by omega) (by simp [maxLen]) ?_; clear hSt; intro w hSt)))
    refine door1 (append_idle _ _ _) (ret2 (by exact rfl) (Res.agg tabOk hSt _ (by exact rfl) (by exact rfl) (by first | exact own0 | exact own1 | exact own2 | exact own3 | exact own4 | exact own5 | exact own6 | exact own7 | exact own8 | exact own9) (by exact rfl)) (Res.one tabOk hSt _ (by exact rfl) (by exact rfl) (by first | exact own0 | exact own1 | exact own2 | exact own3 | exact own4 | exact own5 | exact own6 | exact own7 | exact own8 | exact own9) (by exact rfl))) ?_ (by simp [go_sem])
    exact ⟨_, rfl, zeroNew _ _, hSt.below⟩
  have hf' : ¬ (131072 : Int) - s.length - p.length < b.length := by omega
  have hbl : b.length ≤ 131072 := by omega
  by_cases hp : fuel ≠ -1 ∧ fuel < b.length
  · have hR : appendS ⟨s, p, fuel, false⟩ b = (⟨s, p ++ b.take fuel.toNat, 0, true⟩, 104) := by simp [appendS, HV.out, hf, hp]
    rw [hR]
    obtain ⟨n, rfl⟩ : ∃ n : Nat, fuel = n := ⟨fuel.toNat, by omega⟩
    rw [Int.toNat_natCast]
    have hn : n < b.length := by omega
    have hne : ((n : Int) != -1) = true := by rw [bne_iff_ne]; omega
    clear hR hf hp
    have hncb : (n : Int) ≤ (cb : Int) := by omega
    have hncb' : n ≤ cb := by omega
    go_enter_defers Try.func10, Try.ntmps10
    go_wp2_with (first
    | (go_at_call 20; refine (valid_yes _ _ _ _ _ _ _ _ _ h1 h2).mono ?_; rintro e w' ⟨rfl, hb⟩; replace hSt := hSt.call hb; clear hb) | (go_at_call 26; refine (clone_any _ _ _ _ _ _ _ _ _ _ s p _ _ _ (hSt.fact 0 rfl) (hSt.fact 1 rfl) (hSt.fhi 0 rfl) (hSt.fhi 1 rfl) (by omega)).mono ?_; rintro e w' ⟨_, rfl, ⟨A1, B1, n1, m1, c1, d1, rfl, k1, k2⟩, hb⟩; have l1 := hSt.size; replace hSt := hSt.more2 hb (.sl _ _ 1 A1 _ c1 _) (.sl _ _ 1 B1 _ d1 _) k1 k2 (Nat.le_refl _) (Nat.le_refl _) (Nat.le_refl _) (Nat.le_refl _); clear k1 k2 hb)
    | ((with_reducible refine is_load ?_); first
       | (refine st_load1 tabOk hSt _ (by exact rfl) (by exact rfl) (by exact rfl) (by first | exact own0 | exact own1 | exact own2 | exact own3 | exact own4 | exact own5 | exact own6 | exact own7 | exact own8 | exact own9) (by exact rfl) ?_)
       | (refine st_loadW tabOk hSt _ (by exact rfl) (by exact rfl) (by exact rfl) (by first | exact own0 | exact own1 | exact own2 | exact own3 | exact own4 | exact own5 | exact own6 | exact own7 | exact own8 | exact own9) (by first | exact rfl | simp) ?_))
    | ((with_reducible refine is_store ?_); first
       | (refine st_storeW tabOk hSt _ (by exact rfl) (by exact rfl) (by first | exact own0 | exact own1 | exact own2 | exact own3 | exact own4 | exact own5 | exact own6 | exact own7 | exact own8 | exact own9) (by exact rfl) (by first | exact rfl | simp) (by first | exact rfl | simp) (by first | exact rfl | simp) ?_; clear hSt; intro w hSt; simp only [List.set_cons_zero, List.set_cons_succ] at hSt)
       | (refine st_store1 tabOk hSt _ (by exact rfl) (by exact rfl) (by first | exact own0 | exact own1 | exact own2 | exact own3 | exact own4 | exact own5 | exact own6 | exact own7 | exact own8 | exact own9) (by first | exact evInt (by exact rfl) | exact evSlice (by exact rfl) | exact evBool (by exact rfl) | exact evStr (by exact rfl) | exact evPtr (by exact rfl) | exact evFn (by exact rfl) | exact evIf (by exact rfl) | exact evNil (by exact rfl) | exact evMap (by exact rfl) | exact evNilFn (by exact rfl)) (by exact rfl) (by first | simp | omega) (by exact rfl) ?_; clear hSt; intro w hSt; simp only [List.set_cons_zero, List.set_cons_succ] at hSt))
    | ((with_reducible refine is_alloc ?_); (refine st_alloc tabOk hSt (by exact rfl) ?_; clear hSt; intro w g hSt; dsimp only at hSt))
    | ((with_reducible refine is_box ?_); first
       | (refine st_boxA hSt (by exact rfl) ?_; clear hSt; intro w g hSt)
       | (refine st_box1 hSt (by first | exact evInt (by exact rfl) | exact evSlice (by exact rfl) | exact evBool (by exact rfl) | exact evStr (by exact rfl) | exact evPtr (by exact rfl) | exact evFn (by exact rfl) | exact evIf (by exact rfl) | exact evNil (by exact rfl) | exact evMap (by exact rfl) | exact evNilFn (by exact rfl)) (by exact rfl) ?_; clear hSt; intro w g hSt))
    | ((with_reducible refine is_conv ?_); first
       | (refine st_tostr (by exact rfl) uB uU8 uStr (by exact rfl) (by first | exact hSt.fact 0 rfl | exact hSt.fact 1 rfl | exact hSt.fact 2 rfl | exact hSt.fact 3 rfl | exact hSt.fact 4 rfl | exact hSt.fact 5 rfl | exact hSt.fact 6 rfl | exact hSt.fact 7 rfl | exact hSt.fact 8 rfl | exact hSt.fact 9 rfl | exact hSt.fact 10 rfl | exact hSt.fact 11 rfl) ?_)
       | (refine st_bconst uB uU8 hSt (by exact rfl) (by exact rfl) (by omega) (by simp [maxLen]) ?_; clear hSt; intro w hSt)))
    (refine st_tail 6 (by kernel_rfl) (by kernel_rfl) hSt ?_; clear hSt; intro w hSt; simp only [List.take_succ_cons, List.take_zero, List.drop_succ_cons, List.drop_zero]; (repeat (first | ((with_reducible refine isl_load ?_); first | (refine stl_load1 tabOk hSt _ (by exact rfl) (by exact rfl) (by exact rfl) (by first | exact own0 | exact own1 | exact own2 | exact own3 | exact own4 | exact own5 | exact own6 | exact own7 | exact own8 | exact own9) (by exact rfl) ?_) | (refine stl_loadW tabOk hSt _ (by exact rfl) (by exact rfl) (by exact rfl) (by first | exact own0 | exact own1 | exact own2 | exact own3 | exact own4 | exact own5 | exact own6 | exact own7 | exact own8 | exact own9) (by first | exact rfl | simp) ?_)) | ((with_reducible refine isl_conv ?_); (refine stl_tostr (by exact rfl) uB uU8 uStr (by exact rfl) (by first | exact hSt.fact 0 rfl | exact hSt.fact 1 rfl | exact hSt.fact 2 rfl | exact hSt.fact 3 rfl | exact hSt.fact 4 rfl | exact hSt.fact 5 rfl | exact hSt.fact 6 rfl | exact hSt.fact 7 rfl | exact hSt.fact 8 rfl | exact hSt.fact 9 rfl | exact hSt.fact 10 rfl | exact hSt.fact 11 rfl) ?_)) | still_step)); refine wpStill_nil ?_)
    have hT : SlR w lob hib 1 C n cb (u8s (b.take n)) := by
      have := (hSt.fact 4 rfl : SlR w lob hib 1 C b.length cb (u8s b)).take n (by omega)
      rwa [Nat.mul_one, u8s_take] at this
    have HT := Lib.hid hT
    clear hT
    go_wp2_with (first
    | (go_at_call 27; refine (join_any _ _ _ _ _ _ _ _ _ _ p (b.take n) _ (hSt.fact 3 rfl) HT.out (hSt.fhi 3 rfl) (hSt.fhi 4 rfl) (by omega)).mono ?_; rintro e w' ⟨A2, n2, c2, rfl, k1, hb⟩; have l2 := hSt.size; replace hSt := hSt.more hb (.sl _ _ 1 A2 _ c2 _) k1 (Nat.le_refl _) (Nat.le_refl _); clear k1 hb)
    | ((with_reducible refine is_load ?_); first
       | (refine st_load1 tabOk hSt _ (by exact rfl) (by exact rfl) (by exact rfl) (by first | exact own0 | exact own1 | exact own2 | exact own3 | exact own4 | exact own5 | exact own6 | exact own7 | exact own8 | exact own9) (by exact rfl) ?_)
       | (refine st_loadW tabOk hSt _ (by exact rfl) (by exact rfl) (by exact rfl) (by first | exact own0 | exact own1 | exact own2 | exact own3 | exact own4 | exact own5 | exact own6 | exact own7 | exact own8 | exact own9) (by first | exact rfl | simp) ?_))
    | ((with_reducible refine is_store ?_); first
       | (refine st_storeW tabOk hSt _ (by exact rfl) (by exact rfl) (by first | exact own0 | exact own1 | exact own2 | exact own3 | exact own4 | exact own5 | exact own6 | exact own7 | exact own8 | exact own9) (by exact rfl) (by first | exact rfl | simp) (by first | exact rfl | simp) (by first | exact rfl | simp) ?_; clear hSt; intro w hSt; simp only [List.set_cons_zero, List.set_cons_succ] at hSt)
       | (refine st_store1 tabOk hSt _ (by exact rfl) (by exact rfl) (by first | exact own0 | exact own1 | exact own2 | exact own3 | exact own4 | exact own5 | exact own6 | exact own7 | exact own8 | exact own9) (by first | exact evInt (by exact rfl) | exact evSlice (by exact rfl) | exact evBool (by exact rfl) | exact evStr (by exact rfl) | exact evPtr (by exact rfl) | exact evFn (by exact rfl) | exact evIf (by exact rfl) | exact evNil (by exact rfl) | exact evMap (by exact rfl) | exact evNilFn (by exact rfl)) (by exact rfl) (by first | simp | omega) (by exact rfl) ?_; clear hSt; intro w hSt; simp only [List.set_cons_zero, List.set_cons_succ] at hSt))
    | ((with_reducible refine is_alloc ?_); (refine st_alloc tabOk hSt (by exact rfl) ?_; clear hSt; intro w g hSt; dsimp only at hSt))
    | ((with_reducible refine is_box ?_); first
       | (refine st_boxA hSt (by exact rfl) ?_; clear hSt; intro w g hSt)
       | (refine st_box1 hSt (by first | exact evInt (by exact rfl) | exact evSlice (by exact rfl) | exact evBool (by exact rfl) | exact evStr (by exact rfl) | exact evPtr (by exact rfl) | exact evFn (by exact rfl) | exact evIf (by exact rfl) | exact evNil (by exact rfl) | exact evMap (by exact rfl) | exact evNilFn (by exact rfl)) (by exact rfl) ?_; clear hSt; intro w g hSt))
    | ((with_reducible refine is_conv ?_); first
       | (refine st_tostr (by exact rfl) uB uU8 uStr (by exact rfl) (by first | exact hSt.fact 0 rfl | exact hSt.fact 1 rfl | exact hSt.fact 2 rfl | exact hSt.fact 3 rfl | exact hSt.fact 4 rfl | exact hSt.fact 5 rfl | exact hSt.fact 6 rfl | exact hSt.fact 7 rfl | exact hSt.fact 8 rfl | exact hSt.fact 9 rfl | exact hSt.fact 10 rfl | exact hSt.fact 11 rfl) ?_)
       | (refine st_bconst uB uU8 hSt (by exact rfl) (by exact rfl) (by omega) (by simp [maxLen]) ?_; clear hSt; intro w hSt)))
    refine door1 (append_idle _ _ _) (ret2 (by exact rfl) (Res.agg tabOk hSt _ (by exact rfl) (by exact rfl) (by first | exact own0 | exact own1 | exact own2 | exact own3 | exact own4 | exact own5 | exact own6 | exact own7 | exact own8 | exact own9) (by exact rfl)) (Res.one tabOk hSt _ (by exact rfl) (by exact rfl) (by first | exact own0 | exact own1 | exact own2 | exact own3 | exact own4 | exact own5 | exact own6 | exact own7 | exact own8 | exact own9) (by exact rfl))) ?_ (by simp [go_sem])
    exact ⟨_, rfl, ⟨A1, A2, n1, n2, c1, c2, rfl, ((hSt.fact 1 rfl).mono l1 (hSt.fhi 1 rfl)), ((hSt.fact 0 rfl).mono l2 (hSt.fhi 0 rfl))⟩, hSt.below⟩
  · by_cases hq : fuel = -1
    · have hR : appendS ⟨s, p, fuel, false⟩ b = (⟨s, p ++ b, -1, false⟩, 0) := by
        subst hq
        simp [appendS, HV.out, hf]
      rw [hR]
      subst hq
      clear hR hf hp
      go_enter_defers Try.func10, Try.ntmps10
      go_wp2_with (first
    | (go_at_call 20; refine (valid_yes _ _ _ _ _ _ _ _ _ h1 h2).mono ?_; rintro e w' ⟨rfl, hb⟩; replace hSt := hSt.call hb; clear hb) | (go_at_call 26; refine (clone_any _ _ _ _ _ _ _ _ _ _ s p _ _ _ (hSt.fact 0 rfl) (hSt.fact 1 rfl) (hSt.fhi 0 rfl) (hSt.fhi 1 rfl) (by omega)).mono ?_; rintro e w' ⟨_, rfl, ⟨A1, B1, n1, m1, c1, d1, rfl, k1, k2⟩, hb⟩; have l1 := hSt.size; replace hSt := hSt.more2 hb (.sl _ _ 1 A1 _ c1 _) (.sl _ _ 1 B1 _ d1 _) k1 k2 (Nat.le_refl _) (Nat.le_refl _) (Nat.le_refl _) (Nat.le_refl _); clear k1 k2 hb) | (go_at_call 27; refine (join_any _ _ _ _ _ _ _ _ _ _ p b _ (hSt.fact 3 rfl) (hSt.fact 4 rfl) (hSt.fhi 3 rfl) (hSt.fhi 4 rfl) (by omega)).mono ?_; rintro e w' ⟨A2, n2, c2, rfl, k1, hb⟩; have l2 := hSt.size; replace hSt := hSt.more hb (.sl _ _ 1 A2 _ c2 _) k1 (Nat.le_refl _) (Nat.le_refl _); clear k1 hb)
    | ((with_reducible refine is_load ?_); first
       | (refine st_load1 tabOk hSt _ (by exact rfl) (by exact rfl) (by exact rfl) (by first | exact own0 | exact own1 | exact own2 | exact own3 | exact own4 | exact own5 | exact own6 | exact own7 | exact own8 | exact own9) (by exact rfl) ?_)
       | (refine st_loadW tabOk hSt _ (by exact rfl) (by exact rfl) (by exact rfl) (by first | exact own0 | exact own1 | exact own2 | exact own3 | exact own4 | exact own5 | exact own6 | exact own7 | exact own8 | exact own9) (by first | exact rfl | simp) ?_))
    | ((with_reducible refine is_store ?_); first
       | (refine st_storeW tabOk hSt _ (by exact rfl) (by exact rfl) (by first | exact own0 | exact own1 | exact own2 | exact own3 | exact own4 | exact own5 | exact own6 | exact own7 | exact own8 | exact own9) (by exact rfl) (by first | exact rfl | simp) (by first | exact rfl | simp) (by first | exact rfl | simp) ?_; clear hSt; intro w hSt; simp only [List.set_cons_zero, List.set_cons_succ] at hSt)
       | (refine st_store1 tabOk hSt _ (by exact rfl) (by exact rfl) (by first | exact own0 | exact own1 | exact own2 | exact own3 | exact own4 | exact own5 | exact own6 | exact own7 | exact own8 | exact own9) (by first | exact evInt (by exact rfl) | exact evSlice (by exact rfl) | exact evBool (by exact rfl) | exact evStr (by exact rfl) | exact evPtr (by exact rfl) | exact evFn (by exact rfl) | exact evIf (by exact rfl) | exact evNil (by exact rfl) | exact evMap (by exact rfl) | exact evNilFn (by exact rfl)) (by exact rfl) (by first | simp | omega) (by exact rfl) ?_; clear hSt; intro w hSt; simp only [List.set_cons_zero, List.set_cons_succ] at hSt))
    | ((with_reducible refine is_alloc ?_); (refine st_alloc tabOk hSt (by exact rfl) ?_; clear hSt; intro w g hSt; dsimp only at hSt))
    | ((with_reducible refine is_box ?_); first
       | (refine st_boxA hSt (by exact rfl) ?_; clear hSt; intro w g hSt)
       | (refine st_box1 hSt (by first | exact evInt (by exact rfl) | exact evSlice (by exact rfl) | exact evBool (by exact rfl) | exact evStr (by exact rfl) | exact evPtr (by exact rfl) | exact evFn (by exact rfl) | exact evIf (by exact rfl) | exact evNil (by exact rfl) | exact evMap (by exact rfl) | exact evNilFn (by exact rfl)) (by exact rfl) ?_; clear hSt; intro w g hSt))
    | ((with_reducible refine is_conv ?_); first
       | (refine st_tostr (by exact rfl) uB uU8 uStr (by exact rfl) (by first | exact hSt.fact 0 rfl | exact hSt.fact 1 rfl | exact hSt.fact 2 rfl | exact hSt.fact 3 rfl | exact hSt.fact 4 rfl | exact hSt.fact 5 rfl | exact hSt.fact 6 rfl | exact hSt.fact 7 rfl | exact hSt.fact 8 rfl | exact hSt.fact 9 rfl | exact hSt.fact 10 rfl | exact hSt.fact 11 rfl) ?_)
       | (refine st_bconst uB uU8 hSt (by exact rfl) (by exact rfl) (by omega) (by simp [maxLen]) ?_; clear hSt; intro w hSt)))
      refine door1 (append_idle _ _ _) (ret2 (by exact rfl) (Res.agg tabOk hSt _ (by exact rfl) (by exact rfl) (by first | exact own0 | exact own1 | exact own2 | exact own3 | exact own4 | exact own5 | exact own6 | exact own7 | exact own8 | exact own9) (by exact rfl)) (Res.one tabOk hSt _ (by exact rfl) (by exact rfl) (by first | exact own0 | exact own1 | exact own2 | exact own3 | exact own4 | exact own5 | exact own6 | exact own7 | exact own8 | exact own9) (by exact rfl))) ?_ (by simp [go_sem])
      exact ⟨_, rfl, ⟨A1, A2, n1, n2, c1, c2, rfl, ((hSt.fact 1 rfl).mono l1 (hSt.fhi 1 rfl)), ((hSt.fact 0 rfl).mono l2 (hSt.fhi 0 rfl))⟩, hSt.below⟩
    · have hR : appendS ⟨s, p, fuel, false⟩ b = (⟨s, p ++ b, fuel - b.length, false⟩, 0) := by
        have : ¬ (fuel ≠ -1 ∧ fuel < b.length) := hp
        simp only [appendS, HV.out, if_true, Bool.false_eq_true, if_false, hf, this, hq]
      rw [hR]
      obtain ⟨n, rfl⟩ : ∃ n : Nat, fuel = n := ⟨fuel.toNat, by omega⟩
      have hn : ¬ n < b.length := by omega
      have hne : ((n : Int) != -1) = true := by rw [bne_iff_ne]; omega
      clear hR hf hp hq
      go_enter_defers Try.func10, Try.ntmps10
      go_wp2_with (first
    | (go_at_call 20; refine (valid_yes _ _ _ _ _ _ _ _ _ h1 h2).mono ?_; rintro e w' ⟨rfl, hb⟩; replace hSt := hSt.call hb; clear hb) | (go_at_call 26; refine (clone_any _ _ _ _ _ _ _ _ _ _ s p _ _ _ (hSt.fact 0 rfl) (hSt.fact 1 rfl) (hSt.fhi 0 rfl) (hSt.fhi 1 rfl) (by omega)).mono ?_; rintro e w' ⟨_, rfl, ⟨A1, B1, n1, m1, c1, d1, rfl, k1, k2⟩, hb⟩; have l1 := hSt.size; replace hSt := hSt.more2 hb (.sl _ _ 1 A1 _ c1 _) (.sl _ _ 1 B1 _ d1 _) k1 k2 (Nat.le_refl _) (Nat.le_refl _) (Nat.le_refl _) (Nat.le_refl _); clear k1 k2 hb) | (go_at_call 27; refine (join_any _ _ _ _ _ _ _ _ _ _ p b _ (hSt.fact 3 rfl) (hSt.fact 4 rfl) (hSt.fhi 3 rfl) (hSt.fhi 4 rfl) (by omega)).mono ?_; rintro e w' ⟨A2, n2, c2, rfl, k1, hb⟩; have l2 := hSt.size; replace hSt := hSt.more hb (.sl _ _ 1 A2 _ c2 _) k1 (Nat.le_refl _) (Nat.le_refl _); clear k1 hb)
    | ((with_reducible refine is_load ?_); first
       | (refine st_load1 tabOk hSt _ (by exact rfl) (by exact rfl) (by exact rfl) (by first | exact own0 | exact own1 | exact own2 | exact own3 | exact own4 | exact own5 | exact own6 | exact own7 | exact own8 | exact own9) (by exact rfl) ?_)
       | (refine st_loadW tabOk hSt _ (by exact rfl) (by exact rfl) (by exact rfl) (by first | exact own0 | exact own1 | exact own2 | exact own3 | exact own4 | exact own5 | exact own6 | exact own7 | exact own8 | exact own9) (by first | exact rfl | simp) ?_))
    | ((with_reducible refine is_store ?_); first
       | (refine st_storeW tabOk hSt _ (by exact rfl) (by exact rfl) (by first | exact own0 | exact own1 | exact own2 | exact own3 | exact own4 | exact own5 | exact own6 | exact own7 | exact own8 | exact own9) (by exact rfl) (by first | exact rfl | simp) (by first | exact rfl | simp) (by first | exact rfl | simp) ?_; clear hSt; intro w hSt; simp only [List.set_cons_zero, List.set_cons_succ] at hSt)
       | (refine st_store1 tabOk hSt _ (by exact rfl) (by exact rfl) (by first | exact own0 | exact own1 | exact own2 | exact own3 | exact own4 | exact own5 | exact own6 | exact own7 | exact own8 | exact own9) (by first | exact evInt (by exact rfl) | exact evSlice (by exact rfl) | exact evBool (by exact rfl) | exact evStr (by exact rfl) | exact evPtr (by exact rfl) | exact evFn (by exact rfl) | exact evIf (by exact rfl) | exact evNil (by exact rfl) | exact evMap (by exact rfl) | exact evNilFn (by exact rfl)) (by exact rfl) (by first | simp | omega) (by exact rfl) ?_; clear hSt; intro w hSt; simp only [List.set_cons_zero, List.set_cons_succ] at hSt))
    | ((with_reducible refine is_alloc ?_); (refine st_alloc tabOk hSt (by exact rfl) ?_; clear hSt; intro w g hSt; dsimp only at hSt))
    | ((with_reducible refine is_box ?_); first
       | (refine st_boxA hSt (by exact rfl) ?_; clear hSt; intro w g hSt)
       | (refine st_box1 hSt (by first | exact evInt (by exact rfl) | exact evSlice (by exact rfl) | exact evBool (by exact rfl) | exact evStr (by exact rfl) | exact evPtr (by exact rfl) | exact evFn (by exact rfl) | exact evIf (by exact rfl) | exact evNil (by exact rfl) | exact evMap (by exact rfl) | exact evNilFn (by exact rfl)) (by exact rfl) ?_; clear hSt; intro w g hSt))
    | ((with_reducible refine is_conv ?_); first
       | (refine st_tostr (by exact rfl) uB uU8 uStr (by exact rfl) (by first | exact hSt.fact 0 rfl | exact hSt.fact 1 rfl | exact hSt.fact 2 rfl | exact hSt.fact 3 rfl | exact hSt.fact 4 rfl | exact hSt.fact 5 rfl | exact hSt.fact 6 rfl | exact hSt.fact 7 rfl | exact hSt.fact 8 rfl | exact hSt.fact 9 rfl | exact hSt.fact 10 rfl | exact hSt.fact 11 rfl) ?_)
       | (refine st_bconst uB uU8 hSt (by exact rfl) (by exact rfl) (by omega) (by simp [maxLen]) ?_; clear hSt; intro w hSt)))
      refine door1 (append_idle _ _ _) (ret2 (by exact rfl) (Res.agg tabOk hSt _ (by exact rfl) (by exact rfl) (by first | exact own0 | exact own1 | exact own2 | exact own3 | exact own4 | exact own5 | exact own6 | exact own7 | exact own8 | exact own9) (by exact rfl)) (Res.one tabOk hSt _ (by exact rfl) (by exact rfl) (by first | exact own0 | exact own1 | exact own2 | exact own3 | exact own4 | exact own5 | exact own6 | exact own7 | exact own8 | exact own9) (by exact rfl))) ?_ (by simp [go_sem])
      exact ⟨_, rfl, ⟨A1, A2, n1, n2, c1, c2, rfl, ((hSt.fact 1 rfl).mono l1 (hSt.fhi 1 rfl)), ((hSt.fact 0 rfl).mono l2 (hSt.fhi 0 rfl))⟩, hSt.below⟩
end Go.Proofs.Ytddlgdppfeeplaa
