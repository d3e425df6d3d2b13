/-
  The contracts of erasureref32.join, Append, Fail, Sync, Crash, Cut and Read: they agree with those of package disk; what they hand back may share memory with their arguments.
-/
import Derived.Test.YtddlgdppfeeplaaDiskF
import Derived.Test.YtddlgdppfeeplaaDiskC
set_option linter.unusedVariables false
set_option linter.unusedSimpArgs false
namespace Go.Er
open Go Go.RowKit
/-- The blocks from l on and ahead of h are new, or one of the ranges R. -/
def Rng (w w' : World) (R : List (Nat × Nat)) (l h : Nat) : Prop := (w.heap.size ≤ l ∧ h ≤ w'.heap.size) ∨ (l, h) ∈ R
theorem Rng.hi {w w' : World} {R : List (Nat × Nat)} {l h : Nat} (hr : Rng w w' R l h) (hR : ∀ r ∈ R, r.2 ≤ w.heap.size) (hw : w.heap.size ≤ w'.heap.size) : h ≤ w'.heap.size := by
  rcases hr with hr | hr
  · exact hr.2
  · exact Nat.le_trans (hR _ hr) hw
theorem St.moreR {w0 w w1 : World} {L : List Own} {F : List Fct} {R : List (Nat × Nat)} (h : St w0 L F w) (hb : Below w.heap.size w w1) (f : Fct) (hp : f.p w1) (hr : Rng w w1 R f.lo f.hi) (hR : ∀ r ∈ R, ∃ f0 ∈ F, f0.lo = r.1 ∧ f0.hi = r.2) : St w0 L (f :: F) w1 := by
  rcases hr with hr | hr
  · exact h.more hb f hp hr.1 hr.2
  · obtain ⟨f0, hf0, e1, e2⟩ := hR _ hr
    obtain ⟨i, hi⟩ := List.mem_iff_getElem?.1 hf0
    have e1 : f0.lo = f.lo := e1
    have e2 : f0.hi = f.hi := e2
    exact (h.call hb).also i hi f hp (by omega) (by omega)
end Go.Er
namespace Go.Proofs.Ytddlgdppfeeplaa
open Go Go.RowKit Go.Er
set_option maxRecDepth 100000

def RefDk (w : World) (R : List (Nat × Nat)) (k : Dk) (v : Value) (w' : World) : Prop :=
  ∃ A B n m c d l1 h1 l2 h2, v = .agg #[.slice A n c, .slice B m d, .int .i64 k.fuel, .bool k.down] ∧ SlR w' l1 h1 1 A n c (u8s k.s) ∧ Rng w w' R l1 h1 ∧ SlR w' l2 h2 1 B m d (u8s k.p) ∧ Rng w w' R l2 h2
def RefErr (w : World) (R : List (Nat × Nat)) (r : Dk × Int) (e : Ending) (w' : World) : Prop := ∃ v, e = .returned (.tuple #[v, .int .i64 r.2]) ∧ RefDk w R r.1 v w' ∧ Below w.heap.size w w'

theorem rng_new {w w' : World} {R : List (Nat × Nat)} {l : Nat} (h : w.heap.size ≤ l) {h' : Nat} (hh : h' ≤ w'.heap.size) : Rng w w' R l h' := .inl ⟨h, hh⟩
theorem zeroRef (w w' : World) (hw : w.heap.size ≤ w'.heap.size) (R : List (Nat × Nat)) : RefDk w R zeroDk (.agg #[.slice none 0 0, .slice none 0 0, .int .i64 0, .bool false]) w' :=
  ⟨none, none, 0, 0, 0, 0, _, _, _, _, rfl, SlR.nil _ w.heap.size w'.heap.size _, .inl ⟨Nat.le_refl _, Nat.le_refl _⟩, SlR.nil _ w.heap.size w'.heap.size _, .inl ⟨Nat.le_refl _, Nat.le_refl _⟩⟩

set_option maxHeartbeats 1000000 in
theorem joinR_any (A B : Option Addr) (nx ny c d lo hi lo' hi' : Nat) (x y : List UInt8) (w0 : World) (hx : SlR w0 lo hi 1 A nx c (u8s x)) (hy : SlR w0 lo' hi' 1 B ny d (u8s y)) (h1 : hi ≤ w0.heap.size) (h2 : hi' ≤ w0.heap.size) (hn : nx + ny ≤ 1000000) :
    Calls Try.prog 39 #[.slice A nx c, .slice B ny d] w0 (NewBytes w0 (x ++ y)) := by
  have hSt := ((St.init w0).arg (.sl _ _ 1 A _ c _) hx h1).arg (.sl _ _ 1 B _ d _) hy h2
  clear hx hy
  have hnx : nx ≤ 1000000 := by omega
  have hz1 : 0 + nx + ny ≤ 1000000 := by omega
  go_enter Try.func39, Try.ntmps39
  go_wp2_with (first
    | ((with_reducible refine is_bslice ?_); (refine st_bslice0 tB hSt ?_; clear hSt; intro w g hSt)) | ((with_reducible refine is_append (x := .tmp 5) (y := .tmp 6) ?_); (refine st_append tB hSt _ (by exact rfl) (by first | exact own0 | exact own1 | exact own2 | exact own3 | exact own4 | exact own5 | exact own6 | exact own7 | exact own8 | exact own9) (by exact rfl) (u8s x) (hSt.fact 1 rfl) (u8s_one _) (by simp only [maxLen]; omega) (by omega) ?_; clear hSt; intro w A c hSt; simp only [List.set_cons_zero, List.set_cons_succ, Nat.zero_add, List.nil_append] at hSt)) | ((with_reducible refine is_append (x := .tmp 7) (y := .tmp 8) ?_); (refine st_append tB hSt _ (by exact rfl) (by first | exact own0 | exact own1 | exact own2 | exact own3 | exact own4 | exact own5 | exact own6 | exact own7 | exact own8 | exact own9) (by exact rfl) (u8s y) (hSt.fact 0 rfl) (u8s_one _) (by simp only [maxLen]; omega) (by omega) ?_; clear hSt; intro w A c hSt; simp only [List.set_cons_zero, List.set_cons_succ, Nat.zero_add, List.nil_append] at hSt))
    | ((with_reducible refine is_load ?_); first
       | (refine st_load1 tabOk hSt _ (by exact rfl) (by exact rfl) (by exact rfl) (by first | exact own0 | exact own1 | exact own2 | exact own3 | exact own4 | exact own5 | exact own6 | exact own7 | exact own8 | exact own9) (by exact rfl) ?_)
       | (refine st_loadW tabOk hSt _ (by exact rfl) (by exact rfl) (by exact rfl) (by first | exact own0 | exact own1 | exact own2 | exact own3 | exact own4 | exact own5 | exact own6 | exact own7 | exact own8 | exact own9) (by first | exact rfl | simp) ?_))
    | ((with_reducible refine is_store ?_); first
       | (refine st_storeW tabOk hSt _ (by exact rfl) (by exact rfl) (by first | exact own0 | exact own1 | exact own2 | exact own3 | exact own4 | exact own5 | exact own6 | exact own7 | exact own8 | exact own9) (by exact rfl) (by first | exact rfl | simp) (by first | exact rfl | simp) (by first | exact rfl | simp) ?_; clear hSt; intro w hSt; simp only [List.set_cons_zero, List.set_cons_succ] at hSt)
       | (refine st_store1 tabOk hSt _ (by exact rfl) (by exact rfl) (by first | exact own0 | exact own1 | exact own2 | exact own3 | exact own4 | exact own5 | exact own6 | exact own7 | exact own8 | exact own9) (by first | exact evInt (by exact rfl) | exact evSlice (by exact rfl) | exact evBool (by exact rfl) | exact evStr (by exact rfl) | exact evPtr (by exact rfl) | exact evFn (by exact rfl) | exact evIf (by exact rfl) | exact evNil (by exact rfl) | exact evMap (by exact rfl) | exact evNilFn (by exact rfl)) (by exact rfl) (by first | simp | omega) (by exact rfl) ?_; clear hSt; intro w hSt; simp only [List.set_cons_zero, List.set_cons_succ] at hSt))
    | ((with_reducible refine is_alloc ?_); (refine st_alloc tabOk hSt (by exact rfl) ?_; clear hSt; intro w g hSt; dsimp only at hSt))
    | ((with_reducible refine is_box ?_); first
       | (refine st_boxA hSt (by exact rfl) ?_; clear hSt; intro w g hSt)
       | (refine st_box1 hSt (by first | exact evInt (by exact rfl) | exact evSlice (by exact rfl) | exact evBool (by exact rfl) | exact evStr (by exact rfl) | exact evPtr (by exact rfl) | exact evFn (by exact rfl) | exact evIf (by exact rfl) | exact evNil (by exact rfl) | exact evMap (by exact rfl) | exact evNilFn (by exact rfl)) (by exact rfl) ?_; clear hSt; intro w g hSt))
    | ((with_reducible refine is_conv ?_); first
       | (refine st_tostr (by exact rfl) uB uU8 uStr (by exact rfl) (by first | exact hSt.fact 0 rfl | exact hSt.fact 1 rfl | exact hSt.fact 2 rfl | exact hSt.fact 3 rfl | exact hSt.fact 4 rfl | exact hSt.fact 5 rfl | exact hSt.fact 6 rfl | exact hSt.fact 7 rfl | exact hSt.fact 8 rfl | exact hSt.fact 9 rfl | exact hSt.fact 10 rfl | exact hSt.fact 11 rfl | exact hSt.fact 12 rfl | exact hSt.fact 13 rfl | exact hSt.fact 14 rfl | exact hSt.fact 15 rfl | exact hSt.fact 16 rfl | exact hSt.fact 17 rfl | exact hSt.fact 18 rfl | exact hSt.fact 19 rfl | exact hSt.fact 20 rfl | exact hSt.fact 21 rfl | exact hSt.fact 22 rfl | exact hSt.fact 23 rfl) ?_)
       | (refine st_bconst uB uU8 hSt (by exact rfl) (by exact rfl) (by omega) (by simp [maxLen]) ?_; clear hSt; intro w hSt)))
  go_ret
  have hrow := SlR.own (hSt.at_ 0 rfl)
  refine ⟨_, _, _, rfl, ?_, hSt.below⟩
  have hlo := hSt.lo_ 0 rfl
  rw [u8s_append]
  obtain ⟨e1, e2, e3, e4⟩ := hrow
  refine ⟨e1, e2, by simpa using e3, fun hp => ?_⟩
  obtain ⟨b, o, rfl, f1, f2, f3⟩ := e4 hp
  exact ⟨b, o, rfl, hlo b rfl, f2, by simpa using f3⟩


set_option maxHeartbeats 1000000 in
theorem appendR_any (A B C : Option Addr) (ns np nb c d cb lo hi lo' hi' lob hib : Nat) (s p b : List UInt8) (fuel : Int) (down : Bool) (w0 : World) (hx : SlR w0 lo hi 1 A ns c (u8s s)) (hy : SlR w0 lo' hi' 1 B np d (u8s p)) (hz : SlR w0 lob hib 1 C nb cb (u8s b))
    (i1 : hi ≤ w0.heap.size) (i2 : hi' ≤ w0.heap.size) (i3 : hib ≤ w0.heap.size) (h0 : ns ≤ 2^47) (h0' : np ≤ 2^47) (h0b : nb ≤ 2^47) (hfu : fuel ≤ 9223372036854775807) :
    Calls Try.prog 30 #[.agg #[.slice A ns c, .slice B np d, .int .i64 fuel, .bool down], .slice C nb cb] w0 (RefErr w0 [(lo, hi), (lo', hi')] (appendS ⟨s, p, fuel, down⟩ b)) := by
  obtain rfl := hx.len8
  obtain rfl := hy.len8
  obtain rfl := hz.len8
  have hSt := (((St.init w0).arg (.sl _ _ 1 C _ cb _) hz i3).arg (.sl _ _ 1 B _ d _) hy i2).arg (.sl _ _ 1 A _ c _) hx i1
  have hcb := hz.1
  clear hx hy hz
  cases hv : validB ⟨s, p, fuel, down⟩ with
  | false =>
    have hR : appendS ⟨s, p, fuel, down⟩ b = (zeroDk, 1) := by simp [appendS, hv]
    rw [hR]
    replace hv := validB_no hv
    clear hR
    go_enter Try.func30, Try.ntmps30
    go_wp2_with (first
    | (go_at_call 21; refine (validR_no _ _ _ _ _ _ _ _ _ h0 h0' hv).mono ?_; rintro e w' ⟨rfl, hb⟩; replace hSt := hSt.call hb; clear hb)
    | ((with_reducible refine is_load ?_); first
       | (refine st_load1 tabOk hSt _ (by exact rfl) (by exact rfl) (by exact rfl) (by first | exact own0 | exact own1 | exact own2 | exact own3 | exact own4 | exact own5 | exact own6 | exact own7 | exact own8 | exact own9) (by exact rfl) ?_)
       | (refine st_loadW tabOk hSt _ (by exact rfl) (by exact rfl) (by exact rfl) (by first | exact own0 | exact own1 | exact own2 | exact own3 | exact own4 | exact own5 | exact own6 | exact own7 | exact own8 | exact own9) (by first | exact rfl | simp) ?_))
    | ((with_reducible refine is_store ?_); first
       | (refine st_storeW tabOk hSt _ (by exact rfl) (by exact rfl) (by first | exact own0 | exact own1 | exact own2 | exact own3 | exact own4 | exact own5 | exact own6 | exact own7 | exact own8 | exact own9) (by exact rfl) (by first | exact rfl | simp) (by first | exact rfl | simp) (by first | exact rfl | simp) ?_; clear hSt; intro w hSt; simp only [List.set_cons_zero, List.set_cons_succ] at hSt)
       | (refine st_store1 tabOk hSt _ (by exact rfl) (by exact rfl) (by first | exact own0 | exact own1 | exact own2 | exact own3 | exact own4 | exact own5 | exact own6 | exact own7 | exact own8 | exact own9) (by first | exact evInt (by exact rfl) | exact evSlice (by exact rfl) | exact evBool (by exact rfl) | exact evStr (by exact rfl) | exact evPtr (by exact rfl) | exact evFn (by exact rfl) | exact evIf (by exact rfl) | exact evNil (by exact rfl) | exact evMap (by exact rfl) | exact evNilFn (by exact rfl)) (by exact rfl) (by first | simp | omega) (by exact rfl) ?_; clear hSt; intro w hSt; simp only [List.set_cons_zero, List.set_cons_succ] at hSt))
    | ((with_reducible refine is_alloc ?_); (refine st_alloc tabOk hSt (by exact rfl) ?_; clear hSt; intro w g hSt; dsimp only at hSt))
    | ((with_reducible refine is_box ?_); first
       | (refine st_boxA hSt (by exact rfl) ?_; clear hSt; intro w g hSt)
       | (refine st_box1 hSt (by first | exact evInt (by exact rfl) | exact evSlice (by exact rfl) | exact evBool (by exact rfl) | exact evStr (by exact rfl) | exact evPtr (by exact rfl) | exact evFn (by exact rfl) | exact evIf (by exact rfl) | exact evNil (by exact rfl) | exact evMap (by exact rfl) | exact evNilFn (by exact rfl)) (by exact rfl) ?_; clear hSt; intro w g hSt))
    | ((with_reducible refine is_conv ?_); first
       | (refine st_tostr (by exact rfl) uB uU8 uStr (by exact rfl) (by first | exact hSt.fact 0 rfl | exact hSt.fact 1 rfl | exact hSt.fact 2 rfl | exact hSt.fact 3 rfl | exact hSt.fact 4 rfl | exact hSt.fact 5 rfl | exact hSt.fact 6 rfl | exact hSt.fact 7 rfl | exact hSt.fact 8 rfl | exact hSt.fact 9 rfl | exact hSt.fact 10 rfl | exact hSt.fact 11 rfl | exact hSt.fact 12 rfl | exact hSt.fact 13 rfl | exact hSt.fact 14 rfl | exact hSt.fact 15 rfl | exact hSt.fact 16 rfl | exact hSt.fact 17 rfl | exact hSt.fact 18 rfl | exact hSt.fact 19 rfl | exact hSt.fact 20 rfl | exact hSt.fact 21 rfl | exact hSt.fact 22 rfl | exact hSt.fact 23 rfl) ?_)
       | (refine st_bconst uB uU8 hSt (by exact rfl) (by exact rfl) (by omega) (by simp [maxLen]) ?_; clear hSt; intro w hSt)))
    refine bodyPost_ret (ret2 (by exact rfl) (Res.agg tabOk hSt _ (by exact rfl) (by exact rfl) (by first | exact own0 | exact own1 | exact own2 | exact own3 | exact own4 | exact own5 | exact own6 | exact own7 | exact own8 | exact own9) (by exact rfl)) (by exact rfl)) rfl ?_
    exact ⟨_, rfl, zeroRef _ _ hSt.size _, hSt.below⟩
  | true =>
  obtain ⟨h1, h2⟩ := validB_yes hv
  have HV := Lib.hid hv
  clear hv
  cases down with
  | true =>
    have hR : appendS ⟨s, p, fuel, true⟩ b = (⟨s, p, fuel, true⟩, 104) := by simp [appendS, HV.out]
    rw [hR]
    clear hR
    go_enter Try.func30, Try.ntmps30
    go_wp2_with (first
    | (go_at_call 21; refine (validR_yes _ _ _ _ _ _ _ _ _ h1 h2).mono ?_; rintro e w' ⟨rfl, hb⟩; replace hSt := hSt.call hb; clear hb)
    | ((with_reducible refine is_load ?_); first
       | (refine st_load1 tabOk hSt _ (by exact rfl) (by exact rfl) (by exact rfl) (by first | exact own0 | exact own1 | exact own2 | exact own3 | exact own4 | exact own5 | exact own6 | exact own7 | exact own8 | exact own9) (by exact rfl) ?_)
       | (refine st_loadW tabOk hSt _ (by exact rfl) (by exact rfl) (by exact rfl) (by first | exact own0 | exact own1 | exact own2 | exact own3 | exact own4 | exact own5 | exact own6 | exact own7 | exact own8 | exact own9) (by first | exact rfl | simp) ?_))
    | ((with_reducible refine is_store ?_); first
       | (refine st_storeW tabOk hSt _ (by exact rfl) (by exact rfl) (by first | exact own0 | exact own1 | exact own2 | exact own3 | exact own4 | exact own5 | exact own6 | exact own7 | exact own8 | exact own9) (by exact rfl) (by first | exact rfl | simp) (by first | exact rfl | simp) (by first | exact rfl | simp) ?_; clear hSt; intro w hSt; simp only [List.set_cons_zero, List.set_cons_succ] at hSt)
       | (refine st_store1 tabOk hSt _ (by exact rfl) (by exact rfl) (by first | exact own0 | exact own1 | exact own2 | exact own3 | exact own4 | exact own5 | exact own6 | exact own7 | exact own8 | exact own9) (by first | exact evInt (by exact rfl) | exact evSlice (by exact rfl) | exact evBool (by exact rfl) | exact evStr (by exact rfl) | exact evPtr (by exact rfl) | exact evFn (by exact rfl) | exact evIf (by exact rfl) | exact evNil (by exact rfl) | exact evMap (by exact rfl) | exact evNilFn (by exact rfl)) (by exact rfl) (by first | simp | omega) (by exact rfl) ?_; clear hSt; intro w hSt; simp only [List.set_cons_zero, List.set_cons_succ] at hSt))
    | ((with_reducible refine is_alloc ?_); (refine st_alloc tabOk hSt (by exact rfl) ?_; clear hSt; intro w g hSt; dsimp only at hSt))
    | ((with_reducible refine is_box ?_); first
       | (refine st_boxA hSt (by exact rfl) ?_; clear hSt; intro w g hSt)
       | (refine st_box1 hSt (by first | exact evInt (by exact rfl) | exact evSlice (by exact rfl) | exact evBool (by exact rfl) | exact evStr (by exact rfl) | exact evPtr (by exact rfl) | exact evFn (by exact rfl) | exact evIf (by exact rfl) | exact evNil (by exact rfl) | exact evMap (by exact rfl) | exact evNilFn (by exact rfl)) (by exact rfl) ?_; clear hSt; intro w g hSt))
    | ((with_reducible refine is_conv ?_); first
       | (refine st_tostr (by exact rfl) uB uU8 uStr (by exact rfl) (by first | exact hSt.fact 0 rfl | exact hSt.fact 1 rfl | exact hSt.fact 2 rfl | exact hSt.fact 3 rfl | exact hSt.fact 4 rfl | exact hSt.fact 5 rfl | exact hSt.fact 6 rfl | exact hSt.fact 7 rfl | exact hSt.fact 8 rfl | exact hSt.fact 9 rfl | exact hSt.fact 10 rfl | exact hSt.fact 11 rfl | exact hSt.fact 12 rfl | exact hSt.fact 13 rfl | exact hSt.fact 14 rfl | exact hSt.fact 15 rfl | exact hSt.fact 16 rfl | exact hSt.fact 17 rfl | exact hSt.fact 18 rfl | exact hSt.fact 19 rfl | exact hSt.fact 20 rfl | exact hSt.fact 21 rfl | exact hSt.fact 22 rfl | exact hSt.fact 23 rfl) ?_)
       | (refine st_bconst uB uU8 hSt (by exact rfl) (by exact rfl) (by omega) (by simp [maxLen]) ?_; clear hSt; intro w hSt)))
    refine bodyPost_ret (ret2 (by exact rfl) (Res.agg tabOk hSt _ (by exact rfl) (by exact rfl) (by first | exact own0 | exact own1 | exact own2 | exact own3 | exact own4 | exact own5 | exact own6 | exact own7 | exact own8 | exact own9) (by exact rfl)) (by exact rfl)) rfl ?_
    exact ⟨_, rfl, ⟨A, B, _, _, c, d, lo, hi, lo', hi', rfl, (hSt.fact 0 rfl), .inr (by simp), (hSt.fact 1 rfl), .inr (by simp)⟩, hSt.below⟩
  | false =>
  by_cases hf : 131072 - s.length - p.length < b.length
  · have hR : appendS ⟨s, p, fuel, false⟩ b = (zeroDk, 8) := by simp [appendS, HV.out, hf]
    rw [hR]
    clear hR
    have hf' : (131072 : Int) - s.length - p.length < b.length := by omega
    go_enter Try.func30, Try.ntmps30
    go_wp2_with (first
    | (go_at_call 21; refine (validR_yes _ _ _ _ _ _ _ _ _ h1 h2).mono ?_; rintro e w' ⟨rfl, hb⟩; replace hSt := hSt.call hb; clear hb)
    | ((with_reducible refine is_load ?_); first
       | (refine st_load1 tabOk hSt _ (by exact rfl) (by exact rfl) (by exact rfl) (by first | exact own0 | exact own1 | exact own2 | exact own3 | exact own4 | exact own5 | exact own6 | exact own7 | exact own8 | exact own9) (by exact rfl) ?_)
       | (refine st_loadW tabOk hSt _ (by exact rfl) (by exact rfl) (by exact rfl) (by first | exact own0 | exact own1 | exact own2 | exact own3 | exact own4 | exact own5 | exact own6 | exact own7 | exact own8 | exact own9) (by first | exact rfl | simp) ?_))
    | ((with_reducible refine is_store ?_); first
       | (refine st_storeW tabOk hSt _ (by exact rfl) (by exact rfl) (by first | exact own0 | exact own1 | exact own2 | exact own3 | exact own4 | exact own5 | exact own6 | exact own7 | exact own8 | exact own9) (by exact rfl) (by first | exact rfl | simp) (by first | exact rfl | simp) (by first | exact rfl | simp) ?_; clear hSt; intro w hSt; simp only [List.set_cons_zero, List.set_cons_succ] at hSt)
       | (refine st_store1 tabOk hSt _ (by exact rfl) (by exact rfl) (by first | exact own0 | exact own1 | exact own2 | exact own3 | exact own4 | exact own5 | exact own6 | exact own7 | exact own8 | exact own9) (by first | exact evInt (by exact rfl) | exact evSlice (by exact rfl) | exact evBool (by exact rfl) | exact evStr (by exact rfl) | exact evPtr (by exact rfl) | exact evFn (by exact rfl) | exact evIf (by exact rfl) | exact evNil (by exact rfl) | exact evMap (by exact rfl) | exact evNilFn (by exact rfl)) (by exact rfl) (by first | simp | omega) (by exact rfl) ?_; clear hSt; intro w hSt; simp only [List.set_cons_zero, List.set_cons_succ] at hSt))
    | ((with_reducible refine is_alloc ?_); (refine st_alloc tabOk hSt (by exact rfl) ?_; clear hSt; intro w g hSt; dsimp only at hSt))
    | ((with_reducible refine is_box ?_); first
       | (refine st_boxA hSt (by exact rfl) ?_; clear hSt; intro w g hSt)
       | (refine st_box1 hSt (by first | exact evInt (by exact rfl) | exact evSlice (by exact rfl) | exact evBool (by exact rfl) | exact evStr (by exact rfl) | exact evPtr (by exact rfl) | exact evFn (by exact rfl) | exact evIf (by exact rfl) | exact evNil (by exact rfl) | exact evMap (by exact rfl) | exact evNilFn (by exact rfl)) (by exact rfl) ?_; clear hSt; intro w g hSt))
    | ((with_reducible refine is_conv ?_); first
       | (refine st_tostr (by exact rfl) uB uU8 uStr (by exact rfl) (by first | exact hSt.fact 0 rfl | exact hSt.fact 1 rfl | exact hSt.fact 2 rfl | exact hSt.fact 3 rfl | exact hSt.fact 4 rfl | exact hSt.fact 5 rfl | exact hSt.fact 6 rfl | exact hSt.fact 7 rfl | exact hSt.fact 8 rfl | exact hSt.fact 9 rfl | exact hSt.fact 10 rfl | exact hSt.fact 11 rfl | exact hSt.fact 12 rfl | exact hSt.fact 13 rfl | exact hSt.fact 14 rfl | exact hSt.fact 15 rfl | exact hSt.fact 16 rfl | exact hSt.fact 17 rfl | exact hSt.fact 18 rfl | exact hSt.fact 19 rfl | exact hSt.fact 20 rfl | exact hSt.fact 21 rfl | exact hSt.fact 22 rfl | exact hSt.fact 23 rfl) ?_)
       | (refine st_bconst uB uU8 hSt (by exact rfl) (by exact rfl) (by omega) (by simp [maxLen]) ?_; clear hSt; intro w hSt)))
    refine bodyPost_ret (ret2 (by exact rfl) (Res.agg tabOk hSt _ (by exact rfl) (by exact rfl) (by first | exact own0 | exact own1 | exact own2 | exact own3 | exact own4 | exact own5 | exact own6 | exact own7 | exact own8 | exact own9) (by exact rfl)) (by exact rfl)) rfl ?_
    exact ⟨_, rfl, zeroRef _ _ hSt.size _, hSt.below⟩
  have hf' : ¬ (131072 : Int) - s.length - p.length < b.length := by omega
  have hbl : b.length ≤ 131072 := by omega
  by_cases hp : fuel ≠ -1 ∧ fuel < b.length
  · have hR : appendS ⟨s, p, fuel, false⟩ b = (⟨s, p ++ b.take fuel.toNat, 0, true⟩, 104) := by simp [appendS, HV.out, hf, hp]
    rw [hR]
    obtain ⟨n, rfl⟩ : ∃ n : Nat, fuel = n := ⟨fuel.toNat, by omega⟩
    rw [Int.toNat_natCast]
    have hn : n < b.length := by omega
    clear hR hf hp
    have hncb : (n : Int) ≤ (cb : Int) := by omega
    have hncb' : n ≤ cb := by omega
    go_enter Try.func30, Try.ntmps30
    go_wp2_with (first
    | (go_at_call 21; refine (validR_yes _ _ _ _ _ _ _ _ _ h1 h2).mono ?_; rintro e w' ⟨rfl, hb⟩; replace hSt := hSt.call hb; clear hb)
    | ((with_reducible refine is_load ?_); first
       | (refine st_load1 tabOk hSt _ (by exact rfl) (by exact rfl) (by exact rfl) (by first | exact own0 | exact own1 | exact own2 | exact own3 | exact own4 | exact own5 | exact own6 | exact own7 | exact own8 | exact own9) (by exact rfl) ?_)
       | (refine st_loadW tabOk hSt _ (by exact rfl) (by exact rfl) (by exact rfl) (by first | exact own0 | exact own1 | exact own2 | exact own3 | exact own4 | exact own5 | exact own6 | exact own7 | exact own8 | exact own9) (by first | exact rfl | simp) ?_))
    | ((with_reducible refine is_store ?_); first
       | (refine st_storeW tabOk hSt _ (by exact rfl) (by exact rfl) (by first | exact own0 | exact own1 | exact own2 | exact own3 | exact own4 | exact own5 | exact own6 | exact own7 | exact own8 | exact own9) (by exact rfl) (by first | exact rfl | simp) (by first | exact rfl | simp) (by first | exact rfl | simp) ?_; clear hSt; intro w hSt; simp only [List.set_cons_zero, List.set_cons_succ] at hSt)
       | (refine st_store1 tabOk hSt _ (by exact rfl) (by exact rfl) (by first | exact own0 | exact own1 | exact own2 | exact own3 | exact own4 | exact own5 | exact own6 | exact own7 | exact own8 | exact own9) (by first | exact evInt (by exact rfl) | exact evSlice (by exact rfl) | exact evBool (by exact rfl) | exact evStr (by exact rfl) | exact evPtr (by exact rfl) | exact evFn (by exact rfl) | exact evIf (by exact rfl) | exact evNil (by exact rfl) | exact evMap (by exact rfl) | exact evNilFn (by exact rfl)) (by exact rfl) (by first | simp | omega) (by exact rfl) ?_; clear hSt; intro w hSt; simp only [List.set_cons_zero, List.set_cons_succ] at hSt))
    | ((with_reducible refine is_alloc ?_); (refine st_alloc tabOk hSt (by exact rfl) ?_; clear hSt; intro w g hSt; dsimp only at hSt))
    | ((with_reducible refine is_box ?_); first
       | (refine st_boxA hSt (by exact rfl) ?_; clear hSt; intro w g hSt)
       | (refine st_box1 hSt (by first | exact evInt (by exact rfl) | exact evSlice (by exact rfl) | exact evBool (by exact rfl) | exact evStr (by exact rfl) | exact evPtr (by exact rfl) | exact evFn (by exact rfl) | exact evIf (by exact rfl) | exact evNil (by exact rfl) | exact evMap (by exact rfl) | exact evNilFn (by exact rfl)) (by exact rfl) ?_; clear hSt; intro w g hSt))
    | ((with_reducible refine is_conv ?_); first
       | (refine st_tostr (by exact rfl) uB uU8 uStr (by exact rfl) (by first | exact hSt.fact 0 rfl | exact hSt.fact 1 rfl | exact hSt.fact 2 rfl | exact hSt.fact 3 rfl | exact hSt.fact 4 rfl | exact hSt.fact 5 rfl | exact hSt.fact 6 rfl | exact hSt.fact 7 rfl | exact hSt.fact 8 rfl | exact hSt.fact 9 rfl | exact hSt.fact 10 rfl | exact hSt.fact 11 rfl | exact hSt.fact 12 rfl | exact hSt.fact 13 rfl | exact hSt.fact 14 rfl | exact hSt.fact 15 rfl | exact hSt.fact 16 rfl | exact hSt.fact 17 rfl | exact hSt.fact 18 rfl | exact hSt.fact 19 rfl | exact hSt.fact 20 rfl | exact hSt.fact 21 rfl | exact hSt.fact 22 rfl | exact hSt.fact 23 rfl) ?_)
       | (refine st_bconst uB uU8 hSt (by exact rfl) (by exact rfl) (by omega) (by simp [maxLen]) ?_; clear hSt; intro w hSt)))
    (refine st_tail 6 (by kernel_rfl) (by kernel_rfl) hSt ?_; clear hSt; intro w hSt; simp only [List.take_succ_cons, List.take_zero, List.drop_succ_cons, List.drop_zero]; (repeat (first | ((with_reducible refine isl_load ?_); first | (refine stl_load1 tabOk hSt _ (by exact rfl) (by exact rfl) (by exact rfl) (by first | exact own0 | exact own1 | exact own2 | exact own3 | exact own4 | exact own5 | exact own6 | exact own7 | exact own8 | exact own9) (by exact rfl) ?_) | (refine stl_loadW tabOk hSt _ (by exact rfl) (by exact rfl) (by exact rfl) (by first | exact own0 | exact own1 | exact own2 | exact own3 | exact own4 | exact own5 | exact own6 | exact own7 | exact own8 | exact own9) (by first | exact rfl | simp) ?_)) | ((with_reducible refine isl_conv ?_); (refine stl_tostr (by exact rfl) uB uU8 uStr (by exact rfl) (by first | exact hSt.fact 0 rfl | exact hSt.fact 1 rfl | exact hSt.fact 2 rfl | exact hSt.fact 3 rfl | exact hSt.fact 4 rfl | exact hSt.fact 5 rfl | exact hSt.fact 6 rfl | exact hSt.fact 7 rfl | exact hSt.fact 8 rfl | exact hSt.fact 9 rfl | exact hSt.fact 10 rfl | exact hSt.fact 11 rfl | exact hSt.fact 12 rfl | exact hSt.fact 13 rfl | exact hSt.fact 14 rfl | exact hSt.fact 15 rfl | exact hSt.fact 16 rfl | exact hSt.fact 17 rfl | exact hSt.fact 18 rfl | exact hSt.fact 19 rfl | exact hSt.fact 20 rfl | exact hSt.fact 21 rfl | exact hSt.fact 22 rfl | exact hSt.fact 23 rfl) ?_)) | still_step)); refine wpStill_nil ?_)
    have hT : SlR w lob hib 1 C n cb (u8s (b.take n)) := by
      have := (hSt.fact 2 rfl : SlR w lob hib 1 C b.length cb (u8s b)).take n (by omega)
      rwa [Nat.mul_one, u8s_take] at this
    have HT := Lib.hid hT
    clear hT
    go_wp2_with (first
    | (go_at_call 39; refine (joinR_any _ _ _ _ _ _ _ _ _ _ p (b.take n) _ (hSt.fact 1 rfl) HT.out (hSt.fhi 1 rfl) (hSt.fhi 2 rfl) (by omega)).mono ?_; rintro e w' ⟨A2, n2, c2, rfl, k1, hb⟩; have l2 := hSt.size; replace hSt := hSt.more hb (.sl _ _ 1 A2 _ c2 _) k1 (Nat.le_refl _) (Nat.le_refl _); clear k1 hb)
    | ((with_reducible refine is_load ?_); first
       | (refine st_load1 tabOk hSt _ (by exact rfl) (by exact rfl) (by exact rfl) (by first | exact own0 | exact own1 | exact own2 | exact own3 | exact own4 | exact own5 | exact own6 | exact own7 | exact own8 | exact own9) (by exact rfl) ?_)
       | (refine st_loadW tabOk hSt _ (by exact rfl) (by exact rfl) (by exact rfl) (by first | exact own0 | exact own1 | exact own2 | exact own3 | exact own4 | exact own5 | exact own6 | exact own7 | exact own8 | exact own9) (by first | exact rfl | simp) ?_))
    | ((with_reducible refine is_store ?_); first
       | (refine st_storeW tabOk hSt _ (by exact rfl) (by exact rfl) (by first | exact own0 | exact own1 | exact own2 | exact own3 | exact own4 | exact own5 | exact own6 | exact own7 | exact own8 | exact own9) (by exact rfl) (by first | exact rfl | simp) (by first | exact rfl | simp) (by first | exact rfl | simp) ?_; clear hSt; intro w hSt; simp only [List.set_cons_zero, List.set_cons_succ] at hSt)
       | (refine st_store1 tabOk hSt _ (by exact rfl) (by exact rfl) (by first | exact own0 | exact own1 | exact own2 | exact own3 | exact own4 | exact own5 | exact own6 | exact own7 | exact own8 | exact own9) (by first | exact evInt (by exact rfl) | exact evSlice (by exact rfl) | exact evBool (by exact rfl) | exact evStr (by exact rfl) | exact evPtr (by exact rfl) | exact evFn (by exact rfl) | exact evIf (by exact rfl) | exact evNil (by exact rfl) | exact evMap (by exact rfl) | exact evNilFn (by exact rfl)) (by exact rfl) (by first | simp | omega) (by exact rfl) ?_; clear hSt; intro w hSt; simp only [List.set_cons_zero, List.set_cons_succ] at hSt))
    | ((with_reducible refine is_alloc ?_); (refine st_alloc tabOk hSt (by exact rfl) ?_; clear hSt; intro w g hSt; dsimp only at hSt))
    | ((with_reducible refine is_box ?_); first
       | (refine st_boxA hSt (by exact rfl) ?_; clear hSt; intro w g hSt)
       | (refine st_box1 hSt (by first | exact evInt (by exact rfl) | exact evSlice (by exact rfl) | exact evBool (by exact rfl) | exact evStr (by exact rfl) | exact evPtr (by exact rfl) | exact evFn (by exact rfl) | exact evIf (by exact rfl) | exact evNil (by exact rfl) | exact evMap (by exact rfl) | exact evNilFn (by exact rfl)) (by exact rfl) ?_; clear hSt; intro w g hSt))
    | ((with_reducible refine is_conv ?_); first
       | (refine st_tostr (by exact rfl) uB uU8 uStr (by exact rfl) (by first | exact hSt.fact 0 rfl | exact hSt.fact 1 rfl | exact hSt.fact 2 rfl | exact hSt.fact 3 rfl | exact hSt.fact 4 rfl | exact hSt.fact 5 rfl | exact hSt.fact 6 rfl | exact hSt.fact 7 rfl | exact hSt.fact 8 rfl | exact hSt.fact 9 rfl | exact hSt.fact 10 rfl | exact hSt.fact 11 rfl | exact hSt.fact 12 rfl | exact hSt.fact 13 rfl | exact hSt.fact 14 rfl | exact hSt.fact 15 rfl | exact hSt.fact 16 rfl | exact hSt.fact 17 rfl | exact hSt.fact 18 rfl | exact hSt.fact 19 rfl | exact hSt.fact 20 rfl | exact hSt.fact 21 rfl | exact hSt.fact 22 rfl | exact hSt.fact 23 rfl) ?_)
       | (refine st_bconst uB uU8 hSt (by exact rfl) (by exact rfl) (by omega) (by simp [maxLen]) ?_; clear hSt; intro w hSt)))
    refine bodyPost_ret (ret2 (by exact rfl) (Res.agg tabOk hSt _ (by exact rfl) (by exact rfl) (by first | exact own0 | exact own1 | exact own2 | exact own3 | exact own4 | exact own5 | exact own6 | exact own7 | exact own8 | exact own9) (by exact rfl)) (by exact rfl)) rfl ?_
    exact ⟨_, rfl, ⟨A, A2, _, n2, c, c2, lo, hi, _, _, rfl, (hSt.fact 1 rfl), .inr (by simp), (hSt.fact 0 rfl), .inl ⟨l2, hSt.fhi 0 rfl⟩⟩, hSt.below⟩
  · by_cases hq : fuel = -1
    · have hR : appendS ⟨s, p, fuel, false⟩ b = (⟨s, p ++ b, -1, false⟩, 0) := by
        subst hq
        simp [appendS, HV.out, hf]
      rw [hR]
      subst hq
      clear hR hf hp
      go_enter Try.func30, Try.ntmps30
      go_wp2_with (first
    | (go_at_call 21; refine (validR_yes _ _ _ _ _ _ _ _ _ h1 h2).mono ?_; rintro e w' ⟨rfl, hb⟩; replace hSt := hSt.call hb; clear hb) | (go_at_call 39; refine (joinR_any _ _ _ _ _ _ _ _ _ _ p b _ (hSt.fact 1 rfl) (hSt.fact 2 rfl) (hSt.fhi 1 rfl) (hSt.fhi 2 rfl) (by omega)).mono ?_; rintro e w' ⟨A2, n2, c2, rfl, k1, hb⟩; have l2 := hSt.size; replace hSt := hSt.more hb (.sl _ _ 1 A2 _ c2 _) k1 (Nat.le_refl _) (Nat.le_refl _); clear k1 hb)
    | ((with_reducible refine is_load ?_); first
       | (refine st_load1 tabOk hSt _ (by exact rfl) (by exact rfl) (by exact rfl) (by first | exact own0 | exact own1 | exact own2 | exact own3 | exact own4 | exact own5 | exact own6 | exact own7 | exact own8 | exact own9) (by exact rfl) ?_)
       | (refine st_loadW tabOk hSt _ (by exact rfl) (by exact rfl) (by exact rfl) (by first | exact own0 | exact own1 | exact own2 | exact own3 | exact own4 | exact own5 | exact own6 | exact own7 | exact own8 | exact own9) (by first | exact rfl | simp) ?_))
    | ((with_reducible refine is_store ?_); first
       | (refine st_storeW tabOk hSt _ (by exact rfl) (by exact rfl) (by first | exact own0 | exact own1 | exact own2 | exact own3 | exact own4 | exact own5 | exact own6 | exact own7 | exact own8 | exact own9) (by exact rfl) (by first | exact rfl | simp) (by first | exact rfl | simp) (by first | exact rfl | simp) ?_; clear hSt; intro w hSt; simp only [List.set_cons_zero, List.set_cons_succ] at hSt)
       | (refine st_store1 tabOk hSt _ (by exact rfl) (by exact rfl) (by first | exact own0 | exact own1 | exact own2 | exact own3 | exact own4 | exact own5 | exact own6 | exact own7 | exact own8 | exact own9) (by first | exact evInt (by exact rfl) | exact evSlice (by exact rfl) | exact evBool (by exact rfl) | exact evStr (by exact rfl) | exact evPtr (by exact rfl) | exact evFn (by exact rfl) | exact evIf (by exact rfl) | exact evNil (by exact rfl) | exact evMap (by exact rfl) | exact evNilFn (by exact rfl)) (by exact rfl) (by first | simp | omega) (by exact rfl) ?_; clear hSt; intro w hSt; simp only [List.set_cons_zero, List.set_cons_succ] at hSt))
    | ((with_reducible refine is_alloc ?_); (refine st_alloc tabOk hSt (by exact rfl) ?_; clear hSt; intro w g hSt; dsimp only at hSt))
    | ((with_reducible refine is_box ?_); first
       | (refine st_boxA hSt (by exact rfl) ?_; clear hSt; intro w g hSt)
       | (refine st_box1 hSt (by first | exact evInt (by exact rfl) | exact evSlice (by exact rfl) | exact evBool (by exact rfl) | exact evStr (by exact rfl) | exact evPtr (by exact rfl) | exact evFn (by exact rfl) | exact evIf (by exact rfl) | exact evNil (by exact rfl) | exact evMap (by exact rfl) | exact evNilFn (by exact rfl)) (by exact rfl) ?_; clear hSt; intro w g hSt))
    | ((with_reducible refine is_conv ?_); first
       | (refine st_tostr (by exact rfl) uB uU8 uStr (by exact rfl) (by first | exact hSt.fact 0 rfl | exact hSt.fact 1 rfl | exact hSt.fact 2 rfl | exact hSt.fact 3 rfl | exact hSt.fact 4 rfl | exact hSt.fact 5 rfl | exact hSt.fact 6 rfl | exact hSt.fact 7 rfl | exact hSt.fact 8 rfl | exact hSt.fact 9 rfl | exact hSt.fact 10 rfl | exact hSt.fact 11 rfl | exact hSt.fact 12 rfl | exact hSt.fact 13 rfl | exact hSt.fact 14 rfl | exact hSt.fact 15 rfl | exact hSt.fact 16 rfl | exact hSt.fact 17 rfl | exact hSt.fact 18 rfl | exact hSt.fact 19 rfl | exact hSt.fact 20 rfl | exact hSt.fact 21 rfl | exact hSt.fact 22 rfl | exact hSt.fact 23 rfl) ?_)
       | (refine st_bconst uB uU8 hSt (by exact rfl) (by exact rfl) (by omega) (by simp [maxLen]) ?_; clear hSt; intro w hSt)))
      refine bodyPost_ret (ret2 (by exact rfl) (Res.agg tabOk hSt _ (by exact rfl) (by exact rfl) (by first | exact own0 | exact own1 | exact own2 | exact own3 | exact own4 | exact own5 | exact own6 | exact own7 | exact own8 | exact own9) (by exact rfl)) (by exact rfl)) rfl ?_
      exact ⟨_, rfl, ⟨A, A2, _, n2, c, c2, lo, hi, _, _, rfl, (hSt.fact 1 rfl), .inr (by simp), (hSt.fact 0 rfl), .inl ⟨l2, hSt.fhi 0 rfl⟩⟩, hSt.below⟩
    · have hR : appendS ⟨s, p, fuel, false⟩ b = (⟨s, p ++ b, fuel - b.length, false⟩, 0) := by
        have : ¬ (fuel ≠ -1 ∧ fuel < b.length) := hp
        simp only [appendS, HV.out, if_true, Bool.false_eq_true, if_false, hf, this, hq]
      rw [hR]
      obtain ⟨n, rfl⟩ : ∃ n : Nat, fuel = n := ⟨fuel.toNat, by omega⟩
      have hn : ¬ n < b.length := by omega
      clear hR hf hp hq
      go_enter Try.func30, Try.ntmps30
      go_wp2_with (first
    | (go_at_call 21; refine (validR_yes _ _ _ _ _ _ _ _ _ h1 h2).mono ?_; rintro e w' ⟨rfl, hb⟩; replace hSt := hSt.call hb; clear hb) | (go_at_call 39; refine (joinR_any _ _ _ _ _ _ _ _ _ _ p b _ (hSt.fact 1 rfl) (hSt.fact 2 rfl) (hSt.fhi 1 rfl) (hSt.fhi 2 rfl) (by omega)).mono ?_; rintro e w' ⟨A2, n2, c2, rfl, k1, hb⟩; have l2 := hSt.size; replace hSt := hSt.more hb (.sl _ _ 1 A2 _ c2 _) k1 (Nat.le_refl _) (Nat.le_refl _); clear k1 hb)
    | ((with_reducible refine is_load ?_); first
       | (refine st_load1 tabOk hSt _ (by exact rfl) (by exact rfl) (by exact rfl) (by first | exact own0 | exact own1 | exact own2 | exact own3 | exact own4 | exact own5 | exact own6 | exact own7 | exact own8 | exact own9) (by exact rfl) ?_)
       | (refine st_loadW tabOk hSt _ (by exact rfl) (by exact rfl) (by exact rfl) (by first | exact own0 | exact own1 | exact own2 | exact own3 | exact own4 | exact own5 | exact own6 | exact own7 | exact own8 | exact own9) (by first | exact rfl | simp) ?_))
    | ((with_reducible refine is_store ?_); first
       | (refine st_storeW tabOk hSt _ (by exact rfl) (by exact rfl) (by first | exact own0 | exact own1 | exact own2 | exact own3 | exact own4 | exact own5 | exact own6 | exact own7 | exact own8 | exact own9) (by exact rfl) (by first | exact rfl | simp) (by first | exact rfl | simp) (by first | exact rfl | simp) ?_; clear hSt; intro w hSt; simp only [List.set_cons_zero, List.set_cons_succ] at hSt)
       | (refine st_store1 tabOk hSt _ (by exact rfl) (by exact rfl) (by first | exact own0 | exact own1 | exact own2 | exact own3 | exact own4 | exact own5 | exact own6 | exact own7 | exact own8 | exact own9) (by first | exact evInt (by exact rfl) | exact evSlice (by exact rfl) | exact evBool (by exact rfl) | exact evStr (by exact rfl) | exact evPtr (by exact rfl) | exact evFn (by exact rfl) | exact evIf (by exact rfl) | exact evNil (by exact rfl) | exact evMap (by exact rfl) | exact evNilFn (by exact rfl)) (by exact rfl) (by first | simp | omega) (by exact rfl) ?_; clear hSt; intro w hSt; simp only [List.set_cons_zero, List.set_cons_succ] at hSt))
    | ((with_reducible refine is_alloc ?_); (refine st_alloc tabOk hSt (by exact rfl) ?_; clear hSt; intro w g hSt; dsimp only at hSt))
    | ((with_reducible refine is_box ?_); first
       | (refine st_boxA hSt (by exact rfl) ?_; clear hSt; intro w g hSt)
       | (refine st_box1 hSt (by first | exact evInt (by exact rfl) | exact evSlice (by exact rfl) | exact evBool (by exact rfl) | exact evStr (by exact rfl) | exact evPtr (by exact rfl) | exact evFn (by exact rfl) | exact evIf (by exact rfl) | exact evNil (by exact rfl) | exact evMap (by exact rfl) | exact evNilFn (by exact rfl)) (by exact rfl) ?_; clear hSt; intro w g hSt))
    | ((with_reducible refine is_conv ?_); first
       | (refine st_tostr (by exact rfl) uB uU8 uStr (by exact rfl) (by first | exact hSt.fact 0 rfl | exact hSt.fact 1 rfl | exact hSt.fact 2 rfl | exact hSt.fact 3 rfl | exact hSt.fact 4 rfl | exact hSt.fact 5 rfl | exact hSt.fact 6 rfl | exact hSt.fact 7 rfl | exact hSt.fact 8 rfl | exact hSt.fact 9 rfl | exact hSt.fact 10 rfl | exact hSt.fact 11 rfl | exact hSt.fact 12 rfl | exact hSt.fact 13 rfl | exact hSt.fact 14 rfl | exact hSt.fact 15 rfl | exact hSt.fact 16 rfl | exact hSt.fact 17 rfl | exact hSt.fact 18 rfl | exact hSt.fact 19 rfl | exact hSt.fact 20 rfl | exact hSt.fact 21 rfl | exact hSt.fact 22 rfl | exact hSt.fact 23 rfl) ?_)
       | (refine st_bconst uB uU8 hSt (by exact rfl) (by exact rfl) (by omega) (by simp [maxLen]) ?_; clear hSt; intro w hSt)))
      refine bodyPost_ret (ret2 (by exact rfl) (Res.agg tabOk hSt _ (by exact rfl) (by exact rfl) (by first | exact own0 | exact own1 | exact own2 | exact own3 | exact own4 | exact own5 | exact own6 | exact own7 | exact own8 | exact own9) (by exact rfl)) (by exact rfl)) rfl ?_
      exact ⟨_, rfl, ⟨A, A2, _, n2, c, c2, lo, hi, _, _, rfl, (hSt.fact 1 rfl), .inr (by simp), (hSt.fact 0 rfl), .inl ⟨l2, hSt.fhi 0 rfl⟩⟩, hSt.below⟩

set_option maxHeartbeats 1000000 in
theorem failR_any (A B : Option Addr) (ns np c d lo hi lo' hi' : Nat) (s p : List UInt8) (fuel f : Int) (down : Bool) (w0 : World) (hx : SlR w0 lo hi 1 A ns c (u8s s)) (hy : SlR w0 lo' hi' 1 B np d (u8s p))
    (i1 : hi ≤ w0.heap.size) (i2 : hi' ≤ w0.heap.size) (h0 : ns ≤ 2^47) (h0' : np ≤ 2^47) :
    Calls Try.prog 32 #[.agg #[.slice A ns c, .slice B np d, .int .i64 fuel, .bool down], .int .i64 f] w0 (RefErr w0 [(lo, hi), (lo', hi')] (failS ⟨s, p, fuel, down⟩ f)) := by
  obtain rfl := hx.len8
  obtain rfl := hy.len8
  have hSt := ((St.init w0).arg (.sl _ _ 1 B _ d _) hy i2).arg (.sl _ _ 1 A _ c _) hx i1
  have hcd := hy.1
  clear hx hy
  cases hv : validB ⟨s, p, fuel, down⟩ with
  | false =>
    have hR : failS ⟨s, p, fuel, down⟩ f = (zeroDk, 1) := by simp [failS, hv]
    rw [hR]
    replace hv := validB_no hv
    clear hR
    go_enter Try.func32, Try.ntmps32
    go_wp2_with (first
    | (go_at_call 21; refine (validR_no _ _ _ _ _ _ _ _ _ h0 h0' hv).mono ?_; rintro e w' ⟨rfl, hb⟩; replace hSt := hSt.call hb; clear hb)
    | ((with_reducible refine is_load ?_); first
       | (refine st_load1 tabOk hSt _ (by exact rfl) (by exact rfl) (by exact rfl) (by first | exact own0 | exact own1 | exact own2 | exact own3 | exact own4 | exact own5 | exact own6 | exact own7 | exact own8 | exact own9) (by exact rfl) ?_)
       | (refine st_loadW tabOk hSt _ (by exact rfl) (by exact rfl) (by exact rfl) (by first | exact own0 | exact own1 | exact own2 | exact own3 | exact own4 | exact own5 | exact own6 | exact own7 | exact own8 | exact own9) (by first | exact rfl | simp) ?_))
    | ((with_reducible refine is_store ?_); first
       | (refine st_storeW tabOk hSt _ (by exact rfl) (by exact rfl) (by first | exact own0 | exact own1 | exact own2 | exact own3 | exact own4 | exact own5 | exact own6 | exact own7 | exact own8 | exact own9) (by exact rfl) (by first | exact rfl | simp) (by first | exact rfl | simp) (by first | exact rfl | simp) ?_; clear hSt; intro w hSt; simp only [List.set_cons_zero, List.set_cons_succ] at hSt)
       | (refine st_store1 tabOk hSt _ (by exact rfl) (by exact rfl) (by first | exact own0 | exact own1 | exact own2 | exact own3 | exact own4 | exact own5 | exact own6 | exact own7 | exact own8 | exact own9) (by first | exact evInt (by exact rfl) | exact evSlice (by exact rfl) | exact evBool (by exact rfl) | exact evStr (by exact rfl) | exact evPtr (by exact rfl) | exact evFn (by exact rfl) | exact evIf (by exact rfl) | exact evNil (by exact rfl) | exact evMap (by exact rfl) | exact evNilFn (by exact rfl)) (by exact rfl) (by first | simp | omega) (by exact rfl) ?_; clear hSt; intro w hSt; simp only [List.set_cons_zero, List.set_cons_succ] at hSt))
    | ((with_reducible refine is_alloc ?_); (refine st_alloc tabOk hSt (by exact rfl) ?_; clear hSt; intro w g hSt; dsimp only at hSt))
    | ((with_reducible refine is_box ?_); first
       | (refine st_boxA hSt (by exact rfl) ?_; clear hSt; intro w g hSt)
       | (refine st_box1 hSt (by first | exact evInt (by exact rfl) | exact evSlice (by exact rfl) | exact evBool (by exact rfl) | exact evStr (by exact rfl) | exact evPtr (by exact rfl) | exact evFn (by exact rfl) | exact evIf (by exact rfl) | exact evNil (by exact rfl) | exact evMap (by exact rfl) | exact evNilFn (by exact rfl)) (by exact rfl) ?_; clear hSt; intro w g hSt))
    | ((with_reducible refine is_conv ?_); first
       | (refine st_tostr (by exact rfl) uB uU8 uStr (by exact rfl) (by first | exact hSt.fact 0 rfl | exact hSt.fact 1 rfl | exact hSt.fact 2 rfl | exact hSt.fact 3 rfl | exact hSt.fact 4 rfl | exact hSt.fact 5 rfl | exact hSt.fact 6 rfl | exact hSt.fact 7 rfl | exact hSt.fact 8 rfl | exact hSt.fact 9 rfl | exact hSt.fact 10 rfl | exact hSt.fact 11 rfl | exact hSt.fact 12 rfl | exact hSt.fact 13 rfl | exact hSt.fact 14 rfl | exact hSt.fact 15 rfl | exact hSt.fact 16 rfl | exact hSt.fact 17 rfl | exact hSt.fact 18 rfl | exact hSt.fact 19 rfl | exact hSt.fact 20 rfl | exact hSt.fact 21 rfl | exact hSt.fact 22 rfl | exact hSt.fact 23 rfl) ?_)
       | (refine st_bconst uB uU8 hSt (by exact rfl) (by exact rfl) (by omega) (by simp [maxLen]) ?_; clear hSt; intro w hSt)))
    refine bodyPost_ret (ret2 (by exact rfl) (Res.agg tabOk hSt _ (by exact rfl) (by exact rfl) (by first | exact own0 | exact own1 | exact own2 | exact own3 | exact own4 | exact own5 | exact own6 | exact own7 | exact own8 | exact own9) (by exact rfl)) (by exact rfl)) rfl ?_
    exact ⟨_, rfl, zeroRef _ _ hSt.size _, hSt.below⟩
  | true =>
  obtain ⟨h1, h2⟩ := validB_yes hv
  have HV := Lib.hid hv
  clear hv
  by_cases hf : -1 ≤ f
  · have hR : failS ⟨s, p, fuel, down⟩ f = (⟨s, p, f, down⟩, 0) := by simp [failS, HV.out, hf]
    rw [hR]
    clear hR
    have hf' : ¬ f < -1 := by omega
    go_enter Try.func32, Try.ntmps32
    go_wp2_with (first
    | (go_at_call 21; refine (validR_yes _ _ _ _ _ _ _ _ _ h1 h2).mono ?_; rintro e w' ⟨rfl, hb⟩; replace hSt := hSt.call hb; clear hb)
    | ((with_reducible refine is_load ?_); first
       | (refine st_load1 tabOk hSt _ (by exact rfl) (by exact rfl) (by exact rfl) (by first | exact own0 | exact own1 | exact own2 | exact own3 | exact own4 | exact own5 | exact own6 | exact own7 | exact own8 | exact own9) (by exact rfl) ?_)
       | (refine st_loadW tabOk hSt _ (by exact rfl) (by exact rfl) (by exact rfl) (by first | exact own0 | exact own1 | exact own2 | exact own3 | exact own4 | exact own5 | exact own6 | exact own7 | exact own8 | exact own9) (by first | exact rfl | simp) ?_))
    | ((with_reducible refine is_store ?_); first
       | (refine st_storeW tabOk hSt _ (by exact rfl) (by exact rfl) (by first | exact own0 | exact own1 | exact own2 | exact own3 | exact own4 | exact own5 | exact own6 | exact own7 | exact own8 | exact own9) (by exact rfl) (by first | exact rfl | simp) (by first | exact rfl | simp) (by first | exact rfl | simp) ?_; clear hSt; intro w hSt; simp only [List.set_cons_zero, List.set_cons_succ] at hSt)
       | (refine st_store1 tabOk hSt _ (by exact rfl) (by exact rfl) (by first | exact own0 | exact own1 | exact own2 | exact own3 | exact own4 | exact own5 | exact own6 | exact own7 | exact own8 | exact own9) (by first | exact evInt (by exact rfl) | exact evSlice (by exact rfl) | exact evBool (by exact rfl) | exact evStr (by exact rfl) | exact evPtr (by exact rfl) | exact evFn (by exact rfl) | exact evIf (by exact rfl) | exact evNil (by exact rfl) | exact evMap (by exact rfl) | exact evNilFn (by exact rfl)) (by exact rfl) (by first | simp | omega) (by exact rfl) ?_; clear hSt; intro w hSt; simp only [List.set_cons_zero, List.set_cons_succ] at hSt))
    | ((with_reducible refine is_alloc ?_); (refine st_alloc tabOk hSt (by exact rfl) ?_; clear hSt; intro w g hSt; dsimp only at hSt))
    | ((with_reducible refine is_box ?_); first
       | (refine st_boxA hSt (by exact rfl) ?_; clear hSt; intro w g hSt)
       | (refine st_box1 hSt (by first | exact evInt (by exact rfl) | exact evSlice (by exact rfl) | exact evBool (by exact rfl) | exact evStr (by exact rfl) | exact evPtr (by exact rfl) | exact evFn (by exact rfl) | exact evIf (by exact rfl) | exact evNil (by exact rfl) | exact evMap (by exact rfl) | exact evNilFn (by exact rfl)) (by exact rfl) ?_; clear hSt; intro w g hSt))
    | ((with_reducible refine is_conv ?_); first
       | (refine st_tostr (by exact rfl) uB uU8 uStr (by exact rfl) (by first | exact hSt.fact 0 rfl | exact hSt.fact 1 rfl | exact hSt.fact 2 rfl | exact hSt.fact 3 rfl | exact hSt.fact 4 rfl | exact hSt.fact 5 rfl | exact hSt.fact 6 rfl | exact hSt.fact 7 rfl | exact hSt.fact 8 rfl | exact hSt.fact 9 rfl | exact hSt.fact 10 rfl | exact hSt.fact 11 rfl | exact hSt.fact 12 rfl | exact hSt.fact 13 rfl | exact hSt.fact 14 rfl | exact hSt.fact 15 rfl | exact hSt.fact 16 rfl | exact hSt.fact 17 rfl | exact hSt.fact 18 rfl | exact hSt.fact 19 rfl | exact hSt.fact 20 rfl | exact hSt.fact 21 rfl | exact hSt.fact 22 rfl | exact hSt.fact 23 rfl) ?_)
       | (refine st_bconst uB uU8 hSt (by exact rfl) (by exact rfl) (by omega) (by simp [maxLen]) ?_; clear hSt; intro w hSt)))
    refine bodyPost_ret (ret2 (by exact rfl) (Res.agg tabOk hSt _ (by exact rfl) (by exact rfl) (by first | exact own0 | exact own1 | exact own2 | exact own3 | exact own4 | exact own5 | exact own6 | exact own7 | exact own8 | exact own9) (by exact rfl)) (by exact rfl)) rfl ?_
    exact ⟨_, rfl, ⟨A, B, _, _, c, d, lo, hi, lo', hi', rfl, (hSt.fact 0 rfl), .inr (by simp), (hSt.fact 1 rfl), .inr (by simp)⟩, hSt.below⟩
  · have hR : failS ⟨s, p, fuel, down⟩ f = (zeroDk, 1) := by simp [failS, hf]
    rw [hR]
    clear hR
    have hf' : f < -1 := by omega
    go_enter Try.func32, Try.ntmps32
    go_wp2_with (first
    | (go_at_call 21; refine (validR_yes _ _ _ _ _ _ _ _ _ h1 h2).mono ?_; rintro e w' ⟨rfl, hb⟩; replace hSt := hSt.call hb; clear hb)
    | ((with_reducible refine is_load ?_); first
       | (refine st_load1 tabOk hSt _ (by exact rfl) (by exact rfl) (by exact rfl) (by first | exact own0 | exact own1 | exact own2 | exact own3 | exact own4 | exact own5 | exact own6 | exact own7 | exact own8 | exact own9) (by exact rfl) ?_)
       | (refine st_loadW tabOk hSt _ (by exact rfl) (by exact rfl) (by exact rfl) (by first | exact own0 | exact own1 | exact own2 | exact own3 | exact own4 | exact own5 | exact own6 | exact own7 | exact own8 | exact own9) (by first | exact rfl | simp) ?_))
    | ((with_reducible refine is_store ?_); first
       | (refine st_storeW tabOk hSt _ (by exact rfl) (by exact rfl) (by first | exact own0 | exact own1 | exact own2 | exact own3 | exact own4 | exact own5 | exact own6 | exact own7 | exact own8 | exact own9) (by exact rfl) (by first | exact rfl | simp) (by first | exact rfl | simp) (by first | exact rfl | simp) ?_; clear hSt; intro w hSt; simp only [List.set_cons_zero, List.set_cons_succ] at hSt)
       | (refine st_store1 tabOk hSt _ (by exact rfl) (by exact rfl) (by first | exact own0 | exact own1 | exact own2 | exact own3 | exact own4 | exact own5 | exact own6 | exact own7 | exact own8 | exact own9) (by first | exact evInt (by exact rfl) | exact evSlice (by exact rfl) | exact evBool (by exact rfl) | exact evStr (by exact rfl) | exact evPtr (by exact rfl) | exact evFn (by exact rfl) | exact evIf (by exact rfl) | exact evNil (by exact rfl) | exact evMap (by exact rfl) | exact evNilFn (by exact rfl)) (by exact rfl) (by first | simp | omega) (by exact rfl) ?_; clear hSt; intro w hSt; simp only [List.set_cons_zero, List.set_cons_succ] at hSt))
    | ((with_reducible refine is_alloc ?_); (refine st_alloc tabOk hSt (by exact rfl) ?_; clear hSt; intro w g hSt; dsimp only at hSt))
    | ((with_reducible refine is_box ?_); first
       | (refine st_boxA hSt (by exact rfl) ?_; clear hSt; intro w g hSt)
       | (refine st_box1 hSt (by first | exact evInt (by exact rfl) | exact evSlice (by exact rfl) | exact evBool (by exact rfl) | exact evStr (by exact rfl) | exact evPtr (by exact rfl) | exact evFn (by exact rfl) | exact evIf (by exact rfl) | exact evNil (by exact rfl) | exact evMap (by exact rfl) | exact evNilFn (by exact rfl)) (by exact rfl) ?_; clear hSt; intro w g hSt))
    | ((with_reducible refine is_conv ?_); first
       | (refine st_tostr (by exact rfl) uB uU8 uStr (by exact rfl) (by first | exact hSt.fact 0 rfl | exact hSt.fact 1 rfl | exact hSt.fact 2 rfl | exact hSt.fact 3 rfl | exact hSt.fact 4 rfl | exact hSt.fact 5 rfl | exact hSt.fact 6 rfl | exact hSt.fact 7 rfl | exact hSt.fact 8 rfl | exact hSt.fact 9 rfl | exact hSt.fact 10 rfl | exact hSt.fact 11 rfl | exact hSt.fact 12 rfl | exact hSt.fact 13 rfl | exact hSt.fact 14 rfl | exact hSt.fact 15 rfl | exact hSt.fact 16 rfl | exact hSt.fact 17 rfl | exact hSt.fact 18 rfl | exact hSt.fact 19 rfl | exact hSt.fact 20 rfl | exact hSt.fact 21 rfl | exact hSt.fact 22 rfl | exact hSt.fact 23 rfl) ?_)
       | (refine st_bconst uB uU8 hSt (by exact rfl) (by exact rfl) (by omega) (by simp [maxLen]) ?_; clear hSt; intro w hSt)))
    refine bodyPost_ret (ret2 (by exact rfl) (Res.agg tabOk hSt _ (by exact rfl) (by exact rfl) (by first | exact own0 | exact own1 | exact own2 | exact own3 | exact own4 | exact own5 | exact own6 | exact own7 | exact own8 | exact own9) (by exact rfl)) (by exact rfl)) rfl ?_
    exact ⟨_, rfl, zeroRef _ _ hSt.size _, hSt.below⟩

set_option maxHeartbeats 1000000 in
theorem crashR_any (A B : Option Addr) (ns np c d lo hi lo' hi' : Nat) (s p : List UInt8) (fuel f : Int) (down : Bool) (w0 : World) (hx : SlR w0 lo hi 1 A ns c (u8s s)) (hy : SlR w0 lo' hi' 1 B np d (u8s p))
    (i1 : hi ≤ w0.heap.size) (i2 : hi' ≤ w0.heap.size) (h0 : ns ≤ 2^47) (h0' : np ≤ 2^47) :
    Calls Try.prog 33 #[.agg #[.slice A ns c, .slice B np d, .int .i64 fuel, .bool down], .int .i64 f] w0 (RefErr w0 [(lo, hi), (lo', hi')] (crashS ⟨s, p, fuel, down⟩ f)) := by
  obtain rfl := hx.len8
  obtain rfl := hy.len8
  have hSt := ((St.init w0).arg (.sl _ _ 1 B _ d _) hy i2).arg (.sl _ _ 1 A _ c _) hx i1
  have hcd := hy.1
  clear hx hy
  cases hv : validB ⟨s, p, fuel, down⟩ with
  | false =>
    have hR : crashS ⟨s, p, fuel, down⟩ f = (zeroDk, 1) := by simp [crashS, hv]
    rw [hR]
    replace hv := validB_no hv
    clear hR
    go_enter Try.func33, Try.ntmps33
    go_wp2_with (first
    | (go_at_call 21; refine (validR_no _ _ _ _ _ _ _ _ _ h0 h0' hv).mono ?_; rintro e w' ⟨rfl, hb⟩; replace hSt := hSt.call hb; clear hb)
    | ((with_reducible refine is_load ?_); first
       | (refine st_load1 tabOk hSt _ (by exact rfl) (by exact rfl) (by exact rfl) (by first | exact own0 | exact own1 | exact own2 | exact own3 | exact own4 | exact own5 | exact own6 | exact own7 | exact own8 | exact own9) (by exact rfl) ?_)
       | (refine st_loadW tabOk hSt _ (by exact rfl) (by exact rfl) (by exact rfl) (by first | exact own0 | exact own1 | exact own2 | exact own3 | exact own4 | exact own5 | exact own6 | exact own7 | exact own8 | exact own9) (by first | exact rfl | simp) ?_))
    | ((with_reducible refine is_store ?_); first
       | (refine st_storeW tabOk hSt _ (by exact rfl) (by exact rfl) (by first | exact own0 | exact own1 | exact own2 | exact own3 | exact own4 | exact own5 | exact own6 | exact own7 | exact own8 | exact own9) (by exact rfl) (by first | exact rfl | simp) (by first | exact rfl | simp) (by first | exact rfl | simp) ?_; clear hSt; intro w hSt; simp only [List.set_cons_zero, List.set_cons_succ] at hSt)
       | (refine st_store1 tabOk hSt _ (by exact rfl) (by exact rfl) (by first | exact own0 | exact own1 | exact own2 | exact own3 | exact own4 | exact own5 | exact own6 | exact own7 | exact own8 | exact own9) (by first | exact evInt (by exact rfl) | exact evSlice (by exact rfl) | exact evBool (by exact rfl) | exact evStr (by exact rfl) | exact evPtr (by exact rfl) | exact evFn (by exact rfl) | exact evIf (by exact rfl) | exact evNil (by exact rfl) | exact evMap (by exact rfl) | exact evNilFn (by exact rfl)) (by exact rfl) (by first | simp | omega) (by exact rfl) ?_; clear hSt; intro w hSt; simp only [List.set_cons_zero, List.set_cons_succ] at hSt))
    | ((with_reducible refine is_alloc ?_); (refine st_alloc tabOk hSt (by exact rfl) ?_; clear hSt; intro w g hSt; dsimp only at hSt))
    | ((with_reducible refine is_box ?_); first
       | (refine st_boxA hSt (by exact rfl) ?_; clear hSt; intro w g hSt)
       | (refine st_box1 hSt (by first | exact evInt (by exact rfl) | exact evSlice (by exact rfl) | exact evBool (by exact rfl) | exact evStr (by exact rfl) | exact evPtr (by exact rfl) | exact evFn (by exact rfl) | exact evIf (by exact rfl) | exact evNil (by exact rfl) | exact evMap (by exact rfl) | exact evNilFn (by exact rfl)) (by exact rfl) ?_; clear hSt; intro w g hSt))
    | ((with_reducible refine is_conv ?_); first
       | (refine st_tostr (by exact rfl) uB uU8 uStr (by exact rfl) (by first | exact hSt.fact 0 rfl | exact hSt.fact 1 rfl | exact hSt.fact 2 rfl | exact hSt.fact 3 rfl | exact hSt.fact 4 rfl | exact hSt.fact 5 rfl | exact hSt.fact 6 rfl | exact hSt.fact 7 rfl | exact hSt.fact 8 rfl | exact hSt.fact 9 rfl | exact hSt.fact 10 rfl | exact hSt.fact 11 rfl | exact hSt.fact 12 rfl | exact hSt.fact 13 rfl | exact hSt.fact 14 rfl | exact hSt.fact 15 rfl | exact hSt.fact 16 rfl | exact hSt.fact 17 rfl | exact hSt.fact 18 rfl | exact hSt.fact 19 rfl | exact hSt.fact 20 rfl | exact hSt.fact 21 rfl | exact hSt.fact 22 rfl | exact hSt.fact 23 rfl) ?_)
       | (refine st_bconst uB uU8 hSt (by exact rfl) (by exact rfl) (by omega) (by simp [maxLen]) ?_; clear hSt; intro w hSt)))
    refine bodyPost_ret (ret2 (by exact rfl) (Res.agg tabOk hSt _ (by exact rfl) (by exact rfl) (by first | exact own0 | exact own1 | exact own2 | exact own3 | exact own4 | exact own5 | exact own6 | exact own7 | exact own8 | exact own9) (by exact rfl)) (by exact rfl)) rfl ?_
    exact ⟨_, rfl, zeroRef _ _ hSt.size _, hSt.below⟩
  | true =>
  obtain ⟨h1, h2⟩ := validB_yes hv
  have HV := Lib.hid hv
  clear hv
  by_cases hn : f < 0
  · have hR : crashS ⟨s, p, fuel, down⟩ f = (⟨s ++ p.take 0, [], -1, false⟩, 0) := by
      simp only [crashS, HV.out, if_true, show min (max f 0) (p.length : Int) = (0 : Nat) by omega, Int.toNat_natCast]
    rw [hR]
    clear hR
    have hp0 : ¬ ((p.length : Int) < 0) := by omega
    go_enter Try.func33, Try.ntmps33
    go_wp2_with (first
    | (go_at_call 21; refine (validR_yes _ _ _ _ _ _ _ _ _ h1 h2).mono ?_; rintro e w' ⟨rfl, hb⟩; replace hSt := hSt.call hb; clear hb)
    | ((with_reducible refine is_load ?_); first
       | (refine st_load1 tabOk hSt _ (by exact rfl) (by exact rfl) (by exact rfl) (by first | exact own0 | exact own1 | exact own2 | exact own3 | exact own4 | exact own5 | exact own6 | exact own7 | exact own8 | exact own9) (by exact rfl) ?_)
       | (refine st_loadW tabOk hSt _ (by exact rfl) (by exact rfl) (by exact rfl) (by first | exact own0 | exact own1 | exact own2 | exact own3 | exact own4 | exact own5 | exact own6 | exact own7 | exact own8 | exact own9) (by first | exact rfl | simp) ?_))
    | ((with_reducible refine is_store ?_); first
       | (refine st_storeW tabOk hSt _ (by exact rfl) (by exact rfl) (by first | exact own0 | exact own1 | exact own2 | exact own3 | exact own4 | exact own5 | exact own6 | exact own7 | exact own8 | exact own9) (by exact rfl) (by first | exact rfl | simp) (by first | exact rfl | simp) (by first | exact rfl | simp) ?_; clear hSt; intro w hSt; simp only [List.set_cons_zero, List.set_cons_succ] at hSt)
       | (refine st_store1 tabOk hSt _ (by exact rfl) (by exact rfl) (by first | exact own0 | exact own1 | exact own2 | exact own3 | exact own4 | exact own5 | exact own6 | exact own7 | exact own8 | exact own9) (by first | exact evInt (by exact rfl) | exact evSlice (by exact rfl) | exact evBool (by exact rfl) | exact evStr (by exact rfl) | exact evPtr (by exact rfl) | exact evFn (by exact rfl) | exact evIf (by exact rfl) | exact evNil (by exact rfl) | exact evMap (by exact rfl) | exact evNilFn (by exact rfl)) (by exact rfl) (by first | simp | omega) (by exact rfl) ?_; clear hSt; intro w hSt; simp only [List.set_cons_zero, List.set_cons_succ] at hSt))
    | ((with_reducible refine is_alloc ?_); (refine st_alloc tabOk hSt (by exact rfl) ?_; clear hSt; intro w g hSt; dsimp only at hSt))
    | ((with_reducible refine is_box ?_); first
       | (refine st_boxA hSt (by exact rfl) ?_; clear hSt; intro w g hSt)
       | (refine st_box1 hSt (by first | exact evInt (by exact rfl) | exact evSlice (by exact rfl) | exact evBool (by exact rfl) | exact evStr (by exact rfl) | exact evPtr (by exact rfl) | exact evFn (by exact rfl) | exact evIf (by exact rfl) | exact evNil (by exact rfl) | exact evMap (by exact rfl) | exact evNilFn (by exact rfl)) (by exact rfl) ?_; clear hSt; intro w g hSt))
    | ((with_reducible refine is_conv ?_); first
       | (refine st_tostr (by exact rfl) uB uU8 uStr (by exact rfl) (by first | exact hSt.fact 0 rfl | exact hSt.fact 1 rfl | exact hSt.fact 2 rfl | exact hSt.fact 3 rfl | exact hSt.fact 4 rfl | exact hSt.fact 5 rfl | exact hSt.fact 6 rfl | exact hSt.fact 7 rfl | exact hSt.fact 8 rfl | exact hSt.fact 9 rfl | exact hSt.fact 10 rfl | exact hSt.fact 11 rfl | exact hSt.fact 12 rfl | exact hSt.fact 13 rfl | exact hSt.fact 14 rfl | exact hSt.fact 15 rfl | exact hSt.fact 16 rfl | exact hSt.fact 17 rfl | exact hSt.fact 18 rfl | exact hSt.fact 19 rfl | exact hSt.fact 20 rfl | exact hSt.fact 21 rfl | exact hSt.fact 22 rfl | exact hSt.fact 23 rfl) ?_)
       | (refine st_bconst uB uU8 hSt (by exact rfl) (by exact rfl) (by omega) (by simp [maxLen]) ?_; clear hSt; intro w hSt)))
    (refine st_tail 6 (by kernel_rfl) (by kernel_rfl) hSt ?_; clear hSt; intro w hSt; simp only [List.take_succ_cons, List.take_zero, List.drop_succ_cons, List.drop_zero]; (repeat (first | ((with_reducible refine isl_load ?_); first | (refine stl_load1 tabOk hSt _ (by exact rfl) (by exact rfl) (by exact rfl) (by first | exact own0 | exact own1 | exact own2 | exact own3 | exact own4 | exact own5 | exact own6 | exact own7 | exact own8 | exact own9) (by exact rfl) ?_) | (refine stl_loadW tabOk hSt _ (by exact rfl) (by exact rfl) (by exact rfl) (by first | exact own0 | exact own1 | exact own2 | exact own3 | exact own4 | exact own5 | exact own6 | exact own7 | exact own8 | exact own9) (by first | exact rfl | simp) ?_)) | ((with_reducible refine isl_conv ?_); (refine stl_tostr (by exact rfl) uB uU8 uStr (by exact rfl) (by first | exact hSt.fact 0 rfl | exact hSt.fact 1 rfl | exact hSt.fact 2 rfl | exact hSt.fact 3 rfl | exact hSt.fact 4 rfl | exact hSt.fact 5 rfl | exact hSt.fact 6 rfl | exact hSt.fact 7 rfl | exact hSt.fact 8 rfl | exact hSt.fact 9 rfl | exact hSt.fact 10 rfl | exact hSt.fact 11 rfl | exact hSt.fact 12 rfl | exact hSt.fact 13 rfl | exact hSt.fact 14 rfl | exact hSt.fact 15 rfl | exact hSt.fact 16 rfl | exact hSt.fact 17 rfl | exact hSt.fact 18 rfl | exact hSt.fact 19 rfl | exact hSt.fact 20 rfl | exact hSt.fact 21 rfl | exact hSt.fact 22 rfl | exact hSt.fact 23 rfl) ?_)) | still_step)); refine wpStill_nil ?_)
    have hT : SlR w lo' hi' 1 B 0 d (u8s (p.take 0)) := by
      have := (hSt.fact 1 rfl : SlR w lo' hi' 1 B p.length d (u8s p)).take 0 (by omega)
      rwa [Nat.mul_one, u8s_take] at this
    have HT := Lib.hid hT
    clear hT
    go_wp2_with (first
    | (go_at_call 39; refine (joinR_any _ _ _ _ _ _ _ _ _ _ s (p.take 0) _ (hSt.fact 0 rfl) HT.out (hSt.fhi 0 rfl) (hSt.fhi 1 rfl) (by omega)).mono ?_; rintro e w' ⟨A2, n2, c2, rfl, k1, hb⟩; have l2 := hSt.size; replace hSt := hSt.more hb (.sl _ _ 1 A2 _ c2 _) k1 (Nat.le_refl _) (Nat.le_refl _); clear k1 hb)
    | ((with_reducible refine is_load ?_); first
       | (refine st_load1 tabOk hSt _ (by exact rfl) (by exact rfl) (by exact rfl) (by first | exact own0 | exact own1 | exact own2 | exact own3 | exact own4 | exact own5 | exact own6 | exact own7 | exact own8 | exact own9) (by exact rfl) ?_)
       | (refine st_loadW tabOk hSt _ (by exact rfl) (by exact rfl) (by exact rfl) (by first | exact own0 | exact own1 | exact own2 | exact own3 | exact own4 | exact own5 | exact own6 | exact own7 | exact own8 | exact own9) (by first | exact rfl | simp) ?_))
    | ((with_reducible refine is_store ?_); first
       | (refine st_storeW tabOk hSt _ (by exact rfl) (by exact rfl) (by first | exact own0 | exact own1 | exact own2 | exact own3 | exact own4 | exact own5 | exact own6 | exact own7 | exact own8 | exact own9) (by exact rfl) (by first | exact rfl | simp) (by first | exact rfl | simp) (by first | exact rfl | simp) ?_; clear hSt; intro w hSt; simp only [List.set_cons_zero, List.set_cons_succ] at hSt)
       | (refine st_store1 tabOk hSt _ (by exact rfl) (by exact rfl) (by first | exact own0 | exact own1 | exact own2 | exact own3 | exact own4 | exact own5 | exact own6 | exact own7 | exact own8 | exact own9) (by first | exact evInt (by exact rfl) | exact evSlice (by exact rfl) | exact evBool (by exact rfl) | exact evStr (by exact rfl) | exact evPtr (by exact rfl) | exact evFn (by exact rfl) | exact evIf (by exact rfl) | exact evNil (by exact rfl) | exact evMap (by exact rfl) | exact evNilFn (by exact rfl)) (by exact rfl) (by first | simp | omega) (by exact rfl) ?_; clear hSt; intro w hSt; simp only [List.set_cons_zero, List.set_cons_succ] at hSt))
    | ((with_reducible refine is_alloc ?_); (refine st_alloc tabOk hSt (by exact rfl) ?_; clear hSt; intro w g hSt; dsimp only at hSt))
    | ((with_reducible refine is_box ?_); first
       | (refine st_boxA hSt (by exact rfl) ?_; clear hSt; intro w g hSt)
       | (refine st_box1 hSt (by first | exact evInt (by exact rfl) | exact evSlice (by exact rfl) | exact evBool (by exact rfl) | exact evStr (by exact rfl) | exact evPtr (by exact rfl) | exact evFn (by exact rfl) | exact evIf (by exact rfl) | exact evNil (by exact rfl) | exact evMap (by exact rfl) | exact evNilFn (by exact rfl)) (by exact rfl) ?_; clear hSt; intro w g hSt))
    | ((with_reducible refine is_conv ?_); first
       | (refine st_tostr (by exact rfl) uB uU8 uStr (by exact rfl) (by first | exact hSt.fact 0 rfl | exact hSt.fact 1 rfl | exact hSt.fact 2 rfl | exact hSt.fact 3 rfl | exact hSt.fact 4 rfl | exact hSt.fact 5 rfl | exact hSt.fact 6 rfl | exact hSt.fact 7 rfl | exact hSt.fact 8 rfl | exact hSt.fact 9 rfl | exact hSt.fact 10 rfl | exact hSt.fact 11 rfl | exact hSt.fact 12 rfl | exact hSt.fact 13 rfl | exact hSt.fact 14 rfl | exact hSt.fact 15 rfl | exact hSt.fact 16 rfl | exact hSt.fact 17 rfl | exact hSt.fact 18 rfl | exact hSt.fact 19 rfl | exact hSt.fact 20 rfl | exact hSt.fact 21 rfl | exact hSt.fact 22 rfl | exact hSt.fact 23 rfl) ?_)
       | (refine st_bconst uB uU8 hSt (by exact rfl) (by exact rfl) (by omega) (by simp [maxLen]) ?_; clear hSt; intro w hSt)))
    refine bodyPost_ret (ret2 (by exact rfl) (Res.agg tabOk hSt _ (by exact rfl) (by exact rfl) (by first | exact own0 | exact own1 | exact own2 | exact own3 | exact own4 | exact own5 | exact own6 | exact own7 | exact own8 | exact own9) (by exact rfl)) (by exact rfl)) rfl ?_
    exact ⟨_, rfl, ⟨A2, none, n2, 0, c2, 0, _, _, w0.heap.size, w0.heap.size, rfl, (hSt.fact 0 rfl), .inl ⟨l2, hSt.fhi 0 rfl⟩, SlR.nil _ _ _ _, .inl ⟨Nat.le_refl _, hSt.size⟩⟩, hSt.below⟩
  · obtain ⟨k, rfl⟩ : ∃ k : Nat, f = k := ⟨f.toNat, by omega⟩
    by_cases hk : k ≤ p.length
    · have hR : crashS ⟨s, p, fuel, down⟩ k = (⟨s ++ p.take k, [], -1, false⟩, 0) := by
        simp only [crashS, HV.out, if_true, show min (max (k : Int) 0) (p.length : Int) = (k : Nat) by omega, Int.toNat_natCast]
      rw [hR]
      clear hR
      have hkd : k ≤ d := by omega
      go_enter Try.func33, Try.ntmps33
      go_wp2_with (first
    | (go_at_call 21; refine (validR_yes _ _ _ _ _ _ _ _ _ h1 h2).mono ?_; rintro e w' ⟨rfl, hb⟩; replace hSt := hSt.call hb; clear hb)
    | ((with_reducible refine is_load ?_); first
       | (refine st_load1 tabOk hSt _ (by exact rfl) (by exact rfl) (by exact rfl) (by first | exact own0 | exact own1 | exact own2 | exact own3 | exact own4 | exact own5 | exact own6 | exact own7 | exact own8 | exact own9) (by exact rfl) ?_)
       | (refine st_loadW tabOk hSt _ (by exact rfl) (by exact rfl) (by exact rfl) (by first | exact own0 | exact own1 | exact own2 | exact own3 | exact own4 | exact own5 | exact own6 | exact own7 | exact own8 | exact own9) (by first | exact rfl | simp) ?_))
    | ((with_reducible refine is_store ?_); first
       | (refine st_storeW tabOk hSt _ (by exact rfl) (by exact rfl) (by first | exact own0 | exact own1 | exact own2 | exact own3 | exact own4 | exact own5 | exact own6 | exact own7 | exact own8 | exact own9) (by exact rfl) (by first | exact rfl | simp) (by first | exact rfl | simp) (by first | exact rfl | simp) ?_; clear hSt; intro w hSt; simp only [List.set_cons_zero, List.set_cons_succ] at hSt)
       | (refine st_store1 tabOk hSt _ (by exact rfl) (by exact rfl) (by first | exact own0 | exact own1 | exact own2 | exact own3 | exact own4 | exact own5 | exact own6 | exact own7 | exact own8 | exact own9) (by first | exact evInt (by exact rfl) | exact evSlice (by exact rfl) | exact evBool (by exact rfl) | exact evStr (by exact rfl) | exact evPtr (by exact rfl) | exact evFn (by exact rfl) | exact evIf (by exact rfl) | exact evNil (by exact rfl) | exact evMap (by exact rfl) | exact evNilFn (by exact rfl)) (by exact rfl) (by first | simp | omega) (by exact rfl) ?_; clear hSt; intro w hSt; simp only [List.set_cons_zero, List.set_cons_succ] at hSt))
    | ((with_reducible refine is_alloc ?_); (refine st_alloc tabOk hSt (by exact rfl) ?_; clear hSt; intro w g hSt; dsimp only at hSt))
    | ((with_reducible refine is_box ?_); first
       | (refine st_boxA hSt (by exact rfl) ?_; clear hSt; intro w g hSt)
       | (refine st_box1 hSt (by first | exact evInt (by exact rfl) | exact evSlice (by exact rfl) | exact evBool (by exact rfl) | exact evStr (by exact rfl) | exact evPtr (by exact rfl) | exact evFn (by exact rfl) | exact evIf (by exact rfl) | exact evNil (by exact rfl) | exact evMap (by exact rfl) | exact evNilFn (by exact rfl)) (by exact rfl) ?_; clear hSt; intro w g hSt))
    | ((with_reducible refine is_conv ?_); first
       | (refine st_tostr (by exact rfl) uB uU8 uStr (by exact rfl) (by first | exact hSt.fact 0 rfl | exact hSt.fact 1 rfl | exact hSt.fact 2 rfl | exact hSt.fact 3 rfl | exact hSt.fact 4 rfl | exact hSt.fact 5 rfl | exact hSt.fact 6 rfl | exact hSt.fact 7 rfl | exact hSt.fact 8 rfl | exact hSt.fact 9 rfl | exact hSt.fact 10 rfl | exact hSt.fact 11 rfl | exact hSt.fact 12 rfl | exact hSt.fact 13 rfl | exact hSt.fact 14 rfl | exact hSt.fact 15 rfl | exact hSt.fact 16 rfl | exact hSt.fact 17 rfl | exact hSt.fact 18 rfl | exact hSt.fact 19 rfl | exact hSt.fact 20 rfl | exact hSt.fact 21 rfl | exact hSt.fact 22 rfl | exact hSt.fact 23 rfl) ?_)
       | (refine st_bconst uB uU8 hSt (by exact rfl) (by exact rfl) (by omega) (by simp [maxLen]) ?_; clear hSt; intro w hSt)))
      (refine st_tail 6 (by kernel_rfl) (by kernel_rfl) hSt ?_; clear hSt; intro w hSt; simp only [List.take_succ_cons, List.take_zero, List.drop_succ_cons, List.drop_zero]; (repeat (first | ((with_reducible refine isl_load ?_); first | (refine stl_load1 tabOk hSt _ (by exact rfl) (by exact rfl) (by exact rfl) (by first | exact own0 | exact own1 | exact own2 | exact own3 | exact own4 | exact own5 | exact own6 | exact own7 | exact own8 | exact own9) (by exact rfl) ?_) | (refine stl_loadW tabOk hSt _ (by exact rfl) (by exact rfl) (by exact rfl) (by first | exact own0 | exact own1 | exact own2 | exact own3 | exact own4 | exact own5 | exact own6 | exact own7 | exact own8 | exact own9) (by first | exact rfl | simp) ?_)) | ((with_reducible refine isl_conv ?_); (refine stl_tostr (by exact rfl) uB uU8 uStr (by exact rfl) (by first | exact hSt.fact 0 rfl | exact hSt.fact 1 rfl | exact hSt.fact 2 rfl | exact hSt.fact 3 rfl | exact hSt.fact 4 rfl | exact hSt.fact 5 rfl | exact hSt.fact 6 rfl | exact hSt.fact 7 rfl | exact hSt.fact 8 rfl | exact hSt.fact 9 rfl | exact hSt.fact 10 rfl | exact hSt.fact 11 rfl | exact hSt.fact 12 rfl | exact hSt.fact 13 rfl | exact hSt.fact 14 rfl | exact hSt.fact 15 rfl | exact hSt.fact 16 rfl | exact hSt.fact 17 rfl | exact hSt.fact 18 rfl | exact hSt.fact 19 rfl | exact hSt.fact 20 rfl | exact hSt.fact 21 rfl | exact hSt.fact 22 rfl | exact hSt.fact 23 rfl) ?_)) | still_step)); refine wpStill_nil ?_)
      have hT : SlR w lo' hi' 1 B k d (u8s (p.take k)) := by
        have := (hSt.fact 1 rfl : SlR w lo' hi' 1 B p.length d (u8s p)).take k (by omega)
        rwa [Nat.mul_one, u8s_take] at this
      have HT := Lib.hid hT
      clear hT
      go_wp2_with (first
    | (go_at_call 39; refine (joinR_any _ _ _ _ _ _ _ _ _ _ s (p.take k) _ (hSt.fact 0 rfl) HT.out (hSt.fhi 0 rfl) (hSt.fhi 1 rfl) (by omega)).mono ?_; rintro e w' ⟨A2, n2, c2, rfl, k1, hb⟩; have l2 := hSt.size; replace hSt := hSt.more hb (.sl _ _ 1 A2 _ c2 _) k1 (Nat.le_refl _) (Nat.le_refl _); clear k1 hb)
    | ((with_reducible refine is_load ?_); first
       | (refine st_load1 tabOk hSt _ (by exact rfl) (by exact rfl) (by exact rfl) (by first | exact own0 | exact own1 | exact own2 | exact own3 | exact own4 | exact own5 | exact own6 | exact own7 | exact own8 | exact own9) (by exact rfl) ?_)
       | (refine st_loadW tabOk hSt _ (by exact rfl) (by exact rfl) (by exact rfl) (by first | exact own0 | exact own1 | exact own2 | exact own3 | exact own4 | exact own5 | exact own6 | exact own7 | exact own8 | exact own9) (by first | exact rfl | simp) ?_))
    | ((with_reducible refine is_store ?_); first
       | (refine st_storeW tabOk hSt _ (by exact rfl) (by exact rfl) (by first | exact own0 | exact own1 | exact own2 | exact own3 | exact own4 | exact own5 | exact own6 | exact own7 | exact own8 | exact own9) (by exact rfl) (by first | exact rfl | simp) (by first | exact rfl | simp) (by first | exact rfl | simp) ?_; clear hSt; intro w hSt; simp only [List.set_cons_zero, List.set_cons_succ] at hSt)
       | (refine st_store1 tabOk hSt _ (by exact rfl) (by exact rfl) (by first | exact own0 | exact own1 | exact own2 | exact own3 | exact own4 | exact own5 | exact own6 | exact own7 | exact own8 | exact own9) (by first | exact evInt (by exact rfl) | exact evSlice (by exact rfl) | exact evBool (by exact rfl) | exact evStr (by exact rfl) | exact evPtr (by exact rfl) | exact evFn (by exact rfl) | exact evIf (by exact rfl) | exact evNil (by exact rfl) | exact evMap (by exact rfl) | exact evNilFn (by exact rfl)) (by exact rfl) (by first | simp | omega) (by exact rfl) ?_; clear hSt; intro w hSt; simp only [List.set_cons_zero, List.set_cons_succ] at hSt))
    | ((with_reducible refine is_alloc ?_); (refine st_alloc tabOk hSt (by exact rfl) ?_; clear hSt; intro w g hSt; dsimp only at hSt))
    | ((with_reducible refine is_box ?_); first
       | (refine st_boxA hSt (by exact rfl) ?_; clear hSt; intro w g hSt)
       | (refine st_box1 hSt (by first | exact evInt (by exact rfl) | exact evSlice (by exact rfl) | exact evBool (by exact rfl) | exact evStr (by exact rfl) | exact evPtr (by exact rfl) | exact evFn (by exact rfl) | exact evIf (by exact rfl) | exact evNil (by exact rfl) | exact evMap (by exact rfl) | exact evNilFn (by exact rfl)) (by exact rfl) ?_; clear hSt; intro w g hSt))
    | ((with_reducible refine is_conv ?_); first
       | (refine st_tostr (by exact rfl) uB uU8 uStr (by exact rfl) (by first | exact hSt.fact 0 rfl | exact hSt.fact 1 rfl | exact hSt.fact 2 rfl | exact hSt.fact 3 rfl | exact hSt.fact 4 rfl | exact hSt.fact 5 rfl | exact hSt.fact 6 rfl | exact hSt.fact 7 rfl | exact hSt.fact 8 rfl | exact hSt.fact 9 rfl | exact hSt.fact 10 rfl | exact hSt.fact 11 rfl | exact hSt.fact 12 rfl | exact hSt.fact 13 rfl | exact hSt.fact 14 rfl | exact hSt.fact 15 rfl | exact hSt.fact 16 rfl | exact hSt.fact 17 rfl | exact hSt.fact 18 rfl | exact hSt.fact 19 rfl | exact hSt.fact 20 rfl | exact hSt.fact 21 rfl | exact hSt.fact 22 rfl | exact hSt.fact 23 rfl) ?_)
       | (refine st_bconst uB uU8 hSt (by exact rfl) (by exact rfl) (by omega) (by simp [maxLen]) ?_; clear hSt; intro w hSt)))
      refine bodyPost_ret (ret2 (by exact rfl) (Res.agg tabOk hSt _ (by exact rfl) (by exact rfl) (by first | exact own0 | exact own1 | exact own2 | exact own3 | exact own4 | exact own5 | exact own6 | exact own7 | exact own8 | exact own9) (by exact rfl)) (by exact rfl)) rfl ?_
      exact ⟨_, rfl, ⟨A2, none, n2, 0, c2, 0, _, _, w0.heap.size, w0.heap.size, rfl, (hSt.fact 0 rfl), .inl ⟨l2, hSt.fhi 0 rfl⟩, SlR.nil _ _ _ _, .inl ⟨Nat.le_refl _, hSt.size⟩⟩, hSt.below⟩
    · have hR : crashS ⟨s, p, fuel, down⟩ k = (⟨s ++ p.take p.length, [], -1, false⟩, 0) := by
        simp only [crashS, HV.out, if_true, show min (max (k : Int) 0) (p.length : Int) = (p.length : Nat) by omega, Int.toNat_natCast]
      rw [hR]
      clear hR
      go_enter Try.func33, Try.ntmps33
      go_wp2_with (first
    | (go_at_call 21; refine (validR_yes _ _ _ _ _ _ _ _ _ h1 h2).mono ?_; rintro e w' ⟨rfl, hb⟩; replace hSt := hSt.call hb; clear hb)
    | ((with_reducible refine is_load ?_); first
       | (refine st_load1 tabOk hSt _ (by exact rfl) (by exact rfl) (by exact rfl) (by first | exact own0 | exact own1 | exact own2 | exact own3 | exact own4 | exact own5 | exact own6 | exact own7 | exact own8 | exact own9) (by exact rfl) ?_)
       | (refine st_loadW tabOk hSt _ (by exact rfl) (by exact rfl) (by exact rfl) (by first | exact own0 | exact own1 | exact own2 | exact own3 | exact own4 | exact own5 | exact own6 | exact own7 | exact own8 | exact own9) (by first | exact rfl | simp) ?_))
    | ((with_reducible refine is_store ?_); first
       | (refine st_storeW tabOk hSt _ (by exact rfl) (by exact rfl) (by first | exact own0 | exact own1 | exact own2 | exact own3 | exact own4 | exact own5 | exact own6 | exact own7 | exact own8 | exact own9) (by exact rfl) (by first | exact rfl | simp) (by first | exact rfl | simp) (by first | exact rfl | simp) ?_; clear hSt; intro w hSt; simp only [List.set_cons_zero, List.set_cons_succ] at hSt)
       | (refine st_store1 tabOk hSt _ (by exact rfl) (by exact rfl) (by first | exact own0 | exact own1 | exact own2 | exact own3 | exact own4 | exact own5 | exact own6 | exact own7 | exact own8 | exact own9) (by first | exact evInt (by exact rfl) | exact evSlice (by exact rfl) | exact evBool (by exact rfl) | exact evStr (by exact rfl) | exact evPtr (by exact rfl) | exact evFn (by exact rfl) | exact evIf (by exact rfl) | exact evNil (by exact rfl) | exact evMap (by exact rfl) | exact evNilFn (by exact rfl)) (by exact rfl) (by first | simp | omega) (by exact rfl) ?_; clear hSt; intro w hSt; simp only [List.set_cons_zero, List.set_cons_succ] at hSt))
    | ((with_reducible refine is_alloc ?_); (refine st_alloc tabOk hSt (by exact rfl) ?_; clear hSt; intro w g hSt; dsimp only at hSt))
    | ((with_reducible refine is_box ?_); first
       | (refine st_boxA hSt (by exact rfl) ?_; clear hSt; intro w g hSt)
       | (refine st_box1 hSt (by first | exact evInt (by exact rfl) | exact evSlice (by exact rfl) | exact evBool (by exact rfl) | exact evStr (by exact rfl) | exact evPtr (by exact rfl) | exact evFn (by exact rfl) | exact evIf (by exact rfl) | exact evNil (by exact rfl) | exact evMap (by exact rfl) | exact evNilFn (by exact rfl)) (by exact rfl) ?_; clear hSt; intro w g hSt))
    | ((with_reducible refine is_conv ?_); first
       | (refine st_tostr (by exact rfl) uB uU8 uStr (by exact rfl) (by first | exact hSt.fact 0 rfl | exact hSt.fact 1 rfl | exact hSt.fact 2 rfl | exact hSt.fact 3 rfl | exact hSt.fact 4 rfl | exact hSt.fact 5 rfl | exact hSt.fact 6 rfl | exact hSt.fact 7 rfl | exact hSt.fact 8 rfl | exact hSt.fact 9 rfl | exact hSt.fact 10 rfl | exact hSt.fact 11 rfl | exact hSt.fact 12 rfl | exact hSt.fact 13 rfl | exact hSt.fact 14 rfl | exact hSt.fact 15 rfl | exact hSt.fact 16 rfl | exact hSt.fact 17 rfl | exact hSt.fact 18 rfl | exact hSt.fact 19 rfl | exact hSt.fact 20 rfl | exact hSt.fact 21 rfl | exact hSt.fact 22 rfl | exact hSt.fact 23 rfl) ?_)
       | (refine st_bconst uB uU8 hSt (by exact rfl) (by exact rfl) (by omega) (by simp [maxLen]) ?_; clear hSt; intro w hSt)))
      (refine st_tail 6 (by kernel_rfl) (by kernel_rfl) hSt ?_; clear hSt; intro w hSt; simp only [List.take_succ_cons, List.take_zero, List.drop_succ_cons, List.drop_zero]; (repeat (first | ((with_reducible refine isl_load ?_); first | (refine stl_load1 tabOk hSt _ (by exact rfl) (by exact rfl) (by exact rfl) (by first | exact own0 | exact own1 | exact own2 | exact own3 | exact own4 | exact own5 | exact own6 | exact own7 | exact own8 | exact own9) (by exact rfl) ?_) | (refine stl_loadW tabOk hSt _ (by exact rfl) (by exact rfl) (by exact rfl) (by first | exact own0 | exact own1 | exact own2 | exact own3 | exact own4 | exact own5 | exact own6 | exact own7 | exact own8 | exact own9) (by first | exact rfl | simp) ?_)) | ((with_reducible refine isl_conv ?_); (refine stl_tostr (by exact rfl) uB uU8 uStr (by exact rfl) (by first | exact hSt.fact 0 rfl | exact hSt.fact 1 rfl | exact hSt.fact 2 rfl | exact hSt.fact 3 rfl | exact hSt.fact 4 rfl | exact hSt.fact 5 rfl | exact hSt.fact 6 rfl | exact hSt.fact 7 rfl | exact hSt.fact 8 rfl | exact hSt.fact 9 rfl | exact hSt.fact 10 rfl | exact hSt.fact 11 rfl | exact hSt.fact 12 rfl | exact hSt.fact 13 rfl | exact hSt.fact 14 rfl | exact hSt.fact 15 rfl | exact hSt.fact 16 rfl | exact hSt.fact 17 rfl | exact hSt.fact 18 rfl | exact hSt.fact 19 rfl | exact hSt.fact 20 rfl | exact hSt.fact 21 rfl | exact hSt.fact 22 rfl | exact hSt.fact 23 rfl) ?_)) | still_step)); refine wpStill_nil ?_)
      have hT : SlR w lo' hi' 1 B p.length d (u8s (p.take p.length)) := by
        have := (hSt.fact 1 rfl : SlR w lo' hi' 1 B p.length d (u8s p)).take p.length (by omega)
        rwa [Nat.mul_one, u8s_take] at this
      have HT := Lib.hid hT
      clear hT
      go_wp2_with (first
    | (go_at_call 39; refine (joinR_any _ _ _ _ _ _ _ _ _ _ s (p.take p.length) _ (hSt.fact 0 rfl) HT.out (hSt.fhi 0 rfl) (hSt.fhi 1 rfl) (by omega)).mono ?_; rintro e w' ⟨A2, n2, c2, rfl, k1, hb⟩; have l2 := hSt.size; replace hSt := hSt.more hb (.sl _ _ 1 A2 _ c2 _) k1 (Nat.le_refl _) (Nat.le_refl _); clear k1 hb)
    | ((with_reducible refine is_load ?_); first
       | (refine st_load1 tabOk hSt _ (by exact rfl) (by exact rfl) (by exact rfl) (by first | exact own0 | exact own1 | exact own2 | exact own3 | exact own4 | exact own5 | exact own6 | exact own7 | exact own8 | exact own9) (by exact rfl) ?_)
       | (refine st_loadW tabOk hSt _ (by exact rfl) (by exact rfl) (by exact rfl) (by first | exact own0 | exact own1 | exact own2 | exact own3 | exact own4 | exact own5 | exact own6 | exact own7 | exact own8 | exact own9) (by first | exact rfl | simp) ?_))
    | ((with_reducible refine is_store ?_); first
       | (refine st_storeW tabOk hSt _ (by exact rfl) (by exact rfl) (by first | exact own0 | exact own1 | exact own2 | exact own3 | exact own4 | exact own5 | exact own6 | exact own7 | exact own8 | exact own9) (by exact rfl) (by first | exact rfl | simp) (by first | exact rfl | simp) (by first | exact rfl | simp) ?_; clear hSt; intro w hSt; simp only [List.set_cons_zero, List.set_cons_succ] at hSt)
       | (refine st_store1 tabOk hSt _ (by exact rfl) (by exact rfl) (by first | exact own0 | exact own1 | exact own2 | exact own3 | exact own4 | exact own5 | exact own6 | exact own7 | exact own8 | exact own9) (by first | exact evInt (by exact rfl) | exact evSlice (by exact rfl) | exact evBool (by exact rfl) | exact evStr (by exact rfl) | exact evPtr (by exact rfl) | exact evFn (by exact rfl) | exact evIf (by exact rfl) | exact evNil (by exact rfl) | exact evMap (by exact rfl) | exact evNilFn (by exact rfl)) (by exact rfl) (by first | simp | omega) (by exact rfl) ?_; clear hSt; intro w hSt; simp only [List.set_cons_zero, List.set_cons_succ] at hSt))
    | ((with_reducible refine is_alloc ?_); (refine st_alloc tabOk hSt (by exact rfl) ?_; clear hSt; intro w g hSt; dsimp only at hSt))
    | ((with_reducible refine is_box ?_); first
       | (refine st_boxA hSt (by exact rfl) ?_; clear hSt; intro w g hSt)
       | (refine st_box1 hSt (by first | exact evInt (by exact rfl) | exact evSlice (by exact rfl) | exact evBool (by exact rfl) | exact evStr (by exact rfl) | exact evPtr (by exact rfl) | exact evFn (by exact rfl) | exact evIf (by exact rfl) | exact evNil (by exact rfl) | exact evMap (by exact rfl) | exact evNilFn (by exact rfl)) (by exact rfl) ?_; clear hSt; intro w g hSt))
    | ((with_reducible refine is_conv ?_); first
       | (refine st_tostr (by exact rfl) uB uU8 uStr (by exact rfl) (by first | exact hSt.fact 0 rfl | exact hSt.fact 1 rfl | exact hSt.fact 2 rfl | exact hSt.fact 3 rfl | exact hSt.fact 4 rfl | exact hSt.fact 5 rfl | exact hSt.fact 6 rfl | exact hSt.fact 7 rfl | exact hSt.fact 8 rfl | exact hSt.fact 9 rfl | exact hSt.fact 10 rfl | exact hSt.fact 11 rfl | exact hSt.fact 12 rfl | exact hSt.fact 13 rfl | exact hSt.fact 14 rfl | exact hSt.fact 15 rfl | exact hSt.fact 16 rfl | exact hSt.fact 17 rfl | exact hSt.fact 18 rfl | exact hSt.fact 19 rfl | exact hSt.fact 20 rfl | exact hSt.fact 21 rfl | exact hSt.fact 22 rfl | exact hSt.fact 23 rfl) ?_)
       | (refine st_bconst uB uU8 hSt (by exact rfl) (by exact rfl) (by omega) (by simp [maxLen]) ?_; clear hSt; intro w hSt)))
      refine bodyPost_ret (ret2 (by exact rfl) (Res.agg tabOk hSt _ (by exact rfl) (by exact rfl) (by first | exact own0 | exact own1 | exact own2 | exact own3 | exact own4 | exact own5 | exact own6 | exact own7 | exact own8 | exact own9) (by exact rfl)) (by exact rfl)) rfl ?_
      exact ⟨_, rfl, ⟨A2, none, n2, 0, c2, 0, _, _, w0.heap.size, w0.heap.size, rfl, (hSt.fact 0 rfl), .inl ⟨l2, hSt.fhi 0 rfl⟩, SlR.nil _ _ _ _, .inl ⟨Nat.le_refl _, hSt.size⟩⟩, hSt.below⟩
end Go.Proofs.Ytddlgdppfeeplaa
