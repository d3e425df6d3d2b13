/-
  The contracts of disk.join and erasureref32.join.
-/
import Derived.Test.YtddlgdppfeeplaaTy
import Derived.Test.YtddlgdppfeeplaaOps
set_option linter.unusedVariables false
set_option linter.unusedSimpArgs false
namespace Go.Proofs.Ytddlgdppfeeplaa
open Go Go.RowKit Go.Er
set_option maxRecDepth 100000

theorem uB : Try.prog.underlying 22 = some (.slice 5) := Try.underlying22
theorem uU8 : Try.prog.underlying 5 = some (.int .u8) := Try.underlying5
theorem uStr : Try.prog.underlying 9 = some .string := Try.underlying9
theorem tB : SlT Try.prog 22 5 (.int .u8 0) 1 1 := ⟨Try.underlying22, by kernel_rfl, rfl, by decide⟩

/-- What a function that makes new bytes hands back. -/
def NewBytes (w : World) (r : List UInt8) (e : Ending) (w' : World) : Prop :=
  ∃ C n k, e = .returned (.slice C n k) ∧ SlR w' w.heap.size w'.heap.size 1 C n k (u8s r) ∧ Below w.heap.size w w'

set_option maxHeartbeats 400000 in
theorem join_any (A B : Option Addr) (nx ny c d lo hi lo' hi' : Nat) (x y : List UInt8) (w0 : World) (hx : SlR w0 lo hi 1 A nx c (u8s x)) (hy : SlR w0 lo' hi' 1 B ny d (u8s y)) (h1 : hi ≤ w0.heap.size) (h2 : hi' ≤ w0.heap.size) (hn : nx + ny ≤ 1000000) :
    Calls Try.prog 27 #[.slice A nx c, .slice B ny d] w0 (NewBytes w0 (x ++ y)) := by
  obtain rfl := hx.len8
  obtain rfl := hy.len8
  have hSt := ((St.init w0).arg (.sl _ _ 1 A _ c _) hx h1).arg (.sl _ _ 1 B _ d _) hy h2
  have HNX := Lib.hid (u8s_length x)
  have HNY := Lib.hid (u8s_length y)
  have HA : Hid ((x ++ y).length = x.length + y.length) := List.length_append
  have hlx : x.length ≤ 1000000 := by omega
  have hly : y.length ≤ 1000000 := by omega
  clear hx hy
  generalize x.length = nx at *
  generalize y.length = ny at *
  have HL : Hid ((splice (zrow (.int .u8 0) (nx + ny)) 0 (u8s x)).length = nx + ny) := by
    show _ = _
    rw [length_splice _ _ _ (by rw [zrow_length, HNX.out]; omega), zrow_length]
  have HF : Hid (splice (splice (zrow (.int .u8 0) (nx + ny)) 0 (u8s x)) nx (u8s y) = u8s (x ++ y)) := by
    show _ = _
    have := splice_two (zrow (.int .u8 0) (nx + ny)) (u8s x) (u8s y) (by rw [zrow_length, HNX.out, HNY.out])
    rw [HNX.out] at this
    rw [this, u8s_append]
  have HF2 : Hid ((u8s (x ++ y)).length = (nx + ny) * 1) := by
    show _ = _
    rw [u8s_append, List.length_append, HNX.out, HNY.out, Nat.mul_one]
  rcases Nat.eq_zero_or_pos ny with h0 | h0
  · subst h0
    go_enter Try.func27, Try.ntmps27
    go_wp2_with (first
    | ((with_reducible refine is_make ?_); (refine st_make tB rfl hSt (nx + 0) (by exact rfl) (by exact rfl) (by first | rfl | (simp; done) | omega) (by first | rfl | (simp; done) | omega) (by omega) (by simp only [maxLen]; omega) ?_; clear hSt; intro w g hSt)) | ((with_reducible refine is_copy (x := .tmp 13) (y := .tmp 14) ?_); (refine st_copy tB hSt 0 (by exact rfl) (by exact rfl) _ 0 (by first | exact own0 | exact own1 | exact own2 | exact own3 | exact own4 | exact own5 | exact own6 | exact own7 | exact own8 | exact own9) (u8s x) (hSt.fact 1 rfl) (by omega) (by first | exact fun _ => rfl | (intro _; omega)) (by rw [zrow_length]; omega) (u8s_one _) ?_; clear hSt; intro w hSt; simp only [List.set_cons_zero, List.set_cons_succ] at hSt)) | ((with_reducible refine is_copy (x := .tmp 18) (y := .tmp 19) ?_); (refine st_copy tB hSt 0 (by exact rfl) (by exact rfl) _ nx (by first | exact own0 | exact own1 | exact own2 | exact own3 | exact own4 | exact own5 | exact own6 | exact own7 | exact own8 | exact own9) (u8s y) (hSt.fact 0 rfl) (by omega) (by first | exact fun _ => rfl | (intro _; omega)) (by rw [HL.out]; omega) (u8s_one _) ?_; clear hSt; intro w hSt; simp only [List.set_cons_zero, List.set_cons_succ] at hSt))
    | ((with_reducible refine is_load ?_); first
       | (refine st_load1 tabOk hSt _ (by exact rfl) (by exact rfl) (by exact rfl) (by first | exact own0 | exact own1 | exact own2 | exact own3 | exact own4 | exact own5 | exact own6 | exact own7 | exact own8 | exact own9) (by exact rfl) ?_)
       | (refine st_loadW tabOk hSt _ (by exact rfl) (by exact rfl) (by exact rfl) (by first | exact own0 | exact own1 | exact own2 | exact own3 | exact own4 | exact own5 | exact own6 | exact own7 | exact own8 | exact own9) (by first | exact rfl | simp) ?_))
    | ((with_reducible refine is_store ?_); first
       | (refine st_storeW tabOk hSt _ (by exact rfl) (by exact rfl) (by first | exact own0 | exact own1 | exact own2 | exact own3 | exact own4 | exact own5 | exact own6 | exact own7 | exact own8 | exact own9) (by exact rfl) (by first | exact rfl | simp) (by first | exact rfl | simp) (by first | exact rfl | simp) ?_; clear hSt; intro w hSt; simp only [List.set_cons_zero, List.set_cons_succ] at hSt)
       | (refine st_store1 tabOk hSt _ (by exact rfl) (by exact rfl) (by first | exact own0 | exact own1 | exact own2 | exact own3 | exact own4 | exact own5 | exact own6 | exact own7 | exact own8 | exact own9) (by first | exact evInt (by exact rfl) | exact evSlice (by exact rfl) | exact evBool (by exact rfl) | exact evStr (by exact rfl) | exact evPtr (by exact rfl) | exact evFn (by exact rfl) | exact evIf (by exact rfl) | exact evNil (by exact rfl) | exact evMap (by exact rfl) | exact evNilFn (by exact rfl)) (by exact rfl) (by first | simp | omega) (by exact rfl) ?_; clear hSt; intro w hSt; simp only [List.set_cons_zero, List.set_cons_succ] at hSt))
    | ((with_reducible refine is_alloc ?_); (refine st_alloc tabOk hSt (by exact rfl) ?_; clear hSt; intro w g hSt; dsimp only at hSt))
    | ((with_reducible refine is_box ?_); first
       | (refine st_boxA hSt (by exact rfl) ?_; clear hSt; intro w g hSt)
       | (refine st_box1 hSt (by first | exact evInt (by exact rfl) | exact evSlice (by exact rfl) | exact evBool (by exact rfl) | exact evStr (by exact rfl) | exact evPtr (by exact rfl) | exact evFn (by exact rfl) | exact evIf (by exact rfl) | exact evNil (by exact rfl) | exact evMap (by exact rfl) | exact evNilFn (by exact rfl)) (by exact rfl) ?_; clear hSt; intro w g hSt))
    | ((with_reducible refine is_conv ?_); first
       | (refine st_tostr (by exact rfl) uB uU8 uStr (by exact rfl) (by first | exact hSt.fact 0 rfl | exact hSt.fact 1 rfl | exact hSt.fact 2 rfl | exact hSt.fact 3 rfl | exact hSt.fact 4 rfl | exact hSt.fact 5 rfl | exact hSt.fact 6 rfl | exact hSt.fact 7 rfl | exact hSt.fact 8 rfl | exact hSt.fact 9 rfl | exact hSt.fact 10 rfl | exact hSt.fact 11 rfl) ?_)
       | (refine st_bconst uB uU8 hSt (by exact rfl) (by exact rfl) (by omega) (by simp [maxLen]) ?_; clear hSt; intro w hSt)))
    go_ret
    rw [HF.out] at hSt
    refine ⟨some ⟨g, 0, none⟩, nx + 0, nx + 0, rfl, ?_, hSt.below⟩
    exact SlR.of_blk (hSt.blk 0 rfl) (hSt.lo_ 0 rfl g rfl) (lt_of_block (hSt.blk 0 rfl)) HF2.out (by simp only [maxLen]; omega)
  · have h0' : ¬ nx + ny = nx := by omega
    go_enter Try.func27, Try.ntmps27
    go_wp2_with (first
    | ((with_reducible refine is_make ?_); (refine st_make tB rfl hSt (nx + ny) (by exact rfl) (by exact rfl) (by first | rfl | (simp; done) | omega) (by first | rfl | (simp; done) | omega) (by omega) (by simp only [maxLen]; omega) ?_; clear hSt; intro w g hSt)) | ((with_reducible refine is_copy (x := .tmp 13) (y := .tmp 14) ?_); (refine st_copy tB hSt 0 (by exact rfl) (by exact rfl) _ 0 (by first | exact own0 | exact own1 | exact own2 | exact own3 | exact own4 | exact own5 | exact own6 | exact own7 | exact own8 | exact own9) (u8s x) (hSt.fact 1 rfl) (by omega) (by first | exact fun _ => rfl | (intro _; omega)) (by rw [zrow_length]; omega) (u8s_one _) ?_; clear hSt; intro w hSt; simp only [List.set_cons_zero, List.set_cons_succ] at hSt)) | ((with_reducible refine is_copy (x := .tmp 18) (y := .tmp 19) ?_); (refine st_copy tB hSt 0 (by exact rfl) (by exact rfl) _ nx (by first | exact own0 | exact own1 | exact own2 | exact own3 | exact own4 | exact own5 | exact own6 | exact own7 | exact own8 | exact own9) (u8s y) (hSt.fact 0 rfl) (by omega) (by first | exact fun _ => rfl | (intro _; omega)) (by rw [HL.out]; omega) (u8s_one _) ?_; clear hSt; intro w hSt; simp only [List.set_cons_zero, List.set_cons_succ] at hSt))
    | ((with_reducible refine is_load ?_); first
       | (refine st_load1 tabOk hSt _ (by exact rfl) (by exact rfl) (by exact rfl) (by first | exact own0 | exact own1 | exact own2 | exact own3 | exact own4 | exact own5 | exact own6 | exact own7 | exact own8 | exact own9) (by exact rfl) ?_)
       | (refine st_loadW tabOk hSt _ (by exact rfl) (by exact rfl) (by exact rfl) (by first | exact own0 | exact own1 | exact own2 | exact own3 | exact own4 | exact own5 | exact own6 | exact own7 | exact own8 | exact own9) (by first | exact rfl | simp) ?_))
    | ((with_reducible refine is_store ?_); first
       | (refine st_storeW tabOk hSt _ (by exact rfl) (by exact rfl) (by first | exact own0 | exact own1 | exact own2 | exact own3 | exact own4 | exact own5 | exact own6 | exact own7 | exact own8 | exact own9) (by exact rfl) (by first | exact rfl | simp) (by first | exact rfl | simp) (by first | exact rfl | simp) ?_; clear hSt; intro w hSt; simp only [List.set_cons_zero, List.set_cons_succ] at hSt)
       | (refine st_store1 tabOk hSt _ (by exact rfl) (by exact rfl) (by first | exact own0 | exact own1 | exact own2 | exact own3 | exact own4 | exact own5 | exact own6 | exact own7 | exact own8 | exact own9) (by first | exact evInt (by exact rfl) | exact evSlice (by exact rfl) | exact evBool (by exact rfl) | exact evStr (by exact rfl) | exact evPtr (by exact rfl) | exact evFn (by exact rfl) | exact evIf (by exact rfl) | exact evNil (by exact rfl) | exact evMap (by exact rfl) | exact evNilFn (by exact rfl)) (by exact rfl) (by first | simp | omega) (by exact rfl) ?_; clear hSt; intro w hSt; simp only [List.set_cons_zero, List.set_cons_succ] at hSt))
    | ((with_reducible refine is_alloc ?_); (refine st_alloc tabOk hSt (by exact rfl) ?_; clear hSt; intro w g hSt; dsimp only at hSt))
    | ((with_reducible refine is_box ?_); first
       | (refine st_boxA hSt (by exact rfl) ?_; clear hSt; intro w g hSt)
       | (refine st_box1 hSt (by first | exact evInt (by exact rfl) | exact evSlice (by exact rfl) | exact evBool (by exact rfl) | exact evStr (by exact rfl) | exact evPtr (by exact rfl) | exact evFn (by exact rfl) | exact evIf (by exact rfl) | exact evNil (by exact rfl) | exact evMap (by exact rfl) | exact evNilFn (by exact rfl)) (by exact rfl) ?_; clear hSt; intro w g hSt))
    | ((with_reducible refine is_conv ?_); first
       | (refine st_tostr (by exact rfl) uB uU8 uStr (by exact rfl) (by first | exact hSt.fact 0 rfl | exact hSt.fact 1 rfl | exact hSt.fact 2 rfl | exact hSt.fact 3 rfl | exact hSt.fact 4 rfl | exact hSt.fact 5 rfl | exact hSt.fact 6 rfl | exact hSt.fact 7 rfl | exact hSt.fact 8 rfl | exact hSt.fact 9 rfl | exact hSt.fact 10 rfl | exact hSt.fact 11 rfl) ?_)
       | (refine st_bconst uB uU8 hSt (by exact rfl) (by exact rfl) (by omega) (by simp [maxLen]) ?_; clear hSt; intro w hSt)))
    go_ret
    rw [HF.out] at hSt
    refine ⟨some ⟨g, 0, none⟩, nx + ny, nx + ny, rfl, ?_, hSt.below⟩
    exact SlR.of_blk (hSt.blk 0 rfl) (hSt.lo_ 0 rfl g rfl) (lt_of_block (hSt.blk 0 rfl)) HF2.out (by simp only [maxLen]; omega)
end Go.Proofs.Ytddlgdppfeeplaa
