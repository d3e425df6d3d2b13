/-
  The permutation of the digest (walk), as the program and as the reference have it.
-/
import Derived.Test.YtgofigkhdjjlmaaD1
import Derived.Test.YtgofigkhdjjlmaaAvV
import Derived.Test.YtgofigkhdjjlmaaAvT
set_option linter.unusedVariables false
set_option linter.unusedSimpArgs false
namespace Go.Proofs.Ytgofigkhdjjlmaa
open Go Go.RowKit Go.Av
set_option maxRecDepth 100000
attribute [local irreducible] Still Adds AWL AW Drw AC AWR Weak Frz Src RetK Out

/-- The five words. -/
structure S5 where
  a : BitVec 64
  b : BitVec 64
  c : BitVec 64
  d : BitVec 64
  e : BitVec 64
deriving DecidableEq
def S5.cs (s : S5) : List CV := [wv s.a, wv s.b, wv s.c, wv s.d, wv s.e]
/-- One round, with its constant. -/
def rnd (k : BitVec 64) (s : S5) : S5 :=
  let c := s.c ^^^ k
  let a := s.a ^^^ s.e
  let e := s.e ^^^ s.d
  let c := c ^^^ s.b
  let t0 := ~~~a &&& s.b
  let t1 := ~~~s.b &&& c
  let t2 := ~~~c &&& s.d
  let t3 := ~~~s.d &&& e
  let t4 := ~~~e &&& a
  let a := a ^^^ t1
  let b := s.b ^^^ t2
  let c := c ^^^ t3
  let d := s.d ^^^ t4
  let e := e ^^^ t0
  let b := b ^^^ a
  let a := a ^^^ e
  let d := d ^^^ c
  let c := ~~~c
  ⟨mix a 19 28, mix b 61 39, mix c 1 6, mix d 10 17, mix e 7 41⟩
def rk (r : Nat) : BitVec 64 := BitVec.ofInt 64 (240 - 15 * (r : Int))
def perm : Nat → S5 → S5
  | 0, s => s
  | r + 1, s => rnd (rk r) (perm r s)
def permute (s : S5) : S5 := perm 12 s

theorem rk_lt (r : Nat) : True := trivial
abbrev z5 : List CV := [.v (.int .u64 0), .v (.int .u64 0), .v (.int .u64 0), .v (.int .u64 0), .v (.int .u64 0)]
set_option maxHeartbeats 4000000 in
theorem permute_ok (s : S5) : AC Try.prog 30 [.agg s.cs] (.c (.agg (permute s).cs)) [] 0 := by
  refine ac_enter tabOk (sz := 139) Try.func30 rfl (by rw [Try.ntmps30]; rfl) ?_
  repeat' (first
    | ((with_reducible refine isC_any ?_); (first | ((with_reducible refine aw_seqk ?_); intro K hK hX) | ((with_reducible refine isC_reg ?_); refine aw_prune [0, 1, 2, 3, 4, 5] rfl rfl ?_; with_reducible refine aw_region ?_) | ((with_reducible refine isC_cond ?_); (first | (refine aw_condT rfl rfl ?_) | (refine aw_condF rfl rfl ?_) | (refine aw_condT rfl (by first | rfl | assumption | exact decide_eq_true (by omega) | (simp only [*] <;> fail) | fail) ?_) | (refine aw_condF rfl (by first | rfl | assumption | exact decide_eq_false (by omega) | (simp only [*] <;> fail) | fail) ?_))) | (with_reducible refine aw_block ?_) | (with_reducible refine aw_skip ?_) | (with_reducible refine aw_exit ?_) | (with_reducible refine aw_ret ?_)))
    | ((with_reducible refine isA_store ?_); (first | (refine f_store1 tabOk g_none rfl rfl rfl rfl rfl rfl rfl ?_) | (refine f_store1r tabOk g_none rfl rfl rfl rfl rfl rfl rfl ?_) | (refine awl_store1r tabOk g_none rfl rfl rfl rfl rfl rfl (by first | fail | exact Nat.le_of_ble_eq_true rfl | omega | (simp; omega)) ?_) | (refine awl_storeA tabOk g_none rfl rfl rfl (by first | exact Parts.mixed _ | exact Parts.closed _) (by rfl) (by rfl) rfl (by decide) (by rfl) ?_) | (refine awl_storeAr tabOk g_none rfl rfl rfl (by first | rfl | (simp <;> fail) | omega | (simp; omega)) rfl (by first | exact Nat.le_of_ble_eq_true rfl | omega | (simp; omega)) (by first | exact lay_whole _ _ (by first | rfl | (simp <;> fail) | omega | (simp; omega)) | rfl) ?_)))
    | ((with_reducible refine isA_alloc ?_); (refine y_a g_none rfl ?_); (first | refine ey_i (a_allocR tabOk rfl rfl rfl rfl) rfl ?_ | refine ey_i (a_alloc tabOk rfl rfl) rfl ?_))
    | ((with_reducible refine isA_box ?_); (refine y_a g_none rfl ?_); (first | refine ey_i (a_boxR (tab := tab) rfl rfl rfl) rfl ?_ | refine ey_i (a_box1 rfl rfl) rfl ?_ | refine ey_i (a_boxA rfl (by first | exact Parts.mixed _ | exact Parts.closed _)) rfl ?_))
    | ((refine x_a g_none rfl ?_); (first
      | ((with_reducible refine e_move ?_); (first | refine ex_i (s_move rfl) ?_))
      | ((with_reducible refine e_load ?_); (first | refine ex_i (s_load1 tabOk rfl rfl rfl rfl (by first | rfl | fail)) ?_ | refine ex_i (s_load1r tabOk rfl rfl rfl rfl (by first | rfl | fail)) ?_ | refine ex_i (s_load1i tabOk rfl rfl rfl (by first | rfl | fail)) ?_ | refine ex_i (s_loadA tabOk rfl rfl rfl rfl rfl rfl (by first | exact IsAgg.closed rfl rfl | exact IsAgg.mixed _)) ?_ | refine ex_i (s_loadAr tabOk rfl rfl rfl rfl (by first | fail | exact whole0 (by first | rfl | omega) | rfl) (by first | rfl | (simp <;> fail) | omega | (simp; omega))) ?_ | refine ex_i (s_loadAi tabOk rfl rfl rfl (by first | fail | exact whole0 (by first | rfl | omega) | rfl) (by first | rfl | (simp <;> fail) | omega | (simp; omega))) ?_))
      | ((with_reducible refine e_ixA ?_); (first | refine ex_i (s_ixC tabOk rfl rfl (by first | with_reducible exact cast_self _ | with_reducible exact cast_lit _ | exact nt (by omega) | rfl) rfl rfl rfl rfl (by first | exact Nat.le_of_ble_eq_true rfl | omega | (simp; omega))) ?_ | refine ex_i (s_ixO tabOk rfl rfl (by first | with_reducible exact cast_self _ | with_reducible exact cast_lit _ | exact nt (by omega) | rfl) rfl rfl rfl rfl (by first | exact Nat.le_of_ble_eq_true rfl | omega | (simp; omega))) ?_ | refine ex_i (s_ixA tabOk rfl rfl (by first | with_reducible exact cast_self _ | with_reducible exact cast_lit _ | exact nt (by omega) | rfl) rfl rfl rfl (by first | exact Nat.le_of_ble_eq_true rfl | omega | (simp; omega))) ?_ | refine ex_i (s_ixAi tabOk rfl rfl (by first | with_reducible exact cast_self _ | with_reducible exact cast_lit _ | exact nt (by omega) | rfl) rfl rfl rfl (by first | exact Nat.le_of_ble_eq_true rfl | omega | (simp; omega))) ?_))
      | ((with_reducible refine e_bin ?_); (first | refine ex_i (s_arit64 rfl rfl rfl (by first | (simp only [Int.reduceAdd, Int.reduceSub, Int.reduceMul]; exact w64 (by omega) (by omega)) | exact w64 (by omega) (by omega) | exact wu64 (by omega) (by omega) | exact wu8 (by omega) (by omega) | rfl)) ?_ | refine ex_i (s_word rfl (by first | exact isW_rfl | exact isW_lit rfl) rfl (by first | exact isW_rfl | exact isW_lit rfl) rfl) ?_ | refine ex_i (s_cmp rfl rfl rfl rfl) ?_ | refine ex_i (s_arit rfl rfl rfl (by first | (simp only [Int.reduceAdd, Int.reduceSub, Int.reduceMul]; exact w64 (by omega) (by omega)) | exact w64 (by omega) (by omega) | exact wu64 (by omega) (by omega) | exact wu8 (by omega) (by omega) | rfl)) ?_ | refine ex_i (s_and rfl rfl rfl) ?_ | refine ex_i (s_xor rfl rfl rfl) ?_))
      | ((with_reducible refine e_assign ?_); (first | refine ex_i (s_assign rfl) ?_))
      | ((with_reducible refine e_un ?_); (first | refine ex_i (s_not rfl rfl) ?_ | refine ex_i (s_complW rfl (by first | exact isW_rfl | exact isW_lit rfl)) ?_ | refine ex_i (s_neg rfl (by first | exact w64 (by omega) (by omega) | rfl)) ?_ | refine ex_i (s_compl rfl rfl) ?_))
      | ((with_reducible refine e_conv ?_); (first | refine ex_i (s_convWB rfl (by first | exact isW_rfl | exact isW_lit rfl) tabOk rfl rfl rfl) ?_ | refine ex_i (s_convWW rfl (by first | exact isW_rfl | exact isW_lit rfl) tabOk rfl rfl rfl) ?_ | refine ex_i (s_convBW rfl tabOk rfl rfl rfl) ?_ | refine ex_i (s_convIW rfl tabOk rfl rfl rfl) ?_ | refine ex_i (s_convInt tabOk rfl rfl rfl rfl (by first | (simp only [Int.reduceAdd, Int.reduceSub, Int.reduceMul]; exact w64 (by omega) (by omega)) | exact w64 (by omega) (by omega) | exact wu64 (by omega) (by omega) | exact wu8 (by omega) (by omega) | rfl)) ?_ | refine ex_i (s_convStr tabOk rfl rfl rfl rfl) ?_ | refine ex_i (s_toStr tabOk rfl rfl rfl rfl rfl rfl rfl (by first | exact frz_c cv_rfl | exact frz_c cv_nil | exact frz_ownW rfl rfl (by first | rfl | (simp <;> fail) | omega | (simp; omega)))) ?_))
      | ((with_reducible refine e_build ?_); (first | refine ex_i (s_buildA tabOk rfl rfl rfl rfl (cellsLF_ok rfl) (by rfl) (by first | exact IsAgg.closed rfl rfl | exact IsAgg.mixed _)) ?_ | refine ex_i (s_build tabOk rfl rfl rfl rfl (cellsLF_ok rfl) (by rfl) (by first | exact IsAgg.closed rfl rfl | exact IsAgg.mixed _)) ?_))))
    | (with_reducible refine awl_nil ?_)
    | (refine hK _ _ _ _ ?_; clear hK hX K)
    | (refine hX _ _ _ _ _ (by simp) ?_; clear hK hX K)
    | (with_reducible refine k_then ?_)
    | (with_reducible refine k_thenX ?_)
    | (with_reducible refine k_thenR ?_)
    | (with_reducible refine k_blk ?_)
    | (with_reducible refine k_blkR ?_)
    | (refine k_blkH rfl ?_)
    | (refine k_blkM rfl ?_))
  refine aw_loopk 2 (fun r : Nat => [(1, .ref 0 0), (2, .ref 1 0), (5, .c (iv r))]) (fun r => [(0, .row 30 (perm r s).cs), (1, .row 30 z5)]) [] (fun r => r ≤ 12) (fun r => 12 - r) 0 (by omega) (by refine weak_mk rfl ?_ ?_ rfl <;> (repeat' (first | exact weakE_nil | exact weakH_nil | refine weakE_cons rfl (by first | rfl | exact own_eq rfl rfl (by omega) | exact int_eq (by omega) | (simp <;> fail) | (congr 4; omega) | (congr 3; omega) | (congr 2; omega)) rfl ?_ | refine weakH_cons rfl (by first | rfl | exact own_eq rfl rfl (by omega) | exact int_eq (by omega) | (simp <;> fail) | (congr 4; omega) | (congr 3; omega) | (congr 2; omega)) rfl ?_))) ?_
  intro r hr K hK hX
  by_cases hlt : r < 12
  · repeat' (first
    | ((with_reducible refine isC_any ?_); (first | ((with_reducible refine aw_seqk ?_); intro K hK hX) | ((with_reducible refine isC_reg ?_); refine aw_prune [0, 1, 2, 3, 4, 5] rfl rfl ?_; with_reducible refine aw_region ?_) | ((with_reducible refine isC_cond ?_); (first | (refine aw_condT rfl rfl ?_) | (refine aw_condF rfl rfl ?_) | (refine aw_condT rfl (by first | rfl | assumption | exact decide_eq_true (by omega) | (simp only [*] <;> fail) | fail) ?_) | (refine aw_condF rfl (by first | rfl | assumption | exact decide_eq_false (by omega) | (simp only [*] <;> fail) | fail) ?_))) | (with_reducible refine aw_block ?_) | (with_reducible refine aw_skip ?_) | (with_reducible refine aw_exit ?_) | (with_reducible refine aw_ret ?_)))
    | ((with_reducible refine isA_store ?_); (first | (refine f_store1 tabOk g_none rfl rfl rfl rfl rfl rfl rfl ?_) | (refine f_store1r tabOk g_none rfl rfl rfl rfl rfl rfl rfl ?_) | (refine awl_store1r tabOk g_none rfl rfl rfl rfl rfl rfl (by first | fail | exact Nat.le_of_ble_eq_true rfl | omega | (simp; omega)) ?_) | (refine awl_storeA tabOk g_none rfl rfl rfl (by first | exact Parts.mixed _ | exact Parts.closed _) (by rfl) (by rfl) rfl (by decide) (by rfl) ?_) | (refine awl_storeAr tabOk g_none rfl rfl rfl (by first | rfl | (simp <;> fail) | omega | (simp; omega)) rfl (by first | exact Nat.le_of_ble_eq_true rfl | omega | (simp; omega)) (by first | exact lay_whole _ _ (by first | rfl | (simp <;> fail) | omega | (simp; omega)) | rfl) ?_)))
    | ((with_reducible refine isA_call ?_); (first | refine z_a g_none rfl ?_ | refine z_n g_none ?_); (first | (refine ct_0 (mixed_ok _ 19 28 (by decide) (by decide) (by decide) (by decide)) (by unfold Body; kernel_rfl) rfl (by first | exact cvl_rfl | ((repeat' (first | exact cvl_nil | refine cvl_cons ?_ ?_ | (first | exact cv_rfl | exact cv_nil | (refine cv_sl ?_ ?_ <;> first | rfl | omega | (simp <;> fail) | fail) | (refine cv_eq ?_; first | rfl | (simp <;> fail) | fail)))) <;> fail) | fail) rfl ?_) | (refine ct_0 (mixed_ok _ 61 39 (by decide) (by decide) (by decide) (by decide)) (by unfold Body; kernel_rfl) rfl (by first | exact cvl_rfl | ((repeat' (first | exact cvl_nil | refine cvl_cons ?_ ?_ | (first | exact cv_rfl | exact cv_nil | (refine cv_sl ?_ ?_ <;> first | rfl | omega | (simp <;> fail) | fail) | (refine cv_eq ?_; first | rfl | (simp <;> fail) | fail)))) <;> fail) | fail) rfl ?_) | (refine ct_0 (mixed_ok _ 1 6 (by decide) (by decide) (by decide) (by decide)) (by unfold Body; kernel_rfl) rfl (by first | exact cvl_rfl | ((repeat' (first | exact cvl_nil | refine cvl_cons ?_ ?_ | (first | exact cv_rfl | exact cv_nil | (refine cv_sl ?_ ?_ <;> first | rfl | omega | (simp <;> fail) | fail) | (refine cv_eq ?_; first | rfl | (simp <;> fail) | fail)))) <;> fail) | fail) rfl ?_) | (refine ct_0 (mixed_ok _ 10 17 (by decide) (by decide) (by decide) (by decide)) (by unfold Body; kernel_rfl) rfl (by first | exact cvl_rfl | ((repeat' (first | exact cvl_nil | refine cvl_cons ?_ ?_ | (first | exact cv_rfl | exact cv_nil | (refine cv_sl ?_ ?_ <;> first | rfl | omega | (simp <;> fail) | fail) | (refine cv_eq ?_; first | rfl | (simp <;> fail) | fail)))) <;> fail) | fail) rfl ?_) | (refine ct_0 (mixed_ok _ 7 41 (by decide) (by decide) (by decide) (by decide)) (by unfold Body; kernel_rfl) rfl (by first | exact cvl_rfl | ((repeat' (first | exact cvl_nil | refine cvl_cons ?_ ?_ | (first | exact cv_rfl | exact cv_nil | (refine cv_sl ?_ ?_ <;> first | rfl | omega | (simp <;> fail) | fail) | (refine cv_eq ?_; first | rfl | (simp <;> fail) | fail)))) <;> fail) | fail) rfl ?_)))
    | ((with_reducible refine isA_alloc ?_); (refine y_a g_none rfl ?_); (first | refine ey_i (a_allocR tabOk rfl rfl rfl rfl) rfl ?_ | refine ey_i (a_alloc tabOk rfl rfl) rfl ?_))
    | ((with_reducible refine isA_box ?_); (refine y_a g_none rfl ?_); (first | refine ey_i (a_boxR (tab := tab) rfl rfl rfl) rfl ?_ | refine ey_i (a_box1 rfl rfl) rfl ?_ | refine ey_i (a_boxA rfl (by first | exact Parts.mixed _ | exact Parts.closed _)) rfl ?_))
    | ((refine x_a g_none rfl ?_); (first
      | ((with_reducible refine e_move ?_); (first | refine ex_i (s_move rfl) ?_))
      | ((with_reducible refine e_load ?_); (first | refine ex_i (s_load1 tabOk rfl rfl rfl rfl (by first | rfl | fail)) ?_ | refine ex_i (s_load1r tabOk rfl rfl rfl rfl (by first | rfl | fail)) ?_ | refine ex_i (s_load1i tabOk rfl rfl rfl (by first | rfl | fail)) ?_ | refine ex_i (s_loadA tabOk rfl rfl rfl rfl rfl rfl (by first | exact IsAgg.closed rfl rfl | exact IsAgg.mixed _)) ?_ | refine ex_i (s_loadAr tabOk rfl rfl rfl rfl (by first | fail | exact whole0 (by first | rfl | omega) | rfl) (by first | rfl | (simp <;> fail) | omega | (simp; omega))) ?_ | refine ex_i (s_loadAi tabOk rfl rfl rfl (by first | fail | exact whole0 (by first | rfl | omega) | rfl) (by first | rfl | (simp <;> fail) | omega | (simp; omega))) ?_))
      | ((with_reducible refine e_ixA ?_); (first | refine ex_i (s_ixC tabOk rfl rfl (by first | with_reducible exact cast_self _ | with_reducible exact cast_lit _ | exact nt (by omega) | rfl) rfl rfl rfl rfl (by first | exact Nat.le_of_ble_eq_true rfl | omega | (simp; omega))) ?_ | refine ex_i (s_ixO tabOk rfl rfl (by first | with_reducible exact cast_self _ | with_reducible exact cast_lit _ | exact nt (by omega) | rfl) rfl rfl rfl rfl (by first | exact Nat.le_of_ble_eq_true rfl | omega | (simp; omega))) ?_ | refine ex_i (s_ixA tabOk rfl rfl (by first | with_reducible exact cast_self _ | with_reducible exact cast_lit _ | exact nt (by omega) | rfl) rfl rfl rfl (by first | exact Nat.le_of_ble_eq_true rfl | omega | (simp; omega))) ?_ | refine ex_i (s_ixAi tabOk rfl rfl (by first | with_reducible exact cast_self _ | with_reducible exact cast_lit _ | exact nt (by omega) | rfl) rfl rfl rfl (by first | exact Nat.le_of_ble_eq_true rfl | omega | (simp; omega))) ?_))
      | ((with_reducible refine e_bin ?_); (first | refine ex_i (s_arit64 rfl rfl rfl (by first | (simp only [Int.reduceAdd, Int.reduceSub, Int.reduceMul]; exact w64 (by omega) (by omega)) | exact w64 (by omega) (by omega) | exact wu64 (by omega) (by omega) | exact wu8 (by omega) (by omega) | rfl)) ?_ | refine ex_i (s_word rfl (by first | exact isW_rfl | exact isW_lit rfl) rfl (by first | exact isW_rfl | exact isW_lit rfl) rfl) ?_ | refine ex_i (s_cmp rfl rfl rfl rfl) ?_ | refine ex_i (s_arit rfl rfl rfl (by first | (simp only [Int.reduceAdd, Int.reduceSub, Int.reduceMul]; exact w64 (by omega) (by omega)) | exact w64 (by omega) (by omega) | exact wu64 (by omega) (by omega) | exact wu8 (by omega) (by omega) | rfl)) ?_ | refine ex_i (s_and rfl rfl rfl) ?_ | refine ex_i (s_xor rfl rfl rfl) ?_))
      | ((with_reducible refine e_assign ?_); (first | refine ex_i (s_assign rfl) ?_))
      | ((with_reducible refine e_un ?_); (first | refine ex_i (s_not rfl rfl) ?_ | refine ex_i (s_complW rfl (by first | exact isW_rfl | exact isW_lit rfl)) ?_ | refine ex_i (s_neg rfl (by first | exact w64 (by omega) (by omega) | rfl)) ?_ | refine ex_i (s_compl rfl rfl) ?_))
      | ((with_reducible refine e_conv ?_); (first | refine ex_i (s_convWB rfl (by first | exact isW_rfl | exact isW_lit rfl) tabOk rfl rfl rfl) ?_ | refine ex_i (s_convWW rfl (by first | exact isW_rfl | exact isW_lit rfl) tabOk rfl rfl rfl) ?_ | refine ex_i (s_convBW rfl tabOk rfl rfl rfl) ?_ | refine ex_i (s_convIW rfl tabOk rfl rfl rfl) ?_ | refine ex_i (s_convInt tabOk rfl rfl rfl rfl (by first | (simp only [Int.reduceAdd, Int.reduceSub, Int.reduceMul]; exact w64 (by omega) (by omega)) | exact w64 (by omega) (by omega) | exact wu64 (by omega) (by omega) | exact wu8 (by omega) (by omega) | rfl)) ?_ | refine ex_i (s_convStr tabOk rfl rfl rfl rfl) ?_ | refine ex_i (s_toStr tabOk rfl rfl rfl rfl rfl rfl rfl (by first | exact frz_c cv_rfl | exact frz_c cv_nil | exact frz_ownW rfl rfl (by first | rfl | (simp <;> fail) | omega | (simp; omega)))) ?_))
      | ((with_reducible refine e_build ?_); (first | refine ex_i (s_buildA tabOk rfl rfl rfl rfl (cellsLF_ok rfl) (by rfl) (by first | exact IsAgg.closed rfl rfl | exact IsAgg.mixed _)) ?_ | refine ex_i (s_build tabOk rfl rfl rfl rfl (cellsLF_ok rfl) (by rfl) (by first | exact IsAgg.closed rfl rfl | exact IsAgg.mixed _)) ?_))))
    | (with_reducible refine awl_nil ?_)
    | (refine hK _ _ _ _ ?_; clear hK hX K)
    | (refine hX _ _ _ _ _ (by simp) ?_; clear hK hX K)
    | (with_reducible refine k_then ?_)
    | (with_reducible refine k_thenX ?_)
    | (with_reducible refine k_thenR ?_)
    | (with_reducible refine k_blk ?_)
    | (with_reducible refine k_blkR ?_)
    | (refine k_blkH rfl ?_)
    | (refine k_blkM rfl ?_))
    exact ⟨r + 1, by omega, by omega, (by refine weak_mk rfl ?_ ?_ rfl <;> (repeat' (first | exact weakE_nil | exact weakH_nil | refine weakE_cons rfl (by first | rfl | exact own_eq rfl rfl (by omega) | exact int_eq (by omega) | (simp <;> fail) | (congr 4; omega) | (congr 3; omega) | (congr 2; omega)) rfl ?_ | refine weakH_cons rfl (by first | rfl | exact own_eq rfl rfl (by omega) | exact int_eq (by omega) | (simp <;> fail) | (congr 4; omega) | (congr 3; omega) | (congr 2; omega)) rfl ?_)))⟩
  · repeat' (first
    | ((with_reducible refine isC_any ?_); (first | ((with_reducible refine aw_seqk ?_); intro K hK hX) | ((with_reducible refine isC_reg ?_); refine aw_prune [0, 1, 2, 3, 4, 5] rfl rfl ?_; with_reducible refine aw_region ?_) | ((with_reducible refine isC_cond ?_); (first | (refine aw_condT rfl rfl ?_) | (refine aw_condF rfl rfl ?_) | (refine aw_condT rfl (by first | rfl | assumption | exact decide_eq_true (by omega) | (simp only [*] <;> fail) | fail) ?_) | (refine aw_condF rfl (by first | rfl | assumption | exact decide_eq_false (by omega) | (simp only [*] <;> fail) | fail) ?_))) | (with_reducible refine aw_block ?_) | (with_reducible refine aw_skip ?_) | (with_reducible refine aw_exit ?_) | (with_reducible refine aw_ret ?_)))
    | ((with_reducible refine isA_store ?_); (first | (refine f_store1 tabOk g_none rfl rfl rfl rfl rfl rfl rfl ?_) | (refine f_store1r tabOk g_none rfl rfl rfl rfl rfl rfl rfl ?_) | (refine awl_store1r tabOk g_none rfl rfl rfl rfl rfl rfl (by first | fail | exact Nat.le_of_ble_eq_true rfl | omega | (simp; omega)) ?_) | (refine awl_storeA tabOk g_none rfl rfl rfl (by first | exact Parts.mixed _ | exact Parts.closed _) (by rfl) (by rfl) rfl (by decide) (by rfl) ?_) | (refine awl_storeAr tabOk g_none rfl rfl rfl (by first | rfl | (simp <;> fail) | omega | (simp; omega)) rfl (by first | exact Nat.le_of_ble_eq_true rfl | omega | (simp; omega)) (by first | exact lay_whole _ _ (by first | rfl | (simp <;> fail) | omega | (simp; omega)) | rfl) ?_)))
    | ((with_reducible refine isA_alloc ?_); (refine y_a g_none rfl ?_); (first | refine ey_i (a_allocR tabOk rfl rfl rfl rfl) rfl ?_ | refine ey_i (a_alloc tabOk rfl rfl) rfl ?_))
    | ((with_reducible refine isA_box ?_); (refine y_a g_none rfl ?_); (first | refine ey_i (a_boxR (tab := tab) rfl rfl rfl) rfl ?_ | refine ey_i (a_box1 rfl rfl) rfl ?_ | refine ey_i (a_boxA rfl (by first | exact Parts.mixed _ | exact Parts.closed _)) rfl ?_))
    | ((refine x_a g_none rfl ?_); (first
      | ((with_reducible refine e_move ?_); (first | refine ex_i (s_move rfl) ?_))
      | ((with_reducible refine e_load ?_); (first | refine ex_i (s_load1 tabOk rfl rfl rfl rfl (by first | rfl | fail)) ?_ | refine ex_i (s_load1r tabOk rfl rfl rfl rfl (by first | rfl | fail)) ?_ | refine ex_i (s_load1i tabOk rfl rfl rfl (by first | rfl | fail)) ?_ | refine ex_i (s_loadA tabOk rfl rfl rfl rfl rfl rfl (by first | exact IsAgg.closed rfl rfl | exact IsAgg.mixed _)) ?_ | refine ex_i (s_loadAr tabOk rfl rfl rfl rfl (by first | fail | exact whole0 (by first | rfl | omega) | rfl) (by first | rfl | (simp <;> fail) | omega | (simp; omega))) ?_ | refine ex_i (s_loadAi tabOk rfl rfl rfl (by first | fail | exact whole0 (by first | rfl | omega) | rfl) (by first | rfl | (simp <;> fail) | omega | (simp; omega))) ?_))
      | ((with_reducible refine e_ixA ?_); (first | refine ex_i (s_ixC tabOk rfl rfl (by first | with_reducible exact cast_self _ | with_reducible exact cast_lit _ | exact nt (by omega) | rfl) rfl rfl rfl rfl (by first | exact Nat.le_of_ble_eq_true rfl | omega | (simp; omega))) ?_ | refine ex_i (s_ixO tabOk rfl rfl (by first | with_reducible exact cast_self _ | with_reducible exact cast_lit _ | exact nt (by omega) | rfl) rfl rfl rfl rfl (by first | exact Nat.le_of_ble_eq_true rfl | omega | (simp; omega))) ?_ | refine ex_i (s_ixA tabOk rfl rfl (by first | with_reducible exact cast_self _ | with_reducible exact cast_lit _ | exact nt (by omega) | rfl) rfl rfl rfl (by first | exact Nat.le_of_ble_eq_true rfl | omega | (simp; omega))) ?_ | refine ex_i (s_ixAi tabOk rfl rfl (by first | with_reducible exact cast_self _ | with_reducible exact cast_lit _ | exact nt (by omega) | rfl) rfl rfl rfl (by first | exact Nat.le_of_ble_eq_true rfl | omega | (simp; omega))) ?_))
      | ((with_reducible refine e_bin ?_); (first | refine ex_i (s_arit64 rfl rfl rfl (by first | (simp only [Int.reduceAdd, Int.reduceSub, Int.reduceMul]; exact w64 (by omega) (by omega)) | exact w64 (by omega) (by omega) | exact wu64 (by omega) (by omega) | exact wu8 (by omega) (by omega) | rfl)) ?_ | refine ex_i (s_word rfl (by first | exact isW_rfl | exact isW_lit rfl) rfl (by first | exact isW_rfl | exact isW_lit rfl) rfl) ?_ | refine ex_i (s_cmp rfl rfl rfl rfl) ?_ | refine ex_i (s_arit rfl rfl rfl (by first | (simp only [Int.reduceAdd, Int.reduceSub, Int.reduceMul]; exact w64 (by omega) (by omega)) | exact w64 (by omega) (by omega) | exact wu64 (by omega) (by omega) | exact wu8 (by omega) (by omega) | rfl)) ?_ | refine ex_i (s_and rfl rfl rfl) ?_ | refine ex_i (s_xor rfl rfl rfl) ?_))
      | ((with_reducible refine e_assign ?_); (first | refine ex_i (s_assign rfl) ?_))
      | ((with_reducible refine e_un ?_); (first | refine ex_i (s_not rfl rfl) ?_ | refine ex_i (s_complW rfl (by first | exact isW_rfl | exact isW_lit rfl)) ?_ | refine ex_i (s_neg rfl (by first | exact w64 (by omega) (by omega) | rfl)) ?_ | refine ex_i (s_compl rfl rfl) ?_))
      | ((with_reducible refine e_conv ?_); (first | refine ex_i (s_convWB rfl (by first | exact isW_rfl | exact isW_lit rfl) tabOk rfl rfl rfl) ?_ | refine ex_i (s_convWW rfl (by first | exact isW_rfl | exact isW_lit rfl) tabOk rfl rfl rfl) ?_ | refine ex_i (s_convBW rfl tabOk rfl rfl rfl) ?_ | refine ex_i (s_convIW rfl tabOk rfl rfl rfl) ?_ | refine ex_i (s_convInt tabOk rfl rfl rfl rfl (by first | (simp only [Int.reduceAdd, Int.reduceSub, Int.reduceMul]; exact w64 (by omega) (by omega)) | exact w64 (by omega) (by omega) | exact wu64 (by omega) (by omega) | exact wu8 (by omega) (by omega) | rfl)) ?_ | refine ex_i (s_convStr tabOk rfl rfl rfl rfl) ?_ | refine ex_i (s_toStr tabOk rfl rfl rfl rfl rfl rfl rfl (by first | exact frz_c cv_rfl | exact frz_c cv_nil | exact frz_ownW rfl rfl (by first | rfl | (simp <;> fail) | omega | (simp; omega)))) ?_))
      | ((with_reducible refine e_build ?_); (first | refine ex_i (s_buildA tabOk rfl rfl rfl rfl (cellsLF_ok rfl) (by rfl) (by first | exact IsAgg.closed rfl rfl | exact IsAgg.mixed _)) ?_ | refine ex_i (s_build tabOk rfl rfl rfl rfl (cellsLF_ok rfl) (by rfl) (by first | exact IsAgg.closed rfl rfl | exact IsAgg.mixed _)) ?_))))
    | (with_reducible refine awl_nil ?_)
    | (refine hK _ _ _ _ ?_; clear hK hX K)
    | (refine hX _ _ _ _ _ (by simp) ?_; clear hK hX K)
    | (with_reducible refine k_then ?_)
    | (with_reducible refine k_thenX ?_)
    | (with_reducible refine k_thenR ?_)
    | (with_reducible refine k_blk ?_)
    | (with_reducible refine k_blkR ?_)
    | (refine k_blkH rfl ?_)
    | (refine k_blkM rfl ?_))
    obtain rfl : r = 12 := by omega
    refine retK_mk (by first | exact .inl rfl | exact .inr rfl) (by exact trivial) (ResL.one (by first | exact ResA.one rfl rfl rfl rfl rfl | exact ResA.agg rfl rfl rfl rfl rfl (by first | exact IsAgg.closed rfl rfl | exact IsAgg.mixed _) | exact ResA.aggr rfl rfl rfl rfl (by first | rfl | (simp <;> fail) | omega | (simp; omega)))) (by first | exact out_c (by first | exact frz_c cv_rfl | exact frz_c cv_nil | exact frz_ownW rfl rfl (by first | rfl | (simp <;> fail) | omega | (simp; omega)) | exact frz_eq (frz_c cv_rfl) (by first | rfl | (simp <;> fail) | fail)) | exact out_own rfl rfl | exact out_t (frzl_cons (by first | exact frz_c cv_rfl | exact frz_c cv_nil | exact frz_ownW rfl rfl (by first | rfl | (simp <;> fail) | omega | (simp; omega)) | exact frz_eq (frz_c cv_rfl) (by first | rfl | (simp <;> fail) | fail)) frzl_nil) | exact out_t (frzl_cons (by first | exact frz_c cv_rfl | exact frz_c cv_nil | exact frz_ownW rfl rfl (by first | rfl | (simp <;> fail) | omega | (simp; omega)) | exact frz_eq (frz_c cv_rfl) (by first | rfl | (simp <;> fail) | fail)) (frzl_cons (by first | exact frz_c cv_rfl | exact frz_c cv_nil | exact frz_ownW rfl rfl (by first | rfl | (simp <;> fail) | omega | (simp; omega)) | exact frz_eq (frz_c cv_rfl) (by first | rfl | (simp <;> fail) | fail)) frzl_nil)) | exact out_t frzl_nil)
end Go.Proofs.Ytgofigkhdjjlmaa
