/-
  Joined texts: WK D1 D2 D3 DP D4 D5 D6 D7 D8 D17. Lemmas; no statement of a law.
-/
import Derived.Test.YtgofigkhdjjlmaaM1
import Derived.Test.YtgofigkhdjjlmaaM2
import Derived.Test.YtgofigkhdjjlmaaM3
/-
  The steps of the walk, each with the ways in which it is met. For this seat's program.
-/
set_option linter.unusedVariables false
set_option linter.unusedSimpArgs false
namespace Go.Proofs.Ytgofigkhdjjlmaa
open Go Go.RowKit Go.Av
set_option maxRecDepth 100000
/-- What is still to be shown. -/
structure Kept (q : Prop) : Prop where
  out : q
theorem stA {p q : Prop} (hq : q) (h : Kept q → p := by
  intro hq
  (first
  | ((with_reducible refine isC_any ?_); (first | ((with_reducible refine isC_cond ?_); (first | (refine aw_condT rfl (by first | assumption | with_reducible exact decide_eq_true (by assumption) | with_reducible rfl) ?_) | (refine aw_condF rfl (by first | assumption | with_reducible exact decide_eq_false (by assumption) | with_reducible rfl) ?_) | (refine aw_condT rfl rfl ?_) | (refine aw_condF rfl rfl ?_) | (refine aw_condT rfl (by first | exact decide_eq_true (by omega) | (simp only [*] <;> fail) | fail) ?_) | (refine aw_condF rfl (by first | exact decide_eq_false (by omega) | (simp only [*] <;> fail) | fail) ?_))) | (with_reducible refine aw_block ?_) | (with_reducible refine aw_skip ?_) | (with_reducible refine aw_exit ?_) | (with_reducible refine aw_ret ?_)))
  | ((with_reducible refine isA_g ?_); (refine a_skip (g_some rfl rfl (by first | assumption | with_reducible exact gd1 (by assumption) | with_reducible exact gd2 (by assumption) | with_reducible exact gd3 (by assumption) | with_reducible exact gd4 (by assumption) | with_reducible rfl)) rfl ?_))
  | ((with_reducible refine isA_bi ?_); (first | (refine a_append tabOk g_none rfl rfl rfl rfl rfl rfl rfl rfl (by first | rfl | with_reducible assumption | (simp <;> fail) | omega | (simp; omega) | assumption) rfl (by first | exact src_c | exact src_nil | exact src_ownW rfl (by first | rfl | with_reducible assumption | (simp <;> fail) | omega | (simp; omega) | assumption)) (by first | (simp only [maxLen]; omega) | (simp [maxLen]; omega)) (by first | exact Nat.le_of_ble_eq_true rfl | omega | (simp; omega)) ?_) | ((first | refine y_a g_none rfl ?_ | refine y_a (g_some rfl rfl (by first | assumption | with_reducible exact gd1 (by assumption) | with_reducible exact gd2 (by assumption) | with_reducible exact gd3 (by assumption) | with_reducible exact gd4 (by assumption) | with_reducible rfl | rfl | ((first | with_reducible refine gd1 ?_ | with_reducible refine gd2 ?_ | with_reducible refine gd3 ?_ | with_reducible refine gd4 ?_); omega) | (simp only [*] <;> fail) | fail)) rfl ?_); refine ey_i (b_appendN tabOk rfl rfl rfl rfl rfl rfl rfl rfl (by first | exact src_c | exact src_nil | exact src_ownW rfl (by first | rfl | with_reducible assumption | (simp <;> fail) | omega | (simp; omega) | assumption)) (by first | (simp only [maxLen]; omega) | (simp [maxLen]; omega)) (by first | exact Nat.le_of_ble_eq_true rfl | omega | (simp; omega))) rfl ?_) | ((first | refine y_a g_none rfl ?_ | refine y_a (g_some rfl rfl (by first | assumption | with_reducible exact gd1 (by assumption) | with_reducible exact gd2 (by assumption) | with_reducible exact gd3 (by assumption) | with_reducible exact gd4 (by assumption) | with_reducible rfl | rfl | ((first | with_reducible refine gd1 ?_ | with_reducible refine gd2 ?_ | with_reducible refine gd3 ?_ | with_reducible refine gd4 ?_); omega) | (simp only [*] <;> fail) | fail)) rfl ?_); refine ey_i (a_appendZ tabOk rfl rfl rfl rfl rfl rfl rfl rfl rfl rfl rfl (by first | with_reducible exact cast_self _ | with_reducible exact cast_lit _ | exact nt (by omega) | rfl) (by first | exact Nat.le_of_ble_eq_true rfl | omega | (simp; omega)) (by first | (simp only [maxLen]; omega) | (simp [maxLen]; omega)) (by first | exact Nat.le_of_ble_eq_true rfl | omega | (simp; omega))) rfl ?_) | (refine a_copy tabOk g_none rfl rfl rfl rfl rfl rfl rfl rfl (by first | exact src_c | exact src_nil | exact src_ownW rfl (by first | rfl | with_reducible assumption | (simp <;> fail) | omega | (simp; omega) | assumption)) (by first | exact Nat.le_of_ble_eq_true rfl | omega | (simp; omega)) (by first | exact Nat.le_of_ble_eq_true rfl | omega | (simp; omega)) ?_) | (refine n_copy tabOk g_none rfl rfl rfl rfl rfl rfl rfl (by first | exact src_c | exact src_nil | exact src_ownW rfl (by first | rfl | with_reducible assumption | (simp <;> fail) | omega | (simp; omega) | assumption)) (by first | exact Nat.le_of_ble_eq_true rfl | omega | (simp; omega)) (by first | exact Nat.le_of_ble_eq_true rfl | omega | (simp; omega)) ?_)))
  | ((with_reducible refine isA_store ?_); (first | (refine f_store1 tabOk g_none rfl rfl rfl rfl rfl rfl rfl ?_) | (refine f_store1r tabOk g_none rfl rfl rfl rfl rfl rfl rfl ?_) | (refine awl_store1r tabOk g_none rfl rfl rfl rfl rfl rfl (by first | fail | exact Nat.le_of_ble_eq_true rfl | omega | (simp; omega)) ?_) | (refine awl_storeA tabOk g_none rfl rfl rfl (by first | exact Parts.mixed _ | exact Parts.closed _) (by rfl) (by rfl) rfl (by decide) (by rfl) ?_) | (refine awl_storeAr tabOk g_none rfl rfl rfl (by first | rfl | with_reducible assumption | (simp <;> fail) | omega | (simp; omega) | assumption) rfl (by first | exact Nat.le_of_ble_eq_true rfl | omega | (simp; omega)) (by first | exact lay_whole _ _ (by first | rfl | with_reducible assumption | (simp <;> fail) | omega | (simp; omega) | assumption) | rfl) ?_)))
  | ((with_reducible refine isA_alloc ?_); (first | refine y_a g_none rfl ?_ | refine y_a (g_some rfl rfl (by first | assumption | with_reducible exact gd1 (by assumption) | with_reducible exact gd2 (by assumption) | with_reducible exact gd3 (by assumption) | with_reducible exact gd4 (by assumption) | with_reducible rfl | rfl | ((first | with_reducible refine gd1 ?_ | with_reducible refine gd2 ?_ | with_reducible refine gd3 ?_ | with_reducible refine gd4 ?_); omega) | (simp only [*] <;> fail) | fail)) rfl ?_); (first | refine ey_i (a_allocR tabOk rfl rfl rfl rfl) rfl ?_ | refine ey_i (a_alloc tabOk rfl rfl) rfl ?_))
  | ((with_reducible refine isA_box ?_); (first | refine y_a g_none rfl ?_ | refine y_a (g_some rfl rfl (by first | assumption | with_reducible exact gd1 (by assumption) | with_reducible exact gd2 (by assumption) | with_reducible exact gd3 (by assumption) | with_reducible exact gd4 (by assumption) | with_reducible rfl | rfl | ((first | with_reducible refine gd1 ?_ | with_reducible refine gd2 ?_ | with_reducible refine gd3 ?_ | with_reducible refine gd4 ?_); omega) | (simp only [*] <;> fail) | fail)) rfl ?_); (first | refine ey_i (a_boxR (tab := tab) rfl rfl rfl) rfl ?_ | refine ey_i (a_box1 rfl rfl) rfl ?_ | refine ey_i (a_boxA rfl (by first | exact Parts.mixed _ | exact Parts.closed _)) rfl ?_))
  | ((with_reducible refine isA_bslice ?_); (first | refine y_a g_none rfl ?_ | refine y_a (g_some rfl rfl (by first | assumption | with_reducible exact gd1 (by assumption) | with_reducible exact gd2 (by assumption) | with_reducible exact gd3 (by assumption) | with_reducible exact gd4 (by assumption) | with_reducible rfl | rfl | ((first | with_reducible refine gd1 ?_ | with_reducible refine gd2 ?_ | with_reducible refine gd3 ?_ | with_reducible refine gd4 ?_); omega) | (simp only [*] <;> fail) | fail)) rfl ?_); (first | refine ey_i (b_bslice0 tabOk rfl rfl rfl rfl rfl) rfl ?_ | refine ey_i (b_bslice tabOk rfl rfl rfl rfl rfl rfl rfl rfl rfl rfl rfl rfl (flatLF_ok rfl) (by first | rfl | exact all1 (by assumption) | (simp <;> fail) | fail) (by rfl)) rfl ?_))
  | ((with_reducible refine isA_mksl ?_); (first | refine y_a g_none rfl ?_ | refine y_a (g_some rfl rfl (by first | assumption | with_reducible exact gd1 (by assumption) | with_reducible exact gd2 (by assumption) | with_reducible exact gd3 (by assumption) | with_reducible exact gd4 (by assumption) | with_reducible rfl | rfl | ((first | with_reducible refine gd1 ?_ | with_reducible refine gd2 ?_ | with_reducible refine gd3 ?_ | with_reducible refine gd4 ?_); omega) | (simp only [*] <;> fail) | fail)) rfl ?_); (first | refine ey_i (b_make tabOk rfl rfl rfl rfl rfl rfl rfl rfl rfl rfl (by first | with_reducible exact cast_self _ | with_reducible exact cast_lit _ | exact nt (by omega) | rfl) (by first | with_reducible exact cast_self _ | with_reducible exact cast_lit _ | exact nt (by omega) | rfl) (by first | exact Nat.le_of_ble_eq_true rfl | omega | (simp; omega)) (by first | exact Nat.le_of_ble_eq_true rfl | omega | (simp; omega)) (by simp only [maxLen]; omega) rfl) rfl ?_))
  | ((with_reducible refine isA_defer ?_); (refine awl_defer rfl g_none rfl ?_))
  | (((with_reducible refine isA_any ?_); (first | refine x_a g_none rfl ?_ | refine x_a (g_some rfl rfl (by first | assumption | with_reducible exact gd1 (by assumption) | with_reducible exact gd2 (by assumption) | with_reducible exact gd3 (by assumption) | with_reducible exact gd4 (by assumption) | with_reducible rfl | rfl | ((first | with_reducible refine gd1 ?_ | with_reducible refine gd2 ?_ | with_reducible refine gd3 ?_ | with_reducible refine gd4 ?_); omega) | (simp only [*] <;> fail) | fail)) rfl ?_)); (first | ((with_reducible refine e_move ?_); (first | refine ex_i (s_move rfl) ?_)) | ((with_reducible refine e_load ?_); (first | refine ex_i (s_load1 tabOk rfl rfl rfl rfl (by first | rfl | fail)) ?_ | refine ex_i (s_load1r tabOk rfl rfl rfl rfl (by first | rfl | fail)) ?_ | refine ex_i (s_load1i tabOk rfl rfl rfl (by first | rfl | fail)) ?_ | refine ex_i (s_loadA tabOk rfl rfl rfl rfl rfl rfl (by first | exact IsAgg.closed rfl rfl | exact IsAgg.mixed _)) ?_ | refine ex_i (s_loadAr tabOk rfl rfl rfl rfl (by first | fail | exact whole0 (by first | rfl | omega) | rfl) (by first | rfl | with_reducible assumption | (simp <;> fail) | omega | (simp; omega) | assumption)) ?_ | refine ex_i (s_loadAi tabOk rfl rfl rfl (by first | fail | exact whole0 (by first | rfl | omega) | rfl) (by first | rfl | with_reducible assumption | (simp <;> fail) | omega | (simp; omega) | assumption)) ?_)) | ((with_reducible refine e_ixA ?_); (first | refine ex_i (s_ixC tabOk rfl rfl (by first | with_reducible exact cast_self _ | with_reducible exact cast_lit _ | exact nt (by omega) | rfl) rfl rfl rfl rfl (by first | exact Nat.le_of_ble_eq_true rfl | omega | (simp; omega))) ?_ | refine ex_i (s_ixO tabOk rfl rfl (by first | with_reducible exact cast_self _ | with_reducible exact cast_lit _ | exact nt (by omega) | rfl) rfl rfl rfl rfl (by first | exact Nat.le_of_ble_eq_true rfl | omega | (simp; omega))) ?_ | refine ex_i (s_ixA tabOk rfl rfl (by first | with_reducible exact cast_self _ | with_reducible exact cast_lit _ | exact nt (by omega) | rfl) rfl rfl rfl (by first | exact Nat.le_of_ble_eq_true rfl | omega | (simp; omega))) ?_ | refine ex_i (s_ixAi tabOk rfl rfl (by first | with_reducible exact cast_self _ | with_reducible exact cast_lit _ | exact nt (by omega) | rfl) rfl rfl rfl (by first | exact Nat.le_of_ble_eq_true rfl | omega | (simp; omega))) ?_)) | ((with_reducible refine e_bin (o := .add) ?_); (first | refine ex_i (s_arit64 rfl rfl rfl (by first | (simp only [Int.reduceAdd, Int.reduceSub, Int.reduceMul]; exact w64 (by omega) (by omega)) | exact w64 (by omega) (by omega) | exact wu64 (by omega) (by omega) | exact wu8 (by omega) (by omega) | rfl)) ?_ | refine ex_i (s_word rfl (by first | exact isW_rfl | exact isW_lit rfl) rfl (by first | exact isW_rfl | exact isW_lit rfl) rfl) ?_ | refine ex_i (s_arit rfl rfl rfl (by first | (simp only [Int.reduceAdd, Int.reduceSub, Int.reduceMul]; exact w64 (by omega) (by omega)) | exact w64 (by omega) (by omega) | exact wu64 (by omega) (by omega) | exact wu8 (by omega) (by omega) | rfl)) ?_)) | ((with_reducible refine e_bin (o := .sub) ?_); (first | refine ex_i (s_arit64 rfl rfl rfl (by first | (simp only [Int.reduceAdd, Int.reduceSub, Int.reduceMul]; exact w64 (by omega) (by omega)) | exact w64 (by omega) (by omega) | exact wu64 (by omega) (by omega) | exact wu8 (by omega) (by omega) | rfl)) ?_ | refine ex_i (s_word rfl (by first | exact isW_rfl | exact isW_lit rfl) rfl (by first | exact isW_rfl | exact isW_lit rfl) rfl) ?_ | refine ex_i (s_arit rfl rfl rfl (by first | (simp only [Int.reduceAdd, Int.reduceSub, Int.reduceMul]; exact w64 (by omega) (by omega)) | exact w64 (by omega) (by omega) | exact wu64 (by omega) (by omega) | exact wu8 (by omega) (by omega) | rfl)) ?_)) | ((with_reducible refine e_bin (o := .mul) ?_); (first | refine ex_i (s_arit64 rfl rfl rfl (by first | (simp only [Int.reduceAdd, Int.reduceSub, Int.reduceMul]; exact w64 (by omega) (by omega)) | exact w64 (by omega) (by omega) | exact wu64 (by omega) (by omega) | exact wu8 (by omega) (by omega) | rfl)) ?_ | refine ex_i (s_word rfl (by first | exact isW_rfl | exact isW_lit rfl) rfl (by first | exact isW_rfl | exact isW_lit rfl) rfl) ?_ | refine ex_i (s_arit rfl rfl rfl (by first | (simp only [Int.reduceAdd, Int.reduceSub, Int.reduceMul]; exact w64 (by omega) (by omega)) | exact w64 (by omega) (by omega) | exact wu64 (by omega) (by omega) | exact wu8 (by omega) (by omega) | rfl)) ?_)) | ((with_reducible refine e_bin (o := .eql) ?_); (first | refine ex_i (s_cmp rfl rfl rfl rfl) ?_ | refine ex_i (s_eqlB tabOk rfl rfl rfl rfl rfl) ?_ | refine ex_i (s_eqlS rfl rfl rfl) ?_)) | ((with_reducible refine e_bin (o := .neq) ?_); (first | refine ex_i (s_cmp rfl rfl rfl rfl) ?_ | refine ex_i (s_neqB tabOk rfl rfl rfl rfl rfl) ?_ | refine ex_i (s_neqS rfl rfl rfl) ?_)) | ((with_reducible refine e_bin (o := .lss) ?_); (first | refine ex_i (s_cmp rfl rfl rfl rfl) ?_)) | ((with_reducible refine e_bin (o := .leq) ?_); (first | refine ex_i (s_cmp rfl rfl rfl rfl) ?_)) | ((with_reducible refine e_bin (o := .gtr) ?_); (first | refine ex_i (s_cmp rfl rfl rfl rfl) ?_)) | ((with_reducible refine e_bin (o := .geq) ?_); (first | refine ex_i (s_cmp rfl rfl rfl rfl) ?_)) | ((with_reducible refine e_bin (o := .rem) ?_); (first | refine ex_i (s_rem (k := .i64) rfl rfl (by first | omega | decide) (by first | (simp only [Int.reduceTMod]; rfl) | exact r64 (by omega) | rfl)) ?_ | refine ex_i (s_rem rfl rfl (by first | omega | decide) (by first | (simp only [Int.reduceTMod]; rfl) | exact r64 (by omega) | rfl)) ?_)) | ((with_reducible refine e_bin (o := .quo) ?_); (first | refine ex_i (s_quo (k := .i64) rfl rfl (by first | omega | decide) (by first | exact q64 (by omega) (by omega) (by omega) | exact qu8 (by omega) (by omega) (by omega) | rfl)) ?_ | refine ex_i (s_quo rfl rfl (by first | omega | decide) (by first | exact q64 (by omega) (by omega) (by omega) | exact qu8 (by omega) (by omega) (by omega) | rfl)) ?_)) | ((with_reducible refine e_bin (o := .and) ?_); (first | refine ex_i (s_word rfl (by first | exact isW_rfl | exact isW_lit rfl) rfl (by first | exact isW_rfl | exact isW_lit rfl) rfl) ?_ | refine ex_i (s_and rfl rfl rfl) ?_)) | ((with_reducible refine e_bin (o := .or) ?_); (first | refine ex_i (s_word rfl (by first | exact isW_rfl | exact isW_lit rfl) rfl (by first | exact isW_rfl | exact isW_lit rfl) rfl) ?_ | refine ex_i (s_or rfl rfl rfl) ?_)) | ((with_reducible refine e_bin (o := .xor) ?_); (first | refine ex_i (s_word rfl (by first | exact isW_rfl | exact isW_lit rfl) rfl (by first | exact isW_rfl | exact isW_lit rfl) rfl) ?_ | refine ex_i (s_xor rfl rfl rfl) ?_)) | ((with_reducible refine e_bin (o := .andNot) ?_); (first | refine ex_i (s_andNot rfl rfl rfl) ?_)) | ((with_reducible refine e_bin (o := .shl) ?_); (first | refine ex_i (s_shlW rfl (by first | exact isW_rfl | exact isW_lit rfl) rfl (by first | with_reducible exact cast_self _ | with_reducible exact cast_lit _ | exact nt (by omega) | rfl)) ?_ | refine ex_i (s_shl rfl rfl (by first | exact Nat.le_of_ble_eq_true rfl | omega | (simp; omega)) rfl) ?_)) | ((with_reducible refine e_bin (o := .shr) ?_); (first | refine ex_i (s_shrW rfl (by first | exact isW_rfl | exact isW_lit rfl) rfl (by first | with_reducible exact cast_self _ | with_reducible exact cast_lit _ | exact nt (by omega) | rfl)) ?_ | refine ex_i (s_shr rfl rfl (by first | exact Nat.le_of_ble_eq_true rfl | omega | (simp; omega)) rfl) ?_)) | ((with_reducible refine e_assign ?_); (first | refine ex_i (s_assign rfl) ?_)) | ((with_reducible refine e_bi ?_); (first | refine ex_i (s_lenC tabOk rfl rfl rfl) ?_ | refine ex_i (s_lenO tabOk rfl rfl rfl) ?_ | refine ex_i (s_lenS tabOk rfl rfl rfl) ?_ | refine ex_i (s_lenN tabOk rfl rfl rfl) ?_ | refine ex_i (s_capN tabOk rfl rfl rfl) ?_ | refine ex_i (s_min rfl rfl rfl) ?_ | refine ex_i (s_max rfl rfl rfl) ?_)) | ((with_reducible refine e_un ?_); (first | refine ex_i (s_not rfl rfl) ?_ | refine ex_i (s_complW rfl (by first | exact isW_rfl | exact isW_lit rfl)) ?_ | refine ex_i (s_neg rfl (by first | exact w64 (by omega) (by omega) | rfl)) ?_ | refine ex_i (s_compl rfl rfl) ?_)) | ((with_reducible refine e_conv ?_); (first | refine ex_i (s_convWB rfl (by first | exact isW_rfl | exact isW_lit rfl) tabOk rfl rfl rfl) ?_ | refine ex_i (s_convWW rfl (by first | exact isW_rfl | exact isW_lit rfl) tabOk rfl rfl rfl) ?_ | refine ex_i (s_convBW rfl tabOk rfl rfl rfl) ?_ | refine ex_i (s_convIW rfl tabOk rfl rfl rfl) ?_ | refine ex_i (s_convInt tabOk rfl rfl rfl rfl (by first | (simp only [Int.reduceAdd, Int.reduceSub, Int.reduceMul]; exact w64 (by omega) (by omega)) | exact w64 (by omega) (by omega) | exact wu64 (by omega) (by omega) | exact wu8 (by omega) (by omega) | rfl)) ?_ | refine ex_i (s_convStr tabOk rfl rfl rfl rfl) ?_ | refine ex_i (s_toStr tabOk rfl rfl rfl rfl rfl rfl rfl (by first | exact frz_c cv_rfl | exact frz_c cv_nil | exact frz_ownW rfl rfl (by first | rfl | with_reducible assumption | (simp <;> fail) | omega | (simp; omega) | assumption))) ?_)) | ((with_reducible refine e_fldA ?_); (first | refine ex_i (s_fieldAddr tabOk rfl rfl rfl rfl rfl rfl) ?_ | refine ex_i (s_fieldAddri tabOk rfl rfl rfl rfl rfl rfl) ?_)) | ((with_reducible refine e_fld ?_); (first | refine ex_i (s_field1 tabOk rfl rfl rfl rfl rfl rfl (by first | exact Parts.mixed _ | exact Parts.closed _) (by rfl)) ?_ | refine ex_i (s_fieldA tabOk rfl rfl rfl rfl rfl rfl (by first | exact Parts.mixed _ | exact Parts.closed _) (by rfl) (by first | exact IsAgg.closed rfl rfl | exact IsAgg.mixed _)) ?_)) | ((with_reducible refine e_ext ?_); (first | refine ex_i (s_extract rfl rfl) ?_)) | ((with_reducible refine e_slice ?_); (first | refine ex_i (s_slO0 tabOk rfl rfl rfl rfl (by first | exact Bd.no | exact Bd.yes rfl (by first | with_reducible exact cast_self _ | with_reducible exact cast_lit _ | exact nt (by omega) | rfl)) (by first | exact Nat.le_of_ble_eq_true rfl | omega | (simp; omega)) rfl rfl) ?_ | refine ex_i (s_slC tabOk rfl rfl rfl rfl (by first | exact Bd.no | exact Bd.yes rfl (by first | with_reducible exact cast_self _ | with_reducible exact cast_lit _ | exact nt (by omega) | rfl)) (by first | exact Bd.no | exact Bd.yes rfl (by first | with_reducible exact cast_self _ | with_reducible exact cast_lit _ | exact nt (by omega) | rfl)) (by first | exact Nat.le_of_ble_eq_true rfl | omega | (simp; omega)) (by first | exact Nat.le_of_ble_eq_true rfl | omega | (simp; omega)) rfl rfl) ?_ | refine ex_i (s_slO tabOk rfl rfl rfl rfl (by first | exact Bd.no | exact Bd.yes rfl (by first | with_reducible exact cast_self _ | with_reducible exact cast_lit _ | exact nt (by omega) | rfl)) (by first | exact Bd.no | exact Bd.yes rfl (by first | with_reducible exact cast_self _ | with_reducible exact cast_lit _ | exact nt (by omega) | rfl)) (by first | exact Nat.le_of_ble_eq_true rfl | omega | (simp; omega)) (by first | exact Nat.le_of_ble_eq_true rfl | omega | (simp; omega)) rfl) ?_ | refine ex_i (s_slArr tabOk rfl rfl rfl rfl (by first | exact Bd.no | exact Bd.yes rfl (by first | with_reducible exact cast_self _ | with_reducible exact cast_lit _ | exact nt (by omega) | rfl)) (by first | exact Bd.no | exact Bd.yes rfl (by first | with_reducible exact cast_self _ | with_reducible exact cast_lit _ | exact nt (by omega) | rfl)) (by first | exact Nat.le_of_ble_eq_true rfl | omega | (simp; omega)) (by first | exact Nat.le_of_ble_eq_true rfl | omega | (simp; omega)) (by decide)) ?_ | refine ex_i (s_slStr tabOk rfl rfl rfl (by first | exact Bd.no | exact Bd.yes rfl (by first | with_reducible exact cast_self _ | with_reducible exact cast_lit _ | exact nt (by omega) | rfl)) (by first | exact Bd.no | exact Bd.yes rfl (by first | with_reducible exact cast_self _ | with_reducible exact cast_lit _ | exact nt (by omega) | rfl)) (by first | exact Nat.le_of_ble_eq_true rfl | omega | (simp; omega)) (by first | exact Nat.le_of_ble_eq_true rfl | omega | (simp; omega))) ?_ | refine ex_i (s_slArri tabOk rfl rfl rfl rfl (by first | exact Bd.no | exact Bd.yes rfl (by first | with_reducible exact cast_self _ | with_reducible exact cast_lit _ | exact nt (by omega) | rfl)) (by first | exact Bd.no | exact Bd.yes rfl (by first | with_reducible exact cast_self _ | with_reducible exact cast_lit _ | exact nt (by omega) | rfl)) (by first | exact Nat.le_of_ble_eq_true rfl | omega | (simp; omega)) (by first | exact Nat.le_of_ble_eq_true rfl | omega | (simp; omega)) (by decide) (by first | fail | exact whole0 (by first | rfl | omega) | rfl) (by first | rfl | with_reducible assumption | (simp <;> fail) | omega | (simp; omega) | assumption)) ?_ | refine ex_i (s_slN tabOk rfl rfl rfl (by first | exact Bd.no | exact Bd.yes rfl (by first | with_reducible exact cast_self _ | with_reducible exact cast_lit _ | exact nt (by omega) | rfl)) rfl) ?_)) | ((with_reducible refine e_ix ?_); (first | refine ex_i (s_ixV1 tabOk rfl rfl (by first | with_reducible exact cast_self _ | with_reducible exact cast_lit _ | exact nt (by omega) | rfl) rfl rfl rfl rfl rfl (by first | exact Nat.le_of_ble_eq_true rfl | omega | (simp; omega)) (by first | rfl | fail)) ?_ | refine ex_i (s_ixStr tabOk rfl rfl (by first | with_reducible exact cast_self _ | with_reducible exact cast_lit _ | exact nt (by omega) | rfl) rfl rfl (by first | rfl | fail)) ?_)) | ((with_reducible refine e_build ?_); (first | refine ex_i (s_buildA tabOk rfl rfl rfl rfl (cellsLF_ok rfl) (by rfl) (by first | exact IsAgg.closed rfl rfl | exact IsAgg.mixed _)) ?_ | refine ex_i (s_build tabOk rfl rfl rfl rfl (cellsLF_ok rfl) (by rfl) (by first | exact IsAgg.closed rfl rfl | exact IsAgg.mixed _)) ?_)) | ((with_reducible refine e_pick ?_); (first | refine ex_i (s_pickT rfl rfl) ?_ | refine ex_i (s_pickF rfl rfl) ?_ | refine ex_i (s_pickTb rfl (by first | assumption | exact decide_eq_true (by omega) | (simp only [*] <;> fail) | fail) rfl) ?_ | refine ex_i (s_pickFb rfl (by first | assumption | exact decide_eq_false (by omega) | (simp only [*] <;> fail) | fail) rfl) ?_)) | ((with_reducible refine e_mkfn ?_); (first | refine ex_i (s_makeFunc rfl) ?_)) | ((with_reducible refine e_nil ?_); (first | refine ex_i (s_nilCheck rfl) ?_ | refine ex_i (s_nilChecki rfl) ?_))))
  | (with_reducible refine awl_nil ?_)
  | (with_reducible refine k_then ?_)
  | (with_reducible refine k_thenX ?_)
  | (with_reducible refine k_thenR ?_)
  | (with_reducible refine k_blk ?_)
  | (with_reducible refine k_blkR ?_)
  | (refine k_blkH rfl ?_)
  | (refine k_blkM rfl ?_)
  | ((with_reducible refine isA_g ?_); (refine a_skip (g_some rfl rfl (by first | rfl | ((first | with_reducible refine gd1 ?_ | with_reducible refine gd2 ?_ | with_reducible refine gd3 ?_ | with_reducible refine gd4 ?_); omega) | (simp only [*] <;> fail) | fail)) rfl ?_)))
  exact hq.out) : p := h ⟨hq⟩
theorem stD {p q : Prop} (hq : q) (h : Kept q → p := by
  intro hq
  (first
  | (refine drw_end (by kernel_rfl) (by kernel_rfl) (by kernel_rfl) rfl ?_)
  | ((with_reducible refine isDk_g ?_); (refine d_skip (g_some rfl rfl (by first | assumption | with_reducible exact gd1 (by assumption) | with_reducible exact gd2 (by assumption) | with_reducible exact gd3 (by assumption) | with_reducible exact gd4 (by assumption) | with_reducible rfl)) ?_))
  | ((with_reducible refine isD_bi ?_); (first | ((first | refine y_d g_none ?_ | refine y_d (g_some rfl rfl (by first | assumption | with_reducible exact gd1 (by assumption) | with_reducible exact gd2 (by assumption) | with_reducible exact gd3 (by assumption) | with_reducible exact gd4 (by assumption) | with_reducible rfl | rfl | ((first | with_reducible refine gd1 ?_ | with_reducible refine gd2 ?_ | with_reducible refine gd3 ?_ | with_reducible refine gd4 ?_); omega) | (simp only [*] <;> fail) | fail)) ?_); refine ey_i (b_appendN tabOk rfl rfl rfl rfl rfl rfl rfl rfl (by first | exact src_c | exact src_nil | exact src_ownW rfl (by first | rfl | with_reducible assumption | (simp <;> fail) | omega | (simp; omega) | assumption)) (by first | (simp only [maxLen]; omega) | (simp [maxLen]; omega)) (by first | exact Nat.le_of_ble_eq_true rfl | omega | (simp; omega))) rfl ?_) | ((first | refine y_d g_none ?_ | refine y_d (g_some rfl rfl (by first | assumption | with_reducible exact gd1 (by assumption) | with_reducible exact gd2 (by assumption) | with_reducible exact gd3 (by assumption) | with_reducible exact gd4 (by assumption) | with_reducible rfl | rfl | ((first | with_reducible refine gd1 ?_ | with_reducible refine gd2 ?_ | with_reducible refine gd3 ?_ | with_reducible refine gd4 ?_); omega) | (simp only [*] <;> fail) | fail)) ?_); refine ey_i (a_appendZ tabOk rfl rfl rfl rfl rfl rfl rfl rfl rfl rfl rfl (by first | with_reducible exact cast_self _ | with_reducible exact cast_lit _ | exact nt (by omega) | rfl) (by first | exact Nat.le_of_ble_eq_true rfl | omega | (simp; omega)) (by first | (simp only [maxLen]; omega) | (simp [maxLen]; omega)) (by first | exact Nat.le_of_ble_eq_true rfl | omega | (simp; omega))) rfl ?_)))
  | ((with_reducible refine isD_alloc ?_); (first | refine y_d g_none ?_ | refine y_d (g_some rfl rfl (by first | assumption | with_reducible exact gd1 (by assumption) | with_reducible exact gd2 (by assumption) | with_reducible exact gd3 (by assumption) | with_reducible exact gd4 (by assumption) | with_reducible rfl | rfl | ((first | with_reducible refine gd1 ?_ | with_reducible refine gd2 ?_ | with_reducible refine gd3 ?_ | with_reducible refine gd4 ?_); omega) | (simp only [*] <;> fail) | fail)) ?_); (first | refine ey_i (a_allocR tabOk rfl rfl rfl rfl) rfl ?_ | refine ey_i (a_alloc tabOk rfl rfl) rfl ?_))
  | ((with_reducible refine isD_box ?_); (first | refine y_d g_none ?_ | refine y_d (g_some rfl rfl (by first | assumption | with_reducible exact gd1 (by assumption) | with_reducible exact gd2 (by assumption) | with_reducible exact gd3 (by assumption) | with_reducible exact gd4 (by assumption) | with_reducible rfl | rfl | ((first | with_reducible refine gd1 ?_ | with_reducible refine gd2 ?_ | with_reducible refine gd3 ?_ | with_reducible refine gd4 ?_); omega) | (simp only [*] <;> fail) | fail)) ?_); (first | refine ey_i (a_boxR (tab := tab) rfl rfl rfl) rfl ?_ | refine ey_i (a_box1 rfl rfl) rfl ?_ | refine ey_i (a_boxA rfl (by first | exact Parts.mixed _ | exact Parts.closed _)) rfl ?_))
  | ((with_reducible refine isD_bslice ?_); (first | refine y_d g_none ?_ | refine y_d (g_some rfl rfl (by first | assumption | with_reducible exact gd1 (by assumption) | with_reducible exact gd2 (by assumption) | with_reducible exact gd3 (by assumption) | with_reducible exact gd4 (by assumption) | with_reducible rfl | rfl | ((first | with_reducible refine gd1 ?_ | with_reducible refine gd2 ?_ | with_reducible refine gd3 ?_ | with_reducible refine gd4 ?_); omega) | (simp only [*] <;> fail) | fail)) ?_); (first | refine ey_i (b_bslice0 tabOk rfl rfl rfl rfl rfl) rfl ?_ | refine ey_i (b_bslice tabOk rfl rfl rfl rfl rfl rfl rfl rfl rfl rfl rfl rfl (flatLF_ok rfl) (by first | rfl | exact all1 (by assumption) | (simp <;> fail) | fail) (by rfl)) rfl ?_))
  | ((with_reducible refine isD_mksl ?_); (first | refine y_d g_none ?_ | refine y_d (g_some rfl rfl (by first | assumption | with_reducible exact gd1 (by assumption) | with_reducible exact gd2 (by assumption) | with_reducible exact gd3 (by assumption) | with_reducible exact gd4 (by assumption) | with_reducible rfl | rfl | ((first | with_reducible refine gd1 ?_ | with_reducible refine gd2 ?_ | with_reducible refine gd3 ?_ | with_reducible refine gd4 ?_); omega) | (simp only [*] <;> fail) | fail)) ?_); (first | refine ey_i (b_make tabOk rfl rfl rfl rfl rfl rfl rfl rfl rfl rfl (by first | with_reducible exact cast_self _ | with_reducible exact cast_lit _ | exact nt (by omega) | rfl) (by first | with_reducible exact cast_self _ | with_reducible exact cast_lit _ | exact nt (by omega) | rfl) (by first | exact Nat.le_of_ble_eq_true rfl | omega | (simp; omega)) (by first | exact Nat.le_of_ble_eq_true rfl | omega | (simp; omega)) (by simp only [maxLen]; omega) rfl) rfl ?_))
  | (((with_reducible refine isDk_any ?_); (first | refine x_d g_none ?_ | refine x_d (g_some rfl rfl (by first | assumption | with_reducible exact gd1 (by assumption) | with_reducible exact gd2 (by assumption) | with_reducible exact gd3 (by assumption) | with_reducible exact gd4 (by assumption) | with_reducible rfl | rfl | ((first | with_reducible refine gd1 ?_ | with_reducible refine gd2 ?_ | with_reducible refine gd3 ?_ | with_reducible refine gd4 ?_); omega) | (simp only [*] <;> fail) | fail)) ?_)); (first | ((with_reducible refine e_move ?_); (first | refine ex_i (s_move rfl) ?_)) | ((with_reducible refine e_load ?_); (first | refine ex_i (s_load1 tabOk rfl rfl rfl rfl (by first | rfl | fail)) ?_ | refine ex_i (s_load1r tabOk rfl rfl rfl rfl (by first | rfl | fail)) ?_ | refine ex_i (s_load1i tabOk rfl rfl rfl (by first | rfl | fail)) ?_ | refine ex_i (s_loadA tabOk rfl rfl rfl rfl rfl rfl (by first | exact IsAgg.closed rfl rfl | exact IsAgg.mixed _)) ?_ | refine ex_i (s_loadAr tabOk rfl rfl rfl rfl (by first | fail | exact whole0 (by first | rfl | omega) | rfl) (by first | rfl | with_reducible assumption | (simp <;> fail) | omega | (simp; omega) | assumption)) ?_ | refine ex_i (s_loadAi tabOk rfl rfl rfl (by first | fail | exact whole0 (by first | rfl | omega) | rfl) (by first | rfl | with_reducible assumption | (simp <;> fail) | omega | (simp; omega) | assumption)) ?_)) | ((with_reducible refine e_ixA ?_); (first | refine ex_i (s_ixC tabOk rfl rfl (by first | with_reducible exact cast_self _ | with_reducible exact cast_lit _ | exact nt (by omega) | rfl) rfl rfl rfl rfl (by first | exact Nat.le_of_ble_eq_true rfl | omega | (simp; omega))) ?_ | refine ex_i (s_ixO tabOk rfl rfl (by first | with_reducible exact cast_self _ | with_reducible exact cast_lit _ | exact nt (by omega) | rfl) rfl rfl rfl rfl (by first | exact Nat.le_of_ble_eq_true rfl | omega | (simp; omega))) ?_ | refine ex_i (s_ixA tabOk rfl rfl (by first | with_reducible exact cast_self _ | with_reducible exact cast_lit _ | exact nt (by omega) | rfl) rfl rfl rfl (by first | exact Nat.le_of_ble_eq_true rfl | omega | (simp; omega))) ?_ | refine ex_i (s_ixAi tabOk rfl rfl (by first | with_reducible exact cast_self _ | with_reducible exact cast_lit _ | exact nt (by omega) | rfl) rfl rfl rfl (by first | exact Nat.le_of_ble_eq_true rfl | omega | (simp; omega))) ?_)) | ((with_reducible refine e_bin (o := .add) ?_); (first | refine ex_i (s_arit64 rfl rfl rfl (by first | (simp only [Int.reduceAdd, Int.reduceSub, Int.reduceMul]; exact w64 (by omega) (by omega)) | exact w64 (by omega) (by omega) | exact wu64 (by omega) (by omega) | exact wu8 (by omega) (by omega) | rfl)) ?_ | refine ex_i (s_word rfl (by first | exact isW_rfl | exact isW_lit rfl) rfl (by first | exact isW_rfl | exact isW_lit rfl) rfl) ?_ | refine ex_i (s_arit rfl rfl rfl (by first | (simp only [Int.reduceAdd, Int.reduceSub, Int.reduceMul]; exact w64 (by omega) (by omega)) | exact w64 (by omega) (by omega) | exact wu64 (by omega) (by omega) | exact wu8 (by omega) (by omega) | rfl)) ?_)) | ((with_reducible refine e_bin (o := .sub) ?_); (first | refine ex_i (s_arit64 rfl rfl rfl (by first | (simp only [Int.reduceAdd, Int.reduceSub, Int.reduceMul]; exact w64 (by omega) (by omega)) | exact w64 (by omega) (by omega) | exact wu64 (by omega) (by omega) | exact wu8 (by omega) (by omega) | rfl)) ?_ | refine ex_i (s_word rfl (by first | exact isW_rfl | exact isW_lit rfl) rfl (by first | exact isW_rfl | exact isW_lit rfl) rfl) ?_ | refine ex_i (s_arit rfl rfl rfl (by first | (simp only [Int.reduceAdd, Int.reduceSub, Int.reduceMul]; exact w64 (by omega) (by omega)) | exact w64 (by omega) (by omega) | exact wu64 (by omega) (by omega) | exact wu8 (by omega) (by omega) | rfl)) ?_)) | ((with_reducible refine e_bin (o := .mul) ?_); (first | refine ex_i (s_arit64 rfl rfl rfl (by first | (simp only [Int.reduceAdd, Int.reduceSub, Int.reduceMul]; exact w64 (by omega) (by omega)) | exact w64 (by omega) (by omega) | exact wu64 (by omega) (by omega) | exact wu8 (by omega) (by omega) | rfl)) ?_ | refine ex_i (s_word rfl (by first | exact isW_rfl | exact isW_lit rfl) rfl (by first | exact isW_rfl | exact isW_lit rfl) rfl) ?_ | refine ex_i (s_arit rfl rfl rfl (by first | (simp only [Int.reduceAdd, Int.reduceSub, Int.reduceMul]; exact w64 (by omega) (by omega)) | exact w64 (by omega) (by omega) | exact wu64 (by omega) (by omega) | exact wu8 (by omega) (by omega) | rfl)) ?_)) | ((with_reducible refine e_bin (o := .eql) ?_); (first | refine ex_i (s_cmp rfl rfl rfl rfl) ?_ | refine ex_i (s_eqlB tabOk rfl rfl rfl rfl rfl) ?_ | refine ex_i (s_eqlS rfl rfl rfl) ?_)) | ((with_reducible refine e_bin (o := .neq) ?_); (first | refine ex_i (s_cmp rfl rfl rfl rfl) ?_ | refine ex_i (s_neqB tabOk rfl rfl rfl rfl rfl) ?_ | refine ex_i (s_neqS rfl rfl rfl) ?_)) | ((with_reducible refine e_bin (o := .lss) ?_); (first | refine ex_i (s_cmp rfl rfl rfl rfl) ?_)) | ((with_reducible refine e_bin (o := .leq) ?_); (first | refine ex_i (s_cmp rfl rfl rfl rfl) ?_)) | ((with_reducible refine e_bin (o := .gtr) ?_); (first | refine ex_i (s_cmp rfl rfl rfl rfl) ?_)) | ((with_reducible refine e_bin (o := .geq) ?_); (first | refine ex_i (s_cmp rfl rfl rfl rfl) ?_)) | ((with_reducible refine e_bin (o := .rem) ?_); (first | refine ex_i (s_rem (k := .i64) rfl rfl (by first | omega | decide) (by first | (simp only [Int.reduceTMod]; rfl) | exact r64 (by omega) | rfl)) ?_ | refine ex_i (s_rem rfl rfl (by first | omega | decide) (by first | (simp only [Int.reduceTMod]; rfl) | exact r64 (by omega) | rfl)) ?_)) | ((with_reducible refine e_bin (o := .quo) ?_); (first | refine ex_i (s_quo (k := .i64) rfl rfl (by first | omega | decide) (by first | exact q64 (by omega) (by omega) (by omega) | exact qu8 (by omega) (by omega) (by omega) | rfl)) ?_ | refine ex_i (s_quo rfl rfl (by first | omega | decide) (by first | exact q64 (by omega) (by omega) (by omega) | exact qu8 (by omega) (by omega) (by omega) | rfl)) ?_)) | ((with_reducible refine e_bin (o := .and) ?_); (first | refine ex_i (s_word rfl (by first | exact isW_rfl | exact isW_lit rfl) rfl (by first | exact isW_rfl | exact isW_lit rfl) rfl) ?_ | refine ex_i (s_and rfl rfl rfl) ?_)) | ((with_reducible refine e_bin (o := .or) ?_); (first | refine ex_i (s_word rfl (by first | exact isW_rfl | exact isW_lit rfl) rfl (by first | exact isW_rfl | exact isW_lit rfl) rfl) ?_ | refine ex_i (s_or rfl rfl rfl) ?_)) | ((with_reducible refine e_bin (o := .xor) ?_); (first | refine ex_i (s_word rfl (by first | exact isW_rfl | exact isW_lit rfl) rfl (by first | exact isW_rfl | exact isW_lit rfl) rfl) ?_ | refine ex_i (s_xor rfl rfl rfl) ?_)) | ((with_reducible refine e_bin (o := .andNot) ?_); (first | refine ex_i (s_andNot rfl rfl rfl) ?_)) | ((with_reducible refine e_bin (o := .shl) ?_); (first | refine ex_i (s_shlW rfl (by first | exact isW_rfl | exact isW_lit rfl) rfl (by first | with_reducible exact cast_self _ | with_reducible exact cast_lit _ | exact nt (by omega) | rfl)) ?_ | refine ex_i (s_shl rfl rfl (by first | exact Nat.le_of_ble_eq_true rfl | omega | (simp; omega)) rfl) ?_)) | ((with_reducible refine e_bin (o := .shr) ?_); (first | refine ex_i (s_shrW rfl (by first | exact isW_rfl | exact isW_lit rfl) rfl (by first | with_reducible exact cast_self _ | with_reducible exact cast_lit _ | exact nt (by omega) | rfl)) ?_ | refine ex_i (s_shr rfl rfl (by first | exact Nat.le_of_ble_eq_true rfl | omega | (simp; omega)) rfl) ?_)) | ((with_reducible refine e_assign ?_); (first | refine ex_i (s_assign rfl) ?_)) | ((with_reducible refine e_bi ?_); (first | refine ex_i (s_lenC tabOk rfl rfl rfl) ?_ | refine ex_i (s_lenO tabOk rfl rfl rfl) ?_ | refine ex_i (s_lenS tabOk rfl rfl rfl) ?_ | refine ex_i (s_lenN tabOk rfl rfl rfl) ?_ | refine ex_i (s_capN tabOk rfl rfl rfl) ?_ | refine ex_i (s_min rfl rfl rfl) ?_ | refine ex_i (s_max rfl rfl rfl) ?_)) | ((with_reducible refine e_un ?_); (first | refine ex_i (s_not rfl rfl) ?_ | refine ex_i (s_complW rfl (by first | exact isW_rfl | exact isW_lit rfl)) ?_ | refine ex_i (s_neg rfl (by first | exact w64 (by omega) (by omega) | rfl)) ?_ | refine ex_i (s_compl rfl rfl) ?_)) | ((with_reducible refine e_conv ?_); (first | refine ex_i (s_convWB rfl (by first | exact isW_rfl | exact isW_lit rfl) tabOk rfl rfl rfl) ?_ | refine ex_i (s_convWW rfl (by first | exact isW_rfl | exact isW_lit rfl) tabOk rfl rfl rfl) ?_ | refine ex_i (s_convBW rfl tabOk rfl rfl rfl) ?_ | refine ex_i (s_convIW rfl tabOk rfl rfl rfl) ?_ | refine ex_i (s_convInt tabOk rfl rfl rfl rfl (by first | (simp only [Int.reduceAdd, Int.reduceSub, Int.reduceMul]; exact w64 (by omega) (by omega)) | exact w64 (by omega) (by omega) | exact wu64 (by omega) (by omega) | exact wu8 (by omega) (by omega) | rfl)) ?_ | refine ex_i (s_convStr tabOk rfl rfl rfl rfl) ?_ | refine ex_i (s_toStr tabOk rfl rfl rfl rfl rfl rfl rfl (by first | exact frz_c cv_rfl | exact frz_c cv_nil | exact frz_ownW rfl rfl (by first | rfl | with_reducible assumption | (simp <;> fail) | omega | (simp; omega) | assumption))) ?_)) | ((with_reducible refine e_fldA ?_); (first | refine ex_i (s_fieldAddr tabOk rfl rfl rfl rfl rfl rfl) ?_ | refine ex_i (s_fieldAddri tabOk rfl rfl rfl rfl rfl rfl) ?_)) | ((with_reducible refine e_fld ?_); (first | refine ex_i (s_field1 tabOk rfl rfl rfl rfl rfl rfl (by first | exact Parts.mixed _ | exact Parts.closed _) (by rfl)) ?_ | refine ex_i (s_fieldA tabOk rfl rfl rfl rfl rfl rfl (by first | exact Parts.mixed _ | exact Parts.closed _) (by rfl) (by first | exact IsAgg.closed rfl rfl | exact IsAgg.mixed _)) ?_)) | ((with_reducible refine e_ext ?_); (first | refine ex_i (s_extract rfl rfl) ?_)) | ((with_reducible refine e_slice ?_); (first | refine ex_i (s_slO0 tabOk rfl rfl rfl rfl (by first | exact Bd.no | exact Bd.yes rfl (by first | with_reducible exact cast_self _ | with_reducible exact cast_lit _ | exact nt (by omega) | rfl)) (by first | exact Nat.le_of_ble_eq_true rfl | omega | (simp; omega)) rfl rfl) ?_ | refine ex_i (s_slC tabOk rfl rfl rfl rfl (by first | exact Bd.no | exact Bd.yes rfl (by first | with_reducible exact cast_self _ | with_reducible exact cast_lit _ | exact nt (by omega) | rfl)) (by first | exact Bd.no | exact Bd.yes rfl (by first | with_reducible exact cast_self _ | with_reducible exact cast_lit _ | exact nt (by omega) | rfl)) (by first | exact Nat.le_of_ble_eq_true rfl | omega | (simp; omega)) (by first | exact Nat.le_of_ble_eq_true rfl | omega | (simp; omega)) rfl rfl) ?_ | refine ex_i (s_slO tabOk rfl rfl rfl rfl (by first | exact Bd.no | exact Bd.yes rfl (by first | with_reducible exact cast_self _ | with_reducible exact cast_lit _ | exact nt (by omega) | rfl)) (by first | exact Bd.no | exact Bd.yes rfl (by first | with_reducible exact cast_self _ | with_reducible exact cast_lit _ | exact nt (by omega) | rfl)) (by first | exact Nat.le_of_ble_eq_true rfl | omega | (simp; omega)) (by first | exact Nat.le_of_ble_eq_true rfl | omega | (simp; omega)) rfl) ?_ | refine ex_i (s_slArr tabOk rfl rfl rfl rfl (by first | exact Bd.no | exact Bd.yes rfl (by first | with_reducible exact cast_self _ | with_reducible exact cast_lit _ | exact nt (by omega) | rfl)) (by first | exact Bd.no | exact Bd.yes rfl (by first | with_reducible exact cast_self _ | with_reducible exact cast_lit _ | exact nt (by omega) | rfl)) (by first | exact Nat.le_of_ble_eq_true rfl | omega | (simp; omega)) (by first | exact Nat.le_of_ble_eq_true rfl | omega | (simp; omega)) (by decide)) ?_ | refine ex_i (s_slStr tabOk rfl rfl rfl (by first | exact Bd.no | exact Bd.yes rfl (by first | with_reducible exact cast_self _ | with_reducible exact cast_lit _ | exact nt (by omega) | rfl)) (by first | exact Bd.no | exact Bd.yes rfl (by first | with_reducible exact cast_self _ | with_reducible exact cast_lit _ | exact nt (by omega) | rfl)) (by first | exact Nat.le_of_ble_eq_true rfl | omega | (simp; omega)) (by first | exact Nat.le_of_ble_eq_true rfl | omega | (simp; omega))) ?_ | refine ex_i (s_slArri tabOk rfl rfl rfl rfl (by first | exact Bd.no | exact Bd.yes rfl (by first | with_reducible exact cast_self _ | with_reducible exact cast_lit _ | exact nt (by omega) | rfl)) (by first | exact Bd.no | exact Bd.yes rfl (by first | with_reducible exact cast_self _ | with_reducible exact cast_lit _ | exact nt (by omega) | rfl)) (by first | exact Nat.le_of_ble_eq_true rfl | omega | (simp; omega)) (by first | exact Nat.le_of_ble_eq_true rfl | omega | (simp; omega)) (by decide) (by first | fail | exact whole0 (by first | rfl | omega) | rfl) (by first | rfl | with_reducible assumption | (simp <;> fail) | omega | (simp; omega) | assumption)) ?_ | refine ex_i (s_slN tabOk rfl rfl rfl (by first | exact Bd.no | exact Bd.yes rfl (by first | with_reducible exact cast_self _ | with_reducible exact cast_lit _ | exact nt (by omega) | rfl)) rfl) ?_)) | ((with_reducible refine e_ix ?_); (first | refine ex_i (s_ixV1 tabOk rfl rfl (by first | with_reducible exact cast_self _ | with_reducible exact cast_lit _ | exact nt (by omega) | rfl) rfl rfl rfl rfl rfl (by first | exact Nat.le_of_ble_eq_true rfl | omega | (simp; omega)) (by first | rfl | fail)) ?_ | refine ex_i (s_ixStr tabOk rfl rfl (by first | with_reducible exact cast_self _ | with_reducible exact cast_lit _ | exact nt (by omega) | rfl) rfl rfl (by first | rfl | fail)) ?_)) | ((with_reducible refine e_build ?_); (first | refine ex_i (s_buildA tabOk rfl rfl rfl rfl (cellsLF_ok rfl) (by rfl) (by first | exact IsAgg.closed rfl rfl | exact IsAgg.mixed _)) ?_ | refine ex_i (s_build tabOk rfl rfl rfl rfl (cellsLF_ok rfl) (by rfl) (by first | exact IsAgg.closed rfl rfl | exact IsAgg.mixed _)) ?_)) | ((with_reducible refine e_pick ?_); (first | refine ex_i (s_pickT rfl rfl) ?_ | refine ex_i (s_pickF rfl rfl) ?_ | refine ex_i (s_pickTb rfl (by first | assumption | exact decide_eq_true (by omega) | (simp only [*] <;> fail) | fail) rfl) ?_ | refine ex_i (s_pickFb rfl (by first | assumption | exact decide_eq_false (by omega) | (simp only [*] <;> fail) | fail) rfl) ?_)) | ((with_reducible refine e_mkfn ?_); (first | refine ex_i (s_makeFunc rfl) ?_)) | ((with_reducible refine e_nil ?_); (first | refine ex_i (s_nilCheck rfl) ?_ | refine ex_i (s_nilChecki rfl) ?_))))
  | ((with_reducible refine isDk_g ?_); (refine d_skip (g_some rfl rfl (by first | rfl | ((first | with_reducible refine gd1 ?_ | with_reducible refine gd2 ?_ | with_reducible refine gd3 ?_ | with_reducible refine gd4 ?_); omega) | (simp only [*] <;> fail) | fail)) ?_)))
  exact hq.out) : p := h ⟨hq⟩
theorem stE {p q : Prop} (hq : q) (h : Kept q → p := by
  intro hq
  (first
  | (refine drwE_end (by kernel_rfl) (by kernel_rfl) (by kernel_rfl) (by kernel_rfl) rfl ?_)
  | ((with_reducible refine isEk_g ?_); (refine e_skip (g_some rfl rfl (by first | assumption | with_reducible exact gd1 (by assumption) | with_reducible exact gd2 (by assumption) | with_reducible exact gd3 (by assumption) | with_reducible exact gd4 (by assumption) | with_reducible rfl)) ?_))
  | ((with_reducible refine isE_bi ?_); (first | (refine d_append tabOk g_none rfl rfl rfl rfl rfl rfl rfl rfl rfl (by first | rfl | with_reducible assumption | (simp <;> fail) | omega | (simp; omega) | assumption) rfl (by first | exact src_c | exact src_nil | exact src_ownW rfl (by first | rfl | with_reducible assumption | (simp <;> fail) | omega | (simp; omega) | assumption)) (by first | (simp only [maxLen]; omega) | (simp [maxLen]; omega)) (by first | exact Nat.le_of_ble_eq_true rfl | omega | (simp; omega)) rfl ?_) | (refine d_append tabOk (g_some rfl rfl (by first | assumption | with_reducible exact gd1 (by assumption) | with_reducible exact gd2 (by assumption) | with_reducible exact gd3 (by assumption) | with_reducible exact gd4 (by assumption) | with_reducible rfl | rfl | ((first | with_reducible refine gd1 ?_ | with_reducible refine gd2 ?_ | with_reducible refine gd3 ?_ | with_reducible refine gd4 ?_); omega) | (simp only [*] <;> fail) | fail)) rfl rfl rfl rfl rfl rfl rfl rfl rfl (by first | rfl | with_reducible assumption | (simp <;> fail) | omega | (simp; omega) | assumption) rfl (by first | exact src_c | exact src_nil | exact src_ownW rfl (by first | rfl | with_reducible assumption | (simp <;> fail) | omega | (simp; omega) | assumption)) (by first | (simp only [maxLen]; omega) | (simp [maxLen]; omega)) (by first | exact Nat.le_of_ble_eq_true rfl | omega | (simp; omega)) rfl ?_) | ((first | refine y_e g_none rfl rfl ?_ | refine y_e (g_some rfl rfl (by first | assumption | with_reducible exact gd1 (by assumption) | with_reducible exact gd2 (by assumption) | with_reducible exact gd3 (by assumption) | with_reducible exact gd4 (by assumption) | with_reducible rfl | rfl | ((first | with_reducible refine gd1 ?_ | with_reducible refine gd2 ?_ | with_reducible refine gd3 ?_ | with_reducible refine gd4 ?_); omega) | (simp only [*] <;> fail) | fail)) rfl rfl ?_); refine ey_i (b_appendN tabOk rfl rfl rfl rfl rfl rfl rfl rfl (by first | exact src_c | exact src_nil | exact src_ownW rfl (by first | rfl | with_reducible assumption | (simp <;> fail) | omega | (simp; omega) | assumption)) (by first | (simp only [maxLen]; omega) | (simp [maxLen]; omega)) (by first | exact Nat.le_of_ble_eq_true rfl | omega | (simp; omega))) rfl ?_) | ((first | refine y_e g_none rfl rfl ?_ | refine y_e (g_some rfl rfl (by first | assumption | with_reducible exact gd1 (by assumption) | with_reducible exact gd2 (by assumption) | with_reducible exact gd3 (by assumption) | with_reducible exact gd4 (by assumption) | with_reducible rfl | rfl | ((first | with_reducible refine gd1 ?_ | with_reducible refine gd2 ?_ | with_reducible refine gd3 ?_ | with_reducible refine gd4 ?_); omega) | (simp only [*] <;> fail) | fail)) rfl rfl ?_); refine ey_i (a_appendZ tabOk rfl rfl rfl rfl rfl rfl rfl rfl rfl rfl rfl (by first | with_reducible exact cast_self _ | with_reducible exact cast_lit _ | exact nt (by omega) | rfl) (by first | exact Nat.le_of_ble_eq_true rfl | omega | (simp; omega)) (by first | (simp only [maxLen]; omega) | (simp [maxLen]; omega)) (by first | exact Nat.le_of_ble_eq_true rfl | omega | (simp; omega))) rfl ?_)))
  | ((with_reducible refine isE_store ?_); (first | (refine d_store1 tabOk g_none rfl rfl rfl rfl rfl rfl rfl rfl rfl rfl ?_) | (refine d_store1r tabOk g_none rfl rfl rfl rfl rfl rfl rfl rfl rfl rfl ?_) | (refine d_store1rL tabOk g_none rfl rfl rfl rfl rfl rfl rfl rfl (by first | exact Nat.le_of_ble_eq_true rfl | omega | (simp; omega)) rfl ?_) | (refine d_storeA tabOk g_none rfl rfl rfl rfl rfl (by first | exact Parts.mixed _ | exact Parts.closed _) (by rfl) (by rfl) rfl (by decide) (by rfl) rfl ?_) | (refine d_storeAr tabOk g_none rfl rfl rfl rfl rfl (by first | rfl | with_reducible assumption | (simp <;> fail) | omega | (simp; omega) | assumption) rfl (by first | exact Nat.le_of_ble_eq_true rfl | omega | (simp; omega)) (by first | exact lay_whole _ _ (by first | rfl | with_reducible assumption | (simp <;> fail) | omega | (simp; omega) | assumption) | rfl) rfl ?_)))
  | ((with_reducible refine isE_alloc ?_); (first | refine y_e g_none rfl rfl ?_ | refine y_e (g_some rfl rfl (by first | assumption | with_reducible exact gd1 (by assumption) | with_reducible exact gd2 (by assumption) | with_reducible exact gd3 (by assumption) | with_reducible exact gd4 (by assumption) | with_reducible rfl | rfl | ((first | with_reducible refine gd1 ?_ | with_reducible refine gd2 ?_ | with_reducible refine gd3 ?_ | with_reducible refine gd4 ?_); omega) | (simp only [*] <;> fail) | fail)) rfl rfl ?_); (first | refine ey_i (a_allocR tabOk rfl rfl rfl rfl) rfl ?_ | refine ey_i (a_alloc tabOk rfl rfl) rfl ?_))
  | ((with_reducible refine isE_box ?_); (first | refine y_e g_none rfl rfl ?_ | refine y_e (g_some rfl rfl (by first | assumption | with_reducible exact gd1 (by assumption) | with_reducible exact gd2 (by assumption) | with_reducible exact gd3 (by assumption) | with_reducible exact gd4 (by assumption) | with_reducible rfl | rfl | ((first | with_reducible refine gd1 ?_ | with_reducible refine gd2 ?_ | with_reducible refine gd3 ?_ | with_reducible refine gd4 ?_); omega) | (simp only [*] <;> fail) | fail)) rfl rfl ?_); (first | refine ey_i (a_boxR (tab := tab) rfl rfl rfl) rfl ?_ | refine ey_i (a_box1 rfl rfl) rfl ?_ | refine ey_i (a_boxA rfl (by first | exact Parts.mixed _ | exact Parts.closed _)) rfl ?_))
  | ((with_reducible refine isE_bslice ?_); (first | refine y_e g_none rfl rfl ?_ | refine y_e (g_some rfl rfl (by first | assumption | with_reducible exact gd1 (by assumption) | with_reducible exact gd2 (by assumption) | with_reducible exact gd3 (by assumption) | with_reducible exact gd4 (by assumption) | with_reducible rfl | rfl | ((first | with_reducible refine gd1 ?_ | with_reducible refine gd2 ?_ | with_reducible refine gd3 ?_ | with_reducible refine gd4 ?_); omega) | (simp only [*] <;> fail) | fail)) rfl rfl ?_); (first | refine ey_i (b_bslice0 tabOk rfl rfl rfl rfl rfl) rfl ?_ | refine ey_i (b_bslice tabOk rfl rfl rfl rfl rfl rfl rfl rfl rfl rfl rfl rfl (flatLF_ok rfl) (by first | rfl | exact all1 (by assumption) | (simp <;> fail) | fail) (by rfl)) rfl ?_))
  | ((with_reducible refine isE_mksl ?_); (first | refine y_e g_none rfl rfl ?_ | refine y_e (g_some rfl rfl (by first | assumption | with_reducible exact gd1 (by assumption) | with_reducible exact gd2 (by assumption) | with_reducible exact gd3 (by assumption) | with_reducible exact gd4 (by assumption) | with_reducible rfl | rfl | ((first | with_reducible refine gd1 ?_ | with_reducible refine gd2 ?_ | with_reducible refine gd3 ?_ | with_reducible refine gd4 ?_); omega) | (simp only [*] <;> fail) | fail)) rfl rfl ?_); (first | refine ey_i (b_make tabOk rfl rfl rfl rfl rfl rfl rfl rfl rfl rfl (by first | with_reducible exact cast_self _ | with_reducible exact cast_lit _ | exact nt (by omega) | rfl) (by first | with_reducible exact cast_self _ | with_reducible exact cast_lit _ | exact nt (by omega) | rfl) (by first | exact Nat.le_of_ble_eq_true rfl | omega | (simp; omega)) (by first | exact Nat.le_of_ble_eq_true rfl | omega | (simp; omega)) (by simp only [maxLen]; omega) rfl) rfl ?_))
  | (((with_reducible refine isEk_any ?_); (first | refine x_e g_none rfl rfl ?_ | refine x_e (g_some rfl rfl (by first | assumption | with_reducible exact gd1 (by assumption) | with_reducible exact gd2 (by assumption) | with_reducible exact gd3 (by assumption) | with_reducible exact gd4 (by assumption) | with_reducible rfl | rfl | ((first | with_reducible refine gd1 ?_ | with_reducible refine gd2 ?_ | with_reducible refine gd3 ?_ | with_reducible refine gd4 ?_); omega) | (simp only [*] <;> fail) | fail)) rfl rfl ?_)); (first | ((with_reducible refine e_move ?_); (first | refine ex_i (s_move rfl) ?_)) | ((with_reducible refine e_load ?_); (first | refine ex_i (s_load1 tabOk rfl rfl rfl rfl (by first | rfl | fail)) ?_ | refine ex_i (s_load1r tabOk rfl rfl rfl rfl (by first | rfl | fail)) ?_ | refine ex_i (s_load1i tabOk rfl rfl rfl (by first | rfl | fail)) ?_ | refine ex_i (s_loadA tabOk rfl rfl rfl rfl rfl rfl (by first | exact IsAgg.closed rfl rfl | exact IsAgg.mixed _)) ?_ | refine ex_i (s_loadAr tabOk rfl rfl rfl rfl (by first | fail | exact whole0 (by first | rfl | omega) | rfl) (by first | rfl | with_reducible assumption | (simp <;> fail) | omega | (simp; omega) | assumption)) ?_ | refine ex_i (s_loadAi tabOk rfl rfl rfl (by first | fail | exact whole0 (by first | rfl | omega) | rfl) (by first | rfl | with_reducible assumption | (simp <;> fail) | omega | (simp; omega) | assumption)) ?_)) | ((with_reducible refine e_ixA ?_); (first | refine ex_i (s_ixC tabOk rfl rfl (by first | with_reducible exact cast_self _ | with_reducible exact cast_lit _ | exact nt (by omega) | rfl) rfl rfl rfl rfl (by first | exact Nat.le_of_ble_eq_true rfl | omega | (simp; omega))) ?_ | refine ex_i (s_ixO tabOk rfl rfl (by first | with_reducible exact cast_self _ | with_reducible exact cast_lit _ | exact nt (by omega) | rfl) rfl rfl rfl rfl (by first | exact Nat.le_of_ble_eq_true rfl | omega | (simp; omega))) ?_ | refine ex_i (s_ixA tabOk rfl rfl (by first | with_reducible exact cast_self _ | with_reducible exact cast_lit _ | exact nt (by omega) | rfl) rfl rfl rfl (by first | exact Nat.le_of_ble_eq_true rfl | omega | (simp; omega))) ?_ | refine ex_i (s_ixAi tabOk rfl rfl (by first | with_reducible exact cast_self _ | with_reducible exact cast_lit _ | exact nt (by omega) | rfl) rfl rfl rfl (by first | exact Nat.le_of_ble_eq_true rfl | omega | (simp; omega))) ?_)) | ((with_reducible refine e_bin (o := .add) ?_); (first | refine ex_i (s_arit64 rfl rfl rfl (by first | (simp only [Int.reduceAdd, Int.reduceSub, Int.reduceMul]; exact w64 (by omega) (by omega)) | exact w64 (by omega) (by omega) | exact wu64 (by omega) (by omega) | exact wu8 (by omega) (by omega) | rfl)) ?_ | refine ex_i (s_word rfl (by first | exact isW_rfl | exact isW_lit rfl) rfl (by first | exact isW_rfl | exact isW_lit rfl) rfl) ?_ | refine ex_i (s_arit rfl rfl rfl (by first | (simp only [Int.reduceAdd, Int.reduceSub, Int.reduceMul]; exact w64 (by omega) (by omega)) | exact w64 (by omega) (by omega) | exact wu64 (by omega) (by omega) | exact wu8 (by omega) (by omega) | rfl)) ?_)) | ((with_reducible refine e_bin (o := .sub) ?_); (first | refine ex_i (s_arit64 rfl rfl rfl (by first | (simp only [Int.reduceAdd, Int.reduceSub, Int.reduceMul]; exact w64 (by omega) (by omega)) | exact w64 (by omega) (by omega) | exact wu64 (by omega) (by omega) | exact wu8 (by omega) (by omega) | rfl)) ?_ | refine ex_i (s_word rfl (by first | exact isW_rfl | exact isW_lit rfl) rfl (by first | exact isW_rfl | exact isW_lit rfl) rfl) ?_ | refine ex_i (s_arit rfl rfl rfl (by first | (simp only [Int.reduceAdd, Int.reduceSub, Int.reduceMul]; exact w64 (by omega) (by omega)) | exact w64 (by omega) (by omega) | exact wu64 (by omega) (by omega) | exact wu8 (by omega) (by omega) | rfl)) ?_)) | ((with_reducible refine e_bin (o := .mul) ?_); (first | refine ex_i (s_arit64 rfl rfl rfl (by first | (simp only [Int.reduceAdd, Int.reduceSub, Int.reduceMul]; exact w64 (by omega) (by omega)) | exact w64 (by omega) (by omega) | exact wu64 (by omega) (by omega) | exact wu8 (by omega) (by omega) | rfl)) ?_ | refine ex_i (s_word rfl (by first | exact isW_rfl | exact isW_lit rfl) rfl (by first | exact isW_rfl | exact isW_lit rfl) rfl) ?_ | refine ex_i (s_arit rfl rfl rfl (by first | (simp only [Int.reduceAdd, Int.reduceSub, Int.reduceMul]; exact w64 (by omega) (by omega)) | exact w64 (by omega) (by omega) | exact wu64 (by omega) (by omega) | exact wu8 (by omega) (by omega) | rfl)) ?_)) | ((with_reducible refine e_bin (o := .eql) ?_); (first | refine ex_i (s_cmp rfl rfl rfl rfl) ?_ | refine ex_i (s_eqlB tabOk rfl rfl rfl rfl rfl) ?_ | refine ex_i (s_eqlS rfl rfl rfl) ?_)) | ((with_reducible refine e_bin (o := .neq) ?_); (first | refine ex_i (s_cmp rfl rfl rfl rfl) ?_ | refine ex_i (s_neqB tabOk rfl rfl rfl rfl rfl) ?_ | refine ex_i (s_neqS rfl rfl rfl) ?_)) | ((with_reducible refine e_bin (o := .lss) ?_); (first | refine ex_i (s_cmp rfl rfl rfl rfl) ?_)) | ((with_reducible refine e_bin (o := .leq) ?_); (first | refine ex_i (s_cmp rfl rfl rfl rfl) ?_)) | ((with_reducible refine e_bin (o := .gtr) ?_); (first | refine ex_i (s_cmp rfl rfl rfl rfl) ?_)) | ((with_reducible refine e_bin (o := .geq) ?_); (first | refine ex_i (s_cmp rfl rfl rfl rfl) ?_)) | ((with_reducible refine e_bin (o := .rem) ?_); (first | refine ex_i (s_rem (k := .i64) rfl rfl (by first | omega | decide) (by first | (simp only [Int.reduceTMod]; rfl) | exact r64 (by omega) | rfl)) ?_ | refine ex_i (s_rem rfl rfl (by first | omega | decide) (by first | (simp only [Int.reduceTMod]; rfl) | exact r64 (by omega) | rfl)) ?_)) | ((with_reducible refine e_bin (o := .quo) ?_); (first | refine ex_i (s_quo (k := .i64) rfl rfl (by first | omega | decide) (by first | exact q64 (by omega) (by omega) (by omega) | exact qu8 (by omega) (by omega) (by omega) | rfl)) ?_ | refine ex_i (s_quo rfl rfl (by first | omega | decide) (by first | exact q64 (by omega) (by omega) (by omega) | exact qu8 (by omega) (by omega) (by omega) | rfl)) ?_)) | ((with_reducible refine e_bin (o := .and) ?_); (first | refine ex_i (s_word rfl (by first | exact isW_rfl | exact isW_lit rfl) rfl (by first | exact isW_rfl | exact isW_lit rfl) rfl) ?_ | refine ex_i (s_and rfl rfl rfl) ?_)) | ((with_reducible refine e_bin (o := .or) ?_); (first | refine ex_i (s_word rfl (by first | exact isW_rfl | exact isW_lit rfl) rfl (by first | exact isW_rfl | exact isW_lit rfl) rfl) ?_ | refine ex_i (s_or rfl rfl rfl) ?_)) | ((with_reducible refine e_bin (o := .xor) ?_); (first | refine ex_i (s_word rfl (by first | exact isW_rfl | exact isW_lit rfl) rfl (by first | exact isW_rfl | exact isW_lit rfl) rfl) ?_ | refine ex_i (s_xor rfl rfl rfl) ?_)) | ((with_reducible refine e_bin (o := .andNot) ?_); (first | refine ex_i (s_andNot rfl rfl rfl) ?_)) | ((with_reducible refine e_bin (o := .shl) ?_); (first | refine ex_i (s_shlW rfl (by first | exact isW_rfl | exact isW_lit rfl) rfl (by first | with_reducible exact cast_self _ | with_reducible exact cast_lit _ | exact nt (by omega) | rfl)) ?_ | refine ex_i (s_shl rfl rfl (by first | exact Nat.le_of_ble_eq_true rfl | omega | (simp; omega)) rfl) ?_)) | ((with_reducible refine e_bin (o := .shr) ?_); (first | refine ex_i (s_shrW rfl (by first | exact isW_rfl | exact isW_lit rfl) rfl (by first | with_reducible exact cast_self _ | with_reducible exact cast_lit _ | exact nt (by omega) | rfl)) ?_ | refine ex_i (s_shr rfl rfl (by first | exact Nat.le_of_ble_eq_true rfl | omega | (simp; omega)) rfl) ?_)) | ((with_reducible refine e_assign ?_); (first | refine ex_i (s_assign rfl) ?_)) | ((with_reducible refine e_bi ?_); (first | refine ex_i (s_lenC tabOk rfl rfl rfl) ?_ | refine ex_i (s_lenO tabOk rfl rfl rfl) ?_ | refine ex_i (s_lenS tabOk rfl rfl rfl) ?_ | refine ex_i (s_lenN tabOk rfl rfl rfl) ?_ | refine ex_i (s_capN tabOk rfl rfl rfl) ?_ | refine ex_i (s_min rfl rfl rfl) ?_ | refine ex_i (s_max rfl rfl rfl) ?_)) | ((with_reducible refine e_un ?_); (first | refine ex_i (s_not rfl rfl) ?_ | refine ex_i (s_complW rfl (by first | exact isW_rfl | exact isW_lit rfl)) ?_ | refine ex_i (s_neg rfl (by first | exact w64 (by omega) (by omega) | rfl)) ?_ | refine ex_i (s_compl rfl rfl) ?_)) | ((with_reducible refine e_conv ?_); (first | refine ex_i (s_convWB rfl (by first | exact isW_rfl | exact isW_lit rfl) tabOk rfl rfl rfl) ?_ | refine ex_i (s_convWW rfl (by first | exact isW_rfl | exact isW_lit rfl) tabOk rfl rfl rfl) ?_ | refine ex_i (s_convBW rfl tabOk rfl rfl rfl) ?_ | refine ex_i (s_convIW rfl tabOk rfl rfl rfl) ?_ | refine ex_i (s_convInt tabOk rfl rfl rfl rfl (by first | (simp only [Int.reduceAdd, Int.reduceSub, Int.reduceMul]; exact w64 (by omega) (by omega)) | exact w64 (by omega) (by omega) | exact wu64 (by omega) (by omega) | exact wu8 (by omega) (by omega) | rfl)) ?_ | refine ex_i (s_convStr tabOk rfl rfl rfl rfl) ?_ | refine ex_i (s_toStr tabOk rfl rfl rfl rfl rfl rfl rfl (by first | exact frz_c cv_rfl | exact frz_c cv_nil | exact frz_ownW rfl rfl (by first | rfl | with_reducible assumption | (simp <;> fail) | omega | (simp; omega) | assumption))) ?_)) | ((with_reducible refine e_fldA ?_); (first | refine ex_i (s_fieldAddr tabOk rfl rfl rfl rfl rfl rfl) ?_ | refine ex_i (s_fieldAddri tabOk rfl rfl rfl rfl rfl rfl) ?_)) | ((with_reducible refine e_fld ?_); (first | refine ex_i (s_field1 tabOk rfl rfl rfl rfl rfl rfl (by first | exact Parts.mixed _ | exact Parts.closed _) (by rfl)) ?_ | refine ex_i (s_fieldA tabOk rfl rfl rfl rfl rfl rfl (by first | exact Parts.mixed _ | exact Parts.closed _) (by rfl) (by first | exact IsAgg.closed rfl rfl | exact IsAgg.mixed _)) ?_)) | ((with_reducible refine e_ext ?_); (first | refine ex_i (s_extract rfl rfl) ?_)) | ((with_reducible refine e_slice ?_); (first | refine ex_i (s_slO0 tabOk rfl rfl rfl rfl (by first | exact Bd.no | exact Bd.yes rfl (by first | with_reducible exact cast_self _ | with_reducible exact cast_lit _ | exact nt (by omega) | rfl)) (by first | exact Nat.le_of_ble_eq_true rfl | omega | (simp; omega)) rfl rfl) ?_ | refine ex_i (s_slC tabOk rfl rfl rfl rfl (by first | exact Bd.no | exact Bd.yes rfl (by first | with_reducible exact cast_self _ | with_reducible exact cast_lit _ | exact nt (by omega) | rfl)) (by first | exact Bd.no | exact Bd.yes rfl (by first | with_reducible exact cast_self _ | with_reducible exact cast_lit _ | exact nt (by omega) | rfl)) (by first | exact Nat.le_of_ble_eq_true rfl | omega | (simp; omega)) (by first | exact Nat.le_of_ble_eq_true rfl | omega | (simp; omega)) rfl rfl) ?_ | refine ex_i (s_slO tabOk rfl rfl rfl rfl (by first | exact Bd.no | exact Bd.yes rfl (by first | with_reducible exact cast_self _ | with_reducible exact cast_lit _ | exact nt (by omega) | rfl)) (by first | exact Bd.no | exact Bd.yes rfl (by first | with_reducible exact cast_self _ | with_reducible exact cast_lit _ | exact nt (by omega) | rfl)) (by first | exact Nat.le_of_ble_eq_true rfl | omega | (simp; omega)) (by first | exact Nat.le_of_ble_eq_true rfl | omega | (simp; omega)) rfl) ?_ | refine ex_i (s_slArr tabOk rfl rfl rfl rfl (by first | exact Bd.no | exact Bd.yes rfl (by first | with_reducible exact cast_self _ | with_reducible exact cast_lit _ | exact nt (by omega) | rfl)) (by first | exact Bd.no | exact Bd.yes rfl (by first | with_reducible exact cast_self _ | with_reducible exact cast_lit _ | exact nt (by omega) | rfl)) (by first | exact Nat.le_of_ble_eq_true rfl | omega | (simp; omega)) (by first | exact Nat.le_of_ble_eq_true rfl | omega | (simp; omega)) (by decide)) ?_ | refine ex_i (s_slStr tabOk rfl rfl rfl (by first | exact Bd.no | exact Bd.yes rfl (by first | with_reducible exact cast_self _ | with_reducible exact cast_lit _ | exact nt (by omega) | rfl)) (by first | exact Bd.no | exact Bd.yes rfl (by first | with_reducible exact cast_self _ | with_reducible exact cast_lit _ | exact nt (by omega) | rfl)) (by first | exact Nat.le_of_ble_eq_true rfl | omega | (simp; omega)) (by first | exact Nat.le_of_ble_eq_true rfl | omega | (simp; omega))) ?_ | refine ex_i (s_slArri tabOk rfl rfl rfl rfl (by first | exact Bd.no | exact Bd.yes rfl (by first | with_reducible exact cast_self _ | with_reducible exact cast_lit _ | exact nt (by omega) | rfl)) (by first | exact Bd.no | exact Bd.yes rfl (by first | with_reducible exact cast_self _ | with_reducible exact cast_lit _ | exact nt (by omega) | rfl)) (by first | exact Nat.le_of_ble_eq_true rfl | omega | (simp; omega)) (by first | exact Nat.le_of_ble_eq_true rfl | omega | (simp; omega)) (by decide) (by first | fail | exact whole0 (by first | rfl | omega) | rfl) (by first | rfl | with_reducible assumption | (simp <;> fail) | omega | (simp; omega) | assumption)) ?_ | refine ex_i (s_slN tabOk rfl rfl rfl (by first | exact Bd.no | exact Bd.yes rfl (by first | with_reducible exact cast_self _ | with_reducible exact cast_lit _ | exact nt (by omega) | rfl)) rfl) ?_)) | ((with_reducible refine e_ix ?_); (first | refine ex_i (s_ixV1 tabOk rfl rfl (by first | with_reducible exact cast_self _ | with_reducible exact cast_lit _ | exact nt (by omega) | rfl) rfl rfl rfl rfl rfl (by first | exact Nat.le_of_ble_eq_true rfl | omega | (simp; omega)) (by first | rfl | fail)) ?_ | refine ex_i (s_ixStr tabOk rfl rfl (by first | with_reducible exact cast_self _ | with_reducible exact cast_lit _ | exact nt (by omega) | rfl) rfl rfl (by first | rfl | fail)) ?_)) | ((with_reducible refine e_build ?_); (first | refine ex_i (s_buildA tabOk rfl rfl rfl rfl (cellsLF_ok rfl) (by rfl) (by first | exact IsAgg.closed rfl rfl | exact IsAgg.mixed _)) ?_ | refine ex_i (s_build tabOk rfl rfl rfl rfl (cellsLF_ok rfl) (by rfl) (by first | exact IsAgg.closed rfl rfl | exact IsAgg.mixed _)) ?_)) | ((with_reducible refine e_pick ?_); (first | refine ex_i (s_pickT rfl rfl) ?_ | refine ex_i (s_pickF rfl rfl) ?_ | refine ex_i (s_pickTb rfl (by first | assumption | exact decide_eq_true (by omega) | (simp only [*] <;> fail) | fail) rfl) ?_ | refine ex_i (s_pickFb rfl (by first | assumption | exact decide_eq_false (by omega) | (simp only [*] <;> fail) | fail) rfl) ?_)) | ((with_reducible refine e_mkfn ?_); (first | refine ex_i (s_makeFunc rfl) ?_)) | ((with_reducible refine e_nil ?_); (first | refine ex_i (s_nilCheck rfl) ?_ | refine ex_i (s_nilChecki rfl) ?_))))
  | ((with_reducible refine isEk_g ?_); (refine e_skip (g_some rfl rfl (by first | rfl | ((first | with_reducible refine gd1 ?_ | with_reducible refine gd2 ?_ | with_reducible refine gd3 ?_ | with_reducible refine gd4 ?_); omega) | (simp only [*] <;> fail) | fail)) ?_)))
  exact hq.out) : p := h ⟨hq⟩
section
variable {P : Program} {ops : Array Oper} {sz n n0 i m t : Nat} {K : AK} {env env0 : Env} {h h0 hr : Heap} {es : List Eat} {ids : List Nat} {dfs : Defs} {rest l : List Oper} {op : Op} {ty : TypeId} {pos : String} {aft : Array Edge} {gd : Option (Nat × Bool)} {f : FuncId} {xs : List Operand} {ats : Array TypeId}
theorem xA (hh : ∃ v, Still P ⟨some t, op, ty, pos, aft, gd⟩ (evA env) h v ∧ AWL P ops sz rest K n ((t, v) :: env) h dfs) (hg : guardA ops env ⟨some t, op, ty, pos, aft, gd⟩ true := by first | exact g_none | exact (g_some rfl rfl (by first | assumption | with_reducible exact gd1 (by assumption) | with_reducible exact gd2 (by assumption) | with_reducible exact gd3 (by assumption) | with_reducible exact gd4 (by assumption) | with_reducible rfl | rfl | ((first | with_reducible refine gd1 ?_ | with_reducible refine gd2 ?_ | with_reducible refine gd3 ?_ | with_reducible refine gd4 ?_); omega) | (simp only [*] <;> fail) | fail))) (hd : Nat.blt t sz = true := by rfl) : AWL P ops sz (⟨some t, op, ty, pos, aft, gd⟩ :: rest) K n env h dfs := x_a hg hd hh
theorem xD (hh : ∃ v, Still P ⟨some t, op, ty, pos, aft, gd⟩ (evT (Oper.looksAt l.toArray ⟨some t, op, ty, pos, aft, gd⟩) env) h v ∧ Drw P l sz K dfs i n0 env0 h0 m rest n ((t, v) :: env) h) (hg : guardA l.toArray env ⟨some t, op, ty, pos, aft, gd⟩ true := by first | exact g_none | exact (g_some rfl rfl (by first | assumption | with_reducible exact gd1 (by assumption) | with_reducible exact gd2 (by assumption) | with_reducible exact gd3 (by assumption) | with_reducible exact gd4 (by assumption) | with_reducible rfl | rfl | ((first | with_reducible refine gd1 ?_ | with_reducible refine gd2 ?_ | with_reducible refine gd3 ?_ | with_reducible refine gd4 ?_); omega) | (simp only [*] <;> fail) | fail))) : Drw P l sz K dfs i n0 env0 h0 (m + 1) (⟨some t, op, ty, pos, aft, gd⟩ :: rest) n env h := x_d hg hh
theorem xE (hh : ∃ v, Still P ⟨some t, op, ty, pos, aft, gd⟩ (evT (Oper.looksAt l.toArray ⟨some t, op, ty, pos, aft, gd⟩) env) hr v ∧ DrwE P l sz K dfs i n0 env0 h0 (es ++ [(ids, none)]) m rest n ((t, v) :: env) h) (hg : guardA l.toArray env ⟨some t, op, ty, pos, aft, gd⟩ true := by first | exact g_none | exact (g_some rfl rfl (by first | assumption | with_reducible exact gd1 (by assumption) | with_reducible exact gd2 (by assumption) | with_reducible exact gd3 (by assumption) | with_reducible exact gd4 (by assumption) | with_reducible rfl | rfl | ((first | with_reducible refine gd1 ?_ | with_reducible refine gd2 ?_ | with_reducible refine gd3 ?_ | with_reducible refine gd4 ?_); omega) | (simp only [*] <;> fail) | fail))) (hi : idsF env (Oper.looksAt l.toArray ⟨some t, op, ty, pos, aft, gd⟩) = some ids := by rfl) (hf : filtF ids h = some hr := by rfl) : DrwE P l sz K dfs i n0 env0 h0 es (m + 1) (⟨some t, op, ty, pos, aft, gd⟩ :: rest) n env h := x_e hg hi hf hh
theorem wA (hh : ∃ v, Adds P ⟨some t, op, ty, pos, aft, gd⟩ (evA env) h v [] n n ∧ AWL P ops sz rest K n ((t, v) :: env) h dfs) (hg : guardA ops env ⟨some t, op, ty, pos, aft, gd⟩ true := by first | exact g_none | exact (g_some rfl rfl (by first | assumption | with_reducible exact gd1 (by assumption) | with_reducible exact gd2 (by assumption) | with_reducible exact gd3 (by assumption) | with_reducible exact gd4 (by assumption) | with_reducible rfl | rfl | ((first | with_reducible refine gd1 ?_ | with_reducible refine gd2 ?_ | with_reducible refine gd3 ?_ | with_reducible refine gd4 ?_); omega) | (simp only [*] <;> fail) | fail))) (hd : Nat.blt t sz = true := by rfl) : AWL P ops sz (⟨some t, op, ty, pos, aft, gd⟩ :: rest) K n env h dfs := w_a hg hd hh
theorem wN (hh : ∃ v, Adds P ⟨none, op, ty, pos, aft, gd⟩ (evA env) h v [] n n ∧ AWL P ops sz rest K n env h dfs) (hg : guardA ops env ⟨none, op, ty, pos, aft, gd⟩ true := by first | exact g_none | exact (g_some rfl rfl (by first | assumption | with_reducible exact gd1 (by assumption) | with_reducible exact gd2 (by assumption) | with_reducible exact gd3 (by assumption) | with_reducible exact gd4 (by assumption) | with_reducible rfl | rfl | ((first | with_reducible refine gd1 ?_ | with_reducible refine gd2 ?_ | with_reducible refine gd3 ?_ | with_reducible refine gd4 ?_); omega) | (simp only [*] <;> fail) | fail))) : AWL P ops sz (⟨none, op, ty, pos, aft, gd⟩ :: rest) K n env h dfs := w_n hg hh
theorem wD (hh : ∃ v, Adds P ⟨some t, op, ty, pos, aft, gd⟩ (evT (Oper.looksAt l.toArray ⟨some t, op, ty, pos, aft, gd⟩) env) h v [] n n ∧ Drw P l sz K dfs i n0 env0 h0 m rest n ((t, v) :: env) h) (hg : guardA l.toArray env ⟨some t, op, ty, pos, aft, gd⟩ true := by first | exact g_none | exact (g_some rfl rfl (by first | assumption | with_reducible exact gd1 (by assumption) | with_reducible exact gd2 (by assumption) | with_reducible exact gd3 (by assumption) | with_reducible exact gd4 (by assumption) | with_reducible rfl | rfl | ((first | with_reducible refine gd1 ?_ | with_reducible refine gd2 ?_ | with_reducible refine gd3 ?_ | with_reducible refine gd4 ?_); omega) | (simp only [*] <;> fail) | fail))) : Drw P l sz K dfs i n0 env0 h0 (m + 1) (⟨some t, op, ty, pos, aft, gd⟩ :: rest) n env h := w_d hg hh
theorem wE (hh : ∃ v, Adds P ⟨some t, op, ty, pos, aft, gd⟩ (evT (Oper.looksAt l.toArray ⟨some t, op, ty, pos, aft, gd⟩) env) hr v [] n n ∧ DrwE P l sz K dfs i n0 env0 h0 (es ++ [(ids, none)]) m rest n ((t, v) :: env) h) (hg : guardA l.toArray env ⟨some t, op, ty, pos, aft, gd⟩ true := by first | exact g_none | exact (g_some rfl rfl (by first | assumption | with_reducible exact gd1 (by assumption) | with_reducible exact gd2 (by assumption) | with_reducible exact gd3 (by assumption) | with_reducible exact gd4 (by assumption) | with_reducible rfl | rfl | ((first | with_reducible refine gd1 ?_ | with_reducible refine gd2 ?_ | with_reducible refine gd3 ?_ | with_reducible refine gd4 ?_); omega) | (simp only [*] <;> fail) | fail))) (hi : idsF env (Oper.looksAt l.toArray ⟨some t, op, ty, pos, aft, gd⟩) = some ids := by rfl) (hf : filtF ids h = some hr := by rfl) : DrwE P l sz K dfs i n0 env0 h0 es (m + 1) (⟨some t, op, ty, pos, aft, gd⟩ :: rest) n env h := w_e hg hi hf hh
theorem yA (hh : ∃ v obj, obj.live = some obj ∧ Adds P ⟨some t, op, ty, pos, aft, gd⟩ (evA env) h v [(n, obj)] n (n + 1) ∧ AWL P ops sz rest K (n + 1) ((t, v) :: env) ((n, obj) :: h) dfs) (hg : guardA ops env ⟨some t, op, ty, pos, aft, gd⟩ true := by first | exact g_none | exact (g_some rfl rfl (by first | assumption | with_reducible exact gd1 (by assumption) | with_reducible exact gd2 (by assumption) | with_reducible exact gd3 (by assumption) | with_reducible exact gd4 (by assumption) | with_reducible rfl | rfl | ((first | with_reducible refine gd1 ?_ | with_reducible refine gd2 ?_ | with_reducible refine gd3 ?_ | with_reducible refine gd4 ?_); omega) | (simp only [*] <;> fail) | fail))) (hd : Nat.blt t sz = true := by rfl) : AWL P ops sz (⟨some t, op, ty, pos, aft, gd⟩ :: rest) K n env h dfs := y_a hg hd hh
theorem yD (hh : ∃ v obj, obj.live = some obj ∧ Adds P ⟨some t, op, ty, pos, aft, gd⟩ (evT (Oper.looksAt l.toArray ⟨some t, op, ty, pos, aft, gd⟩) env) h v [(n, obj)] n (n + 1) ∧ Drw P l sz K dfs i n0 env0 h0 m rest (n + 1) ((t, v) :: env) ((n, obj) :: h)) (hg : guardA l.toArray env ⟨some t, op, ty, pos, aft, gd⟩ true := by first | exact g_none | exact (g_some rfl rfl (by first | assumption | with_reducible exact gd1 (by assumption) | with_reducible exact gd2 (by assumption) | with_reducible exact gd3 (by assumption) | with_reducible exact gd4 (by assumption) | with_reducible rfl | rfl | ((first | with_reducible refine gd1 ?_ | with_reducible refine gd2 ?_ | with_reducible refine gd3 ?_ | with_reducible refine gd4 ?_); omega) | (simp only [*] <;> fail) | fail))) : Drw P l sz K dfs i n0 env0 h0 (m + 1) (⟨some t, op, ty, pos, aft, gd⟩ :: rest) n env h := y_d hg hh
theorem yE (hh : ∃ v obj, obj.live = some obj ∧ Adds P ⟨some t, op, ty, pos, aft, gd⟩ (evT (Oper.looksAt l.toArray ⟨some t, op, ty, pos, aft, gd⟩) env) hr v [(n, obj)] n (n + 1) ∧ DrwE P l sz K dfs i n0 env0 h0 (es ++ [(n :: ids, none)]) m rest (n + 1) ((t, v) :: env) ((n, obj) :: h)) (hg : guardA l.toArray env ⟨some t, op, ty, pos, aft, gd⟩ true := by first | exact g_none | exact (g_some rfl rfl (by first | assumption | with_reducible exact gd1 (by assumption) | with_reducible exact gd2 (by assumption) | with_reducible exact gd3 (by assumption) | with_reducible exact gd4 (by assumption) | with_reducible rfl | rfl | ((first | with_reducible refine gd1 ?_ | with_reducible refine gd2 ?_ | with_reducible refine gd3 ?_ | with_reducible refine gd4 ?_); omega) | (simp only [*] <;> fail) | fail))) (hi : idsF env (Oper.looksAt l.toArray ⟨some t, op, ty, pos, aft, gd⟩) = some ids := by rfl) (hf : filtF ids h = some hr := by rfl) : DrwE P l sz K dfs i n0 env0 h0 es (m + 1) (⟨some t, op, ty, pos, aft, gd⟩ :: rest) n env h := y_e hg hi hf hh
theorem zA (hh : CallsTo P f xs (evA env) (fun r => AWL P ops sz rest K n ((t, r) :: env) h dfs) (fun k size T rc => AWL P ops sz rest K (n + 1) ((t, .own n 0 k size true) :: env) ((n, .row T rc) :: h) dfs)) (hg : guardA ops env ⟨some t, .call ⟨.value (.func f), xs.toArray, ats⟩, ty, pos, aft, gd⟩ true := by first | exact g_none | exact (g_some rfl rfl (by first | assumption | with_reducible exact gd1 (by assumption) | with_reducible exact gd2 (by assumption) | with_reducible exact gd3 (by assumption) | with_reducible exact gd4 (by assumption) | with_reducible rfl | rfl | ((first | with_reducible refine gd1 ?_ | with_reducible refine gd2 ?_ | with_reducible refine gd3 ?_ | with_reducible refine gd4 ?_); omega) | (simp only [*] <;> fail) | fail))) (hd : Nat.blt t sz = true := by rfl) : AWL P ops sz (⟨some t, .call ⟨.value (.func f), xs.toArray, ats⟩, ty, pos, aft, gd⟩ :: rest) K n env h dfs := z_a hg hd hh
theorem zN (hh : CallsTo P f xs (evA env) (fun r => AWL P ops sz rest K n env h dfs) (fun k size T rc => AWL P ops sz rest K (n + 1) env ((n, .row T rc) :: h) dfs)) (hg : guardA ops env ⟨none, .call ⟨.value (.func f), xs.toArray, ats⟩, ty, pos, aft, gd⟩ true := by first | exact g_none | exact (g_some rfl rfl (by first | assumption | with_reducible exact gd1 (by assumption) | with_reducible exact gd2 (by assumption) | with_reducible exact gd3 (by assumption) | with_reducible exact gd4 (by assumption) | with_reducible rfl | rfl | ((first | with_reducible refine gd1 ?_ | with_reducible refine gd2 ?_ | with_reducible refine gd3 ?_ | with_reducible refine gd4 ?_); omega) | (simp only [*] <;> fail) | fail))) : AWL P ops sz (⟨none, .call ⟨.value (.func f), xs.toArray, ats⟩, ty, pos, aft, gd⟩ :: rest) K n env h dfs := z_n hg hh
theorem zD (hh : CallsTo P f xs (evT (Oper.looksAt l.toArray ⟨some t, .call ⟨.value (.func f), xs.toArray, ats⟩, ty, pos, aft, gd⟩) env) (fun r => Drw P l sz K dfs i n0 env0 h0 m rest n ((t, r) :: env) h) (fun k size T rc => Drw P l sz K dfs i n0 env0 h0 m rest (n + 1) ((t, .own n 0 k size true) :: env) ((n, .row T rc) :: h))) (hg : guardA l.toArray env ⟨some t, .call ⟨.value (.func f), xs.toArray, ats⟩, ty, pos, aft, gd⟩ true := by first | exact g_none | exact (g_some rfl rfl (by first | assumption | with_reducible exact gd1 (by assumption) | with_reducible exact gd2 (by assumption) | with_reducible exact gd3 (by assumption) | with_reducible exact gd4 (by assumption) | with_reducible rfl | rfl | ((first | with_reducible refine gd1 ?_ | with_reducible refine gd2 ?_ | with_reducible refine gd3 ?_ | with_reducible refine gd4 ?_); omega) | (simp only [*] <;> fail) | fail))) : Drw P l sz K dfs i n0 env0 h0 (m + 1) (⟨some t, .call ⟨.value (.func f), xs.toArray, ats⟩, ty, pos, aft, gd⟩ :: rest) n env h := z_d hg hh
theorem zE (hh : CallsTo P f xs (evT (Oper.looksAt l.toArray ⟨some t, .call ⟨.value (.func f), xs.toArray, ats⟩, ty, pos, aft, gd⟩) env) (fun r => DrwE P l sz K dfs i n0 env0 h0 (es ++ [([], none)]) m rest n ((t, r) :: env) h) (fun k size T rc => DrwE P l sz K dfs i n0 env0 h0 (es ++ [([n], none)]) m rest (n + 1) ((t, .own n 0 k size true) :: env) ((n, .row T rc) :: h))) (hg : guardA l.toArray env ⟨some t, .call ⟨.value (.func f), xs.toArray, ats⟩, ty, pos, aft, gd⟩ true := by first | exact g_none | exact (g_some rfl rfl (by first | assumption | with_reducible exact gd1 (by assumption) | with_reducible exact gd2 (by assumption) | with_reducible exact gd3 (by assumption) | with_reducible exact gd4 (by assumption) | with_reducible rfl | rfl | ((first | with_reducible refine gd1 ?_ | with_reducible refine gd2 ?_ | with_reducible refine gd3 ?_ | with_reducible refine gd4 ?_); omega) | (simp only [*] <;> fail) | fail))) : DrwE P l sz K dfs i n0 env0 h0 es (m + 1) (⟨some t, .call ⟨.value (.func f), xs.toArray, ats⟩, ty, pos, aft, gd⟩ :: rest) n env h := z_e hg hh
variable {cs cs' rc : List CV} {r : AV} {ev : Evl} {N0 : AV → Prop} {N1 : Nat → Nat → TypeId → List CV → Prop} {k size : Nat} {T : TypeId} {vs : List AV} {N : AV → Prop} {d : Option Tmp} {N2 : AV → AObj → Prop}
theorem c0 (hac : AC P f cs' r [] 0) (hn : N0 r) (hb : Body P f := by unfold Body; kernel_rfl) (hx : argsC ev xs = some cs := by rfl) (hcv : CvL cs cs' := by first | exact cvl_rfl | ((repeat' (first | exact cvl_nil | refine cvl_cons ?_ ?_ | (first | exact cv_rfl | exact cv_nil | (refine cv_sl ?_ ?_ <;> first | rfl | omega | (simp <;> fail) | fail) | (refine cv_eq ?_; first | rfl | (simp <;> fail) | fail)))) <;> fail) | fail) (hid : r.noId = true := by rfl) : CallsTo P f xs ev N0 N1 := ct_0 hac hb hx hcv hid hn
theorem c1 (hac : AC P f cs' (.own 0 0 k size true) [(0, .row T rc)] 1) (hn : N1 k size T rc) (hb : Body P f := by unfold Body; kernel_rfl) (hx : argsC ev xs = some cs := by rfl) (hcv : CvL cs cs' := by first | exact cvl_rfl | ((repeat' (first | exact cvl_nil | refine cvl_cons ?_ ?_ | (first | exact cv_rfl | exact cv_nil | (refine cv_sl ?_ ?_ <;> first | rfl | omega | (simp <;> fail) | fail) | (refine cv_eq ?_; first | rfl | (simp <;> fail) | fail)))) <;> fail) | fail) : CallsTo P f xs ev N0 N1 := ct_1 hac hb hx hcv hn
theorem cF (hac : AC P f cs r [] 0) (hn : N r) (hb : Body P f := by unfold Body; kernel_rfl) (hx : argsA ev xs = some vs := by rfl) (hfz : FrzL [] h vs cs := by first | ((repeat' (first | exact frzl_nil | refine frzl_cons ?_ ?_ | (first | with_reducible exact frz_c cv_rfl | with_reducible exact frz_c cv_nil | exact frz_ownW rfl rfl (by first | rfl | with_reducible assumption | (simp <;> fail) | omega | (simp; omega) | assumption) | exact frz_own rfl rfl rfl (by first | rfl | with_reducible assumption | (simp <;> fail) | omega | (simp; omega) | assumption) | exact frz_cv (frz_ownW rfl rfl (by first | rfl | with_reducible assumption | (simp <;> fail) | omega | (simp; omega) | assumption)) (cv_sl (by first | rfl | omega | (simp <;> fail) | fail) (by first | rfl | omega | (simp <;> fail) | fail)) | exact frz_cv (frz_own rfl rfl rfl (by first | rfl | with_reducible assumption | (simp <;> fail) | omega | (simp; omega) | assumption)) (cv_sl (by first | rfl | omega | (simp <;> fail) | fail) (by first | rfl | omega | (simp <;> fail) | fail)) | exact frz_cv (frz_c cv_rfl) (cv_sl (by first | rfl | omega | (simp <;> fail) | fail) (by first | rfl | omega | (simp <;> fail) | fail)) | exact frz_cv (frz_c cv_rfl) (cv_eq (by first | rfl | (simp <;> fail) | fail)) | exact frz_c cv_rfl | exact frz_c cv_nil | exact frz_u8 rfl rfl (by omega) (by omega) (by omega)))) <;> fail) | fail) (hfl : FlR r := by first | exact FlR.c flc_v | exact FlR.c (flc_agg (by first | ((repeat' (first | exact flcl_nil | exact flcl_u8 _ | exact flcl_int _ _ | exact flcl_plain _ | exact flc_v | assumption | refine flcl_app ?_ ?_ | refine flcl_cons ?_ ?_ | refine flc_agg ?_)) <;> fail) | fail)) | exact flr_2 (by first | ((repeat' (first | exact flcl_nil | exact flcl_u8 _ | exact flcl_int _ _ | exact flcl_plain _ | exact flc_v | assumption | refine flcl_app ?_ ?_ | refine flcl_cons ?_ ?_ | refine flc_agg ?_)) <;> fail) | fail) | exact flr_3 (by first | ((repeat' (first | exact flcl_nil | exact flcl_u8 _ | exact flcl_int _ _ | exact flcl_plain _ | exact flc_v | assumption | refine flcl_app ?_ ?_ | refine flcl_cons ?_ ?_ | refine flc_agg ?_)) <;> fail) | fail) | exact FlR.t (by first | ((repeat' (first | exact flcl_nil | exact flcl_u8 _ | exact flcl_int _ _ | exact flcl_plain _ | exact flc_v | assumption | refine flcl_app ?_ ?_ | refine flcl_cons ?_ ?_ | refine flc_agg ?_)) <;> fail) | fail) | assumption) : ∃ v, Adds P ⟨d, .call ⟨.value (.func f), xs.toArray, ats⟩, ty, pos, aft, gd⟩ ev h v [] n n ∧ N v := ew_i (adds_callF hb hx hfz hac hfl) hn
theorem cF1 (hac : AC P f cs (.own 0 0 k size true) [(0, .row T rc)] 1) (hn : N2 (.own n 0 k size true) (.row T rc)) (hb : Body P f := by unfold Body; kernel_rfl) (hx : argsA ev xs = some vs := by rfl) (hfz : FrzL [] h vs cs := by first | ((repeat' (first | exact frzl_nil | refine frzl_cons ?_ ?_ | (first | with_reducible exact frz_c cv_rfl | with_reducible exact frz_c cv_nil | exact frz_ownW rfl rfl (by first | rfl | with_reducible assumption | (simp <;> fail) | omega | (simp; omega) | assumption) | exact frz_own rfl rfl rfl (by first | rfl | with_reducible assumption | (simp <;> fail) | omega | (simp; omega) | assumption) | exact frz_cv (frz_ownW rfl rfl (by first | rfl | with_reducible assumption | (simp <;> fail) | omega | (simp; omega) | assumption)) (cv_sl (by first | rfl | omega | (simp <;> fail) | fail) (by first | rfl | omega | (simp <;> fail) | fail)) | exact frz_cv (frz_own rfl rfl rfl (by first | rfl | with_reducible assumption | (simp <;> fail) | omega | (simp; omega) | assumption)) (cv_sl (by first | rfl | omega | (simp <;> fail) | fail) (by first | rfl | omega | (simp <;> fail) | fail)) | exact frz_cv (frz_c cv_rfl) (cv_sl (by first | rfl | omega | (simp <;> fail) | fail) (by first | rfl | omega | (simp <;> fail) | fail)) | exact frz_cv (frz_c cv_rfl) (cv_eq (by first | rfl | (simp <;> fail) | fail)) | exact frz_c cv_rfl | exact frz_c cv_nil | exact frz_u8 rfl rfl (by omega) (by omega) (by omega)))) <;> fail) | fail) (hfl : FlcL rc := by first | ((repeat' (first | exact flcl_nil | exact flcl_u8 _ | exact flcl_int _ _ | exact flcl_plain _ | exact flc_v | assumption | refine flcl_app ?_ ?_ | refine flcl_cons ?_ ?_ | refine flc_agg ?_)) <;> fail) | fail) : ∃ v obj, obj.live = some obj ∧ Adds P ⟨d, .call ⟨.value (.func f), xs.toArray, ats⟩, ty, pos, aft, gd⟩ ev h v [(n, obj)] n (n + 1) ∧ N2 v obj := ⟨_, _, rfl, adds_callF1 hb hx hfz hac hfl, hn⟩
end
theorem weakA {n : Nat} {env : Env} {h : Heap} {dfs : Defs} {N : Nat} {E : Env} {Hp : Heap} {D : Defs} (w : Weak n env h dfs N E Hp D := by refine weak_mk rfl ?_ ?_ rfl <;> (repeat' (first | exact weakE_nil | exact weakH_nil | refine weakE_cons rfl (by first | rfl | exact own_eq rfl rfl (by omega) | exact int_eq (by omega) | (simp <;> fail) | (congr 4; omega) | (congr 3; omega) | (congr 2; omega)) rfl ?_ | refine weakH_cons rfl (by first | rfl | exact own_eq rfl rfl (by omega) | exact int_eq (by omega) | (simp <;> fail) | (congr 4; omega) | (congr 3; omega) | (congr 2; omega)) rfl ?_))) : Weak n env h dfs N E Hp D := w

end Go.Proofs.Ytgofigkhdjjlmaa
/-
  The permutation of the digest, as the program and as the reference have it.
-/
set_option linter.unusedVariables false
set_option linter.unusedSimpArgs false
namespace Go.Proofs.Ytgofigkhdjjlmaa
open Go Go.RowKit Go.Av
set_option maxRecDepth 100000
attribute [local irreducible] Still Adds AWL AW Drw AC AWR Weak Frz Src RetK Out
abbrev wv (x : BitVec 64) : CV := .v (.int .u64 (x.toNat : Int))
abbrev iv (n : Int) : CV := .v (.int .i64 n)

set_option maxHeartbeats 400000 in
theorem rotl_ok (x : BitVec 64) (k : Int) : AC Try.prog 107 [wv x, iv k] (.c (wv (x <<< (BitVec.ofInt 64 k &&& 63#64).toNat ||| x >>> (64#64 - (BitVec.ofInt 64 k &&& 63#64)).toNat))) [] 0 := by
  refine ac_enter tabOk (sz := 17) Try.func107 rfl (by rw [Try.ntmps107]; rfl) ?_
  repeat' (first
    | ((with_reducible refine aw_seqk ?_); intro K hK hX)
    | ((with_reducible refine isC_reg ?_); refine aw_prune [0, 1, 4, 5] rfl rfl ?_; with_reducible refine aw_region ?_)
    | refine stA ?_
    | (refine hK _ _ _ _ ?_; clear hK hX K)
    | (refine hX _ _ _ _ _ (by simp) ?_; clear hK hX K))
  refine retK_mk (by first | exact .inl rfl | exact .inr rfl) (by exact trivial) rfl (ResL.one (ResA.tmp rfl)) (by first | exact out_c (by first | exact frz_c cv_rfl | exact frz_c cv_nil | exact frz_ownW rfl rfl (by first | rfl | with_reducible assumption | (simp <;> fail) | omega | (simp; omega) | assumption) | exact frz_eq (frz_c cv_rfl) (by first | rfl | (simp <;> fail) | fail)) | exact out_own rfl rfl)

def rotr (x : BitVec 64) (n : Nat) : BitVec 64 := x >>> n ||| x <<< (64 - n)
theorem rot_amount : ∀ a : Fin 64, 0 < a.val → (BitVec.ofInt 64 (0 - (a.val : Int)) &&& 63#64).toNat = 64 - a.val ∧ (64#64 - (BitVec.ofInt 64 (0 - (a.val : Int)) &&& 63#64)).toNat = a.val := by decide
theorem rot_eq (x : BitVec 64) (a : Nat) (h0 : 0 < a) (h1 : a < 64) : x <<< (BitVec.ofInt 64 (0 - (a : Int)) &&& 63#64).toNat ||| x >>> (64#64 - (BitVec.ofInt 64 (0 - (a : Int)) &&& 63#64)).toNat = rotr x a := by
  obtain ⟨e1, e2⟩ := rot_amount ⟨a, h1⟩ h0
  simp only at e1 e2
  rw [e1, e2, rotr, BitVec.or_comm]
theorem rotl_to (x : BitVec 64) (a : Nat) (h0 : 0 < a) (h1 : a < 64) : AC Try.prog 107 [wv x, iv (0 - (a : Int))] (.c (wv (rotr x a))) [] 0 := by
  have := rotl_ok x (0 - (a : Int))
  rwa [rot_eq x a h0 h1] at this

def mix (x : BitVec 64) (a b : Nat) : BitVec 64 := x ^^^ rotr x a ^^^ rotr x b
set_option maxHeartbeats 400000 in
theorem mixed_ok (x : BitVec 64) (a b : Nat) (h0 : 0 < a) (h1 : a < 64) (h2 : 0 < b) (h3 : b < 64) : AC Try.prog 68 [wv x, iv a, iv b] (.c (wv (mix x a b))) [] 0 := by
  refine ac_enter tabOk (sz := 18) Try.func68 rfl (by rw [Try.ntmps68]; rfl) ?_
  repeat' (first
    | ((with_reducible refine aw_seqk ?_); intro K hK hX)
    | ((with_reducible refine isC_reg ?_); refine aw_prune [0, 1, 2, 6] rfl rfl ?_; with_reducible refine aw_region ?_)
    | ((with_reducible refine isA_call ?_); (first | refine zA ?_ | refine zN ?_); (first | refine c0 (rotl_to x a h0 h1) ?_ | refine c0 (rotl_to x b h2 h3) ?_))
    | refine stA ?_
    | (refine hK _ _ _ _ ?_; clear hK hX K)
    | (refine hX _ _ _ _ _ (by simp) ?_; clear hK hX K))
  refine retK_mk (by first | exact .inl rfl | exact .inr rfl) (by exact trivial) rfl (ResL.one (ResA.tmp rfl)) (by first | exact out_c (by first | exact frz_c cv_rfl | exact frz_c cv_nil | exact frz_ownW rfl rfl (by first | rfl | with_reducible assumption | (simp <;> fail) | omega | (simp; omega) | assumption) | exact frz_eq (frz_c cv_rfl) (by first | rfl | (simp <;> fail) | fail)) | exact out_own rfl rfl)
set_option maxHeartbeats 400000 in
theorem rotate_ok (x : BitVec 64) (a : Nat) (h0 : 0 < a) (h1 : a < 64) : AC Try.prog 69 [wv x, iv a] (.c (wv (rotr x a))) [] 0 := by
  refine ac_enter tabOk (sz := 13) Try.func69 rfl (by rw [Try.ntmps69]; rfl) ?_
  repeat' (first
    | ((with_reducible refine aw_seqk ?_); intro K hK hX)
    | ((with_reducible refine isC_reg ?_); refine aw_prune [0, 1, 4] rfl rfl ?_; with_reducible refine aw_region ?_)
    | ((with_reducible refine isC_draw ?_); refine aw_prune [0, 1, 4] rfl rfl ?_; refine aw_drwF [] ?_)
    | ((first | ((with_reducible refine isA_any ?_); refine xA ?_) | ((with_reducible refine isDk_any ?_); refine xD ?_)); (first | ((with_reducible refine e_bin ?_); (first | refine ex_i (s_shlW (by exact rfl) (by exact isW_rfl) (by exact rfl) (show 64 - (a : Int) = ((64 - a : Nat) : Int) by omega)) ?_))))
    | refine stA ?_
    | refine stD ?_
    | (refine hK _ _ _ _ ?_; clear hK hX K)
    | (refine hX _ _ _ _ _ (by simp) ?_; clear hK hX K))
  refine retK_mk (by first | exact .inl rfl | exact .inr rfl) (by exact trivial) rfl (ResL.one (ResA.tmp rfl)) (by first | exact out_c (by first | exact frz_c cv_rfl | exact frz_c cv_nil | exact frz_ownW rfl rfl (by first | rfl | with_reducible assumption | (simp <;> fail) | omega | (simp; omega) | assumption) | exact frz_eq (frz_c cv_rfl) (by first | rfl | (simp <;> fail) | fail)) | exact out_own rfl rfl)

end Go.Proofs.Ytgofigkhdjjlmaa
/-
  The permutation of the digest (walk), as the program and as the reference have it.
-/
set_option linter.unusedVariables false
set_option linter.unusedSimpArgs false
namespace Go.Proofs.Ytgofigkhdjjlmaa
open Go Go.RowKit Go.Av
set_option maxRecDepth 100000
attribute [local irreducible] Still Adds AWL AW Drw AC AWR Weak Frz Src RetK Out

/-- The five words. -/
structure S5 where
  a : BitVec 64
  b : BitVec 64
  c : BitVec 64
  d : BitVec 64
  e : BitVec 64
deriving DecidableEq
def S5.cs (s : S5) : List CV := [wv s.a, wv s.b, wv s.c, wv s.d, wv s.e]
/-- One round, with its constant. -/
def rnd (k : BitVec 64) (s : S5) : S5 :=
  let c := s.c ^^^ k
  let a := s.a ^^^ s.e
  let e := s.e ^^^ s.d
  let c := c ^^^ s.b
  let t0 := ~~~a &&& s.b
  let t1 := ~~~s.b &&& c
  let t2 := ~~~c &&& s.d
  let t3 := ~~~s.d &&& e
  let t4 := ~~~e &&& a
  let a := a ^^^ t1
  let b := s.b ^^^ t2
  let c := c ^^^ t3
  let d := s.d ^^^ t4
  let e := e ^^^ t0
  let b := b ^^^ a
  let a := a ^^^ e
  let d := d ^^^ c
  let c := ~~~c
  ⟨mix a 19 28, mix b 61 39, mix c 1 6, mix d 10 17, mix e 7 41⟩
def rk (r : Nat) : BitVec 64 := BitVec.ofInt 64 (240 - 15 * (r : Int))
def perm : Nat → S5 → S5
  | 0, s => s
  | r + 1, s => rnd (rk r) (perm r s)
def permute (s : S5) : S5 := perm 12 s

theorem rk_lt (r : Nat) : True := trivial
abbrev z5 : List CV := [.v (.int .u64 0), .v (.int .u64 0), .v (.int .u64 0), .v (.int .u64 0), .v (.int .u64 0)]
set_option maxHeartbeats 4000000 in
theorem permute_ok (s : S5) : AC Try.prog 30 [.agg s.cs] (.c (.agg (permute s).cs)) [] 0 := by
  refine ac_enter tabOk (sz := 139) Try.func30 rfl (by rw [Try.ntmps30]; rfl) ?_
  repeat' (first
    | ((with_reducible refine aw_seqk ?_); intro K hK hX)
    | ((with_reducible refine isC_reg ?_); refine aw_prune [0, 1, 2, 3, 4, 5] rfl rfl ?_; with_reducible refine aw_region ?_)
    | refine stA ?_
    | (refine hK _ _ _ _ ?_; clear hK hX K)
    | (refine hX _ _ _ _ _ (by simp) ?_; clear hK hX K))
  refine aw_loopk 2 (fun r : Nat => [(1, .ref 0 0), (2, .ref 1 0), (5, .c (iv r))]) (fun r => [(0, .row 30 (perm r s).cs), (1, .row 30 z5)]) [] (fun r => r ≤ 12) (fun r => 12 - r) 0 (by omega) weakA ?_
  intro r hr K hK hX
  by_cases hlt : r < 12
  · repeat' (first
    | ((with_reducible refine aw_seqk ?_); intro K hK hX)
    | ((with_reducible refine isC_reg ?_); refine aw_prune [0, 1, 2, 3, 4, 5] rfl rfl ?_; with_reducible refine aw_region ?_)
    | ((with_reducible refine isA_call ?_); (first | refine zA ?_ | refine zN ?_); (first | refine c0 (mixed_ok _ 19 28 (by decide) (by decide) (by decide) (by decide)) ?_ | refine c0 (mixed_ok _ 61 39 (by decide) (by decide) (by decide) (by decide)) ?_ | refine c0 (mixed_ok _ 1 6 (by decide) (by decide) (by decide) (by decide)) ?_ | refine c0 (mixed_ok _ 10 17 (by decide) (by decide) (by decide) (by decide)) ?_ | refine c0 (mixed_ok _ 7 41 (by decide) (by decide) (by decide) (by decide)) ?_))
    | refine stA ?_
    | (refine hK _ _ _ _ ?_; clear hK hX K)
    | (refine hX _ _ _ _ _ (by simp) ?_; clear hK hX K))
    exact ⟨r + 1, by omega, by omega, weakA⟩
  · repeat' (first
    | ((with_reducible refine aw_seqk ?_); intro K hK hX)
    | ((with_reducible refine isC_reg ?_); refine aw_prune [0, 1, 2, 3, 4, 5] rfl rfl ?_; with_reducible refine aw_region ?_)
    | refine stA ?_
    | (refine hK _ _ _ _ ?_; clear hK hX K)
    | (refine hX _ _ _ _ _ (by simp) ?_; clear hK hX K))
    obtain rfl : r = 12 := by omega
    refine retK_mk (by first | exact .inl rfl | exact .inr rfl) (by exact trivial) rfl (ResL.one (by first | exact ResA.one rfl rfl rfl rfl rfl | exact ResA.agg rfl rfl rfl rfl rfl (by first | exact IsAgg.closed rfl rfl | exact IsAgg.mixed _) | exact ResA.aggr rfl rfl rfl rfl (by first | rfl | with_reducible assumption | (simp <;> fail) | omega | (simp; omega) | assumption))) (by first | exact out_c (by first | exact frz_c cv_rfl | exact frz_c cv_nil | exact frz_ownW rfl rfl (by first | rfl | with_reducible assumption | (simp <;> fail) | omega | (simp; omega) | assumption) | exact frz_eq (frz_c cv_rfl) (by first | rfl | (simp <;> fail) | fail)) | exact out_own rfl rfl)
end Go.Proofs.Ytgofigkhdjjlmaa
/-
  The permutation of the digest (walk), as the reference has it.
-/
set_option linter.unusedVariables false
set_option linter.unusedSimpArgs false
namespace Go.Proofs.Ytgofigkhdjjlmaa
open Go Go.RowKit Go.Av
set_option maxRecDepth 100000

def S5.get (s : S5) : Nat → BitVec 64
  | 0 => s.a
  | 1 => s.b
  | 2 => s.c
  | 3 => s.d
  | _ => s.e
def S5.put (s : S5) (i : Nat) (x : BitVec 64) : S5 :=
  match i with
  | 0 => { s with a := x }
  | 1 => { s with b := x }
  | 2 => { s with c := x }
  | 3 => { s with d := x }
  | _ => { s with e := x }
theorem cs_get (s : S5) (i : Nat) (h : i < 5) : s.cs[0 + i * 1]? = some (wv (s.get i)) := by
  match i, h with
  | 0, _ => rfl
  | 1, _ => rfl
  | 2, _ => rfl
  | 3, _ => rfl
  | 4, _ => rfl
theorem cs_len (s : S5) (i : Nat) (h : i < 5) : 0 + i * 1 < s.cs.length := by show 0 + i * 1 < 5; omega
theorem cs_put (s : S5) (i : Nat) (x : BitVec 64) (h : i < 5) : s.cs.set (0 + i * 1) (wv x) = (s.put i x).cs := by
  match i, h with
  | 0, _ => rfl
  | 1, _ => rfl
  | 2, _ => rfl
  | 3, _ => rfl
  | 4, _ => rfl
def nx (i : Nat) : Nat := (i + 1) % 5
def lin (k : BitVec 64) (s : S5) : S5 := ⟨s.a ^^^ s.e, s.b, s.c ^^^ k ^^^ s.b, s.d, s.e ^^^ s.d⟩
def tk (s : S5) : Nat → S5
  | 0 => ⟨0, 0, 0, 0, 0⟩
  | i + 1 => (tk s i).put i (~~~(s.get i) &&& s.get (nx i))
def uk (s t : S5) : Nat → S5
  | 0 => s
  | i + 1 => (uk s t i).put i ((uk s t i).get i ^^^ t.get (nx i))
def lin2 (s : S5) : S5 := ⟨s.a ^^^ s.e, s.b ^^^ s.a, ~~~s.c, s.d ^^^ s.c, s.e⟩
def ra : Nat → Nat
  | 0 => 19
  | 1 => 61
  | 2 => 1
  | 3 => 10
  | _ => 7
def rb : Nat → Nat
  | 0 => 28
  | 1 => 39
  | 2 => 6
  | 3 => 17
  | _ => 41
theorem ra_ok (i : Nat) : 0 < ra i ∧ ra i < 64 := by unfold ra; split <;> decide
theorem rb_ok (i : Nat) : 0 < rb i ∧ rb i < 64 := by unfold rb; split <;> decide
theorem ra_get (i : Nat) (h : i < 5) : [iv 19, iv 61, iv 1, iv 10, iv 7][0 + i * 1]? = some (iv (ra i)) := by
  match i, h with
  | 0, _ => rfl
  | 1, _ => rfl
  | 2, _ => rfl
  | 3, _ => rfl
  | 4, _ => rfl
theorem rb_get (i : Nat) (h : i < 5) : [iv 28, iv 39, iv 6, iv 17, iv 41][0 + i * 1]? = some (iv (rb i)) := by
  match i, h with
  | 0, _ => rfl
  | 1, _ => rfl
  | 2, _ => rfl
  | 3, _ => rfl
  | 4, _ => rfl
def mk (s : S5) : Nat → S5
  | 0 => s
  | i + 1 => (mk s i).put i ((mk s i).get i ^^^ rotr ((mk s i).get i) (ra i) ^^^ rotr ((mk s i).get i) (rb i))
theorem rnd_eq (k : BitVec 64) (s : S5) : mk (lin2 (uk (lin k s) (tk (lin k s) 5) 5)) 5 = rnd k s := by
  cases s
  rfl

attribute [local irreducible] Still Adds AWL AW Drw AC AWR Weak Frz Src RetK Out
abbrev ri : List CV := [iv 19, iv 61, iv 1, iv 10, iv 7]
abbrev rj : List CV := [iv 28, iv 39, iv 6, iv 17, iv 41]
set_option maxHeartbeats 4000000 in
theorem rpermute_ok (s : S5) : AC Try.prog 31 [.agg s.cs] (.c (.agg (permute s).cs)) [] 0 := by
  refine ac_enter tabOk (sz := 121) Try.func31 rfl (by rw [Try.ntmps31]; rfl) ?_
  repeat' (first
    | ((with_reducible refine aw_seqk ?_); intro K hK hX)
    | ((with_reducible refine isC_reg ?_); refine aw_prune [0, 1, 2, 3, 4, 5, 6, 7, 8, 9] rfl rfl ?_; with_reducible refine aw_region ?_)
    | ((with_reducible refine isC_draw ?_); refine aw_prune [0, 1, 2, 3, 4, 5, 6, 7, 8, 9] rfl rfl ?_; refine aw_drwF [] ?_)
    | refine stA ?_
    | refine stD ?_
    | (refine hK _ _ _ _ ?_; clear hK hX K)
    | (refine hX _ _ _ _ _ (by simp) ?_; clear hK hX K))
  refine aw_loopk 2 (fun r : Nat => [(1, .ref 0 0), (2, .ref 1 0), (3, .c (iv r))]) (fun r => [(0, .row 30 (perm r s).cs), (1, .row 30 z5)]) [] (fun r => r ≤ 12) (fun r => 12 - r) 0 (by omega) weakA ?_
  intro r hr K hK hX
  by_cases hlt : r < 12
  · repeat' (first
    | ((with_reducible refine aw_seqk ?_); intro K hK hX)
    | ((with_reducible refine isC_reg ?_); refine aw_prune [0, 1, 2, 3, 4, 5, 6, 7, 8, 9] rfl rfl ?_; with_reducible refine aw_region ?_)
    | ((with_reducible refine isC_draw ?_); refine aw_prune [0, 1, 2, 3, 4, 5, 6, 7, 8, 9] rfl rfl ?_; refine aw_drwF [] ?_)
    | refine stA ?_
    | refine stD ?_
    | (refine hK _ _ _ _ ?_; clear hK hX K)
    | (refine hX _ _ _ _ _ (by simp) ?_; clear hK hX K))
    refine aw_loopk 3 (fun i : Nat => [(1, .ref 0 0), (2, .ref 1 0), (3, .c (iv r)), (4, .ref 2 0), (5, .c (iv i))]) (fun i => [(0, .row 30 (lin (rk r) (perm r s)).cs), (1, .row 30 z5), (2, .row 30 (tk (lin (rk r) (perm r s)) i).cs)]) [] (fun i => i ≤ 5) (fun i => 5 - i) 0 (by omega) weakA ?_
    intro i hi K hK hX
    by_cases hlt : i < 5
    · repeat' (first
    | ((with_reducible refine aw_seqk ?_); intro K hK hX)
    | ((with_reducible refine isC_reg ?_); refine aw_prune [0, 1, 2, 3, 4, 5, 6, 7, 8, 9] rfl rfl ?_; with_reducible refine aw_region ?_)
    | ((with_reducible refine isC_draw ?_); refine aw_prune [0, 1, 2, 3, 4, 5, 6, 7, 8, 9] rfl rfl ?_; refine aw_drwF [] ?_)
    | ((first | ((with_reducible refine isA_any ?_); refine xA ?_) | ((with_reducible refine isDk_any ?_); refine xD ?_)); (first | ((with_reducible refine e_load ?_); (first | refine ex_i (s_load1 tabOk rfl rfl rfl rfl (by first | exact cs_get _ _ (by omega) | exact cs_get _ _ (Nat.mod_lt _ (by decide)))) ?_ | refine ex_i (s_load1r tabOk rfl rfl rfl rfl (by first | exact cs_get _ _ (by omega) | exact cs_get _ _ (Nat.mod_lt _ (by decide)))) ?_ | refine ex_i (s_load1i tabOk rfl rfl rfl (by first | exact cs_get _ _ (by omega) | exact cs_get _ _ (Nat.mod_lt _ (by decide)))) ?_)) | ((with_reducible refine e_ix ?_); (first | refine ex_i (s_ixV1 tabOk rfl rfl (by first | with_reducible exact cast_self _ | with_reducible exact cast_lit _ | exact nt (by omega) | rfl) rfl rfl rfl rfl rfl (by first | exact Nat.le_of_ble_eq_true rfl | omega | (simp; omega)) (by first | exact cs_get _ _ (by omega) | exact cs_get _ _ (Nat.mod_lt _ (by decide)))) ?_ | refine ex_i (s_ixStr tabOk rfl rfl (by first | with_reducible exact cast_self _ | with_reducible exact cast_lit _ | exact nt (by omega) | rfl) rfl rfl (by first | exact cs_get _ _ (by omega) | exact cs_get _ _ (Nat.mod_lt _ (by decide)))) ?_))))
    | ((with_reducible refine isA_store ?_); (refine awl_store1r tabOk g_none rfl rfl rfl rfl rfl rfl (by first | exact cs_len _ _ (by omega) | exact Nat.le_of_ble_eq_true rfl | omega | (simp; omega)) ?_))
    | refine stA ?_
    | refine stD ?_
    | (refine hK _ _ _ _ ?_; clear hK hX K)
    | (refine hX _ _ _ _ _ (by simp) ?_; clear hK hX K))
      exact ⟨i + 1, by omega, by omega, (by refine weak_mk rfl ?_ ?_ rfl <;> (repeat' (first | exact weakE_nil | exact weakH_nil | refine weakE_cons rfl (by first | rfl | (rw [cs_put _ _ _ hlt]; rfl) | exact own_eq rfl rfl (by omega) | exact int_eq (by omega) | (simp <;> fail) | (congr 4; omega) | (congr 3; omega) | (congr 2; omega)) rfl ?_ | refine weakH_cons rfl (by first | rfl | (rw [cs_put _ _ _ hlt]; rfl) | exact own_eq rfl rfl (by omega) | exact int_eq (by omega) | (simp <;> fail) | (congr 4; omega) | (congr 3; omega) | (congr 2; omega)) rfl ?_)))⟩
    · obtain rfl : i = 5 := by omega
      repeat' (first
    | ((with_reducible refine aw_seqk ?_); intro K hK hX)
    | ((with_reducible refine isC_reg ?_); refine aw_prune [0, 1, 2, 3, 4, 5, 6, 7, 8, 9] rfl rfl ?_; with_reducible refine aw_region ?_)
    | ((with_reducible refine isC_draw ?_); refine aw_prune [0, 1, 2, 3, 4, 5, 6, 7, 8, 9] rfl rfl ?_; refine aw_drwF [] ?_)
    | refine stA ?_
    | refine stD ?_
    | (refine hK _ _ _ _ ?_; clear hK hX K)
    | (refine hX _ _ _ _ _ (by simp) ?_; clear hK hX K))
      generalize hA0 : lin (rk r) (perm r s) = A
      generalize hT : tk A 5 = T
      refine aw_loopk 3 (fun i : Nat => [(1, .ref 0 0), (2, .ref 1 0), (3, .c (iv r)), (4, .ref 2 0), (6, .c (iv i))]) (fun i => [(0, .row 30 (uk A T i).cs), (1, .row 30 z5), (2, .row 30 T.cs)]) [] (fun i => i ≤ 5) (fun i => 5 - i) 0 (by omega) weakA ?_
      intro i hi K hK hX
      by_cases hlt : i < 5
      · repeat' (first
    | ((with_reducible refine aw_seqk ?_); intro K hK hX)
    | ((with_reducible refine isC_reg ?_); refine aw_prune [0, 1, 2, 3, 4, 5, 6, 7, 8, 9] rfl rfl ?_; with_reducible refine aw_region ?_)
    | ((with_reducible refine isC_draw ?_); refine aw_prune [0, 1, 2, 3, 4, 5, 6, 7, 8, 9] rfl rfl ?_; refine aw_drwF [] ?_)
    | ((first | ((with_reducible refine isA_any ?_); refine xA ?_) | ((with_reducible refine isDk_any ?_); refine xD ?_)); (first | ((with_reducible refine e_load ?_); (first | refine ex_i (s_load1 tabOk rfl rfl rfl rfl (by first | exact cs_get _ _ (by omega) | exact cs_get _ _ (Nat.mod_lt _ (by decide)))) ?_ | refine ex_i (s_load1r tabOk rfl rfl rfl rfl (by first | exact cs_get _ _ (by omega) | exact cs_get _ _ (Nat.mod_lt _ (by decide)))) ?_ | refine ex_i (s_load1i tabOk rfl rfl rfl (by first | exact cs_get _ _ (by omega) | exact cs_get _ _ (Nat.mod_lt _ (by decide)))) ?_)) | ((with_reducible refine e_ix ?_); (first | refine ex_i (s_ixV1 tabOk rfl rfl (by first | with_reducible exact cast_self _ | with_reducible exact cast_lit _ | exact nt (by omega) | rfl) rfl rfl rfl rfl rfl (by first | exact Nat.le_of_ble_eq_true rfl | omega | (simp; omega)) (by first | exact cs_get _ _ (by omega) | exact cs_get _ _ (Nat.mod_lt _ (by decide)))) ?_ | refine ex_i (s_ixStr tabOk rfl rfl (by first | with_reducible exact cast_self _ | with_reducible exact cast_lit _ | exact nt (by omega) | rfl) rfl rfl (by first | exact cs_get _ _ (by omega) | exact cs_get _ _ (Nat.mod_lt _ (by decide)))) ?_))))
    | ((with_reducible refine isA_store ?_); (refine awl_store1r tabOk g_none rfl rfl rfl rfl rfl rfl (by first | exact cs_len _ _ (by omega) | exact Nat.le_of_ble_eq_true rfl | omega | (simp; omega)) ?_))
    | refine stA ?_
    | refine stD ?_
    | (refine hK _ _ _ _ ?_; clear hK hX K)
    | (refine hX _ _ _ _ _ (by simp) ?_; clear hK hX K))
        exact ⟨i + 1, by omega, by omega, (by refine weak_mk rfl ?_ ?_ rfl <;> (repeat' (first | exact weakE_nil | exact weakH_nil | refine weakE_cons rfl (by first | rfl | (rw [cs_put _ _ _ hlt]; rfl) | exact own_eq rfl rfl (by omega) | exact int_eq (by omega) | (simp <;> fail) | (congr 4; omega) | (congr 3; omega) | (congr 2; omega)) rfl ?_ | refine weakH_cons rfl (by first | rfl | (rw [cs_put _ _ _ hlt]; rfl) | exact own_eq rfl rfl (by omega) | exact int_eq (by omega) | (simp <;> fail) | (congr 4; omega) | (congr 3; omega) | (congr 2; omega)) rfl ?_)))⟩
      · obtain rfl : i = 5 := by omega
        repeat' (first
    | ((with_reducible refine aw_seqk ?_); intro K hK hX)
    | ((with_reducible refine isC_reg ?_); refine aw_prune [0, 1, 2, 3, 4, 5, 6, 7, 8, 9] rfl rfl ?_; with_reducible refine aw_region ?_)
    | ((with_reducible refine isC_draw ?_); refine aw_prune [0, 1, 2, 3, 4, 5, 6, 7, 8, 9] rfl rfl ?_; refine aw_drwF [] ?_)
    | refine stA ?_
    | refine stD ?_
    | (refine hK _ _ _ _ ?_; clear hK hX K)
    | (refine hX _ _ _ _ _ (by simp) ?_; clear hK hX K))
        generalize hA : uk A T 5 = A2
        refine aw_loopk 5 (fun i : Nat => [(1, .ref 0 0), (2, .ref 1 0), (3, .c (iv r)), (7, .ref 3 0), (8, .ref 4 0), (9, .c (iv i))]) (fun i => [(0, .row 30 (mk (lin2 A2) i).cs), (1, .row 30 z5), (3, .row 79 ri), (4, .row 79 rj)]) [] (fun i => i ≤ 5) (fun i => 5 - i) 0 (by omega) weakA ?_
        intro i hi K hK hX
        by_cases hlt : i < 5
        · repeat' (first
    | ((with_reducible refine aw_seqk ?_); intro K hK hX)
    | ((with_reducible refine isC_reg ?_); refine aw_prune [0, 1, 2, 3, 4, 5, 6, 7, 8, 9] rfl rfl ?_; with_reducible refine aw_region ?_)
    | ((with_reducible refine isC_draw ?_); refine aw_prune [0, 1, 2, 3, 4, 5, 6, 7, 8, 9] rfl rfl ?_; refine aw_drwF [] ?_)
    | ((first | with_reducible refine isA_call ?_ | with_reducible refine isD_call ?_); (first | refine zA ?_ | refine zN ?_ | refine zD ?_); (first | refine c0 (rotate_ok _ (ra i) (ra_ok i).1 (ra_ok i).2) ?_ | refine c0 (rotate_ok _ (rb i) (rb_ok i).1 (rb_ok i).2) ?_))
    | ((first | ((with_reducible refine isA_any ?_); refine xA ?_) | ((with_reducible refine isDk_any ?_); refine xD ?_)); (first | ((with_reducible refine e_load ?_); (first | refine ex_i (s_load1 tabOk rfl rfl rfl rfl (by first | exact cs_get _ _ (by omega) | exact ra_get _ (by omega) | exact rb_get _ (by omega))) ?_ | refine ex_i (s_load1r tabOk rfl rfl rfl rfl (by first | exact cs_get _ _ (by omega) | exact ra_get _ (by omega) | exact rb_get _ (by omega))) ?_ | refine ex_i (s_load1i tabOk rfl rfl rfl (by first | exact cs_get _ _ (by omega) | exact ra_get _ (by omega) | exact rb_get _ (by omega))) ?_)) | ((with_reducible refine e_ix ?_); (first | refine ex_i (s_ixV1 tabOk rfl rfl (by first | with_reducible exact cast_self _ | with_reducible exact cast_lit _ | exact nt (by omega) | rfl) rfl rfl rfl rfl rfl (by first | exact Nat.le_of_ble_eq_true rfl | omega | (simp; omega)) (by first | exact cs_get _ _ (by omega) | exact ra_get _ (by omega) | exact rb_get _ (by omega))) ?_ | refine ex_i (s_ixStr tabOk rfl rfl (by first | with_reducible exact cast_self _ | with_reducible exact cast_lit _ | exact nt (by omega) | rfl) rfl rfl (by first | exact cs_get _ _ (by omega) | exact ra_get _ (by omega) | exact rb_get _ (by omega))) ?_))))
    | ((with_reducible refine isA_store ?_); (refine awl_store1r tabOk g_none rfl rfl rfl rfl rfl rfl (by first | exact cs_len _ _ (by omega) | exact Nat.le_of_ble_eq_true rfl | omega | (simp; omega)) ?_))
    | refine stA ?_
    | refine stD ?_
    | (refine hK _ _ _ _ ?_; clear hK hX K)
    | (refine hX _ _ _ _ _ (by simp) ?_; clear hK hX K))
          exact ⟨i + 1, by omega, by omega, (by refine weak_mk rfl ?_ ?_ rfl <;> (repeat' (first | exact weakE_nil | exact weakH_nil | refine weakE_cons rfl (by first | rfl | (rw [cs_put _ _ _ hlt]; rfl) | exact own_eq rfl rfl (by omega) | exact int_eq (by omega) | (simp <;> fail) | (congr 4; omega) | (congr 3; omega) | (congr 2; omega)) rfl ?_ | refine weakH_cons rfl (by first | rfl | (rw [cs_put _ _ _ hlt]; rfl) | exact own_eq rfl rfl (by omega) | exact int_eq (by omega) | (simp <;> fail) | (congr 4; omega) | (congr 3; omega) | (congr 2; omega)) rfl ?_)))⟩
        · obtain rfl : i = 5 := by omega
          repeat' (first
    | ((with_reducible refine aw_seqk ?_); intro K hK hX)
    | ((with_reducible refine isC_reg ?_); refine aw_prune [0, 1, 2, 3, 4, 5, 6, 7, 8, 9] rfl rfl ?_; with_reducible refine aw_region ?_)
    | ((with_reducible refine isC_draw ?_); refine aw_prune [0, 1, 2, 3, 4, 5, 6, 7, 8, 9] rfl rfl ?_; refine aw_drwF [] ?_)
    | refine stA ?_
    | refine stD ?_
    | (refine hK _ _ _ _ ?_; clear hK hX K)
    | (refine hX _ _ _ _ _ (by simp) ?_; clear hK hX K))
          subst hA hT hA0
          exact ⟨r + 1, by omega, by omega, (by refine weak_mk rfl ?_ ?_ rfl <;> (repeat' (first | exact weakE_nil | exact weakH_nil | refine weakE_cons rfl (by first | rfl | (rw [rnd_eq]; rfl) | exact own_eq rfl rfl (by omega) | exact int_eq (by omega) | (simp <;> fail) | (congr 4; omega) | (congr 3; omega) | (congr 2; omega)) rfl ?_ | refine weakH_cons rfl (by first | rfl | (rw [rnd_eq]; rfl) | exact own_eq rfl rfl (by omega) | exact int_eq (by omega) | (simp <;> fail) | (congr 4; omega) | (congr 3; omega) | (congr 2; omega)) rfl ?_)))⟩
  · repeat' (first
    | ((with_reducible refine aw_seqk ?_); intro K hK hX)
    | ((with_reducible refine isC_reg ?_); refine aw_prune [0, 1, 2, 3, 4, 5, 6, 7, 8, 9] rfl rfl ?_; with_reducible refine aw_region ?_)
    | ((with_reducible refine isC_draw ?_); refine aw_prune [0, 1, 2, 3, 4, 5, 6, 7, 8, 9] rfl rfl ?_; refine aw_drwF [] ?_)
    | refine stA ?_
    | refine stD ?_
    | (refine hK _ _ _ _ ?_; clear hK hX K)
    | (refine hX _ _ _ _ _ (by simp) ?_; clear hK hX K))
    obtain rfl : r = 12 := by omega
    refine retK_mk (by first | exact .inl rfl | exact .inr rfl) (by exact trivial) rfl (ResL.one (by first | exact ResA.one rfl rfl rfl rfl rfl | exact ResA.agg rfl rfl rfl rfl rfl (by first | exact IsAgg.closed rfl rfl | exact IsAgg.mixed _) | exact ResA.aggr rfl rfl rfl rfl (by first | rfl | with_reducible assumption | (simp <;> fail) | omega | (simp; omega) | assumption))) (by first | exact out_c (by first | exact frz_c cv_rfl | exact frz_c cv_nil | exact frz_ownW rfl rfl (by first | rfl | with_reducible assumption | (simp <;> fail) | omega | (simp; omega) | assumption) | exact frz_eq (frz_c cv_rfl) (by first | rfl | (simp <;> fail) | fail)) | exact out_own rfl rfl)
end Go.Proofs.Ytgofigkhdjjlmaa
/-
  Plain: words of bytes, absorbing, squeezing. No program in sight.
-/
set_option linter.unusedVariables false
set_option linter.unusedSimpArgs false
namespace Go.Proofs.Ytgofigkhdjjlmaa
open Go Go.RowKit Go.Av

/-- The little-endian number of the first i bytes. -/
def wdN (l : List UInt8) : Nat → BitVec 64
  | 0 => 0#64
  | i + 1 => wdN l i ||| (((l.getD i 0).toBitVec.setWidth 64) <<< (8 * i))
def xorA (s : S5) (x : BitVec 64) : S5 := { s with a := s.a ^^^ x }
/-- The state after k whole words. -/
def absK (s : S5) (l : List UInt8) : Nat → S5
  | 0 => s
  | k + 1 => permute (xorA (absK s l k) (wdN ((l.drop (8 * k)).take 8) 8))
def pad8 (r : List UInt8) : List UInt8 := r ++ 1 :: List.replicate (7 - r.length) 0
def start (dom : BitVec 64) : S5 := permute ⟨dom, 1#64, 2#64, 3#64, 4#64⟩
def absorb (dom : BitVec 64) (l : List UInt8) : S5 := permute (xorA (absK (start dom) l (l.length / 8)) (wdN (pad8 (l.drop (8 * (l.length / 8)))) 8))
def padR (l : List UInt8) : List UInt8 := l ++ 1 :: List.replicate (7 - l.length % 8) 0
theorem pad8_length (r : List UInt8) (h : r.length < 8) : (pad8 r).length = 8 := by simp [pad8]; omega
theorem padR_length (l : List UInt8) : (padR l).length = 8 * (l.length / 8 + 1) := by simp [padR]; omega
theorem padR_drop (l : List UInt8) : (padR l).drop (8 * (l.length / 8)) = pad8 (l.drop (8 * (l.length / 8))) := by
  have h : 8 * (l.length / 8) ≤ l.length := by omega
  unfold padR pad8
  rw [List.drop_append_of_le_length h, List.length_drop]
  congr 3
  omega
theorem padR_take (l : List UInt8) (j : Nat) (h : j < l.length / 8) : ((padR l).drop (8 * j)).take 8 = (l.drop (8 * j)).take 8 := by
  unfold padR
  rw [List.drop_append_of_le_length (by omega), List.take_append_of_le_length (by rw [List.length_drop]; omega)]
theorem absK_padR (s : S5) (l : List UInt8) : ∀ j, j ≤ l.length / 8 → absK s (padR l) j = absK s l j
  | 0, _ => rfl
  | j + 1, h => by
    simp only [absK]
    rw [absK_padR s l j (by omega), padR_take l j (by omega)]
theorem absorb_padR (dom : BitVec 64) (l : List UInt8) : absK (start dom) (padR l) (l.length / 8 + 1) = absorb dom l := by
  simp only [absK]
  rw [absK_padR _ l _ (Nat.le_refl _), padR_drop, List.take_of_length_le (by
    rw [pad8_length]
    · exact Nat.le_refl _
    · rw [List.length_drop]; omega)]
  rfl
/-- The bytes of the sequence from a state on. -/
def permN : Nat → S5 → S5
  | 0, s => s
  | k + 1, s => permute (permN k s)
def byteAt (s : S5) (i : Nat) : UInt8 := UInt8.ofBitVec (((permN (i / 8) s).a >>> (8 * (i % 8))).setWidth 8)
def outB (s : S5) (n : Nat) : List UInt8 := (List.range n).map (byteAt s)
theorem outB_length (s : S5) (n : Nat) : (outB s n).length = n := by simp [outB]
theorem outB_succ (s : S5) (n : Nat) : outB s (n + 1) = outB s n ++ [byteAt s n] := by simp [outB, List.range_succ]
theorem outB_take (s : S5) (n m : Nat) (h : n ≤ m) : (outB s m).take n = outB s n := by
  simp only [outB, ← List.map_take, List.take_range, Nat.min_eq_left h]
def sum (dom : BitVec 64) (l : List UInt8) : List UInt8 := outB (absorb dom l) 32
theorem sum_length (dom : BitVec 64) (l : List UInt8) : (sum dom l).length = 32 := outB_length _ _
/-- A row that is filled from the front. -/
theorem fill_succ (l z : List UInt8) (x : UInt8) (i : Nat) (h : l.length = i) (hz : i < z.length) : (l ++ z.drop i).set i x = (l ++ [x]) ++ z.drop (i + 1) := by
  rw [List.set_append_right _ _ (by omega), show i - l.length = 0 by omega]
  have : z.drop i = z[i] :: z.drop (i + 1) := List.drop_eq_getElem_cons hz
  rw [this, List.set_cons_zero, List.append_assoc]
  rfl
end Go.Proofs.Ytgofigkhdjjlmaa
/-
  Words of bytes and absorbing (walk), as the program has it.
-/
set_option linter.unusedVariables false
set_option linter.unusedSimpArgs false
namespace Go.Proofs.Ytgofigkhdjjlmaa
open Go Go.RowKit Go.Av
set_option maxRecDepth 100000
theorem u8_at (l : List UInt8) (i : Nat) (h : i < l.length) : (u8c l)[i * 1]? = some (.v (.int .u8 ((l.getD i 0).toNat : Int))) := by
  rw [Nat.mul_one]
  refine u8c_get ?_
  simp [List.getD, List.getElem?_eq_getElem h]
theorem u8_at0 (l : List UInt8) (i : Nat) (h : i < l.length) : (u8c l)[0 + i * 1]? = some (.v (.int .u8 ((l.getD i 0).toNat : Int))) := by
  rw [Nat.zero_add]; exact u8_at l i h
attribute [local irreducible] Still Adds AWL AW Drw AC AWR Weak Frz Src RetK Out
set_option maxHeartbeats 4000000 in
theorem word_ok (l : List UInt8) (hl : l.length = 8) : AC Try.prog 108 [.sl 1 8 (u8c l)] (.c (wv (wdN l 8))) [] 0 := by
  refine ac_enter tabOk (sz := 22) Try.func108 rfl (by rw [Try.ntmps108]; rfl) ?_
  repeat' (first
    | ((with_reducible refine aw_seqk ?_); intro K hK hX)
    | ((with_reducible refine isC_reg ?_); refine aw_prune [0, 2, 3, 4, 5, 6, 7, 8] rfl rfl ?_; with_reducible refine aw_region ?_)
    | refine stA ?_
    | (refine hK _ _ _ _ ?_; clear hK hX K)
    | (refine hX _ _ _ _ _ (by simp) ?_; clear hK hX K))
  refine aw_loopk 0 (fun i : Nat => [(6, .c (.sl 1 8 (u8c l))), (7, .c (iv 8)), (8, .c (iv i)), (3, .c (wv (wdN l i)))]) (fun i => []) [] (fun i => i ≤ 8) (fun i => 8 - i) 0 (by omega) weakA ?_
  intro i hi K hK hX
  by_cases hlt : i < 8
  · repeat' (first
    | ((with_reducible refine aw_seqk ?_); intro K hK hX)
    | ((with_reducible refine isC_reg ?_); refine aw_prune [0, 2, 3, 4, 5, 6, 7, 8] rfl rfl ?_; with_reducible refine aw_region ?_)
    | (((with_reducible refine isA_any ?_); refine xA ?_); (first | ((with_reducible refine e_bin ?_); (first | refine ex_i (s_shlW rfl isW_rfl rfl (show 8 * (i : Int) = ((8 * i : Nat) : Int) by omega)) ?_)) | ((with_reducible refine e_load ?_); (first | refine ex_i (s_load1 tabOk rfl rfl rfl rfl (by exact u8_at l i (by omega))) ?_ | refine ex_i (s_load1r tabOk rfl rfl rfl rfl (by exact u8_at l i (by omega))) ?_ | refine ex_i (s_load1i tabOk rfl rfl rfl (by exact u8_at l i (by omega))) ?_)) | ((with_reducible refine e_ix ?_); (first | refine ex_i (s_ixV1 tabOk rfl rfl (by first | with_reducible exact cast_self _ | with_reducible exact cast_lit _ | exact nt (by omega) | rfl) rfl rfl rfl rfl rfl (by first | exact Nat.le_of_ble_eq_true rfl | omega | (simp; omega)) (by exact u8_at l i (by omega))) ?_ | refine ex_i (s_ixStr tabOk rfl rfl (by first | with_reducible exact cast_self _ | with_reducible exact cast_lit _ | exact nt (by omega) | rfl) rfl rfl (by exact u8_at l i (by omega))) ?_))))
    | refine stA ?_
    | (refine hK _ _ _ _ ?_; clear hK hX K)
    | (refine hX _ _ _ _ _ (by simp) ?_; clear hK hX K))
    exact ⟨i + 1, by omega, by omega, weakA⟩
  · obtain rfl : i = 8 := by omega
    repeat' (first
    | ((with_reducible refine aw_seqk ?_); intro K hK hX)
    | ((with_reducible refine isC_reg ?_); refine aw_prune [0, 2, 3, 4, 5, 6, 7, 8] rfl rfl ?_; with_reducible refine aw_region ?_)
    | refine stA ?_
    | (refine hK _ _ _ _ ?_; clear hK hX K)
    | (refine hX _ _ _ _ _ (by simp) ?_; clear hK hX K))
    refine retK_mk (by first | exact .inl rfl | exact .inr rfl) (by exact trivial) rfl (ResL.one (ResA.tmp rfl)) (by first | exact out_c (by first | exact frz_c cv_rfl | exact frz_c cv_nil | exact frz_ownW rfl rfl (by first | rfl | with_reducible assumption | (simp <;> fail) | omega | (simp; omega) | assumption) | exact frz_eq (frz_c cv_rfl) (by first | rfl | (simp <;> fail) | fail)) | exact out_own rfl rfl)
set_option maxHeartbeats 4000000 in
theorem rword_ok (l : List UInt8) (hl : l.length = 8) : AC Try.prog 109 [.sl 1 8 (u8c l)] (.c (wv (wdN l 8))) [] 0 := by
  refine ac_enter tabOk (sz := 20) Try.func109 rfl (by rw [Try.ntmps109]; rfl) ?_
  repeat' (first
    | ((with_reducible refine aw_seqk ?_); intro K hK hX)
    | ((with_reducible refine isC_reg ?_); refine aw_prune [0, 2, 3, 4] rfl rfl ?_; with_reducible refine aw_region ?_)
    | refine stA ?_
    | (refine hK _ _ _ _ ?_; clear hK hX K)
    | (refine hX _ _ _ _ _ (by simp) ?_; clear hK hX K))
  refine aw_loopk 0 (fun i : Nat => [(0, .c (.sl 1 8 (u8c l))), (4, .c (iv i)), (3, .c (wv (wdN l i)))]) (fun i => []) [] (fun i => i ≤ 8) (fun i => 8 - i) 0 (by omega) weakA ?_
  intro i hi K hK hX
  by_cases hlt : i < 8
  · repeat' (first
    | ((with_reducible refine aw_seqk ?_); intro K hK hX)
    | ((with_reducible refine isC_reg ?_); refine aw_prune [0, 2, 3, 4] rfl rfl ?_; with_reducible refine aw_region ?_)
    | (((with_reducible refine isA_any ?_); refine xA ?_); (first | ((with_reducible refine e_bin ?_); (first | refine ex_i (s_shlW rfl isW_rfl rfl (show 8 * (i : Int) = ((8 * i : Nat) : Int) by omega)) ?_)) | ((with_reducible refine e_load ?_); (first | refine ex_i (s_load1 tabOk rfl rfl rfl rfl (by exact u8_at l i (by omega))) ?_ | refine ex_i (s_load1r tabOk rfl rfl rfl rfl (by exact u8_at l i (by omega))) ?_ | refine ex_i (s_load1i tabOk rfl rfl rfl (by exact u8_at l i (by omega))) ?_)) | ((with_reducible refine e_ix ?_); (first | refine ex_i (s_ixV1 tabOk rfl rfl (by first | with_reducible exact cast_self _ | with_reducible exact cast_lit _ | exact nt (by omega) | rfl) rfl rfl rfl rfl rfl (by first | exact Nat.le_of_ble_eq_true rfl | omega | (simp; omega)) (by exact u8_at l i (by omega))) ?_ | refine ex_i (s_ixStr tabOk rfl rfl (by first | with_reducible exact cast_self _ | with_reducible exact cast_lit _ | exact nt (by omega) | rfl) rfl rfl (by exact u8_at l i (by omega))) ?_))))
    | refine stA ?_
    | (refine hK _ _ _ _ ?_; clear hK hX K)
    | (refine hX _ _ _ _ _ (by simp) ?_; clear hK hX K))
    exact ⟨i + 1, by omega, by omega, weakA⟩
  · obtain rfl : i = 8 := by omega
    repeat' (first
    | ((with_reducible refine aw_seqk ?_); intro K hK hX)
    | ((with_reducible refine isC_reg ?_); refine aw_prune [0, 2, 3, 4] rfl rfl ?_; with_reducible refine aw_region ?_)
    | refine stA ?_
    | (refine hK _ _ _ _ ?_; clear hK hX K)
    | (refine hX _ _ _ _ _ (by simp) ?_; clear hK hX K))
    refine retK_mk (by first | exact .inl rfl | exact .inr rfl) (by exact trivial) rfl (ResL.one (ResA.tmp rfl)) (by first | exact out_c (by first | exact frz_c cv_rfl | exact frz_c cv_nil | exact frz_ownW rfl rfl (by first | rfl | with_reducible assumption | (simp <;> fail) | omega | (simp; omega) | assumption) | exact frz_eq (frz_c cv_rfl) (by first | rfl | (simp <;> fail) | fail)) | exact out_own rfl rfl)
end Go.Proofs.Ytgofigkhdjjlmaa
/-
  Absorbing (walk), as the program has it.
-/
set_option linter.unusedVariables false
set_option linter.unusedSimpArgs false
namespace Go.Proofs.Ytgofigkhdjjlmaa
open Go Go.RowKit Go.Av
set_option maxRecDepth 100000
theorem sl_part (l : List UInt8) (n a m : Nat) (hl : l.length = n) (h : a + m ≤ n) : ((u8c l).drop (a * 1)).take (m * 1) = u8c ((l.drop a).take m) := by
  rw [Nat.mul_one, Nat.mul_one, u8c_drop, u8c_take]
theorem sl_step (l : List UInt8) (n k : Nat) (hl : l.length = n) (h : 8 * (k + 1) ≤ n) : AV.c (CV.sl 1 (n - 8 * k - 8) (List.take ((n - 8 * k - 8) * 1) (List.drop (8 * 1) (u8c (List.drop (8 * k) l))))) = AV.c (CV.sl 1 (n - 8 * (k + 1)) (u8c (List.drop (8 * (k + 1)) l))) := by
  rw [Nat.mul_one, Nat.mul_one, u8c_drop, u8c_take, List.drop_drop, List.take_of_length_le (by rw [List.length_drop]; omega), show n - 8 * k - 8 = n - 8 * (k + 1) by omega, show 8 * k + 8 = 8 * (k + 1) by omega]
theorem lay_last (r : List UInt8) (m : Nat) (h : r.length = m) (hm : m < 8) : lay (List.map CV.v [Value.int IntKind.u8 0, Value.int IntKind.u8 0, Value.int IntKind.u8 0, Value.int IntKind.u8 0, Value.int IntKind.u8 0, Value.int IntKind.u8 0, Value.int IntKind.u8 0, Value.int IntKind.u8 0]) (0 + 0 * 1) (u8c r) = u8c (r ++ List.replicate (8 - m) 0) := by
  have : List.map CV.v [Value.int IntKind.u8 0, Value.int IntKind.u8 0, Value.int IntKind.u8 0, Value.int IntKind.u8 0, Value.int IntKind.u8 0, Value.int IntKind.u8 0, Value.int IntKind.u8 0, Value.int IntKind.u8 0] = u8c (List.replicate 8 0) := rfl
  rw [this]
  simp only [lay, Nat.zero_mul, Nat.add_zero, List.take_zero, List.nil_append, Nat.zero_add, u8c_length, u8c_drop, h, u8c_app, List.drop_replicate]
theorem set_pad (r : List UInt8) (m : Nat) (h : r.length = m) (hm : m < 8) : (u8c (r ++ List.replicate (8 - m) 0)).set (0 + m * 1) (.v (.int .u8 1)) = u8c (pad8 r) := by
  have : CV.v (.int .u8 1) = .v (.int .u8 ((1 : UInt8).toNat : Int)) := rfl
  rw [this, Nat.zero_add, Nat.mul_one]
  unfold u8c
  rw [← List.map_set]
  congr 1
  unfold pad8
  rw [List.set_append_right _ _ (by omega), h, Nat.sub_self, show 8 - m = (7 - m) + 1 by omega, List.replicate_succ, List.set_cons_zero]
attribute [local irreducible] Still Adds AWL AW Drw AC AWR Weak Frz Src RetK Out
attribute [local simp] u8c_take u8c_drop
set_option maxHeartbeats 4000000 in
theorem absorb_ok (dom : BitVec 64) (l : List UInt8) (n : Nat) (hl : l.length = n) (hm : n ≤ maxLen) : AC Try.prog 72 [wv dom, .sl 1 n (u8c l)] (.c (.agg (absorb dom l).cs)) [] 0 := by
  have hm' : n ≤ 9223372036854775807 := hm
  refine ac_enter tabOk (sz := 38) Try.func72 rfl (by rw [Try.ntmps72]; rfl) ?_
  repeat' (first
    | ((with_reducible refine aw_seqk ?_); intro K hK hX)
    | ((with_reducible refine isC_reg ?_); refine aw_prune [0, 1, 4, 5, 6] rfl rfl ?_; with_reducible refine aw_region ?_)
    | ((with_reducible refine isC_draw ?_); refine aw_prune [0, 1, 4, 5, 6] rfl rfl ?_; refine aw_drwF [] ?_)
    | ((first | with_reducible refine isA_call ?_ | with_reducible refine isD_call ?_); (first | refine zA ?_ | refine zN ?_ | refine zD ?_); (first | refine c0 (permute_ok ⟨dom, 1#64, 2#64, 3#64, 4#64⟩) ?_))
    | refine stA ?_
    | refine stD ?_
    | (refine hK _ _ _ _ ?_; clear hK hX K)
    | (refine hX _ _ _ _ _ (by simp) ?_; clear hK hX K))
  refine aw_loopk 2 (fun k : Nat => [(4, .ref 0 0), (5, .ref 1 0), (1, .c (.sl 1 (n - 8 * k) (u8c (l.drop (8 * k)))))]) (fun k => [(0, .row 30 z5), (1, .row 30 (absK (start dom) l k).cs)]) [] (fun k => 8 * k ≤ n) (fun k => n - 8 * k) 0 (by omega) weakA ?_
  intro k hk K hK hX
  by_cases hlt : 8 ≤ n - 8 * k
  · repeat' (first
    | ((with_reducible refine aw_seqk ?_); intro K hK hX)
    | ((with_reducible refine isC_reg ?_); refine aw_prune [0, 1, 4, 5, 6] rfl rfl ?_; with_reducible refine aw_region ?_)
    | ((with_reducible refine isC_draw ?_); refine aw_prune [0, 1, 4, 5, 6] rfl rfl ?_; refine aw_drwF [] ?_)
    | ((first | with_reducible refine isA_call ?_ | with_reducible refine isD_call ?_); (first | refine zA ?_ | refine zN ?_ | refine zD ?_); (first | refine c0 (word_ok ((l.drop (8 * k)).take 8) (by simp; omega)) ?_ | refine c0 (permute_ok (xorA (absK (start dom) l k) (wdN ((l.drop (8 * k)).take 8) 8))) ?_))
    | refine stA ?_
    | refine stD ?_
    | (refine hK _ _ _ _ ?_; clear hK hX K)
    | (refine hX _ _ _ _ _ (by simp) ?_; clear hK hX K))
    exact ⟨k + 1, by omega, by omega, (by refine weak_mk rfl ?_ ?_ rfl <;> (repeat' (first | exact weakE_nil | exact weakH_nil | refine weakE_cons rfl (by first | rfl | (exact sl_step l n k hl (by omega)) | exact own_eq rfl rfl (by omega) | exact int_eq (by omega) | (simp <;> fail) | (congr 4; omega) | (congr 3; omega) | (congr 2; omega)) rfl ?_ | refine weakH_cons rfl (by first | rfl | (exact sl_step l n k hl (by omega)) | exact own_eq rfl rfl (by omega) | exact int_eq (by omega) | (simp <;> fail) | (congr 4; omega) | (congr 3; omega) | (congr 2; omega)) rfl ?_)))⟩
  · have hr : (l.drop (8 * k)).length = n - 8 * k := by rw [List.length_drop, hl]
    have hkn : k = l.length / 8 := by omega
    have hp : (u8c (pad8 (l.drop (8 * k)))).length = 8 := by rw [u8c_length, pad8_length]; omega
    have hq : (u8c (l.drop (8 * k) ++ List.replicate (8 - (n - 8 * k)) 0)).length = 8 := by rw [u8c_length, List.length_append, List.length_replicate]; omega
    repeat' (first
    | ((with_reducible refine aw_seqk ?_); intro K hK hX)
    | ((with_reducible refine isC_reg ?_); refine aw_prune [0, 1, 4, 5, 6] rfl rfl ?_; with_reducible refine aw_region ?_)
    | ((with_reducible refine isC_draw ?_); refine aw_prune [0, 1, 4, 5, 6] rfl rfl ?_; refine aw_drwF [] ?_)
    | refine stA ?_
    | refine stD ?_
    | (refine hK _ _ _ _ ?_; clear hK hX K)
    | (refine hX _ _ _ _ _ (by simp) ?_; clear hK hX K))
    rw [lay_last _ _ hr (by omega)]
    repeat' (first
    | ((with_reducible refine aw_seqk ?_); intro K hK hX)
    | ((with_reducible refine isC_reg ?_); refine aw_prune [0, 1, 4, 5, 6] rfl rfl ?_; with_reducible refine aw_region ?_)
    | ((with_reducible refine isC_draw ?_); refine aw_prune [0, 1, 4, 5, 6] rfl rfl ?_; refine aw_drwF [] ?_)
    | refine stA ?_
    | refine stD ?_
    | (refine hK _ _ _ _ ?_; clear hK hX K)
    | (refine hX _ _ _ _ _ (by simp) ?_; clear hK hX K))
    rw [set_pad _ _ hr (by omega)]
    repeat' (first
    | ((with_reducible refine aw_seqk ?_); intro K hK hX)
    | ((with_reducible refine isC_reg ?_); refine aw_prune [0, 1, 4, 5, 6] rfl rfl ?_; with_reducible refine aw_region ?_)
    | ((with_reducible refine isC_draw ?_); refine aw_prune [0, 1, 4, 5, 6] rfl rfl ?_; refine aw_drwF [] ?_)
    | ((first | with_reducible refine isA_call ?_ | with_reducible refine isD_call ?_); (first | refine wA ?_ | refine wN ?_ | refine wD ?_); (first | refine cF (word_ok (pad8 (l.drop (8 * k))) (by rw [pad8_length]; omega)) ?_))
    | ((first | with_reducible refine isA_call ?_ | with_reducible refine isD_call ?_); (first | refine zA ?_ | refine zN ?_ | refine zD ?_); (first | refine c0 (permute_ok (xorA (absK (start dom) l k) (wdN (pad8 (l.drop (8 * k))) 8))) ?_))
    | refine stA ?_
    | refine stD ?_
    | (refine hK _ _ _ _ ?_; clear hK hX K)
    | (refine hX _ _ _ _ _ (by simp) ?_; clear hK hX K))
    subst hkn
    refine retK_mk (by first | exact .inl rfl | exact .inr rfl) (by exact trivial) rfl (ResL.one (by first | exact ResA.one rfl rfl rfl rfl rfl | exact ResA.agg rfl rfl rfl rfl rfl (by first | exact IsAgg.closed rfl rfl | exact IsAgg.mixed _) | exact ResA.aggr rfl rfl rfl rfl (by first | rfl | with_reducible assumption | (simp <;> fail) | omega | (simp; omega) | assumption))) (by first | exact out_c (by first | exact frz_c cv_rfl | exact frz_c cv_nil | exact frz_ownW rfl rfl (by first | rfl | with_reducible assumption | (simp <;> fail) | omega | (simp; omega) | assumption) | exact frz_eq (frz_c cv_rfl) (by first | rfl | (simp <;> fail) | fail)) | exact out_own rfl rfl)
end Go.Proofs.Ytgofigkhdjjlmaa
/-
  Squeezing and Sum (walk), as the program has it.
-/
set_option linter.unusedVariables false
set_option linter.unusedSimpArgs false
namespace Go.Proofs.Ytgofigkhdjjlmaa
open Go Go.RowKit Go.Av
set_option maxRecDepth 100000
theorem sum_idle : Idle Try.prog 70 0 := by
  intro us w hl
  obtain ⟨_, rfl⟩ : ∃ _ : Unit, us = [] := by
    match us, hl with | [], _ => exact ⟨(), rfl⟩
  refine callsD_of_wpS Try.func70 rfl fun c₀ cs hu => ?_
  apply wpS_region
  simp [wpOpsS, go_sem, recoverD, hu, Try.ntmps70, Exit.thenS]
  cases c₀
  simp_all [bodyPostS, results, Try.results70]
theorem sum_idle_b : Body Try.prog 70 := by unfold Body; kernel_rfl
/-- The row of n bytes of which i are filled. -/
def fil (S : S5) (n i : Nat) : List UInt8 := outB S i ++ List.replicate (n - i) 0
theorem fil_zero (S : S5) (n : Nat) : fil S n 0 = List.replicate n 0 := by simp [fil, outB]
theorem fil_full (S : S5) (n : Nat) : fil S n n = outB S n := by simp [fil]
theorem fil_length (S : S5) (n i : Nat) (h : i ≤ n) : (fil S n i).length = n := by simp [fil, outB_length]; omega
theorem u8c_set (l : List UInt8) (i : Nat) (b : UInt8) : (u8c l).set i (.v (.int .u8 (b.toNat : Int))) = u8c (l.set i b) := by
  unfold u8c
  rw [← List.map_set]
theorem fil_set (S : S5) (n i : Nat) (h : i < n) : (u8c (fil S n i)).set (0 + i * 1) (.v (.int .u8 ((byteAt S i).toNat : Int))) = u8c (fil S n (i + 1)) := by
  rw [u8c_set, Nat.zero_add, Nat.mul_one]
  congr 1
  unfold fil
  rw [outB_succ, List.set_append_right _ _ (by rw [outB_length]; omega), outB_length, Nat.sub_self, show n - i = (n - (i + 1)) + 1 by omega, List.replicate_succ, List.set_cons_zero]
  simp
def stAt (S : S5) (i : Nat) : S5 := permN ((i - 1) / 8) S
theorem stAt_same (S : S5) (i : Nat) (h : ¬ (0 < i ∧ i % 8 = 0)) : stAt S i = permN (i / 8) S := by
  unfold stAt; congr 1; omega
theorem stAt_next (S : S5) (i : Nat) (h : 0 < i ∧ i % 8 = 0) : permute (stAt S i) = permN (i / 8) S := by
  unfold stAt
  rw [show i / 8 = (i - 1) / 8 + 1 by omega]
  rfl
theorem stAt_succ (S : S5) (i : Nat) : stAt S (i + 1) = permN (i / 8) S := rfl
attribute [local irreducible] Still Adds AWL AW Drw AC AWR Weak Frz Src RetK Out InK
abbrev z32 : List CV := List.map CV.v [.int .u8 0, .int .u8 0, .int .u8 0, .int .u8 0, .int .u8 0, .int .u8 0, .int .u8 0, .int .u8 0, .int .u8 0, .int .u8 0, .int .u8 0, .int .u8 0, .int .u8 0, .int .u8 0, .int .u8 0, .int .u8 0, .int .u8 0, .int .u8 0, .int .u8 0, .int .u8 0, .int .u8 0, .int .u8 0, .int .u8 0, .int .u8 0, .int .u8 0, .int .u8 0, .int .u8 0, .int .u8 0, .int .u8 0, .int .u8 0, .int .u8 0, .int .u8 0]
set_option maxHeartbeats 4000000 in
theorem sum_ok (dom : BitVec 64) (l : List UInt8) (n : Nat) (hl : l.length = n) (hm : n ≤ maxLen) : AC Try.prog 33 [wv dom, .sl 1 n (u8c l)] (.c (.agg (u8c (sum dom l)))) [] 0 := by
  refine ac_enter tabOk (sz := 12) Try.func33 rfl (by rw [Try.ntmps33]; rfl) ?_
  repeat' (first
    | ((with_reducible refine aw_seqk ?_); intro K hK hX)
    | ((with_reducible refine isC_reg ?_); refine aw_prune [0, 1, 2, 4, 5, 6, 7] rfl rfl ?_; with_reducible refine aw_region ?_)
    | ((with_reducible refine isC_draw ?_); refine aw_prune [0, 1, 2, 4, 5, 6, 7] rfl rfl ?_; refine aw_drwF [71] ?_)
    | ((first | with_reducible refine isA_call ?_ | with_reducible refine isD_call ?_); (first | refine zA ?_ | refine zN ?_ | refine zD ?_); (first | refine c0 (absorb_ok dom l n hl hm) ?_))
    | ((first | with_reducible refine isA_call ?_ | with_reducible refine isA_callv ?_); refine awl_inl tabOk [0, 1, 2, 3, 4, 5, 6, 7, 8, 9, 10, 11, 12, 13, 14, 15, 16, 17, 18, 19, 20, 21, 22, 23, 24, 25, 26, 27, 28, 29] g_none rfl rfl (by unfold Body; kernel_rfl) Try.func71 rfl rfl rfl (szf := 30) (by rw [Try.ntmps71]; rfl) rfl ?_)
    | refine stA ?_
    | refine stD ?_
    | (refine hK _ _ _ _ ?_; clear hK hX K)
    | (refine hX _ _ _ _ _ (by simp) ?_; clear hK hX K)
    | (first | refine inK_some (by first | exact .inl rfl | exact .inr rfl) (by exact trivial) rfl rfl ResL.none ?_ | refine inK_none (by first | exact .inl rfl | exact .inr rfl) (by exact trivial) rfl rfl ResL.none ?_))
  generalize hS : absorb dom l = S
  refine aw_loopk 3 (fun i : Nat => [(1, .own 1 0 32 1 false), (2, .ref 2 0), (6, .c (iv 32)), (7, .c (iv i))]) (fun i => [(0, .row 35 z32), (1, .row 35 (u8c (fil S 32 i))), (2, .row 30 (stAt S i).cs)]) _ (fun i => i ≤ 32) (fun i => 32 - i) 0 (by omega) weakA ?_
  intro i hi K hK hX
  by_cases hlt : i < 32
  · skip
    have hlen : (u8c (fil S 32 i)).length = 32 := by rw [u8c_length, fil_length _ _ _ (by omega)]
    by_cases h0 : 0 < i
    · have g1 : (decide ((0 : Int) < (i : Int)) == true) = true := by rw [decide_eq_true (by omega)]; rfl
      by_cases h8 : i % 8 = 0
      · repeat' (first
    | ((with_reducible refine aw_seqk ?_); intro K hK hX)
    | ((with_reducible refine isC_reg ?_); refine aw_prune [0, 1, 2, 4, 5, 6, 7] rfl rfl ?_; with_reducible refine aw_region ?_)
    | ((with_reducible refine isC_draw ?_); refine aw_prune [0, 1, 2, 4, 5, 6, 7] rfl rfl ?_; refine aw_drwF [71] ?_)
    | ((first | with_reducible refine isA_call ?_ | with_reducible refine isD_call ?_); (first | refine zA ?_ | refine zN ?_ | refine zD ?_); (first | refine c0 (permute_ok (stAt S i)) ?_))
    | ((first | with_reducible refine isA_call ?_ | with_reducible refine isA_callv ?_); refine awl_inl tabOk [0, 1, 2, 3, 4, 5, 6, 7, 8, 9, 10, 11, 12, 13, 14, 15, 16, 17, 18, 19, 20, 21, 22, 23, 24, 25, 26, 27, 28, 29] g_none rfl rfl (by unfold Body; kernel_rfl) Try.func71 rfl rfl rfl (szf := 30) (by rw [Try.ntmps71]; rfl) rfl ?_)
    | ((first | ((with_reducible refine isA_any ?_); refine xA ?_) | ((with_reducible refine isDk_any ?_); refine xD ?_)); (first | ((with_reducible refine e_bin ?_); (first | refine ex_i (s_shrW rfl isW_rfl rfl (show 8 * ((i : Int) % 8) = ((8 * (i % 8) : Nat) : Int) by omega)) ?_))))
    | ((with_reducible refine isA_store ?_); (refine awl_store1r tabOk g_none rfl rfl rfl rfl rfl rfl (by first | omega | exact Nat.le_of_ble_eq_true rfl | omega | (simp; omega)) ?_))
    | refine stA ?_
    | refine stD ?_
    | (refine hK _ _ _ _ ?_; clear hK hX K)
    | (refine hX _ _ _ _ _ (by simp) ?_; clear hK hX K)
    | (first | refine inK_some (by first | exact .inl rfl | exact .inr rfl) (by exact trivial) rfl rfl ResL.none ?_ | refine inK_none (by first | exact .inl rfl | exact .inr rfl) (by exact trivial) rfl rfl ResL.none ?_))
        rw [stAt_next S i ⟨h0, h8⟩]
        exact ⟨i + 1, by omega, by omega, (by refine weak_mk rfl ?_ ?_ rfl <;> (repeat' (first | exact weakE_nil | exact weakH_nil | refine weakE_cons rfl (by first | rfl | (exact congrArg (AObj.row 35) (fil_set S 32 i hlt)) | exact own_eq rfl rfl (by omega) | exact int_eq (by omega) | (simp <;> fail) | (congr 4; omega) | (congr 3; omega) | (congr 2; omega)) rfl ?_ | refine weakH_cons rfl (by first | rfl | (exact congrArg (AObj.row 35) (fil_set S 32 i hlt)) | exact own_eq rfl rfl (by omega) | exact int_eq (by omega) | (simp <;> fail) | (congr 4; omega) | (congr 3; omega) | (congr 2; omega)) rfl ?_)))⟩
      · repeat' (first
    | ((with_reducible refine aw_seqk ?_); intro K hK hX)
    | ((with_reducible refine isC_reg ?_); refine aw_prune [0, 1, 2, 4, 5, 6, 7] rfl rfl ?_; with_reducible refine aw_region ?_)
    | ((with_reducible refine isC_draw ?_); refine aw_prune [0, 1, 2, 4, 5, 6, 7] rfl rfl ?_; refine aw_drwF [71] ?_)
    | ((first | with_reducible refine isA_call ?_ | with_reducible refine isA_callv ?_); refine awl_inl tabOk [0, 1, 2, 3, 4, 5, 6, 7, 8, 9, 10, 11, 12, 13, 14, 15, 16, 17, 18, 19, 20, 21, 22, 23, 24, 25, 26, 27, 28, 29] g_none rfl rfl (by unfold Body; kernel_rfl) Try.func71 rfl rfl rfl (szf := 30) (by rw [Try.ntmps71]; rfl) rfl ?_)
    | ((first | ((with_reducible refine isA_any ?_); refine xA ?_) | ((with_reducible refine isDk_any ?_); refine xD ?_)); (first | ((with_reducible refine e_bin ?_); (first | refine ex_i (s_shrW rfl isW_rfl rfl (show 8 * ((i : Int) % 8) = ((8 * (i % 8) : Nat) : Int) by omega)) ?_))))
    | ((with_reducible refine isA_store ?_); (refine awl_store1r tabOk g_none rfl rfl rfl rfl rfl rfl (by first | omega | exact Nat.le_of_ble_eq_true rfl | omega | (simp; omega)) ?_))
    | refine stA ?_
    | refine stD ?_
    | (refine hK _ _ _ _ ?_; clear hK hX K)
    | (refine hX _ _ _ _ _ (by simp) ?_; clear hK hX K)
    | (first | refine inK_some (by first | exact .inl rfl | exact .inr rfl) (by exact trivial) rfl rfl ResL.none ?_ | refine inK_none (by first | exact .inl rfl | exact .inr rfl) (by exact trivial) rfl rfl ResL.none ?_))
        rw [stAt_same S i (fun h => h8 h.2)]
        exact ⟨i + 1, by omega, by omega, (by refine weak_mk rfl ?_ ?_ rfl <;> (repeat' (first | exact weakE_nil | exact weakH_nil | refine weakE_cons rfl (by first | rfl | (exact congrArg (AObj.row 35) (fil_set S 32 i hlt)) | exact own_eq rfl rfl (by omega) | exact int_eq (by omega) | (simp <;> fail) | (congr 4; omega) | (congr 3; omega) | (congr 2; omega)) rfl ?_ | refine weakH_cons rfl (by first | rfl | (exact congrArg (AObj.row 35) (fil_set S 32 i hlt)) | exact own_eq rfl rfl (by omega) | exact int_eq (by omega) | (simp <;> fail) | (congr 4; omega) | (congr 3; omega) | (congr 2; omega)) rfl ?_)))⟩
    · have g1 : (decide ((0 : Int) < (i : Int)) == true) = false := by rw [decide_eq_false (by omega)]; rfl
      repeat' (first
    | ((with_reducible refine aw_seqk ?_); intro K hK hX)
    | ((with_reducible refine isC_reg ?_); refine aw_prune [0, 1, 2, 4, 5, 6, 7] rfl rfl ?_; with_reducible refine aw_region ?_)
    | ((with_reducible refine isC_draw ?_); refine aw_prune [0, 1, 2, 4, 5, 6, 7] rfl rfl ?_; refine aw_drwF [71] ?_)
    | ((first | with_reducible refine isA_call ?_ | with_reducible refine isA_callv ?_); refine awl_inl tabOk [0, 1, 2, 3, 4, 5, 6, 7, 8, 9, 10, 11, 12, 13, 14, 15, 16, 17, 18, 19, 20, 21, 22, 23, 24, 25, 26, 27, 28, 29] g_none rfl rfl (by unfold Body; kernel_rfl) Try.func71 rfl rfl rfl (szf := 30) (by rw [Try.ntmps71]; rfl) rfl ?_)
    | ((first | ((with_reducible refine isA_any ?_); refine xA ?_) | ((with_reducible refine isDk_any ?_); refine xD ?_)); (first | ((with_reducible refine e_bin ?_); (first | refine ex_i (s_shrW rfl isW_rfl rfl (show 8 * ((i : Int) % 8) = ((8 * (i % 8) : Nat) : Int) by omega)) ?_))))
    | ((with_reducible refine isA_store ?_); (refine awl_store1r tabOk g_none rfl rfl rfl rfl rfl rfl (by first | omega | exact Nat.le_of_ble_eq_true rfl | omega | (simp; omega)) ?_))
    | refine stA ?_
    | refine stD ?_
    | (refine hK _ _ _ _ ?_; clear hK hX K)
    | (refine hX _ _ _ _ _ (by simp) ?_; clear hK hX K)
    | (first | refine inK_some (by first | exact .inl rfl | exact .inr rfl) (by exact trivial) rfl rfl ResL.none ?_ | refine inK_none (by first | exact .inl rfl | exact .inr rfl) (by exact trivial) rfl rfl ResL.none ?_))
      rw [stAt_same S i (fun h => h0 h.1)]
      exact ⟨i + 1, by omega, by omega, (by refine weak_mk rfl ?_ ?_ rfl <;> (repeat' (first | exact weakE_nil | exact weakH_nil | refine weakE_cons rfl (by first | rfl | (exact congrArg (AObj.row 35) (fil_set S 32 i hlt)) | exact own_eq rfl rfl (by omega) | exact int_eq (by omega) | (simp <;> fail) | (congr 4; omega) | (congr 3; omega) | (congr 2; omega)) rfl ?_ | refine weakH_cons rfl (by first | rfl | (exact congrArg (AObj.row 35) (fil_set S 32 i hlt)) | exact own_eq rfl rfl (by omega) | exact int_eq (by omega) | (simp <;> fail) | (congr 4; omega) | (congr 3; omega) | (congr 2; omega)) rfl ?_)))⟩
  · obtain rfl : i = 32 := by omega
    repeat' (first
    | ((with_reducible refine aw_seqk ?_); intro K hK hX)
    | ((with_reducible refine isC_reg ?_); refine aw_prune [0, 1, 2, 4, 5, 6, 7] rfl rfl ?_; with_reducible refine aw_region ?_)
    | ((with_reducible refine isC_draw ?_); refine aw_prune [0, 1, 2, 4, 5, 6, 7] rfl rfl ?_; refine aw_drwF [71] ?_)
    | ((first | with_reducible refine isA_call ?_ | with_reducible refine isA_callv ?_); refine awl_inl tabOk [0, 1, 2, 3, 4, 5, 6, 7, 8, 9, 10, 11, 12, 13, 14, 15, 16, 17, 18, 19, 20, 21, 22, 23, 24, 25, 26, 27, 28, 29] g_none rfl rfl (by unfold Body; kernel_rfl) Try.func71 rfl rfl rfl (szf := 30) (by rw [Try.ntmps71]; rfl) rfl ?_)
    | refine stA ?_
    | refine stD ?_
    | (refine hK _ _ _ _ ?_; clear hK hX K)
    | (refine hX _ _ _ _ _ (by simp) ?_; clear hK hX K)
    | (first | refine inK_some (by first | exact .inl rfl | exact .inr rfl) (by exact trivial) rfl rfl ResL.none ?_ | refine inK_none (by first | exact .inl rfl | exact .inr rfl) (by exact trivial) rfl rfl ResL.none ?_))
    rw [fil_full]
    subst hS
    have hlen : (u8c (outB (absorb dom l) 32)).length = 32 := by rw [u8c_length, outB_length]
    refine retK_mk (by first | exact .inl rfl | exact .inr rfl) (by exact ⟨sum_idle, sum_idle_b, trivial⟩) rfl (ResL.one (by first | exact ResA.one rfl rfl rfl rfl rfl | exact ResA.agg rfl rfl rfl rfl rfl (by first | exact IsAgg.closed rfl rfl | exact IsAgg.mixed _) | exact ResA.aggr rfl rfl rfl rfl (by first | rfl | with_reducible assumption | (simp <;> fail) | omega | (simp; omega) | assumption))) (by first | exact out_c (by first | exact frz_c cv_rfl | exact frz_c cv_nil | exact frz_ownW rfl rfl (by first | rfl | with_reducible assumption | (simp <;> fail) | omega | (simp; omega) | assumption) | exact frz_eq (frz_c cv_rfl) (by first | rfl | (simp <;> fail) | fail)) | exact out_own rfl rfl)
end Go.Proofs.Ytgofigkhdjjlmaa
/-
  Absorbing, squeezing and Sum (walk), as the reference has it.
-/
set_option linter.unusedVariables false
set_option linter.unusedSimpArgs false
namespace Go.Proofs.Ytgofigkhdjjlmaa
open Go Go.RowKit Go.Av
set_option maxRecDepth 100000
attribute [local irreducible] Still Adds AWL AW Drw AC AWR Weak Frz Src RetK Out InK
attribute [local simp] u8c_take u8c_drop
theorem pad_step (l : List UInt8) (k : Nat) : u8c (l ++ 1 :: List.replicate k 0) ++ [.v (.int .u8 0)] = u8c (l ++ 1 :: List.replicate (k + 1) 0) := by
  have : [CV.v (.int .u8 0)] = u8c [0] := rfl
  rw [this, ← u8c_app, List.append_assoc, List.cons_append, List.replicate_succ']
theorem word_at (p : List UInt8) (m j : Nat) : List.take (m * 1) (List.drop (0 + 8 * j * 1) (u8c p)) = u8c (List.take m (List.drop (8 * j) p)) := by
  rw [Nat.zero_add, Nat.mul_one, Nat.mul_one, u8c_drop, u8c_take]
set_option maxHeartbeats 4000000 in
theorem rabsorb_ok (dom : BitVec 64) (l : List UInt8) (n : Nat) (hl : l.length = n) (hm : n ≤ 1000000000) : AC Try.prog 74 [wv dom, .sl 1 n (u8c l)] (.c (.agg (absorb dom l).cs)) [] 0 := by
  have hul : (u8c l).length = n := by rw [u8c_length, hl]
  refine ac_enter tabOk (sz := 42) Try.func74 rfl (by rw [Try.ntmps74]; rfl) ?_
  repeat' (first
    | ((with_reducible refine aw_seqk ?_); intro K hK hX)
    | ((with_reducible refine isC_reg ?_); refine aw_prune [0, 1, 4, 5, 6, 7] rfl rfl ?_; with_reducible refine aw_region ?_)
    | ((with_reducible refine isC_draw ?_); refine aw_prune [0, 1, 4, 5, 6, 7] rfl rfl ?_; refine aw_drwF [] ?_)
    | refine stA ?_
    | refine stD ?_
    | (refine hK _ _ _ _ ?_; clear hK hX K)
    | (refine hX _ _ _ _ _ (by simp) ?_; clear hK hX K))
  refine aw_loopk 2 (fun k : Nat => [(0, .c (wv dom)), (4, .ref 0 0), (5, .own 1 0 (n + 1 + k) 1 true)]) (fun k => [(0, .row 30 z5), (1, .row 5 (u8c (l ++ 1 :: List.replicate k 0)))]) [] (fun k => k ≤ 7 - n % 8) (fun k => 7 - k) 0 (by omega) (by refine weak_ren [0, 4] rfl rfl ?_ ?_ rfl rfl <;> (repeat' (first | exact weakER_nil | exact weakHR_nil | refine weakER_cons rfl (by first | rfl | (exact congrArg (AObj.row 5) (by simp [u8c])) | exact own_eq rfl rfl (by omega) | exact int_eq (by omega) | (simp <;> fail) | (congr 4; omega) | (congr 3; omega) | (congr 2; omega)) rfl ?_ | refine weakHR_cons rfl (by first | rfl | (exact congrArg (AObj.row 5) (by simp [u8c])) | exact own_eq rfl rfl (by omega) | exact int_eq (by omega) | (simp <;> fail) | (congr 4; omega) | (congr 3; omega) | (congr 2; omega)) rfl ?_))) ?_
  intro k hk K hK hX
  have hlen : (u8c (l ++ 1 :: List.replicate k 0)).length = n + 1 + k := by rw [u8c_length, List.length_append, List.length_cons, List.length_replicate]; omega
  by_cases hlt : (n + 1 + k) % 8 ≠ 0
  · repeat' (first
    | ((with_reducible refine aw_seqk ?_); intro K hK hX)
    | ((with_reducible refine isC_reg ?_); refine aw_prune [0, 1, 4, 5, 6, 7] rfl rfl ?_; with_reducible refine aw_region ?_)
    | ((with_reducible refine isC_draw ?_); refine aw_prune [0, 1, 4, 5, 6, 7] rfl rfl ?_; refine aw_drwF [] ?_)
    | refine stA ?_
    | refine stD ?_
    | (refine hK _ _ _ _ ?_; clear hK hX K)
    | (refine hX _ _ _ _ _ (by simp) ?_; clear hK hX K))
    exact ⟨k + 1, by omega, by omega, (by refine weak_ren [0, 3] rfl rfl ?_ ?_ rfl rfl <;> (repeat' (first | exact weakER_nil | exact weakHR_nil | refine weakER_cons rfl (by first | rfl | (exact congrArg (AObj.row 5) (pad_step l k)) | exact own_eq rfl rfl (by omega) | exact int_eq (by omega) | (simp <;> fail) | (congr 4; omega) | (congr 3; omega) | (congr 2; omega)) rfl ?_ | refine weakHR_cons rfl (by first | rfl | (exact congrArg (AObj.row 5) (pad_step l k)) | exact own_eq rfl rfl (by omega) | exact int_eq (by omega) | (simp <;> fail) | (congr 4; omega) | (congr 3; omega) | (congr 2; omega)) rfl ?_)))⟩
  · obtain rfl : k = 7 - n % 8 := by omega
    repeat' (first
    | ((with_reducible refine aw_seqk ?_); intro K hK hX)
    | ((with_reducible refine isC_reg ?_); refine aw_prune [0, 1, 4, 5, 6, 7] rfl rfl ?_; with_reducible refine aw_region ?_)
    | ((with_reducible refine isC_draw ?_); refine aw_prune [0, 1, 4, 5, 6, 7] rfl rfl ?_; refine aw_drwF [] ?_)
    | ((first | with_reducible refine isA_call ?_ | with_reducible refine isD_call ?_); (first | refine zA ?_ | refine zN ?_ | refine zD ?_); (first | refine c0 (rpermute_ok ⟨dom, 1#64, 2#64, 3#64, 4#64⟩) ?_))
    | refine stA ?_
    | refine stD ?_
    | (refine hK _ _ _ _ ?_; clear hK hX K)
    | (refine hX _ _ _ _ _ (by simp) ?_; clear hK hX K))
    have hL : n + 1 + (7 - n % 8) = 8 * (n / 8 + 1) := by omega
    have hp : l ++ 1 :: List.replicate (7 - n % 8) 0 = padR l := by rw [padR, hl]
    rw [hL, hp] at hlen
    rw [hL, hp]
    refine aw_loopk 3 (fun j : Nat => [(4, .ref 0 0), (5, .own 1 0 (8 * (n / 8 + 1)) 1 true), (6, .ref 2 0), (7, .c (iv ((8 * j : Nat) : Int)))]) (fun j => [(0, .row 30 z5), (1, .row 5 (u8c (padR l))), (2, .row 30 (absK (start dom) (padR l) j).cs)]) [] (fun j => j ≤ n / 8 + 1) (fun j => n / 8 + 1 - j) 0 (by omega) weakA ?_
    intro j hj K hK hX
    by_cases hlt : j < n / 8 + 1
    · have hpl : (padR l).length = 8 * (n / 8 + 1) := by rw [padR_length, hl]
      have hw : (((padR l).drop (8 * j)).take 8).length = 8 := by rw [List.length_take, List.length_drop, padR_length, hl]; omega
      repeat' (first
    | ((with_reducible refine aw_seqk ?_); intro K hK hX)
    | ((with_reducible refine isC_reg ?_); refine aw_prune [0, 1, 4, 5, 6, 7] rfl rfl ?_; with_reducible refine aw_region ?_)
    | ((with_reducible refine isC_draw ?_); refine aw_prune [0, 1, 4, 5, 6, 7] rfl rfl ?_; refine aw_drwF [] ?_)
    | ((first | with_reducible refine isA_call ?_ | with_reducible refine isD_call ?_); (first | refine wA ?_ | refine wN ?_ | refine wD ?_); (first | refine cF (rword_ok (((padR l).drop (8 * j)).take 8) hw) ?_))
    | ((first | with_reducible refine isA_call ?_ | with_reducible refine isD_call ?_); (first | refine zA ?_ | refine zN ?_ | refine zD ?_); (first | refine c0 (rpermute_ok (xorA (absK (start dom) (padR l) j) (wdN (((padR l).drop (8 * j)).take 8) 8))) ?_))
    | refine stA ?_
    | refine stD ?_
    | (refine hK _ _ _ _ ?_; clear hK hX K)
    | (refine hX _ _ _ _ _ (by simp) ?_; clear hK hX K))
      exact ⟨j + 1, by omega, by omega, weakA⟩
    · obtain rfl : j = n / 8 + 1 := by omega
      repeat' (first
    | ((with_reducible refine aw_seqk ?_); intro K hK hX)
    | ((with_reducible refine isC_reg ?_); refine aw_prune [0, 1, 4, 5, 6, 7] rfl rfl ?_; with_reducible refine aw_region ?_)
    | ((with_reducible refine isC_draw ?_); refine aw_prune [0, 1, 4, 5, 6, 7] rfl rfl ?_; refine aw_drwF [] ?_)
    | refine stA ?_
    | refine stD ?_
    | (refine hK _ _ _ _ ?_; clear hK hX K)
    | (refine hX _ _ _ _ _ (by simp) ?_; clear hK hX K))
      have := absorb_padR dom l
      rw [hl] at this
      rw [← this]
      refine retK_mk (by first | exact .inl rfl | exact .inr rfl) (by exact trivial) rfl (ResL.one (by first | exact ResA.one rfl rfl rfl rfl rfl | exact ResA.agg rfl rfl rfl rfl rfl (by first | exact IsAgg.closed rfl rfl | exact IsAgg.mixed _) | exact ResA.aggr rfl rfl rfl rfl (by first | rfl | with_reducible assumption | (simp <;> fail) | omega | (simp; omega) | assumption))) (by first | exact out_c (by first | exact frz_c cv_rfl | exact frz_c cv_nil | exact frz_ownW rfl rfl (by first | rfl | with_reducible assumption | (simp <;> fail) | omega | (simp; omega) | assumption) | exact frz_eq (frz_c cv_rfl) (by first | rfl | (simp <;> fail) | fail)) | exact out_own rfl rfl)
theorem byte_at (S : S5) (k i : Nat) (h : i < 8) : UInt8.ofBitVec (((permN k S).a >>> (8 * i)).setWidth 8) = byteAt S (8 * k + i) := by
  unfold byteAt
  rw [show (8 * k + i) / 8 = k by omega, show (8 * k + i) % 8 = i by omega]
theorem out_step (S : S5) (k i : Nat) (h : i < 8) : u8c (outB S (8 * k + i)) ++ [.v (.int .u8 ((UInt8.ofBitVec (((permN k S).a >>> (8 * i)).setWidth 8)).toNat : Int))] = u8c (outB S (8 * k + (i + 1))) := by
  rw [byte_at S k i h, ← Nat.add_assoc, outB_succ, u8c_app]
  rfl
set_option maxHeartbeats 4000000 in
theorem rsqueeze_ok (S : S5) (n : Nat) (hm : n ≤ 1000000000) : AC Try.prog 73 [.agg S.cs, iv n] (.c (.sl 1 n (u8c (outB S n)))) [] 0 := by
  refine ac_enter tabOk (sz := 30) Try.func73 rfl (by rw [Try.ntmps73]; rfl) ?_
  repeat' (first
    | ((with_reducible refine aw_seqk ?_); intro K hK hX)
    | ((with_reducible refine isC_reg ?_); refine aw_prune [0, 1, 2, 4, 5, 6] rfl rfl ?_; with_reducible refine aw_region ?_)
    | refine stA ?_
    | (refine hK _ _ _ _ ?_; clear hK hX K)
    | (refine hX _ _ _ _ _ (by simp) ?_; clear hK hX K))
  refine aw_loopk 2 (fun k : Nat => [(1, .c (iv n)), (2, .ref 0 0), (5, .own 1 0 (8 * k) 1 true)]) (fun k => [(0, .row 30 (permN k S).cs), (1, .row 5 (u8c (outB S (8 * k))))]) [] (fun k => 8 * k < n + 8) (fun k => n + 8 - 8 * k) 0 (by omega) weakA ?_
  intro k hk K hK hX
  by_cases hlt : 8 * k < n
  · repeat' (first
    | ((with_reducible refine aw_seqk ?_); intro K hK hX)
    | ((with_reducible refine isC_reg ?_); refine aw_prune [0, 1, 2, 4, 5, 6] rfl rfl ?_; with_reducible refine aw_region ?_)
    | refine stA ?_
    | (refine hK _ _ _ _ ?_; clear hK hX K)
    | (refine hX _ _ _ _ _ (by simp) ?_; clear hK hX K))
    refine aw_loopk 2 (fun i : Nat => [(1, .c (iv n)), (2, .ref 0 0), (5, .own 1 0 (8 * k + i) 1 true), (6, .c (iv i))]) (fun i => [(0, .row 30 (permN k S).cs), (1, .row 5 (u8c (outB S (8 * k + i))))]) [] (fun i => i ≤ 8) (fun i => 8 - i) 0 (by omega) weakA ?_
    intro i hi K hK hX
    have hlen : (u8c (outB S (8 * k + i))).length = 8 * k + i := by rw [u8c_length, outB_length]
    by_cases hlt : i < 8
    · repeat' (first
    | ((with_reducible refine aw_seqk ?_); intro K hK hX)
    | ((with_reducible refine isC_reg ?_); refine aw_prune [0, 1, 2, 4, 5, 6] rfl rfl ?_; with_reducible refine aw_region ?_)
    | (((with_reducible refine isA_any ?_); refine xA ?_); (first | ((with_reducible refine e_bin ?_); (first | refine ex_i (s_shrW rfl isW_rfl rfl (show 8 * (i : Int) = ((8 * i : Nat) : Int) by omega)) ?_))))
    | refine stA ?_
    | (refine hK _ _ _ _ ?_; clear hK hX K)
    | (refine hX _ _ _ _ _ (by simp) ?_; clear hK hX K))
      exact ⟨i + 1, by omega, by omega, (by refine weak_ren [0, 3] rfl rfl ?_ ?_ rfl rfl <;> (repeat' (first | exact weakER_nil | exact weakHR_nil | refine weakER_cons rfl (by first | rfl | (exact congrArg (AObj.row 5) (out_step S k i hlt)) | exact own_eq rfl rfl (by omega) | exact int_eq (by omega) | (simp <;> fail) | (congr 4; omega) | (congr 3; omega) | (congr 2; omega)) rfl ?_ | refine weakHR_cons rfl (by first | rfl | (exact congrArg (AObj.row 5) (out_step S k i hlt)) | exact own_eq rfl rfl (by omega) | exact int_eq (by omega) | (simp <;> fail) | (congr 4; omega) | (congr 3; omega) | (congr 2; omega)) rfl ?_)))⟩
    · obtain rfl : i = 8 := by omega
      repeat' (first
    | ((with_reducible refine aw_seqk ?_); intro K hK hX)
    | ((with_reducible refine isC_reg ?_); refine aw_prune [0, 1, 2, 4, 5, 6] rfl rfl ?_; with_reducible refine aw_region ?_)
    | ((with_reducible refine isA_call ?_); (first | refine zA ?_ | refine zN ?_); (first | refine c0 (rpermute_ok (permN k S)) ?_))
    | refine stA ?_
    | (refine hK _ _ _ _ ?_; clear hK hX K)
    | (refine hX _ _ _ _ _ (by simp) ?_; clear hK hX K))
      exact ⟨k + 1, by omega, by omega, (by refine weak_mk rfl ?_ ?_ rfl <;> (repeat' (first | exact weakE_nil | exact weakH_nil | refine weakE_cons rfl (by first | rfl | (rw [show 8 * k + 8 = 8 * (k + 1) by omega]) | exact own_eq rfl rfl (by omega) | exact int_eq (by omega) | (simp <;> fail) | (congr 4; omega) | (congr 3; omega) | (congr 2; omega)) rfl ?_ | refine weakH_cons rfl (by first | rfl | (rw [show 8 * k + 8 = 8 * (k + 1) by omega]) | exact own_eq rfl rfl (by omega) | exact int_eq (by omega) | (simp <;> fail) | (congr 4; omega) | (congr 3; omega) | (congr 2; omega)) rfl ?_)))⟩
  · have hlen : (outB S (8 * k)).length = 8 * k := outB_length _ _
    repeat' (first
    | ((with_reducible refine aw_seqk ?_); intro K hK hX)
    | ((with_reducible refine isC_reg ?_); refine aw_prune [0, 1, 2, 4, 5, 6] rfl rfl ?_; with_reducible refine aw_region ?_)
    | refine stA ?_
    | (refine hK _ _ _ _ ?_; clear hK hX K)
    | (refine hX _ _ _ _ _ (by simp) ?_; clear hK hX K))
    have hf : u8c (outB S n) = u8c (((outB S (8 * k)).drop 0).take n) := by rw [List.drop_zero, outB_take _ _ _ (by omega)]
    rw [hf]
    refine retK_mk (by first | exact .inl rfl | exact .inr rfl) (by exact trivial) rfl (ResL.one (ResA.tmp rfl)) (by exact out_c (frz_u8 rfl rfl (by omega) (by omega) (by omega)))
end Go.Proofs.Ytgofigkhdjjlmaa
/-
  Sum, Bytes, Pair, Keyed (walk), as the reference has them; putting slices together.
-/
set_option linter.unusedVariables false
set_option linter.unusedSimpArgs false
namespace Go.Proofs.Ytgofigkhdjjlmaa
open Go Go.RowKit Go.Av
set_option maxRecDepth 100000
attribute [local irreducible] Still Adds AWL AW Drw AC AWR Weak Frz Src RetK Out InK
attribute [local simp] u8c_take u8c_drop u8c_app
theorem out_at (S : S5) (n i : Nat) (h : i < n) : (u8c (outB S n))[i * 1]? = some (.v (.int .u8 ((byteAt S i).toNat : Int))) := by
  rw [Nat.mul_one]
  refine u8c_get ?_
  simp [outB, h]
set_option maxHeartbeats 4000000 in
theorem rsum_ok (dom : BitVec 64) (l : List UInt8) (n : Nat) (hl : l.length = n) (hm : n ≤ 1000000000) : AC Try.prog 34 [wv dom, .sl 1 n (u8c l)] (.c (.agg (u8c (sum dom l)))) [] 0 := by
  refine ac_enter tabOk (sz := 23) Try.func34 rfl (by rw [Try.ntmps34]; rfl) ?_
  repeat' (first
    | ((with_reducible refine aw_seqk ?_); intro K hK hX)
    | ((with_reducible refine isC_reg ?_); refine aw_prune [0, 1, 4, 5, 6, 7] rfl rfl ?_; with_reducible refine aw_region ?_)
    | ((with_reducible refine isA_call ?_); (first | refine zA ?_ | refine zN ?_); (first | refine c0 (rabsorb_ok dom l n hl hm) ?_ | refine c0 (rsqueeze_ok (absorb dom l) 32 (by decide)) ?_))
    | refine stA ?_
    | (refine hK _ _ _ _ ?_; clear hK hX K)
    | (refine hX _ _ _ _ _ (by simp) ?_; clear hK hX K))
  generalize hS : absorb dom l = S
  refine aw_loopk 2 (fun i : Nat => [(4, .ref 0 0), (5, .ref 1 0), (6, .c (.sl 1 32 (u8c (outB S 32)))), (7, .c (iv i))]) (fun i => [(0, .row 35 z32), (1, .row 35 (u8c (fil S 32 i)))]) [] (fun i => i ≤ 32) (fun i => 32 - i) 0 (by omega) weakA ?_
  intro i hi K hK hX
  have hlen : (u8c (fil S 32 i)).length = 32 := by rw [u8c_length, fil_length _ _ _ (by omega)]
  by_cases hlt : i < 32
  · repeat' (first
    | ((with_reducible refine aw_seqk ?_); intro K hK hX)
    | ((with_reducible refine isC_reg ?_); refine aw_prune [0, 1, 4, 5, 6, 7] rfl rfl ?_; with_reducible refine aw_region ?_)
    | (((with_reducible refine isA_any ?_); refine xA ?_); (first | ((with_reducible refine e_load ?_); (first | refine ex_i (s_load1 tabOk rfl rfl rfl rfl (by exact out_at _ _ _ hlt)) ?_ | refine ex_i (s_load1r tabOk rfl rfl rfl rfl (by exact out_at _ _ _ hlt)) ?_ | refine ex_i (s_load1i tabOk rfl rfl rfl (by exact out_at _ _ _ hlt)) ?_)) | ((with_reducible refine e_ix ?_); (first | refine ex_i (s_ixV1 tabOk rfl rfl (by first | with_reducible exact cast_self _ | with_reducible exact cast_lit _ | exact nt (by omega) | rfl) rfl rfl rfl rfl rfl (by first | exact Nat.le_of_ble_eq_true rfl | omega | (simp; omega)) (by exact out_at _ _ _ hlt)) ?_ | refine ex_i (s_ixStr tabOk rfl rfl (by first | with_reducible exact cast_self _ | with_reducible exact cast_lit _ | exact nt (by omega) | rfl) rfl rfl (by exact out_at _ _ _ hlt)) ?_))))
    | ((with_reducible refine isA_store ?_); (refine awl_store1r tabOk g_none rfl rfl rfl rfl rfl rfl (by first | omega | exact Nat.le_of_ble_eq_true rfl | omega | (simp; omega)) ?_))
    | refine stA ?_
    | (refine hK _ _ _ _ ?_; clear hK hX K)
    | (refine hX _ _ _ _ _ (by simp) ?_; clear hK hX K))
    exact ⟨i + 1, by omega, by omega, (by refine weak_mk rfl ?_ ?_ rfl <;> (repeat' (first | exact weakE_nil | exact weakH_nil | refine weakE_cons rfl (by first | rfl | (exact congrArg (AObj.row 35) (fil_set S 32 i hlt)) | exact own_eq rfl rfl (by omega) | exact int_eq (by omega) | (simp <;> fail) | (congr 4; omega) | (congr 3; omega) | (congr 2; omega)) rfl ?_ | refine weakH_cons rfl (by first | rfl | (exact congrArg (AObj.row 35) (fil_set S 32 i hlt)) | exact own_eq rfl rfl (by omega) | exact int_eq (by omega) | (simp <;> fail) | (congr 4; omega) | (congr 3; omega) | (congr 2; omega)) rfl ?_)))⟩
  · obtain rfl : i = 32 := by omega
    repeat' (first
    | ((with_reducible refine aw_seqk ?_); intro K hK hX)
    | ((with_reducible refine isC_reg ?_); refine aw_prune [0, 1, 4, 5, 6, 7] rfl rfl ?_; with_reducible refine aw_region ?_)
    | refine stA ?_
    | (refine hK _ _ _ _ ?_; clear hK hX K)
    | (refine hX _ _ _ _ _ (by simp) ?_; clear hK hX K))
    rw [fil_full]
    subst hS
    have hlen : (u8c (outB (absorb dom l) 32)).length = 32 := by rw [u8c_length, outB_length]
    refine retK_mk (by first | exact .inl rfl | exact .inr rfl) (by exact trivial) rfl (ResL.one (by first | exact ResA.one rfl rfl rfl rfl rfl | exact ResA.agg rfl rfl rfl rfl rfl (by first | exact IsAgg.closed rfl rfl | exact IsAgg.mixed _) | exact ResA.aggr rfl rfl rfl rfl (by first | rfl | with_reducible assumption | (simp <;> fail) | omega | (simp; omega) | assumption))) (by first | exact out_c (by first | exact frz_c cv_rfl | exact frz_c cv_nil | exact frz_ownW rfl rfl (by first | rfl | with_reducible assumption | (simp <;> fail) | omega | (simp; omega) | assumption) | exact frz_eq (frz_c cv_rfl) (by first | rfl | (simp <;> fail) | fail)) | exact out_own rfl rfl)
theorem take_step (l : List UInt8) (i : Nat) (h : i < l.length) : u8c (l.take i) ++ [.v (.int .u8 ((l.getD i 0).toNat : Int))] = u8c (l.take (i + 1)) := by
  rw [List.take_add_one, u8c_app, List.getElem?_eq_getElem h]
  simp [u8c, List.getD, List.getElem?_eq_getElem h]
set_option maxHeartbeats 4000000 in
theorem bytes_ok (l : List UInt8) (hl : l.length = 32) : AC Try.prog 41 [.agg (u8c l)] (.own 0 0 32 1 true) [(0, .row 5 (u8c l))] 1 := by
  refine ac_enter tabOk (sz := 17) Try.func41 rfl (by rw [Try.ntmps41]; rfl) ?_
  repeat' (first
    | ((with_reducible refine aw_seqk ?_); intro K hK hX)
    | ((with_reducible refine isC_reg ?_); refine aw_prune [0, 1, 2, 3, 4] rfl rfl ?_; with_reducible refine aw_region ?_)
    | refine stA ?_
    | (refine hK _ _ _ _ ?_; clear hK hX K)
    | (refine hX _ _ _ _ _ (by simp) ?_; clear hK hX K))
  refine aw_loopk 2 (fun i : Nat => [(1, .ref 0 0), (3, .own 1 0 i 1 true), (4, .c (iv i))]) (fun i => [(0, .row 35 (u8c l)), (1, .row 5 (u8c (l.take i)))]) [] (fun i => i ≤ 32) (fun i => 32 - i) 0 (by omega) weakA ?_
  intro i hi K hK hX
  have hlen : (u8c (l.take i)).length = i := by rw [u8c_length, List.length_take]; omega
  by_cases hlt : i < 32
  · repeat' (first
    | ((with_reducible refine aw_seqk ?_); intro K hK hX)
    | ((with_reducible refine isC_reg ?_); refine aw_prune [0, 1, 2, 3, 4] rfl rfl ?_; with_reducible refine aw_region ?_)
    | (((with_reducible refine isA_any ?_); refine xA ?_); (first | ((with_reducible refine e_load ?_); (first | refine ex_i (s_load1 tabOk rfl rfl rfl rfl (by exact u8_at0 l i (by omega))) ?_ | refine ex_i (s_load1r tabOk rfl rfl rfl rfl (by exact u8_at0 l i (by omega))) ?_ | refine ex_i (s_load1i tabOk rfl rfl rfl (by exact u8_at0 l i (by omega))) ?_)) | ((with_reducible refine e_ix ?_); (first | refine ex_i (s_ixV1 tabOk rfl rfl (by first | with_reducible exact cast_self _ | with_reducible exact cast_lit _ | exact nt (by omega) | rfl) rfl rfl rfl rfl rfl (by first | exact Nat.le_of_ble_eq_true rfl | omega | (simp; omega)) (by exact u8_at0 l i (by omega))) ?_ | refine ex_i (s_ixStr tabOk rfl rfl (by first | with_reducible exact cast_self _ | with_reducible exact cast_lit _ | exact nt (by omega) | rfl) rfl rfl (by exact u8_at0 l i (by omega))) ?_))))
    | refine stA ?_
    | (refine hK _ _ _ _ ?_; clear hK hX K)
    | (refine hX _ _ _ _ _ (by simp) ?_; clear hK hX K))
    exact ⟨i + 1, by omega, by omega, (by refine weak_ren [0, 3] rfl rfl ?_ ?_ rfl rfl <;> (repeat' (first | exact weakER_nil | exact weakHR_nil | refine weakER_cons rfl (by first | rfl | (exact congrArg (AObj.row 5) (take_step l i (by omega))) | exact own_eq rfl rfl (by omega) | exact int_eq (by omega) | (simp <;> fail) | (congr 4; omega) | (congr 3; omega) | (congr 2; omega)) rfl ?_ | refine weakHR_cons rfl (by first | rfl | (exact congrArg (AObj.row 5) (take_step l i (by omega))) | exact own_eq rfl rfl (by omega) | exact int_eq (by omega) | (simp <;> fail) | (congr 4; omega) | (congr 3; omega) | (congr 2; omega)) rfl ?_)))⟩
  · obtain rfl : i = 32 := by omega
    repeat' (first
    | ((with_reducible refine aw_seqk ?_); intro K hK hX)
    | ((with_reducible refine isC_reg ?_); refine aw_prune [0, 1, 2, 3, 4] rfl rfl ?_; with_reducible refine aw_region ?_)
    | refine stA ?_
    | (refine hK _ _ _ _ ?_; clear hK hX K)
    | (refine hX _ _ _ _ _ (by simp) ?_; clear hK hX K))
    rw [List.take_of_length_le (by omega)]
    refine retK_mk (by first | exact .inl rfl | exact .inr rfl) (by exact trivial) rfl (ResL.one (ResA.tmp rfl)) (by first | exact out_c (by first | exact frz_c cv_rfl | exact frz_c cv_nil | exact frz_ownW rfl rfl (by first | rfl | with_reducible assumption | (simp <;> fail) | omega | (simp; omega) | assumption) | exact frz_eq (frz_c cv_rfl) (by first | rfl | (simp <;> fail) | fail)) | exact out_own rfl rfl)
set_option maxHeartbeats 4000000 in
theorem rkeyed_ok (dom : BitVec 64) (k l : List UInt8) (n : Nat) (hk : k.length = 32) (hl : l.length = n) (hm : n ≤ 100000000) : AC Try.prog 45 [wv dom, .agg (u8c k), .sl 1 n (u8c l)] (.c (.agg (u8c (sum dom (k ++ l))))) [] 0 := by
  have hua : (u8c k).length = 32 := by rw [u8c_length, hk]
  have hub : (u8c l).length = n := by rw [u8c_length, hl]
  have hus : (u8c (sum dom (k ++ l))).length = 32 := by rw [u8c_length, sum_length]
  refine ac_enter tabOk (sz := 13) Try.func45 rfl (by rw [Try.ntmps45]; rfl) ?_
  repeat' (first
    | ((with_reducible refine aw_seqk ?_); intro K hK hX)
    | ((with_reducible refine isC_reg ?_); refine aw_prune [0, 1, 2, 4, 6] rfl rfl ?_; with_reducible refine aw_region ?_)
    | ((with_reducible refine isA_call ?_); (first | refine wA ?_ | refine wN ?_); (first | refine cF (rsum_ok dom (k ++ l) (32 + n) (by simp; omega) (by omega)) ?_))
    | ((with_reducible refine isA_call ?_); (first | refine zA ?_ | refine zN ?_); (first | refine c1 (bytes_ok k hk) ?_))
    | refine stA ?_
    | (refine hK _ _ _ _ ?_; clear hK hX K)
    | (refine hX _ _ _ _ _ (by simp) ?_; clear hK hX K))
  refine retK_mk (by first | exact .inl rfl | exact .inr rfl) (by exact trivial) rfl (ResL.one (by first | exact ResA.one rfl rfl rfl rfl rfl | exact ResA.agg rfl rfl rfl rfl rfl (by first | exact IsAgg.closed rfl rfl | exact IsAgg.mixed _) | exact ResA.aggr rfl rfl rfl rfl (by first | rfl | with_reducible assumption | (simp <;> fail) | omega | (simp; omega) | assumption))) (by first | exact out_c (by first | exact frz_c cv_rfl | exact frz_c cv_nil | exact frz_ownW rfl rfl (by first | rfl | with_reducible assumption | (simp <;> fail) | omega | (simp; omega) | assumption) | exact frz_eq (frz_c cv_rfl) (by first | rfl | (simp <;> fail) | fail)) | exact out_own rfl rfl)
theorem maxE : True := trivial
set_option maxHeartbeats 4000000 in
theorem rexpand_ok (dom : BitVec 64) (k : List UInt8) (n : Nat) (hk : k.length = 32) (hm : n ≤ 4096) : AC Try.prog 40 [wv dom, .agg (u8c k), iv n] (.tup [.c (.sl 1 n (u8c (outB (absorb dom k) n))), .c (iv 0)]) [] 0 := by
  have hua : (u8c k).length = 32 := by rw [u8c_length, hk]
  have g1 : (decide ((n : Int) < 0) == false) = true := by rw [decide_eq_false (by omega)]; rfl
  refine ac_enter tabOk (sz := 20) Try.func40 rfl (by rw [Try.ntmps40]; rfl) ?_
  repeat' (first
    | ((with_reducible refine aw_seqk ?_); intro K hK hX)
    | ((with_reducible refine isC_reg ?_); refine aw_prune [0, 1, 2, 4, 6, 7] rfl rfl ?_; with_reducible refine aw_region ?_)
    | ((with_reducible refine isA_call ?_); (first | refine wA ?_ | refine wN ?_); (first | refine cF (rabsorb_ok dom k 32 hk (by decide)) ?_))
    | ((with_reducible refine isA_call ?_); (first | refine zA ?_ | refine zN ?_); (first | refine c1 (bytes_ok k hk) ?_ | refine c0 (rsqueeze_ok (absorb dom k) n (by omega)) ?_))
    | refine stA ?_
    | (refine hK _ _ _ _ ?_; clear hK hX K)
    | (refine hX _ _ _ _ _ (by simp) ?_; clear hK hX K))
  refine retK_mk (by first | exact .inl rfl | exact .inr rfl) (by exact trivial) rfl (ResL.two (ResA.tmp rfl) (ResA.tmp rfl)) (out_t (frzl_cons (by first | exact frz_c cv_rfl | exact frz_c cv_nil | exact frz_ownW rfl rfl (by first | rfl | with_reducible assumption | (simp <;> fail) | omega | (simp; omega) | assumption) | exact frz_eq (frz_c cv_rfl) (by first | rfl | (simp <;> fail) | fail)) (frzl_cons (by first | exact frz_c cv_rfl | exact frz_c cv_nil | exact frz_ownW rfl rfl (by first | rfl | with_reducible assumption | (simp <;> fail) | omega | (simp; omega) | assumption) | exact frz_eq (frz_c cv_rfl) (by first | rfl | (simp <;> fail) | fail)) frzl_nil)))
set_option maxHeartbeats 4000000 in
theorem rexpand_bad (dom : BitVec 64) (k : List UInt8) (n : Int) (hk : k.length = 32) (hm : n < 0 ∨ 4096 < n) : AC Try.prog 40 [wv dom, .agg (u8c k), iv n] (.tup [.c (.v (.slice none 0 0)), .c (iv 1)]) [] 0 := by
  have hua : (u8c k).length = 32 := by rw [u8c_length, hk]
  by_cases h0 : n < 0
  · have g1 : (decide (n < 0) == false) = false := by rw [decide_eq_true h0]; rfl
    refine ac_enter tabOk (sz := 20) Try.func40 rfl (by rw [Try.ntmps40]; rfl) ?_
    repeat' (first
    | ((with_reducible refine aw_seqk ?_); intro K hK hX)
    | ((with_reducible refine isC_reg ?_); refine aw_prune [0, 1, 2, 4, 6, 7] rfl rfl ?_; with_reducible refine aw_region ?_)
    | refine stA ?_
    | (refine hK _ _ _ _ ?_; clear hK hX K)
    | (refine hX _ _ _ _ _ (by simp) ?_; clear hK hX K))
    refine retK_mk (by first | exact .inl rfl | exact .inr rfl) (by exact trivial) rfl (ResL.two (ResA.tmp rfl) (ResA.tmp rfl)) (out_t (frzl_cons (by first | exact frz_c cv_rfl | exact frz_c cv_nil | exact frz_ownW rfl rfl (by first | rfl | with_reducible assumption | (simp <;> fail) | omega | (simp; omega) | assumption) | exact frz_eq (frz_c cv_rfl) (by first | rfl | (simp <;> fail) | fail)) (frzl_cons (by first | exact frz_c cv_rfl | exact frz_c cv_nil | exact frz_ownW rfl rfl (by first | rfl | with_reducible assumption | (simp <;> fail) | omega | (simp; omega) | assumption) | exact frz_eq (frz_c cv_rfl) (by first | rfl | (simp <;> fail) | fail)) frzl_nil)))
  · have g1 : (decide (n < 0) == false) = true := by rw [decide_eq_false h0]; rfl
    refine ac_enter tabOk (sz := 20) Try.func40 rfl (by rw [Try.ntmps40]; rfl) ?_
    repeat' (first
    | ((with_reducible refine aw_seqk ?_); intro K hK hX)
    | ((with_reducible refine isC_reg ?_); refine aw_prune [0, 1, 2, 4, 6, 7] rfl rfl ?_; with_reducible refine aw_region ?_)
    | refine stA ?_
    | (refine hK _ _ _ _ ?_; clear hK hX K)
    | (refine hX _ _ _ _ _ (by simp) ?_; clear hK hX K))
    refine retK_mk (by first | exact .inl rfl | exact .inr rfl) (by exact trivial) rfl (ResL.two (ResA.tmp rfl) (ResA.tmp rfl)) (out_t (frzl_cons (by first | exact frz_c cv_rfl | exact frz_c cv_nil | exact frz_ownW rfl rfl (by first | rfl | with_reducible assumption | (simp <;> fail) | omega | (simp; omega) | assumption) | exact frz_eq (frz_c cv_rfl) (by first | rfl | (simp <;> fail) | fail)) (frzl_cons (by first | exact frz_c cv_rfl | exact frz_c cv_nil | exact frz_ownW rfl rfl (by first | rfl | with_reducible assumption | (simp <;> fail) | omega | (simp; omega) | assumption) | exact frz_eq (frz_c cv_rfl) (by first | rfl | (simp <;> fail) | fail)) frzl_nil)))
end Go.Proofs.Ytgofigkhdjjlmaa
/-
  The digits of a message (walk), as the program and as the reference have them.
-/
set_option linter.unusedVariables false
set_option linter.unusedSimpArgs false
namespace Go.Proofs.Ytgofigkhdjjlmaa
open Go Go.RowKit Go.Av
set_option maxRecDepth 100000
theorem digits_idle : Idle Try.prog 64 1 := by
  intro us w hl
  obtain ⟨u0, rfl⟩ : ∃ u0, us = [u0] := by
    match us, hl with | [u0], _ => exact ⟨u0, rfl⟩
  refine callsD_of_wpS Try.func64 rfl fun c₀ cs hu => ?_
  apply wpS_seq
  apply wpS_region
  simp [wpOpsS, go_sem, recoverD, hu, Try.ntmps64, Exit.thenS]
  refine wpS_cond (t := false) (by simp [Act.eval, Array.replicate]) ?_
  simp only [Bool.false_eq_true, if_false]
  refine wpS_of_wp (wp_skip ?_)
  cases c₀
  simp_all [bodyPostS, results, Try.results64]
theorem digits_idle_b : Body Try.prog 64 := by unfold Body; kernel_rfl
/-- A digit of the digest, the sum of what is lacking, all digits. -/
def dgt (D : List UInt8) (j : Nat) : Nat := if j % 2 = 0 then (D.getD (j / 2) 0).toNat / 16 else (D.getD (j / 2) 0).toNat % 16
def ckN (D : List UInt8) : Nat → Nat
  | 0 => 0
  | j + 1 => ckN D j + (15 - dgt D j)
def dall (D : List UInt8) (j : Nat) : Nat := if j < 32 then dgt D j else ckN D 32 / 2 ^ (4 * (34 - j)) % 16
theorem dgt_le (D : List UInt8) (j : Nat) : dgt D j ≤ 15 := by
  have := (D.getD (j / 2) 0).toNat_lt
  unfold dgt
  split <;> omega
theorem ckN_le (D : List UInt8) : ∀ j, ckN D j ≤ 15 * j
  | 0 => Nat.le_refl _
  | j + 1 => by
    have := ckN_le D j
    simp only [ckN]
    omega
def flI (D : List UInt8) (i : Nat) : List Int := ((List.range i).map fun j => (dall D j : Int)) ++ List.replicate (35 - i) 0
def digs (D : List UInt8) : List Int := (List.range 35).map fun j => (dall D j : Int)
theorem flI_full (D : List UInt8) : flI D 35 = digs D := by simp [flI, digs]
theorem flI_length (D : List UInt8) (i : Nat) (h : i ≤ 35) : (flI D i).length = 35 := by simp [flI]; omega
theorem intc_set (l : List Int) (i : Nat) (b : Int) : (intc .i64 l).set i (.v (.int .i64 b)) = intc .i64 (l.set i b) := by
  unfold intc
  rw [← List.map_set]
theorem flI_set (D : List UInt8) (i : Nat) (h : i < 35) : (intc .i64 (flI D i)).set (0 + i * 1) (.v (.int .i64 (dall D i : Int))) = intc .i64 (flI D (i + 1)) := by
  rw [intc_set, Nat.zero_add, Nat.mul_one]
  congr 1
  unfold flI
  rw [List.range_succ, List.map_append, List.set_append_right _ _ (by simp), List.length_map, List.length_range, Nat.sub_self, show 35 - i = (35 - (i + 1)) + 1 by omega, List.replicate_succ, List.set_cons_zero]
  simp
theorem zc_int (n : Nat) : zc [Value.int .i64 0] n = intc .i64 (List.replicate n 0) := by
  induction n with
  | zero => rfl
  | succ n ih =>
    simp only [zc, List.replicate_succ, List.flatten_cons, intc, List.map_cons] at ih ⊢
    rw [ih]
    rfl
section
variable {P : Program} {ev : Evl} {h : Heap} {d : Option Tmp} {T ty T' : TypeId} {x y : Operand} {pos : String} {aft : Array Edge} {gd : Option (Nat × Bool)}
theorem s_shrN {b m : Nat} {k : IntKind} {Y : Int} (hx : ev x = some (.c (.v (.int .i64 (b : Int))))) (hy : ev y = some (.c (.v (.int k Y)))) (hY : Y = (m : Int)) (hm : m < 64) : Still P ⟨d, .binOp .shr T x y T', ty, pos, aft, gd⟩ ev h (.c (.v (.int .i64 ((b / 2 ^ m : Nat) : Int)))) :=
  s_shr hx hy (by omega) (by
    subst hY
    have e : min ((m : Int).toNat) IntKind.i64.bits = m := by
      show min ((m : Int).toNat) 64 = m
      omega
    rw [e, Int.fdiv_eq_ediv_of_nonneg _ (Int.le_of_lt (Int.pow_pos (by decide)))]
    simp)
theorem s_and15i {b : Nat} (hb : b < 9223372036854775808) (hx : ev x = some (.c (.v (.int .i64 (b : Int))))) (hy : ev y = some (.c (.v (.int .i64 15)))) : Still P ⟨d, .binOp .and T x y T', ty, pos, aft, gd⟩ ev h (.c (.v (.int .i64 ((b % 16 : Nat) : Int)))) :=
  s_and hx hy (by
    show IntKind.i64.wrap ((BitVec.ofInt 64 (b : Int) &&& BitVec.ofInt 64 15).toNat : Int) = _
    have e1 : BitVec.ofInt 64 (b : Int) = BitVec.ofNat 64 b := by simp
    have e2 : BitVec.ofInt 64 15 = BitVec.ofNat 64 15 := by decide
    have e3 : (BitVec.ofNat 64 b &&& BitVec.ofNat 64 15).toNat = b % 16 := by
      rw [BitVec.toNat_and, BitVec.toNat_ofNat, BitVec.toNat_ofNat, Nat.mod_eq_of_lt (by omega)]
      show b &&& (2 ^ 4 - 1) = _
      rw [Nat.and_two_pow_sub_one_eq_mod]
    rw [e1, e2, e3]
    exact w64 (by omega) (by omega))
end
attribute [local irreducible] Still Adds AWL AW Drw AC AWR Weak Frz Src RetK Out InK permute
set_option maxHeartbeats 4000000 in
theorem digits_ok (l : List UInt8) (n : Nat) (hl : l.length = n) (hm : n ≤ 1000000) : AC Try.prog 27 [.sl 1 n (u8c l)] (.own 0 0 35 1 true) [(0, .row 3 (intc .i64 (digs (sum 390#64 l))))] 1 := by
  have hDl := sum_length 390#64 l
  have hsu := sum_ok 390#64 l n hl (by simp only [maxLen]; omega)
  generalize sum 390#64 l = D at *
  have hu : (u8c D).length = 32 := by rw [u8c_length, hDl]
  refine ac_enter tabOk (sz := 10) Try.func27 rfl (by rw [Try.ntmps27]; rfl) ?_
  repeat' (first
    | ((with_reducible refine aw_seqk ?_); intro K hK hX)
    | ((with_reducible refine isC_reg ?_); refine aw_prune [0, 1, 2, 3, 4, 5, 6, 9, 10] rfl rfl ?_; with_reducible refine aw_region ?_)
    | ((with_reducible refine isA_call ?_); (first | refine zA ?_ | refine zN ?_); (first | refine c0 (hsu) ?_))
    | ((first | with_reducible refine isA_call ?_ | with_reducible refine isA_callv ?_); refine awl_inl tabOk [0, 1, 2, 3, 4, 5, 6, 7, 8, 9, 10, 11, 12, 13, 14, 15, 16, 17, 18, 19, 20] g_none rfl rfl (by unfold Body; kernel_rfl) Try.func65 rfl rfl rfl (szf := 21) (by rw [Try.ntmps65]; rfl) rfl ?_)
    | refine stA ?_
    | (refine hK _ _ _ _ ?_; clear hK hX K)
    | (refine hX _ _ _ _ _ (by simp) ?_; clear hK hX K)
    | (first | refine inK_some (by first | exact .inl rfl | exact .inr rfl) (by exact trivial) rfl rfl (ResL.one (ResA.tmp rfl)) ?_ | refine inK_none (by first | exact .inl rfl | exact .inr rfl) (by exact trivial) rfl rfl (ResL.one (ResA.tmp rfl)) ?_))
  refine aw_loopk 4 (fun i : Nat => [(1, .fn 66 [.ref 2 0, .ref 1 0]), (5, .own 3 0 35 1 true), (9, .c (iv 35)), (10, .c (iv i))]) (fun i => [(0, .blk 24 [.c (.v (.slice none 0 0))]), (1, .row 35 (u8c D)), (2, .blk 3 [.c (iv (ckN D (min i 32)))]), (3, .row 3 (intc .i64 (flI D i)))]) _ (fun i => i ≤ 35) (fun i => 35 - i) 0 (by omega) (by refine weak_mk rfl ?_ ?_ rfl <;> (repeat' (first | exact weakE_nil | exact weakH_nil | refine weakE_cons rfl (by first | rfl | (exact congrArg (AObj.row 3) (zc_int 35)) | exact own_eq rfl rfl (by omega) | exact int_eq (by omega) | (simp <;> fail) | (congr 4; omega) | (congr 3; omega) | (congr 2; omega)) rfl ?_ | refine weakH_cons rfl (by first | rfl | (exact congrArg (AObj.row 3) (zc_int 35)) | exact own_eq rfl rfl (by omega) | exact int_eq (by omega) | (simp <;> fail) | (congr 4; omega) | (congr 3; omega) | (congr 2; omega)) rfl ?_))) ?_
  intro i hi K hK hX
  have hlen : (intc .i64 (flI D i)).length = 35 := by rw [intc_length, flI_length _ _ (by omega)]
  by_cases hlt : i < 35
  · by_cases h32 : i < 32
    · have hc := ckN_le D i
      have hmin : min i 32 = i := by omega
      have hmin' : min (i + 1) 32 = i + 1 := by omega
      rw [hmin]
      rcases Nat.mod_two_eq_zero_or_one i with hp | hp
      · obtain ⟨j, rfl⟩ : ∃ j, i = 2 * j := ⟨i / 2, by omega⟩
        have hb := (D.getD j 0).toNat_lt
        have hx1 : (D.getD j 0).toNat / 2 ^ 4 < 9223372036854775808 := by omega
        have hdv : (D.getD j 0).toNat / 2 ^ 4 % 16 = dall D (2 * j) := by
          unfold dall dgt
          rw [if_pos h32, if_pos hp, show (2 * j) / 2 = j by omega]
          omega
        have hd15 : dall D (2 * j) ≤ 15 := by rw [← hdv]; omega
        have hck : (ckN D (2 * j) : Int) + (15 - (dall D (2 * j) : Int)) = ((ckN D (2 * j + 1) : Nat) : Int) := by
          have := dgt_le D (2 * j)
          have e : dall D (2 * j) = dgt D (2 * j) := by unfold dall; rw [if_pos h32]
          rw [e]
          simp only [ckN]
          omega
        repeat' (first
    | ((with_reducible refine aw_seqk ?_); intro K hK hX)
    | ((with_reducible refine isC_reg ?_); refine aw_prune [0, 1, 2, 3, 4, 5, 6, 9, 10] rfl rfl ?_; with_reducible refine aw_region ?_)
    | ((first | with_reducible refine isA_call ?_ | with_reducible refine isA_callv ?_); refine awl_inl tabOk [0, 1, 2, 3, 4, 5, 6, 7, 8, 9, 10, 11, 12, 13, 14, 15, 16, 17, 18, 19, 20, 21, 22, 23, 24, 25, 26, 27, 28, 29, 30] g_none rfl rfl (by unfold Body; kernel_rfl) Try.func65 rfl rfl rfl (szf := 21) (by rw [Try.ntmps65]; rfl) rfl ?_)
    | ((first | with_reducible refine isA_call ?_ | with_reducible refine isA_callv ?_); refine awl_inl tabOk [0, 1, 2, 3, 4, 5, 6, 7, 8, 9, 10, 11, 12, 13, 14, 15, 16, 17, 18, 19, 20, 21, 22, 23, 24, 25, 26, 27, 28, 29, 30] g_none rfl rfl (by unfold Body; kernel_rfl) Try.func66 rfl rfl rfl (szf := 31) (by rw [Try.ntmps66]; rfl) rfl ?_)
    | (((with_reducible refine isA_any ?_); refine xA ?_); (first | ((with_reducible refine e_ixA ?_); (first | refine ex_i (s_ixA tabOk rfl rfl (show ((2 * j : Nat) : Int) / 2 = (j : Int) by omega) rfl rfl rfl (by omega)) ?_)) | ((with_reducible refine e_bin ?_); (first | refine ex_i (s_shrN rfl rfl (show (4 : Int) = ((4 : Nat) : Int) from rfl) (by decide)) ?_ | refine ex_i (s_and15i hx1 rfl rfl) ?_)) | ((with_reducible refine e_load ?_); (first | refine ex_i (s_load1 tabOk rfl rfl rfl rfl (by exact u8_at0 D j (by omega))) ?_ | refine ex_i (s_load1r tabOk rfl rfl rfl rfl (by exact u8_at0 D j (by omega))) ?_ | refine ex_i (s_load1i tabOk rfl rfl rfl (by exact u8_at0 D j (by omega))) ?_)) | ((with_reducible refine e_ix ?_); (first | refine ex_i (s_ixV1 tabOk rfl rfl (by first | with_reducible exact cast_self _ | with_reducible exact cast_lit _ | exact nt (by omega) | rfl) rfl rfl rfl rfl rfl (by first | exact Nat.le_of_ble_eq_true rfl | omega | (simp; omega)) (by exact u8_at0 D j (by omega))) ?_ | refine ex_i (s_ixStr tabOk rfl rfl (by first | with_reducible exact cast_self _ | with_reducible exact cast_lit _ | exact nt (by omega) | rfl) rfl rfl (by exact u8_at0 D j (by omega))) ?_))))
    | ((with_reducible refine isA_store ?_); (refine awl_store1r tabOk g_none rfl rfl rfl rfl rfl rfl (by first | omega | exact Nat.le_of_ble_eq_true rfl | omega | (simp; omega)) ?_))
    | refine stA ?_
    | (refine hK _ _ _ _ ?_; clear hK hX K)
    | (refine hX _ _ _ _ _ (by simp) ?_; clear hK hX K)
    | (first | refine inK_some (by first | exact .inl rfl | exact .inr rfl) (by exact trivial) rfl rfl (ResL.one (ResA.tmp rfl)) ?_ | refine inK_none (by first | exact .inl rfl | exact .inr rfl) (by exact trivial) rfl rfl (ResL.one (ResA.tmp rfl)) ?_))
        rw [hdv, hck]
        exact ⟨2 * j + 1, by omega, by omega, (by refine weak_mk rfl ?_ ?_ rfl <;> (repeat' (first | exact weakE_nil | exact weakH_nil | refine weakE_cons rfl (by first | rfl | (first | exact congrArg (AObj.row 3) (flI_set D (2 * j) (by omega)) | rw [hmin']) | exact own_eq rfl rfl (by omega) | exact int_eq (by omega) | (simp <;> fail) | (congr 4; omega) | (congr 3; omega) | (congr 2; omega)) rfl ?_ | refine weakH_cons rfl (by first | rfl | (first | exact congrArg (AObj.row 3) (flI_set D (2 * j) (by omega)) | rw [hmin']) | exact own_eq rfl rfl (by omega) | exact int_eq (by omega) | (simp <;> fail) | (congr 4; omega) | (congr 3; omega) | (congr 2; omega)) rfl ?_)))⟩
      · obtain ⟨j, rfl⟩ : ∃ j, i = 2 * j + 1 := ⟨i / 2, by omega⟩
        have hb := (D.getD j 0).toNat_lt
        have hx1 : (D.getD j 0).toNat < 9223372036854775808 := by omega
        have hdv : (D.getD j 0).toNat % 16 = dall D (2 * j + 1) := by
          unfold dall dgt
          rw [if_pos h32, if_neg (by omega), show (2 * j + 1) / 2 = j by omega]
          skip
        have hd15 : dall D (2 * j + 1) ≤ 15 := by rw [← hdv]; omega
        have hck : (ckN D (2 * j + 1) : Int) + (15 - (dall D (2 * j + 1) : Int)) = ((ckN D (2 * j + 1 + 1) : Nat) : Int) := by
          have := dgt_le D (2 * j + 1)
          have e : dall D (2 * j + 1) = dgt D (2 * j + 1) := by unfold dall; rw [if_pos h32]
          rw [e]
          simp only [ckN]
          omega
        repeat' (first
    | ((with_reducible refine aw_seqk ?_); intro K hK hX)
    | ((with_reducible refine isC_reg ?_); refine aw_prune [0, 1, 2, 3, 4, 5, 6, 9, 10] rfl rfl ?_; with_reducible refine aw_region ?_)
    | ((first | with_reducible refine isA_call ?_ | with_reducible refine isA_callv ?_); refine awl_inl tabOk [0, 1, 2, 3, 4, 5, 6, 7, 8, 9, 10, 11, 12, 13, 14, 15, 16, 17, 18, 19, 20, 21, 22, 23, 24, 25, 26, 27, 28, 29, 30] g_none rfl rfl (by unfold Body; kernel_rfl) Try.func65 rfl rfl rfl (szf := 21) (by rw [Try.ntmps65]; rfl) rfl ?_)
    | ((first | with_reducible refine isA_call ?_ | with_reducible refine isA_callv ?_); refine awl_inl tabOk [0, 1, 2, 3, 4, 5, 6, 7, 8, 9, 10, 11, 12, 13, 14, 15, 16, 17, 18, 19, 20, 21, 22, 23, 24, 25, 26, 27, 28, 29, 30] g_none rfl rfl (by unfold Body; kernel_rfl) Try.func66 rfl rfl rfl (szf := 31) (by rw [Try.ntmps66]; rfl) rfl ?_)
    | (((with_reducible refine isA_any ?_); refine xA ?_); (first | ((with_reducible refine e_ixA ?_); (first | refine ex_i (s_ixA tabOk rfl rfl (show ((2 * j + 1 : Nat) : Int) / 2 = (j : Int) by omega) rfl rfl rfl (by omega)) ?_)) | ((with_reducible refine e_bin ?_); (first | refine ex_i (s_and15i hx1 rfl rfl) ?_)) | ((with_reducible refine e_load ?_); (first | refine ex_i (s_load1 tabOk rfl rfl rfl rfl (by exact u8_at0 D j (by omega))) ?_ | refine ex_i (s_load1r tabOk rfl rfl rfl rfl (by exact u8_at0 D j (by omega))) ?_ | refine ex_i (s_load1i tabOk rfl rfl rfl (by exact u8_at0 D j (by omega))) ?_)) | ((with_reducible refine e_ix ?_); (first | refine ex_i (s_ixV1 tabOk rfl rfl (by first | with_reducible exact cast_self _ | with_reducible exact cast_lit _ | exact nt (by omega) | rfl) rfl rfl rfl rfl rfl (by first | exact Nat.le_of_ble_eq_true rfl | omega | (simp; omega)) (by exact u8_at0 D j (by omega))) ?_ | refine ex_i (s_ixStr tabOk rfl rfl (by first | with_reducible exact cast_self _ | with_reducible exact cast_lit _ | exact nt (by omega) | rfl) rfl rfl (by exact u8_at0 D j (by omega))) ?_))))
    | ((with_reducible refine isA_store ?_); (refine awl_store1r tabOk g_none rfl rfl rfl rfl rfl rfl (by first | omega | exact Nat.le_of_ble_eq_true rfl | omega | (simp; omega)) ?_))
    | refine stA ?_
    | (refine hK _ _ _ _ ?_; clear hK hX K)
    | (refine hX _ _ _ _ _ (by simp) ?_; clear hK hX K)
    | (first | refine inK_some (by first | exact .inl rfl | exact .inr rfl) (by exact trivial) rfl rfl (ResL.one (ResA.tmp rfl)) ?_ | refine inK_none (by first | exact .inl rfl | exact .inr rfl) (by exact trivial) rfl rfl (ResL.one (ResA.tmp rfl)) ?_))
        rw [hdv, hck]
        exact ⟨2 * j + 1 + 1, by omega, by omega, (by refine weak_mk rfl ?_ ?_ rfl <;> (repeat' (first | exact weakE_nil | exact weakH_nil | refine weakE_cons rfl (by first | rfl | (first | exact congrArg (AObj.row 3) (flI_set D (2 * j + 1) (by omega)) | rw [hmin']) | exact own_eq rfl rfl (by omega) | exact int_eq (by omega) | (simp <;> fail) | (congr 4; omega) | (congr 3; omega) | (congr 2; omega)) rfl ?_ | refine weakH_cons rfl (by first | rfl | (first | exact congrArg (AObj.row 3) (flI_set D (2 * j + 1) (by omega)) | rw [hmin']) | exact own_eq rfl rfl (by omega) | exact int_eq (by omega) | (simp <;> fail) | (congr 4; omega) | (congr 3; omega) | (congr 2; omega)) rfl ?_)))⟩
    · have hc := ckN_le D 32
      have hmin : min i 32 = 32 := by omega
      have hmin' : min (i + 1) 32 = 32 := by omega
      rw [hmin]
      have hdv : ckN D 32 / 2 ^ (4 * (34 - i)) % 16 = dall D i := by unfold dall; rw [if_neg h32]
      have hx1 : ckN D 32 / 2 ^ (4 * (34 - i)) < 9223372036854775808 := Nat.lt_of_le_of_lt (Nat.div_le_self _ _) (by omega)
      repeat' (first
    | ((with_reducible refine aw_seqk ?_); intro K hK hX)
    | ((with_reducible refine isC_reg ?_); refine aw_prune [0, 1, 2, 3, 4, 5, 6, 9, 10] rfl rfl ?_; with_reducible refine aw_region ?_)
    | ((first | with_reducible refine isA_call ?_ | with_reducible refine isA_callv ?_); refine awl_inl tabOk [0, 1, 2, 3, 4, 5, 6, 7, 8, 9, 10, 11, 12, 13, 14, 15, 16, 17, 18, 19, 20, 21, 22, 23, 24, 25, 26, 27, 28, 29, 30] g_none rfl rfl (by unfold Body; kernel_rfl) Try.func65 rfl rfl rfl (szf := 21) (by rw [Try.ntmps65]; rfl) rfl ?_)
    | ((first | with_reducible refine isA_call ?_ | with_reducible refine isA_callv ?_); refine awl_inl tabOk [0, 1, 2, 3, 4, 5, 6, 7, 8, 9, 10, 11, 12, 13, 14, 15, 16, 17, 18, 19, 20, 21, 22, 23, 24, 25, 26, 27, 28, 29, 30] g_none rfl rfl (by unfold Body; kernel_rfl) Try.func66 rfl rfl rfl (szf := 31) (by rw [Try.ntmps66]; rfl) rfl ?_)
    | (((with_reducible refine isA_any ?_); refine xA ?_); (first | ((with_reducible refine e_bin ?_); (first | refine ex_i (s_shrN rfl rfl (show 4 * (34 - (i : Int)) = ((4 * (34 - i) : Nat) : Int) by omega) (by omega)) ?_ | refine ex_i (s_and15i hx1 rfl rfl) ?_))))
    | ((with_reducible refine isA_store ?_); (refine awl_store1r tabOk g_none rfl rfl rfl rfl rfl rfl (by first | omega | exact Nat.le_of_ble_eq_true rfl | omega | (simp; omega)) ?_))
    | refine stA ?_
    | (refine hK _ _ _ _ ?_; clear hK hX K)
    | (refine hX _ _ _ _ _ (by simp) ?_; clear hK hX K)
    | (first | refine inK_some (by first | exact .inl rfl | exact .inr rfl) (by exact trivial) rfl rfl (ResL.one (ResA.tmp rfl)) ?_ | refine inK_none (by first | exact .inl rfl | exact .inr rfl) (by exact trivial) rfl rfl (ResL.one (ResA.tmp rfl)) ?_))
      rw [hdv]
      exact ⟨i + 1, by omega, by omega, (by refine weak_mk rfl ?_ ?_ rfl <;> (repeat' (first | exact weakE_nil | exact weakH_nil | refine weakE_cons rfl (by first | rfl | (first | exact congrArg (AObj.row 3) (flI_set D i hlt) | rw [hmin']) | exact own_eq rfl rfl (by omega) | exact int_eq (by omega) | (simp <;> fail) | (congr 4; omega) | (congr 3; omega) | (congr 2; omega)) rfl ?_ | refine weakH_cons rfl (by first | rfl | (first | exact congrArg (AObj.row 3) (flI_set D i hlt) | rw [hmin']) | exact own_eq rfl rfl (by omega) | exact int_eq (by omega) | (simp <;> fail) | (congr 4; omega) | (congr 3; omega) | (congr 2; omega)) rfl ?_)))⟩
  · obtain rfl : i = 35 := by omega
    repeat' (first
    | ((with_reducible refine aw_seqk ?_); intro K hK hX)
    | ((with_reducible refine isC_reg ?_); refine aw_prune [0, 1, 2, 3, 4, 5, 6, 9, 10] rfl rfl ?_; with_reducible refine aw_region ?_)
    | ((first | with_reducible refine isA_call ?_ | with_reducible refine isA_callv ?_); refine awl_inl tabOk [0, 1, 2, 3, 4, 5, 6, 7, 8, 9, 10, 11, 12, 13, 14, 15, 16, 17, 18, 19, 20] g_none rfl rfl (by unfold Body; kernel_rfl) Try.func65 rfl rfl rfl (szf := 21) (by rw [Try.ntmps65]; rfl) rfl ?_)
    | refine stA ?_
    | (refine hK _ _ _ _ ?_; clear hK hX K)
    | (refine hX _ _ _ _ _ (by simp) ?_; clear hK hX K)
    | (first | refine inK_some (by first | exact .inl rfl | exact .inr rfl) (by exact trivial) rfl rfl (ResL.one (ResA.tmp rfl)) ?_ | refine inK_none (by first | exact .inl rfl | exact .inr rfl) (by exact trivial) rfl rfl (ResL.one (ResA.tmp rfl)) ?_))
    rw [flI_full]
    refine retK_mk (by first | exact .inl rfl | exact .inr rfl) (by exact ⟨digits_idle, digits_idle_b, trivial⟩) rfl (ResL.one (by first | exact ResA.one rfl rfl rfl rfl rfl | exact ResA.agg rfl rfl rfl rfl rfl (by first | exact IsAgg.closed rfl rfl | exact IsAgg.mixed _) | exact ResA.aggr rfl rfl rfl rfl (by first | rfl | with_reducible assumption | (simp <;> fail) | omega | (simp; omega) | assumption))) (by first | exact out_c (by first | exact frz_c cv_rfl | exact frz_c cv_nil | exact frz_ownW rfl rfl (by first | rfl | with_reducible assumption | (simp <;> fail) | omega | (simp; omega) | assumption) | exact frz_eq (frz_c cv_rfl) (by first | rfl | (simp <;> fail) | fail)) | exact out_own rfl rfl)
end Go.Proofs.Ytgofigkhdjjlmaa
