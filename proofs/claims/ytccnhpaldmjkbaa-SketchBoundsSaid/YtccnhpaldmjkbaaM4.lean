/-
  Joined texts: WK AvRf H1. Lemmas; no statement of a law.
-/
import Derived.Test.YtccnhpaldmjkbaaM1
import Derived.Test.YtccnhpaldmjkbaaM2
import Derived.Test.YtccnhpaldmjkbaaM3
/-
  The steps of the walk, each with the ways in which it is met. For this seat's program.
-/
set_option linter.unusedVariables false
set_option linter.unusedSimpArgs false
namespace Go.Proofs.Ytccnhpaldmjkbaa
open Go Go.RowKit Go.Av
set_option maxRecDepth 100000
theorem zln {p : Prop} (h : p := by first | rfl | with_reducible assumption | (simp <;> fail) | omega | (simp <;> omega) | assumption) : p := h
theorem zse {p : Prop} (h : p := by first | rfl | omega | (simp <;> fail) | fail) : p := h
theorem zcj {p : Prop} (h : p := by first | with_reducible exact cast_self _ | with_reducible exact cast_lit _ | with_reducible exact cast_add2 _ _ | with_reducible exact cast_addl _ _ | with_reducible exact cast_sub2 (by omega) | with_reducible exact cast_subl (by omega) | with_reducible exact cast_lsub (by omega) | exact nt (by omega) | rfl) : p := h
theorem zle {p : Prop} (h : p := by first | exact Nat.le_of_ble_eq_true rfl | omega | (simp <;> omega)) : p := h
theorem zcv {p : Prop} (h : p := by first | exact cvl_rfl | ((repeat' (first | exact cvl_nil | refine cvl_cons ?_ ?_ | (first | exact cv_rfl | exact cv_nil | (refine cv_sl ?_ ?_ <;> first | rfl | omega | (simp <;> fail) | fail) | (refine cv_eq ?_; first | rfl | (simp <;> fail) | fail) | refine cv_agg ?_))) <;> fail) | fail) : p := h
theorem zbd {p : Prop} (h : p := by first | exact Bd.no | exact Bd.yes rfl zcj) : p := h
theorem zfz {p : Prop} (h : p := by repeat' (first | exact frz_c cv_rfl | exact frz_c cv_nil | exact frz_ownW rfl rfl zln | exact frz_own rfl rfl rfl zln | exact frz_cv (frz_ownW rfl rfl zln) (cv_sl zse zse) | exact frz_cv (frz_own rfl rfl rfl zln) (cv_sl zse zse) | refine frz_agg rfl ?_ | refine frz_c (cv_agg ?_) | exact frzl_nil | refine frzl_cons ?_ ?_ | exact cvl_nil | refine cvl_cons ?_ ?_ | exact cv_rfl | exact cv_nil | exact cv_sl zse zse | exact frz_own rfl rfl (by assumption) (by assumption) | exact frz_int (by first | exact w64 (by omega) (by omega) | omega) | exact frz_true (by first | assumption | omega) | exact frz_false (by first | assumption | omega) | exact frz_eq (frz_c cv_rfl) (by first | rfl | (simp <;> fail) | fail))) : p := h
theorem zrs {p : Prop} (h : p := by first | exact ResA.one rfl rfl rfl rfl rfl | exact ResA.agg rfl rfl rfl rfl rfl (by first | exact IsAgg.closed rfl rfl | exact IsAgg.mixed _) | exact ResA.aggr rfl rfl rfl rfl zln) : p := h
/-- What is still to be shown. -/
structure Kept (q : Prop) : Prop where
  out : q
theorem stA {p q : Prop} (hq : q) (h : Kept q → p := by
  intro hq
  (first
  | ((with_reducible refine isC_any ?_); (first | ((with_reducible refine isC_cond ?_); (first | (refine aw_condT rfl (by first | assumption | with_reducible exact decide_eq_true (by assumption) | with_reducible rfl) ?_) | (refine aw_condF rfl (by first | assumption | with_reducible exact decide_eq_false (by assumption) | with_reducible rfl) ?_) | (refine aw_condT rfl rfl ?_) | (refine aw_condF rfl rfl ?_) | (refine aw_condT rfl (by first | exact decide_eq_true (by omega) | (simp only [*] <;> fail) | fail) ?_) | (refine aw_condF rfl (by first | exact decide_eq_false (by omega) | (simp only [*] <;> fail) | fail) ?_))) | (with_reducible refine aw_block ?_) | (with_reducible refine aw_skip ?_) | (with_reducible refine aw_exit ?_) | (with_reducible refine aw_ret ?_)))
  | ((with_reducible refine isA_g ?_); (refine a_skip (g_some rfl rfl (by first | assumption | with_reducible exact gd1 (by assumption) | with_reducible exact gd2 (by assumption) | with_reducible exact gd3 (by assumption) | with_reducible exact gd4 (by assumption) | with_reducible rfl)) rfl ?_))
  | ((with_reducible refine isA_bi ?_); (first | (refine a_append tabOk g_none rfl rfl rfl rfl rfl rfl rfl rfl zln rfl (by first | exact src_c | exact src_nil | exact src_ownW rfl zln) (by first | (simp only [maxLen]; omega) | (simp [maxLen]; omega)) zle ?_) | ((first | refine y_a g_none rfl ?_ | refine y_a (g_some rfl rfl (by first | assumption | with_reducible exact gd1 (by assumption) | with_reducible exact gd2 (by assumption) | with_reducible exact gd3 (by assumption) | with_reducible exact gd4 (by assumption) | with_reducible rfl | rfl | ((first | with_reducible refine gd1 ?_ | with_reducible refine gd2 ?_ | with_reducible refine gd3 ?_ | with_reducible refine gd4 ?_); omega) | (simp only [*] <;> fail) | fail)) rfl ?_); refine ey_i (b_appendN tabOk rfl rfl rfl rfl rfl rfl rfl rfl (by first | exact src_c | exact src_nil | exact src_ownW rfl zln) (by first | (simp only [maxLen]; omega) | (simp [maxLen]; omega)) zle) rfl ?_) | ((first | refine y_a g_none rfl ?_ | refine y_a (g_some rfl rfl (by first | assumption | with_reducible exact gd1 (by assumption) | with_reducible exact gd2 (by assumption) | with_reducible exact gd3 (by assumption) | with_reducible exact gd4 (by assumption) | with_reducible rfl | rfl | ((first | with_reducible refine gd1 ?_ | with_reducible refine gd2 ?_ | with_reducible refine gd3 ?_ | with_reducible refine gd4 ?_); omega) | (simp only [*] <;> fail) | fail)) rfl ?_); refine ey_i (a_appendZ tabOk rfl rfl rfl rfl rfl rfl rfl rfl rfl rfl rfl zcj zle (by first | (simp only [maxLen]; omega) | (simp [maxLen]; omega)) zle) rfl ?_) | (refine a_copy tabOk g_none rfl rfl rfl rfl rfl rfl rfl rfl (by first | exact src_c | exact src_nil | exact src_ownW rfl zln) zle zle ?_) | (refine n_copy tabOk g_none rfl rfl rfl rfl rfl rfl rfl (by first | exact src_c | exact src_nil | exact src_ownW rfl zln) zle zle ?_)))
  | ((with_reducible refine isA_store ?_); (first | (refine f_store1 tabOk g_none rfl rfl rfl rfl rfl rfl rfl ?_) | (refine f_store1r tabOk g_none rfl rfl rfl rfl rfl rfl rfl ?_) | (refine awl_store1r tabOk g_none rfl rfl rfl rfl rfl rfl (by first | fail | exact Nat.le_of_ble_eq_true rfl | omega | (simp <;> omega)) ?_) | (refine awl_storeA tabOk g_none rfl rfl rfl (by first | exact Parts.mixed _ | exact Parts.closed _) (by rfl) (by rfl) rfl (Nat.le_of_ble_eq_true rfl) (by rfl) ?_) | (refine awl_storeAr tabOk g_none rfl rfl rfl zln rfl zle (by first | exact lay_whole _ _ zln | rfl) ?_)))
  | ((with_reducible refine isA_alloc ?_); (first | refine y_a g_none rfl ?_ | refine y_a (g_some rfl rfl (by first | assumption | with_reducible exact gd1 (by assumption) | with_reducible exact gd2 (by assumption) | with_reducible exact gd3 (by assumption) | with_reducible exact gd4 (by assumption) | with_reducible rfl | rfl | ((first | with_reducible refine gd1 ?_ | with_reducible refine gd2 ?_ | with_reducible refine gd3 ?_ | with_reducible refine gd4 ?_); omega) | (simp only [*] <;> fail) | fail)) rfl ?_); (first | refine ey_i (a_allocR tabOk rfl rfl rfl rfl) rfl ?_ | refine ey_i (a_alloc tabOk rfl rfl) rfl ?_))
  | ((with_reducible refine isA_box ?_); (first | refine y_a g_none rfl ?_ | refine y_a (g_some rfl rfl (by first | assumption | with_reducible exact gd1 (by assumption) | with_reducible exact gd2 (by assumption) | with_reducible exact gd3 (by assumption) | with_reducible exact gd4 (by assumption) | with_reducible rfl | rfl | ((first | with_reducible refine gd1 ?_ | with_reducible refine gd2 ?_ | with_reducible refine gd3 ?_ | with_reducible refine gd4 ?_); omega) | (simp only [*] <;> fail) | fail)) rfl ?_); (first | refine ey_i (a_boxR (tab := tab) rfl rfl rfl) rfl ?_ | refine ey_i (a_box1 rfl rfl) rfl ?_ | refine ey_i (a_boxA rfl (by first | exact Parts.mixed _ | exact Parts.closed _)) rfl ?_))
  | ((with_reducible refine isA_bslice ?_); (first | refine y_a g_none rfl ?_ | refine y_a (g_some rfl rfl (by first | assumption | with_reducible exact gd1 (by assumption) | with_reducible exact gd2 (by assumption) | with_reducible exact gd3 (by assumption) | with_reducible exact gd4 (by assumption) | with_reducible rfl | rfl | ((first | with_reducible refine gd1 ?_ | with_reducible refine gd2 ?_ | with_reducible refine gd3 ?_ | with_reducible refine gd4 ?_); omega) | (simp only [*] <;> fail) | fail)) rfl ?_); (first | refine ey_i (b_bslice0 tabOk rfl rfl rfl rfl rfl) rfl ?_ | refine ey_i (b_bslice tabOk rfl rfl rfl rfl rfl rfl rfl rfl rfl rfl rfl rfl (flatLF_ok rfl) (by first | rfl | exact all1 (by assumption) | (simp <;> fail) | fail) (by rfl)) rfl ?_))
  | ((with_reducible refine isA_mksl ?_); (first | refine y_a g_none rfl ?_ | refine y_a (g_some rfl rfl (by first | assumption | with_reducible exact gd1 (by assumption) | with_reducible exact gd2 (by assumption) | with_reducible exact gd3 (by assumption) | with_reducible exact gd4 (by assumption) | with_reducible rfl | rfl | ((first | with_reducible refine gd1 ?_ | with_reducible refine gd2 ?_ | with_reducible refine gd3 ?_ | with_reducible refine gd4 ?_); omega) | (simp only [*] <;> fail) | fail)) rfl ?_); (first | refine ey_i (b_make tabOk rfl rfl rfl rfl rfl rfl rfl rfl rfl rfl zcj zcj zle zle (by simp only [maxLen]; omega) rfl) rfl ?_))
  | ((with_reducible refine isA_defer ?_); (refine awl_defer rfl g_none rfl ?_))
  | ((with_reducible refine isA_conv ?_); (first | refine w_a g_none rfl ?_ | refine w_a (g_some rfl rfl (by first | assumption | with_reducible exact gd1 (by assumption) | with_reducible exact gd2 (by assumption) | with_reducible exact gd3 (by assumption) | with_reducible exact gd4 (by assumption) | with_reducible rfl | rfl | ((first | with_reducible refine gd1 ?_ | with_reducible refine gd2 ?_ | with_reducible refine gd3 ?_ | with_reducible refine gd4 ?_); omega) | (simp only [*] <;> fail) | fail)) rfl ?_); refine ew_i (a_toBytes tabOk rfl rfl rfl rfl rfl rfl rfl (by first | exact size_mk (by assumption) | assumption | rfl) (by first | exact toList_mk _ | assumption | rfl) (by first | (simp only [maxLen]; omega) | (simp [maxLen]; omega))) ?_)
  | (((with_reducible refine isA_any ?_); (first | refine x_a g_none rfl ?_ | refine x_a (g_some rfl rfl (by first | assumption | with_reducible exact gd1 (by assumption) | with_reducible exact gd2 (by assumption) | with_reducible exact gd3 (by assumption) | with_reducible exact gd4 (by assumption) | with_reducible rfl | rfl | ((first | with_reducible refine gd1 ?_ | with_reducible refine gd2 ?_ | with_reducible refine gd3 ?_ | with_reducible refine gd4 ?_); omega) | (simp only [*] <;> fail) | fail)) rfl ?_)); (first | ((with_reducible refine e_move ?_); (first | refine ex_i (s_move rfl) ?_)) | ((with_reducible refine e_load ?_); (first | refine ex_i (s_load1 tabOk rfl rfl rfl rfl (by first | rfl | fail)) ?_ | refine ex_i (s_load1r tabOk rfl rfl rfl rfl (by first | rfl | fail)) ?_ | refine ex_i (s_load1i tabOk rfl rfl rfl (by first | rfl | fail)) ?_ | refine ex_i (s_loadA tabOk rfl rfl rfl rfl rfl rfl (by first | exact IsAgg.closed rfl rfl | exact IsAgg.mixed _)) ?_ | refine ex_i (s_loadAr tabOk rfl rfl rfl rfl (by first | fail | exact whole0 (by first | rfl | omega) | rfl) zln) ?_ | refine ex_i (s_loadAi tabOk rfl rfl rfl (by first | fail | exact whole0 (by first | rfl | omega) | rfl) zln) ?_)) | ((with_reducible refine e_ixA ?_); (first | refine ex_i (s_ixC tabOk rfl rfl zcj rfl rfl rfl rfl zle) ?_ | refine ex_i (s_ixO tabOk rfl rfl zcj rfl rfl rfl rfl zle) ?_ | refine ex_i (s_ixA tabOk rfl rfl zcj rfl rfl rfl zle) ?_ | refine ex_i (s_ixAi tabOk rfl rfl zcj rfl rfl rfl zle) ?_)) | ((with_reducible refine e_bin (o := .add) ?_); (first | refine ex_i (s_arit64 rfl rfl rfl (by first | (simp only [Int.reduceAdd, Int.reduceSub, Int.reduceMul]; exact w64 (by omega) (by omega)) | exact w64 (by omega) (by omega) | exact wu64 (by omega) (by omega) | exact wu8 (by omega) (by omega) | rfl)) ?_ | refine ex_i (s_word rfl (by first | exact isW_rfl | exact isW_lit rfl) rfl (by first | exact isW_rfl | exact isW_lit rfl) rfl) ?_ | refine ex_i (s_arit rfl rfl rfl (by first | (simp only [Int.reduceAdd, Int.reduceSub, Int.reduceMul]; exact w64 (by omega) (by omega)) | exact w64 (by omega) (by omega) | exact wu64 (by omega) (by omega) | exact wu8 (by omega) (by omega) | rfl)) ?_)) | ((with_reducible refine e_bin (o := .sub) ?_); (first | refine ex_i (s_arit64 rfl rfl rfl (by first | (simp only [Int.reduceAdd, Int.reduceSub, Int.reduceMul]; exact w64 (by omega) (by omega)) | exact w64 (by omega) (by omega) | exact wu64 (by omega) (by omega) | exact wu8 (by omega) (by omega) | rfl)) ?_ | refine ex_i (s_word rfl (by first | exact isW_rfl | exact isW_lit rfl) rfl (by first | exact isW_rfl | exact isW_lit rfl) rfl) ?_ | refine ex_i (s_arit rfl rfl rfl (by first | (simp only [Int.reduceAdd, Int.reduceSub, Int.reduceMul]; exact w64 (by omega) (by omega)) | exact w64 (by omega) (by omega) | exact wu64 (by omega) (by omega) | exact wu8 (by omega) (by omega) | rfl)) ?_)) | ((with_reducible refine e_bin (o := .mul) ?_); (first | refine ex_i (s_arit64 rfl rfl rfl (by first | (simp only [Int.reduceAdd, Int.reduceSub, Int.reduceMul]; exact w64 (by omega) (by omega)) | exact w64 (by omega) (by omega) | exact wu64 (by omega) (by omega) | exact wu8 (by omega) (by omega) | rfl)) ?_ | refine ex_i (s_word rfl (by first | exact isW_rfl | exact isW_lit rfl) rfl (by first | exact isW_rfl | exact isW_lit rfl) rfl) ?_ | refine ex_i (s_arit rfl rfl rfl (by first | (simp only [Int.reduceAdd, Int.reduceSub, Int.reduceMul]; exact w64 (by omega) (by omega)) | exact w64 (by omega) (by omega) | exact wu64 (by omega) (by omega) | exact wu8 (by omega) (by omega) | rfl)) ?_)) | ((with_reducible refine e_bin (o := .eql) ?_); (first | refine ex_i (s_cmp rfl rfl rfl rfl) ?_ | refine ex_i (s_eqlB tabOk rfl rfl rfl rfl rfl) ?_ | refine ex_i (s_eqlS rfl rfl rfl) ?_)) | ((with_reducible refine e_bin (o := .neq) ?_); (first | refine ex_i (s_cmp rfl rfl rfl rfl) ?_ | refine ex_i (s_neqB tabOk rfl rfl rfl rfl rfl) ?_ | refine ex_i (s_neqS rfl rfl rfl) ?_)) | ((with_reducible refine e_bin (o := .lss) ?_); (first | refine ex_i (s_cmp rfl rfl rfl rfl) ?_)) | ((with_reducible refine e_bin (o := .leq) ?_); (first | refine ex_i (s_cmp rfl rfl rfl rfl) ?_)) | ((with_reducible refine e_bin (o := .gtr) ?_); (first | refine ex_i (s_cmp rfl rfl rfl rfl) ?_)) | ((with_reducible refine e_bin (o := .geq) ?_); (first | refine ex_i (s_cmp rfl rfl rfl rfl) ?_)) | ((with_reducible refine e_bin (o := .rem) ?_); (first | refine ex_i (s_rem (k := .i64) rfl rfl (by first | omega | decide) (by first | (simp only [Int.reduceTMod]; rfl) | exact r64 (by omega) | rfl)) ?_ | refine ex_i (s_rem rfl rfl (by first | omega | decide) (by first | (simp only [Int.reduceTMod]; rfl) | exact r64 (by omega) | rfl)) ?_)) | ((with_reducible refine e_bin (o := .quo) ?_); (first | refine ex_i (s_quo (k := .i64) rfl rfl (by first | omega | decide) (by first | exact q64 (by omega) (by omega) (by omega) | exact qu8 (by omega) (by omega) (by omega) | rfl)) ?_ | refine ex_i (s_quo rfl rfl (by first | omega | decide) (by first | exact q64 (by omega) (by omega) (by omega) | exact qu8 (by omega) (by omega) (by omega) | rfl)) ?_)) | ((with_reducible refine e_bin (o := .and) ?_); (first | refine ex_i (s_word rfl (by first | exact isW_rfl | exact isW_lit rfl) rfl (by first | exact isW_rfl | exact isW_lit rfl) rfl) ?_ | refine ex_i (s_and rfl rfl rfl) ?_)) | ((with_reducible refine e_bin (o := .or) ?_); (first | refine ex_i (s_word rfl (by first | exact isW_rfl | exact isW_lit rfl) rfl (by first | exact isW_rfl | exact isW_lit rfl) rfl) ?_ | refine ex_i (s_or rfl rfl rfl) ?_)) | ((with_reducible refine e_bin (o := .xor) ?_); (first | refine ex_i (s_word rfl (by first | exact isW_rfl | exact isW_lit rfl) rfl (by first | exact isW_rfl | exact isW_lit rfl) rfl) ?_ | refine ex_i (s_xor rfl rfl rfl) ?_)) | ((with_reducible refine e_bin (o := .andNot) ?_); (first | refine ex_i (s_andNot rfl rfl rfl) ?_)) | ((with_reducible refine e_bin (o := .shl) ?_); (first | refine ex_i (s_shlW rfl (by first | exact isW_rfl | exact isW_lit rfl) rfl zcj) ?_ | refine ex_i (s_shl rfl rfl zle rfl) ?_)) | ((with_reducible refine e_bin (o := .shr) ?_); (first | refine ex_i (s_shrW rfl (by first | exact isW_rfl | exact isW_lit rfl) rfl zcj) ?_ | refine ex_i (s_shr rfl rfl zle rfl) ?_)) | ((with_reducible refine e_assign ?_); (first | refine ex_i (s_assign rfl) ?_)) | ((with_reducible refine e_bi ?_); (first | refine ex_i (s_lenC tabOk rfl rfl rfl) ?_ | refine ex_i (s_lenO tabOk rfl rfl rfl) ?_ | refine ex_i (s_lenS tabOk rfl rfl rfl) ?_ | refine ex_i (s_lenN tabOk rfl rfl rfl) ?_ | refine ex_i (s_capN tabOk rfl rfl rfl) ?_ | refine ex_i (s_min rfl rfl rfl) ?_ | refine ex_i (s_max rfl rfl rfl) ?_)) | ((with_reducible refine e_un ?_); (first | refine ex_i (s_not rfl rfl) ?_ | refine ex_i (s_complW rfl (by first | exact isW_rfl | exact isW_lit rfl)) ?_ | refine ex_i (s_neg rfl (by first | exact w64 (by omega) (by omega) | rfl)) ?_ | refine ex_i (s_compl rfl rfl) ?_)) | ((with_reducible refine e_conv ?_); (first | refine ex_i (s_convWB rfl (by first | exact isW_rfl | exact isW_lit rfl) tabOk rfl rfl rfl) ?_ | refine ex_i (s_convWW rfl (by first | exact isW_rfl | exact isW_lit rfl) tabOk rfl rfl rfl) ?_ | refine ex_i (s_convBW rfl tabOk rfl rfl rfl) ?_ | refine ex_i (s_convIW rfl tabOk rfl rfl rfl) ?_ | refine ex_i (s_convInt tabOk rfl rfl rfl rfl (by first | (simp only [Int.reduceAdd, Int.reduceSub, Int.reduceMul]; exact w64 (by omega) (by omega)) | exact w64 (by omega) (by omega) | exact wu64 (by omega) (by omega) | exact wu8 (by omega) (by omega) | rfl)) ?_ | refine ex_i (s_convStr tabOk rfl rfl rfl rfl) ?_ | refine ex_i (s_toStr tabOk rfl rfl rfl rfl rfl rfl rfl (by first | exact frz_c cv_rfl | exact frz_c cv_nil | exact frz_ownW rfl rfl zln)) ?_)) | ((with_reducible refine e_fldA ?_); (first | refine ex_i (s_fieldAddr tabOk rfl rfl rfl rfl rfl rfl) ?_ | refine ex_i (s_fieldAddri tabOk rfl rfl rfl rfl rfl rfl) ?_)) | ((with_reducible refine e_fld ?_); (first | refine ex_i (s_field1 tabOk rfl rfl rfl rfl rfl rfl (by first | exact Parts.mixed _ | exact Parts.closed _) (by rfl)) ?_ | refine ex_i (s_fieldA tabOk rfl rfl rfl rfl rfl rfl (by first | exact Parts.mixed _ | exact Parts.closed _) (by rfl) (by first | exact IsAgg.closed rfl rfl | exact IsAgg.mixed _)) ?_)) | ((with_reducible refine e_ext ?_); (first | refine ex_i (s_extract rfl rfl) ?_)) | ((with_reducible refine e_slice ?_); (first | refine ex_i (s_slO0 tabOk rfl rfl rfl rfl zbd zle rfl rfl) ?_ | refine ex_i (s_slC tabOk rfl rfl rfl rfl zbd zbd zle zle rfl rfl) ?_ | refine ex_i (s_slO tabOk rfl rfl rfl rfl zbd zbd zle zle rfl) ?_ | refine ex_i (s_slArr tabOk rfl rfl rfl rfl zbd zbd zle zle (by decide)) ?_ | refine ex_i (s_slStr tabOk rfl rfl rfl zbd zbd zle zle) ?_ | refine ex_i (s_slArri tabOk rfl rfl rfl rfl zbd zbd zle zle (by decide) (by first | fail | exact whole0 (by first | rfl | omega) | rfl) zln) ?_ | refine ex_i (s_slN tabOk rfl rfl rfl zbd rfl) ?_ | refine ex_i (s_slOm tabOk rfl rfl rfl rfl rfl zbd zbd zle zle) ?_)) | ((with_reducible refine e_ix ?_); (first | refine ex_i (s_ixV1 tabOk rfl rfl zcj rfl rfl rfl rfl rfl zle (by first | rfl | fail)) ?_ | refine ex_i (s_ixStr tabOk rfl rfl zcj rfl rfl (by first | rfl | fail)) ?_)) | ((with_reducible refine e_build ?_); (first | refine ex_i (s_buildA tabOk rfl rfl rfl rfl (cellsLF_ok rfl) (by rfl) (by first | exact IsAgg.closed rfl rfl | exact IsAgg.mixed _)) ?_ | refine ex_i (s_build tabOk rfl rfl rfl rfl (cellsLF_ok rfl) (by rfl) (by first | exact IsAgg.closed rfl rfl | exact IsAgg.mixed _)) ?_)) | ((with_reducible refine e_pick ?_); (first | refine ex_i (s_pickT rfl rfl) ?_ | refine ex_i (s_pickF rfl rfl) ?_ | refine ex_i (s_pickTb rfl (by first | assumption | exact decide_eq_true (by omega) | (simp only [*] <;> fail) | fail) rfl) ?_ | refine ex_i (s_pickFb rfl (by first | assumption | exact decide_eq_false (by omega) | (simp only [*] <;> fail) | fail) rfl) ?_)) | ((with_reducible refine e_mkfn ?_); (first | refine ex_i (s_makeFunc rfl) ?_)) | ((with_reducible refine e_nil ?_); (first | refine ex_i (s_nilCheck rfl) ?_ | refine ex_i (s_nilChecki rfl) ?_))))
  | (with_reducible refine awl_nil ?_)
  | (with_reducible refine k_then ?_)
  | (with_reducible refine k_thenX ?_)
  | (with_reducible refine k_thenR ?_)
  | (with_reducible refine k_blk ?_)
  | (with_reducible refine k_blkR ?_)
  | (refine k_blkH rfl ?_)
  | (refine k_blkM rfl ?_)
  | ((with_reducible refine isA_g ?_); (refine a_skip (g_some rfl rfl (by first | rfl | ((first | with_reducible refine gd1 ?_ | with_reducible refine gd2 ?_ | with_reducible refine gd3 ?_ | with_reducible refine gd4 ?_); omega) | (simp only [*] <;> fail) | fail)) rfl ?_)))
  exact hq.out) : p := h ⟨hq⟩
theorem stD {p q : Prop} (hq : q) (h : Kept q → p := by
  intro hq
  (first
  | (refine drw_end (by kernel_rfl) (by kernel_rfl) (by kernel_rfl) rfl ?_)
  | ((with_reducible refine isDk_g ?_); (refine d_skip (g_some rfl rfl (by first | assumption | with_reducible exact gd1 (by assumption) | with_reducible exact gd2 (by assumption) | with_reducible exact gd3 (by assumption) | with_reducible exact gd4 (by assumption) | with_reducible rfl)) ?_))
  | ((with_reducible refine isD_bi ?_); (first | ((first | refine y_d g_none ?_ | refine y_d (g_some rfl rfl (by first | assumption | with_reducible exact gd1 (by assumption) | with_reducible exact gd2 (by assumption) | with_reducible exact gd3 (by assumption) | with_reducible exact gd4 (by assumption) | with_reducible rfl | rfl | ((first | with_reducible refine gd1 ?_ | with_reducible refine gd2 ?_ | with_reducible refine gd3 ?_ | with_reducible refine gd4 ?_); omega) | (simp only [*] <;> fail) | fail)) ?_); refine ey_i (b_appendN tabOk rfl rfl rfl rfl rfl rfl rfl rfl (by first | exact src_c | exact src_nil | exact src_ownW rfl zln) (by first | (simp only [maxLen]; omega) | (simp [maxLen]; omega)) zle) rfl ?_) | ((first | refine y_d g_none ?_ | refine y_d (g_some rfl rfl (by first | assumption | with_reducible exact gd1 (by assumption) | with_reducible exact gd2 (by assumption) | with_reducible exact gd3 (by assumption) | with_reducible exact gd4 (by assumption) | with_reducible rfl | rfl | ((first | with_reducible refine gd1 ?_ | with_reducible refine gd2 ?_ | with_reducible refine gd3 ?_ | with_reducible refine gd4 ?_); omega) | (simp only [*] <;> fail) | fail)) ?_); refine ey_i (a_appendZ tabOk rfl rfl rfl rfl rfl rfl rfl rfl rfl rfl rfl zcj zle (by first | (simp only [maxLen]; omega) | (simp [maxLen]; omega)) zle) rfl ?_)))
  | ((with_reducible refine isD_alloc ?_); (first | refine y_d g_none ?_ | refine y_d (g_some rfl rfl (by first | assumption | with_reducible exact gd1 (by assumption) | with_reducible exact gd2 (by assumption) | with_reducible exact gd3 (by assumption) | with_reducible exact gd4 (by assumption) | with_reducible rfl | rfl | ((first | with_reducible refine gd1 ?_ | with_reducible refine gd2 ?_ | with_reducible refine gd3 ?_ | with_reducible refine gd4 ?_); omega) | (simp only [*] <;> fail) | fail)) ?_); (first | refine ey_i (a_allocR tabOk rfl rfl rfl rfl) rfl ?_ | refine ey_i (a_alloc tabOk rfl rfl) rfl ?_))
  | ((with_reducible refine isD_box ?_); (first | refine y_d g_none ?_ | refine y_d (g_some rfl rfl (by first | assumption | with_reducible exact gd1 (by assumption) | with_reducible exact gd2 (by assumption) | with_reducible exact gd3 (by assumption) | with_reducible exact gd4 (by assumption) | with_reducible rfl | rfl | ((first | with_reducible refine gd1 ?_ | with_reducible refine gd2 ?_ | with_reducible refine gd3 ?_ | with_reducible refine gd4 ?_); omega) | (simp only [*] <;> fail) | fail)) ?_); (first | refine ey_i (a_boxR (tab := tab) rfl rfl rfl) rfl ?_ | refine ey_i (a_box1 rfl rfl) rfl ?_ | refine ey_i (a_boxA rfl (by first | exact Parts.mixed _ | exact Parts.closed _)) rfl ?_))
  | ((with_reducible refine isD_bslice ?_); (first | refine y_d g_none ?_ | refine y_d (g_some rfl rfl (by first | assumption | with_reducible exact gd1 (by assumption) | with_reducible exact gd2 (by assumption) | with_reducible exact gd3 (by assumption) | with_reducible exact gd4 (by assumption) | with_reducible rfl | rfl | ((first | with_reducible refine gd1 ?_ | with_reducible refine gd2 ?_ | with_reducible refine gd3 ?_ | with_reducible refine gd4 ?_); omega) | (simp only [*] <;> fail) | fail)) ?_); (first | refine ey_i (b_bslice0 tabOk rfl rfl rfl rfl rfl) rfl ?_ | refine ey_i (b_bslice tabOk rfl rfl rfl rfl rfl rfl rfl rfl rfl rfl rfl rfl (flatLF_ok rfl) (by first | rfl | exact all1 (by assumption) | (simp <;> fail) | fail) (by rfl)) rfl ?_))
  | ((with_reducible refine isD_mksl ?_); (first | refine y_d g_none ?_ | refine y_d (g_some rfl rfl (by first | assumption | with_reducible exact gd1 (by assumption) | with_reducible exact gd2 (by assumption) | with_reducible exact gd3 (by assumption) | with_reducible exact gd4 (by assumption) | with_reducible rfl | rfl | ((first | with_reducible refine gd1 ?_ | with_reducible refine gd2 ?_ | with_reducible refine gd3 ?_ | with_reducible refine gd4 ?_); omega) | (simp only [*] <;> fail) | fail)) ?_); (first | refine ey_i (b_make tabOk rfl rfl rfl rfl rfl rfl rfl rfl rfl rfl zcj zcj zle zle (by simp only [maxLen]; omega) rfl) rfl ?_))
  | ((with_reducible refine isD_conv ?_); (first | refine w_d g_none ?_ | refine w_d (g_some rfl rfl (by first | assumption | with_reducible exact gd1 (by assumption) | with_reducible exact gd2 (by assumption) | with_reducible exact gd3 (by assumption) | with_reducible exact gd4 (by assumption) | with_reducible rfl | rfl | ((first | with_reducible refine gd1 ?_ | with_reducible refine gd2 ?_ | with_reducible refine gd3 ?_ | with_reducible refine gd4 ?_); omega) | (simp only [*] <;> fail) | fail)) ?_); refine ew_i (a_toBytes tabOk rfl rfl rfl rfl rfl rfl rfl (by first | exact size_mk (by assumption) | assumption | rfl) (by first | exact toList_mk _ | assumption | rfl) (by first | (simp only [maxLen]; omega) | (simp [maxLen]; omega))) ?_)
  | (((with_reducible refine isDk_any ?_); (first | refine x_d g_none ?_ | refine x_d (g_some rfl rfl (by first | assumption | with_reducible exact gd1 (by assumption) | with_reducible exact gd2 (by assumption) | with_reducible exact gd3 (by assumption) | with_reducible exact gd4 (by assumption) | with_reducible rfl | rfl | ((first | with_reducible refine gd1 ?_ | with_reducible refine gd2 ?_ | with_reducible refine gd3 ?_ | with_reducible refine gd4 ?_); omega) | (simp only [*] <;> fail) | fail)) ?_)); (first | ((with_reducible refine e_move ?_); (first | refine ex_i (s_move rfl) ?_)) | ((with_reducible refine e_load ?_); (first | refine ex_i (s_load1 tabOk rfl rfl rfl rfl (by first | rfl | fail)) ?_ | refine ex_i (s_load1r tabOk rfl rfl rfl rfl (by first | rfl | fail)) ?_ | refine ex_i (s_load1i tabOk rfl rfl rfl (by first | rfl | fail)) ?_ | refine ex_i (s_loadA tabOk rfl rfl rfl rfl rfl rfl (by first | exact IsAgg.closed rfl rfl | exact IsAgg.mixed _)) ?_ | refine ex_i (s_loadAr tabOk rfl rfl rfl rfl (by first | fail | exact whole0 (by first | rfl | omega) | rfl) zln) ?_ | refine ex_i (s_loadAi tabOk rfl rfl rfl (by first | fail | exact whole0 (by first | rfl | omega) | rfl) zln) ?_)) | ((with_reducible refine e_ixA ?_); (first | refine ex_i (s_ixC tabOk rfl rfl zcj rfl rfl rfl rfl zle) ?_ | refine ex_i (s_ixO tabOk rfl rfl zcj rfl rfl rfl rfl zle) ?_ | refine ex_i (s_ixA tabOk rfl rfl zcj rfl rfl rfl zle) ?_ | refine ex_i (s_ixAi tabOk rfl rfl zcj rfl rfl rfl zle) ?_)) | ((with_reducible refine e_bin (o := .add) ?_); (first | refine ex_i (s_arit64 rfl rfl rfl (by first | (simp only [Int.reduceAdd, Int.reduceSub, Int.reduceMul]; exact w64 (by omega) (by omega)) | exact w64 (by omega) (by omega) | exact wu64 (by omega) (by omega) | exact wu8 (by omega) (by omega) | rfl)) ?_ | refine ex_i (s_word rfl (by first | exact isW_rfl | exact isW_lit rfl) rfl (by first | exact isW_rfl | exact isW_lit rfl) rfl) ?_ | refine ex_i (s_arit rfl rfl rfl (by first | (simp only [Int.reduceAdd, Int.reduceSub, Int.reduceMul]; exact w64 (by omega) (by omega)) | exact w64 (by omega) (by omega) | exact wu64 (by omega) (by omega) | exact wu8 (by omega) (by omega) | rfl)) ?_)) | ((with_reducible refine e_bin (o := .sub) ?_); (first | refine ex_i (s_arit64 rfl rfl rfl (by first | (simp only [Int.reduceAdd, Int.reduceSub, Int.reduceMul]; exact w64 (by omega) (by omega)) | exact w64 (by omega) (by omega) | exact wu64 (by omega) (by omega) | exact wu8 (by omega) (by omega) | rfl)) ?_ | refine ex_i (s_word rfl (by first | exact isW_rfl | exact isW_lit rfl) rfl (by first | exact isW_rfl | exact isW_lit rfl) rfl) ?_ | refine ex_i (s_arit rfl rfl rfl (by first | (simp only [Int.reduceAdd, Int.reduceSub, Int.reduceMul]; exact w64 (by omega) (by omega)) | exact w64 (by omega) (by omega) | exact wu64 (by omega) (by omega) | exact wu8 (by omega) (by omega) | rfl)) ?_)) | ((with_reducible refine e_bin (o := .mul) ?_); (first | refine ex_i (s_arit64 rfl rfl rfl (by first | (simp only [Int.reduceAdd, Int.reduceSub, Int.reduceMul]; exact w64 (by omega) (by omega)) | exact w64 (by omega) (by omega) | exact wu64 (by omega) (by omega) | exact wu8 (by omega) (by omega) | rfl)) ?_ | refine ex_i (s_word rfl (by first | exact isW_rfl | exact isW_lit rfl) rfl (by first | exact isW_rfl | exact isW_lit rfl) rfl) ?_ | refine ex_i (s_arit rfl rfl rfl (by first | (simp only [Int.reduceAdd, Int.reduceSub, Int.reduceMul]; exact w64 (by omega) (by omega)) | exact w64 (by omega) (by omega) | exact wu64 (by omega) (by omega) | exact wu8 (by omega) (by omega) | rfl)) ?_)) | ((with_reducible refine e_bin (o := .eql) ?_); (first | refine ex_i (s_cmp rfl rfl rfl rfl) ?_ | refine ex_i (s_eqlB tabOk rfl rfl rfl rfl rfl) ?_ | refine ex_i (s_eqlS rfl rfl rfl) ?_)) | ((with_reducible refine e_bin (o := .neq) ?_); (first | refine ex_i (s_cmp rfl rfl rfl rfl) ?_ | refine ex_i (s_neqB tabOk rfl rfl rfl rfl rfl) ?_ | refine ex_i (s_neqS rfl rfl rfl) ?_)) | ((with_reducible refine e_bin (o := .lss) ?_); (first | refine ex_i (s_cmp rfl rfl rfl rfl) ?_)) | ((with_reducible refine e_bin (o := .leq) ?_); (first | refine ex_i (s_cmp rfl rfl rfl rfl) ?_)) | ((with_reducible refine e_bin (o := .gtr) ?_); (first | refine ex_i (s_cmp rfl rfl rfl rfl) ?_)) | ((with_reducible refine e_bin (o := .geq) ?_); (first | refine ex_i (s_cmp rfl rfl rfl rfl) ?_)) | ((with_reducible refine e_bin (o := .rem) ?_); (first | refine ex_i (s_rem (k := .i64) rfl rfl (by first | omega | decide) (by first | (simp only [Int.reduceTMod]; rfl) | exact r64 (by omega) | rfl)) ?_ | refine ex_i (s_rem rfl rfl (by first | omega | decide) (by first | (simp only [Int.reduceTMod]; rfl) | exact r64 (by omega) | rfl)) ?_)) | ((with_reducible refine e_bin (o := .quo) ?_); (first | refine ex_i (s_quo (k := .i64) rfl rfl (by first | omega | decide) (by first | exact q64 (by omega) (by omega) (by omega) | exact qu8 (by omega) (by omega) (by omega) | rfl)) ?_ | refine ex_i (s_quo rfl rfl (by first | omega | decide) (by first | exact q64 (by omega) (by omega) (by omega) | exact qu8 (by omega) (by omega) (by omega) | rfl)) ?_)) | ((with_reducible refine e_bin (o := .and) ?_); (first | refine ex_i (s_word rfl (by first | exact isW_rfl | exact isW_lit rfl) rfl (by first | exact isW_rfl | exact isW_lit rfl) rfl) ?_ | refine ex_i (s_and rfl rfl rfl) ?_)) | ((with_reducible refine e_bin (o := .or) ?_); (first | refine ex_i (s_word rfl (by first | exact isW_rfl | exact isW_lit rfl) rfl (by first | exact isW_rfl | exact isW_lit rfl) rfl) ?_ | refine ex_i (s_or rfl rfl rfl) ?_)) | ((with_reducible refine e_bin (o := .xor) ?_); (first | refine ex_i (s_word rfl (by first | exact isW_rfl | exact isW_lit rfl) rfl (by first | exact isW_rfl | exact isW_lit rfl) rfl) ?_ | refine ex_i (s_xor rfl rfl rfl) ?_)) | ((with_reducible refine e_bin (o := .andNot) ?_); (first | refine ex_i (s_andNot rfl rfl rfl) ?_)) | ((with_reducible refine e_bin (o := .shl) ?_); (first | refine ex_i (s_shlW rfl (by first | exact isW_rfl | exact isW_lit rfl) rfl zcj) ?_ | refine ex_i (s_shl rfl rfl zle rfl) ?_)) | ((with_reducible refine e_bin (o := .shr) ?_); (first | refine ex_i (s_shrW rfl (by first | exact isW_rfl | exact isW_lit rfl) rfl zcj) ?_ | refine ex_i (s_shr rfl rfl zle rfl) ?_)) | ((with_reducible refine e_assign ?_); (first | refine ex_i (s_assign rfl) ?_)) | ((with_reducible refine e_bi ?_); (first | refine ex_i (s_lenC tabOk rfl rfl rfl) ?_ | refine ex_i (s_lenO tabOk rfl rfl rfl) ?_ | refine ex_i (s_lenS tabOk rfl rfl rfl) ?_ | refine ex_i (s_lenN tabOk rfl rfl rfl) ?_ | refine ex_i (s_capN tabOk rfl rfl rfl) ?_ | refine ex_i (s_min rfl rfl rfl) ?_ | refine ex_i (s_max rfl rfl rfl) ?_)) | ((with_reducible refine e_un ?_); (first | refine ex_i (s_not rfl rfl) ?_ | refine ex_i (s_complW rfl (by first | exact isW_rfl | exact isW_lit rfl)) ?_ | refine ex_i (s_neg rfl (by first | exact w64 (by omega) (by omega) | rfl)) ?_ | refine ex_i (s_compl rfl rfl) ?_)) | ((with_reducible refine e_conv ?_); (first | refine ex_i (s_convWB rfl (by first | exact isW_rfl | exact isW_lit rfl) tabOk rfl rfl rfl) ?_ | refine ex_i (s_convWW rfl (by first | exact isW_rfl | exact isW_lit rfl) tabOk rfl rfl rfl) ?_ | refine ex_i (s_convBW rfl tabOk rfl rfl rfl) ?_ | refine ex_i (s_convIW rfl tabOk rfl rfl rfl) ?_ | refine ex_i (s_convInt tabOk rfl rfl rfl rfl (by first | (simp only [Int.reduceAdd, Int.reduceSub, Int.reduceMul]; exact w64 (by omega) (by omega)) | exact w64 (by omega) (by omega) | exact wu64 (by omega) (by omega) | exact wu8 (by omega) (by omega) | rfl)) ?_ | refine ex_i (s_convStr tabOk rfl rfl rfl rfl) ?_ | refine ex_i (s_toStr tabOk rfl rfl rfl rfl rfl rfl rfl (by first | exact frz_c cv_rfl | exact frz_c cv_nil | exact frz_ownW rfl rfl zln)) ?_)) | ((with_reducible refine e_fldA ?_); (first | refine ex_i (s_fieldAddr tabOk rfl rfl rfl rfl rfl rfl) ?_ | refine ex_i (s_fieldAddri tabOk rfl rfl rfl rfl rfl rfl) ?_)) | ((with_reducible refine e_fld ?_); (first | refine ex_i (s_field1 tabOk rfl rfl rfl rfl rfl rfl (by first | exact Parts.mixed _ | exact Parts.closed _) (by rfl)) ?_ | refine ex_i (s_fieldA tabOk rfl rfl rfl rfl rfl rfl (by first | exact Parts.mixed _ | exact Parts.closed _) (by rfl) (by first | exact IsAgg.closed rfl rfl | exact IsAgg.mixed _)) ?_)) | ((with_reducible refine e_ext ?_); (first | refine ex_i (s_extract rfl rfl) ?_)) | ((with_reducible refine e_slice ?_); (first | refine ex_i (s_slO0 tabOk rfl rfl rfl rfl zbd zle rfl rfl) ?_ | refine ex_i (s_slC tabOk rfl rfl rfl rfl zbd zbd zle zle rfl rfl) ?_ | refine ex_i (s_slO tabOk rfl rfl rfl rfl zbd zbd zle zle rfl) ?_ | refine ex_i (s_slArr tabOk rfl rfl rfl rfl zbd zbd zle zle (by decide)) ?_ | refine ex_i (s_slStr tabOk rfl rfl rfl zbd zbd zle zle) ?_ | refine ex_i (s_slArri tabOk rfl rfl rfl rfl zbd zbd zle zle (by decide) (by first | fail | exact whole0 (by first | rfl | omega) | rfl) zln) ?_ | refine ex_i (s_slN tabOk rfl rfl rfl zbd rfl) ?_ | refine ex_i (s_slOm tabOk rfl rfl rfl rfl rfl zbd zbd zle zle) ?_)) | ((with_reducible refine e_ix ?_); (first | refine ex_i (s_ixV1 tabOk rfl rfl zcj rfl rfl rfl rfl rfl zle (by first | rfl | fail)) ?_ | refine ex_i (s_ixStr tabOk rfl rfl zcj rfl rfl (by first | rfl | fail)) ?_)) | ((with_reducible refine e_build ?_); (first | refine ex_i (s_buildA tabOk rfl rfl rfl rfl (cellsLF_ok rfl) (by rfl) (by first | exact IsAgg.closed rfl rfl | exact IsAgg.mixed _)) ?_ | refine ex_i (s_build tabOk rfl rfl rfl rfl (cellsLF_ok rfl) (by rfl) (by first | exact IsAgg.closed rfl rfl | exact IsAgg.mixed _)) ?_)) | ((with_reducible refine e_pick ?_); (first | refine ex_i (s_pickT rfl rfl) ?_ | refine ex_i (s_pickF rfl rfl) ?_ | refine ex_i (s_pickTb rfl (by first | assumption | exact decide_eq_true (by omega) | (simp only [*] <;> fail) | fail) rfl) ?_ | refine ex_i (s_pickFb rfl (by first | assumption | exact decide_eq_false (by omega) | (simp only [*] <;> fail) | fail) rfl) ?_)) | ((with_reducible refine e_mkfn ?_); (first | refine ex_i (s_makeFunc rfl) ?_)) | ((with_reducible refine e_nil ?_); (first | refine ex_i (s_nilCheck rfl) ?_ | refine ex_i (s_nilChecki rfl) ?_))))
  | ((with_reducible refine isDk_g ?_); (refine d_skip (g_some rfl rfl (by first | rfl | ((first | with_reducible refine gd1 ?_ | with_reducible refine gd2 ?_ | with_reducible refine gd3 ?_ | with_reducible refine gd4 ?_); omega) | (simp only [*] <;> fail) | fail)) ?_)))
  exact hq.out) : p := h ⟨hq⟩
theorem stE {p q : Prop} (hq : q) (h : Kept q → p := by
  intro hq
  (first
  | (refine drwE_end (by kernel_rfl) (by kernel_rfl) (by kernel_rfl) (by kernel_rfl) rfl ?_)
  | ((with_reducible refine isEk_g ?_); (refine e_skip (g_some rfl rfl (by first | assumption | with_reducible exact gd1 (by assumption) | with_reducible exact gd2 (by assumption) | with_reducible exact gd3 (by assumption) | with_reducible exact gd4 (by assumption) | with_reducible rfl)) ?_))
  | ((with_reducible refine isE_bi ?_); (first | (refine d_append tabOk g_none rfl rfl rfl rfl rfl rfl rfl rfl rfl zln rfl (by first | exact src_c | exact src_nil | exact src_ownW rfl zln) (by first | (simp only [maxLen]; omega) | (simp [maxLen]; omega)) zle rfl ?_) | (refine d_append tabOk (g_some rfl rfl (by first | assumption | with_reducible exact gd1 (by assumption) | with_reducible exact gd2 (by assumption) | with_reducible exact gd3 (by assumption) | with_reducible exact gd4 (by assumption) | with_reducible rfl | rfl | ((first | with_reducible refine gd1 ?_ | with_reducible refine gd2 ?_ | with_reducible refine gd3 ?_ | with_reducible refine gd4 ?_); omega) | (simp only [*] <;> fail) | fail)) rfl rfl rfl rfl rfl rfl rfl rfl rfl zln rfl (by first | exact src_c | exact src_nil | exact src_ownW rfl zln) (by first | (simp only [maxLen]; omega) | (simp [maxLen]; omega)) zle rfl ?_) | ((first | refine y_e g_none rfl rfl ?_ | refine y_e (g_some rfl rfl (by first | assumption | with_reducible exact gd1 (by assumption) | with_reducible exact gd2 (by assumption) | with_reducible exact gd3 (by assumption) | with_reducible exact gd4 (by assumption) | with_reducible rfl | rfl | ((first | with_reducible refine gd1 ?_ | with_reducible refine gd2 ?_ | with_reducible refine gd3 ?_ | with_reducible refine gd4 ?_); omega) | (simp only [*] <;> fail) | fail)) rfl rfl ?_); refine ey_i (b_appendN tabOk rfl rfl rfl rfl rfl rfl rfl rfl (by first | exact src_c | exact src_nil | exact src_ownW rfl zln) (by first | (simp only [maxLen]; omega) | (simp [maxLen]; omega)) zle) rfl ?_) | ((first | refine y_e g_none rfl rfl ?_ | refine y_e (g_some rfl rfl (by first | assumption | with_reducible exact gd1 (by assumption) | with_reducible exact gd2 (by assumption) | with_reducible exact gd3 (by assumption) | with_reducible exact gd4 (by assumption) | with_reducible rfl | rfl | ((first | with_reducible refine gd1 ?_ | with_reducible refine gd2 ?_ | with_reducible refine gd3 ?_ | with_reducible refine gd4 ?_); omega) | (simp only [*] <;> fail) | fail)) rfl rfl ?_); refine ey_i (a_appendZ tabOk rfl rfl rfl rfl rfl rfl rfl rfl rfl rfl rfl zcj zle (by first | (simp only [maxLen]; omega) | (simp [maxLen]; omega)) zle) rfl ?_)))
  | ((with_reducible refine isE_store ?_); (first | (refine d_store1 tabOk g_none rfl rfl rfl rfl rfl rfl rfl rfl rfl rfl ?_) | (refine d_store1r tabOk g_none rfl rfl rfl rfl rfl rfl rfl rfl rfl rfl ?_) | (refine d_store1rL tabOk g_none rfl rfl rfl rfl rfl rfl rfl rfl zle rfl ?_) | (refine d_storeA tabOk g_none rfl rfl rfl rfl rfl (by first | exact Parts.mixed _ | exact Parts.closed _) (by rfl) (by rfl) rfl (Nat.le_of_ble_eq_true rfl) (by rfl) rfl ?_) | (refine d_storeAr tabOk g_none rfl rfl rfl rfl rfl zln rfl zle (by first | exact lay_whole _ _ zln | rfl) rfl ?_)))
  | ((with_reducible refine isE_alloc ?_); (first | refine y_e g_none rfl rfl ?_ | refine y_e (g_some rfl rfl (by first | assumption | with_reducible exact gd1 (by assumption) | with_reducible exact gd2 (by assumption) | with_reducible exact gd3 (by assumption) | with_reducible exact gd4 (by assumption) | with_reducible rfl | rfl | ((first | with_reducible refine gd1 ?_ | with_reducible refine gd2 ?_ | with_reducible refine gd3 ?_ | with_reducible refine gd4 ?_); omega) | (simp only [*] <;> fail) | fail)) rfl rfl ?_); (first | refine ey_i (a_allocR tabOk rfl rfl rfl rfl) rfl ?_ | refine ey_i (a_alloc tabOk rfl rfl) rfl ?_))
  | ((with_reducible refine isE_box ?_); (first | refine y_e g_none rfl rfl ?_ | refine y_e (g_some rfl rfl (by first | assumption | with_reducible exact gd1 (by assumption) | with_reducible exact gd2 (by assumption) | with_reducible exact gd3 (by assumption) | with_reducible exact gd4 (by assumption) | with_reducible rfl | rfl | ((first | with_reducible refine gd1 ?_ | with_reducible refine gd2 ?_ | with_reducible refine gd3 ?_ | with_reducible refine gd4 ?_); omega) | (simp only [*] <;> fail) | fail)) rfl rfl ?_); (first | refine ey_i (a_boxR (tab := tab) rfl rfl rfl) rfl ?_ | refine ey_i (a_box1 rfl rfl) rfl ?_ | refine ey_i (a_boxA rfl (by first | exact Parts.mixed _ | exact Parts.closed _)) rfl ?_))
  | ((with_reducible refine isE_bslice ?_); (first | refine y_e g_none rfl rfl ?_ | refine y_e (g_some rfl rfl (by first | assumption | with_reducible exact gd1 (by assumption) | with_reducible exact gd2 (by assumption) | with_reducible exact gd3 (by assumption) | with_reducible exact gd4 (by assumption) | with_reducible rfl | rfl | ((first | with_reducible refine gd1 ?_ | with_reducible refine gd2 ?_ | with_reducible refine gd3 ?_ | with_reducible refine gd4 ?_); omega) | (simp only [*] <;> fail) | fail)) rfl rfl ?_); (first | refine ey_i (b_bslice0 tabOk rfl rfl rfl rfl rfl) rfl ?_ | refine ey_i (b_bslice tabOk rfl rfl rfl rfl rfl rfl rfl rfl rfl rfl rfl rfl (flatLF_ok rfl) (by first | rfl | exact all1 (by assumption) | (simp <;> fail) | fail) (by rfl)) rfl ?_))
  | ((with_reducible refine isE_mksl ?_); (first | refine y_e g_none rfl rfl ?_ | refine y_e (g_some rfl rfl (by first | assumption | with_reducible exact gd1 (by assumption) | with_reducible exact gd2 (by assumption) | with_reducible exact gd3 (by assumption) | with_reducible exact gd4 (by assumption) | with_reducible rfl | rfl | ((first | with_reducible refine gd1 ?_ | with_reducible refine gd2 ?_ | with_reducible refine gd3 ?_ | with_reducible refine gd4 ?_); omega) | (simp only [*] <;> fail) | fail)) rfl rfl ?_); (first | refine ey_i (b_make tabOk rfl rfl rfl rfl rfl rfl rfl rfl rfl rfl zcj zcj zle zle (by simp only [maxLen]; omega) rfl) rfl ?_))
  | ((with_reducible refine isE_conv ?_); (first | refine w_e g_none rfl rfl ?_ | refine w_e (g_some rfl rfl (by first | assumption | with_reducible exact gd1 (by assumption) | with_reducible exact gd2 (by assumption) | with_reducible exact gd3 (by assumption) | with_reducible exact gd4 (by assumption) | with_reducible rfl | rfl | ((first | with_reducible refine gd1 ?_ | with_reducible refine gd2 ?_ | with_reducible refine gd3 ?_ | with_reducible refine gd4 ?_); omega) | (simp only [*] <;> fail) | fail)) rfl rfl ?_); refine ew_i (a_toBytes tabOk rfl rfl rfl rfl rfl rfl rfl (by first | exact size_mk (by assumption) | assumption | rfl) (by first | exact toList_mk _ | assumption | rfl) (by first | (simp only [maxLen]; omega) | (simp [maxLen]; omega))) ?_)
  | (((with_reducible refine isEk_any ?_); (first | refine x_e g_none rfl rfl ?_ | refine x_e (g_some rfl rfl (by first | assumption | with_reducible exact gd1 (by assumption) | with_reducible exact gd2 (by assumption) | with_reducible exact gd3 (by assumption) | with_reducible exact gd4 (by assumption) | with_reducible rfl | rfl | ((first | with_reducible refine gd1 ?_ | with_reducible refine gd2 ?_ | with_reducible refine gd3 ?_ | with_reducible refine gd4 ?_); omega) | (simp only [*] <;> fail) | fail)) rfl rfl ?_)); (first | ((with_reducible refine e_move ?_); (first | refine ex_i (s_move rfl) ?_)) | ((with_reducible refine e_load ?_); (first | refine ex_i (s_load1 tabOk rfl rfl rfl rfl (by first | rfl | fail)) ?_ | refine ex_i (s_load1r tabOk rfl rfl rfl rfl (by first | rfl | fail)) ?_ | refine ex_i (s_load1i tabOk rfl rfl rfl (by first | rfl | fail)) ?_ | refine ex_i (s_loadA tabOk rfl rfl rfl rfl rfl rfl (by first | exact IsAgg.closed rfl rfl | exact IsAgg.mixed _)) ?_ | refine ex_i (s_loadAr tabOk rfl rfl rfl rfl (by first | fail | exact whole0 (by first | rfl | omega) | rfl) zln) ?_ | refine ex_i (s_loadAi tabOk rfl rfl rfl (by first | fail | exact whole0 (by first | rfl | omega) | rfl) zln) ?_)) | ((with_reducible refine e_ixA ?_); (first | refine ex_i (s_ixC tabOk rfl rfl zcj rfl rfl rfl rfl zle) ?_ | refine ex_i (s_ixO tabOk rfl rfl zcj rfl rfl rfl rfl zle) ?_ | refine ex_i (s_ixA tabOk rfl rfl zcj rfl rfl rfl zle) ?_ | refine ex_i (s_ixAi tabOk rfl rfl zcj rfl rfl rfl zle) ?_)) | ((with_reducible refine e_bin (o := .add) ?_); (first | refine ex_i (s_arit64 rfl rfl rfl (by first | (simp only [Int.reduceAdd, Int.reduceSub, Int.reduceMul]; exact w64 (by omega) (by omega)) | exact w64 (by omega) (by omega) | exact wu64 (by omega) (by omega) | exact wu8 (by omega) (by omega) | rfl)) ?_ | refine ex_i (s_word rfl (by first | exact isW_rfl | exact isW_lit rfl) rfl (by first | exact isW_rfl | exact isW_lit rfl) rfl) ?_ | refine ex_i (s_arit rfl rfl rfl (by first | (simp only [Int.reduceAdd, Int.reduceSub, Int.reduceMul]; exact w64 (by omega) (by omega)) | exact w64 (by omega) (by omega) | exact wu64 (by omega) (by omega) | exact wu8 (by omega) (by omega) | rfl)) ?_)) | ((with_reducible refine e_bin (o := .sub) ?_); (first | refine ex_i (s_arit64 rfl rfl rfl (by first | (simp only [Int.reduceAdd, Int.reduceSub, Int.reduceMul]; exact w64 (by omega) (by omega)) | exact w64 (by omega) (by omega) | exact wu64 (by omega) (by omega) | exact wu8 (by omega) (by omega) | rfl)) ?_ | refine ex_i (s_word rfl (by first | exact isW_rfl | exact isW_lit rfl) rfl (by first | exact isW_rfl | exact isW_lit rfl) rfl) ?_ | refine ex_i (s_arit rfl rfl rfl (by first | (simp only [Int.reduceAdd, Int.reduceSub, Int.reduceMul]; exact w64 (by omega) (by omega)) | exact w64 (by omega) (by omega) | exact wu64 (by omega) (by omega) | exact wu8 (by omega) (by omega) | rfl)) ?_)) | ((with_reducible refine e_bin (o := .mul) ?_); (first | refine ex_i (s_arit64 rfl rfl rfl (by first | (simp only [Int.reduceAdd, Int.reduceSub, Int.reduceMul]; exact w64 (by omega) (by omega)) | exact w64 (by omega) (by omega) | exact wu64 (by omega) (by omega) | exact wu8 (by omega) (by omega) | rfl)) ?_ | refine ex_i (s_word rfl (by first | exact isW_rfl | exact isW_lit rfl) rfl (by first | exact isW_rfl | exact isW_lit rfl) rfl) ?_ | refine ex_i (s_arit rfl rfl rfl (by first | (simp only [Int.reduceAdd, Int.reduceSub, Int.reduceMul]; exact w64 (by omega) (by omega)) | exact w64 (by omega) (by omega) | exact wu64 (by omega) (by omega) | exact wu8 (by omega) (by omega) | rfl)) ?_)) | ((with_reducible refine e_bin (o := .eql) ?_); (first | refine ex_i (s_cmp rfl rfl rfl rfl) ?_ | refine ex_i (s_eqlB tabOk rfl rfl rfl rfl rfl) ?_ | refine ex_i (s_eqlS rfl rfl rfl) ?_)) | ((with_reducible refine e_bin (o := .neq) ?_); (first | refine ex_i (s_cmp rfl rfl rfl rfl) ?_ | refine ex_i (s_neqB tabOk rfl rfl rfl rfl rfl) ?_ | refine ex_i (s_neqS rfl rfl rfl) ?_)) | ((with_reducible refine e_bin (o := .lss) ?_); (first | refine ex_i (s_cmp rfl rfl rfl rfl) ?_)) | ((with_reducible refine e_bin (o := .leq) ?_); (first | refine ex_i (s_cmp rfl rfl rfl rfl) ?_)) | ((with_reducible refine e_bin (o := .gtr) ?_); (first | refine ex_i (s_cmp rfl rfl rfl rfl) ?_)) | ((with_reducible refine e_bin (o := .geq) ?_); (first | refine ex_i (s_cmp rfl rfl rfl rfl) ?_)) | ((with_reducible refine e_bin (o := .rem) ?_); (first | refine ex_i (s_rem (k := .i64) rfl rfl (by first | omega | decide) (by first | (simp only [Int.reduceTMod]; rfl) | exact r64 (by omega) | rfl)) ?_ | refine ex_i (s_rem rfl rfl (by first | omega | decide) (by first | (simp only [Int.reduceTMod]; rfl) | exact r64 (by omega) | rfl)) ?_)) | ((with_reducible refine e_bin (o := .quo) ?_); (first | refine ex_i (s_quo (k := .i64) rfl rfl (by first | omega | decide) (by first | exact q64 (by omega) (by omega) (by omega) | exact qu8 (by omega) (by omega) (by omega) | rfl)) ?_ | refine ex_i (s_quo rfl rfl (by first | omega | decide) (by first | exact q64 (by omega) (by omega) (by omega) | exact qu8 (by omega) (by omega) (by omega) | rfl)) ?_)) | ((with_reducible refine e_bin (o := .and) ?_); (first | refine ex_i (s_word rfl (by first | exact isW_rfl | exact isW_lit rfl) rfl (by first | exact isW_rfl | exact isW_lit rfl) rfl) ?_ | refine ex_i (s_and rfl rfl rfl) ?_)) | ((with_reducible refine e_bin (o := .or) ?_); (first | refine ex_i (s_word rfl (by first | exact isW_rfl | exact isW_lit rfl) rfl (by first | exact isW_rfl | exact isW_lit rfl) rfl) ?_ | refine ex_i (s_or rfl rfl rfl) ?_)) | ((with_reducible refine e_bin (o := .xor) ?_); (first | refine ex_i (s_word rfl (by first | exact isW_rfl | exact isW_lit rfl) rfl (by first | exact isW_rfl | exact isW_lit rfl) rfl) ?_ | refine ex_i (s_xor rfl rfl rfl) ?_)) | ((with_reducible refine e_bin (o := .andNot) ?_); (first | refine ex_i (s_andNot rfl rfl rfl) ?_)) | ((with_reducible refine e_bin (o := .shl) ?_); (first | refine ex_i (s_shlW rfl (by first | exact isW_rfl | exact isW_lit rfl) rfl zcj) ?_ | refine ex_i (s_shl rfl rfl zle rfl) ?_)) | ((with_reducible refine e_bin (o := .shr) ?_); (first | refine ex_i (s_shrW rfl (by first | exact isW_rfl | exact isW_lit rfl) rfl zcj) ?_ | refine ex_i (s_shr rfl rfl zle rfl) ?_)) | ((with_reducible refine e_assign ?_); (first | refine ex_i (s_assign rfl) ?_)) | ((with_reducible refine e_bi ?_); (first | refine ex_i (s_lenC tabOk rfl rfl rfl) ?_ | refine ex_i (s_lenO tabOk rfl rfl rfl) ?_ | refine ex_i (s_lenS tabOk rfl rfl rfl) ?_ | refine ex_i (s_lenN tabOk rfl rfl rfl) ?_ | refine ex_i (s_capN tabOk rfl rfl rfl) ?_ | refine ex_i (s_min rfl rfl rfl) ?_ | refine ex_i (s_max rfl rfl rfl) ?_)) | ((with_reducible refine e_un ?_); (first | refine ex_i (s_not rfl rfl) ?_ | refine ex_i (s_complW rfl (by first | exact isW_rfl | exact isW_lit rfl)) ?_ | refine ex_i (s_neg rfl (by first | exact w64 (by omega) (by omega) | rfl)) ?_ | refine ex_i (s_compl rfl rfl) ?_)) | ((with_reducible refine e_conv ?_); (first | refine ex_i (s_convWB rfl (by first | exact isW_rfl | exact isW_lit rfl) tabOk rfl rfl rfl) ?_ | refine ex_i (s_convWW rfl (by first | exact isW_rfl | exact isW_lit rfl) tabOk rfl rfl rfl) ?_ | refine ex_i (s_convBW rfl tabOk rfl rfl rfl) ?_ | refine ex_i (s_convIW rfl tabOk rfl rfl rfl) ?_ | refine ex_i (s_convInt tabOk rfl rfl rfl rfl (by first | (simp only [Int.reduceAdd, Int.reduceSub, Int.reduceMul]; exact w64 (by omega) (by omega)) | exact w64 (by omega) (by omega) | exact wu64 (by omega) (by omega) | exact wu8 (by omega) (by omega) | rfl)) ?_ | refine ex_i (s_convStr tabOk rfl rfl rfl rfl) ?_ | refine ex_i (s_toStr tabOk rfl rfl rfl rfl rfl rfl rfl (by first | exact frz_c cv_rfl | exact frz_c cv_nil | exact frz_ownW rfl rfl zln)) ?_)) | ((with_reducible refine e_fldA ?_); (first | refine ex_i (s_fieldAddr tabOk rfl rfl rfl rfl rfl rfl) ?_ | refine ex_i (s_fieldAddri tabOk rfl rfl rfl rfl rfl rfl) ?_)) | ((with_reducible refine e_fld ?_); (first | refine ex_i (s_field1 tabOk rfl rfl rfl rfl rfl rfl (by first | exact Parts.mixed _ | exact Parts.closed _) (by rfl)) ?_ | refine ex_i (s_fieldA tabOk rfl rfl rfl rfl rfl rfl (by first | exact Parts.mixed _ | exact Parts.closed _) (by rfl) (by first | exact IsAgg.closed rfl rfl | exact IsAgg.mixed _)) ?_)) | ((with_reducible refine e_ext ?_); (first | refine ex_i (s_extract rfl rfl) ?_)) | ((with_reducible refine e_slice ?_); (first | refine ex_i (s_slO0 tabOk rfl rfl rfl rfl zbd zle rfl rfl) ?_ | refine ex_i (s_slC tabOk rfl rfl rfl rfl zbd zbd zle zle rfl rfl) ?_ | refine ex_i (s_slO tabOk rfl rfl rfl rfl zbd zbd zle zle rfl) ?_ | refine ex_i (s_slArr tabOk rfl rfl rfl rfl zbd zbd zle zle (by decide)) ?_ | refine ex_i (s_slStr tabOk rfl rfl rfl zbd zbd zle zle) ?_ | refine ex_i (s_slArri tabOk rfl rfl rfl rfl zbd zbd zle zle (by decide) (by first | fail | exact whole0 (by first | rfl | omega) | rfl) zln) ?_ | refine ex_i (s_slN tabOk rfl rfl rfl zbd rfl) ?_ | refine ex_i (s_slOm tabOk rfl rfl rfl rfl rfl zbd zbd zle zle) ?_)) | ((with_reducible refine e_ix ?_); (first | refine ex_i (s_ixV1 tabOk rfl rfl zcj rfl rfl rfl rfl rfl zle (by first | rfl | fail)) ?_ | refine ex_i (s_ixStr tabOk rfl rfl zcj rfl rfl (by first | rfl | fail)) ?_)) | ((with_reducible refine e_build ?_); (first | refine ex_i (s_buildA tabOk rfl rfl rfl rfl (cellsLF_ok rfl) (by rfl) (by first | exact IsAgg.closed rfl rfl | exact IsAgg.mixed _)) ?_ | refine ex_i (s_build tabOk rfl rfl rfl rfl (cellsLF_ok rfl) (by rfl) (by first | exact IsAgg.closed rfl rfl | exact IsAgg.mixed _)) ?_)) | ((with_reducible refine e_pick ?_); (first | refine ex_i (s_pickT rfl rfl) ?_ | refine ex_i (s_pickF rfl rfl) ?_ | refine ex_i (s_pickTb rfl (by first | assumption | exact decide_eq_true (by omega) | (simp only [*] <;> fail) | fail) rfl) ?_ | refine ex_i (s_pickFb rfl (by first | assumption | exact decide_eq_false (by omega) | (simp only [*] <;> fail) | fail) rfl) ?_)) | ((with_reducible refine e_mkfn ?_); (first | refine ex_i (s_makeFunc rfl) ?_)) | ((with_reducible refine e_nil ?_); (first | refine ex_i (s_nilCheck rfl) ?_ | refine ex_i (s_nilChecki rfl) ?_))))
  | ((with_reducible refine isEk_g ?_); (refine e_skip (g_some rfl rfl (by first | rfl | ((first | with_reducible refine gd1 ?_ | with_reducible refine gd2 ?_ | with_reducible refine gd3 ?_ | with_reducible refine gd4 ?_); omega) | (simp only [*] <;> fail) | fail)) ?_)))
  exact hq.out) : p := h ⟨hq⟩
section
variable {P : Program} {ops : Array Oper} {sz n n0 i m t : Nat} {K : AK} {env env0 : Env} {h h0 hr : Heap} {es : List Eat} {ids : List Nat} {dfs : Defs} {rest l : List Oper} {op : Op} {ty : TypeId} {pos : String} {aft : Array Edge} {gd : Option (Nat × Bool)} {f : FuncId} {xs : List Operand} {ats : Array TypeId}
theorem xA (hh : ∃ v, Still P ⟨some t, op, ty, pos, aft, gd⟩ (evA env) h v ∧ AWL P ops sz rest K n ((t, v) :: env) h dfs) (hg : guardA ops env ⟨some t, op, ty, pos, aft, gd⟩ true := by first | exact g_none | exact (g_some rfl rfl (by first | assumption | with_reducible exact gd1 (by assumption) | with_reducible exact gd2 (by assumption) | with_reducible exact gd3 (by assumption) | with_reducible exact gd4 (by assumption) | with_reducible rfl | rfl | ((first | with_reducible refine gd1 ?_ | with_reducible refine gd2 ?_ | with_reducible refine gd3 ?_ | with_reducible refine gd4 ?_); omega) | (simp only [*] <;> fail) | fail))) (hd : Nat.blt t sz = true := by rfl) : AWL P ops sz (⟨some t, op, ty, pos, aft, gd⟩ :: rest) K n env h dfs := x_a hg hd hh
theorem xD (hh : ∃ v, Still P ⟨some t, op, ty, pos, aft, gd⟩ (evT (Oper.looksAt l.toArray ⟨some t, op, ty, pos, aft, gd⟩) env) h v ∧ Drw P l sz K dfs i n0 env0 h0 m rest n ((t, v) :: env) h) (hg : guardA l.toArray env ⟨some t, op, ty, pos, aft, gd⟩ true := by first | exact g_none | exact (g_some rfl rfl (by first | assumption | with_reducible exact gd1 (by assumption) | with_reducible exact gd2 (by assumption) | with_reducible exact gd3 (by assumption) | with_reducible exact gd4 (by assumption) | with_reducible rfl | rfl | ((first | with_reducible refine gd1 ?_ | with_reducible refine gd2 ?_ | with_reducible refine gd3 ?_ | with_reducible refine gd4 ?_); omega) | (simp only [*] <;> fail) | fail))) : Drw P l sz K dfs i n0 env0 h0 (m + 1) (⟨some t, op, ty, pos, aft, gd⟩ :: rest) n env h := x_d hg hh
theorem xE (hh : ∃ v, Still P ⟨some t, op, ty, pos, aft, gd⟩ (evT (Oper.looksAt l.toArray ⟨some t, op, ty, pos, aft, gd⟩) env) hr v ∧ DrwE P l sz K dfs i n0 env0 h0 (es ++ [(ids, none)]) m rest n ((t, v) :: env) h) (hg : guardA l.toArray env ⟨some t, op, ty, pos, aft, gd⟩ true := by first | exact g_none | exact (g_some rfl rfl (by first | assumption | with_reducible exact gd1 (by assumption) | with_reducible exact gd2 (by assumption) | with_reducible exact gd3 (by assumption) | with_reducible exact gd4 (by assumption) | with_reducible rfl | rfl | ((first | with_reducible refine gd1 ?_ | with_reducible refine gd2 ?_ | with_reducible refine gd3 ?_ | with_reducible refine gd4 ?_); omega) | (simp only [*] <;> fail) | fail))) (hi : idsF env (Oper.looksAt l.toArray ⟨some t, op, ty, pos, aft, gd⟩) = some ids := by rfl) (hf : filtF ids h = some hr := by rfl) : DrwE P l sz K dfs i n0 env0 h0 es (m + 1) (⟨some t, op, ty, pos, aft, gd⟩ :: rest) n env h := x_e hg hi hf hh
theorem wA (hh : ∃ v, Adds P ⟨some t, op, ty, pos, aft, gd⟩ (evA env) h v [] n n ∧ AWL P ops sz rest K n ((t, v) :: env) h dfs) (hg : guardA ops env ⟨some t, op, ty, pos, aft, gd⟩ true := by first | exact g_none | exact (g_some rfl rfl (by first | assumption | with_reducible exact gd1 (by assumption) | with_reducible exact gd2 (by assumption) | with_reducible exact gd3 (by assumption) | with_reducible exact gd4 (by assumption) | with_reducible rfl | rfl | ((first | with_reducible refine gd1 ?_ | with_reducible refine gd2 ?_ | with_reducible refine gd3 ?_ | with_reducible refine gd4 ?_); omega) | (simp only [*] <;> fail) | fail))) (hd : Nat.blt t sz = true := by rfl) : AWL P ops sz (⟨some t, op, ty, pos, aft, gd⟩ :: rest) K n env h dfs := w_a hg hd hh
theorem wN (hh : ∃ v, Adds P ⟨none, op, ty, pos, aft, gd⟩ (evA env) h v [] n n ∧ AWL P ops sz rest K n env h dfs) (hg : guardA ops env ⟨none, op, ty, pos, aft, gd⟩ true := by first | exact g_none | exact (g_some rfl rfl (by first | assumption | with_reducible exact gd1 (by assumption) | with_reducible exact gd2 (by assumption) | with_reducible exact gd3 (by assumption) | with_reducible exact gd4 (by assumption) | with_reducible rfl | rfl | ((first | with_reducible refine gd1 ?_ | with_reducible refine gd2 ?_ | with_reducible refine gd3 ?_ | with_reducible refine gd4 ?_); omega) | (simp only [*] <;> fail) | fail))) : AWL P ops sz (⟨none, op, ty, pos, aft, gd⟩ :: rest) K n env h dfs := w_n hg hh
theorem wD (hh : ∃ v, Adds P ⟨some t, op, ty, pos, aft, gd⟩ (evT (Oper.looksAt l.toArray ⟨some t, op, ty, pos, aft, gd⟩) env) h v [] n n ∧ Drw P l sz K dfs i n0 env0 h0 m rest n ((t, v) :: env) h) (hg : guardA l.toArray env ⟨some t, op, ty, pos, aft, gd⟩ true := by first | exact g_none | exact (g_some rfl rfl (by first | assumption | with_reducible exact gd1 (by assumption) | with_reducible exact gd2 (by assumption) | with_reducible exact gd3 (by assumption) | with_reducible exact gd4 (by assumption) | with_reducible rfl | rfl | ((first | with_reducible refine gd1 ?_ | with_reducible refine gd2 ?_ | with_reducible refine gd3 ?_ | with_reducible refine gd4 ?_); omega) | (simp only [*] <;> fail) | fail))) : Drw P l sz K dfs i n0 env0 h0 (m + 1) (⟨some t, op, ty, pos, aft, gd⟩ :: rest) n env h := w_d hg hh
theorem wE (hh : ∃ v, Adds P ⟨some t, op, ty, pos, aft, gd⟩ (evT (Oper.looksAt l.toArray ⟨some t, op, ty, pos, aft, gd⟩) env) hr v [] n n ∧ DrwE P l sz K dfs i n0 env0 h0 (es ++ [(ids, none)]) m rest n ((t, v) :: env) h) (hg : guardA l.toArray env ⟨some t, op, ty, pos, aft, gd⟩ true := by first | exact g_none | exact (g_some rfl rfl (by first | assumption | with_reducible exact gd1 (by assumption) | with_reducible exact gd2 (by assumption) | with_reducible exact gd3 (by assumption) | with_reducible exact gd4 (by assumption) | with_reducible rfl | rfl | ((first | with_reducible refine gd1 ?_ | with_reducible refine gd2 ?_ | with_reducible refine gd3 ?_ | with_reducible refine gd4 ?_); omega) | (simp only [*] <;> fail) | fail))) (hi : idsF env (Oper.looksAt l.toArray ⟨some t, op, ty, pos, aft, gd⟩) = some ids := by rfl) (hf : filtF ids h = some hr := by rfl) : DrwE P l sz K dfs i n0 env0 h0 es (m + 1) (⟨some t, op, ty, pos, aft, gd⟩ :: rest) n env h := w_e hg hi hf hh
theorem yA (hh : ∃ v obj, obj.live = some obj ∧ Adds P ⟨some t, op, ty, pos, aft, gd⟩ (evA env) h v [(n, obj)] n (n + 1) ∧ AWL P ops sz rest K (n + 1) ((t, v) :: env) ((n, obj) :: h) dfs) (hg : guardA ops env ⟨some t, op, ty, pos, aft, gd⟩ true := by first | exact g_none | exact (g_some rfl rfl (by first | assumption | with_reducible exact gd1 (by assumption) | with_reducible exact gd2 (by assumption) | with_reducible exact gd3 (by assumption) | with_reducible exact gd4 (by assumption) | with_reducible rfl | rfl | ((first | with_reducible refine gd1 ?_ | with_reducible refine gd2 ?_ | with_reducible refine gd3 ?_ | with_reducible refine gd4 ?_); omega) | (simp only [*] <;> fail) | fail))) (hd : Nat.blt t sz = true := by rfl) : AWL P ops sz (⟨some t, op, ty, pos, aft, gd⟩ :: rest) K n env h dfs := y_a hg hd hh
theorem yD (hh : ∃ v obj, obj.live = some obj ∧ Adds P ⟨some t, op, ty, pos, aft, gd⟩ (evT (Oper.looksAt l.toArray ⟨some t, op, ty, pos, aft, gd⟩) env) h v [(n, obj)] n (n + 1) ∧ Drw P l sz K dfs i n0 env0 h0 m rest (n + 1) ((t, v) :: env) ((n, obj) :: h)) (hg : guardA l.toArray env ⟨some t, op, ty, pos, aft, gd⟩ true := by first | exact g_none | exact (g_some rfl rfl (by first | assumption | with_reducible exact gd1 (by assumption) | with_reducible exact gd2 (by assumption) | with_reducible exact gd3 (by assumption) | with_reducible exact gd4 (by assumption) | with_reducible rfl | rfl | ((first | with_reducible refine gd1 ?_ | with_reducible refine gd2 ?_ | with_reducible refine gd3 ?_ | with_reducible refine gd4 ?_); omega) | (simp only [*] <;> fail) | fail))) : Drw P l sz K dfs i n0 env0 h0 (m + 1) (⟨some t, op, ty, pos, aft, gd⟩ :: rest) n env h := y_d hg hh
theorem yE (hh : ∃ v obj, obj.live = some obj ∧ Adds P ⟨some t, op, ty, pos, aft, gd⟩ (evT (Oper.looksAt l.toArray ⟨some t, op, ty, pos, aft, gd⟩) env) hr v [(n, obj)] n (n + 1) ∧ DrwE P l sz K dfs i n0 env0 h0 (es ++ [(n :: ids, none)]) m rest (n + 1) ((t, v) :: env) ((n, obj) :: h)) (hg : guardA l.toArray env ⟨some t, op, ty, pos, aft, gd⟩ true := by first | exact g_none | exact (g_some rfl rfl (by first | assumption | with_reducible exact gd1 (by assumption) | with_reducible exact gd2 (by assumption) | with_reducible exact gd3 (by assumption) | with_reducible exact gd4 (by assumption) | with_reducible rfl | rfl | ((first | with_reducible refine gd1 ?_ | with_reducible refine gd2 ?_ | with_reducible refine gd3 ?_ | with_reducible refine gd4 ?_); omega) | (simp only [*] <;> fail) | fail))) (hi : idsF env (Oper.looksAt l.toArray ⟨some t, op, ty, pos, aft, gd⟩) = some ids := by rfl) (hf : filtF ids h = some hr := by rfl) : DrwE P l sz K dfs i n0 env0 h0 es (m + 1) (⟨some t, op, ty, pos, aft, gd⟩ :: rest) n env h := y_e hg hi hf hh
theorem zA (hh : CallsTo P f xs (evA env) (fun r => AWL P ops sz rest K n ((t, r) :: env) h dfs) (fun k size T rc => AWL P ops sz rest K (n + 1) ((t, .own n 0 k size true) :: env) ((n, .row T rc) :: h) dfs)) (hg : guardA ops env ⟨some t, .call ⟨.value (.func f), xs.toArray, ats⟩, ty, pos, aft, gd⟩ true := by first | exact g_none | exact (g_some rfl rfl (by first | assumption | with_reducible exact gd1 (by assumption) | with_reducible exact gd2 (by assumption) | with_reducible exact gd3 (by assumption) | with_reducible exact gd4 (by assumption) | with_reducible rfl | rfl | ((first | with_reducible refine gd1 ?_ | with_reducible refine gd2 ?_ | with_reducible refine gd3 ?_ | with_reducible refine gd4 ?_); omega) | (simp only [*] <;> fail) | fail))) (hd : Nat.blt t sz = true := by rfl) : AWL P ops sz (⟨some t, .call ⟨.value (.func f), xs.toArray, ats⟩, ty, pos, aft, gd⟩ :: rest) K n env h dfs := z_a hg hd hh
theorem zN (hh : CallsTo P f xs (evA env) (fun r => AWL P ops sz rest K n env h dfs) (fun k size T rc => AWL P ops sz rest K (n + 1) env ((n, .row T rc) :: h) dfs)) (hg : guardA ops env ⟨none, .call ⟨.value (.func f), xs.toArray, ats⟩, ty, pos, aft, gd⟩ true := by first | exact g_none | exact (g_some rfl rfl (by first | assumption | with_reducible exact gd1 (by assumption) | with_reducible exact gd2 (by assumption) | with_reducible exact gd3 (by assumption) | with_reducible exact gd4 (by assumption) | with_reducible rfl | rfl | ((first | with_reducible refine gd1 ?_ | with_reducible refine gd2 ?_ | with_reducible refine gd3 ?_ | with_reducible refine gd4 ?_); omega) | (simp only [*] <;> fail) | fail))) : AWL P ops sz (⟨none, .call ⟨.value (.func f), xs.toArray, ats⟩, ty, pos, aft, gd⟩ :: rest) K n env h dfs := z_n hg hh
theorem zD (hh : CallsTo P f xs (evT (Oper.looksAt l.toArray ⟨some t, .call ⟨.value (.func f), xs.toArray, ats⟩, ty, pos, aft, gd⟩) env) (fun r => Drw P l sz K dfs i n0 env0 h0 m rest n ((t, r) :: env) h) (fun k size T rc => Drw P l sz K dfs i n0 env0 h0 m rest (n + 1) ((t, .own n 0 k size true) :: env) ((n, .row T rc) :: h))) (hg : guardA l.toArray env ⟨some t, .call ⟨.value (.func f), xs.toArray, ats⟩, ty, pos, aft, gd⟩ true := by first | exact g_none | exact (g_some rfl rfl (by first | assumption | with_reducible exact gd1 (by assumption) | with_reducible exact gd2 (by assumption) | with_reducible exact gd3 (by assumption) | with_reducible exact gd4 (by assumption) | with_reducible rfl | rfl | ((first | with_reducible refine gd1 ?_ | with_reducible refine gd2 ?_ | with_reducible refine gd3 ?_ | with_reducible refine gd4 ?_); omega) | (simp only [*] <;> fail) | fail))) : Drw P l sz K dfs i n0 env0 h0 (m + 1) (⟨some t, .call ⟨.value (.func f), xs.toArray, ats⟩, ty, pos, aft, gd⟩ :: rest) n env h := z_d hg hh
theorem zE (hh : CallsTo P f xs (evT (Oper.looksAt l.toArray ⟨some t, .call ⟨.value (.func f), xs.toArray, ats⟩, ty, pos, aft, gd⟩) env) (fun r => DrwE P l sz K dfs i n0 env0 h0 (es ++ [([], none)]) m rest n ((t, r) :: env) h) (fun k size T rc => DrwE P l sz K dfs i n0 env0 h0 (es ++ [([n], none)]) m rest (n + 1) ((t, .own n 0 k size true) :: env) ((n, .row T rc) :: h))) (hg : guardA l.toArray env ⟨some t, .call ⟨.value (.func f), xs.toArray, ats⟩, ty, pos, aft, gd⟩ true := by first | exact g_none | exact (g_some rfl rfl (by first | assumption | with_reducible exact gd1 (by assumption) | with_reducible exact gd2 (by assumption) | with_reducible exact gd3 (by assumption) | with_reducible exact gd4 (by assumption) | with_reducible rfl | rfl | ((first | with_reducible refine gd1 ?_ | with_reducible refine gd2 ?_ | with_reducible refine gd3 ?_ | with_reducible refine gd4 ?_); omega) | (simp only [*] <;> fail) | fail))) : DrwE P l sz K dfs i n0 env0 h0 es (m + 1) (⟨some t, .call ⟨.value (.func f), xs.toArray, ats⟩, ty, pos, aft, gd⟩ :: rest) n env h := z_e hg hh
variable {cs cs' rc : List CV} {r : AV} {ev : Evl} {N0 : AV → Prop} {N1 : Nat → Nat → TypeId → List CV → Prop} {k size : Nat} {T : TypeId} {vs : List AV} {N : AV → Prop} {d : Option Tmp} {N2 : AV → AObj → Prop}
theorem c0 (hac : AC P f cs' r [] 0) (hn : N0 r) (hb : Body P f := by unfold Body; kernel_rfl) (hx : argsC ev xs = some cs := by rfl) (hcv : CvL cs cs' := by first | exact cvl_rfl | ((repeat' (first | exact cvl_nil | refine cvl_cons ?_ ?_ | (first | exact cv_rfl | exact cv_nil | (refine cv_sl ?_ ?_ <;> first | rfl | omega | (simp <;> fail) | fail) | (refine cv_eq ?_; first | rfl | (simp <;> fail) | fail) | refine cv_agg ?_))) <;> fail) | fail) (hid : r.noId = true := by rfl) : CallsTo P f xs ev N0 N1 := ct_0 hac hb hx hcv hid hn
theorem c1 (hac : AC P f cs' (.own 0 0 k size true) [(0, .row T rc)] 1) (hn : N1 k size T rc) (hb : Body P f := by unfold Body; kernel_rfl) (hx : argsC ev xs = some cs := by rfl) (hcv : CvL cs cs' := by first | exact cvl_rfl | ((repeat' (first | exact cvl_nil | refine cvl_cons ?_ ?_ | (first | exact cv_rfl | exact cv_nil | (refine cv_sl ?_ ?_ <;> first | rfl | omega | (simp <;> fail) | fail) | (refine cv_eq ?_; first | rfl | (simp <;> fail) | fail) | refine cv_agg ?_))) <;> fail) | fail) : CallsTo P f xs ev N0 N1 := ct_1 hac hb hx hcv hn
theorem cF (hac : AC P f cs r [] 0) (hn : N r) (hb : Body P f := by unfold Body; kernel_rfl) (hx : argsA ev xs = some vs := by rfl) (hfz : FrzL [] h vs cs := by first | ((repeat' (first | exact frzl_nil | refine frzl_cons ?_ ?_ | (first | with_reducible exact frz_c cv_rfl | with_reducible exact frz_c cv_nil | exact frz_ownW rfl rfl zln | exact frz_own rfl rfl rfl zln | exact frz_cv (frz_ownW rfl rfl zln) (cv_sl zse zse) | exact frz_cv (frz_own rfl rfl rfl zln) (cv_sl zse zse) | exact frz_cv (frz_c cv_rfl) (cv_sl zse zse) | exact frz_cv (frz_c cv_rfl) (cv_eq (by first | rfl | (simp <;> fail) | fail)) | exact frz_c cv_rfl | exact frz_c cv_nil | exact frz_u8 rfl rfl (by omega) (by omega) (by omega) | refine frz_agg rfl ?_ | refine frz_c (cv_agg ?_) | exact cvl_nil | refine cvl_cons ?_ ?_ | exact cv_rfl | exact cv_nil | exact cv_sl zse zse))) <;> fail) | fail) (hfl : FlR r := by first | exact FlR.c flc_v | exact FlR.c (flc_agg (by first | ((repeat' (first | exact flcl_nil | exact flcl_u8 _ | exact flcl_int _ _ | exact flcl_plain _ | exact flc_v | assumption | refine flcl_app ?_ ?_ | refine flcl_cons ?_ ?_ | refine flc_agg ?_)) <;> fail) | fail)) | exact flr_2 (by first | ((repeat' (first | exact flcl_nil | exact flcl_u8 _ | exact flcl_int _ _ | exact flcl_plain _ | exact flc_v | assumption | refine flcl_app ?_ ?_ | refine flcl_cons ?_ ?_ | refine flc_agg ?_)) <;> fail) | fail) | exact flr_3 (by first | ((repeat' (first | exact flcl_nil | exact flcl_u8 _ | exact flcl_int _ _ | exact flcl_plain _ | exact flc_v | assumption | refine flcl_app ?_ ?_ | refine flcl_cons ?_ ?_ | refine flc_agg ?_)) <;> fail) | fail) | exact FlR.t (by first | ((repeat' (first | exact flcl_nil | exact flcl_u8 _ | exact flcl_int _ _ | exact flcl_plain _ | exact flc_v | assumption | refine flcl_app ?_ ?_ | refine flcl_cons ?_ ?_ | refine flc_agg ?_)) <;> fail) | fail) | assumption) : ∃ v, Adds P ⟨d, .call ⟨.value (.func f), xs.toArray, ats⟩, ty, pos, aft, gd⟩ ev h v [] n n ∧ N v := ew_i (adds_callF hb hx hfz hac hfl) hn
theorem cF1 (hac : AC P f cs (.own 0 0 k size true) [(0, .row T rc)] 1) (hn : N2 (.own n 0 k size true) (.row T rc)) (hb : Body P f := by unfold Body; kernel_rfl) (hx : argsA ev xs = some vs := by rfl) (hfz : FrzL [] h vs cs := by first | ((repeat' (first | exact frzl_nil | refine frzl_cons ?_ ?_ | (first | with_reducible exact frz_c cv_rfl | with_reducible exact frz_c cv_nil | exact frz_ownW rfl rfl zln | exact frz_own rfl rfl rfl zln | exact frz_cv (frz_ownW rfl rfl zln) (cv_sl zse zse) | exact frz_cv (frz_own rfl rfl rfl zln) (cv_sl zse zse) | exact frz_cv (frz_c cv_rfl) (cv_sl zse zse) | exact frz_cv (frz_c cv_rfl) (cv_eq (by first | rfl | (simp <;> fail) | fail)) | exact frz_c cv_rfl | exact frz_c cv_nil | exact frz_u8 rfl rfl (by omega) (by omega) (by omega) | refine frz_agg rfl ?_ | refine frz_c (cv_agg ?_) | exact cvl_nil | refine cvl_cons ?_ ?_ | exact cv_rfl | exact cv_nil | exact cv_sl zse zse))) <;> fail) | fail) (hfl : FlcL rc := by first | ((repeat' (first | exact flcl_nil | exact flcl_u8 _ | exact flcl_int _ _ | exact flcl_plain _ | exact flc_v | assumption | refine flcl_app ?_ ?_ | refine flcl_cons ?_ ?_ | refine flc_agg ?_)) <;> fail) | fail) : ∃ v obj, obj.live = some obj ∧ Adds P ⟨d, .call ⟨.value (.func f), xs.toArray, ats⟩, ty, pos, aft, gd⟩ ev h v [(n, obj)] n (n + 1) ∧ N2 v obj := ⟨_, _, rfl, adds_callF1 hb hx hfz hac hfl, hn⟩
end
theorem weakA {n : Nat} {env : Env} {h : Heap} {dfs : Defs} {N : Nat} {E : Env} {Hp : Heap} {D : Defs} (w : Weak n env h dfs N E Hp D := by refine weak_mk rfl ?_ ?_ rfl <;> (repeat' (first | exact weakE_nil | exact weakH_nil | refine weakE_cons rfl (by first | rfl | exact own_eq rfl rfl (by omega) | exact int_eq (by omega) | (simp <;> fail) | (congr 4; omega) | (congr 3; omega) | (congr 2; omega)) rfl ?_ | refine weakH_cons rfl (by first | rfl | exact own_eq rfl rfl (by omega) | exact int_eq (by omega) | (simp <;> fail) | (congr 4; omega) | (congr 3; omega) | (congr 2; omega)) rfl ?_))) : Weak n env h dfs N E Hp D := w

end Go.Proofs.Ytccnhpaldmjkbaa
/-
  A range over a function: the iterator is walked into, the loop's body is walked at each call of yield. For every program.
-/
set_option linter.unusedVariables false
set_option linter.unusedSimpArgs false
namespace Go.Av
open Go Go.RowKit
section
variable {P : Program} {tab : Tab} {sz n : Nat} {env : Env} {h : Heap} {dfs : Defs} {K : AK} {ops : Array Oper} {rest : List Oper} {d : Option Tmp} {ty : TypeId} {pos : String} {aft : Array Edge} {gd : Option (Nat × Bool)} {f : FuncId} {x : Operand} {xs : List Operand} {ats : Array TypeId}

/-- The iterator has returned: on behind the loop. -/
def ItK (P : Program) (l sz : Nat) (L : LC) (env' : Env) (K : AK) (dfs : Defs) : AK :=
  fun e n' _ h' dfs' => (e = .normal ∨ e = .ret) ∧ IdleD P h' dfs' ∧ framM dfs' = some (.yld (l + 1) :: .ref l 0 :: fram env' dfs) ∧
    lk (endD h' dfs') (l + 1) = some (.lp .ready sz L (env'.map (·.1)) (env'.map (·.2))) ∧ l + 1 < n' ∧
    K .normal n' env' ((l + 1, .lp .exhausted sz L (env'.map (·.1)) (env'.map (·.2))) :: endD h' dfs') ((some collF, [.ref l 0]) :: dfs)

theorem ext_refl' {C C' : Cx} (h : C = C') : Ext C C' := h ▸ Ext.refl C
theorem map_env {a : Act} : ∀ (env' : Env), (env'.map (·.1)).map (fun s => a.tmps.getD s undef) = env'.map fun p => a.tmps.getD p.1 undef
  | [] => rfl
  | p :: r => by simp only [List.map_cons]; rw [← map_env r]

theorem aw_range (tb : TabOk P tab) (ks : List Nat) {ps : Array Tmp} {asn bd : Code} {caps : List AV} {fn : Func} {c : Code} {env' : Env} {szf : Nat} (hxf : evA env x = some (.fn f caps)) (hb : Body P f) (hf : P.funcs[f]? = some fn) (hc : fn.body = some c) (hsz : max fn.ntmps (caps.length + 1) = szf) (hrs : fn.results = #[]) (hE : pruneE env ks = some env')
    (next : ∀ L : LC, L = ⟨ps.toList, asn, bd⟩ → AW P szf c (ItK P n sz L env' K dfs) (n + 2) (enumA 0 (.yld (n + 1) :: caps)) ((n + 1, .lp .ready sz L (env'.map (·.1)) (env'.map (·.2))) :: (n, .dfr true) :: h) [(none, .yld (n + 1) :: .ref n 0 :: fram env' dfs)]) :
    AW P sz (.rangeFunc x ps asn bd) K n env h dfs := by
  intro B a w hcn rd hrd
  obtain rfl : rd = none := hrd.resolve_right (by simp [plainC])
  obtain ⟨M, c1, c2, c3, c4⟩ := hcn
  obtain ⟨us, hxv, hus⟩ := rep_fn (rep_eval c3 x _ hxf)
  obtain ⟨dv, dv0, dv1, dv2⟩ := defRep_fr c4
  have henv : RepL (cx B n M h w) (env'.map (·.2)) (env'.map fun p => a.tmps.getD p.1 undef) := repL_map (g := fun t => a.tmps.getD t undef) fun p hp => c3 p.1 p.2 (pruneE_all hE p hp)
  let B' : Bs := ⟨B.w0, B.G, B.ok0, .func (.yield (w.heap.size + 1)) #[] #[] :: .pointer (some ⟨w.heap.size, 0, none⟩) :: ((env'.map fun p => a.tmps.getD p.1 undef) ++ dv)⟩
  refine wpIn_rangeFunc fun fnn hfn => ?_
  obtain ⟨W1, hW1⟩ : ∃ W1, (w.alloc (.deferred (some []))).alloc (.loop { state := .ready, pending := none, fn := fnn, tmps := a.tmps, params := ps, assign := asn, body := bd, defers := w.heap.size }) = W1 := ⟨_, rfl⟩
  have hbel : Below w.heap.size w W1 := by
    rw [← hW1]; exact ((Below.refl _ w).alloc (Nat.le_refl _) _).alloc (by simp) _
  have hl1 : W1.heap[w.heap.size + 1]? = some (.loop { state := .ready, pending := none, fn := fnn, tmps := a.tmps, params := ps, assign := asn, body := bd, defers := w.heap.size }) := by
    rw [← hW1]; have := World.alloc_heap_new (w.alloc (.deferred (some []))) (.loop { state := .ready, pending := none, fn := fnn, tmps := a.tmps, params := ps, assign := asn, body := bd, defers := w.heap.size }); rwa [World.size_alloc] at this
  have hk1 : W1.heap[w.heap.size]? = some (.deferred (some [])) := by
    rw [← hW1]; exact (Below.heap_alloc _ _ _ (by simp)).trans (World.alloc_heap_new w _)
  obtain ⟨L, hL⟩ : ∃ L : LC, L = ⟨ps.toList, asn, bd⟩ := ⟨_, rfl⟩
  let h1 : Heap := (n + 1, .lp .ready sz L (env'.map (·.1)) (env'.map (·.2))) :: (n, .dfr true) :: h
  let M' : Nat → Option Nat := fun id => if id = n then some w.heap.size else if id = n + 1 then some (w.heap.size + 1) else M id
  have e1 : ∀ id, id < n → lk h1 id = lk h id := fun id hid => by
    simp only [h1]; rw [lk_cons, if_neg (by omega), lk_cons, if_neg (by omega)]
  have eok : okOf B (lt n) M (lk h1) = okOf B (lt n) M (lk h) := by
    funext b
    unfold okOf
    simp only [eq_iff_iff]
    refine and_congr Iff.rfl ⟨fun hk id o hid hH => hk id o hid (by rw [e1 id hid]; exact hH), fun hk id o hid hH => hk id o hid (by rw [← e1 id hid]; exact hH)⟩
  have c1' : ConcH B (lt n) M (lk h1) w := by
    refine ⟨c1.fr, fun id o hid hH => ?_, fun id id' o o' g k1 k2 k3 k4 => c1.inj id id' o o' g k1 k2 (by rw [← e1 id k1]; exact k3) (by rw [← e1 id' k2]; exact k4), fun id o g k1 k2 => c1.lo id o g k1 (by rw [← e1 id k1]; exact k2)⟩
    rw [eok]
    exact c1.obj id o hid (by rw [← e1 id hid]; exact hH)
  have hn0 : lk h1 n = some (.dfr true) := by simp only [h1]; rw [lk_cons, if_neg (by omega), lk_cons, if_pos rfl]; rfl
  have hn1 : lk h1 (n + 1) = some (.lp .ready sz L (env'.map (·.1)) (env'.map (·.2))) := by simp only [h1]; rw [lk_cons, if_pos rfl]; rfl
  have hm0 : M' n = some w.heap.size := by simp [M']
  have hm1 : M' (n + 1) = some (w.heap.size + 1) := by simp [M']
  have hg := c1'.grow hbel n (n + 2) (M' := M')
    (fun id hid => by simp only [lt] at hid; simp only [M']; rw [if_neg (by omega), if_neg (by omega)])
    (fun id k1 k2 hd => by simp only [lt] at hd; omega)
    (fun id o k1 k2 k3 g hg => by
      have : id = n ∨ id = n + 1 := by omega
      rcases this with rfl | rfl
      · rw [hm0] at hg; injection hg with hg; omega
      · rw [hm1] at hg; injection hg with hg; omega)
    (fun id id' o o' g k1 k2 k3 k4 _ _ k5 k6 => by
      have j1 : id = n ∨ id = n + 1 := by omega
      have j2 : id' = n ∨ id' = n + 1 := by omega
      rcases j1 with rfl | rfl <;> rcases j2 with rfl | rfl <;> first | rfl | (rw [hm0] at *; rw [hm1] at *; simp only [Option.some.injEq] at k5 k6; omega))
    (fun hext id o k1 k2 k3 => by
      have : id = n ∨ id = n + 1 := by omega
      rcases this with rfl | rfl
      · rw [hn0] at k3; injection k3 with k3; subst k3
        rw [hm0]
        exact ⟨_, rfl, hk1⟩
      · rw [hn1] at k3; injection k3 with k3; subst k3
        rw [hm1]
        rw [eok] at hext
        refine ⟨_, _, rfl, hl1, rfl, rfl, by rw [hL], by rw [hL], by rw [hL], c2, ?_⟩
        rw [map_env]
        exact RepL.ext hext _ _ henv)
  rw [eok] at hg
  rw [lt_ad (Nat.le_add_right n 2)] at hg
  obtain ⟨hg1, hg2⟩ := hg
  have hg2 : Ext (cx B n M h w) (cx B (n + 2) M' h1 W1) := hg2
  have hyl : Rep (cx B (n + 2) M' h1 W1) (.yld (n + 1)) (.func (.yield (w.heap.size + 1)) #[] #[]) := ⟨by simp only [cx, lt]; omega, w.heap.size + 1, hm1, rfl⟩
  have hcaps : RepL (cx B (n + 2) M' h1 W1) (.yld (n + 1) :: caps) (.func (.yield (w.heap.size + 1)) #[] #[] :: us) := ⟨_, _, rfl, hyl, RepL.ext hg2 _ _ hus⟩
  refine ⟨w.heap.size + 1, [{ target := .collected w.heap.size, args := #[] }], W1, { target := .fn (.func f) us.toArray, args := #[.func (.yield (w.heap.size + 1)) #[] #[]] }, W1, f, #[.func (.yield (w.heap.size + 1)) #[] #[]] ++ us.toArray, W1, ?_, ?_, fun _ _ => wf_fn none _, ?_, wf_room none, calls_in (rd := none) ?_⟩
  · rw [← hW1]; exact run_enterLoop_outer _ _ _ _ _
  · simp only [resolve, hxv]
    simp [go_sem]
  · simp only [invoke]
    rw [Body.run hb]
  · have hlen := hus.length
    rw [show (#[Value.func (.yield (w.heap.size + 1)) #[] #[]] ++ us.toArray) = (Value.func (.yield (w.heap.size + 1)) #[] #[] :: us).toArray by simp]
    refine calls_of_wpM hf hc (wp_mono (wpg_plain (next L hL B' _ W1 ⟨M', ⟨hg1.fr, hg1.obj, hg1.inj, hg1.lo⟩, ?_, ?_, ?_⟩)) ?_)
    · simp
      omega
    · intro t av ht
      obtain ⟨k1, k2⟩ := enumA_get ht
      rw [Nat.sub_zero] at k2
      obtain ⟨u, hu, hru⟩ := hcaps.get k2
      have : ((Value.func (.yield (w.heap.size + 1)) #[] #[] :: us).toArray ++ Array.replicate (fn.ntmps - (Value.func (.yield (w.heap.size + 1)) #[] #[] :: us).toArray.size) undef).getD t undef = u := by
        have hlt := (List.getElem?_eq_some_iff.1 hu).1
        rw [Array.getD_eq_getD_getElem?, Array.getElem?_append_left (by simpa using hlt)]
        rw [List.getElem?_toArray, hu]
        rfl
      rw [this]
      exact hru
    · exact ⟨⟨_, _, rfl, hyl, _, _, rfl, ⟨by simp only [cx, lt]; omega, w.heap.size, hm0, rfl⟩, (RepL.ext hg2 _ _ henv).append (RepL.ext hg2 _ _ dv1)⟩, rfl⟩
    · intro e a' w' hq
      obtain ⟨n', env2, h', dfs', ⟨q1, q2, q3, q4, q5, q6⟩, M2, d1, d2, d3, d4⟩ := hq
      have : LeavesM P fn a'.tmps (rangePost (WF none) 0 P (w.heap.size + 1) (KC B sz K) { a with defers := [{ target := .collected w.heap.size, args := #[] }] ++ a.defers }) a'.defers w' := by
        refine leaves_idle q2 d1 d4 fun w2 g1 g2 => ?_
        refine ⟨.tuple #[], by simp [results, hrs], ?_⟩
        have hfr := RepL.ext g2 _ _ (framM_rep q3 d4)
        simp only [RepL] at hfr
        obtain ⟨y1, y2, y3, y4, y5, y6, y7, y8, y9⟩ := hfr
        injection y3 with y3 y3'
        subst y3 y3'
        injection y7 with y7 y7'
        subst y7 y7'
        simp only [Rep] at y4 y8
        obtain ⟨_, gl, m1, m1'⟩ := y4
        obtain ⟨_, gd, m2, m2'⟩ := y8
        have m1'' : w.heap.size + 1 = gl := by simpa using m1'
        have m2'' : w.heap.size = gd := by simpa using m2'
        subst m1'' m2''
        have m1 : M2 (n + 1) = some (w.heap.size + 1) := m1
        obtain ⟨e2, e3⟩ := repL_split (by simp) y9
        have hob := g1.obj (n + 1) _ q5 q4
        rw [m1] at hob
        obtain ⟨k, r, hk, r1, r2, r3, r4, r5, r6, r7, r8⟩ := hob
        injection hk with hk
        subst hk
        have r1 : w2.heap[w.heap.size + 1]? = some (.loop r) := r1
        obtain ⟨t1, t2⟩ := turn_put g1 (o' := .lp .exhausted sz L (List.map Prod.fst env') (List.map Prod.snd env')) (q' := .loop { r with state := .exhausted }) rfl q5 q4 m1 r1 rfl rfl
          (fun hx => ⟨_, _, rfl, World.putObj_heap_same (lt_of_block r1), rfl, r3, r4, r5, r6, r7, RepL.ext hx _ _ r8⟩)
        have he := repL_unmap (g := fun t => a.tmps.getD t undef) (RepL.ext t2 _ _ e2)
        refine ⟨none, _, by rw [← r3]; exact run_endLoop r1 (by rw [r2]; simp), n', env', _, _, q6, M2, ⟨t1.fr, t1.obj, t1.inj, t1.lo⟩, c2, fun t av ht => he (t, av) (lkE_mem ht), [.pointer (some ⟨w.heap.size, 0, none⟩)], a.defers, rfl, ?_, dv2 _ (RepL.ext t2 _ _ e3)⟩
        exact ⟨_, _, rfl, ⟨by simp only [cx, lt]; omega, w.heap.size, m2, rfl⟩, rfl⟩
      rcases q1 with rfl | rfl <;> exact this

/-- The loop's variables, set for a round. -/
def bindE : List Tmp → List AV → Env → Env
  | p :: ps, v :: vs, E => bindE ps vs ((p, v) :: E)
  | _, _, E => E
def zipE : List Nat → List AV → Env
  | s :: ss, x :: xs => (s, x) :: zipE ss xs
  | _, _ => []
theorem zipE_rep {C : Cx} {g : Nat → Value} : ∀ {slots : List Nat} {xs : List AV}, RepL C xs (slots.map g) → ∀ t av, lkE (zipE slots xs) t = some av → Rep C av (g t)
  | [], xs, h, t, av, ht => by cases xs <;> cases ht
  | s :: ss, [], h, t, av, ht => by cases ht
  | s :: ss, x :: xs, h, t, av, ht => by
    simp only [List.map_cons, RepL] at h
    obtain ⟨u, us, e, h1, h2⟩ := h
    injection e with e1 e2
    subst e1 e2
    rw [zipE, lkE_cons] at ht
    split at ht
    · rename_i e; subst e; injection ht with ht; subst ht; exact h1
    · exact zipE_rep h2 t av ht
theorem bindE_rep {C : Cx} : ∀ {ps : List Tmp} {vs : List AV} {us : List Value} {E : Env} {tmps : Array Value}, RepL C vs us → ps.length = vs.length → (∀ p ∈ ps, p < tmps.size) → (∀ t av, lkE E t = some av → Rep C av (tmps.getD t undef)) →
    (∀ t av, lkE (bindE ps vs E) t = some av → Rep C av (((ps.zip us).foldl (fun t p => t.setIfInBounds p.1 p.2) tmps).getD t undef)) ∧ ((ps.zip us).foldl (fun t p => t.setIfInBounds p.1 p.2) tmps).size = tmps.size
  | [], [], us, E, tmps, h, hl, hp, hE => by
    simp only [RepL] at h
    subst h
    exact ⟨hE, rfl⟩
  | [], v :: vs, us, E, tmps, h, hl, hp, hE => by simp at hl
  | p :: ps, [], us, E, tmps, h, hl, hp, hE => by simp at hl
  | p :: ps, v :: vs, us, E, tmps, h, hl, hp, hE => by
    simp only [RepL] at h
    obtain ⟨u, us', rfl, h1, h2⟩ := h
    have hps : p < tmps.size := hp p (by simp)
    have := bindE_rep (E := (p, v) :: E) (tmps := tmps.setIfInBounds p u) h2 (by simpa using hl) (fun q hq => by rw [Array.size_setIfInBounds]; exact hp q (by simp [hq])) (fun t av ht => by
      rw [lkE_cons] at ht
      split at ht
      · rename_i e; subst e; injection ht with ht; subst ht
        simp [hps]; exact h1
      · rename_i e
        have := hE t av ht
        simp only [Array.getD_eq_getD_getElem?] at this ⊢
        rw [Array.getElem?_setIfInBounds_ne e]
        exact this)
    refine ⟨this.1, ?_⟩
    rw [List.zip_cons_cons, List.foldl_cons, this.2, Array.size_setIfInBounds]

/-- The end of a round: on in the iterator. -/
def RdK (P : Program) (id szc : Nat) (L : LC) (slots : List Nat) (xs : List AV) (env' : Env) (ops : Array Oper) (sz : Nat) (rest : List Oper) (K : AK) (d : Option Tmp) (dfs : Defs) : AK :=
  fun e n2 _ h2 dfs2 => e = .normal ∧ framM dfs2 = some (.yld id :: fram env' dfs) ∧ lk h2 id = some (.lp .busy szc L slots xs) ∧ Nat.blt id n2 = true ∧ AWL P ops sz rest K n2 (putE env' d (.c (.v (.bool true)))) ((id, .lp .ready szc L slots xs) :: h2) dfs
def AsK (P : Program) (id szc : Nat) (L : LC) (slots : List Nat) (xs : List AV) (env' : Env) (ops : Array Oper) (sz : Nat) (rest : List Oper) (K : AK) (d : Option Tmp) (dfs : Defs) : AK :=
  fun e n1 env1 h1 dfs1 => e = .normal ∧ framM dfs1 = some (.yld id :: fram env' dfs) ∧ lk h1 id = some (.lp .ready szc L slots xs) ∧ Nat.blt id n1 = true ∧ AW P szc L.bd (RdK P id szc L slots xs env' ops sz rest K d dfs) n1 env1 ((id, .lp .busy szc L slots xs) :: h1) dfs1

theorem awl_yield (ks : List Nat) {id szc : Nat} {L : LC} {slots : List Nat} {vs ys : List AV} {env' : Env} (hg : guardA ops env ⟨d, .call ⟨.value x, xs.toArray, ats⟩, ty, pos, aft, gd⟩ true) (hd : dstOk d sz = true) (hx : evA env x = some (.yld id)) (ho : lk h id = some (.lp .ready szc L slots ys)) (hv : argsA (evA env) xs = some vs) (hE : pruneE env ks = some env')
    {ps : List Tmp} {asn bd : Code} (hL : L = ⟨ps, asn, bd⟩) (hps : Nat.beq ps.length vs.length = true) (hpb : ps.all (fun p => Nat.blt p szc) = true) (hp1 : plainC asn = true) (hp2 : plainC bd = true)
    (next : AW P szc asn (AsK P id szc L slots ys env' ops sz rest K d dfs) n (bindE ps vs (zipE slots ys)) h [(none, .yld id :: fram env' dfs)]) :
    AWL P ops sz (⟨d, .call ⟨.value x, xs.toArray, ats⟩, ty, pos, aft, gd⟩ :: rest) K n env h dfs := by
  intro B a w hcn rd hrd
  rw [List.all_cons] at hrd
  obtain ⟨hrd1, hrd2⟩ := plain2 hrd
  obtain ⟨M, c1, c2, c3, c4⟩ := hcn
  refine wpListIn_step fun K' hK' => ?_
  rw [if_pos (hg.wanted c3)]
  have hy := rep_eval c3 x _ hx
  simp only [Rep] at hy
  obtain ⟨hid, l, hM, hxv⟩ := hy
  have hM : M id = some l := hM
  have hob := c1.obj id _ hid ho
  rw [hM] at hob
  obtain ⟨k, r, hk, r1, r2, r3, r4, r5, r6, r7, r8⟩ := hob
  injection hk with hk
  subst hk
  have hvs := evs_rep (rep_eval c3) (argsA_eq hv)
  obtain ⟨dv, dv0, dv1, dv2⟩ := defRep_fr c4
  have henv : RepL (cx B n M h w) (env'.map (·.2)) (env'.map fun p => a.tmps.getD p.1 undef) := repL_map (g := fun t => a.tmps.getD t undef) fun p hp => c3 p.1 p.2 (pruneE_all hE p hp)
  let B' : Bs := ⟨B.w0, B.G, B.ok0, .func (.yield l) #[] #[] :: ((env'.map fun p => a.tmps.getD p.1 undef) ++ dv)⟩
  have hpl : ps.length = vs.length := Nat.eq_of_beq_eq_true hps
  subst hL
  have hrun : (execOp a.eval ⟨d, .call ⟨.value x, xs.toArray, ats⟩, ty, pos, aft, gd⟩).run P w = .ok (.round l r.fn ((ps.zip (xs.map a.eval)).foldl (fun t p => t.setIfInBounds p.1 p.2) r.tmps) r.assign r.body) w := by
    have hy := run_yield (P := P) (w := w) (l := l) (r := r) (args := (xs.map a.eval).toArray) r1 (by rw [r4]; simp; rw [hpl, ← hvs.length]; simp)
    simp only [execOp, resolve, hxv, Deferred.ofValue, invoke, Sem.run_bind, Sem.run_pure, Result.andThen_ok, List.map_toArray]
    rw [show (#[] ++ (List.map a.eval xs).toArray) = (List.map a.eval xs).toArray by simp, hy, r4]
    congr 2
    simp only [List.zip_toArray, List.foldl_toArray]
  have hfold := bindE_rep (C := cx B n M h w) (ps := ps) (vs := vs) (us := xs.map a.eval) (E := zipE slots ys) (tmps := r.tmps) hvs hpl (fun p hp => by
    have := List.all_eq_true.1 hpb p hp
    rw [r7]
    simpa using this) (fun t av ht => zipE_rep (g := fun s => r.tmps.getD s undef) r8 t av ht)
  refine ⟨fun f _ => wf_fn rd f, ?_⟩
  have hsem : Oper.semAt (WF rd).round a.eval ⟨d, .call ⟨.value x, xs.toArray, ats⟩, ty, pos, aft, gd⟩ = execOp a.eval ⟨d, .call ⟨.value x, xs.toArray, ats⟩, ty, pos, aft, gd⟩ := Oper.semAt_eq _ _ _ (fun c hc => by cases hc)
  rw [hsem, hrun]
  refine ⟨wf_room rd, roundIn_of_wpIn (wf_fn rd _) ?_⟩
  have hF : (WF rd).inRound l = WF (some l) := by cases rd <;> rfl
  rw [hF]
  have hw0 : Conc B' szc n (bindE ps vs (zipE slots ys)) h [(none, .yld id :: fram env' dfs)] { tmps := (ps.zip (xs.map a.eval)).foldl (fun t p => t.setIfInBounds p.1 p.2) r.tmps, defers := [] } w :=
    ⟨M, ⟨c1.fr, c1.obj, c1.inj, c1.lo⟩, hfold.2.trans r7, hfold.1, ⟨⟨_, _, rfl, ⟨hid, l, hM, rfl⟩, henv.append dv1⟩, rfl⟩⟩
  rw [r5, r6]
  -- what the waiting frame tells
  have wait : ∀ {n1 : Nat} {h1 : Heap} {dfs1 : Defs} {M1 : Nat → Option Nat} {w1 : World} {ds : List Deferred}, framM dfs1 = some (.yld id :: fram env' dfs) → DefRep B'.fr (cx B' n1 M1 h1 w1) dfs1 ds → M1 id = some l ∧ RepL (cx B' n1 M1 h1 w1) (fram env' dfs) ((env'.map fun p => a.tmps.getD p.1 undef) ++ dv) := by
    intro n1 h1 dfs1 M1 w1 ds hm hdr
    have hfr := framM_rep hm hdr
    simp only [RepL] at hfr
    obtain ⟨y1, y2, y3, y4, y9⟩ := hfr
    injection y3 with y3 y3'
    subst y3 y3'
    simp only [Rep] at y4
    obtain ⟨_, gl, m1, m1'⟩ := y4
    have m1'' : l = gl := by simpa using m1'
    subst m1''
    exact ⟨m1, y9⟩
  refine wpIn_mono (next B' _ w hw0 (some l) (.inr hp1)) fun e a1 w1 hq => ?_
  obtain ⟨n1, env1, h1, dfs1, ⟨rfl, q2, q3, q4, q5⟩, M1, d1, d2, d3, d4⟩ := hq
  obtain ⟨m1, _⟩ := wait q2 d4
  have q4' : id < n1 := by simpa using q4
  have hob := d1.obj id _ q4' q3
  rw [m1] at hob
  obtain ⟨k, r', hk, s1, s2, s3, s4, s5, s6, s7, s8⟩ := hob
  injection hk with hk
  subst hk
  obtain ⟨t1, t2⟩ := turn_put d1 (o' := .lp .busy szc ⟨ps, asn, bd⟩ slots ys) (q' := .loop { r' with state := .busy }) rfl q4' q3 m1 s1 rfl rfl
    (fun hx => ⟨_, _, rfl, World.putObj_heap_same (lt_of_block s1), rfl, s3, s4, s5, s6, s7, RepL.ext hx _ _ s8⟩)
  refine ⟨_, run_beginRound s1 s2, ?_⟩
  refine wpIn_mono (q5 B' _ _ ⟨M1, t1, d2, fun t av ht => Rep.ext t2 _ _ (d3 t av ht), d4.ext t2⟩ (some l) (.inr hp2)) fun e a2 w2 hq => ?_
  obtain ⟨n2, env2, h2, dfs2, ⟨rfl, z2, z3, z4, z5⟩, M2, f1, f2, f3, f4⟩ := hq
  obtain ⟨m2, hwt⟩ := wait z2 f4
  have z4' : id < n2 := by simpa using z4
  have hob := f1.obj id _ z4' z3
  rw [m2] at hob
  obtain ⟨k, r2', hk, v1, v2, v3, v4, v5, v6, v7, v8⟩ := hob
  injection hk with hk
  subst hk
  obtain ⟨g1, g2⟩ := turn_put f1 (o' := .lp .ready szc ⟨ps, asn, bd⟩ slots ys) (q' := .loop { r2' with state := .ready, pending := none }) rfl z4' z3 m2 v1 rfl rfl
    (fun hx => ⟨_, _, rfl, World.putObj_heap_same (lt_of_block v1), rfl, rfl, v4, v5, v6, v7, RepL.ext hx _ _ v8⟩)
  obtain ⟨e1, e2⟩ := repL_split (by simp) (RepL.ext g2 _ _ hwt)
  have he := repL_unmap (g := fun t => a.tmps.getD t undef) e1
  refine ⟨.bool true, _, run_endRound none v1, ?_⟩
  refine hK' _ _ (z5 B _ _ ?_ rd hrd2)
  obtain ⟨p1, p2, p3⟩ := put_env (env := env') (B := B) (a := a) (w := w2.putObj l (.loop { r2' with state := .ready, pending := none })) (w' := w2.putObj l (.loop { r2' with state := .ready, pending := none })) (M := M2) (M' := M2) (n := n2) (n' := n2) (h := (id, .lp .ready szc ⟨ps, asn, bd⟩ slots ys) :: h2) (h' := (id, .lp .ready szc ⟨ps, asn, bd⟩ slots ys) :: h2) (d := d) c2 (fun t av ht => he (t, av) (lkE_mem ht)) (Ext.refl _) (dstOk_spec hd) (v := .c (.v (.bool true))) (u := .bool true) (by simp [Rep, RepC])
  exact ⟨M2, ⟨g1.fr, g1.obj, g1.inj, g1.lo⟩, p1, p2, by rw [p3]; exact dv2 _ e2⟩

theorem isC_range {y : Operand} {ps : Array Tmp} {c1 c2 : Code} (hh : AW P sz (.rangeFunc y ps c1 c2) K n env h dfs) : AW P sz (.rangeFunc y ps c1 c2) K n env h dfs := hh
theorem itK_mk {l : Nat} {L : LC} {env' env2 : Env} {e : Exit} {n' : Nat} {h' h2 : Heap} {dfs' : Defs} (he : e = .normal ∨ e = .ret) (hi : IdleD P h' dfs') (hm : framM dfs' = some (.yld (l + 1) :: .ref l 0 :: fram env' dfs)) (hh : endD h' dfs' = h2) (ho : lk h2 (l + 1) = some (.lp .ready sz L (env'.map (·.1)) (env'.map (·.2)))) (hlt : Nat.blt (l + 1) n' = true)
    (next : K .normal n' env' ((l + 1, .lp .exhausted sz L (env'.map (·.1)) (env'.map (·.2))) :: h2) ((some collF, [.ref l 0]) :: dfs)) : ItK P l sz L env' K dfs e n' env2 h' dfs' :=
  ⟨he, hi, hm, by rw [hh]; exact ho, by simpa using hlt, by rw [hh]; exact next⟩
theorem asK_mk {id szc n1 : Nat} {L : LC} {slots : List Nat} {ys : List AV} {env' env1 : Env} {h1 : Heap} {dfs1 : Defs} {ps : List Tmp} {asn bd : Code} (hL : L = ⟨ps, asn, bd⟩) (hm : framM dfs1 = some (.yld id :: fram env' dfs)) (ho : lk h1 id = some (.lp .ready szc L slots ys)) (hlt : Nat.blt id n1 = true)
    (next : AW P szc bd (RdK P id szc L slots ys env' ops sz rest K d dfs) n1 env1 ((id, .lp .busy szc L slots ys) :: h1) dfs1) : AsK P id szc L slots ys env' ops sz rest K d dfs .normal n1 env1 h1 dfs1 := by
  subst hL
  exact ⟨rfl, hm, ho, hlt, next⟩
theorem rdK_some {id szc n2 t : Nat} {L : LC} {slots : List Nat} {ys : List AV} {env' env2 : Env} {h2 : Heap} {dfs2 : Defs} (hm : framM dfs2 = some (.yld id :: fram env' dfs)) (ho : lk h2 id = some (.lp .busy szc L slots ys)) (hlt : Nat.blt id n2 = true)
    (next : AWL P ops sz rest K n2 ((t, .c (.v (.bool true))) :: env') ((id, .lp .ready szc L slots ys) :: h2) dfs) : RdK P id szc L slots ys env' ops sz rest K (some t) dfs .normal n2 env2 h2 dfs2 := ⟨rfl, hm, ho, hlt, next⟩

/-- A loop: only what varies is told. -/
def dropE (ks : List Nat) : Env → Option Env
  | [] => some []
  | p :: r => match dropE ks r with
    | some r' => match memB ks p.1 with | true => some r' | false => some (p :: r')
    | none => none
def dropH (ks : List Nat) : Heap → Option Heap
  | [] => some []
  | p :: r => match dropH ks r with
    | some r' => match memB ks p.1 with | true => some r' | false => some (p :: r')
    | none => none
theorem aw_loopo {ι : Type} {c : Code} (ks hs : List Nat) {envR : Env} {hR : Heap} (hE : dropE ks env = some envR) (hH : dropH hs h = some hR) (ov : ι → Env) (hov : ι → Heap) (Inv : ι → Prop) (μ : ι → Nat) (i0 : ι) (h0 : Inv i0) (hw : Weak n env h dfs n (ov i0 ++ envR) (hov i0 ++ hR) dfs)
    (round : ∀ i, Inv i → ∀ K' : AK, (∀ n' env' h' dfs', (∃ j, Inv j ∧ μ j < μ i ∧ Weak n' env' h' dfs' n (ov j ++ envR) (hov j ++ hR) dfs) → K' .normal n' env' h' dfs') → (∀ e n env h dfs, e ≠ .normal → K e n env h dfs → K' e n env h dfs) → AW P sz c K' n (ov i ++ envR) (hov i ++ hR) dfs) : AW P sz (.loop c) K n env h dfs :=
  aw_loopk n (fun i => ov i ++ envR) (fun i => hov i ++ hR) dfs Inv μ i0 h0 hw round

end
theorem nilrow {n : Nat} {h : Heap} (T : TypeId) {B : Bs} {w : World} {M : Nat → Option Nat} (c1 : ConcH B (lt n) M (lk h) w) : ∃ M', ConcH B (lt (n + 1)) M' (lk ((n, .row T []) :: h)) w ∧ M' n = none ∧ Ext (cx B n M h w) (cx B (n + 1) M' ((n, .row T []) :: h) w) := by
  have e1 : ∀ id, id < n → lk ((n, .row T []) :: h) id = lk h id := fun id hid => by rw [lk_cons, if_neg (by omega)]
  have e2 : lk ((n, AObj.row T []) :: h) n = some (.row T []) := by rw [lk_cons, if_pos rfl]; rfl
  have eok : okOf B (lt n) M (lk ((n, .row T []) :: h)) = okOf B (lt n) M (lk h) := by
    funext b
    unfold okOf
    simp only [eq_iff_iff]
    exact and_congr Iff.rfl ⟨fun hk id o hid hH => hk id o hid (by rw [e1 id hid]; exact hH), fun hk id o hid hH => hk id o hid (by rw [← e1 id hid]; exact hH)⟩
  have h1' : ConcH B (lt n) M (lk ((n, .row T []) :: h)) w := by
    refine ⟨c1.fr, fun id o hid hH => ?_, fun id id' o o' g k1 k2 k3 k4 => c1.inj id id' o o' g k1 k2 (by rw [← e1 id k1]; exact k3) (by rw [← e1 id' k2]; exact k4), fun id o g k1 k2 => c1.lo id o g k1 (by rw [← e1 id k1]; exact k2)⟩
    rw [eok]
    exact c1.obj id o hid (by rw [← e1 id hid]; exact hH)
  let M' : Nat → Option Nat := fun id => if id = n then none else M id
  have hMn : M' n = none := by simp [M']
  have hg := h1'.grow (Below.refl w.heap.size w) n (n + 1) (M' := M') (fun id hid => by
      have : ¬ id = n := by simp only [lt] at hid; omega
      simp [M', this]) (fun id k1 k2 => by simp only [lt]; omega)
    (fun id o k1 k2 k3 g hg => by obtain rfl : id = n := by omega
                                  rw [hMn] at hg; cases hg)
    (fun id id' o o' g k1 k2 k3 k4 _ _ _ _ => by omega)
    (fun hext id o k1 k2 k3 => by
      obtain rfl : id = n := by omega
      rw [e2] at k3
      injection k3 with k3
      subst k3
      exact .inl ⟨hMn, rfl⟩)
  rw [lt_ad (Nat.le_succ n)] at hg
  have hext : Ext (cx B n M h w) (cx B (n + 1) M' ((n, .row T []) :: h) w) := by
    have := hg.2
    rw [eok] at this
    exact this
  exact ⟨M', hg.1, hMn, hext⟩
/-- A nil slice in a block's cell as an own row without cells. -/
theorem weak_nilcell {n id k size : Nat} {env : Env} {h : Heap} {dfs : Defs} {T : TypeId} {cs cs' : List AV} (T' : TypeId) (ho : lk h id = some (.blk T cs)) (hid : Nat.blt id n = true) (hk : cs[k]? = some (.c (.v (.slice none 0 0)))) (hs : cs.set k (.own n 0 0 size true) = cs') : Weak n env h dfs (n + 1) env ((id, .blk T cs') :: (n, .row T' []) :: h) dfs := by
  intro B sz a w hc
  have hid' : id < n := by simpa using hid
  obtain ⟨M, c1, c2, c3, c4⟩ := hc
  obtain ⟨M', g1, hMn, hext⟩ := nilrow T' c1
  have ho1 : lk ((n, .row T' []) :: h) id = some (.blk T cs) := by rw [lk_cons, if_neg (by omega)]; exact ho
  have hob := g1.obj id _ (Nat.lt_succ_of_lt hid') ho1
  obtain ⟨g, us, hg, hb, hus⟩ := hob
  obtain ⟨u, hu, hru⟩ := hus.get hk
  simp only [Rep, RepC] at hru
  subst hru
  have hset : us.set k (.slice none 0 0) = us := by
    apply List.ext_getElem?
    intro j
    rw [List.getElem?_set]
    split
    · rename_i e; subst e; split
      · exact hu.symm
      · rename_i hl; rw [List.getElem?_eq_none (by omega)]
    · rfl
  obtain ⟨t1, t2⟩ := g1.turn (w' := w) (o' := .blk T cs') rfl (Nat.lt_succ_of_lt hid') ho1 hg rfl rfl rfl rfl (fun _ _ => rfl) rfl (fun hx => ⟨g, us, rfl, hb, by
    have h1 := RepL.ext hx _ _ hus
    have := h1.set k (c := .own n 0 0 size true) (u := .slice none 0 0) ⟨Nat.lt_succ_self n, .inl ⟨rfl, rfl, hMn, rfl⟩⟩
    rw [hset, hs] at this
    exact this⟩)
  have hxx := hext.trans t2
  exact ⟨M', t1, c2, fun k av hk => Rep.ext hxx _ _ (c3 k av hk), c4.ext hxx⟩
theorem aw_nilcell {P : Program} {sz n : Nat} {c : Code} {K : AK} {env : Env} {h : Heap} {dfs : Defs} (id k : Nat) (T' : TypeId) (size : Nat) {T : TypeId} {cs cs' : List AV} (ho : lk h id = some (.blk T cs)) (hid : Nat.blt id n = true) (hk : cs[k]? = some (.c (.v (.slice none 0 0)))) (hs : cs.set k (.own n 0 0 size true) = cs') (next : AW P sz c K (n + 1) env ((id, .blk T cs') :: (n, .row T' []) :: h) dfs) : AW P sz c K n env h dfs := aw_weak (weak_nilcell T' ho hid hk hs) next
end Go.Av
/-
  Values: Valid, Clean, Text, Int (walk), as the program and as the reference have them.
-/
set_option linter.unusedVariables false
set_option linter.unusedSimpArgs false
namespace Go.Proofs.Ytccnhpaldmjkbaa
open Go Go.RowKit Go.Av
set_option maxRecDepth 100000
theorem okV_t {v : Vl} (h : okP v) : okV v = true := decide_eq_true h
theorem okV_f {v : Vl} (h : ¬ okP v) : okV v = false := decide_eq_false h
attribute [local irreducible] Still Adds AWL AW Drw DrwE EStep AC AWR Weak Frz Src RetK Out InK ItK AsK RdK
set_option maxHeartbeats 4000000 in
theorem valid_ok (v : Vl) : AC Try.prog 87 [.agg v.c] (.c (bv (okV v))) [] 0 := by
  obtain ⟨k, n, t⟩ := v
  show AC _ _ [.agg [iv k, iv n, sv t]] _ _ _
  have hsz := sv_len t
  by_cases k0 : k = 0
  · subst k0
    by_cases n0 : n = 0
    · by_cases t0 : t = []
      · have hb := okV_t (v := ⟨0, n, t⟩) (.inl ⟨rfl, n0, t0⟩)
        rw [hb]
        refine ac_enter tabOk (sz := 41) Try.func87 rfl (by rw [Try.ntmps87]; rfl) ?_
        repeat' (first
    | ((with_reducible refine aw_seqk ?_); intro K hK hX)
    | ((with_reducible refine isC_reg ?_); refine aw_prune [0, 1, 2, 4] rfl rfl ?_; with_reducible refine aw_region ?_)
    | (((with_reducible refine isA_any ?_); refine xA ?_); (first | ((with_reducible refine e_bin ?_); (first | refine ex_i (s_eqlL rfl rfl (by first | exact decide_eq_true t0 | exact decide_eq_false t0)) ?_))))
    | refine stA ?_
    | (refine hK _ _ _ _ ?_; clear hK hX K)
    | (refine hX _ _ _ _ _ (by simp) ?_; clear hK hX K))
        refine retK_mk (by first | exact .inl rfl | exact .inr rfl) (by exact trivial) rfl (ResL.one (ResA.tmp rfl)) (by first | exact out_c zfz | exact out_own rfl rfl)
      · have hb := okV_f (v := ⟨0, n, t⟩) (by unfold okP; simp [t0])
        rw [hb]
        refine ac_enter tabOk (sz := 41) Try.func87 rfl (by rw [Try.ntmps87]; rfl) ?_
        repeat' (first
    | ((with_reducible refine aw_seqk ?_); intro K hK hX)
    | ((with_reducible refine isC_reg ?_); refine aw_prune [0, 1, 2, 4] rfl rfl ?_; with_reducible refine aw_region ?_)
    | (((with_reducible refine isA_any ?_); refine xA ?_); (first | ((with_reducible refine e_bin ?_); (first | refine ex_i (s_eqlL rfl rfl (by first | exact decide_eq_true t0 | exact decide_eq_false t0)) ?_))))
    | refine stA ?_
    | (refine hK _ _ _ _ ?_; clear hK hX K)
    | (refine hX _ _ _ _ _ (by simp) ?_; clear hK hX K))
        refine retK_mk (by first | exact .inl rfl | exact .inr rfl) (by exact trivial) rfl (ResL.one (ResA.tmp rfl)) (by first | exact out_c zfz | exact out_own rfl rfl)
    · have hb := okV_f (v := ⟨0, n, t⟩) (by unfold okP; simp [n0])
      have t0 : True := trivial
      rw [hb]
      refine ac_enter tabOk (sz := 41) Try.func87 rfl (by rw [Try.ntmps87]; rfl) ?_
      repeat' (first
    | ((with_reducible refine aw_seqk ?_); intro K hK hX)
    | ((with_reducible refine isC_reg ?_); refine aw_prune [0, 1, 2, 4] rfl rfl ?_; with_reducible refine aw_region ?_)
    | (((with_reducible refine isA_any ?_); refine xA ?_); (first | ((with_reducible refine e_bin ?_); (first | refine ex_i (s_eqlL rfl rfl (by first | exact decide_eq_true t0 | exact decide_eq_false t0)) ?_))))
    | refine stA ?_
    | (refine hK _ _ _ _ ?_; clear hK hX K)
    | (refine hX _ _ _ _ _ (by simp) ?_; clear hK hX K))
      refine retK_mk (by first | exact .inl rfl | exact .inr rfl) (by exact trivial) rfl (ResL.one (ResA.tmp rfl)) (by first | exact out_c zfz | exact out_own rfl rfl)
  · by_cases k1 : k = 1
    · subst k1
      have t9 : True := trivial
      by_cases n1 : -4294967296 ≤ n
      · by_cases n2 : n ≤ 4294967296
        · by_cases t0 : t = []
          · have hb := okV_t (v := ⟨1, n, t⟩) (.inr (.inl ⟨rfl, n1, n2, t0⟩))
            rw [hb]
            refine ac_enter tabOk (sz := 41) Try.func87 rfl (by rw [Try.ntmps87]; rfl) ?_
            repeat' (first
    | ((with_reducible refine aw_seqk ?_); intro K hK hX)
    | ((with_reducible refine isC_reg ?_); refine aw_prune [0, 1, 2, 4] rfl rfl ?_; with_reducible refine aw_region ?_)
    | (((with_reducible refine isA_any ?_); refine xA ?_); (first | ((with_reducible refine e_bin ?_); (first | refine ex_i (s_eqlL rfl rfl (by first | exact decide_eq_true t0 | exact decide_eq_false t0)) ?_))))
    | refine stA ?_
    | (refine hK _ _ _ _ ?_; clear hK hX K)
    | (refine hX _ _ _ _ _ (by simp) ?_; clear hK hX K))
            refine retK_mk (by first | exact .inl rfl | exact .inr rfl) (by exact trivial) rfl (ResL.one (ResA.tmp rfl)) (by first | exact out_c zfz | exact out_own rfl rfl)
          · have hb := okV_f (v := ⟨1, n, t⟩) (by unfold okP; simp [t0])
            rw [hb]
            refine ac_enter tabOk (sz := 41) Try.func87 rfl (by rw [Try.ntmps87]; rfl) ?_
            repeat' (first
    | ((with_reducible refine aw_seqk ?_); intro K hK hX)
    | ((with_reducible refine isC_reg ?_); refine aw_prune [0, 1, 2, 4] rfl rfl ?_; with_reducible refine aw_region ?_)
    | (((with_reducible refine isA_any ?_); refine xA ?_); (first | ((with_reducible refine e_bin ?_); (first | refine ex_i (s_eqlL rfl rfl (by first | exact decide_eq_true t0 | exact decide_eq_false t0)) ?_))))
    | refine stA ?_
    | (refine hK _ _ _ _ ?_; clear hK hX K)
    | (refine hX _ _ _ _ _ (by simp) ?_; clear hK hX K))
            refine retK_mk (by first | exact .inl rfl | exact .inr rfl) (by exact trivial) rfl (ResL.one (ResA.tmp rfl)) (by first | exact out_c zfz | exact out_own rfl rfl)
        · have hb := okV_f (v := ⟨1, n, t⟩) (by unfold okP; simp [n2])
          have t0 : True := trivial
          rw [hb]
          refine ac_enter tabOk (sz := 41) Try.func87 rfl (by rw [Try.ntmps87]; rfl) ?_
          repeat' (first
    | ((with_reducible refine aw_seqk ?_); intro K hK hX)
    | ((with_reducible refine isC_reg ?_); refine aw_prune [0, 1, 2, 4] rfl rfl ?_; with_reducible refine aw_region ?_)
    | (((with_reducible refine isA_any ?_); refine xA ?_); (first | ((with_reducible refine e_bin ?_); (first | refine ex_i (s_eqlL rfl rfl (by first | exact decide_eq_true t0 | exact decide_eq_false t0)) ?_))))
    | refine stA ?_
    | (refine hK _ _ _ _ ?_; clear hK hX K)
    | (refine hX _ _ _ _ _ (by simp) ?_; clear hK hX K))
          refine retK_mk (by first | exact .inl rfl | exact .inr rfl) (by exact trivial) rfl (ResL.one (ResA.tmp rfl)) (by first | exact out_c zfz | exact out_own rfl rfl)
      · have hb := okV_f (v := ⟨1, n, t⟩) (by unfold okP; simp [n1])
        have t0 : True := trivial
        rw [hb]
        refine ac_enter tabOk (sz := 41) Try.func87 rfl (by rw [Try.ntmps87]; rfl) ?_
        repeat' (first
    | ((with_reducible refine aw_seqk ?_); intro K hK hX)
    | ((with_reducible refine isC_reg ?_); refine aw_prune [0, 1, 2, 4] rfl rfl ?_; with_reducible refine aw_region ?_)
    | (((with_reducible refine isA_any ?_); refine xA ?_); (first | ((with_reducible refine e_bin ?_); (first | refine ex_i (s_eqlL rfl rfl (by first | exact decide_eq_true t0 | exact decide_eq_false t0)) ?_))))
    | refine stA ?_
    | (refine hK _ _ _ _ ?_; clear hK hX K)
    | (refine hX _ _ _ _ _ (by simp) ?_; clear hK hX K))
        refine retK_mk (by first | exact .inl rfl | exact .inr rfl) (by exact trivial) rfl (ResL.one (ResA.tmp rfl)) (by first | exact out_c zfz | exact out_own rfl rfl)
    · by_cases k2 : k = 2
      · subst k2
        have t0 : True := trivial
        by_cases n0 : n = 0
        · by_cases t1 : t.length ≤ 32
          · have hb := okV_t (v := ⟨2, n, t⟩) (.inr (.inr ⟨rfl, n0, t1⟩))
            rw [hb]
            refine ac_enter tabOk (sz := 41) Try.func87 rfl (by rw [Try.ntmps87]; rfl) ?_
            repeat' (first
    | ((with_reducible refine aw_seqk ?_); intro K hK hX)
    | ((with_reducible refine isC_reg ?_); refine aw_prune [0, 1, 2, 4] rfl rfl ?_; with_reducible refine aw_region ?_)
    | (((with_reducible refine isA_any ?_); refine xA ?_); (first | ((with_reducible refine e_bin ?_); (first | refine ex_i (s_eqlL rfl rfl (by first | exact decide_eq_true t0 | exact decide_eq_false t0)) ?_))))
    | refine stA ?_
    | (refine hK _ _ _ _ ?_; clear hK hX K)
    | (refine hX _ _ _ _ _ (by simp) ?_; clear hK hX K))
            refine retK_mk (by first | exact .inl rfl | exact .inr rfl) (by exact trivial) rfl (ResL.one (ResA.tmp rfl)) (by first | exact out_c zfz | exact out_own rfl rfl)
          · have hb := okV_f (v := ⟨2, n, t⟩) (by unfold okP; simp; omega)
            rw [hb]
            refine ac_enter tabOk (sz := 41) Try.func87 rfl (by rw [Try.ntmps87]; rfl) ?_
            repeat' (first
    | ((with_reducible refine aw_seqk ?_); intro K hK hX)
    | ((with_reducible refine isC_reg ?_); refine aw_prune [0, 1, 2, 4] rfl rfl ?_; with_reducible refine aw_region ?_)
    | (((with_reducible refine isA_any ?_); refine xA ?_); (first | ((with_reducible refine e_bin ?_); (first | refine ex_i (s_eqlL rfl rfl (by first | exact decide_eq_true t0 | exact decide_eq_false t0)) ?_))))
    | refine stA ?_
    | (refine hK _ _ _ _ ?_; clear hK hX K)
    | (refine hX _ _ _ _ _ (by simp) ?_; clear hK hX K))
            refine retK_mk (by first | exact .inl rfl | exact .inr rfl) (by exact trivial) rfl (ResL.one (ResA.tmp rfl)) (by first | exact out_c zfz | exact out_own rfl rfl)
        · have hb := okV_f (v := ⟨2, n, t⟩) (by unfold okP; simp [n0])
          rw [hb]
          refine ac_enter tabOk (sz := 41) Try.func87 rfl (by rw [Try.ntmps87]; rfl) ?_
          repeat' (first
    | ((with_reducible refine aw_seqk ?_); intro K hK hX)
    | ((with_reducible refine isC_reg ?_); refine aw_prune [0, 1, 2, 4] rfl rfl ?_; with_reducible refine aw_region ?_)
    | (((with_reducible refine isA_any ?_); refine xA ?_); (first | ((with_reducible refine e_bin ?_); (first | refine ex_i (s_eqlL rfl rfl (by first | exact decide_eq_true t0 | exact decide_eq_false t0)) ?_))))
    | refine stA ?_
    | (refine hK _ _ _ _ ?_; clear hK hX K)
    | (refine hX _ _ _ _ _ (by simp) ?_; clear hK hX K))
          refine retK_mk (by first | exact .inl rfl | exact .inr rfl) (by exact trivial) rfl (ResL.one (ResA.tmp rfl)) (by first | exact out_c zfz | exact out_own rfl rfl)
      · have hb := okV_f (v := ⟨k, n, t⟩) (by unfold okP; simp [k0, k1, k2])
        have t0 : True := trivial
        rw [hb]
        refine ac_enter tabOk (sz := 41) Try.func87 rfl (by rw [Try.ntmps87]; rfl) ?_
        repeat' (first
    | ((with_reducible refine aw_seqk ?_); intro K hK hX)
    | ((with_reducible refine isC_reg ?_); refine aw_prune [0, 1, 2, 4] rfl rfl ?_; with_reducible refine aw_region ?_)
    | (((with_reducible refine isA_any ?_); refine xA ?_); (first | ((with_reducible refine e_bin ?_); (first | refine ex_i (s_eqlL rfl rfl (by first | exact decide_eq_true t0 | exact decide_eq_false t0)) ?_))))
    | refine stA ?_
    | (refine hK _ _ _ _ ?_; clear hK hX K)
    | (refine hX _ _ _ _ _ (by simp) ?_; clear hK hX K))
        refine retK_mk (by first | exact .inl rfl | exact .inr rfl) (by exact trivial) rfl (ResL.one (ResA.tmp rfl)) (by first | exact out_c zfz | exact out_own rfl rfl)
set_option maxHeartbeats 4000000 in
theorem rvalid_ok (v : Vl) : AC Try.prog 136 [.agg v.c] (.c (bv (okV v))) [] 0 := by
  obtain ⟨k, n, t⟩ := v
  show AC _ _ [.agg [iv k, iv n, sv t]] _ _ _
  have hsz := sv_len t
  by_cases k0 : k = 0
  · subst k0
    by_cases n0 : n = 0
    · by_cases t0 : t = []
      · have hb := okV_t (v := ⟨0, n, t⟩) (.inl ⟨rfl, n0, t0⟩)
        rw [hb]
        refine ac_enter tabOk (sz := 41) Try.func136 rfl (by rw [Try.ntmps136]; rfl) ?_
        repeat' (first
    | ((with_reducible refine aw_seqk ?_); intro K hK hX)
    | ((with_reducible refine isC_reg ?_); refine aw_prune [0, 1, 2, 4] rfl rfl ?_; with_reducible refine aw_region ?_)
    | (((with_reducible refine isA_any ?_); refine xA ?_); (first | ((with_reducible refine e_bin ?_); (first | refine ex_i (s_eqlL rfl rfl (by first | exact decide_eq_true t0 | exact decide_eq_false t0)) ?_))))
    | refine stA ?_
    | (refine hK _ _ _ _ ?_; clear hK hX K)
    | (refine hX _ _ _ _ _ (by simp) ?_; clear hK hX K))
        refine retK_mk (by first | exact .inl rfl | exact .inr rfl) (by exact trivial) rfl (ResL.one (ResA.tmp rfl)) (by first | exact out_c zfz | exact out_own rfl rfl)
      · have hb := okV_f (v := ⟨0, n, t⟩) (by unfold okP; simp [t0])
        rw [hb]
        refine ac_enter tabOk (sz := 41) Try.func136 rfl (by rw [Try.ntmps136]; rfl) ?_
        repeat' (first
    | ((with_reducible refine aw_seqk ?_); intro K hK hX)
    | ((with_reducible refine isC_reg ?_); refine aw_prune [0, 1, 2, 4] rfl rfl ?_; with_reducible refine aw_region ?_)
    | (((with_reducible refine isA_any ?_); refine xA ?_); (first | ((with_reducible refine e_bin ?_); (first | refine ex_i (s_eqlL rfl rfl (by first | exact decide_eq_true t0 | exact decide_eq_false t0)) ?_))))
    | refine stA ?_
    | (refine hK _ _ _ _ ?_; clear hK hX K)
    | (refine hX _ _ _ _ _ (by simp) ?_; clear hK hX K))
        refine retK_mk (by first | exact .inl rfl | exact .inr rfl) (by exact trivial) rfl (ResL.one (ResA.tmp rfl)) (by first | exact out_c zfz | exact out_own rfl rfl)
    · have hb := okV_f (v := ⟨0, n, t⟩) (by unfold okP; simp [n0])
      have t0 : True := trivial
      rw [hb]
      refine ac_enter tabOk (sz := 41) Try.func136 rfl (by rw [Try.ntmps136]; rfl) ?_
      repeat' (first
    | ((with_reducible refine aw_seqk ?_); intro K hK hX)
    | ((with_reducible refine isC_reg ?_); refine aw_prune [0, 1, 2, 4] rfl rfl ?_; with_reducible refine aw_region ?_)
    | (((with_reducible refine isA_any ?_); refine xA ?_); (first | ((with_reducible refine e_bin ?_); (first | refine ex_i (s_eqlL rfl rfl (by first | exact decide_eq_true t0 | exact decide_eq_false t0)) ?_))))
    | refine stA ?_
    | (refine hK _ _ _ _ ?_; clear hK hX K)
    | (refine hX _ _ _ _ _ (by simp) ?_; clear hK hX K))
      refine retK_mk (by first | exact .inl rfl | exact .inr rfl) (by exact trivial) rfl (ResL.one (ResA.tmp rfl)) (by first | exact out_c zfz | exact out_own rfl rfl)
  · by_cases k1 : k = 1
    · subst k1
      have t9 : True := trivial
      by_cases n1 : -4294967296 ≤ n
      · by_cases n2 : n ≤ 4294967296
        · by_cases t0 : t = []
          · have hb := okV_t (v := ⟨1, n, t⟩) (.inr (.inl ⟨rfl, n1, n2, t0⟩))
            rw [hb]
            refine ac_enter tabOk (sz := 41) Try.func136 rfl (by rw [Try.ntmps136]; rfl) ?_
            repeat' (first
    | ((with_reducible refine aw_seqk ?_); intro K hK hX)
    | ((with_reducible refine isC_reg ?_); refine aw_prune [0, 1, 2, 4] rfl rfl ?_; with_reducible refine aw_region ?_)
    | (((with_reducible refine isA_any ?_); refine xA ?_); (first | ((with_reducible refine e_bin ?_); (first | refine ex_i (s_eqlL rfl rfl (by first | exact decide_eq_true t0 | exact decide_eq_false t0)) ?_))))
    | refine stA ?_
    | (refine hK _ _ _ _ ?_; clear hK hX K)
    | (refine hX _ _ _ _ _ (by simp) ?_; clear hK hX K))
            refine retK_mk (by first | exact .inl rfl | exact .inr rfl) (by exact trivial) rfl (ResL.one (ResA.tmp rfl)) (by first | exact out_c zfz | exact out_own rfl rfl)
          · have hb := okV_f (v := ⟨1, n, t⟩) (by unfold okP; simp [t0])
            rw [hb]
            refine ac_enter tabOk (sz := 41) Try.func136 rfl (by rw [Try.ntmps136]; rfl) ?_
            repeat' (first
    | ((with_reducible refine aw_seqk ?_); intro K hK hX)
    | ((with_reducible refine isC_reg ?_); refine aw_prune [0, 1, 2, 4] rfl rfl ?_; with_reducible refine aw_region ?_)
    | (((with_reducible refine isA_any ?_); refine xA ?_); (first | ((with_reducible refine e_bin ?_); (first | refine ex_i (s_eqlL rfl rfl (by first | exact decide_eq_true t0 | exact decide_eq_false t0)) ?_))))
    | refine stA ?_
    | (refine hK _ _ _ _ ?_; clear hK hX K)
    | (refine hX _ _ _ _ _ (by simp) ?_; clear hK hX K))
            refine retK_mk (by first | exact .inl rfl | exact .inr rfl) (by exact trivial) rfl (ResL.one (ResA.tmp rfl)) (by first | exact out_c zfz | exact out_own rfl rfl)
        · have hb := okV_f (v := ⟨1, n, t⟩) (by unfold okP; simp [n2])
          have t0 : True := trivial
          rw [hb]
          refine ac_enter tabOk (sz := 41) Try.func136 rfl (by rw [Try.ntmps136]; rfl) ?_
          repeat' (first
    | ((with_reducible refine aw_seqk ?_); intro K hK hX)
    | ((with_reducible refine isC_reg ?_); refine aw_prune [0, 1, 2, 4] rfl rfl ?_; with_reducible refine aw_region ?_)
    | (((with_reducible refine isA_any ?_); refine xA ?_); (first | ((with_reducible refine e_bin ?_); (first | refine ex_i (s_eqlL rfl rfl (by first | exact decide_eq_true t0 | exact decide_eq_false t0)) ?_))))
    | refine stA ?_
    | (refine hK _ _ _ _ ?_; clear hK hX K)
    | (refine hX _ _ _ _ _ (by simp) ?_; clear hK hX K))
          refine retK_mk (by first | exact .inl rfl | exact .inr rfl) (by exact trivial) rfl (ResL.one (ResA.tmp rfl)) (by first | exact out_c zfz | exact out_own rfl rfl)
      · have hb := okV_f (v := ⟨1, n, t⟩) (by unfold okP; simp [n1])
        have t0 : True := trivial
        rw [hb]
        refine ac_enter tabOk (sz := 41) Try.func136 rfl (by rw [Try.ntmps136]; rfl) ?_
        repeat' (first
    | ((with_reducible refine aw_seqk ?_); intro K hK hX)
    | ((with_reducible refine isC_reg ?_); refine aw_prune [0, 1, 2, 4] rfl rfl ?_; with_reducible refine aw_region ?_)
    | (((with_reducible refine isA_any ?_); refine xA ?_); (first | ((with_reducible refine e_bin ?_); (first | refine ex_i (s_eqlL rfl rfl (by first | exact decide_eq_true t0 | exact decide_eq_false t0)) ?_))))
    | refine stA ?_
    | (refine hK _ _ _ _ ?_; clear hK hX K)
    | (refine hX _ _ _ _ _ (by simp) ?_; clear hK hX K))
        refine retK_mk (by first | exact .inl rfl | exact .inr rfl) (by exact trivial) rfl (ResL.one (ResA.tmp rfl)) (by first | exact out_c zfz | exact out_own rfl rfl)
    · by_cases k2 : k = 2
      · subst k2
        have t0 : True := trivial
        by_cases n0 : n = 0
        · by_cases t1 : t.length ≤ 32
          · have hb := okV_t (v := ⟨2, n, t⟩) (.inr (.inr ⟨rfl, n0, t1⟩))
            rw [hb]
            refine ac_enter tabOk (sz := 41) Try.func136 rfl (by rw [Try.ntmps136]; rfl) ?_
            repeat' (first
    | ((with_reducible refine aw_seqk ?_); intro K hK hX)
    | ((with_reducible refine isC_reg ?_); refine aw_prune [0, 1, 2, 4] rfl rfl ?_; with_reducible refine aw_region ?_)
    | (((with_reducible refine isA_any ?_); refine xA ?_); (first | ((with_reducible refine e_bin ?_); (first | refine ex_i (s_eqlL rfl rfl (by first | exact decide_eq_true t0 | exact decide_eq_false t0)) ?_))))
    | refine stA ?_
    | (refine hK _ _ _ _ ?_; clear hK hX K)
    | (refine hX _ _ _ _ _ (by simp) ?_; clear hK hX K))
            refine retK_mk (by first | exact .inl rfl | exact .inr rfl) (by exact trivial) rfl (ResL.one (ResA.tmp rfl)) (by first | exact out_c zfz | exact out_own rfl rfl)
          · have hb := okV_f (v := ⟨2, n, t⟩) (by unfold okP; simp; omega)
            rw [hb]
            refine ac_enter tabOk (sz := 41) Try.func136 rfl (by rw [Try.ntmps136]; rfl) ?_
            repeat' (first
    | ((with_reducible refine aw_seqk ?_); intro K hK hX)
    | ((with_reducible refine isC_reg ?_); refine aw_prune [0, 1, 2, 4] rfl rfl ?_; with_reducible refine aw_region ?_)
    | (((with_reducible refine isA_any ?_); refine xA ?_); (first | ((with_reducible refine e_bin ?_); (first | refine ex_i (s_eqlL rfl rfl (by first | exact decide_eq_true t0 | exact decide_eq_false t0)) ?_))))
    | refine stA ?_
    | (refine hK _ _ _ _ ?_; clear hK hX K)
    | (refine hX _ _ _ _ _ (by simp) ?_; clear hK hX K))
            refine retK_mk (by first | exact .inl rfl | exact .inr rfl) (by exact trivial) rfl (ResL.one (ResA.tmp rfl)) (by first | exact out_c zfz | exact out_own rfl rfl)
        · have hb := okV_f (v := ⟨2, n, t⟩) (by unfold okP; simp [n0])
          rw [hb]
          refine ac_enter tabOk (sz := 41) Try.func136 rfl (by rw [Try.ntmps136]; rfl) ?_
          repeat' (first
    | ((with_reducible refine aw_seqk ?_); intro K hK hX)
    | ((with_reducible refine isC_reg ?_); refine aw_prune [0, 1, 2, 4] rfl rfl ?_; with_reducible refine aw_region ?_)
    | (((with_reducible refine isA_any ?_); refine xA ?_); (first | ((with_reducible refine e_bin ?_); (first | refine ex_i (s_eqlL rfl rfl (by first | exact decide_eq_true t0 | exact decide_eq_false t0)) ?_))))
    | refine stA ?_
    | (refine hK _ _ _ _ ?_; clear hK hX K)
    | (refine hX _ _ _ _ _ (by simp) ?_; clear hK hX K))
          refine retK_mk (by first | exact .inl rfl | exact .inr rfl) (by exact trivial) rfl (ResL.one (ResA.tmp rfl)) (by first | exact out_c zfz | exact out_own rfl rfl)
      · have hb := okV_f (v := ⟨k, n, t⟩) (by unfold okP; simp [k0, k1, k2])
        have t0 : True := trivial
        rw [hb]
        refine ac_enter tabOk (sz := 41) Try.func136 rfl (by rw [Try.ntmps136]; rfl) ?_
        repeat' (first
    | ((with_reducible refine aw_seqk ?_); intro K hK hX)
    | ((with_reducible refine isC_reg ?_); refine aw_prune [0, 1, 2, 4] rfl rfl ?_; with_reducible refine aw_region ?_)
    | (((with_reducible refine isA_any ?_); refine xA ?_); (first | ((with_reducible refine e_bin ?_); (first | refine ex_i (s_eqlL rfl rfl (by first | exact decide_eq_true t0 | exact decide_eq_false t0)) ?_))))
    | refine stA ?_
    | (refine hK _ _ _ _ ?_; clear hK hX K)
    | (refine hX _ _ _ _ _ (by simp) ?_; clear hK hX K))
        refine retK_mk (by first | exact .inl rfl | exact .inr rfl) (by exact trivial) rfl (ResL.one (ResA.tmp rfl)) (by first | exact out_c zfz | exact out_own rfl rfl)
theorem clean_ok (v : Vl) : AC Try.prog 125 [.agg v.c] (.c (.agg (clV v).c)) [] 0 := by
  have hv := valid_ok v
  unfold clV
  cases hb : okV v with
  | true =>
    rw [hb] at hv
    obtain ⟨k, n, t⟩ := v
    refine ac_enter tabOk (sz := 7) Try.func125 rfl (by rw [Try.ntmps125]; rfl) ?_
    repeat' (first
    | ((with_reducible refine aw_seqk ?_); intro K hK hX)
    | ((with_reducible refine isC_reg ?_); refine aw_prune [0, 1, 2] rfl rfl ?_; with_reducible refine aw_region ?_)
    | ((with_reducible refine isA_call ?_); (first | refine zA ?_ | refine zN ?_); (first | refine c0 (hv) ?_))
    | refine stA ?_
    | (refine hK _ _ _ _ ?_; clear hK hX K)
    | (refine hX _ _ _ _ _ (by simp) ?_; clear hK hX K))
    refine retK_mk (by first | exact .inl rfl | exact .inr rfl) (by exact trivial) rfl (ResL.one zrs) (by first | exact out_c zfz | exact out_own rfl rfl)
  | false =>
    rw [hb] at hv
    obtain ⟨k, n, t⟩ := v
    refine ac_enter tabOk (sz := 7) Try.func125 rfl (by rw [Try.ntmps125]; rfl) ?_
    repeat' (first
    | ((with_reducible refine aw_seqk ?_); intro K hK hX)
    | ((with_reducible refine isC_reg ?_); refine aw_prune [0, 1, 2] rfl rfl ?_; with_reducible refine aw_region ?_)
    | ((with_reducible refine isA_call ?_); (first | refine zA ?_ | refine zN ?_); (first | refine c0 (hv) ?_))
    | refine stA ?_
    | (refine hK _ _ _ _ ?_; clear hK hX K)
    | (refine hX _ _ _ _ _ (by simp) ?_; clear hK hX K))
    refine retK_mk (by first | exact .inl rfl | exact .inr rfl) (by exact trivial) rfl (ResL.one zrs) (by first | exact out_c zfz | exact out_own rfl rfl)
theorem rclean_ok (v : Vl) : AC Try.prog 106 [.agg v.c] (.c (.agg (clV v).c)) [] 0 := by
  have hv := rvalid_ok v
  unfold clV
  cases hb : okV v with
  | true =>
    rw [hb] at hv
    obtain ⟨k, n, t⟩ := v
    refine ac_enter tabOk (sz := 7) Try.func106 rfl (by rw [Try.ntmps106]; rfl) ?_
    repeat' (first
    | ((with_reducible refine aw_seqk ?_); intro K hK hX)
    | ((with_reducible refine isC_reg ?_); refine aw_prune [0, 1, 2] rfl rfl ?_; with_reducible refine aw_region ?_)
    | ((with_reducible refine isA_call ?_); (first | refine zA ?_ | refine zN ?_); (first | refine c0 (hv) ?_))
    | refine stA ?_
    | (refine hK _ _ _ _ ?_; clear hK hX K)
    | (refine hX _ _ _ _ _ (by simp) ?_; clear hK hX K))
    refine retK_mk (by first | exact .inl rfl | exact .inr rfl) (by exact trivial) rfl (ResL.one zrs) (by first | exact out_c zfz | exact out_own rfl rfl)
  | false =>
    rw [hb] at hv
    obtain ⟨k, n, t⟩ := v
    refine ac_enter tabOk (sz := 7) Try.func106 rfl (by rw [Try.ntmps106]; rfl) ?_
    repeat' (first
    | ((with_reducible refine aw_seqk ?_); intro K hK hX)
    | ((with_reducible refine isC_reg ?_); refine aw_prune [0, 1, 2] rfl rfl ?_; with_reducible refine aw_region ?_)
    | ((with_reducible refine isA_call ?_); (first | refine zA ?_ | refine zN ?_); (first | refine c0 (hv) ?_))
    | refine stA ?_
    | (refine hK _ _ _ _ ?_; clear hK hX K)
    | (refine hX _ _ _ _ _ (by simp) ?_; clear hK hX K))
    refine retK_mk (by first | exact .inl rfl | exact .inr rfl) (by exact trivial) rfl (ResL.one zrs) (by first | exact out_c zfz | exact out_own rfl rfl)
theorem rtext_ok (t : List UInt8) : AC Try.prog 47 [sv t] (.c (.agg (clV ⟨2, 0, t⟩).c)) [] 0 := by
  have hv := rclean_ok ⟨2, 0, t⟩
  refine ac_enter tabOk (sz := 6) Try.func47 rfl (by rw [Try.ntmps47]; rfl) ?_
  repeat' (first
    | ((with_reducible refine aw_seqk ?_); intro K hK hX)
    | ((with_reducible refine isC_reg ?_); refine aw_prune [0, 2] rfl rfl ?_; with_reducible refine aw_region ?_)
    | ((with_reducible refine isA_call ?_); (first | refine zA ?_ | refine zN ?_); (first | refine c0 (hv) ?_))
    | refine stA ?_
    | (refine hK _ _ _ _ ?_; clear hK hX K)
    | (refine hX _ _ _ _ _ (by simp) ?_; clear hK hX K))
  refine retK_mk (by first | exact .inl rfl | exact .inr rfl) (by exact trivial) rfl (ResL.one zrs) (by first | exact out_c zfz | exact out_own rfl rfl)
theorem rint_ok (n : Int) : AC Try.prog 109 [iv n] (.c (.agg (clV ⟨1, n, []⟩).c)) [] 0 := by
  have hv := rclean_ok ⟨1, n, []⟩
  refine ac_enter tabOk (sz := 6) Try.func109 rfl (by rw [Try.ntmps109]; rfl) ?_
  repeat' (first
    | ((with_reducible refine aw_seqk ?_); intro K hK hX)
    | ((with_reducible refine isC_reg ?_); refine aw_prune [0, 2] rfl rfl ?_; with_reducible refine aw_region ?_)
    | ((with_reducible refine isA_call ?_); (first | refine zA ?_ | refine zN ?_); (first | refine c0 (hv) ?_))
    | refine stA ?_
    | (refine hK _ _ _ _ ?_; clear hK hX K)
    | (refine hX _ _ _ _ _ (by simp) ?_; clear hK hX K))
  refine retK_mk (by first | exact .inl rfl | exact .inr rfl) (by exact trivial) rfl (ResL.one zrs) (by first | exact out_c zfz | exact out_own rfl rfl)
end Go.Proofs.Ytccnhpaldmjkbaa
