/-
  Joined texts: WK AvRf H1 H2 H3 H4 H5. Lemmas; no statement of a law.
-/
import Derived.Test.YtccnhpaldmjkbaaGreatQ3
set_option maxHeartbeats 16000000
set_option linter.unusedSimpArgs false
set_option linter.unusedVariables false
namespace Go.Proofs.YtccnhpaldmjkbaaGreat
open Go Go.RowKit Go.Av
set_option maxRecDepth 100000
theorem zio {p : Prop} (h : p := by first | exact .inl rfl | exact .inr rfl) : p := h
theorem ztr {p : Prop} (h : p := by exact trivial) : p := h
theorem zou {p : Prop} (h : p := by first | exact cE zfz | exact oP rfl rfl) : p := h
theorem zby {p : Prop} (h : p := by unfold Body; kernel_rfl) : p := h
theorem zpt {p : Prop} (h : p := by first | exact Parts.mixed _ | exact Parts.closed _) : p := h
theorem ztp {p : Prop} (h : p := by (try simp only [tpC, List.map_cons, List.map_nil]); exact rfl) : p := h
theorem zgd {p : Prop} (h : p := by first | rfl | exact gd1 (by omega) | exact gd2 (by omega) | exact gd3 (by omega) | exact gd4 (by omega)) : p := h
theorem zcm {p : Prop} (h : p := by first | exact decide_eq_true (by omega) | exact decide_eq_false (by omega) | rfl) : p := h
theorem zeq {p : Prop} (h : p := by first | exact zP rfl rfl (by omega) | exact zH (by omega) | (simp <;> fail) | (congr 4; omega) | (congr 3; omega) | (congr 2; omega)) : p := h
theorem zgb {p : Prop} (h : p := by first | rfl | assumption | exact gd1 (by omega) | exact gd2 (by omega) | exact gd3 (by omega) | exact gd4 (by omega) | (simp only [*] <;> fail) | fail) : p := h
theorem zln {p : Prop} (h : p := by first | rfl | with_reducible assumption | (simp <;> fail) | omega | (simp <;> omega) | assumption) : p := h
theorem zcj {p : Prop} (h : p := by first | with_reducible exact cast_self _ | with_reducible exact cast_lit _ | with_reducible exact cast_add2 _ _ | with_reducible exact cast_addl _ _ | with_reducible exact cast_sub2 (by omega) | with_reducible exact cast_subl (by omega) | with_reducible exact cast_lsub (by omega) | exact nt (by omega) | rfl) : p := h
theorem zle {p : Prop} (h : p := by first | exact Nat.le_of_ble_eq_true rfl | omega | (simp <;> omega)) : p := h
theorem zcv {p : Prop} (h : p := by first | exact kK | ((repeat' (first | exact gO | refine dF ?_ ?_ | (first | exact bL | exact eB | (refine dA ?_ ?_ <;> first | rfl | omega | (simp <;> fail) | fail) | (refine cV ?_; first | rfl | (simp <;> fail) | fail) | refine cv_agg ?_))) <;> fail) | fail) : p := h
theorem zbd {p : Prop} (h : p := by first | exact Bd.no | exact Bd.yes rfl zcj) : p := h
theorem zfz {p : Prop} (h : p := by repeat' (first | exact bY bL | exact bY eB | exact cD rfl rfl zln | exact gP rfl rfl rfl zln | exact bO (cD rfl rfl zln) (dA zse zse) | exact bO (gP rfl rfl rfl zln) (dA zse zse) | refine frz_agg rfl ?_ | refine bY (cv_agg ?_) | exact dG | refine bV ?_ ?_ | exact gO | refine dF ?_ ?_ | exact bL | exact eB | exact dA zse zse | exact gP rfl rfl (by assumption) (by assumption) | exact frz_int (by first | exact w64 (by omega) (by omega) | omega) | exact frz_true (by first | assumption | omega) | exact frz_false (by first | assumption | omega) | exact frz_eq (bY bL) (by first | rfl | (simp <;> fail) | fail))) : p := h
theorem zrs {p : Prop} (h : p := by first | exact ResA.one rfl rfl rfl rfl rfl | exact ResA.agg rfl rfl rfl rfl rfl (by first | exact IsAgg.closed rfl rfl | exact IsAgg.mixed _) | exact ResA.aggr rfl rfl rfl rfl zln) : p := h
structure Kept (q : Prop) : Prop where
  out : q
theorem aD {P : Program} {sz n i : Nat} {env env' : Env} {h h' : Heap} {dfs : Defs} {K : AK} {l : List Oper} (ks : List Nat) (hE : pruneE env ks = some env') (hH : pruneH h n = some h') (hx : AWL P l.toArray sz l K n env' h' dfs) : AW P sz (.region i l.toArray false) K n env h dfs := aG ks hE hH (fL hx)
theorem stA {p q : Prop} (hq : q) (h : Kept q → p := by
  intro hq
  (first
  | ((with_reducible refine isC_any ?_); (first | ((with_reducible refine isC_cond ?_); (first | (refine pD rfl (by first | assumption | with_reducible exact decide_eq_true (by assumption) | with_reducible rfl) ?_) | (refine pC rfl (by first | assumption | with_reducible exact decide_eq_false (by assumption) | with_reducible rfl) ?_) | (refine pD rfl rfl ?_) | (refine pC rfl rfl ?_) | (refine pD rfl (by first | exact decide_eq_true (by omega) | (simp only [*] <;> fail) | fail) ?_) | (refine pC rfl (by first | exact decide_eq_false (by omega) | (simp only [*] <;> fail) | fail) ?_))) | (with_reducible refine aw_block ?_) | (with_reducible refine aw_skip ?_) | (with_reducible refine aw_exit ?_) | (with_reducible refine aw_ret ?_)))
  | ((with_reducible refine fV ?_); (refine yC (bP rfl rfl (by first | assumption | with_reducible exact gd1 (by assumption) | with_reducible exact gd2 (by assumption) | with_reducible exact gd3 (by assumption) | with_reducible exact gd4 (by assumption) | with_reducible rfl)) rfl ?_))
  | ((with_reducible refine fV ?_); (refine yC (tJ rfl rfl) rfl ?_))
  | ((with_reducible refine gZ ?_); (first | (refine oY tabOk aL rfl rfl rfl rfl rfl rfl rfl rfl zln rfl (by first | exact mM | exact src_nil | exact gA rfl zln) (by first | (simp only [maxLen]; omega) | (simp [maxLen]; omega)) zle ?_) | ((first | refine y_a aL rfl ?_ | refine y_a (bP rfl rfl (by first | assumption | with_reducible exact gd1 (by assumption) | with_reducible exact gd2 (by assumption) | with_reducible exact gd3 (by assumption) | with_reducible exact gd4 (by assumption) | with_reducible rfl | rfl | ((first | with_reducible refine gd1 ?_ | with_reducible refine gd2 ?_ | with_reducible refine gd3 ?_ | with_reducible refine gd4 ?_); omega) | (simp only [*] <;> fail) | fail)) rfl ?_); refine eG (mW tabOk rfl rfl rfl rfl rfl rfl rfl rfl (by first | exact mM | exact src_nil | exact gA rfl zln) (by first | (simp only [maxLen]; omega) | (simp [maxLen]; omega)) zle) rfl ?_) | ((first | refine y_a aL rfl ?_ | refine y_a (bP rfl rfl (by first | assumption | with_reducible exact gd1 (by assumption) | with_reducible exact gd2 (by assumption) | with_reducible exact gd3 (by assumption) | with_reducible exact gd4 (by assumption) | with_reducible rfl | rfl | ((first | with_reducible refine gd1 ?_ | with_reducible refine gd2 ?_ | with_reducible refine gd3 ?_ | with_reducible refine gd4 ?_); omega) | (simp only [*] <;> fail) | fail)) rfl ?_); refine eG (a_appendZ tabOk rfl rfl rfl rfl rfl rfl rfl rfl rfl rfl rfl zcj zle (by first | (simp only [maxLen]; omega) | (simp [maxLen]; omega)) zle) rfl ?_) | (refine a_copy tabOk aL rfl rfl rfl rfl rfl rfl rfl rfl (by first | exact mM | exact src_nil | exact gA rfl zln) zle zle ?_) | (refine n_copy tabOk aL rfl rfl rfl rfl rfl rfl rfl (by first | exact mM | exact src_nil | exact gA rfl zln) zle zle ?_)))
  | ((with_reducible refine cS ?_); (first | (refine f_store1 tabOk aL rfl rfl rfl rfl rfl rfl rfl ?_) | (refine f_store1r tabOk aL rfl rfl rfl rfl rfl rfl rfl ?_) | (refine eT tabOk aL rfl rfl rfl rfl rfl rfl (by first | fail | exact Nat.le_of_ble_eq_true rfl | omega | (simp <;> omega)) ?_) | (refine dO tabOk aL rfl rfl rfl (by first | exact Parts.mixed _ | exact Parts.closed _) (by rfl) (by rfl) rfl (Nat.le_of_ble_eq_true rfl) (by rfl) ?_) | (refine awl_storeAr tabOk aL rfl rfl rfl zln rfl zle (by first | exact nG _ _ zln | rfl) ?_)))
  | ((with_reducible refine isA_alloc ?_); (first | refine y_a aL rfl ?_ | refine y_a (bP rfl rfl (by first | assumption | with_reducible exact gd1 (by assumption) | with_reducible exact gd2 (by assumption) | with_reducible exact gd3 (by assumption) | with_reducible exact gd4 (by assumption) | with_reducible rfl | rfl | ((first | with_reducible refine gd1 ?_ | with_reducible refine gd2 ?_ | with_reducible refine gd3 ?_ | with_reducible refine gd4 ?_); omega) | (simp only [*] <;> fail) | fail)) rfl ?_); (first | refine eG (a_allocR tabOk rfl rfl rfl rfl) rfl ?_ | refine eG (sX tabOk rfl rfl) rfl ?_))
  | ((with_reducible refine isA_box ?_); (first | refine y_a aL rfl ?_ | refine y_a (bP rfl rfl (by first | assumption | with_reducible exact gd1 (by assumption) | with_reducible exact gd2 (by assumption) | with_reducible exact gd3 (by assumption) | with_reducible exact gd4 (by assumption) | with_reducible rfl | rfl | ((first | with_reducible refine gd1 ?_ | with_reducible refine gd2 ?_ | with_reducible refine gd3 ?_ | with_reducible refine gd4 ?_); omega) | (simp only [*] <;> fail) | fail)) rfl ?_); (first | refine eG (a_boxR (tab := tab) rfl rfl rfl) rfl ?_ | refine eG (a_box1 rfl rfl) rfl ?_ | refine eG (yB rfl (by first | exact Parts.mixed _ | exact Parts.closed _)) rfl ?_))
  | ((with_reducible refine cK ?_); (first | refine y_a aL rfl ?_ | refine y_a (bP rfl rfl (by first | assumption | with_reducible exact gd1 (by assumption) | with_reducible exact gd2 (by assumption) | with_reducible exact gd3 (by assumption) | with_reducible exact gd4 (by assumption) | with_reducible rfl | rfl | ((first | with_reducible refine gd1 ?_ | with_reducible refine gd2 ?_ | with_reducible refine gd3 ?_ | with_reducible refine gd4 ?_); omega) | (simp only [*] <;> fail) | fail)) rfl ?_); (first | refine eG (cM tabOk rfl rfl rfl rfl rfl) rfl ?_ | refine eG (cU tabOk rfl rfl rfl rfl rfl rfl rfl rfl rfl rfl rfl rfl (cI rfl) (by first | rfl | exact all1 (by assumption) | (simp <;> fail) | fail) (by rfl)) rfl ?_))
  | ((with_reducible refine isA_mksl ?_); (first | refine y_a aL rfl ?_ | refine y_a (bP rfl rfl (by first | assumption | with_reducible exact gd1 (by assumption) | with_reducible exact gd2 (by assumption) | with_reducible exact gd3 (by assumption) | with_reducible exact gd4 (by assumption) | with_reducible rfl | rfl | ((first | with_reducible refine gd1 ?_ | with_reducible refine gd2 ?_ | with_reducible refine gd3 ?_ | with_reducible refine gd4 ?_); omega) | (simp only [*] <;> fail) | fail)) rfl ?_); (first | refine eG (b_make tabOk rfl rfl rfl rfl rfl rfl rfl rfl rfl rfl zcj zcj zle zle (by simp only [maxLen]; omega) rfl) rfl ?_))
  | ((with_reducible refine isA_defer ?_); (refine awl_defer rfl aL rfl ?_))
  | ((with_reducible refine isA_conv ?_); (first | refine w_a aL rfl ?_ | refine w_a (bP rfl rfl (by first | assumption | with_reducible exact gd1 (by assumption) | with_reducible exact gd2 (by assumption) | with_reducible exact gd3 (by assumption) | with_reducible exact gd4 (by assumption) | with_reducible rfl | rfl | ((first | with_reducible refine gd1 ?_ | with_reducible refine gd2 ?_ | with_reducible refine gd3 ?_ | with_reducible refine gd4 ?_); omega) | (simp only [*] <;> fail) | fail)) rfl ?_); refine eL (mT tabOk rfl rfl rfl rfl rfl rfl rfl (by first | exact uC (by assumption) | assumption | rfl) (by first | exact nO _ | assumption | rfl) (by first | (simp only [maxLen]; omega) | (simp [maxLen]; omega))) ?_)
  | (((with_reducible refine aH ?_); (first | refine x_a aL rfl ?_ | refine x_a (bP rfl rfl (by first | assumption | with_reducible exact gd1 (by assumption) | with_reducible exact gd2 (by assumption) | with_reducible exact gd3 (by assumption) | with_reducible exact gd4 (by assumption) | with_reducible rfl | rfl | ((first | with_reducible refine gd1 ?_ | with_reducible refine gd2 ?_ | with_reducible refine gd3 ?_ | with_reducible refine gd4 ?_); omega) | (simp only [*] <;> fail) | fail)) rfl ?_)); (first | ((with_reducible refine yT ?_); (first | refine aA (kD rfl) ?_)) | ((with_reducible refine aP ?_); (first | refine aA (aR tabOk rfl rfl rfl rfl (by first | rfl | fail)) ?_ | refine aA (aN tabOk rfl rfl rfl rfl (by first | rfl | fail)) ?_ | refine aA (aM tabOk rfl rfl rfl (by first | rfl | fail)) ?_ | refine aA (tT tabOk rfl rfl rfl rfl rfl rfl (by first | exact IsAgg.closed rfl rfl | exact IsAgg.mixed _)) ?_ | refine aA (aW tabOk rfl rfl rfl rfl (by first | fail | exact whole0 (by first | rfl | omega) | rfl) zln) ?_ | refine aA (aV tabOk rfl rfl rfl (by first | fail | exact whole0 (by first | rfl | omega) | rfl) zln) ?_)) | ((with_reducible refine e_ixA ?_); (first | refine aA (s_ixC tabOk rfl rfl zcj rfl rfl rfl rfl zle) ?_ | refine aA (s_ixO tabOk rfl rfl zcj rfl rfl rfl rfl zle) ?_ | refine aA (s_ixA tabOk rfl rfl zcj rfl rfl rfl zle) ?_ | refine aA (s_ixAi tabOk rfl rfl zcj rfl rfl rfl zle) ?_)) | ((with_reducible refine aU (o := .add) ?_); (first | refine aA (bT rfl rfl rfl (by first | (simp only [Int.reduceAdd, Int.reduceSub, Int.reduceMul]; exact w64 (by omega) (by omega)) | exact w64 (by omega) (by omega) | exact wu64 (by omega) (by omega) | exact wu8 (by omega) (by omega) | rfl)) ?_ | refine aA (s_word rfl (by first | exact isW_rfl | exact isW_lit rfl) rfl (by first | exact isW_rfl | exact isW_lit rfl) rfl) ?_ | refine aA (hY rfl rfl rfl (by first | (simp only [Int.reduceAdd, Int.reduceSub, Int.reduceMul]; exact w64 (by omega) (by omega)) | exact w64 (by omega) (by omega) | exact wu64 (by omega) (by omega) | exact wu8 (by omega) (by omega) | rfl)) ?_)) | ((with_reducible refine aU (o := .sub) ?_); (first | refine aA (bT rfl rfl rfl (by first | (simp only [Int.reduceAdd, Int.reduceSub, Int.reduceMul]; exact w64 (by omega) (by omega)) | exact w64 (by omega) (by omega) | exact wu64 (by omega) (by omega) | exact wu8 (by omega) (by omega) | rfl)) ?_ | refine aA (s_word rfl (by first | exact isW_rfl | exact isW_lit rfl) rfl (by first | exact isW_rfl | exact isW_lit rfl) rfl) ?_ | refine aA (hY rfl rfl rfl (by first | (simp only [Int.reduceAdd, Int.reduceSub, Int.reduceMul]; exact w64 (by omega) (by omega)) | exact w64 (by omega) (by omega) | exact wu64 (by omega) (by omega) | exact wu8 (by omega) (by omega) | rfl)) ?_)) | ((with_reducible refine aU (o := .mul) ?_); (first | refine aA (bT rfl rfl rfl (by first | (simp only [Int.reduceAdd, Int.reduceSub, Int.reduceMul]; exact w64 (by omega) (by omega)) | exact w64 (by omega) (by omega) | exact wu64 (by omega) (by omega) | exact wu8 (by omega) (by omega) | rfl)) ?_ | refine aA (s_word rfl (by first | exact isW_rfl | exact isW_lit rfl) rfl (by first | exact isW_rfl | exact isW_lit rfl) rfl) ?_ | refine aA (hY rfl rfl rfl (by first | (simp only [Int.reduceAdd, Int.reduceSub, Int.reduceMul]; exact w64 (by omega) (by omega)) | exact w64 (by omega) (by omega) | exact wu64 (by omega) (by omega) | exact wu8 (by omega) (by omega) | rfl)) ?_)) | ((with_reducible refine aU (o := .eql) ?_); (first | refine aA (dV rfl rfl rfl rfl) ?_ | refine aA (s_eqlB tabOk rfl rfl rfl rfl rfl) ?_ | refine aA (tS rfl rfl rfl) ?_)) | ((with_reducible refine aU (o := .neq) ?_); (first | refine aA (dV rfl rfl rfl rfl) ?_ | refine aA (tU tabOk rfl rfl rfl rfl rfl) ?_ | refine aA (tW rfl rfl rfl) ?_)) | ((with_reducible refine aU (o := .lss) ?_); (first | refine aA (dV rfl rfl rfl rfl) ?_)) | ((with_reducible refine aU (o := .leq) ?_); (first | refine aA (dV rfl rfl rfl rfl) ?_)) | ((with_reducible refine aU (o := .gtr) ?_); (first | refine aA (dV rfl rfl rfl rfl) ?_)) | ((with_reducible refine aU (o := .geq) ?_); (first | refine aA (dV rfl rfl rfl rfl) ?_)) | ((with_reducible refine aU (o := .rem) ?_); (first | refine aA (oD (k := .i64) rfl rfl (by first | omega | decide) (by first | (simp only [Int.reduceTMod]; rfl) | exact r64 (by omega) | rfl)) ?_ | refine aA (oD rfl rfl (by first | omega | decide) (by first | (simp only [Int.reduceTMod]; rfl) | exact r64 (by omega) | rfl)) ?_)) | ((with_reducible refine aU (o := .quo) ?_); (first | refine aA (mK (k := .i64) rfl rfl (by first | omega | decide) (by first | exact q64 (by omega) (by omega) (by omega) | exact qu8 (by omega) (by omega) (by omega) | rfl)) ?_ | refine aA (mK rfl rfl (by first | omega | decide) (by first | exact q64 (by omega) (by omega) (by omega) | exact qu8 (by omega) (by omega) (by omega) | rfl)) ?_)) | ((with_reducible refine aU (o := .and) ?_); (first | refine aA (s_word rfl (by first | exact isW_rfl | exact isW_lit rfl) rfl (by first | exact isW_rfl | exact isW_lit rfl) rfl) ?_ | refine aA (s_and rfl rfl rfl) ?_)) | ((with_reducible refine aU (o := .or) ?_); (first | refine aA (s_word rfl (by first | exact isW_rfl | exact isW_lit rfl) rfl (by first | exact isW_rfl | exact isW_lit rfl) rfl) ?_ | refine aA (s_or rfl rfl rfl) ?_)) | ((with_reducible refine aU (o := .xor) ?_); (first | refine aA (s_word rfl (by first | exact isW_rfl | exact isW_lit rfl) rfl (by first | exact isW_rfl | exact isW_lit rfl) rfl) ?_ | refine aA (s_xor rfl rfl rfl) ?_)) | ((with_reducible refine aU (o := .andNot) ?_); (first | refine aA (s_andNot rfl rfl rfl) ?_)) | ((with_reducible refine aU (o := .shl) ?_); (first | refine aA (s_shlW rfl (by first | exact isW_rfl | exact isW_lit rfl) rfl zcj) ?_ | refine aA (s_shl rfl rfl zle rfl) ?_)) | ((with_reducible refine aU (o := .shr) ?_); (first | refine aA (s_shrW rfl (by first | exact isW_rfl | exact isW_lit rfl) rfl zcj) ?_ | refine aA (s_shr rfl rfl zle rfl) ?_)) | ((with_reducible refine pN ?_); (first | refine aA (qO rfl) ?_)) | ((with_reducible refine rD ?_); (first | refine aA (zV tabOk rfl rfl rfl) ?_ | refine aA (zW tabOk rfl rfl rfl) ?_ | refine aA (zX tabOk rfl rfl rfl) ?_ | refine aA (s_lenN tabOk rfl rfl rfl) ?_ | refine aA (s_capN tabOk rfl rfl rfl) ?_ | refine aA (kW rfl rfl rfl) ?_ | refine aA (s_max rfl rfl rfl) ?_)) | ((with_reducible refine e_un ?_); (first | refine aA (s_not rfl rfl) ?_ | refine aA (s_complW rfl (by first | exact isW_rfl | exact isW_lit rfl)) ?_ | refine aA (s_neg rfl (by first | exact w64 (by omega) (by omega) | rfl)) ?_ | refine aA (s_compl rfl rfl) ?_)) | ((with_reducible refine pO ?_); (first | refine aA (s_convWB rfl (by first | exact isW_rfl | exact isW_lit rfl) tabOk rfl rfl rfl) ?_ | refine aA (s_convWW rfl (by first | exact isW_rfl | exact isW_lit rfl) tabOk rfl rfl rfl) ?_ | refine aA (s_convBW rfl tabOk rfl rfl rfl) ?_ | refine aA (s_convIW rfl tabOk rfl rfl rfl) ?_ | refine aA (iP tabOk rfl rfl rfl rfl (by first | (simp only [Int.reduceAdd, Int.reduceSub, Int.reduceMul]; exact w64 (by omega) (by omega)) | exact w64 (by omega) (by omega) | exact wu64 (by omega) (by omega) | exact wu8 (by omega) (by omega) | rfl)) ?_ | refine aA (s_convStr tabOk rfl rfl rfl rfl) ?_ | refine aA (tY tabOk rfl rfl rfl rfl rfl rfl rfl (by first | exact bY bL | exact bY eB | exact cD rfl rfl zln)) ?_)) | ((with_reducible refine yR ?_); (first | refine aA (kC tabOk rfl rfl rfl rfl rfl rfl) ?_ | refine aA (jB tabOk rfl rfl rfl rfl rfl rfl) ?_)) | ((with_reducible refine e_fld ?_); (first | refine aA (s_field1 tabOk rfl rfl rfl rfl rfl rfl (by first | exact Parts.mixed _ | exact Parts.closed _) (by rfl)) ?_ | refine aA (s_fieldA tabOk rfl rfl rfl rfl rfl rfl (by first | exact Parts.mixed _ | exact Parts.closed _) (by rfl) (by first | exact IsAgg.closed rfl rfl | exact IsAgg.mixed _)) ?_)) | ((with_reducible refine e_ext ?_); (first | refine aA (nL rfl rfl) ?_)) | ((with_reducible refine bE ?_); (first | refine aA (zY tabOk rfl rfl rfl rfl zbd zle rfl rfl) ?_ | refine aA (s_slC tabOk rfl rfl rfl rfl zbd zbd zle zle rfl rfl) ?_ | refine aA (s_slO tabOk rfl rfl rfl rfl zbd zbd zle zle rfl) ?_ | refine aA (s_slArr tabOk rfl rfl rfl rfl zbd zbd zle zle (by decide)) ?_ | refine aA (s_slStr tabOk rfl rfl rfl zbd zbd zle zle) ?_ | refine aA (s_slArri tabOk rfl rfl rfl rfl zbd zbd zle zle (by decide) (by first | fail | exact whole0 (by first | rfl | omega) | rfl) zln) ?_ | refine aA (s_slN tabOk rfl rfl rfl zbd rfl) ?_ | refine aA (s_slOm tabOk rfl rfl rfl rfl rfl zbd zbd zle zle) ?_)) | ((with_reducible refine bR ?_); (first | refine aA (s_ixV1 tabOk rfl rfl zcj rfl rfl rfl rfl rfl zle (by first | rfl | fail)) ?_ | refine aA (aQ tabOk rfl rfl zcj rfl rfl (by first | rfl | fail)) ?_)) | ((with_reducible refine tD ?_); (first | refine aA (s_buildA tabOk rfl rfl rfl rfl (eO rfl) (by rfl) (by first | exact IsAgg.closed rfl rfl | exact IsAgg.mixed _)) ?_ | refine aA (tR tabOk rfl rfl rfl rfl (eO rfl) (by rfl) (by first | exact IsAgg.closed rfl rfl | exact IsAgg.mixed _)) ?_)) | ((with_reducible refine yU ?_); (first | refine aA (oU rfl rfl) ?_ | refine aA (oT rfl rfl) ?_ | refine aA (qR rfl (by first | assumption | exact decide_eq_true (by omega) | (simp only [*] <;> fail) | fail) rfl) ?_ | refine aA (qQ rfl (by first | assumption | exact decide_eq_false (by omega) | (simp only [*] <;> fail) | fail) rfl) ?_)) | ((with_reducible refine yS ?_); (first | refine aA (lP rfl) ?_)) | ((with_reducible refine e_nil ?_); (first | refine aA (lQ rfl) ?_ | refine aA (s_nilChecki rfl) ?_))))
  | (with_reducible refine awl_nil ?_)
  | (with_reducible refine k_then ?_)
  | (with_reducible refine k_thenX ?_)
  | (with_reducible refine k_thenR ?_)
  | (with_reducible refine k_blk ?_)
  | (with_reducible refine k_blkR ?_)
  | (refine k_blkH rfl ?_)
  | (refine k_blkM rfl ?_)
  | ((with_reducible refine fV ?_); (refine yC (bP rfl rfl (by first | rfl | ((first | with_reducible refine gd1 ?_ | with_reducible refine gd2 ?_ | with_reducible refine gd3 ?_ | with_reducible refine gd4 ?_); omega) | (simp only [*] <;> fail) | fail)) rfl ?_)))
  exact hq.out) : p := h ⟨hq⟩
theorem stD {p q : Prop} (hq : q) (h : Kept q → p := by
  intro hq
  (first
  | (refine drw_end (by kernel_rfl) (by kernel_rfl) (by kernel_rfl) rfl ?_)
  | ((with_reducible refine zI ?_); (refine yQ (bP rfl rfl (by first | assumption | with_reducible exact gd1 (by assumption) | with_reducible exact gd2 (by assumption) | with_reducible exact gd3 (by assumption) | with_reducible exact gd4 (by assumption) | with_reducible rfl)) ?_))
  | ((with_reducible refine zI ?_); (refine yQ (tJ rfl rfl) ?_))
  | ((with_reducible refine isD_bi ?_); (first | ((first | refine y_d aL ?_ | refine y_d (bP rfl rfl (by first | assumption | with_reducible exact gd1 (by assumption) | with_reducible exact gd2 (by assumption) | with_reducible exact gd3 (by assumption) | with_reducible exact gd4 (by assumption) | with_reducible rfl | rfl | ((first | with_reducible refine gd1 ?_ | with_reducible refine gd2 ?_ | with_reducible refine gd3 ?_ | with_reducible refine gd4 ?_); omega) | (simp only [*] <;> fail) | fail)) ?_); refine eG (mW tabOk rfl rfl rfl rfl rfl rfl rfl rfl (by first | exact mM | exact src_nil | exact gA rfl zln) (by first | (simp only [maxLen]; omega) | (simp [maxLen]; omega)) zle) rfl ?_) | ((first | refine y_d aL ?_ | refine y_d (bP rfl rfl (by first | assumption | with_reducible exact gd1 (by assumption) | with_reducible exact gd2 (by assumption) | with_reducible exact gd3 (by assumption) | with_reducible exact gd4 (by assumption) | with_reducible rfl | rfl | ((first | with_reducible refine gd1 ?_ | with_reducible refine gd2 ?_ | with_reducible refine gd3 ?_ | with_reducible refine gd4 ?_); omega) | (simp only [*] <;> fail) | fail)) ?_); refine eG (a_appendZ tabOk rfl rfl rfl rfl rfl rfl rfl rfl rfl rfl rfl zcj zle (by first | (simp only [maxLen]; omega) | (simp [maxLen]; omega)) zle) rfl ?_)))
  | ((with_reducible refine isD_alloc ?_); (first | refine y_d aL ?_ | refine y_d (bP rfl rfl (by first | assumption | with_reducible exact gd1 (by assumption) | with_reducible exact gd2 (by assumption) | with_reducible exact gd3 (by assumption) | with_reducible exact gd4 (by assumption) | with_reducible rfl | rfl | ((first | with_reducible refine gd1 ?_ | with_reducible refine gd2 ?_ | with_reducible refine gd3 ?_ | with_reducible refine gd4 ?_); omega) | (simp only [*] <;> fail) | fail)) ?_); (first | refine eG (a_allocR tabOk rfl rfl rfl rfl) rfl ?_ | refine eG (sX tabOk rfl rfl) rfl ?_))
  | ((with_reducible refine isD_box ?_); (first | refine y_d aL ?_ | refine y_d (bP rfl rfl (by first | assumption | with_reducible exact gd1 (by assumption) | with_reducible exact gd2 (by assumption) | with_reducible exact gd3 (by assumption) | with_reducible exact gd4 (by assumption) | with_reducible rfl | rfl | ((first | with_reducible refine gd1 ?_ | with_reducible refine gd2 ?_ | with_reducible refine gd3 ?_ | with_reducible refine gd4 ?_); omega) | (simp only [*] <;> fail) | fail)) ?_); (first | refine eG (a_boxR (tab := tab) rfl rfl rfl) rfl ?_ | refine eG (a_box1 rfl rfl) rfl ?_ | refine eG (yB rfl (by first | exact Parts.mixed _ | exact Parts.closed _)) rfl ?_))
  | ((with_reducible refine dQ ?_); (first | refine y_d aL ?_ | refine y_d (bP rfl rfl (by first | assumption | with_reducible exact gd1 (by assumption) | with_reducible exact gd2 (by assumption) | with_reducible exact gd3 (by assumption) | with_reducible exact gd4 (by assumption) | with_reducible rfl | rfl | ((first | with_reducible refine gd1 ?_ | with_reducible refine gd2 ?_ | with_reducible refine gd3 ?_ | with_reducible refine gd4 ?_); omega) | (simp only [*] <;> fail) | fail)) ?_); (first | refine eG (cM tabOk rfl rfl rfl rfl rfl) rfl ?_ | refine eG (cU tabOk rfl rfl rfl rfl rfl rfl rfl rfl rfl rfl rfl rfl (cI rfl) (by first | rfl | exact all1 (by assumption) | (simp <;> fail) | fail) (by rfl)) rfl ?_))
  | ((with_reducible refine isD_mksl ?_); (first | refine y_d aL ?_ | refine y_d (bP rfl rfl (by first | assumption | with_reducible exact gd1 (by assumption) | with_reducible exact gd2 (by assumption) | with_reducible exact gd3 (by assumption) | with_reducible exact gd4 (by assumption) | with_reducible rfl | rfl | ((first | with_reducible refine gd1 ?_ | with_reducible refine gd2 ?_ | with_reducible refine gd3 ?_ | with_reducible refine gd4 ?_); omega) | (simp only [*] <;> fail) | fail)) ?_); (first | refine eG (b_make tabOk rfl rfl rfl rfl rfl rfl rfl rfl rfl rfl zcj zcj zle zle (by simp only [maxLen]; omega) rfl) rfl ?_))
  | ((with_reducible refine isD_conv ?_); (first | refine w_d aL ?_ | refine w_d (bP rfl rfl (by first | assumption | with_reducible exact gd1 (by assumption) | with_reducible exact gd2 (by assumption) | with_reducible exact gd3 (by assumption) | with_reducible exact gd4 (by assumption) | with_reducible rfl | rfl | ((first | with_reducible refine gd1 ?_ | with_reducible refine gd2 ?_ | with_reducible refine gd3 ?_ | with_reducible refine gd4 ?_); omega) | (simp only [*] <;> fail) | fail)) ?_); refine eL (mT tabOk rfl rfl rfl rfl rfl rfl rfl (by first | exact uC (by assumption) | assumption | rfl) (by first | exact nO _ | assumption | rfl) (by first | (simp only [maxLen]; omega) | (simp [maxLen]; omega))) ?_)
  | (((with_reducible refine aO ?_); (first | refine x_d aL ?_ | refine x_d (bP rfl rfl (by first | assumption | with_reducible exact gd1 (by assumption) | with_reducible exact gd2 (by assumption) | with_reducible exact gd3 (by assumption) | with_reducible exact gd4 (by assumption) | with_reducible rfl | rfl | ((first | with_reducible refine gd1 ?_ | with_reducible refine gd2 ?_ | with_reducible refine gd3 ?_ | with_reducible refine gd4 ?_); omega) | (simp only [*] <;> fail) | fail)) ?_)); (first | ((with_reducible refine yT ?_); (first | refine aA (kD rfl) ?_)) | ((with_reducible refine aP ?_); (first | refine aA (aR tabOk rfl rfl rfl rfl (by first | rfl | fail)) ?_ | refine aA (aN tabOk rfl rfl rfl rfl (by first | rfl | fail)) ?_ | refine aA (aM tabOk rfl rfl rfl (by first | rfl | fail)) ?_ | refine aA (tT tabOk rfl rfl rfl rfl rfl rfl (by first | exact IsAgg.closed rfl rfl | exact IsAgg.mixed _)) ?_ | refine aA (aW tabOk rfl rfl rfl rfl (by first | fail | exact whole0 (by first | rfl | omega) | rfl) zln) ?_ | refine aA (aV tabOk rfl rfl rfl (by first | fail | exact whole0 (by first | rfl | omega) | rfl) zln) ?_)) | ((with_reducible refine e_ixA ?_); (first | refine aA (s_ixC tabOk rfl rfl zcj rfl rfl rfl rfl zle) ?_ | refine aA (s_ixO tabOk rfl rfl zcj rfl rfl rfl rfl zle) ?_ | refine aA (s_ixA tabOk rfl rfl zcj rfl rfl rfl zle) ?_ | refine aA (s_ixAi tabOk rfl rfl zcj rfl rfl rfl zle) ?_)) | ((with_reducible refine aU (o := .add) ?_); (first | refine aA (bT rfl rfl rfl (by first | (simp only [Int.reduceAdd, Int.reduceSub, Int.reduceMul]; exact w64 (by omega) (by omega)) | exact w64 (by omega) (by omega) | exact wu64 (by omega) (by omega) | exact wu8 (by omega) (by omega) | rfl)) ?_ | refine aA (s_word rfl (by first | exact isW_rfl | exact isW_lit rfl) rfl (by first | exact isW_rfl | exact isW_lit rfl) rfl) ?_ | refine aA (hY rfl rfl rfl (by first | (simp only [Int.reduceAdd, Int.reduceSub, Int.reduceMul]; exact w64 (by omega) (by omega)) | exact w64 (by omega) (by omega) | exact wu64 (by omega) (by omega) | exact wu8 (by omega) (by omega) | rfl)) ?_)) | ((with_reducible refine aU (o := .sub) ?_); (first | refine aA (bT rfl rfl rfl (by first | (simp only [Int.reduceAdd, Int.reduceSub, Int.reduceMul]; exact w64 (by omega) (by omega)) | exact w64 (by omega) (by omega) | exact wu64 (by omega) (by omega) | exact wu8 (by omega) (by omega) | rfl)) ?_ | refine aA (s_word rfl (by first | exact isW_rfl | exact isW_lit rfl) rfl (by first | exact isW_rfl | exact isW_lit rfl) rfl) ?_ | refine aA (hY rfl rfl rfl (by first | (simp only [Int.reduceAdd, Int.reduceSub, Int.reduceMul]; exact w64 (by omega) (by omega)) | exact w64 (by omega) (by omega) | exact wu64 (by omega) (by omega) | exact wu8 (by omega) (by omega) | rfl)) ?_)) | ((with_reducible refine aU (o := .mul) ?_); (first | refine aA (bT rfl rfl rfl (by first | (simp only [Int.reduceAdd, Int.reduceSub, Int.reduceMul]; exact w64 (by omega) (by omega)) | exact w64 (by omega) (by omega) | exact wu64 (by omega) (by omega) | exact wu8 (by omega) (by omega) | rfl)) ?_ | refine aA (s_word rfl (by first | exact isW_rfl | exact isW_lit rfl) rfl (by first | exact isW_rfl | exact isW_lit rfl) rfl) ?_ | refine aA (hY rfl rfl rfl (by first | (simp only [Int.reduceAdd, Int.reduceSub, Int.reduceMul]; exact w64 (by omega) (by omega)) | exact w64 (by omega) (by omega) | exact wu64 (by omega) (by omega) | exact wu8 (by omega) (by omega) | rfl)) ?_)) | ((with_reducible refine aU (o := .eql) ?_); (first | refine aA (dV rfl rfl rfl rfl) ?_ | refine aA (s_eqlB tabOk rfl rfl rfl rfl rfl) ?_ | refine aA (tS rfl rfl rfl) ?_)) | ((with_reducible refine aU (o := .neq) ?_); (first | refine aA (dV rfl rfl rfl rfl) ?_ | refine aA (tU tabOk rfl rfl rfl rfl rfl) ?_ | refine aA (tW rfl rfl rfl) ?_)) | ((with_reducible refine aU (o := .lss) ?_); (first | refine aA (dV rfl rfl rfl rfl) ?_)) | ((with_reducible refine aU (o := .leq) ?_); (first | refine aA (dV rfl rfl rfl rfl) ?_)) | ((with_reducible refine aU (o := .gtr) ?_); (first | refine aA (dV rfl rfl rfl rfl) ?_)) | ((with_reducible refine aU (o := .geq) ?_); (first | refine aA (dV rfl rfl rfl rfl) ?_)) | ((with_reducible refine aU (o := .rem) ?_); (first | refine aA (oD (k := .i64) rfl rfl (by first | omega | decide) (by first | (simp only [Int.reduceTMod]; rfl) | exact r64 (by omega) | rfl)) ?_ | refine aA (oD rfl rfl (by first | omega | decide) (by first | (simp only [Int.reduceTMod]; rfl) | exact r64 (by omega) | rfl)) ?_)) | ((with_reducible refine aU (o := .quo) ?_); (first | refine aA (mK (k := .i64) rfl rfl (by first | omega | decide) (by first | exact q64 (by omega) (by omega) (by omega) | exact qu8 (by omega) (by omega) (by omega) | rfl)) ?_ | refine aA (mK rfl rfl (by first | omega | decide) (by first | exact q64 (by omega) (by omega) (by omega) | exact qu8 (by omega) (by omega) (by omega) | rfl)) ?_)) | ((with_reducible refine aU (o := .and) ?_); (first | refine aA (s_word rfl (by first | exact isW_rfl | exact isW_lit rfl) rfl (by first | exact isW_rfl | exact isW_lit rfl) rfl) ?_ | refine aA (s_and rfl rfl rfl) ?_)) | ((with_reducible refine aU (o := .or) ?_); (first | refine aA (s_word rfl (by first | exact isW_rfl | exact isW_lit rfl) rfl (by first | exact isW_rfl | exact isW_lit rfl) rfl) ?_ | refine aA (s_or rfl rfl rfl) ?_)) | ((with_reducible refine aU (o := .xor) ?_); (first | refine aA (s_word rfl (by first | exact isW_rfl | exact isW_lit rfl) rfl (by first | exact isW_rfl | exact isW_lit rfl) rfl) ?_ | refine aA (s_xor rfl rfl rfl) ?_)) | ((with_reducible refine aU (o := .andNot) ?_); (first | refine aA (s_andNot rfl rfl rfl) ?_)) | ((with_reducible refine aU (o := .shl) ?_); (first | refine aA (s_shlW rfl (by first | exact isW_rfl | exact isW_lit rfl) rfl zcj) ?_ | refine aA (s_shl rfl rfl zle rfl) ?_)) | ((with_reducible refine aU (o := .shr) ?_); (first | refine aA (s_shrW rfl (by first | exact isW_rfl | exact isW_lit rfl) rfl zcj) ?_ | refine aA (s_shr rfl rfl zle rfl) ?_)) | ((with_reducible refine pN ?_); (first | refine aA (qO rfl) ?_)) | ((with_reducible refine rD ?_); (first | refine aA (zV tabOk rfl rfl rfl) ?_ | refine aA (zW tabOk rfl rfl rfl) ?_ | refine aA (zX tabOk rfl rfl rfl) ?_ | refine aA (s_lenN tabOk rfl rfl rfl) ?_ | refine aA (s_capN tabOk rfl rfl rfl) ?_ | refine aA (kW rfl rfl rfl) ?_ | refine aA (s_max rfl rfl rfl) ?_)) | ((with_reducible refine e_un ?_); (first | refine aA (s_not rfl rfl) ?_ | refine aA (s_complW rfl (by first | exact isW_rfl | exact isW_lit rfl)) ?_ | refine aA (s_neg rfl (by first | exact w64 (by omega) (by omega) | rfl)) ?_ | refine aA (s_compl rfl rfl) ?_)) | ((with_reducible refine pO ?_); (first | refine aA (s_convWB rfl (by first | exact isW_rfl | exact isW_lit rfl) tabOk rfl rfl rfl) ?_ | refine aA (s_convWW rfl (by first | exact isW_rfl | exact isW_lit rfl) tabOk rfl rfl rfl) ?_ | refine aA (s_convBW rfl tabOk rfl rfl rfl) ?_ | refine aA (s_convIW rfl tabOk rfl rfl rfl) ?_ | refine aA (iP tabOk rfl rfl rfl rfl (by first | (simp only [Int.reduceAdd, Int.reduceSub, Int.reduceMul]; exact w64 (by omega) (by omega)) | exact w64 (by omega) (by omega) | exact wu64 (by omega) (by omega) | exact wu8 (by omega) (by omega) | rfl)) ?_ | refine aA (s_convStr tabOk rfl rfl rfl rfl) ?_ | refine aA (tY tabOk rfl rfl rfl rfl rfl rfl rfl (by first | exact bY bL | exact bY eB | exact cD rfl rfl zln)) ?_)) | ((with_reducible refine yR ?_); (first | refine aA (kC tabOk rfl rfl rfl rfl rfl rfl) ?_ | refine aA (jB tabOk rfl rfl rfl rfl rfl rfl) ?_)) | ((with_reducible refine e_fld ?_); (first | refine aA (s_field1 tabOk rfl rfl rfl rfl rfl rfl (by first | exact Parts.mixed _ | exact Parts.closed _) (by rfl)) ?_ | refine aA (s_fieldA tabOk rfl rfl rfl rfl rfl rfl (by first | exact Parts.mixed _ | exact Parts.closed _) (by rfl) (by first | exact IsAgg.closed rfl rfl | exact IsAgg.mixed _)) ?_)) | ((with_reducible refine e_ext ?_); (first | refine aA (nL rfl rfl) ?_)) | ((with_reducible refine bE ?_); (first | refine aA (zY tabOk rfl rfl rfl rfl zbd zle rfl rfl) ?_ | refine aA (s_slC tabOk rfl rfl rfl rfl zbd zbd zle zle rfl rfl) ?_ | refine aA (s_slO tabOk rfl rfl rfl rfl zbd zbd zle zle rfl) ?_ | refine aA (s_slArr tabOk rfl rfl rfl rfl zbd zbd zle zle (by decide)) ?_ | refine aA (s_slStr tabOk rfl rfl rfl zbd zbd zle zle) ?_ | refine aA (s_slArri tabOk rfl rfl rfl rfl zbd zbd zle zle (by decide) (by first | fail | exact whole0 (by first | rfl | omega) | rfl) zln) ?_ | refine aA (s_slN tabOk rfl rfl rfl zbd rfl) ?_ | refine aA (s_slOm tabOk rfl rfl rfl rfl rfl zbd zbd zle zle) ?_)) | ((with_reducible refine bR ?_); (first | refine aA (s_ixV1 tabOk rfl rfl zcj rfl rfl rfl rfl rfl zle (by first | rfl | fail)) ?_ | refine aA (aQ tabOk rfl rfl zcj rfl rfl (by first | rfl | fail)) ?_)) | ((with_reducible refine tD ?_); (first | refine aA (s_buildA tabOk rfl rfl rfl rfl (eO rfl) (by rfl) (by first | exact IsAgg.closed rfl rfl | exact IsAgg.mixed _)) ?_ | refine aA (tR tabOk rfl rfl rfl rfl (eO rfl) (by rfl) (by first | exact IsAgg.closed rfl rfl | exact IsAgg.mixed _)) ?_)) | ((with_reducible refine yU ?_); (first | refine aA (oU rfl rfl) ?_ | refine aA (oT rfl rfl) ?_ | refine aA (qR rfl (by first | assumption | exact decide_eq_true (by omega) | (simp only [*] <;> fail) | fail) rfl) ?_ | refine aA (qQ rfl (by first | assumption | exact decide_eq_false (by omega) | (simp only [*] <;> fail) | fail) rfl) ?_)) | ((with_reducible refine yS ?_); (first | refine aA (lP rfl) ?_)) | ((with_reducible refine e_nil ?_); (first | refine aA (lQ rfl) ?_ | refine aA (s_nilChecki rfl) ?_))))
  | ((with_reducible refine zI ?_); (refine yQ (bP rfl rfl (by first | rfl | ((first | with_reducible refine gd1 ?_ | with_reducible refine gd2 ?_ | with_reducible refine gd3 ?_ | with_reducible refine gd4 ?_); omega) | (simp only [*] <;> fail) | fail)) ?_)))
  exact hq.out) : p := h ⟨hq⟩
theorem stE {p q : Prop} (hq : q) (h : Kept q → p := by
  intro hq
  (first
  | (refine drwE_end (by kernel_rfl) (by kernel_rfl) (by kernel_rfl) (by kernel_rfl) rfl ?_)
  | ((with_reducible refine isEk_g ?_); (refine e_skip (bP rfl rfl (by first | assumption | with_reducible exact gd1 (by assumption) | with_reducible exact gd2 (by assumption) | with_reducible exact gd3 (by assumption) | with_reducible exact gd4 (by assumption) | with_reducible rfl)) ?_))
  | ((with_reducible refine isEk_g ?_); (refine e_skip (tJ rfl rfl) ?_))
  | ((with_reducible refine isE_bi ?_); (first | (refine vD tabOk aL rfl rfl rfl rfl rfl rfl rfl rfl rfl zln rfl (by first | exact mM | exact src_nil | exact gA rfl zln) (by first | (simp only [maxLen]; omega) | (simp [maxLen]; omega)) zle rfl ?_) | (refine vD tabOk (bP rfl rfl (by first | assumption | with_reducible exact gd1 (by assumption) | with_reducible exact gd2 (by assumption) | with_reducible exact gd3 (by assumption) | with_reducible exact gd4 (by assumption) | with_reducible rfl | rfl | ((first | with_reducible refine gd1 ?_ | with_reducible refine gd2 ?_ | with_reducible refine gd3 ?_ | with_reducible refine gd4 ?_); omega) | (simp only [*] <;> fail) | fail)) rfl rfl rfl rfl rfl rfl rfl rfl rfl zln rfl (by first | exact mM | exact src_nil | exact gA rfl zln) (by first | (simp only [maxLen]; omega) | (simp [maxLen]; omega)) zle rfl ?_) | ((first | refine y_e aL rfl rfl ?_ | refine y_e (bP rfl rfl (by first | assumption | with_reducible exact gd1 (by assumption) | with_reducible exact gd2 (by assumption) | with_reducible exact gd3 (by assumption) | with_reducible exact gd4 (by assumption) | with_reducible rfl | rfl | ((first | with_reducible refine gd1 ?_ | with_reducible refine gd2 ?_ | with_reducible refine gd3 ?_ | with_reducible refine gd4 ?_); omega) | (simp only [*] <;> fail) | fail)) rfl rfl ?_); refine eG (mW tabOk rfl rfl rfl rfl rfl rfl rfl rfl (by first | exact mM | exact src_nil | exact gA rfl zln) (by first | (simp only [maxLen]; omega) | (simp [maxLen]; omega)) zle) rfl ?_) | ((first | refine y_e aL rfl rfl ?_ | refine y_e (bP rfl rfl (by first | assumption | with_reducible exact gd1 (by assumption) | with_reducible exact gd2 (by assumption) | with_reducible exact gd3 (by assumption) | with_reducible exact gd4 (by assumption) | with_reducible rfl | rfl | ((first | with_reducible refine gd1 ?_ | with_reducible refine gd2 ?_ | with_reducible refine gd3 ?_ | with_reducible refine gd4 ?_); omega) | (simp only [*] <;> fail) | fail)) rfl rfl ?_); refine eG (a_appendZ tabOk rfl rfl rfl rfl rfl rfl rfl rfl rfl rfl rfl zcj zle (by first | (simp only [maxLen]; omega) | (simp [maxLen]; omega)) zle) rfl ?_)))
  | ((with_reducible refine sA ?_); (first | (refine d_store1 tabOk aL rfl rfl rfl rfl rfl rfl rfl rfl rfl rfl ?_) | (refine d_store1r tabOk aL rfl rfl rfl rfl rfl rfl rfl rfl rfl rfl ?_) | (refine d_store1rL tabOk aL rfl rfl rfl rfl rfl rfl rfl rfl zle rfl ?_) | (refine d_storeA tabOk aL rfl rfl rfl rfl rfl (by first | exact Parts.mixed _ | exact Parts.closed _) (by rfl) (by rfl) rfl (Nat.le_of_ble_eq_true rfl) (by rfl) rfl ?_) | (refine rO tabOk aL rfl rfl rfl rfl rfl zln rfl zle (by first | exact nG _ _ zln | rfl) rfl ?_)))
  | ((with_reducible refine isE_alloc ?_); (first | refine y_e aL rfl rfl ?_ | refine y_e (bP rfl rfl (by first | assumption | with_reducible exact gd1 (by assumption) | with_reducible exact gd2 (by assumption) | with_reducible exact gd3 (by assumption) | with_reducible exact gd4 (by assumption) | with_reducible rfl | rfl | ((first | with_reducible refine gd1 ?_ | with_reducible refine gd2 ?_ | with_reducible refine gd3 ?_ | with_reducible refine gd4 ?_); omega) | (simp only [*] <;> fail) | fail)) rfl rfl ?_); (first | refine eG (a_allocR tabOk rfl rfl rfl rfl) rfl ?_ | refine eG (sX tabOk rfl rfl) rfl ?_))
  | ((with_reducible refine isE_box ?_); (first | refine y_e aL rfl rfl ?_ | refine y_e (bP rfl rfl (by first | assumption | with_reducible exact gd1 (by assumption) | with_reducible exact gd2 (by assumption) | with_reducible exact gd3 (by assumption) | with_reducible exact gd4 (by assumption) | with_reducible rfl | rfl | ((first | with_reducible refine gd1 ?_ | with_reducible refine gd2 ?_ | with_reducible refine gd3 ?_ | with_reducible refine gd4 ?_); omega) | (simp only [*] <;> fail) | fail)) rfl rfl ?_); (first | refine eG (a_boxR (tab := tab) rfl rfl rfl) rfl ?_ | refine eG (a_box1 rfl rfl) rfl ?_ | refine eG (yB rfl (by first | exact Parts.mixed _ | exact Parts.closed _)) rfl ?_))
  | ((with_reducible refine iY ?_); (first | refine y_e aL rfl rfl ?_ | refine y_e (bP rfl rfl (by first | assumption | with_reducible exact gd1 (by assumption) | with_reducible exact gd2 (by assumption) | with_reducible exact gd3 (by assumption) | with_reducible exact gd4 (by assumption) | with_reducible rfl | rfl | ((first | with_reducible refine gd1 ?_ | with_reducible refine gd2 ?_ | with_reducible refine gd3 ?_ | with_reducible refine gd4 ?_); omega) | (simp only [*] <;> fail) | fail)) rfl rfl ?_); (first | refine eG (cM tabOk rfl rfl rfl rfl rfl) rfl ?_ | refine eG (cU tabOk rfl rfl rfl rfl rfl rfl rfl rfl rfl rfl rfl rfl (cI rfl) (by first | rfl | exact all1 (by assumption) | (simp <;> fail) | fail) (by rfl)) rfl ?_))
  | ((with_reducible refine isE_mksl ?_); (first | refine y_e aL rfl rfl ?_ | refine y_e (bP rfl rfl (by first | assumption | with_reducible exact gd1 (by assumption) | with_reducible exact gd2 (by assumption) | with_reducible exact gd3 (by assumption) | with_reducible exact gd4 (by assumption) | with_reducible rfl | rfl | ((first | with_reducible refine gd1 ?_ | with_reducible refine gd2 ?_ | with_reducible refine gd3 ?_ | with_reducible refine gd4 ?_); omega) | (simp only [*] <;> fail) | fail)) rfl rfl ?_); (first | refine eG (b_make tabOk rfl rfl rfl rfl rfl rfl rfl rfl rfl rfl zcj zcj zle zle (by simp only [maxLen]; omega) rfl) rfl ?_))
  | ((with_reducible refine isE_conv ?_); (first | refine w_e aL rfl rfl ?_ | refine w_e (bP rfl rfl (by first | assumption | with_reducible exact gd1 (by assumption) | with_reducible exact gd2 (by assumption) | with_reducible exact gd3 (by assumption) | with_reducible exact gd4 (by assumption) | with_reducible rfl | rfl | ((first | with_reducible refine gd1 ?_ | with_reducible refine gd2 ?_ | with_reducible refine gd3 ?_ | with_reducible refine gd4 ?_); omega) | (simp only [*] <;> fail) | fail)) rfl rfl ?_); refine eL (mT tabOk rfl rfl rfl rfl rfl rfl rfl (by first | exact uC (by assumption) | assumption | rfl) (by first | exact nO _ | assumption | rfl) (by first | (simp only [maxLen]; omega) | (simp [maxLen]; omega))) ?_)
  | (((with_reducible refine cN ?_); (first | refine x_e aL rfl rfl ?_ | refine x_e (bP rfl rfl (by first | assumption | with_reducible exact gd1 (by assumption) | with_reducible exact gd2 (by assumption) | with_reducible exact gd3 (by assumption) | with_reducible exact gd4 (by assumption) | with_reducible rfl | rfl | ((first | with_reducible refine gd1 ?_ | with_reducible refine gd2 ?_ | with_reducible refine gd3 ?_ | with_reducible refine gd4 ?_); omega) | (simp only [*] <;> fail) | fail)) rfl rfl ?_)); (first | ((with_reducible refine yT ?_); (first | refine aA (kD rfl) ?_)) | ((with_reducible refine aP ?_); (first | refine aA (aR tabOk rfl rfl rfl rfl (by first | rfl | fail)) ?_ | refine aA (aN tabOk rfl rfl rfl rfl (by first | rfl | fail)) ?_ | refine aA (aM tabOk rfl rfl rfl (by first | rfl | fail)) ?_ | refine aA (tT tabOk rfl rfl rfl rfl rfl rfl (by first | exact IsAgg.closed rfl rfl | exact IsAgg.mixed _)) ?_ | refine aA (aW tabOk rfl rfl rfl rfl (by first | fail | exact whole0 (by first | rfl | omega) | rfl) zln) ?_ | refine aA (aV tabOk rfl rfl rfl (by first | fail | exact whole0 (by first | rfl | omega) | rfl) zln) ?_)) | ((with_reducible refine e_ixA ?_); (first | refine aA (s_ixC tabOk rfl rfl zcj rfl rfl rfl rfl zle) ?_ | refine aA (s_ixO tabOk rfl rfl zcj rfl rfl rfl rfl zle) ?_ | refine aA (s_ixA tabOk rfl rfl zcj rfl rfl rfl zle) ?_ | refine aA (s_ixAi tabOk rfl rfl zcj rfl rfl rfl zle) ?_)) | ((with_reducible refine aU (o := .add) ?_); (first | refine aA (bT rfl rfl rfl (by first | (simp only [Int.reduceAdd, Int.reduceSub, Int.reduceMul]; exact w64 (by omega) (by omega)) | exact w64 (by omega) (by omega) | exact wu64 (by omega) (by omega) | exact wu8 (by omega) (by omega) | rfl)) ?_ | refine aA (s_word rfl (by first | exact isW_rfl | exact isW_lit rfl) rfl (by first | exact isW_rfl | exact isW_lit rfl) rfl) ?_ | refine aA (hY rfl rfl rfl (by first | (simp only [Int.reduceAdd, Int.reduceSub, Int.reduceMul]; exact w64 (by omega) (by omega)) | exact w64 (by omega) (by omega) | exact wu64 (by omega) (by omega) | exact wu8 (by omega) (by omega) | rfl)) ?_)) | ((with_reducible refine aU (o := .sub) ?_); (first | refine aA (bT rfl rfl rfl (by first | (simp only [Int.reduceAdd, Int.reduceSub, Int.reduceMul]; exact w64 (by omega) (by omega)) | exact w64 (by omega) (by omega) | exact wu64 (by omega) (by omega) | exact wu8 (by omega) (by omega) | rfl)) ?_ | refine aA (s_word rfl (by first | exact isW_rfl | exact isW_lit rfl) rfl (by first | exact isW_rfl | exact isW_lit rfl) rfl) ?_ | refine aA (hY rfl rfl rfl (by first | (simp only [Int.reduceAdd, Int.reduceSub, Int.reduceMul]; exact w64 (by omega) (by omega)) | exact w64 (by omega) (by omega) | exact wu64 (by omega) (by omega) | exact wu8 (by omega) (by omega) | rfl)) ?_)) | ((with_reducible refine aU (o := .mul) ?_); (first | refine aA (bT rfl rfl rfl (by first | (simp only [Int.reduceAdd, Int.reduceSub, Int.reduceMul]; exact w64 (by omega) (by omega)) | exact w64 (by omega) (by omega) | exact wu64 (by omega) (by omega) | exact wu8 (by omega) (by omega) | rfl)) ?_ | refine aA (s_word rfl (by first | exact isW_rfl | exact isW_lit rfl) rfl (by first | exact isW_rfl | exact isW_lit rfl) rfl) ?_ | refine aA (hY rfl rfl rfl (by first | (simp only [Int.reduceAdd, Int.reduceSub, Int.reduceMul]; exact w64 (by omega) (by omega)) | exact w64 (by omega) (by omega) | exact wu64 (by omega) (by omega) | exact wu8 (by omega) (by omega) | rfl)) ?_)) | ((with_reducible refine aU (o := .eql) ?_); (first | refine aA (dV rfl rfl rfl rfl) ?_ | refine aA (s_eqlB tabOk rfl rfl rfl rfl rfl) ?_ | refine aA (tS rfl rfl rfl) ?_)) | ((with_reducible refine aU (o := .neq) ?_); (first | refine aA (dV rfl rfl rfl rfl) ?_ | refine aA (tU tabOk rfl rfl rfl rfl rfl) ?_ | refine aA (tW rfl rfl rfl) ?_)) | ((with_reducible refine aU (o := .lss) ?_); (first | refine aA (dV rfl rfl rfl rfl) ?_)) | ((with_reducible refine aU (o := .leq) ?_); (first | refine aA (dV rfl rfl rfl rfl) ?_)) | ((with_reducible refine aU (o := .gtr) ?_); (first | refine aA (dV rfl rfl rfl rfl) ?_)) | ((with_reducible refine aU (o := .geq) ?_); (first | refine aA (dV rfl rfl rfl rfl) ?_)) | ((with_reducible refine aU (o := .rem) ?_); (first | refine aA (oD (k := .i64) rfl rfl (by first | omega | decide) (by first | (simp only [Int.reduceTMod]; rfl) | exact r64 (by omega) | rfl)) ?_ | refine aA (oD rfl rfl (by first | omega | decide) (by first | (simp only [Int.reduceTMod]; rfl) | exact r64 (by omega) | rfl)) ?_)) | ((with_reducible refine aU (o := .quo) ?_); (first | refine aA (mK (k := .i64) rfl rfl (by first | omega | decide) (by first | exact q64 (by omega) (by omega) (by omega) | exact qu8 (by omega) (by omega) (by omega) | rfl)) ?_ | refine aA (mK rfl rfl (by first | omega | decide) (by first | exact q64 (by omega) (by omega) (by omega) | exact qu8 (by omega) (by omega) (by omega) | rfl)) ?_)) | ((with_reducible refine aU (o := .and) ?_); (first | refine aA (s_word rfl (by first | exact isW_rfl | exact isW_lit rfl) rfl (by first | exact isW_rfl | exact isW_lit rfl) rfl) ?_ | refine aA (s_and rfl rfl rfl) ?_)) | ((with_reducible refine aU (o := .or) ?_); (first | refine aA (s_word rfl (by first | exact isW_rfl | exact isW_lit rfl) rfl (by first | exact isW_rfl | exact isW_lit rfl) rfl) ?_ | refine aA (s_or rfl rfl rfl) ?_)) | ((with_reducible refine aU (o := .xor) ?_); (first | refine aA (s_word rfl (by first | exact isW_rfl | exact isW_lit rfl) rfl (by first | exact isW_rfl | exact isW_lit rfl) rfl) ?_ | refine aA (s_xor rfl rfl rfl) ?_)) | ((with_reducible refine aU (o := .andNot) ?_); (first | refine aA (s_andNot rfl rfl rfl) ?_)) | ((with_reducible refine aU (o := .shl) ?_); (first | refine aA (s_shlW rfl (by first | exact isW_rfl | exact isW_lit rfl) rfl zcj) ?_ | refine aA (s_shl rfl rfl zle rfl) ?_)) | ((with_reducible refine aU (o := .shr) ?_); (first | refine aA (s_shrW rfl (by first | exact isW_rfl | exact isW_lit rfl) rfl zcj) ?_ | refine aA (s_shr rfl rfl zle rfl) ?_)) | ((with_reducible refine pN ?_); (first | refine aA (qO rfl) ?_)) | ((with_reducible refine rD ?_); (first | refine aA (zV tabOk rfl rfl rfl) ?_ | refine aA (zW tabOk rfl rfl rfl) ?_ | refine aA (zX tabOk rfl rfl rfl) ?_ | refine aA (s_lenN tabOk rfl rfl rfl) ?_ | refine aA (s_capN tabOk rfl rfl rfl) ?_ | refine aA (kW rfl rfl rfl) ?_ | refine aA (s_max rfl rfl rfl) ?_)) | ((with_reducible refine e_un ?_); (first | refine aA (s_not rfl rfl) ?_ | refine aA (s_complW rfl (by first | exact isW_rfl | exact isW_lit rfl)) ?_ | refine aA (s_neg rfl (by first | exact w64 (by omega) (by omega) | rfl)) ?_ | refine aA (s_compl rfl rfl) ?_)) | ((with_reducible refine pO ?_); (first | refine aA (s_convWB rfl (by first | exact isW_rfl | exact isW_lit rfl) tabOk rfl rfl rfl) ?_ | refine aA (s_convWW rfl (by first | exact isW_rfl | exact isW_lit rfl) tabOk rfl rfl rfl) ?_ | refine aA (s_convBW rfl tabOk rfl rfl rfl) ?_ | refine aA (s_convIW rfl tabOk rfl rfl rfl) ?_ | refine aA (iP tabOk rfl rfl rfl rfl (by first | (simp only [Int.reduceAdd, Int.reduceSub, Int.reduceMul]; exact w64 (by omega) (by omega)) | exact w64 (by omega) (by omega) | exact wu64 (by omega) (by omega) | exact wu8 (by omega) (by omega) | rfl)) ?_ | refine aA (s_convStr tabOk rfl rfl rfl rfl) ?_ | refine aA (tY tabOk rfl rfl rfl rfl rfl rfl rfl (by first | exact bY bL | exact bY eB | exact cD rfl rfl zln)) ?_)) | ((with_reducible refine yR ?_); (first | refine aA (kC tabOk rfl rfl rfl rfl rfl rfl) ?_ | refine aA (jB tabOk rfl rfl rfl rfl rfl rfl) ?_)) | ((with_reducible refine e_fld ?_); (first | refine aA (s_field1 tabOk rfl rfl rfl rfl rfl rfl (by first | exact Parts.mixed _ | exact Parts.closed _) (by rfl)) ?_ | refine aA (s_fieldA tabOk rfl rfl rfl rfl rfl rfl (by first | exact Parts.mixed _ | exact Parts.closed _) (by rfl) (by first | exact IsAgg.closed rfl rfl | exact IsAgg.mixed _)) ?_)) | ((with_reducible refine e_ext ?_); (first | refine aA (nL rfl rfl) ?_)) | ((with_reducible refine bE ?_); (first | refine aA (zY tabOk rfl rfl rfl rfl zbd zle rfl rfl) ?_ | refine aA (s_slC tabOk rfl rfl rfl rfl zbd zbd zle zle rfl rfl) ?_ | refine aA (s_slO tabOk rfl rfl rfl rfl zbd zbd zle zle rfl) ?_ | refine aA (s_slArr tabOk rfl rfl rfl rfl zbd zbd zle zle (by decide)) ?_ | refine aA (s_slStr tabOk rfl rfl rfl zbd zbd zle zle) ?_ | refine aA (s_slArri tabOk rfl rfl rfl rfl zbd zbd zle zle (by decide) (by first | fail | exact whole0 (by first | rfl | omega) | rfl) zln) ?_ | refine aA (s_slN tabOk rfl rfl rfl zbd rfl) ?_ | refine aA (s_slOm tabOk rfl rfl rfl rfl rfl zbd zbd zle zle) ?_)) | ((with_reducible refine bR ?_); (first | refine aA (s_ixV1 tabOk rfl rfl zcj rfl rfl rfl rfl rfl zle (by first | rfl | fail)) ?_ | refine aA (aQ tabOk rfl rfl zcj rfl rfl (by first | rfl | fail)) ?_)) | ((with_reducible refine tD ?_); (first | refine aA (s_buildA tabOk rfl rfl rfl rfl (eO rfl) (by rfl) (by first | exact IsAgg.closed rfl rfl | exact IsAgg.mixed _)) ?_ | refine aA (tR tabOk rfl rfl rfl rfl (eO rfl) (by rfl) (by first | exact IsAgg.closed rfl rfl | exact IsAgg.mixed _)) ?_)) | ((with_reducible refine yU ?_); (first | refine aA (oU rfl rfl) ?_ | refine aA (oT rfl rfl) ?_ | refine aA (qR rfl (by first | assumption | exact decide_eq_true (by omega) | (simp only [*] <;> fail) | fail) rfl) ?_ | refine aA (qQ rfl (by first | assumption | exact decide_eq_false (by omega) | (simp only [*] <;> fail) | fail) rfl) ?_)) | ((with_reducible refine yS ?_); (first | refine aA (lP rfl) ?_)) | ((with_reducible refine e_nil ?_); (first | refine aA (lQ rfl) ?_ | refine aA (s_nilChecki rfl) ?_))))
  | ((with_reducible refine isEk_g ?_); (refine e_skip (bP rfl rfl (by first | rfl | ((first | with_reducible refine gd1 ?_ | with_reducible refine gd2 ?_ | with_reducible refine gd3 ?_ | with_reducible refine gd4 ?_); omega) | (simp only [*] <;> fail) | fail)) ?_)))
  exact hq.out) : p := h ⟨hq⟩
section
variable {P : Program} {ops : Array Oper} {sz n n0 i m t : Nat} {K : AK} {env env0 : Env} {h h0 hr : Heap} {es : List Eat} {ids : List Nat} {dfs : Defs} {rest l : List Oper} {op : Op} {ty : TypeId} {pos : String} {aft : Array Edge} {gd : Option (Nat × Bool)} {f : FuncId} {xs : List Operand} {ats : Array TypeId}
theorem xA (hh : ∃ v, Still P ⟨some t, op, ty, pos, aft, gd⟩ (evA env) h v ∧ AWL P ops sz rest K n ((t, v) :: env) h dfs) (hg : guardA ops env ⟨some t, op, ty, pos, aft, gd⟩ true := by first | exact aL | exact (bP rfl rfl (by first | assumption | with_reducible exact gd1 (by assumption) | with_reducible exact gd2 (by assumption) | with_reducible exact gd3 (by assumption) | with_reducible exact gd4 (by assumption) | with_reducible rfl | rfl | ((first | with_reducible refine gd1 ?_ | with_reducible refine gd2 ?_ | with_reducible refine gd3 ?_ | with_reducible refine gd4 ?_); omega) | (simp only [*] <;> fail) | fail))) (hd : Nat.blt t sz = true := by rfl) : AWL P ops sz (⟨some t, op, ty, pos, aft, gd⟩ :: rest) K n env h dfs := x_a hg hd hh
theorem xD (hh : ∃ v, Still P ⟨some t, op, ty, pos, aft, gd⟩ (evT (Oper.looksAt l.toArray ⟨some t, op, ty, pos, aft, gd⟩) env) h v ∧ Drw P l sz K dfs i n0 env0 h0 m rest n ((t, v) :: env) h) (hg : guardA l.toArray env ⟨some t, op, ty, pos, aft, gd⟩ true := by first | exact aL | exact (bP rfl rfl (by first | assumption | with_reducible exact gd1 (by assumption) | with_reducible exact gd2 (by assumption) | with_reducible exact gd3 (by assumption) | with_reducible exact gd4 (by assumption) | with_reducible rfl | rfl | ((first | with_reducible refine gd1 ?_ | with_reducible refine gd2 ?_ | with_reducible refine gd3 ?_ | with_reducible refine gd4 ?_); omega) | (simp only [*] <;> fail) | fail))) : Drw P l sz K dfs i n0 env0 h0 (m + 1) (⟨some t, op, ty, pos, aft, gd⟩ :: rest) n env h := x_d hg hh
theorem xE (hh : ∃ v, Still P ⟨some t, op, ty, pos, aft, gd⟩ (evT (Oper.looksAt l.toArray ⟨some t, op, ty, pos, aft, gd⟩) env) hr v ∧ DrwE P l sz K dfs i n0 env0 h0 (es ++ [(ids, none)]) m rest n ((t, v) :: env) h) (hg : guardA l.toArray env ⟨some t, op, ty, pos, aft, gd⟩ true := by first | exact aL | exact (bP rfl rfl (by first | assumption | with_reducible exact gd1 (by assumption) | with_reducible exact gd2 (by assumption) | with_reducible exact gd3 (by assumption) | with_reducible exact gd4 (by assumption) | with_reducible rfl | rfl | ((first | with_reducible refine gd1 ?_ | with_reducible refine gd2 ?_ | with_reducible refine gd3 ?_ | with_reducible refine gd4 ?_); omega) | (simp only [*] <;> fail) | fail))) (hi : idsF env (Oper.looksAt l.toArray ⟨some t, op, ty, pos, aft, gd⟩) = some ids := by rfl) (hf : filtF ids h = some hr := by rfl) : DrwE P l sz K dfs i n0 env0 h0 es (m + 1) (⟨some t, op, ty, pos, aft, gd⟩ :: rest) n env h := x_e hg hi hf hh
theorem wA (hh : ∃ v, Adds P ⟨some t, op, ty, pos, aft, gd⟩ (evA env) h v [] n n ∧ AWL P ops sz rest K n ((t, v) :: env) h dfs) (hg : guardA ops env ⟨some t, op, ty, pos, aft, gd⟩ true := by first | exact aL | exact (bP rfl rfl (by first | assumption | with_reducible exact gd1 (by assumption) | with_reducible exact gd2 (by assumption) | with_reducible exact gd3 (by assumption) | with_reducible exact gd4 (by assumption) | with_reducible rfl | rfl | ((first | with_reducible refine gd1 ?_ | with_reducible refine gd2 ?_ | with_reducible refine gd3 ?_ | with_reducible refine gd4 ?_); omega) | (simp only [*] <;> fail) | fail))) (hd : Nat.blt t sz = true := by rfl) : AWL P ops sz (⟨some t, op, ty, pos, aft, gd⟩ :: rest) K n env h dfs := w_a hg hd hh
theorem wD (hh : ∃ v, Adds P ⟨some t, op, ty, pos, aft, gd⟩ (evT (Oper.looksAt l.toArray ⟨some t, op, ty, pos, aft, gd⟩) env) h v [] n n ∧ Drw P l sz K dfs i n0 env0 h0 m rest n ((t, v) :: env) h) (hg : guardA l.toArray env ⟨some t, op, ty, pos, aft, gd⟩ true := by first | exact aL | exact (bP rfl rfl (by first | assumption | with_reducible exact gd1 (by assumption) | with_reducible exact gd2 (by assumption) | with_reducible exact gd3 (by assumption) | with_reducible exact gd4 (by assumption) | with_reducible rfl | rfl | ((first | with_reducible refine gd1 ?_ | with_reducible refine gd2 ?_ | with_reducible refine gd3 ?_ | with_reducible refine gd4 ?_); omega) | (simp only [*] <;> fail) | fail))) : Drw P l sz K dfs i n0 env0 h0 (m + 1) (⟨some t, op, ty, pos, aft, gd⟩ :: rest) n env h := w_d hg hh
theorem wE (hh : ∃ v, Adds P ⟨some t, op, ty, pos, aft, gd⟩ (evT (Oper.looksAt l.toArray ⟨some t, op, ty, pos, aft, gd⟩) env) hr v [] n n ∧ DrwE P l sz K dfs i n0 env0 h0 (es ++ [(ids, none)]) m rest n ((t, v) :: env) h) (hg : guardA l.toArray env ⟨some t, op, ty, pos, aft, gd⟩ true := by first | exact aL | exact (bP rfl rfl (by first | assumption | with_reducible exact gd1 (by assumption) | with_reducible exact gd2 (by assumption) | with_reducible exact gd3 (by assumption) | with_reducible exact gd4 (by assumption) | with_reducible rfl | rfl | ((first | with_reducible refine gd1 ?_ | with_reducible refine gd2 ?_ | with_reducible refine gd3 ?_ | with_reducible refine gd4 ?_); omega) | (simp only [*] <;> fail) | fail))) (hi : idsF env (Oper.looksAt l.toArray ⟨some t, op, ty, pos, aft, gd⟩) = some ids := by rfl) (hf : filtF ids h = some hr := by rfl) : DrwE P l sz K dfs i n0 env0 h0 es (m + 1) (⟨some t, op, ty, pos, aft, gd⟩ :: rest) n env h := w_e hg hi hf hh
theorem yA (hh : ∃ v obj, obj.live = some obj ∧ Adds P ⟨some t, op, ty, pos, aft, gd⟩ (evA env) h v [(n, obj)] n (n + 1) ∧ AWL P ops sz rest K (n + 1) ((t, v) :: env) ((n, obj) :: h) dfs) (hg : guardA ops env ⟨some t, op, ty, pos, aft, gd⟩ true := by first | exact aL | exact (bP rfl rfl (by first | assumption | with_reducible exact gd1 (by assumption) | with_reducible exact gd2 (by assumption) | with_reducible exact gd3 (by assumption) | with_reducible exact gd4 (by assumption) | with_reducible rfl | rfl | ((first | with_reducible refine gd1 ?_ | with_reducible refine gd2 ?_ | with_reducible refine gd3 ?_ | with_reducible refine gd4 ?_); omega) | (simp only [*] <;> fail) | fail))) (hd : Nat.blt t sz = true := by rfl) : AWL P ops sz (⟨some t, op, ty, pos, aft, gd⟩ :: rest) K n env h dfs := y_a hg hd hh
theorem yD (hh : ∃ v obj, obj.live = some obj ∧ Adds P ⟨some t, op, ty, pos, aft, gd⟩ (evT (Oper.looksAt l.toArray ⟨some t, op, ty, pos, aft, gd⟩) env) h v [(n, obj)] n (n + 1) ∧ Drw P l sz K dfs i n0 env0 h0 m rest (n + 1) ((t, v) :: env) ((n, obj) :: h)) (hg : guardA l.toArray env ⟨some t, op, ty, pos, aft, gd⟩ true := by first | exact aL | exact (bP rfl rfl (by first | assumption | with_reducible exact gd1 (by assumption) | with_reducible exact gd2 (by assumption) | with_reducible exact gd3 (by assumption) | with_reducible exact gd4 (by assumption) | with_reducible rfl | rfl | ((first | with_reducible refine gd1 ?_ | with_reducible refine gd2 ?_ | with_reducible refine gd3 ?_ | with_reducible refine gd4 ?_); omega) | (simp only [*] <;> fail) | fail))) : Drw P l sz K dfs i n0 env0 h0 (m + 1) (⟨some t, op, ty, pos, aft, gd⟩ :: rest) n env h := y_d hg hh
theorem yE (hh : ∃ v obj, obj.live = some obj ∧ Adds P ⟨some t, op, ty, pos, aft, gd⟩ (evT (Oper.looksAt l.toArray ⟨some t, op, ty, pos, aft, gd⟩) env) hr v [(n, obj)] n (n + 1) ∧ DrwE P l sz K dfs i n0 env0 h0 (es ++ [(n :: ids, none)]) m rest (n + 1) ((t, v) :: env) ((n, obj) :: h)) (hg : guardA l.toArray env ⟨some t, op, ty, pos, aft, gd⟩ true := by first | exact aL | exact (bP rfl rfl (by first | assumption | with_reducible exact gd1 (by assumption) | with_reducible exact gd2 (by assumption) | with_reducible exact gd3 (by assumption) | with_reducible exact gd4 (by assumption) | with_reducible rfl | rfl | ((first | with_reducible refine gd1 ?_ | with_reducible refine gd2 ?_ | with_reducible refine gd3 ?_ | with_reducible refine gd4 ?_); omega) | (simp only [*] <;> fail) | fail))) (hi : idsF env (Oper.looksAt l.toArray ⟨some t, op, ty, pos, aft, gd⟩) = some ids := by rfl) (hf : filtF ids h = some hr := by rfl) : DrwE P l sz K dfs i n0 env0 h0 es (m + 1) (⟨some t, op, ty, pos, aft, gd⟩ :: rest) n env h := y_e hg hi hf hh
theorem zA (hh : CallsTo P f xs (evA env) (fun r => AWL P ops sz rest K n ((t, r) :: env) h dfs) (fun k size T rc => AWL P ops sz rest K (n + 1) ((t, .own n 0 k size true) :: env) ((n, .row T rc) :: h) dfs)) (hg : guardA ops env ⟨some t, .call ⟨.value (.func f), xs.toArray, ats⟩, ty, pos, aft, gd⟩ true := by first | exact aL | exact (bP rfl rfl (by first | assumption | with_reducible exact gd1 (by assumption) | with_reducible exact gd2 (by assumption) | with_reducible exact gd3 (by assumption) | with_reducible exact gd4 (by assumption) | with_reducible rfl | rfl | ((first | with_reducible refine gd1 ?_ | with_reducible refine gd2 ?_ | with_reducible refine gd3 ?_ | with_reducible refine gd4 ?_); omega) | (simp only [*] <;> fail) | fail))) (hd : Nat.blt t sz = true := by rfl) : AWL P ops sz (⟨some t, .call ⟨.value (.func f), xs.toArray, ats⟩, ty, pos, aft, gd⟩ :: rest) K n env h dfs := z_a hg hd hh
theorem zD (hh : CallsTo P f xs (evT (Oper.looksAt l.toArray ⟨some t, .call ⟨.value (.func f), xs.toArray, ats⟩, ty, pos, aft, gd⟩) env) (fun r => Drw P l sz K dfs i n0 env0 h0 m rest n ((t, r) :: env) h) (fun k size T rc => Drw P l sz K dfs i n0 env0 h0 m rest (n + 1) ((t, .own n 0 k size true) :: env) ((n, .row T rc) :: h))) (hg : guardA l.toArray env ⟨some t, .call ⟨.value (.func f), xs.toArray, ats⟩, ty, pos, aft, gd⟩ true := by first | exact aL | exact (bP rfl rfl (by first | assumption | with_reducible exact gd1 (by assumption) | with_reducible exact gd2 (by assumption) | with_reducible exact gd3 (by assumption) | with_reducible exact gd4 (by assumption) | with_reducible rfl | rfl | ((first | with_reducible refine gd1 ?_ | with_reducible refine gd2 ?_ | with_reducible refine gd3 ?_ | with_reducible refine gd4 ?_); omega) | (simp only [*] <;> fail) | fail))) : Drw P l sz K dfs i n0 env0 h0 (m + 1) (⟨some t, .call ⟨.value (.func f), xs.toArray, ats⟩, ty, pos, aft, gd⟩ :: rest) n env h := z_d hg hh
theorem zE (hh : CallsTo P f xs (evT (Oper.looksAt l.toArray ⟨some t, .call ⟨.value (.func f), xs.toArray, ats⟩, ty, pos, aft, gd⟩) env) (fun r => DrwE P l sz K dfs i n0 env0 h0 (es ++ [([], none)]) m rest n ((t, r) :: env) h) (fun k size T rc => DrwE P l sz K dfs i n0 env0 h0 (es ++ [([n], none)]) m rest (n + 1) ((t, .own n 0 k size true) :: env) ((n, .row T rc) :: h))) (hg : guardA l.toArray env ⟨some t, .call ⟨.value (.func f), xs.toArray, ats⟩, ty, pos, aft, gd⟩ true := by first | exact aL | exact (bP rfl rfl (by first | assumption | with_reducible exact gd1 (by assumption) | with_reducible exact gd2 (by assumption) | with_reducible exact gd3 (by assumption) | with_reducible exact gd4 (by assumption) | with_reducible rfl | rfl | ((first | with_reducible refine gd1 ?_ | with_reducible refine gd2 ?_ | with_reducible refine gd3 ?_ | with_reducible refine gd4 ?_); omega) | (simp only [*] <;> fail) | fail))) : DrwE P l sz K dfs i n0 env0 h0 es (m + 1) (⟨some t, .call ⟨.value (.func f), xs.toArray, ats⟩, ty, pos, aft, gd⟩ :: rest) n env h := z_e hg hh
variable {cs cs' rc : List CV} {r : AV} {ev : Evl} {N0 : AV → Prop} {N1 : Nat → Nat → TypeId → List CV → Prop} {k size : Nat} {T : TypeId} {vs : List AV} {N : AV → Prop} {d : Option Tmp} {N2 : AV → AObj → Prop}
theorem c0 (hac : AC P f cs' r [] 0) (hn : N0 r) (hb : Body P f := by unfold Body; kernel_rfl) (hx : argsC ev xs = some cs := by rfl) (hcv : CvL cs cs' := by first | exact kK | ((repeat' (first | exact gO | refine dF ?_ ?_ | (first | exact bL | exact eB | (refine dA ?_ ?_ <;> first | rfl | omega | (simp <;> fail) | fail) | (refine cV ?_; first | rfl | (simp <;> fail) | fail) | refine cv_agg ?_))) <;> fail) | fail) (hid : r.noId = true := by rfl) : CallsTo P f xs ev N0 N1 := ct_0 hac hb hx hcv hid hn
theorem c1 (hac : AC P f cs' (.own 0 0 k size true) [(0, .row T rc)] 1) (hn : N1 k size T rc) (hb : Body P f := by unfold Body; kernel_rfl) (hx : argsC ev xs = some cs := by rfl) (hcv : CvL cs cs' := by first | exact kK | ((repeat' (first | exact gO | refine dF ?_ ?_ | (first | exact bL | exact eB | (refine dA ?_ ?_ <;> first | rfl | omega | (simp <;> fail) | fail) | (refine cV ?_; first | rfl | (simp <;> fail) | fail) | refine cv_agg ?_))) <;> fail) | fail) : CallsTo P f xs ev N0 N1 := ct_1 hac hb hx hcv hn
theorem cF (hac : AC P f cs r [] 0) (hn : N r) (hb : Body P f := by unfold Body; kernel_rfl) (hx : argsA ev xs = some vs := by rfl) (hfz : FrzL [] h vs cs := by first | ((repeat' (first | exact dG | refine bV ?_ ?_ | (first | with_reducible exact bY bL | with_reducible exact bY eB | exact cD rfl rfl zln | exact gP rfl rfl rfl zln | exact bO (cD rfl rfl zln) (dA zse zse) | exact bO (gP rfl rfl rfl zln) (dA zse zse) | exact bO (bY bL) (dA zse zse) | exact bO (bY bL) (cV (by first | rfl | (simp <;> fail) | fail)) | exact bY bL | exact bY eB | exact frz_u8 rfl rfl (by omega) (by omega) (by omega) | refine frz_agg rfl ?_ | refine bY (cv_agg ?_) | exact gO | refine dF ?_ ?_ | exact bL | exact eB | exact dA zse zse))) <;> fail) | fail) (hfl : FlR r := by first | exact FlR.c flc_v | exact FlR.c (flc_agg (by first | ((repeat' (first | exact jS | exact flcl_u8 _ | exact flcl_int _ _ | exact flcl_plain _ | exact flc_v | assumption | refine flcl_app ?_ ?_ | refine flcl_cons ?_ ?_ | refine flc_agg ?_)) <;> fail) | fail)) | exact flr_2 (by first | ((repeat' (first | exact jS | exact flcl_u8 _ | exact flcl_int _ _ | exact flcl_plain _ | exact flc_v | assumption | refine flcl_app ?_ ?_ | refine flcl_cons ?_ ?_ | refine flc_agg ?_)) <;> fail) | fail) | exact flr_3 (by first | ((repeat' (first | exact jS | exact flcl_u8 _ | exact flcl_int _ _ | exact flcl_plain _ | exact flc_v | assumption | refine flcl_app ?_ ?_ | refine flcl_cons ?_ ?_ | refine flc_agg ?_)) <;> fail) | fail) | exact FlR.t (by first | ((repeat' (first | exact jS | exact flcl_u8 _ | exact flcl_int _ _ | exact flcl_plain _ | exact flc_v | assumption | refine flcl_app ?_ ?_ | refine flcl_cons ?_ ?_ | refine flc_agg ?_)) <;> fail) | fail) | assumption) : ∃ v, Adds P ⟨d, .call ⟨.value (.func f), xs.toArray, ats⟩, ty, pos, aft, gd⟩ ev h v [] n n ∧ N v := eL (yG hb hx hfz hac hfl) hn
theorem cF1 (hac : AC P f cs (.own 0 0 k size true) [(0, .row T rc)] 1) (hn : N2 (.own n 0 k size true) (.row T rc)) (hb : Body P f := by unfold Body; kernel_rfl) (hx : argsA ev xs = some vs := by rfl) (hfz : FrzL [] h vs cs := by first | ((repeat' (first | exact dG | refine bV ?_ ?_ | (first | with_reducible exact bY bL | with_reducible exact bY eB | exact cD rfl rfl zln | exact gP rfl rfl rfl zln | exact bO (cD rfl rfl zln) (dA zse zse) | exact bO (gP rfl rfl rfl zln) (dA zse zse) | exact bO (bY bL) (dA zse zse) | exact bO (bY bL) (cV (by first | rfl | (simp <;> fail) | fail)) | exact bY bL | exact bY eB | exact frz_u8 rfl rfl (by omega) (by omega) (by omega) | refine frz_agg rfl ?_ | refine bY (cv_agg ?_) | exact gO | refine dF ?_ ?_ | exact bL | exact eB | exact dA zse zse))) <;> fail) | fail) (hfl : FlcL rc := by first | ((repeat' (first | exact jS | exact flcl_u8 _ | exact flcl_int _ _ | exact flcl_plain _ | exact flc_v | assumption | refine flcl_app ?_ ?_ | refine flcl_cons ?_ ?_ | refine flc_agg ?_)) <;> fail) | fail) : ∃ v obj, obj.live = some obj ∧ Adds P ⟨d, .call ⟨.value (.func f), xs.toArray, ats⟩, ty, pos, aft, gd⟩ ev h v [(n, obj)] n (n + 1) ∧ N2 v obj := ⟨_, _, rfl, uX hb hx hfz hac hfl, hn⟩
end
theorem weakA {n : Nat} {env : Env} {h : Heap} {dfs : Defs} {N : Nat} {E : Env} {Hp : Heap} {D : Defs} (w : Weak n env h dfs N E Hp D := by refine bZ rfl ?_ ?_ rfl <;> (repeat' (first | exact bG | exact bM | refine aZ rfl (by first | rfl | exact zP rfl rfl (by omega) | exact zH (by omega) | (simp <;> fail) | (congr 4; omega) | (congr 3; omega) | (congr 2; omega)) rfl ?_ | refine aY rfl (by first | rfl | exact zP rfl rfl (by omega) | exact zH (by omega) | (simp <;> fail) | (congr 4; omega) | (congr 3; omega) | (congr 2; omega)) rfl ?_))) : Weak n env h dfs N E Hp D := w

end Go.Proofs.YtccnhpaldmjkbaaGreat
namespace Go.Av
open Go Go.RowKit
section
variable {P : Program} {tab : Tab} {sz n : Nat} {env : Env} {h : Heap} {dfs : Defs} {K : AK} {ops : Array Oper} {rest : List Oper} {d : Option Tmp} {ty : TypeId} {pos : String} {aft : Array Edge} {gd : Option (Nat × Bool)} {f : FuncId} {x : Operand} {xs : List Operand} {ats : Array TypeId}

def ItK (P : Program) (l sz : Nat) (L : LC) (env' : Env) (K : AK) (dfs : Defs) : AK :=
  fun e n' _ h' dfs' => (e = .normal ∨ e = .ret) ∧ IdleD P h' dfs' ∧ framM dfs' = some (.yld (l + 1) :: .ref l 0 :: fram env' dfs) ∧
    lk (endD h' dfs') (l + 1) = some (.lp .ready sz L (env'.map (·.1)) (env'.map (·.2))) ∧ l + 1 < n' ∧
    K .normal n' env' ((l + 1, .lp .exhausted sz L (env'.map (·.1)) (env'.map (·.2))) :: endD h' dfs') ((some collF, [.ref l 0]) :: dfs)

def bindE : List Tmp → List AV → Env → Env
  | p :: ps, v :: vs, E => bindE ps vs ((p, v) :: E)
  | _, _, E => E
def zipE : List Nat → List AV → Env
  | s :: ss, x :: xs => (s, x) :: zipE ss xs
  | _, _ => []
def RdK (P : Program) (id szc : Nat) (L : LC) (slots : List Nat) (xs : List AV) (env' : Env) (ops : Array Oper) (sz : Nat) (rest : List Oper) (K : AK) (d : Option Tmp) (dfs : Defs) : AK :=
  fun e n2 _ h2 dfs2 => e = .normal ∧ framM dfs2 = some (.yld id :: fram env' dfs) ∧ lk h2 id = some (.lp .busy szc L slots xs) ∧ Nat.blt id n2 = true ∧ AWL P ops sz rest K n2 (putE env' d (.c (.v (.bool true)))) ((id, .lp .ready szc L slots xs) :: h2) dfs
def AsK (P : Program) (id szc : Nat) (L : LC) (slots : List Nat) (xs : List AV) (env' : Env) (ops : Array Oper) (sz : Nat) (rest : List Oper) (K : AK) (d : Option Tmp) (dfs : Defs) : AK :=
  fun e n1 env1 h1 dfs1 => e = .normal ∧ framM dfs1 = some (.yld id :: fram env' dfs) ∧ lk h1 id = some (.lp .ready szc L slots xs) ∧ Nat.blt id n1 = true ∧ AW P szc L.bd (RdK P id szc L slots xs env' ops sz rest K d dfs) n1 env1 ((id, .lp .busy szc L slots xs) :: h1) dfs1

theorem itK_mk {l : Nat} {L : LC} {env' env2 : Env} {e : Exit} {n' : Nat} {h' h2 : Heap} {dfs' : Defs} (he : e = .normal ∨ e = .ret) (hi : IdleD P h' dfs') (hm : framM dfs' = some (.yld (l + 1) :: .ref l 0 :: fram env' dfs)) (hh : endD h' dfs' = h2) (ho : lk h2 (l + 1) = some (.lp .ready sz L (env'.map (·.1)) (env'.map (·.2)))) (hlt : Nat.blt (l + 1) n' = true)
    (next : K .normal n' env' ((l + 1, .lp .exhausted sz L (env'.map (·.1)) (env'.map (·.2))) :: h2) ((some collF, [.ref l 0]) :: dfs)) : ItK P l sz L env' K dfs e n' env2 h' dfs' :=
  ⟨he, hi, hm, by rw [hh]; exact ho, by simpa using hlt, by rw [hh]; exact next⟩
theorem asK_mk {id szc n1 : Nat} {L : LC} {slots : List Nat} {ys : List AV} {env' env1 : Env} {h1 : Heap} {dfs1 : Defs} {ps : List Tmp} {asn bd : Code} (hL : L = ⟨ps, asn, bd⟩) (hm : framM dfs1 = some (.yld id :: fram env' dfs)) (ho : lk h1 id = some (.lp .ready szc L slots ys)) (hlt : Nat.blt id n1 = true)
    (next : AW P szc bd (RdK P id szc L slots ys env' ops sz rest K d dfs) n1 env1 ((id, .lp .busy szc L slots ys) :: h1) dfs1) : AsK P id szc L slots ys env' ops sz rest K d dfs .normal n1 env1 h1 dfs1 := by
  subst hL
  exact ⟨rfl, hm, ho, hlt, next⟩
theorem rdK_some {id szc n2 t : Nat} {L : LC} {slots : List Nat} {ys : List AV} {env' env2 : Env} {h2 : Heap} {dfs2 : Defs} (hm : framM dfs2 = some (.yld id :: fram env' dfs)) (ho : lk h2 id = some (.lp .busy szc L slots ys)) (hlt : Nat.blt id n2 = true)
    (next : AWL P ops sz rest K n2 ((t, .c (.v (.bool true))) :: env') ((id, .lp .ready szc L slots ys) :: h2) dfs) : RdK P id szc L slots ys env' ops sz rest K (some t) dfs .normal n2 env2 h2 dfs2 := ⟨rfl, hm, ho, hlt, next⟩

def dropE (ks : List Nat) : Env → Option Env
  | [] => some []
  | p :: r => match dropE ks r with
    | some r' => match memB ks p.1 with | true => some r' | false => some (p :: r')
    | none => none
def dropH (ks : List Nat) : Heap → Option Heap
  | [] => some []
  | p :: r => match dropH ks r with
    | some r' => match memB ks p.1 with | true => some r' | false => some (p :: r')
    | none => none
theorem bC {ι : Type} {c : Code} (ks hs : List Nat) {envR : Env} {hR : Heap} (hE : dropE ks env = some envR) (hH : dropH hs h = some hR) (ov : ι → Env) (hov : ι → Heap) (Inv : ι → Prop) (μ : ι → Nat) (i0 : ι) (h0 : Inv i0) (hw : Weak n env h dfs n (ov i0 ++ envR) (hov i0 ++ hR) dfs)
    (round : ∀ i, Inv i → ∀ K' : AK, (∀ n' env' h' dfs', (∃ j, Inv j ∧ μ j < μ i ∧ Weak n' env' h' dfs' n (ov j ++ envR) (hov j ++ hR) dfs) → K' .normal n' env' h' dfs') → (∀ e n env h dfs, e ≠ .normal → K e n env h dfs → K' e n env h dfs) → AW P sz c K' n (ov i ++ envR) (hov i ++ hR) dfs) : AW P sz (.loop c) K n env h dfs :=
  pE n (fun i => ov i ++ envR) (fun i => hov i ++ hR) dfs Inv μ i0 h0 hw round

end
end Go.Av
namespace Go.Proofs.YtccnhpaldmjkbaaGreat
open Go Go.RowKit Go.Av
set_option maxRecDepth 100000
theorem kV {v : Vl} (h : okP v) : okV v = true := decide_eq_true h
theorem fH {v : Vl} (h : ¬ okP v) : okV v = false := decide_eq_false h
attribute [local irreducible] Still Adds AWL AW Drw DrwE EStep AC AWR Weak Frz Src RetK Out InK ItK AsK RdK
theorem qZ (v : Vl) : AC Tryz.prog 123 [.agg v.c] (.c (bv (okV v))) [] 0 := by
  obtain ⟨k, n, t⟩ := v
  show AC _ _ [.agg [iv k, iv n, sv t]] _ _ _
  have hsz := kF t
  by_cases k0 : k = 0
  · subst k0
    by_cases n0 : n = 0
    · by_cases t0 : t = []
      · have hb := kV (v := ⟨0, n, t⟩) (.inl ⟨rfl, n0, t0⟩)
        rw [hb]
        refine aJ tabOk (sz := 41) Tryz.func123 rfl (by rw [Tryz.ntmps123]; rfl) ?_
        repeat' (first | ((with_reducible refine aB ?_); intro K hK hX) | ((with_reducible refine aC ?_); refine aD [0, 1, 2, 4] rfl rfl ?_) | (((with_reducible refine aH ?_); refine xA ?_); (first | ((with_reducible refine aU ?_); (first | refine aA (cC rfl rfl (by first | exact decide_eq_true t0 | exact decide_eq_false t0)) ?_)))) | refine stA ?_ | ((first | refine hK _ _ _ _ ?_ | refine hX _ _ _ _ _ (by simp) ?_); clear hK hX K))
        refine aK zio ztr rfl (ResL.one (ResA.tmp rfl)) zou
      · have hb := fH (v := ⟨0, n, t⟩) (by unfold okP; simp [t0])
        rw [hb]
        refine aJ tabOk (sz := 41) Tryz.func123 rfl (by rw [Tryz.ntmps123]; rfl) ?_
        repeat' (first | ((with_reducible refine aB ?_); intro K hK hX) | ((with_reducible refine aC ?_); refine aD [0, 1, 2, 4] rfl rfl ?_) | (((with_reducible refine aH ?_); refine xA ?_); (first | ((with_reducible refine aU ?_); (first | refine aA (cC rfl rfl (by first | exact decide_eq_true t0 | exact decide_eq_false t0)) ?_)))) | refine stA ?_ | ((first | refine hK _ _ _ _ ?_ | refine hX _ _ _ _ _ (by simp) ?_); clear hK hX K))
        refine aK zio ztr rfl (ResL.one (ResA.tmp rfl)) zou
    · have hb := fH (v := ⟨0, n, t⟩) (by unfold okP; simp [n0])
      have t0 : True := trivial
      rw [hb]
      refine aJ tabOk (sz := 41) Tryz.func123 rfl (by rw [Tryz.ntmps123]; rfl) ?_
      repeat' (first | ((with_reducible refine aB ?_); intro K hK hX) | ((with_reducible refine aC ?_); refine aD [0, 1, 2, 4] rfl rfl ?_) | (((with_reducible refine aH ?_); refine xA ?_); (first | ((with_reducible refine aU ?_); (first | refine aA (cC rfl rfl (by first | exact decide_eq_true t0 | exact decide_eq_false t0)) ?_)))) | refine stA ?_ | ((first | refine hK _ _ _ _ ?_ | refine hX _ _ _ _ _ (by simp) ?_); clear hK hX K))
      refine aK zio ztr rfl (ResL.one (ResA.tmp rfl)) zou
  · by_cases k1 : k = 1
    · subst k1
      have t9 : True := trivial
      by_cases n1 : -4294967296 ≤ n
      · by_cases n2 : n ≤ 4294967296
        · by_cases t0 : t = []
          · have hb := kV (v := ⟨1, n, t⟩) (.inr (.inl ⟨rfl, n1, n2, t0⟩))
            rw [hb]
            refine aJ tabOk (sz := 41) Tryz.func123 rfl (by rw [Tryz.ntmps123]; rfl) ?_
            repeat' (first | ((with_reducible refine aB ?_); intro K hK hX) | ((with_reducible refine aC ?_); refine aD [0, 1, 2, 4] rfl rfl ?_) | (((with_reducible refine aH ?_); refine xA ?_); (first | ((with_reducible refine aU ?_); (first | refine aA (cC rfl rfl (by first | exact decide_eq_true t0 | exact decide_eq_false t0)) ?_)))) | refine stA ?_ | ((first | refine hK _ _ _ _ ?_ | refine hX _ _ _ _ _ (by simp) ?_); clear hK hX K))
            refine aK zio ztr rfl (ResL.one (ResA.tmp rfl)) zou
          · have hb := fH (v := ⟨1, n, t⟩) (by unfold okP; simp [t0])
            rw [hb]
            refine aJ tabOk (sz := 41) Tryz.func123 rfl (by rw [Tryz.ntmps123]; rfl) ?_
            repeat' (first | ((with_reducible refine aB ?_); intro K hK hX) | ((with_reducible refine aC ?_); refine aD [0, 1, 2, 4] rfl rfl ?_) | (((with_reducible refine aH ?_); refine xA ?_); (first | ((with_reducible refine aU ?_); (first | refine aA (cC rfl rfl (by first | exact decide_eq_true t0 | exact decide_eq_false t0)) ?_)))) | refine stA ?_ | ((first | refine hK _ _ _ _ ?_ | refine hX _ _ _ _ _ (by simp) ?_); clear hK hX K))
            refine aK zio ztr rfl (ResL.one (ResA.tmp rfl)) zou
        · have hb := fH (v := ⟨1, n, t⟩) (by unfold okP; simp [n2])
          have t0 : True := trivial
          rw [hb]
          refine aJ tabOk (sz := 41) Tryz.func123 rfl (by rw [Tryz.ntmps123]; rfl) ?_
          repeat' (first | ((with_reducible refine aB ?_); intro K hK hX) | ((with_reducible refine aC ?_); refine aD [0, 1, 2, 4] rfl rfl ?_) | (((with_reducible refine aH ?_); refine xA ?_); (first | ((with_reducible refine aU ?_); (first | refine aA (cC rfl rfl (by first | exact decide_eq_true t0 | exact decide_eq_false t0)) ?_)))) | refine stA ?_ | ((first | refine hK _ _ _ _ ?_ | refine hX _ _ _ _ _ (by simp) ?_); clear hK hX K))
          refine aK zio ztr rfl (ResL.one (ResA.tmp rfl)) zou
      · have hb := fH (v := ⟨1, n, t⟩) (by unfold okP; simp [n1])
        have t0 : True := trivial
        rw [hb]
        refine aJ tabOk (sz := 41) Tryz.func123 rfl (by rw [Tryz.ntmps123]; rfl) ?_
        repeat' (first | ((with_reducible refine aB ?_); intro K hK hX) | ((with_reducible refine aC ?_); refine aD [0, 1, 2, 4] rfl rfl ?_) | (((with_reducible refine aH ?_); refine xA ?_); (first | ((with_reducible refine aU ?_); (first | refine aA (cC rfl rfl (by first | exact decide_eq_true t0 | exact decide_eq_false t0)) ?_)))) | refine stA ?_ | ((first | refine hK _ _ _ _ ?_ | refine hX _ _ _ _ _ (by simp) ?_); clear hK hX K))
        refine aK zio ztr rfl (ResL.one (ResA.tmp rfl)) zou
    · by_cases k2 : k = 2
      · subst k2
        have t0 : True := trivial
        by_cases n0 : n = 0
        · by_cases t1 : t.length ≤ 32
          · have hb := kV (v := ⟨2, n, t⟩) (.inr (.inr ⟨rfl, n0, t1⟩))
            rw [hb]
            refine aJ tabOk (sz := 41) Tryz.func123 rfl (by rw [Tryz.ntmps123]; rfl) ?_
            repeat' (first | ((with_reducible refine aB ?_); intro K hK hX) | ((with_reducible refine aC ?_); refine aD [0, 1, 2, 4] rfl rfl ?_) | (((with_reducible refine aH ?_); refine xA ?_); (first | ((with_reducible refine aU ?_); (first | refine aA (cC rfl rfl (by first | exact decide_eq_true t0 | exact decide_eq_false t0)) ?_)))) | refine stA ?_ | ((first | refine hK _ _ _ _ ?_ | refine hX _ _ _ _ _ (by simp) ?_); clear hK hX K))
            refine aK zio ztr rfl (ResL.one (ResA.tmp rfl)) zou
          · have hb := fH (v := ⟨2, n, t⟩) (by unfold okP; simp; omega)
            rw [hb]
            refine aJ tabOk (sz := 41) Tryz.func123 rfl (by rw [Tryz.ntmps123]; rfl) ?_
            repeat' (first | ((with_reducible refine aB ?_); intro K hK hX) | ((with_reducible refine aC ?_); refine aD [0, 1, 2, 4] rfl rfl ?_) | (((with_reducible refine aH ?_); refine xA ?_); (first | ((with_reducible refine aU ?_); (first | refine aA (cC rfl rfl (by first | exact decide_eq_true t0 | exact decide_eq_false t0)) ?_)))) | refine stA ?_ | ((first | refine hK _ _ _ _ ?_ | refine hX _ _ _ _ _ (by simp) ?_); clear hK hX K))
            refine aK zio ztr rfl (ResL.one (ResA.tmp rfl)) zou
        · have hb := fH (v := ⟨2, n, t⟩) (by unfold okP; simp [n0])
          rw [hb]
          refine aJ tabOk (sz := 41) Tryz.func123 rfl (by rw [Tryz.ntmps123]; rfl) ?_
          repeat' (first | ((with_reducible refine aB ?_); intro K hK hX) | ((with_reducible refine aC ?_); refine aD [0, 1, 2, 4] rfl rfl ?_) | (((with_reducible refine aH ?_); refine xA ?_); (first | ((with_reducible refine aU ?_); (first | refine aA (cC rfl rfl (by first | exact decide_eq_true t0 | exact decide_eq_false t0)) ?_)))) | refine stA ?_ | ((first | refine hK _ _ _ _ ?_ | refine hX _ _ _ _ _ (by simp) ?_); clear hK hX K))
          refine aK zio ztr rfl (ResL.one (ResA.tmp rfl)) zou
      · have hb := fH (v := ⟨k, n, t⟩) (by unfold okP; simp [k0, k1, k2])
        have t0 : True := trivial
        rw [hb]
        refine aJ tabOk (sz := 41) Tryz.func123 rfl (by rw [Tryz.ntmps123]; rfl) ?_
        repeat' (first | ((with_reducible refine aB ?_); intro K hK hX) | ((with_reducible refine aC ?_); refine aD [0, 1, 2, 4] rfl rfl ?_) | (((with_reducible refine aH ?_); refine xA ?_); (first | ((with_reducible refine aU ?_); (first | refine aA (cC rfl rfl (by first | exact decide_eq_true t0 | exact decide_eq_false t0)) ?_)))) | refine stA ?_ | ((first | refine hK _ _ _ _ ?_ | refine hX _ _ _ _ _ (by simp) ?_); clear hK hX K))
        refine aK zio ztr rfl (ResL.one (ResA.tmp rfl)) zou
theorem nK (v : Vl) : AC Tryz.prog 133 [.agg v.c] (.c (bv (okV v))) [] 0 := by
  obtain ⟨k, n, t⟩ := v
  show AC _ _ [.agg [iv k, iv n, sv t]] _ _ _
  have hsz := kF t
  by_cases k0 : k = 0
  · subst k0
    by_cases n0 : n = 0
    · by_cases t0 : t = []
      · have hb := kV (v := ⟨0, n, t⟩) (.inl ⟨rfl, n0, t0⟩)
        rw [hb]
        refine aJ tabOk (sz := 41) Tryz.func133 rfl (by rw [Tryz.ntmps133]; rfl) ?_
        repeat' (first | ((with_reducible refine aB ?_); intro K hK hX) | ((with_reducible refine aC ?_); refine aD [0, 1, 2, 4] rfl rfl ?_) | (((with_reducible refine aH ?_); refine xA ?_); (first | ((with_reducible refine aU ?_); (first | refine aA (cC rfl rfl (by first | exact decide_eq_true t0 | exact decide_eq_false t0)) ?_)))) | refine stA ?_ | ((first | refine hK _ _ _ _ ?_ | refine hX _ _ _ _ _ (by simp) ?_); clear hK hX K))
        refine aK zio ztr rfl (ResL.one (ResA.tmp rfl)) zou
      · have hb := fH (v := ⟨0, n, t⟩) (by unfold okP; simp [t0])
        rw [hb]
        refine aJ tabOk (sz := 41) Tryz.func133 rfl (by rw [Tryz.ntmps133]; rfl) ?_
        repeat' (first | ((with_reducible refine aB ?_); intro K hK hX) | ((with_reducible refine aC ?_); refine aD [0, 1, 2, 4] rfl rfl ?_) | (((with_reducible refine aH ?_); refine xA ?_); (first | ((with_reducible refine aU ?_); (first | refine aA (cC rfl rfl (by first | exact decide_eq_true t0 | exact decide_eq_false t0)) ?_)))) | refine stA ?_ | ((first | refine hK _ _ _ _ ?_ | refine hX _ _ _ _ _ (by simp) ?_); clear hK hX K))
        refine aK zio ztr rfl (ResL.one (ResA.tmp rfl)) zou
    · have hb := fH (v := ⟨0, n, t⟩) (by unfold okP; simp [n0])
      have t0 : True := trivial
      rw [hb]
      refine aJ tabOk (sz := 41) Tryz.func133 rfl (by rw [Tryz.ntmps133]; rfl) ?_
      repeat' (first | ((with_reducible refine aB ?_); intro K hK hX) | ((with_reducible refine aC ?_); refine aD [0, 1, 2, 4] rfl rfl ?_) | (((with_reducible refine aH ?_); refine xA ?_); (first | ((with_reducible refine aU ?_); (first | refine aA (cC rfl rfl (by first | exact decide_eq_true t0 | exact decide_eq_false t0)) ?_)))) | refine stA ?_ | ((first | refine hK _ _ _ _ ?_ | refine hX _ _ _ _ _ (by simp) ?_); clear hK hX K))
      refine aK zio ztr rfl (ResL.one (ResA.tmp rfl)) zou
  · by_cases k1 : k = 1
    · subst k1
      have t9 : True := trivial
      by_cases n1 : -4294967296 ≤ n
      · by_cases n2 : n ≤ 4294967296
        · by_cases t0 : t = []
          · have hb := kV (v := ⟨1, n, t⟩) (.inr (.inl ⟨rfl, n1, n2, t0⟩))
            rw [hb]
            refine aJ tabOk (sz := 41) Tryz.func133 rfl (by rw [Tryz.ntmps133]; rfl) ?_
            repeat' (first | ((with_reducible refine aB ?_); intro K hK hX) | ((with_reducible refine aC ?_); refine aD [0, 1, 2, 4] rfl rfl ?_) | (((with_reducible refine aH ?_); refine xA ?_); (first | ((with_reducible refine aU ?_); (first | refine aA (cC rfl rfl (by first | exact decide_eq_true t0 | exact decide_eq_false t0)) ?_)))) | refine stA ?_ | ((first | refine hK _ _ _ _ ?_ | refine hX _ _ _ _ _ (by simp) ?_); clear hK hX K))
            refine aK zio ztr rfl (ResL.one (ResA.tmp rfl)) zou
          · have hb := fH (v := ⟨1, n, t⟩) (by unfold okP; simp [t0])
            rw [hb]
            refine aJ tabOk (sz := 41) Tryz.func133 rfl (by rw [Tryz.ntmps133]; rfl) ?_
            repeat' (first | ((with_reducible refine aB ?_); intro K hK hX) | ((with_reducible refine aC ?_); refine aD [0, 1, 2, 4] rfl rfl ?_) | (((with_reducible refine aH ?_); refine xA ?_); (first | ((with_reducible refine aU ?_); (first | refine aA (cC rfl rfl (by first | exact decide_eq_true t0 | exact decide_eq_false t0)) ?_)))) | refine stA ?_ | ((first | refine hK _ _ _ _ ?_ | refine hX _ _ _ _ _ (by simp) ?_); clear hK hX K))
            refine aK zio ztr rfl (ResL.one (ResA.tmp rfl)) zou
        · have hb := fH (v := ⟨1, n, t⟩) (by unfold okP; simp [n2])
          have t0 : True := trivial
          rw [hb]
          refine aJ tabOk (sz := 41) Tryz.func133 rfl (by rw [Tryz.ntmps133]; rfl) ?_
          repeat' (first | ((with_reducible refine aB ?_); intro K hK hX) | ((with_reducible refine aC ?_); refine aD [0, 1, 2, 4] rfl rfl ?_) | (((with_reducible refine aH ?_); refine xA ?_); (first | ((with_reducible refine aU ?_); (first | refine aA (cC rfl rfl (by first | exact decide_eq_true t0 | exact decide_eq_false t0)) ?_)))) | refine stA ?_ | ((first | refine hK _ _ _ _ ?_ | refine hX _ _ _ _ _ (by simp) ?_); clear hK hX K))
          refine aK zio ztr rfl (ResL.one (ResA.tmp rfl)) zou
      · have hb := fH (v := ⟨1, n, t⟩) (by unfold okP; simp [n1])
        have t0 : True := trivial
        rw [hb]
        refine aJ tabOk (sz := 41) Tryz.func133 rfl (by rw [Tryz.ntmps133]; rfl) ?_
        repeat' (first | ((with_reducible refine aB ?_); intro K hK hX) | ((with_reducible refine aC ?_); refine aD [0, 1, 2, 4] rfl rfl ?_) | (((with_reducible refine aH ?_); refine xA ?_); (first | ((with_reducible refine aU ?_); (first | refine aA (cC rfl rfl (by first | exact decide_eq_true t0 | exact decide_eq_false t0)) ?_)))) | refine stA ?_ | ((first | refine hK _ _ _ _ ?_ | refine hX _ _ _ _ _ (by simp) ?_); clear hK hX K))
        refine aK zio ztr rfl (ResL.one (ResA.tmp rfl)) zou
    · by_cases k2 : k = 2
      · subst k2
        have t0 : True := trivial
        by_cases n0 : n = 0
        · by_cases t1 : t.length ≤ 32
          · have hb := kV (v := ⟨2, n, t⟩) (.inr (.inr ⟨rfl, n0, t1⟩))
            rw [hb]
            refine aJ tabOk (sz := 41) Tryz.func133 rfl (by rw [Tryz.ntmps133]; rfl) ?_
            repeat' (first | ((with_reducible refine aB ?_); intro K hK hX) | ((with_reducible refine aC ?_); refine aD [0, 1, 2, 4] rfl rfl ?_) | (((with_reducible refine aH ?_); refine xA ?_); (first | ((with_reducible refine aU ?_); (first | refine aA (cC rfl rfl (by first | exact decide_eq_true t0 | exact decide_eq_false t0)) ?_)))) | refine stA ?_ | ((first | refine hK _ _ _ _ ?_ | refine hX _ _ _ _ _ (by simp) ?_); clear hK hX K))
            refine aK zio ztr rfl (ResL.one (ResA.tmp rfl)) zou
          · have hb := fH (v := ⟨2, n, t⟩) (by unfold okP; simp; omega)
            rw [hb]
            refine aJ tabOk (sz := 41) Tryz.func133 rfl (by rw [Tryz.ntmps133]; rfl) ?_
            repeat' (first | ((with_reducible refine aB ?_); intro K hK hX) | ((with_reducible refine aC ?_); refine aD [0, 1, 2, 4] rfl rfl ?_) | (((with_reducible refine aH ?_); refine xA ?_); (first | ((with_reducible refine aU ?_); (first | refine aA (cC rfl rfl (by first | exact decide_eq_true t0 | exact decide_eq_false t0)) ?_)))) | refine stA ?_ | ((first | refine hK _ _ _ _ ?_ | refine hX _ _ _ _ _ (by simp) ?_); clear hK hX K))
            refine aK zio ztr rfl (ResL.one (ResA.tmp rfl)) zou
        · have hb := fH (v := ⟨2, n, t⟩) (by unfold okP; simp [n0])
          rw [hb]
          refine aJ tabOk (sz := 41) Tryz.func133 rfl (by rw [Tryz.ntmps133]; rfl) ?_
          repeat' (first | ((with_reducible refine aB ?_); intro K hK hX) | ((with_reducible refine aC ?_); refine aD [0, 1, 2, 4] rfl rfl ?_) | (((with_reducible refine aH ?_); refine xA ?_); (first | ((with_reducible refine aU ?_); (first | refine aA (cC rfl rfl (by first | exact decide_eq_true t0 | exact decide_eq_false t0)) ?_)))) | refine stA ?_ | ((first | refine hK _ _ _ _ ?_ | refine hX _ _ _ _ _ (by simp) ?_); clear hK hX K))
          refine aK zio ztr rfl (ResL.one (ResA.tmp rfl)) zou
      · have hb := fH (v := ⟨k, n, t⟩) (by unfold okP; simp [k0, k1, k2])
        have t0 : True := trivial
        rw [hb]
        refine aJ tabOk (sz := 41) Tryz.func133 rfl (by rw [Tryz.ntmps133]; rfl) ?_
        repeat' (first | ((with_reducible refine aB ?_); intro K hK hX) | ((with_reducible refine aC ?_); refine aD [0, 1, 2, 4] rfl rfl ?_) | (((with_reducible refine aH ?_); refine xA ?_); (first | ((with_reducible refine aU ?_); (first | refine aA (cC rfl rfl (by first | exact decide_eq_true t0 | exact decide_eq_false t0)) ?_)))) | refine stA ?_ | ((first | refine hK _ _ _ _ ?_ | refine hX _ _ _ _ _ (by simp) ?_); clear hK hX K))
        refine aK zio ztr rfl (ResL.one (ResA.tmp rfl)) zou
theorem pI (v : Vl) : AC Tryz.prog 138 [.agg v.c] (.c (.agg (clV v).c)) [] 0 := by
  have hv := qZ v
  unfold clV
  cases hb : okV v with
  | true =>
    rw [hb] at hv
    obtain ⟨k, n, t⟩ := v
    refine aJ tabOk (sz := 7) Tryz.func138 rfl (by rw [Tryz.ntmps138]; rfl) ?_
    repeat' (first | ((with_reducible refine aB ?_); intro K hK hX) | ((with_reducible refine aC ?_); refine aD [0, 1, 2] rfl rfl ?_) | ((with_reducible refine aE ?_); (first | refine zA ?_ | refine zN ?_); (first | refine c0 hv ?_)) | refine stA ?_ | ((first | refine hK _ _ _ _ ?_ | refine hX _ _ _ _ _ (by simp) ?_); clear hK hX K))
    refine aK zio ztr rfl (ResL.one zrs) zou
  | false =>
    rw [hb] at hv
    obtain ⟨k, n, t⟩ := v
    refine aJ tabOk (sz := 7) Tryz.func138 rfl (by rw [Tryz.ntmps138]; rfl) ?_
    repeat' (first | ((with_reducible refine aB ?_); intro K hK hX) | ((with_reducible refine aC ?_); refine aD [0, 1, 2] rfl rfl ?_) | ((with_reducible refine aE ?_); (first | refine zA ?_ | refine zN ?_); (first | refine c0 hv ?_)) | refine stA ?_ | ((first | refine hK _ _ _ _ ?_ | refine hX _ _ _ _ _ (by simp) ?_); clear hK hX K))
    refine aK zio ztr rfl (ResL.one zrs) zou
theorem kO (v : Vl) : AC Tryz.prog 108 [.agg v.c] (.c (.agg (clV v).c)) [] 0 := by
  have hv := nK v
  unfold clV
  cases hb : okV v with
  | true =>
    rw [hb] at hv
    obtain ⟨k, n, t⟩ := v
    refine aJ tabOk (sz := 7) Tryz.func108 rfl (by rw [Tryz.ntmps108]; rfl) ?_
    repeat' (first | ((with_reducible refine aB ?_); intro K hK hX) | ((with_reducible refine aC ?_); refine aD [0, 1, 2] rfl rfl ?_) | ((with_reducible refine aE ?_); (first | refine zA ?_ | refine zN ?_); (first | refine c0 hv ?_)) | refine stA ?_ | ((first | refine hK _ _ _ _ ?_ | refine hX _ _ _ _ _ (by simp) ?_); clear hK hX K))
    refine aK zio ztr rfl (ResL.one zrs) zou
  | false =>
    rw [hb] at hv
    obtain ⟨k, n, t⟩ := v
    refine aJ tabOk (sz := 7) Tryz.func108 rfl (by rw [Tryz.ntmps108]; rfl) ?_
    repeat' (first | ((with_reducible refine aB ?_); intro K hK hX) | ((with_reducible refine aC ?_); refine aD [0, 1, 2] rfl rfl ?_) | ((with_reducible refine aE ?_); (first | refine zA ?_ | refine zN ?_); (first | refine c0 hv ?_)) | refine stA ?_ | ((first | refine hK _ _ _ _ ?_ | refine hX _ _ _ _ _ (by simp) ?_); clear hK hX K))
    refine aK zio ztr rfl (ResL.one zrs) zou
theorem mI (t : List UInt8) : AC Tryz.prog 51 [sv t] (.c (.agg (clV ⟨2, 0, t⟩).c)) [] 0 := by
  have hv := kO ⟨2, 0, t⟩
  refine aJ tabOk (sz := 6) Tryz.func51 rfl (by rw [Tryz.ntmps51]; rfl) ?_
  repeat' (first | ((with_reducible refine aB ?_); intro K hK hX) | ((with_reducible refine aC ?_); refine aD [0, 2] rfl rfl ?_) | ((with_reducible refine aE ?_); (first | refine zA ?_ | refine zN ?_); (first | refine c0 hv ?_)) | refine stA ?_ | ((first | refine hK _ _ _ _ ?_ | refine hX _ _ _ _ _ (by simp) ?_); clear hK hX K))
  refine aK zio ztr rfl (ResL.one zrs) zou
theorem oS (n : Int) : AC Tryz.prog 101 [iv n] (.c (.agg (clV ⟨1, n, []⟩).c)) [] 0 := by
  have hv := kO ⟨1, n, []⟩
  refine aJ tabOk (sz := 6) Tryz.func101 rfl (by rw [Tryz.ntmps101]; rfl) ?_
  repeat' (first | ((with_reducible refine aB ?_); intro K hK hX) | ((with_reducible refine aC ?_); refine aD [0, 2] rfl rfl ?_) | ((with_reducible refine aE ?_); (first | refine zA ?_ | refine zN ?_); (first | refine c0 hv ?_)) | refine stA ?_ | ((first | refine hK _ _ _ _ ?_ | refine hX _ _ _ _ _ (by simp) ?_); clear hK hX K))
  refine aK zio ztr rfl (ResL.one zrs) zou
end Go.Proofs.YtccnhpaldmjkbaaGreat
namespace Go.Proofs.YtccnhpaldmjkbaaGreat
open Go Go.RowKit Go.Av
set_option maxRecDepth 100000
section
variable {P : Program} {tab : Tab} {ev : Evl} {h : Heap} {d : Option Tmp} {T T' ty : TypeId} {x y : Operand} {pos : String} {aft : Array Edge} {gd : Option (Nat × Bool)}
theorem tX {q : Nat} {K : Nat} (hK : K < 64) (hx : ev x = some (.c (iv (q : Int)))) (hy : ev y = some (.c (.v (.int .u64 (K : Int))))) : Still P ⟨d, .binOp .shr T x y T', ty, pos, aft, gd⟩ ev h (.c (iv ((q / 2 ^ K : Nat) : Int))) :=
  s_shr hx hy (by omega) (by
    have e1 : min ((K : Int)).toNat IntKind.i64.bits = K := by show min ((K : Int)).toNat 64 = K; omega
    rw [e1, Int.fdiv_eq_ediv_of_nonneg _ (Int.le_of_lt (Int.pow_pos (by decide)))]
    simp)
theorem low_conv (q : Nat) : IntKind.u8.wrap (q : Int) = ((lowB q).toNat : Int) := by
  rw [IntKind.wrap_u8]
  unfold lowB
  rw [UInt8.toNat_ofNat']
  omega
end
def encN (r : List Vl) (i : Nat) : Nat := (encR (r.take i)).length
theorem encN_len (r : List Vl) (i : Nat) : (u8c (encR (r.take i))).length = encN r i := by rw [cZ]; rfl
theorem encR_take {r : List Vl} {i : Nat} {v : Vl} (h : r[i]? = some v) : encR (r.take (i + 1)) = encR (r.take i) ++ encV (clV v) := by
  unfold encR
  rw [List.take_add_one, h]
  simp
theorem encN_le (r : List Vl) {i n : Nat} (hi : i ≤ n) (hn : n ≤ 100000) : encN r i ≤ 6700000 := by
  have := nT (r.take i)
  rw [List.length_take] at this
  unfold encN
  omega
def escs (t : List UInt8) (j : Nat) : List UInt8 := (t.take j).flatMap esc
def escN (t : List UInt8) (j : Nat) : Nat := (escs t j).length
theorem escs_step {t : List UInt8} {j : Nat} {c : UInt8} (h : t[j]? = some c) : escs t (j + 1) = escs t j ++ esc c := by
  unfold escs
  rw [List.take_add_one, h]
  simp
theorem pQ {t : List UInt8} {n : Nat} (h : t.length = n) : escs t n = t.flatMap esc := by unfold escs; rw [List.take_of_length_le (by omega)]
theorem escN_le (t : List UInt8) {j n : Nat} (hj : j ≤ n) : escN t j ≤ 2 * n := by
  have := jQ (t.take j)
  rw [List.length_take] at this
  unfold escN escs
  omega
theorem u8c_get {l : List UInt8} {j : Nat} {c : UInt8} (h : l[j]? = some c) : (u8c l)[j]? = some (.v (.int .u8 (c.toNat : Int))) := by simp [u8c, h]
theorem zero_b {c : UInt8} (h : (c.toNat : Int) = 0) : c = 0 := by
  apply UInt8.toNat_inj.1
  show c.toNat = 0
  omega
attribute [local irreducible] Still Adds AWL AW Drw DrwE EStep AC AWR Weak Frz Src RetK Out InK ItK AsK RdK
attribute [local simp] qY qX gD cZ
theorem enc_ok (r : List Vl) (n : Nat) (hn : r.length = n) (hnn : n ≤ 100000) : AC Tryz.prog 84 [.sl 3 n (rc r)] (.c (sv (encR r))) [] 0 := by
  have hrl : (rc r).length = n * 3 := by rw [dT, hn]
  refine aJ tabOk (sz := 19) Tryz.func84 rfl (by rw [Tryz.ntmps84]; rfl) ?_
  repeat' (first | ((with_reducible refine aB ?_); intro K hK hX) | ((with_reducible refine aC ?_); refine aD [0, 2, 3, 5, 6, 7, 8] rfl rfl ?_) | refine stA ?_ | ((first | refine hK _ _ _ _ ?_ | refine hX _ _ _ _ _ (by simp) ?_); clear hK hX K))
  refine dK 3 5 1 rfl ?_
  refine bC [3, 5, 8] [0] rfl rfl (fun i : Nat => [(3, .own 0 0 (encN r i) 1 true), (8, .c (iv i))]) (fun i => [(0, .row 5 (u8c (encR (r.take i))))]) (fun i => i ≤ n) (fun i => n - i) 0 (by omega) weakA ?_
  intro i hi K hK hX
  have hle := encN_le r hi hnn
  have hN := encN_len r i
  have hN' : (encR (r.take i)).length = encN r i := rfl
  by_cases hlt : i < n
  · obtain ⟨v, hv⟩ : ∃ v, r[i]? = some v := ⟨r[i]'(by omega), List.getElem?_eq_getElem _⟩
    have hat := jH hv
    have hcl := pI v
    have hok := ok_cl v
    have hst := encR_take hv
    obtain ⟨a, m, b⟩ := v
    generalize clV ⟨a, m, b⟩ = u at hcl hok hst
    obtain ⟨k, m', t⟩ := u
    simp only [Vl.c] at hat hcl
    have hNs : encN r (i + 1) = encN r i + (encV ⟨k, m', t⟩).length := by unfold encN; rw [hst, List.length_append]
    rcases hok with ⟨h1, h2, h3⟩ | ⟨h1, h2, h3, h4⟩ | ⟨h1, h2, h3⟩
    · simp only at h1 h2 h3
      subst h1 h2 h3
      have hN1 : encN r (i + 1) = encN r i + 1 := hNs
      repeat' (first | ((with_reducible refine aB ?_); intro K hK hX) | ((with_reducible refine aC ?_); refine aD [0, 1, 2, 3, 4, 5, 6, 7, 8, 9, 39, 40, 41] rfl rfl ?_) | ((with_reducible refine aE ?_); (first | refine zA ?_ | refine zN ?_); (first | refine c0 hcl ?_)) | ((first | with_reducible refine aE ?_ | with_reducible refine cO ?_); refine dR tabOk [0, 1, 2, 3, 4, 5, 6, 7, 8, 9, 10, 11, 12, 13, 14, 15, 16, 17, 18, 19, 20, 21, 22, 23, 24, 25, 26, 27, 28, 29, 30, 31, 32, 33, 34, 35, 36, 37, 38, 39, 40, 41, 42, 43, 44, 45, 46, 47, 48, 49, 50, 51, 52, 53, 54, 55, 56, 57, 58, 59, 60] aL rfl rfl zby Tryz.func137 rfl rfl rfl (szf := 61) (by rw [Tryz.ntmps137]; rfl) rfl ?_) | (((with_reducible refine aH ?_); refine xA ?_); (first | ((with_reducible refine aP ?_); (first | refine aA (aW tabOk rfl rfl rfl rfl (by first | exact hat | exact whole0 (by first | rfl | omega) | rfl) zln) ?_ | refine aA (aV tabOk rfl rfl rfl (by first | exact hat | exact whole0 (by first | rfl | omega) | rfl) zln) ?_)) | ((with_reducible refine bE ?_); (first | refine aA (s_slArri tabOk rfl rfl rfl rfl zbd zbd zle zle (by decide) (by first | exact hat | exact whole0 (by first | rfl | omega) | rfl) zln) ?_)))) | refine stA ?_ | ((first | refine hK _ _ _ _ ?_ | refine hX _ _ _ _ _ (by simp) ?_); clear hK hX K) | (first | refine dC zio ztr rfl rfl (ResL.one (ResA.tmp rfl)) ?_ | refine dB zio ztr rfl rfl (ResL.one (ResA.tmp rfl)) ?_))
      exact ⟨i + 1, by omega, by omega, (by refine bS [4] rfl rfl ?_ ?_ rfl rfl <;> (repeat' (first | exact bI | exact bJ | refine bF rfl (by first | rfl | (exact congrArg (AObj.row 5) (by rw [hst, gD]; rfl)) | exact zeq) rfl ?_ | refine bB rfl (by first | rfl | (exact congrArg (AObj.row 5) (by rw [hst, gD]; rfl)) | exact zeq) rfl ?_)))⟩
    · simp only at h1 h2 h3 h4
      subst h1 h4
      have hN1 : encN r (i + 1) = encN r i + 6 := hNs
      obtain ⟨q, hq⟩ : ∃ q : Nat, m' + 4294967296 = (q : Int) := ⟨(m' + 4294967296).toNat, by omega⟩
      have hq64 : IntKind.i64.wrap (m' + 4294967296) = (q : Int) := by rw [hq]; exact w64 (by omega) (by omega)
      have hcells : u8c (encV ⟨1, m', []⟩) = [.v (.int .u8 2), .v (.int .u8 ((lowB (q / 2 ^ 32)).toNat : Int)), .v (.int .u8 ((lowB (q / 2 ^ 24)).toNat : Int)), .v (.int .u8 ((lowB (q / 2 ^ 16)).toNat : Int)), .v (.int .u8 ((lowB (q / 2 ^ 8)).toNat : Int)), .v (.int .u8 ((lowB q).toNat : Int))] := by
        have : encV ⟨1, m', []⟩ = encI q := by unfold encV; rw [if_pos rfl, hq]; rfl
        rw [this]; rfl
      repeat' (first | ((with_reducible refine aB ?_); intro K hK hX) | ((with_reducible refine aC ?_); refine aD [0, 1, 2, 3, 4, 5, 6, 7, 8, 9, 39, 40, 41] rfl rfl ?_) | ((with_reducible refine aE ?_); (first | refine zA ?_ | refine zN ?_); (first | refine c0 hcl ?_)) | ((first | with_reducible refine aE ?_ | with_reducible refine cO ?_); refine dR tabOk [0, 1, 2, 3, 4, 5, 6, 7, 8, 9, 10, 11, 12, 13, 14, 15, 16, 17, 18, 19, 20, 21, 22, 23, 24, 25, 26, 27, 28, 29, 30, 31, 32, 33, 34, 35, 36, 37, 38, 39, 40, 41, 42, 43, 44, 45, 46, 47, 48, 49, 50, 51, 52, 53, 54, 55, 56, 57, 58, 59, 60] aL rfl rfl zby Tryz.func137 rfl rfl rfl (szf := 61) (by rw [Tryz.ntmps137]; rfl) rfl ?_) | (((with_reducible refine aH ?_); refine xA ?_); (first | ((with_reducible refine aU ?_); (first | refine aA (bT rfl rfl rfl hq64) ?_ | refine aA (tX (K := 32) (by decide) rfl rfl) ?_ | refine aA (tX (K := 24) (by decide) rfl rfl) ?_ | refine aA (tX (K := 16) (by decide) rfl rfl) ?_ | refine aA (tX (K := 8) (by decide) rfl rfl) ?_)) | ((with_reducible refine pO ?_); (first | refine aA (iP tabOk rfl rfl rfl rfl (low_conv _)) ?_)) | ((with_reducible refine aP ?_); (first | refine aA (aW tabOk rfl rfl rfl rfl (by first | exact hat | exact whole0 (by first | rfl | omega) | rfl) zln) ?_ | refine aA (aV tabOk rfl rfl rfl (by first | exact hat | exact whole0 (by first | rfl | omega) | rfl) zln) ?_)) | ((with_reducible refine bE ?_); (first | refine aA (s_slArri tabOk rfl rfl rfl rfl zbd zbd zle zle (by decide) (by first | exact hat | exact whole0 (by first | rfl | omega) | rfl) zln) ?_)))) | refine stA ?_ | ((first | refine hK _ _ _ _ ?_ | refine hX _ _ _ _ _ (by simp) ?_); clear hK hX K) | (first | refine dC zio ztr rfl rfl (ResL.one (ResA.tmp rfl)) ?_ | refine dB zio ztr rfl rfl (ResL.one (ResA.tmp rfl)) ?_))
      exact ⟨i + 1, by omega, by omega, (by refine bS [4] rfl rfl ?_ ?_ rfl rfl <;> (repeat' (first | exact bI | exact bJ | refine bF rfl (by first | rfl | (exact congrArg (AObj.row 5) (by rw [hst, gD, hcells]; rfl)) | exact zeq) rfl ?_ | refine bB rfl (by first | rfl | (exact congrArg (AObj.row 5) (by rw [hst, gD, hcells]; rfl)) | exact zeq) rfl ?_)))⟩
    · simp only at h1 h2 h3
      subst h1 h2
      obtain ⟨nt, hnt⟩ : ∃ nt, t.length = nt := ⟨_, rfl⟩
      have hut : (u8c t).length = nt := by rw [cZ, hnt]
      have hN1 : encN r (i + 1) = encN r i + (1 + escN t nt + 2) := by
        rw [hNs]
        show _ + (3 :: t.flatMap esc ++ [0, 0]).length = _
        unfold escN
        rw [pQ hnt]
        simp
        omega
      repeat' (first | ((with_reducible refine aB ?_); intro K hK hX) | ((with_reducible refine aC ?_); refine aD [0, 1, 2, 3, 4, 5, 6, 7, 8, 9, 39, 40, 41] rfl rfl ?_) | ((with_reducible refine aE ?_); (first | refine zA ?_ | refine zN ?_); (first | refine c0 hcl ?_)) | ((first | with_reducible refine aE ?_ | with_reducible refine cO ?_); refine dR tabOk [0, 1, 2, 3, 4, 5, 6, 7, 8, 9, 10, 11, 12, 13, 14, 15, 16, 17, 18, 19, 20, 21, 22, 23, 24, 25, 26, 27, 28, 29, 30, 31, 32, 33, 34, 35, 36, 37, 38, 39, 40, 41, 42, 43, 44, 45, 46, 47, 48, 49, 50, 51, 52, 53, 54, 55, 56, 57, 58, 59, 60] aL rfl rfl zby Tryz.func137 rfl rfl rfl (szf := 61) (by rw [Tryz.ntmps137]; rfl) rfl ?_) | (((with_reducible refine aH ?_); refine xA ?_); (first | ((with_reducible refine aP ?_); (first | refine aA (aW tabOk rfl rfl rfl rfl (by first | exact hat | exact whole0 (by first | rfl | omega) | rfl) zln) ?_ | refine aA (aV tabOk rfl rfl rfl (by first | exact hat | exact whole0 (by first | rfl | omega) | rfl) zln) ?_)) | ((with_reducible refine bE ?_); (first | refine aA (s_slArri tabOk rfl rfl rfl rfl zbd zbd zle zle (by decide) (by first | exact hat | exact whole0 (by first | rfl | omega) | rfl) zln) ?_)))) | refine stA ?_ | ((first | refine hK _ _ _ _ ?_ | refine hX _ _ _ _ _ (by simp) ?_); clear hK hX K) | (first | refine dC zio ztr rfl rfl (ResL.one (ResA.tmp rfl)) ?_ | refine dB zio ztr rfl rfl (ResL.one (ResA.tmp rfl)) ?_))
      refine bC [0, 7, 37, 38, 41] [4] rfl rfl (fun j : Nat => [(0, .own 4 0 (encN r i + 1 + escN t j) 1 true), (41, .c (iv j))]) (fun j => [(4, .row 5 (u8c (encR (r.take i)) ++ u8c (3 :: escs t j)))]) (fun j => j ≤ nt) (fun j => nt - j) 0 (by omega) weakA ?_
      intro j hj K hK hX
      have hel := escN_le t hj
      have hju' : (escs t j).length = escN t j := rfl
      have hju : (u8c (escs t j)).length = escN t j := by rw [cZ]; rfl
      have hju2 : (u8c (3 :: escs t j)).length = 1 + escN t j := by rw [cZ, List.length_cons, Nat.add_comm]; rfl
      by_cases hjn : j < nt
      · obtain ⟨c, hc⟩ : ∃ c, t[j]? = some c := ⟨t[j]'(by omega), List.getElem?_eq_getElem _⟩
        have hcu := u8c_get hc
        have hes := escs_step hc
        have heN : escN t (j + 1) = escN t j + (esc c).length := by unfold escN; rw [hes, List.length_append]
        by_cases c0 : (c.toNat : Int) = 0
        · have hz := zero_b c0
          subst hz
          have heN1 : escN t (j + 1) = escN t j + 2 := heN
          repeat' (first | ((with_reducible refine aB ?_); intro K hK hX) | ((with_reducible refine aC ?_); refine aD [0, 1, 2, 3, 4, 5, 6, 7, 8, 9, 39, 40, 41] rfl rfl ?_) | ((first | with_reducible refine aE ?_ | with_reducible refine cO ?_); refine dR tabOk [0, 1, 2, 3, 4, 5, 6, 7, 8, 9, 10, 11, 12, 13, 14, 15, 16, 17, 18, 19, 20, 21, 22, 23, 24, 25, 26, 27, 28, 29, 30, 31, 32, 33, 34, 35, 36, 37, 38, 39, 40, 41, 42, 43, 44, 45, 46, 47, 48, 49, 50, 51, 52, 53, 54, 55, 56, 57, 58, 59, 60] aL rfl rfl zby Tryz.func137 rfl rfl rfl (szf := 61) (by rw [Tryz.ntmps137]; rfl) rfl ?_) | (((with_reducible refine aH ?_); refine xA ?_); (first | ((with_reducible refine aP ?_); (first | refine aA (aR tabOk rfl rfl rfl rfl (by (rw [Nat.mul_one]; exact hcu))) ?_ | refine aA (aN tabOk rfl rfl rfl rfl (by (rw [Nat.mul_one]; exact hcu))) ?_ | refine aA (aM tabOk rfl rfl rfl (by (rw [Nat.mul_one]; exact hcu))) ?_)) | ((with_reducible refine bR ?_); (first | refine aA (s_ixV1 tabOk rfl rfl zcj rfl rfl rfl rfl rfl zle (by (rw [Nat.mul_one]; exact hcu))) ?_ | refine aA (aQ tabOk rfl rfl zcj rfl rfl (by (rw [Nat.mul_one]; exact hcu))) ?_)))) | refine stA ?_ | ((first | refine hK _ _ _ _ ?_ | refine hX _ _ _ _ _ (by simp) ?_); clear hK hX K) | (first | refine dC zio ztr rfl rfl (ResL.one (ResA.tmp rfl)) ?_ | refine dB zio ztr rfl rfl (ResL.one (ResA.tmp rfl)) ?_))
          exact ⟨j + 1, by omega, by omega, (by refine bS [0, 1, 2, 3, 8] rfl rfl ?_ ?_ rfl rfl <;> (repeat' (first | exact bI | exact bJ | refine bF rfl (by first | rfl | (exact congrArg (AObj.row 5) (by rw [hes]; simp [u8c, esc])) | exact zeq) rfl ?_ | refine bB rfl (by first | rfl | (exact congrArg (AObj.row 5) (by rw [hes]; simp [u8c, esc])) | exact zeq) rfl ?_)))⟩
        · have heN1 : escN t (j + 1) = escN t j + 1 := by rw [heN]; unfold esc; rw [if_neg (fun e => c0 (by rw [e]; rfl))]; rfl
          repeat' (first | ((with_reducible refine aB ?_); intro K hK hX) | ((with_reducible refine aC ?_); refine aD [0, 1, 2, 3, 4, 5, 6, 7, 8, 9, 39, 40, 41] rfl rfl ?_) | ((first | with_reducible refine aE ?_ | with_reducible refine cO ?_); refine dR tabOk [0, 1, 2, 3, 4, 5, 6, 7, 8, 9, 10, 11, 12, 13, 14, 15, 16, 17, 18, 19, 20, 21, 22, 23, 24, 25, 26, 27, 28, 29, 30, 31, 32, 33, 34, 35, 36, 37, 38, 39, 40, 41, 42, 43, 44, 45, 46, 47, 48, 49, 50, 51, 52, 53, 54, 55, 56, 57, 58, 59, 60] aL rfl rfl zby Tryz.func137 rfl rfl rfl (szf := 61) (by rw [Tryz.ntmps137]; rfl) rfl ?_) | (((with_reducible refine aH ?_); refine xA ?_); (first | ((with_reducible refine aP ?_); (first | refine aA (aR tabOk rfl rfl rfl rfl (by (rw [Nat.mul_one]; exact hcu))) ?_ | refine aA (aN tabOk rfl rfl rfl rfl (by (rw [Nat.mul_one]; exact hcu))) ?_ | refine aA (aM tabOk rfl rfl rfl (by (rw [Nat.mul_one]; exact hcu))) ?_)) | ((with_reducible refine bR ?_); (first | refine aA (s_ixV1 tabOk rfl rfl zcj rfl rfl rfl rfl rfl zle (by (rw [Nat.mul_one]; exact hcu))) ?_ | refine aA (aQ tabOk rfl rfl zcj rfl rfl (by (rw [Nat.mul_one]; exact hcu))) ?_)))) | refine stA ?_ | ((first | refine hK _ _ _ _ ?_ | refine hX _ _ _ _ _ (by simp) ?_); clear hK hX K) | (first | refine dC zio ztr rfl rfl (ResL.one (ResA.tmp rfl)) ?_ | refine dB zio ztr rfl rfl (ResL.one (ResA.tmp rfl)) ?_))
          exact ⟨j + 1, by omega, by omega, (by refine bS [0, 1, 2, 3, 6] rfl rfl ?_ ?_ rfl rfl <;> (repeat' (first | exact bI | exact bJ | refine bF rfl (by first | rfl | (exact congrArg (AObj.row 5) (by rw [hes]; unfold esc; rw [if_neg (fun e => c0 (by rw [e]; rfl))]; simp [u8c])) | exact zeq) rfl ?_ | refine bB rfl (by first | rfl | (exact congrArg (AObj.row 5) (by rw [hes]; unfold esc; rw [if_neg (fun e => c0 (by rw [e]; rfl))]; simp [u8c])) | exact zeq) rfl ?_)))⟩
      · have hjn2 : j = nt := by omega
        subst hjn2
        repeat' (first | ((with_reducible refine aB ?_); intro K hK hX) | ((with_reducible refine aC ?_); refine aD [0, 1, 2, 3, 4, 5, 6, 7, 8, 9, 39, 40, 41] rfl rfl ?_) | ((first | with_reducible refine aE ?_ | with_reducible refine cO ?_); refine dR tabOk [0, 1, 2, 3, 4, 5, 6, 7, 8, 9, 10, 11, 12, 13, 14, 15, 16, 17, 18, 19, 20, 21, 22, 23, 24, 25, 26, 27, 28, 29, 30, 31, 32, 33, 34, 35, 36, 37, 38, 39, 40, 41, 42, 43, 44, 45, 46, 47, 48, 49, 50, 51, 52, 53, 54, 55, 56, 57, 58, 59, 60] aL rfl rfl zby Tryz.func137 rfl rfl rfl (szf := 61) (by rw [Tryz.ntmps137]; rfl) rfl ?_) | refine stA ?_ | ((first | refine hK _ _ _ _ ?_ | refine hX _ _ _ _ _ (by simp) ?_); clear hK hX K) | (first | refine dC zio ztr rfl rfl (ResL.one (ResA.tmp rfl)) ?_ | refine dB zio ztr rfl rfl (ResL.one (ResA.tmp rfl)) ?_))
        exact ⟨i + 1, by omega, by omega, (by refine bS [6] rfl rfl ?_ ?_ rfl rfl <;> (repeat' (first | exact bI | exact bJ | refine bF rfl (by first | rfl | (exact congrArg (AObj.row 5) (by rw [hst, gD, pQ hnt]; show _ = _ ++ u8c (3 :: t.flatMap esc ++ [0, 0]); simp [u8c])) | exact zeq) rfl ?_ | refine bB rfl (by first | rfl | (exact congrArg (AObj.row 5) (by rw [hst, gD, pQ hnt]; show _ = _ ++ u8c (3 :: t.flatMap esc ++ [0, 0]); simp [u8c])) | exact zeq) rfl ?_)))⟩
  · have hin : i = n := by omega
    have htk : r.take i = r := List.take_of_length_le (by omega)
    rw [htk] at hN ⊢
    repeat' (first | ((with_reducible refine aB ?_); intro K hK hX) | ((with_reducible refine aC ?_); refine aD [0, 2, 3, 5, 6, 7, 8] rfl rfl ?_) | refine stA ?_ | ((first | refine hK _ _ _ _ ?_ | refine hX _ _ _ _ _ (by simp) ?_); clear hK hX K))
    refine aK zio ztr rfl (ResL.one (ResA.tmp rfl)) zou
end Go.Proofs.YtccnhpaldmjkbaaGreat
namespace Go.Proofs.YtccnhpaldmjkbaaGreat
open Go Go.RowKit Go.Av
set_option maxRecDepth 100000
attribute [local irreducible] Still Adds AWL AW Drw DrwE EStep AC AWR Weak Frz Src RetK Out InK ItK AsK RdK
attribute [local simp] qY qX gD cZ
end Go.Proofs.YtccnhpaldmjkbaaGreat
namespace Go.Proofs.YtccnhpaldmjkbaaGreat
open Go Go.RowKit Go.Av
set_option maxRecDepth 100000
section
variable {P : Program} {tab : Tab} {ev : Evl} {h : Heap} {d : Option Tmp} {T T' ty : TypeId} {x y : Operand} {pos : String} {aft : Array Edge} {gd : Option (Nat × Bool)}
end
attribute [local irreducible] Still Adds AWL AW Drw DrwE EStep AC AWR Weak Frz Src RetK Out InK ItK AsK RdK
attribute [local simp] qY qX gD cZ
end Go.Proofs.YtccnhpaldmjkbaaGreat
namespace Go.Proofs.YtccnhpaldmjkbaaGreat
open Go Go.RowKit Go.Av
set_option maxRecDepth 100000
structure Sk where
  nm : List UInt8
  sr : List UInt8
  col : Int
  kd : Int
  w : Int
  d : Int
def Sk.c (s : Sk) : List CV := [sv s.nm, sv s.sr, iv s.col, iv s.kd, iv s.w, iv s.d]
def formP (s : Sk) : Prop := 1 ≤ s.w ∧ s.w ≤ 1024 ∧ 1 ≤ s.d ∧ s.d ≤ 8 ∧ s.w * s.d ≤ 1024 ∧ (s.kd = 0 ∨ s.kd = 1 ∨ (s.kd = 2 ∧ s.d = 1))
instance (s : Sk) : Decidable (formP s) := by unfold formP; infer_instance
def formB (s : Sk) : Bool := decide (formP s)
def rowP (r : List Vl) : Prop := r.length ≤ 16 ∧ ∀ v ∈ r, okP v
structure En where
  r : List Vl
  n : Int
def En.c (e : En) : List CV := [.sl 3 e.r.length (rc e.r), iv e.n]
def entP (e : En) : Prop := -262144 ≤ e.n ∧ e.n ≤ 262144 ∧ rowP e.r
def ec (b : List En) : List CV := b.flatMap En.c
theorem bH (b : List En) : (ec b).length = b.length * 2 := by
  induction b with
  | nil => rfl
  | cons v r ih =>
    have : v.c.length = 2 := rfl
    simp only [ec, List.flatMap_cons, List.length_append, List.length_cons] at ih ⊢; omega
theorem iF : ∀ {b : List En} {i : Nat} {e : En}, b[i]? = some e → ((ec b).drop (i * 2)).take 2 = e.c
  | [], i, v, h => by simp at h
  | w :: r, 0, v, h => by
    simp at h
    subst h
    rfl
  | w :: r, i + 1, v, h => by
    have := iF (b := r) (i := i) (by simpa using h)
    rw [← this]
    have hl : w.c.length = 2 := rfl
    simp only [ec, List.flatMap_cons]
    rw [show (i + 1) * 2 = w.c.length + i * 2 by rw [hl]; omega, List.drop_append, List.drop_eq_nil_of_le (by omega), List.nil_append, Nat.add_sub_cancel_left]
attribute [local irreducible] Still Adds AWL AW Drw DrwE EStep AC AWR Weak Frz Src RetK Out InK ItK AsK RdK
theorem range_ok (n : Int) : AC Tryz.prog 177 [iv n] (.c (bv (decide (-262144 ≤ n ∧ n ≤ 262144)))) [] 0 := by
  by_cases h1 : -262144 ≤ n
  · by_cases h2 : n ≤ 262144
    · rw [decide_eq_true ⟨h1, h2⟩]
      refine aJ tabOk (sz := 9) Tryz.func177 rfl (by rw [Tryz.ntmps177]; rfl) ?_
      repeat' (first | ((with_reducible refine aB ?_); intro K hK hX) | ((with_reducible refine aC ?_); refine aD [0, 2] rfl rfl ?_) | refine stA ?_ | ((first | refine hK _ _ _ _ ?_ | refine hX _ _ _ _ _ (by simp) ?_); clear hK hX K))
      refine aK zio ztr rfl (ResL.one (ResA.tmp rfl)) zou
    · rw [decide_eq_false (by omega)]
      refine aJ tabOk (sz := 9) Tryz.func177 rfl (by rw [Tryz.ntmps177]; rfl) ?_
      repeat' (first | ((with_reducible refine aB ?_); intro K hK hX) | ((with_reducible refine aC ?_); refine aD [0, 2] rfl rfl ?_) | refine stA ?_ | ((first | refine hK _ _ _ _ ?_ | refine hX _ _ _ _ _ (by simp) ?_); clear hK hX K))
      refine aK zio ztr rfl (ResL.one (ResA.tmp rfl)) zou
  · rw [decide_eq_false (by omega)]
    refine aJ tabOk (sz := 9) Tryz.func177 rfl (by rw [Tryz.ntmps177]; rfl) ?_
    repeat' (first | ((with_reducible refine aB ?_); intro K hK hX) | ((with_reducible refine aC ?_); refine aD [0, 2] rfl rfl ?_) | refine stA ?_ | ((first | refine hK _ _ _ _ ?_ | refine hX _ _ _ _ _ (by simp) ?_); clear hK hX K))
    refine aK zio ztr rfl (ResL.one (ResA.tmp rfl)) zou
open Classical in
theorem vrow_ok (r : List Vl) (n : Nat) (hn : r.length = n) (hm : n ≤ maxLen) : AC Tryz.prog 78 [.sl 3 n (rc r)] (.c (bv (decide (rowP r)))) [] 0 := by
  have hrl : (rc r).length = n * 3 := by rw [dT, hn]
  by_cases b1 : n ≤ 16
  · by_cases b2 : ∀ v ∈ r, okP v
    · rw [decide_eq_true (show rowP r from ⟨by omega, b2⟩)]
      refine aJ tabOk (sz := 18) Tryz.func78 rfl (by rw [Tryz.ntmps78]; rfl) ?_
      repeat' (first | ((with_reducible refine aB ?_); intro K hK hX) | ((with_reducible refine aC ?_); refine aD [0, 2, 4, 8, 9, 10] rfl rfl ?_) | refine stA ?_ | ((first | refine hK _ _ _ _ ?_ | refine hX _ _ _ _ _ (by simp) ?_); clear hK hX K))
      refine bC [4, 8, 9, 10] [] rfl rfl (fun i : Nat => [(8, .c (.sl 3 n (rc r))), (9, .c (iv n)), (10, .c (iv i))]) (fun i => []) (fun i => i ≤ n) (fun i => n - i) 0 (by omega) weakA ?_
      intro i hi K hK hX
      by_cases hlt : i < n
      · obtain ⟨v, hv⟩ : ∃ v, r[i]? = some v := ⟨r[i]'(by omega), List.getElem?_eq_getElem _⟩
        have hat := jH hv
        have hva := qZ v
        rw [kV (b2 v (List.mem_of_getElem? hv))] at hva
        obtain ⟨a, m, b⟩ := v
        simp only [Vl.c] at hat hva
        repeat' (first | ((with_reducible refine aB ?_); intro K hK hX) | ((with_reducible refine aC ?_); refine aD [0, 2, 4, 8, 9, 10] rfl rfl ?_) | ((with_reducible refine aE ?_); (first | refine zA ?_ | refine zN ?_); (first | refine c0 hva ?_)) | (((with_reducible refine aH ?_); refine xA ?_); (first | ((with_reducible refine aP ?_); (first | refine aA (aW tabOk rfl rfl rfl rfl (by first | exact hat | exact whole0 (by first | rfl | omega) | rfl) zln) ?_ | refine aA (aV tabOk rfl rfl rfl (by first | exact hat | exact whole0 (by first | rfl | omega) | rfl) zln) ?_)) | ((with_reducible refine bE ?_); (first | refine aA (s_slArri tabOk rfl rfl rfl rfl zbd zbd zle zle (by decide) (by first | exact hat | exact whole0 (by first | rfl | omega) | rfl) zln) ?_)))) | refine stA ?_ | ((first | refine hK _ _ _ _ ?_ | refine hX _ _ _ _ _ (by simp) ?_); clear hK hX K))
        exact ⟨i + 1, by omega, by omega, weakA⟩
      · repeat' (first | ((with_reducible refine aB ?_); intro K hK hX) | ((with_reducible refine aC ?_); refine aD [0, 2, 4, 8, 9, 10] rfl rfl ?_) | refine stA ?_ | ((first | refine hK _ _ _ _ ?_ | refine hX _ _ _ _ _ (by simp) ?_); clear hK hX K))
        refine aK zio ztr rfl (ResL.one (ResA.tmp rfl)) zou
    · rw [decide_eq_false (show ¬ rowP r from fun h => b2 h.2)]
      have hex : ∃ j, j < n ∧ (∀ v, r[j]? = some v → ¬ okP v) ∧ ∀ i, i < j → ∀ v, r[i]? = some v → okP v := by
        obtain ⟨v, hv, hnv⟩ : ∃ v ∈ r, ¬ okP v := Classical.byContradiction fun h => b2 fun v hv => Classical.byContradiction fun h2 => h ⟨v, hv, h2⟩
        obtain ⟨j0, hj0⟩ := List.mem_iff_getElem?.1 hv
        obtain ⟨j, h1, h2⟩ := dX (fun j => ∀ v, r[j]? = some v → ¬ okP v) ⟨j0, fun u hu => by rw [hj0] at hu; injection hu with hu; subst hu; exact hnv⟩
        refine ⟨j, ?_, h1, fun i hi v hv => Classical.byContradiction fun hnv => ?_⟩
        · have := h2 j0 (fun u hu => by rw [hj0] at hu; injection hu with hu; subst hu; exact hnv)
          have := (List.getElem?_eq_some_iff.1 hj0).1
          omega
        · have := h2 i (fun u hu => by rw [hv] at hu; injection hu with hu; subst hu; exact hnv)
          omega
      obtain ⟨q, hq, hq1, hq2⟩ := hex
      refine aJ tabOk (sz := 18) Tryz.func78 rfl (by rw [Tryz.ntmps78]; rfl) ?_
      repeat' (first | ((with_reducible refine aB ?_); intro K hK hX) | ((with_reducible refine aC ?_); refine aD [0, 2, 4, 8, 9, 10] rfl rfl ?_) | refine stA ?_ | ((first | refine hK _ _ _ _ ?_ | refine hX _ _ _ _ _ (by simp) ?_); clear hK hX K))
      refine bC [4, 8, 9, 10] [] rfl rfl (fun i : Nat => [(8, .c (.sl 3 n (rc r))), (9, .c (iv n)), (10, .c (iv i))]) (fun i => []) (fun i => i ≤ q) (fun i => q - i) 0 (by omega) weakA ?_
      intro i hi K hK hX
      obtain ⟨v, hv⟩ : ∃ v, r[i]? = some v := ⟨r[i]'(by omega), List.getElem?_eq_getElem _⟩
      have hat := jH hv
      have hva := qZ v
      have hin : i < n := by omega
      by_cases hlt : i < q
      · rw [kV (hq2 i hlt v hv)] at hva
        obtain ⟨a, m, b⟩ := v
        simp only [Vl.c] at hat hva
        repeat' (first | ((with_reducible refine aB ?_); intro K hK hX) | ((with_reducible refine aC ?_); refine aD [0, 2, 4, 8, 9, 10] rfl rfl ?_) | ((with_reducible refine aE ?_); (first | refine zA ?_ | refine zN ?_); (first | refine c0 hva ?_)) | (((with_reducible refine aH ?_); refine xA ?_); (first | ((with_reducible refine aP ?_); (first | refine aA (aW tabOk rfl rfl rfl rfl (by first | exact hat | exact whole0 (by first | rfl | omega) | rfl) zln) ?_ | refine aA (aV tabOk rfl rfl rfl (by first | exact hat | exact whole0 (by first | rfl | omega) | rfl) zln) ?_)) | ((with_reducible refine bE ?_); (first | refine aA (s_slArri tabOk rfl rfl rfl rfl zbd zbd zle zle (by decide) (by first | exact hat | exact whole0 (by first | rfl | omega) | rfl) zln) ?_)))) | refine stA ?_ | ((first | refine hK _ _ _ _ ?_ | refine hX _ _ _ _ _ (by simp) ?_); clear hK hX K))
        exact ⟨i + 1, by omega, by omega, weakA⟩
      · have hiq : i = q := by omega
        rw [fH (hq1 v (by rw [← hiq]; exact hv))] at hva
        obtain ⟨a, m, b⟩ := v
        simp only [Vl.c] at hat hva
        repeat' (first | ((with_reducible refine aB ?_); intro K hK hX) | ((with_reducible refine aC ?_); refine aD [0, 2, 4, 8, 9, 10] rfl rfl ?_) | ((with_reducible refine aE ?_); (first | refine zA ?_ | refine zN ?_); (first | refine c0 hva ?_)) | (((with_reducible refine aH ?_); refine xA ?_); (first | ((with_reducible refine aP ?_); (first | refine aA (aW tabOk rfl rfl rfl rfl (by first | exact hat | exact whole0 (by first | rfl | omega) | rfl) zln) ?_ | refine aA (aV tabOk rfl rfl rfl (by first | exact hat | exact whole0 (by first | rfl | omega) | rfl) zln) ?_)) | ((with_reducible refine bE ?_); (first | refine aA (s_slArri tabOk rfl rfl rfl rfl zbd zbd zle zle (by decide) (by first | exact hat | exact whole0 (by first | rfl | omega) | rfl) zln) ?_)))) | refine stA ?_ | ((first | refine hK _ _ _ _ ?_ | refine hX _ _ _ _ _ (by simp) ?_); clear hK hX K))
        refine aK zio ztr rfl (ResL.one (ResA.tmp rfl)) zou
  · rw [decide_eq_false (show ¬ rowP r from fun h => b1 (by have := h.1; omega))]
    refine aJ tabOk (sz := 18) Tryz.func78 rfl (by rw [Tryz.ntmps78]; rfl) ?_
    repeat' (first | ((with_reducible refine aB ?_); intro K hK hX) | ((with_reducible refine aC ?_); refine aD [0, 2, 4, 8, 9, 10] rfl rfl ?_) | refine stA ?_ | ((first | refine hK _ _ _ _ ?_ | refine hX _ _ _ _ _ (by simp) ?_); clear hK hX K))
    refine aK zio ztr rfl (ResL.one (ResA.tmp rfl)) zou
open Classical in
theorem uI (e : En) (hm : e.r.length ≤ maxLen) : AC Tryz.prog 147 [.agg e.c] (.c (bv (decide (entP e)))) [] 0 := by
  have h1 := range_ok e.n
  have h2 := vrow_ok e.r e.r.length rfl hm
  obtain ⟨r, c⟩ := e
  simp only [En.c] at *
  generalize hn : r.length = n at h2 hm ⊢
  by_cases b1 : -262144 ≤ c ∧ c ≤ 262144
  · rw [decide_eq_true b1] at h1
    by_cases b2 : rowP r
    · rw [decide_eq_true b2] at h2
      rw [decide_eq_true (show entP ⟨r, c⟩ from ⟨b1.1, b1.2, b2⟩)]
      refine aJ tabOk (sz := 11) Tryz.func147 rfl (by rw [Tryz.ntmps147]; rfl) ?_
      repeat' (first | ((with_reducible refine aB ?_); intro K hK hX) | ((with_reducible refine aC ?_); refine aD [0, 1, 2] rfl rfl ?_) | ((with_reducible refine aE ?_); (first | refine zA ?_ | refine zN ?_); (first | refine c0 h1 ?_ | refine c0 h2 ?_)) | refine stA ?_ | ((first | refine hK _ _ _ _ ?_ | refine hX _ _ _ _ _ (by simp) ?_); clear hK hX K))
      refine aK zio ztr rfl (ResL.one (ResA.tmp rfl)) zou
    · rw [decide_eq_false b2] at h2
      rw [decide_eq_false (show ¬ entP ⟨r, c⟩ from fun h => b2 h.2.2)]
      refine aJ tabOk (sz := 11) Tryz.func147 rfl (by rw [Tryz.ntmps147]; rfl) ?_
      repeat' (first | ((with_reducible refine aB ?_); intro K hK hX) | ((with_reducible refine aC ?_); refine aD [0, 1, 2] rfl rfl ?_) | ((with_reducible refine aE ?_); (first | refine zA ?_ | refine zN ?_); (first | refine c0 h1 ?_ | refine c0 h2 ?_)) | refine stA ?_ | ((first | refine hK _ _ _ _ ?_ | refine hX _ _ _ _ _ (by simp) ?_); clear hK hX K))
      refine aK zio ztr rfl (ResL.one (ResA.tmp rfl)) zou
  · rw [decide_eq_false b1] at h1
    rw [decide_eq_false (show ¬ entP ⟨r, c⟩ from fun h => b1 ⟨h.1, h.2.1⟩)]
    refine aJ tabOk (sz := 11) Tryz.func147 rfl (by rw [Tryz.ntmps147]; rfl) ?_
    repeat' (first | ((with_reducible refine aB ?_); intro K hK hX) | ((with_reducible refine aC ?_); refine aD [0, 1, 2] rfl rfl ?_) | ((with_reducible refine aE ?_); (first | refine zA ?_ | refine zN ?_); (first | refine c0 h1 ?_ | refine c0 h2 ?_)) | refine stA ?_ | ((first | refine hK _ _ _ _ ?_ | refine hX _ _ _ _ _ (by simp) ?_); clear hK hX K))
    refine aK zio ztr rfl (ResL.one (ResA.tmp rfl)) zou
end Go.Proofs.YtccnhpaldmjkbaaGreat
