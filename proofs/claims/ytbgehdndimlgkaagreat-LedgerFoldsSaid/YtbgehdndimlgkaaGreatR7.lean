/- Lemmas for laws of the ledger. -/
import Derived.Test.YtbgehdndimlgkaaGreatR4
import Derived.Test.YtbgehdndimlgkaaGreatR6
set_option linter.all false
namespace Go.Proofs.YtbgehdndimlgkaaGreat
open Go Go.RowKit Go.Av
set_option maxRecDepth 100000
section
variable {p:Prop}
include p
theorem zio (h:p:=by first|exact .inl rfl|exact .inr rfl):p:=h
theorem ztr (h:p:=by exact trivial):p:=h
theorem zou (h:p:=by first|exact yQ zfz|exact cU5 rfl rfl):p:=h
theorem zby (h:p:=by unfold Body;kernel_rfl):p:=h
theorem zpt (h:p:=by first|exact Parts.mixed _|exact Parts.closed _):p:=h
theorem ztp (h:p:=by (try simp only [tpC,AF,Cp]);exact rfl):p:=h
theorem zgd (h:p:=by first|rfl|exact gd1 aA|exact gd2 aA|exact gd3 aA|exact gd4 aA):p:=h
theorem zcm (h:p:=by first|exact AT aA|exact Bg aA|rfl):p:=h
theorem zeq (h:p:=by first|exact own_eq rfl rfl aA|exact cC3 aA|(simp<;>fail)|(congr 4;omega)|(congr 3;omega)|(congr 2;omega)):p:=h
theorem zgb (h:p:=by first|rfl|assumption|exact gd1 aA|exact gd2 aA|exact gd3 aA|exact gd4 aA|(simp only [*]<;>fail)|fail):p:=h
theorem zln (h:p:=by first|rfl|with_reducible assumption|(simp<;>fail)|omega|(simp<;>omega)|assumption):p:=h
theorem zse (h:p:=by first|rfl|omega|(simp<;>fail)|fail):p:=h
theorem zcj (h:p:=by first|with_reducible exact bK3 _|with_reducible exact bS4 _|with_reducible exact bK1 _ _|with_reducible exact bK2 _ _|with_reducible exact bK4 aA|with_reducible exact bK5 aA|with_reducible exact cast_lsub aA|exact nt aA|rfl):p:=h
theorem zle (h:p:=by first|exact A9 rfl|omega|(simp<;>omega)):p:=h
theorem zcv (h:p:=by first|exact rT|((repeat' (first|exact fH|refine eJ ?_ ?_|(first|exact cU|exact fT|(refine jH ?_ ?_<;>first|rfl|omega|(simp<;>fail)|fail)|(refine uR ?_;first|rfl|(simp<;>fail)|fail)|refine mI ?_)))<;>fail)|fail):p:=h
theorem zbd (h:p:=by first|exact Bd.no|exact Bd.yes rfl zcj):p:=h
theorem zfz (h:p:=by repeat' (first|exact eF cU|exact eF fT|exact gC rfl rfl zln|exact mA rfl rfl rfl zln|exact iD (gC rfl rfl zln) (jH zse zse)|exact iD (mA rfl rfl rfl zln) (jH zse zse)|refine vW rfl ?_|refine eF (mI ?_)|exact dT|refine bD ?_ ?_|exact fH|refine eJ ?_ ?_|exact cU|exact fT|exact jH zse zse|exact mA rfl rfl eX eX|exact cS4 (by first|exact w64 aA aA|omega)|exact cB6 (by first|assumption|omega)|exact bM2 (by first|assumption|omega)|exact frz_eq (eF cU) bW2)):p:=h
theorem zrs (h:p:=by first|exact ResA.one rfl rfl rfl rfl rfl|exact ResA.agg rfl rfl rfl rfl rfl mU|exact ResA.aggr rfl rfl rfl rfl zln):p:=h
end
structure Kept (q:Prop):Prop where
 out:q
theorem dZ4 {P:Dl} {sz n i:Nat} {env env':Env} {h h':aO} {dfs:cA} {K:AK} {l:De} (ks:Dg) (hE:lV env ks=some env') (hH:rG h n=some h') (hx:AWL P l.toArray sz l K n env' h' dfs):AW P sz (.region i l.toArray false) K n env h dfs:=aY ks hE hH (pL hx)
theorem stA {p q:Prop} (hq:q) (h:Kept q->p:=by
 intro hq
 (first
 | ((with_reducible refine cT2 ?_);(first|((with_reducible refine cC9 ?_);(first|(refine wW rfl (by first|assumption|with_reducible exact AT eX|with_reducible rfl) ?_)|(refine wV rfl (by first|assumption|with_reducible exact Bg eX|with_reducible rfl) ?_)|(refine wW rfl rfl ?_)|(refine wV rfl rfl ?_)|(refine wW rfl (by first|exact AT aA|(simp only [*]<;>fail)|fail) ?_)|(refine wV rfl (by first|exact Bg aA|(simp only [*]<;>fail)|fail) ?_)))|(with_reducible refine bR6 ?_)|(with_reducible refine cN3 ?_)|(with_reducible refine cN0 ?_)|(with_reducible refine dJ2 ?_)))
 | ((with_reducible refine cC7 ?_);(refine aU1 (cG rfl rfl bV1) rfl ?_))
 | ((with_reducible refine cC7 ?_);(refine aU1 (aH6 rfl rfl) rfl ?_))
 | ((with_reducible refine rC ?_);(first|(refine wR aB aD rfl rfl rfl rfl rfl rfl rfl rfl zln rfl uO mT zle ?_)|((first|refine bQ3 aD rfl ?_|refine bQ3 (cG rfl rfl eD) rfl ?_);refine bL (b_appendN aB rfl rfl rfl rfl rfl rfl rfl rfl uO mT zle) rfl ?_)|((first|refine bQ3 aD rfl ?_|refine bQ3 (cG rfl rfl eD) rfl ?_);refine bL (sV aB rfl rfl rfl rfl rfl rfl rfl rfl rfl rfl rfl zcj zle mT zle) rfl ?_)|(refine dI9 aB aD rfl rfl rfl rfl rfl rfl rfl rfl uO zle zle ?_)|(refine n_copy aB aD rfl rfl rfl rfl rfl rfl rfl uO zle zle ?_)))
 | ((with_reducible refine iN ?_);(first|(refine cA8 aB aD rfl rfl rfl rfl rfl rfl rfl ?_)|(refine bM1 aB aD rfl rfl rfl rfl rfl rfl rfl ?_)|(refine fA aB aD rfl rfl rfl rfl rfl rfl (by first|fail|exact A9 rfl|omega|(simp<;>omega)) ?_)|(refine aU8 aB aD rfl rfl rfl oN eH eH rfl (A9 rfl) eH ?_)|(refine aL5 aB aD rfl rfl rfl zln rfl zle (by first|exact pT _ _ zln|rfl) ?_)))
 | ((with_reducible refine aX ?_);(first|refine bQ3 aD rfl ?_|refine bQ3 (cG rfl rfl eD) rfl ?_);(first|refine bL (wQ aB rfl rfl rfl rfl) rfl ?_|refine bL (aF0 aB rfl rfl) rfl ?_))
 | ((with_reducible refine cK ?_);(first|refine bQ3 aD rfl ?_|refine bQ3 (cG rfl rfl eD) rfl ?_);(first|refine bL (aU0 (tab:=tab) rfl rfl rfl) rfl ?_|refine bL (a_box1 rfl rfl) rfl ?_|refine bL (aT9 rfl oN) rfl ?_))
 | ((with_reducible refine nN ?_);(first|refine bQ3 aD rfl ?_|refine bQ3 (cG rfl rfl eD) rfl ?_);(first|refine bL (kW aB rfl rfl rfl rfl rfl) rfl ?_|refine bL (mR aB rfl rfl rfl rfl rfl rfl rfl rfl rfl rfl rfl rfl (jV rfl) aB4 eH) rfl ?_))
 | ((with_reducible refine cC8 ?_);(first|refine bQ3 aD rfl ?_|refine bQ3 (cG rfl rfl eD) rfl ?_);(first|refine bL (aU9 aB rfl rfl rfl rfl rfl rfl rfl rfl rfl rfl zcj zcj zle zle qX rfl) rfl ?_))
 | ((with_reducible refine bM4 ?_);(refine bJ9 rfl aD rfl ?_))
 | ((with_reducible refine isA_conv ?_);(first|refine eE4 aD rfl ?_|refine eE4 (cG rfl rfl eD) rfl ?_);refine qG (a_toBytes aB rfl rfl rfl rfl rfl rfl rfl bV6 bV9 mT) ?_)
 | (((with_reducible refine bU ?_);(first|refine eE7 aD rfl ?_|refine eE7 (cG rfl rfl eD) rfl ?_));(first|((with_reducible refine aW1 ?_);(first|refine aI (lX rfl) ?_))|((with_reducible refine gB ?_);(first|refine aI (jZ aB rfl rfl rfl rfl iY) ?_|refine aI (iV aB rfl rfl rfl rfl iY) ?_|refine aI (iU aB rfl rfl rfl iY) ?_|refine aI (aJ7 aB rfl rfl rfl rfl rfl rfl mU) ?_|refine aI (gF aB rfl rfl rfl rfl rQ zln) ?_|refine aI (gE aB rfl rfl rfl rQ zln) ?_))|((with_reducible refine bZ3 ?_);(first|refine aI (cI3 aB rfl rfl zcj rfl rfl rfl rfl zle) ?_|refine aI (cI4 aB rfl rfl zcj rfl rfl rfl rfl zle) ?_|refine aI (cI2 aB rfl rfl zcj rfl rfl rfl zle) ?_|refine aI (s_ixAi aB rfl rfl zcj rfl rfl rfl zle) ?_))|((with_reducible refine bR (o := .add) ?_);(first|refine aI (jN rfl rfl rfl iR) ?_|refine aI (gU rfl cW rfl cW rfl) ?_|refine aI (mK rfl rfl rfl iR) ?_))|((with_reducible refine bR (o := .sub) ?_);(first|refine aI (jN rfl rfl rfl iR) ?_|refine aI (gU rfl cW rfl cW rfl) ?_|refine aI (mK rfl rfl rfl iR) ?_))|((with_reducible refine bR (o := .mul) ?_);(first|refine aI (jN rfl rfl rfl iR) ?_|refine aI (gU rfl cW rfl cW rfl) ?_|refine aI (mK rfl rfl rfl iR) ?_))|((with_reducible refine bR (o := .eql) ?_);(first|refine aI (jO rfl rfl rfl rfl) ?_|refine aI (s_eqlB aB rfl rfl rfl rfl rfl) ?_|refine aI (aJ5 rfl rfl rfl) ?_))|((with_reducible refine bR (o := .neq) ?_);(first|refine aI (jO rfl rfl rfl rfl) ?_|refine aI (s_neqB aB rfl rfl rfl rfl rfl) ?_|refine aI (s_neqS rfl rfl rfl) ?_))|((with_reducible refine bR (o := .lss) ?_);(first|refine aI (jO rfl rfl rfl rfl) ?_))|((with_reducible refine bR (o := .leq) ?_);(first|refine aI (jO rfl rfl rfl rfl) ?_))|((with_reducible refine bR (o := .gtr) ?_);(first|refine aI (jO rfl rfl rfl rfl) ?_))|((with_reducible refine bR (o := .geq) ?_);(first|refine aI (jO rfl rfl rfl rfl) ?_))|((with_reducible refine bR (o := .rem) ?_);(first|refine aI (aE0 (k := .i64) rfl rfl kL aB3) ?_|refine aI (aE0 rfl rfl kL aB3) ?_))|((with_reducible refine bR (o := .quo) ?_);(first|refine aI (s_quo (k := .i64) rfl rfl kL aB1) ?_|refine aI (s_quo rfl rfl kL aB1) ?_))|((with_reducible refine bR (o := .and) ?_);(first|refine aI (gU rfl cW rfl cW rfl) ?_|refine aI (aD9 rfl rfl rfl) ?_))|((with_reducible refine bR (o := .or) ?_);(first|refine aI (gU rfl cW rfl cW rfl) ?_|refine aI (bP0 rfl rfl rfl) ?_))|((with_reducible refine bR (o := .xor) ?_);(first|refine aI (gU rfl cW rfl cW rfl) ?_|refine aI (bH6 rfl rfl rfl) ?_))|((with_reducible refine bR (o := .andNot) ?_);(first|refine aI (s_andNot rfl rfl rfl) ?_))|((with_reducible refine bR (o := .shl) ?_);(first|refine aI (aJ8 rfl cW rfl zcj) ?_|refine aI (aR4 rfl rfl zle rfl) ?_))|((with_reducible refine bR (o := .shr) ?_);(first|refine aI (uI rfl cW rfl zcj) ?_|refine aI (aR5 rfl rfl zle rfl) ?_))|((with_reducible refine xW ?_);(first|refine aI (yZ rfl) ?_))|((with_reducible refine aV9 ?_);(first|refine aI (aZ0 aB rfl rfl rfl) ?_|refine aI (aZ2 aB rfl rfl rfl) ?_|refine aI (aJ6 aB rfl rfl rfl) ?_|refine aI (aZ1 aB rfl rfl rfl) ?_|refine aI (aY9 aB rfl rfl rfl) ?_|refine aI (bH5 rfl rfl rfl) ?_|refine aI (cI6 rfl rfl rfl) ?_))|((with_reducible refine cP3 ?_);(first|refine aI (cI9 rfl rfl) ?_|refine aI (zC rfl cW) ?_|refine aI (cI7 rfl bV8) ?_|refine aI (sR rfl rfl) ?_))|((with_reducible refine tS ?_);(first|refine aI (zH rfl cW aB rfl rfl rfl) ?_|refine aI (s_convWW rfl cW aB rfl rfl rfl) ?_|refine aI (zF rfl aB rfl rfl rfl) ?_|refine aI (zG rfl aB rfl rfl rfl) ?_|refine aI (iO aB rfl rfl rfl rfl iR) ?_|refine aI (s_convStr aB rfl rfl rfl rfl) ?_|refine aI (aK0 aB rfl rfl rfl rfl rfl rfl rfl bV5) ?_))|((with_reducible refine aW0 ?_);(first|refine aI (gH aB rfl rfl rfl rfl rfl rfl) ?_|refine aI (nS aB rfl rfl rfl rfl rfl rfl) ?_))|((with_reducible refine e_fld ?_);(first|refine aI (s_field1 aB rfl rfl rfl rfl rfl rfl oN eH) ?_|refine aI (s_fieldA aB rfl rfl rfl rfl rfl rfl oN eH mU) ?_))|((with_reducible refine bZ2 ?_);(first|refine aI (uH rfl rfl) ?_))|((with_reducible refine gW ?_);(first|refine aI (aZ4 aB rfl rfl rfl rfl zbd zle rfl rfl) ?_|refine aI (cJ1 aB rfl rfl rfl rfl zbd zbd zle zle rfl rfl) ?_|refine aI (cJ3 aB rfl rfl rfl rfl zbd zbd zle zle rfl) ?_|refine aI (aJ9 aB rfl rfl rfl rfl zbd zbd zle zle aP) ?_|refine aI (s_slStr aB rfl rfl rfl zbd zbd zle zle) ?_|refine aI (s_slArri aB rfl rfl rfl rfl zbd zbd zle zle aP rQ zln) ?_|refine aI (cJ2 aB rfl rfl rfl zbd rfl) ?_|refine aI (aZ5 aB rfl rfl rfl rfl rfl zbd zbd zle zle) ?_))|((with_reducible refine e_ix ?_);(first|refine aI (s_ixV1 aB rfl rfl zcj rfl rfl rfl rfl rfl zle iY) ?_|refine aI (s_ixStr aB rfl rfl zcj rfl rfl iY) ?_))|((with_reducible refine aG8 ?_);(first|refine aI (zB aB rfl rfl rfl rfl (gJ rfl) eH mU) ?_|refine aI (sQ aB rfl rfl rfl rfl (gJ rfl) eH mU) ?_))|((with_reducible refine aW2 ?_);(first|refine aI (wM rfl rfl) ?_|refine aI (wL rfl rfl) ?_|refine aI (zJ rfl bV4 rfl) ?_|refine aI (zI rfl bV3 rfl) ?_))|((with_reducible refine xX ?_);(first|refine aI (rI rfl) ?_))|((with_reducible refine bZ4 ?_);(first|refine aI (iH rfl) ?_|refine aI (s_nilChecki rfl) ?_))))
 | (with_reducible refine cN5 ?_)
 | (with_reducible refine k_then ?_)
 | (with_reducible refine k_thenX ?_)
 | (with_reducible refine k_thenR ?_)
 | (with_reducible refine dU2 ?_)
 | (with_reducible refine dM8 ?_)
 | (refine dM6 rfl ?_)
 | (refine dM7 rfl ?_)
 | ((with_reducible refine cC7 ?_);(refine aU1 (cG rfl rfl bV2) rfl ?_)))
 exact hq.out):p:=h ⟨hq⟩
theorem stD {p q:Prop} (hq:q) (h:Kept q->p:=by
 intro hq
 (first
 | (refine cO9 aM aM aM rfl ?_)
 | ((with_reducible refine aX2 ?_);(refine aV6 (cG rfl rfl bV1) ?_))
 | ((with_reducible refine aX2 ?_);(refine aV6 (aH6 rfl rfl) ?_))
 | ((with_reducible refine isD_bi ?_);(first|((first|refine bQ4 aD ?_|refine bQ4 (cG rfl rfl eD) ?_);refine bL (b_appendN aB rfl rfl rfl rfl rfl rfl rfl rfl uO mT zle) rfl ?_)|((first|refine bQ4 aD ?_|refine bQ4 (cG rfl rfl eD) ?_);refine bL (sV aB rfl rfl rfl rfl rfl rfl rfl rfl rfl rfl rfl zcj zle mT zle) rfl ?_)))
 | ((with_reducible refine isD_alloc ?_);(first|refine bQ4 aD ?_|refine bQ4 (cG rfl rfl eD) ?_);(first|refine bL (wQ aB rfl rfl rfl rfl) rfl ?_|refine bL (aF0 aB rfl rfl) rfl ?_))
 | ((with_reducible refine isD_box ?_);(first|refine bQ4 aD ?_|refine bQ4 (cG rfl rfl eD) ?_);(first|refine bL (aU0 (tab:=tab) rfl rfl rfl) rfl ?_|refine bL (a_box1 rfl rfl) rfl ?_|refine bL (aT9 rfl oN) rfl ?_))
 | ((with_reducible refine isD_bslice ?_);(first|refine bQ4 aD ?_|refine bQ4 (cG rfl rfl eD) ?_);(first|refine bL (kW aB rfl rfl rfl rfl rfl) rfl ?_|refine bL (mR aB rfl rfl rfl rfl rfl rfl rfl rfl rfl rfl rfl rfl (jV rfl) aB4 eH) rfl ?_))
 | ((with_reducible refine isD_mksl ?_);(first|refine bQ4 aD ?_|refine bQ4 (cG rfl rfl eD) ?_);(first|refine bL (aU9 aB rfl rfl rfl rfl rfl rfl rfl rfl rfl rfl zcj zcj zle zle qX rfl) rfl ?_))
 | ((with_reducible refine isD_conv ?_);(first|refine eE5 aD ?_|refine eE5 (cG rfl rfl eD) ?_);refine qG (a_toBytes aB rfl rfl rfl rfl rfl rfl rfl bV6 bV9 mT) ?_)
 | (((with_reducible refine cR ?_);(first|refine eE8 aD ?_|refine eE8 (cG rfl rfl eD) ?_));(first|((with_reducible refine aW1 ?_);(first|refine aI (lX rfl) ?_))|((with_reducible refine gB ?_);(first|refine aI (jZ aB rfl rfl rfl rfl iY) ?_|refine aI (iV aB rfl rfl rfl rfl iY) ?_|refine aI (iU aB rfl rfl rfl iY) ?_|refine aI (aJ7 aB rfl rfl rfl rfl rfl rfl mU) ?_|refine aI (gF aB rfl rfl rfl rfl rQ zln) ?_|refine aI (gE aB rfl rfl rfl rQ zln) ?_))|((with_reducible refine bZ3 ?_);(first|refine aI (cI3 aB rfl rfl zcj rfl rfl rfl rfl zle) ?_|refine aI (cI4 aB rfl rfl zcj rfl rfl rfl rfl zle) ?_|refine aI (cI2 aB rfl rfl zcj rfl rfl rfl zle) ?_|refine aI (s_ixAi aB rfl rfl zcj rfl rfl rfl zle) ?_))|((with_reducible refine bR (o := .add) ?_);(first|refine aI (jN rfl rfl rfl iR) ?_|refine aI (gU rfl cW rfl cW rfl) ?_|refine aI (mK rfl rfl rfl iR) ?_))|((with_reducible refine bR (o := .sub) ?_);(first|refine aI (jN rfl rfl rfl iR) ?_|refine aI (gU rfl cW rfl cW rfl) ?_|refine aI (mK rfl rfl rfl iR) ?_))|((with_reducible refine bR (o := .mul) ?_);(first|refine aI (jN rfl rfl rfl iR) ?_|refine aI (gU rfl cW rfl cW rfl) ?_|refine aI (mK rfl rfl rfl iR) ?_))|((with_reducible refine bR (o := .eql) ?_);(first|refine aI (jO rfl rfl rfl rfl) ?_|refine aI (s_eqlB aB rfl rfl rfl rfl rfl) ?_|refine aI (aJ5 rfl rfl rfl) ?_))|((with_reducible refine bR (o := .neq) ?_);(first|refine aI (jO rfl rfl rfl rfl) ?_|refine aI (s_neqB aB rfl rfl rfl rfl rfl) ?_|refine aI (s_neqS rfl rfl rfl) ?_))|((with_reducible refine bR (o := .lss) ?_);(first|refine aI (jO rfl rfl rfl rfl) ?_))|((with_reducible refine bR (o := .leq) ?_);(first|refine aI (jO rfl rfl rfl rfl) ?_))|((with_reducible refine bR (o := .gtr) ?_);(first|refine aI (jO rfl rfl rfl rfl) ?_))|((with_reducible refine bR (o := .geq) ?_);(first|refine aI (jO rfl rfl rfl rfl) ?_))|((with_reducible refine bR (o := .rem) ?_);(first|refine aI (aE0 (k := .i64) rfl rfl kL aB3) ?_|refine aI (aE0 rfl rfl kL aB3) ?_))|((with_reducible refine bR (o := .quo) ?_);(first|refine aI (s_quo (k := .i64) rfl rfl kL aB1) ?_|refine aI (s_quo rfl rfl kL aB1) ?_))|((with_reducible refine bR (o := .and) ?_);(first|refine aI (gU rfl cW rfl cW rfl) ?_|refine aI (aD9 rfl rfl rfl) ?_))|((with_reducible refine bR (o := .or) ?_);(first|refine aI (gU rfl cW rfl cW rfl) ?_|refine aI (bP0 rfl rfl rfl) ?_))|((with_reducible refine bR (o := .xor) ?_);(first|refine aI (gU rfl cW rfl cW rfl) ?_|refine aI (bH6 rfl rfl rfl) ?_))|((with_reducible refine bR (o := .andNot) ?_);(first|refine aI (s_andNot rfl rfl rfl) ?_))|((with_reducible refine bR (o := .shl) ?_);(first|refine aI (aJ8 rfl cW rfl zcj) ?_|refine aI (aR4 rfl rfl zle rfl) ?_))|((with_reducible refine bR (o := .shr) ?_);(first|refine aI (uI rfl cW rfl zcj) ?_|refine aI (aR5 rfl rfl zle rfl) ?_))|((with_reducible refine xW ?_);(first|refine aI (yZ rfl) ?_))|((with_reducible refine aV9 ?_);(first|refine aI (aZ0 aB rfl rfl rfl) ?_|refine aI (aZ2 aB rfl rfl rfl) ?_|refine aI (aJ6 aB rfl rfl rfl) ?_|refine aI (aZ1 aB rfl rfl rfl) ?_|refine aI (aY9 aB rfl rfl rfl) ?_|refine aI (bH5 rfl rfl rfl) ?_|refine aI (cI6 rfl rfl rfl) ?_))|((with_reducible refine cP3 ?_);(first|refine aI (cI9 rfl rfl) ?_|refine aI (zC rfl cW) ?_|refine aI (cI7 rfl bV8) ?_|refine aI (sR rfl rfl) ?_))|((with_reducible refine tS ?_);(first|refine aI (zH rfl cW aB rfl rfl rfl) ?_|refine aI (s_convWW rfl cW aB rfl rfl rfl) ?_|refine aI (zF rfl aB rfl rfl rfl) ?_|refine aI (zG rfl aB rfl rfl rfl) ?_|refine aI (iO aB rfl rfl rfl rfl iR) ?_|refine aI (s_convStr aB rfl rfl rfl rfl) ?_|refine aI (aK0 aB rfl rfl rfl rfl rfl rfl rfl bV5) ?_))|((with_reducible refine aW0 ?_);(first|refine aI (gH aB rfl rfl rfl rfl rfl rfl) ?_|refine aI (nS aB rfl rfl rfl rfl rfl rfl) ?_))|((with_reducible refine e_fld ?_);(first|refine aI (s_field1 aB rfl rfl rfl rfl rfl rfl oN eH) ?_|refine aI (s_fieldA aB rfl rfl rfl rfl rfl rfl oN eH mU) ?_))|((with_reducible refine bZ2 ?_);(first|refine aI (uH rfl rfl) ?_))|((with_reducible refine gW ?_);(first|refine aI (aZ4 aB rfl rfl rfl rfl zbd zle rfl rfl) ?_|refine aI (cJ1 aB rfl rfl rfl rfl zbd zbd zle zle rfl rfl) ?_|refine aI (cJ3 aB rfl rfl rfl rfl zbd zbd zle zle rfl) ?_|refine aI (aJ9 aB rfl rfl rfl rfl zbd zbd zle zle aP) ?_|refine aI (s_slStr aB rfl rfl rfl zbd zbd zle zle) ?_|refine aI (s_slArri aB rfl rfl rfl rfl zbd zbd zle zle aP rQ zln) ?_|refine aI (cJ2 aB rfl rfl rfl zbd rfl) ?_|refine aI (aZ5 aB rfl rfl rfl rfl rfl zbd zbd zle zle) ?_))|((with_reducible refine e_ix ?_);(first|refine aI (s_ixV1 aB rfl rfl zcj rfl rfl rfl rfl rfl zle iY) ?_|refine aI (s_ixStr aB rfl rfl zcj rfl rfl iY) ?_))|((with_reducible refine aG8 ?_);(first|refine aI (zB aB rfl rfl rfl rfl (gJ rfl) eH mU) ?_|refine aI (sQ aB rfl rfl rfl rfl (gJ rfl) eH mU) ?_))|((with_reducible refine aW2 ?_);(first|refine aI (wM rfl rfl) ?_|refine aI (wL rfl rfl) ?_|refine aI (zJ rfl bV4 rfl) ?_|refine aI (zI rfl bV3 rfl) ?_))|((with_reducible refine xX ?_);(first|refine aI (rI rfl) ?_))|((with_reducible refine bZ4 ?_);(first|refine aI (iH rfl) ?_|refine aI (s_nilChecki rfl) ?_))))
 | ((with_reducible refine aX2 ?_);(refine aV6 (cG rfl rfl bV2) ?_)))
 exact hq.out):p:=h ⟨hq⟩
theorem stE {p q:Prop} (hq:q) (h:Kept q->p:=by
 intro hq
 (first
 | (refine bY3 aM aM aM aM rfl ?_)
 | ((with_reducible refine isEk_g ?_);(refine e_skip (cG rfl rfl bV1) ?_))
 | ((with_reducible refine isEk_g ?_);(refine e_skip (aH6 rfl rfl) ?_))
 | ((with_reducible refine dM3 ?_);(first|(refine aN2 aB aD rfl rfl rfl rfl rfl rfl rfl rfl rfl zln rfl uO mT zle rfl ?_)|(refine aN2 aB (cG rfl rfl eD) rfl rfl rfl rfl rfl rfl rfl rfl rfl zln rfl uO mT zle rfl ?_)|((first|refine bQ5 aD rfl rfl ?_|refine bQ5 (cG rfl rfl eD) rfl rfl ?_);refine bL (b_appendN aB rfl rfl rfl rfl rfl rfl rfl rfl uO mT zle) rfl ?_)|((first|refine bQ5 aD rfl rfl ?_|refine bQ5 (cG rfl rfl eD) rfl rfl ?_);refine bL (sV aB rfl rfl rfl rfl rfl rfl rfl rfl rfl rfl rfl zcj zle mT zle) rfl ?_)))
 | ((with_reducible refine tZ ?_);(first|(refine bX9 aB aD rfl rfl rfl rfl rfl rfl rfl rfl rfl rfl ?_)|(refine d_store1r aB aD rfl rfl rfl rfl rfl rfl rfl rfl rfl rfl ?_)|(refine aV7 aB aD rfl rfl rfl rfl rfl rfl rfl rfl zle rfl ?_)|(refine bY0 aB aD rfl rfl rfl rfl rfl oN eH eH rfl (A9 rfl) eH rfl ?_)|(refine tN aB aD rfl rfl rfl rfl rfl zln rfl zle (by first|exact pT _ _ zln|rfl) rfl ?_)))
 | ((with_reducible refine pS ?_);(first|refine bQ5 aD rfl rfl ?_|refine bQ5 (cG rfl rfl eD) rfl rfl ?_);(first|refine bL (wQ aB rfl rfl rfl rfl) rfl ?_|refine bL (aF0 aB rfl rfl) rfl ?_))
 | ((with_reducible refine isE_box ?_);(first|refine bQ5 aD rfl rfl ?_|refine bQ5 (cG rfl rfl eD) rfl rfl ?_);(first|refine bL (aU0 (tab:=tab) rfl rfl rfl) rfl ?_|refine bL (a_box1 rfl rfl) rfl ?_|refine bL (aT9 rfl oN) rfl ?_))
 | ((with_reducible refine yK ?_);(first|refine bQ5 aD rfl rfl ?_|refine bQ5 (cG rfl rfl eD) rfl rfl ?_);(first|refine bL (kW aB rfl rfl rfl rfl rfl) rfl ?_|refine bL (mR aB rfl rfl rfl rfl rfl rfl rfl rfl rfl rfl rfl rfl (jV rfl) aB4 eH) rfl ?_))
 | ((with_reducible refine isE_mksl ?_);(first|refine bQ5 aD rfl rfl ?_|refine bQ5 (cG rfl rfl eD) rfl rfl ?_);(first|refine bL (aU9 aB rfl rfl rfl rfl rfl rfl rfl rfl rfl rfl zcj zcj zle zle qX rfl) rfl ?_))
 | ((with_reducible refine isE_conv ?_);(first|refine eE6 aD rfl rfl ?_|refine eE6 (cG rfl rfl eD) rfl rfl ?_);refine qG (a_toBytes aB rfl rfl rfl rfl rfl rfl rfl bV6 bV9 mT) ?_)
 | (((with_reducible refine lU ?_);(first|refine eE9 aD rfl rfl ?_|refine eE9 (cG rfl rfl eD) rfl rfl ?_));(first|((with_reducible refine aW1 ?_);(first|refine aI (lX rfl) ?_))|((with_reducible refine gB ?_);(first|refine aI (jZ aB rfl rfl rfl rfl iY) ?_|refine aI (iV aB rfl rfl rfl rfl iY) ?_|refine aI (iU aB rfl rfl rfl iY) ?_|refine aI (aJ7 aB rfl rfl rfl rfl rfl rfl mU) ?_|refine aI (gF aB rfl rfl rfl rfl rQ zln) ?_|refine aI (gE aB rfl rfl rfl rQ zln) ?_))|((with_reducible refine bZ3 ?_);(first|refine aI (cI3 aB rfl rfl zcj rfl rfl rfl rfl zle) ?_|refine aI (cI4 aB rfl rfl zcj rfl rfl rfl rfl zle) ?_|refine aI (cI2 aB rfl rfl zcj rfl rfl rfl zle) ?_|refine aI (s_ixAi aB rfl rfl zcj rfl rfl rfl zle) ?_))|((with_reducible refine bR (o := .add) ?_);(first|refine aI (jN rfl rfl rfl iR) ?_|refine aI (gU rfl cW rfl cW rfl) ?_|refine aI (mK rfl rfl rfl iR) ?_))|((with_reducible refine bR (o := .sub) ?_);(first|refine aI (jN rfl rfl rfl iR) ?_|refine aI (gU rfl cW rfl cW rfl) ?_|refine aI (mK rfl rfl rfl iR) ?_))|((with_reducible refine bR (o := .mul) ?_);(first|refine aI (jN rfl rfl rfl iR) ?_|refine aI (gU rfl cW rfl cW rfl) ?_|refine aI (mK rfl rfl rfl iR) ?_))|((with_reducible refine bR (o := .eql) ?_);(first|refine aI (jO rfl rfl rfl rfl) ?_|refine aI (s_eqlB aB rfl rfl rfl rfl rfl) ?_|refine aI (aJ5 rfl rfl rfl) ?_))|((with_reducible refine bR (o := .neq) ?_);(first|refine aI (jO rfl rfl rfl rfl) ?_|refine aI (s_neqB aB rfl rfl rfl rfl rfl) ?_|refine aI (s_neqS rfl rfl rfl) ?_))|((with_reducible refine bR (o := .lss) ?_);(first|refine aI (jO rfl rfl rfl rfl) ?_))|((with_reducible refine bR (o := .leq) ?_);(first|refine aI (jO rfl rfl rfl rfl) ?_))|((with_reducible refine bR (o := .gtr) ?_);(first|refine aI (jO rfl rfl rfl rfl) ?_))|((with_reducible refine bR (o := .geq) ?_);(first|refine aI (jO rfl rfl rfl rfl) ?_))|((with_reducible refine bR (o := .rem) ?_);(first|refine aI (aE0 (k := .i64) rfl rfl kL aB3) ?_|refine aI (aE0 rfl rfl kL aB3) ?_))|((with_reducible refine bR (o := .quo) ?_);(first|refine aI (s_quo (k := .i64) rfl rfl kL aB1) ?_|refine aI (s_quo rfl rfl kL aB1) ?_))|((with_reducible refine bR (o := .and) ?_);(first|refine aI (gU rfl cW rfl cW rfl) ?_|refine aI (aD9 rfl rfl rfl) ?_))|((with_reducible refine bR (o := .or) ?_);(first|refine aI (gU rfl cW rfl cW rfl) ?_|refine aI (bP0 rfl rfl rfl) ?_))|((with_reducible refine bR (o := .xor) ?_);(first|refine aI (gU rfl cW rfl cW rfl) ?_|refine aI (bH6 rfl rfl rfl) ?_))|((with_reducible refine bR (o := .andNot) ?_);(first|refine aI (s_andNot rfl rfl rfl) ?_))|((with_reducible refine bR (o := .shl) ?_);(first|refine aI (aJ8 rfl cW rfl zcj) ?_|refine aI (aR4 rfl rfl zle rfl) ?_))|((with_reducible refine bR (o := .shr) ?_);(first|refine aI (uI rfl cW rfl zcj) ?_|refine aI (aR5 rfl rfl zle rfl) ?_))|((with_reducible refine xW ?_);(first|refine aI (yZ rfl) ?_))|((with_reducible refine aV9 ?_);(first|refine aI (aZ0 aB rfl rfl rfl) ?_|refine aI (aZ2 aB rfl rfl rfl) ?_|refine aI (aJ6 aB rfl rfl rfl) ?_|refine aI (aZ1 aB rfl rfl rfl) ?_|refine aI (aY9 aB rfl rfl rfl) ?_|refine aI (bH5 rfl rfl rfl) ?_|refine aI (cI6 rfl rfl rfl) ?_))|((with_reducible refine cP3 ?_);(first|refine aI (cI9 rfl rfl) ?_|refine aI (zC rfl cW) ?_|refine aI (cI7 rfl bV8) ?_|refine aI (sR rfl rfl) ?_))|((with_reducible refine tS ?_);(first|refine aI (zH rfl cW aB rfl rfl rfl) ?_|refine aI (s_convWW rfl cW aB rfl rfl rfl) ?_|refine aI (zF rfl aB rfl rfl rfl) ?_|refine aI (zG rfl aB rfl rfl rfl) ?_|refine aI (iO aB rfl rfl rfl rfl iR) ?_|refine aI (s_convStr aB rfl rfl rfl rfl) ?_|refine aI (aK0 aB rfl rfl rfl rfl rfl rfl rfl bV5) ?_))|((with_reducible refine aW0 ?_);(first|refine aI (gH aB rfl rfl rfl rfl rfl rfl) ?_|refine aI (nS aB rfl rfl rfl rfl rfl rfl) ?_))|((with_reducible refine e_fld ?_);(first|refine aI (s_field1 aB rfl rfl rfl rfl rfl rfl oN eH) ?_|refine aI (s_fieldA aB rfl rfl rfl rfl rfl rfl oN eH mU) ?_))|((with_reducible refine bZ2 ?_);(first|refine aI (uH rfl rfl) ?_))|((with_reducible refine gW ?_);(first|refine aI (aZ4 aB rfl rfl rfl rfl zbd zle rfl rfl) ?_|refine aI (cJ1 aB rfl rfl rfl rfl zbd zbd zle zle rfl rfl) ?_|refine aI (cJ3 aB rfl rfl rfl rfl zbd zbd zle zle rfl) ?_|refine aI (aJ9 aB rfl rfl rfl rfl zbd zbd zle zle aP) ?_|refine aI (s_slStr aB rfl rfl rfl zbd zbd zle zle) ?_|refine aI (s_slArri aB rfl rfl rfl rfl zbd zbd zle zle aP rQ zln) ?_|refine aI (cJ2 aB rfl rfl rfl zbd rfl) ?_|refine aI (aZ5 aB rfl rfl rfl rfl rfl zbd zbd zle zle) ?_))|((with_reducible refine e_ix ?_);(first|refine aI (s_ixV1 aB rfl rfl zcj rfl rfl rfl rfl rfl zle iY) ?_|refine aI (s_ixStr aB rfl rfl zcj rfl rfl iY) ?_))|((with_reducible refine aG8 ?_);(first|refine aI (zB aB rfl rfl rfl rfl (gJ rfl) eH mU) ?_|refine aI (sQ aB rfl rfl rfl rfl (gJ rfl) eH mU) ?_))|((with_reducible refine aW2 ?_);(first|refine aI (wM rfl rfl) ?_|refine aI (wL rfl rfl) ?_|refine aI (zJ rfl bV4 rfl) ?_|refine aI (zI rfl bV3 rfl) ?_))|((with_reducible refine xX ?_);(first|refine aI (rI rfl) ?_))|((with_reducible refine bZ4 ?_);(first|refine aI (iH rfl) ?_|refine aI (s_nilChecki rfl) ?_))))
 | ((with_reducible refine isEk_g ?_);(refine e_skip (cG rfl rfl bV2) ?_)))
 exact hq.out):p:=h ⟨hq⟩
section
variable {P:Dl} {ops:Df} {sz n n0 i m t:Nat} {K:AK} {env env0:Env} {h h0 hr:aO} {es:List Eat} {ids:Dg} {dfs:cA} {rest l:De} {op:Op} {ty:Dj} {pos:String} {aft:Dh} {gd:Dc} {f:FuncId} {xs:Do} {ats:Dn}
theorem xA (hh:∃v,Still P ⟨some t,op,ty,pos,aft,gd⟩ (evA env) h v/\AWL P ops sz rest K n ((t,v)::env) h dfs) (hg:guardA ops env ⟨some t,op,ty,pos,aft,gd⟩ true:=by first|exact aD|exact (cG rfl rfl eD)) (hd:Nat.blt t sz=true:=by rfl):AWL P ops sz (⟨some t,op,ty,pos,aft,gd⟩::rest) K n env h dfs:=eE7 hg hd hh
theorem xD (hh:∃v,Still P ⟨some t,op,ty,pos,aft,gd⟩ (evT (Oper.looksAt l.toArray ⟨some t,op,ty,pos,aft,gd⟩) env) h v/\Drw P l sz K dfs i n0 env0 h0 m rest n ((t,v)::env) h) (hg:guardA l.toArray env ⟨some t,op,ty,pos,aft,gd⟩ true:=by first|exact aD|exact (cG rfl rfl eD)):Drw P l sz K dfs i n0 env0 h0 (m+1) (⟨some t,op,ty,pos,aft,gd⟩::rest) n env h:=eE8 hg hh
theorem xE (hh:∃v,Still P ⟨some t,op,ty,pos,aft,gd⟩ (evT (Oper.looksAt l.toArray ⟨some t,op,ty,pos,aft,gd⟩) env) hr v/\bQ P l sz K dfs i n0 env0 h0 (es++[(ids,none)]) m rest n ((t,v)::env) h) (hg:guardA l.toArray env ⟨some t,op,ty,pos,aft,gd⟩ true:=by first|exact aD|exact (cG rfl rfl eD)) (hi:sF env (Oper.looksAt l.toArray ⟨some t,op,ty,pos,aft,gd⟩)=some ids:=by rfl) (hf:jJ ids h=some hr:=by rfl):bQ P l sz K dfs i n0 env0 h0 es (m+1) (⟨some t,op,ty,pos,aft,gd⟩::rest) n env h:=eE9 hg hi hf hh
theorem wA (hh:∃v,Adds P ⟨some t,op,ty,pos,aft,gd⟩ (evA env) h v [] n n/\AWL P ops sz rest K n ((t,v)::env) h dfs) (hg:guardA ops env ⟨some t,op,ty,pos,aft,gd⟩ true:=by first|exact aD|exact (cG rfl rfl eD)) (hd:Nat.blt t sz=true:=by rfl):AWL P ops sz (⟨some t,op,ty,pos,aft,gd⟩::rest) K n env h dfs:=eE4 hg hd hh
theorem wD (hh:∃v,Adds P ⟨some t,op,ty,pos,aft,gd⟩ (evT (Oper.looksAt l.toArray ⟨some t,op,ty,pos,aft,gd⟩) env) h v [] n n/\Drw P l sz K dfs i n0 env0 h0 m rest n ((t,v)::env) h) (hg:guardA l.toArray env ⟨some t,op,ty,pos,aft,gd⟩ true:=by first|exact aD|exact (cG rfl rfl eD)):Drw P l sz K dfs i n0 env0 h0 (m+1) (⟨some t,op,ty,pos,aft,gd⟩::rest) n env h:=eE5 hg hh
theorem wE (hh:∃v,Adds P ⟨some t,op,ty,pos,aft,gd⟩ (evT (Oper.looksAt l.toArray ⟨some t,op,ty,pos,aft,gd⟩) env) hr v [] n n/\bQ P l sz K dfs i n0 env0 h0 (es++[(ids,none)]) m rest n ((t,v)::env) h) (hg:guardA l.toArray env ⟨some t,op,ty,pos,aft,gd⟩ true:=by first|exact aD|exact (cG rfl rfl eD)) (hi:sF env (Oper.looksAt l.toArray ⟨some t,op,ty,pos,aft,gd⟩)=some ids:=by rfl) (hf:jJ ids h=some hr:=by rfl):bQ P l sz K dfs i n0 env0 h0 es (m+1) (⟨some t,op,ty,pos,aft,gd⟩::rest) n env h:=eE6 hg hi hf hh
theorem yA (hh:∃v obj,obj.live=some obj/\Adds P ⟨some t,op,ty,pos,aft,gd⟩ (evA env) h v [(n,obj)] n (n+1)/\AWL P ops sz rest K (n+1) ((t,v)::env) ((n,obj)::h) dfs) (hg:guardA ops env ⟨some t,op,ty,pos,aft,gd⟩ true:=by first|exact aD|exact (cG rfl rfl eD)) (hd:Nat.blt t sz=true:=by rfl):AWL P ops sz (⟨some t,op,ty,pos,aft,gd⟩::rest) K n env h dfs:=bQ3 hg hd hh
theorem yD (hh:∃v obj,obj.live=some obj/\Adds P ⟨some t,op,ty,pos,aft,gd⟩ (evT (Oper.looksAt l.toArray ⟨some t,op,ty,pos,aft,gd⟩) env) h v [(n,obj)] n (n+1)/\Drw P l sz K dfs i n0 env0 h0 m rest (n+1) ((t,v)::env) ((n,obj)::h)) (hg:guardA l.toArray env ⟨some t,op,ty,pos,aft,gd⟩ true:=by first|exact aD|exact (cG rfl rfl eD)):Drw P l sz K dfs i n0 env0 h0 (m+1) (⟨some t,op,ty,pos,aft,gd⟩::rest) n env h:=bQ4 hg hh
theorem yE (hh:∃v obj,obj.live=some obj/\Adds P ⟨some t,op,ty,pos,aft,gd⟩ (evT (Oper.looksAt l.toArray ⟨some t,op,ty,pos,aft,gd⟩) env) hr v [(n,obj)] n (n+1)/\bQ P l sz K dfs i n0 env0 h0 (es++[(n::ids,none)]) m rest (n+1) ((t,v)::env) ((n,obj)::h)) (hg:guardA l.toArray env ⟨some t,op,ty,pos,aft,gd⟩ true:=by first|exact aD|exact (cG rfl rfl eD)) (hi:sF env (Oper.looksAt l.toArray ⟨some t,op,ty,pos,aft,gd⟩)=some ids:=by rfl) (hf:jJ ids h=some hr:=by rfl):bQ P l sz K dfs i n0 env0 h0 es (m+1) (⟨some t,op,ty,pos,aft,gd⟩::rest) n env h:=bQ5 hg hi hf hh
theorem zA (hh:iX P f xs (evA env) (fun r=>AWL P ops sz rest K n ((t,r)::env) h dfs) (fun k size T rc=>AWL P ops sz rest K (n+1) ((t,.own n 0 k size true)::env) ((n,.row T rc)::h) dfs)) (hg:guardA ops env ⟨some t,.call ⟨.value (.func f),xs.toArray,ats⟩,ty,pos,aft,gd⟩ true:=by first|exact aD|exact (cG rfl rfl eD)) (hd:Nat.blt t sz=true:=by rfl):AWL P ops sz (⟨some t,.call ⟨.value (.func f),xs.toArray,ats⟩,ty,pos,aft,gd⟩::rest) K n env h dfs:=eG1 hg hd hh
theorem zN (hh:iX P f xs (evA env) (fun r=>AWL P ops sz rest K n env h dfs) (fun k size T rc=>AWL P ops sz rest K (n+1) env ((n,.row T rc)::h) dfs)) (hg:guardA ops env ⟨none,.call ⟨.value (.func f),xs.toArray,ats⟩,ty,pos,aft,gd⟩ true:=by first|exact aD|exact (cG rfl rfl eD)):AWL P ops sz (⟨none,.call ⟨.value (.func f),xs.toArray,ats⟩,ty,pos,aft,gd⟩::rest) K n env h dfs:=eG4 hg hh
theorem zD (hh:iX P f xs (evT (Oper.looksAt l.toArray ⟨some t,.call ⟨.value (.func f),xs.toArray,ats⟩,ty,pos,aft,gd⟩) env) (fun r=>Drw P l sz K dfs i n0 env0 h0 m rest n ((t,r)::env) h) (fun k size T rc=>Drw P l sz K dfs i n0 env0 h0 m rest (n+1) ((t,.own n 0 k size true)::env) ((n,.row T rc)::h))) (hg:guardA l.toArray env ⟨some t,.call ⟨.value (.func f),xs.toArray,ats⟩,ty,pos,aft,gd⟩ true:=by first|exact aD|exact (cG rfl rfl eD)):Drw P l sz K dfs i n0 env0 h0 (m+1) (⟨some t,.call ⟨.value (.func f),xs.toArray,ats⟩,ty,pos,aft,gd⟩::rest) n env h:=eG2 hg hh
theorem zE (hh:iX P f xs (evT (Oper.looksAt l.toArray ⟨some t,.call ⟨.value (.func f),xs.toArray,ats⟩,ty,pos,aft,gd⟩) env) (fun r=>bQ P l sz K dfs i n0 env0 h0 (es++[([],none)]) m rest n ((t,r)::env) h) (fun k size T rc=>bQ P l sz K dfs i n0 env0 h0 (es++[([n],none)]) m rest (n+1) ((t,.own n 0 k size true)::env) ((n,.row T rc)::h))) (hg:guardA l.toArray env ⟨some t,.call ⟨.value (.func f),xs.toArray,ats⟩,ty,pos,aft,gd⟩ true:=by first|exact aD|exact (cG rfl rfl eD)):bQ P l sz K dfs i n0 env0 h0 es (m+1) (⟨some t,.call ⟨.value (.func f),xs.toArray,ats⟩,ty,pos,aft,gd⟩::rest) n env h:=eG3 hg hh
variable {cs cs' rc:Dr} {r:AV} {ev:Evl} {N0:AV->Prop} {N1:Nat->Nat->Dj->Dr->Prop} {k size:Nat} {T:Dj} {vs:Ds} {N:AV->Prop} {d:Di} {N2:AV->AObj->Prop}
theorem c0 (hac:AC P f cs' r [] 0) (hn:N0 r) (hb:Body P f:=by unfold Body;kernel_rfl) (hx:eC ev xs=some cs:=by rfl) (hcv:CvL cs cs':=by first|exact rT|((repeat' (first|exact fH|refine eJ ?_ ?_|(first|exact cU|exact fT|(refine jH ?_ ?_<;>first|rfl|omega|(simp<;>fail)|fail)|(refine uR ?_;first|rfl|(simp<;>fail)|fail)|refine mI ?_)))<;>fail)|fail) (hid:r.noId=true:=by rfl):iX P f xs ev N0 N1:=eA8 hac hb hx hcv hid hn
theorem c1 (hac:AC P f cs' (.own 0 0 k size true) [(0,.row T rc)] 1) (hn:N1 k size T rc) (hb:Body P f:=by unfold Body;kernel_rfl) (hx:eC ev xs=some cs:=by rfl) (hcv:CvL cs cs':=by first|exact rT|((repeat' (first|exact fH|refine eJ ?_ ?_|(first|exact cU|exact fT|(refine jH ?_ ?_<;>first|rfl|omega|(simp<;>fail)|fail)|(refine uR ?_;first|rfl|(simp<;>fail)|fail)|refine mI ?_)))<;>fail)|fail):iX P f xs ev N0 N1:=eA9 hac hb hx hcv hn
theorem cF (hac:AC P f cs r [] 0) (hn:N r) (hb:Body P f:=by unfold Body;kernel_rfl) (hx:nW ev xs=some vs:=by rfl) (hfz:aE8 [] h vs cs:=by first|((repeat' (first|exact dT|refine bD ?_ ?_|(first|with_reducible exact eF cU|with_reducible exact eF fT|exact gC rfl rfl zln|exact mA rfl rfl rfl zln|exact iD (gC rfl rfl zln) (jH zse zse)|exact iD (mA rfl rfl rfl zln) (jH zse zse)|exact iD (eF cU) (jH zse zse)|exact iD (eF cU) (uR bW2)|exact eF cU|exact eF fT|exact frz_u8 rfl rfl aA aA aA|refine vW rfl ?_|refine eF (mI ?_)|exact fH|refine eJ ?_ ?_|exact cU|exact fT|exact jH zse zse)))<;>fail)|fail) (hfl:FlR r:=by first|exact FlR.c bE8|exact FlR.c (aH2 bD0)|exact flr_2 bD0|exact flr_3 bD0|exact FlR.t bD0|assumption):∃v,Adds P ⟨d,.call ⟨.value (.func f),xs.toArray,ats⟩,ty,pos,aft,gd⟩ ev h v [] n n/\N v:=qG (aU3 hb hx hfz hac hfl) hn
theorem cF1 (hac:AC P f cs (.own 0 0 k size true) [(0,.row T rc)] 1) (hn:N2 (.own n 0 k size true) (.row T rc)) (hb:Body P f:=by unfold Body;kernel_rfl) (hx:nW ev xs=some vs:=by rfl) (hfz:aE8 [] h vs cs:=by first|((repeat' (first|exact dT|refine bD ?_ ?_|(first|with_reducible exact eF cU|with_reducible exact eF fT|exact gC rfl rfl zln|exact mA rfl rfl rfl zln|exact iD (gC rfl rfl zln) (jH zse zse)|exact iD (mA rfl rfl rfl zln) (jH zse zse)|exact iD (eF cU) (jH zse zse)|exact iD (eF cU) (uR bW2)|exact eF cU|exact eF fT|exact frz_u8 rfl rfl aA aA aA|refine vW rfl ?_|refine eF (mI ?_)|exact fH|refine eJ ?_ ?_|exact cU|exact fT|exact jH zse zse)))<;>fail)|fail) (hfl:FlcL rc:=by first|((repeat' (first|exact flcl_nil|exact vU _|exact flcl_int _ _|exact rA _|exact bE8|assumption|refine flcl_app ?_ ?_|refine flcl_cons ?_ ?_|refine aH2 ?_))<;>fail)|fail):∃v obj,obj.live=some obj/\Adds P ⟨d,.call ⟨.value (.func f),xs.toArray,ats⟩,ty,pos,aft,gd⟩ ev h v [(n,obj)] n (n+1)/\N2 v obj:=⟨_,_,rfl,aK9 hb hx hfz hac hfl,hn⟩
end
theorem kI {n:Nat} {env:Env} {h:aO} {dfs:cA} {N:Nat} {E:Env} {Hp:aO} {D:cA} (w:cO n env h dfs N E Hp D:=by refine cE rfl ?_ ?_ rfl<;>(repeat' (first|exact bF|exact bG|refine bC rfl dE3 rfl ?_|refine aN rfl dE3 rfl ?_))):cO n env h dfs N E Hp D:=w
theorem fZ {p:Prop} (h:p:=by first|with_reducible assumption|assumption|(rw [A5];assumption)|(rw [Ai,A5];assumption)|fail):p:=h
theorem kK {p:Prop} (h:p:=by first|with_reducible assumption|assumption|exact mM (by first|rfl|omega)|rfl|fail):p:=h
theorem dK2 {p:Prop} (h:p:=by first|(simp<;>fail)|fail):p:=h
section
variable {p q:Prop} (hq:q)
include p q hq
theorem aC (h:Kept q->p:=by
 intro hq
 (first|(with_reducible refine cN2 ?_)|fail)
 exact hq.out):p:=h ⟨hq⟩
theorem cV (h:Kept q->p:=by
 intro hq
 (first|((((with_reducible refine bU ?_);refine xA ?_);(first|((with_reducible refine gB ?_);(first|refine aI (jZ aB rfl rfl rfl rfl fZ) ?_|refine aI (iV aB rfl rfl rfl rfl fZ) ?_|refine aI (iU aB rfl rfl rfl fZ) ?_))|((with_reducible refine e_ix ?_);(first|refine aI (s_ixV1 aB rfl rfl zcj rfl rfl rfl rfl rfl zle fZ) ?_|refine aI (s_ixStr aB rfl rfl zcj rfl rfl fZ) ?_)))))|fail)
 exact hq.out):p:=h ⟨hq⟩
theorem eT (h:Kept q->p:=by
 intro hq
 (first|((((with_reducible refine bU ?_);refine xA ?_);(first|((with_reducible refine gB ?_);(first|refine aI (gF aB rfl rfl rfl rfl kK zln) ?_|refine aI (gE aB rfl rfl rfl kK zln) ?_))|((with_reducible refine gW ?_);(first|refine aI (s_slArri aB rfl rfl rfl rfl zbd zbd zle zle aP kK zln) ?_)))))|fail)
 exact hq.out):p:=h ⟨hq⟩
theorem dR (h:Kept q->p:=by
 intro hq
 (first|((first|with_reducible refine aH ?_);(first|refine zA ?_|refine zN ?_))|fail)
 exact hq.out):p:=h ⟨hq⟩
theorem dV (h:Kept q->p:=by
 intro hq
 (first|(((first|((with_reducible refine bU ?_);refine xA ?_)|((with_reducible refine cR ?_);refine xD ?_));(first|((with_reducible refine gB ?_);(first|refine aI (jZ aB rfl rfl rfl rfl fZ) ?_|refine aI (iV aB rfl rfl rfl rfl fZ) ?_|refine aI (iU aB rfl rfl rfl fZ) ?_))|((with_reducible refine e_ix ?_);(first|refine aI (s_ixV1 aB rfl rfl zcj rfl rfl rfl rfl rfl zle fZ) ?_|refine aI (s_ixStr aB rfl rfl zcj rfl rfl fZ) ?_)))))|fail)
 exact hq.out):p:=h ⟨hq⟩
theorem fG (h:Kept q->p:=by
 intro hq
 (first|(((first|((with_reducible refine bU ?_);refine xA ?_)|((with_reducible refine cR ?_);refine xD ?_));(first|((with_reducible refine gB ?_);(first|refine aI (gF aB rfl rfl rfl rfl kK zln) ?_|refine aI (gE aB rfl rfl rfl kK zln) ?_))|((with_reducible refine gW ?_);(first|refine aI (s_slArri aB rfl rfl rfl rfl zbd zbd zle zle aP kK zln) ?_)))))|fail)
 exact hq.out):p:=h ⟨hq⟩
theorem dU (h:Kept q->p:=by
 intro hq
 (first|((first|with_reducible refine aH ?_|with_reducible refine jL ?_);(first|refine zA ?_|refine zN ?_|refine zD ?_))|fail)
 exact hq.out):p:=h ⟨hq⟩
theorem dZ6 (h:Kept q->p:=by
 intro hq
 (first|(((first|((with_reducible refine bU ?_);refine xA ?_)|((with_reducible refine lU ?_);refine xE ?_));(first|((with_reducible refine gB ?_);(first|refine aI (jZ aB rfl rfl rfl rfl fZ) ?_|refine aI (iV aB rfl rfl rfl rfl fZ) ?_|refine aI (iU aB rfl rfl rfl fZ) ?_))|((with_reducible refine e_ix ?_);(first|refine aI (s_ixV1 aB rfl rfl zcj rfl rfl rfl rfl rfl zle fZ) ?_|refine aI (s_ixStr aB rfl rfl zcj rfl rfl fZ) ?_)))))|fail)
 exact hq.out):p:=h ⟨hq⟩
theorem bC8 (h:Kept q->p:=by
 intro hq
 (first|(((first|((with_reducible refine bU ?_);refine xA ?_)|((with_reducible refine lU ?_);refine xE ?_));(first|((with_reducible refine gB ?_);(first|refine aI (gF aB rfl rfl rfl rfl kK zln) ?_|refine aI (gE aB rfl rfl rfl kK zln) ?_))|((with_reducible refine gW ?_);(first|refine aI (s_slArri aB rfl rfl rfl rfl zbd zbd zle zle aP kK zln) ?_)))))|fail)
 exact hq.out):p:=h ⟨hq⟩
theorem pO (h:Kept q->p:=by
 intro hq
 (first|((first|with_reducible refine aH ?_|with_reducible refine cH ?_);(first|refine zA ?_|refine zN ?_|refine zE ?_))|fail)
 exact hq.out):p:=h ⟨hq⟩
theorem jG (h:Kept q->p:=by
 intro hq
 (first|(((first|((with_reducible refine bU ?_);refine xA ?_)|((with_reducible refine cR ?_);refine xD ?_)|((with_reducible refine lU ?_);refine xE ?_));(first|((with_reducible refine gB ?_);(first|refine aI (jZ aB rfl rfl rfl rfl fZ) ?_|refine aI (iV aB rfl rfl rfl rfl fZ) ?_|refine aI (iU aB rfl rfl rfl fZ) ?_))|((with_reducible refine e_ix ?_);(first|refine aI (s_ixV1 aB rfl rfl zcj rfl rfl rfl rfl rfl zle fZ) ?_|refine aI (s_ixStr aB rfl rfl zcj rfl rfl fZ) ?_)))))|fail)
 exact hq.out):p:=h ⟨hq⟩
theorem gQ (h:Kept q->p:=by
 intro hq
 (first|(((first|((with_reducible refine bU ?_);refine xA ?_)|((with_reducible refine cR ?_);refine xD ?_)|((with_reducible refine lU ?_);refine xE ?_));(first|((with_reducible refine gB ?_);(first|refine aI (gF aB rfl rfl rfl rfl kK zln) ?_|refine aI (gE aB rfl rfl rfl kK zln) ?_))|((with_reducible refine gW ?_);(first|refine aI (s_slArri aB rfl rfl rfl rfl zbd zbd zle zle aP kK zln) ?_)))))|fail)
 exact hq.out):p:=h ⟨hq⟩
theorem eZ (h:Kept q->p:=by
 intro hq
 (first|((first|with_reducible refine aH ?_|with_reducible refine jL ?_|with_reducible refine cH ?_);(first|refine zA ?_|refine zN ?_|refine zD ?_|refine zE ?_))|fail)
 exact hq.out):p:=h ⟨hq⟩
theorem tB (h:Kept q->p:=by
 intro hq
 (first|((with_reducible refine nN ?_);refine wA ?_;(first|refine qG (eB (kW aB rfl rfl rfl rfl rfl) zln) ?_|refine qG (eB (mR aB rfl rfl rfl rfl rfl rfl rfl rfl rfl rfl rfl rfl (jV rfl) aB4 eH) zln) ?_))|fail)
 exact hq.out):p:=h ⟨hq⟩
theorem lY (h:Kept q->p:=by
 intro hq
 (first|((first|with_reducible refine nN ?_|with_reducible refine yK ?_);(first|refine wA ?_|refine wE ?_);(first|refine qG (eB (kW aB rfl rfl rfl rfl rfl) zln) ?_|refine qG (eB (mR aB rfl rfl rfl rfl rfl rfl rfl rfl rfl rfl rfl rfl (jV rfl) aB4 eH) zln) ?_))|fail)
 exact hq.out):p:=h ⟨hq⟩
theorem dZ5 (h:Kept q->p:=by
 intro hq
 (first|((first|with_reducible refine nN ?_|with_reducible refine isD_bslice ?_);(first|refine wA ?_|refine wD ?_);(first|refine qG (eB (kW aB rfl rfl rfl rfl rfl) zln) ?_|refine qG (eB (mR aB rfl rfl rfl rfl rfl rfl rfl rfl rfl rfl rfl rfl (jV rfl) aB4 eH) zln) ?_))|fail)
 exact hq.out):p:=h ⟨hq⟩
end
structure KeptA (r q:Prop):Prop where
 a:r
 out:q
theorem eA6 {p q r:Prop} (a:r) (hq:q) (h:KeptA r q->p:=by
 intro hq
 (first|((with_reducible refine aH ?_);refine aU hq.a aD rfl zby rfl rfl rfl rfl zcv rfl ztp ?_)|fail)
 exact hq.out):p:=h ⟨a,hq⟩
structure KeptK (ks fs:Dg) (q:Prop):Prop where
 out:q
section
variable {P:Dl} {sz n n0 id:Nat} {K:AK} {env env' env0:Env} {h h' h0:aO} {dfs:cA} {c:Code} {l:De} {ks fs:Dg} {p q:Prop}
theorem xL (k:KeptK ks fs q) (hE:lV env ks=some env') (hH:rG h n=some h') (hx:AW P sz c K n env' h' dfs):AW P sz c K n env h dfs:=aY ks hE hH hx
theorem dK1 (k:KeptK ks fs q) (hx:Drw P l sz K dfs id n0 env0 h0 (oV fs l l) l n0 env0 h0):AW P sz (.region id l.toArray true) K n0 env0 h0 dfs:=dE fs hx
theorem dK0 (k:KeptK ks fs q) (hx:bQ P l sz K dfs id n0 env0 h0 [] (lR fs l l) l n0 env0 h0):AW P sz (.region id l.toArray true) K n0 env0 h0 dfs:=dG fs hx
theorem aJ (ks:Dg) (hq:q) (h:KeptK ks [] q->p:=by
 intro hq
 (first|((with_reducible refine aH8 ?_);refine xL hq rfl rfl ?_;with_reducible refine pL ?_)|fail)
 exact hq.out):p:=h ⟨hq⟩
theorem bE (ks:Dg) (hq:q) (h:KeptK ks [] q->p:=by
 intro hq
 (first|((with_reducible refine aH8 ?_);refine xL hq rfl rfl ?_;with_reducible refine pL ?_)|((with_reducible refine bB ?_);refine xL hq rfl rfl ?_;refine dK1 hq ?_)|fail)
 exact hq.out):p:=h ⟨hq⟩
theorem iA (ks:Dg) (hq:q) (h:KeptK ks [] q->p:=by
 intro hq
 (first|((with_reducible refine aH8 ?_);refine xL hq rfl rfl ?_;with_reducible refine pL ?_)|((with_reducible refine bB ?_);refine xL hq rfl rfl ?_;refine dK0 hq ?_)|fail)
 exact hq.out):p:=h ⟨hq⟩
end
end Go.Proofs.YtbgehdndimlgkaaGreat
