/- Lemmas for laws of the ledger. -/
import Derived.Test.YtbgehdndimlgkaaGreatV4
import Derived.Test.YtbgehdndimlgkaaGreatV6
set_option linter.all false
namespace Go.Proofs.YtbgehdndimlgkaaGreat
open Go Go.RowKit Go.Av
set_option maxRecDepth 100000
section
variable {p:Prop}
include p
theorem zio (h:p:=by first|exact .inl rfl|exact .inr rfl):p:=h
theorem ztr (h:p:=by exact trivial):p:=h
theorem zou (h:p:=by first|exact aZ3 zfz|exact cM6 rfl rfl):p:=h
theorem zby (h:p:=by unfold Body;kernel_rfl):p:=h
theorem zpt (h:p:=by first|exact Parts.mixed _|exact Parts.closed _):p:=h
theorem ztp (h:p:=by (try simp only [tpC,AD,Cw]);exact rfl):p:=h
theorem zgd (h:p:=by first|rfl|exact gd1 aA|exact gd2 aA|exact gd3 aA|exact gd4 aA):p:=h
theorem zcm (h:p:=by first|exact AU aA|exact Be aA|rfl):p:=h
theorem zeq (h:p:=by first|exact bV8 rfl rfl aA|exact bT5 aA|(simp<;>fail)|(congr 4;omega)|(congr 3;omega)|(congr 2;omega)):p:=h
theorem zgb (h:p:=by first|rfl|assumption|exact gd1 aA|exact gd2 aA|exact gd3 aA|exact gd4 aA|(simp only [*]<;>fail)|fail):p:=h
theorem zln (h:p:=by first|rfl|with_reducible assumption|(simp<;>fail)|omega|(simp<;>omega)|assumption):p:=h
theorem zse (h:p:=by first|rfl|omega|(simp<;>fail)|fail):p:=h
theorem zcj (h:p:=by first|with_reducible exact bD8 _|with_reducible exact bL2 _|with_reducible exact bD6 _ _|with_reducible exact bD7 _ _|with_reducible exact bD9 aA|with_reducible exact bE0 aA|with_reducible exact cast_lsub aA|exact nt aA|rfl):p:=h
theorem zle (h:p:=by first|exact AA rfl|omega|(simp<;>omega)):p:=h
theorem zcv (h:p:=by first|exact qW|((repeat' (first|exact eP|refine dQ ?_ ?_|(first|exact cO|exact gX|(refine jR ?_ ?_<;>first|rfl|omega|(simp<;>fail)|fail)|(refine tC ?_;first|rfl|(simp<;>fail)|fail)|refine lP ?_)))<;>fail)|fail):p:=h
theorem zbd (h:p:=by first|exact Bd.no|exact Bd.yes rfl zcj):p:=h
theorem zfz (h:p:=by repeat' (first|exact dR cO|exact dR gX|exact gK rfl rfl zln|exact lG rfl rfl rfl zln|exact iL (gK rfl rfl zln) (jR zse zse)|exact iL (lG rfl rfl rfl zln) (jR zse zse)|refine uB rfl ?_|refine dR (lP ?_)|exact dE|refine aZ ?_ ?_|exact eP|refine dQ ?_ ?_|exact cO|exact gX|exact jR zse zse|exact lG rfl rfl eB eB|exact cK2 (by first|exact w64 aA aA|omega)|exact bS8 (by first|assumption|omega)|exact bF8 (by first|assumption|omega)|exact frz_eq (dR cO) bO2)):p:=h
theorem zrs (h:p:=by first|exact ResA.one rfl rfl rfl rfl rfl|exact ResA.agg rfl rfl rfl rfl rfl lY|exact ResA.aggr rfl rfl rfl rfl zln):p:=h
end
structure Kept (q:Prop):Prop where
 out:q
theorem dO6 {P:Di} {sz n i:Nat} {env env':Env} {h h':aL} {dfs:bM} {K:AK} {l:Dc} (ks:De) (hE:kZ env ks=some env') (hH:qH h n=some h') (hx:AWL P l.toArray sz l K n env' h' dfs):AW P sz (.region i l.toArray false) K n env h dfs:=aY ks hE hH (oV hx)
theorem stA {p q:Prop} (hq:q) (h:Kept q->p:=by
 intro hq
 (first
 | ((with_reducible refine cK9 ?_);(first|((with_reducible refine bU1 ?_);(first|(refine uU rfl (by first|assumption|with_reducible exact AU eB|with_reducible rfl) ?_)|(refine uT rfl (by first|assumption|with_reducible exact Be eB|with_reducible rfl) ?_)|(refine uU rfl rfl ?_)|(refine uT rfl rfl ?_)|(refine uU rfl (by first|exact AU aA|(simp only [*]<;>fail)|fail) ?_)|(refine uT rfl (by first|exact Be aA|(simp only [*]<;>fail)|fail) ?_)))|(with_reducible refine bK5 ?_)|(with_reducible refine cE5 ?_)|(with_reducible refine cE2 ?_)|(with_reducible refine cZ1 ?_)))
 | ((with_reducible refine bT9 ?_);(refine aN1 (bT rfl rfl bN1) rfl ?_))
 | ((with_reducible refine bT9 ?_);(refine aN1 (aB6 rfl rfl) rfl ?_))
 | ((with_reducible refine sL ?_);(first|(refine uO aB aE rfl rfl rfl rfl rfl rfl rfl rfl zln rfl sZ lX zle ?_)|((first|refine bJ2 aE rfl ?_|refine bJ2 (bT rfl rfl fV) rfl ?_);refine bG (b_appendN aB rfl rfl rfl rfl rfl rfl rfl rfl sZ lX zle) rfl ?_)|((first|refine bJ2 aE rfl ?_|refine bJ2 (bT rfl rfl fV) rfl ?_);refine bG (rS aB rfl rfl rfl rfl rfl rfl rfl rfl rfl rfl rfl zcj zle lX zle) rfl ?_)|(refine cY8 aB aE rfl rfl rfl rfl rfl rfl rfl rfl sZ zle zle ?_)|(refine n_copy aB aE rfl rfl rfl rfl rfl rfl rfl sZ zle zle ?_)))
 | ((with_reducible refine jH ?_);(first|(refine bS0 aB aE rfl rfl rfl rfl rfl rfl rfl ?_)|(refine bF7 aB aE rfl rfl rfl rfl rfl rfl rfl ?_)|(refine fG aB aE rfl rfl rfl rfl rfl rfl (by first|fail|exact AA rfl|omega|(simp<;>omega)) ?_)|(refine aN9 aB aE rfl rfl rfl nT eE eE rfl (AA rfl) eE ?_)|(refine aF3 aB aE rfl rfl rfl zln rfl zle (by first|exact pD _ _ zln|rfl) ?_)))
 | ((with_reducible refine bA ?_);(first|refine bJ2 aE rfl ?_|refine bJ2 (bT rfl rfl fV) rfl ?_);(first|refine bG (uN aB rfl rfl rfl rfl) rfl ?_|refine bG (zZ aB rfl rfl) rfl ?_))
 | ((with_reducible refine cV ?_);(first|refine bJ2 aE rfl ?_|refine bJ2 (bT rfl rfl fV) rfl ?_);(first|refine bG (aN0 (tab:=tab) rfl rfl rfl) rfl ?_|refine bG (a_box1 rfl rfl) rfl ?_|refine bG (aM9 rfl nT) rfl ?_))
 | ((with_reducible refine mP ?_);(first|refine bJ2 aE rfl ?_|refine bJ2 (bT rfl rfl fV) rfl ?_);(first|refine bG (kJ aB rfl rfl rfl rfl rfl) rfl ?_|refine bG (lU aB rfl rfl rfl rfl rfl rfl rfl rfl rfl rfl rfl rfl (jG rfl) yM eE) rfl ?_))
 | ((with_reducible refine bU0 ?_);(first|refine bJ2 aE rfl ?_|refine bJ2 (bT rfl rfl fV) rfl ?_);(first|refine bG (aO0 aB rfl rfl rfl rfl rfl rfl rfl rfl rfl rfl zcj zcj zle zle vM rfl) rfl ?_))
 | ((with_reducible refine bG0 ?_);(refine bD4 rfl aE rfl ?_))
 | ((with_reducible refine isA_conv ?_);(first|refine dT6 aE rfl ?_|refine dT6 (bT rfl rfl fV) rfl ?_);refine pN (a_toBytes aB rfl rfl rfl rfl rfl rfl rfl bN6 bN9 lX) ?_)
 | (((with_reducible refine cG ?_);(first|refine dT9 aE rfl ?_|refine dT9 (bT rfl rfl fV) rfl ?_));(first|((with_reducible refine aP3 ?_);(first|refine aG (oQ rfl) ?_))|((with_reducible refine gJ ?_);(first|refine aG (jN aB rfl rfl rfl rfl iJ) ?_|refine aG (iD aB rfl rfl rfl rfl iJ) ?_|refine aG (iC aB rfl rfl rfl iJ) ?_|refine aG (aD7 aB rfl rfl rfl rfl rfl rfl lY) ?_|refine aG (iF aB rfl rfl rfl rfl qR zln) ?_|refine aG (iE aB rfl rfl rfl qR zln) ?_))|((with_reducible refine bQ7 ?_);(first|refine aG (bY9 aB rfl rfl zcj rfl rfl rfl rfl zle) ?_|refine aG (bZ0 aB rfl rfl zcj rfl rfl rfl rfl zle) ?_|refine aG (bY8 aB rfl rfl zcj rfl rfl rfl zle) ?_|refine aG (s_ixAi aB rfl rfl zcj rfl rfl rfl zle) ?_))|((with_reducible refine bU (o := .add) ?_);(first|refine aG (iU rfl rfl rfl hQ) ?_|refine aG (fZ rfl cP rfl cP rfl) ?_|refine aG (lR rfl rfl rfl hQ) ?_))|((with_reducible refine bU (o := .sub) ?_);(first|refine aG (iU rfl rfl rfl hQ) ?_|refine aG (fZ rfl cP rfl cP rfl) ?_|refine aG (lR rfl rfl rfl hQ) ?_))|((with_reducible refine bU (o := .mul) ?_);(first|refine aG (iU rfl rfl rfl hQ) ?_|refine aG (fZ rfl cP rfl cP rfl) ?_|refine aG (lR rfl rfl rfl hQ) ?_))|((with_reducible refine bU (o := .eql) ?_);(first|refine aG (iV rfl rfl rfl rfl) ?_|refine aG (s_eqlB aB rfl rfl rfl rfl rfl) ?_|refine aG (aD5 rfl rfl rfl) ?_))|((with_reducible refine bU (o := .neq) ?_);(first|refine aG (iV rfl rfl rfl rfl) ?_|refine aG (s_neqB aB rfl rfl rfl rfl rfl) ?_|refine aG (s_neqS rfl rfl rfl) ?_))|((with_reducible refine bU (o := .lss) ?_);(first|refine aG (iV rfl rfl rfl rfl) ?_))|((with_reducible refine bU (o := .leq) ?_);(first|refine aG (iV rfl rfl rfl rfl) ?_))|((with_reducible refine bU (o := .gtr) ?_);(first|refine aG (iV rfl rfl rfl rfl) ?_))|((with_reducible refine bU (o := .geq) ?_);(first|refine aG (iV rfl rfl rfl rfl) ?_))|((with_reducible refine bU (o := .rem) ?_);(first|refine aG (zO (k := .i64) rfl rfl nE yL) ?_|refine aG (zO rfl rfl nE yL) ?_))|((with_reducible refine bU (o := .quo) ?_);(first|refine aG (s_quo (k := .i64) rfl rfl nE yK) ?_|refine aG (s_quo rfl rfl nE yK) ?_))|((with_reducible refine bU (o := .and) ?_);(first|refine aG (fZ rfl cP rfl cP rfl) ?_|refine aG (zM rfl rfl rfl) ?_))|((with_reducible refine bU (o := .or) ?_);(first|refine aG (fZ rfl cP rfl cP rfl) ?_|refine aG (bI0 rfl rfl rfl) ?_))|((with_reducible refine bU (o := .xor) ?_);(first|refine aG (fZ rfl cP rfl cP rfl) ?_|refine aG (bA9 rfl rfl rfl) ?_))|((with_reducible refine bU (o := .andNot) ?_);(first|refine aG (s_andNot rfl rfl rfl) ?_))|((with_reducible refine bU (o := .shl) ?_);(first|refine aG (aD8 rfl cP rfl zcj) ?_|refine aG (aK8 rfl rfl zle rfl) ?_))|((with_reducible refine bU (o := .shr) ?_);(first|refine aG (sT rfl cP rfl zcj) ?_|refine aG (aK9 rfl rfl zle rfl) ?_))|((with_reducible refine vT ?_);(first|refine aG (xC rfl) ?_))|((with_reducible refine aP1 ?_);(first|refine aG (aR8 aB rfl rfl rfl) ?_|refine aG (aS0 aB rfl rfl rfl) ?_|refine aG (aD6 aB rfl rfl rfl) ?_|refine aG (aR9 aB rfl rfl rfl) ?_|refine aG (aR7 aB rfl rfl rfl) ?_|refine aG (bA8 rfl rfl rfl) ?_|refine aG (bZ2 rfl rfl rfl) ?_))|((with_reducible refine cG8 ?_);(first|refine aG (bZ6 rfl rfl) ?_|refine aG (xG rfl cP) ?_|refine aG (bZ3 rfl bN8) ?_|refine aG (rN rfl rfl) ?_))|((with_reducible refine sF ?_);(first|refine aG (xJ rfl cP aB rfl rfl rfl) ?_|refine aG (s_convWW rfl cP aB rfl rfl rfl) ?_|refine aG (xH rfl aB rfl rfl rfl) ?_|refine aG (xI rfl aB rfl rfl rfl) ?_|refine aG (gU aB rfl rfl rfl rfl hQ) ?_|refine aG (s_convStr aB rfl rfl rfl rfl) ?_|refine aG (aE0 aB rfl rfl rfl rfl rfl rfl rfl bN5) ?_))|((with_reducible refine aP2 ?_);(first|refine aG (fK aB rfl rfl rfl rfl rfl rfl) ?_|refine aG (mX aB rfl rfl rfl rfl rfl rfl) ?_))|((with_reducible refine e_fld ?_);(first|refine aG (s_field1 aB rfl rfl rfl rfl rfl rfl nT eE) ?_|refine aG (s_fieldA aB rfl rfl rfl rfl rfl rfl nT eE lY) ?_))|((with_reducible refine bQ6 ?_);(first|refine aG (sS rfl rfl) ?_))|((with_reducible refine iR ?_);(first|refine aG (aS2 aB rfl rfl rfl rfl zbd zle rfl rfl) ?_|refine aG (bZ8 aB rfl rfl rfl rfl zbd zbd zle zle rfl rfl) ?_|refine aG (cA0 aB rfl rfl rfl rfl zbd zbd zle zle rfl) ?_|refine aG (aD9 aB rfl rfl rfl rfl zbd zbd zle zle aN) ?_|refine aG (s_slStr aB rfl rfl rfl zbd zbd zle zle) ?_|refine aG (s_slArri aB rfl rfl rfl rfl zbd zbd zle zle aN qR zln) ?_|refine aG (bZ9 aB rfl rfl rfl zbd rfl) ?_|refine aG (aS3 aB rfl rfl rfl rfl rfl zbd zbd zle zle) ?_))|((with_reducible refine e_ix ?_);(first|refine aG (s_ixV1 aB rfl rfl zcj rfl rfl rfl rfl rfl zle iJ) ?_|refine aG (s_ixStr aB rfl rfl zcj rfl rfl iJ) ?_))|((with_reducible refine aA7 ?_);(first|refine aG (xF aB rfl rfl rfl rfl (fM rfl) eE lY) ?_|refine aG (rM aB rfl rfl rfl rfl (fM rfl) eE lY) ?_))|((with_reducible refine aP4 ?_);(first|refine aG (uL rfl rfl) ?_|refine aG (uK rfl rfl) ?_|refine aG (xL rfl bN4 rfl) ?_|refine aG (xK rfl bN3 rfl) ?_))|((with_reducible refine vU ?_);(first|refine aG (qJ rfl) ?_))|((with_reducible refine bQ8 ?_);(first|refine aG (gP rfl) ?_|refine aG (s_nilChecki rfl) ?_))))
 | (with_reducible refine cE7 ?_)
 | (with_reducible refine k_then ?_)
 | (with_reducible refine k_thenX ?_)
 | (with_reducible refine k_thenR ?_)
 | (with_reducible refine dK6 ?_)
 | (with_reducible refine dC9 ?_)
 | (refine dC7 rfl ?_)
 | (refine dC8 rfl ?_)
 | ((with_reducible refine bT9 ?_);(refine aN1 (bT rfl rfl bN2) rfl ?_)))
 exact hq.out):p:=h ⟨hq⟩
theorem stD {p q:Prop} (hq:q) (h:Kept q->p:=by
 intro hq
 (first
 | (refine cG4 aT aT aT rfl ?_)
 | ((with_reducible refine aQ4 ?_);(refine aP0 (bT rfl rfl bN1) ?_))
 | ((with_reducible refine aQ4 ?_);(refine aP0 (aB6 rfl rfl) ?_))
 | ((with_reducible refine isD_bi ?_);(first|((first|refine bJ3 aE ?_|refine bJ3 (bT rfl rfl fV) ?_);refine bG (b_appendN aB rfl rfl rfl rfl rfl rfl rfl rfl sZ lX zle) rfl ?_)|((first|refine bJ3 aE ?_|refine bJ3 (bT rfl rfl fV) ?_);refine bG (rS aB rfl rfl rfl rfl rfl rfl rfl rfl rfl rfl rfl zcj zle lX zle) rfl ?_)))
 | ((with_reducible refine isD_alloc ?_);(first|refine bJ3 aE ?_|refine bJ3 (bT rfl rfl fV) ?_);(first|refine bG (uN aB rfl rfl rfl rfl) rfl ?_|refine bG (zZ aB rfl rfl) rfl ?_))
 | ((with_reducible refine isD_box ?_);(first|refine bJ3 aE ?_|refine bJ3 (bT rfl rfl fV) ?_);(first|refine bG (aN0 (tab:=tab) rfl rfl rfl) rfl ?_|refine bG (a_box1 rfl rfl) rfl ?_|refine bG (aM9 rfl nT) rfl ?_))
 | ((with_reducible refine isD_bslice ?_);(first|refine bJ3 aE ?_|refine bJ3 (bT rfl rfl fV) ?_);(first|refine bG (kJ aB rfl rfl rfl rfl rfl) rfl ?_|refine bG (lU aB rfl rfl rfl rfl rfl rfl rfl rfl rfl rfl rfl rfl (jG rfl) yM eE) rfl ?_))
 | ((with_reducible refine isD_mksl ?_);(first|refine bJ3 aE ?_|refine bJ3 (bT rfl rfl fV) ?_);(first|refine bG (aO0 aB rfl rfl rfl rfl rfl rfl rfl rfl rfl rfl zcj zcj zle zle vM rfl) rfl ?_))
 | ((with_reducible refine isD_conv ?_);(first|refine dT7 aE ?_|refine dT7 (bT rfl rfl fV) ?_);refine pN (a_toBytes aB rfl rfl rfl rfl rfl rfl rfl bN6 bN9 lX) ?_)
 | (((with_reducible refine eD ?_);(first|refine dU0 aE ?_|refine dU0 (bT rfl rfl fV) ?_));(first|((with_reducible refine aP3 ?_);(first|refine aG (oQ rfl) ?_))|((with_reducible refine gJ ?_);(first|refine aG (jN aB rfl rfl rfl rfl iJ) ?_|refine aG (iD aB rfl rfl rfl rfl iJ) ?_|refine aG (iC aB rfl rfl rfl iJ) ?_|refine aG (aD7 aB rfl rfl rfl rfl rfl rfl lY) ?_|refine aG (iF aB rfl rfl rfl rfl qR zln) ?_|refine aG (iE aB rfl rfl rfl qR zln) ?_))|((with_reducible refine bQ7 ?_);(first|refine aG (bY9 aB rfl rfl zcj rfl rfl rfl rfl zle) ?_|refine aG (bZ0 aB rfl rfl zcj rfl rfl rfl rfl zle) ?_|refine aG (bY8 aB rfl rfl zcj rfl rfl rfl zle) ?_|refine aG (s_ixAi aB rfl rfl zcj rfl rfl rfl zle) ?_))|((with_reducible refine bU (o := .add) ?_);(first|refine aG (iU rfl rfl rfl hQ) ?_|refine aG (fZ rfl cP rfl cP rfl) ?_|refine aG (lR rfl rfl rfl hQ) ?_))|((with_reducible refine bU (o := .sub) ?_);(first|refine aG (iU rfl rfl rfl hQ) ?_|refine aG (fZ rfl cP rfl cP rfl) ?_|refine aG (lR rfl rfl rfl hQ) ?_))|((with_reducible refine bU (o := .mul) ?_);(first|refine aG (iU rfl rfl rfl hQ) ?_|refine aG (fZ rfl cP rfl cP rfl) ?_|refine aG (lR rfl rfl rfl hQ) ?_))|((with_reducible refine bU (o := .eql) ?_);(first|refine aG (iV rfl rfl rfl rfl) ?_|refine aG (s_eqlB aB rfl rfl rfl rfl rfl) ?_|refine aG (aD5 rfl rfl rfl) ?_))|((with_reducible refine bU (o := .neq) ?_);(first|refine aG (iV rfl rfl rfl rfl) ?_|refine aG (s_neqB aB rfl rfl rfl rfl rfl) ?_|refine aG (s_neqS rfl rfl rfl) ?_))|((with_reducible refine bU (o := .lss) ?_);(first|refine aG (iV rfl rfl rfl rfl) ?_))|((with_reducible refine bU (o := .leq) ?_);(first|refine aG (iV rfl rfl rfl rfl) ?_))|((with_reducible refine bU (o := .gtr) ?_);(first|refine aG (iV rfl rfl rfl rfl) ?_))|((with_reducible refine bU (o := .geq) ?_);(first|refine aG (iV rfl rfl rfl rfl) ?_))|((with_reducible refine bU (o := .rem) ?_);(first|refine aG (zO (k := .i64) rfl rfl nE yL) ?_|refine aG (zO rfl rfl nE yL) ?_))|((with_reducible refine bU (o := .quo) ?_);(first|refine aG (s_quo (k := .i64) rfl rfl nE yK) ?_|refine aG (s_quo rfl rfl nE yK) ?_))|((with_reducible refine bU (o := .and) ?_);(first|refine aG (fZ rfl cP rfl cP rfl) ?_|refine aG (zM rfl rfl rfl) ?_))|((with_reducible refine bU (o := .or) ?_);(first|refine aG (fZ rfl cP rfl cP rfl) ?_|refine aG (bI0 rfl rfl rfl) ?_))|((with_reducible refine bU (o := .xor) ?_);(first|refine aG (fZ rfl cP rfl cP rfl) ?_|refine aG (bA9 rfl rfl rfl) ?_))|((with_reducible refine bU (o := .andNot) ?_);(first|refine aG (s_andNot rfl rfl rfl) ?_))|((with_reducible refine bU (o := .shl) ?_);(first|refine aG (aD8 rfl cP rfl zcj) ?_|refine aG (aK8 rfl rfl zle rfl) ?_))|((with_reducible refine bU (o := .shr) ?_);(first|refine aG (sT rfl cP rfl zcj) ?_|refine aG (aK9 rfl rfl zle rfl) ?_))|((with_reducible refine vT ?_);(first|refine aG (xC rfl) ?_))|((with_reducible refine aP1 ?_);(first|refine aG (aR8 aB rfl rfl rfl) ?_|refine aG (aS0 aB rfl rfl rfl) ?_|refine aG (aD6 aB rfl rfl rfl) ?_|refine aG (aR9 aB rfl rfl rfl) ?_|refine aG (aR7 aB rfl rfl rfl) ?_|refine aG (bA8 rfl rfl rfl) ?_|refine aG (bZ2 rfl rfl rfl) ?_))|((with_reducible refine cG8 ?_);(first|refine aG (bZ6 rfl rfl) ?_|refine aG (xG rfl cP) ?_|refine aG (bZ3 rfl bN8) ?_|refine aG (rN rfl rfl) ?_))|((with_reducible refine sF ?_);(first|refine aG (xJ rfl cP aB rfl rfl rfl) ?_|refine aG (s_convWW rfl cP aB rfl rfl rfl) ?_|refine aG (xH rfl aB rfl rfl rfl) ?_|refine aG (xI rfl aB rfl rfl rfl) ?_|refine aG (gU aB rfl rfl rfl rfl hQ) ?_|refine aG (s_convStr aB rfl rfl rfl rfl) ?_|refine aG (aE0 aB rfl rfl rfl rfl rfl rfl rfl bN5) ?_))|((with_reducible refine aP2 ?_);(first|refine aG (fK aB rfl rfl rfl rfl rfl rfl) ?_|refine aG (mX aB rfl rfl rfl rfl rfl rfl) ?_))|((with_reducible refine e_fld ?_);(first|refine aG (s_field1 aB rfl rfl rfl rfl rfl rfl nT eE) ?_|refine aG (s_fieldA aB rfl rfl rfl rfl rfl rfl nT eE lY) ?_))|((with_reducible refine bQ6 ?_);(first|refine aG (sS rfl rfl) ?_))|((with_reducible refine iR ?_);(first|refine aG (aS2 aB rfl rfl rfl rfl zbd zle rfl rfl) ?_|refine aG (bZ8 aB rfl rfl rfl rfl zbd zbd zle zle rfl rfl) ?_|refine aG (cA0 aB rfl rfl rfl rfl zbd zbd zle zle rfl) ?_|refine aG (aD9 aB rfl rfl rfl rfl zbd zbd zle zle aN) ?_|refine aG (s_slStr aB rfl rfl rfl zbd zbd zle zle) ?_|refine aG (s_slArri aB rfl rfl rfl rfl zbd zbd zle zle aN qR zln) ?_|refine aG (bZ9 aB rfl rfl rfl zbd rfl) ?_|refine aG (aS3 aB rfl rfl rfl rfl rfl zbd zbd zle zle) ?_))|((with_reducible refine e_ix ?_);(first|refine aG (s_ixV1 aB rfl rfl zcj rfl rfl rfl rfl rfl zle iJ) ?_|refine aG (s_ixStr aB rfl rfl zcj rfl rfl iJ) ?_))|((with_reducible refine aA7 ?_);(first|refine aG (xF aB rfl rfl rfl rfl (fM rfl) eE lY) ?_|refine aG (rM aB rfl rfl rfl rfl (fM rfl) eE lY) ?_))|((with_reducible refine aP4 ?_);(first|refine aG (uL rfl rfl) ?_|refine aG (uK rfl rfl) ?_|refine aG (xL rfl bN4 rfl) ?_|refine aG (xK rfl bN3 rfl) ?_))|((with_reducible refine vU ?_);(first|refine aG (qJ rfl) ?_))|((with_reducible refine bQ8 ?_);(first|refine aG (gP rfl) ?_|refine aG (s_nilChecki rfl) ?_))))
 | ((with_reducible refine aQ4 ?_);(refine aP0 (bT rfl rfl bN2) ?_)))
 exact hq.out):p:=h ⟨hq⟩
theorem stE {p q:Prop} (hq:q) (h:Kept q->p:=by
 intro hq
 (first
 | (refine bP8 aT aT aT aT rfl ?_)
 | ((with_reducible refine isEk_g ?_);(refine e_skip (bT rfl rfl bN1) ?_))
 | ((with_reducible refine isEk_g ?_);(refine e_skip (aB6 rfl rfl) ?_))
 | ((with_reducible refine isE_bi ?_);(first|(refine d_append aB aE rfl rfl rfl rfl rfl rfl rfl rfl rfl zln rfl sZ lX zle rfl ?_)|(refine d_append aB (bT rfl rfl fV) rfl rfl rfl rfl rfl rfl rfl rfl rfl zln rfl sZ lX zle rfl ?_)|((first|refine bJ4 aE rfl rfl ?_|refine bJ4 (bT rfl rfl fV) rfl rfl ?_);refine bG (b_appendN aB rfl rfl rfl rfl rfl rfl rfl rfl sZ lX zle) rfl ?_)|((first|refine bJ4 aE rfl rfl ?_|refine bJ4 (bT rfl rfl fV) rfl rfl ?_);refine bG (rS aB rfl rfl rfl rfl rfl rfl rfl rfl rfl rfl rfl zcj zle lX zle) rfl ?_)))
 | ((with_reducible refine bG1 ?_);(first|(refine bP5 aB aE rfl rfl rfl rfl rfl rfl rfl rfl rfl rfl ?_)|(refine d_store1r aB aE rfl rfl rfl rfl rfl rfl rfl rfl rfl rfl ?_)|(refine d_store1rL aB aE rfl rfl rfl rfl rfl rfl rfl rfl zle rfl ?_)|(refine bP6 aB aE rfl rfl rfl rfl rfl nT eE eE rfl (AA rfl) eE rfl ?_)|(refine bE8 aB aE rfl rfl rfl rfl rfl zln rfl zle (by first|exact pD _ _ zln|rfl) rfl ?_)))
 | ((with_reducible refine mF ?_);(first|refine bJ4 aE rfl rfl ?_|refine bJ4 (bT rfl rfl fV) rfl rfl ?_);(first|refine bG (uN aB rfl rfl rfl rfl) rfl ?_|refine bG (zZ aB rfl rfl) rfl ?_))
 | ((with_reducible refine isE_box ?_);(first|refine bJ4 aE rfl rfl ?_|refine bJ4 (bT rfl rfl fV) rfl rfl ?_);(first|refine bG (aN0 (tab:=tab) rfl rfl rfl) rfl ?_|refine bG (a_box1 rfl rfl) rfl ?_|refine bG (aM9 rfl nT) rfl ?_))
 | ((with_reducible refine wK ?_);(first|refine bJ4 aE rfl rfl ?_|refine bJ4 (bT rfl rfl fV) rfl rfl ?_);(first|refine bG (kJ aB rfl rfl rfl rfl rfl) rfl ?_|refine bG (lU aB rfl rfl rfl rfl rfl rfl rfl rfl rfl rfl rfl rfl (jG rfl) yM eE) rfl ?_))
 | ((with_reducible refine isE_mksl ?_);(first|refine bJ4 aE rfl rfl ?_|refine bJ4 (bT rfl rfl fV) rfl rfl ?_);(first|refine bG (aO0 aB rfl rfl rfl rfl rfl rfl rfl rfl rfl rfl zcj zcj zle zle vM rfl) rfl ?_))
 | ((with_reducible refine isE_conv ?_);(first|refine dT8 aE rfl rfl ?_|refine dT8 (bT rfl rfl fV) rfl rfl ?_);refine pN (a_toBytes aB rfl rfl rfl rfl rfl rfl rfl bN6 bN9 lX) ?_)
 | (((with_reducible refine kW ?_);(first|refine dU1 aE rfl rfl ?_|refine dU1 (bT rfl rfl fV) rfl rfl ?_));(first|((with_reducible refine aP3 ?_);(first|refine aG (oQ rfl) ?_))|((with_reducible refine gJ ?_);(first|refine aG (jN aB rfl rfl rfl rfl iJ) ?_|refine aG (iD aB rfl rfl rfl rfl iJ) ?_|refine aG (iC aB rfl rfl rfl iJ) ?_|refine aG (aD7 aB rfl rfl rfl rfl rfl rfl lY) ?_|refine aG (iF aB rfl rfl rfl rfl qR zln) ?_|refine aG (iE aB rfl rfl rfl qR zln) ?_))|((with_reducible refine bQ7 ?_);(first|refine aG (bY9 aB rfl rfl zcj rfl rfl rfl rfl zle) ?_|refine aG (bZ0 aB rfl rfl zcj rfl rfl rfl rfl zle) ?_|refine aG (bY8 aB rfl rfl zcj rfl rfl rfl zle) ?_|refine aG (s_ixAi aB rfl rfl zcj rfl rfl rfl zle) ?_))|((with_reducible refine bU (o := .add) ?_);(first|refine aG (iU rfl rfl rfl hQ) ?_|refine aG (fZ rfl cP rfl cP rfl) ?_|refine aG (lR rfl rfl rfl hQ) ?_))|((with_reducible refine bU (o := .sub) ?_);(first|refine aG (iU rfl rfl rfl hQ) ?_|refine aG (fZ rfl cP rfl cP rfl) ?_|refine aG (lR rfl rfl rfl hQ) ?_))|((with_reducible refine bU (o := .mul) ?_);(first|refine aG (iU rfl rfl rfl hQ) ?_|refine aG (fZ rfl cP rfl cP rfl) ?_|refine aG (lR rfl rfl rfl hQ) ?_))|((with_reducible refine bU (o := .eql) ?_);(first|refine aG (iV rfl rfl rfl rfl) ?_|refine aG (s_eqlB aB rfl rfl rfl rfl rfl) ?_|refine aG (aD5 rfl rfl rfl) ?_))|((with_reducible refine bU (o := .neq) ?_);(first|refine aG (iV rfl rfl rfl rfl) ?_|refine aG (s_neqB aB rfl rfl rfl rfl rfl) ?_|refine aG (s_neqS rfl rfl rfl) ?_))|((with_reducible refine bU (o := .lss) ?_);(first|refine aG (iV rfl rfl rfl rfl) ?_))|((with_reducible refine bU (o := .leq) ?_);(first|refine aG (iV rfl rfl rfl rfl) ?_))|((with_reducible refine bU (o := .gtr) ?_);(first|refine aG (iV rfl rfl rfl rfl) ?_))|((with_reducible refine bU (o := .geq) ?_);(first|refine aG (iV rfl rfl rfl rfl) ?_))|((with_reducible refine bU (o := .rem) ?_);(first|refine aG (zO (k := .i64) rfl rfl nE yL) ?_|refine aG (zO rfl rfl nE yL) ?_))|((with_reducible refine bU (o := .quo) ?_);(first|refine aG (s_quo (k := .i64) rfl rfl nE yK) ?_|refine aG (s_quo rfl rfl nE yK) ?_))|((with_reducible refine bU (o := .and) ?_);(first|refine aG (fZ rfl cP rfl cP rfl) ?_|refine aG (zM rfl rfl rfl) ?_))|((with_reducible refine bU (o := .or) ?_);(first|refine aG (fZ rfl cP rfl cP rfl) ?_|refine aG (bI0 rfl rfl rfl) ?_))|((with_reducible refine bU (o := .xor) ?_);(first|refine aG (fZ rfl cP rfl cP rfl) ?_|refine aG (bA9 rfl rfl rfl) ?_))|((with_reducible refine bU (o := .andNot) ?_);(first|refine aG (s_andNot rfl rfl rfl) ?_))|((with_reducible refine bU (o := .shl) ?_);(first|refine aG (aD8 rfl cP rfl zcj) ?_|refine aG (aK8 rfl rfl zle rfl) ?_))|((with_reducible refine bU (o := .shr) ?_);(first|refine aG (sT rfl cP rfl zcj) ?_|refine aG (aK9 rfl rfl zle rfl) ?_))|((with_reducible refine vT ?_);(first|refine aG (xC rfl) ?_))|((with_reducible refine aP1 ?_);(first|refine aG (aR8 aB rfl rfl rfl) ?_|refine aG (aS0 aB rfl rfl rfl) ?_|refine aG (aD6 aB rfl rfl rfl) ?_|refine aG (aR9 aB rfl rfl rfl) ?_|refine aG (aR7 aB rfl rfl rfl) ?_|refine aG (bA8 rfl rfl rfl) ?_|refine aG (bZ2 rfl rfl rfl) ?_))|((with_reducible refine cG8 ?_);(first|refine aG (bZ6 rfl rfl) ?_|refine aG (xG rfl cP) ?_|refine aG (bZ3 rfl bN8) ?_|refine aG (rN rfl rfl) ?_))|((with_reducible refine sF ?_);(first|refine aG (xJ rfl cP aB rfl rfl rfl) ?_|refine aG (s_convWW rfl cP aB rfl rfl rfl) ?_|refine aG (xH rfl aB rfl rfl rfl) ?_|refine aG (xI rfl aB rfl rfl rfl) ?_|refine aG (gU aB rfl rfl rfl rfl hQ) ?_|refine aG (s_convStr aB rfl rfl rfl rfl) ?_|refine aG (aE0 aB rfl rfl rfl rfl rfl rfl rfl bN5) ?_))|((with_reducible refine aP2 ?_);(first|refine aG (fK aB rfl rfl rfl rfl rfl rfl) ?_|refine aG (mX aB rfl rfl rfl rfl rfl rfl) ?_))|((with_reducible refine e_fld ?_);(first|refine aG (s_field1 aB rfl rfl rfl rfl rfl rfl nT eE) ?_|refine aG (s_fieldA aB rfl rfl rfl rfl rfl rfl nT eE lY) ?_))|((with_reducible refine bQ6 ?_);(first|refine aG (sS rfl rfl) ?_))|((with_reducible refine iR ?_);(first|refine aG (aS2 aB rfl rfl rfl rfl zbd zle rfl rfl) ?_|refine aG (bZ8 aB rfl rfl rfl rfl zbd zbd zle zle rfl rfl) ?_|refine aG (cA0 aB rfl rfl rfl rfl zbd zbd zle zle rfl) ?_|refine aG (aD9 aB rfl rfl rfl rfl zbd zbd zle zle aN) ?_|refine aG (s_slStr aB rfl rfl rfl zbd zbd zle zle) ?_|refine aG (s_slArri aB rfl rfl rfl rfl zbd zbd zle zle aN qR zln) ?_|refine aG (bZ9 aB rfl rfl rfl zbd rfl) ?_|refine aG (aS3 aB rfl rfl rfl rfl rfl zbd zbd zle zle) ?_))|((with_reducible refine e_ix ?_);(first|refine aG (s_ixV1 aB rfl rfl zcj rfl rfl rfl rfl rfl zle iJ) ?_|refine aG (s_ixStr aB rfl rfl zcj rfl rfl iJ) ?_))|((with_reducible refine aA7 ?_);(first|refine aG (xF aB rfl rfl rfl rfl (fM rfl) eE lY) ?_|refine aG (rM aB rfl rfl rfl rfl (fM rfl) eE lY) ?_))|((with_reducible refine aP4 ?_);(first|refine aG (uL rfl rfl) ?_|refine aG (uK rfl rfl) ?_|refine aG (xL rfl bN4 rfl) ?_|refine aG (xK rfl bN3 rfl) ?_))|((with_reducible refine vU ?_);(first|refine aG (qJ rfl) ?_))|((with_reducible refine bQ8 ?_);(first|refine aG (gP rfl) ?_|refine aG (s_nilChecki rfl) ?_))))
 | ((with_reducible refine isEk_g ?_);(refine e_skip (bT rfl rfl bN2) ?_)))
 exact hq.out):p:=h ⟨hq⟩
section
variable {P:Di} {ops:Dd} {sz n n0 i m t:Nat} {K:AK} {env env0:Env} {h h0 hr:aL} {es:List Eat} {ids:De} {dfs:bM} {rest l:Dc} {op:Op} {ty:Dh} {pos:String} {aft:Df} {gd:Da} {f:FuncId} {xs:Dm} {ats:Dl}
theorem xA (hh:∃v,Still P ⟨some t,op,ty,pos,aft,gd⟩ (evA env) h v/\AWL P ops sz rest K n ((t,v)::env) h dfs) (hg:guardA ops env ⟨some t,op,ty,pos,aft,gd⟩ true:=by first|exact aE|exact (bT rfl rfl fV)) (hd:Nat.blt t sz=true:=by rfl):AWL P ops sz (⟨some t,op,ty,pos,aft,gd⟩::rest) K n env h dfs:=dT9 hg hd hh
theorem xD (hh:∃v,Still P ⟨some t,op,ty,pos,aft,gd⟩ (evT (Oper.looksAt l.toArray ⟨some t,op,ty,pos,aft,gd⟩) env) h v/\Drw P l sz K dfs i n0 env0 h0 m rest n ((t,v)::env) h) (hg:guardA l.toArray env ⟨some t,op,ty,pos,aft,gd⟩ true:=by first|exact aE|exact (bT rfl rfl fV)):Drw P l sz K dfs i n0 env0 h0 (m+1) (⟨some t,op,ty,pos,aft,gd⟩::rest) n env h:=dU0 hg hh
theorem xE (hh:∃v,Still P ⟨some t,op,ty,pos,aft,gd⟩ (evT (Oper.looksAt l.toArray ⟨some t,op,ty,pos,aft,gd⟩) env) hr v/\bN P l sz K dfs i n0 env0 h0 (es++[(ids,none)]) m rest n ((t,v)::env) h) (hg:guardA l.toArray env ⟨some t,op,ty,pos,aft,gd⟩ true:=by first|exact aE|exact (bT rfl rfl fV)) (hi:tU env (Oper.looksAt l.toArray ⟨some t,op,ty,pos,aft,gd⟩)=some ids:=by rfl) (hf:jT ids h=some hr:=by rfl):bN P l sz K dfs i n0 env0 h0 es (m+1) (⟨some t,op,ty,pos,aft,gd⟩::rest) n env h:=dU1 hg hi hf hh
theorem wA (hh:∃v,Adds P ⟨some t,op,ty,pos,aft,gd⟩ (evA env) h v [] n n/\AWL P ops sz rest K n ((t,v)::env) h dfs) (hg:guardA ops env ⟨some t,op,ty,pos,aft,gd⟩ true:=by first|exact aE|exact (bT rfl rfl fV)) (hd:Nat.blt t sz=true:=by rfl):AWL P ops sz (⟨some t,op,ty,pos,aft,gd⟩::rest) K n env h dfs:=dT6 hg hd hh
theorem wD (hh:∃v,Adds P ⟨some t,op,ty,pos,aft,gd⟩ (evT (Oper.looksAt l.toArray ⟨some t,op,ty,pos,aft,gd⟩) env) h v [] n n/\Drw P l sz K dfs i n0 env0 h0 m rest n ((t,v)::env) h) (hg:guardA l.toArray env ⟨some t,op,ty,pos,aft,gd⟩ true:=by first|exact aE|exact (bT rfl rfl fV)):Drw P l sz K dfs i n0 env0 h0 (m+1) (⟨some t,op,ty,pos,aft,gd⟩::rest) n env h:=dT7 hg hh
theorem wE (hh:∃v,Adds P ⟨some t,op,ty,pos,aft,gd⟩ (evT (Oper.looksAt l.toArray ⟨some t,op,ty,pos,aft,gd⟩) env) hr v [] n n/\bN P l sz K dfs i n0 env0 h0 (es++[(ids,none)]) m rest n ((t,v)::env) h) (hg:guardA l.toArray env ⟨some t,op,ty,pos,aft,gd⟩ true:=by first|exact aE|exact (bT rfl rfl fV)) (hi:tU env (Oper.looksAt l.toArray ⟨some t,op,ty,pos,aft,gd⟩)=some ids:=by rfl) (hf:jT ids h=some hr:=by rfl):bN P l sz K dfs i n0 env0 h0 es (m+1) (⟨some t,op,ty,pos,aft,gd⟩::rest) n env h:=dT8 hg hi hf hh
theorem yA (hh:∃v obj,obj.live=some obj/\Adds P ⟨some t,op,ty,pos,aft,gd⟩ (evA env) h v [(n,obj)] n (n+1)/\AWL P ops sz rest K (n+1) ((t,v)::env) ((n,obj)::h) dfs) (hg:guardA ops env ⟨some t,op,ty,pos,aft,gd⟩ true:=by first|exact aE|exact (bT rfl rfl fV)) (hd:Nat.blt t sz=true:=by rfl):AWL P ops sz (⟨some t,op,ty,pos,aft,gd⟩::rest) K n env h dfs:=bJ2 hg hd hh
theorem yD (hh:∃v obj,obj.live=some obj/\Adds P ⟨some t,op,ty,pos,aft,gd⟩ (evT (Oper.looksAt l.toArray ⟨some t,op,ty,pos,aft,gd⟩) env) h v [(n,obj)] n (n+1)/\Drw P l sz K dfs i n0 env0 h0 m rest (n+1) ((t,v)::env) ((n,obj)::h)) (hg:guardA l.toArray env ⟨some t,op,ty,pos,aft,gd⟩ true:=by first|exact aE|exact (bT rfl rfl fV)):Drw P l sz K dfs i n0 env0 h0 (m+1) (⟨some t,op,ty,pos,aft,gd⟩::rest) n env h:=bJ3 hg hh
theorem yE (hh:∃v obj,obj.live=some obj/\Adds P ⟨some t,op,ty,pos,aft,gd⟩ (evT (Oper.looksAt l.toArray ⟨some t,op,ty,pos,aft,gd⟩) env) hr v [(n,obj)] n (n+1)/\bN P l sz K dfs i n0 env0 h0 (es++[(n::ids,none)]) m rest (n+1) ((t,v)::env) ((n,obj)::h)) (hg:guardA l.toArray env ⟨some t,op,ty,pos,aft,gd⟩ true:=by first|exact aE|exact (bT rfl rfl fV)) (hi:tU env (Oper.looksAt l.toArray ⟨some t,op,ty,pos,aft,gd⟩)=some ids:=by rfl) (hf:jT ids h=some hr:=by rfl):bN P l sz K dfs i n0 env0 h0 es (m+1) (⟨some t,op,ty,pos,aft,gd⟩::rest) n env h:=bJ4 hg hi hf hh
theorem zA (hh:iH P f xs (evA env) (fun r=>AWL P ops sz rest K n ((t,r)::env) h dfs) (fun k size T rc=>AWL P ops sz rest K (n+1) ((t,.own n 0 k size true)::env) ((n,.row T rc)::h) dfs)) (hg:guardA ops env ⟨some t,.call ⟨.value (.func f),xs.toArray,ats⟩,ty,pos,aft,gd⟩ true:=by first|exact aE|exact (bT rfl rfl fV)) (hd:Nat.blt t sz=true:=by rfl):AWL P ops sz (⟨some t,.call ⟨.value (.func f),xs.toArray,ats⟩,ty,pos,aft,gd⟩::rest) K n env h dfs:=dV2 hg hd hh
theorem zN (hh:iH P f xs (evA env) (fun r=>AWL P ops sz rest K n env h dfs) (fun k size T rc=>AWL P ops sz rest K (n+1) env ((n,.row T rc)::h) dfs)) (hg:guardA ops env ⟨none,.call ⟨.value (.func f),xs.toArray,ats⟩,ty,pos,aft,gd⟩ true:=by first|exact aE|exact (bT rfl rfl fV)):AWL P ops sz (⟨none,.call ⟨.value (.func f),xs.toArray,ats⟩,ty,pos,aft,gd⟩::rest) K n env h dfs:=dV5 hg hh
theorem zD (hh:iH P f xs (evT (Oper.looksAt l.toArray ⟨some t,.call ⟨.value (.func f),xs.toArray,ats⟩,ty,pos,aft,gd⟩) env) (fun r=>Drw P l sz K dfs i n0 env0 h0 m rest n ((t,r)::env) h) (fun k size T rc=>Drw P l sz K dfs i n0 env0 h0 m rest (n+1) ((t,.own n 0 k size true)::env) ((n,.row T rc)::h))) (hg:guardA l.toArray env ⟨some t,.call ⟨.value (.func f),xs.toArray,ats⟩,ty,pos,aft,gd⟩ true:=by first|exact aE|exact (bT rfl rfl fV)):Drw P l sz K dfs i n0 env0 h0 (m+1) (⟨some t,.call ⟨.value (.func f),xs.toArray,ats⟩,ty,pos,aft,gd⟩::rest) n env h:=dV3 hg hh
theorem zE (hh:iH P f xs (evT (Oper.looksAt l.toArray ⟨some t,.call ⟨.value (.func f),xs.toArray,ats⟩,ty,pos,aft,gd⟩) env) (fun r=>bN P l sz K dfs i n0 env0 h0 (es++[([],none)]) m rest n ((t,r)::env) h) (fun k size T rc=>bN P l sz K dfs i n0 env0 h0 (es++[([n],none)]) m rest (n+1) ((t,.own n 0 k size true)::env) ((n,.row T rc)::h))) (hg:guardA l.toArray env ⟨some t,.call ⟨.value (.func f),xs.toArray,ats⟩,ty,pos,aft,gd⟩ true:=by first|exact aE|exact (bT rfl rfl fV)):bN P l sz K dfs i n0 env0 h0 es (m+1) (⟨some t,.call ⟨.value (.func f),xs.toArray,ats⟩,ty,pos,aft,gd⟩::rest) n env h:=dV4 hg hh
variable {cs cs' rc:Dp} {r:AV} {ev:Evl} {N0:AV->Prop} {N1:Nat->Nat->Dh->Dp->Prop} {k size:Nat} {T:Dh} {vs:Dq} {N:AV->Prop} {d:Dg} {N2:AV->AObj->Prop}
theorem c0 (hac:AC P f cs' r [] 0) (hn:N0 r) (hb:Body P f:=by unfold Body;kernel_rfl) (hx:dO ev xs=some cs:=by rfl) (hcv:CvL cs cs':=by first|exact qW|((repeat' (first|exact eP|refine dQ ?_ ?_|(first|exact cO|exact gX|(refine jR ?_ ?_<;>first|rfl|omega|(simp<;>fail)|fail)|(refine tC ?_;first|rfl|(simp<;>fail)|fail)|refine lP ?_)))<;>fail)|fail) (hid:r.noId=true:=by rfl):iH P f xs ev N0 N1:=dP9 hac hb hx hcv hid hn
theorem c1 (hac:AC P f cs' (.own 0 0 k size true) [(0,.row T rc)] 1) (hn:N1 k size T rc) (hb:Body P f:=by unfold Body;kernel_rfl) (hx:dO ev xs=some cs:=by rfl) (hcv:CvL cs cs':=by first|exact qW|((repeat' (first|exact eP|refine dQ ?_ ?_|(first|exact cO|exact gX|(refine jR ?_ ?_<;>first|rfl|omega|(simp<;>fail)|fail)|(refine tC ?_;first|rfl|(simp<;>fail)|fail)|refine lP ?_)))<;>fail)|fail):iH P f xs ev N0 N1:=dQ0 hac hb hx hcv hn
theorem cF (hac:AC P f cs r [] 0) (hn:N r) (hb:Body P f:=by unfold Body;kernel_rfl) (hx:nA ev xs=some vs:=by rfl) (hfz:zX [] h vs cs:=by first|((repeat' (first|exact dE|refine aZ ?_ ?_|(first|with_reducible exact dR cO|with_reducible exact dR gX|exact gK rfl rfl zln|exact lG rfl rfl rfl zln|exact iL (gK rfl rfl zln) (jR zse zse)|exact iL (lG rfl rfl rfl zln) (jR zse zse)|exact iL (dR cO) (jR zse zse)|exact iL (dR cO) (tC bO2)|exact dR cO|exact dR gX|exact frz_u8 rfl rfl aA aA aA|refine uB rfl ?_|refine dR (lP ?_)|exact eP|refine dQ ?_ ?_|exact cO|exact gX|exact jR zse zse)))<;>fail)|fail) (hfl:FlR r:=by first|exact FlR.c aY1|exact FlR.c (aB1 aV6)|exact flr_2 aV6|exact flr_3 aV6|exact FlR.t aV6|assumption):∃v,Adds P ⟨d,.call ⟨.value (.func f),xs.toArray,ats⟩,ty,pos,aft,gd⟩ ev h v [] n n/\N v:=pN (aN4 hb hx hfz hac hfl) hn
theorem cF1 (hac:AC P f cs (.own 0 0 k size true) [(0,.row T rc)] 1) (hn:N2 (.own n 0 k size true) (.row T rc)) (hb:Body P f:=by unfold Body;kernel_rfl) (hx:nA ev xs=some vs:=by rfl) (hfz:zX [] h vs cs:=by first|((repeat' (first|exact dE|refine aZ ?_ ?_|(first|with_reducible exact dR cO|with_reducible exact dR gX|exact gK rfl rfl zln|exact lG rfl rfl rfl zln|exact iL (gK rfl rfl zln) (jR zse zse)|exact iL (lG rfl rfl rfl zln) (jR zse zse)|exact iL (dR cO) (jR zse zse)|exact iL (dR cO) (tC bO2)|exact dR cO|exact dR gX|exact frz_u8 rfl rfl aA aA aA|refine uB rfl ?_|refine dR (lP ?_)|exact eP|refine dQ ?_ ?_|exact cO|exact gX|exact jR zse zse)))<;>fail)|fail) (hfl:FlcL rc:=by first|((repeat' (first|exact flcl_nil|exact uA _|exact flcl_int _ _|exact pZ _|exact aY1|assumption|refine flcl_app ?_ ?_|refine flcl_cons ?_ ?_|refine aB1 ?_))<;>fail)|fail):∃v obj,obj.live=some obj/\Adds P ⟨d,.call ⟨.value (.func f),xs.toArray,ats⟩,ty,pos,aft,gd⟩ ev h v [(n,obj)] n (n+1)/\N2 v obj:=⟨_,_,rfl,aE6 hb hx hfz hac hfl,hn⟩
end
theorem jY {n:Nat} {env:Env} {h:aL} {dfs:bM} {N:Nat} {E:Env} {Hp:aL} {D:bM} (w:cM n env h dfs N E Hp D:=by refine cZ rfl ?_ ?_ rfl<;>(repeat' (first|exact cB|exact cC|refine bQ rfl cU3 rfl ?_|refine aQ rfl cU3 rfl ?_))):cM n env h dfs N E Hp D:=w
theorem fD {p:Prop} (h:p:=by first|with_reducible assumption|assumption|(rw [A4];assumption)|(rw [Al,A4];assumption)|fail):p:=h
theorem jZ {p:Prop} (h:p:=by first|with_reducible assumption|assumption|exact qK (by first|rfl|omega)|rfl|fail):p:=h
theorem dA4 {p:Prop} (h:p:=by first|(simp<;>fail)|fail):p:=h
section
variable {p q:Prop} (hq:q)
include p q hq
theorem aC (h:Kept q->p:=by
 intro hq
 (first|(with_reducible refine cE4 ?_)|fail)
 exact hq.out):p:=h ⟨hq⟩
theorem fN (h:Kept q->p:=by
 intro hq
 (first|((((with_reducible refine cG ?_);refine xA ?_);(first|((with_reducible refine gJ ?_);(first|refine aG (jN aB rfl rfl rfl rfl fD) ?_|refine aG (iD aB rfl rfl rfl rfl fD) ?_|refine aG (iC aB rfl rfl rfl fD) ?_))|((with_reducible refine e_ix ?_);(first|refine aG (s_ixV1 aB rfl rfl zcj rfl rfl rfl rfl rfl zle fD) ?_|refine aG (s_ixStr aB rfl rfl zcj rfl rfl fD) ?_)))))|fail)
 exact hq.out):p:=h ⟨hq⟩
theorem gW (h:Kept q->p:=by
 intro hq
 (first|((((with_reducible refine cG ?_);refine xA ?_);(first|((with_reducible refine gJ ?_);(first|refine aG (iF aB rfl rfl rfl rfl jZ zln) ?_|refine aG (iE aB rfl rfl rfl jZ zln) ?_))|((with_reducible refine iR ?_);(first|refine aG (s_slArri aB rfl rfl rfl rfl zbd zbd zle zle aN jZ zln) ?_)))))|fail)
 exact hq.out):p:=h ⟨hq⟩
theorem eS (h:Kept q->p:=by
 intro hq
 (first|((first|with_reducible refine aF ?_);(first|refine zA ?_|refine zN ?_))|fail)
 exact hq.out):p:=h ⟨hq⟩
theorem cY (h:Kept q->p:=by
 intro hq
 (first|(((first|((with_reducible refine cG ?_);refine xA ?_)|((with_reducible refine eD ?_);refine xD ?_));(first|((with_reducible refine gJ ?_);(first|refine aG (jN aB rfl rfl rfl rfl fD) ?_|refine aG (iD aB rfl rfl rfl rfl fD) ?_|refine aG (iC aB rfl rfl rfl fD) ?_))|((with_reducible refine e_ix ?_);(first|refine aG (s_ixV1 aB rfl rfl zcj rfl rfl rfl rfl rfl zle fD) ?_|refine aG (s_ixStr aB rfl rfl zcj rfl rfl fD) ?_)))))|fail)
 exact hq.out):p:=h ⟨hq⟩
theorem jL (h:Kept q->p:=by
 intro hq
 (first|(((first|((with_reducible refine cG ?_);refine xA ?_)|((with_reducible refine eD ?_);refine xD ?_));(first|((with_reducible refine gJ ?_);(first|refine aG (iF aB rfl rfl rfl rfl jZ zln) ?_|refine aG (iE aB rfl rfl rfl jZ zln) ?_))|((with_reducible refine iR ?_);(first|refine aG (s_slArri aB rfl rfl rfl rfl zbd zbd zle zle aN jZ zln) ?_)))))|fail)
 exact hq.out):p:=h ⟨hq⟩
theorem dJ (h:Kept q->p:=by
 intro hq
 (first|((first|with_reducible refine aF ?_|with_reducible refine iT ?_);(first|refine zA ?_|refine zN ?_|refine zD ?_))|fail)
 exact hq.out):p:=h ⟨hq⟩
theorem dO8 (h:Kept q->p:=by
 intro hq
 (first|(((first|((with_reducible refine cG ?_);refine xA ?_)|((with_reducible refine kW ?_);refine xE ?_));(first|((with_reducible refine gJ ?_);(first|refine aG (jN aB rfl rfl rfl rfl fD) ?_|refine aG (iD aB rfl rfl rfl rfl fD) ?_|refine aG (iC aB rfl rfl rfl fD) ?_))|((with_reducible refine e_ix ?_);(first|refine aG (s_ixV1 aB rfl rfl zcj rfl rfl rfl rfl rfl zle fD) ?_|refine aG (s_ixStr aB rfl rfl zcj rfl rfl fD) ?_)))))|fail)
 exact hq.out):p:=h ⟨hq⟩
theorem aV5 (h:Kept q->p:=by
 intro hq
 (first|(((first|((with_reducible refine cG ?_);refine xA ?_)|((with_reducible refine kW ?_);refine xE ?_));(first|((with_reducible refine gJ ?_);(first|refine aG (iF aB rfl rfl rfl rfl jZ zln) ?_|refine aG (iE aB rfl rfl rfl jZ zln) ?_))|((with_reducible refine iR ?_);(first|refine aG (s_slArri aB rfl rfl rfl rfl zbd zbd zle zle aN jZ zln) ?_)))))|fail)
 exact hq.out):p:=h ⟨hq⟩
theorem oY (h:Kept q->p:=by
 intro hq
 (first|((first|with_reducible refine aF ?_|with_reducible refine bX ?_);(first|refine zA ?_|refine zN ?_|refine zE ?_))|fail)
 exact hq.out):p:=h ⟨hq⟩
theorem jQ (h:Kept q->p:=by
 intro hq
 (first|(((first|((with_reducible refine cG ?_);refine xA ?_)|((with_reducible refine eD ?_);refine xD ?_)|((with_reducible refine kW ?_);refine xE ?_));(first|((with_reducible refine gJ ?_);(first|refine aG (jN aB rfl rfl rfl rfl fD) ?_|refine aG (iD aB rfl rfl rfl rfl fD) ?_|refine aG (iC aB rfl rfl rfl fD) ?_))|((with_reducible refine e_ix ?_);(first|refine aG (s_ixV1 aB rfl rfl zcj rfl rfl rfl rfl rfl zle fD) ?_|refine aG (s_ixStr aB rfl rfl zcj rfl rfl fD) ?_)))))|fail)
 exact hq.out):p:=h ⟨hq⟩
theorem gH (h:Kept q->p:=by
 intro hq
 (first|(((first|((with_reducible refine cG ?_);refine xA ?_)|((with_reducible refine eD ?_);refine xD ?_)|((with_reducible refine kW ?_);refine xE ?_));(first|((with_reducible refine gJ ?_);(first|refine aG (iF aB rfl rfl rfl rfl jZ zln) ?_|refine aG (iE aB rfl rfl rfl jZ zln) ?_))|((with_reducible refine iR ?_);(first|refine aG (s_slArri aB rfl rfl rfl rfl zbd zbd zle zle aN jZ zln) ?_)))))|fail)
 exact hq.out):p:=h ⟨hq⟩
theorem eW (h:Kept q->p:=by
 intro hq
 (first|((first|with_reducible refine aF ?_|with_reducible refine iT ?_|with_reducible refine bX ?_);(first|refine zA ?_|refine zN ?_|refine zD ?_|refine zE ?_))|fail)
 exact hq.out):p:=h ⟨hq⟩
theorem rW (h:Kept q->p:=by
 intro hq
 (first|((with_reducible refine mP ?_);refine wA ?_;(first|refine pN (dN (kJ aB rfl rfl rfl rfl rfl) zln) ?_|refine pN (dN (lU aB rfl rfl rfl rfl rfl rfl rfl rfl rfl rfl rfl rfl (jG rfl) yM eE) zln) ?_))|fail)
 exact hq.out):p:=h ⟨hq⟩
theorem lD (h:Kept q->p:=by
 intro hq
 (first|((first|with_reducible refine mP ?_|with_reducible refine wK ?_);(first|refine wA ?_|refine wE ?_);(first|refine pN (dN (kJ aB rfl rfl rfl rfl rfl) zln) ?_|refine pN (dN (lU aB rfl rfl rfl rfl rfl rfl rfl rfl rfl rfl rfl rfl (jG rfl) yM eE) zln) ?_))|fail)
 exact hq.out):p:=h ⟨hq⟩
theorem dO7 (h:Kept q->p:=by
 intro hq
 (first|((first|with_reducible refine mP ?_|with_reducible refine isD_bslice ?_);(first|refine wA ?_|refine wD ?_);(first|refine pN (dN (kJ aB rfl rfl rfl rfl rfl) zln) ?_|refine pN (dN (lU aB rfl rfl rfl rfl rfl rfl rfl rfl rfl rfl rfl rfl (jG rfl) yM eE) zln) ?_))|fail)
 exact hq.out):p:=h ⟨hq⟩
end
structure KeptA (r q:Prop):Prop where
 a:r
 out:q
theorem dP8 {p q r:Prop} (a:r) (hq:q) (h:KeptA r q->p:=by
 intro hq
 (first|((with_reducible refine aF ?_);refine aR hq.a aE rfl zby rfl rfl rfl rfl zcv rfl ztp ?_)|fail)
 exact hq.out):p:=h ⟨a,hq⟩
structure KeptK (ks fs:De) (q:Prop):Prop where
 out:q
section
variable {P:Di} {sz n n0 id:Nat} {K:AK} {env env' env0:Env} {h h' h0:aL} {dfs:bM} {c:Code} {l:Dc} {ks fs:De} {p q:Prop}
theorem vG (k:KeptK ks fs q) (hE:kZ env ks=some env') (hH:qH h n=some h') (hx:AW P sz c K n env' h' dfs):AW P sz c K n env h dfs:=aY ks hE hH hx
theorem dA3 (k:KeptK ks fs q) (hx:Drw P l sz K dfs id n0 env0 h0 (oF fs l l) l n0 env0 h0):AW P sz (.region id l.toArray true) K n0 env0 h0 dfs:=dG fs hx
theorem dA2 (k:KeptK ks fs q) (hx:bN P l sz K dfs id n0 env0 h0 [] (kT fs l l) l n0 env0 h0):AW P sz (.region id l.toArray true) K n0 env0 h0 dfs:=dI fs hx
theorem aM (ks:De) (hq:q) (h:KeptK ks [] q->p:=by
 intro hq
 (first|((with_reducible refine aB9 ?_);refine vG hq rfl rfl ?_;with_reducible refine oV ?_)|fail)
 exact hq.out):p:=h ⟨hq⟩
theorem bS (ks:De) (hq:q) (h:KeptK ks [] q->p:=by
 intro hq
 (first|((with_reducible refine aB9 ?_);refine vG hq rfl rfl ?_;with_reducible refine oV ?_)|((with_reducible refine bC ?_);refine vG hq rfl rfl ?_;refine dA3 hq ?_)|fail)
 exact hq.out):p:=h ⟨hq⟩
theorem gG (ks:De) (hq:q) (h:KeptK ks [] q->p:=by
 intro hq
 (first|((with_reducible refine aB9 ?_);refine vG hq rfl rfl ?_;with_reducible refine oV ?_)|((with_reducible refine bC ?_);refine vG hq rfl rfl ?_;refine dA2 hq ?_)|fail)
 exact hq.out):p:=h ⟨hq⟩
end
end Go.Proofs.YtbgehdndimlgkaaGreat
