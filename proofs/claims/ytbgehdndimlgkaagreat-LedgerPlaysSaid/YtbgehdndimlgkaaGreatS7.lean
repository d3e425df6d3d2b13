/- Lemmas for laws of the ledger. -/
import Derived.Test.YtbgehdndimlgkaaGreatS4
import Derived.Test.YtbgehdndimlgkaaGreatS6
set_option linter.all false
namespace Go.Proofs.YtbgehdndimlgkaaGreat
open Go Go.RowKit Go.Av
set_option maxRecDepth 100000
section
variable {p:Prop}
include p
theorem zio (h:p:=by first|exact .inl rfl|exact .inr rfl):p:=h
theorem ztr (h:p:=by exact trivial):p:=h
theorem zou (h:p:=by first|exact aK0 zfz|exact dG1 rfl rfl):p:=h
theorem zby (h:p:=by unfold Body;kernel_rfl):p:=h
theorem zpt (h:p:=by first|exact Parts.mixed _|exact Parts.closed _):p:=h
theorem ztp (h:p:=by (try simp only [tpC,AH,C7]);exact rfl):p:=h
theorem zgd (h:p:=by first|rfl|exact gd1 aA|exact gd2 aA|exact gd3 aA|exact gd4 aA):p:=h
theorem zcm (h:p:=by first|exact AP aA|exact Bi aA|rfl):p:=h
theorem zeq (h:p:=by first|exact cO4 rfl rfl aA|exact cM0 aA|(simp<;>fail)|(congr 4;omega)|(congr 3;omega)|(congr 2;omega)):p:=h
theorem zgb (h:p:=by first|rfl|assumption|exact gd1 aA|exact gd2 aA|exact gd3 aA|exact gd4 aA|(simp only [*]<;>fail)|fail):p:=h
theorem zln (h:p:=by first|rfl|with_reducible assumption|(simp<;>fail)|omega|(simp<;>omega)|assumption):p:=h
theorem zse (h:p:=by first|rfl|omega|(simp<;>fail)|fail):p:=h
theorem zcj (h:p:=by first|with_reducible exact bT8 _|with_reducible exact cC6 _|with_reducible exact bT6 _ _|with_reducible exact bT7 _ _|with_reducible exact bT9 aA|with_reducible exact bU0 aA|with_reducible exact cast_lsub aA|exact nt aA|rfl):p:=h
theorem zle (h:p:=by first|exact A7 rfl|omega|(simp<;>omega)):p:=h
theorem zcv (h:p:=by first|exact rV|((repeat' (first|exact fO|refine eK ?_ ?_|(first|exact cR|exact gM|(refine jG ?_ ?_<;>first|rfl|omega|(simp<;>fail)|fail)|(refine pT ?_;first|rfl|(simp<;>fail)|fail)|refine mN ?_)))<;>fail)|fail):p:=h
theorem zbd (h:p:=by first|exact Bd.no|exact Bd.yes rfl zcj):p:=h
theorem zfz (h:p:=by repeat' (first|exact dU cR|exact dU gM|exact gP rfl rfl zln|exact kT rfl rfl rfl zln|exact fZ (gP rfl rfl zln) (jG zse zse)|exact fZ (kT rfl rfl rfl zln) (jG zse zse)|refine uB rfl ?_|refine dU (mN ?_)|exact cS|refine aX ?_ ?_|exact fO|refine eK ?_ ?_|exact cR|exact gM|exact jG zse zse|exact kT rfl rfl fK fK|exact dD8 (by first|exact w64 aA aA|omega)|exact cL5 (by first|assumption|omega)|exact bV8 (by first|assumption|omega)|exact frz_eq (dU cR) cG2)):p:=h
theorem zrs (h:p:=by first|exact ResA.one rfl rfl rfl rfl rfl|exact ResA.agg rfl rfl rfl rfl rfl nW|exact ResA.aggr rfl rfl rfl rfl zln):p:=h
end
structure Kept (q:Prop):Prop where
 out:q
theorem eP1 {P:Dv} {sz n i:Nat} {env env':Env} {h h':aO} {dfs:cD} {K:AK} {l:Dp} (ks:Dr) (hE:mS env ks=some env') (hH:tG h n=some h') (hx:AWL P l.toArray sz l K n env' h' dfs):AW P sz (.region i l.toArray false) K n env h dfs:=aP ks hE hH (rR hx)
theorem stA {p q:Prop} (hq:q) (h:Kept q->p:=by
 intro hq
 (first
 | ((with_reducible refine dE6 ?_);(first|((with_reducible refine cM8 ?_);(first|(refine zC rfl (by first|assumption|with_reducible exact AP fK|with_reducible rfl) ?_)|(refine zB rfl (by first|assumption|with_reducible exact Bi fK|with_reducible rfl) ?_)|(refine zC rfl rfl ?_)|(refine zB rfl rfl ?_)|(refine zC rfl (by first|exact AP aA|(simp only [*]<;>fail)|fail) ?_)|(refine zB rfl (by first|exact Bi aA|(simp only [*]<;>fail)|fail) ?_)))|(with_reducible refine cB8 ?_)|(with_reducible refine cY3 ?_)|(with_reducible refine cY0 ?_)|(with_reducible refine dV5 ?_)))
 | ((with_reducible refine cM5 ?_);(refine bD1 (cI rfl rfl cF0) rfl ?_))
 | ((with_reducible refine cM5 ?_);(refine bD1 (aO7 rfl rfl) rfl ?_))
 | ((with_reducible refine wG ?_);(first|(refine yV aB aE rfl rfl rfl rfl rfl rfl rfl rfl zln rfl xC nA zle ?_)|((first|refine cA6 aE rfl ?_|refine cA6 (cI rfl rfl iC) rfl ?_);refine bC (b_appendN aB rfl rfl rfl rfl rfl rfl rfl rfl xC nA zle) rfl ?_)|((first|refine cA6 aE rfl ?_|refine cA6 (cI rfl rfl iC) rfl ?_);refine bC (uU aB rfl rfl rfl rfl rfl rfl rfl rfl rfl rfl rfl zcj zle nA zle) rfl ?_)|(refine dV2 aB aE rfl rfl rfl rfl rfl rfl rfl rfl xC zle zle ?_)|(refine n_copy aB aE rfl rfl rfl rfl rfl rfl rfl xC zle zle ?_)))
 | ((with_reducible refine fS ?_);(first|(refine cK8 aB aE rfl rfl rfl rfl rfl rfl rfl ?_)|(refine bV6 aB aE rfl rfl rfl rfl rfl rfl rfl ?_)|(refine eQ aB aE rfl rfl rfl rfl rfl rfl (by first|fail|exact A7 rfl|omega|(simp<;>omega)) ?_)|(refine zF aB aE rfl rfl rfl qO eT eT rfl (A7 rfl) eT ?_)|(refine wW aB aE rfl rfl rfl zln rfl zle (by first|exact oD _ _ zln|rfl) ?_)))
 | ((with_reducible refine aW ?_);(first|refine cA6 aE rfl ?_|refine cA6 (cI rfl rfl iC) rfl ?_);(first|refine bC (yU aB rfl rfl rfl rfl) rfl ?_|refine bC (aL7 aB rfl rfl) rfl ?_))
 | ((with_reducible refine bM ?_);(first|refine cA6 aE rfl ?_|refine cA6 (cI rfl rfl iC) rfl ?_);(first|refine bC (bD0 (tab:=tab) rfl rfl rfl) rfl ?_|refine bC (a_box1 rfl rfl) rfl ?_|refine bC (bC9 rfl qO) rfl ?_))
 | ((with_reducible refine pD ?_);(first|refine cA6 aE rfl ?_|refine cA6 (cI rfl rfl iC) rfl ?_);(first|refine bC (lT aB rfl rfl rfl rfl rfl) rfl ?_|refine bC (nS aB rfl rfl rfl rfl rfl rfl rfl rfl rfl rfl rfl rfl (kO rfl) aI0 eT) rfl ?_))
 | ((with_reducible refine cM6 ?_);(first|refine cA6 aE rfl ?_|refine cA6 (cI rfl rfl iC) rfl ?_);(first|refine bC (bD9 aB rfl rfl rfl rfl rfl rfl rfl rfl rfl rfl zcj zcj zle zle aA4 rfl) rfl ?_))
 | ((with_reducible refine bW0 ?_);(refine bT4 rfl aE rfl ?_))
 | ((with_reducible refine isA_conv ?_);(first|refine eV3 aE rfl ?_|refine eV3 (cI rfl rfl iC) rfl ?_);refine oZ (a_toBytes aB rfl rfl rfl rfl rfl rfl rfl cF6 cF9 nA) ?_)
 | (((with_reducible refine bP ?_);(first|refine eV6 aE rfl ?_|refine eV6 (cI rfl rfl iC) rfl ?_));(first|((with_reducible refine bE8 ?_);(first|refine aL (mX rfl) ?_))|((with_reducible refine gO ?_);(first|refine aL (jB aB rfl rfl rfl rfl jP) ?_|refine aL (gS aB rfl rfl rfl rfl jP) ?_|refine aL (gR aB rfl rfl rfl jP) ?_|refine aL (aR2 aB rfl rfl rfl rfl rfl rfl nW) ?_|refine aL (jL aB rfl rfl rfl rfl tT zln) ?_|refine aL (jK aB rfl rfl rfl tT zln) ?_))|((with_reducible refine cJ3 ?_);(first|refine aL (cT4 aB rfl rfl zcj rfl rfl rfl rfl zle) ?_|refine aL (cT5 aB rfl rfl zcj rfl rfl rfl rfl zle) ?_|refine aL (cT3 aB rfl rfl zcj rfl rfl rfl zle) ?_|refine aL (s_ixAi aB rfl rfl zcj rfl rfl rfl zle) ?_))|((with_reducible refine bU (o := .add) ?_);(first|refine aL (kA rfl rfl rfl jF) ?_|refine aL (iI rfl dG rfl dG rfl) ?_|refine aL (nN rfl rfl rfl jF) ?_))|((with_reducible refine bU (o := .sub) ?_);(first|refine aL (kA rfl rfl rfl jF) ?_|refine aL (iI rfl dG rfl dG rfl) ?_|refine aL (nN rfl rfl rfl jF) ?_))|((with_reducible refine bU (o := .mul) ?_);(first|refine aL (kA rfl rfl rfl jF) ?_|refine aL (iI rfl dG rfl dG rfl) ?_|refine aL (nN rfl rfl rfl jF) ?_))|((with_reducible refine bU (o := .eql) ?_);(first|refine aL (jV rfl rfl rfl rfl) ?_|refine aL (aR0 aB rfl rfl rfl rfl rfl) ?_|refine aL (aE6 rfl rfl rfl) ?_))|((with_reducible refine bU (o := .neq) ?_);(first|refine aL (jV rfl rfl rfl rfl) ?_|refine aL (s_neqB aB rfl rfl rfl rfl rfl) ?_|refine aL (s_neqS rfl rfl rfl) ?_))|((with_reducible refine bU (o := .lss) ?_);(first|refine aL (jV rfl rfl rfl rfl) ?_))|((with_reducible refine bU (o := .leq) ?_);(first|refine aL (jV rfl rfl rfl rfl) ?_))|((with_reducible refine bU (o := .gtr) ?_);(first|refine aL (jV rfl rfl rfl rfl) ?_))|((with_reducible refine bU (o := .geq) ?_);(first|refine aL (jV rfl rfl rfl rfl) ?_))|((with_reducible refine bU (o := .rem) ?_);(first|refine aL (xW (k := .i64) rfl rfl lG aH9) ?_|refine aL (xW rfl rfl lG aH9) ?_))|((with_reducible refine bU (o := .quo) ?_);(first|refine aL (aE9 (k := .i64) rfl rfl lG aH7) ?_|refine aL (aE9 rfl rfl lG aH7) ?_))|((with_reducible refine bU (o := .and) ?_);(first|refine aL (iI rfl dG rfl dG rfl) ?_|refine aL (aD9 rfl rfl rfl) ?_))|((with_reducible refine bU (o := .or) ?_);(first|refine aL (iI rfl dG rfl dG rfl) ?_|refine aL (bZ3 rfl rfl rfl) ?_))|((with_reducible refine bU (o := .xor) ?_);(first|refine aL (iI rfl dG rfl dG rfl) ?_|refine aL (bR3 rfl rfl rfl) ?_))|((with_reducible refine bU (o := .andNot) ?_);(first|refine aL (s_andNot rfl rfl rfl) ?_))|((with_reducible refine bU (o := .shl) ?_);(first|refine aL (wT rfl dG rfl zcj) ?_|refine aL (bA5 rfl rfl zle rfl) ?_))|((with_reducible refine bU (o := .shr) ?_);(first|refine aL (tJ rfl dG rfl zcj) ?_|refine aL (bA6 rfl rfl zle rfl) ?_))|((with_reducible refine aB0 ?_);(first|refine aL (aE0 rfl) ?_))|((with_reducible refine aV6 ?_);(first|refine aL (bI2 aB rfl rfl rfl) ?_|refine aL (bI4 aB rfl rfl rfl) ?_|refine aL (aR1 aB rfl rfl rfl) ?_|refine aL (bI3 aB rfl rfl rfl) ?_|refine aL (bI1 aB rfl rfl rfl) ?_|refine aL (bR1 rfl rfl rfl) ?_|refine aL (cT6 rfl rfl rfl) ?_))|((with_reducible refine cJ9 ?_);(first|refine aL (cT8 rfl rfl) ?_|refine aL (aE2 rfl dG) ?_|refine aL (cT7 rfl cF8) ?_|refine aL (sK rfl rfl) ?_))|((with_reducible refine qT ?_);(first|refine aL (aE5 rfl dG aB rfl rfl rfl) ?_|refine aL (s_convWW rfl dG aB rfl rfl rfl) ?_|refine aL (aE3 rfl aB rfl rfl rfl) ?_|refine aL (aE4 rfl aB rfl rfl rfl) ?_|refine aL (gB aB rfl rfl rfl rfl jF) ?_|refine aL (s_convStr aB rfl rfl rfl rfl) ?_|refine aL (aR6 aB rfl rfl rfl rfl rfl rfl rfl cF5) ?_))|((with_reducible refine bE7 ?_);(first|refine aL (gV aB rfl rfl rfl rfl rfl rfl) ?_|refine aL (pN aB rfl rfl rfl rfl rfl rfl) ?_))|((with_reducible refine e_fld ?_);(first|refine aL (s_field1 aB rfl rfl rfl rfl rfl rfl qO eT) ?_|refine aL (s_fieldA aB rfl rfl rfl rfl rfl rfl qO eT nW) ?_))|((with_reducible refine cJ2 ?_);(first|refine aL (wS rfl rfl) ?_))|((with_reducible refine jW ?_);(first|refine aL (bI8 aB rfl rfl rfl rfl zbd zle rfl rfl) ?_|refine aL (cT9 aB rfl rfl rfl rfl zbd zbd zle zle rfl rfl) ?_|refine aL (cU1 aB rfl rfl rfl rfl zbd zbd zle zle rfl) ?_|refine aL (aR5 aB rfl rfl rfl rfl zbd zbd zle zle aN) ?_|refine aL (s_slStr aB rfl rfl rfl zbd zbd zle zle) ?_|refine aL (s_slArri aB rfl rfl rfl rfl zbd zbd zle zle aN tT zln) ?_|refine aL (cU0 aB rfl rfl rfl zbd rfl) ?_|refine aL (bI9 aB rfl rfl rfl rfl rfl zbd zbd zle zle) ?_))|((with_reducible refine e_ix ?_);(first|refine aL (s_ixV1 aB rfl rfl zcj rfl rfl rfl rfl rfl zle jP) ?_|refine aL (s_ixStr aB rfl rfl zcj rfl rfl jP) ?_))|((with_reducible refine aN9 ?_);(first|refine aL (aE1 aB rfl rfl rfl rfl (fJ rfl) eT nW) ?_|refine aL (nH aB rfl rfl rfl rfl (fJ rfl) eT nW) ?_))|((with_reducible refine bE9 ?_);(first|refine aL (yR rfl rfl) ?_|refine aL (yQ rfl rfl) ?_|refine aL (aE8 rfl cF4 rfl) ?_|refine aL (aE7 rfl cF3 rfl) ?_))|((with_reducible refine aB1 ?_);(first|refine aL (tI rfl) ?_))|((with_reducible refine cJ4 ?_);(first|refine aL (iT rfl) ?_|refine aL (s_nilChecki rfl) ?_))))
 | (with_reducible refine cY5 ?_)
 | (with_reducible refine k_then ?_)
 | (with_reducible refine k_thenX ?_)
 | (with_reducible refine k_thenR ?_)
 | (with_reducible refine eJ5 ?_)
 | (with_reducible refine dZ6 ?_)
 | (refine dZ4 rfl ?_)
 | (refine dZ5 rfl ?_)
 | ((with_reducible refine cM5 ?_);(refine bD1 (cI rfl rfl cF2) rfl ?_)))
 exact hq.out):p:=h ⟨hq⟩
theorem stD {p q:Prop} (hq:q) (h:Kept q->p:=by
 intro hq
 (first
 | (refine dA2 aV aV aV rfl ?_)
 | ((with_reducible refine bF9 ?_);(refine bE4 (cI rfl rfl cF0) ?_))
 | ((with_reducible refine bF9 ?_);(refine bE4 (aO7 rfl rfl) ?_))
 | ((with_reducible refine isD_bi ?_);(first|((first|refine cA7 aE ?_|refine cA7 (cI rfl rfl iC) ?_);refine bC (b_appendN aB rfl rfl rfl rfl rfl rfl rfl rfl xC nA zle) rfl ?_)|((first|refine cA7 aE ?_|refine cA7 (cI rfl rfl iC) ?_);refine bC (uU aB rfl rfl rfl rfl rfl rfl rfl rfl rfl rfl rfl zcj zle nA zle) rfl ?_)))
 | ((with_reducible refine isD_alloc ?_);(first|refine cA7 aE ?_|refine cA7 (cI rfl rfl iC) ?_);(first|refine bC (yU aB rfl rfl rfl rfl) rfl ?_|refine bC (aL7 aB rfl rfl) rfl ?_))
 | ((with_reducible refine isD_box ?_);(first|refine cA7 aE ?_|refine cA7 (cI rfl rfl iC) ?_);(first|refine bC (bD0 (tab:=tab) rfl rfl rfl) rfl ?_|refine bC (a_box1 rfl rfl) rfl ?_|refine bC (bC9 rfl qO) rfl ?_))
 | ((with_reducible refine isD_bslice ?_);(first|refine cA7 aE ?_|refine cA7 (cI rfl rfl iC) ?_);(first|refine bC (lT aB rfl rfl rfl rfl rfl) rfl ?_|refine bC (nS aB rfl rfl rfl rfl rfl rfl rfl rfl rfl rfl rfl rfl (kO rfl) aI0 eT) rfl ?_))
 | ((with_reducible refine isD_mksl ?_);(first|refine cA7 aE ?_|refine cA7 (cI rfl rfl iC) ?_);(first|refine bC (bD9 aB rfl rfl rfl rfl rfl rfl rfl rfl rfl rfl zcj zcj zle zle aA4 rfl) rfl ?_))
 | ((with_reducible refine isD_conv ?_);(first|refine eV4 aE ?_|refine eV4 (cI rfl rfl iC) ?_);refine oZ (a_toBytes aB rfl rfl rfl rfl rfl rfl rfl cF6 cF9 nA) ?_)
 | (((with_reducible refine cZ ?_);(first|refine eV7 aE ?_|refine eV7 (cI rfl rfl iC) ?_));(first|((with_reducible refine bE8 ?_);(first|refine aL (mX rfl) ?_))|((with_reducible refine gO ?_);(first|refine aL (jB aB rfl rfl rfl rfl jP) ?_|refine aL (gS aB rfl rfl rfl rfl jP) ?_|refine aL (gR aB rfl rfl rfl jP) ?_|refine aL (aR2 aB rfl rfl rfl rfl rfl rfl nW) ?_|refine aL (jL aB rfl rfl rfl rfl tT zln) ?_|refine aL (jK aB rfl rfl rfl tT zln) ?_))|((with_reducible refine cJ3 ?_);(first|refine aL (cT4 aB rfl rfl zcj rfl rfl rfl rfl zle) ?_|refine aL (cT5 aB rfl rfl zcj rfl rfl rfl rfl zle) ?_|refine aL (cT3 aB rfl rfl zcj rfl rfl rfl zle) ?_|refine aL (s_ixAi aB rfl rfl zcj rfl rfl rfl zle) ?_))|((with_reducible refine bU (o := .add) ?_);(first|refine aL (kA rfl rfl rfl jF) ?_|refine aL (iI rfl dG rfl dG rfl) ?_|refine aL (nN rfl rfl rfl jF) ?_))|((with_reducible refine bU (o := .sub) ?_);(first|refine aL (kA rfl rfl rfl jF) ?_|refine aL (iI rfl dG rfl dG rfl) ?_|refine aL (nN rfl rfl rfl jF) ?_))|((with_reducible refine bU (o := .mul) ?_);(first|refine aL (kA rfl rfl rfl jF) ?_|refine aL (iI rfl dG rfl dG rfl) ?_|refine aL (nN rfl rfl rfl jF) ?_))|((with_reducible refine bU (o := .eql) ?_);(first|refine aL (jV rfl rfl rfl rfl) ?_|refine aL (aR0 aB rfl rfl rfl rfl rfl) ?_|refine aL (aE6 rfl rfl rfl) ?_))|((with_reducible refine bU (o := .neq) ?_);(first|refine aL (jV rfl rfl rfl rfl) ?_|refine aL (s_neqB aB rfl rfl rfl rfl rfl) ?_|refine aL (s_neqS rfl rfl rfl) ?_))|((with_reducible refine bU (o := .lss) ?_);(first|refine aL (jV rfl rfl rfl rfl) ?_))|((with_reducible refine bU (o := .leq) ?_);(first|refine aL (jV rfl rfl rfl rfl) ?_))|((with_reducible refine bU (o := .gtr) ?_);(first|refine aL (jV rfl rfl rfl rfl) ?_))|((with_reducible refine bU (o := .geq) ?_);(first|refine aL (jV rfl rfl rfl rfl) ?_))|((with_reducible refine bU (o := .rem) ?_);(first|refine aL (xW (k := .i64) rfl rfl lG aH9) ?_|refine aL (xW rfl rfl lG aH9) ?_))|((with_reducible refine bU (o := .quo) ?_);(first|refine aL (aE9 (k := .i64) rfl rfl lG aH7) ?_|refine aL (aE9 rfl rfl lG aH7) ?_))|((with_reducible refine bU (o := .and) ?_);(first|refine aL (iI rfl dG rfl dG rfl) ?_|refine aL (aD9 rfl rfl rfl) ?_))|((with_reducible refine bU (o := .or) ?_);(first|refine aL (iI rfl dG rfl dG rfl) ?_|refine aL (bZ3 rfl rfl rfl) ?_))|((with_reducible refine bU (o := .xor) ?_);(first|refine aL (iI rfl dG rfl dG rfl) ?_|refine aL (bR3 rfl rfl rfl) ?_))|((with_reducible refine bU (o := .andNot) ?_);(first|refine aL (s_andNot rfl rfl rfl) ?_))|((with_reducible refine bU (o := .shl) ?_);(first|refine aL (wT rfl dG rfl zcj) ?_|refine aL (bA5 rfl rfl zle rfl) ?_))|((with_reducible refine bU (o := .shr) ?_);(first|refine aL (tJ rfl dG rfl zcj) ?_|refine aL (bA6 rfl rfl zle rfl) ?_))|((with_reducible refine aB0 ?_);(first|refine aL (aE0 rfl) ?_))|((with_reducible refine aV6 ?_);(first|refine aL (bI2 aB rfl rfl rfl) ?_|refine aL (bI4 aB rfl rfl rfl) ?_|refine aL (aR1 aB rfl rfl rfl) ?_|refine aL (bI3 aB rfl rfl rfl) ?_|refine aL (bI1 aB rfl rfl rfl) ?_|refine aL (bR1 rfl rfl rfl) ?_|refine aL (cT6 rfl rfl rfl) ?_))|((with_reducible refine cJ9 ?_);(first|refine aL (cT8 rfl rfl) ?_|refine aL (aE2 rfl dG) ?_|refine aL (cT7 rfl cF8) ?_|refine aL (sK rfl rfl) ?_))|((with_reducible refine qT ?_);(first|refine aL (aE5 rfl dG aB rfl rfl rfl) ?_|refine aL (s_convWW rfl dG aB rfl rfl rfl) ?_|refine aL (aE3 rfl aB rfl rfl rfl) ?_|refine aL (aE4 rfl aB rfl rfl rfl) ?_|refine aL (gB aB rfl rfl rfl rfl jF) ?_|refine aL (s_convStr aB rfl rfl rfl rfl) ?_|refine aL (aR6 aB rfl rfl rfl rfl rfl rfl rfl cF5) ?_))|((with_reducible refine bE7 ?_);(first|refine aL (gV aB rfl rfl rfl rfl rfl rfl) ?_|refine aL (pN aB rfl rfl rfl rfl rfl rfl) ?_))|((with_reducible refine e_fld ?_);(first|refine aL (s_field1 aB rfl rfl rfl rfl rfl rfl qO eT) ?_|refine aL (s_fieldA aB rfl rfl rfl rfl rfl rfl qO eT nW) ?_))|((with_reducible refine cJ2 ?_);(first|refine aL (wS rfl rfl) ?_))|((with_reducible refine jW ?_);(first|refine aL (bI8 aB rfl rfl rfl rfl zbd zle rfl rfl) ?_|refine aL (cT9 aB rfl rfl rfl rfl zbd zbd zle zle rfl rfl) ?_|refine aL (cU1 aB rfl rfl rfl rfl zbd zbd zle zle rfl) ?_|refine aL (aR5 aB rfl rfl rfl rfl zbd zbd zle zle aN) ?_|refine aL (s_slStr aB rfl rfl rfl zbd zbd zle zle) ?_|refine aL (s_slArri aB rfl rfl rfl rfl zbd zbd zle zle aN tT zln) ?_|refine aL (cU0 aB rfl rfl rfl zbd rfl) ?_|refine aL (bI9 aB rfl rfl rfl rfl rfl zbd zbd zle zle) ?_))|((with_reducible refine e_ix ?_);(first|refine aL (s_ixV1 aB rfl rfl zcj rfl rfl rfl rfl rfl zle jP) ?_|refine aL (s_ixStr aB rfl rfl zcj rfl rfl jP) ?_))|((with_reducible refine aN9 ?_);(first|refine aL (aE1 aB rfl rfl rfl rfl (fJ rfl) eT nW) ?_|refine aL (nH aB rfl rfl rfl rfl (fJ rfl) eT nW) ?_))|((with_reducible refine bE9 ?_);(first|refine aL (yR rfl rfl) ?_|refine aL (yQ rfl rfl) ?_|refine aL (aE8 rfl cF4 rfl) ?_|refine aL (aE7 rfl cF3 rfl) ?_))|((with_reducible refine aB1 ?_);(first|refine aL (tI rfl) ?_))|((with_reducible refine cJ4 ?_);(first|refine aL (iT rfl) ?_|refine aL (s_nilChecki rfl) ?_))))
 | ((with_reducible refine bF9 ?_);(refine bE4 (cI rfl rfl cF2) ?_)))
 exact hq.out):p:=h ⟨hq⟩
theorem stE {p q:Prop} (hq:q) (h:Kept q->p:=by
 intro hq
 (first
 | (refine cI3 aV aV aV aV rfl ?_)
 | ((with_reducible refine isEk_g ?_);(refine e_skip (cI rfl rfl cF0) ?_))
 | ((with_reducible refine isEk_g ?_);(refine e_skip (aO7 rfl rfl) ?_))
 | ((with_reducible refine dZ1 ?_);(first|(refine aV3 aB aE rfl rfl rfl rfl rfl rfl rfl rfl rfl zln rfl xC nA zle rfl ?_)|(refine aV3 aB (cI rfl rfl iC) rfl rfl rfl rfl rfl rfl rfl rfl rfl zln rfl xC nA zle rfl ?_)|((first|refine cA8 aE rfl rfl ?_|refine cA8 (cI rfl rfl iC) rfl rfl ?_);refine bC (b_appendN aB rfl rfl rfl rfl rfl rfl rfl rfl xC nA zle) rfl ?_)|((first|refine cA8 aE rfl rfl ?_|refine cA8 (cI rfl rfl iC) rfl rfl ?_);refine bC (uU aB rfl rfl rfl rfl rfl rfl rfl rfl rfl rfl rfl zcj zle nA zle) rfl ?_)))
 | ((with_reducible refine sC ?_);(first|(refine cI1 aB aE rfl rfl rfl rfl rfl rfl rfl rfl rfl rfl ?_)|(refine d_store1r aB aE rfl rfl rfl rfl rfl rfl rfl rfl rfl rfl ?_)|(refine bE5 aB aE rfl rfl rfl rfl rfl rfl rfl rfl zle rfl ?_)|(refine aV4 aB aE rfl rfl rfl rfl rfl qO eT eT rfl (A7 rfl) eT rfl ?_)|(refine vS aB aE rfl rfl rfl rfl rfl zln rfl zle (by first|exact oD _ _ zln|rfl) rfl ?_)))
 | ((with_reducible refine iZ ?_);(first|refine cA8 aE rfl rfl ?_|refine cA8 (cI rfl rfl iC) rfl rfl ?_);(first|refine bC (yU aB rfl rfl rfl rfl) rfl ?_|refine bC (aL7 aB rfl rfl) rfl ?_))
 | ((with_reducible refine isE_box ?_);(first|refine cA8 aE rfl rfl ?_|refine cA8 (cI rfl rfl iC) rfl rfl ?_);(first|refine bC (bD0 (tab:=tab) rfl rfl rfl) rfl ?_|refine bC (a_box1 rfl rfl) rfl ?_|refine bC (bC9 rfl qO) rfl ?_))
 | ((with_reducible refine aC4 ?_);(first|refine cA8 aE rfl rfl ?_|refine cA8 (cI rfl rfl iC) rfl rfl ?_);(first|refine bC (lT aB rfl rfl rfl rfl rfl) rfl ?_|refine bC (nS aB rfl rfl rfl rfl rfl rfl rfl rfl rfl rfl rfl rfl (kO rfl) aI0 eT) rfl ?_))
 | ((with_reducible refine isE_mksl ?_);(first|refine cA8 aE rfl rfl ?_|refine cA8 (cI rfl rfl iC) rfl rfl ?_);(first|refine bC (bD9 aB rfl rfl rfl rfl rfl rfl rfl rfl rfl rfl zcj zcj zle zle aA4 rfl) rfl ?_))
 | ((with_reducible refine isE_conv ?_);(first|refine eV5 aE rfl rfl ?_|refine eV5 (cI rfl rfl iC) rfl rfl ?_);refine oZ (a_toBytes aB rfl rfl rfl rfl rfl rfl rfl cF6 cF9 nA) ?_)
 | (((with_reducible refine iR ?_);(first|refine eV8 aE rfl rfl ?_|refine eV8 (cI rfl rfl iC) rfl rfl ?_));(first|((with_reducible refine bE8 ?_);(first|refine aL (mX rfl) ?_))|((with_reducible refine gO ?_);(first|refine aL (jB aB rfl rfl rfl rfl jP) ?_|refine aL (gS aB rfl rfl rfl rfl jP) ?_|refine aL (gR aB rfl rfl rfl jP) ?_|refine aL (aR2 aB rfl rfl rfl rfl rfl rfl nW) ?_|refine aL (jL aB rfl rfl rfl rfl tT zln) ?_|refine aL (jK aB rfl rfl rfl tT zln) ?_))|((with_reducible refine cJ3 ?_);(first|refine aL (cT4 aB rfl rfl zcj rfl rfl rfl rfl zle) ?_|refine aL (cT5 aB rfl rfl zcj rfl rfl rfl rfl zle) ?_|refine aL (cT3 aB rfl rfl zcj rfl rfl rfl zle) ?_|refine aL (s_ixAi aB rfl rfl zcj rfl rfl rfl zle) ?_))|((with_reducible refine bU (o := .add) ?_);(first|refine aL (kA rfl rfl rfl jF) ?_|refine aL (iI rfl dG rfl dG rfl) ?_|refine aL (nN rfl rfl rfl jF) ?_))|((with_reducible refine bU (o := .sub) ?_);(first|refine aL (kA rfl rfl rfl jF) ?_|refine aL (iI rfl dG rfl dG rfl) ?_|refine aL (nN rfl rfl rfl jF) ?_))|((with_reducible refine bU (o := .mul) ?_);(first|refine aL (kA rfl rfl rfl jF) ?_|refine aL (iI rfl dG rfl dG rfl) ?_|refine aL (nN rfl rfl rfl jF) ?_))|((with_reducible refine bU (o := .eql) ?_);(first|refine aL (jV rfl rfl rfl rfl) ?_|refine aL (aR0 aB rfl rfl rfl rfl rfl) ?_|refine aL (aE6 rfl rfl rfl) ?_))|((with_reducible refine bU (o := .neq) ?_);(first|refine aL (jV rfl rfl rfl rfl) ?_|refine aL (s_neqB aB rfl rfl rfl rfl rfl) ?_|refine aL (s_neqS rfl rfl rfl) ?_))|((with_reducible refine bU (o := .lss) ?_);(first|refine aL (jV rfl rfl rfl rfl) ?_))|((with_reducible refine bU (o := .leq) ?_);(first|refine aL (jV rfl rfl rfl rfl) ?_))|((with_reducible refine bU (o := .gtr) ?_);(first|refine aL (jV rfl rfl rfl rfl) ?_))|((with_reducible refine bU (o := .geq) ?_);(first|refine aL (jV rfl rfl rfl rfl) ?_))|((with_reducible refine bU (o := .rem) ?_);(first|refine aL (xW (k := .i64) rfl rfl lG aH9) ?_|refine aL (xW rfl rfl lG aH9) ?_))|((with_reducible refine bU (o := .quo) ?_);(first|refine aL (aE9 (k := .i64) rfl rfl lG aH7) ?_|refine aL (aE9 rfl rfl lG aH7) ?_))|((with_reducible refine bU (o := .and) ?_);(first|refine aL (iI rfl dG rfl dG rfl) ?_|refine aL (aD9 rfl rfl rfl) ?_))|((with_reducible refine bU (o := .or) ?_);(first|refine aL (iI rfl dG rfl dG rfl) ?_|refine aL (bZ3 rfl rfl rfl) ?_))|((with_reducible refine bU (o := .xor) ?_);(first|refine aL (iI rfl dG rfl dG rfl) ?_|refine aL (bR3 rfl rfl rfl) ?_))|((with_reducible refine bU (o := .andNot) ?_);(first|refine aL (s_andNot rfl rfl rfl) ?_))|((with_reducible refine bU (o := .shl) ?_);(first|refine aL (wT rfl dG rfl zcj) ?_|refine aL (bA5 rfl rfl zle rfl) ?_))|((with_reducible refine bU (o := .shr) ?_);(first|refine aL (tJ rfl dG rfl zcj) ?_|refine aL (bA6 rfl rfl zle rfl) ?_))|((with_reducible refine aB0 ?_);(first|refine aL (aE0 rfl) ?_))|((with_reducible refine aV6 ?_);(first|refine aL (bI2 aB rfl rfl rfl) ?_|refine aL (bI4 aB rfl rfl rfl) ?_|refine aL (aR1 aB rfl rfl rfl) ?_|refine aL (bI3 aB rfl rfl rfl) ?_|refine aL (bI1 aB rfl rfl rfl) ?_|refine aL (bR1 rfl rfl rfl) ?_|refine aL (cT6 rfl rfl rfl) ?_))|((with_reducible refine cJ9 ?_);(first|refine aL (cT8 rfl rfl) ?_|refine aL (aE2 rfl dG) ?_|refine aL (cT7 rfl cF8) ?_|refine aL (sK rfl rfl) ?_))|((with_reducible refine qT ?_);(first|refine aL (aE5 rfl dG aB rfl rfl rfl) ?_|refine aL (s_convWW rfl dG aB rfl rfl rfl) ?_|refine aL (aE3 rfl aB rfl rfl rfl) ?_|refine aL (aE4 rfl aB rfl rfl rfl) ?_|refine aL (gB aB rfl rfl rfl rfl jF) ?_|refine aL (s_convStr aB rfl rfl rfl rfl) ?_|refine aL (aR6 aB rfl rfl rfl rfl rfl rfl rfl cF5) ?_))|((with_reducible refine bE7 ?_);(first|refine aL (gV aB rfl rfl rfl rfl rfl rfl) ?_|refine aL (pN aB rfl rfl rfl rfl rfl rfl) ?_))|((with_reducible refine e_fld ?_);(first|refine aL (s_field1 aB rfl rfl rfl rfl rfl rfl qO eT) ?_|refine aL (s_fieldA aB rfl rfl rfl rfl rfl rfl qO eT nW) ?_))|((with_reducible refine cJ2 ?_);(first|refine aL (wS rfl rfl) ?_))|((with_reducible refine jW ?_);(first|refine aL (bI8 aB rfl rfl rfl rfl zbd zle rfl rfl) ?_|refine aL (cT9 aB rfl rfl rfl rfl zbd zbd zle zle rfl rfl) ?_|refine aL (cU1 aB rfl rfl rfl rfl zbd zbd zle zle rfl) ?_|refine aL (aR5 aB rfl rfl rfl rfl zbd zbd zle zle aN) ?_|refine aL (s_slStr aB rfl rfl rfl zbd zbd zle zle) ?_|refine aL (s_slArri aB rfl rfl rfl rfl zbd zbd zle zle aN tT zln) ?_|refine aL (cU0 aB rfl rfl rfl zbd rfl) ?_|refine aL (bI9 aB rfl rfl rfl rfl rfl zbd zbd zle zle) ?_))|((with_reducible refine e_ix ?_);(first|refine aL (s_ixV1 aB rfl rfl zcj rfl rfl rfl rfl rfl zle jP) ?_|refine aL (s_ixStr aB rfl rfl zcj rfl rfl jP) ?_))|((with_reducible refine aN9 ?_);(first|refine aL (aE1 aB rfl rfl rfl rfl (fJ rfl) eT nW) ?_|refine aL (nH aB rfl rfl rfl rfl (fJ rfl) eT nW) ?_))|((with_reducible refine bE9 ?_);(first|refine aL (yR rfl rfl) ?_|refine aL (yQ rfl rfl) ?_|refine aL (aE8 rfl cF4 rfl) ?_|refine aL (aE7 rfl cF3 rfl) ?_))|((with_reducible refine aB1 ?_);(first|refine aL (tI rfl) ?_))|((with_reducible refine cJ4 ?_);(first|refine aL (iT rfl) ?_|refine aL (s_nilChecki rfl) ?_))))
 | ((with_reducible refine isEk_g ?_);(refine e_skip (cI rfl rfl cF2) ?_)))
 exact hq.out):p:=h ⟨hq⟩
section
variable {P:Dv} {ops:Dq} {sz n n0 i m t:Nat} {K:AK} {env env0:Env} {h h0 hr:aO} {es:List Eat} {ids:Dr} {dfs:cD} {rest l:Dp} {op:Op} {ty:Du} {pos:String} {aft:Ds} {gd:Dn} {f:FuncId} {xs:Dy} {ats:Dx}
theorem xA (hh:∃v,Still P ⟨some t,op,ty,pos,aft,gd⟩ (evA env) h v/\AWL P ops sz rest K n ((t,v)::env) h dfs) (hg:guardA ops env ⟨some t,op,ty,pos,aft,gd⟩ true:=by first|exact aE|exact (cI rfl rfl iC)) (hd:Nat.blt t sz=true:=by rfl):AWL P ops sz (⟨some t,op,ty,pos,aft,gd⟩::rest) K n env h dfs:=eV6 hg hd hh
theorem xD (hh:∃v,Still P ⟨some t,op,ty,pos,aft,gd⟩ (evT (Oper.looksAt l.toArray ⟨some t,op,ty,pos,aft,gd⟩) env) h v/\Drw P l sz K dfs i n0 env0 h0 m rest n ((t,v)::env) h) (hg:guardA l.toArray env ⟨some t,op,ty,pos,aft,gd⟩ true:=by first|exact aE|exact (cI rfl rfl iC)):Drw P l sz K dfs i n0 env0 h0 (m+1) (⟨some t,op,ty,pos,aft,gd⟩::rest) n env h:=eV7 hg hh
theorem xE (hh:∃v,Still P ⟨some t,op,ty,pos,aft,gd⟩ (evT (Oper.looksAt l.toArray ⟨some t,op,ty,pos,aft,gd⟩) env) hr v/\bX P l sz K dfs i n0 env0 h0 (es++[(ids,none)]) m rest n ((t,v)::env) h) (hg:guardA l.toArray env ⟨some t,op,ty,pos,aft,gd⟩ true:=by first|exact aE|exact (cI rfl rfl iC)) (hi:uF env (Oper.looksAt l.toArray ⟨some t,op,ty,pos,aft,gd⟩)=some ids:=by rfl) (hf:jY ids h=some hr:=by rfl):bX P l sz K dfs i n0 env0 h0 es (m+1) (⟨some t,op,ty,pos,aft,gd⟩::rest) n env h:=eV8 hg hi hf hh
theorem wA (hh:∃v,Adds P ⟨some t,op,ty,pos,aft,gd⟩ (evA env) h v [] n n/\AWL P ops sz rest K n ((t,v)::env) h dfs) (hg:guardA ops env ⟨some t,op,ty,pos,aft,gd⟩ true:=by first|exact aE|exact (cI rfl rfl iC)) (hd:Nat.blt t sz=true:=by rfl):AWL P ops sz (⟨some t,op,ty,pos,aft,gd⟩::rest) K n env h dfs:=eV3 hg hd hh
theorem wD (hh:∃v,Adds P ⟨some t,op,ty,pos,aft,gd⟩ (evT (Oper.looksAt l.toArray ⟨some t,op,ty,pos,aft,gd⟩) env) h v [] n n/\Drw P l sz K dfs i n0 env0 h0 m rest n ((t,v)::env) h) (hg:guardA l.toArray env ⟨some t,op,ty,pos,aft,gd⟩ true:=by first|exact aE|exact (cI rfl rfl iC)):Drw P l sz K dfs i n0 env0 h0 (m+1) (⟨some t,op,ty,pos,aft,gd⟩::rest) n env h:=eV4 hg hh
theorem wE (hh:∃v,Adds P ⟨some t,op,ty,pos,aft,gd⟩ (evT (Oper.looksAt l.toArray ⟨some t,op,ty,pos,aft,gd⟩) env) hr v [] n n/\bX P l sz K dfs i n0 env0 h0 (es++[(ids,none)]) m rest n ((t,v)::env) h) (hg:guardA l.toArray env ⟨some t,op,ty,pos,aft,gd⟩ true:=by first|exact aE|exact (cI rfl rfl iC)) (hi:uF env (Oper.looksAt l.toArray ⟨some t,op,ty,pos,aft,gd⟩)=some ids:=by rfl) (hf:jY ids h=some hr:=by rfl):bX P l sz K dfs i n0 env0 h0 es (m+1) (⟨some t,op,ty,pos,aft,gd⟩::rest) n env h:=eV5 hg hi hf hh
theorem yA (hh:∃v obj,obj.live=some obj/\Adds P ⟨some t,op,ty,pos,aft,gd⟩ (evA env) h v [(n,obj)] n (n+1)/\AWL P ops sz rest K (n+1) ((t,v)::env) ((n,obj)::h) dfs) (hg:guardA ops env ⟨some t,op,ty,pos,aft,gd⟩ true:=by first|exact aE|exact (cI rfl rfl iC)) (hd:Nat.blt t sz=true:=by rfl):AWL P ops sz (⟨some t,op,ty,pos,aft,gd⟩::rest) K n env h dfs:=cA6 hg hd hh
theorem yD (hh:∃v obj,obj.live=some obj/\Adds P ⟨some t,op,ty,pos,aft,gd⟩ (evT (Oper.looksAt l.toArray ⟨some t,op,ty,pos,aft,gd⟩) env) h v [(n,obj)] n (n+1)/\Drw P l sz K dfs i n0 env0 h0 m rest (n+1) ((t,v)::env) ((n,obj)::h)) (hg:guardA l.toArray env ⟨some t,op,ty,pos,aft,gd⟩ true:=by first|exact aE|exact (cI rfl rfl iC)):Drw P l sz K dfs i n0 env0 h0 (m+1) (⟨some t,op,ty,pos,aft,gd⟩::rest) n env h:=cA7 hg hh
theorem yE (hh:∃v obj,obj.live=some obj/\Adds P ⟨some t,op,ty,pos,aft,gd⟩ (evT (Oper.looksAt l.toArray ⟨some t,op,ty,pos,aft,gd⟩) env) hr v [(n,obj)] n (n+1)/\bX P l sz K dfs i n0 env0 h0 (es++[(n::ids,none)]) m rest (n+1) ((t,v)::env) ((n,obj)::h)) (hg:guardA l.toArray env ⟨some t,op,ty,pos,aft,gd⟩ true:=by first|exact aE|exact (cI rfl rfl iC)) (hi:uF env (Oper.looksAt l.toArray ⟨some t,op,ty,pos,aft,gd⟩)=some ids:=by rfl) (hf:jY ids h=some hr:=by rfl):bX P l sz K dfs i n0 env0 h0 es (m+1) (⟨some t,op,ty,pos,aft,gd⟩::rest) n env h:=cA8 hg hi hf hh
theorem zA (hh:jN P f xs (evA env) (fun r=>AWL P ops sz rest K n ((t,r)::env) h dfs) (fun k size T rc=>AWL P ops sz rest K (n+1) ((t,.own n 0 k size true)::env) ((n,.row T rc)::h) dfs)) (hg:guardA ops env ⟨some t,.call ⟨.value (.func f),xs.toArray,ats⟩,ty,pos,aft,gd⟩ true:=by first|exact aE|exact (cI rfl rfl iC)) (hd:Nat.blt t sz=true:=by rfl):AWL P ops sz (⟨some t,.call ⟨.value (.func f),xs.toArray,ats⟩,ty,pos,aft,gd⟩::rest) K n env h dfs:=eW9 hg hd hh
theorem zN (hh:jN P f xs (evA env) (fun r=>AWL P ops sz rest K n env h dfs) (fun k size T rc=>AWL P ops sz rest K (n+1) env ((n,.row T rc)::h) dfs)) (hg:guardA ops env ⟨none,.call ⟨.value (.func f),xs.toArray,ats⟩,ty,pos,aft,gd⟩ true:=by first|exact aE|exact (cI rfl rfl iC)):AWL P ops sz (⟨none,.call ⟨.value (.func f),xs.toArray,ats⟩,ty,pos,aft,gd⟩::rest) K n env h dfs:=eX2 hg hh
theorem zD (hh:jN P f xs (evT (Oper.looksAt l.toArray ⟨some t,.call ⟨.value (.func f),xs.toArray,ats⟩,ty,pos,aft,gd⟩) env) (fun r=>Drw P l sz K dfs i n0 env0 h0 m rest n ((t,r)::env) h) (fun k size T rc=>Drw P l sz K dfs i n0 env0 h0 m rest (n+1) ((t,.own n 0 k size true)::env) ((n,.row T rc)::h))) (hg:guardA l.toArray env ⟨some t,.call ⟨.value (.func f),xs.toArray,ats⟩,ty,pos,aft,gd⟩ true:=by first|exact aE|exact (cI rfl rfl iC)):Drw P l sz K dfs i n0 env0 h0 (m+1) (⟨some t,.call ⟨.value (.func f),xs.toArray,ats⟩,ty,pos,aft,gd⟩::rest) n env h:=eX0 hg hh
theorem zE (hh:jN P f xs (evT (Oper.looksAt l.toArray ⟨some t,.call ⟨.value (.func f),xs.toArray,ats⟩,ty,pos,aft,gd⟩) env) (fun r=>bX P l sz K dfs i n0 env0 h0 (es++[([],none)]) m rest n ((t,r)::env) h) (fun k size T rc=>bX P l sz K dfs i n0 env0 h0 (es++[([n],none)]) m rest (n+1) ((t,.own n 0 k size true)::env) ((n,.row T rc)::h))) (hg:guardA l.toArray env ⟨some t,.call ⟨.value (.func f),xs.toArray,ats⟩,ty,pos,aft,gd⟩ true:=by first|exact aE|exact (cI rfl rfl iC)):bX P l sz K dfs i n0 env0 h0 es (m+1) (⟨some t,.call ⟨.value (.func f),xs.toArray,ats⟩,ty,pos,aft,gd⟩::rest) n env h:=eX1 hg hh
variable {cs cs' rc:D1} {r:AV} {ev:Evl} {N0:AV->Prop} {N1:Nat->Nat->Du->D1->Prop} {k size:Nat} {T:Du} {vs:D2} {N:AV->Prop} {d:Dt} {N2:AV->AObj->Prop}
theorem c0 (hac:AC P f cs' r [] 0) (hn:N0 r) (hb:Body P f:=by unfold Body;kernel_rfl) (hx:eX ev xs=some cs:=by rfl) (hcv:CvL cs cs':=by first|exact rV|((repeat' (first|exact fO|refine eK ?_ ?_|(first|exact cR|exact gM|(refine jG ?_ ?_<;>first|rfl|omega|(simp<;>fail)|fail)|(refine pT ?_;first|rfl|(simp<;>fail)|fail)|refine mN ?_)))<;>fail)|fail) (hid:r.noId=true:=by rfl):jN P f xs ev N0 N1:=eQ6 hac hb hx hcv hid hn
theorem c1 (hac:AC P f cs' (.own 0 0 k size true) [(0,.row T rc)] 1) (hn:N1 k size T rc) (hb:Body P f:=by unfold Body;kernel_rfl) (hx:eX ev xs=some cs:=by rfl) (hcv:CvL cs cs':=by first|exact rV|((repeat' (first|exact fO|refine eK ?_ ?_|(first|exact cR|exact gM|(refine jG ?_ ?_<;>first|rfl|omega|(simp<;>fail)|fail)|(refine pT ?_;first|rfl|(simp<;>fail)|fail)|refine mN ?_)))<;>fail)|fail):jN P f xs ev N0 N1:=eQ7 hac hb hx hcv hn
theorem cF (hac:AC P f cs r [] 0) (hn:N r) (hb:Body P f:=by unfold Body;kernel_rfl) (hx:pQ ev xs=some vs:=by rfl) (hfz:aL5 [] h vs cs:=by first|((repeat' (first|exact cS|refine aX ?_ ?_|(first|with_reducible exact dU cR|with_reducible exact dU gM|exact gP rfl rfl zln|exact kT rfl rfl rfl zln|exact fZ (gP rfl rfl zln) (jG zse zse)|exact fZ (kT rfl rfl rfl zln) (jG zse zse)|exact fZ (dU cR) (jG zse zse)|exact fZ (dU cR) (pT cG2)|exact dU cR|exact dU gM|exact bF4 rfl rfl aA aA aA|refine uB rfl ?_|refine dU (mN ?_)|exact fO|refine eK ?_ ?_|exact cR|exact gM|exact jG zse zse)))<;>fail)|fail) (hfl:FlR r:=by first|exact FlR.c bO0|exact FlR.c (aO3 bM3)|exact flr_2 bM3|exact flr_3 bM3|exact FlR.t bM3|assumption):∃v,Adds P ⟨d,.call ⟨.value (.func f),xs.toArray,ats⟩,ty,pos,aft,gd⟩ ev h v [] n n/\N v:=oZ (bD3 hb hx hfz hac hfl) hn
theorem cF1 (hac:AC P f cs (.own 0 0 k size true) [(0,.row T rc)] 1) (hn:N2 (.own n 0 k size true) (.row T rc)) (hb:Body P f:=by unfold Body;kernel_rfl) (hx:pQ ev xs=some vs:=by rfl) (hfz:aL5 [] h vs cs:=by first|((repeat' (first|exact cS|refine aX ?_ ?_|(first|with_reducible exact dU cR|with_reducible exact dU gM|exact gP rfl rfl zln|exact kT rfl rfl rfl zln|exact fZ (gP rfl rfl zln) (jG zse zse)|exact fZ (kT rfl rfl rfl zln) (jG zse zse)|exact fZ (dU cR) (jG zse zse)|exact fZ (dU cR) (pT cG2)|exact dU cR|exact dU gM|exact bF4 rfl rfl aA aA aA|refine uB rfl ?_|refine dU (mN ?_)|exact fO|refine eK ?_ ?_|exact cR|exact gM|exact jG zse zse)))<;>fail)|fail) (hfl:FlcL rc:=by first|((repeat' (first|exact flcl_nil|exact yI _|exact flcl_int _ _|exact tC _|exact bO0|assumption|refine flcl_app ?_ ?_|refine flcl_cons ?_ ?_|refine aO3 ?_))<;>fail)|fail):∃v obj,obj.live=some obj/\Adds P ⟨d,.call ⟨.value (.func f),xs.toArray,ats⟩,ty,pos,aft,gd⟩ ev h v [(n,obj)] n (n+1)/\N2 v obj:=⟨_,_,rfl,aS5 hb hx hfz hac hfl,hn⟩
end
theorem eH {n:Nat} {env:Env} {h:aO} {dfs:cD} {N:Nat} {E:Env} {Hp:aO} {D:cD} (w:cU n env h dfs N E Hp D:=by refine dW rfl ?_ ?_ rfl<;>(repeat' (first|exact cO|exact cP|refine cG rfl dP3 rfl ?_|refine bD rfl dP3 rfl ?_))):cU n env h dfs N E Hp D:=w
theorem gL {p:Prop} (h:p:=by first|with_reducible assumption|assumption|(rw [A8];assumption)|(rw [Aq,A8];assumption)|fail):p:=h
theorem lF {p:Prop} (h:p:=by first|with_reducible assumption|assumption|exact tL (by first|rfl|omega)|rfl|fail):p:=h
theorem dW8 {p:Prop} (h:p:=by first|(simp<;>fail)|fail):p:=h
section
variable {p q:Prop} (hq:q)
include p q hq
theorem aC (h:Kept q->p:=by
 intro hq
 (first|(with_reducible refine cY2 ?_)|fail)
 exact hq.out):p:=h ⟨hq⟩
theorem eJ (h:Kept q->p:=by
 intro hq
 (first|((((with_reducible refine bP ?_);refine xA ?_);(first|((with_reducible refine gO ?_);(first|refine aL (jB aB rfl rfl rfl rfl gL) ?_|refine aL (gS aB rfl rfl rfl rfl gL) ?_|refine aL (gR aB rfl rfl rfl gL) ?_))|((with_reducible refine e_ix ?_);(first|refine aL (s_ixV1 aB rfl rfl zcj rfl rfl rfl rfl rfl zle gL) ?_|refine aL (s_ixStr aB rfl rfl zcj rfl rfl gL) ?_)))))|fail)
 exact hq.out):p:=h ⟨hq⟩
theorem jO (h:Kept q->p:=by
 intro hq
 (first|((((with_reducible refine bP ?_);refine xA ?_);(first|((with_reducible refine gO ?_);(first|refine aL (jL aB rfl rfl rfl rfl lF zln) ?_|refine aL (jK aB rfl rfl rfl lF zln) ?_))|((with_reducible refine jW ?_);(first|refine aL (s_slArri aB rfl rfl rfl rfl zbd zbd zle zle aN lF zln) ?_)))))|fail)
 exact hq.out):p:=h ⟨hq⟩
theorem dK (h:Kept q->p:=by
 intro hq
 (first|((first|with_reducible refine aF ?_);(first|refine zA ?_|refine zN ?_))|fail)
 exact hq.out):p:=h ⟨hq⟩
theorem cH (h:Kept q->p:=by
 intro hq
 (first|(((first|((with_reducible refine bP ?_);refine xA ?_)|((with_reducible refine cZ ?_);refine xD ?_));(first|((with_reducible refine gO ?_);(first|refine aL (jB aB rfl rfl rfl rfl gL) ?_|refine aL (gS aB rfl rfl rfl rfl gL) ?_|refine aL (gR aB rfl rfl rfl gL) ?_))|((with_reducible refine e_ix ?_);(first|refine aL (s_ixV1 aB rfl rfl zcj rfl rfl rfl rfl rfl zle gL) ?_|refine aL (s_ixStr aB rfl rfl zcj rfl rfl gL) ?_)))))|fail)
 exact hq.out):p:=h ⟨hq⟩
theorem eE (h:Kept q->p:=by
 intro hq
 (first|(((first|((with_reducible refine bP ?_);refine xA ?_)|((with_reducible refine cZ ?_);refine xD ?_));(first|((with_reducible refine gO ?_);(first|refine aL (jL aB rfl rfl rfl rfl lF zln) ?_|refine aL (jK aB rfl rfl rfl lF zln) ?_))|((with_reducible refine jW ?_);(first|refine aL (s_slArri aB rfl rfl rfl rfl zbd zbd zle zle aN lF zln) ?_)))))|fail)
 exact hq.out):p:=h ⟨hq⟩
theorem bZ (h:Kept q->p:=by
 intro hq
 (first|((first|with_reducible refine aF ?_|with_reducible refine gG ?_);(first|refine zA ?_|refine zN ?_|refine zD ?_))|fail)
 exact hq.out):p:=h ⟨hq⟩
theorem cZ3 (h:Kept q->p:=by
 intro hq
 (first|(((first|((with_reducible refine bP ?_);refine xA ?_)|((with_reducible refine iR ?_);refine xE ?_));(first|((with_reducible refine gO ?_);(first|refine aL (jB aB rfl rfl rfl rfl gL) ?_|refine aL (gS aB rfl rfl rfl rfl gL) ?_|refine aL (gR aB rfl rfl rfl gL) ?_))|((with_reducible refine e_ix ?_);(first|refine aL (s_ixV1 aB rfl rfl zcj rfl rfl rfl rfl rfl zle gL) ?_|refine aL (s_ixStr aB rfl rfl zcj rfl rfl gL) ?_)))))|fail)
 exact hq.out):p:=h ⟨hq⟩
theorem aM9 (h:Kept q->p:=by
 intro hq
 (first|(((first|((with_reducible refine bP ?_);refine xA ?_)|((with_reducible refine iR ?_);refine xE ?_));(first|((with_reducible refine gO ?_);(first|refine aL (jL aB rfl rfl rfl rfl lF zln) ?_|refine aL (jK aB rfl rfl rfl lF zln) ?_))|((with_reducible refine jW ?_);(first|refine aL (s_slArri aB rfl rfl rfl rfl zbd zbd zle zle aN lF zln) ?_)))))|fail)
 exact hq.out):p:=h ⟨hq⟩
theorem iK (h:Kept q->p:=by
 intro hq
 (first|((first|with_reducible refine aF ?_|with_reducible refine bL ?_);(first|refine zA ?_|refine zN ?_|refine zE ?_))|fail)
 exact hq.out):p:=h ⟨hq⟩
theorem iB (h:Kept q->p:=by
 intro hq
 (first|(((first|((with_reducible refine bP ?_);refine xA ?_)|((with_reducible refine cZ ?_);refine xD ?_)|((with_reducible refine iR ?_);refine xE ?_));(first|((with_reducible refine gO ?_);(first|refine aL (jB aB rfl rfl rfl rfl gL) ?_|refine aL (gS aB rfl rfl rfl rfl gL) ?_|refine aL (gR aB rfl rfl rfl gL) ?_))|((with_reducible refine e_ix ?_);(first|refine aL (s_ixV1 aB rfl rfl zcj rfl rfl rfl rfl rfl zle gL) ?_|refine aL (s_ixStr aB rfl rfl zcj rfl rfl gL) ?_)))))|fail)
 exact hq.out):p:=h ⟨hq⟩
theorem fT (h:Kept q->p:=by
 intro hq
 (first|(((first|((with_reducible refine bP ?_);refine xA ?_)|((with_reducible refine cZ ?_);refine xD ?_)|((with_reducible refine iR ?_);refine xE ?_));(first|((with_reducible refine gO ?_);(first|refine aL (jL aB rfl rfl rfl rfl lF zln) ?_|refine aL (jK aB rfl rfl rfl lF zln) ?_))|((with_reducible refine jW ?_);(first|refine aL (s_slArri aB rfl rfl rfl rfl zbd zbd zle zle aN lF zln) ?_)))))|fail)
 exact hq.out):p:=h ⟨hq⟩
theorem dM (h:Kept q->p:=by
 intro hq
 (first|((first|with_reducible refine aF ?_|with_reducible refine gG ?_|with_reducible refine bL ?_);(first|refine zA ?_|refine zN ?_|refine zD ?_|refine zE ?_))|fail)
 exact hq.out):p:=h ⟨hq⟩
theorem vB (h:Kept q->p:=by
 intro hq
 (first|((with_reducible refine pD ?_);refine wA ?_;(first|refine oZ (dP (lT aB rfl rfl rfl rfl rfl) zln) ?_|refine oZ (dP (nS aB rfl rfl rfl rfl rfl rfl rfl rfl rfl rfl rfl rfl (kO rfl) aI0 eT) zln) ?_))|fail)
 exact hq.out):p:=h ⟨hq⟩
theorem gX (h:Kept q->p:=by
 intro hq
 (first|((first|with_reducible refine pD ?_|with_reducible refine aC4 ?_);(first|refine wA ?_|refine wE ?_);(first|refine oZ (dP (lT aB rfl rfl rfl rfl rfl) zln) ?_|refine oZ (dP (nS aB rfl rfl rfl rfl rfl rfl rfl rfl rfl rfl rfl rfl (kO rfl) aI0 eT) zln) ?_))|fail)
 exact hq.out):p:=h ⟨hq⟩
theorem eP2 (h:Kept q->p:=by
 intro hq
 (first|((first|with_reducible refine pD ?_|with_reducible refine isD_bslice ?_);(first|refine wA ?_|refine wD ?_);(first|refine oZ (dP (lT aB rfl rfl rfl rfl rfl) zln) ?_|refine oZ (dP (nS aB rfl rfl rfl rfl rfl rfl rfl rfl rfl rfl rfl rfl (kO rfl) aI0 eT) zln) ?_))|fail)
 exact hq.out):p:=h ⟨hq⟩
end
structure KeptA (r q:Prop):Prop where
 a:r
 out:q
theorem eQ4 {p q r:Prop} (a:r) (hq:q) (h:KeptA r q->p:=by
 intro hq
 (first|((with_reducible refine aF ?_);refine aJ hq.a aE rfl zby rfl rfl rfl rfl zcv rfl ztp ?_)|fail)
 exact hq.out):p:=h ⟨a,hq⟩
structure KeptK (ks fs:Dr) (q:Prop):Prop where
 out:q
section
variable {P:Dv} {sz n n0 id:Nat} {K:AK} {env env' env0:Env} {h h' h0:aO} {dfs:cD} {c:Code} {l:Dp} {ks fs:Dr} {p q:Prop}
theorem zT (k:KeptK ks fs q) (hE:mS env ks=some env') (hH:tG h n=some h') (hx:AW P sz c K n env' h' dfs):AW P sz c K n env h dfs:=aP ks hE hH hx
theorem dW7 (k:KeptK ks fs q) (hx:Drw P l sz K dfs id n0 env0 h0 (qX fs l l) l n0 env0 h0):AW P sz (.region id l.toArray true) K n0 env0 h0 dfs:=cJ fs hx
theorem dW6 (k:KeptK ks fs q) (hx:bX P l sz K dfs id n0 env0 h0 [] (mP fs l l) l n0 env0 h0):AW P sz (.region id l.toArray true) K n0 env0 h0 dfs:=bW fs hx
theorem aK (ks:Dr) (hq:q) (h:KeptK ks [] q->p:=by
 intro hq
 (first|((with_reducible refine aP1 ?_);refine zT hq rfl rfl ?_;with_reducible refine rR ?_)|fail)
 exact hq.out):p:=h ⟨hq⟩
theorem bE (ks:Dr) (hq:q) (h:KeptK ks [] q->p:=by
 intro hq
 (first|((with_reducible refine aP1 ?_);refine zT hq rfl rfl ?_;with_reducible refine rR ?_)|((with_reducible refine aQ ?_);refine zT hq rfl rfl ?_;refine dW7 hq ?_)|fail)
 exact hq.out):p:=h ⟨hq⟩
theorem fB (ks:Dr) (hq:q) (h:KeptK ks [] q->p:=by
 intro hq
 (first|((with_reducible refine aP1 ?_);refine zT hq rfl rfl ?_;with_reducible refine rR ?_)|((with_reducible refine aQ ?_);refine zT hq rfl rfl ?_;refine dW6 hq ?_)|fail)
 exact hq.out):p:=h ⟨hq⟩
end
end Go.Proofs.YtbgehdndimlgkaaGreat
