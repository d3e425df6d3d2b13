/- Lemmas for laws of the ledger. -/
import Derived.Test.YtbgehdndimlgkaaGreatP4
import Derived.Test.YtbgehdndimlgkaaGreatP6
set_option linter.all false
namespace Go.Proofs.YtbgehdndimlgkaaGreat
open Go Go.RowKit Go.Av
set_option maxRecDepth 100000
section
variable {p:Prop}
include p
theorem zio (h:p:=by first|exact .inl rfl|exact .inr rfl):p:=h
theorem ztr (h:p:=by exact trivial):p:=h
theorem zou (h:p:=by first|exact aO6 zfz|exact dN8 rfl rfl):p:=h
theorem zby (h:p:=by unfold Body;kernel_rfl):p:=h
theorem zpt (h:p:=by first|exact Parts.mixed _|exact Parts.closed _):p:=h
theorem ztp (h:p:=by (try simp only [tpC,AI,CD]);exact rfl):p:=h
theorem zgd (h:p:=by first|rfl|exact gd1 aA|exact gd2 aA|exact gd3 aA|exact gd4 aA):p:=h
theorem zcm (h:p:=by first|exact AH aA|exact Bj aA|rfl):p:=h
theorem zeq (h:p:=by first|exact cV7 rfl rfl aA|exact cT2 aA|(simp<;>fail)|(congr 4;omega)|(congr 3;omega)|(congr 2;omega)):p:=h
theorem zgb (h:p:=by first|rfl|assumption|exact gd1 aA|exact gd2 aA|exact gd3 aA|exact gd4 aA|(simp only [*]<;>fail)|fail):p:=h
theorem zln (h:p:=by first|rfl|with_reducible assumption|(simp<;>fail)|omega|(simp<;>omega)|assumption):p:=h
theorem zse (h:p:=by first|rfl|omega|(simp<;>fail)|fail):p:=h
theorem zcj (h:p:=by first|with_reducible exact cA1 _|with_reducible exact cJ0 _|with_reducible exact bZ9 _ _|with_reducible exact cA0 _ _|with_reducible exact cA2 aA|with_reducible exact cA3 aA|with_reducible exact cast_lsub aA|exact nt aA|rfl):p:=h
theorem zle (h:p:=by first|exact A7 rfl|omega|(simp<;>omega)):p:=h
theorem zcv (h:p:=by first|exact sX|((repeat' (first|exact gB|refine eX ?_ ?_|(first|exact cV|exact hQ|(refine jV ?_ ?_<;>first|rfl|omega|(simp<;>fail)|fail)|(refine rE ?_;first|rfl|(simp<;>fail)|fail)|refine nI ?_)))<;>fail)|fail):p:=h
theorem zbd (h:p:=by first|exact Bd.no|exact Bd.yes rfl zcj):p:=h
theorem zfz (h:p:=by repeat' (first|exact eC cV|exact eC hQ|exact hU rfl rfl zln|exact lM rfl rfl rfl zln|exact gK (hU rfl rfl zln) (jV zse zse)|exact gK (lM rfl rfl rfl zln) (jV zse zse)|refine vI rfl ?_|refine eC (nI ?_)|exact cW|refine bB ?_ ?_|exact gB|refine eX ?_ ?_|exact cV|exact hQ|exact jV zse zse|exact lM rfl rfl fV fV|exact dL5 (by first|exact w64 aA aA|omega)|exact cS7 (by first|assumption|omega)|exact cC3 (by first|assumption|omega)|exact frz_eq (eC cV) cN4)):p:=h
theorem zrs (h:p:=by first|exact ResA.one rfl rfl rfl rfl rfl|exact ResA.agg rfl rfl rfl rfl rfl oV|exact ResA.aggr rfl rfl rfl rfl zln):p:=h
end
structure Kept (q:Prop):Prop where
 out:q
theorem eX8 {P:D0} {sz n i:Nat} {env env':Env} {h h':aQ} {dfs:cK} {K:AK} {l:Du} (ks:Dw) (hE:nP env ks=some env') (hH:uI h n=some h') (hx:AWL P l.toArray sz l K n env' h' dfs):AW P sz (.region i l.toArray false) K n env h dfs:=aP ks hE hH (sU hx)
theorem stA {p q:Prop} (hq:q) (h:Kept q->p:=by
 intro hq
 (first
 | ((with_reducible refine dM3 ?_);(first|((with_reducible refine cU0 ?_);(first|(refine aB3 rfl (by first|assumption|with_reducible exact AH fV|with_reducible rfl) ?_)|(refine aB2 rfl (by first|assumption|with_reducible exact Bj fV|with_reducible rfl) ?_)|(refine aB3 rfl rfl ?_)|(refine aB2 rfl rfl ?_)|(refine aB3 rfl (by first|exact AH aA|(simp only [*]<;>fail)|fail) ?_)|(refine aB2 rfl (by first|exact Bj aA|(simp only [*]<;>fail)|fail) ?_)))|(with_reducible refine cI1 ?_)|(with_reducible refine dG0 ?_)|(with_reducible refine dF7 ?_)|(with_reducible refine eD8 ?_)))
 | ((with_reducible refine cT7 ?_);(refine bJ3 (cP rfl rfl cM3) rfl ?_))
 | ((with_reducible refine cT7 ?_);(refine bJ3 (aU2 rfl rfl) rfl ?_))
 | ((with_reducible refine uE ?_);(first|(refine aA8 aB aG rfl rfl rfl rfl rfl rfl rfl rfl zln rfl yN nX zle ?_)|((first|refine cH0 aG rfl ?_|refine cH0 (cP rfl rfl iR) rfl ?_);refine bE (b_appendN aB rfl rfl rfl rfl rfl rfl rfl rfl yN nX zle) rfl ?_)|((first|refine cH0 aG rfl ?_|refine cH0 (cP rfl rfl iR) rfl ?_);refine bE (wH aB rfl rfl rfl rfl rfl rfl rfl rfl rfl rfl rfl zcj zle nX zle) rfl ?_)|(refine eD5 aB aG rfl rfl rfl rfl rfl rfl rfl rfl yN zle zle ?_)|(refine n_copy aB aG rfl rfl rfl rfl rfl rfl rfl yN zle zle ?_)))
 | ((with_reducible refine fT ?_);(first|(refine cS1 aB aG rfl rfl rfl rfl rfl rfl rfl ?_)|(refine cB9 aB aG rfl rfl rfl rfl rfl rfl rfl ?_)|(refine eO aB aG rfl rfl rfl rfl rfl rfl (by first|fail|exact A7 rfl|omega|(simp<;>omega)) ?_)|(refine aB5 aB aG rfl rfl rfl rT fF fF rfl (A7 rfl) fF ?_)|(refine yG aB aG rfl rfl rfl zln rfl zle (by first|exact pD _ _ zln|rfl) ?_)))
 | ((with_reducible refine aW ?_);(first|refine cH0 aG rfl ?_|refine cH0 (cP rfl rfl iR) rfl ?_);(first|refine bE (aA7 aB rfl rfl rfl rfl) rfl ?_|refine bE (aQ6 aB rfl rfl) rfl ?_))
 | ((with_reducible refine bH ?_);(first|refine cH0 aG rfl ?_|refine cH0 (cP rfl rfl iR) rfl ?_);(first|refine bE (bJ2 (tab:=tab) rfl rfl rfl) rfl ?_|refine bE (a_box1 rfl rfl) rfl ?_|refine bE (bJ1 rfl rT) rfl ?_))
 | ((with_reducible refine qG ?_);(first|refine cH0 aG rfl ?_|refine cH0 (cP rfl rfl iR) rfl ?_);(first|refine bE (mK aB rfl rfl rfl rfl rfl) rfl ?_|refine bE (oT aB rfl rfl rfl rfl rfl rfl rfl rfl rfl rfl rfl rfl (lF rfl) aM6 fF) rfl ?_))
 | ((with_reducible refine cT8 ?_);(first|refine cH0 aG rfl ?_|refine cH0 (cP rfl rfl iR) rfl ?_);(first|refine bE (bK0 aB rfl rfl rfl rfl rfl rfl rfl rfl rfl rfl zcj zcj zle zle tZ rfl) rfl ?_))
 | ((with_reducible refine cC5 ?_);(refine bZ7 rfl aG rfl ?_))
 | ((with_reducible refine isA_conv ?_);(first|refine fE5 aG rfl ?_|refine fE5 (cP rfl rfl iR) rfl ?_);refine nK (a_toBytes aB rfl rfl rfl rfl rfl rfl rfl cM8 cN1 nX) ?_)
 | (((with_reducible refine bL ?_);(first|refine fE8 aG rfl ?_|refine fE8 (cP rfl rfl iR) rfl ?_));(first|((with_reducible refine bK8 ?_);(first|refine aJ (nT rfl) ?_))|((with_reducible refine gH ?_);(first|refine aJ (jP aB rfl rfl rfl rfl kE) ?_|refine aJ (iC aB rfl rfl rfl rfl kE) ?_|refine aJ (iB aB rfl rfl rfl kE) ?_|refine aJ (aX0 aB rfl rfl rfl rfl rfl rfl oV) ?_|refine aJ (iE aB rfl rfl rfl rfl uV zln) ?_|refine aJ (iD aB rfl rfl rfl uV zln) ?_))|((with_reducible refine cQ6 ?_);(first|refine aJ (dA6 aB rfl rfl zcj rfl rfl rfl rfl zle) ?_|refine aJ (dA7 aB rfl rfl zcj rfl rfl rfl rfl zle) ?_|refine aJ (dA5 aB rfl rfl zcj rfl rfl rfl zle) ?_|refine aJ (s_ixAi aB rfl rfl zcj rfl rfl rfl zle) ?_))|((with_reducible refine bQ (o := .add) ?_);(first|refine aJ (kA rfl rfl rfl jU) ?_|refine aJ (iW rfl dQ rfl dQ rfl) ?_|refine aJ (oM rfl rfl rfl jU) ?_))|((with_reducible refine bQ (o := .sub) ?_);(first|refine aJ (kA rfl rfl rfl jU) ?_|refine aJ (iW rfl dQ rfl dQ rfl) ?_|refine aJ (oM rfl rfl rfl jU) ?_))|((with_reducible refine bQ (o := .mul) ?_);(first|refine aJ (kA rfl rfl rfl jU) ?_|refine aJ (iW rfl dQ rfl dQ rfl) ?_|refine aJ (oM rfl rfl rfl jU) ?_))|((with_reducible refine bQ (o := .eql) ?_);(first|refine aJ (kM rfl rfl rfl rfl) ?_|refine aJ (aW7 aB rfl rfl rfl rfl rfl) ?_|refine aJ (aJ1 rfl rfl rfl) ?_))|((with_reducible refine bQ (o := .neq) ?_);(first|refine aJ (kM rfl rfl rfl rfl) ?_|refine aJ (s_neqB aB rfl rfl rfl rfl rfl) ?_|refine aJ (s_neqS rfl rfl rfl) ?_))|((with_reducible refine bQ (o := .lss) ?_);(first|refine aJ (kM rfl rfl rfl rfl) ?_))|((with_reducible refine bQ (o := .leq) ?_);(first|refine aJ (kM rfl rfl rfl rfl) ?_))|((with_reducible refine bQ (o := .gtr) ?_);(first|refine aJ (kM rfl rfl rfl rfl) ?_))|((with_reducible refine bQ (o := .geq) ?_);(first|refine aJ (kM rfl rfl rfl rfl) ?_))|((with_reducible refine bQ (o := .rem) ?_);(first|refine aJ (zI (k := .i64) rfl rfl lY aM5) ?_|refine aJ (zI rfl rfl lY aM5) ?_))|((with_reducible refine bQ (o := .quo) ?_);(first|refine aJ (aJ5 (k := .i64) rfl rfl lY aM2) ?_|refine aJ (aJ5 rfl rfl lY aM2) ?_))|((with_reducible refine bQ (o := .and) ?_);(first|refine aJ (iW rfl dQ rfl dQ rfl) ?_|refine aJ (aI4 rfl rfl rfl) ?_))|((with_reducible refine bQ (o := .or) ?_);(first|refine aJ (iW rfl dQ rfl dQ rfl) ?_|refine aJ (cF7 rfl rfl rfl) ?_))|((with_reducible refine bQ (o := .xor) ?_);(first|refine aJ (iW rfl dQ rfl dQ rfl) ?_|refine aJ (bH0 rfl rfl rfl) ?_))|((with_reducible refine bQ (o := .andNot) ?_);(first|refine aJ (s_andNot rfl rfl rfl) ?_))|((with_reducible refine bQ (o := .shl) ?_);(first|refine aJ (yB rfl dQ rfl zcj) ?_|refine aJ (bG8 rfl rfl zle rfl) ?_))|((with_reducible refine bQ (o := .shr) ?_);(first|refine aJ (uL rfl dQ rfl zcj) ?_|refine aJ (bG9 rfl rfl zle rfl) ?_))|((with_reducible refine aE8 ?_);(first|refine aJ (aI5 rfl) ?_))|((with_reducible refine bB2 ?_);(first|refine aJ (bO0 aB rfl rfl rfl) ?_|refine aJ (bO2 aB rfl rfl rfl) ?_|refine aJ (aW9 aB rfl rfl rfl) ?_|refine aJ (bO1 aB rfl rfl rfl) ?_|refine aJ (bN9 aB rfl rfl rfl) ?_|refine aJ (bX3 rfl rfl rfl) ?_|refine aJ (dA8 rfl rfl rfl) ?_))|((with_reducible refine cR2 ?_);(first|refine aJ (dB0 rfl rfl) ?_|refine aJ (aI7 rfl dQ) ?_|refine aJ (dA9 rfl cN0) ?_|refine aJ (tN rfl rfl) ?_))|((with_reducible refine oK ?_);(first|refine aJ (aJ0 rfl dQ aB rfl rfl rfl) ?_|refine aJ (s_convWW rfl dQ aB rfl rfl rfl) ?_|refine aJ (aI8 rfl aB rfl rfl rfl) ?_|refine aJ (aI9 rfl aB rfl rfl rfl) ?_|refine aJ (fC aB rfl rfl rfl rfl jU) ?_|refine aJ (s_convStr aB rfl rfl rfl rfl) ?_|refine aJ (aX4 aB rfl rfl rfl rfl rfl rfl rfl cM7) ?_))|((with_reducible refine bK7 ?_);(first|refine aJ (iH aB rfl rfl rfl rfl rfl rfl) ?_|refine aJ (qW aB rfl rfl rfl rfl rfl rfl) ?_))|((with_reducible refine e_fld ?_);(first|refine aJ (s_field1 aB rfl rfl rfl rfl rfl rfl rT fF) ?_|refine aJ (s_fieldA aB rfl rfl rfl rfl rfl rfl rT fF oV) ?_))|((with_reducible refine cQ5 ?_);(first|refine aJ (xY rfl rfl) ?_))|((with_reducible refine iZ ?_);(first|refine aJ (bO4 aB rfl rfl rfl rfl zbd zle rfl rfl) ?_|refine aJ (dB1 aB rfl rfl rfl rfl zbd zbd zle zle rfl rfl) ?_|refine aJ (dB3 aB rfl rfl rfl rfl zbd zbd zle zle rfl) ?_|refine aJ (aX3 aB rfl rfl rfl rfl zbd zbd zle zle aN) ?_|refine aJ (s_slStr aB rfl rfl rfl zbd zbd zle zle) ?_|refine aJ (s_slArri aB rfl rfl rfl rfl zbd zbd zle zle aN uV zln) ?_|refine aJ (dB2 aB rfl rfl rfl zbd rfl) ?_|refine aJ (bO5 aB rfl rfl rfl rfl rfl zbd zbd zle zle) ?_))|((with_reducible refine e_ix ?_);(first|refine aJ (s_ixV1 aB rfl rfl zcj rfl rfl rfl rfl rfl zle kE) ?_|refine aJ (s_ixStr aB rfl rfl zcj rfl rfl kE) ?_))|((with_reducible refine aT1 ?_);(first|refine aJ (aI6 aB rfl rfl rfl rfl (eV rfl) fF oV) ?_|refine aJ (lO aB rfl rfl rfl rfl (eV rfl) fF oV) ?_))|((with_reducible refine bK9 ?_);(first|refine aJ (aA3 rfl rfl) ?_|refine aJ (aA2 rfl rfl) ?_|refine aJ (aJ4 rfl cM6 rfl) ?_|refine aJ (aJ3 rfl cM5 rfl) ?_))|((with_reducible refine aE9 ?_);(first|refine aJ (uK rfl) ?_))|((with_reducible refine cQ7 ?_);(first|refine aJ (jI rfl) ?_|refine aJ (s_nilChecki rfl) ?_))))
 | (with_reducible refine dG2 ?_)
 | (with_reducible refine k_then ?_)
 | (with_reducible refine k_thenX ?_)
 | (with_reducible refine k_thenR ?_)
 | (with_reducible refine eS2 ?_)
 | (with_reducible refine eH9 ?_)
 | (refine eH7 rfl ?_)
 | (refine eH8 rfl ?_)
 | ((with_reducible refine cT7 ?_);(refine bJ3 (cP rfl rfl cM4) rfl ?_)))
 exact hq.out):p:=h ⟨hq⟩
theorem stD {p q:Prop} (hq:q) (h:Kept q->p:=by
 intro hq
 (first
 | (refine dH9 aO aO aO rfl ?_)
 | ((with_reducible refine bL9 ?_);(refine bK4 (cP rfl rfl cM3) ?_))
 | ((with_reducible refine bL9 ?_);(refine bK4 (aU2 rfl rfl) ?_))
 | ((with_reducible refine isD_bi ?_);(first|((first|refine cH1 aG ?_|refine cH1 (cP rfl rfl iR) ?_);refine bE (b_appendN aB rfl rfl rfl rfl rfl rfl rfl rfl yN nX zle) rfl ?_)|((first|refine cH1 aG ?_|refine cH1 (cP rfl rfl iR) ?_);refine bE (wH aB rfl rfl rfl rfl rfl rfl rfl rfl rfl rfl rfl zcj zle nX zle) rfl ?_)))
 | ((with_reducible refine isD_alloc ?_);(first|refine cH1 aG ?_|refine cH1 (cP rfl rfl iR) ?_);(first|refine bE (aA7 aB rfl rfl rfl rfl) rfl ?_|refine bE (aQ6 aB rfl rfl) rfl ?_))
 | ((with_reducible refine isD_box ?_);(first|refine cH1 aG ?_|refine cH1 (cP rfl rfl iR) ?_);(first|refine bE (bJ2 (tab:=tab) rfl rfl rfl) rfl ?_|refine bE (a_box1 rfl rfl) rfl ?_|refine bE (bJ1 rfl rT) rfl ?_))
 | ((with_reducible refine isD_bslice ?_);(first|refine cH1 aG ?_|refine cH1 (cP rfl rfl iR) ?_);(first|refine bE (mK aB rfl rfl rfl rfl rfl) rfl ?_|refine bE (oT aB rfl rfl rfl rfl rfl rfl rfl rfl rfl rfl rfl rfl (lF rfl) aM6 fF) rfl ?_))
 | ((with_reducible refine isD_mksl ?_);(first|refine cH1 aG ?_|refine cH1 (cP rfl rfl iR) ?_);(first|refine bE (bK0 aB rfl rfl rfl rfl rfl rfl rfl rfl rfl rfl zcj zcj zle zle tZ rfl) rfl ?_))
 | ((with_reducible refine isD_conv ?_);(first|refine fE6 aG ?_|refine fE6 (cP rfl rfl iR) ?_);refine nK (a_toBytes aB rfl rfl rfl rfl rfl rfl rfl cM8 cN1 nX) ?_)
 | (((with_reducible refine cO ?_);(first|refine fE9 aG ?_|refine fE9 (cP rfl rfl iR) ?_));(first|((with_reducible refine bK8 ?_);(first|refine aJ (nT rfl) ?_))|((with_reducible refine gH ?_);(first|refine aJ (jP aB rfl rfl rfl rfl kE) ?_|refine aJ (iC aB rfl rfl rfl rfl kE) ?_|refine aJ (iB aB rfl rfl rfl kE) ?_|refine aJ (aX0 aB rfl rfl rfl rfl rfl rfl oV) ?_|refine aJ (iE aB rfl rfl rfl rfl uV zln) ?_|refine aJ (iD aB rfl rfl rfl uV zln) ?_))|((with_reducible refine cQ6 ?_);(first|refine aJ (dA6 aB rfl rfl zcj rfl rfl rfl rfl zle) ?_|refine aJ (dA7 aB rfl rfl zcj rfl rfl rfl rfl zle) ?_|refine aJ (dA5 aB rfl rfl zcj rfl rfl rfl zle) ?_|refine aJ (s_ixAi aB rfl rfl zcj rfl rfl rfl zle) ?_))|((with_reducible refine bQ (o := .add) ?_);(first|refine aJ (kA rfl rfl rfl jU) ?_|refine aJ (iW rfl dQ rfl dQ rfl) ?_|refine aJ (oM rfl rfl rfl jU) ?_))|((with_reducible refine bQ (o := .sub) ?_);(first|refine aJ (kA rfl rfl rfl jU) ?_|refine aJ (iW rfl dQ rfl dQ rfl) ?_|refine aJ (oM rfl rfl rfl jU) ?_))|((with_reducible refine bQ (o := .mul) ?_);(first|refine aJ (kA rfl rfl rfl jU) ?_|refine aJ (iW rfl dQ rfl dQ rfl) ?_|refine aJ (oM rfl rfl rfl jU) ?_))|((with_reducible refine bQ (o := .eql) ?_);(first|refine aJ (kM rfl rfl rfl rfl) ?_|refine aJ (aW7 aB rfl rfl rfl rfl rfl) ?_|refine aJ (aJ1 rfl rfl rfl) ?_))|((with_reducible refine bQ (o := .neq) ?_);(first|refine aJ (kM rfl rfl rfl rfl) ?_|refine aJ (s_neqB aB rfl rfl rfl rfl rfl) ?_|refine aJ (s_neqS rfl rfl rfl) ?_))|((with_reducible refine bQ (o := .lss) ?_);(first|refine aJ (kM rfl rfl rfl rfl) ?_))|((with_reducible refine bQ (o := .leq) ?_);(first|refine aJ (kM rfl rfl rfl rfl) ?_))|((with_reducible refine bQ (o := .gtr) ?_);(first|refine aJ (kM rfl rfl rfl rfl) ?_))|((with_reducible refine bQ (o := .geq) ?_);(first|refine aJ (kM rfl rfl rfl rfl) ?_))|((with_reducible refine bQ (o := .rem) ?_);(first|refine aJ (zI (k := .i64) rfl rfl lY aM5) ?_|refine aJ (zI rfl rfl lY aM5) ?_))|((with_reducible refine bQ (o := .quo) ?_);(first|refine aJ (aJ5 (k := .i64) rfl rfl lY aM2) ?_|refine aJ (aJ5 rfl rfl lY aM2) ?_))|((with_reducible refine bQ (o := .and) ?_);(first|refine aJ (iW rfl dQ rfl dQ rfl) ?_|refine aJ (aI4 rfl rfl rfl) ?_))|((with_reducible refine bQ (o := .or) ?_);(first|refine aJ (iW rfl dQ rfl dQ rfl) ?_|refine aJ (cF7 rfl rfl rfl) ?_))|((with_reducible refine bQ (o := .xor) ?_);(first|refine aJ (iW rfl dQ rfl dQ rfl) ?_|refine aJ (bH0 rfl rfl rfl) ?_))|((with_reducible refine bQ (o := .andNot) ?_);(first|refine aJ (s_andNot rfl rfl rfl) ?_))|((with_reducible refine bQ (o := .shl) ?_);(first|refine aJ (yB rfl dQ rfl zcj) ?_|refine aJ (bG8 rfl rfl zle rfl) ?_))|((with_reducible refine bQ (o := .shr) ?_);(first|refine aJ (uL rfl dQ rfl zcj) ?_|refine aJ (bG9 rfl rfl zle rfl) ?_))|((with_reducible refine aE8 ?_);(first|refine aJ (aI5 rfl) ?_))|((with_reducible refine bB2 ?_);(first|refine aJ (bO0 aB rfl rfl rfl) ?_|refine aJ (bO2 aB rfl rfl rfl) ?_|refine aJ (aW9 aB rfl rfl rfl) ?_|refine aJ (bO1 aB rfl rfl rfl) ?_|refine aJ (bN9 aB rfl rfl rfl) ?_|refine aJ (bX3 rfl rfl rfl) ?_|refine aJ (dA8 rfl rfl rfl) ?_))|((with_reducible refine cR2 ?_);(first|refine aJ (dB0 rfl rfl) ?_|refine aJ (aI7 rfl dQ) ?_|refine aJ (dA9 rfl cN0) ?_|refine aJ (tN rfl rfl) ?_))|((with_reducible refine oK ?_);(first|refine aJ (aJ0 rfl dQ aB rfl rfl rfl) ?_|refine aJ (s_convWW rfl dQ aB rfl rfl rfl) ?_|refine aJ (aI8 rfl aB rfl rfl rfl) ?_|refine aJ (aI9 rfl aB rfl rfl rfl) ?_|refine aJ (fC aB rfl rfl rfl rfl jU) ?_|refine aJ (s_convStr aB rfl rfl rfl rfl) ?_|refine aJ (aX4 aB rfl rfl rfl rfl rfl rfl rfl cM7) ?_))|((with_reducible refine bK7 ?_);(first|refine aJ (iH aB rfl rfl rfl rfl rfl rfl) ?_|refine aJ (qW aB rfl rfl rfl rfl rfl rfl) ?_))|((with_reducible refine e_fld ?_);(first|refine aJ (s_field1 aB rfl rfl rfl rfl rfl rfl rT fF) ?_|refine aJ (s_fieldA aB rfl rfl rfl rfl rfl rfl rT fF oV) ?_))|((with_reducible refine cQ5 ?_);(first|refine aJ (xY rfl rfl) ?_))|((with_reducible refine iZ ?_);(first|refine aJ (bO4 aB rfl rfl rfl rfl zbd zle rfl rfl) ?_|refine aJ (dB1 aB rfl rfl rfl rfl zbd zbd zle zle rfl rfl) ?_|refine aJ (dB3 aB rfl rfl rfl rfl zbd zbd zle zle rfl) ?_|refine aJ (aX3 aB rfl rfl rfl rfl zbd zbd zle zle aN) ?_|refine aJ (s_slStr aB rfl rfl rfl zbd zbd zle zle) ?_|refine aJ (s_slArri aB rfl rfl rfl rfl zbd zbd zle zle aN uV zln) ?_|refine aJ (dB2 aB rfl rfl rfl zbd rfl) ?_|refine aJ (bO5 aB rfl rfl rfl rfl rfl zbd zbd zle zle) ?_))|((with_reducible refine e_ix ?_);(first|refine aJ (s_ixV1 aB rfl rfl zcj rfl rfl rfl rfl rfl zle kE) ?_|refine aJ (s_ixStr aB rfl rfl zcj rfl rfl kE) ?_))|((with_reducible refine aT1 ?_);(first|refine aJ (aI6 aB rfl rfl rfl rfl (eV rfl) fF oV) ?_|refine aJ (lO aB rfl rfl rfl rfl (eV rfl) fF oV) ?_))|((with_reducible refine bK9 ?_);(first|refine aJ (aA3 rfl rfl) ?_|refine aJ (aA2 rfl rfl) ?_|refine aJ (aJ4 rfl cM6 rfl) ?_|refine aJ (aJ3 rfl cM5 rfl) ?_))|((with_reducible refine aE9 ?_);(first|refine aJ (uK rfl) ?_))|((with_reducible refine cQ7 ?_);(first|refine aJ (jI rfl) ?_|refine aJ (s_nilChecki rfl) ?_))))
 | ((with_reducible refine bL9 ?_);(refine bK4 (cP rfl rfl cM4) ?_)))
 exact hq.out):p:=h ⟨hq⟩
theorem stE {p q:Prop} (hq:q) (h:Kept q->p:=by
 intro hq
 (first
 | (refine cP6 aO aO aO aO rfl ?_)
 | ((with_reducible refine isEk_g ?_);(refine e_skip (cP rfl rfl cM3) ?_))
 | ((with_reducible refine isEk_g ?_);(refine e_skip (aU2 rfl rfl) ?_))
 | ((with_reducible refine eH4 ?_);(first|(refine bA9 aB aG rfl rfl rfl rfl rfl rfl rfl rfl rfl zln rfl yN nX zle rfl ?_)|(refine bA9 aB (cP rfl rfl iR) rfl rfl rfl rfl rfl rfl rfl rfl rfl zln rfl yN nX zle rfl ?_)|((first|refine cH2 aG rfl rfl ?_|refine cH2 (cP rfl rfl iR) rfl rfl ?_);refine bE (b_appendN aB rfl rfl rfl rfl rfl rfl rfl rfl yN nX zle) rfl ?_)|((first|refine cH2 aG rfl rfl ?_|refine cH2 (cP rfl rfl iR) rfl rfl ?_);refine bE (wH aB rfl rfl rfl rfl rfl rfl rfl rfl rfl rfl rfl zcj zle nX zle) rfl ?_)))
 | ((with_reducible refine tE ?_);(first|(refine cP3 aB aG rfl rfl rfl rfl rfl rfl rfl rfl rfl rfl ?_)|(refine d_store1r aB aG rfl rfl rfl rfl rfl rfl rfl rfl rfl rfl ?_)|(refine bK5 aB aG rfl rfl rfl rfl rfl rfl rfl rfl zle rfl ?_)|(refine bB0 aB aG rfl rfl rfl rfl rfl rT fF fF rfl (A7 rfl) fF rfl ?_)|(refine xF aB aG rfl rfl rfl rfl rfl zln rfl zle (by first|exact pD _ _ zln|rfl) rfl ?_)))
 | ((with_reducible refine jN ?_);(first|refine cH2 aG rfl rfl ?_|refine cH2 (cP rfl rfl iR) rfl rfl ?_);(first|refine bE (aA7 aB rfl rfl rfl rfl) rfl ?_|refine bE (aQ6 aB rfl rfl) rfl ?_))
 | ((with_reducible refine isE_box ?_);(first|refine cH2 aG rfl rfl ?_|refine cH2 (cP rfl rfl iR) rfl rfl ?_);(first|refine bE (bJ2 (tab:=tab) rfl rfl rfl) rfl ?_|refine bE (a_box1 rfl rfl) rfl ?_|refine bE (bJ1 rfl rT) rfl ?_))
 | ((with_reducible refine aG2 ?_);(first|refine cH2 aG rfl rfl ?_|refine cH2 (cP rfl rfl iR) rfl rfl ?_);(first|refine bE (mK aB rfl rfl rfl rfl rfl) rfl ?_|refine bE (oT aB rfl rfl rfl rfl rfl rfl rfl rfl rfl rfl rfl rfl (lF rfl) aM6 fF) rfl ?_))
 | ((with_reducible refine isE_mksl ?_);(first|refine cH2 aG rfl rfl ?_|refine cH2 (cP rfl rfl iR) rfl rfl ?_);(first|refine bE (bK0 aB rfl rfl rfl rfl rfl rfl rfl rfl rfl rfl zcj zcj zle zle tZ rfl) rfl ?_))
 | ((with_reducible refine isE_conv ?_);(first|refine fE7 aG rfl rfl ?_|refine fE7 (cP rfl rfl iR) rfl rfl ?_);refine nK (a_toBytes aB rfl rfl rfl rfl rfl rfl rfl cM8 cN1 nX) ?_)
 | (((with_reducible refine jG ?_);(first|refine fF0 aG rfl rfl ?_|refine fF0 (cP rfl rfl iR) rfl rfl ?_));(first|((with_reducible refine bK8 ?_);(first|refine aJ (nT rfl) ?_))|((with_reducible refine gH ?_);(first|refine aJ (jP aB rfl rfl rfl rfl kE) ?_|refine aJ (iC aB rfl rfl rfl rfl kE) ?_|refine aJ (iB aB rfl rfl rfl kE) ?_|refine aJ (aX0 aB rfl rfl rfl rfl rfl rfl oV) ?_|refine aJ (iE aB rfl rfl rfl rfl uV zln) ?_|refine aJ (iD aB rfl rfl rfl uV zln) ?_))|((with_reducible refine cQ6 ?_);(first|refine aJ (dA6 aB rfl rfl zcj rfl rfl rfl rfl zle) ?_|refine aJ (dA7 aB rfl rfl zcj rfl rfl rfl rfl zle) ?_|refine aJ (dA5 aB rfl rfl zcj rfl rfl rfl zle) ?_|refine aJ (s_ixAi aB rfl rfl zcj rfl rfl rfl zle) ?_))|((with_reducible refine bQ (o := .add) ?_);(first|refine aJ (kA rfl rfl rfl jU) ?_|refine aJ (iW rfl dQ rfl dQ rfl) ?_|refine aJ (oM rfl rfl rfl jU) ?_))|((with_reducible refine bQ (o := .sub) ?_);(first|refine aJ (kA rfl rfl rfl jU) ?_|refine aJ (iW rfl dQ rfl dQ rfl) ?_|refine aJ (oM rfl rfl rfl jU) ?_))|((with_reducible refine bQ (o := .mul) ?_);(first|refine aJ (kA rfl rfl rfl jU) ?_|refine aJ (iW rfl dQ rfl dQ rfl) ?_|refine aJ (oM rfl rfl rfl jU) ?_))|((with_reducible refine bQ (o := .eql) ?_);(first|refine aJ (kM rfl rfl rfl rfl) ?_|refine aJ (aW7 aB rfl rfl rfl rfl rfl) ?_|refine aJ (aJ1 rfl rfl rfl) ?_))|((with_reducible refine bQ (o := .neq) ?_);(first|refine aJ (kM rfl rfl rfl rfl) ?_|refine aJ (s_neqB aB rfl rfl rfl rfl rfl) ?_|refine aJ (s_neqS rfl rfl rfl) ?_))|((with_reducible refine bQ (o := .lss) ?_);(first|refine aJ (kM rfl rfl rfl rfl) ?_))|((with_reducible refine bQ (o := .leq) ?_);(first|refine aJ (kM rfl rfl rfl rfl) ?_))|((with_reducible refine bQ (o := .gtr) ?_);(first|refine aJ (kM rfl rfl rfl rfl) ?_))|((with_reducible refine bQ (o := .geq) ?_);(first|refine aJ (kM rfl rfl rfl rfl) ?_))|((with_reducible refine bQ (o := .rem) ?_);(first|refine aJ (zI (k := .i64) rfl rfl lY aM5) ?_|refine aJ (zI rfl rfl lY aM5) ?_))|((with_reducible refine bQ (o := .quo) ?_);(first|refine aJ (aJ5 (k := .i64) rfl rfl lY aM2) ?_|refine aJ (aJ5 rfl rfl lY aM2) ?_))|((with_reducible refine bQ (o := .and) ?_);(first|refine aJ (iW rfl dQ rfl dQ rfl) ?_|refine aJ (aI4 rfl rfl rfl) ?_))|((with_reducible refine bQ (o := .or) ?_);(first|refine aJ (iW rfl dQ rfl dQ rfl) ?_|refine aJ (cF7 rfl rfl rfl) ?_))|((with_reducible refine bQ (o := .xor) ?_);(first|refine aJ (iW rfl dQ rfl dQ rfl) ?_|refine aJ (bH0 rfl rfl rfl) ?_))|((with_reducible refine bQ (o := .andNot) ?_);(first|refine aJ (s_andNot rfl rfl rfl) ?_))|((with_reducible refine bQ (o := .shl) ?_);(first|refine aJ (yB rfl dQ rfl zcj) ?_|refine aJ (bG8 rfl rfl zle rfl) ?_))|((with_reducible refine bQ (o := .shr) ?_);(first|refine aJ (uL rfl dQ rfl zcj) ?_|refine aJ (bG9 rfl rfl zle rfl) ?_))|((with_reducible refine aE8 ?_);(first|refine aJ (aI5 rfl) ?_))|((with_reducible refine bB2 ?_);(first|refine aJ (bO0 aB rfl rfl rfl) ?_|refine aJ (bO2 aB rfl rfl rfl) ?_|refine aJ (aW9 aB rfl rfl rfl) ?_|refine aJ (bO1 aB rfl rfl rfl) ?_|refine aJ (bN9 aB rfl rfl rfl) ?_|refine aJ (bX3 rfl rfl rfl) ?_|refine aJ (dA8 rfl rfl rfl) ?_))|((with_reducible refine cR2 ?_);(first|refine aJ (dB0 rfl rfl) ?_|refine aJ (aI7 rfl dQ) ?_|refine aJ (dA9 rfl cN0) ?_|refine aJ (tN rfl rfl) ?_))|((with_reducible refine oK ?_);(first|refine aJ (aJ0 rfl dQ aB rfl rfl rfl) ?_|refine aJ (s_convWW rfl dQ aB rfl rfl rfl) ?_|refine aJ (aI8 rfl aB rfl rfl rfl) ?_|refine aJ (aI9 rfl aB rfl rfl rfl) ?_|refine aJ (fC aB rfl rfl rfl rfl jU) ?_|refine aJ (s_convStr aB rfl rfl rfl rfl) ?_|refine aJ (aX4 aB rfl rfl rfl rfl rfl rfl rfl cM7) ?_))|((with_reducible refine bK7 ?_);(first|refine aJ (iH aB rfl rfl rfl rfl rfl rfl) ?_|refine aJ (qW aB rfl rfl rfl rfl rfl rfl) ?_))|((with_reducible refine e_fld ?_);(first|refine aJ (s_field1 aB rfl rfl rfl rfl rfl rfl rT fF) ?_|refine aJ (s_fieldA aB rfl rfl rfl rfl rfl rfl rT fF oV) ?_))|((with_reducible refine cQ5 ?_);(first|refine aJ (xY rfl rfl) ?_))|((with_reducible refine iZ ?_);(first|refine aJ (bO4 aB rfl rfl rfl rfl zbd zle rfl rfl) ?_|refine aJ (dB1 aB rfl rfl rfl rfl zbd zbd zle zle rfl rfl) ?_|refine aJ (dB3 aB rfl rfl rfl rfl zbd zbd zle zle rfl) ?_|refine aJ (aX3 aB rfl rfl rfl rfl zbd zbd zle zle aN) ?_|refine aJ (s_slStr aB rfl rfl rfl zbd zbd zle zle) ?_|refine aJ (s_slArri aB rfl rfl rfl rfl zbd zbd zle zle aN uV zln) ?_|refine aJ (dB2 aB rfl rfl rfl zbd rfl) ?_|refine aJ (bO5 aB rfl rfl rfl rfl rfl zbd zbd zle zle) ?_))|((with_reducible refine e_ix ?_);(first|refine aJ (s_ixV1 aB rfl rfl zcj rfl rfl rfl rfl rfl zle kE) ?_|refine aJ (s_ixStr aB rfl rfl zcj rfl rfl kE) ?_))|((with_reducible refine aT1 ?_);(first|refine aJ (aI6 aB rfl rfl rfl rfl (eV rfl) fF oV) ?_|refine aJ (lO aB rfl rfl rfl rfl (eV rfl) fF oV) ?_))|((with_reducible refine bK9 ?_);(first|refine aJ (aA3 rfl rfl) ?_|refine aJ (aA2 rfl rfl) ?_|refine aJ (aJ4 rfl cM6 rfl) ?_|refine aJ (aJ3 rfl cM5 rfl) ?_))|((with_reducible refine aE9 ?_);(first|refine aJ (uK rfl) ?_))|((with_reducible refine cQ7 ?_);(first|refine aJ (jI rfl) ?_|refine aJ (s_nilChecki rfl) ?_))))
 | ((with_reducible refine isEk_g ?_);(refine e_skip (cP rfl rfl cM4) ?_)))
 exact hq.out):p:=h ⟨hq⟩
section
variable {P:D0} {ops:Dv} {sz n n0 i m t:Nat} {K:AK} {env env0:Env} {h h0 hr:aQ} {es:List Eat} {ids:Dw} {dfs:cK} {rest l:Du} {op:Op} {ty:Dz} {pos:String} {aft:Dx} {gd:Ds} {f:FuncId} {xs:D5} {ats:D4}
theorem xA (hh:∃v,Still P ⟨some t,op,ty,pos,aft,gd⟩ (evA env) h v/\AWL P ops sz rest K n ((t,v)::env) h dfs) (hg:guardA ops env ⟨some t,op,ty,pos,aft,gd⟩ true:=by first|exact aG|exact (cP rfl rfl iR)) (hd:Nat.blt t sz=true:=by rfl):AWL P ops sz (⟨some t,op,ty,pos,aft,gd⟩::rest) K n env h dfs:=fE8 hg hd hh
theorem xD (hh:∃v,Still P ⟨some t,op,ty,pos,aft,gd⟩ (evT (Oper.looksAt l.toArray ⟨some t,op,ty,pos,aft,gd⟩) env) h v/\Drw P l sz K dfs i n0 env0 h0 m rest n ((t,v)::env) h) (hg:guardA l.toArray env ⟨some t,op,ty,pos,aft,gd⟩ true:=by first|exact aG|exact (cP rfl rfl iR)):Drw P l sz K dfs i n0 env0 h0 (m+1) (⟨some t,op,ty,pos,aft,gd⟩::rest) n env h:=fE9 hg hh
theorem xE (hh:∃v,Still P ⟨some t,op,ty,pos,aft,gd⟩ (evT (Oper.looksAt l.toArray ⟨some t,op,ty,pos,aft,gd⟩) env) hr v/\bY P l sz K dfs i n0 env0 h0 (es++[(ids,none)]) m rest n ((t,v)::env) h) (hg:guardA l.toArray env ⟨some t,op,ty,pos,aft,gd⟩ true:=by first|exact aG|exact (cP rfl rfl iR)) (hi:vM env (Oper.looksAt l.toArray ⟨some t,op,ty,pos,aft,gd⟩)=some ids:=by rfl) (hf:kR ids h=some hr:=by rfl):bY P l sz K dfs i n0 env0 h0 es (m+1) (⟨some t,op,ty,pos,aft,gd⟩::rest) n env h:=fF0 hg hi hf hh
theorem wA (hh:∃v,Adds P ⟨some t,op,ty,pos,aft,gd⟩ (evA env) h v [] n n/\AWL P ops sz rest K n ((t,v)::env) h dfs) (hg:guardA ops env ⟨some t,op,ty,pos,aft,gd⟩ true:=by first|exact aG|exact (cP rfl rfl iR)) (hd:Nat.blt t sz=true:=by rfl):AWL P ops sz (⟨some t,op,ty,pos,aft,gd⟩::rest) K n env h dfs:=fE5 hg hd hh
theorem wD (hh:∃v,Adds P ⟨some t,op,ty,pos,aft,gd⟩ (evT (Oper.looksAt l.toArray ⟨some t,op,ty,pos,aft,gd⟩) env) h v [] n n/\Drw P l sz K dfs i n0 env0 h0 m rest n ((t,v)::env) h) (hg:guardA l.toArray env ⟨some t,op,ty,pos,aft,gd⟩ true:=by first|exact aG|exact (cP rfl rfl iR)):Drw P l sz K dfs i n0 env0 h0 (m+1) (⟨some t,op,ty,pos,aft,gd⟩::rest) n env h:=fE6 hg hh
theorem wE (hh:∃v,Adds P ⟨some t,op,ty,pos,aft,gd⟩ (evT (Oper.looksAt l.toArray ⟨some t,op,ty,pos,aft,gd⟩) env) hr v [] n n/\bY P l sz K dfs i n0 env0 h0 (es++[(ids,none)]) m rest n ((t,v)::env) h) (hg:guardA l.toArray env ⟨some t,op,ty,pos,aft,gd⟩ true:=by first|exact aG|exact (cP rfl rfl iR)) (hi:vM env (Oper.looksAt l.toArray ⟨some t,op,ty,pos,aft,gd⟩)=some ids:=by rfl) (hf:kR ids h=some hr:=by rfl):bY P l sz K dfs i n0 env0 h0 es (m+1) (⟨some t,op,ty,pos,aft,gd⟩::rest) n env h:=fE7 hg hi hf hh
theorem yA (hh:∃v obj,obj.live=some obj/\Adds P ⟨some t,op,ty,pos,aft,gd⟩ (evA env) h v [(n,obj)] n (n+1)/\AWL P ops sz rest K (n+1) ((t,v)::env) ((n,obj)::h) dfs) (hg:guardA ops env ⟨some t,op,ty,pos,aft,gd⟩ true:=by first|exact aG|exact (cP rfl rfl iR)) (hd:Nat.blt t sz=true:=by rfl):AWL P ops sz (⟨some t,op,ty,pos,aft,gd⟩::rest) K n env h dfs:=cH0 hg hd hh
theorem yD (hh:∃v obj,obj.live=some obj/\Adds P ⟨some t,op,ty,pos,aft,gd⟩ (evT (Oper.looksAt l.toArray ⟨some t,op,ty,pos,aft,gd⟩) env) h v [(n,obj)] n (n+1)/\Drw P l sz K dfs i n0 env0 h0 m rest (n+1) ((t,v)::env) ((n,obj)::h)) (hg:guardA l.toArray env ⟨some t,op,ty,pos,aft,gd⟩ true:=by first|exact aG|exact (cP rfl rfl iR)):Drw P l sz K dfs i n0 env0 h0 (m+1) (⟨some t,op,ty,pos,aft,gd⟩::rest) n env h:=cH1 hg hh
theorem yE (hh:∃v obj,obj.live=some obj/\Adds P ⟨some t,op,ty,pos,aft,gd⟩ (evT (Oper.looksAt l.toArray ⟨some t,op,ty,pos,aft,gd⟩) env) hr v [(n,obj)] n (n+1)/\bY P l sz K dfs i n0 env0 h0 (es++[(n::ids,none)]) m rest (n+1) ((t,v)::env) ((n,obj)::h)) (hg:guardA l.toArray env ⟨some t,op,ty,pos,aft,gd⟩ true:=by first|exact aG|exact (cP rfl rfl iR)) (hi:vM env (Oper.looksAt l.toArray ⟨some t,op,ty,pos,aft,gd⟩)=some ids:=by rfl) (hf:kR ids h=some hr:=by rfl):bY P l sz K dfs i n0 env0 h0 es (m+1) (⟨some t,op,ty,pos,aft,gd⟩::rest) n env h:=cH2 hg hi hf hh
theorem zA (hh:kD P f xs (evA env) (fun r=>AWL P ops sz rest K n ((t,r)::env) h dfs) (fun k size T rc=>AWL P ops sz rest K (n+1) ((t,.own n 0 k size true)::env) ((n,.row T rc)::h) dfs)) (hg:guardA ops env ⟨some t,.call ⟨.value (.func f),xs.toArray,ats⟩,ty,pos,aft,gd⟩ true:=by first|exact aG|exact (cP rfl rfl iR)) (hd:Nat.blt t sz=true:=by rfl):AWL P ops sz (⟨some t,.call ⟨.value (.func f),xs.toArray,ats⟩,ty,pos,aft,gd⟩::rest) K n env h dfs:=fG0 hg hd hh
theorem zN (hh:kD P f xs (evA env) (fun r=>AWL P ops sz rest K n env h dfs) (fun k size T rc=>AWL P ops sz rest K (n+1) env ((n,.row T rc)::h) dfs)) (hg:guardA ops env ⟨none,.call ⟨.value (.func f),xs.toArray,ats⟩,ty,pos,aft,gd⟩ true:=by first|exact aG|exact (cP rfl rfl iR)):AWL P ops sz (⟨none,.call ⟨.value (.func f),xs.toArray,ats⟩,ty,pos,aft,gd⟩::rest) K n env h dfs:=fG3 hg hh
theorem zD (hh:kD P f xs (evT (Oper.looksAt l.toArray ⟨some t,.call ⟨.value (.func f),xs.toArray,ats⟩,ty,pos,aft,gd⟩) env) (fun r=>Drw P l sz K dfs i n0 env0 h0 m rest n ((t,r)::env) h) (fun k size T rc=>Drw P l sz K dfs i n0 env0 h0 m rest (n+1) ((t,.own n 0 k size true)::env) ((n,.row T rc)::h))) (hg:guardA l.toArray env ⟨some t,.call ⟨.value (.func f),xs.toArray,ats⟩,ty,pos,aft,gd⟩ true:=by first|exact aG|exact (cP rfl rfl iR)):Drw P l sz K dfs i n0 env0 h0 (m+1) (⟨some t,.call ⟨.value (.func f),xs.toArray,ats⟩,ty,pos,aft,gd⟩::rest) n env h:=fG1 hg hh
theorem zE (hh:kD P f xs (evT (Oper.looksAt l.toArray ⟨some t,.call ⟨.value (.func f),xs.toArray,ats⟩,ty,pos,aft,gd⟩) env) (fun r=>bY P l sz K dfs i n0 env0 h0 (es++[([],none)]) m rest n ((t,r)::env) h) (fun k size T rc=>bY P l sz K dfs i n0 env0 h0 (es++[([n],none)]) m rest (n+1) ((t,.own n 0 k size true)::env) ((n,.row T rc)::h))) (hg:guardA l.toArray env ⟨some t,.call ⟨.value (.func f),xs.toArray,ats⟩,ty,pos,aft,gd⟩ true:=by first|exact aG|exact (cP rfl rfl iR)):bY P l sz K dfs i n0 env0 h0 es (m+1) (⟨some t,.call ⟨.value (.func f),xs.toArray,ats⟩,ty,pos,aft,gd⟩::rest) n env h:=fG2 hg hh
variable {cs cs' rc:D8} {r:AV} {ev:Evl} {N0:AV->Prop} {N1:Nat->Nat->Dz->D8->Prop} {k size:Nat} {T:Dz} {vs:D9} {N:AV->Prop} {d:Dy} {N2:AV->AObj->Prop}
theorem c0 (hac:AC P f cs' r [] 0) (hn:N0 r) (hb:Body P f:=by unfold Body;kernel_rfl) (hx:fG ev xs=some cs:=by rfl) (hcv:CvL cs cs':=by first|exact sX|((repeat' (first|exact gB|refine eX ?_ ?_|(first|exact cV|exact hQ|(refine jV ?_ ?_<;>first|rfl|omega|(simp<;>fail)|fail)|(refine rE ?_;first|rfl|(simp<;>fail)|fail)|refine nI ?_)))<;>fail)|fail) (hid:r.noId=true:=by rfl):kD P f xs ev N0 N1:=eZ2 hac hb hx hcv hid hn
theorem c1 (hac:AC P f cs' (.own 0 0 k size true) [(0,.row T rc)] 1) (hn:N1 k size T rc) (hb:Body P f:=by unfold Body;kernel_rfl) (hx:fG ev xs=some cs:=by rfl) (hcv:CvL cs cs':=by first|exact sX|((repeat' (first|exact gB|refine eX ?_ ?_|(first|exact cV|exact hQ|(refine jV ?_ ?_<;>first|rfl|omega|(simp<;>fail)|fail)|(refine rE ?_;first|rfl|(simp<;>fail)|fail)|refine nI ?_)))<;>fail)|fail):kD P f xs ev N0 N1:=eZ3 hac hb hx hcv hn
theorem cF (hac:AC P f cs r [] 0) (hn:N r) (hb:Body P f:=by unfold Body;kernel_rfl) (hx:rA ev xs=some vs:=by rfl) (hfz:aQ4 [] h vs cs:=by first|((repeat' (first|exact cW|refine bB ?_ ?_|(first|with_reducible exact eC cV|with_reducible exact eC hQ|exact hU rfl rfl zln|exact lM rfl rfl rfl zln|exact gK (hU rfl rfl zln) (jV zse zse)|exact gK (lM rfl rfl rfl zln) (jV zse zse)|exact gK (eC cV) (jV zse zse)|exact gK (eC cV) (rE cN4)|exact eC cV|exact eC hQ|exact bL4 rfl rfl aA aA aA|refine vI rfl ?_|refine eC (nI ?_)|exact gB|refine eX ?_ ?_|exact cV|exact hQ|exact jV zse zse)))<;>fail)|fail) (hfl:FlR r:=by first|exact FlR.c bT8|exact FlR.c (aT7 bS3)|exact flr_2 bS3|exact flr_3 bS3|exact FlR.t bS3|assumption):∃v,Adds P ⟨d,.call ⟨.value (.func f),xs.toArray,ats⟩,ty,pos,aft,gd⟩ ev h v [] n n/\N v:=nK (bJ5 hb hx hfz hac hfl) hn
theorem cF1 (hac:AC P f cs (.own 0 0 k size true) [(0,.row T rc)] 1) (hn:N2 (.own n 0 k size true) (.row T rc)) (hb:Body P f:=by unfold Body;kernel_rfl) (hx:rA ev xs=some vs:=by rfl) (hfz:aQ4 [] h vs cs:=by first|((repeat' (first|exact cW|refine bB ?_ ?_|(first|with_reducible exact eC cV|with_reducible exact eC hQ|exact hU rfl rfl zln|exact lM rfl rfl rfl zln|exact gK (hU rfl rfl zln) (jV zse zse)|exact gK (lM rfl rfl rfl zln) (jV zse zse)|exact gK (eC cV) (jV zse zse)|exact gK (eC cV) (rE cN4)|exact eC cV|exact eC hQ|exact bL4 rfl rfl aA aA aA|refine vI rfl ?_|refine eC (nI ?_)|exact gB|refine eX ?_ ?_|exact cV|exact hQ|exact jV zse zse)))<;>fail)|fail) (hfl:FlcL rc:=by first|((repeat' (first|exact flcl_nil|exact zS _|exact flcl_int _ _|exact uD _|exact bT8|assumption|refine flcl_app ?_ ?_|refine flcl_cons ?_ ?_|refine aT7 ?_))<;>fail)|fail):∃v obj,obj.live=some obj/\Adds P ⟨d,.call ⟨.value (.func f),xs.toArray,ats⟩,ty,pos,aft,gd⟩ ev h v [(n,obj)] n (n+1)/\N2 v obj:=⟨_,_,rfl,aY3 hb hx hfz hac hfl,hn⟩
end
theorem eS {n:Nat} {env:Env} {h:aQ} {dfs:cK} {N:Nat} {E:Env} {Hp:aQ} {D:cK} (w:cR n env h dfs N E Hp D:=by refine dF rfl ?_ ?_ rfl<;>(repeat' (first|exact cE|exact cG|refine bS rfl dW9 rfl ?_|refine aZ rfl dW9 rfl ?_))):cR n env h dfs N E Hp D:=w
theorem gY {p:Prop} (h:p:=by first|with_reducible assumption|assumption|(rw [A9];assumption)|(rw [Ap,A9];assumption)|fail):p:=h
theorem lX {p:Prop} (h:p:=by first|with_reducible assumption|assumption|exact oO (by first|rfl|omega)|rfl|fail):p:=h
theorem eF1 {p:Prop} (h:p:=by first|(simp<;>fail)|fail):p:=h
section
variable {p q:Prop} (hq:q)
include p q hq
theorem aC (h:Kept q->p:=by
 intro hq
 (first|(with_reducible refine dF9 ?_)|fail)
 exact hq.out):p:=h ⟨hq⟩
theorem eW (h:Kept q->p:=by
 intro hq
 (first|((((with_reducible refine bL ?_);refine xA ?_);(first|((with_reducible refine gH ?_);(first|refine aJ (jP aB rfl rfl rfl rfl gY) ?_|refine aJ (iC aB rfl rfl rfl rfl gY) ?_|refine aJ (iB aB rfl rfl rfl gY) ?_))|((with_reducible refine e_ix ?_);(first|refine aJ (s_ixV1 aB rfl rfl zcj rfl rfl rfl rfl rfl zle gY) ?_|refine aJ (s_ixStr aB rfl rfl zcj rfl rfl gY) ?_)))))|fail)
 exact hq.out):p:=h ⟨hq⟩
theorem jR (h:Kept q->p:=by
 intro hq
 (first|((((with_reducible refine bL ?_);refine xA ?_);(first|((with_reducible refine gH ?_);(first|refine aJ (iE aB rfl rfl rfl rfl lX zln) ?_|refine aJ (iD aB rfl rfl rfl lX zln) ?_))|((with_reducible refine iZ ?_);(first|refine aJ (s_slArri aB rfl rfl rfl rfl zbd zbd zle zle aN lX zln) ?_)))))|fail)
 exact hq.out):p:=h ⟨hq⟩
theorem dL (h:Kept q->p:=by
 intro hq
 (first|((first|with_reducible refine aF ?_);(first|refine zA ?_|refine zN ?_))|fail)
 exact hq.out):p:=h ⟨hq⟩
theorem cH (h:Kept q->p:=by
 intro hq
 (first|(((first|((with_reducible refine bL ?_);refine xA ?_)|((with_reducible refine cO ?_);refine xD ?_));(first|((with_reducible refine gH ?_);(first|refine aJ (jP aB rfl rfl rfl rfl gY) ?_|refine aJ (iC aB rfl rfl rfl rfl gY) ?_|refine aJ (iB aB rfl rfl rfl gY) ?_))|((with_reducible refine e_ix ?_);(first|refine aJ (s_ixV1 aB rfl rfl zcj rfl rfl rfl rfl rfl zle gY) ?_|refine aJ (s_ixStr aB rfl rfl zcj rfl rfl gY) ?_)))))|fail)
 exact hq.out):p:=h ⟨hq⟩
theorem dY (h:Kept q->p:=by
 intro hq
 (first|(((first|((with_reducible refine bL ?_);refine xA ?_)|((with_reducible refine cO ?_);refine xD ?_));(first|((with_reducible refine gH ?_);(first|refine aJ (iE aB rfl rfl rfl rfl lX zln) ?_|refine aJ (iD aB rfl rfl rfl lX zln) ?_))|((with_reducible refine iZ ?_);(first|refine aJ (s_slArri aB rfl rfl rfl rfl zbd zbd zle zle aN lX zln) ?_)))))|fail)
 exact hq.out):p:=h ⟨hq⟩
theorem bK (h:Kept q->p:=by
 intro hq
 (first|((first|with_reducible refine aF ?_|with_reducible refine fI ?_);(first|refine zA ?_|refine zN ?_|refine zD ?_))|fail)
 exact hq.out):p:=h ⟨hq⟩
theorem dG9 (h:Kept q->p:=by
 intro hq
 (first|(((first|((with_reducible refine bL ?_);refine xA ?_)|((with_reducible refine jG ?_);refine xE ?_));(first|((with_reducible refine gH ?_);(first|refine aJ (jP aB rfl rfl rfl rfl gY) ?_|refine aJ (iC aB rfl rfl rfl rfl gY) ?_|refine aJ (iB aB rfl rfl rfl gY) ?_))|((with_reducible refine e_ix ?_);(first|refine aJ (s_ixV1 aB rfl rfl zcj rfl rfl rfl rfl rfl zle gY) ?_|refine aJ (s_ixStr aB rfl rfl zcj rfl rfl gY) ?_)))))|fail)
 exact hq.out):p:=h ⟨hq⟩
theorem aR5 (h:Kept q->p:=by
 intro hq
 (first|(((first|((with_reducible refine bL ?_);refine xA ?_)|((with_reducible refine jG ?_);refine xE ?_));(first|((with_reducible refine gH ?_);(first|refine aJ (iE aB rfl rfl rfl rfl lX zln) ?_|refine aJ (iD aB rfl rfl rfl lX zln) ?_))|((with_reducible refine iZ ?_);(first|refine aJ (s_slArri aB rfl rfl rfl rfl zbd zbd zle zle aN lX zln) ?_)))))|fail)
 exact hq.out):p:=h ⟨hq⟩
theorem iY (h:Kept q->p:=by
 intro hq
 (first|((first|with_reducible refine aF ?_|with_reducible refine bP ?_);(first|refine zA ?_|refine zN ?_|refine zE ?_))|fail)
 exact hq.out):p:=h ⟨hq⟩
theorem iQ (h:Kept q->p:=by
 intro hq
 (first|(((first|((with_reducible refine bL ?_);refine xA ?_)|((with_reducible refine cO ?_);refine xD ?_)|((with_reducible refine jG ?_);refine xE ?_));(first|((with_reducible refine gH ?_);(first|refine aJ (jP aB rfl rfl rfl rfl gY) ?_|refine aJ (iC aB rfl rfl rfl rfl gY) ?_|refine aJ (iB aB rfl rfl rfl gY) ?_))|((with_reducible refine e_ix ?_);(first|refine aJ (s_ixV1 aB rfl rfl zcj rfl rfl rfl rfl rfl zle gY) ?_|refine aJ (s_ixStr aB rfl rfl zcj rfl rfl gY) ?_)))))|fail)
 exact hq.out):p:=h ⟨hq⟩
theorem fX (h:Kept q->p:=by
 intro hq
 (first|(((first|((with_reducible refine bL ?_);refine xA ?_)|((with_reducible refine cO ?_);refine xD ?_)|((with_reducible refine jG ?_);refine xE ?_));(first|((with_reducible refine gH ?_);(first|refine aJ (iE aB rfl rfl rfl rfl lX zln) ?_|refine aJ (iD aB rfl rfl rfl lX zln) ?_))|((with_reducible refine iZ ?_);(first|refine aJ (s_slArri aB rfl rfl rfl rfl zbd zbd zle zle aN lX zln) ?_)))))|fail)
 exact hq.out):p:=h ⟨hq⟩
theorem dP (h:Kept q->p:=by
 intro hq
 (first|((first|with_reducible refine aF ?_|with_reducible refine fI ?_|with_reducible refine bP ?_);(first|refine zA ?_|refine zN ?_|refine zD ?_|refine zE ?_))|fail)
 exact hq.out):p:=h ⟨hq⟩
theorem wM (h:Kept q->p:=by
 intro hq
 (first|((with_reducible refine qG ?_);refine wA ?_;(first|refine nK (cY (mK aB rfl rfl rfl rfl rfl) zln) ?_|refine nK (cY (oT aB rfl rfl rfl rfl rfl rfl rfl rfl rfl rfl rfl rfl (lF rfl) aM6 fF) zln) ?_))|fail)
 exact hq.out):p:=h ⟨hq⟩
theorem iJ (h:Kept q->p:=by
 intro hq
 (first|((first|with_reducible refine qG ?_|with_reducible refine aG2 ?_);(first|refine wA ?_|refine wE ?_);(first|refine nK (cY (mK aB rfl rfl rfl rfl rfl) zln) ?_|refine nK (cY (oT aB rfl rfl rfl rfl rfl rfl rfl rfl rfl rfl rfl rfl (lF rfl) aM6 fF) zln) ?_))|fail)
 exact hq.out):p:=h ⟨hq⟩
theorem eX9 (h:Kept q->p:=by
 intro hq
 (first|((first|with_reducible refine qG ?_|with_reducible refine isD_bslice ?_);(first|refine wA ?_|refine wD ?_);(first|refine nK (cY (mK aB rfl rfl rfl rfl rfl) zln) ?_|refine nK (cY (oT aB rfl rfl rfl rfl rfl rfl rfl rfl rfl rfl rfl rfl (lF rfl) aM6 fF) zln) ?_))|fail)
 exact hq.out):p:=h ⟨hq⟩
end
structure KeptA (r q:Prop):Prop where
 a:r
 out:q
theorem eZ1 {p q r:Prop} (a:r) (hq:q) (h:KeptA r q->p:=by
 intro hq
 (first|((with_reducible refine aF ?_);refine aK hq.a aG rfl zby rfl rfl rfl rfl zcv rfl ztp ?_)|fail)
 exact hq.out):p:=h ⟨a,hq⟩
structure KeptK (ks fs:Dw) (q:Prop):Prop where
 out:q
section
variable {P:D0} {sz n n0 id:Nat} {K:AK} {env env' env0:Env} {h h' h0:aQ} {dfs:cK} {c:Code} {l:Du} {ks fs:Dw} {p q:Prop}
theorem aD1 (k:KeptK ks fs q) (hE:nP env ks=some env') (hH:uI h n=some h') (hx:AW P sz c K n env' h' dfs):AW P sz c K n env h dfs:=aP ks hE hH hx
theorem eF0 (k:KeptK ks fs q) (hx:Drw P l sz K dfs id n0 env0 h0 (rZ fs l l) l n0 env0 h0):AW P sz (.region id l.toArray true) K n0 env0 h0 dfs:=cM fs hx
theorem eE9 (k:KeptK ks fs q) (hx:bY P l sz K dfs id n0 env0 h0 [] (nM fs l l) l n0 env0 h0):AW P sz (.region id l.toArray true) K n0 env0 h0 dfs:=bZ fs hx
theorem aL (ks:Dw) (hq:q) (h:KeptK ks [] q->p:=by
 intro hq
 (first|((with_reducible refine aU6 ?_);refine aD1 hq rfl rfl ?_;with_reducible refine sU ?_)|fail)
 exact hq.out):p:=h ⟨hq⟩
theorem aY (ks:Dw) (hq:q) (h:KeptK ks [] q->p:=by
 intro hq
 (first|((with_reducible refine aU6 ?_);refine aD1 hq rfl rfl ?_;with_reducible refine sU ?_)|((with_reducible refine aR ?_);refine aD1 hq rfl rfl ?_;refine eF0 hq ?_)|fail)
 exact hq.out):p:=h ⟨hq⟩
theorem fL (ks:Dw) (hq:q) (h:KeptK ks [] q->p:=by
 intro hq
 (first|((with_reducible refine aU6 ?_);refine aD1 hq rfl rfl ?_;with_reducible refine sU ?_)|((with_reducible refine aR ?_);refine aD1 hq rfl rfl ?_;refine eE9 hq ?_)|fail)
 exact hq.out):p:=h ⟨hq⟩
end
end Go.Proofs.YtbgehdndimlgkaaGreat
