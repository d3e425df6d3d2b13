/-
  Lemmas for laws of the ledger; no statement of a law.
-/
import Derived.Test.YtbgehdndimlgkaaGreatQ44
set_option linter.unusedSimpArgs false
set_option linter.unusedVariables false
namespace Go.Proofs.YtbgehdndimlgkaaGreat
open Go Go.RowKit Go.Av
set_option maxRecDepth 100000
abbrev tRd:=109
attribute [local irreducible] Still Adds AWL AW Drw bT bW AC AWR cL Frz Go.Av.Src dC Out InK ItK AsK RdK eI eE ACT ACA eL aL6
structure OnC (m m1 m2 m3 m4 k:Nat) (B H B1 C B2 B3 D B4 cs:List CV) (n e3 e4:Int):Prop where
 hmb:m≤1000000000
 hB:B.length=m
 hH:H.length=32
 hn:aQ n
 h0:0≤n
 h1:n≤m1
 hm1:m1≤1000000000
 hB1:B1.length=m1
 hC:C.length=k
 hk:k≤1000000000
 hB2:B2.length=m2
 hB3:B3.length=m3
 hm3:m3≤m
 hB4:B4.length=m4
 hm4:m4≤1000000000
 hD:D.length=32
 hcs:cs.length=65
 a1:ACT Tryz.prog 122 109 [.sl 1 m B,iv 0] [] [.sl 1 m1 B1,iv 0] (iv n)
 a2:ACT Tryz.prog 123 109 [.sl 1 m1 B1,iv 0] [iv n] [.sl 1 m2 B2,iv 0] (.sl 1 k C)
 a3:ACT Tryz.prog 124 109 [.sl 1 m2 B2,iv 0] [] [.sl 1 m3 B3,iv e3] (.agg D)
 a4:ACT Tryz.prog 67 109 [.sl 1 k C,iv 0] [] [.sl 1 m4 B4,iv e4] (.agg cs)
end Go.Proofs.YtbgehdndimlgkaaGreat
namespace Go.Proofs.YtbgehdndimlgkaaGreat
open Go Go.RowKit Go.Av
set_option maxRecDepth 100000
theorem bP8 {ch b:List UInt8} {e:LEn} {d:List UInt8} {k:Nat} (h:iB kdL ch b=some (e,d,k)):∃c r,pEn c=some (e,r):=by
 unfold iB at h
 obtain ⟨p,hp,h⟩:=Option.bind_eq_some_iff.1 h
 split at h
 ·obtain ⟨q,hq,h⟩:=Option.bind_eq_some_iff.1 h
  split at h
  ·injection h with h
   injection h with h _
   subst h
   exact ⟨_,q.2,hq⟩
  ·cases h
 ·cases h
theorem bI8:∀(f:Nat) {l:List LEn} {ch b:List UInt8},LfE l→LfE (parF kdL f l ch b).1
 | 0,l,ch,b,ho=>ho
 | f+1,l,ch,b,ho=>by
  cases h:iB kdL ch b with
  | none=>rw [fJ h];exact ho
  | some p =>
   obtain ⟨e,d,k⟩:=p
   by_cases hn:Fol l e∧l.length<512
   ·obtain ⟨c,r,hc⟩:=bP8 h
    rw [jK h hn]
    refine bI8 f fun x hx=>?_
    rcases List.mem_append.1 hx with hx|hx
    ·exact ho x hx
    ·rw [List.mem_singleton.1 hx];exact eB1 hc
   ·rw [mB h hn];exact ho
attribute [local irreducible] Still Adds AWL AW Drw bT bW AC AWR cL Frz Go.Av.Src dC Out InK ItK AsK RdK eI eE ACT ACA eL aL6 lec
end Go.Proofs.YtbgehdndimlgkaaGreat
