/-
  Lemmas for laws of the ledger; no statement of a law.
-/
import Derived.Test.YtbgehdndimlgkaaGreatQ42
set_option linter.unusedSimpArgs false
set_option linter.unusedVariables false
namespace Go.Proofs.YtbgehdndimlgkaaGreat
open Go Go.RowKit Go.Av
set_option maxRecDepth 100000
attribute [local irreducible] Still Adds AWL AW Drw bT bW AC AWR cL Frz Go.Av.Src dC Out InK ItK AsK RdK
attribute [local simp] bQ bL bD rL tJ
end Go.Proofs.YtbgehdndimlgkaaGreat
namespace Go.Proofs.YtbgehdndimlgkaaGreat
open Go Go.RowKit Go.Av
set_option maxRecDepth 100000
def opD (s:Dk) (kd n:Int) (b:List UInt8):Dk × Int :=
 if kd.tmod 5=0 then opA s b else if kd.tmod 5=1 then opS s else if kd.tmod 5=2 then opF s n else if kd.tmod 5=3 then opC s n else opT s n
attribute [local irreducible] Still Adds AWL AW Drw bT bW AC AWR cL Frz Go.Av.Src dC Out InK ItK AsK RdK
attribute [local simp] bQ bL bD rL tJ
set_option maxHeartbeats 4000000 in
theorem dB6 (sy pe:List UInt8) (fu:Int) (dn:Bool) (m k:Nat) (hm:sy.length=m) (hk:pe.length=k):AC Tryz.prog 82 [dkC m k sy pe fu dn,dkC m k sy pe fu dn] (.c (bv true)) [] 0:=by
 have hua:(u8c sy).length=m:=by rw [aG,hm]
 have hub:(u8c pe).length=k:=by rw [aG,hk]
 refine aF aB (sz:=35) Tryz.func82 rfl (by rw [Tryz.ntmps82];rfl) ?_
 repeat' (first|(refine aC ?_;intro K hK hX)|refine aL [0,1,2,3,4] ?_|(((with_reducible refine bP ?_);refine xA ?_);(first|((with_reducible refine bS ?_);(first|refine aJ (jL rfl rfl rfl (decide_eq_true rfl)) ?_|refine aJ (zT rfl rfl (decide_eq_true rfl)) ?_|refine aJ (aK3 aB rfl rfl rfl rfl (beq_self_eq_true _)) ?_))))|refine stA ?_|(refine aH hK hX ?_;clear hK hX K)|fail)
 exact bB
structure Ac where
 kd:Int
 n:Int
 bs:List UInt8
def acC (a:Ac):List CV:=[iv a.kd,iv a.n,.sl 1 a.bs.length (u8c a.bs)]
def eJ8 (l:List Ac):List CV:=l.flatMap acC
def eH7 (l:List Ac):Bool:=l.all (fun a=>decide (a.bs.length≤60))&&decide (l.length≤30)
end Go.Proofs.YtbgehdndimlgkaaGreat
