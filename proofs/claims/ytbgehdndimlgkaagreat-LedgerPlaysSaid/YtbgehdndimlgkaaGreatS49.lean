/- Lemmas for laws of the ledger. -/
import Derived.Test.YtbgehdndimlgkaaGreatS45
import Derived.Test.YtbgehdndimlgkaaGreatS48
set_option linter.all false
set_option maxHeartbeats 16000000
namespace Go.Proofs.YtbgehdndimlgkaaGreat
open Go Go.RowKit Go.Av
set_option maxRecDepth 100000
section
def opD (s:Dk) (kd n:Int) (b:Dm):Dk × Int :=
 if kd.tmod 5=0 then opA s b else if kd.tmod 5=1 then opS s else if kd.tmod 5=2 then opF s n else if kd.tmod 5=3 then opC s n else opT s n
attribute [local irreducible] Still Adds AWL AW Drw bX bY AC AWR cU Frz Go.Av.Src cQ Out InK ItK AsK RdK
attribute [local simp] bS bR bI sN uL
theorem dI4 (sy pe:Dm) (fu:Int) (dn:Bool) (m k:Nat) (hm:sy.length=m) (hk:pe.length=k):qC' 82 [dkC m k sy pe fu dn,dkC m k sy pe fu dn] (.c (bv true)) [] 0:=by
 have hua:(u8c sy).length=m:=by rw [aH,hm]
 have hub:(u8c pe).length=k:=by rw [aH,hk]
 refine aD aB (sz:=35) Tryz.func82 rfl (by rw [Tryz.ntmps82];rfl) ?_
 repeat' (first|(refine aC ?_;intro K hK hX)|refine aK [0,1,2,3,4] ?_|(((with_reducible refine bP ?_);refine xA ?_);(first|((with_reducible refine bU ?_);(first|refine aL (jV rfl rfl rfl (AP rfl)) ?_|refine aL (aE6 rfl rfl (AP rfl)) ?_|refine aL (aR0 aB rfl rfl rfl rfl (beq_self_eq_true _)) ?_))))|refine stA ?_|(refine aG hK hX ?_;clear hK hX K)|fail)
 exact aY
structure Ac where
 kd:Int
 n:Int
 bs:Dm
def acC (a:Ac):D1:=[iv a.kd,iv a.n,.sl 1 a.bs.length (u8c a.bs)]
def eW3 (l:List Ac):D1:=l.flatMap acC
def eU2 (l:List Ac):Bool:=l.all (fun a=>decide (a.bs.length<=60))&&decide (l.length<=30)
end
section
attribute [local irreducible] Still Adds AWL AW Drw bX bY AC AWR cU Frz Go.Av.Src cQ Out InK ItK AsK RdK eP eI ACT ACA eW ACG fL lec
theorem bY7 (s:Lg) (m k q:Nat) (hm:s.d.sy.length=m) (hk:s.d.pe.length=k) (hq:s.l.length=q) (hb:q<=1000) (ho:OkL s.l) (hl:LfE s.l) (hc:s.c.length=32):qC' 25 [.agg (lgV m k q s),.agg (lgV m k q s)] (.c (bv true)) [] 0:=by
 have h1:=dI4 s.d.sy s.d.pe s.d.fu s.d.dn m k hm hk
 have h2:=bH9 s.l q hq aA ho hl
 have hcl:(u8c s.c).length=32:=by rw [aH,hc]
 have hlg:(lgV m k q s).length=37:=by unfold lgV;rw [Aa,hcl];rfl
 have hw0:List.take 4 (List.drop (0+0) (lgV m k q s))=[.sl 1 m (u8c s.d.sy),.sl 1 k (u8c s.d.pe),iv s.d.fu,bv s.d.dn]:=rfl
 have hg4:(lgV m k q s)[0+4]? = some (.sl 65 q (lec s.l)):=rfl
 have hw5:List.take 32 (List.drop (0+5) (lgV m k q s))=u8c s.c:=by
  show List.take 32 (u8c s.c)=u8c s.c
  rw [Ad (Cd hcl)]
 generalize lgV m k q s=g at *
 refine aD aB (sz:=24) Tryz.func25 rfl (by rw [Tryz.ntmps25];rfl) ?_
 repeat' (first|(refine aC ?_;intro K hK hX)|refine aK [0,1,2,3,4] ?_|((with_reducible refine bM ?_);refine yA ?_;refine bC (bN (T:=61) rfl) rfl ?_)|(refine dK ?_;first|refine c0 h1 ?_|refine c0 h2 ?_)|(((with_reducible refine bP ?_);refine xA ?_);(first|((with_reducible refine bU ?_);(first|refine aL (cT1 aB aV rfl rfl rfl rfl rfl rfl hw5 hw5 rfl hc hc (AP rfl)) ?_|refine aL (cT1 aB aV rfl rfl rfl rfl rfl rfl rfl rfl rfl hc hc (AP rfl)) ?_))))|refine eJ ?_|refine jO ?_|refine stA ?_|(refine aG hK hX ?_;clear hK hX K)|fail)
 exact aY
end
end Go.Proofs.YtbgehdndimlgkaaGreat
