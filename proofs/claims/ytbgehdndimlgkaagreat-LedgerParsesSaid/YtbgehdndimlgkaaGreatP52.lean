/- Lemmas for laws of the ledger. -/
import Derived.Test.YtbgehdndimlgkaaGreatP42
import Derived.Test.YtbgehdndimlgkaaGreatP44
import Derived.Test.YtbgehdndimlgkaaGreatP47
import Derived.Test.YtbgehdndimlgkaaGreatP48
set_option linter.all false
set_option maxHeartbeats 16000000
namespace Go.Proofs.YtbgehdndimlgkaaGreat
open Go Go.RowKit Go.Av
set_option maxRecDepth 100000
section
variable {P:D0} {ev:Evl} {h:aQ} {d:Dy} {T T' ty:Dz} {x y:Operand} {pos:String} {aft:Dx} {gd:Ds}
theorem eL7 {b c:UInt8} (hx:ev x=some (.c (.v (.int .u8 (b.toNat:Int))))) (hy:ev y=some (.c (.v (.int .u8 (c.toNat:Int))))):Still P ⟨d,.binOp .xor T x y T',ty,pos,aft,gd⟩ ev h (.c (.v (.int .u8 ((b ^^^ c).toNat:Int)))) :=
 bH0 hx hy (by
  show IntKind.u8.wrap ((BitVec.ofInt 8 (b.toNat:Int) ^^^ BitVec.ofInt 8 (c.toNat:Int)).toNat:Int)=_
  have e1:∀b:UInt8,BitVec.ofInt 8 (b.toNat:Int)=b.toBitVec:=fun b=>by
   apply BitVec.eq_of_toNat_eq
   have:=b.toNat_lt
   simp
  rw [e1,e1,wu8 aA (by have:=(b.toBitVec ^^^ c.toBitVec).isLt;omega)]
  rfl)
end
theorem eM8 (n:Int):∃c:UInt8,IntKind.u8.wrap n=(c.toNat:Int):=⟨UInt8.ofNat (n%256).toNat,by
 rw [IntKind.wrap_u8,Co,BH aA]
 omega⟩
theorem cP4 (d:Dr):(!decide (d=d))=false:=by rw [AH rfl];rfl
structure PaC (b:Dr) (m:Nat) (C D:D8) (q a:Nat):Prop where
 h1:qC' 14 [.sl 1 m (u8c b)] (.tup [.c (.sl 65 q C),.c (iv a),.c (.agg D)]) [] 0
 h2:qC' 15 [.sl 1 m (u8c b)] (.tup [.c (.sl 65 q C),.c (iv a),.c (.agg D)]) [] 0
 h3:qC' 16 [.sl 65 q C,.sl 65 q C] (.c (bv true)) [] 0
 h4:∃d:Dr,d.length=32/\D=u8c d
 h5:C.length=q*65
theorem cW5 (b:Dr) (m:Nat) (hm:b.length=m) (hb:m<=100000000):∃C D q a,PaC b m C D q a:=by
 obtain ⟨L,a,d,hR⟩:∃L a d,parF kdL 513 [] root0 b=(L,a,d):=⟨_,_,_,rfl⟩
 obtain ⟨p1,p2,p3,p4,_⟩:=lJ 513 (l:=[]) (ch:=root0) (b:=b) aA rfl (fun e he=>by simp at he) aT
 have p5:=aW0 513 (l:=[]) (ch:=root0) (b:=b) (fun e he=>by simp at he)
 rw [hR] at p1 p2 p4 p5
 exact ⟨lec L,u8c d,L.length,a,aH0 b m hm hb L _ rfl a d hR,aP6 b m hm hb L _ rfl a d hR,aH8 L _ rfl (by simp only at p2;omega) p1 p5,⟨d,p4,rfl⟩,by rw [dZ p1]⟩
attribute [local irreducible] Still Adds AWL AW Drw bY bW AC AWR cR Frz Go.Av.Src cQ Out InK ItK AsK RdK eL eF ACT ACA eT ACG fP lec
section
variable (b:Dr) (m:Nat) (hm:b.length=m)
include b m hm
theorem fB6 (hmb:m<=maxLen) (l:List LEn) (n:Nat) (hn:l.length=n) (hb:n<=maxLen) (hw:∀e∈l,e.wf/\aS e.k) (d0 d1:Int) (hf:300<m\/¬rY l):qC' 3 [.sl 1 m (u8c b),.sl 65 n (lec l),.agg [iv d0,iv d1]] (.c (bv true)) [] 0:=by
 by_cases h300:300<m
 ·generalize lec l=L at *
  generalize u8c b=B at *
  refine aD aB (sz:=98) Tryz.func3 rfl aS7 ?_
  repeat' (first|(refine aC ?_;intro K hK hX)|refine aY [0,1,2,5,6,7,8,9,10,11,12,13] ?_|((with_reducible refine bH ?_);refine yA ?_;refine bE (bJ rfl) rfl ?_)|(fail)|(refine bK ?_;refine c0 dW ?_)|refine stA ?_|refine stD ?_|(refine aE hK hX ?_;clear hK hX K)|fail)
  exact aV
 ·have h1:=qD l n hn hb (fun e he=>(hw e he).1) false ⟨fun h=>dS,fun h=>absurd h (hf.resolve_left h300)⟩
  generalize lec l=L at *
  generalize u8c b=B at *
  refine aD aB (sz:=98) Tryz.func3 rfl aS7 ?_
  repeat' (first|(refine aC ?_;intro K hK hX)|refine aY [0,1,2,5,6,7,8,9,10,11,12,13] ?_|((with_reducible refine bH ?_);refine yA ?_;refine bE (bJ rfl) rfl ?_)|(refine bK ?_;first|refine c0 dW ?_|refine c0 h1 ?_)|refine stA ?_|refine stD ?_|(refine aE hK hX ?_;clear hK hX K)|fail)
  exact aV
theorem fB7 (hmb:m<=300) (l:List LEn) (n:Nat) (hn:l.length=n) (hb:n<=maxLen) (hw:∀e∈l,e.wf/\aS e.k) (d0 d1:Int) (hf:rY l):qC' 3 [.sl 1 m (u8c b),.sl 65 n (lec l),.agg [iv d0,iv d1]] (.c (bv true)) [] 0:=by
 have h1:=qD l n hn hb (fun e he=>(hw e he).1) true ⟨fun _=>hf,fun _=>rfl⟩
 have ho:=aT3 hf hw
 have hn16:n<=16:=by have:=hf.1;omega
 have hll:(lec l).length=n*65:=by rw [dZ ho,hn]
 have hul:=u8l hm
 obtain ⟨C1,D1,q1,a1,g1,g2,g3,⟨d,g4,rfl⟩,g5⟩:=cW5 b m hm aA
 have gl:(u8c d).length=32:=by rw [aH,g4]
 obtain ⟨k,hk⟩:∃k,(eP kdL root0 l).length=k:=⟨_,rfl⟩
 have hkb:=pB ho root0
 rw [hk,hn] at hkb
 have hby:=tJ l n hn aA ho k hk
 have hulf:=u8l hk
 by_cases hk0:k=0
 ·obtain ⟨C2,D2,q2,a2,k1,k2,k3,⟨e,k4,rfl⟩,k5⟩:=cW5 (eP kdL root0 l) k hk aA
  have kl:(u8c e).length=32:=by rw [aH,k4]
  subst hk0
  generalize lec l=L at *
  generalize u8c b=B at *
  generalize u8c (eP kdL root0 l)=F at *
  refine aD aB (sz:=98) Tryz.func3 rfl aS7 ?_
  repeat' (first|(refine aC ?_;intro K hK hX)|refine aY [0,1,2,5,6,7,8,9,10,11,12,13] ?_|((with_reducible refine bH ?_);refine yA ?_;refine bE (bJ rfl) rfl ?_)|((first|with_reducible refine aF ?_|with_reducible refine fI ?_);(first|refine wA ?_|refine wD ?_);refine nK (cY (eE zby rfl (hby) zcv rfl) zln) ?_)|(refine bK ?_;first|refine c0 dW ?_|refine c0 h1 ?_|refine c0 g1 ?_|refine c0 g2 ?_|refine c0 g3 ?_|refine c0 k1 ?_|refine c0 k2 ?_|refine c0 k3 ?_)|((first|((with_reducible refine bL ?_);refine xA ?_)|((with_reducible refine cO ?_);refine xD ?_));(first|((with_reducible refine bQ ?_);(first|refine aJ (xZ aB aO rfl rfl rfl rfl rfl rfl rfl rfl rfl g4 g4 (cP4 d)) ?_|refine aJ (aW8 aB aO rfl rfl rfl rfl rfl rfl rfl rfl rfl k4 k4 (AH rfl)) ?_))))|refine stA ?_|refine stD ?_|(refine aE hK hX ?_;clear hK hX K)|fail)
  exact aV
 ·obtain ⟨J,hJe⟩:∃J,(BitVec.ofInt 64 d0).toNat%k=J:=⟨_,rfl⟩
  have hJ:J<k:=by rw [<- hJe];exact Cz _ aA
  obtain ⟨v,hv⟩:∃v,(eP kdL root0 l)[J]? = some v:=⟨_,Ab aA⟩
  have hvc:=eN0 hv
  have eJ:0+J*1=J:=by omega
  have hvc':(u8c (eP kdL root0 l))[0+J*1]? = some (.v (.int .u8 (v.toNat:Int))):=by rw [eJ];exact hvc
  obtain ⟨c,hc⟩:=eM8 d1
  have hst:(u8c (eP kdL root0 l)).set (0+J*1) (.v (.int .u8 ((v ^^^ c).toNat:Int)))=u8c ((eP kdL root0 l).set J (v ^^^ c)):=by rw [eJ];exact bY1 _ _ _
  obtain ⟨C2,D2,q2,a2,k1,k2,k3,⟨e,k4,rfl⟩,k5⟩:=cW5 ((eP kdL root0 l).set J (v ^^^ c)) k (by rw [BV,hk]) aA
  have kl:(u8c e).length=32:=by rw [aH,k4]
  have hcv:IntKind.u64.wrap (k:Int)=(k:Int):=eN2 aA aA
  rw [<- hst] at k1 k2
  have hsl:((u8c (eP kdL root0 l)).set (0+J*1) (.v (.int .u8 ((v ^^^ c).toNat:Int)))).length=k*1:=by rw [BV,hulf,A9]
  generalize lec l=L at *
  generalize u8c b=B at *
  clear hst
  generalize u8c (eP kdL root0 l)=F at *
  refine aD aB (sz:=98) Tryz.func3 rfl aS7 ?_
  repeat' (first|(with_reducible refine uY 10 ?_)|(with_reducible refine uZ 10 ?_)|(with_reducible refine cut3 10 ?_)|(refine aC ?_;intro K hK hX)|refine aY [0,1,2,5,6,7,8,9,10,11,12,13] ?_|((with_reducible refine bH ?_);refine yA ?_;refine bE (bJ rfl) rfl ?_)|(refine bK ?_;first|refine c0 dW ?_|refine c0 h1 ?_|refine c0 g1 ?_|refine c0 g2 ?_|refine c0 g3 ?_|refine c1 hby ?_)|((first|((with_reducible refine bL ?_);refine xA ?_)|((with_reducible refine cO ?_);refine xD ?_));(first|((with_reducible refine bQ ?_);(first|refine aJ (xZ aB aO rfl rfl rfl rfl rfl rfl rfl rfl rfl g4 g4 (cP4 d)) ?_|refine aJ (bX5 aA hJe rfl rfl rfl) ?_|refine aJ (eL7 rfl rfl) ?_))|((with_reducible refine oK ?_);(first|refine aJ (fC aB rfl rfl rfl rfl hcv) ?_|refine aJ (fC aB rfl rfl rfl rfl hc) ?_))))|refine cH ?_|refine stA ?_|refine stD ?_|(refine aE hK hX ?_;clear hK hX K)|fail)
  refine kO ?_
  refine nW (nU (t:=13) rfl rfl hsl) ?_
  repeat' (first|(refine aC ?_;intro K hK hX)|refine aY [0,1,2,5,6,7,8,9,10,11,12,13] ?_|((with_reducible refine bH ?_);refine yA ?_;refine bE (bJ rfl) rfl ?_)|(refine bK ?_;first|refine c0 dW ?_|refine c0 k1 ?_|refine c0 k2 ?_|refine c0 k3 ?_)|((first|((with_reducible refine bL ?_);refine xA ?_)|((with_reducible refine cO ?_);refine xD ?_));(first|((with_reducible refine bQ ?_);(first|refine aJ (aW8 aB aO rfl rfl rfl rfl rfl rfl rfl rfl rfl k4 k4 (AH rfl)) ?_))))|refine stA ?_|refine stD ?_|(refine aE hK hX ?_;clear hK hX K)|fail)
  exact aV
theorem law_lparses (hmb:m<=maxLen) (l:List LEn) (n:Nat) (hn:l.length=n) (hb:n<=maxLen) (hw:∀e∈l,e.wf/\aS e.k) (d0 d1:Int):qC' 3 [.sl 1 m (u8c b),.sl 65 n (lec l),.agg [iv d0,iv d1]] (.c (bv true)) [] 0:=by
 by_cases hf:300<m\/¬rY l
 ·exact fB6 b m hm hmb l n hn hb hw d0 d1 hf
 ·by_cases hF:rY l
  ·exact fB7 b m hm aA l n hn hb hw d0 d1 hF
  ·exact absurd (.inr hF) hf
end
end Go.Proofs.YtbgehdndimlgkaaGreat
