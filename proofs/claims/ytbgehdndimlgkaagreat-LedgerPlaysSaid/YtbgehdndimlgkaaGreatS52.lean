/- Lemmas for laws of the ledger. -/
import Derived.Test.YtbgehdndimlgkaaGreatS27
set_option linter.all false
set_option maxHeartbeats 16000000
namespace Go.Proofs.YtbgehdndimlgkaaGreat
open Go Go.RowKit Go.Av
set_option maxRecDepth 100000
section
section
variable {P:Dv} {ev:Evl} {h:aO} {d:Dt} {T T' ty:Du} {x y:Operand} {pos:String} {aft:Ds} {gd:Dn}
theorem cS7 {m:Int} {j:Nat} (hj:(BitVec.ofInt 64 m &&& BitVec.ofNat 64 3).toNat=j) (hx:ev x=some (.c (.v (.int .i64 m)))) (hy:ev y=some (.c (.v (.int .i64 3)))):Still P ⟨d,.binOp .and T x y T',ty,pos,aft,gd⟩ ev h (.c (.v (.int .i64 (j:Int)))) :=
 aD9 hx hy (by
  show IntKind.i64.wrap ((BitVec.ofInt 64 m &&& BitVec.ofInt 64 3).toNat:Int)=_
  have e1:BitVec.ofInt 64 3=BitVec.ofNat 64 3:=by decide
  have hlt:(BitVec.ofInt 64 m &&& BitVec.ofNat 64 3).toNat<=3:=by
   rw [CY]
   exact At Nat.and_le_right aN
  rw [e1,hj] at *
  exact w64 aA aA)
end
theorem cX5 (m:Int):(BitVec.ofInt 64 m &&& BitVec.ofNat 64 3).toNat<4:=by
 rw [CY]
 exact Nat.lt_of_le_of_lt Nat.and_le_right aN
def oE:Code->Code
 | .loop c=>c
 | c=>c
def eQ2:Code->Code
 | .block _ c=>c
 | c=>c
noncomputable def lpB:Code:=oE (eQ2 (fM (eQ3 (fM (fM (fM (fM (fM (Tryz.f7.body.getD .skip)))))))))
attribute [local irreducible] Still Adds AWL AW Drw bX bY AC AWR cU Frz Go.Av.Src cQ Out InK ItK AsK RdK eP eI ACT ACA eW ACG fL
structure LpC (n:Nat) (C gs gx ac ec:D1) (i:Nat) (ak an:Int) (j:Nat):Prop where
 hn:n<=16
 hlt:i<n
 hll:C.length=n*67
 gsl:gs.length=37
 gxl:gx.length=37
 hel:ac.length=67
 hee:ec.length=65
 hx:(C.drop (i*67)).take 67=ac
 y0:ac[0+0]? = some (iv ak)
 y1:ac[0+1]? = some (iv an)
 y2:List.take 65 (List.drop (0+2) ac)=ec
 hj:(BitVec.ofInt 64 ak &&& BitVec.ofNat 64 3).toNat=j
 h1:qC' 26 [.agg ec] (.c (bv true)) [] 0
 hs:qC' 25 [.agg gx,.agg gx] (.c (bv true)) [] 0
abbrev lpE (n:Nat) (C:D1) (i:Nat):Env:=[(0,.c (.sl 67 n C)),(2,.c (bv false)),(3,.ref 0 0),(5,.ref 1 0),(7,.c (iv i))]
abbrev lpH (g:D1):aO:=[(1,.row 61 g),(0,.row 61 g)]
abbrev LpK (n:Nat) (C:D1) (i:Nat) (g:D1) (K:AK):Prop:=∀n' env' h' dfs',cU n' env' h' dfs' 2 (lpE n C i) (lpH g) []->K .normal n' env' h' dfs'
section
variable (n:Nat) (C gs gx ac ec:D1) (i:Nat) (ak an:Int)
include n C gs gx ac ec i ak an
theorem eK1 (hc:LpC n C gs gx ac ec i ak an 0) (f:Int) (f0:f=0) (b1:qC' 24 [.agg gs,.agg ec] (.tup [.c (.agg gx),.c (iv f)]) [] 0) (b2:qC' 34 [.agg gs,.agg ec] (.tup [.c (.agg gx),.c (iv f)]) [] 0) (K:AK) (hK:LpK n C (i+1) gx K):qW' 145 lpB K 2 (lpE n C i) (lpH gs) []:=by
 subst f0
 obtain ⟨hn,hlt,hll,gsl,gxl,hel,hee,hx,y0,y1,y2,hj,h1,hs⟩:=hc
 unfold lpB
 conv in oE _=>whnf
 repeat' (first|(refine aC ?_;intro K hK hX)|refine aM2 ?_|(refine aG hK hX ?_;clear hK hX K)|fail)
 refine hK _ _ _ _ ?_
 exact dF
theorem eK2 (hc:LpC n C gs gx ac ec i ak an 0) (f:Int) (f0:¬f=0) (f4:f=104) (b1:qC' 24 [.agg gs,.agg ec] (.tup [.c (.agg gx),.c (iv f)]) [] 0) (b2:qC' 34 [.agg gs,.agg ec] (.tup [.c (.agg gx),.c (iv f)]) [] 0) (K:AK) (hK:LpK n C (i+1) gx K):qW' 145 lpB K 2 (lpE n C i) (lpH gs) []:=by
 subst f4
 obtain ⟨hn,hlt,hll,gsl,gxl,hel,hee,hx,y0,y1,y2,hj,h1,hs⟩:=hc
 unfold lpB
 conv in oE _=>whnf
 repeat' (first|(refine aC ?_;intro K hK hX)|refine aM2 ?_|(refine aG hK hX ?_;clear hK hX K)|fail)
 refine hK _ _ _ _ ?_
 exact dF
theorem eK3 (hc:LpC n C gs gx ac ec i ak an 0) (f:Int) (f0:¬f=0) (f4:¬f=104) (b1:qC' 24 [.agg gs,.agg ec] (.tup [.c (.agg gx),.c (iv f)]) [] 0) (b2:qC' 34 [.agg gs,.agg ec] (.tup [.c (.agg gx),.c (iv f)]) [] 0) (K:AK) (hK:LpK n C (i+1) gs K):qW' 145 lpB K 2 (lpE n C i) (lpH gs) []:=by
 obtain ⟨hn,hlt,hll,gsl,gxl,hel,hee,hx,y0,y1,y2,hj,h1,hs⟩:=hc
 unfold lpB
 conv in oE _=>whnf
 repeat' (first|(refine aC ?_;intro K hK hX)|refine aM2 ?_|(refine aG hK hX ?_;clear hK hX K)|fail)
 refine hK _ _ _ _ ?_
 exact dF
theorem eK7 (hc:LpC n C gs gx ac ec i ak an 2) (f:Int) (f0:f=0) (b1:qC' 37 [.agg gs,iv an] (.tup [.c (.agg gx),.c (iv f)]) [] 0) (b2:qC' 38 [.agg gs,iv an] (.tup [.c (.agg gx),.c (iv f)]) [] 0) (K:AK) (hK:LpK n C (i+1) gx K):qW' 145 lpB K 2 (lpE n C i) (lpH gs) []:=by
 subst f0
 obtain ⟨hn,hlt,hll,gsl,gxl,hel,hee,hx,y0,y1,y2,hj,h1,hs⟩:=hc
 unfold lpB
 conv in oE _=>whnf
 repeat' (first|(refine aC ?_;intro K hK hX)|refine aM2 ?_|(refine aG hK hX ?_;clear hK hX K)|fail)
 refine hK _ _ _ _ ?_
 exact dF
theorem eK8 (hc:LpC n C gs gx ac ec i ak an 2) (f:Int) (f0:¬f=0) (f4:f=104) (b1:qC' 37 [.agg gs,iv an] (.tup [.c (.agg gx),.c (iv f)]) [] 0) (b2:qC' 38 [.agg gs,iv an] (.tup [.c (.agg gx),.c (iv f)]) [] 0) (K:AK) (hK:LpK n C (i+1) gs K):qW' 145 lpB K 2 (lpE n C i) (lpH gs) []:=by
 subst f4
 obtain ⟨hn,hlt,hll,gsl,gxl,hel,hee,hx,y0,y1,y2,hj,h1,hs⟩:=hc
 unfold lpB
 conv in oE _=>whnf
 repeat' (first|(refine aC ?_;intro K hK hX)|refine aM2 ?_|(refine aG hK hX ?_;clear hK hX K)|fail)
 refine hK _ _ _ _ ?_
 exact dF
theorem eK9 (hc:LpC n C gs gx ac ec i ak an 2) (f:Int) (f0:¬f=0) (f4:¬f=104) (b1:qC' 37 [.agg gs,iv an] (.tup [.c (.agg gx),.c (iv f)]) [] 0) (b2:qC' 38 [.agg gs,iv an] (.tup [.c (.agg gx),.c (iv f)]) [] 0) (K:AK) (hK:LpK n C (i+1) gs K):qW' 145 lpB K 2 (lpE n C i) (lpH gs) []:=by
 obtain ⟨hn,hlt,hll,gsl,gxl,hel,hee,hx,y0,y1,y2,hj,h1,hs⟩:=hc
 unfold lpB
 conv in oE _=>whnf
 repeat' (first|(refine aC ?_;intro K hK hX)|refine aM2 ?_|(refine aG hK hX ?_;clear hK hX K)|fail)
 refine hK _ _ _ _ ?_
 exact dF
theorem eL0 (dk0 dk1 dk2 dk3:CV) (hc:LpC n C gs gx ac ec i ak an 3) (f:Int) (f0:f=0) (w0:List.take 4 (List.drop (0+0) gs)=[dk0,dk1,dk2,dk3]) (b1:qC' 23 [.agg [dk0,dk1,dk2,dk3]] (.tup [.c (.agg gx),.c (iv f)]) [] 0) (b2:qC' 32 [.agg [dk0,dk1,dk2,dk3]] (.tup [.c (.agg gx),.c (iv f)]) [] 0) (K:AK) (hK:LpK n C (i+1) gx K):qW' 145 lpB K 2 (lpE n C i) (lpH gs) []:=by
 subst f0
 obtain ⟨hn,hlt,hll,gsl,gxl,hel,hee,hx,y0,y1,y2,hj,h1,hs⟩:=hc
 unfold lpB
 conv in oE _=>whnf
 repeat' (first|(refine aC ?_;intro K hK hX)|refine aM2 ?_|(refine aG hK hX ?_;clear hK hX K)|fail)
 refine hK _ _ _ _ ?_
 exact dF
theorem eL1 (dk0 dk1 dk2 dk3:CV) (hc:LpC n C gs gx ac ec i ak an 3) (f:Int) (f0:¬f=0) (f4:f=104) (w0:List.take 4 (List.drop (0+0) gs)=[dk0,dk1,dk2,dk3]) (b1:qC' 23 [.agg [dk0,dk1,dk2,dk3]] (.tup [.c (.agg gx),.c (iv f)]) [] 0) (b2:qC' 32 [.agg [dk0,dk1,dk2,dk3]] (.tup [.c (.agg gx),.c (iv f)]) [] 0) (K:AK) (hK:LpK n C (i+1) gs K):qW' 145 lpB K 2 (lpE n C i) (lpH gs) []:=by
 subst f4
 obtain ⟨hn,hlt,hll,gsl,gxl,hel,hee,hx,y0,y1,y2,hj,h1,hs⟩:=hc
 unfold lpB
 conv in oE _=>whnf
 repeat' (first|(refine aC ?_;intro K hK hX)|refine aM2 ?_|(refine aG hK hX ?_;clear hK hX K)|fail)
 refine hK _ _ _ _ ?_
 exact dF
theorem eL2 (dk0 dk1 dk2 dk3:CV) (hc:LpC n C gs gx ac ec i ak an 3) (f:Int) (f0:¬f=0) (f4:¬f=104) (w0:List.take 4 (List.drop (0+0) gs)=[dk0,dk1,dk2,dk3]) (b1:qC' 23 [.agg [dk0,dk1,dk2,dk3]] (.tup [.c (.agg gx),.c (iv f)]) [] 0) (b2:qC' 32 [.agg [dk0,dk1,dk2,dk3]] (.tup [.c (.agg gx),.c (iv f)]) [] 0) (K:AK) (hK:LpK n C (i+1) gs K):qW' 145 lpB K 2 (lpE n C i) (lpH gs) []:=by
 obtain ⟨hn,hlt,hll,gsl,gxl,hel,hee,hx,y0,y1,y2,hj,h1,hs⟩:=hc
 unfold lpB
 conv in oE _=>whnf
 repeat' (first|(refine aC ?_;intro K hK hX)|refine aM2 ?_|(refine aG hK hX ?_;clear hK hX K)|fail)
 refine hK _ _ _ _ ?_
 exact dF
end
end
section
attribute [local irreducible] Still Adds AWL AW Drw bX bY AC AWR cU Frz Go.Av.Src cQ Out InK ItK AsK RdK eP eI ACT ACA eW ACG fL
section
variable (n:Nat) (C gs gx ac ec:D1) (i:Nat) (ak an:Int) (dk0 dk1 dk2 dk3 c1' c2' c3' c4':CV) (hc:LpC n C gs gx ac ec i ak an 1) (f:Int)
include n C gs gx ac ec i ak an dk0 dk1 dk2 dk3 c1' c2' c3' c4' hc f
theorem eK4 (f0:f=0) (w0:List.take 4 (List.drop (0+0) gs)=[dk0,dk1,dk2,dk3]) (hlay:lay gs (0+0) [c1',c2',c3',c4']=gx) (b1:qC' 35 [.agg [dk0,dk1,dk2,dk3],iv an] (.tup [.c (.agg [c1',c2',c3',c4']),.c (iv f)]) [] 0) (b2:qC' 36 [.agg [dk0,dk1,dk2,dk3],iv an] (.tup [.c (.agg [c1',c2',c3',c4']),.c (iv f)]) [] 0) (K:AK) (hK:LpK n C (i+1) gx K):qW' 145 lpB K 2 (lpE n C i) (lpH gs) []:=by
 subst f0
 obtain ⟨hn,hlt,hll,gsl,gxl,hel,hee,hx,y0,y1,y2,hj,h1,hs⟩:=hc
 unfold lpB
 conv in oE _=>whnf
 repeat' (first|(refine aC ?_;intro K hK hX)|refine dW3 ?_|(refine aG hK hX ?_;clear hK hX K)|fail)
 refine hK _ _ _ _ ?_
 exact dF
theorem eK5 (f0:¬f=0) (f4:f=104) (w0:List.take 4 (List.drop (0+0) gs)=[dk0,dk1,dk2,dk3]) (hlay:lay gs (0+0) [c1',c2',c3',c4']=gx) (b1:qC' 35 [.agg [dk0,dk1,dk2,dk3],iv an] (.tup [.c (.agg [c1',c2',c3',c4']),.c (iv f)]) [] 0) (b2:qC' 36 [.agg [dk0,dk1,dk2,dk3],iv an] (.tup [.c (.agg [c1',c2',c3',c4']),.c (iv f)]) [] 0) (K:AK) (hK:LpK n C (i+1) gs K):qW' 145 lpB K 2 (lpE n C i) (lpH gs) []:=by
 subst f4
 obtain ⟨hn,hlt,hll,gsl,gxl,hel,hee,hx,y0,y1,y2,hj,h1,hs⟩:=hc
 unfold lpB
 conv in oE _=>whnf
 repeat' (first|(refine aC ?_;intro K hK hX)|refine dW3 ?_|(refine aG hK hX ?_;clear hK hX K)|fail)
 refine hK _ _ _ _ ?_
 exact dF
theorem eK6 (f0:¬f=0) (f4:¬f=104) (w0:List.take 4 (List.drop (0+0) gs)=[dk0,dk1,dk2,dk3]) (hlay:lay gs (0+0) [c1',c2',c3',c4']=gx) (b1:qC' 35 [.agg [dk0,dk1,dk2,dk3],iv an] (.tup [.c (.agg [c1',c2',c3',c4']),.c (iv f)]) [] 0) (b2:qC' 36 [.agg [dk0,dk1,dk2,dk3],iv an] (.tup [.c (.agg [c1',c2',c3',c4']),.c (iv f)]) [] 0) (K:AK) (hK:LpK n C (i+1) gs K):qW' 145 lpB K 2 (lpE n C i) (lpH gs) []:=by
 obtain ⟨hn,hlt,hll,gsl,gxl,hel,hee,hx,y0,y1,y2,hj,h1,hs⟩:=hc
 unfold lpB
 conv in oE _=>whnf
 repeat' (first|(refine aC ?_;intro K hK hX)|refine dW3 ?_|(refine aG hK hX ?_;clear hK hX K)|fail)
 refine hK _ _ _ _ ?_
 exact dF
end
end
end Go.Proofs.YtbgehdndimlgkaaGreat
