/- Lemmas for laws of the ledger. -/
import Derived.Test.YtbgehdndimlgkaaGreatS18
set_option linter.all false
set_option maxHeartbeats 16000000
namespace Go.Proofs.YtbgehdndimlgkaaGreat
open Go Go.RowKit Go.Av
set_option maxRecDepth 100000
section
def S5.get (s:S5):Nat->BitVec 64
 | 0=>s.a
 | 1=>s.b
 | 2=>s.c
 | 3=>s.d
 | _=>s.e
def S5.put (s:S5) (i:Nat) (x:BitVec 64):S5 :=
 match i with
 | 0=>{s with a:=x}
 | 1=>{s with b:=x}
 | 2=>{s with c:=x}
 | 3=>{s with d:=x}
 | _=>{s with e:=x}
theorem mM (s:S5) (i:Nat) (h:i<5):s.cs[0+i*1]? = some (wv (s.get i)):=by
 match i,h with
 | 0,_=>rfl
 | 1,_=>rfl
 | 2,_=>rfl
 | 3,_=>rfl
 | 4,_=>rfl
theorem cH8 (s:S5) (i:Nat) (h:i<5):0+i*1<s.cs.length:=by show 0+i*1<5;omega
theorem cH9 (s:S5) (i:Nat) (x:BitVec 64) (h:i<5):s.cs.set (0+i*1) (wv x)=(s.put i x).cs:=by
 match i,h with
 | 0,_=>rfl
 | 1,_=>rfl
 | 2,_=>rfl
 | 3,_=>rfl
 | 4,_=>rfl
def nx (i:Nat):Nat:=(i+1)%5
def lin (k:BitVec 64) (s:S5):S5:=⟨s.a ^^^ s.e,s.b,s.c ^^^ k ^^^ s.b,s.d,s.e ^^^ s.d⟩
def tk (s:S5):Nat->S5
 | 0=>⟨0,0,0,0,0⟩
 | i+1=>(tk s i).put i (~~~(s.get i) &&& s.get (nx i))
def uk (s t:S5):Nat->S5
 | 0=>s
 | i+1=>(uk s t i).put i ((uk s t i).get i ^^^ t.get (nx i))
def eS5 (s:S5):S5:=⟨s.a ^^^ s.e,s.b ^^^ s.a,~~~s.c,s.d ^^^ s.c,s.e⟩
def ra:Nat->Nat
 | 0=>19
 | 1=>61
 | 2=>1
 | 3=>10
 | _=>7
def rb:Nat->Nat
 | 0=>28
 | 1=>39
 | 2=>6
 | 3=>17
 | _=>41
theorem dT7 (i:Nat):0<ra i/\ra i<64:=by unfold ra;split<;>decide
theorem dT8 (i:Nat):0<rb i/\rb i<64:=by unfold rb;split<;>decide
theorem eB2 (i:Nat) (h:i<5):[iv 19,iv 61,iv 1,iv 10,iv 7][0+i*1]? = some (iv (ra i)):=by
 match i,h with
 | 0,_=>rfl
 | 1,_=>rfl
 | 2,_=>rfl
 | 3,_=>rfl
 | 4,_=>rfl
theorem eB3 (i:Nat) (h:i<5):[iv 28,iv 39,iv 6,iv 17,iv 41][0+i*1]? = some (iv (rb i)):=by
 match i,h with
 | 0,_=>rfl
 | 1,_=>rfl
 | 2,_=>rfl
 | 3,_=>rfl
 | 4,_=>rfl
def mk (s:S5):Nat->S5
 | 0=>s
 | i+1=>(mk s i).put i ((mk s i).get i ^^^ aY8 ((mk s i).get i) (ra i) ^^^ aY8 ((mk s i).get i) (rb i))
attribute [local irreducible] Still Adds AWL AW Drw AC AWR cU Frz Go.Av.Src cQ Out
abbrev ri:D1:=[iv 19,iv 61,iv 1,iv 10,iv 7]
abbrev rj:D1:=[iv 28,iv 39,iv 6,iv 17,iv 41]
theorem rN (s:S5):qC' 243 [.agg s.cs] (.c (.agg (pH s).cs)) [] 0:=by
 refine aD aB (sz:=121) Tryz.func243 rfl (by rw [Tryz.ntmps243];rfl) ?_
 repeat' (first|(refine aC ?_;intro K hK hX)|refine aH2 ?_|(refine aG hK hX ?_;clear hK hX K)|fail)
 refine cL 2 (fun r:Nat=>[(1,.ref 0 0),(2,.ref 1 0),(3,.c (iv r))]) (fun r=>[(0,.row 198 (wL r s).cs),(1,.row 198 z5)]) [] (fun r=>r<=12) (fun r=>12-r) 0 aA eH ?_
 intro r hr K hK hX
 by_cases hlt:r<12
 ·repeat' (first|(refine aC ?_;intro K hK hX)|refine aH2 ?_|(refine aG hK hX ?_;clear hK hX K)|fail)
  refine cL 3 (fun i:Nat=>[(1,.ref 0 0),(2,.ref 1 0),(3,.c (iv r)),(4,.ref 2 0),(5,.c (iv i))]) (fun i=>[(0,.row 198 (lin (rk r) (wL r s)).cs),(1,.row 198 z5),(2,.row 198 (tk (lin (rk r) (wL r s)) i).cs)]) [] (fun i=>i<=5) (fun i=>5-i) 0 aA eH ?_
  intro i hi K hK hX
  by_cases hlt:i<5
  ·repeat' (first|(refine aC ?_;intro K hK hX)|refine dK3 ?_|(refine aG hK hX ?_;clear hK hX K)|fail)
   exact ⟨i+1,by omega,by omega,cE9⟩
  ·obtain rfl:i=5:=by omega
   repeat' (first|(refine aC ?_;intro K hK hX)|refine aH2 ?_|(refine aG hK hX ?_;clear hK hX K)|fail)
   generalize hA0:lin (rk r) (wL r s)=A
   generalize hT:tk A 5=T
   refine cL 3 (fun i:Nat=>[(1,.ref 0 0),(2,.ref 1 0),(3,.c (iv r)),(4,.ref 2 0),(6,.c (iv i))]) (fun i=>[(0,.row 198 (uk A T i).cs),(1,.row 198 z5),(2,.row 198 T.cs)]) [] (fun i=>i<=5) (fun i=>5-i) 0 aA eH ?_
   intro i hi K hK hX
   by_cases hlt:i<5
   ·repeat' (first|(refine aC ?_;intro K hK hX)|refine dK3 ?_|(refine aG hK hX ?_;clear hK hX K)|fail)
    exact ⟨i+1,by omega,by omega,cE9⟩
   ·obtain rfl:i=5:=by omega
    repeat' (first|(refine aC ?_;intro K hK hX)|refine aH2 ?_|(refine aG hK hX ?_;clear hK hX K)|fail)
    generalize hA:uk A T 5=A2
    refine cL 5 (fun i:Nat=>[(1,.ref 0 0),(2,.ref 1 0),(3,.c (iv r)),(7,.ref 3 0),(8,.ref 4 0),(9,.c (iv i))]) (fun i=>[(0,.row 198 (mk (eS5 A2) i).cs),(1,.row 198 z5),(3,.row 258 ri),(4,.row 258 rj)]) [] (fun i=>i<=5) (fun i=>5-i) 0 aA eH ?_
    intro i hi K hK hX
    by_cases hlt:i<5
    ·repeat' (first|(refine aC ?_;intro K hK hX)|refine bE (List.range 10) ?_|(refine bZ ?_;first|refine c0 (aK8 _ (ra i) (dT7 i).1 (dT7 i).2) ?_|refine c0 (aK8 _ (rb i) (dT8 i).1 (dT8 i).2) ?_)|((first|((with_reducible refine bP ?_);refine xA ?_)|((with_reducible refine cZ ?_);refine xD ?_));(first|((with_reducible refine gO ?_);(first|refine aL (jB aB rfl rfl rfl rfl aT9) ?_|refine aL (gS aB rfl rfl rfl rfl aT9) ?_|refine aL (gR aB rfl rfl rfl aT9) ?_))|((with_reducible refine e_ix ?_);(first|refine aL (s_ixV1 aB rfl rfl zcj rfl rfl rfl rfl rfl zle aT9) ?_|refine aL (s_ixStr aB rfl rfl zcj rfl rfl aT9) ?_))))|((with_reducible refine fS ?_);(refine eQ aB aE rfl rfl rfl rfl rfl rfl (by first|exact cH8 _ _ aA|exact A7 rfl|omega|(simp<;>omega)) ?_))|refine stA ?_|refine stD ?_|(refine aG hK hX ?_;clear hK hX K)|fail)
     exact ⟨i+1,by omega,by omega,cE9⟩
    ·obtain rfl:i=5:=by omega
     repeat' (first|(refine aC ?_;intro K hK hX)|refine aH2 ?_|(refine aG hK hX ?_;clear hK hX K)|fail)
     subst hA hT hA0
     exact ⟨r+1,by omega,by omega,(by refine dW rfl ?_ ?_ rfl<;>(repeat' (first|exact cO|exact cP|refine cG rfl (by first|rfl|(rw [rnd_eq];rfl)|exact zeq) rfl ?_|refine bD rfl (by first|rfl|(rw [rnd_eq];rfl)|exact zeq) rfl ?_)))⟩
 ·repeat' (first|(refine aC ?_;intro K hK hX)|refine aH2 ?_|(refine aG hK hX ?_;clear hK hX K)|fail)
  obtain rfl:r=12:=by omega
  exact mL
end
section
attribute [local irreducible] Still Adds AWL AW Drw AC AWR cU Frz Go.Av.Src cQ Out InK
attribute [local simp] bS bR
theorem cP1 (l:Dm) (k:Nat):u8c (l++1::List.replicate k 0)++[.v (.int .u8 0)]=u8c (l++1::List.replicate (k+1) 0):=by
 have:[CV.v (.int .u8 0)]=u8c [0]:=rfl
 rw [this,<- bI,Ao,AF,List.replicate_succ']
theorem bS1 (p:Dm) (m j:Nat):List.take (m*1) (List.drop (0+8*j*1) (u8c p))=u8c (List.take m (List.drop (8*j) p)):=by
 rw [Aq,A8,A8,bR,bS]
theorem bG6 (dom:BitVec 64) (l:Dm) (n:Nat) (hl:l.length=n) (hm:n<=1000000000):qC' 218 [wv dom,.sl 1 n (u8c l)] (.c (.agg (oQ dom l).cs)) [] 0:=by
 have hul:(u8c l).length=n:=by rw [aH,hl]
 refine aD aB (sz:=42) Tryz.func218 rfl (by rw [Tryz.ntmps218];rfl) ?_
 repeat' (first|(refine aC ?_;intro K hK hX)|refine aH3 ?_|(refine aG hK hX ?_;clear hK hX K)|fail)
 refine cL 2 (fun k:Nat=>[(0,.c (wv dom)),(4,.ref 0 0),(5,.own 1 0 (n+1+k) 1 true)]) (fun k=>[(0,.row 198 z5),(1,.row 5 (u8c (l++1::List.replicate k 0)))]) [] (fun k=>k<=7-n%8) (fun k=>7-k) 0 aA (by refine fW [0,4] rfl rfl ?_ ?_ rfl rfl<;>(repeat' (first|exact dT|exact dD|refine dJ rfl dQ5 rfl ?_|refine cB rfl dQ5 rfl ?_))) ?_
 intro k hk K hK hX
 have hlen:(u8c (l++1::List.replicate k 0)).length=n+1+k:=by rw [aH,Aa,Au,CE];omega
 by_cases hlt:(n+1+k)%8≠0
 ·repeat' (first|(refine aC ?_;intro K hK hX)|refine aH3 ?_|(refine aG hK hX ?_;clear hK hX K)|fail)
  exact ⟨k+1,by omega,by omega,(by refine fW [0,3] rfl rfl ?_ ?_ rfl rfl<;>(repeat' (first|exact dT|exact dD|refine dJ rfl dQ6 rfl ?_|refine cB rfl dQ6 rfl ?_)))⟩
 ·obtain rfl:k=7-n%8:=by omega
  repeat' (first|(refine aC ?_;intro K hK hX)|refine bE [0,1,4,5,6,7] ?_|(refine bZ ?_;refine c0 (rN ⟨dom,1#64,2#64,3#64,4#64⟩) ?_)|refine stA ?_|refine stD ?_|(refine aG hK hX ?_;clear hK hX K)|fail)
  have hL:n+1+(7-n%8)=8*(n / 8+1):=by omega
  have hp:l++1::List.replicate (7-n%8) 0=oI l:=by rw [oI,hl]
  rw [hL,hp] at hlen
  rw [hL,hp]
  refine cL 3 (fun j:Nat=>[(4,.ref 0 0),(5,.own 1 0 (8*(n / 8+1)) 1 true),(6,.ref 2 0),(7,.c (iv ((8*j:Nat):Int)))]) (fun j=>[(0,.row 198 z5),(1,.row 5 (u8c (oI l))),(2,.row 198 (xY (aF4 dom) (oI l) j).cs)]) [] (fun j=>j<=n / 8+1) (fun j=>n / 8+1-j) 0 aA eH ?_
  intro j hj K hK hX
  by_cases hlt:j<n / 8+1
  ·have hpl:(oI l).length=8*(n / 8+1):=by rw [xS,hl]
   have hw:(((oI l).drop (8*j)).take 8).length=8:=by rw [As,A0,xS,hl];omega
   have h8:8*j+8-8*j=8:=by omega
   have hwl:(List.take ((8*j+8-8*j)*1) (List.drop (0+8*j*1) (u8c (oI l)))).length=(8*j+8-8*j)*1:=by rw [h8,bS1,aH,hw]
   have hwe:List.take ((8*j+8-8*j)*1) (List.drop (0+8*j*1) (u8c (oI l)))=u8c (((oI l).drop (8*j)).take 8):=by rw [h8,bS1]
   repeat' (first|(refine aC ?_;intro K hK hX)|refine bE [0,1,4,5,6,7] ?_|((first|with_reducible refine aF ?_|with_reducible refine gG ?_);(first|refine wA ?_|refine wN ?_|refine wD ?_);(first|refine cF (cS5 (((oI l).drop (8*j)).take 8) hw) ?_ (hfz:=aX (fZ (kT rfl rfl rfl hwl) (jG h8 hwe)) cS)))|(refine bZ ?_;refine c0 (rN (cW4 (xY (aF4 dom) (oI l) j) (wdN (((oI l).drop (8*j)).take 8) 8))) ?_)|refine stA ?_|refine stD ?_|(refine aG hK hX ?_;clear hK hX K)|fail)
   exact ⟨j+1,by omega,by omega,eH⟩
  ·obtain rfl:j=n / 8+1:=by omega
   repeat' (first|(refine aC ?_;intro K hK hX)|refine aH3 ?_|(refine aG hK hX ?_;clear hK hX K)|fail)
   have:=aS4 dom l
   rw [hl] at this
   rw [<- this]
   exact mL
theorem cY8 (S:S5) (k i:Nat) (h:i<8):UInt8.ofBitVec (((sW k S).a >>> (8*i)).setWidth 8)=uZ S (8*k+i):=by
 unfold uZ
 rw [show (8*k+i) / 8=k by omega,show (8*k+i)%8=i by omega]
theorem cO2 (S:S5) (k i:Nat) (h:i<8):u8c (lJ S (8*k+i))++[.v (.int .u8 ((UInt8.ofBitVec (((sW k S).a >>> (8*i)).setWidth 8)).toNat:Int))]=u8c (lJ S (8*k+(i+1))):=by
 rw [cY8 S k i h,<- BO,aJ9,bI]
 rfl
theorem aZ3 (S:S5) (n:Nat) (hm:n<=1000000000):qC' 217 [.agg S.cs,iv n] (.c (.sl 1 n (u8c (lJ S n)))) [] 0:=by
 refine aD aB (sz:=30) Tryz.func217 rfl (by rw [Tryz.ntmps217];rfl) ?_
 repeat' (first|(refine aC ?_;intro K hK hX)|refine aK [0,1,2,4,5,6] ?_|refine stA ?_|(refine aG hK hX ?_;clear hK hX K)|fail)
 refine cL 2 (fun k:Nat=>[(1,.c (iv n)),(2,.ref 0 0),(5,.own 1 0 (8*k) 1 true)]) (fun k=>[(0,.row 198 (sW k S).cs),(1,.row 5 (u8c (lJ S (8*k))))]) [] (fun k=>8*k<n+8) (fun k=>n+8-8*k) 0 aA eH ?_
 intro k hk K hK hX
 by_cases hlt:8*k<n
 ·repeat' (first|(refine aC ?_;intro K hK hX)|refine aK [0,1,2,4,5,6] ?_|refine stA ?_|(refine aG hK hX ?_;clear hK hX K)|fail)
  refine cL 2 (fun i:Nat=>[(1,.c (iv n)),(2,.ref 0 0),(5,.own 1 0 (8*k+i) 1 true),(6,.c (iv i))]) (fun i=>[(0,.row 198 (sW k S).cs),(1,.row 5 (u8c (lJ S (8*k+i))))]) [] (fun i=>i<=8) (fun i=>8-i) 0 aA eH ?_
  intro i hi K hK hX
  have hlen:(u8c (lJ S (8*k+i))).length=8*k+i:=by rw [aH,gU]
  by_cases hlt:i<8
  ·repeat' (first|(refine aC ?_;intro K hK hX)|refine aK [0,1,2,4,5,6] ?_|(((with_reducible refine bP ?_);refine xA ?_);(first|((with_reducible refine bU ?_);(first|refine aL (tJ rfl nD rfl (show 8*(i:Int)=((8*i:Nat):Int) by omega)) ?_))))|refine stA ?_|(refine aG hK hX ?_;clear hK hX K)|fail)
   exact ⟨i+1,by omega,by omega,(by refine fW [0,3] rfl rfl ?_ ?_ rfl rfl<;>(repeat' (first|exact dT|exact dD|refine dJ rfl dQ3 rfl ?_|refine cB rfl dQ3 rfl ?_)))⟩
  ·obtain rfl:i=8:=by omega
   repeat' (first|(refine aC ?_;intro K hK hX)|refine aK [0,1,2,4,5,6] ?_|(refine dK ?_;refine c0 (rN (sW k S)) ?_)|refine stA ?_|(refine aG hK hX ?_;clear hK hX K)|fail)
   exact ⟨k+1,by omega,by omega,(by refine dW rfl ?_ ?_ rfl<;>(repeat' (first|exact cO|exact cP|refine cG rfl dQ7 rfl ?_|refine bD rfl dQ7 rfl ?_)))⟩
 ·have hlen:(lJ S (8*k)).length=8*k:=gU _ _
  repeat' (first|(refine aC ?_;intro K hK hX)|refine aK [0,1,2,4,5,6] ?_|refine stA ?_|(refine aG hK hX ?_;clear hK hX K)|fail)
  have hf:u8c (lJ S n)=u8c (((lJ S (8*k)).drop 0).take n):=by rw [AY,bW7 _ _ _ aA]
  rw [hf]
  refine cV zio ztr rfl (ResL.one (ResA.tmp rfl)) (by exact aK0 (bF4 rfl rfl aA aA aA))
end
section
attribute [local irreducible] Still Adds AWL AW Drw AC AWR cU Frz Go.Av.Src cQ Out InK
attribute [local simp] bS bR bI
theorem eA6 (S:S5) (n i:Nat) (h:i<n):(u8c (lJ S n))[i*1]? = some (.v (.int .u8 ((uZ S i).toNat:Int))):=by
 rw [A8]
 refine bR8 ?_
 simp [lJ,h]
theorem dI0 (dom:BitVec 64) (l:Dm) (n:Nat) (hl:l.length=n) (hm:n<=1000000000):qC' 164 [wv dom,.sl 1 n (u8c l)] (.c (.agg (u8c (sum dom l)))) [] 0:=by
 refine aD aB (sz:=23) Tryz.func164 rfl (by rw [Tryz.ntmps164];rfl) ?_
 repeat' (first|(refine aC ?_;intro K hK hX)|refine aK [0,1,4,5,6,7] ?_|(refine dK ?_;first|refine c0 (bG6 dom l n hl hm) ?_|refine c0 (aZ3 (oQ dom l) 32 aN) ?_)|refine stA ?_|(refine aG hK hX ?_;clear hK hX K)|fail)
 generalize hS:oQ dom l=S
 refine cL 2 (fun i:Nat=>[(4,.ref 0 0),(5,.ref 1 0),(6,.c (.sl 1 32 (u8c (lJ S 32)))),(7,.c (iv i))]) (fun i=>[(0,.row 28 z32),(1,.row 28 (u8c (fil S 32 i)))]) [] (fun i=>i<=32) (fun i=>32-i) 0 aA eH ?_
 intro i hi K hK hX
 have hlen:(u8c (fil S 32 i)).length=32:=by rw [aH,aB5 _ _ _ aA]
 by_cases hlt:i<32
 ·repeat' (first|(refine aC ?_;intro K hK hX)|refine aK [0,1,4,5,6,7] ?_|(((with_reducible refine bP ?_);refine xA ?_);(first|((with_reducible refine gO ?_);(first|refine aL (jB aB rfl rfl rfl rfl zW) ?_|refine aL (gS aB rfl rfl rfl rfl zW) ?_|refine aL (gR aB rfl rfl rfl zW) ?_))|((with_reducible refine e_ix ?_);(first|refine aL (s_ixV1 aB rfl rfl zcj rfl rfl rfl rfl rfl zle zW) ?_|refine aL (s_ixStr aB rfl rfl zcj rfl rfl zW) ?_))))|((with_reducible refine fS ?_);(refine eQ aB aE rfl rfl rfl rfl rfl rfl aU0 ?_))|refine stA ?_|(refine aG hK hX ?_;clear hK hX K)|fail)
  exact ⟨i+1,by omega,by omega,(by refine dW rfl ?_ ?_ rfl<;>(repeat' (first|exact cO|exact cP|refine cG rfl dQ1 rfl ?_|refine bD rfl dQ1 rfl ?_)))⟩
 ·obtain rfl:i=32:=by omega
  repeat' (first|(refine aC ?_;intro K hK hX)|refine aK [0,1,4,5,6,7] ?_|refine stA ?_|(refine aG hK hX ?_;clear hK hX K)|fail)
  rw [aW2]
  subst hS
  have hlen:(u8c (lJ (oQ dom l) 32)).length=32:=by rw [aH,gU]
  exact mL
theorem cA0 (l:Dm) (i:Nat) (h:i<l.length):u8c (l.take i)++[.v (.int .u8 ((l.getD i 0).toNat:Int))]=u8c (l.take (i+1)):=by
 rw [B8,bI,Ab h]
 simp [u8c,List.getD,Ab h]
theorem zJ (l:Dm) (hl:l.length=32):qC' 127 [.agg (u8c l)] (.own 0 0 32 1 true) [(0,.row 5 (u8c l))] 1:=by
 refine aD aB (sz:=17) Tryz.func127 rfl (by rw [Tryz.ntmps127];rfl) ?_
 repeat' (first|(refine aC ?_;intro K hK hX)|refine aK [0,1,2,3,4] ?_|refine stA ?_|(refine aG hK hX ?_;clear hK hX K)|fail)
 refine cL 2 (fun i:Nat=>[(1,.ref 0 0),(3,.own 1 0 i 1 true),(4,.c (iv i))]) (fun i=>[(0,.row 28 (u8c l)),(1,.row 5 (u8c (l.take i)))]) [] (fun i=>i<=32) (fun i=>32-i) 0 aA eH ?_
 intro i hi K hK hX
 have hlen:(u8c (l.take i)).length=i:=by rw [aH,As];omega
 by_cases hlt:i<32
 ·repeat' (first|(refine aC ?_;intro K hK hX)|refine aK [0,1,2,3,4] ?_|(((with_reducible refine bP ?_);refine xA ?_);(first|((with_reducible refine gO ?_);(first|refine aL (jB aB rfl rfl rfl rfl aU3) ?_|refine aL (gS aB rfl rfl rfl rfl aU3) ?_|refine aL (gR aB rfl rfl rfl aU3) ?_))|((with_reducible refine e_ix ?_);(first|refine aL (s_ixV1 aB rfl rfl zcj rfl rfl rfl rfl rfl zle aU3) ?_|refine aL (s_ixStr aB rfl rfl zcj rfl rfl aU3) ?_))))|refine stA ?_|(refine aG hK hX ?_;clear hK hX K)|fail)
  exact ⟨i+1,by omega,by omega,(by refine fW [0,3] rfl rfl ?_ ?_ rfl rfl<;>(repeat' (first|exact dT|exact dD|refine dJ rfl dP7 rfl ?_|refine cB rfl dP7 rfl ?_)))⟩
 ·obtain rfl:i=32:=by omega
  repeat' (first|(refine aC ?_;intro K hK hX)|refine aK [0,1,2,3,4] ?_|refine stA ?_|(refine aG hK hX ?_;clear hK hX K)|fail)
  rw [Ad aA]
  exact aY
theorem aK7 (dom:BitVec 64) (k l:Dm) (n:Nat) (hk:k.length=32) (hl:l.length=n) (hm:n<=100000000):qC' 125 [wv dom,.agg (u8c k),.sl 1 n (u8c l)] (.c (.agg (u8c (sum dom (k++l))))) [] 0:=by
 have hua:(u8c k).length=32:=by rw [aH,hk]
 have hub:(u8c l).length=n:=by rw [aH,hl]
 have hus:(u8c (sum dom (k++l))).length=32:=by rw [aH,tK]
 refine aD aB (sz:=13) Tryz.func125 rfl (by rw [Tryz.ntmps125];rfl) ?_
 repeat' (first|(refine aC ?_;intro K hK hX)|refine aK [0,1,2,4,6] ?_|((with_reducible refine aF ?_);(first|refine wA ?_|refine wN ?_);(first|refine cF (dI0 dom (k++l) (32+n) fU aA) ?_))|(refine dK ?_;refine c1 (zJ k hk) ?_)|refine stA ?_|(refine aG hK hX ?_;clear hK hX K)|fail)
 exact mL
end
section
def hx (n:Nat):UInt8:=[48,49,50,51,52,53,54,55,56,57,97,98,99,100,101,102].getD n 0
def fmt (l:Dm):Dm:=l.flatMap fun b=>[hx (b.toNat / 16),hx (b.toNat%16)]
def dg (c:UInt8):Dz:=if 48<=c.toNat/\c.toNat<=57 then some (c.toNat-48) else if 97<=c.toNat/\c.toNat<=102 then some (c.toNat-87) else none
def sb (s:ByteArray) (i:Nat):UInt8:=s.data.getD i 0
def eJ0 (s:ByteArray):Prop:=s.size=64/\∀i,i<64->(dg (sb s i)).isSome=true
def dv (s:ByteArray) (i:Nat):Nat:=(dg (sb s i)).getD 0
def pb (s:ByteArray) (i:Nat):UInt8:=UInt8.ofNat (dv s (2*i)*16+dv s (2*i+1))
open Classical in
noncomputable def pval (s:ByteArray):Dm:=if eJ0 s then (List.range 32).map (pb s) else List.replicate 32 0
open Classical in
noncomputable def perr (s:ByteArray):Int:=if eJ0 s then 0 else 2
def flg (f:Nat->UInt8) (n i:Nat):Dm:=(List.range i).map f++List.replicate (n-i) 0
section
variable {P:Dv} {ev:Evl} {h:aO} {d:Dt} {T ty T':Du} {x y:Operand} {pos:String} {aft:Ds} {gd:Dn}
end
attribute [local irreducible] Still Adds AWL AW Drw AC AWR cU Frz Go.Av.Src cQ Out InK
end
section
attribute [local irreducible] Still Adds AWL AW Drw AC AWR cU Frz Go.Av.Src cQ Out InK
end
section
theorem yS (l:Dm):u8c l=dE .u8 (l.map fun b=>(b.toNat:Int)):=by simp [u8c,dE]
theorem cV3 (l l':Dm):(l.map fun b=>(b.toNat:Int))=(l'.map fun b=>(b.toNat:Int))↔l=l':=by
 constructor
 ·intro h
  exact (List.map_inj_right (fun a b hab=>by
   have:a.toNat=b.toNat:=by omega
   exact UInt8.toNat.inj this)).1 h
 ·rintro rfl;rfl
section
variable {P:Dv} {tab:Tab} {ev:Evl} {h:aO} {d:Dt} {T ty T' E n:Nat} {x y:Operand} {pos:String} {aft:Ds} {gd:Dn} {e e':TyE} {l l':Dm} {cs cs':D1} {b:Bool} (tb:bQ P tab) (hg:P.eqGuardType P.depth T=false) (hT:aS tab T=some e) (hk:e.kind = .array n E) (hE:aS tab E=some e') (hke:e'.kind = .int .u8) (hs:Nat.beq e'.size 1=true) (hx:ev x=some (.c (.agg cs))) (hy:ev y=some (.c (.agg cs'))) (hcx:cs=u8c l) (hcy:cs'=u8c l') (hlx:l.length=n) (hly:l'.length=n)
include tb hg hT hk hE hke hs hx hy hcx hcy hlx hly
theorem cT1 (hb:decide (l=l')=b):Still P ⟨d,.binOp .eql T x y T',ty,pos,aft,gd⟩ ev h (.c (.v (.bool b))) :=
 eC4 tb hg hT hk hE hke hs hx hy (hcx.trans (yS l)) (hcy.trans (yS l')) (by rw [Bm];exact hlx) (by rw [Bm];exact hly) (by rw [<- hb];exact decide_eq_decide.2 (cV3 l l'))
theorem aR3 (hb:(!decide (l=l'))=b):Still P ⟨d,.binOp .neq T x y T',ty,pos,aft,gd⟩ ev h (.c (.v (.bool b))) :=
 eC9 tb hg hT hk hE hke hs hx hy (hcx.trans (yS l)) (hcy.trans (yS l')) (by rw [Bm];exact hlx) (by rw [Bm];exact hly) (by rw [<- hb];exact congrArg (!·) (decide_eq_decide.2 (cV3 l l')))
end
attribute [local irreducible] Still Adds AWL AW Drw AC AWR cU Frz Go.Av.Src cQ Out InK
end
end Go.Proofs.YtbgehdndimlgkaaGreat
namespace Go.Av
open Go Go.RowKit
inductive ResF (tab:Tab) (env:Env) (h:aO):List ResultVar->AV->Prop
 | mk {r1 r2 r3 r4:ResultVar} {v1 v2 v3 v4:AV} (h1:ResA tab env h r1 v1) (h2:ResA tab env h r2 v2) (h3:ResA tab env h r3 v3) (h4:ResA tab env h r4 v4):ResF tab env h [r1,r2,r3,r4] (.tup [v1,v2,v3,v4])
theorem ResF.run {P : Dv} {tab : Tab} {env : Env} {h : aO} {n : Nat} (tb : bQ P tab) {fn : Func} {v : AV} (hr : ResF tab env h fn.results.toList v) {B : Bs} {M : Nat -> Dz} {w : World} {tmps : D0} (hc : ConcH B (lt n) M (lk h) w) (he : ∀ t av, lkE env t = some av -> Rep (cx B n M h w) av (tmps.getD t undef)) :
    ∃ u, Rep (cx B n M h w) v u /\ (results fn tmps).run P w = .ok u w := by
  have one : ∀ {rv : ResultVar} {v : AV}, ResA tab env h rv v -> ∃ u, Rep (cx B n M h w) v u /\ Rd P tmps w rv u := by
    intro rv v hA
    obtain ⟨u, h1, h2⟩ := hA.run tb hc he
    refine ⟨u, h1, ?_⟩
    cases rv with
    | tmp t => simpa [Rd] using h2
    | cell p T => obtain ⟨q, hq, hl⟩ := h2; exact ⟨q, by simpa using hq, hl⟩
  generalize hl : fn.results.toList = l at hr
  have hf : fn.results = l.toArray := by rw [<- hl]
  cases hr with
  | mk h1 h2 h3 h4 =>
    obtain ⟨u1, k1, k2⟩ := one h1
    obtain ⟨u2, l1, l2⟩ := one h2
    obtain ⟨u3, m1, m2⟩ := one h3
    obtain ⟨u4, n1, n2⟩ := one h4
    refine ⟨.tuple #[u1, u2, u3, u4], ⟨[u1, u2, u3, u4], rfl, u1, [u2, u3, u4], rfl, k1, u2, [u3, u4], rfl, l1, u3, [u4], rfl, m1, u4, [], rfl, n1, rfl⟩, ?_⟩
    rename_i r1 r2 r3 r4 v1 v2 v3 v4
    cases r1 <;> cases r2 <;> cases r3 <;> cases r4 <;> simp only [Rd] at k2 l2 m2 n2 <;> (try obtain ⟨q, hq, hl1⟩ := k2) <;> (try obtain ⟨q2, hq2, hl2⟩ := l2) <;> (try obtain ⟨q3, hq3, hl3⟩ := m2) <;> (try obtain ⟨q4, hq4, hl4⟩ := n2) <;> simp [results, hf, asAddr, *]
def aS3 (P:Dv) (tab:Tab) (rs:List ResultVar) (r:AV) (hr:aO) (nr:Nat):AK :=
 fun e n env h dfs=>(e = .normal\/e = .ret)/\iJ P h dfs/\∃v,ResF tab env (gK h dfs) rs v/\Out n (gK h dfs) v r hr nr
theorem bQ6 {P:Dv} {tab:Tab} {rs:List ResultVar} {r v:AV} {hr h h':aO} {nr n:Nat} {e:Exit} {env:Env} {dfs:cD} (he:e = .normal\/e = .ret) (hd:iJ P h dfs) (hh:gK h dfs=h') (hv:ResF tab env h' rs v) (ho:Out n h' v r hr nr):aS3 P tab rs r hr nr e n env h dfs:=⟨he,hd,v,hh▸hv,hh▸ho⟩
theorem fA {P : Dv} {tab : Tab} (tb : bQ P tab) {f : FuncId} {fn : Func} {c : Code} {args : D1} {r : AV} {hr : aO} {nr sz : Nat} (hf : P.funcs[f]? = some fn) (hb : fn.body = some c) (hsz : max fn.ntmps args.length = sz)
    (hx : AW P sz c (aS3 P tab fn.results.toList r hr nr) 0 (aW1 0 args) [] []) : AC P f args r hr nr := by
  intro ok w vs hvs
  have hlen := hvs.length
  refine gW hf hb (wp_mono (kR (hx ⟨w, [], ok, []⟩ _ w ⟨fun _ => none, mF (FrB.refl _ _), ?_, ?_, ?_⟩)) ?_)
  · simp; omega
  · intro t av ht
    obtain ⟨c', h1, h2, rfl⟩ := vX ht
    rw [BB] at h2
    obtain ⟨u, hu, hru⟩ := hvs.get h2
    have : (vs.toArray ++ Array.replicate (fn.ntmps - vs.toArray.size) undef).getD t undef = u := by
      have hlt := (Ag.1 hu).1
      have h9 := (Ag.1 hu).2
      simp [Array.getElem?_append, hlt, h9]
    rw [this]
    simp only [Rep]
    exact eG2
  · rfl
  · intro e a w' hq
    obtain ⟨n, env, h, dfs, ⟨h1, h2, v, h3, h4⟩, M, c1, c2, c3, c4⟩ := hq
    have : iX P fn a.tmps (fun e w' => ∃ v M, e = .returned v /\ ConcH ⟨w, [], ok, []⟩ (lt nr) M (lk hr) w' /\ Rep (cx ⟨w, [], ok, []⟩ nr M hr w') r v) a.defers w' := by
      refine fR h2 c1 c4 fun w2 d1 d2 => ?_
      obtain ⟨u, k1, k2⟩ := h3.run tb d1 (fun t av ht => Rep.ext d2 _ _ (c3 t av ht))
      obtain ⟨M', k3, k4⟩ := h4 w ok M w2 u d1 k1
      exact ⟨u, k2, u, M', rfl, k3, k4⟩
    rcases h1 with rfl | rfl <;> exact this
section
variable {P:Dv} {tab:Tab} {ev:Evl} {h:aO} {d:Dt} {T ty:Du} {x:Operand} {pos:String} {aft:Ds} {gd:Dn}
theorem dU7 (tb:bQ P tab) {e:TyE} (hT:aS tab T=some e) {N E n size:Nat} {cs:D1} (hk:e.kind = .array N E) (hx:ev x=some (.c (.sl size n cs))) (hn:N<=n) (h0:0<n):Still P ⟨d,.sliceToArrayPointer T x,ty,pos,aft,gd⟩ ev h (.ip cs 0):=by
 intro B dom M H w a hh hc he
 have h1:=he x _ hx
 simp only [Rep,RepC] at h1
 obtain ⟨A,c,us,h3,h4,h5,h6,h7,h70,h8⟩:=h1
 obtain ⟨b,o,rfl,hb,hl,hcell⟩:=h8 h0
 refine ⟨.pointer (some ⟨b,o,none⟩),?_,b,o,us,by rw [Ck],hb,hl,h7,h70,hcell⟩
 simp [execOp,Instr.arrayAt,h3,Sem.run_bind,run_underlying ((aM tb hT).array hk),Nat.not_lt.2 hn]
end
end Go.Av
