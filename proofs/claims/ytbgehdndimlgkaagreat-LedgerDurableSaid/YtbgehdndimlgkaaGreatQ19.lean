/-
  Lemmas for laws of the ledger; no statement of a law.
-/
import Derived.Test.YtbgehdndimlgkaaGreatQ18
set_option maxHeartbeats 16000000
set_option linter.unusedSimpArgs false
set_option linter.unusedVariables false
namespace Go.Proofs.YtbgehdndimlgkaaGreat
open Go Go.RowKit Go.Av
set_option maxRecDepth 100000
def S5.get (s:S5):Nat→BitVec 64
 | 0=>s.a
 | 1=>s.b
 | 2=>s.c
 | 3=>s.d
 | _=>s.e
def S5.put (s:S5) (i:Nat) (x:BitVec 64):S5 :=
 match i with
 | 0=>{s with a:=x}
 | 1=>{s with b:=x}
 | 2=>{s with c:=x}
 | 3=>{s with d:=x}
 | _=>{s with e:=x}
theorem lV (s:S5) (i:Nat) (h:i<5):s.cs[0+i*1]? = some (wv (s.get i)):=by
 match i,h with
 | 0,_=>rfl
 | 1,_=>rfl
 | 2,_=>rfl
 | 3,_=>rfl
 | 4,_=>rfl
theorem cA9 (s:S5) (i:Nat) (h:i<5):0+i*1<s.cs.length:=by show 0+i*1<5;omega
theorem cB0 (s:S5) (i:Nat) (x:BitVec 64) (h:i<5):s.cs.set (0+i*1) (wv x)=(s.put i x).cs:=by
 match i,h with
 | 0,_=>rfl
 | 1,_=>rfl
 | 2,_=>rfl
 | 3,_=>rfl
 | 4,_=>rfl
def nx (i:Nat):Nat:=(i+1)%5
def lin (k:BitVec 64) (s:S5):S5:=⟨s.a ^^^ s.e,s.b,s.c ^^^ k ^^^ s.b,s.d,s.e ^^^ s.d⟩
def tk (s:S5):Nat→S5
 | 0=>⟨0,0,0,0,0⟩
 | i+1=>(tk s i).put i (~~~(s.get i) &&& s.get (nx i))
def uk (s t:S5):Nat→S5
 | 0=>s
 | i+1=>(uk s t i).put i ((uk s t i).get i ^^^ t.get (nx i))
def eH3 (s:S5):S5:=⟨s.a ^^^ s.e,s.b ^^^ s.a,~~~s.c,s.d ^^^ s.c,s.e⟩
def ra:Nat→Nat
 | 0=>19
 | 1=>61
 | 2=>1
 | 3=>10
 | _=>7
def rb:Nat→Nat
 | 0=>28
 | 1=>39
 | 2=>6
 | 3=>17
 | _=>41
theorem dM0 (i:Nat):0<ra i∧ra i<64:=by unfold ra;split<;>decide
theorem dM1 (i:Nat):0<rb i∧rb i<64:=by unfold rb;split<;>decide
theorem dT2 (i:Nat) (h:i<5):[iv 19,iv 61,iv 1,iv 10,iv 7][0+i*1]? = some (iv (ra i)):=by
 match i,h with
 | 0,_=>rfl
 | 1,_=>rfl
 | 2,_=>rfl
 | 3,_=>rfl
 | 4,_=>rfl
theorem dT3 (i:Nat) (h:i<5):[iv 28,iv 39,iv 6,iv 17,iv 41][0+i*1]? = some (iv (rb i)):=by
 match i,h with
 | 0,_=>rfl
 | 1,_=>rfl
 | 2,_=>rfl
 | 3,_=>rfl
 | 4,_=>rfl
def mk (s:S5):Nat→S5
 | 0=>s
 | i+1=>(mk s i).put i ((mk s i).get i ^^^ aS0 ((mk s i).get i) (ra i) ^^^ aS0 ((mk s i).get i) (rb i))
attribute [local irreducible] Still Adds AWL AW Drw AC AWR cL Frz Go.Av.Src dC Out
abbrev ri:List CV:=[iv 19,iv 61,iv 1,iv 10,iv 7]
abbrev rj:List CV:=[iv 28,iv 39,iv 6,iv 17,iv 41]
theorem qH (s:S5):AC Tryz.prog 243 [.agg s.cs] (.c (.agg (oD s).cs)) [] 0:=by
 refine aF aB (sz:=121) Tryz.func243 rfl (by rw [Tryz.ntmps243];rfl) ?_
 repeat' (first|(refine aC ?_;intro K hK hX)|refine aC1 ?_|(refine aH hK hX ?_;clear hK hX K)|fail)
 refine cD 2 (fun r:Nat=>[(1,.ref 0 0),(2,.ref 1 0),(3,.c (iv r))]) (fun r=>[(0,.row 198 (uX r s).cs),(1,.row 198 z5)]) [] (fun r=>r≤12) (fun r=>12-r) 0 aA dU ?_
 intro r hr K hK hX
 by_cases hlt:r<12
 ·repeat' (first|(refine aC ?_;intro K hK hX)|refine aC1 ?_|(refine aH hK hX ?_;clear hK hX K)|fail)
  refine cD 3 (fun i:Nat=>[(1,.ref 0 0),(2,.ref 1 0),(3,.c (iv r)),(4,.ref 2 0),(5,.c (iv i))]) (fun i=>[(0,.row 198 (lin (rk r) (uX r s)).cs),(1,.row 198 z5),(2,.row 198 (tk (lin (rk r) (uX r s)) i).cs)]) [] (fun i=>i≤5) (fun i=>5-i) 0 aA dU ?_
  intro i hi K hK hX
  by_cases hlt:i<5
  ·repeat' (first|(refine aC ?_;intro K hK hX)|refine dD3 ?_|(refine aH hK hX ?_;clear hK hX K)|fail)
   exact ⟨i+1,by omega,by omega,bY3⟩
  ·obtain rfl:i=5:=by omega
   repeat' (first|(refine aC ?_;intro K hK hX)|refine aC1 ?_|(refine aH hK hX ?_;clear hK hX K)|fail)
   generalize hA0:lin (rk r) (uX r s)=A
   generalize hT:tk A 5=T
   refine cD 3 (fun i:Nat=>[(1,.ref 0 0),(2,.ref 1 0),(3,.c (iv r)),(4,.ref 2 0),(6,.c (iv i))]) (fun i=>[(0,.row 198 (uk A T i).cs),(1,.row 198 z5),(2,.row 198 T.cs)]) [] (fun i=>i≤5) (fun i=>5-i) 0 aA dU ?_
   intro i hi K hK hX
   by_cases hlt:i<5
   ·repeat' (first|(refine aC ?_;intro K hK hX)|refine dD3 ?_|(refine aH hK hX ?_;clear hK hX K)|fail)
    exact ⟨i+1,by omega,by omega,bY3⟩
   ·obtain rfl:i=5:=by omega
    repeat' (first|(refine aC ?_;intro K hK hX)|refine aC1 ?_|(refine aH hK hX ?_;clear hK hX K)|fail)
    generalize hA:uk A T 5=A2
    refine cD 5 (fun i:Nat=>[(1,.ref 0 0),(2,.ref 1 0),(3,.c (iv r)),(7,.ref 3 0),(8,.ref 4 0),(9,.c (iv i))]) (fun i=>[(0,.row 198 (mk (eH3 A2) i).cs),(1,.row 198 z5),(3,.row 258 ri),(4,.row 258 rj)]) [] (fun i=>i≤5) (fun i=>5-i) 0 aA dU ?_
    intro i hi K hK hX
    by_cases hlt:i<5
    ·repeat' (first|(refine aC ?_;intro K hK hX)|refine bU [0,1,2,3,4,5,6,7,8,9] ?_|(refine dB ?_;first|refine c0 (aF4 _ (ra i) (dM0 i).1 (dM0 i).2) ?_|refine c0 (aF4 _ (rb i) (dM1 i).1 (dM1 i).2) ?_)|((first|((with_reducible refine bP ?_);refine xA ?_)|((with_reducible refine dX ?_);refine xD ?_));(first|((with_reducible refine fU ?_);(first|refine aJ (iK aB rfl rfl rfl rfl aN5) ?_|refine aJ (fY aB rfl rfl rfl rfl aN5) ?_|refine aJ (fX aB rfl rfl rfl aN5) ?_))|((with_reducible refine e_ix ?_);(first|refine aJ (s_ixV1 aB rfl rfl zcj rfl rfl rfl rfl rfl zle aN5) ?_|refine aJ (s_ixStr aB rfl rfl zcj rfl rfl aN5) ?_))))|((with_reducible refine gQ ?_);(refine eM aB aE rfl rfl rfl rfl rfl rfl (by first|exact cA9 _ _ aA|exact Nat.le_of_ble_eq_true rfl|omega|(simp<;>omega)) ?_))|refine stA ?_|refine stD ?_|(refine aH hK hX ?_;clear hK hX K)|fail)
     exact ⟨i+1,by omega,by omega,bY3⟩
    ·obtain rfl:i=5:=by omega
     repeat' (first|(refine aC ?_;intro K hK hX)|refine aC1 ?_|(refine aH hK hX ?_;clear hK hX K)|fail)
     subst hA hT hA0
     exact ⟨r+1,by omega,by omega,(by refine fB rfl ?_ ?_ rfl<;>(repeat' (first|exact dH|exact dI|refine cU rfl (by first|rfl|(rw [rnd_eq];rfl)|exact zeq) rfl ?_|refine bR rfl (by first|rfl|(rw [rnd_eq];rfl)|exact zeq) rfl ?_)))⟩
 ·repeat' (first|(refine aC ?_;intro K hK hX)|refine aC1 ?_|(refine aH hK hX ?_;clear hK hX K)|fail)
  obtain rfl:r=12:=by omega
  exact mJ
end Go.Proofs.YtbgehdndimlgkaaGreat
namespace Go.Proofs.YtbgehdndimlgkaaGreat
open Go Go.RowKit Go.Av
set_option maxRecDepth 100000
attribute [local irreducible] Still Adds AWL AW Drw AC AWR cL Frz Go.Av.Src dC Out InK
attribute [local simp] bQ bL
theorem cJ0 (l:List UInt8) (k:Nat):u8c (l++1::List.replicate k 0)++[.v (.int .u8 0)]=u8c (l++1::List.replicate (k+1) 0):=by
 have:[CV.v (.int .u8 0)]=u8c [0]:=rfl
 rw [this,← bD,List.append_assoc,List.cons_append,List.replicate_succ']
theorem bL2 (p:List UInt8) (m j:Nat):List.take (m*1) (List.drop (0+8*j*1) (u8c p))=u8c (List.take m (List.drop (8*j) p)):=by
 rw [Nat.zero_add,Nat.mul_one,Nat.mul_one,bL,bQ]
theorem aZ7 (dom:BitVec 64) (l:List UInt8) (n:Nat) (hl:l.length=n) (hm:n≤1000000000):AC Tryz.prog 218 [wv dom,.sl 1 n (u8c l)] (.c (.agg (nP dom l).cs)) [] 0:=by
 have hul:(u8c l).length=n:=by rw [aG,hl]
 refine aF aB (sz:=42) Tryz.func218 rfl (by rw [Tryz.ntmps218];rfl) ?_
 repeat' (first|(refine aC ?_;intro K hK hX)|refine bY1 ?_|(refine aH hK hX ?_;clear hK hX K)|fail)
 refine cD 2 (fun k:Nat=>[(0,.c (wv dom)),(4,.ref 0 0),(5,.own 1 0 (n+1+k) 1 true)]) (fun k=>[(0,.row 198 z5),(1,.row 5 (u8c (l++1::List.replicate k 0)))]) [] (fun k=>k≤7-n%8) (fun k=>7-k) 0 aA (by refine eH [0,4] rfl rfl ?_ ?_ rfl rfl<;>(repeat' (first|exact cT|exact cI|refine cK rfl dI9 rfl ?_|refine bJ rfl dI9 rfl ?_))) ?_
 intro k hk K hK hX
 have hlen:(u8c (l++1::List.replicate k 0)).length=n+1+k:=by rw [aG,List.length_append,List.length_cons,List.length_replicate];omega
 by_cases hlt:(n+1+k)%8≠0
 ·repeat' (first|(refine aC ?_;intro K hK hX)|refine bY1 ?_|(refine aH hK hX ?_;clear hK hX K)|fail)
  exact ⟨k+1,by omega,by omega,(by refine eH [0,3] rfl rfl ?_ ?_ rfl rfl<;>(repeat' (first|exact cT|exact cI|refine cK rfl dJ0 rfl ?_|refine bJ rfl dJ0 rfl ?_)))⟩
 ·obtain rfl:k=7-n%8:=by omega
  repeat' (first|(refine aC ?_;intro K hK hX)|refine bU [0,1,4,5,6,7] ?_|(refine dB ?_;refine c0 (qH ⟨dom,1#64,2#64,3#64,4#64⟩) ?_)|refine stA ?_|refine stD ?_|(refine aH hK hX ?_;clear hK hX K)|fail)
  have hL:n+1+(7-n%8)=8*(n / 8+1):=by omega
  have hp:l++1::List.replicate (7-n%8) 0=nJ l:=by rw [nJ,hl]
  rw [hL,hp] at hlen
  rw [hL,hp]
  refine cD 3 (fun j:Nat=>[(4,.ref 0 0),(5,.own 1 0 (8*(n / 8+1)) 1 true),(6,.ref 2 0),(7,.c (iv ((8*j:Nat):Int)))]) (fun j=>[(0,.row 198 z5),(1,.row 5 (u8c (nJ l))),(2,.row 198 (wF (aA0 dom) (nJ l) j).cs)]) [] (fun j=>j≤n / 8+1) (fun j=>n / 8+1-j) 0 aA dU ?_
  intro j hj K hK hX
  by_cases hlt:j<n / 8+1
  ·have hpl:(nJ l).length=8*(n / 8+1):=by rw [vW,hl]
   have hw:(((nJ l).drop (8*j)).take 8).length=8:=by rw [List.length_take,List.length_drop,vW,hl];omega
   have h8:8*j+8-8*j=8:=by omega
   have hwl:(List.take ((8*j+8-8*j)*1) (List.drop (0+8*j*1) (u8c (nJ l)))).length=(8*j+8-8*j)*1:=by rw [h8,bL2,aG,hw]
   have hwe:List.take ((8*j+8-8*j)*1) (List.drop (0+8*j*1) (u8c (nJ l)))=u8c (((nJ l).drop (8*j)).take 8):=by rw [h8,bL2]
   repeat' (first|(refine aC ?_;intro K hK hX)|refine bU [0,1,4,5,6,7] ?_|((first|with_reducible refine aD ?_|with_reducible refine fN ?_);(first|refine wA ?_|refine wN ?_|refine wD ?_);(first|refine cF (cL8 (((nJ l).drop (8*j)).take 8) hw) ?_ (hfz:=aZ (iN (kK rfl rfl rfl hwl) (kA h8 hwe)) cY)))|(refine dB ?_;refine c0 (qH (cP6 (wF (aA0 dom) (nJ l) j) (wdN (((nJ l).drop (8*j)).take 8) 8))) ?_)|refine stA ?_|refine stD ?_|(refine aH hK hX ?_;clear hK hX K)|fail)
   exact ⟨j+1,by omega,by omega,dU⟩
  ·obtain rfl:j=n / 8+1:=by omega
   repeat' (first|(refine aC ?_;intro K hK hX)|refine bY1 ?_|(refine aH hK hX ?_;clear hK hX K)|fail)
   have:=aL7 dom l
   rw [hl] at this
   rw [← this]
   exact mJ
theorem cS2 (S:S5) (k i:Nat) (h:i<8):UInt8.ofBitVec (((rT k S).a >>> (8*i)).setWidth 8)=tZ S (8*k+i):=by
 unfold tZ
 rw [show (8*k+i) / 8=k by omega,show (8*k+i)%8=i by omega]
theorem cH9 (S:S5) (k i:Nat) (h:i<8):u8c (kW S (8*k+i))++[.v (.int .u8 ((UInt8.ofBitVec (((rT k S).a >>> (8*i)).setWidth 8)).toNat:Int))]=u8c (kW S (8*k+(i+1))):=by
 rw [cS2 S k i h,← Nat.add_assoc,aE6,bD]
 rfl
theorem aS3 (S:S5) (n:Nat) (hm:n≤1000000000):AC Tryz.prog 217 [.agg S.cs,iv n] (.c (.sl 1 n (u8c (kW S n)))) [] 0:=by
 refine aF aB (sz:=30) Tryz.func217 rfl (by rw [Tryz.ntmps217];rfl) ?_
 repeat' (first|(refine aC ?_;intro K hK hX)|refine aL [0,1,2,4,5,6] ?_|refine stA ?_|(refine aH hK hX ?_;clear hK hX K)|fail)
 refine cD 2 (fun k:Nat=>[(1,.c (iv n)),(2,.ref 0 0),(5,.own 1 0 (8*k) 1 true)]) (fun k=>[(0,.row 198 (rT k S).cs),(1,.row 5 (u8c (kW S (8*k))))]) [] (fun k=>8*k<n+8) (fun k=>n+8-8*k) 0 aA dU ?_
 intro k hk K hK hX
 by_cases hlt:8*k<n
 ·repeat' (first|(refine aC ?_;intro K hK hX)|refine aL [0,1,2,4,5,6] ?_|refine stA ?_|(refine aH hK hX ?_;clear hK hX K)|fail)
  refine cD 2 (fun i:Nat=>[(1,.c (iv n)),(2,.ref 0 0),(5,.own 1 0 (8*k+i) 1 true),(6,.c (iv i))]) (fun i=>[(0,.row 198 (rT k S).cs),(1,.row 5 (u8c (kW S (8*k+i))))]) [] (fun i=>i≤8) (fun i=>8-i) 0 aA dU ?_
  intro i hi K hK hX
  have hlen:(u8c (kW S (8*k+i))).length=8*k+i:=by rw [aG,fZ]
  by_cases hlt:i<8
  ·repeat' (first|(refine aC ?_;intro K hK hX)|refine aL [0,1,2,4,5,6] ?_|(((with_reducible refine bP ?_);refine xA ?_);(first|((with_reducible refine bS ?_);(first|refine aJ (sK rfl mL rfl (show 8*(i:Int)=((8*i:Nat):Int) by omega)) ?_))))|refine stA ?_|(refine aH hK hX ?_;clear hK hX K)|fail)
   exact ⟨i+1,by omega,by omega,(by refine eH [0,3] rfl rfl ?_ ?_ rfl rfl<;>(repeat' (first|exact cT|exact cI|refine cK rfl dI7 rfl ?_|refine bJ rfl dI7 rfl ?_)))⟩
  ·obtain rfl:i=8:=by omega
   repeat' (first|(refine aC ?_;intro K hK hX)|refine aL [0,1,2,4,5,6] ?_|(refine dG ?_;refine c0 (qH (rT k S)) ?_)|refine stA ?_|(refine aH hK hX ?_;clear hK hX K)|fail)
   exact ⟨k+1,by omega,by omega,(by refine fB rfl ?_ ?_ rfl<;>(repeat' (first|exact dH|exact dI|refine cU rfl dJ1 rfl ?_|refine bR rfl dJ1 rfl ?_)))⟩
 ·have hlen:(kW S (8*k)).length=8*k:=fZ _ _
  repeat' (first|(refine aC ?_;intro K hK hX)|refine aL [0,1,2,4,5,6] ?_|refine stA ?_|(refine aH hK hX ?_;clear hK hX K)|fail)
  have hf:u8c (kW S n)=u8c (((kW S (8*k)).drop 0).take n):=by rw [List.drop_zero,bQ6 _ _ _ aA]
  rw [hf]
  refine dA zio ztr rfl (ResL.one (ResA.tmp rfl)) (by exact bI3 (aY2 rfl rfl aA aA aA))
end Go.Proofs.YtbgehdndimlgkaaGreat
namespace Go.Proofs.YtbgehdndimlgkaaGreat
open Go Go.RowKit Go.Av
set_option maxRecDepth 100000
attribute [local irreducible] Still Adds AWL AW Drw AC AWR cL Frz Go.Av.Src dC Out InK
attribute [local simp] bQ bL bD
theorem dS7 (S:S5) (n i:Nat) (h:i<n):(u8c (kW S n))[i*1]? = some (.v (.int .u8 ((tZ S i).toNat:Int))):=by
 rw [Nat.mul_one]
 refine bK9 ?_
 simp [kW,h]
theorem dB2 (dom:BitVec 64) (l:List UInt8) (n:Nat) (hl:l.length=n) (hm:n≤1000000000):AC Tryz.prog 164 [wv dom,.sl 1 n (u8c l)] (.c (.agg (u8c (sum dom l)))) [] 0:=by
 refine aF aB (sz:=23) Tryz.func164 rfl (by rw [Tryz.ntmps164];rfl) ?_
 repeat' (first|(refine aC ?_;intro K hK hX)|refine aL [0,1,4,5,6,7] ?_|(refine dG ?_;first|refine c0 (aZ7 dom l n hl hm) ?_|refine c0 (aS3 (nP dom l) 32 aN) ?_)|refine stA ?_|(refine aH hK hX ?_;clear hK hX K)|fail)
 generalize hS:nP dom l=S
 refine cD 2 (fun i:Nat=>[(4,.ref 0 0),(5,.ref 1 0),(6,.c (.sl 1 32 (u8c (kW S 32)))),(7,.c (iv i))]) (fun i=>[(0,.row 28 z32),(1,.row 28 (u8c (fil S 32 i)))]) [] (fun i=>i≤32) (fun i=>32-i) 0 aA dU ?_
 intro i hi K hK hX
 have hlen:(u8c (fil S 32 i)).length=32:=by rw [aG,yM _ _ _ aA]
 by_cases hlt:i<32
 ·repeat' (first|(refine aC ?_;intro K hK hX)|refine aL [0,1,4,5,6,7] ?_|(((with_reducible refine bP ?_);refine xA ?_);(first|((with_reducible refine fU ?_);(first|refine aJ (iK aB rfl rfl rfl rfl xS) ?_|refine aJ (fY aB rfl rfl rfl rfl xS) ?_|refine aJ (fX aB rfl rfl rfl xS) ?_))|((with_reducible refine e_ix ?_);(first|refine aJ (s_ixV1 aB rfl rfl zcj rfl rfl rfl rfl rfl zle xS) ?_|refine aJ (s_ixStr aB rfl rfl zcj rfl rfl xS) ?_))))|((with_reducible refine gQ ?_);(refine eM aB aE rfl rfl rfl rfl rfl rfl aN6 ?_))|refine stA ?_|(refine aH hK hX ?_;clear hK hX K)|fail)
  exact ⟨i+1,by omega,by omega,(by refine fB rfl ?_ ?_ rfl<;>(repeat' (first|exact dH|exact dI|refine cU rfl dI5 rfl ?_|refine bR rfl dI5 rfl ?_)))⟩
 ·obtain rfl:i=32:=by omega
  repeat' (first|(refine aC ?_;intro K hK hX)|refine aL [0,1,4,5,6,7] ?_|refine stA ?_|(refine aH hK hX ?_;clear hK hX K)|fail)
  rw [aP2]
  subst hS
  have hlen:(u8c (kW (nP dom l) 32)).length=32:=by rw [aG,fZ]
  exact mJ
theorem bT7 (l:List UInt8) (i:Nat) (h:i<l.length):u8c (l.take i)++[.v (.int .u8 ((l.getD i 0).toNat:Int))]=u8c (l.take (i+1)):=by
 rw [List.take_add_one,bD,List.getElem?_eq_getElem h]
 simp [u8c,List.getD,List.getElem?_eq_getElem h]
theorem xL (l:List UInt8) (hl:l.length=32):AC Tryz.prog 127 [.agg (u8c l)] (.own 0 0 32 1 true) [(0,.row 5 (u8c l))] 1:=by
 refine aF aB (sz:=17) Tryz.func127 rfl (by rw [Tryz.ntmps127];rfl) ?_
 repeat' (first|(refine aC ?_;intro K hK hX)|refine aL [0,1,2,3,4] ?_|refine stA ?_|(refine aH hK hX ?_;clear hK hX K)|fail)
 refine cD 2 (fun i:Nat=>[(1,.ref 0 0),(3,.own 1 0 i 1 true),(4,.c (iv i))]) (fun i=>[(0,.row 28 (u8c l)),(1,.row 5 (u8c (l.take i)))]) [] (fun i=>i≤32) (fun i=>32-i) 0 aA dU ?_
 intro i hi K hK hX
 have hlen:(u8c (l.take i)).length=i:=by rw [aG,List.length_take];omega
 by_cases hlt:i<32
 ·repeat' (first|(refine aC ?_;intro K hK hX)|refine aL [0,1,2,3,4] ?_|(((with_reducible refine bP ?_);refine xA ?_);(first|((with_reducible refine fU ?_);(first|refine aJ (iK aB rfl rfl rfl rfl aN8) ?_|refine aJ (fY aB rfl rfl rfl rfl aN8) ?_|refine aJ (fX aB rfl rfl rfl aN8) ?_))|((with_reducible refine e_ix ?_);(first|refine aJ (s_ixV1 aB rfl rfl zcj rfl rfl rfl rfl rfl zle aN8) ?_|refine aJ (s_ixStr aB rfl rfl zcj rfl rfl aN8) ?_))))|refine stA ?_|(refine aH hK hX ?_;clear hK hX K)|fail)
  exact ⟨i+1,by omega,by omega,(by refine eH [0,3] rfl rfl ?_ ?_ rfl rfl<;>(repeat' (first|exact cT|exact cI|refine cK rfl dI0 rfl ?_|refine bJ rfl dI0 rfl ?_)))⟩
 ·obtain rfl:i=32:=by omega
  repeat' (first|(refine aC ?_;intro K hK hX)|refine aL [0,1,2,3,4] ?_|refine stA ?_|(refine aH hK hX ?_;clear hK hX K)|fail)
  rw [List.take_of_length_le aA]
  exact bB
theorem bS2 (dom:BitVec 64) (k l:List UInt8) (n:Nat) (hk:k.length=32) (hl:l.length=n) (hm:n≤100000000):AC Tryz.prog 125 [wv dom,.agg (u8c k),.sl 1 n (u8c l)] (.c (.agg (u8c (sum dom (k++l))))) [] 0:=by
 have hua:(u8c k).length=32:=by rw [aG,hk]
 have hub:(u8c l).length=n:=by rw [aG,hl]
 have hus:(u8c (sum dom (k++l))).length=32:=by rw [aG,sL]
 refine aF aB (sz:=13) Tryz.func125 rfl (by rw [Tryz.ntmps125];rfl) ?_
 repeat' (first|(refine aC ?_;intro K hK hX)|refine aL [0,1,2,4,6] ?_|((with_reducible refine aD ?_);(first|refine wA ?_|refine wN ?_);(first|refine cF (dB2 dom (k++l) (32+n) eN aA) ?_))|(refine dG ?_;refine c1 (xL k hk) ?_)|refine stA ?_|(refine aH hK hX ?_;clear hK hX K)|fail)
 exact mJ
end Go.Proofs.YtbgehdndimlgkaaGreat
namespace Go.Proofs.YtbgehdndimlgkaaGreat
open Go Go.RowKit Go.Av
set_option maxRecDepth 100000
def hx (n:Nat):UInt8:=[48,49,50,51,52,53,54,55,56,57,97,98,99,100,101,102].getD n 0
def fmt (l:List UInt8):List UInt8:=l.flatMap fun b=>[hx (b.toNat / 16),hx (b.toNat%16)]
def dg (c:UInt8):Option Nat:=if 48≤c.toNat∧c.toNat≤57 then some (c.toNat-48) else if 97≤c.toNat∧c.toNat≤102 then some (c.toNat-87) else none
def sb (s:ByteArray) (i:Nat):UInt8:=s.data.getD i 0
def dZ3 (s:ByteArray):Prop:=s.size=64∧∀i,i<64→(dg (sb s i)).isSome=true
def dv (s:ByteArray) (i:Nat):Nat:=(dg (sb s i)).getD 0
def pb (s:ByteArray) (i:Nat):UInt8:=UInt8.ofNat (dv s (2*i)*16+dv s (2*i+1))
open Classical in
noncomputable def pval (s:ByteArray):List UInt8:=if dZ3 s then (List.range 32).map (pb s) else List.replicate 32 0
open Classical in
noncomputable def perr (s:ByteArray):Int:=if dZ3 s then 0 else 2
def flg (f:Nat→UInt8) (n i:Nat):List UInt8:=(List.range i).map f++List.replicate (n-i) 0
section
variable {P:Program} {ev:Evl} {h:aO} {d:Option Tmp} {T ty T':TypeId} {x y:Operand} {pos:String} {aft:Array Edge} {gd:Option (Nat × Bool)}
end
attribute [local irreducible] Still Adds AWL AW Drw AC AWR cL Frz Go.Av.Src dC Out InK
end Go.Proofs.YtbgehdndimlgkaaGreat
namespace Go.Proofs.YtbgehdndimlgkaaGreat
open Go Go.RowKit Go.Av
set_option maxRecDepth 100000
attribute [local irreducible] Still Adds AWL AW Drw AC AWR cL Frz Go.Av.Src dC Out InK
end Go.Proofs.YtbgehdndimlgkaaGreat
namespace Go.Proofs.YtbgehdndimlgkaaGreat
open Go Go.RowKit Go.Av
set_option maxRecDepth 100000
theorem wW (l:List UInt8):u8c l=jU .u8 (l.map fun b=>(b.toNat:Int)):=by simp [u8c,jU]
theorem cO5 (l l':List UInt8):(l.map fun b=>(b.toNat:Int))=(l'.map fun b=>(b.toNat:Int))↔l=l':=by
 constructor
 ·intro h
  exact (List.map_inj_right (fun a b hab=>by
   have:a.toNat=b.toNat:=by omega
   exact UInt8.toNat.inj this)).1 h
 ·rintro rfl;rfl
section
variable {P:Program} {tab:Tab} {ev:Evl} {h:aO} {d:Option Tmp} {T ty T' E n:Nat} {x y:Operand} {pos:String} {aft:Array Edge} {gd:Option (Nat × Bool)} {e e':TyE} {l l':List UInt8} {cs cs':List CV} {b:Bool} (tb:bK P tab) (hg:P.eqGuardType P.depth T=false) (hT:aR tab T=some e) (hk:e.kind = .array n E) (hE:aR tab E=some e') (hke:e'.kind = .int .u8) (hs:Nat.beq e'.size 1=true) (hx:ev x=some (.c (.agg cs))) (hy:ev y=some (.c (.agg cs'))) (hcx:cs=u8c l) (hcy:cs'=u8c l') (hlx:l.length=n) (hly:l'.length=n)
include tb hg hT hk hE hke hs hx hy hcx hcy hlx hly
theorem aK4 (hb:decide (l=l')=b):Still P ⟨d,.binOp .eql T x y T',ty,pos,aft,gd⟩ ev h (.c (.v (.bool b))) :=
 dU4 tb hg hT hk hE hke hs hx hy (hcx.trans (wW l)) (hcy.trans (wW l')) (by rw [List.length_map];exact hlx) (by rw [List.length_map];exact hly) (by rw [← hb];exact decide_eq_decide.2 (cO5 l l'))
theorem cM9 (hb:(!decide (l=l'))=b):Still P ⟨d,.binOp .neq T x y T',ty,pos,aft,gd⟩ ev h (.c (.v (.bool b))) :=
 dU9 tb hg hT hk hE hke hs hx hy (hcx.trans (wW l)) (hcy.trans (wW l')) (by rw [List.length_map];exact hlx) (by rw [List.length_map];exact hly) (by rw [← hb];exact congrArg (!·) (decide_eq_decide.2 (cO5 l l')))
end
attribute [local irreducible] Still Adds AWL AW Drw AC AWR cL Frz Go.Av.Src dC Out InK
end Go.Proofs.YtbgehdndimlgkaaGreat
namespace Go.Av
open Go Go.RowKit
inductive ResF (tab:Tab) (env:Env) (h:aO):List ResultVar→AV→Prop
 | mk {r1 r2 r3 r4:ResultVar} {v1 v2 v3 v4:AV} (h1:ResA tab env h r1 v1) (h2:ResA tab env h r2 v2) (h3:ResA tab env h r3 v3) (h4:ResA tab env h r4 v4):ResF tab env h [r1,r2,r3,r4] (.tup [v1,v2,v3,v4])
theorem ResF.run {P : Program} {tab : Tab} {env : Env} {h : aO} {n : Nat} (tb : bK P tab) {fn : Func} {v : AV} (hr : ResF tab env h fn.results.toList v) {B : Bs} {M : Nat → Option Nat} {w : World} {tmps : Array Value} (hc : ConcH B (lt n) M (lk h) w) (he : ∀ t av, lkE env t = some av → Rep (cx B n M h w) av (tmps.getD t undef)) :
    ∃ u, Rep (cx B n M h w) v u ∧ (results fn tmps).run P w = .ok u w := by
  have one : ∀ {rv : ResultVar} {v : AV}, ResA tab env h rv v → ∃ u, Rep (cx B n M h w) v u ∧ Rd P tmps w rv u := by
    intro rv v hA
    obtain ⟨u, h1, h2⟩ := hA.run tb hc he
    refine ⟨u, h1, ?_⟩
    cases rv with
    | tmp t => simpa [Rd] using h2
    | cell p T => obtain ⟨q, hq, hl⟩ := h2; exact ⟨q, by simpa using hq, hl⟩
  generalize hl : fn.results.toList = l at hr
  have hf : fn.results = l.toArray := by rw [← hl]
  cases hr with
  | mk h1 h2 h3 h4 =>
    obtain ⟨u1, k1, k2⟩ := one h1
    obtain ⟨u2, l1, l2⟩ := one h2
    obtain ⟨u3, m1, m2⟩ := one h3
    obtain ⟨u4, n1, n2⟩ := one h4
    refine ⟨.tuple #[u1, u2, u3, u4], ⟨[u1, u2, u3, u4], rfl, u1, [u2, u3, u4], rfl, k1, u2, [u3, u4], rfl, l1, u3, [u4], rfl, m1, u4, [], rfl, n1, rfl⟩, ?_⟩
    rename_i r1 r2 r3 r4 v1 v2 v3 v4
    cases r1 <;> cases r2 <;> cases r3 <;> cases r4 <;> simp only [Rd] at k2 l2 m2 n2 <;> (try obtain ⟨q, hq, hl1⟩ := k2) <;> (try obtain ⟨q2, hq2, hl2⟩ := l2) <;> (try obtain ⟨q3, hq3, hl3⟩ := m2) <;> (try obtain ⟨q4, hq4, hl4⟩ := n2) <;> simp [results, hf, asAddr, *]
def aL6 (P:Program) (tab:Tab) (rs:List ResultVar) (r:AV) (hr:aO) (nr:Nat):AK :=
 fun e n env h dfs=>(e = .normal∨e = .ret)∧gV P h dfs∧∃v,ResF tab env (fR h dfs) rs v∧Out n (fR h dfs) v r hr nr
theorem dA9 {P:Program} {tab:Tab} {rs:List ResultVar} {r v:AV} {hr h h':aO} {nr n:Nat} {e:Exit} {env:Env} {dfs:bZ} (he:e = .normal∨e = .ret) (hd:gV P h dfs) (hh:fR h dfs=h') (hv:ResF tab env h' rs v) (ho:Out n h' v r hr nr):aL6 P tab rs r hr nr e n env h dfs:=⟨he,hd,v,hh▸hv,hh▸ho⟩
theorem kD {P : Program} {tab : Tab} (tb : bK P tab) {f : FuncId} {fn : Func} {c : Code} {args : List CV} {r : AV} {hr : aO} {nr sz : Nat} (hf : P.funcs[f]? = some fn) (hb : fn.body = some c) (hsz : max fn.ntmps args.length = sz)
    (hx : AW P sz c (aL6 P tab fn.results.toList r hr nr) 0 (aP1 0 args) [] []) : AC P f args r hr nr := by
  intro ok w vs hvs
  have hlen := hvs.length
  refine gC hf hb (wp_mono (kJ (hx ⟨w, [], ok, []⟩ _ w ⟨fun _ => none, lS (FrB.refl _ _), ?_, ?_, ?_⟩)) ?_)
  · simp; omega
  · intro t av ht
    obtain ⟨c', h1, h2, rfl⟩ := uM ht
    rw [Nat.sub_zero] at h2
    obtain ⟨u, hu, hru⟩ := hvs.get h2
    have : (vs.toArray ++ Array.replicate (fn.ntmps - vs.toArray.size) undef).getD t undef = u := by
      have hlt := (List.getElem?_eq_some_iff.1 hu).1
      have h9 := (List.getElem?_eq_some_iff.1 hu).2
      simp [Array.getElem?_append, hlt, h9]
    rw [this]
    simp only [Rep]
    exact dY6
  · rfl
  · intro e a w' hq
    obtain ⟨n, env, h, dfs, ⟨h1, h2, v, h3, h4⟩, M, c1, c2, c3, c4⟩ := hq
    have : iH P fn a.tmps (fun e w' => ∃ v M, e = .returned v ∧ ConcH ⟨w, [], ok, []⟩ (lt nr) M (lk hr) w' ∧ Rep (cx ⟨w, [], ok, []⟩ nr M hr w') r v) a.defers w' := by
      refine fD h2 c1 c4 fun w2 d1 d2 => ?_
      obtain ⟨u, k1, k2⟩ := h3.run tb d1 (fun t av ht => Rep.ext d2 _ _ (c3 t av ht))
      obtain ⟨M', k3, k4⟩ := h4 w ok M w2 u d1 k1
      exact ⟨u, k2, u, M', rfl, k3, k4⟩
    rcases h1 with rfl | rfl <;> exact this
section
variable {P:Program} {tab:Tab} {ev:Evl} {h:aO} {d:Option Tmp} {T ty:TypeId} {x:Operand} {pos:String} {aft:Array Edge} {gd:Option (Nat × Bool)}
theorem dN0 (tb:bK P tab) {e:TyE} (hT:aR tab T=some e) {N E n size:Nat} {cs:List CV} (hk:e.kind = .array N E) (hx:ev x=some (.c (.sl size n cs))) (hn:N≤n) (h0:0<n):Still P ⟨d,.sliceToArrayPointer T x,ty,pos,aft,gd⟩ ev h (.ip cs 0):=by
 intro B dom M H w a hh hc he
 have h1:=he x _ hx
 simp only [Rep,RepC] at h1
 obtain ⟨A,c,us,h3,h4,h5,h6,h7,h70,h8⟩:=h1
 obtain ⟨b,o,rfl,hb,hl,hcell⟩:=h8 h0
 refine ⟨.pointer (some ⟨b,o,none⟩),?_,b,o,us,by rw [Nat.add_zero],hb,hl,h7,h70,hcell⟩
 simp [execOp,Instr.arrayAt,h3,Sem.run_bind,run_underlying ((aM tb hT).array hk),Nat.not_lt.2 hn]
end
end Go.Av
