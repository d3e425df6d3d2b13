/- Lemmas for laws of the ledger. -/
import Derived.Test.YtbgehdndimlgkaaGreatP42
import Derived.Test.YtbgehdndimlgkaaGreatP44
import Derived.Test.YtbgehdndimlgkaaGreatP46
import Derived.Test.YtbgehdndimlgkaaGreatP47
set_option linter.all false
namespace Go.Proofs.YtbgehdndimlgkaaGreat
open Go Go.RowKit Go.Av
set_option maxRecDepth 100000
theorem aN5 (l:List LEn) {i j:Nat} (h:i<=j):(eP kdL root0 (l.take i)).length<=(eP kdL root0 (l.take j)).length:=by
 have:=vH kdL (l.take j) root0 i
 rwa [C0,Bp h] at this
theorem cB1 {l:List LEn} (hf:rY l) (ho:OkL l) (hall:∀q,q<l.length->aA5 l q) (k:Nat) (hk:k<=(eP kdL root0 l).length):∃w d,w<=l.length/\(∀i,i<l.length->((eP kdL root0 (l.take (i+1))).length<=k↔i+1<=w))/\parF kdL 513 [] root0 ((eP kdL root0 l).take k)=((l.take w).map clE,(eP kdL root0 (l.take w)).length,d)/\∀(i:Nat) (e:LEn),l[i]? = some e->e.rd:=by
 have hrd:∀(i:Nat) (e:LEn),l[i]? = some e->e.rd:=fun i e he=>by
  have hm:=Ad he
  have hF:=hall i (Ag.1 he).1 e he
  exact bW3 (ho e hm).1 (ho e hm).2.1 (hf.2 e hm) hF.rd
 have hl:=hf.1
 obtain ⟨w,h1,h2,h3,h4⟩:=bE4 iN l [] root0 513 k (fun e he=>by
  obtain ⟨i,hi⟩:=C3 he
  have:=mG (ho e he).1 (ho e he).2.1 (ho e he).2.2
  exact ⟨(ho e he).1,hrd i e hi,by omega⟩) (fun i e he=>by
  rw [Aw]
  exact hall i (Ag.1 he).1 e he) (by rw [Bq];omega) aA hk
 refine ⟨w,_,h1,fun i hi=>⟨fun h=>?_,fun h=>At (aN5 l h) h2⟩,h4,hrd⟩
 refine CP fun hlt=>?_
 have:=h3 aA
 have:=aN5 l (show w+1<=i+1 by omega)
 omega
theorem aN7 {l:List LEn} (h:OkL l) (i:Nat):List.take ((i-0)*65) (List.drop (0*65) (lec l))=lec (l.take i):=by rw [BA,AN,Br,vU h]
attribute [local irreducible] Still Adds AWL AW Drw bY bW AC AWR cR Frz Go.Av.Src cQ Out InK ItK AsK RdK eL eF ACT ACA eT ACG fP lec
section
variable (l:List LEn) (n:Nat) (hn:l.length=n) (hb:n<=maxLen) (hw:∀e∈l,e.wf/\aS e.k) (cut:Int)
include l n hn hb hw cut
theorem eS3 (hf:¬rY l):qC' 4 [.sl 65 n (lec l),iv cut] (.c (bv true)) [] 0:=by
 have h1:=qD l n hn hb (fun e he=>(hw e he).1) false ⟨fun h=>dS,fun h=>absurd h hf⟩
 generalize lec l=L at *
 refine aD aB (sz:=92) Tryz.func4 rfl (by rw [Tryz.ntmps4];rfl) ?_
 repeat' (first|(refine aC ?_;intro K hK hX)|refine aY [0,1,4,5,6,7,8,10,11,12,13] ?_|(refine bK ?_;first|refine c0 dW ?_|refine c0 h1 ?_)|refine stA ?_|refine stD ?_|(refine aE hK hX ?_;clear hK hX K)|fail)
 exact aV
theorem eS4 (hf:rY l) (hall:¬∀q,q<n->aA5 l q):qC' 4 [.sl 65 n (lec l),iv cut] (.c (bv true)) [] 0:=by
 have h1:=qD l n hn hb (fun e he=>(hw e he).1) true ⟨fun _=>hf,fun _=>rfl⟩
 have ho:=aT3 hf hw
 have hn16:n<=1000:=by have:=hf.1;omega
 obtain ⟨j,hj,hbad,hgd⟩:=oZ hall
 have h3:=cD9 l n hn hn16 ho j hj hbad hgd
 generalize lec l=L at *
 refine aD aB (sz:=92) Tryz.func4 rfl (by rw [Tryz.ntmps4];rfl) ?_
 repeat' (first|(refine aC ?_;intro K hK hX)|refine aY [0,1,4,5,6,7,8,10,11,12,13] ?_|(refine bK ?_;first|refine c0 dW ?_|refine c0 h1 ?_|refine c0 h3 ?_)|refine stA ?_|refine stD ?_|(refine aE hK hX ?_;clear hK hX K)|fail)
 exact aV
end
set_option maxHeartbeats 16000000 in
section
variable (l:List LEn) (n:Nat) (hn:l.length=n) (hb:n<=maxLen) (hw:∀e∈l,e.wf/\aS e.k) (cut:Int)
include l n hn hb hw cut
theorem eS5 (hf:rY l) (hall:∀q,q<n->aA5 l q):qC' 4 [.sl 65 n (lec l),iv cut] (.c (bv true)) [] 0:=by
 have h1:=qD l n hn hb (fun e he=>(hw e he).1) true ⟨fun _=>hf,fun _=>rfl⟩
 have ho:=aT3 hf hw
 have hn16:n<=16:=by have:=hf.1;omega
 have h3:=cE0 l n hn aA ho hall
 have hll:(lec l).length=n*65:=by rw [dZ ho,hn]
 obtain ⟨m,hm⟩:∃m,(eP kdL root0 l).length=m:=⟨_,rfl⟩
 have hmb:=pB ho root0
 rw [hm,hn] at hmb
 obtain ⟨k,hke⟩:∃k,(BitVec.ofInt 64 cut).toNat%(m+1)=k:=⟨_,rfl⟩
 have hkm:k<=m:=by have:=Cz (BitVec.ofInt 64 cut).toNat (show m+1>0 by omega);omega
 obtain ⟨w,d,w1,w2,w3,hrd⟩:=cB1 hf ho (by rw [hn];exact hall) k aA
 rw [hn] at w1 w2
 have hby:=tJ l n hn aA ho m hm
 have hul:=u8l hm
 have htk:((eP kdL root0 l).take k).length=k:=by rw [Ar];omega
 obtain ⟨p1,p2,p3,p4,_⟩:=lJ 513 (l:=[]) (ch:=root0) (b:=(eP kdL root0 l).take k) aA rfl (fun e he=>by simp at he) aT
 rw [w3] at p1 p4
 simp only at p1 p4
 have hlw:((l.take w).map clE).length=w:=by rw [Bf,Ar];omega
 have hpa:=aH0 ((eP kdL root0 l).take k) k htk aA ((l.take w).map clE) w hlw _ d w3
 have hS:List.take ((k-0)*1) (List.drop (0*1) (u8c (eP kdL root0 l)))=u8c ((eP kdL root0 l).take k):=by rw [Br,A9,BA,AN,bV]
 rw [<- hS] at hpa
 have hdl:(u8c d).length=32:=by rw [aH,p4]
 obtain ⟨aw,haw⟩:∃a,(eP kdL root0 (l.take w)).length=a:=⟨_,rfl⟩
 rw [haw] at hpa
 have hbw:=tJ (l.take w) w jE aA (ho.take w) aw haw
 rw [<- aN7 ho w] at hbw
 have hawb:=pB (ho.take w) root0
 rw [haw,Ar] at hawb
 have hulw:=u8l haw
 have hXl:(lec ((l.take w).map clE)).length=w*65:=by rw [dZ p1,hlw]
 have hcv:IntKind.u64.wrap ((m:Int)+1)=((m+1:Nat):Int):=by rw [eN2 aA aA];rfl
 have hck:IntKind.i64.wrap (k:Int)=(k:Int):=w64 aA aA
 refine aD aB (sz:=92) Tryz.func4 rfl (by rw [Tryz.ntmps4];rfl) ?_
 repeat' (first|(refine aC ?_;intro K hK hX)|refine aY [0,1,4,5,6,7,8,10,11,12,13] ?_|((first|with_reducible refine aF ?_|with_reducible refine fI ?_);(first|refine wA ?_|refine wD ?_);refine nK (cY (eE zby rfl (hby) zcv rfl) zln) ?_)|(refine bK ?_;first|refine c0 dW ?_|refine c0 h1 ?_|refine c0 h3 ?_|refine c0 hpa ?_)|((first|((with_reducible refine bL ?_);refine xA ?_)|((with_reducible refine cO ?_);refine xD ?_));(first|((with_reducible refine oK ?_);(first|refine aJ (fC aB rfl rfl rfl rfl hcv) ?_|refine aJ (fC aB rfl rfl rfl rfl hck) ?_))|((with_reducible refine bQ ?_);(first|refine aJ (bX5 aA hke rfl rfl rfl) ?_))))|refine stA ?_|refine stD ?_|(refine aE hK hX ?_;clear hK hX K)|fail)
 refine bF [11,10] [] rfl rfl (fun i:Nat=>[(11,.c (iv i)),(10,.c (iv (min i w:Nat)))]) (fun i=>[]) (fun i=>i<=n) (fun i=>n-i) 0 (Al _) (by refine dF rfl ?_ ?_ rfl<;>(repeat' (first|exact cE|exact cG|refine bS rfl dY8 rfl ?_|refine aZ rfl dY8 rfl ?_|refine aZ rfl (by first|rfl|(first|rfl|(rw [Nat.zero_min];rfl))) cT ?_))) ?_
 intro i hi K hK hX
 by_cases hlt:i<n
 ·obtain ⟨a,ha⟩:∃a,(eP kdL root0 (l.take (i+1))).length=a:=⟨_,rfl⟩
  have hc:=w2 i hlt
  rw [ha] at hc
  have hab:=pB (ho.take (i+1)) root0
  rw [ha,Ar] at hab
  have hbi:=tJ (l.take (i+1)) (i+1) jE aA (ho.take (i+1)) a ha
  rw [<- aN7 ho (i+1)] at hbi
  have hula:=u8l ha
  by_cases hle:i+1<=w
  ·have hle2:a<=k:=hc.2 hle
   repeat' (first|(refine aC ?_;intro K hK hX)|refine dU5 ?_|(refine aE hK hX ?_;clear hK hX K)|fail)
   exact ⟨i+1,by omega,by omega,(by refine dF rfl ?_ ?_ rfl<;>(repeat' (first|exact cE|exact cG|refine bS rfl dX8 rfl ?_|refine aZ rfl dX8 rfl ?_|refine aZ rfl (by first|rfl|(first|rfl|(rw [Bp aA];rfl))) cT ?_)))⟩
  ·have hle2:¬a<=k:=fun h=>hle (hc.1 h)
   repeat' (first|(refine aC ?_;intro K hK hX)|refine dU5 ?_|(refine aE hK hX ?_;clear hK hX K)|fail)
   exact ⟨i+1,by omega,by omega,(by refine dF rfl ?_ ?_ rfl<;>(repeat' (first|exact cE|exact cG|refine bS rfl dX3 rfl ?_|refine aZ rfl dX3 rfl ?_|refine aZ rfl (by first|rfl|(first|rfl|(rw [BQ aA,BQ aA]))) cT ?_)))⟩
 have hin:min i w=w:=by omega
 rw [hin]
 repeat' (first|(refine aC ?_;intro K hK hX)|refine aY [0,1,4,5,6,7,8,10,11,12,13] ?_|((first|with_reducible refine aF ?_|with_reducible refine fI ?_);(first|refine wA ?_|refine wD ?_);refine nK (cY (eE zby rfl (hbw) zcv rfl) zln) ?_)|refine stA ?_|refine stD ?_|(refine aE hK hX ?_;clear hK hX K)|fail)
 refine bF [12] [] rfl rfl (fun i:Nat=>[(12,.c (iv i))]) (fun i=>[]) (fun i=>i<=w) (fun i=>w-i) 0 (Al _) cS ?_
 intro j hj K hK hX
 by_cases hlt:j<w
 ·obtain ⟨e,hat⟩:∃e,l[j]? = some e:=⟨_,Ab aA⟩
  have hx:=lI ho hat
  obtain ⟨ow,ok,oz⟩:=ho e (Ad hat)
  have hatc:((l.take w).map clE)[j]? = some (clE e):=by rw [Bw,AU,Ak hlt,hat];rfl
  have hxc:=lI p1 hatc
  obtain ⟨cw,ck,cz⟩:=p1 (clE e) (Ad hatc)
  obtain ⟨x,nv',ns',r,v1,v2,v3,v4,v5,hrr⟩:=aH7 e ow ok oz _ _ rfl rfl
  have hpe:=tG ow (hrd j e hat) []
  rw [A1] at hpe
  obtain rfl:r=true:=v4.2 (by rw [hpe];rfl)
  obtain ⟨t,ht⟩:=v5 rfl
  rw [hpe] at ht
  injection ht with ht
  injection ht with ht _
  subst ht v1 v2
  have hse:=aP7 (clE e) cw ck (eB3 oz) cz _ _ rfl rfl
  have hel:=eY ow
  have hel2:=eY cw
  change AC _ _ [.agg (ecR e)] (.tup [.c (.agg (ecR (clE e))),_]) _ _ at hrr
  change AC _ _ [.agg (ecR (clE e)),.agg (ecR (clE e))] _ _ _ at hse
  generalize ecR e=cs at *
  generalize ecR (clE e)=cs2 at *
  repeat' (first|(refine aC ?_;intro K hK hX)|refine aY [0,1,4,5,6,7,8,10,11,12,13] ?_|((with_reducible refine aW ?_);refine yA ?_;refine bE (aU (T:=49) aB rfl rfl rfl) rfl ?_)|(refine bK ?_;first|refine c0 hrr ?_|refine c0 hse ?_)|refine dY ?_|refine stA ?_|refine stD ?_|(refine aE hK hX ?_;clear hK hX K)|fail)
  exact ⟨j+1,by omega,by omega,cS⟩
 repeat' (first|(refine aC ?_;intro K hK hX)|refine aY [0,1,4,5,6,7,8,10,11,12,13] ?_|(refine bK ?_;refine c0 dW ?_)|refine stA ?_|refine stD ?_|(refine aE hK hX ?_;clear hK hX K)|fail)
 exact aV
theorem law_lcuts:qC' 4 [.sl 65 n (lec l),iv cut] (.c (bv true)) [] 0:=by
 by_cases hf:rY l
 ·by_cases hall:∀q,q<n->aA5 l q
  ·exact eS5 l n hn hb hw cut hf hall
  ·exact eS4 l n hn hb hw cut hf hall
 ·exact eS3 l n hn hb hw cut hf
end
end Go.Proofs.YtbgehdndimlgkaaGreat
