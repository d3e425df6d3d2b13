/- Lemmas for laws of the ledger. -/
import Derived.Test.YtbgehdndimlgkaaGreatR45
import Derived.Test.YtbgehdndimlgkaaGreatR47
import Derived.Test.YtbgehdndimlgkaaGreatR49
import Derived.Test.YtbgehdndimlgkaaGreatR50
set_option linter.all false
set_option maxHeartbeats 16000000
namespace Go.Proofs.YtbgehdndimlgkaaGreat
open Go Go.RowKit Go.Av
set_option maxRecDepth 100000
theorem bY1 {l:List LEn} (p:Int):(doneS l p).length<=l.length:=by
 unfold doneS
 refine Am (kB _) ?_
 rw [AS]
 exact Bf _ _
open Classical in
theorem cX6 {l:List LEn}:(unfi l).length<=l.length:=by
 unfold unfi
 refine Am (kB _) ?_
 rw [AS]
 exact Bf _ _
attribute [local irreducible] Still Adds AWL AW Drw bQ bT AC AWR cO Frz Go.Av.Src dF Out InK ItK AsK RdK eI eG ACT ACA fD ACG fJ lec
section
variable (l:List LEn) (n:Nat) (hn:l.length=n) (hb:n<=maxLen) (hw:∀e∈l,(e.wf/\aS e.k)/\e.vw) (p:Int)
include l n hn hb hw p
theorem dU8 (hf:¬cP7 l):qC' 11 [.sl 65 n (lec l),iv p] (.c (bv true)) [] 0:=by
 have h1:=cA9 l n hn hb (fun e he=>(hw e he).1.1) false ⟨fun h=>fE,fun h=>absurd h hf⟩
 generalize lec l=L at *
 refine aG aB (sz:=141) Tryz.func11 rfl (by rw [Tryz.ntmps11];rfl) ?_
 repeat' (first|(refine aC ?_;intro K hK hX)|refine bE [0,1,4,5,6,7,8,9,10,11,12,13] ?_|(refine dU ?_;first|refine c0 wX ?_|refine c0 h1 ?_)|refine stA ?_|refine stD ?_|(refine aE hK hX ?_;clear hK hX K)|fail)
 exact bI
theorem dU9 (hf:cP7 l):qC' 11 [.sl 65 n (lec l),iv p] (.c (bv true)) [] 0:=by
 have h1:=cA9 l n hn hb (fun e he=>(hw e he).1.1) true ⟨fun _=>hf,fun _=>rfl⟩
 have ho:OkL l:=fun e he=>⟨(hw e he).1.1,(hw e he).1.2,aZ8 (hf.2 e he)⟩
 have hlf:∀e∈l,e.lf:=fun e he=>dU6 (hw e he).2 (hf.2 e he)
 have hn16:n<=16:=by have:=hf.1;omega
 obtain ⟨q1,e1⟩:∃q,(fX (fun e=>e.rq) 1 l).length=q:=⟨_,rfl⟩
 obtain ⟨q2,e2⟩:∃q,(fX (fun e=>e.lk) 6 l).length=q:=⟨_,rfl⟩
 obtain ⟨q3,e3⟩:∃q,(fX (fun e=>e.hd) 7 l).length=q:=⟨_,rfl⟩
 obtain ⟨q4,e4⟩:∃q,(erasV l).length=q:=⟨_,rfl⟩
 obtain ⟨q5,e5⟩:∃q,(erasS l).length=q:=⟨_,rfl⟩
 obtain ⟨q6,e6⟩:∃q,(unfi l).length=q:=⟨_,rfl⟩
 obtain ⟨q7,e7⟩:∃q,(doneS l p).length=q:=⟨_,rfl⟩
 obtain ⟨q8,e8⟩:∃q,(kR l p).length=q:=⟨_,rfl⟩
 obtain ⟨q9,e9⟩:∃q,oB l 5=q:=⟨_,rfl⟩
 have a1:=cD3 l n hn aA ho q1 e1
 have a2:=cG9 l n hn aA ho q1 e1
 have a3:=bM8 l n hn aA ho q2 e2
 have a4:=bO4 l n hn aA ho q2 e2
 have a5:=bM7 l n hn aA ho q3 e3
 have a6:=bO3 l n hn aA ho q3 e3
 have b1:=aC6 l n hn aA ho q4 e4
 have b2:=aY4 l n hn aA ho q4 e4
 have y4:=cA7 ho
 have y5:=cA6 ho
 have b3:=aQ7 (erasV l) q4 e4 aA (cD9 ho)
 have b4:=aY1 l n hn aA ho q5 e5
 have b5:=aQ5 l n hn aA ho q5 e5
 have b6:=cH0 (erasS l) q5 e5 aA (cD8 ho)
 have b7:=cX7 l n hn aA ho q6 e6
 have b8:=cH6 l n hn aA ho q6 e6
 have b9:=aQ6 (unfi l) q6 e6 (by have:=cX6 (l:=l);omega)
 have c1':=cO8 l n hn aA ho p q7 e7
 have c2':=cG3 l n hn aA ho p q7 e7
 have c3':=aQ6 (doneS l p) q7 e7 (by have:=bY1 (l:=l) p;omega)
 obtain ⟨y8,z8⟩:=cL0 ho p
 have c4':=cD5 l n hn aA ho p q8 e8
 have c5':=cH7 l n hn aA ho p q8 e8
 have c6':=aQ7 (kR l p) q8 e8 aA z8
 have c7':=cD4 l n hn aA ho q9 e9
 have c8':=aY7 l n hn aA ho q9 e9
 have hx1:∀x:LRq,rqV x=x.vl.map CV.v:=fun _=>rfl
 have hx2:∀x:LLk,lkV x=x.vl.map CV.v:=fun _=>rfl
 have hx3:∀x:LHd,hdV x=x.vl.map CV.v:=fun _=>rfl
 have l1:∀x∈fX (fun e=>e.rq) 1 l,LfL [.i .i64,.s,.i .i64,.i .i64,.s,.i .i64,.i .i64,.i .i64] x.vl:=fun x hx=>by
  obtain ⟨e,he,rfl⟩:=zK hx
  have w:=(hw e he).1.1
  exact dU7 (hlf e he).rq w.rq.1 w.rq.2.1 w.rq.2.2.1 w.rq.2.2.2
 have l2:∀x∈fX (fun e=>e.lk) 6 l,LfL [.s,.i .i64,.i .i64,.s,.s,.i .i64,.i .i64,.s,.i .i64,.b] x.vl:=fun x hx=>by
  obtain ⟨e,he,rfl⟩:=zK hx
  exact dU5 (hlf e he).la (hlf e he).lb (hw e he).1.1.lk
 have l3:∀x∈fX (fun e=>e.hd) 7 l,LfL [.i .i64,.i .i64,.s,.i .i64,.i .i64,.s,.i .i64,.i .i64,.i .i64] x.vl:=fun x hx=>by
  obtain ⟨e,he,rfl⟩:=zK hx
  have w:=(hw e he).1.1.hd
  exact dU4 (hlf e he).hd w.1 w.2.1 w.2.2.1 w.2.2.2.1 w.2.2.2.2
 have n1:q1<=16:=by have:=jP (fun e=>e.rq) 1 l;omega
 have n2:q2<=16:=by have:=jP (fun e=>e.lk) 6 l;omega
 have n3:q3<=16:=by have:=jP (fun e=>e.hd) 7 l;omega
 have m1:((fX (fun e=>e.rq) 1 l).flatMap rqV).length=q1*8:=by rw [<- e1];exact fM fun _ _=>rfl
 have m2:((fX (fun e=>e.lk) 6 l).flatMap lkV).length=q2*10:=by rw [<- e2];exact fM fun _ _=>rfl
 have m3:((fX (fun e=>e.hd) 7 l).flatMap hdV).length=q3*9:=by rw [<- e3];exact fM fun _ _=>rfl
 clear hw hf ho hlf y4 y5 e4 e5 e6 e7 e8 e9 y8 z8
 generalize fX (fun e=>e.rq) 1 l=S1 at *
 generalize fX (fun e=>e.lk) 6 l=S2 at *
 generalize fX (fun e=>e.hd) 7 l=S3 at *
 generalize vrc (erasV l)=X1 at *
 generalize src (erasS l)=X2 at *
 generalize bO .i64 (unfi l)=X3 at *
 generalize bO .i64 (doneS l p)=X4 at *
 generalize vrc (kR l p)=X5 at *
 generalize lec l=L at *
 refine aG aB (sz:=141) Tryz.func11 rfl (by rw [Tryz.ntmps11];rfl) ?_
 repeat' (first|(refine aC ?_;intro K hK hX)|refine bE [0,1,4,5,6,7,8,9,10,11,12,13] ?_|(refine dU ?_;first|refine c0 h1 ?_|refine c0 a1 ?_|refine c0 a2 ?_|refine c0 a3 ?_|refine c0 a4 ?_|refine c0 a5 ?_|refine c0 a6 ?_)|refine stA ?_|refine stD ?_|(refine aE hK hX ?_;clear hK hX K)|fail)
 clear a1 a2 a3 a4 a5 a6
 refine aT [11] [] rfl rfl (fun i:Nat=>[(11,.c (iv i))]) (fun i=>[]) (fun i=>i<=q1) (fun i=>q1-i) 0 (Ah _) dP ?_
 intro i hi K hK hX
 by_cases hlt:i<q1
 ·obtain ⟨x,hat⟩:∃x,S1[i]? = some x:=⟨_,Aa aA⟩
  have hx:=mZ (f:=rqV) (k:=8) (fun _ _=>rfl) hat
  have lx:=l1 x (Ac hat)
  repeat' (first|(refine aC ?_;intro K hK hX)|refine bE [0,1,4,5,6,7,8,9,10,11,12,13] ?_|((first|((with_reducible refine bU ?_);refine xA ?_)|((with_reducible refine cR ?_);refine xD ?_));(first|((with_reducible refine bR ?_);(first|refine aI (pJ aM (m:=6) rfl aM aM aM aM aM rfl rfl (hx1 x) (hx1 x) lx lx wO) ?_))))|refine fG ?_|refine stA ?_|refine stD ?_|(refine aE hK hX ?_;clear hK hX K)|fail)
  exact eQ
 have hin:i=q1:=by omega
 rw [hin] at *
 repeat' (first|(refine aC ?_;intro K hK hX)|refine bE [0,1,4,5,6,7,8,9,10,11,12,13] ?_|refine stA ?_|refine stD ?_|(refine aE hK hX ?_;clear hK hX K)|fail)
 refine aT [12] [] rfl rfl (fun i:Nat=>[(12,.c (iv i))]) (fun i=>[]) (fun i=>i<=q2) (fun i=>q2-i) 0 (Ah _) dP ?_
 intro j hi K hK hX
 by_cases hlt:j<q2
 ·obtain ⟨x,hat⟩:∃x,S2[j]? = some x:=⟨_,Aa aA⟩
  have hx:=mZ (f:=lkV) (k:=10) (fun _ _=>rfl) hat
  have lx:=l2 x (Ac hat)
  repeat' (first|(refine aC ?_;intro K hK hX)|refine bE [0,1,4,5,6,7,8,9,10,11,12,13] ?_|((first|((with_reducible refine bU ?_);refine xA ?_)|((with_reducible refine cR ?_);refine xD ?_));(first|((with_reducible refine bR ?_);(first|refine aI (pJ aM (m:=6) rfl aM aM aM aM aM rfl rfl (hx2 x) (hx2 x) lx lx wO) ?_))))|refine fG ?_|refine stA ?_|refine stD ?_|(refine aE hK hX ?_;clear hK hX K)|fail)
  exact ⟨j+1,by omega,by omega,dP⟩
 have hin:j=q2:=by omega
 rw [hin] at *
 repeat' (first|(refine aC ?_;intro K hK hX)|refine bE [0,1,4,5,6,7,8,9,10,11,12,13] ?_|refine stA ?_|refine stD ?_|(refine aE hK hX ?_;clear hK hX K)|fail)
 refine aT [13] [] rfl rfl (fun i:Nat=>[(13,.c (iv i))]) (fun i=>[]) (fun i=>i<=q3) (fun i=>q3-i) 0 (Ah _) dP ?_
 intro k hi K hK hX
 by_cases hlt:k<q3
 ·obtain ⟨x,hat⟩:∃x,S3[k]? = some x:=⟨_,Aa aA⟩
  have hx:=mZ (f:=hdV) (k:=9) (fun _ _=>rfl) hat
  have lx:=l3 x (Ac hat)
  repeat' (first|(refine aC ?_;intro K hK hX)|refine bE [0,1,4,5,6,7,8,9,10,11,12,13] ?_|((first|((with_reducible refine bU ?_);refine xA ?_)|((with_reducible refine cR ?_);refine xD ?_));(first|((with_reducible refine bR ?_);(first|refine aI (pJ aM (m:=6) rfl aM aM aM aM aM rfl rfl (hx3 x) (hx3 x) lx lx wO) ?_))))|refine fG ?_|refine stA ?_|refine stD ?_|(refine aE hK hX ?_;clear hK hX K)|fail)
  exact ⟨k+1,by omega,by omega,dP⟩
 have hin:k=q3:=by omega
 rw [hin] at *
 clear l1 l2 l3 hx1 hx2 hx3
 repeat' (first|(refine aC ?_;intro K hK hX)|refine bE [0,1,4,5,6,7,8,9,10,11,12,13] ?_|(refine dU ?_;first|refine c0 b1 ?_|refine c0 b2 ?_|refine c0 b3 ?_|refine c0 b4 ?_|refine c0 b5 ?_|refine c0 b6 ?_|refine c0 b7 ?_|refine c0 b8 ?_|refine c0 b9 ?_|refine c0 c1' ?_|refine c0 c2' ?_|refine c0 c3' ?_|refine c0 c4' ?_|refine c0 c5' ?_|refine c0 c6' ?_|refine c0 c7' ?_|refine c0 c8' ?_|refine c0 wX ?_)|refine stA ?_|refine stD ?_|(refine aE hK hX ?_;clear hK hX K)|fail)
 exact bI
theorem law_lfolds:qC' 11 [.sl 65 n (lec l),iv p] (.c (bv true)) [] 0:=by
 by_cases h:cP7 l
 ·exact dU9 l n hn hb hw p h
 ·exact dU8 l n hn hb hw p h
end
end Go.Proofs.YtbgehdndimlgkaaGreat
