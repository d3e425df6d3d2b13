/- Lemmas for laws of the ledger. -/
import Derived.Test.YtbgehdndimlgkaaGreatR48
set_option linter.all false
set_option maxHeartbeats 16000000
namespace Go.Proofs.YtbgehdndimlgkaaGreat
open Go Go.RowKit Go.Av
set_option maxRecDepth 100000
attribute [local irreducible] Still Adds AWL AW Drw bQ bT AC AWR cO Frz Go.Av.Src dF Out InK ItK AsK RdK eI eG ACT lec
section
variable (l:List LEn) (n:Nat) (hn:l.length=n) (hb:n<=1000) (hw:OkL l) (q:Nat)
include l n hn hb hw q
theorem cD3 (hq:(fX (fun e=>e.rq) 1 l).length=q):qC' 41 [.sl 65 n (lec l)] (.c (.sl 8 q ((fX (fun e=>e.rq) 1 l).flatMap rqV))) [] 0:=by
 have hll:(lec l).length=n*65:=by rw [dH hw,hn]
 obtain ⟨R,hR⟩:∃R,fX (fun e:LEn=>e.rq) 1 l=R:=⟨_,rfl⟩
 rw [hR] at hq ⊢
 obtain ⟨D,hD⟩:∃D:Nat->List _,∀i,fX (fun e:LEn=>e.rq) 1 (l.take i)=D i:=⟨_,fun _=>rfl⟩
 obtain ⟨o,ho⟩:∃o:Nat->Nat,∀i,(D i).length=o i:=⟨_,fun _=>rfl⟩
 have hDn:D n=R:=by rw [<- hD,Af aA,hR]
 have hon:o n=q:=by rw [<- ho,hDn,hq]
 have hD0:D 0=[]:=by rw [<- hD];rfl
 have ho0:o 0=0:=by rw [<- ho,hD0];rfl
 have hob:∀i,i<=n->o i<=i:=fun i hi=>by
  rw [<- ho,<- hD]
  have:=jP (fun e:LEn=>e.rq) 1 (l.take i)
  rw [Ao] at this
  omega
 have hcl:∀i,((D i).flatMap rqV).length=o i*8:=fun i=>by rw [<- ho];exact fM fun _ _=>rfl
 refine aG aB (sz:=5) Tryz.func41 rfl (by rw [Tryz.ntmps41];rfl) ?_
 repeat' (first|(refine aC ?_;intro K hK hX)|refine aJ [0,1,2,6,7,9,10,11,12] ?_|((first|with_reducible refine aH ?_|with_reducible refine aV ?_);refine bX aB (List.range 28) aD rfl rfl zby Tryz.func107 rfl rfl rfl (szf:=28) aG3 rfl ?_)|refine stA ?_|(refine aE hK hX ?_;clear hK hX K)|fail|(first|refine bK zio ztr rfl rfl (ResL.one (ResA.tmp rfl)) ?_|refine bJ zio ztr rfl rfl (ResL.one (ResA.tmp rfl)) ?_))
 refine fL 7 41 8 rfl ?_
 refine aT [12,7] [0] rfl rfl (fun i:Nat=>[(12,.c (iv i)),(7,.own 0 0 (o i) 8 true)]) (fun i=>[(0,.row 41 ((D i).flatMap rqV))]) (fun i=>i<=n) (fun i=>n-i) 0 (Ah _) dR4 ?_
 intro i hi K hK hX
 by_cases hlt:i<n
 ·obtain ⟨e,hat⟩:∃e,l[i]? = some e:=⟨_,Aa aA⟩
  have hx:=jA hw hat
  obtain ⟨ow,ok,oz⟩:=hw e (Ac hat)
  have hel:=eR ow
  have hc0:(ecR e)[0+0]? = some (iv e.k):=rfl
  have w4:List.take 8 (List.drop (0+4) (ecR e))=rqV ((fun e:LEn=>e.rq) e):=rfl
  have hvl:(rqV ((fun e:LEn=>e.rq) e)).length=8:=rfl
  have hs:=lB (fun e:LEn=>e.rq) 1 (l.take i) e
  rw [<- cT hat,hD,hD] at hs
  have hso:o (i+1)=(D (i+1)).length:=(ho _).symm
  have hoi:=hob i hi
  have hci:=hcl i
  have hfm:∀x,(D i++x).flatMap rqV=(D i).flatMap rqV++x.flatMap rqV:=fun x=>AH
  generalize ecR e=cs at *
  by_cases h3:e.k=1
  ·rw [Al h3] at hs
   rw [hs,Ab,ho] at hso
   have hsc:(D i).flatMap rqV++rqV ((fun e:LEn=>e.rq) e)=(D (i+1)).flatMap rqV:=by rw [hs,hfm];simp
   rw [h3] at hc0
   generalize rqV ((fun e:LEn=>e.rq) e)=vv at *
   repeat' (first|(refine aC ?_;intro K hK hX)|refine aJ [0,1,2,6,7,9,10,11,12] ?_|((with_reducible refine aX ?_);refine yA ?_;refine bL (aW (T:=49) aB rfl rfl rfl) rfl ?_)|((with_reducible refine cK ?_);refine yA ?_;refine bL (cL (T:=49) rfl) rfl ?_)|((with_reducible refine aX ?_);refine yA ?_;refine bL (aW (T:=41) aB rfl rfl rfl) rfl ?_)|((first|with_reducible refine aH ?_|with_reducible refine aV ?_);refine bX aB (List.range 28) aD rfl rfl zby Tryz.func107 rfl rfl rfl (szf:=28) aG3 rfl ?_)|((first|with_reducible refine aH ?_|with_reducible refine aV ?_);refine bX aB (List.range 28) aD rfl rfl zby Tryz.func108 rfl rfl rfl (szf:=5) (by rw [Tryz.ntmps108];rfl) rfl ?_)|refine cV ?_|refine eT ?_|refine stA ?_|(refine aE hK hX ?_;clear hK hX K)|fail|(first|refine bK zio ztr rfl rfl (ResL.one (ResA.tmp rfl)) ?_|refine bJ zio ztr rfl rfl (ResL.one (ResA.tmp rfl)) ?_)|(first|refine bK zio ztr rfl rfl (ResL.one zrs) ?_|refine bJ zio ztr rfl rfl (ResL.one zrs) ?_))
   exact ⟨i+1,by omega,by omega,(by refine eV [5] rfl rfl ?_ ?_ rfl rfl<;>(repeat' (first|exact dA|exact cM|refine cP rfl dD9 rfl ?_|refine bP rfl dD9 rfl ?_)))⟩
  ·rw [Ak h3,Ay] at hs
   rw [hs,ho] at hso
   repeat' (first|(refine aC ?_;intro K hK hX)|refine aJ [0,1,2,6,7,9,10,11,12] ?_|((with_reducible refine aX ?_);refine yA ?_;refine bL (aW (T:=49) aB rfl rfl rfl) rfl ?_)|((first|with_reducible refine aH ?_|with_reducible refine aV ?_);refine bX aB (List.range 28) aD rfl rfl zby Tryz.func107 rfl rfl rfl (szf:=28) aG3 rfl ?_)|refine cV ?_|refine eT ?_|refine stA ?_|(refine aE hK hX ?_;clear hK hX K)|fail|(first|refine bK zio ztr rfl rfl (ResL.one (ResA.tmp rfl)) ?_|refine bJ zio ztr rfl rfl (ResL.one (ResA.tmp rfl)) ?_))
   exact ⟨i+1,by omega,by omega,dR7⟩
 ·have hin:i=n:=by omega
  have hoc:=hcl n
  rw [hin,hon,hDn] at *
  clear hob hcl ho0 hD0 hD ho hon hDn hin hlt hi
  repeat' (first|(refine aC ?_;intro K hK hX)|refine aJ [0,1,2,6,7,9,10,11,12] ?_|((first|with_reducible refine aH ?_|with_reducible refine aV ?_);refine bX aB (List.range 28) aD rfl rfl zby Tryz.func107 rfl rfl rfl (szf:=28) aG3 rfl ?_)|refine stA ?_|(refine aE hK hX ?_;clear hK hX K)|fail|(first|refine bK zio ztr rfl rfl (ResL.one (ResA.tmp rfl)) ?_|refine bJ zio ztr rfl rfl (ResL.one (ResA.tmp rfl)) ?_))
  exact aC0
theorem bM8 (hq:(fX (fun e=>e.lk) 6 l).length=q):qC' 43 [.sl 65 n (lec l)] (.c (.sl 10 q ((fX (fun e=>e.lk) 6 l).flatMap lkV))) [] 0:=by
 have hll:(lec l).length=n*65:=by rw [dH hw,hn]
 obtain ⟨R,hR⟩:∃R,fX (fun e:LEn=>e.lk) 6 l=R:=⟨_,rfl⟩
 rw [hR] at hq ⊢
 obtain ⟨D,hD⟩:∃D:Nat->List _,∀i,fX (fun e:LEn=>e.lk) 6 (l.take i)=D i:=⟨_,fun _=>rfl⟩
 obtain ⟨o,ho⟩:∃o:Nat->Nat,∀i,(D i).length=o i:=⟨_,fun _=>rfl⟩
 have hDn:D n=R:=by rw [<- hD,Af aA,hR]
 have hon:o n=q:=by rw [<- ho,hDn,hq]
 have hD0:D 0=[]:=by rw [<- hD];rfl
 have ho0:o 0=0:=by rw [<- ho,hD0];rfl
 have hob:∀i,i<=n->o i<=i:=fun i hi=>by
  rw [<- ho,<- hD]
  have:=jP (fun e:LEn=>e.lk) 6 (l.take i)
  rw [Ao] at this
  omega
 have hcl:∀i,((D i).flatMap lkV).length=o i*10:=fun i=>by rw [<- ho];exact fM fun _ _=>rfl
 refine aG aB (sz:=5) Tryz.func43 rfl (by rw [Tryz.ntmps43];rfl) ?_
 repeat' (first|(refine aC ?_;intro K hK hX)|refine aJ [0,1,2,6,7,9,10,11,12] ?_|((first|with_reducible refine aH ?_|with_reducible refine aV ?_);refine bX aB (List.range 28) aD rfl rfl zby Tryz.func109 rfl rfl rfl (szf:=28) aG4 rfl ?_)|refine stA ?_|(refine aE hK hX ?_;clear hK hX K)|fail|(first|refine bK zio ztr rfl rfl (ResL.one (ResA.tmp rfl)) ?_|refine bJ zio ztr rfl rfl (ResL.one (ResA.tmp rfl)) ?_))
 refine fL 7 43 10 rfl ?_
 refine aT [12,7] [0] rfl rfl (fun i:Nat=>[(12,.c (iv i)),(7,.own 0 0 (o i) 10 true)]) (fun i=>[(0,.row 43 ((D i).flatMap lkV))]) (fun i=>i<=n) (fun i=>n-i) 0 (Ah _) dR3 ?_
 intro i hi K hK hX
 by_cases hlt:i<n
 ·obtain ⟨e,hat⟩:∃e,l[i]? = some e:=⟨_,Aa aA⟩
  have hx:=jA hw hat
  obtain ⟨ow,ok,oz⟩:=hw e (Ac hat)
  have hel:=eR ow
  have hc0:(ecR e)[0+0]? = some (iv e.k):=rfl
  have w4:List.take 10 (List.drop (0+12) (ecR e))=lkV ((fun e:LEn=>e.lk) e):=rfl
  have hvl:(lkV ((fun e:LEn=>e.lk) e)).length=10:=rfl
  have hs:=lB (fun e:LEn=>e.lk) 6 (l.take i) e
  rw [<- cT hat,hD,hD] at hs
  have hso:o (i+1)=(D (i+1)).length:=(ho _).symm
  have hoi:=hob i hi
  have hci:=hcl i
  have hfm:∀x,(D i++x).flatMap lkV=(D i).flatMap lkV++x.flatMap lkV:=fun x=>AH
  generalize ecR e=cs at *
  by_cases h3:e.k=6
  ·rw [Al h3] at hs
   rw [hs,Ab,ho] at hso
   have hsc:(D i).flatMap lkV++lkV ((fun e:LEn=>e.lk) e)=(D (i+1)).flatMap lkV:=by rw [hs,hfm];simp
   rw [h3] at hc0
   generalize lkV ((fun e:LEn=>e.lk) e)=vv at *
   repeat' (first|(refine aC ?_;intro K hK hX)|refine aJ [0,1,2,6,7,9,10,11,12] ?_|((with_reducible refine aX ?_);refine yA ?_;refine bL (aW (T:=49) aB rfl rfl rfl) rfl ?_)|((with_reducible refine cK ?_);refine yA ?_;refine bL (cL (T:=49) rfl) rfl ?_)|((with_reducible refine aX ?_);refine yA ?_;refine bL (aW (T:=43) aB rfl rfl rfl) rfl ?_)|((first|with_reducible refine aH ?_|with_reducible refine aV ?_);refine bX aB (List.range 28) aD rfl rfl zby Tryz.func109 rfl rfl rfl (szf:=28) aG4 rfl ?_)|((first|with_reducible refine aH ?_|with_reducible refine aV ?_);refine bX aB (List.range 28) aD rfl rfl zby Tryz.func110 rfl rfl rfl (szf:=5) (by rw [Tryz.ntmps110];rfl) rfl ?_)|refine cV ?_|refine eT ?_|refine stA ?_|(refine aE hK hX ?_;clear hK hX K)|fail|(first|refine bK zio ztr rfl rfl (ResL.one (ResA.tmp rfl)) ?_|refine bJ zio ztr rfl rfl (ResL.one (ResA.tmp rfl)) ?_)|(first|refine bK zio ztr rfl rfl (ResL.one zrs) ?_|refine bJ zio ztr rfl rfl (ResL.one zrs) ?_))
   exact ⟨i+1,by omega,by omega,(by refine eV [5] rfl rfl ?_ ?_ rfl rfl<;>(repeat' (first|exact dA|exact cM|refine cP rfl dD5 rfl ?_|refine bP rfl dD5 rfl ?_)))⟩
  ·rw [Ak h3,Ay] at hs
   rw [hs,ho] at hso
   repeat' (first|(refine aC ?_;intro K hK hX)|refine aJ [0,1,2,6,7,9,10,11,12] ?_|((with_reducible refine aX ?_);refine yA ?_;refine bL (aW (T:=49) aB rfl rfl rfl) rfl ?_)|((first|with_reducible refine aH ?_|with_reducible refine aV ?_);refine bX aB (List.range 28) aD rfl rfl zby Tryz.func109 rfl rfl rfl (szf:=28) aG4 rfl ?_)|refine cV ?_|refine eT ?_|refine stA ?_|(refine aE hK hX ?_;clear hK hX K)|fail|(first|refine bK zio ztr rfl rfl (ResL.one (ResA.tmp rfl)) ?_|refine bJ zio ztr rfl rfl (ResL.one (ResA.tmp rfl)) ?_))
   exact ⟨i+1,by omega,by omega,dR5⟩
 ·have hin:i=n:=by omega
  have hoc:=hcl n
  rw [hin,hon,hDn] at *
  clear hob hcl ho0 hD0 hD ho hon hDn hin hlt hi
  repeat' (first|(refine aC ?_;intro K hK hX)|refine aJ [0,1,2,6,7,9,10,11,12] ?_|((first|with_reducible refine aH ?_|with_reducible refine aV ?_);refine bX aB (List.range 28) aD rfl rfl zby Tryz.func109 rfl rfl rfl (szf:=28) aG4 rfl ?_)|refine stA ?_|(refine aE hK hX ?_;clear hK hX K)|fail|(first|refine bK zio ztr rfl rfl (ResL.one (ResA.tmp rfl)) ?_|refine bJ zio ztr rfl rfl (ResL.one (ResA.tmp rfl)) ?_))
  exact aC0
theorem bM7 (hq:(fX (fun e=>e.hd) 7 l).length=q):qC' 45 [.sl 65 n (lec l)] (.c (.sl 9 q ((fX (fun e=>e.hd) 7 l).flatMap hdV))) [] 0:=by
 have hll:(lec l).length=n*65:=by rw [dH hw,hn]
 obtain ⟨R,hR⟩:∃R,fX (fun e:LEn=>e.hd) 7 l=R:=⟨_,rfl⟩
 rw [hR] at hq ⊢
 obtain ⟨D,hD⟩:∃D:Nat->List _,∀i,fX (fun e:LEn=>e.hd) 7 (l.take i)=D i:=⟨_,fun _=>rfl⟩
 obtain ⟨o,ho⟩:∃o:Nat->Nat,∀i,(D i).length=o i:=⟨_,fun _=>rfl⟩
 have hDn:D n=R:=by rw [<- hD,Af aA,hR]
 have hon:o n=q:=by rw [<- ho,hDn,hq]
 have hD0:D 0=[]:=by rw [<- hD];rfl
 have ho0:o 0=0:=by rw [<- ho,hD0];rfl
 have hob:∀i,i<=n->o i<=i:=fun i hi=>by
  rw [<- ho,<- hD]
  have:=jP (fun e:LEn=>e.hd) 7 (l.take i)
  rw [Ao] at this
  omega
 have hcl:∀i,((D i).flatMap hdV).length=o i*9:=fun i=>by rw [<- ho];exact fM fun _ _=>rfl
 refine aG aB (sz:=5) Tryz.func45 rfl (by rw [Tryz.ntmps45];rfl) ?_
 repeat' (first|(refine aC ?_;intro K hK hX)|refine aJ [0,1,2,6,7,9,10,11,12] ?_|((first|with_reducible refine aH ?_|with_reducible refine aV ?_);refine bX aB (List.range 28) aD rfl rfl zby Tryz.func111 rfl rfl rfl (szf:=28) aG5 rfl ?_)|refine stA ?_|(refine aE hK hX ?_;clear hK hX K)|fail|(first|refine bK zio ztr rfl rfl (ResL.one (ResA.tmp rfl)) ?_|refine bJ zio ztr rfl rfl (ResL.one (ResA.tmp rfl)) ?_))
 refine fL 7 45 9 rfl ?_
 refine aT [12,7] [0] rfl rfl (fun i:Nat=>[(12,.c (iv i)),(7,.own 0 0 (o i) 9 true)]) (fun i=>[(0,.row 45 ((D i).flatMap hdV))]) (fun i=>i<=n) (fun i=>n-i) 0 (Ah _) dR6 ?_
 intro i hi K hK hX
 by_cases hlt:i<n
 ·obtain ⟨e,hat⟩:∃e,l[i]? = some e:=⟨_,Aa aA⟩
  have hx:=jA hw hat
  obtain ⟨ow,ok,oz⟩:=hw e (Ac hat)
  have hel:=eR ow
  have hc0:(ecR e)[0+0]? = some (iv e.k):=rfl
  have w4:List.take 9 (List.drop (0+22) (ecR e))=hdV ((fun e:LEn=>e.hd) e):=rfl
  have hvl:(hdV ((fun e:LEn=>e.hd) e)).length=9:=rfl
  have hs:=lB (fun e:LEn=>e.hd) 7 (l.take i) e
  rw [<- cT hat,hD,hD] at hs
  have hso:o (i+1)=(D (i+1)).length:=(ho _).symm
  have hoi:=hob i hi
  have hci:=hcl i
  have hfm:∀x,(D i++x).flatMap hdV=(D i).flatMap hdV++x.flatMap hdV:=fun x=>AH
  generalize ecR e=cs at *
  by_cases h3:e.k=7
  ·rw [Al h3] at hs
   rw [hs,Ab,ho] at hso
   have hsc:(D i).flatMap hdV++hdV ((fun e:LEn=>e.hd) e)=(D (i+1)).flatMap hdV:=by rw [hs,hfm];simp
   rw [h3] at hc0
   generalize hdV ((fun e:LEn=>e.hd) e)=vv at *
   repeat' (first|(refine aC ?_;intro K hK hX)|refine aJ [0,1,2,6,7,9,10,11,12] ?_|((with_reducible refine aX ?_);refine yA ?_;refine bL (aW (T:=49) aB rfl rfl rfl) rfl ?_)|((with_reducible refine cK ?_);refine yA ?_;refine bL (cL (T:=49) rfl) rfl ?_)|((with_reducible refine aX ?_);refine yA ?_;refine bL (aW (T:=45) aB rfl rfl rfl) rfl ?_)|((first|with_reducible refine aH ?_|with_reducible refine aV ?_);refine bX aB (List.range 28) aD rfl rfl zby Tryz.func111 rfl rfl rfl (szf:=28) aG5 rfl ?_)|((first|with_reducible refine aH ?_|with_reducible refine aV ?_);refine bX aB (List.range 28) aD rfl rfl zby Tryz.func112 rfl rfl rfl (szf:=5) (by rw [Tryz.ntmps112];rfl) rfl ?_)|refine cV ?_|refine eT ?_|refine stA ?_|(refine aE hK hX ?_;clear hK hX K)|fail|(first|refine bK zio ztr rfl rfl (ResL.one (ResA.tmp rfl)) ?_|refine bJ zio ztr rfl rfl (ResL.one (ResA.tmp rfl)) ?_)|(first|refine bK zio ztr rfl rfl (ResL.one zrs) ?_|refine bJ zio ztr rfl rfl (ResL.one zrs) ?_))
   exact ⟨i+1,by omega,by omega,(by refine eV [5] rfl rfl ?_ ?_ rfl rfl<;>(repeat' (first|exact dA|exact cM|refine cP rfl dE0 rfl ?_|refine bP rfl dE0 rfl ?_)))⟩
  ·rw [Ak h3,Ay] at hs
   rw [hs,ho] at hso
   repeat' (first|(refine aC ?_;intro K hK hX)|refine aJ [0,1,2,6,7,9,10,11,12] ?_|((with_reducible refine aX ?_);refine yA ?_;refine bL (aW (T:=49) aB rfl rfl rfl) rfl ?_)|((first|with_reducible refine aH ?_|with_reducible refine aV ?_);refine bX aB (List.range 28) aD rfl rfl zby Tryz.func111 rfl rfl rfl (szf:=28) aG5 rfl ?_)|refine cV ?_|refine eT ?_|refine stA ?_|(refine aE hK hX ?_;clear hK hX K)|fail|(first|refine bK zio ztr rfl rfl (ResL.one (ResA.tmp rfl)) ?_|refine bJ zio ztr rfl rfl (ResL.one (ResA.tmp rfl)) ?_))
   exact ⟨i+1,by omega,by omega,dR8⟩
 ·have hin:i=n:=by omega
  have hoc:=hcl n
  rw [hin,hon,hDn] at *
  clear hob hcl ho0 hD0 hD ho hon hDn hin hlt hi
  repeat' (first|(refine aC ?_;intro K hK hX)|refine aJ [0,1,2,6,7,9,10,11,12] ?_|((first|with_reducible refine aH ?_|with_reducible refine aV ?_);refine bX aB (List.range 28) aD rfl rfl zby Tryz.func111 rfl rfl rfl (szf:=28) aG5 rfl ?_)|refine stA ?_|(refine aE hK hX ?_;clear hK hX K)|fail|(first|refine bK zio ztr rfl rfl (ResL.one (ResA.tmp rfl)) ?_|refine bJ zio ztr rfl rfl (ResL.one (ResA.tmp rfl)) ?_))
  exact aC0
end
theorem cD5 (l : List LEn) (n : Nat) (hn : l.length = n) (hb : n <= 1000) (hw : OkL l) (p : Int) (q : Nat) (hq : (kR l p).length = q) : qC' 55 [.sl 65 n (lec l), iv p] (.c (.sl 3 q (vrc (kR l p)))) [] 0 := by
  have hll : (lec l).length = n * 65 := by rw [dH hw, hn]
  have hv1 := fun i e he h hb => aS9 (l := l) (p := p) (i := i) (e := e) he h hb
  have hv2 := fun hb => aT0 (l := l) (p := p) hb
  refine aG aB (sz := 26) Tryz.func55 rfl (by rw [Tryz.ntmps55]; rfl) ?_
  repeat' (first | (refine aC ?_; intro K hK hX) | refine aJ [0, 1, 4, 6, 7, 8, 9] ?_ | refine stA ?_ | (refine aE hK hX ?_; clear hK hX K) | fail)
  refine aT [9] [] rfl rfl (fun i : Nat => [(9, .c (iv i))]) (fun i => []) (fun i => i <= n /\ ∀ (j : Nat) (x : LEn), j < i -> l[j]? = some x -> ¬ (x.k = 2 /\ x.plan = p)) (fun i => n - i) 0 ⟨Ah _, fun j x h => by omega⟩ dP ?_
  rintro i ⟨hi, hno⟩ K hK hX
  by_cases hlt : i < n
  · obtain ⟨e, hat⟩ : ∃ e, l[i]? = some e := ⟨_, Aa aA⟩
    have hx := jA hw hat
    obtain ⟨ow, ok, oz⟩ := hw e (Ac hat)
    have hel := eR ow
    have hc0 : (ecR e)[0 + 0]? = some (iv e.k) := rfl
    have hc2 : (ecR e)[0 + 2]? = some (iv e.plan) := rfl
    have hc7 : (ecR e)[0 + 31]? = some (.sl 3 e.vs.length (vrc e.vs)) := rfl
    by_cases h2 : e.k = 2
    · by_cases hp : e.plan = p
      · have hv := hv1 i e hat ⟨h2, hp⟩ hno
        have hz := oz.vs
        have hq' : e.vs.length = q := by rw [<- hv, hq]
        have hcl := xF e.vs q hq' aA
        rw [<- hv] at hc7 hcl
        rw [hq] at hc7
        rw [h2] at hc0
        rw [hp] at hc2
        clear hv1 hv2 hv hno hw hz hq'
        generalize ecR e = cs at *
        repeat' (first | (refine aC ?_; intro K hK hX) | refine aJ [0, 1, 4, 6, 7, 8, 9] ?_ | ((with_reducible refine aX ?_); refine yA ?_; refine bL (aW (T := 49) aB rfl rfl rfl) rfl ?_) | (refine dR ?_; refine c0 hcl ?_) | refine cV ?_ | refine eT ?_ | refine stA ?_ | (refine aE hK hX ?_; clear hK hX K) | fail)
        exact bI
      · have hn' : ∀ (j : Nat) (x : LEn), j < i + 1 -> l[j]? = some x -> ¬ (x.k = 2 /\ x.plan = p) := fun j x hj hjx h => by
          by_cases hji : j < i
          · exact hno j x hji hjx h
          · obtain rfl : j = i := by omega
            rw [hat] at hjx
            injection hjx with hjx
            exact hp (hjx ▸ h.2)
        rw [h2] at hc0
        clear hv1 hv2 hw
        generalize ecR e = cs at *
        repeat' (first | (refine aC ?_; intro K hK hX) | refine dA6 ?_ | (refine aE hK hX ?_; clear hK hX K) | fail)
        exact bD9
    · have hn' : ∀ (j : Nat) (x : LEn), j < i + 1 -> l[j]? = some x -> ¬ (x.k = 2 /\ x.plan = p) := fun j x hj hjx h => by
        by_cases hji : j < i
        · exact hno j x hji hjx h
        · obtain rfl : j = i := by omega
          rw [hat] at hjx
          injection hjx with hjx
          exact h2 (hjx ▸ h.1)
      clear hv1 hv2 hw
      generalize ecR e = cs at *
      repeat' (first | (refine aC ?_; intro K hK hX) | refine dA6 ?_ | (refine aE hK hX ?_; clear hK hX K) | fail)
      exact bD9
  · have hv := hv2 fun j x hx => hno j x (by
      have := (Ad.1 hx).1
      omega) hx
    have h1 : 0 = q := by rw [<- hq, hv]; rfl
    have h2 : [] = vrc (kR l p) := by rw [hv]; rfl
    clear hv1 hv2 hv hno hw
    repeat' (first | (refine aC ?_; intro K hK hX) | refine aJ [0, 1, 4, 6, 7, 8, 9] ?_ | refine stA ?_ | (refine aE hK hX ?_; clear hK hX K) | fail)
    exact dG1
theorem cD4 (l:List LEn) (n:Nat) (hn:l.length=n) (hb:n<=1000) (hw:OkL l) (r:Nat) (hr:oB l 5=r):qC' 57 [.sl 65 n (lec l)] (.c (iv r)) [] 0:=by
 have hll:(lec l).length=n*65:=by rw [dH hw,hn]
 obtain ⟨o,ho⟩:∃o:Nat->Nat,∀i,oB (l.take i) 5=o i:=⟨_,fun _=>rfl⟩
 have hon:o n=r:=by rw [<- ho,Af aA,hr]
 have ho0:o 0=0:=by rw [<- ho];rfl
 have hob:∀i,o i<=n:=fun i=>by
  rw [<- ho]
  unfold oB
  refine Am (Bf _ _) ?_
  rw [Ao]
  omega
 refine aG aB (sz:=19) Tryz.func57 rfl (by rw [Tryz.ntmps57];rfl) ?_
 repeat' (first|(refine aC ?_;intro K hK hX)|refine aA9 ?_|(refine aE hK hX ?_;clear hK hX K)|fail)
 refine aT [8,3] [] rfl rfl (fun i:Nat=>[(8,.c (iv i)),(3,.c (iv (o i)))]) (fun i=>[]) (fun i=>i<=n) (fun i=>n-i) 0 (Ah _) (by refine cE rfl ?_ ?_ rfl<;>(repeat' (first|exact bF|exact bG|refine bC rfl (by first|rfl|(first|rfl|(rw [ho0];rfl))|exact zeq) rfl ?_|refine aN rfl (by first|rfl|(first|rfl|(rw [ho0];rfl))|exact zeq) rfl ?_|refine aN rfl (by first|rfl|(first|rfl|(rw [ho0];rfl))) bM ?_))) ?_
 intro i hi K hK hX
 by_cases hlt:i<n
 ·obtain ⟨e,hat⟩:∃e,l[i]? = some e:=⟨_,Aa aA⟩
  have hx:=jA hw hat
  obtain ⟨ow,ok,oz⟩:=hw e (Ac hat)
  have hel:=eR ow
  have hc0:(ecR e)[0+0]? = some (iv e.k):=rfl
  have hs:=iM (l.take i) e 5
  rw [<- cT hat,ho,ho] at hs
  have hoi:=hob i
  clear hw hob ho
  generalize ecR e=cs at *
  by_cases h3:e.k=5
  ·rw [Al h3] at hs
   rw [h3] at hc0
   repeat' (first|(refine aC ?_;intro K hK hX)|refine aA7 ?_|(refine aE hK hX ?_;clear hK hX K)|fail)
   exact ⟨i+1,by omega,by omega,(by refine cE rfl ?_ ?_ rfl<;>(repeat' (first|exact bF|exact bG|refine bC rfl (by first|rfl|(first|rfl|(rw [hs];rfl))|exact zeq) rfl ?_|refine aN rfl (by first|rfl|(first|rfl|(rw [hs];rfl))|exact zeq) rfl ?_|refine aN rfl (by first|rfl|(first|rfl|(rw [hs];rfl))) bM ?_)))⟩
  ·rw [Ak h3] at hs
   have hs:o (i+1)=o i:=hs
   repeat' (first|(refine aC ?_;intro K hK hX)|refine aA7 ?_|(refine aE hK hX ?_;clear hK hX K)|fail)
   exact ⟨i+1,by omega,by omega,dB9⟩
 ·have hin:i=n:=by omega
  rw [hin,hon] at *
  repeat' (first|(refine aC ?_;intro K hK hX)|refine aA9 ?_|(refine aE hK hX ?_;clear hK hX K)|fail)
  exact bI
end Go.Proofs.YtbgehdndimlgkaaGreat
