/- Lemmas for laws of the ledger. -/
import Derived.Test.YtbgehdndimlgkaaGreatR48
set_option linter.all false
set_option maxHeartbeats 16000000
namespace Go.Proofs.YtbgehdndimlgkaaGreat
open Go Go.RowKit Go.Av
set_option maxRecDepth 100000
theorem aI3 {l:List LEn} (h:OkL l) {i:Nat} {e:LEn} (he:l[i]? = some e) (a b:Nat) (hab:a+b<=65):((lec l).drop (i*65+a)).take b=((ecR e).drop a).take b:=by
 rw [<- jA h he,List.drop_take,Co,BC,B0 aA]
attribute [local irreducible] Still Adds AWL AW Drw bQ bT AC AWR cO Frz Go.Av.Src dF Out InK ItK AsK RdK eI eG ACT lec
section
variable (l:List LEn) (n:Nat) (hn:l.length=n) (hb:n<=1000) (hw:OkL l) (q:Nat)
include l n hn hb hw q
theorem cG9 (hq:(fX (fun e=>e.rq) 1 l).length=q):qC' 42 [.sl 65 n (lec l)] (.c (.sl 8 q ((fX (fun e=>e.rq) 1 l).flatMap rqV))) [] 0:=by
 have hll:(lec l).length=n*65:=by rw [dH hw,hn]
 obtain ⟨R,hR⟩:∃R,fX (fun e:LEn=>e.rq) 1 l=R:=⟨_,rfl⟩
 rw [hR] at hq ⊢
 obtain ⟨D,hD⟩:∃D:Nat->List _,∀i,fX (fun e:LEn=>e.rq) 1 (l.take i)=D i:=⟨_,fun _=>rfl⟩
 obtain ⟨o,ho⟩:∃o:Nat->Nat,∀i,(D i).length=o i:=⟨_,fun _=>rfl⟩
 have hDn:D n=R:=by rw [<- hD,Af aA,hR]
 have hon:o n=q:=by rw [<- ho,hDn,hq]
 have hD0:D 0=[]:=by rw [<- hD];rfl
 have ho0:o 0=0:=by rw [<- ho,hD0];rfl
 have hob:∀i,i<=n->o i<=i:=fun i hi=>by
  rw [<- ho,<- hD]
  have:=jP (fun e:LEn=>e.rq) 1 (l.take i)
  rw [Ao] at this
  omega
 have hcl:∀i,((D i).flatMap rqV).length=o i*8:=fun i=>by rw [<- ho];exact fM fun _ _=>rfl
 refine aG aB (sz:=26) Tryz.func42 rfl (by rw [Tryz.ntmps42];rfl) ?_
 repeat' (first|(refine aC ?_;intro K hK hX)|refine uM ?_|(refine aE hK hX ?_;clear hK hX K)|fail)
 refine fL 3 41 8 rfl ?_
 refine aT [4,3] [0] rfl rfl (fun i:Nat=>[(4,.c (iv i)),(3,.own 0 0 (o i) 8 true)]) (fun i=>[(0,.row 41 ((D i).flatMap rqV))]) (fun i=>i<=n) (fun i=>n-i) 0 (Ah _) dR4 ?_
 intro i hi K hK hX
 by_cases hlt:i<n
 ·obtain ⟨e,hat⟩:∃e,l[i]? = some e:=⟨_,Aa aA⟩
  have hc0:=dI hw hat 0 aP
  rw [show (ecR e)[0]? = some (iv e.k) from rfl] at hc0
  have w4:List.take 8 (List.drop (i*65+4) (lec l))=rqV ((fun e:LEn=>e.rq) e):=aI3 hw hat 4 8 aP
  have hvl:(rqV ((fun e:LEn=>e.rq) e)).length=8:=rfl
  have hs:=lB (fun e:LEn=>e.rq) 1 (l.take i) e
  rw [<- cT hat,hD,hD] at hs
  have hso:o (i+1)=(D (i+1)).length:=(ho _).symm
  have hoi:=hob i hi
  have hci:=hcl i
  have hfm:∀x,(D i++x).flatMap rqV=(D i).flatMap rqV++x.flatMap rqV:=fun x=>AH
  by_cases h3:e.k=1
  ·rw [Al h3] at hs
   rw [hs,Ab,ho] at hso
   have hsc:(D i).flatMap rqV++rqV ((fun e:LEn=>e.rq) e)=(D (i+1)).flatMap rqV:=by rw [hs,hfm];simp
   rw [h3] at hc0
   generalize rqV ((fun e:LEn=>e.rq) e)=vv at *
   repeat' (first|(refine aC ?_;intro K hK hX)|refine bT9 ?_|(refine aE hK hX ?_;clear hK hX K)|fail)
   exact ⟨i+1,by omega,by omega,(by refine eV [2] rfl rfl ?_ ?_ rfl rfl<;>(repeat' (first|exact dA|exact cM|refine cP rfl dE1 rfl ?_|refine bP rfl dE1 rfl ?_)))⟩
  ·rw [Ak h3,Ay] at hs
   rw [hs,ho] at hso
   repeat' (first|(refine aC ?_;intro K hK hX)|refine bC4 ?_|(refine aE hK hX ?_;clear hK hX K)|fail)
   exact ⟨i+1,by omega,by omega,dR7⟩
 ·have hin:i=n:=by omega
  have hoc:=hcl n
  rw [hin,hon,hDn] at *
  clear hob hcl ho0 hD0 hD ho hon hDn hin hlt hi
  repeat' (first|(refine aC ?_;intro K hK hX)|refine uM ?_|(refine aE hK hX ?_;clear hK hX K)|fail)
  exact aC0
theorem bO4 (hq:(fX (fun e=>e.lk) 6 l).length=q):qC' 44 [.sl 65 n (lec l)] (.c (.sl 10 q ((fX (fun e=>e.lk) 6 l).flatMap lkV))) [] 0:=by
 have hll:(lec l).length=n*65:=by rw [dH hw,hn]
 obtain ⟨R,hR⟩:∃R,fX (fun e:LEn=>e.lk) 6 l=R:=⟨_,rfl⟩
 rw [hR] at hq ⊢
 obtain ⟨D,hD⟩:∃D:Nat->List _,∀i,fX (fun e:LEn=>e.lk) 6 (l.take i)=D i:=⟨_,fun _=>rfl⟩
 obtain ⟨o,ho⟩:∃o:Nat->Nat,∀i,(D i).length=o i:=⟨_,fun _=>rfl⟩
 have hDn:D n=R:=by rw [<- hD,Af aA,hR]
 have hon:o n=q:=by rw [<- ho,hDn,hq]
 have hD0:D 0=[]:=by rw [<- hD];rfl
 have ho0:o 0=0:=by rw [<- ho,hD0];rfl
 have hob:∀i,i<=n->o i<=i:=fun i hi=>by
  rw [<- ho,<- hD]
  have:=jP (fun e:LEn=>e.lk) 6 (l.take i)
  rw [Ao] at this
  omega
 have hcl:∀i,((D i).flatMap lkV).length=o i*10:=fun i=>by rw [<- ho];exact fM fun _ _=>rfl
 refine aG aB (sz:=26) Tryz.func44 rfl (by rw [Tryz.ntmps44];rfl) ?_
 repeat' (first|(refine aC ?_;intro K hK hX)|refine uM ?_|(refine aE hK hX ?_;clear hK hX K)|fail)
 refine fL 3 43 10 rfl ?_
 refine aT [4,3] [0] rfl rfl (fun i:Nat=>[(4,.c (iv i)),(3,.own 0 0 (o i) 10 true)]) (fun i=>[(0,.row 43 ((D i).flatMap lkV))]) (fun i=>i<=n) (fun i=>n-i) 0 (Ah _) dR3 ?_
 intro i hi K hK hX
 by_cases hlt:i<n
 ·obtain ⟨e,hat⟩:∃e,l[i]? = some e:=⟨_,Aa aA⟩
  have hc0:=dI hw hat 0 aP
  rw [show (ecR e)[0]? = some (iv e.k) from rfl] at hc0
  have w4:List.take 10 (List.drop (i*65+12) (lec l))=lkV ((fun e:LEn=>e.lk) e):=aI3 hw hat 12 10 aP
  have hvl:(lkV ((fun e:LEn=>e.lk) e)).length=10:=rfl
  have hs:=lB (fun e:LEn=>e.lk) 6 (l.take i) e
  rw [<- cT hat,hD,hD] at hs
  have hso:o (i+1)=(D (i+1)).length:=(ho _).symm
  have hoi:=hob i hi
  have hci:=hcl i
  have hfm:∀x,(D i++x).flatMap lkV=(D i).flatMap lkV++x.flatMap lkV:=fun x=>AH
  by_cases h3:e.k=6
  ·rw [Al h3] at hs
   rw [hs,Ab,ho] at hso
   have hsc:(D i).flatMap lkV++lkV ((fun e:LEn=>e.lk) e)=(D (i+1)).flatMap lkV:=by rw [hs,hfm];simp
   rw [h3] at hc0
   generalize lkV ((fun e:LEn=>e.lk) e)=vv at *
   repeat' (first|(refine aC ?_;intro K hK hX)|refine bT9 ?_|(refine aE hK hX ?_;clear hK hX K)|fail)
   exact ⟨i+1,by omega,by omega,(by refine eV [2] rfl rfl ?_ ?_ rfl rfl<;>(repeat' (first|exact dA|exact cM|refine cP rfl dD6 rfl ?_|refine bP rfl dD6 rfl ?_)))⟩
  ·rw [Ak h3,Ay] at hs
   rw [hs,ho] at hso
   repeat' (first|(refine aC ?_;intro K hK hX)|refine bC4 ?_|(refine aE hK hX ?_;clear hK hX K)|fail)
   exact ⟨i+1,by omega,by omega,dR5⟩
 ·have hin:i=n:=by omega
  have hoc:=hcl n
  rw [hin,hon,hDn] at *
  clear hob hcl ho0 hD0 hD ho hon hDn hin hlt hi
  repeat' (first|(refine aC ?_;intro K hK hX)|refine uM ?_|(refine aE hK hX ?_;clear hK hX K)|fail)
  exact aC0
theorem bO3 (hq:(fX (fun e=>e.hd) 7 l).length=q):qC' 46 [.sl 65 n (lec l)] (.c (.sl 9 q ((fX (fun e=>e.hd) 7 l).flatMap hdV))) [] 0:=by
 have hll:(lec l).length=n*65:=by rw [dH hw,hn]
 obtain ⟨R,hR⟩:∃R,fX (fun e:LEn=>e.hd) 7 l=R:=⟨_,rfl⟩
 rw [hR] at hq ⊢
 obtain ⟨D,hD⟩:∃D:Nat->List _,∀i,fX (fun e:LEn=>e.hd) 7 (l.take i)=D i:=⟨_,fun _=>rfl⟩
 obtain ⟨o,ho⟩:∃o:Nat->Nat,∀i,(D i).length=o i:=⟨_,fun _=>rfl⟩
 have hDn:D n=R:=by rw [<- hD,Af aA,hR]
 have hon:o n=q:=by rw [<- ho,hDn,hq]
 have hD0:D 0=[]:=by rw [<- hD];rfl
 have ho0:o 0=0:=by rw [<- ho,hD0];rfl
 have hob:∀i,i<=n->o i<=i:=fun i hi=>by
  rw [<- ho,<- hD]
  have:=jP (fun e:LEn=>e.hd) 7 (l.take i)
  rw [Ao] at this
  omega
 have hcl:∀i,((D i).flatMap hdV).length=o i*9:=fun i=>by rw [<- ho];exact fM fun _ _=>rfl
 refine aG aB (sz:=26) Tryz.func46 rfl (by rw [Tryz.ntmps46];rfl) ?_
 repeat' (first|(refine aC ?_;intro K hK hX)|refine uM ?_|(refine aE hK hX ?_;clear hK hX K)|fail)
 refine fL 3 45 9 rfl ?_
 refine aT [4,3] [0] rfl rfl (fun i:Nat=>[(4,.c (iv i)),(3,.own 0 0 (o i) 9 true)]) (fun i=>[(0,.row 45 ((D i).flatMap hdV))]) (fun i=>i<=n) (fun i=>n-i) 0 (Ah _) dR6 ?_
 intro i hi K hK hX
 by_cases hlt:i<n
 ·obtain ⟨e,hat⟩:∃e,l[i]? = some e:=⟨_,Aa aA⟩
  have hc0:=dI hw hat 0 aP
  rw [show (ecR e)[0]? = some (iv e.k) from rfl] at hc0
  have w4:List.take 9 (List.drop (i*65+22) (lec l))=hdV ((fun e:LEn=>e.hd) e):=aI3 hw hat 22 9 aP
  have hvl:(hdV ((fun e:LEn=>e.hd) e)).length=9:=rfl
  have hs:=lB (fun e:LEn=>e.hd) 7 (l.take i) e
  rw [<- cT hat,hD,hD] at hs
  have hso:o (i+1)=(D (i+1)).length:=(ho _).symm
  have hoi:=hob i hi
  have hci:=hcl i
  have hfm:∀x,(D i++x).flatMap hdV=(D i).flatMap hdV++x.flatMap hdV:=fun x=>AH
  by_cases h3:e.k=7
  ·rw [Al h3] at hs
   rw [hs,Ab,ho] at hso
   have hsc:(D i).flatMap hdV++hdV ((fun e:LEn=>e.hd) e)=(D (i+1)).flatMap hdV:=by rw [hs,hfm];simp
   rw [h3] at hc0
   generalize hdV ((fun e:LEn=>e.hd) e)=vv at *
   repeat' (first|(refine aC ?_;intro K hK hX)|refine bT9 ?_|(refine aE hK hX ?_;clear hK hX K)|fail)
   exact ⟨i+1,by omega,by omega,(by refine eV [2] rfl rfl ?_ ?_ rfl rfl<;>(repeat' (first|exact dA|exact cM|refine cP rfl dE2 rfl ?_|refine bP rfl dE2 rfl ?_)))⟩
  ·rw [Ak h3,Ay] at hs
   rw [hs,ho] at hso
   repeat' (first|(refine aC ?_;intro K hK hX)|refine bC4 ?_|(refine aE hK hX ?_;clear hK hX K)|fail)
   exact ⟨i+1,by omega,by omega,dR8⟩
 ·have hin:i=n:=by omega
  have hoc:=hcl n
  rw [hin,hon,hDn] at *
  clear hob hcl ho0 hD0 hD ho hon hDn hin hlt hi
  repeat' (first|(refine aC ?_;intro K hK hX)|refine uM ?_|(refine aE hK hX ?_;clear hK hX K)|fail)
  exact aC0
end
theorem cH7 (l : List LEn) (n : Nat) (hn : l.length = n) (hb : n <= 1000) (hw : OkL l) (p : Int) (q : Nat) (hq : (kR l p).length = q) : qC' 56 [.sl 65 n (lec l), iv p] (.c (.sl 3 q (vrc (kR l p)))) [] 0 := by
  have hll : (lec l).length = n * 65 := by rw [dH hw, hn]
  have hv1 := fun i e he h hb => aS9 (l := l) (p := p) (i := i) (e := e) he h hb
  have hv2 := fun hb => aT0 (l := l) (p := p) hb
  refine aG aB (sz := 32) Tryz.func56 rfl (by rw [Tryz.ntmps56]; rfl) ?_
  repeat' (first | (refine aC ?_; intro K hK hX) | refine aJ [0, 1, 4, 5] ?_ | refine stA ?_ | (refine aE hK hX ?_; clear hK hX K) | fail)
  refine aT [5] [] rfl rfl (fun i : Nat => [(5, .c (iv i))]) (fun i => []) (fun i => i <= n /\ ∀ (j : Nat) (x : LEn), j < i -> l[j]? = some x -> ¬ (x.k = 2 /\ x.plan = p)) (fun i => n - i) 0 ⟨Ah _, fun j x h => by omega⟩ dP ?_
  rintro i ⟨hi, hno⟩ K hK hX
  by_cases hlt : i < n
  · obtain ⟨e, hat⟩ : ∃ e, l[i]? = some e := ⟨_, Aa aA⟩
    have hc0 := dI hw hat 0 aP
    rw [show (ecR e)[0]? = some (iv e.k) from rfl] at hc0
    have hc2 := dI hw hat 2 aP
    rw [show (ecR e)[2]? = some (iv e.plan) from rfl] at hc2
    have hc7 := dI hw hat 31 aP
    rw [show (ecR e)[31]? = some (.sl 3 e.vs.length (vrc e.vs)) from rfl] at hc7
    by_cases h2 : e.k = 2
    · by_cases hp : e.plan = p
      · have hv := hv1 i e hat ⟨h2, hp⟩ hno
        rw [<- hv] at hc7
        rw [hq] at hc7
        rw [h2] at hc0
        rw [hp] at hc2
        clear hv1 hv2 hv hno hw
        repeat' (first | (refine aC ?_; intro K hK hX) | refine bU2 ?_ | (refine aE hK hX ?_; clear hK hX K) | fail)
        exact bI
      · have hn' : ∀ (j : Nat) (x : LEn), j < i + 1 -> l[j]? = some x -> ¬ (x.k = 2 /\ x.plan = p) := fun j x hj hx h => by
          by_cases hji : j < i
          · exact hno j x hji hx h
          · obtain rfl : j = i := by omega
            rw [hat] at hx
            injection hx with hx
            exact hp (hx ▸ h.2)
        rw [h2] at hc0
        clear hv1 hv2 hw
        repeat' (first | (refine aC ?_; intro K hK hX) | refine bU2 ?_ | (refine aE hK hX ?_; clear hK hX K) | fail)
        exact bD9
    · have hn' : ∀ (j : Nat) (x : LEn), j < i + 1 -> l[j]? = some x -> ¬ (x.k = 2 /\ x.plan = p) := fun j x hj hx h => by
        by_cases hji : j < i
        · exact hno j x hji hx h
        · obtain rfl : j = i := by omega
          rw [hat] at hx
          injection hx with hx
          exact h2 (hx ▸ h.1)
      clear hv1 hv2 hw
      repeat' (first | (refine aC ?_; intro K hK hX) | refine bU2 ?_ | (refine aE hK hX ?_; clear hK hX K) | fail)
      exact bD9
  · have hv := hv2 fun j x hx => hno j x (by
      have := (Ad.1 hx).1
      omega) hx
    have h1 : 0 = q := by rw [<- hq, hv]; rfl
    have h2 : [] = vrc (kR l p) := by rw [hv]; rfl
    clear hv1 hv2 hv hno hw
    repeat' (first | (refine aC ?_; intro K hK hX) | refine aJ [0, 1, 4, 5] ?_ | refine stA ?_ | (refine aE hK hX ?_; clear hK hX K) | fail)
    exact dG1
theorem cH6 (l:List LEn) (n:Nat) (hn:l.length=n) (hb:n<=1000) (hw:OkL l) (q:Nat) (hq:(unfi l).length=q):qC' 52 [.sl 65 n (lec l)] (.c (.sl 1 q (bO .i64 (unfi l)))) [] 0:=by
 classical
 have hll:(lec l).length=n*65:=by rw [dH hw,hn]
 obtain ⟨D,hD⟩:∃D:Nat->List Int,∀i,ascL (fun a b:Int=>a<b) (((l.take i).filter fun e=>decide (e.k=2/\¬jK l 4 e.plan)).map (·.plan))=D i:=⟨_,fun _=>rfl⟩
 obtain ⟨o,ho⟩:∃o:Nat->Nat,∀i,(D i).length=o i:=⟨_,fun _=>rfl⟩
 have hDn:D n=unfi l:=by rw [<- hD,Af aA];rfl
 have hon:o n=q:=by rw [<- ho,hDn,hq]
 have hD0:D 0=[]:=by rw [<- hD];rfl
 have ho0:o 0=0:=by rw [<- ho,hD0];rfl
 have hol:∀i,o i<=n:=fun i=>by
  rw [<- ho,<- hD]
  refine Am (kB _) ?_
  rw [AS]
  refine Am (Bf _ _) ?_
  rw [Ao]
  omega
 have hDs:∀i,(D i).Pairwise (fun a b:Int=>a<b):=fun i=>by rw [<- hD];exact (dQ zM _).1
 refine aG aB (sz:=35) Tryz.func52 rfl (by rw [Tryz.ntmps52];rfl) ?_
 repeat' (first|(refine aC ?_;intro K hK hX)|refine uM ?_|(refine aE hK hX ?_;clear hK hX K)|fail)
 refine bB3 3 (.sl 1 0 []) rfl fT ?_
 refine aT [4,3] [] rfl rfl (fun i:Nat=>[(4,.c (iv i)),(3,.c (.sl 1 (o i) (bO .i64 (D i))))]) (fun i=>[]) (fun i=>i<=n) (fun i=>n-i) 0 (Ah _) bC9 ?_
 intro i hi K hK hX
 by_cases hlt:i<n
 ·obtain ⟨e,hat⟩:∃e,l[i]? = some e:=⟨_,Aa aA⟩
  have hc0:=dI hw hat 0 aP
  rw [show (ecR e)[0]? = some (iv e.k) from rfl] at hc0
  have hc2:=dI hw hat 2 aP
  rw [show (ecR e)[2]? = some (iv e.plan) from rfl] at hc2
  have hs:D (i+1)=if e.k=2/\¬jK l 4 e.plan then insA (fun a b:Int=>a<b) e.plan (D i) else D i:=by
   rw [<- hD,<- hD,cT hat,BN,BU]
   by_cases h:e.k=2/\¬jK l 4 e.plan
   ·rw [Al h,Bl,Al (AT h)]
    unfold ascL
    rw [Cw]
    rfl
   ·rw [Ak h,Bl,Ak lO,CY,Cp,Ay]
  by_cases h2:e.k=2
  ·by_cases hp:jK l 4 e.plan
   ·have hf:=aQ2 l n hn aA hw 4 e.plan true ⟨fun _=>hp,fun _=>rfl⟩
    rw [Ak (fun h=>h.2 hp)] at hs
    have hos:o (i+1)=o i:=by rw [<- ho,<- ho,hs]
    rw [h2] at hc0
    clear hD hDs hol
    repeat' (first|(refine aC ?_;intro K hK hX)|refine aJ [0,2,3,4] ?_|(refine dR ?_;refine c0 hf ?_)|refine cV ?_|refine stA ?_|(refine aE hK hX ?_;clear hK hX K)|fail)
    exact aB7
   ·have hf:=aQ2 l n hn aA hw 4 e.plan false ⟨fun h=>fE,fun h=>absurd h hp⟩
    rw [Al ⟨h2,hp⟩] at hs
    have hins:=aQ4 (D i) (o i) (ho i) (by have:=hol i;omega) (hDs i) e.plan (o (i+1)) (by rw [<- hs,ho])
    rw [<- hs] at hins
    rw [h2] at hc0
    clear hD hs hDs hol
    repeat' (first|(refine aC ?_;intro K hK hX)|refine aJ [0,2,3,4] ?_|(refine dR ?_;first|refine c0 hf ?_|refine c0 hins ?_)|refine cV ?_|refine stA ?_|(refine aE hK hX ?_;clear hK hX K)|fail)
    exact eQ
  ·rw [Ak (fun h=>h2 h.1)] at hs
   have hos:o (i+1)=o i:=by rw [<- ho,<- ho,hs]
   clear hD hDs hol
   repeat' (first|(refine aC ?_;intro K hK hX)|refine bC4 ?_|(refine aE hK hX ?_;clear hK hX K)|fail)
   exact aB7
 ·obtain hin:i=n:=by omega
  rw [hin,hon,hDn] at *
  repeat' (first|(refine aC ?_;intro K hK hX)|refine uM ?_|(refine aE hK hX ?_;clear hK hX K)|fail)
  exact bI
theorem aY7 (l:List LEn) (n:Nat) (hn:l.length=n) (hb:n<=1000) (hw:OkL l) (r:Nat) (hr:oB l 5=r):qC' 58 [.sl 65 n (lec l)] (.c (iv r)) [] 0:=by
 have h:=bO1 l n hn aA hw 5 r hr
 generalize lec l=L at *
 refine aG aB (sz:=5) Tryz.func58 rfl (by rw [Tryz.ntmps58];rfl) ?_
 repeat' (first|(refine aC ?_;intro K hK hX)|refine aJ [0,2] ?_|(refine dR ?_;refine c0 h ?_)|refine stA ?_|(refine aE hK hX ?_;clear hK hX K)|fail)
 exact bI
theorem bO5 (l:List Int) (n:Nat) (hn:l.length=n) (hb:n<=1000000):qC' 117 [.sl 1 n (bO .i64 l),.sl 1 n (bO .i64 l)] (.c (bv true)) [] 0:=by
 have hvl:(bO .i64 l).length=n:=by rw [dJ,hn]
 refine aG aB (sz:=26) Tryz.func117 rfl (by rw [Tryz.ntmps117];rfl) ?_
 repeat' (first|(refine aC ?_;intro K hK hX)|refine aA8 ?_|(refine aE hK hX ?_;clear hK hX K)|fail)
 refine aT [5] [] rfl rfl (fun i:Nat=>[(5,.c (iv i))]) (fun i=>[]) (fun i=>i<=n) (fun i=>n-i) 0 (Ah _) dP ?_
 intro i hi K hK hX
 by_cases hlt:i<n
 ·obtain ⟨x,hat⟩:∃x,l[i]? = some x:=⟨_,Aa aA⟩
  have hx:(bO .i64 l)[i]? = some (iv x):=by simp [bO,hat]
  repeat' (first|(refine aC ?_;intro K hK hX)|refine bE [0,1,4,5] ?_|refine dV ?_|refine stA ?_|refine stD ?_|(refine aE hK hX ?_;clear hK hX K)|fail)
  exact eQ
 ·repeat' (first|(refine aC ?_;intro K hK hX)|refine aA8 ?_|(refine aE hK hX ?_;clear hK hX K)|fail)
  exact bI
theorem aQ6 (l:List Int) (n:Nat) (hn:l.length=n) (hb:n<=1000000):qC' 51 [.sl 1 n (bO .i64 l),.sl 1 n (bO .i64 l)] (.c (bv true)) [] 0:=by
 have h:=bO5 l n hn hb
 generalize bO .i64 l=cs at *
 refine aG aB (sz:=8) Tryz.func51 rfl (by rw [Tryz.ntmps51];rfl) ?_
 repeat' (first|(refine aC ?_;intro K hK hX)|refine bU0 ?_|(refine aE hK hX ?_;clear hK hX K)|fail)
 exact bI
end Go.Proofs.YtbgehdndimlgkaaGreat
