/- Lemmas for laws of the ledger. -/
import Derived.Test.YtbgehdndimlgkaaGreatR29
import Derived.Test.YtbgehdndimlgkaaGreatR30
import Derived.Test.YtbgehdndimlgkaaGreatR31
set_option linter.all false
namespace Go.Proofs.YtbgehdndimlgkaaGreat
open Go Go.RowKit Go.Av
set_option maxRecDepth 100000
attribute [local irreducible] Still Adds AWL AW Drw bQ bT AC AWR cO Frz Go.Av.Src dF Out InK ItK AsK RdK eI eG ACT ACA fD ACG fJ AWS lec
theorem cG3 (l:List LEn) (n:Nat) (hn:l.length=n) (hb:n<=1000000) (hw:OkL l) (p:Int) (q:Nat) (hq:(doneS l p).length=q):qC' 54 [.sl 65 n (lec l),iv p] (.c (.sl 1 q (bO .i64 (doneS l p)))) [] 0:=by
 have hll:(lec l).length=n*65:=by rw [dH hw,hn]
 obtain ⟨D,hD⟩:∃D:Nat->List Int,∀i,doneS (l.take i) p=D i:=⟨_,fun _=>rfl⟩
 obtain ⟨o,ho⟩:∃o:Nat->Nat,∀i,(D i).length=o i:=⟨_,fun _=>rfl⟩
 have hDn:D n=doneS l p:=by rw [<- hD,Af aA]
 have hon:o n=q:=by rw [<- ho,hDn,hq]
 have hD0:D 0=[]:=by rw [<- hD];rfl
 have ho0:o 0=0:=by rw [<- ho,hD0];rfl
 refine aG aB (sz:=36) Tryz.func54 rfl (by rw [Tryz.ntmps54];rfl) ?_
 repeat' (first|(refine aC ?_;intro K hK hX)|refine aM2 ?_|(refine aE hK hX ?_;clear hK hX K)|fail)
 refine bB3 5 (.sl 1 0 []) rfl fT ?_
 refine aT [6,5] [] rfl rfl (fun i:Nat=>[(6,.c (iv i)),(5,.c (.sl 1 (o i) (bO .i64 (D i))))]) (fun i=>[]) (fun i=>i<=n) (fun i=>n-i) 0 (Ah _) bC9 ?_
 intro i hi K hK hX
 by_cases hlt:i<n
 ·obtain ⟨e,hat⟩:∃e,l[i]? = some e:=⟨_,Aa aA⟩
  have hk0:=dI hw hat 0 aP
  rw [show (ecR e)[0]? = some (iv e.k) from rfl] at hk0
  have hk2:=dI hw hat 2 aP
  rw [show (ecR e)[2]? = some (iv e.plan) from rfl] at hk2
  have hk3:=dI hw hat 3 aP
  rw [show (ecR e)[3]? = some (iv e.step) from rfl] at hk3
  have hs:D (i+1)=if e.k=3/\e.plan=p then insA (fun a b:Int=>a<b) e.step (D i) else D i:=by rw [<- hD,<- hD,cT hat,aV8]
  by_cases h3:e.k=3
  ·by_cases hp:e.plan=p
   ·rw [Al ⟨h3,hp⟩] at hs
    have hol:o i<=1000000:=by
     have:=kB (lt:=fun a b:Int=>a<b) (((l.take i).filter fun e=>decide (e.k=3/\e.plan=p)).map (·.step))
     have h2:(doneS (l.take i) p).length<=i:=by
      refine Am this ?_
      rw [AS]
      refine Am (Bf _ _) ?_
      rw [Ao]
      omega
     rw [hD,ho] at h2
     omega
    have hins:=aQ4 (D i) (o i) (ho i) hol (by rw [<- hD];exact (dQ zM _).1) e.step (o (i+1)) (by rw [<- hs,ho])
    rw [<- hs] at hins
    clear hD hs
    repeat' (first|(refine aC ?_;intro K hK hX)|refine aJ [0,1,4,5,6] ?_|(refine dR ?_;refine c0 hins ?_)|refine cV ?_|refine stA ?_|(refine aE hK hX ?_;clear hK hX K)|fail)
    exact eQ
   ·rw [Ak (fun h=>hp h.2)] at hs
    have hos:o (i+1)=o i:=by rw [<- ho,<- ho,hs]
    clear hD
    repeat' (first|(refine aC ?_;intro K hK hX)|refine bC2 ?_|(refine aE hK hX ?_;clear hK hX K)|fail)
    exact aB7
  ·rw [Ak (fun h=>h3 h.1)] at hs
   have hos:o (i+1)=o i:=by rw [<- ho,<- ho,hs]
   clear hD
   repeat' (first|(refine aC ?_;intro K hK hX)|refine bC2 ?_|(refine aE hK hX ?_;clear hK hX K)|fail)
   exact aB7
 ·obtain hin:i=n:=by omega
  rw [hin,hon,hDn] at *
  repeat' (first|(refine aC ?_;intro K hK hX)|refine aM2 ?_|(refine aE hK hX ?_;clear hK hX K)|fail)
  exact bI
end Go.Proofs.YtbgehdndimlgkaaGreat
