/- Lemmas for laws of the ledger. -/
import Derived.Test.YtbgehdndimlgkaaGreatS28
set_option linter.all false
namespace Go.Proofs.YtbgehdndimlgkaaGreat
open Go Go.RowKit Go.Av
set_option maxRecDepth 100000
attribute [local irreducible] Still Adds AWL AW Drw bX bY AC AWR cU Frz Go.Av.Src cQ Out InK ItK AsK RdK eP eI ACT ACA eW ACG fL AWS lec
set_option maxHeartbeats 32000000 in
theorem eH6 (n:Nat) (C cs:D1) (k day plan step rk:Int) (vs:List Ver) (ss:List Src) (nv ns:Nat) (hF:FoC n C cs k day plan step rk vs ss nv ns) (op:Bool) (k2:k=2) (EV:List Ver) (q1:Nat) (hq1:EV.length=q1) (hqb1:q1<=1000000) (hev:∀x∈EV,oG x) (hvs:∀x∈vs,oG x) (her:qC' 48 [.sl 65 n C] (.c (.sl 3 q1 (vrc EV))) [] 0) (hallV:∀q,q<nv->kZ ltV EV vs q) (ES:List Src) (q2:Nat) (hq2:ES.length=q2) (hqb2:q2<=1000000) (hes:∀x∈ES,sP x) (hss:∀x∈ss,sP x) (hrm:qC' 50 [.sl 65 n C] (.c (.sl 2 q2 (src ES))) [] 0) (hallS:∀q,q<ns->kZ ltS ES ss q) (m:Nat) (hm:m<=1000000) (hct:qC' 86 [.sl 65 n C,iv 2] (.c (iv m)) [] 0) (r:Bool) (hr:r=true↔plan=(m:Int)/\0<nv+ns/\q1+nv<=512/\q2+ns<=512) (cs':D1):qW' 223 foR (cQ Tryz.prog tab Tryz.f27.results.toList (.c (bv r)) [] 0) 2 [(0,.c (.sl 65 n C)),(3,.ref 0 0),(4,.c (bv false)),(7,.c (bv op))] [(1,.row 49 cs'),(0,.row 49 cs)] []:=by
 obtain ⟨hn,hC,hl,hnv,hns,hb1,hb2,hc0,hc1,hc2,hc3,hc4,hc31,hc32⟩:=hF
 unfold foR
 conv in fM _=>whnf
 have no:¬(plan=(m:Int)/\0<nv+ns/\q1+nv<=512/\q2+ns<=512)->r=false:=fun h=>by cases r;rfl;exact absurd (hr.1 rfl) h
 have hvl:(vrc vs).length=nv*3:=by rw [dC,hnv]
 have hsl:(src ss).length=ns*2:=by rw [dV,hns]
 repeat' (first|(refine aC ?_;intro K hK hX)|refine cE4 ?_|(refine aG hK hX ?_;clear hK hX K)|fail)
 refine bH [9] [] rfl rfl (fun i:Nat=>[(9,.c (iv i))]) (fun i=>[]) (fun i=>i<=nv) (fun i=>nv-i) 0 (Am _) dF ?_
 intro i hi K hK hX
 by_cases hlt:i<nv
 ·have hg:=hallV i hlt
  obtain ⟨v,hat⟩:∃v,vs[i]? = some v:=⟨_,Ab aA⟩
  have hx:=eG hat
  have hok:=hvs v (Af hat)
  have hm:=(hg v hat).1
  have hhas:=rO EV q1 hq1 hqb1 hev v hok false ⟨fun h=>eS,fun h=>absurd h hm⟩
  by_cases h0:i=0
  ·clear hg
   repeat' (first|(refine aC ?_;intro K hK hX)|refine zP ?_|(refine aG hK hX ?_;clear hK hX K)|fail)
   exact dS
  ·obtain ⟨u,hau⟩:∃u,vs[i-1]? = some u:=⟨_,Ab aA⟩
   have hxu:=eG hau
   rw [show i-1=((i:Int)-1).toNat from by omega] at hxu
   have huv:=(hg v hat).2 u aA hau
   have hle:=kQ u v true ⟨fun _=>huv,fun _=>rfl⟩
   clear hg
   repeat' (first|(refine aC ?_;intro K hK hX)|refine zO ?_|(refine aG hK hX ?_;clear hK hX K)|fail)
   exact dS
 ·repeat' (first|(refine aC ?_;intro K hK hX)|refine dN9 ?_|(refine aG hK hX ?_;clear hK hX K)|fail)
  refine bH [11] [] rfl rfl (fun i:Nat=>[(11,.c (iv i))]) (fun i=>[]) (fun i=>i<=ns) (fun i=>ns-i) 0 (Am _) dF ?_
  intro i hi K hK hX
  by_cases hlt:i<ns
  ·have hg:=hallS i hlt
   obtain ⟨v,hat⟩:∃v,ss[i]? = some v:=⟨_,Ab aA⟩
   have hx:=eV hat
   have hok:=hss v (Af hat)
   have hm:=(hg v hat).1
   have hhas:=sJ ES q2 hq2 hqb2 hes v hok false ⟨fun h=>eS,fun h=>absurd h hm⟩
   by_cases h0:i=0
   ·clear hg
    repeat' (first|(refine aC ?_;intro K hK hX)|refine zP ?_|(refine aG hK hX ?_;clear hK hX K)|fail)
    exact dS
   ·obtain ⟨u,hau⟩:∃u,ss[i-1]? = some u:=⟨_,Ab aA⟩
    have hxu:=eV hau
    rw [show i-1=((i:Int)-1).toNat from by omega] at hxu
    have huv:=(hg v hat).2 u aA hau
    have hle:=oL u v true ⟨fun _=>huv,fun _=>rfl⟩
    clear hg
    repeat' (first|(refine aC ?_;intro K hK hX)|refine zO ?_|(refine aG hK hX ?_;clear hK hX K)|fail)
    exact dS
  ·by_cases d1:plan=(m:Int)
   ·by_cases d2:0<nv+ns
    ·by_cases d3:q1+nv<=512
     ·by_cases d4:q2+ns<=512
      ·have hb:r=true:=hr.2 ⟨d1,d2,d3,d4⟩
       have hres:CV.v (.bool (decide ((q2:Int)+(ns:Int)<=512)))=bv r:=by rw [hb,AP aA]
       repeat' (first|(refine aC ?_;intro K hK hX)|refine wX ?_|(refine aG hK hX ?_;clear hK hX K)|fail)
       exact aU9
      ·have hb:r=false:=no fun h=>d4 h.2.2.2
       have hres:CV.v (.bool (decide ((q2:Int)+(ns:Int)<=512)))=bv r:=by rw [hb,Bi aA]
       repeat' (first|(refine aC ?_;intro K hK hX)|refine wX ?_|(refine aG hK hX ?_;clear hK hX K)|fail)
       exact aU9
     ·have hb:r=false:=no fun h=>d3 h.2.2.1
      repeat' (first|(refine aC ?_;intro K hK hX)|refine wX ?_|(refine aG hK hX ?_;clear hK hX K)|fail)
      exact aU9
    ·have hb:r=false:=no fun h=>d2 h.2.1
     repeat' (first|(refine aC ?_;intro K hK hX)|refine wX ?_|(refine aG hK hX ?_;clear hK hX K)|fail)
     exact aU9
   ·have hb:r=false:=no fun h=>d1 h.1
    repeat' (first|(refine aC ?_;intro K hK hX)|refine wX ?_|(refine aG hK hX ?_;clear hK hX K)|fail)
    exact aU9
end Go.Proofs.YtbgehdndimlgkaaGreat
