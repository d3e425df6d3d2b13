/- Lemmas for laws of the ledger. -/
import Derived.Test.YtbgehdndimlgkaaGreatS26
import Derived.Test.YtbgehdndimlgkaaGreatS27
set_option linter.all false
set_option maxHeartbeats 16000000
namespace Go.Proofs.YtbgehdndimlgkaaGreat
open Go Go.RowKit Go.Av
set_option maxRecDepth 100000
noncomputable def foR:Code:=fM (fM (fM (fM (Tryz.f27.body.getD .skip))))
attribute [local irreducible] Still Adds AWL AW Drw bX bY AC AWR cU Frz Go.Av.Src cQ Out InK ItK AsK RdK eP eI ACT ACA eW ACG fL AWS lec
structure FoC (n:Nat) (C cs:D1) (k day plan step rk:Int) (vs:List Ver) (ss:List Src) (nv ns:Nat):Prop where
 hn:n<=1000
 hC:C.length=n*65
 hl:cs.length=65
 hnv:vs.length=nv
 hns:ss.length=ns
 hb1:nv<=1000
 hb2:ns<=1000
 hc0:cs[0]? = some (iv k)
 hc1:cs[1]? = some (iv day)
 hc2:cs[2]? = some (iv plan)
 hc3:cs[3]? = some (iv step)
 hc4:cs[4]? = some (iv rk)
 hc31:cs[31]? = some (.sl 3 nv (vrc vs))
 hc32:cs[32]? = some (.sl 2 ns (src ss))
section
variable (n:Nat) (C cs:D1) (k day plan step rk:Int) (vs:List Ver) (ss:List Src) (nv ns:Nat) (hF:FoC n C cs k day plan step rk vs ss nv ns)
include n C cs k day plan step rk vs ss nv ns hF
theorem eH1 (op:Bool) (k1:k=1) (h:rk<1) (cs':D1):qW' 223 foR (cQ Tryz.prog tab Tryz.f27.results.toList (.c (bv false)) [] 0) 2 [(0,.c (.sl 65 n C)),(3,.ref 0 0),(4,.c (bv false)),(7,.c (bv op))] [(1,.row 49 cs'),(0,.row 49 cs)] []:=by
 obtain ⟨hn,hC,hl,hnv,hns,hb1,hb2,hc0,hc1,hc2,hc3,hc4,hc31,hc32⟩:=hF
 unfold foR
 conv in fM _=>whnf
 repeat' (first|(refine aC ?_;intro K hK hX)|refine mD ?_|(refine aG hK hX ?_;clear hK hX K)|fail)
 exact aY
theorem eH2 (op:Bool) (k1:k=1) (h:¬rk<1) (h':3<rk) (cs':D1):qW' 223 foR (cQ Tryz.prog tab Tryz.f27.results.toList (.c (bv false)) [] 0) 2 [(0,.c (.sl 65 n C)),(3,.ref 0 0),(4,.c (bv false)),(7,.c (bv op))] [(1,.row 49 cs'),(0,.row 49 cs)] []:=by
 obtain ⟨hn,hC,hl,hnv,hns,hb1,hb2,hc0,hc1,hc2,hc3,hc4,hc31,hc32⟩:=hF
 unfold foR
 conv in fM _=>whnf
 repeat' (first|(refine aC ?_;intro K hK hX)|refine mD ?_|(refine aG hK hX ?_;clear hK hX K)|fail)
 exact aY
theorem eH3 (op:Bool) (k1:k=1) (h:¬rk<1) (h':¬3<rk) (cs':D1):qW' 223 foR (cQ Tryz.prog tab Tryz.f27.results.toList (.c (bv true)) [] 0) 2 [(0,.c (.sl 65 n C)),(3,.ref 0 0),(4,.c (bv false)),(7,.c (bv op))] [(1,.row 49 cs'),(0,.row 49 cs)] []:=by
 obtain ⟨hn,hC,hl,hnv,hns,hb1,hb2,hc0,hc1,hc2,hc3,hc4,hc31,hc32⟩:=hF
 unfold foR
 conv in fM _=>whnf
 repeat' (first|(refine aC ?_;intro K hK hX)|refine mD ?_|(refine aG hK hX ?_;clear hK hX K)|fail)
 exact aY
theorem eR4 (op:Bool) (k4:k=4) (cs':D1):qW' 223 foR (cQ Tryz.prog tab Tryz.f27.results.toList (.c (bv op)) [] 0) 2 [(0,.c (.sl 65 n C)),(3,.ref 0 0),(4,.c (bv false)),(7,.c (bv op))] [(1,.row 49 cs'),(0,.row 49 cs)] []:=by
 obtain ⟨hn,hC,hl,hnv,hns,hb1,hb2,hc0,hc1,hc2,hc3,hc4,hc31,hc32⟩:=hF
 unfold foR
 conv in fM _=>whnf
 repeat' (first|(refine aC ?_;intro K hK hX)|refine mD ?_|(refine aG hK hX ?_;clear hK hX K)|fail)
 exact aY
theorem eR5 (op:Bool) (k6:6<=k) (cs':D1):qW' 223 foR (cQ Tryz.prog tab Tryz.f27.results.toList (.c (bv true)) [] 0) 2 [(0,.c (.sl 65 n C)),(3,.ref 0 0),(4,.c (bv false)),(7,.c (bv op))] [(1,.row 49 cs'),(0,.row 49 cs)] []:=by
 obtain ⟨hn,hC,hl,hnv,hns,hb1,hb2,hc0,hc1,hc2,hc3,hc4,hc31,hc32⟩:=hF
 unfold foR
 conv in fM _=>whnf
 repeat' (first|(refine aC ?_;intro K hK hX)|refine mD ?_|(refine aG hK hX ?_;clear hK hX K)|fail)
 exact aY
theorem eI2 (op:Bool) (k5:k=5) (m:Nat) (hm:m<=1000000) (hct:qC' 86 [.sl 65 n C,iv 5] (.c (iv m)) [] 0) (h:¬step=(m:Int)) (cs':D1):qW' 223 foR (cQ Tryz.prog tab Tryz.f27.results.toList (.c (bv false)) [] 0) 2 [(0,.c (.sl 65 n C)),(3,.ref 0 0),(4,.c (bv false)),(7,.c (bv op))] [(1,.row 49 cs'),(0,.row 49 cs)] []:=by
 obtain ⟨hn,hC,hl,hnv,hns,hb1,hb2,hc0,hc1,hc2,hc3,hc4,hc31,hc32⟩:=hF
 unfold foR
 conv in fM _=>whnf
 repeat' (first|(refine aC ?_;intro K hK hX)|refine wX ?_|(refine aG hK hX ?_;clear hK hX K)|fail)
 exact aY
theorem eI3 (op:Bool) (k5:k=5) (m:Nat) (hm:m<=1000000) (hct:qC' 86 [.sl 65 n C,iv 5] (.c (iv m)) [] 0) (h:step=(m:Int)) (h':4<=step) (cs':D1):qW' 223 foR (cQ Tryz.prog tab Tryz.f27.results.toList (.c (bv false)) [] 0) 2 [(0,.c (.sl 65 n C)),(3,.ref 0 0),(4,.c (bv false)),(7,.c (bv op))] [(1,.row 49 cs'),(0,.row 49 cs)] []:=by
 obtain ⟨hn,hC,hl,hnv,hns,hb1,hb2,hc0,hc1,hc2,hc3,hc4,hc31,hc32⟩:=hF
 unfold foR
 conv in fM _=>whnf
 repeat' (first|(refine aC ?_;intro K hK hX)|refine wX ?_|(refine aG hK hX ?_;clear hK hX K)|fail)
 exact aY
theorem eI4 (op:Bool) (k5:k=5) (m:Nat) (hm:m<=1000000) (hct:qC' 86 [.sl 65 n C,iv 5] (.c (iv m)) [] 0) (h:step=(m:Int)) (h':step<4) (cs':D1):qW' 223 foR (cQ Tryz.prog tab Tryz.f27.results.toList (.c (bv true)) [] 0) 2 [(0,.c (.sl 65 n C)),(3,.ref 0 0),(4,.c (bv false)),(7,.c (bv op))] [(1,.row 49 cs'),(0,.row 49 cs)] []:=by
 obtain ⟨hn,hC,hl,hnv,hns,hb1,hb2,hc0,hc1,hc2,hc3,hc4,hc31,hc32⟩:=hF
 unfold foR
 conv in fM _=>whnf
 repeat' (first|(refine aC ?_;intro K hK hX)|refine wX ?_|(refine aG hK hX ?_;clear hK hX K)|fail)
 exact aY
theorem eH7 (op:Bool) (k3:k=3) (DN:List Int) (q:Nat) (hq:DN.length=q) (hqb:q<=1000000) (hdn:qC' 54 [.sl 65 n C,iv plan] (.c (.sl 1 q (dE .i64 DN))) [] 0) (hm:step∈DN) (cs':D1):qW' 223 foR (cQ Tryz.prog tab Tryz.f27.results.toList (.c (bv false)) [] 0) 2 [(0,.c (.sl 65 n C)),(3,.ref 0 0),(4,.c (bv false)),(7,.c (bv op))] [(1,.row 49 cs'),(0,.row 49 cs)] []:=by
 obtain ⟨hn,hC,hl,hnv,hns,hb1,hb2,hc0,hc1,hc2,hc3,hc4,hc31,hc32⟩:=hF
 unfold foR
 conv in fM _=>whnf
 have hil:(dE .i64 DN).length=q:=by rw [fF,hq]
 have hat:∀{i:Nat} {x:Int},DN[i]? = some x->(dE .i64 DN)[i]? = some (iv x):=fun h=>by unfold dE;rw [Bv,h];rfl
 obtain ⟨j0,hj,hne⟩:=tZ hm
 have hjq:j0<q:=by rw [<- hq];exact (Ag.1 hj).1
 repeat' (first|(refine aC ?_;intro K hK hX)|refine aT5 ?_|(refine aG hK hX ?_;clear hK hX K)|fail)
 refine bH [13] [] rfl rfl (fun i:Nat=>[(13,.c (iv i))]) (fun i=>[]) (fun i=>i<=j0) (fun i=>j0-i) 0 (Am _) dF ?_
 intro i hi K hK hX
 by_cases hlt:i<j0
 ·obtain ⟨x,hxt⟩:∃x,DN[i]? = some x:=⟨_,Ab aA⟩
  have hx:=hat hxt
  have hno:=hne i x hlt hxt
  repeat' (first|(refine aC ?_;intro K hK hX)|refine mD ?_|(refine aG hK hX ?_;clear hK hX K)|fail)
  exact dS
 ·have hij:i=j0:=by omega
  rw [hij]
  have hx:=hat hj
  repeat' (first|(refine aC ?_;intro K hK hX)|refine mD ?_|(refine aG hK hX ?_;clear hK hX K)|fail)
  exact aY
theorem eH8 (k3:k=3) (DN:List Int) (q:Nat) (hq:DN.length=q) (hqb:q<=1000000) (hdn:qC' 54 [.sl 65 n C,iv plan] (.c (.sl 1 q (dE .i64 DN))) [] 0) (hm:step∉DN) (cs':D1):qW' 223 foR (cQ Tryz.prog tab Tryz.f27.results.toList (.c (bv false)) [] 0) 2 [(0,.c (.sl 65 n C)),(3,.ref 0 0),(4,.c (bv false)),(7,.c (bv false))] [(1,.row 49 cs'),(0,.row 49 cs)] []:=by
 obtain ⟨hn,hC,hl,hnv,hns,hb1,hb2,hc0,hc1,hc2,hc3,hc4,hc31,hc32⟩:=hF
 unfold foR
 conv in fM _=>whnf
 have hil:(dE .i64 DN).length=q:=by rw [fF,hq]
 have hat:∀{i:Nat} {x:Int},DN[i]? = some x->(dE .i64 DN)[i]? = some (iv x):=fun h=>by unfold dE;rw [Bv,h];rfl
 repeat' (first|(refine aC ?_;intro K hK hX)|refine aT5 ?_|(refine aG hK hX ?_;clear hK hX K)|fail)
 refine bH [13] [] rfl rfl (fun i:Nat=>[(13,.c (iv i))]) (fun i=>[]) (fun i=>i<=q) (fun i=>q-i) 0 (Am _) dF ?_
 intro i hi K hK hX
 by_cases hlt:i<q
 ·obtain ⟨x,hxt⟩:∃x,DN[i]? = some x:=⟨_,Ab aA⟩
  have hx:=hat hxt
  have hno:¬x=step:=fun h=>hm aU1
  repeat' (first|(refine aC ?_;intro K hK hX)|refine mD ?_|(refine aG hK hX ?_;clear hK hX K)|fail)
  exact dS
 ·repeat' (first|(refine aC ?_;intro K hK hX)|refine mD ?_|(refine aG hK hX ?_;clear hK hX K)|fail)
  exact aY
theorem eH9 (k3:k=3) (DN:List Int) (q:Nat) (hq:DN.length=q) (hqb:q<=1000000) (hdn:qC' 54 [.sl 65 n C,iv plan] (.c (.sl 1 q (dE .i64 DN))) [] 0) (hm:step∉DN) (h1:step<0) (cs':D1):qW' 223 foR (cQ Tryz.prog tab Tryz.f27.results.toList (.c (bv false)) [] 0) 2 [(0,.c (.sl 65 n C)),(3,.ref 0 0),(4,.c (bv false)),(7,.c (bv true))] [(1,.row 49 cs'),(0,.row 49 cs)] []:=by
 obtain ⟨hn,hC,hl,hnv,hns,hb1,hb2,hc0,hc1,hc2,hc3,hc4,hc31,hc32⟩:=hF
 unfold foR
 conv in fM _=>whnf
 have hil:(dE .i64 DN).length=q:=by rw [fF,hq]
 have hat:∀{i:Nat} {x:Int},DN[i]? = some x->(dE .i64 DN)[i]? = some (iv x):=fun h=>by unfold dE;rw [Bv,h];rfl
 repeat' (first|(refine aC ?_;intro K hK hX)|refine aT5 ?_|(refine aG hK hX ?_;clear hK hX K)|fail)
 refine bH [13] [] rfl rfl (fun i:Nat=>[(13,.c (iv i))]) (fun i=>[]) (fun i=>i<=q) (fun i=>q-i) 0 (Am _) dF ?_
 intro i hi K hK hX
 by_cases hlt:i<q
 ·obtain ⟨x,hxt⟩:∃x,DN[i]? = some x:=⟨_,Ab aA⟩
  have hx:=hat hxt
  have hno:¬x=step:=fun h=>hm aU1
  repeat' (first|(refine aC ?_;intro K hK hX)|refine mD ?_|(refine aG hK hX ?_;clear hK hX K)|fail)
  exact dS
 ·repeat' (first|(refine aC ?_;intro K hK hX)|refine mD ?_|(refine aG hK hX ?_;clear hK hX K)|fail)
  exact aY
theorem eI0 (k3:k=3) (DN:List Int) (q:Nat) (hq:DN.length=q) (hqb:q<=1000000) (hdn:qC' 54 [.sl 65 n C,iv plan] (.c (.sl 1 q (dE .i64 DN))) [] 0) (hm:step∉DN) (h1:¬step<0) (h2:128<=step) (cs':D1):qW' 223 foR (cQ Tryz.prog tab Tryz.f27.results.toList (.c (bv false)) [] 0) 2 [(0,.c (.sl 65 n C)),(3,.ref 0 0),(4,.c (bv false)),(7,.c (bv true))] [(1,.row 49 cs'),(0,.row 49 cs)] []:=by
 obtain ⟨hn,hC,hl,hnv,hns,hb1,hb2,hc0,hc1,hc2,hc3,hc4,hc31,hc32⟩:=hF
 unfold foR
 conv in fM _=>whnf
 have hil:(dE .i64 DN).length=q:=by rw [fF,hq]
 have hat:∀{i:Nat} {x:Int},DN[i]? = some x->(dE .i64 DN)[i]? = some (iv x):=fun h=>by unfold dE;rw [Bv,h];rfl
 repeat' (first|(refine aC ?_;intro K hK hX)|refine aT5 ?_|(refine aG hK hX ?_;clear hK hX K)|fail)
 refine bH [13] [] rfl rfl (fun i:Nat=>[(13,.c (iv i))]) (fun i=>[]) (fun i=>i<=q) (fun i=>q-i) 0 (Am _) dF ?_
 intro i hi K hK hX
 by_cases hlt:i<q
 ·obtain ⟨x,hxt⟩:∃x,DN[i]? = some x:=⟨_,Ab aA⟩
  have hx:=hat hxt
  have hno:¬x=step:=fun h=>hm aU1
  repeat' (first|(refine aC ?_;intro K hK hX)|refine mD ?_|(refine aG hK hX ?_;clear hK hX K)|fail)
  exact dS
 ·repeat' (first|(refine aC ?_;intro K hK hX)|refine mD ?_|(refine aG hK hX ?_;clear hK hX K)|fail)
  exact aY
theorem eI1 (k3:k=3) (DN:List Int) (q:Nat) (hq:DN.length=q) (hqb:q<=1000000) (hdn:qC' 54 [.sl 65 n C,iv plan] (.c (.sl 1 q (dE .i64 DN))) [] 0) (hm:step∉DN) (h1:¬step<0) (h2:step<128) (cs':D1):qW' 223 foR (cQ Tryz.prog tab Tryz.f27.results.toList (.c (bv true)) [] 0) 2 [(0,.c (.sl 65 n C)),(3,.ref 0 0),(4,.c (bv false)),(7,.c (bv true))] [(1,.row 49 cs'),(0,.row 49 cs)] []:=by
 obtain ⟨hn,hC,hl,hnv,hns,hb1,hb2,hc0,hc1,hc2,hc3,hc4,hc31,hc32⟩:=hF
 unfold foR
 conv in fM _=>whnf
 have hil:(dE .i64 DN).length=q:=by rw [fF,hq]
 have hat:∀{i:Nat} {x:Int},DN[i]? = some x->(dE .i64 DN)[i]? = some (iv x):=fun h=>by unfold dE;rw [Bv,h];rfl
 repeat' (first|(refine aC ?_;intro K hK hX)|refine aT5 ?_|(refine aG hK hX ?_;clear hK hX K)|fail)
 refine bH [13] [] rfl rfl (fun i:Nat=>[(13,.c (iv i))]) (fun i=>[]) (fun i=>i<=q) (fun i=>q-i) 0 (Am _) dF ?_
 intro i hi K hK hX
 by_cases hlt:i<q
 ·obtain ⟨x,hxt⟩:∃x,DN[i]? = some x:=⟨_,Ab aA⟩
  have hx:=hat hxt
  have hno:¬x=step:=fun h=>hm aU1
  repeat' (first|(refine aC ?_;intro K hK hX)|refine mD ?_|(refine aG hK hX ?_;clear hK hX K)|fail)
  exact dS
 ·repeat' (first|(refine aC ?_;intro K hK hX)|refine mD ?_|(refine aG hK hX ?_;clear hK hX K)|fail)
  exact aY
theorem eG7 (cs':D1) (hl':cs'.length=65) (hrd:qC' 19 [.agg cs] (.tup [.c (.agg cs'),.c (bv false)]) [] 0)  : qC' 27 [.sl 65 n C,.agg cs] (.c (bv false)) [] 0:=by
 obtain ⟨hn,hC,hl,hnv,hns,hb1,hb2,hc0,hc1,hc2,hc3,hc4,hc31,hc32⟩:=hF
 refine aD aB (sz:=223) Tryz.func27 rfl nM ?_
 repeat' (first|(refine aC ?_;intro K hK hX)|refine bK9 ?_|(refine aG hK hX ?_;clear hK hX K)|fail)
 exact aY
theorem eG8 (cs':D1) (hl':cs'.length=65) (hrd:qC' 19 [.agg cs] (.tup [.c (.agg cs'),.c (bv true)]) [] 0) (h:day<0):qC' 27 [.sl 65 n C,.agg cs] (.c (bv false)) [] 0:=by
 obtain ⟨hn,hC,hl,hnv,hns,hb1,hb2,hc0,hc1,hc2,hc3,hc4,hc31,hc32⟩:=hF
 refine aD aB (sz:=223) Tryz.func27 rfl nM ?_
 repeat' (first|(refine aC ?_;intro K hK hX)|refine bK9 ?_|(refine aG hK hX ?_;clear hK hX K)|fail)
 exact aY
theorem eG9 (cs':D1) (hl':cs'.length=65) (hrd:qC' 19 [.agg cs] (.tup [.c (.agg cs'),.c (bv true)]) [] 0) (h:¬day<0) (h':1048576<day):qC' 27 [.sl 65 n C,.agg cs] (.c (bv false)) [] 0:=by
 obtain ⟨hn,hC,hl,hnv,hns,hb1,hb2,hc0,hc1,hc2,hc3,hc4,hc31,hc32⟩:=hF
 refine aD aB (sz:=223) Tryz.func27 rfl nM ?_
 repeat' (first|(refine aC ?_;intro K hK hX)|refine bK9 ?_|(refine aG hK hX ?_;clear hK hX K)|fail)
 exact aY
theorem eH0 (cs':D1) (hl':cs'.length=65) (hrd:qC' 19 [.agg cs] (.tup [.c (.agg cs'),.c (bv true)]) [] 0) (h:¬day<0) (h':¬1048576<day) (ld:Int) (h0:0<n) (hld:C[((n:Int)-1).toNat*65+1]? = some (iv ld)) (h3:day<ld):qC' 27 [.sl 65 n C,.agg cs] (.c (bv false)) [] 0:=by
 obtain ⟨hn,hC,hl,hnv,hns,hb1,hb2,hc0,hc1,hc2,hc3,hc4,hc31,hc32⟩:=hF
 refine aD aB (sz:=223) Tryz.func27 rfl nM ?_
 repeat' (first|(refine aC ?_;intro K hK hX)|refine bK9 ?_|(refine aG hK hX ?_;clear hK hX K)|fail)
 exact aY
theorem eI5 (cs':D1) (hl':cs'.length=65) (hrd:qC' 19 [.agg cs] (.tup [.c (.agg cs'),.c (bv true)]) [] 0) (h:¬day<0) (h':¬1048576<day) (h0:n=0) (b2 b4:Bool) (hf2:qC' 83 [.sl 65 n C,iv 2,iv plan] (.c (bv b2)) [] 0) (hf4:qC' 83 [.sl 65 n C,iv 4,iv plan] (.c (bv b4)) [] 0) (r:Bool) (hnx:qW' 223 foR (cQ Tryz.prog tab Tryz.f27.results.toList (.c (bv r)) [] 0) 2 [(0,.c (.sl 65 n C)),(3,.ref 0 0),(4,.c (bv false)),(7,.c (bv (b2 && !b4)))] [(1,.row 49 cs'),(0,.row 49 cs)] []):qC' 27 [.sl 65 n C,.agg cs] (.c (bv r)) [] 0:=by
 obtain ⟨hn,hC,hl,hnv,hns,hb1,hb2,hc0,hc1,hc2,hc3,hc4,hc31,hc32⟩:=hF
 refine aD aB (sz:=223) Tryz.func27 rfl nM ?_
 cases b2
 ·repeat' (first|(with_reducible refine vQ 5 ?_)|(with_reducible refine vR 5 ?_)|(with_reducible refine cut3 5 ?_)|(refine aC ?_;intro K hK hX)|refine bE [0,1,3,4,6,7,8,9,10,11,12,13,60] ?_|((with_reducible refine bM ?_);refine yA ?_;refine bC (bN rfl) rfl ?_)|((with_reducible refine aW ?_);refine yA ?_;refine bC (aR (T:=49) aB rfl rfl rfl) rfl ?_)|(refine bZ ?_;first|refine c0 hrd ?_|refine c0 hf2 ?_|refine c0 hf4 ?_)|refine cH ?_|refine stA ?_|refine stD ?_|(refine aG hK hX ?_;clear hK hX K)|fail)
  refine kK ?_
  refine aP [0,3,4,7] rfl rfl ?_
  exact hnx
 ·cases b4
  ·repeat' (first|(with_reducible refine vQ 5 ?_)|(with_reducible refine vR 5 ?_)|(with_reducible refine cut3 5 ?_)|(refine aC ?_;intro K hK hX)|refine bE [0,1,3,4,6,7,8,9,10,11,12,13,60] ?_|((with_reducible refine bM ?_);refine yA ?_;refine bC (bN rfl) rfl ?_)|((with_reducible refine aW ?_);refine yA ?_;refine bC (aR (T:=49) aB rfl rfl rfl) rfl ?_)|(refine bZ ?_;first|refine c0 hrd ?_|refine c0 hf2 ?_|refine c0 hf4 ?_)|refine cH ?_|refine stA ?_|refine stD ?_|(refine aG hK hX ?_;clear hK hX K)|fail)
   refine kK ?_
   refine aP [0,3,4,7] rfl rfl ?_
   exact hnx
  ·repeat' (first|(with_reducible refine vQ 5 ?_)|(with_reducible refine vR 5 ?_)|(with_reducible refine cut3 5 ?_)|(refine aC ?_;intro K hK hX)|refine bE [0,1,3,4,6,7,8,9,10,11,12,13,60] ?_|((with_reducible refine bM ?_);refine yA ?_;refine bC (bN rfl) rfl ?_)|((with_reducible refine aW ?_);refine yA ?_;refine bC (aR (T:=49) aB rfl rfl rfl) rfl ?_)|(refine bZ ?_;first|refine c0 hrd ?_|refine c0 hf2 ?_|refine c0 hf4 ?_)|refine cH ?_|refine stA ?_|refine stD ?_|(refine aG hK hX ?_;clear hK hX K)|fail)
   refine kK ?_
   refine aP [0,3,4,7] rfl rfl ?_
   exact hnx
theorem eI6 (cs':D1) (hl':cs'.length=65) (hrd:qC' 19 [.agg cs] (.tup [.c (.agg cs'),.c (bv true)]) [] 0) (h:¬day<0) (h':¬1048576<day) (ld:Int) (h0:0<n) (hld:C[((n:Int)-1).toNat*65+1]? = some (iv ld)) (h3:¬day<ld) (b2 b4:Bool) (hf2:qC' 83 [.sl 65 n C,iv 2,iv plan] (.c (bv b2)) [] 0) (hf4:qC' 83 [.sl 65 n C,iv 4,iv plan] (.c (bv b4)) [] 0) (r:Bool) (hnx:qW' 223 foR (cQ Tryz.prog tab Tryz.f27.results.toList (.c (bv r)) [] 0) 2 [(0,.c (.sl 65 n C)),(3,.ref 0 0),(4,.c (bv false)),(7,.c (bv (b2 && !b4)))] [(1,.row 49 cs'),(0,.row 49 cs)] []):qC' 27 [.sl 65 n C,.agg cs] (.c (bv r)) [] 0:=by
 obtain ⟨hn,hC,hl,hnv,hns,hb1,hb2,hc0,hc1,hc2,hc3,hc4,hc31,hc32⟩:=hF
 refine aD aB (sz:=223) Tryz.func27 rfl nM ?_
 cases b2
 ·repeat' (first|(with_reducible refine vQ 5 ?_)|(with_reducible refine vR 5 ?_)|(with_reducible refine cut3 5 ?_)|(refine aC ?_;intro K hK hX)|refine bE [0,1,3,4,6,7,8,9,10,11,12,13,60] ?_|((with_reducible refine bM ?_);refine yA ?_;refine bC (bN rfl) rfl ?_)|((with_reducible refine aW ?_);refine yA ?_;refine bC (aR (T:=49) aB rfl rfl rfl) rfl ?_)|(refine bZ ?_;first|refine c0 hrd ?_|refine c0 hf2 ?_|refine c0 hf4 ?_)|refine cH ?_|refine stA ?_|refine stD ?_|(refine aG hK hX ?_;clear hK hX K)|fail)
  refine kK ?_
  refine aP [0,3,4,7] rfl rfl ?_
  exact hnx
 ·cases b4
  ·repeat' (first|(with_reducible refine vQ 5 ?_)|(with_reducible refine vR 5 ?_)|(with_reducible refine cut3 5 ?_)|(refine aC ?_;intro K hK hX)|refine bE [0,1,3,4,6,7,8,9,10,11,12,13,60] ?_|((with_reducible refine bM ?_);refine yA ?_;refine bC (bN rfl) rfl ?_)|((with_reducible refine aW ?_);refine yA ?_;refine bC (aR (T:=49) aB rfl rfl rfl) rfl ?_)|(refine bZ ?_;first|refine c0 hrd ?_|refine c0 hf2 ?_|refine c0 hf4 ?_)|refine cH ?_|refine stA ?_|refine stD ?_|(refine aG hK hX ?_;clear hK hX K)|fail)
   refine kK ?_
   refine aP [0,3,4,7] rfl rfl ?_
   exact hnx
  ·repeat' (first|(with_reducible refine vQ 5 ?_)|(with_reducible refine vR 5 ?_)|(with_reducible refine cut3 5 ?_)|(refine aC ?_;intro K hK hX)|refine bE [0,1,3,4,6,7,8,9,10,11,12,13,60] ?_|((with_reducible refine bM ?_);refine yA ?_;refine bC (bN rfl) rfl ?_)|((with_reducible refine aW ?_);refine yA ?_;refine bC (aR (T:=49) aB rfl rfl rfl) rfl ?_)|(refine bZ ?_;first|refine c0 hrd ?_|refine c0 hf2 ?_|refine c0 hf4 ?_)|refine cH ?_|refine stA ?_|refine stD ?_|(refine aG hK hX ?_;clear hK hX K)|fail)
   refine kK ?_
   refine aP [0,3,4,7] rfl rfl ?_
   exact hnx
end
end Go.Proofs.YtbgehdndimlgkaaGreat
