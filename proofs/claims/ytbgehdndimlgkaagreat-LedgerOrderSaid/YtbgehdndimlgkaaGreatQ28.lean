import Derived.Test.YtbgehdndimlgkaaGreatQ26
import Derived.Test.YtbgehdndimlgkaaGreatQ27
set_option maxHeartbeats 16000000
set_option linter.unusedSimpArgs false
set_option linter.unusedVariables false
namespace Go.Proofs.YtbgehdndimlgkaaGreat
open Go Go.RowKit Go.Av
set_option maxRecDepth 100000
noncomputable def foR:Code:=fS (fS (fS (fS (Tryz.f27.body.getD .skip))))
attribute [local irreducible] Still Adds AWL AW Drw bS bY AC AWR cQ Frz Go.Av.Src cM Out InK ItK AsK RdK fC eZ ACT ACA fJ ACG fM AWS lec
structure FoC (n:Nat) (C cs:List CV) (k day plan step rk:Int) (vs:List Ver) (ss:List Src) (nv ns:Nat):Prop where
 hn:n≤1000
 hC:C.length=n*65
 hl:cs.length=65
 hnv:vs.length=nv
 hns:ss.length=ns
 hb1:nv≤1000
 hb2:ns≤1000
 hc0:cs[0]? = some (iv k)
 hc1:cs[1]? = some (iv day)
 hc2:cs[2]? = some (iv plan)
 hc3:cs[3]? = some (iv step)
 hc4:cs[4]? = some (iv rk)
 hc31:cs[31]? = some (.sl 3 nv (vrc vs))
 hc32:cs[32]? = some (.sl 2 ns (src ss))
theorem dU6 (n:Nat) (C cs:List CV) (k day plan step rk:Int) (vs:List Ver) (ss:List Src) (nv ns:Nat) (hF:FoC n C cs k day plan step rk vs ss nv ns) (op:Bool) (k1:k=1) (h:rk<1) (cs':List CV):AW Tryz.prog 223 foR (cM Tryz.prog tab Tryz.f27.results.toList (.c (bv false)) [] 0) 2 [(0,.c (.sl 65 n C)),(3,.ref 0 0),(4,.c (bv false)),(7,.c (bv op))] [(1,.row 49 cs'),(0,.row 49 cs)] []:=by
 obtain ⟨hn,hC,hl,hnv,hns,hb1,hb2,hc0,hc1,hc2,hc3,hc4,hc31,hc32⟩:=hF
 unfold foR
 conv in fS _=>whnf
 repeat' (first|(refine aC ?_;intro K hK hX)|refine lI ?_|(refine aF hK hX ?_;clear hK hX K)|fail)
 exact aU
theorem dU7 (n:Nat) (C cs:List CV) (k day plan step rk:Int) (vs:List Ver) (ss:List Src) (nv ns:Nat) (hF:FoC n C cs k day plan step rk vs ss nv ns) (op:Bool) (k1:k=1) (h:¬rk<1) (h':3<rk) (cs':List CV):AW Tryz.prog 223 foR (cM Tryz.prog tab Tryz.f27.results.toList (.c (bv false)) [] 0) 2 [(0,.c (.sl 65 n C)),(3,.ref 0 0),(4,.c (bv false)),(7,.c (bv op))] [(1,.row 49 cs'),(0,.row 49 cs)] []:=by
 obtain ⟨hn,hC,hl,hnv,hns,hb1,hb2,hc0,hc1,hc2,hc3,hc4,hc31,hc32⟩:=hF
 unfold foR
 conv in fS _=>whnf
 repeat' (first|(refine aC ?_;intro K hK hX)|refine lI ?_|(refine aF hK hX ?_;clear hK hX K)|fail)
 exact aU
theorem dU8 (n:Nat) (C cs:List CV) (k day plan step rk:Int) (vs:List Ver) (ss:List Src) (nv ns:Nat) (hF:FoC n C cs k day plan step rk vs ss nv ns) (op:Bool) (k1:k=1) (h:¬rk<1) (h':¬3<rk) (cs':List CV):AW Tryz.prog 223 foR (cM Tryz.prog tab Tryz.f27.results.toList (.c (bv true)) [] 0) 2 [(0,.c (.sl 65 n C)),(3,.ref 0 0),(4,.c (bv false)),(7,.c (bv op))] [(1,.row 49 cs'),(0,.row 49 cs)] []:=by
 obtain ⟨hn,hC,hl,hnv,hns,hb1,hb2,hc0,hc1,hc2,hc3,hc4,hc31,hc32⟩:=hF
 unfold foR
 conv in fS _=>whnf
 repeat' (first|(refine aC ?_;intro K hK hX)|refine lI ?_|(refine aF hK hX ?_;clear hK hX K)|fail)
 exact aU
theorem eC2 (n:Nat) (C cs:List CV) (k day plan step rk:Int) (vs:List Ver) (ss:List Src) (nv ns:Nat) (hF:FoC n C cs k day plan step rk vs ss nv ns) (op:Bool) (k4:k=4) (cs':List CV):AW Tryz.prog 223 foR (cM Tryz.prog tab Tryz.f27.results.toList (.c (bv op)) [] 0) 2 [(0,.c (.sl 65 n C)),(3,.ref 0 0),(4,.c (bv false)),(7,.c (bv op))] [(1,.row 49 cs'),(0,.row 49 cs)] []:=by
 obtain ⟨hn,hC,hl,hnv,hns,hb1,hb2,hc0,hc1,hc2,hc3,hc4,hc31,hc32⟩:=hF
 unfold foR
 conv in fS _=>whnf
 repeat' (first|(refine aC ?_;intro K hK hX)|refine lI ?_|(refine aF hK hX ?_;clear hK hX K)|fail)
 exact aU
theorem eC3 (n:Nat) (C cs:List CV) (k day plan step rk:Int) (vs:List Ver) (ss:List Src) (nv ns:Nat) (hF:FoC n C cs k day plan step rk vs ss nv ns) (op:Bool) (k6:6≤k) (cs':List CV):AW Tryz.prog 223 foR (cM Tryz.prog tab Tryz.f27.results.toList (.c (bv true)) [] 0) 2 [(0,.c (.sl 65 n C)),(3,.ref 0 0),(4,.c (bv false)),(7,.c (bv op))] [(1,.row 49 cs'),(0,.row 49 cs)] []:=by
 obtain ⟨hn,hC,hl,hnv,hns,hb1,hb2,hc0,hc1,hc2,hc3,hc4,hc31,hc32⟩:=hF
 unfold foR
 conv in fS _=>whnf
 repeat' (first|(refine aC ?_;intro K hK hX)|refine lI ?_|(refine aF hK hX ?_;clear hK hX K)|fail)
 exact aU
theorem dV7 (n:Nat) (C cs:List CV) (k day plan step rk:Int) (vs:List Ver) (ss:List Src) (nv ns:Nat) (hF:FoC n C cs k day plan step rk vs ss nv ns) (op:Bool) (k5:k=5) (m:Nat) (hm:m≤1000000) (hct:AC Tryz.prog 86 [.sl 65 n C,iv 5] (.c (iv m)) [] 0) (h:¬step=(m:Int)) (cs':List CV):AW Tryz.prog 223 foR (cM Tryz.prog tab Tryz.f27.results.toList (.c (bv false)) [] 0) 2 [(0,.c (.sl 65 n C)),(3,.ref 0 0),(4,.c (bv false)),(7,.c (bv op))] [(1,.row 49 cs'),(0,.row 49 cs)] []:=by
 obtain ⟨hn,hC,hl,hnv,hns,hb1,hb2,hc0,hc1,hc2,hc3,hc4,hc31,hc32⟩:=hF
 unfold foR
 conv in fS _=>whnf
 repeat' (first|(refine aC ?_;intro K hK hX)|refine uX ?_|(refine aF hK hX ?_;clear hK hX K)|fail)
 exact aU
theorem dV8 (n:Nat) (C cs:List CV) (k day plan step rk:Int) (vs:List Ver) (ss:List Src) (nv ns:Nat) (hF:FoC n C cs k day plan step rk vs ss nv ns) (op:Bool) (k5:k=5) (m:Nat) (hm:m≤1000000) (hct:AC Tryz.prog 86 [.sl 65 n C,iv 5] (.c (iv m)) [] 0) (h:step=(m:Int)) (h':4≤step) (cs':List CV):AW Tryz.prog 223 foR (cM Tryz.prog tab Tryz.f27.results.toList (.c (bv false)) [] 0) 2 [(0,.c (.sl 65 n C)),(3,.ref 0 0),(4,.c (bv false)),(7,.c (bv op))] [(1,.row 49 cs'),(0,.row 49 cs)] []:=by
 obtain ⟨hn,hC,hl,hnv,hns,hb1,hb2,hc0,hc1,hc2,hc3,hc4,hc31,hc32⟩:=hF
 unfold foR
 conv in fS _=>whnf
 repeat' (first|(refine aC ?_;intro K hK hX)|refine uX ?_|(refine aF hK hX ?_;clear hK hX K)|fail)
 exact aU
theorem dV9 (n:Nat) (C cs:List CV) (k day plan step rk:Int) (vs:List Ver) (ss:List Src) (nv ns:Nat) (hF:FoC n C cs k day plan step rk vs ss nv ns) (op:Bool) (k5:k=5) (m:Nat) (hm:m≤1000000) (hct:AC Tryz.prog 86 [.sl 65 n C,iv 5] (.c (iv m)) [] 0) (h:step=(m:Int)) (h':step<4) (cs':List CV):AW Tryz.prog 223 foR (cM Tryz.prog tab Tryz.f27.results.toList (.c (bv true)) [] 0) 2 [(0,.c (.sl 65 n C)),(3,.ref 0 0),(4,.c (bv false)),(7,.c (bv op))] [(1,.row 49 cs'),(0,.row 49 cs)] []:=by
 obtain ⟨hn,hC,hl,hnv,hns,hb1,hb2,hc0,hc1,hc2,hc3,hc4,hc31,hc32⟩:=hF
 unfold foR
 conv in fS _=>whnf
 repeat' (first|(refine aC ?_;intro K hK hX)|refine uX ?_|(refine aF hK hX ?_;clear hK hX K)|fail)
 exact aU
theorem dV2 (n:Nat) (C cs:List CV) (k day plan step rk:Int) (vs:List Ver) (ss:List Src) (nv ns:Nat) (hF:FoC n C cs k day plan step rk vs ss nv ns) (op:Bool) (k3:k=3) (DN:List Int) (q:Nat) (hq:DN.length=q) (hqb:q≤1000000) (hdn:AC Tryz.prog 54 [.sl 65 n C,iv plan] (.c (.sl 1 q (cP .i64 DN))) [] 0) (hm:step∈DN) (cs':List CV):AW Tryz.prog 223 foR (cM Tryz.prog tab Tryz.f27.results.toList (.c (bv false)) [] 0) 2 [(0,.c (.sl 65 n C)),(3,.ref 0 0),(4,.c (bv false)),(7,.c (bv op))] [(1,.row 49 cs'),(0,.row 49 cs)] []:=by
 obtain ⟨hn,hC,hl,hnv,hns,hb1,hb2,hc0,hc1,hc2,hc3,hc4,hc31,hc32⟩:=hF
 unfold foR
 conv in fS _=>whnf
 have hil:(cP .i64 DN).length=q:=by rw [eT,hq]
 have hat:∀{i:Nat} {x:Int},DN[i]? = some x→(cP .i64 DN)[i]? = some (iv x):=fun h=>by unfold cP;rw [List.getElem?_map,h];rfl
 obtain ⟨j0,hj,hne⟩:=sJ hm
 have hjq:j0<q:=by rw [← hq];exact (List.getElem?_eq_some_iff.1 hj).1
 repeat' (first|(refine aC ?_;intro K hK hX)|refine aL6 ?_|(refine aF hK hX ?_;clear hK hX K)|fail)
 refine bA [13] [] rfl rfl (fun i:Nat=>[(13,.c (iv i))]) (fun i=>[]) (fun i=>i≤j0) (fun i=>j0-i) 0 (Nat.zero_le _) dL ?_
 intro i hi K hK hX
 by_cases hlt:i<j0
 ·obtain ⟨x,hxt⟩:∃x,DN[i]? = some x:=⟨_,List.getElem?_eq_getElem aA⟩
  have hx:=hat hxt
  have hno:=hne i x hlt hxt
  repeat' (first|(refine aC ?_;intro K hK hX)|refine lI ?_|(refine aF hK hX ?_;clear hK hX K)|fail)
  exact cY
 ·have hij:i=j0:=by omega
  rw [hij]
  have hx:=hat hj
  repeat' (first|(refine aC ?_;intro K hK hX)|refine lI ?_|(refine aF hK hX ?_;clear hK hX K)|fail)
  exact aU
theorem dV3 (n:Nat) (C cs:List CV) (k day plan step rk:Int) (vs:List Ver) (ss:List Src) (nv ns:Nat) (hF:FoC n C cs k day plan step rk vs ss nv ns) (k3:k=3) (DN:List Int) (q:Nat) (hq:DN.length=q) (hqb:q≤1000000) (hdn:AC Tryz.prog 54 [.sl 65 n C,iv plan] (.c (.sl 1 q (cP .i64 DN))) [] 0) (hm:step∉DN)  (cs':List CV):AW Tryz.prog 223 foR (cM Tryz.prog tab Tryz.f27.results.toList (.c (bv false)) [] 0) 2 [(0,.c (.sl 65 n C)),(3,.ref 0 0),(4,.c (bv false)),(7,.c (bv false))] [(1,.row 49 cs'),(0,.row 49 cs)] []:=by
 obtain ⟨hn,hC,hl,hnv,hns,hb1,hb2,hc0,hc1,hc2,hc3,hc4,hc31,hc32⟩:=hF
 unfold foR
 conv in fS _=>whnf
 have hil:(cP .i64 DN).length=q:=by rw [eT,hq]
 have hat:∀{i:Nat} {x:Int},DN[i]? = some x→(cP .i64 DN)[i]? = some (iv x):=fun h=>by unfold cP;rw [List.getElem?_map,h];rfl
 repeat' (first|(refine aC ?_;intro K hK hX)|refine aL6 ?_|(refine aF hK hX ?_;clear hK hX K)|fail)
 refine bA [13] [] rfl rfl (fun i:Nat=>[(13,.c (iv i))]) (fun i=>[]) (fun i=>i≤q) (fun i=>q-i) 0 (Nat.zero_le _) dL ?_
 intro i hi K hK hX
 by_cases hlt:i<q
 ·obtain ⟨x,hxt⟩:∃x,DN[i]? = some x:=⟨_,List.getElem?_eq_getElem aA⟩
  have hx:=hat hxt
  have hno:¬x=step:=fun h=>hm aM3
  repeat' (first|(refine aC ?_;intro K hK hX)|refine lI ?_|(refine aF hK hX ?_;clear hK hX K)|fail)
  exact cY
 ·repeat' (first|(refine aC ?_;intro K hK hX)|refine lI ?_|(refine aF hK hX ?_;clear hK hX K)|fail)
  exact aU
theorem dV4 (n:Nat) (C cs:List CV) (k day plan step rk:Int) (vs:List Ver) (ss:List Src) (nv ns:Nat) (hF:FoC n C cs k day plan step rk vs ss nv ns) (k3:k=3) (DN:List Int) (q:Nat) (hq:DN.length=q) (hqb:q≤1000000) (hdn:AC Tryz.prog 54 [.sl 65 n C,iv plan] (.c (.sl 1 q (cP .i64 DN))) [] 0) (hm:step∉DN) (h1:step<0) (cs':List CV):AW Tryz.prog 223 foR (cM Tryz.prog tab Tryz.f27.results.toList (.c (bv false)) [] 0) 2 [(0,.c (.sl 65 n C)),(3,.ref 0 0),(4,.c (bv false)),(7,.c (bv true))] [(1,.row 49 cs'),(0,.row 49 cs)] []:=by
 obtain ⟨hn,hC,hl,hnv,hns,hb1,hb2,hc0,hc1,hc2,hc3,hc4,hc31,hc32⟩:=hF
 unfold foR
 conv in fS _=>whnf
 have hil:(cP .i64 DN).length=q:=by rw [eT,hq]
 have hat:∀{i:Nat} {x:Int},DN[i]? = some x→(cP .i64 DN)[i]? = some (iv x):=fun h=>by unfold cP;rw [List.getElem?_map,h];rfl
 repeat' (first|(refine aC ?_;intro K hK hX)|refine aL6 ?_|(refine aF hK hX ?_;clear hK hX K)|fail)
 refine bA [13] [] rfl rfl (fun i:Nat=>[(13,.c (iv i))]) (fun i=>[]) (fun i=>i≤q) (fun i=>q-i) 0 (Nat.zero_le _) dL ?_
 intro i hi K hK hX
 by_cases hlt:i<q
 ·obtain ⟨x,hxt⟩:∃x,DN[i]? = some x:=⟨_,List.getElem?_eq_getElem aA⟩
  have hx:=hat hxt
  have hno:¬x=step:=fun h=>hm aM3
  repeat' (first|(refine aC ?_;intro K hK hX)|refine lI ?_|(refine aF hK hX ?_;clear hK hX K)|fail)
  exact cY
 ·repeat' (first|(refine aC ?_;intro K hK hX)|refine lI ?_|(refine aF hK hX ?_;clear hK hX K)|fail)
  exact aU
theorem dV5 (n:Nat) (C cs:List CV) (k day plan step rk:Int) (vs:List Ver) (ss:List Src) (nv ns:Nat) (hF:FoC n C cs k day plan step rk vs ss nv ns) (k3:k=3) (DN:List Int) (q:Nat) (hq:DN.length=q) (hqb:q≤1000000) (hdn:AC Tryz.prog 54 [.sl 65 n C,iv plan] (.c (.sl 1 q (cP .i64 DN))) [] 0) (hm:step∉DN) (h1:¬step<0) (h2:128≤step) (cs':List CV):AW Tryz.prog 223 foR (cM Tryz.prog tab Tryz.f27.results.toList (.c (bv false)) [] 0) 2 [(0,.c (.sl 65 n C)),(3,.ref 0 0),(4,.c (bv false)),(7,.c (bv true))] [(1,.row 49 cs'),(0,.row 49 cs)] []:=by
 obtain ⟨hn,hC,hl,hnv,hns,hb1,hb2,hc0,hc1,hc2,hc3,hc4,hc31,hc32⟩:=hF
 unfold foR
 conv in fS _=>whnf
 have hil:(cP .i64 DN).length=q:=by rw [eT,hq]
 have hat:∀{i:Nat} {x:Int},DN[i]? = some x→(cP .i64 DN)[i]? = some (iv x):=fun h=>by unfold cP;rw [List.getElem?_map,h];rfl
 repeat' (first|(refine aC ?_;intro K hK hX)|refine aL6 ?_|(refine aF hK hX ?_;clear hK hX K)|fail)
 refine bA [13] [] rfl rfl (fun i:Nat=>[(13,.c (iv i))]) (fun i=>[]) (fun i=>i≤q) (fun i=>q-i) 0 (Nat.zero_le _) dL ?_
 intro i hi K hK hX
 by_cases hlt:i<q
 ·obtain ⟨x,hxt⟩:∃x,DN[i]? = some x:=⟨_,List.getElem?_eq_getElem aA⟩
  have hx:=hat hxt
  have hno:¬x=step:=fun h=>hm aM3
  repeat' (first|(refine aC ?_;intro K hK hX)|refine lI ?_|(refine aF hK hX ?_;clear hK hX K)|fail)
  exact cY
 ·repeat' (first|(refine aC ?_;intro K hK hX)|refine lI ?_|(refine aF hK hX ?_;clear hK hX K)|fail)
  exact aU
theorem dV6 (n:Nat) (C cs:List CV) (k day plan step rk:Int) (vs:List Ver) (ss:List Src) (nv ns:Nat) (hF:FoC n C cs k day plan step rk vs ss nv ns) (k3:k=3) (DN:List Int) (q:Nat) (hq:DN.length=q) (hqb:q≤1000000) (hdn:AC Tryz.prog 54 [.sl 65 n C,iv plan] (.c (.sl 1 q (cP .i64 DN))) [] 0) (hm:step∉DN) (h1:¬step<0) (h2:step<128) (cs':List CV):AW Tryz.prog 223 foR (cM Tryz.prog tab Tryz.f27.results.toList (.c (bv true)) [] 0) 2 [(0,.c (.sl 65 n C)),(3,.ref 0 0),(4,.c (bv false)),(7,.c (bv true))] [(1,.row 49 cs'),(0,.row 49 cs)] []:=by
 obtain ⟨hn,hC,hl,hnv,hns,hb1,hb2,hc0,hc1,hc2,hc3,hc4,hc31,hc32⟩:=hF
 unfold foR
 conv in fS _=>whnf
 have hil:(cP .i64 DN).length=q:=by rw [eT,hq]
 have hat:∀{i:Nat} {x:Int},DN[i]? = some x→(cP .i64 DN)[i]? = some (iv x):=fun h=>by unfold cP;rw [List.getElem?_map,h];rfl
 repeat' (first|(refine aC ?_;intro K hK hX)|refine aL6 ?_|(refine aF hK hX ?_;clear hK hX K)|fail)
 refine bA [13] [] rfl rfl (fun i:Nat=>[(13,.c (iv i))]) (fun i=>[]) (fun i=>i≤q) (fun i=>q-i) 0 (Nat.zero_le _) dL ?_
 intro i hi K hK hX
 by_cases hlt:i<q
 ·obtain ⟨x,hxt⟩:∃x,DN[i]? = some x:=⟨_,List.getElem?_eq_getElem aA⟩
  have hx:=hat hxt
  have hno:¬x=step:=fun h=>hm aM3
  repeat' (first|(refine aC ?_;intro K hK hX)|refine lI ?_|(refine aF hK hX ?_;clear hK hX K)|fail)
  exact cY
 ·repeat' (first|(refine aC ?_;intro K hK hX)|refine lI ?_|(refine aF hK hX ?_;clear hK hX K)|fail)
  exact aU
theorem dU2 (n:Nat) (C cs:List CV) (k day plan step rk:Int) (vs:List Ver) (ss:List Src) (nv ns:Nat) (hF:FoC n C cs k day plan step rk vs ss nv ns) (cs':List CV) (hl':cs'.length=65) (hrd:AC Tryz.prog 19 [.agg cs] (.tup [.c (.agg cs'),.c (bv false)]) [] 0)  : AC Tryz.prog 27 [.sl 65 n C,.agg cs] (.c (bv false)) [] 0:=by
 obtain ⟨hn,hC,hl,hnv,hns,hb1,hb2,hc0,hc1,hc2,hc3,hc4,hc31,hc32⟩:=hF
 refine aG aB (sz:=223) Tryz.func27 rfl mK ?_
 repeat' (first|(refine aC ?_;intro K hK hX)|refine bC2 ?_|(refine aF hK hX ?_;clear hK hX K)|fail)
 exact aU
theorem dU3 (n:Nat) (C cs:List CV) (k day plan step rk:Int) (vs:List Ver) (ss:List Src) (nv ns:Nat) (hF:FoC n C cs k day plan step rk vs ss nv ns) (cs':List CV) (hl':cs'.length=65) (hrd:AC Tryz.prog 19 [.agg cs] (.tup [.c (.agg cs'),.c (bv true)]) [] 0) (h:day<0):AC Tryz.prog 27 [.sl 65 n C,.agg cs] (.c (bv false)) [] 0:=by
 obtain ⟨hn,hC,hl,hnv,hns,hb1,hb2,hc0,hc1,hc2,hc3,hc4,hc31,hc32⟩:=hF
 refine aG aB (sz:=223) Tryz.func27 rfl mK ?_
 repeat' (first|(refine aC ?_;intro K hK hX)|refine bC2 ?_|(refine aF hK hX ?_;clear hK hX K)|fail)
 exact aU
theorem dU4 (n:Nat) (C cs:List CV) (k day plan step rk:Int) (vs:List Ver) (ss:List Src) (nv ns:Nat) (hF:FoC n C cs k day plan step rk vs ss nv ns) (cs':List CV) (hl':cs'.length=65) (hrd:AC Tryz.prog 19 [.agg cs] (.tup [.c (.agg cs'),.c (bv true)]) [] 0) (h:¬day<0) (h':1048576<day):AC Tryz.prog 27 [.sl 65 n C,.agg cs] (.c (bv false)) [] 0:=by
 obtain ⟨hn,hC,hl,hnv,hns,hb1,hb2,hc0,hc1,hc2,hc3,hc4,hc31,hc32⟩:=hF
 refine aG aB (sz:=223) Tryz.func27 rfl mK ?_
 repeat' (first|(refine aC ?_;intro K hK hX)|refine bC2 ?_|(refine aF hK hX ?_;clear hK hX K)|fail)
 exact aU
theorem dU5 (n:Nat) (C cs:List CV) (k day plan step rk:Int) (vs:List Ver) (ss:List Src) (nv ns:Nat) (hF:FoC n C cs k day plan step rk vs ss nv ns) (cs':List CV) (hl':cs'.length=65) (hrd:AC Tryz.prog 19 [.agg cs] (.tup [.c (.agg cs'),.c (bv true)]) [] 0) (h:¬day<0) (h':¬1048576<day) (ld:Int) (h0:0<n) (hld:C[((n:Int)-1).toNat*65+1]? = some (iv ld)) (h3:day<ld):AC Tryz.prog 27 [.sl 65 n C,.agg cs] (.c (bv false)) [] 0:=by
 obtain ⟨hn,hC,hl,hnv,hns,hb1,hb2,hc0,hc1,hc2,hc3,hc4,hc31,hc32⟩:=hF
 refine aG aB (sz:=223) Tryz.func27 rfl mK ?_
 repeat' (first|(refine aC ?_;intro K hK hX)|refine bC2 ?_|(refine aF hK hX ?_;clear hK hX K)|fail)
 exact aU
theorem dW0 (n:Nat) (C cs:List CV) (k day plan step rk:Int) (vs:List Ver) (ss:List Src) (nv ns:Nat) (hF:FoC n C cs k day plan step rk vs ss nv ns) (cs':List CV) (hl':cs'.length=65) (hrd:AC Tryz.prog 19 [.agg cs] (.tup [.c (.agg cs'),.c (bv true)]) [] 0) (h:¬day<0) (h':¬1048576<day) (h0:n=0) (b2 b4:Bool) (hf2:AC Tryz.prog 83 [.sl 65 n C,iv 2,iv plan] (.c (bv b2)) [] 0) (hf4:AC Tryz.prog 83 [.sl 65 n C,iv 4,iv plan] (.c (bv b4)) [] 0) (r:Bool) (hnx:AW Tryz.prog 223 foR (cM Tryz.prog tab Tryz.f27.results.toList (.c (bv r)) [] 0) 2 [(0,.c (.sl 65 n C)),(3,.ref 0 0),(4,.c (bv false)),(7,.c (bv (b2 && !b4)))] [(1,.row 49 cs'),(0,.row 49 cs)] []):AC Tryz.prog 27 [.sl 65 n C,.agg cs] (.c (bv r)) [] 0:=by
 obtain ⟨hn,hC,hl,hnv,hns,hb1,hb2,hc0,hc1,hc2,hc3,hc4,hc31,hc32⟩:=hF
 refine aG aB (sz:=223) Tryz.func27 rfl mK ?_
 cases b2
 ·repeat' (first|(with_reducible refine tV 5 ?_)|(with_reducible refine tW 5 ?_)|(with_reducible refine cut3 5 ?_)|(refine aC ?_;intro K hK hX)|refine bI [0,1,3,4,6,7,8,9,10,11,12,13,60] ?_|((with_reducible refine bR ?_);refine yA ?_;refine bJ (bZ rfl) rfl ?_)|((with_reducible refine aY ?_);refine yA ?_;refine bJ (aX (T:=49) aB rfl rfl rfl) rfl ?_)|(refine cD ?_;first|refine c0 hrd ?_|refine c0 hf2 ?_|refine c0 hf4 ?_)|refine cE ?_|refine stA ?_|refine stD ?_|(refine aF hK hX ?_;clear hK hX K)|fail)
  refine jU ?_
  refine aW [0,3,4,7] rfl rfl ?_
  exact hnx
 ·cases b4
  ·repeat' (first|(with_reducible refine tV 5 ?_)|(with_reducible refine tW 5 ?_)|(with_reducible refine cut3 5 ?_)|(refine aC ?_;intro K hK hX)|refine bI [0,1,3,4,6,7,8,9,10,11,12,13,60] ?_|((with_reducible refine bR ?_);refine yA ?_;refine bJ (bZ rfl) rfl ?_)|((with_reducible refine aY ?_);refine yA ?_;refine bJ (aX (T:=49) aB rfl rfl rfl) rfl ?_)|(refine cD ?_;first|refine c0 hrd ?_|refine c0 hf2 ?_|refine c0 hf4 ?_)|refine cE ?_|refine stA ?_|refine stD ?_|(refine aF hK hX ?_;clear hK hX K)|fail)
   refine jU ?_
   refine aW [0,3,4,7] rfl rfl ?_
   exact hnx
  ·repeat' (first|(with_reducible refine tV 5 ?_)|(with_reducible refine tW 5 ?_)|(with_reducible refine cut3 5 ?_)|(refine aC ?_;intro K hK hX)|refine bI [0,1,3,4,6,7,8,9,10,11,12,13,60] ?_|((with_reducible refine bR ?_);refine yA ?_;refine bJ (bZ rfl) rfl ?_)|((with_reducible refine aY ?_);refine yA ?_;refine bJ (aX (T:=49) aB rfl rfl rfl) rfl ?_)|(refine cD ?_;first|refine c0 hrd ?_|refine c0 hf2 ?_|refine c0 hf4 ?_)|refine cE ?_|refine stA ?_|refine stD ?_|(refine aF hK hX ?_;clear hK hX K)|fail)
   refine jU ?_
   refine aW [0,3,4,7] rfl rfl ?_
   exact hnx
theorem dW1 (n:Nat) (C cs:List CV) (k day plan step rk:Int) (vs:List Ver) (ss:List Src) (nv ns:Nat) (hF:FoC n C cs k day plan step rk vs ss nv ns) (cs':List CV) (hl':cs'.length=65) (hrd:AC Tryz.prog 19 [.agg cs] (.tup [.c (.agg cs'),.c (bv true)]) [] 0) (h:¬day<0) (h':¬1048576<day) (ld:Int) (h0:0<n) (hld:C[((n:Int)-1).toNat*65+1]? = some (iv ld)) (h3:¬day<ld) (b2 b4:Bool) (hf2:AC Tryz.prog 83 [.sl 65 n C,iv 2,iv plan] (.c (bv b2)) [] 0) (hf4:AC Tryz.prog 83 [.sl 65 n C,iv 4,iv plan] (.c (bv b4)) [] 0) (r:Bool) (hnx:AW Tryz.prog 223 foR (cM Tryz.prog tab Tryz.f27.results.toList (.c (bv r)) [] 0) 2 [(0,.c (.sl 65 n C)),(3,.ref 0 0),(4,.c (bv false)),(7,.c (bv (b2 && !b4)))] [(1,.row 49 cs'),(0,.row 49 cs)] []):AC Tryz.prog 27 [.sl 65 n C,.agg cs] (.c (bv r)) [] 0:=by
 obtain ⟨hn,hC,hl,hnv,hns,hb1,hb2,hc0,hc1,hc2,hc3,hc4,hc31,hc32⟩:=hF
 refine aG aB (sz:=223) Tryz.func27 rfl mK ?_
 cases b2
 ·repeat' (first|(with_reducible refine tV 5 ?_)|(with_reducible refine tW 5 ?_)|(with_reducible refine cut3 5 ?_)|(refine aC ?_;intro K hK hX)|refine bI [0,1,3,4,6,7,8,9,10,11,12,13,60] ?_|((with_reducible refine bR ?_);refine yA ?_;refine bJ (bZ rfl) rfl ?_)|((with_reducible refine aY ?_);refine yA ?_;refine bJ (aX (T:=49) aB rfl rfl rfl) rfl ?_)|(refine cD ?_;first|refine c0 hrd ?_|refine c0 hf2 ?_|refine c0 hf4 ?_)|refine cE ?_|refine stA ?_|refine stD ?_|(refine aF hK hX ?_;clear hK hX K)|fail)
  refine jU ?_
  refine aW [0,3,4,7] rfl rfl ?_
  exact hnx
 ·cases b4
  ·repeat' (first|(with_reducible refine tV 5 ?_)|(with_reducible refine tW 5 ?_)|(with_reducible refine cut3 5 ?_)|(refine aC ?_;intro K hK hX)|refine bI [0,1,3,4,6,7,8,9,10,11,12,13,60] ?_|((with_reducible refine bR ?_);refine yA ?_;refine bJ (bZ rfl) rfl ?_)|((with_reducible refine aY ?_);refine yA ?_;refine bJ (aX (T:=49) aB rfl rfl rfl) rfl ?_)|(refine cD ?_;first|refine c0 hrd ?_|refine c0 hf2 ?_|refine c0 hf4 ?_)|refine cE ?_|refine stA ?_|refine stD ?_|(refine aF hK hX ?_;clear hK hX K)|fail)
   refine jU ?_
   refine aW [0,3,4,7] rfl rfl ?_
   exact hnx
  ·repeat' (first|(with_reducible refine tV 5 ?_)|(with_reducible refine tW 5 ?_)|(with_reducible refine cut3 5 ?_)|(refine aC ?_;intro K hK hX)|refine bI [0,1,3,4,6,7,8,9,10,11,12,13,60] ?_|((with_reducible refine bR ?_);refine yA ?_;refine bJ (bZ rfl) rfl ?_)|((with_reducible refine aY ?_);refine yA ?_;refine bJ (aX (T:=49) aB rfl rfl rfl) rfl ?_)|(refine cD ?_;first|refine c0 hrd ?_|refine c0 hf2 ?_|refine c0 hf4 ?_)|refine cE ?_|refine stA ?_|refine stD ?_|(refine aF hK hX ?_;clear hK hX K)|fail)
   refine jU ?_
   refine aW [0,3,4,7] rfl rfl ?_
   exact hnx
end Go.Proofs.YtbgehdndimlgkaaGreat
