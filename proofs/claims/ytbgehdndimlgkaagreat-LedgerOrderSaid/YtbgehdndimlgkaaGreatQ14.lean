import Derived.Test.YtbgehdndimlgkaaGreatQ12
import Derived.Test.YtbgehdndimlgkaaGreatQ13
set_option maxHeartbeats 16000000
set_option linter.unusedSimpArgs false
set_option linter.unusedVariables false
namespace Go.Proofs.YtbgehdndimlgkaaGreat
open Go Go.RowKit Go.Av
set_option maxRecDepth 100000
def ecR (e:LEn):List CV:=ecs e e.vs.length e.ss.length
def lec (l:List LEn):List CV:=l.flatMap ecR
def OkL (l:List LEn):Prop:=∀e∈l,e.wf∧aV e.k∧e.sz
theorem fD {e:LEn} (h:e.wf):(ecR e).length=65:=cK h.root _ _
theorem yH {α:Type} {f:α→List CV} {k:Nat}:∀{l:List α} {i:Nat} {a:α},(∀a∈l,(f a).length=k)→l[i]? = some a→((l.flatMap f).drop (i*k)).take k=f a
 | [],i,a,_,e=>by simp at e
 | b::l,0,a,h,e=>by
  simp only [List.getElem?_cons_zero,Option.some.injEq] at e
  subst e
  rw [Nat.zero_mul,List.drop_zero,List.flatMap_cons,List.take_append_of_le_length (by rw [h b aQ];exact Nat.le_refl _),List.take_of_length_le (by rw [h b aQ];exact Nat.le_refl _)]
 | b::l,i+1,a,h,e=>by
  have hb:=h b aQ
  rw [List.flatMap_cons,List.drop_append,hb,List.drop_of_length_le (by rw [hb,Nat.add_mul];omega),List.nil_append,show (i+1)*k-k=i*k by rw [Nat.add_mul];omega]
  exact yH (fun a ha=>h a (by simp [ha])) (by simpa using e)
theorem uF {α:Type} {f:α→List CV} {k:Nat}:∀{l:List α},(∀a∈l,(f a).length=k)→(l.flatMap f).length=l.length*k
 | [],_=>by simp
 | b::l,h=>by rw [List.flatMap_cons,List.length_append,h b aQ,uF fun a ha=>h a (by simp [ha]),List.length_cons,Nat.add_mul];omega
theorem fE {l:List LEn} (h:OkL l):(lec l).length=l.length*65:=uF fun e he=>fD (h e he).1
theorem lR {l:List LEn} (h:OkL l) {i:Nat} {e:LEn} (he:l[i]? = some e):((lec l).drop (i*65)).take 65=ecR e:=yH (fun e he=>fD (h e he).1) he
theorem fB {l:List LEn} (h:OkL l) {i:Nat} {e:LEn} (he:l[i]? = some e) (j:Nat) (hj:j<65):(lec l)[i*65+j]? = (ecR e)[j]? := by
 rw [← lR h he,List.getElem?_take,if_pos hj,List.getElem?_drop]
theorem OkL.take {l:List LEn} (h:OkL l) (i:Nat):OkL (l.take i):=fun e he=>h e (List.mem_of_mem_take he)
theorem uE {α : Type} {p : α → Prop} : ∀ {l : List α}, (∃ x ∈ l, p x) → ∃ (j : Nat) (x : α), l[j]? = some x ∧ p x ∧ ∀ (q : Nat) (y : α), q < j → l[q]? = some y → ¬ p y
  | [], h => by obtain ⟨x, hx, _⟩ := h; simp at hx
  | y :: l, h => by
    by_cases e : p y
    · exact ⟨0, y, rfl, e, fun q x hq => by omega⟩
    · obtain ⟨j, x, h1, h2, h3⟩ := uE (l := l) (by
        obtain ⟨x, hx, hp⟩ := h
        rcases List.mem_cons.1 hx with rfl | hx
        · exact absurd hp e
        · exact ⟨x, hx, hp⟩)
      refine ⟨j + 1, x, by simpa using h1, h2, fun q z hq hz => ?_⟩
      cases q with
      | zero => simp at hz; rw [← hz]; exact e
      | succ q => exact h3 q z aA (by simpa using hz)
theorem fI {α:Type} {l:List α} {i:Nat} {x:α} (h:l[i]? = some x):l.take (i+1)=l.take i++[x]:=by rw [List.take_add_one,h];rfl
theorem aO9 {α:Type} {lt:α→α→Prop} (v:α):∀l:List α,(insA lt v l).length≤l.length+1
 | []=>by simp [insA]
 | y::l=>by
  have:=aO9 (lt:=lt) v l
  rw [insA]
  split
  ·simp
  ·split
   ·simp
   ·simp only [List.length_cons];omega
theorem kE {α:Type} {lt:α→α→Prop} (l:List α):(ascL lt l).length≤l.length:=by
 refine zT (p:=fun l=>(ascL lt l).length≤l.length) (by simp [ascL]) (fun l v ih=>?_) l
 have:=aO9 (lt:=lt) v (ascL lt l)
 rw [mQ,List.length_append,List.length_singleton]
 omega
theorem sA {l:List LEn} (h:OkL l):(iI l).length≤l.length*1000:=by
 induction l with
 | nil=>simp [iI]
 | cons e l ih =>
  have:=ih fun x hx=>h x (by simp [hx])
  have hs:=(h e aQ).2.2.vs
  unfold iI at *
  rw [List.flatMap_cons,List.length_append,List.length_cons,Nat.add_mul]
  split
  ·omega
  ·rw [List.length_nil];omega
theorem aF2 {l:List LEn} (h:OkL l):(kX l).length≤l.length*1000:=by
 induction l with
 | nil=>simp [kX]
 | cons e l ih =>
  have:=ih fun x hx=>h x (by simp [hx])
  have hs:=(h e aQ).2.2.ss
  unfold kX at *
  rw [List.flatMap_cons,List.length_append,List.length_cons,Nat.add_mul]
  split
  ·omega
  ·rw [List.length_nil];omega
theorem vX {l:List LEn} (h:OkL l):∀v∈iI l,oH v:=fun v hv=>by
 unfold iI at hv
 obtain ⟨e,he,hv⟩:=List.mem_flatMap.1 hv
 split at hv
 ·exact (h e he).1.vs v hv
 ·simp at hv
theorem aF3 {l:List LEn} (h:OkL l):∀v∈kX l,sX v:=fun v hv=>by
 unfold kX at hv
 obtain ⟨e,he,hv⟩:=List.mem_flatMap.1 hv
 split at hv
 ·exact (h e he).1.ss v hv
 ·simp at hv
theorem aW3 (l:List LEn) (e:LEn) (p:Int):doneS (l++[e]) p=if e.k=3∧e.plan=p then insA (fun a b:Int=>a<b) e.step (doneS l p) else doneS l p:=by
 unfold doneS
 rw [List.filter_append,List.map_append]
 by_cases h:e.k=3∧e.plan=p
 ·rw [if_pos h,List.filter_cons,if_pos (decide_eq_true h),List.filter_nil,List.map_singleton,mQ]
 ·rw [if_neg h,List.filter_cons,if_neg oT,List.filter_nil,List.map_nil,List.append_nil]
theorem bT4 {P:Program} {sz n:Nat} {c:Code} {K:AK} {env:Env} {h:aO} {dfs:bX} (t:Nat) {x:CV} (y:CV) (hx:lkE env t=some (.c x)) (hc:Cv x y) (next:AW P sz c K n ((t,.c y)::env) h dfs):AW P sz c K n env h dfs:=by
 intro B a w hcn
 obtain ⟨M,c1,c2,c3,c4⟩:=hcn
 refine next B a w ⟨M,c1,c2,fun t' av ht=>?_,c4⟩
 rw [eL] at ht
 split at ht
 ·rename_i e
  subst e
  injection ht with ht
  subst ht
  have:=c3 _ _ hx
  simp only [Rep] at this ⊢
  exact hc _ _ _ this
 ·exact c3 t' av ht
attribute [local irreducible] Still Adds AWL AW Drw bS bY AC AWR cQ Frz Go.Av.Src cM Out InK ItK AsK RdK fC eZ ACT ACA fJ lec
theorem aD3 (l:List LEn) (n:Nat) (hn:l.length=n) (hb:n≤1000000) (hw:OkL l) (k:Int) (r:Nat) (hr:mW l k=r):AC Tryz.prog 86 [.sl 65 n (lec l),iv k] (.c (iv r)) [] 0:=by
 have hll:(lec l).length=n*65:=by rw [fE hw,hn]
 obtain ⟨D,hD⟩:∃D:Nat→Nat,∀i,mW (l.take i) k=D i:=⟨_,fun _=>rfl⟩
 have hDn:D n=r:=by rw [← hD,List.take_of_length_le aA,hr]
 have hD0:D 0=0:=by rw [← hD];rfl
 have hDb:∀i,D i≤n:=fun i=>by
  rw [← hD]
  unfold mW
  have h1:=List.length_filter_le (fun e:LEn=>decide (e.k=k)) (l.take i)
  rw [List.length_take] at h1
  omega
 refine aG aB (sz:=23) Tryz.func86 rfl (by rw [Tryz.ntmps86];rfl) ?_
 repeat' (first|(refine aC ?_;intro K hK hX)|refine aL9 ?_|(refine aF hK hX ?_;clear hK hX K)|fail)
 refine bA [6,5] [] rfl rfl (fun i:Nat=>[(6,.c (iv i)),(5,.c (iv (D i)))]) (fun i=>[]) (fun i=>i≤n) (fun i=>n-i) 0 (Nat.zero_le _) (by refine eS rfl ?_ ?_ rfl<;>(repeat' (first|exact cW|exact cX|refine cI rfl dE2 rfl ?_|refine bH rfl dE2 rfl ?_|refine bH rfl (by first|rfl|(first|rfl|exact congrArg (fun x:Nat=>AV.c (iv x)) hD0.symm)) dD ?_))) ?_
 intro i hi K hK hX
 by_cases hlt:i<n
 ·obtain ⟨e,hat⟩:∃e,l[i]? = some e:=⟨_,List.getElem?_eq_getElem aA⟩
  have hk0:=fB hw hat 0 aN
  rw [show (ecR e)[0]? = some (iv e.k) from rfl] at hk0
  have hs:D (i+1)=D i+if e.k=k then 1 else 0:=by rw [← hD,← hD,fI hat,jB]
  have hdi:=hDb i
  by_cases hkk:e.k=k
  ·rw [if_pos hkk] at hs
   repeat' (first|(refine aC ?_;intro K hK hX)|refine bC9 ?_|(refine aF hK hX ?_;clear hK hX K)|fail)
   exact ⟨i+1,by omega,by omega,dK6⟩
  ·rw [if_neg hkk] at hs
   repeat' (first|(refine aC ?_;intro K hK hX)|refine bC9 ?_|(refine aF hK hX ?_;clear hK hX K)|fail)
   exact ⟨i+1,by omega,by omega,dK6⟩
 ·obtain hin:i=n:=by omega
  rw [hin,hDn] at *
  repeat' (first|(refine aC ?_;intro K hK hX)|refine aL9 ?_|(refine aF hK hX ?_;clear hK hX K)|fail)
  exact aU
theorem cH4 (l:List LEn) (n:Nat) (hn:l.length=n) (hb:n≤1000000) (hw:OkL l) (k p:Int) (r:Bool) (hr:r=true↔jK l k p):AC Tryz.prog 83 [.sl 65 n (lec l),iv k,iv p] (.c (bv r)) [] 0:=by
 have hll:(lec l).length=n*65:=by rw [fE hw,hn]
 by_cases hm:jK l k p
 ·obtain rfl:r=true:=hr.2 hm
  obtain ⟨j0,x0,hj,⟨hp1,hp2⟩,hne⟩:=uE hm
  have hjn:j0<n:=by rw [← hn];exact (List.getElem?_eq_some_iff.1 hj).1
  refine aG aB (sz:=30) Tryz.func83 rfl (by rw [Tryz.ntmps83];rfl) ?_
  repeat' (first|(refine aC ?_;intro K hK hX)|refine aI [0,1,2,6,7] ?_|refine stA ?_|(refine aF hK hX ?_;clear hK hX K)|fail)
  refine bA [7] [] rfl rfl (fun i:Nat=>[(7,.c (iv i))]) (fun i=>[]) (fun i=>i≤j0) (fun i=>j0-i) 0 (Nat.zero_le _) dL ?_
  intro i hi K hK hX
  by_cases hlt:i<j0
  ·obtain ⟨e,hat⟩:∃e,l[i]? = some e:=⟨_,List.getElem?_eq_getElem aA⟩
   have hk0:=fB hw hat 0 aN
   rw [show (ecR e)[0]? = some (iv e.k) from rfl] at hk0
   have hk2:=fB hw hat 2 aN
   rw [show (ecR e)[2]? = some (iv e.plan) from rfl] at hk2
   have hno:=hne i e hlt hat
   by_cases hkk:e.k=k
   ·have hpp:¬e.plan=p:=fun h=>hno ⟨hkk,h⟩
    repeat' (first|(refine aC ?_;intro K hK hX)|refine aL7 ?_|(refine aF hK hX ?_;clear hK hX K)|fail)
    exact cY
   ·repeat' (first|(refine aC ?_;intro K hK hX)|refine aL7 ?_|(refine aF hK hX ?_;clear hK hX K)|fail)
    exact cY
  ·have hij:i=j0:=by omega
   rw [hij]
   have hk0:=fB hw hj 0 aN
   rw [show (ecR x0)[0]? = some (iv x0.k) from rfl,hp1] at hk0
   have hk2:=fB hw hj 2 aN
   rw [show (ecR x0)[2]? = some (iv x0.plan) from rfl,hp2] at hk2
   repeat' (first|(refine aC ?_;intro K hK hX)|refine aL7 ?_|(refine aF hK hX ?_;clear hK hX K)|fail)
   exact aU
 ·obtain rfl:r=false:=by cases r;rfl;exact absurd (hr.1 rfl) hm
  refine aG aB (sz:=30) Tryz.func83 rfl (by rw [Tryz.ntmps83];rfl) ?_
  repeat' (first|(refine aC ?_;intro K hK hX)|refine aI [0,1,2,6,7] ?_|refine stA ?_|(refine aF hK hX ?_;clear hK hX K)|fail)
  refine bA [7] [] rfl rfl (fun i:Nat=>[(7,.c (iv i))]) (fun i=>[]) (fun i=>i≤n) (fun i=>n-i) 0 (Nat.zero_le _) dL ?_
  intro i hi K hK hX
  by_cases hlt:i<n
  ·obtain ⟨e,hat⟩:∃e,l[i]? = some e:=⟨_,List.getElem?_eq_getElem aA⟩
   have hk0:=fB hw hat 0 aN
   rw [show (ecR e)[0]? = some (iv e.k) from rfl] at hk0
   have hk2:=fB hw hat 2 aN
   rw [show (ecR e)[2]? = some (iv e.plan) from rfl] at hk2
   by_cases hkk:e.k=k
   ·have hpp:¬e.plan=p:=fun h=>hm ⟨e,List.mem_of_getElem? hat,hkk,h⟩
    repeat' (first|(refine aC ?_;intro K hK hX)|refine aL7 ?_|(refine aF hK hX ?_;clear hK hX K)|fail)
    exact cY
   ·repeat' (first|(refine aC ?_;intro K hK hX)|refine aL7 ?_|(refine aF hK hX ?_;clear hK hX K)|fail)
    exact cY
  ·repeat' (first|(refine aC ?_;intro K hK hX)|refine aI [0,1,2,6,7] ?_|refine stA ?_|(refine aF hK hX ?_;clear hK hX K)|fail)
   exact aU
theorem aY9 (l:List LEn) (n:Nat) (hn:l.length=n) (hb:n≤1000) (hw:OkL l) (q:Nat) (hq:(erasV l).length=q):AC Tryz.prog 48 [.sl 65 n (lec l)] (.c (.sl 3 q (vrc (erasV l)))) [] 0:=by
 have hll:(lec l).length=n*65:=by rw [fE hw,hn]
 obtain ⟨D,hD⟩:∃D:Nat→List Ver,∀i,ascL ltV (iI (l.take i))=D i:=⟨_,fun _=>rfl⟩
 obtain ⟨o,ho⟩:∃o:Nat→Nat,∀i,(D i).length=o i:=⟨_,fun _=>rfl⟩
 have hDn:D n=erasV l:=by rw [← hD,List.take_of_length_le aA];rfl
 have hon:o n=q:=by rw [← ho,hDn,hq]
 have hD0:D 0=[]:=by rw [← hD];rfl
 have ho0:o 0=0:=by rw [← ho,hD0];rfl
 refine aG aB (sz:=41) Tryz.func48 rfl (by rw [Tryz.ntmps48];rfl) ?_
 repeat' (first|(refine aC ?_;intro K hK hX)|refine rG ?_|(refine aF hK hX ?_;clear hK hX K)|fail)
 refine bT4 3 (.sl 3 0 []) rfl gC ?_
 refine bA [4,3] [] rfl rfl (fun i:Nat=>[(4,.c (iv i)),(3,.c (.sl 3 (o i) (vrc (D i))))]) (fun i=>[]) (fun i=>i≤n) (fun i=>n-i) 0 (Nat.zero_le _) dK8 ?_
 intro i hi K hK hX
 by_cases hlt:i<n
 ·obtain ⟨e,hat⟩:∃e,l[i]? = some e:=⟨_,List.getElem?_eq_getElem aA⟩
  have hk0:=fB hw hat 0 aN
  rw [show (ecR e)[0]? = some (iv e.k) from rfl] at hk0
  have hk1:=fB hw hat 31 aN
  rw [show (ecR e)[31]? = some (.sl 3 e.vs.length (vrc e.vs)) from rfl] at hk1
  have hs:D (i+1)=ascL ltV (iI (l.take i)++if e.k=2 then e.vs else []):=by rw [← hD,fI hat,mP]
  have hbd:(iI (l.take i)).length≤i*1000:=Nat.le_trans (sA (hw.take i)) gU
  have hvok:=vX (hw.take i)
  have hev:=(hw e (List.mem_of_getElem? hat)).1.vs
  have hes:=(hw e (List.mem_of_getElem? hat)).2.2.vs
  by_cases h2:e.k=2
  ·rw [if_pos h2] at hs
   generalize e.vs=vs at *
   obtain ⟨m,hm⟩:∃m,vs.length=m:=⟨_,rfl⟩
   have hvl:(vrc vs).length=m*3:=by rw [cU,hm]
   rw [hm] at hk1 hes
   rw [h2] at hk0
   obtain ⟨F,hF⟩:∃F:Nat→List Ver,∀k,ascL ltV (iI (l.take i)++vs.take k)=F k:=⟨_,fun _=>rfl⟩
   obtain ⟨f,hf⟩:∃f:Nat→Nat,∀k,(F k).length=f k:=⟨_,fun _=>rfl⟩
   have hF0:F 0=D i:=by rw [← hF,← hD,List.take_zero,List.append_nil]
   have hf0:f 0=o i:=by rw [← hf,← ho,hF0]
   have hFm:F m=D (i+1):=by rw [← hF,hs,List.take_of_length_le (l:=vs) aA]
   have hfm:f m=o (i+1):=by rw [← hf,← ho,hFm]
   repeat' (first|(refine aC ?_;intro K hK hX)|refine rG ?_|(refine aF hK hX ?_;clear hK hX K)|fail)
   refine bA [5,3] [] rfl rfl (fun k:Nat=>[(5,.c (iv k)),(3,.c (.sl 3 (f k) (vrc (F k))))]) (fun k=>[]) (fun k=>k≤m) (fun k=>m-k) 0 (Nat.zero_le _) dT3 ?_
   intro k hk K hK hX
   by_cases hkm:k<m
   ·obtain ⟨v,hvt⟩:∃v,vs[k]? = some v:=⟨_,List.getElem?_eq_getElem aA⟩
    have hx:=eA hvt
    have hfs:F (k+1)=insA ltV v (F k):=by rw [← hF,← hF,fI hvt,← List.append_assoc,mQ]
    have hfl:f k≤1000000:=by
     have:=kE (lt:=ltV) (iI (l.take i)++vs.take k)
     rw [hF,hf,List.length_append,List.length_take] at this
     have:i*1000≤999000:=by omega
     omega
    have hins:=cH7 (F k) (f k) (hf k) hfl (fun x hx=>by
     rw [← hF] at hx
     rcases List.mem_append.1 (((dF slo_V _).2 x).1 hx) with h|h
     ·exact hvok x h
     ·exact hev x (List.mem_of_mem_take h)) (by rw [← hF];exact (dF slo_V _).1) v (hev v (List.mem_of_getElem? hvt)) (f (k+1)) (by rw [← hfs,hf])
    rw [← hfs] at hins
    clear hF hD hs hvok hev
    repeat' (first|(refine aC ?_;intro K hK hX)|refine dC9 ?_|(refine aF hK hX ?_;clear hK hX K)|fail)
    exact ⟨k+1,by omega,by omega,dL⟩
   ·have hkk:k=m:=by omega
    rw [hkk]
    clear hF hD hs hvok hev
    rw [hfm,hFm]
    repeat' (first|(refine aC ?_;intro K hK hX)|refine bD0 ?_|(refine aF hK hX ?_;clear hK hX K)|fail)
    exact cY
  ·rw [if_neg h2,List.append_nil,hD] at hs
   have hos:o (i+1)=o i:=by rw [← ho,← ho,hs]
   repeat' (first|(refine aC ?_;intro K hK hX)|refine rG ?_|(refine aF hK hX ?_;clear hK hX K)|fail)
   refine bA [5] [] rfl rfl (fun k:Nat=>[(5,.c (iv k))]) (fun k=>[]) (fun k=>k=0) (fun k=>0) 0 rfl dL ?_
   intro k hk K hK hX
   rw [hk]
   repeat' (first|(refine aC ?_;intro K hK hX)|refine bD0 ?_|(refine aF hK hX ?_;clear hK hX K)|fail)
   exact bF0
 ·obtain hin:i=n:=by omega
  rw [hin,hon,hDn] at *
  repeat' (first|(refine aC ?_;intro K hK hX)|refine rG ?_|(refine aF hK hX ?_;clear hK hX K)|fail)
  exact aU
theorem aQ5 (l:List LEn) (n:Nat) (hn:l.length=n) (hb:n≤1000) (hw:OkL l) (q:Nat) (hq:(erasS l).length=q):AC Tryz.prog 50 [.sl 65 n (lec l)] (.c (.sl 2 q (src (erasS l)))) [] 0:=by
 have hll:(lec l).length=n*65:=by rw [fE hw,hn]
 obtain ⟨D,hD⟩:∃D:Nat→List Src,∀i,ascL ltS (kX (l.take i))=D i:=⟨_,fun _=>rfl⟩
 obtain ⟨o,ho⟩:∃o:Nat→Nat,∀i,(D i).length=o i:=⟨_,fun _=>rfl⟩
 have hDn:D n=erasS l:=by rw [← hD,List.take_of_length_le aA];rfl
 have hon:o n=q:=by rw [← ho,hDn,hq]
 have hD0:D 0=[]:=by rw [← hD];rfl
 have ho0:o 0=0:=by rw [← ho,hD0];rfl
 refine aG aB (sz:=41) Tryz.func50 rfl (by rw [Tryz.ntmps50];rfl) ?_
 repeat' (first|(refine aC ?_;intro K hK hX)|refine rG ?_|(refine aF hK hX ?_;clear hK hX K)|fail)
 refine bT4 3 (.sl 2 0 []) rfl gC ?_
 refine bA [4,3] [] rfl rfl (fun i:Nat=>[(4,.c (iv i)),(3,.c (.sl 2 (o i) (src (D i))))]) (fun i=>[]) (fun i=>i≤n) (fun i=>n-i) 0 (Nat.zero_le _) dK8 ?_
 intro i hi K hK hX
 by_cases hlt:i<n
 ·obtain ⟨e,hat⟩:∃e,l[i]? = some e:=⟨_,List.getElem?_eq_getElem aA⟩
  have hk0:=fB hw hat 0 aN
  rw [show (ecR e)[0]? = some (iv e.k) from rfl] at hk0
  have hk1:=fB hw hat 32 aN
  rw [show (ecR e)[32]? = some (.sl 2 e.ss.length (src e.ss)) from rfl] at hk1
  have hs:D (i+1)=ascL ltS (kX (l.take i)++if e.k=2 then e.ss else []):=by rw [← hD,fI hat,tH]
  have hbd:(kX (l.take i)).length≤i*1000:=Nat.le_trans (aF2 (hw.take i)) gU
  have hvok:=aF3 (hw.take i)
  have hev:=(hw e (List.mem_of_getElem? hat)).1.ss
  have hes:=(hw e (List.mem_of_getElem? hat)).2.2.ss
  by_cases h2:e.k=2
  ·rw [if_pos h2] at hs
   generalize e.ss=vs at *
   obtain ⟨m,hm⟩:∃m,vs.length=m:=⟨_,rfl⟩
   have hvl:(src vs).length=m*2:=by rw [dQ,hm]
   rw [hm] at hk1 hes
   rw [h2] at hk0
   obtain ⟨F,hF⟩:∃F:Nat→List Src,∀k,ascL ltS (kX (l.take i)++vs.take k)=F k:=⟨_,fun _=>rfl⟩
   obtain ⟨f,hf⟩:∃f:Nat→Nat,∀k,(F k).length=f k:=⟨_,fun _=>rfl⟩
   have hF0:F 0=D i:=by rw [← hF,← hD,List.take_zero,List.append_nil]
   have hf0:f 0=o i:=by rw [← hf,← ho,hF0]
   have hFm:F m=D (i+1):=by rw [← hF,hs,List.take_of_length_le (l:=vs) aA]
   have hfm:f m=o (i+1):=by rw [← hf,← ho,hFm]
   repeat' (first|(refine aC ?_;intro K hK hX)|refine rG ?_|(refine aF hK hX ?_;clear hK hX K)|fail)
   refine bA [5,3] [] rfl rfl (fun k:Nat=>[(5,.c (iv k)),(3,.c (.sl 2 (f k) (src (F k))))]) (fun k=>[]) (fun k=>k≤m) (fun k=>m-k) 0 (Nat.zero_le _) dT3 ?_
   intro k hk K hK hX
   by_cases hkm:k<m
   ·obtain ⟨v,hvt⟩:∃v,vs[k]? = some v:=⟨_,List.getElem?_eq_getElem aA⟩
    have hx:=eQ hvt
    have hfs:F (k+1)=insA ltS v (F k):=by rw [← hF,← hF,fI hvt,← List.append_assoc,mQ]
    have hfl:f k≤1000000:=by
     have:=kE (lt:=ltS) (kX (l.take i)++vs.take k)
     rw [hF,hf,List.length_append,List.length_take] at this
     have:i*1000≤999000:=by omega
     omega
    have hins:=cH9 (F k) (f k) (hf k) hfl (fun x hx=>by
     rw [← hF] at hx
     rcases List.mem_append.1 (((dF slo_S _).2 x).1 hx) with h|h
     ·exact hvok x h
     ·exact hev x (List.mem_of_mem_take h)) (by rw [← hF];exact (dF slo_S _).1) v (hev v (List.mem_of_getElem? hvt)) (f (k+1)) (by rw [← hfs,hf])
    rw [← hfs] at hins
    clear hF hD hs hvok hev
    repeat' (first|(refine aC ?_;intro K hK hX)|refine dC9 ?_|(refine aF hK hX ?_;clear hK hX K)|fail)
    exact ⟨k+1,by omega,by omega,dL⟩
   ·have hkk:k=m:=by omega
    rw [hkk]
    clear hF hD hs hvok hev
    rw [hfm,hFm]
    repeat' (first|(refine aC ?_;intro K hK hX)|refine bD0 ?_|(refine aF hK hX ?_;clear hK hX K)|fail)
    exact cY
  ·rw [if_neg h2,List.append_nil,hD] at hs
   have hos:o (i+1)=o i:=by rw [← ho,← ho,hs]
   repeat' (first|(refine aC ?_;intro K hK hX)|refine rG ?_|(refine aF hK hX ?_;clear hK hX K)|fail)
   refine bA [5] [] rfl rfl (fun k:Nat=>[(5,.c (iv k))]) (fun k=>[]) (fun k=>k=0) (fun k=>0) 0 rfl dL ?_
   intro k hk K hK hX
   rw [hk]
   repeat' (first|(refine aC ?_;intro K hK hX)|refine bD0 ?_|(refine aF hK hX ?_;clear hK hX K)|fail)
   exact bF0
 ·obtain hin:i=n:=by omega
  rw [hin,hon,hDn] at *
  repeat' (first|(refine aC ?_;intro K hK hX)|refine rG ?_|(refine aF hK hX ?_;clear hK hX K)|fail)
  exact aU
theorem cH6 (l:List Int) (n:Nat) (hn:l.length=n) (hb:n≤1000000) (hs:l.Pairwise fun a b:Int=>a<b) (v:Int) (q:Nat) (hq:(insA (fun a b:Int=>a<b) v l).length=q):AC Tryz.prog 118 [.sl 1 n (cP .i64 l),iv v] (.c (.sl 1 q (cP .i64 (insA (fun a b:Int=>a<b) v l)))) [] 0:=by
 have hil:(cP .i64 l).length=n:=by rw [eT,hn]
 have hat:∀{l:List Int} {i:Nat} {x:Int},l[i]? = some x→(cP .i64 l)[i]? = some (iv x):=fun h=>by unfold cP;rw [List.getElem?_map,h];rfl
 have hset:∀(l:List Int) (i:Nat) (x:Int),(cP .i64 l).set i (iv x)=cP .i64 (l.set i x):=fun l i x=>by unfold cP;rw [List.map_set]
 by_cases hm:v∈l
 ·rw [yN aS7 hs hm] at hq ⊢
  obtain rfl:n=q:=by omega
  obtain ⟨j0,hj,hne⟩:=sJ hm
  have hjn:j0<n:=by rw [← hn];exact (List.getElem?_eq_some_iff.1 hj).1
  refine aG aB (sz:=63) Tryz.func118 rfl (by rw [Tryz.ntmps118];rfl) ?_
  repeat' (first|(refine aC ?_;intro K hK hX)|refine bW2 ?_|(refine aF hK hX ?_;clear hK hX K)|fail)
  refine bA [5] [] rfl rfl (fun i:Nat=>[(5,.c (iv i))]) (fun i=>[]) (fun i=>i≤j0) (fun i=>j0-i) 0 (Nat.zero_le _) dL ?_
  intro i hi K hK hX
  by_cases hlt:i<j0
  ·obtain ⟨x,hxt⟩:∃x,l[i]? = some x:=⟨_,List.getElem?_eq_getElem aA⟩
   have hx:=hat hxt
   have hno:=hne i x hlt hxt
   repeat' (first|(refine aC ?_;intro K hK hX)|refine bC7 ?_|(refine aF hK hX ?_;clear hK hX K)|fail)
   exact cY
  ·have hij:i=j0:=by omega
   rw [hij]
   have hx:=hat hj
   repeat' (first|(refine aC ?_;intro K hK hX)|refine bC7 ?_|(refine aF hK hX ?_;clear hK hX K)|fail)
   exact aU
 ·obtain ⟨m,m1,m2,m3⟩:=aI5 aS7 hs hm
  rw [hn] at m1
  rw [aI6 aS7 hs m2 m3] at hq ⊢
  obtain rfl:n+1=q:=by rw [← hq,List.length_append,List.length_cons,List.length_take,List.length_drop];omega
  have hL:cP .i64 l++[iv v]=cP .i64 (l.take n++v::l.drop n):=by
   rw [List.take_of_length_le aA,List.drop_of_length_le aA]
   simp [cP]
  refine aG aB (sz:=63) Tryz.func118 rfl (by rw [Tryz.ntmps118];rfl) ?_
  repeat' (first|(refine aC ?_;intro K hK hX)|refine bW2 ?_|(refine aF hK hX ?_;clear hK hX K)|fail)
  refine bA [5] [] rfl rfl (fun i:Nat=>[(5,.c (iv i))]) (fun i=>[]) (fun i=>i≤n) (fun i=>n-i) 0 (Nat.zero_le _) dL ?_
  intro i hi K hK hX
  by_cases hlt:i<n
  ·obtain ⟨x,hxt⟩:∃x,l[i]? = some x:=⟨_,List.getElem?_eq_getElem aA⟩
   have hx:=hat hxt
   have hno:¬x=v:=fun h=>hm aM3
   repeat' (first|(refine aC ?_;intro K hK hX)|refine bC7 ?_|(refine aF hK hX ?_;clear hK hX K)|fail)
   exact cY
  ·repeat' (first|(refine aC ?_;intro K hK hX)|refine aI [0,1,4,5,6,7] ?_|((with_reducible refine bC (i:=6) ?_);refine aW [0,1,4,5,6,7] rfl rfl ?_;refine dE [] ?_)|((with_reducible refine bC ?_);refine aW [0,1,4,5,6,7] rfl rfl ?_;refine dA [] ?_)|refine stA ?_|refine stD ?_|refine stE ?_|(refine aF hK hX ?_;clear hK hX K)|fail)
   refine bA [7,29,28,27] [3] rfl rfl (fun k:Nat=>[(7,.c (iv k))]) (fun k=>[(3,.row 3 (cP .i64 (l.take k++v::l.drop k)))]) (fun k=>m≤k∧k≤n) (fun k=>k) n ⟨m1,Nat.le_refl _⟩ dK5 ?_
   rintro k ⟨hk1,hk2⟩ K hK hX
   have hlen:(l.take k++v::l.drop k).length=n+1:=by rw [List.length_append,List.length_cons,List.length_take,List.length_drop];omega
   have hrl:(cP .i64 (l.take k++v::l.drop k)).length=(0+n+1)*1:=by rw [eT,hlen];omega
   have hk:(l.take k++v::l.drop k)[k]? = some v:=by rw [List.getElem?_append_right gU,List.length_take,Nat.min_eq_left aA,Nat.sub_self];rfl
   have hx:=hat hk
   by_cases h0:k=0
   ·have hRm:cP .i64 (l.take k++v::l.drop k)=cP .i64 (l.take m++v::l.drop m):=by rw [show k=m by omega]
    generalize hR:cP .i64 (l.take k++v::l.drop k)=R at *
    rw [h0]
    repeat' (first|(refine aC ?_;intro K hK hX)|refine bW2 ?_|(refine aF hK hX ?_;clear hK hX K)|fail)
    exact aB7
   ·obtain ⟨u,hut⟩:∃u,l[k-1]? = some u:=⟨_,List.getElem?_eq_getElem aA⟩
    have hk':(l.take k++v::l.drop k)[k-1]? = some u:=by rw [List.getElem?_append_left gU,List.getElem?_take,if_pos aA];exact hut
    have hxu:=hat hk'
    have hxu:(cP .i64 (l.take k++v::l.drop k))[0+((k:Int)-1).toNat*1]? = some (iv u):=by rw [show 0+((k:Int)-1).toNat*1=k-1 from by omega];exact hxu
    have hx:(cP .i64 (l.take k++v::l.drop k))[0+k*1]? = some (iv v):=by rw [Nat.zero_add,Nat.mul_one];exact hx
    by_cases hlt:m<k
    ·have hvu:v<u:=m3 (k-1) u aA hut
     have hs1:(cP .i64 (l.take k++v::l.drop k)).set (0+((k:Int)-1).toNat*1) (iv v)=cP .i64 ((l.take k++v::l.drop k).set (k-1) v):=by
      rw [show 0+((k:Int)-1).toNat*1=k-1 from by omega,hset]
     have hs2:(cP .i64 ((l.take k++v::l.drop k).set (k-1) v)).set (0+k*1) (iv u)=cP .i64 (l.take (k-1)++v::l.drop (k-1)):=by
      rw [show 0+k*1=k from by omega,← zW aA aA hut,hset]
     have hl1:(cP .i64 ((l.take k++v::l.drop k).set (k-1) v)).length=(0+n+1)*1:=by rw [eT,List.length_set,hlen];omega
     rw [← hs1] at hs2 hl1
     clear hs1
     generalize hR:cP .i64 (l.take k++v::l.drop k)=R at *
     repeat' (first|(refine aC ?_;intro K hK hX)|refine aI [0,1,4,5,6,7] ?_|((with_reducible refine kH ?_);refine eI aE (lW rfl) ?_)|((with_reducible refine bC (i:=10) ?_);refine aW [0,1,4,5,6,7] rfl rfl ?_;refine dE [] ?_)|((with_reducible refine bC ?_);refine aW [0,1,4,5,6,7] rfl rfl ?_;refine dA [] ?_)|refine jG ?_|((with_reducible refine jD ?_);(refine fR aB aE rfl rfl rfl rfl rfl rfl (by first|first|omega|(rw [hl1];omega)|exact Nat.le_of_ble_eq_true rfl|omega|(simp<;>omega)) ?_))|(refine uA aZ aZ aZ aZ rfl ?_)|refine stA ?_|refine stD ?_|refine stE ?_|(refine aF hK hX ?_;clear hK hX K)|fail)
     exact ⟨k-1,by omega,by omega,dK4⟩
    ·have hkm:k=m:=by omega
     have hvu:¬v<u:=fun h=>by
      have h2:=m2 (k-1) u aA hut
      omega
     have hRm:cP .i64 (l.take k++v::l.drop k)=cP .i64 (l.take m++v::l.drop m):=by rw [hkm]
     generalize hR:cP .i64 (l.take k++v::l.drop k)=R at *
     repeat' (first|(refine aC ?_;intro K hK hX)|refine bC7 ?_|(refine aF hK hX ?_;clear hK hX K)|fail)
     exact aB7
end Go.Proofs.YtbgehdndimlgkaaGreat
