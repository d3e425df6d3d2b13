import Derived.Test.YtbgehdndimlgkaaGreatQ10
import Derived.Test.YtbgehdndimlgkaaGreatQ11
set_option maxHeartbeats 16000000
set_option linter.unusedSimpArgs false
set_option linter.unusedVariables false
namespace Go.Proofs.YtbgehdndimlgkaaGreat
open Go Go.RowKit Go.Av
set_option maxRecDepth 100000
theorem sW {n:Int} (h:aV n):(Lit.int .i64 n).wf=true:=by
 have e1:IntKind.i64.min = -9223372036854775808:=by decide
 have e2:IntKind.i64.max=9223372036854775807:=by decide
 unfold aV at h
 simp only [Lit.wf,e1,e2,decide_eq_true_eq,Bool.and_eq_true]
 omega
def oH (v:Ver):Prop:=aV v.t∧aV v.c∧aV v.s
def sX (v:Src):Prop:=aV v.t∧aV v.s
def Ver.vl (v:Ver):List Value:=[.int .i64 v.t,.int .i64 v.c,.int .i64 v.s]
def Src.vl (v:Src):List Value:=[.int .i64 v.t,.int .i64 v.s]
theorem aX8 {v:Ver} (h:oH v):LfL [.i .i64,.i .i64,.i .i64] v.vl:=⟨⟨rfl,sW h.1⟩,⟨rfl,sW h.2.1⟩,⟨rfl,sW h.2.2⟩,trivial⟩
theorem dN6 {v:Src} (h:sX v):LfL [.i .i64,.i .i64] v.vl:=⟨⟨rfl,sW h.1⟩,⟨rfl,sW h.2⟩,trivial⟩
theorem cL7 {a b:Ver} {r:Bool} (h:r=true↔a=b):r=true↔a.vl=b.vl:=by
 obtain ⟨a1,a2,a3⟩:=a
 obtain ⟨b1,b2,b3⟩:=b
 rw [h]
 simp [Ver.vl]
theorem eA0 {a b:Src} {r:Bool} (h:r=true↔a=b):r=true↔a.vl=b.vl:=by
 obtain ⟨a1,a2⟩:=a
 obtain ⟨b1,b2⟩:=b
 rw [h]
 simp [Src.vl]
theorem aI5 {α:Type} {lt:α→α→Prop} (h:SLO lt):∀{l:List α} {v:α},l.Pairwise lt→v∉l→∃m:Nat,m≤l.length∧(∀(j:Nat) (x:α),j<m→l[j]? = some x→lt x v)∧∀(j:Nat) (x:α),m≤j→l[j]? = some x→lt v x
 | [],v,_,_=>⟨0,Nat.le_refl _,fun j x hj=>by omega,fun j x _ hx=>by simp at hx⟩
 | y::l,v,hl,hv=>by
  obtain ⟨l1,l2⟩:=List.pairwise_cons.1 hl
  rcases h.tri y v with e|e|e
  ·obtain ⟨m,m1,m2,m3⟩:=aI5 h l2 (v:=v) (fun hm=>hv (List.mem_cons_of_mem _ hm))
   refine ⟨m+1,by simp;omega,fun j x hj hx=>?_,fun j x hj hx=>?_⟩
   ·cases j with
    | zero=>simp at hx;rw [← hx];exact e
    | succ j=>exact m2 j x aA tU
   ·cases j with
    | zero=>omega
    | succ j=>exact m3 j x aA tU
  ·exact absurd e (fun e=>hv (by simp [e]))
  ·refine ⟨0,Nat.zero_le _,fun j x hj=>by omega,fun j x _ hx=>?_⟩
   cases j with
   | zero=>simp at hx;rw [← hx];exact e
   | succ j=>exact h.tr _ _ _ e (l1 x (List.mem_of_getElem? tU))
theorem aI6 {α:Type} {lt:α→α→Prop} (h:SLO lt) {l:List α} {v:α} {m:Nat} (hl:l.Pairwise lt) (h2:∀(j:Nat) (x:α),j<m→l[j]? = some x→lt x v) (h3:∀(j:Nat) (x:α),m≤j→l[j]? = some x→lt v x):insA lt v l=l.take m++v::l.drop m :=
 cU0 h hl (fun x hx=>by
  obtain ⟨j,hj⟩:=List.getElem?_of_mem hx
  have hjm:j<m:=by
   by_cases hc:j<m
   ·exact hc
   ·rw [List.getElem?_take,if_neg hc] at hj;cases hj
  rw [List.getElem?_take,if_pos hjm] at hj
  exact h2 j x hjm hj) (fun x hx=>by
  obtain ⟨j,hj⟩:=List.getElem?_of_mem hx
  rw [List.getElem?_drop] at hj
  exact h3 _ x (Nat.le_add_right _ _) hj)
theorem sJ {α:Type} [DecidableEq α] {l:List α} {v:α} (h:v∈l):∃j:Nat,l[j]? = some v∧∀(q:Nat) (x:α),q<j→l[q]? = some x→x≠v:=by
 induction l with
 | nil=>simp at h
 | cons y l ih =>
  by_cases e:y=v
  ·exact ⟨0,by simp [e],fun q x hq=>by omega⟩
  ·obtain ⟨j,h1,h2⟩:=ih (by rcases List.mem_cons.1 h with h|h;exact absurd h.symm e;exact h)
   refine ⟨j+1,by simpa using h1,fun q x hq hx=>?_⟩
   cases q with
   | zero=>simp at hx;rw [← hx];exact e
   | succ q=>exact h2 q x aA tU
theorem nD {α:Type} {f:α→List CV} {k:Nat} (h:∀a,(f a).length=k):∀{l:List α} {i:Nat} (a:α),i<l.length→lay (l.flatMap f) (i*k) (f a)=(l.set i a).flatMap f
 | [],i,a,hi=>by simp at hi
 | b::l,0,a,_=>by
  unfold lay
  rw [Nat.zero_mul,List.take_zero,List.nil_append,Nat.zero_add,h,List.flatMap_cons,List.set_cons_zero,List.flatMap_cons,List.drop_append,h,List.drop_of_length_le (by rw [h];exact Nat.le_refl _),Nat.sub_self,List.drop_zero,List.nil_append]
 | b::l,i+1,a,hi=>by
  have ih:=nD h (l:=l) (i:=i) a tS
  unfold lay at ih ⊢
  have e1:(i+1)*k=k+i*k:=by rw [Nat.add_mul];omega
  have e2:(i+1)*k+(f a).length=k+(i*k+(f a).length):=by rw [e1];omega
  rw [e2,e1,List.flatMap_cons,List.set_cons_succ,List.flatMap_cons,← ih,List.take_append,List.drop_append,h,List.take_of_length_le (by rw [h];omega),List.drop_of_length_le (by rw [h];omega),show k+i*k-k=i*k by omega,show k+(i*k+(f a).length)-k=i*k+(f a).length by omega]
  simp only [List.nil_append,List.append_assoc]
theorem zW {α:Type} {l:List α} {v u:α} {k:Nat} (hk:0<k) (hkl:k≤l.length) (hu:l[k-1]? = some u):((l.take k++v::l.drop k).set (k-1) v).set k u=l.take (k-1)++v::l.drop (k-1):=by
 obtain ⟨j,rfl⟩:∃j,k=j+1:=⟨k-1,by omega⟩
 rw [Nat.add_sub_cancel] at hu ⊢
 have h1:l.take (j+1)=l.take j++[u]:=by rw [List.take_add_one,hu];rfl
 have h2:l.drop j=u::l.drop (j+1):=by
  obtain ⟨h3,h4⟩:=List.getElem?_eq_some_iff.1 hu
  rw [List.drop_eq_getElem_cons h3,h4]
 have hl:(l.take j).length=j:=by rw [List.length_take];omega
 rw [h1,h2,List.append_assoc]
 rw [List.set_append_right _ _ aA,hl,Nat.sub_self,List.singleton_append,List.set_cons_zero,List.set_append_right _ _ aA,hl,show j+1-j=1 by omega,List.set_cons_succ,List.set_cons_zero]
attribute [local irreducible] Still Adds AWL AW Drw bS bY AC AWR cQ Frz Go.Av.Src cM Out InK ItK AsK RdK fC eZ ACT ACA fJ
theorem jZ (a b:Ver) (r:Bool) (hr:r=true↔ltV a b):AC Tryz.prog 84 [.agg [iv a.t,iv a.c,iv a.s],.agg [iv b.t,iv b.c,iv b.s]] (.c (bv r)) [] 0:=by
 have no:¬ltV a b→r=false:=fun h=>by cases r;rfl;exact absurd (hr.1 rfl) h
 unfold ltV at hr no
 obtain ⟨a1,a2,a3⟩:=a
 obtain ⟨b1,b2,b3⟩:=b
 simp only at *
 by_cases h1:a1<b1
 ·skip
  obtain rfl:r=true:=hr.2 aA
  refine aG aB (sz:=30) Tryz.func84 rfl tN ?_
  repeat' (first|(refine aC ?_;intro K hK hX)|refine rF ?_|(refine aF hK hX ?_;clear hK hX K)|fail)
  exact aU
 by_cases h2:b1<a1
 ·skip
  obtain rfl:r=false:=no aA
  refine aG aB (sz:=30) Tryz.func84 rfl tN ?_
  repeat' (first|(refine aC ?_;intro K hK hX)|refine rF ?_|(refine aF hK hX ?_;clear hK hX K)|fail)
  exact aU
 by_cases h3:a3<b3
 ·skip
  obtain rfl:r=true:=hr.2 aA
  refine aG aB (sz:=30) Tryz.func84 rfl tN ?_
  repeat' (first|(refine aC ?_;intro K hK hX)|refine rF ?_|(refine aF hK hX ?_;clear hK hX K)|fail)
  exact aU
 by_cases h4:b3<a3
 ·skip
  obtain rfl:r=false:=no aA
  refine aG aB (sz:=30) Tryz.func84 rfl tN ?_
  repeat' (first|(refine aC ?_;intro K hK hX)|refine rF ?_|(refine aF hK hX ?_;clear hK hX K)|fail)
  exact aU
 by_cases h5:a2<b2
 ·skip
  obtain rfl:r=true:=hr.2 aA
  refine aG aB (sz:=30) Tryz.func84 rfl tN ?_
  repeat' (first|(refine aC ?_;intro K hK hX)|refine rF ?_|(refine aF hK hX ?_;clear hK hX K)|fail)
  exact aU
 ·skip
  obtain rfl:r=false:=no aA
  refine aG aB (sz:=30) Tryz.func84 rfl tN ?_
  repeat' (first|(refine aC ?_;intro K hK hX)|refine rF ?_|(refine aF hK hX ?_;clear hK hX K)|fail)
  exact aU
theorem zB (l:List Ver) (n:Nat) (hn:l.length=n) (hb:n≤1000000) (hw:∀x∈l,oH x) (v:Ver) (hv:oH v) (r:Bool) (hr:r=true↔v∈l):AC Tryz.prog 94 [.sl 3 n (vrc l),.agg [iv v.t,iv v.c,iv v.s]] (.c (bv r)) [] 0:=by
 have hvl:(vrc l).length=n*3:=by rw [cU,hn]
 have hcx:∀x:Ver,[iv x.t,iv x.c,iv x.s]=x.vl.map CV.v:=fun _=>rfl
 have lv:=aX8 hv
 by_cases hm:v∈l
 ·obtain rfl:r=true:=hr.2 hm
  obtain ⟨j0,hj,hne⟩:=sJ hm
  have hjn:j0<n:=by rw [← hn];exact (List.getElem?_eq_some_iff.1 hj).1
  refine aG aB (sz:=18) Tryz.func94 rfl (by rw [Tryz.ntmps94];rfl) ?_
  repeat' (first|(refine aC ?_;intro K hK hX)|refine bC4 ?_|(refine aF hK hX ?_;clear hK hX K)|fail)
  refine bA [5] [] rfl rfl (fun i:Nat=>[(5,.c (iv i))]) (fun i=>[]) (fun i=>i≤j0) (fun i=>j0-i) 0 (Nat.zero_le _) dL ?_
  intro i hi K hK hX
  by_cases hlt:i<j0
  ·obtain ⟨x,hat⟩:∃x,l[i]? = some x:=⟨_,List.getElem?_eq_getElem aA⟩
   have hx:=eA hat
   have lx:=aX8 (hw x (List.mem_of_getElem? hat))
   have heq:(false:Bool)=true↔x=v:=⟨fun h=>dW,fun h=>absurd h (hne i x hlt hat)⟩
   repeat' (first|(refine aC ?_;intro K hK hX)|refine dA0 ?_|(refine aF hK hX ?_;clear hK hX K)|fail)
   exact cY
  ·have hij:i=j0:=by omega
   rw [hij]
   have hx:=eA hj
   have heq:(true:Bool)=true↔v=v:=⟨fun h=>rfl,fun h=>rfl⟩
   repeat' (first|(refine aC ?_;intro K hK hX)|refine bI [0,1,3,4,5] ?_|((first|((with_reducible refine cA ?_);refine xA ?_)|((with_reducible refine eK ?_);refine xD ?_));(first|((with_reducible refine bT ?_);(first|refine aK (zM aZ (m:=3) rfl aZ aZ aZ aZ aZ rfl rfl (hcx v) (hcx v) lv lv (cL7 heq)) ?_))))|refine fL ?_|refine stA ?_|refine stD ?_|(refine aF hK hX ?_;clear hK hX K)|fail)
   exact aU
 ·obtain rfl:r=false:=by cases r;rfl;exact absurd (hr.1 rfl) hm
  refine aG aB (sz:=18) Tryz.func94 rfl (by rw [Tryz.ntmps94];rfl) ?_
  repeat' (first|(refine aC ?_;intro K hK hX)|refine bC4 ?_|(refine aF hK hX ?_;clear hK hX K)|fail)
  refine bA [5] [] rfl rfl (fun i:Nat=>[(5,.c (iv i))]) (fun i=>[]) (fun i=>i≤n) (fun i=>n-i) 0 (Nat.zero_le _) dL ?_
  intro i hi K hK hX
  by_cases hlt:i<n
  ·obtain ⟨x,hat⟩:∃x,l[i]? = some x:=⟨_,List.getElem?_eq_getElem aA⟩
   have hx:=eA hat
   have lx:=aX8 (hw x (List.mem_of_getElem? hat))
   have heq:(false:Bool)=true↔x=v:=⟨fun h=>dW,fun h=>absurd (by rw [← h];exact List.mem_of_getElem? hat) hm⟩
   repeat' (first|(refine aC ?_;intro K hK hX)|refine dA0 ?_|(refine aF hK hX ?_;clear hK hX K)|fail)
   exact cY
  ·repeat' (first|(refine aC ?_;intro K hK hX)|refine bI [0,1,3,4,5] ?_|refine stA ?_|refine stD ?_|(refine aF hK hX ?_;clear hK hX K)|fail)
   exact aU
theorem cH7 (l:List Ver) (n:Nat) (hn:l.length=n) (hb:n≤1000000) (hw:∀x∈l,oH x) (hs:l.Pairwise ltV) (v:Ver) (hv:oH v) (q:Nat) (hq:(insA ltV v l).length=q):AC Tryz.prog 114 [.sl 3 n (vrc l),.agg [iv v.t,iv v.c,iv v.s]] (.c (.sl 3 q (vrc (insA ltV v l)))) [] 0:=by
 have hvl:(vrc l).length=n*3:=by rw [cU,hn]
 by_cases hm:v∈l
 ·have hh:=zB l n hn hb hw v hv true ⟨fun _=>hm,fun _=>rfl⟩
  rw [yN slo_V hs hm] at hq ⊢
  obtain rfl:n=q:=by omega
  refine aG aB (sz:=53) Tryz.func114 rfl (by rw [Tryz.ntmps114];rfl) ?_
  repeat' (first|(refine aC ?_;intro K hK hX)|refine dB4 ?_|(refine aF hK hX ?_;clear hK hX K)|fail)
  exact aU
 ·have hh:=zB l n hn hb hw v hv false ⟨fun h=>dW,fun h=>absurd h hm⟩
  obtain ⟨m,m1,m2,m3⟩:=aI5 slo_V hs hm
  rw [hn] at m1
  rw [aI6 slo_V hs m2 m3] at hq ⊢
  obtain rfl:n+1=q:=by rw [← hq,List.length_append,List.length_cons,List.length_take,List.length_drop];omega
  have hL:vrc l++[iv v.t,iv v.c,iv v.s]=vrc (l.take n++v::l.drop n):=by
   rw [List.take_of_length_le aA,List.drop_of_length_le aA]
   simp [vrc]
  refine aG aB (sz:=53) Tryz.func114 rfl (by rw [Tryz.ntmps114];rfl) ?_
  repeat' (first|(refine aC ?_;intro K hK hX)|refine cZ9 ?_|(refine aF hK hX ?_;clear hK hX K)|fail)
  refine bA [6,18,19,17] [4] rfl rfl (fun k:Nat=>[(6,.c (iv k))]) (fun k=>[(4,.row 76 (vrc (l.take k++v::l.drop k)))]) (fun k=>m≤k∧k≤n) (fun k=>k) n ⟨m1,Nat.le_refl _⟩ dK5 ?_
  rintro k ⟨hk1,hk2⟩ K hK hX
  have hlen:(l.take k++v::l.drop k).length=n+1:=by rw [List.length_append,List.length_cons,List.length_take,List.length_drop];omega
  have hrl:(vrc (l.take k++v::l.drop k)).length=(0+n+1)*3:=by rw [cU,hlen,Nat.zero_add]
  have hk:(l.take k++v::l.drop k)[k]? = some v:=by rw [List.getElem?_append_right gU,List.length_take,Nat.min_eq_left aA,Nat.sub_self];rfl
  have hx:=eA hk
  rw [← Nat.zero_add (k*3)] at hx
  by_cases h0:k=0
  ·have hRm:vrc (l.take k++v::l.drop k)=vrc (l.take m++v::l.drop m):=by rw [show k=m by omega]
   generalize hR:vrc (l.take k++v::l.drop k)=R at *
   rw [h0]
   repeat' (first|(refine aC ?_;intro K hK hX)|refine bI [0,1,3,4,5,6] ?_|refine stA ?_|refine stD ?_|(refine aF hK hX ?_;clear hK hX K)|fail)
   exact aB7
  ·obtain ⟨u,hat⟩:∃u,l[k-1]? = some u:=⟨_,List.getElem?_eq_getElem aA⟩
   have hk':(l.take k++v::l.drop k)[k-1]? = some u:=by rw [List.getElem?_append_left gU,List.getElem?_take,if_pos aA];exact hat
   have hxu:=eA hk'
   rw [show k-1=((k:Int)-1).toNat from by omega,← Nat.zero_add (((k:Int)-1).toNat*3)] at hxu
   by_cases hlt:m<k
   ·have hle:=jZ v u true ⟨fun _=>m3 (k-1) u aA hat,fun _=>rfl⟩
    have hs1:lay (vrc (l.take k++v::l.drop k)) (0+((k:Int)-1).toNat*3) [iv v.t,iv v.c,iv v.s]=vrc ((l.take k++v::l.drop k).set (k-1) v):=by
     rw [Nat.zero_add,show ((k:Int)-1).toNat=k-1 from by omega]
     exact nD (f:=fun v:Ver=>[iv v.t,iv v.c,iv v.s]) (k:=3) (fun _=>rfl) v aA
    have hs2:lay (vrc ((l.take k++v::l.drop k).set (k-1) v)) (0+k*3) [iv u.t,iv u.c,iv u.s]=vrc (l.take (k-1)++v::l.drop (k-1)):=by
     rw [Nat.zero_add,← zW aA aA hat]
     exact nD (f:=fun v:Ver=>[iv v.t,iv v.c,iv v.s]) (k:=3) (fun _=>rfl) u (by rw [List.length_set];omega)
    have hl1:(vrc ((l.take k++v::l.drop k).set (k-1) v)).length=(n+1)*3:=by rw [cU,List.length_set,hlen]
    rw [← hs1] at hs2 hl1
    clear hs1
    generalize hR:vrc (l.take k++v::l.drop k)=R at *
    repeat' (first|(refine aC ?_;intro K hK hX)|refine aI [0,1,3,4,5,6] ?_|((with_reducible refine kH ?_);refine eI aE (lW rfl) ?_)|((with_reducible refine bC (i:=7) ?_);refine aW [0,1,3,4,5,6] rfl rfl ?_;refine dE [] ?_)|((with_reducible refine bC ?_);refine aW [0,1,3,4,5,6] rfl rfl ?_;refine dA [] ?_)|((with_reducible refine uK ?_);refine tX aB aE rfl rfl rfl rfl rfl eG rfl (by show 0+k*3+3≤_;rw [hl1];omega) eG rfl ?_)|(refine fA ?_;refine c0 hle ?_)|refine gL ?_|(refine uA aZ aZ aZ aZ rfl ?_)|refine stA ?_|refine stD ?_|refine stE ?_|(refine aF hK hX ?_;clear hK hX K)|fail)
    exact ⟨k-1,by omega,by omega,dK4⟩
   ·have hkm:k=m:=by omega
    have hle:=jZ v u false ⟨fun h=>dW,fun h=>by
     have h2:=m2 (k-1) u aA hat
     exact absurd (slo_V.tr _ _ _ h h2) (slo_V.irr v)⟩
    have hRm:vrc (l.take k++v::l.drop k)=vrc (l.take m++v::l.drop m):=by rw [hkm]
    generalize hR:vrc (l.take k++v::l.drop k)=R at *
    repeat' (first|(refine aC ?_;intro K hK hX)|refine dC8 ?_|(refine aF hK hX ?_;clear hK hX K)|fail)
    exact aB7
theorem nI (a b:Src) (r:Bool) (hr:r=true↔ltS a b):AC Tryz.prog 85 [.agg [iv a.t,iv a.s],.agg [iv b.t,iv b.s]] (.c (bv r)) [] 0:=by
 have no:¬ltS a b→r=false:=fun h=>by cases r;rfl;exact absurd (hr.1 rfl) h
 unfold ltS at hr no
 obtain ⟨a1,a3⟩:=a
 obtain ⟨b1,b3⟩:=b
 simp only at *
 by_cases h1:a1<b1
 ·skip
  obtain rfl:r=true:=hr.2 aA
  refine aG aB (sz:=24) Tryz.func85 rfl aF9 ?_
  repeat' (first|(refine aC ?_;intro K hK hX)|refine rF ?_|(refine aF hK hX ?_;clear hK hX K)|fail)
  exact aU
 by_cases h2:b1<a1
 ·skip
  obtain rfl:r=false:=no aA
  refine aG aB (sz:=24) Tryz.func85 rfl aF9 ?_
  repeat' (first|(refine aC ?_;intro K hK hX)|refine rF ?_|(refine aF hK hX ?_;clear hK hX K)|fail)
  exact aU
 by_cases h3:a3<b3
 ·skip
  obtain rfl:r=true:=hr.2 aA
  refine aG aB (sz:=24) Tryz.func85 rfl aF9 ?_
  repeat' (first|(refine aC ?_;intro K hK hX)|refine rF ?_|(refine aF hK hX ?_;clear hK hX K)|fail)
  exact aU
 ·skip
  obtain rfl:r=false:=no aA
  refine aG aB (sz:=24) Tryz.func85 rfl aF9 ?_
  repeat' (first|(refine aC ?_;intro K hK hX)|refine rF ?_|(refine aF hK hX ?_;clear hK hX K)|fail)
  exact aU
theorem uO (l:List Src) (n:Nat) (hn:l.length=n) (hb:n≤1000000) (hw:∀x∈l,sX x) (v:Src) (hv:sX v) (r:Bool) (hr:r=true↔v∈l):AC Tryz.prog 90 [.sl 2 n (src l),.agg [iv v.t,iv v.s]] (.c (bv r)) [] 0:=by
 have hvl:(src l).length=n*2:=by rw [dQ,hn]
 have hcx:∀x:Src,[iv x.t,iv x.s]=x.vl.map CV.v:=fun _=>rfl
 have lv:=dN6 hv
 by_cases hm:v∈l
 ·obtain rfl:r=true:=hr.2 hm
  obtain ⟨j0,hj,hne⟩:=sJ hm
  have hjn:j0<n:=by rw [← hn];exact (List.getElem?_eq_some_iff.1 hj).1
  refine aG aB (sz:=18) Tryz.func90 rfl (by rw [Tryz.ntmps90];rfl) ?_
  repeat' (first|(refine aC ?_;intro K hK hX)|refine bC4 ?_|(refine aF hK hX ?_;clear hK hX K)|fail)
  refine bA [5] [] rfl rfl (fun i:Nat=>[(5,.c (iv i))]) (fun i=>[]) (fun i=>i≤j0) (fun i=>j0-i) 0 (Nat.zero_le _) dL ?_
  intro i hi K hK hX
  by_cases hlt:i<j0
  ·obtain ⟨x,hat⟩:∃x,l[i]? = some x:=⟨_,List.getElem?_eq_getElem aA⟩
   have hx:=eQ hat
   have lx:=dN6 (hw x (List.mem_of_getElem? hat))
   have heq:(false:Bool)=true↔x=v:=⟨fun h=>dW,fun h=>absurd h (hne i x hlt hat)⟩
   repeat' (first|(refine aC ?_;intro K hK hX)|refine dA1 ?_|(refine aF hK hX ?_;clear hK hX K)|fail)
   exact cY
  ·have hij:i=j0:=by omega
   rw [hij]
   have hx:=eQ hj
   have heq:(true:Bool)=true↔v=v:=⟨fun h=>rfl,fun h=>rfl⟩
   repeat' (first|(refine aC ?_;intro K hK hX)|refine bI [0,1,3,4,5] ?_|((first|((with_reducible refine cA ?_);refine xA ?_)|((with_reducible refine eK ?_);refine xD ?_));(first|((with_reducible refine bT ?_);(first|refine aK (zM aZ (m:=3) rfl aZ aZ aZ aZ aZ rfl rfl (hcx v) (hcx v) lv lv (eA0 heq)) ?_))))|refine fL ?_|refine stA ?_|refine stD ?_|(refine aF hK hX ?_;clear hK hX K)|fail)
   exact aU
 ·obtain rfl:r=false:=by cases r;rfl;exact absurd (hr.1 rfl) hm
  refine aG aB (sz:=18) Tryz.func90 rfl (by rw [Tryz.ntmps90];rfl) ?_
  repeat' (first|(refine aC ?_;intro K hK hX)|refine bC4 ?_|(refine aF hK hX ?_;clear hK hX K)|fail)
  refine bA [5] [] rfl rfl (fun i:Nat=>[(5,.c (iv i))]) (fun i=>[]) (fun i=>i≤n) (fun i=>n-i) 0 (Nat.zero_le _) dL ?_
  intro i hi K hK hX
  by_cases hlt:i<n
  ·obtain ⟨x,hat⟩:∃x,l[i]? = some x:=⟨_,List.getElem?_eq_getElem aA⟩
   have hx:=eQ hat
   have lx:=dN6 (hw x (List.mem_of_getElem? hat))
   have heq:(false:Bool)=true↔x=v:=⟨fun h=>dW,fun h=>absurd (by rw [← h];exact List.mem_of_getElem? hat) hm⟩
   repeat' (first|(refine aC ?_;intro K hK hX)|refine dA1 ?_|(refine aF hK hX ?_;clear hK hX K)|fail)
   exact cY
  ·repeat' (first|(refine aC ?_;intro K hK hX)|refine bI [0,1,3,4,5] ?_|refine stA ?_|refine stD ?_|(refine aF hK hX ?_;clear hK hX K)|fail)
   exact aU
theorem cH9 (l:List Src) (n:Nat) (hn:l.length=n) (hb:n≤1000000) (hw:∀x∈l,sX x) (hs:l.Pairwise ltS) (v:Src) (hv:sX v) (q:Nat) (hq:(insA ltS v l).length=q):AC Tryz.prog 116 [.sl 2 n (src l),.agg [iv v.t,iv v.s]] (.c (.sl 2 q (src (insA ltS v l)))) [] 0:=by
 have hvl:(src l).length=n*2:=by rw [dQ,hn]
 by_cases hm:v∈l
 ·have hh:=uO l n hn hb hw v hv true ⟨fun _=>hm,fun _=>rfl⟩
  rw [yN slo_S hs hm] at hq ⊢
  obtain rfl:n=q:=by omega
  refine aG aB (sz:=53) Tryz.func116 rfl (by rw [Tryz.ntmps116];rfl) ?_
  repeat' (first|(refine aC ?_;intro K hK hX)|refine dB4 ?_|(refine aF hK hX ?_;clear hK hX K)|fail)
  exact aU
 ·have hh:=uO l n hn hb hw v hv false ⟨fun h=>dW,fun h=>absurd h hm⟩
  obtain ⟨m,m1,m2,m3⟩:=aI5 slo_S hs hm
  rw [hn] at m1
  rw [aI6 slo_S hs m2 m3] at hq ⊢
  obtain rfl:n+1=q:=by rw [← hq,List.length_append,List.length_cons,List.length_take,List.length_drop];omega
  have hL:src l++[iv v.t,iv v.s]=src (l.take n++v::l.drop n):=by
   rw [List.take_of_length_le aA,List.drop_of_length_le aA]
   simp [src]
  refine aG aB (sz:=53) Tryz.func116 rfl (by rw [Tryz.ntmps116];rfl) ?_
  repeat' (first|(refine aC ?_;intro K hK hX)|refine cZ9 ?_|(refine aF hK hX ?_;clear hK hX K)|fail)
  refine bA [6,18,19,17] [4] rfl rfl (fun k:Nat=>[(6,.c (iv k))]) (fun k=>[(4,.row 72 (src (l.take k++v::l.drop k)))]) (fun k=>m≤k∧k≤n) (fun k=>k) n ⟨m1,Nat.le_refl _⟩ dK5 ?_
  rintro k ⟨hk1,hk2⟩ K hK hX
  have hlen:(l.take k++v::l.drop k).length=n+1:=by rw [List.length_append,List.length_cons,List.length_take,List.length_drop];omega
  have hrl:(src (l.take k++v::l.drop k)).length=(0+n+1)*2:=by rw [dQ,hlen,Nat.zero_add]
  have hk:(l.take k++v::l.drop k)[k]? = some v:=by rw [List.getElem?_append_right gU,List.length_take,Nat.min_eq_left aA,Nat.sub_self];rfl
  have hx:=eQ hk
  rw [← Nat.zero_add (k*2)] at hx
  by_cases h0:k=0
  ·have hRm:src (l.take k++v::l.drop k)=src (l.take m++v::l.drop m):=by rw [show k=m by omega]
   generalize hR:src (l.take k++v::l.drop k)=R at *
   rw [h0]
   repeat' (first|(refine aC ?_;intro K hK hX)|refine bI [0,1,3,4,5,6] ?_|refine stA ?_|refine stD ?_|(refine aF hK hX ?_;clear hK hX K)|fail)
   exact aB7
  ·obtain ⟨u,hat⟩:∃u,l[k-1]? = some u:=⟨_,List.getElem?_eq_getElem aA⟩
   have hk':(l.take k++v::l.drop k)[k-1]? = some u:=by rw [List.getElem?_append_left gU,List.getElem?_take,if_pos aA];exact hat
   have hxu:=eQ hk'
   rw [show k-1=((k:Int)-1).toNat from by omega,← Nat.zero_add (((k:Int)-1).toNat*2)] at hxu
   by_cases hlt:m<k
   ·have hle:=nI v u true ⟨fun _=>m3 (k-1) u aA hat,fun _=>rfl⟩
    have hs1:lay (src (l.take k++v::l.drop k)) (0+((k:Int)-1).toNat*2) [iv v.t,iv v.s]=src ((l.take k++v::l.drop k).set (k-1) v):=by
     rw [Nat.zero_add,show ((k:Int)-1).toNat=k-1 from by omega]
     exact nD (f:=fun v:Src=>[iv v.t,iv v.s]) (k:=2) (fun _=>rfl) v aA
    have hs2:lay (src ((l.take k++v::l.drop k).set (k-1) v)) (0+k*2) [iv u.t,iv u.s]=src (l.take (k-1)++v::l.drop (k-1)):=by
     rw [Nat.zero_add,← zW aA aA hat]
     exact nD (f:=fun v:Src=>[iv v.t,iv v.s]) (k:=2) (fun _=>rfl) u (by rw [List.length_set];omega)
    have hl1:(src ((l.take k++v::l.drop k).set (k-1) v)).length=(n+1)*2:=by rw [dQ,List.length_set,hlen]
    rw [← hs1] at hs2 hl1
    clear hs1
    generalize hR:src (l.take k++v::l.drop k)=R at *
    repeat' (first|(refine aC ?_;intro K hK hX)|refine aI [0,1,3,4,5,6] ?_|((with_reducible refine kH ?_);refine eI aE (lW rfl) ?_)|((with_reducible refine bC (i:=7) ?_);refine aW [0,1,3,4,5,6] rfl rfl ?_;refine dE [] ?_)|((with_reducible refine bC ?_);refine aW [0,1,3,4,5,6] rfl rfl ?_;refine dA [] ?_)|((with_reducible refine uK ?_);refine tX aB aE rfl rfl rfl rfl rfl eG rfl (by show 0+k*2+2≤_;rw [hl1];omega) eG rfl ?_)|(refine fA ?_;refine c0 hle ?_)|refine gL ?_|(refine uA aZ aZ aZ aZ rfl ?_)|refine stA ?_|refine stD ?_|refine stE ?_|(refine aF hK hX ?_;clear hK hX K)|fail)
    exact ⟨k-1,by omega,by omega,dK4⟩
   ·have hkm:k=m:=by omega
    have hle:=nI v u false ⟨fun h=>dW,fun h=>by
     have h2:=m2 (k-1) u aA hat
     exact absurd (slo_S.tr _ _ _ h h2) (slo_S.irr v)⟩
    have hRm:src (l.take k++v::l.drop k)=src (l.take m++v::l.drop m):=by rw [hkm]
    generalize hR:src (l.take k++v::l.drop k)=R at *
    repeat' (first|(refine aC ?_;intro K hK hX)|refine dC8 ?_|(refine aF hK hX ?_;clear hK hX K)|fail)
    exact aB7
end Go.Proofs.YtbgehdndimlgkaaGreat
