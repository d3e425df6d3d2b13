/- Lemmas for laws of the ledger. -/
import Derived.Test.YtbgehdndimlgkaaGreatV14
set_option linter.all false
set_option maxHeartbeats 16000000
namespace Go.Proofs.YtbgehdndimlgkaaGreat
open Go Go.RowKit Go.Av
set_option maxRecDepth 100000
structure SmC (cs:Dp) (nv ns:Nat) (vc sc:Dp) (s0 s1 s2 s3 s4 s5 s6 s7:CZ):Prop where
 hl:cs.length=65
 c31:cs[31]? = some (.sl 3 nv vc)
 c32:cs[32]? = some (.sl 2 ns sc)
 c5:cs[5]? = some (sv s0)
 c8:cs[8]? = some (sv s1)
 c12:cs[12]? = some (sv s2)
 c15:cs[15]? = some (sv s3)
 c16:cs[16]? = some (sv s4)
 c19:cs[19]? = some (sv s5)
 c24:cs[24]? = some (sv s6)
 c27:cs[27]? = some (sv s7)
theorem uD {l:List LEn} (h:∀e∈l,e.wf) {i:Nat} {e:LEn} (he:l[i]? = some e):((lec l).drop (i*65)).take 65=ecR e:=wB (fun e he=>eX (h e he)) he
theorem bU3 {l:List LEn} (h:∀e∈l,e.wf):(lec l).length=l.length*65:=sI fun e he=>eX (h e he)
attribute [local irreducible] Still Adds AWL AW Drw bN bP AC AWR cM Frz Go.Av.Src dB Out InK ItK AsK RdK eA dZ ACT ACA eL lec
section
variable (cs:Dp) (nv ns:Nat) (vc sc:Dp) (s0 s1 s2 s3 s4 s5 s6 s7:CZ) (hS:SmC cs nv ns vc sc s0 s1 s2 s3 s4 s5 s6 s7)
include cs nv ns vc sc s0 s1 s2 s3 s4 s5 s6 s7 hS
theorem dS5 (h0:¬nv<=20):qC' 26 [.agg cs] (.c (bv false)) [] 0:=by
 obtain ⟨hl,c31,c32,c5,c8,c12,c15,c16,c19,c24,c27⟩:=hS
 refine aJ aB (sz:=81) Tryz.func26 rfl nY ?_
 repeat' (first|(refine aC ?_;intro K hK hX)|refine nO ?_|(refine aH hK hX ?_;clear hK hX K)|fail)
 simp only [Bx,AF,At]
 repeat' (first|(refine aC ?_;intro K hK hX)|refine vC ?_|(refine aH hK hX ?_;clear hK hX K)|fail)
 exact cJ
theorem dS6 (h0:nv<=20) (h1:¬ns<=20):qC' 26 [.agg cs] (.c (bv false)) [] 0:=by
 obtain ⟨hl,c31,c32,c5,c8,c12,c15,c16,c19,c24,c27⟩:=hS
 refine aJ aB (sz:=81) Tryz.func26 rfl nY ?_
 repeat' (first|(refine aC ?_;intro K hK hX)|refine nO ?_|(refine aH hK hX ?_;clear hK hX K)|fail)
 simp only [Bx,AF,At]
 repeat' (first|(refine aC ?_;intro K hK hX)|refine vC ?_|(refine aH hK hX ?_;clear hK hX K)|fail)
 exact cJ
theorem dS7 (h0:nv<=20) (h1:ns<=20) (h2:¬s0.length<=40):qC' 26 [.agg cs] (.c (bv false)) [] 0:=by
 obtain ⟨hl,c31,c32,c5,c8,c12,c15,c16,c19,c24,c27⟩:=hS
 refine aJ aB (sz:=81) Tryz.func26 rfl nY ?_
 repeat' (first|(refine aC ?_;intro K hK hX)|refine nO ?_|(refine aH hK hX ?_;clear hK hX K)|fail)
 simp only [Bx,AF,At]
 repeat' (first|(refine aC ?_;intro K hK hX)|refine vC ?_|(refine aH hK hX ?_;clear hK hX K)|fail)
 exact cJ
theorem dS8 (h0:nv<=20) (h1:ns<=20) (h2:s0.length<=40) (h3:¬s1.length<=60):qC' 26 [.agg cs] (.c (bv false)) [] 0:=by
 obtain ⟨hl,c31,c32,c5,c8,c12,c15,c16,c19,c24,c27⟩:=hS
 refine aJ aB (sz:=81) Tryz.func26 rfl nY ?_
 repeat' (first|(refine aC ?_;intro K hK hX)|refine nO ?_|(refine aH hK hX ?_;clear hK hX K)|fail)
 simp only [Bx,AF,At]
 repeat' (first|(refine aC ?_;intro K hK hX)|refine vC ?_|(refine aH hK hX ?_;clear hK hX K)|fail)
 exact cJ
theorem dS9 (h0:nv<=20) (h1:ns<=20) (h2:s0.length<=40) (h3:s1.length<=60) (h4:¬s2.length<=40):qC' 26 [.agg cs] (.c (bv false)) [] 0:=by
 obtain ⟨hl,c31,c32,c5,c8,c12,c15,c16,c19,c24,c27⟩:=hS
 refine aJ aB (sz:=81) Tryz.func26 rfl nY ?_
 repeat' (first|(refine aC ?_;intro K hK hX)|refine nO ?_|(refine aH hK hX ?_;clear hK hX K)|fail)
 simp only [Bx,AF,At]
 repeat' (first|(refine aC ?_;intro K hK hX)|refine vC ?_|(refine aH hK hX ?_;clear hK hX K)|fail)
 exact cJ
theorem dT0 (h0:nv<=20) (h1:ns<=20) (h2:s0.length<=40) (h3:s1.length<=60) (h4:s2.length<=40) (h5:¬s3.length<=60):qC' 26 [.agg cs] (.c (bv false)) [] 0:=by
 obtain ⟨hl,c31,c32,c5,c8,c12,c15,c16,c19,c24,c27⟩:=hS
 refine aJ aB (sz:=81) Tryz.func26 rfl nY ?_
 repeat' (first|(refine aC ?_;intro K hK hX)|refine nO ?_|(refine aH hK hX ?_;clear hK hX K)|fail)
 simp only [Bx,AF,At]
 repeat' (first|(refine aC ?_;intro K hK hX)|refine vC ?_|(refine aH hK hX ?_;clear hK hX K)|fail)
 exact cJ
theorem dT1 (h0:nv<=20) (h1:ns<=20) (h2:s0.length<=40) (h3:s1.length<=60) (h4:s2.length<=40) (h5:s3.length<=60) (h6:¬s4.length<=40):qC' 26 [.agg cs] (.c (bv false)) [] 0:=by
 obtain ⟨hl,c31,c32,c5,c8,c12,c15,c16,c19,c24,c27⟩:=hS
 refine aJ aB (sz:=81) Tryz.func26 rfl nY ?_
 repeat' (first|(refine aC ?_;intro K hK hX)|refine nO ?_|(refine aH hK hX ?_;clear hK hX K)|fail)
 simp only [Bx,AF,At]
 repeat' (first|(refine aC ?_;intro K hK hX)|refine vC ?_|(refine aH hK hX ?_;clear hK hX K)|fail)
 exact cJ
theorem dT2 (h0:nv<=20) (h1:ns<=20) (h2:s0.length<=40) (h3:s1.length<=60) (h4:s2.length<=40) (h5:s3.length<=60) (h6:s4.length<=40) (h7:¬s5.length<=60):qC' 26 [.agg cs] (.c (bv false)) [] 0:=by
 obtain ⟨hl,c31,c32,c5,c8,c12,c15,c16,c19,c24,c27⟩:=hS
 refine aJ aB (sz:=81) Tryz.func26 rfl nY ?_
 repeat' (first|(refine aC ?_;intro K hK hX)|refine nO ?_|(refine aH hK hX ?_;clear hK hX K)|fail)
 simp only [Bx,AF,At]
 repeat' (first|(refine aC ?_;intro K hK hX)|refine vC ?_|(refine aH hK hX ?_;clear hK hX K)|fail)
 exact cJ
theorem dT3 (h0:nv<=20) (h1:ns<=20) (h2:s0.length<=40) (h3:s1.length<=60) (h4:s2.length<=40) (h5:s3.length<=60) (h6:s4.length<=40) (h7:s5.length<=60) (h8:¬s6.length<=40):qC' 26 [.agg cs] (.c (bv false)) [] 0:=by
 obtain ⟨hl,c31,c32,c5,c8,c12,c15,c16,c19,c24,c27⟩:=hS
 refine aJ aB (sz:=81) Tryz.func26 rfl nY ?_
 repeat' (first|(refine aC ?_;intro K hK hX)|refine nO ?_|(refine aH hK hX ?_;clear hK hX K)|fail)
 simp only [Bx,AF,At]
 repeat' (first|(refine aC ?_;intro K hK hX)|refine vC ?_|(refine aH hK hX ?_;clear hK hX K)|fail)
 exact cJ
theorem dT4 (h0:nv<=20) (h1:ns<=20) (h2:s0.length<=40) (h3:s1.length<=60) (h4:s2.length<=40) (h5:s3.length<=60) (h6:s4.length<=40) (h7:s5.length<=60) (h8:s6.length<=40) (h9:¬s7.length<=60):qC' 26 [.agg cs] (.c (bv false)) [] 0:=by
 obtain ⟨hl,c31,c32,c5,c8,c12,c15,c16,c19,c24,c27⟩:=hS
 refine aJ aB (sz:=81) Tryz.func26 rfl nY ?_
 repeat' (first|(refine aC ?_;intro K hK hX)|refine nO ?_|(refine aH hK hX ?_;clear hK hX K)|fail)
 simp only [Bx,AF,At]
 repeat' (first|(refine aC ?_;intro K hK hX)|refine vC ?_|(refine aH hK hX ?_;clear hK hX K)|fail)
 exact cJ
theorem dO0 (h0:nv<=20) (h1:ns<=20) (h2:s0.length<=40) (h3:s1.length<=60) (h4:s2.length<=40) (h5:s3.length<=60) (h6:s4.length<=40) (h7:s5.length<=60) (h8:s6.length<=40) (h9:s7.length<=60):qC' 26 [.agg cs] (.c (bv true)) [] 0:=by
 obtain ⟨hl,c31,c32,c5,c8,c12,c15,c16,c19,c24,c27⟩:=hS
 refine aJ aB (sz:=81) Tryz.func26 rfl nY ?_
 repeat' (first|(refine aC ?_;intro K hK hX)|refine nO ?_|(refine aH hK hX ?_;clear hK hX K)|fail)
 simp only [Bx,AF,At]
 repeat' (first|(refine aC ?_;intro K hK hX)|refine vC ?_|(refine aH hK hX ?_;clear hK hX K)|fail)
 exact cJ
end
def smE (e:LEn):Prop:=e.vs.length<=20/\e.ss.length<=20/\e.rq.who.ns.length<=40/\e.rq.who.v.t.length<=60/\e.lk.a.ns.length<=40/\e.lk.a.v.t.length<=60/\e.lk.b.ns.length<=40/\e.lk.b.v.t.length<=60/\e.hd.who.ns.length<=40/\e.hd.who.v.t.length<=60
theorem aS6 {e:LEn} (h:smE e):e.sz:=by
 obtain ⟨h0,h1,h2,h3,h4,h5,h6,h7,h8,h9⟩:=h
 exact ⟨by omega,by omega,by omega,by omega,by omega,by omega⟩
theorem rQ (e:LEn) (hr:e.root.length=32) (nv ns:Nat) (hnv:e.vs.length=nv) (hns:e.ss.length=ns) (r:Bool) (h:r=true↔smE e):qC' 26 [.agg (ecs e nv ns)] (.c (bv r)) [] 0:=by
 have hS:SmC (ecs e nv ns) nv ns (vrc e.vs) (src e.ss) e.rq.who.ns e.rq.who.v.t e.lk.a.ns e.lk.a.v.t e.lk.b.ns e.lk.b.v.t e.hd.who.ns e.hd.who.v.t:=⟨cS hr nv ns,rfl,rfl,rfl,rfl,rfl,rfl,rfl,rfl,rfl,rfl⟩
 have key:∀b:Bool,(b=true↔r=true)->qC' 26 [.agg (ecs e nv ns)] (.c (bv b)) [] 0->qC' 26 [.agg (ecs e nv ns)] (.c (bv r)) [] 0:=fun b hb h=>by
  have:b=r:=by cases b<;>cases r<;>simp_all
  rwa [this] at h
 have no:¬smE e->(false=true↔r=true):=fun hn=>⟨fun h=>absurd h aN,fun h'=>absurd (h.1 h') hn⟩
 unfold smE at h no
 rw [hnv,hns] at h no
 by_cases h0:nv<=20
 rotate_left
 ·exact key false (no fun hh=>h0 hh.1) (dS5 _ _ _ _ _ _ _ _ _ _ _ _ _ hS h0)
 by_cases h1:ns<=20
 rotate_left
 ·exact key false (no fun hh=>h1 hh.2.1) (dS6 _ _ _ _ _ _ _ _ _ _ _ _ _ hS h0 h1)
 by_cases h2:e.rq.who.ns.length<=40
 rotate_left
 ·exact key false (no fun hh=>h2 hh.2.2.1) (dS7 _ _ _ _ _ _ _ _ _ _ _ _ _ hS h0 h1 h2)
 by_cases h3:e.rq.who.v.t.length<=60
 rotate_left
 ·exact key false (no fun hh=>h3 hh.2.2.2.1) (dS8 _ _ _ _ _ _ _ _ _ _ _ _ _ hS h0 h1 h2 h3)
 by_cases h4:e.lk.a.ns.length<=40
 rotate_left
 ·exact key false (no fun hh=>h4 hh.2.2.2.2.1) (dS9 _ _ _ _ _ _ _ _ _ _ _ _ _ hS h0 h1 h2 h3 h4)
 by_cases h5:e.lk.a.v.t.length<=60
 rotate_left
 ·exact key false (no fun hh=>h5 hh.2.2.2.2.2.1) (dT0 _ _ _ _ _ _ _ _ _ _ _ _ _ hS h0 h1 h2 h3 h4 h5)
 by_cases h6:e.lk.b.ns.length<=40
 rotate_left
 ·exact key false (no fun hh=>h6 hh.2.2.2.2.2.2.1) (dT1 _ _ _ _ _ _ _ _ _ _ _ _ _ hS h0 h1 h2 h3 h4 h5 h6)
 by_cases h7:e.lk.b.v.t.length<=60
 rotate_left
 ·exact key false (no fun hh=>h7 hh.2.2.2.2.2.2.2.1) (dT2 _ _ _ _ _ _ _ _ _ _ _ _ _ hS h0 h1 h2 h3 h4 h5 h6 h7)
 by_cases h8:e.hd.who.ns.length<=40
 rotate_left
 ·exact key false (no fun hh=>h8 hh.2.2.2.2.2.2.2.2.1) (dT3 _ _ _ _ _ _ _ _ _ _ _ _ _ hS h0 h1 h2 h3 h4 h5 h6 h7 h8)
 by_cases h9:e.hd.who.v.t.length<=60
 rotate_left
 ·exact key false (no fun hh=>h9 hh.2.2.2.2.2.2.2.2.2) (dT4 _ _ _ _ _ _ _ _ _ _ _ _ _ hS h0 h1 h2 h3 h4 h5 h6 h7 h8 h9)
 exact key true ⟨fun _=>h.2 ⟨h0,h1,h2,h3,h4,h5,h6,h7,h8,h9⟩,fun _=>rfl⟩ (dO0 _ _ _ _ _ _ _ _ _ _ _ _ _ hS h0 h1 h2 h3 h4 h5 h6 h7 h8 h9)
def bS1 (l:List LEn):Prop:=l.length<=16/\∀e∈l,smE e
theorem bS2 (l:List LEn) (n:Nat) (hln:l.length=n) (hnb:n<=maxLen) (hwl:∀e∈l,e.wf) (r:Bool) (hr:r=true↔bS1 l):qC' 12 [.sl 65 n (lec l)] (.c (bv r)) [] 0:=by
 have hll:(lec l).length=n*65:=by rw [bU3 hwl,hln]
 have hnm:n<=9223372036854775807:=by simp only [maxLen] at hnb;omega
 by_cases hs:∀e∈l,smE e
 ·by_cases h16:n<=16
  ·obtain rfl:r=true:=hr.2 ⟨by omega,hs⟩
   refine aJ aB (sz:=19) Tryz.func12 rfl (by rw [Tryz.ntmps12];rfl) ?_
   repeat' (first|(refine aC ?_;intro K hK hX)|refine aG0 ?_|(refine aH hK hX ?_;clear hK hX K)|fail)
   refine cA [3] [] rfl rfl (fun i:Nat=>[(3,.c (iv i))]) (fun i=>[]) (fun i=>i<=n) (fun i=>n-i) 0 (An _) gV ?_
   intro i hi K hK hX
   by_cases hlt:i<n
   ·obtain ⟨e,hat⟩:∃e,l[i]? = some e:=⟨_,Ab aA⟩
    have hx:=uD hwl hat
    have he:=Ag hat
    have hel:=eX (hwl e he)
    have hsm:=rQ e (hwl e he).root _ _ rfl rfl true ⟨fun _=>hs e he,fun _=>rfl⟩
    change AC _ _ [.agg (ecR e)] _ _ _ at hsm
    generalize ecR e=cs at *
    repeat' (first|(refine aC ?_;intro K hK hX)|refine aV0 ?_|(refine aH hK hX ?_;clear hK hX K)|fail)
    exact iN
   ·repeat' (first|(refine aC ?_;intro K hK hX)|refine aG0 ?_|(refine aH hK hX ?_;clear hK hX K)|fail)
    exact cJ
  ·obtain rfl:r=false:=by cases r;rfl;exact absurd (hr.1 rfl).1 aA
   refine aJ aB (sz:=19) Tryz.func12 rfl (by rw [Tryz.ntmps12];rfl) ?_
   repeat' (first|(refine aC ?_;intro K hK hX)|refine aG0 ?_|(refine aH hK hX ?_;clear hK hX K)|fail)
   refine cA [3] [] rfl rfl (fun i:Nat=>[(3,.c (iv i))]) (fun i=>[]) (fun i=>i<=n) (fun i=>n-i) 0 (An _) gV ?_
   intro i hi K hK hX
   by_cases hlt:i<n
   ·obtain ⟨e,hat⟩:∃e,l[i]? = some e:=⟨_,Ab aA⟩
    have hx:=uD hwl hat
    have he:=Ag hat
    have hel:=eX (hwl e he)
    have hsm:=rQ e (hwl e he).root _ _ rfl rfl true ⟨fun _=>hs e he,fun _=>rfl⟩
    change AC _ _ [.agg (ecR e)] _ _ _ at hsm
    generalize ecR e=cs at *
    repeat' (first|(refine aC ?_;intro K hK hX)|refine aV0 ?_|(refine aH hK hX ?_;clear hK hX K)|fail)
    exact iN
   ·repeat' (first|(refine aC ?_;intro K hK hX)|refine aG0 ?_|(refine aH hK hX ?_;clear hK hX K)|fail)
    exact cJ
 ·have hbad:∃e∈l,¬smE e:=Bm fun hn=>hs fun e he=>Bm fun h=>hn ⟨e,he,h⟩
  obtain rfl:r=false:=by cases r;rfl;exact absurd (hr.1 rfl).2 hs
  obtain ⟨j0,x0,hj,hp,hne⟩:=zB hbad
  have hjn:j0<n:=by rw [<- hln];exact (Ad.1 hj).1
  refine aJ aB (sz:=19) Tryz.func12 rfl (by rw [Tryz.ntmps12];rfl) ?_
  repeat' (first|(refine aC ?_;intro K hK hX)|refine aG0 ?_|(refine aH hK hX ?_;clear hK hX K)|fail)
  refine cA [3] [] rfl rfl (fun i:Nat=>[(3,.c (iv i))]) (fun i=>[]) (fun i=>i<=j0) (fun i=>j0-i) 0 (An _) gV ?_
  intro i hi K hK hX
  by_cases hlt:i<j0
  ·obtain ⟨e,hat⟩:∃e,l[i]? = some e:=⟨_,Ab aA⟩
   have hx:=uD hwl hat
   have he:=Ag hat
   have hel:=eX (hwl e he)
   have hsm:=rQ e (hwl e he).root _ _ rfl rfl true ⟨fun _=>Bm fun h=>hne i e hlt hat h,fun _=>rfl⟩
   change AC _ _ [.agg (ecR e)] _ _ _ at hsm
   generalize ecR e=cs at *
   repeat' (first|(refine aC ?_;intro K hK hX)|refine aV0 ?_|(refine aH hK hX ?_;clear hK hX K)|fail)
   exact iN
  ·have hij:i=j0:=by omega
   rw [hij]
   have hx:=uD hwl hj
   have he:=Ag hj
   have hel:=eX (hwl x0 he)
   have hsm:=rQ x0 (hwl x0 he).root _ _ rfl rfl false ⟨fun h=>kB,fun h=>absurd h hp⟩
   change AC _ _ [.agg (ecR x0)] _ _ _ at hsm
   generalize ecR x0=cs at *
   repeat' (first|(refine aC ?_;intro K hK hX)|refine aV0 ?_|(refine aH hK hX ?_;clear hK hX K)|fail)
   exact cJ
end Go.Proofs.YtbgehdndimlgkaaGreat
