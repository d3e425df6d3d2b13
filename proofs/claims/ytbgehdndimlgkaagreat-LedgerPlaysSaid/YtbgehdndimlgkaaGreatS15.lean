/- Lemmas for laws of the ledger. -/
import Derived.Test.YtbgehdndimlgkaaGreatS14
set_option linter.all false
set_option maxHeartbeats 16000000
namespace Go.Proofs.YtbgehdndimlgkaaGreat
open Go Go.RowKit Go.Av
set_option maxRecDepth 100000
structure SmC (cs:D1) (nv ns:Nat) (vc sc:D1) (s0 s1 s2 s3 s4 s5 s6 s7:Dm):Prop where
 hl:cs.length=65
 c31:cs[31]? = some (.sl 3 nv vc)
 c32:cs[32]? = some (.sl 2 ns sc)
 c5:cs[5]? = some (sv s0)
 c8:cs[8]? = some (sv s1)
 c12:cs[12]? = some (sv s2)
 c15:cs[15]? = some (sv s3)
 c16:cs[16]? = some (sv s4)
 c19:cs[19]? = some (sv s5)
 c24:cs[24]? = some (sv s6)
 c27:cs[27]? = some (sv s7)
attribute [local irreducible] Still Adds AWL AW Drw bX bY AC AWR cU Frz Go.Av.Src cQ Out InK ItK AsK RdK eP eI ACT ACA eW lec
section
variable (cs:D1) (nv ns:Nat) (vc sc:D1) (s0 s1 s2 s3 s4 s5 s6 s7:Dm) (hS:SmC cs nv ns vc sc s0 s1 s2 s3 s4 s5 s6 s7)
include cs nv ns vc sc s0 s1 s2 s3 s4 s5 s6 s7 hS
theorem eU3 (h0:¬nv<=20):qC' 26 [.agg cs] (.c (bv false)) [] 0:=by
 obtain ⟨hl,c31,c32,c5,c8,c12,c15,c16,c19,c24,c27⟩:=hS
 refine aD aB (sz:=81) Tryz.func26 rfl mK ?_
 repeat' (first|(refine aC ?_;intro K hK hX)|refine qF ?_|(refine aG hK hX ?_;clear hK hX K)|fail)
 simp only [Bz,AF,Ay]
 repeat' (first|(refine aC ?_;intro K hK hX)|refine zQ ?_|(refine aG hK hX ?_;clear hK hX K)|fail)
 exact aY
theorem eU4 (h0:nv<=20) (h1:¬ns<=20):qC' 26 [.agg cs] (.c (bv false)) [] 0:=by
 obtain ⟨hl,c31,c32,c5,c8,c12,c15,c16,c19,c24,c27⟩:=hS
 refine aD aB (sz:=81) Tryz.func26 rfl mK ?_
 repeat' (first|(refine aC ?_;intro K hK hX)|refine qF ?_|(refine aG hK hX ?_;clear hK hX K)|fail)
 simp only [Bz,AF,Ay]
 repeat' (first|(refine aC ?_;intro K hK hX)|refine zQ ?_|(refine aG hK hX ?_;clear hK hX K)|fail)
 exact aY
theorem eU5 (h0:nv<=20) (h1:ns<=20) (h2:¬s0.length<=40):qC' 26 [.agg cs] (.c (bv false)) [] 0:=by
 obtain ⟨hl,c31,c32,c5,c8,c12,c15,c16,c19,c24,c27⟩:=hS
 refine aD aB (sz:=81) Tryz.func26 rfl mK ?_
 repeat' (first|(refine aC ?_;intro K hK hX)|refine qF ?_|(refine aG hK hX ?_;clear hK hX K)|fail)
 simp only [Bz,AF,Ay]
 repeat' (first|(refine aC ?_;intro K hK hX)|refine zQ ?_|(refine aG hK hX ?_;clear hK hX K)|fail)
 exact aY
theorem eU6 (h0:nv<=20) (h1:ns<=20) (h2:s0.length<=40) (h3:¬s1.length<=60):qC' 26 [.agg cs] (.c (bv false)) [] 0:=by
 obtain ⟨hl,c31,c32,c5,c8,c12,c15,c16,c19,c24,c27⟩:=hS
 refine aD aB (sz:=81) Tryz.func26 rfl mK ?_
 repeat' (first|(refine aC ?_;intro K hK hX)|refine qF ?_|(refine aG hK hX ?_;clear hK hX K)|fail)
 simp only [Bz,AF,Ay]
 repeat' (first|(refine aC ?_;intro K hK hX)|refine zQ ?_|(refine aG hK hX ?_;clear hK hX K)|fail)
 exact aY
theorem eU7 (h0:nv<=20) (h1:ns<=20) (h2:s0.length<=40) (h3:s1.length<=60) (h4:¬s2.length<=40):qC' 26 [.agg cs] (.c (bv false)) [] 0:=by
 obtain ⟨hl,c31,c32,c5,c8,c12,c15,c16,c19,c24,c27⟩:=hS
 refine aD aB (sz:=81) Tryz.func26 rfl mK ?_
 repeat' (first|(refine aC ?_;intro K hK hX)|refine qF ?_|(refine aG hK hX ?_;clear hK hX K)|fail)
 simp only [Bz,AF,Ay]
 repeat' (first|(refine aC ?_;intro K hK hX)|refine zQ ?_|(refine aG hK hX ?_;clear hK hX K)|fail)
 exact aY
theorem eU8 (h0:nv<=20) (h1:ns<=20) (h2:s0.length<=40) (h3:s1.length<=60) (h4:s2.length<=40) (h5:¬s3.length<=60):qC' 26 [.agg cs] (.c (bv false)) [] 0:=by
 obtain ⟨hl,c31,c32,c5,c8,c12,c15,c16,c19,c24,c27⟩:=hS
 refine aD aB (sz:=81) Tryz.func26 rfl mK ?_
 repeat' (first|(refine aC ?_;intro K hK hX)|refine qF ?_|(refine aG hK hX ?_;clear hK hX K)|fail)
 simp only [Bz,AF,Ay]
 repeat' (first|(refine aC ?_;intro K hK hX)|refine zQ ?_|(refine aG hK hX ?_;clear hK hX K)|fail)
 exact aY
theorem eU9 (h0:nv<=20) (h1:ns<=20) (h2:s0.length<=40) (h3:s1.length<=60) (h4:s2.length<=40) (h5:s3.length<=60) (h6:¬s4.length<=40):qC' 26 [.agg cs] (.c (bv false)) [] 0:=by
 obtain ⟨hl,c31,c32,c5,c8,c12,c15,c16,c19,c24,c27⟩:=hS
 refine aD aB (sz:=81) Tryz.func26 rfl mK ?_
 repeat' (first|(refine aC ?_;intro K hK hX)|refine qF ?_|(refine aG hK hX ?_;clear hK hX K)|fail)
 simp only [Bz,AF,Ay]
 repeat' (first|(refine aC ?_;intro K hK hX)|refine zQ ?_|(refine aG hK hX ?_;clear hK hX K)|fail)
 exact aY
theorem eV0 (h0:nv<=20) (h1:ns<=20) (h2:s0.length<=40) (h3:s1.length<=60) (h4:s2.length<=40) (h5:s3.length<=60) (h6:s4.length<=40) (h7:¬s5.length<=60):qC' 26 [.agg cs] (.c (bv false)) [] 0:=by
 obtain ⟨hl,c31,c32,c5,c8,c12,c15,c16,c19,c24,c27⟩:=hS
 refine aD aB (sz:=81) Tryz.func26 rfl mK ?_
 repeat' (first|(refine aC ?_;intro K hK hX)|refine qF ?_|(refine aG hK hX ?_;clear hK hX K)|fail)
 simp only [Bz,AF,Ay]
 repeat' (first|(refine aC ?_;intro K hK hX)|refine zQ ?_|(refine aG hK hX ?_;clear hK hX K)|fail)
 exact aY
theorem eV1 (h0:nv<=20) (h1:ns<=20) (h2:s0.length<=40) (h3:s1.length<=60) (h4:s2.length<=40) (h5:s3.length<=60) (h6:s4.length<=40) (h7:s5.length<=60) (h8:¬s6.length<=40):qC' 26 [.agg cs] (.c (bv false)) [] 0:=by
 obtain ⟨hl,c31,c32,c5,c8,c12,c15,c16,c19,c24,c27⟩:=hS
 refine aD aB (sz:=81) Tryz.func26 rfl mK ?_
 repeat' (first|(refine aC ?_;intro K hK hX)|refine qF ?_|(refine aG hK hX ?_;clear hK hX K)|fail)
 simp only [Bz,AF,Ay]
 repeat' (first|(refine aC ?_;intro K hK hX)|refine zQ ?_|(refine aG hK hX ?_;clear hK hX K)|fail)
 exact aY
theorem eV2 (h0:nv<=20) (h1:ns<=20) (h2:s0.length<=40) (h3:s1.length<=60) (h4:s2.length<=40) (h5:s3.length<=60) (h6:s4.length<=40) (h7:s5.length<=60) (h8:s6.length<=40) (h9:¬s7.length<=60):qC' 26 [.agg cs] (.c (bv false)) [] 0:=by
 obtain ⟨hl,c31,c32,c5,c8,c12,c15,c16,c19,c24,c27⟩:=hS
 refine aD aB (sz:=81) Tryz.func26 rfl mK ?_
 repeat' (first|(refine aC ?_;intro K hK hX)|refine qF ?_|(refine aG hK hX ?_;clear hK hX K)|fail)
 simp only [Bz,AF,Ay]
 repeat' (first|(refine aC ?_;intro K hK hX)|refine zQ ?_|(refine aG hK hX ?_;clear hK hX K)|fail)
 exact aY
theorem eO3 (h0:nv<=20) (h1:ns<=20) (h2:s0.length<=40) (h3:s1.length<=60) (h4:s2.length<=40) (h5:s3.length<=60) (h6:s4.length<=40) (h7:s5.length<=60) (h8:s6.length<=40) (h9:s7.length<=60):qC' 26 [.agg cs] (.c (bv true)) [] 0:=by
 obtain ⟨hl,c31,c32,c5,c8,c12,c15,c16,c19,c24,c27⟩:=hS
 refine aD aB (sz:=81) Tryz.func26 rfl mK ?_
 repeat' (first|(refine aC ?_;intro K hK hX)|refine qF ?_|(refine aG hK hX ?_;clear hK hX K)|fail)
 simp only [Bz,AF,Ay]
 repeat' (first|(refine aC ?_;intro K hK hX)|refine zQ ?_|(refine aG hK hX ?_;clear hK hX K)|fail)
 exact aY
end
def smE (e:LEn):Prop:=e.vs.length<=20/\e.ss.length<=20/\e.rq.who.ns.length<=40/\e.rq.who.v.t.length<=60/\e.lk.a.ns.length<=40/\e.lk.a.v.t.length<=60/\e.lk.b.ns.length<=40/\e.lk.b.v.t.length<=60/\e.hd.who.ns.length<=40/\e.hd.who.v.t.length<=60
theorem aF2 {e:LEn} (h:smE e):e.sz:=by
 obtain ⟨h0,h1,h2,h3,h4,h5,h6,h7,h8,h9⟩:=h
 exact ⟨by omega,by omega,by omega,by omega,by omega,by omega⟩
theorem bB4 (e:LEn) (hr:e.root.length=32) (nv ns:Nat) (hnv:e.vs.length=nv) (hns:e.ss.length=ns) (r:Bool) (h:r=true↔smE e):qC' 26 [.agg (ecs e nv ns)] (.c (bv r)) [] 0:=by
 have hS:SmC (ecs e nv ns) nv ns (vrc e.vs) (src e.ss) e.rq.who.ns e.rq.who.v.t e.lk.a.ns e.lk.a.v.t e.lk.b.ns e.lk.b.v.t e.hd.who.ns e.hd.who.v.t:=⟨cK hr nv ns,rfl,rfl,rfl,rfl,rfl,rfl,rfl,rfl,rfl,rfl⟩
 have key:∀b:Bool,(b=true↔r=true)->qC' 26 [.agg (ecs e nv ns)] (.c (bv b)) [] 0->qC' 26 [.agg (ecs e nv ns)] (.c (bv r)) [] 0:=fun b hb h=>by
  have:b=r:=by cases b<;>cases r<;>simp_all
  rwa [this] at h
 have no:¬smE e->(false=true↔r=true):=fun hn=>⟨fun h=>absurd h aN,fun h'=>absurd (h.1 h') hn⟩
 unfold smE at h no
 rw [hnv,hns] at h no
 by_cases h0:nv<=20
 rotate_left
 ·exact key false (no fun hh=>h0 hh.1) (eU3 _ _ _ _ _ _ _ _ _ _ _ _ _ hS h0)
 by_cases h1:ns<=20
 rotate_left
 ·exact key false (no fun hh=>h1 hh.2.1) (eU4 _ _ _ _ _ _ _ _ _ _ _ _ _ hS h0 h1)
 by_cases h2:e.rq.who.ns.length<=40
 rotate_left
 ·exact key false (no fun hh=>h2 hh.2.2.1) (eU5 _ _ _ _ _ _ _ _ _ _ _ _ _ hS h0 h1 h2)
 by_cases h3:e.rq.who.v.t.length<=60
 rotate_left
 ·exact key false (no fun hh=>h3 hh.2.2.2.1) (eU6 _ _ _ _ _ _ _ _ _ _ _ _ _ hS h0 h1 h2 h3)
 by_cases h4:e.lk.a.ns.length<=40
 rotate_left
 ·exact key false (no fun hh=>h4 hh.2.2.2.2.1) (eU7 _ _ _ _ _ _ _ _ _ _ _ _ _ hS h0 h1 h2 h3 h4)
 by_cases h5:e.lk.a.v.t.length<=60
 rotate_left
 ·exact key false (no fun hh=>h5 hh.2.2.2.2.2.1) (eU8 _ _ _ _ _ _ _ _ _ _ _ _ _ hS h0 h1 h2 h3 h4 h5)
 by_cases h6:e.lk.b.ns.length<=40
 rotate_left
 ·exact key false (no fun hh=>h6 hh.2.2.2.2.2.2.1) (eU9 _ _ _ _ _ _ _ _ _ _ _ _ _ hS h0 h1 h2 h3 h4 h5 h6)
 by_cases h7:e.lk.b.v.t.length<=60
 rotate_left
 ·exact key false (no fun hh=>h7 hh.2.2.2.2.2.2.2.1) (eV0 _ _ _ _ _ _ _ _ _ _ _ _ _ hS h0 h1 h2 h3 h4 h5 h6 h7)
 by_cases h8:e.hd.who.ns.length<=40
 rotate_left
 ·exact key false (no fun hh=>h8 hh.2.2.2.2.2.2.2.2.1) (eV1 _ _ _ _ _ _ _ _ _ _ _ _ _ hS h0 h1 h2 h3 h4 h5 h6 h7 h8)
 by_cases h9:e.hd.who.v.t.length<=60
 rotate_left
 ·exact key false (no fun hh=>h9 hh.2.2.2.2.2.2.2.2.2) (eV2 _ _ _ _ _ _ _ _ _ _ _ _ _ hS h0 h1 h2 h3 h4 h5 h6 h7 h8 h9)
 exact key true ⟨fun _=>h.2 ⟨h0,h1,h2,h3,h4,h5,h6,h7,h8,h9⟩,fun _=>rfl⟩ (eO3 _ _ _ _ _ _ _ _ _ _ _ _ _ hS h0 h1 h2 h3 h4 h5 h6 h7 h8 h9)
def eW4 (l:List LEn):Prop:=l.length<=16/\∀e∈l,smE e
end Go.Proofs.YtbgehdndimlgkaaGreat
