/-
  Lemmas for laws of the ledger; no statement of a law.
-/
import Derived.Test.YtbgehdndimlgkaaGreatQ17
import Derived.Test.YtbgehdndimlgkaaGreatQ22
set_option maxHeartbeats 16000000
set_option linter.unusedSimpArgs false
set_option linter.unusedVariables false
namespace Go.Proofs.YtbgehdndimlgkaaGreat
open Go Go.RowKit Go.Av
set_option maxRecDepth 100000
attribute [local irreducible] Still Adds AWL AW Drw bT bW AC AWR cL Frz Go.Av.Src dC Out InK ItK AsK RdK eI eE ACT ACA eL
attribute [local simp] bQ bL bD
structure RR {α:Type} (f:RS→α × RS) (N:Nat) (s0:RS) (i:Nat) (l:List α) (s:RS):Prop where
 le:i≤N
 len:l.length=i
 eq:iL f N s0=(l++(iL f (N-i) s).1,(iL f (N-i) s).2)
theorem RR.init {α:Type} (f:RS→α × RS) (N:Nat) (s0:RS):RR f N s0 0 [] s0:=⟨Nat.zero_le _,rfl,by rw [Nat.sub_zero,List.nil_append]⟩
theorem RR.next {α:Type} {f:RS→α × RS} {N:Nat} {s0:RS} {i:Nat} {l:List α} {s:RS} (h:RR f N s0 i l s) (hi:i<N) (h0:s.e=0) {x:α} {s':RS} (hx:f s=(x,s')):RR f N s0 (i+1) (l++[x]) s':=by
 refine ⟨hi,by rw [List.length_append,h.len];rfl,?_⟩
 rw [h.eq,show N-i=(N-(i+1))+1 by omega,iL,if_neg (by rw [h0];simp),hx]
 simp
theorem RR.stop {α:Type} {f:RS→α × RS} {N:Nat} {s0:RS} {i:Nat} {l:List α} {s:RS} (h:RR f N s0 i l s) (he:i=N∨s.e≠0):iL f N s0=(l,s):=by
 have:iL f (N-i) s=([],s):=by
  cases hn:N-i with
  | zero=>rfl
  | succ k=>rw [iL,if_pos (he.resolve_left aA)]
 rw [h.eq,this,List.append_nil]
theorem sH {α:Type} {f:RS→α × RS} (hf:∀s,(f s).2.b.length≤s.b.length):∀(n:Nat) (s:RS),(iL f n s).2.b.length≤s.b.length∧(iL f n s).1.length≤n
 | 0,s=>⟨Nat.le_refl _,by simp [iL]⟩
 | n+1,s=>by
  obtain ⟨h1,h2⟩:=sH hf n (f s).2
  have h3:=hf s
  rw [iL]
  split
  ·exact ⟨Nat.le_refl _,by simp⟩
  ·exact ⟨Nat.le_trans h1 h3,by simp only [List.length_cons];omega⟩
theorem bR9 (b:List UInt8) (e:Int) (m:Nat) (hm:b.length=m) (hb:m≤1000000000):∃r s' n,aZ6 rVr 512 ⟨b,e⟩=(r,s')∧r.length=n∧n≤512∧ARd 136 109 [] b e m (.sl 3 n (vrc r)) s':=by
 obtain ⟨n1,s1,q1,b1,e1,m1,rfl,a1,l1,d1,c1'⟩:=oF 512 aN b e m hm hb
 have hbd:=qF 0 512 aN aN ⟨b,e⟩
 rw [q1] at hbd
 dsimp only at hbd
 obtain ⟨N,hN⟩:∃N:Nat,n1=(N:Int):=⟨n1.toNat,by omega⟩
 subst hN
 unfold aZ6
 rw [q1]
 dsimp only
 rw [Int.toNat_natCast]
 have hfa:=sH bJ1 N ⟨b1,e1⟩
 obtain ⟨R,hR⟩:∃R,iL rVr N ⟨b1,e1⟩=R:=⟨_,rfl⟩
 rw [hR] at hfa ⊢
 obtain ⟨hf1,hf2⟩:=hfa
 dsimp only at hf1
 rw [l1] at hf1
 refine ⟨R.1,R.2,_,rfl,rfl,by omega,?_⟩
 refine ⟨R.2.b,R.2.e,_,rfl,?_,rfl,by omega,by omega⟩
 refine aT aB (sz:=35) Tryz.func136 rfl (by rw [Tryz.ntmps136];rfl) ?_
 repeat' (first|(refine aC ?_;intro K hK hX)|refine dG1 ?_|(refine aH hK hX ?_;clear hK hX K)|fail)
 refine lH 3 76 3 rfl ?_
 refine cN [3,5] [0,1] rfl rfl (fun p:Nat × List Ver × List UInt8 × Int × Nat=>[(3,.own 1 0 p.1 3 true),(5,.c (iv p.1))]) (fun p=>[(1,.row 76 (vrc p.2.1)),(0,.blk 109 [.c (.sl 1 p.2.2.2.2 (u8c p.2.2.1)),.c (iv p.2.2.2.1)])]) (fun p=>RR rVr N ⟨b1,e1⟩ p.1 p.2.1 ⟨p.2.2.1,p.2.2.2.1⟩∧p.2.2.1.length=p.2.2.2.2∧p.2.2.2.2≤m1) (fun p=>N-p.1) (0,[],b1,e1,m1) ⟨RR.init _ _ _,l1,Nat.le_refl _⟩ dU ?_
 rintro ⟨i,l,bc,ec,mc⟩ ⟨hrl,hbc,hmc⟩ K hK hX
 dsimp only at hrl hbc hmc hK ⊢
 have hil:=hrl.len
 have hiN:=hrl.le
 have hcl:(vrc l).length=i*3:=by rw [eA,hil]
 by_cases hlt:i<N
 ·by_cases he:ec=0
  ·subst he
   obtain ⟨x1,t1,p1,j1,y1,f1,g1,rfl,r1,z1,w1,v1⟩:=cW bc 0 mc hbc aA
   obtain ⟨x2,t2,p2,j2,y2,f2,g2,rfl,r2,z2,w2,v2⟩:=cW y1 f1 g1 z1 v1
   obtain ⟨x3,t3,p3,j3,y3,f3,g3,rfl,r3,z3,w3,v3⟩:=cW y2 f2 g2 z2 v2
   have q2:rVr ⟨bc,0⟩=(⟨x1,x3,x2⟩,⟨y3,f3⟩):=by simp only [rVr,p1,p2,p3]
   have hnx:=hrl.next hlt rfl q2
   have hsn:=aV1 l ⟨x1,x3,x2⟩
   dsimp only at hsn
   repeat' (first|(refine aC ?_;intro K hK hX)|refine aL [0,2,3,4,5,6] ?_|((with_reducible refine aD ?_);refine aK (r1) aE rfl zby rfl rfl rfl rfl zcv rfl ztp ?_)|((with_reducible refine aD ?_);refine aK (r2) aE rfl zby rfl rfl rfl rfl zcv rfl ztp ?_)|((with_reducible refine aD ?_);refine aK (r3) aE rfl zby rfl rfl rfl rfl zcv rfl ztp ?_)|refine stA ?_|(refine aH hK hX ?_;clear hK hX K)|fail)
   exact ⟨(i+1,l++[⟨x1,x3,x2⟩],y3,f3,g3),⟨hnx,z3,by simp only;omega⟩,by simp only;omega,cS9⟩
  ·have hres:=hrl.stop (.inr he)
   rw [hR] at hres
   repeat' (first|(refine aC ?_;intro K hK hX)|refine aN1 ?_|(refine aH hK hX ?_;clear hK hX K)|fail)
   rw [hres]
   dsimp only
   rw [hbc,hil]
   exact dE
 ·have hin:i=N:=by omega
  have hres:=hrl.stop (.inl hin)
  rw [hR] at hres
  repeat' (first|(refine aC ?_;intro K hK hX)|refine aN1 ?_|(refine aH hK hX ?_;clear hK hX K)|fail)
  rw [hres]
  dsimp only
  rw [hbc,hil]
  exact dE
theorem bR8 (b:List UInt8) (e:Int) (m:Nat) (hm:b.length=m) (hb:m≤1000000000):∃r s' n,aZ6 rSr 512 ⟨b,e⟩=(r,s')∧r.length=n∧n≤512∧ARd 137 109 [] b e m (.sl 2 n (src r)) s':=by
 obtain ⟨n1,s1,q1,b1,e1,m1,rfl,a1,l1,d1,c1'⟩:=oF 512 aN b e m hm hb
 have hbd:=qF 0 512 aN aN ⟨b,e⟩
 rw [q1] at hbd
 dsimp only at hbd
 obtain ⟨N,hN⟩:∃N:Nat,n1=(N:Int):=⟨n1.toNat,by omega⟩
 subst hN
 unfold aZ6
 rw [q1]
 dsimp only
 rw [Int.toNat_natCast]
 have hfa:=sH bJ0 N ⟨b1,e1⟩
 obtain ⟨R,hR⟩:∃R,iL rSr N ⟨b1,e1⟩=R:=⟨_,rfl⟩
 rw [hR] at hfa ⊢
 obtain ⟨hf1,hf2⟩:=hfa
 dsimp only at hf1
 rw [l1] at hf1
 refine ⟨R.1,R.2,_,rfl,rfl,by omega,?_⟩
 refine ⟨R.2.b,R.2.e,_,rfl,?_,rfl,by omega,by omega⟩
 refine aT aB (sz:=32) Tryz.func137 rfl (by rw [Tryz.ntmps137];rfl) ?_
 repeat' (first|(refine aC ?_;intro K hK hX)|refine dG1 ?_|(refine aH hK hX ?_;clear hK hX K)|fail)
 refine lH 3 72 2 rfl ?_
 refine cN [3,5] [0,1] rfl rfl (fun p:Nat × List Src × List UInt8 × Int × Nat=>[(3,.own 1 0 p.1 2 true),(5,.c (iv p.1))]) (fun p=>[(1,.row 72 (src p.2.1)),(0,.blk 109 [.c (.sl 1 p.2.2.2.2 (u8c p.2.2.1)),.c (iv p.2.2.2.1)])]) (fun p=>RR rSr N ⟨b1,e1⟩ p.1 p.2.1 ⟨p.2.2.1,p.2.2.2.1⟩∧p.2.2.1.length=p.2.2.2.2∧p.2.2.2.2≤m1) (fun p=>N-p.1) (0,[],b1,e1,m1) ⟨RR.init _ _ _,l1,Nat.le_refl _⟩ dU ?_
 rintro ⟨i,l,bc,ec,mc⟩ ⟨hrl,hbc,hmc⟩ K hK hX
 dsimp only at hrl hbc hmc hK ⊢
 have hil:=hrl.len
 have hiN:=hrl.le
 have hcl:(src l).length=i*2:=by rw [fH,hil]
 by_cases hlt:i<N
 ·by_cases he:ec=0
  ·subst he
   obtain ⟨x1,t1,p1,j1,y1,f1,g1,rfl,r1,z1,w1,v1⟩:=cW bc 0 mc hbc aA
   obtain ⟨x2,t2,p2,j2,y2,f2,g2,rfl,r2,z2,w2,v2⟩:=cW y1 f1 g1 z1 v1
   have q2:rSr ⟨bc,0⟩=(⟨x1,x2⟩,⟨y2,f2⟩):=by simp only [rSr,p1,p2]
   have hnx:=hrl.next hlt rfl q2
   have hsn:=aU3 l ⟨x1,x2⟩
   dsimp only at hsn
   repeat' (first|(refine aC ?_;intro K hK hX)|refine aL [0,2,3,4,5,6] ?_|((with_reducible refine aD ?_);refine aK (r1) aE rfl zby rfl rfl rfl rfl zcv rfl ztp ?_)|((with_reducible refine aD ?_);refine aK (r2) aE rfl zby rfl rfl rfl rfl zcv rfl ztp ?_)|refine stA ?_|(refine aH hK hX ?_;clear hK hX K)|fail)
   exact ⟨(i+1,l++[⟨x1,x2⟩],y2,f2,g2),⟨hnx,z2,by simp only;omega⟩,by simp only;omega,cS9⟩
  ·have hres:=hrl.stop (.inr he)
   rw [hR] at hres
   repeat' (first|(refine aC ?_;intro K hK hX)|refine aN1 ?_|(refine aH hK hX ?_;clear hK hX K)|fail)
   rw [hres]
   dsimp only
   rw [hbc,hil]
   exact dE
 ·have hin:i=N:=by omega
  have hres:=hrl.stop (.inl hin)
  rw [hR] at hres
  repeat' (first|(refine aC ?_;intro K hK hX)|refine aN1 ?_|(refine aH hK hX ?_;clear hK hX K)|fail)
  rw [hres]
  dsimp only
  rw [hbc,hil]
  exact dE
theorem cN5 (l:List UInt8) (i:Nat) (hl:l.length=32) (hi:i<32):(u8c (l.take i++List.replicate (32-i) 0)).set (0+i*1) (.v (.int .u8 ((l.getD i 0).toNat:Int)))=u8c (l.take (i+1)++List.replicate (32-(i+1)) 0):=by
 rw [Nat.zero_add,Nat.mul_one]
 have e:List.replicate (32-i) (0:UInt8)=0::List.replicate (32-(i+1)) 0:=by rw [show 32-i=(32-(i+1))+1 by omega,List.replicate_succ]
 have h1:(l.take i).length=i:=by rw [List.length_take];omega
 rw [e,bD,List.set_append_right _ _ (by rw [aG,h1];exact Nat.le_refl _),aG,h1,Nat.sub_self]
 have h2:l.take (i+1)=l.take i++[l.getD i 0]:=by
  rw [List.take_add_one,List.getElem?_eq_getElem aA]
  simp [List.getD,List.getElem?_eq_getElem (show i<l.length by omega)]
 rw [h2,List.append_assoc,bD]
 rfl
attribute [local simp] tJ aG
theorem cJ8 (b : List UInt8) (e : Int) (m : Nat) (hm : b.length = m) (hb : m ≤ 1000000000) : ∃ r s', rDg ⟨b, e⟩ = (r, s') ∧ r.length = 32 ∧ ARd 124 109 [] b e m (.agg (u8c r)) s' := by
  obtain ⟨l, k, s2, q2, hk, hkm, b2, e2, m2, rfl, a2, l2, d2, c2'⟩ := aE9 32 ⟨by decide, by decide⟩ b e m hm hb
  have huk := u8l hk
  have hk32 : l = [] ∨ l.length = 32 := by
    have h := congrArg Prod.fst q2
    unfold rBy at h
    dsimp only at h
    split at h
    · exact .inl h.symm
    · split at h
      · exact .inl h.symm
      · right
        simp only at h
        rw [← h, List.length_take]
        simp only [Int.toNat] at *
        omega
  unfold rDg
  rw [show (32 : Nat) = (32 : Int).toNat from rfl, q2]
  dsimp only
  rcases hk32 with h0 | h0
  · subst h0
    rw [if_pos rfl]
    simp only [List.length_nil] at hk
    subst hk
    refine ⟨root0, _, rfl, by simp [root0], b2, e2, m2, rfl, ?_, l2, d2, c2'⟩
    refine aT aB (sz := 21) Tryz.func124 rfl (by rw [Tryz.ntmps124]; rfl) ?_
    repeat' (first | (refine aC ?_; intro K hK hX) | refine aL [0, 2, 3, 4, 5] ?_ | ((with_reducible refine tH ?_); refine qR 2 ?_) | (refine bD6 ?_; intro K hK hX) | ((with_reducible refine aD ?_); refine aK (a2) aE rfl zby rfl rfl rfl rfl zcv rfl ztp ?_) | refine stA ?_ | (refine aH hK hX ?_; clear hK hX K) | fail)
    exact eQ
  · rw [if_neg (fun h => by rw [h] at h0; cases h0)]
    rw [h0] at hk
    subst hk
    refine ⟨l, _, rfl, h0, b2, e2, m2, rfl, ?_, l2, d2, c2'⟩
    refine aT aB (sz := 21) Tryz.func124 rfl (by rw [Tryz.ntmps124]; rfl) ?_
    repeat' (first | (refine aC ?_; intro K hK hX) | refine aL [0, 2, 3, 4, 5] ?_ | ((with_reducible refine aD ?_); refine aK (a2) aE rfl zby rfl rfl rfl rfl zcv rfl ztp ?_) | refine stA ?_ | (refine aH hK hX ?_; clear hK hX K) | fail)
    refine cN [5] [2] rfl rfl (fun i : Nat => [(5, .c (iv i))]) (fun i => [(2, .row 28 (u8c (l.take i ++ List.replicate (32 - i) 0)))]) (fun i => i ≤ 32) (fun i => 32 - i) 0 aA dU ?_
    intro i hi K hK hX
    have hlen : (u8c (l.take i ++ List.replicate (32 - i) 0)).length = 32 := by rw [aG, List.length_append, List.length_take, List.length_replicate]; omega
    by_cases hlt : i < 32
    · have hx : (u8c l)[i]? = some (.v (.int .u8 ((l.getD i 0).toNat : Int))) := by
        rw [List.getD_eq_getElem?_getD]
        simp [u8c, List.getElem?_eq_getElem (show i < l.length by omega)]
      have hfit : 0 + i * 1 < (u8c (l.take i ++ List.replicate (32 - i) 0)).length := by omega
      repeat' (first | (refine aC ?_; intro K hK hX) | refine aL [0, 2, 3, 4, 5] ?_ | refine eS ?_ | ((with_reducible refine gQ ?_); (refine eM aB aE rfl rfl rfl rfl rfl rfl dI3 ?_)) | refine stA ?_ | (refine aH hK hX ?_; clear hK hX K) | fail)
      exact ⟨i + 1, by omega, by omega, (by refine fB rfl ?_ ?_ rfl <;> (repeat' (first | exact dH | exact dI | refine cU rfl dI6 rfl ?_ | refine bR rfl dI6 rfl ?_)))⟩
    · have hin : i = 32 := by omega
      repeat' (first | (refine aC ?_; intro K hK hX) | refine aL [0, 2, 3, 4, 5] ?_ | refine stA ?_ | (refine aH hK hX ?_; clear hK hX K) | fail)
      have hfin : u8c (l.take i ++ List.replicate (32 - i) 0) = u8c l := by rw [hin, List.take_of_length_le aA]; simp
      have hcv : Cv (.agg (u8c (l.take i ++ List.replicate (32 - i) 0))) (.agg (u8c l)) := sW (by rw [hfin])
      exact dJ9
end Go.Proofs.YtbgehdndimlgkaaGreat
namespace Go.Proofs.YtbgehdndimlgkaaGreat
open Go Go.RowKit Go.Av
set_option maxRecDepth 100000
attribute [local irreducible] Still Adds AWL AW Drw bT bW AC AWR cL Frz Go.Av.Src dC Out InK ItK AsK RdK eI eE ACT ACA eL
attribute [local simp] bQ bL bD
theorem aZ9 (b:List UInt8) (e:Int) (m:Nat) (hm:b.length=m) (hb:m≤1000000000):∃r s' nv ns,rEn rpR ⟨b,e⟩=(r,s')∧r.vs.length=nv∧r.ss.length=ns∧r.root.length=32∧ARd 67 109 [] b e m (.agg (ecs r nv ns)) s':=by
 obtain ⟨n1,s1,q1,i1,b1,e1,m1,rfl,a1,l1,d1,c1'⟩:=cW b e m hm hb
 have hz:e1≠0→n1=0:=fun h=>by have:=nK (s:=⟨b,e⟩) (by rw [q1];exact h);rwa [q1] at this
 by_cases hbad:(n1<1∨7<n1)∧e1=0
 ·obtain ⟨hbd,rfl⟩:=hbad
  have hki:bR1 ⟨b,e⟩=(n1,⟨b1,1⟩):=by unfold bR1;rw [q1];dsimp only;rw [if_pos hbd,if_pos rfl]
  obtain ⟨n2,s2,q2,i2,b2,e2,m2,rfl,a2,l2,d2,c2'⟩:=cW b1 1 m1 l1 c1'
  obtain ⟨n3,s3,q3,i3,b3,e3,m3,rfl,a3,l3,d3,c3'⟩:=cW b2 e2 m2 l2 c2'
  obtain ⟨n4,s4,q4,i4,b4,e4,m4,rfl,a4,l4,d4,c4'⟩:=cW b3 e3 m3 l3 c3'
  have hEn:rEn rpR ⟨b,e⟩=mE rpR n1 n2 n3 n4 ⟨b4,e4⟩:=by simp only [rEn,rpR,hki,q2,q3,q4]
  rw [hEn]
  clear hEn
  unfold mE
  rw [if_neg aA,if_neg aA,if_neg aA,if_neg aA,if_neg aA]
  refine ⟨⟨n1,n2,n3,n4,rq0,lk0,hd0,[],[],root0⟩,⟨b4,e4⟩,0,0,rfl,rfl,rfl,rfl,b4,e4,m4,rfl,?_,l4,by omega,c4'⟩
  dsimp only [ecs,lk0,hd0,iI,rq0,Vl.nul,Vl.c,Idf.cs,LRq.cs,LLk.cs,LHd.cs] at *
  by_cases h1:n1<1
  ·refine aT aB (sz:=57) Tryz.func67 rfl mS ?_
   repeat' (first|(refine aC ?_;intro K hK hX)|refine aL [0,1,2,3,4,27] ?_|((with_reducible refine aX ?_);refine yA ?_;refine bH (aU aB rfl rfl rfl) rfl ?_)|((with_reducible refine aD ?_);refine aK (a1) aE rfl zby rfl rfl rfl rfl zcv rfl ztp ?_)|((with_reducible refine aD ?_);refine aK (a2) aE rfl zby rfl rfl rfl rfl zcv rfl ztp ?_)|((with_reducible refine aD ?_);refine aK (a3) aE rfl zby rfl rfl rfl rfl zcv rfl ztp ?_)|((with_reducible refine aD ?_);refine aK (a4) aE rfl zby rfl rfl rfl rfl zcv rfl ztp ?_)|((first|with_reducible refine aD ?_|with_reducible refine aV ?_);refine bN aB [0,1,2,3,4,5,6,7,8,9,10,11,12,13,14,15,16,17,18,19,20,21,22,23,24,25,26,27,28,29,30,31,32,33,34,35,36,37,38,39,40,41,42,43,44,45,46,47,48,49,50,51,52,53,54,55,56] aE rfl rfl zby Tryz.func134 rfl rfl rfl (szf:=13) fP rfl ?_)|refine stA ?_|(refine aH hK hX ?_;clear hK hX K)|fail|(first|refine bF zio ztr rfl rfl ResL.none ?_|refine bE zio ztr rfl rfl ResL.none ?_))
   exact eQ
  ·refine aT aB (sz:=57) Tryz.func67 rfl mS ?_
   repeat' (first|(refine aC ?_;intro K hK hX)|refine aL [0,1,2,3,4,27] ?_|((with_reducible refine aX ?_);refine yA ?_;refine bH (aU aB rfl rfl rfl) rfl ?_)|((with_reducible refine aD ?_);refine aK (a1) aE rfl zby rfl rfl rfl rfl zcv rfl ztp ?_)|((with_reducible refine aD ?_);refine aK (a2) aE rfl zby rfl rfl rfl rfl zcv rfl ztp ?_)|((with_reducible refine aD ?_);refine aK (a3) aE rfl zby rfl rfl rfl rfl zcv rfl ztp ?_)|((with_reducible refine aD ?_);refine aK (a4) aE rfl zby rfl rfl rfl rfl zcv rfl ztp ?_)|((first|with_reducible refine aD ?_|with_reducible refine aV ?_);refine bN aB [0,1,2,3,4,5,6,7,8,9,10,11,12,13,14,15,16,17,18,19,20,21,22,23,24,25,26,27,28,29,30,31,32,33,34,35,36,37,38,39,40,41,42,43,44,45,46,47,48,49,50,51,52,53,54,55,56] aE rfl rfl zby Tryz.func134 rfl rfl rfl (szf:=13) fP rfl ?_)|refine stA ?_|(refine aH hK hX ?_;clear hK hX K)|fail|(first|refine bF zio ztr rfl rfl ResL.none ?_|refine bE zio ztr rfl rfl ResL.none ?_))
   exact eQ
 have hki:bR1 ⟨b,e⟩=(n1,⟨b1,if (n1<1∨7<n1)∧e1=0 then 1 else e1⟩):=by
  unfold bR1;rw [q1];dsimp only
  rw [if_neg hbad]
  split
  ·rename_i h
   rw [if_neg (fun he=>hbad ⟨h,he⟩)]
  ·rfl
 rw [if_neg hbad] at hki
 obtain ⟨n2,s2,q2,i2,b2,e2,m2,rfl,a2,l2,d2,c2'⟩:=cW b1 e1 m1 l1 c1'
 obtain ⟨n3,s3,q3,i3,b3,e3,m3,rfl,a3,l3,d3,c3'⟩:=cW b2 e2 m2 l2 c2'
 obtain ⟨n4,s4,q4,i4,b4,e4,m4,rfl,a4,l4,d4,c4'⟩:=cW b3 e3 m3 l3 c3'
 have hEn:rEn rpR ⟨b,e⟩=mE rpR n1 n2 n3 n4 ⟨b4,e4⟩:=by simp only [rEn,rpR,hki,q2,q3,q4]
 rw [hEn]
 clear hEn hki
 unfold mE
 by_cases k1:n1=1
 ·subst k1
  rw [if_pos rfl]
  obtain ⟨x5,s5,q5,b5,e5,m5,rfl,a5,l5,d5,c5'⟩:=cK2 b4 e4 m4 l4 c4'
  refine ⟨⟨1,n2,n3,n4,x5,lk0,hd0,[],[],root0⟩,⟨b5,e5⟩,0,0,by simp only [rpR,q5],rfl,rfl,rfl,b5,e5,m5,rfl,?_,l5,by omega,c5'⟩
  obtain ⟨xk,⟨xn,⟨xvk,xvn,xvt⟩⟩,xs,xd,xdl⟩:=x5
  dsimp only [ecs,lk0,hd0,iI,rq0,Vl.nul,Vl.c,Idf.cs,LRq.cs,LLk.cs,LHd.cs] at *
  refine aT aB (sz:=57) Tryz.func67 rfl mS ?_
  repeat' (first|(refine aC ?_;intro K hK hX)|refine bW7 ?_|(refine aH hK hX ?_;clear hK hX K)|fail)
  exact eQ
 rw [if_neg k1]
 by_cases k2:n1=2
 ·subst k2
  rw [if_pos rfl]
  obtain ⟨x5,s5,nv,q5,hnv,hnv',b5,e5,m5,rfl,a5,l5,d5,c5'⟩:=bR9 b4 e4 m4 l4 c4'
  obtain ⟨x6,s6,ns,q6,hns,hns',b6,e6,m6,rfl,a6,l6,d6,c6'⟩:=bR8 b5 e5 m5 l5 c5'
  refine ⟨⟨2,n2,n3,n4,rq0,lk0,hd0,x5,x6,root0⟩,⟨b6,e6⟩,nv,ns,by simp only [rpR,q5,q6],hnv,hns,rfl,b6,e6,m6,rfl,?_,l6,by omega,c6'⟩
  dsimp only [ecs,lk0,hd0,iI,rq0,Vl.nul,Vl.c,Idf.cs,LRq.cs,LLk.cs,LHd.cs] at *
  refine aT aB (sz:=57) Tryz.func67 rfl mS ?_
  repeat' (first|(refine aC ?_;intro K hK hX)|refine aL [0,2,3,4,27] ?_|((with_reducible refine aX ?_);refine yA ?_;refine bH (aU aB rfl rfl rfl) rfl ?_)|((with_reducible refine aD ?_);refine aK (a1) aE rfl zby rfl rfl rfl rfl zcv rfl ztp ?_)|((with_reducible refine aD ?_);refine aK (a2) aE rfl zby rfl rfl rfl rfl zcv rfl ztp ?_)|((with_reducible refine aD ?_);refine aK (a3) aE rfl zby rfl rfl rfl rfl zcv rfl ztp ?_)|((with_reducible refine aD ?_);refine aK (a4) aE rfl zby rfl rfl rfl rfl zcv rfl ztp ?_)|((with_reducible refine aD ?_);refine aK (a5) aE rfl zby rfl rfl rfl rfl zcv rfl ztp ?_)|((with_reducible refine aD ?_);refine aK (a6) aE rfl zby rfl rfl rfl rfl zcv rfl ztp ?_)|refine stA ?_|(refine aH hK hX ?_;clear hK hX K)|fail)
  exact eQ
 rw [if_neg k2]
 by_cases k4:n1=4
 ·subst k4
  rw [if_pos rfl]
  obtain ⟨x5,s5,q5,h32,b5,e5,m5,rfl,a5,l5,d5,c5'⟩:=cJ8 b4 e4 m4 l4 c4'
  refine ⟨⟨4,n2,n3,n4,rq0,lk0,hd0,[],[],x5⟩,⟨b5,e5⟩,0,0,by simp only [rpR,q5],rfl,rfl,h32,b5,e5,m5,rfl,?_,l5,by omega,c5'⟩
  have hux:=u8l h32
  have hwh:((lay (iv 4::iv n2::iv n3::iv n4::iv 0::sv []::iv 0::iv 0::sv []::iv 0::iv 0::iv 0::sv []::iv 0::iv 0::sv []::sv []::iv 0::iv 0::sv []::iv 0::bv false::iv 0::iv 0::sv []::iv 0::iv 0::sv []::iv 0::iv 0::iv 0 :: .v (.slice none 0 0) :: .v (.slice none 0 0)::u8c root0) (0+33) (u8c x5)).drop 0).take 65=iv 4::iv n2::iv n3::iv n4::iv 0::sv []::iv 0::iv 0::sv []::iv 0::iv 0::iv 0::sv []::iv 0::iv 0::sv []::sv []::iv 0::iv 0::sv []::iv 0::bv false::iv 0::iv 0::sv []::iv 0::iv 0::sv []::iv 0::iv 0::iv 0 :: .v (.slice none 0 0) :: .v (.slice none 0 0)::u8c x5:=by
   have h1:lay (iv 4::iv n2::iv n3::iv n4::iv 0::sv []::iv 0::iv 0::sv []::iv 0::iv 0::iv 0::sv []::iv 0::iv 0::sv []::sv []::iv 0::iv 0::sv []::iv 0::bv false::iv 0::iv 0::sv []::iv 0::iv 0::sv []::iv 0::iv 0::iv 0 :: .v (.slice none 0 0) :: .v (.slice none 0 0)::u8c root0) (0+33) (u8c x5)=iv 4::iv n2::iv n3::iv n4::iv 0::sv []::iv 0::iv 0::sv []::iv 0::iv 0::iv 0::sv []::iv 0::iv 0::sv []::sv []::iv 0::iv 0::sv []::iv 0::bv false::iv 0::iv 0::sv []::iv 0::iv 0::sv []::iv 0::iv 0::iv 0 :: .v (.slice none 0 0) :: .v (.slice none 0 0)::u8c x5:=yY (a:=[iv 4,iv n2,iv n3,iv n4,iv 0,sv [],iv 0,iv 0,sv [],iv 0,iv 0,iv 0,sv [],iv 0,iv 0,sv [],sv [],iv 0,iv 0,sv [],iv 0,bv false,iv 0,iv 0,sv [],iv 0,iv 0,sv [],iv 0,iv 0,iv 0,.v (.slice none 0 0),.v (.slice none 0 0)]) (z:=u8c root0) (y:=u8c x5) rfl (by rw [hux];rfl)
   rw [h1,List.drop_zero,List.take_of_length_le (by simp only [List.length_cons,hux];omega)]
  have hwl:(iv 4::iv n2::iv n3::iv n4::iv 0::sv []::iv 0::iv 0::sv []::iv 0::iv 0::iv 0::sv []::iv 0::iv 0::sv []::sv []::iv 0::iv 0::sv []::iv 0::bv false::iv 0::iv 0::sv []::iv 0::iv 0::sv []::iv 0::iv 0::iv 0 :: .v (.slice none 0 0) :: .v (.slice none 0 0)::u8c x5).length=65:=by simp only [List.length_cons,hux]
  have hcvl:CvL (iv 4::iv n2::iv n3::iv n4::iv 0::sv []::iv 0::iv 0::sv []::iv 0::iv 0::iv 0::sv []::iv 0::iv 0::sv []::sv []::iv 0::iv 0::sv []::iv 0::bv false::iv 0::iv 0::sv []::iv 0::iv 0::sv []::iv 0::iv 0::iv 0 :: .v (.slice none 0 0) :: .v (.slice none 0 0)::u8c x5) (ecs ⟨4,n2,n3,n4,rq0,lk0,hd0,[],[],x5⟩ 0 0):=by
   dsimp only [ecs,lk0,hd0,iI,rq0,Vl.nul]
   repeat' (first|exact cR|exact hU|exact eY|(refine dW ?_ ?_)|exact qW)
  dsimp only [ecs,lk0,hd0,iI,rq0,Vl.nul,Vl.c,Idf.cs,LRq.cs,LLk.cs,LHd.cs] at *
  refine aT aB (sz:=57) Tryz.func67 rfl mS ?_
  repeat' (first|(refine aC ?_;intro K hK hX)|refine aL [0,2,3,4,27] ?_|((with_reducible refine aX ?_);refine yA ?_;refine bH (aU aB rfl rfl rfl) rfl ?_)|((with_reducible refine aD ?_);refine aK (a1) aE rfl zby rfl rfl rfl rfl zcv rfl ztp ?_)|((with_reducible refine aD ?_);refine aK (a2) aE rfl zby rfl rfl rfl rfl zcv rfl ztp ?_)|((with_reducible refine aD ?_);refine aK (a3) aE rfl zby rfl rfl rfl rfl zcv rfl ztp ?_)|((with_reducible refine aD ?_);refine aK (a4) aE rfl zby rfl rfl rfl rfl zcv rfl ztp ?_)|((with_reducible refine aD ?_);refine aK (a5) aE rfl zby rfl rfl rfl rfl zcv rfl ztp ?_)|refine jM ?_|refine stA ?_|(refine aH hK hX ?_;clear hK hX K)|fail)
  exact dK0
 rw [if_neg k4]
 by_cases k6:n1=6
 ·subst k6
  rw [if_pos rfl]
  obtain ⟨x5,s5,q5,b5,e5,m5,rfl,a5,l5,d5,c5'⟩:=bR7 b4 e4 m4 l4 c4'
  refine ⟨⟨6,n2,n3,n4,rq0,x5,hd0,[],[],root0⟩,⟨b5,e5⟩,0,0,by simp only [rpR,q5],rfl,rfl,rfl,b5,e5,m5,rfl,?_,l5,by omega,c5'⟩
  obtain ⟨⟨xn,⟨xvk,xvn,xvt⟩⟩,⟨yn,⟨yvk,yvn,yvt⟩⟩,xs,xr⟩:=x5
  dsimp only [ecs,lk0,hd0,iI,rq0,Vl.nul,Vl.c,Idf.cs,LRq.cs,LLk.cs,LHd.cs] at *
  refine aT aB (sz:=57) Tryz.func67 rfl mS ?_
  repeat' (first|(refine aC ?_;intro K hK hX)|refine bW7 ?_|(refine aH hK hX ?_;clear hK hX K)|fail)
  exact eQ
 rw [if_neg k6]
 by_cases k7:n1=7
 ·subst k7
  rw [if_pos rfl]
  obtain ⟨x5,s5,q5,b5,e5,m5,rfl,a5,l5,d5,c5'⟩:=bR6 b4 e4 m4 l4 c4'
  refine ⟨⟨7,n2,n3,n4,rq0,lk0,x5,[],[],root0⟩,⟨b5,e5⟩,0,0,by simp only [rpR,q5],rfl,rfl,rfl,b5,e5,m5,rfl,?_,l5,by omega,c5'⟩
  obtain ⟨xt,xc,⟨xn,⟨xvk,xvn,xvt⟩⟩,xs,xf,xo⟩:=x5
  dsimp only [ecs,lk0,hd0,iI,rq0,Vl.nul,Vl.c,Idf.cs,LRq.cs,LLk.cs,LHd.cs] at *
  refine aT aB (sz:=57) Tryz.func67 rfl mS ?_
  repeat' (first|(refine aC ?_;intro K hK hX)|refine bW7 ?_|(refine aH hK hX ?_;clear hK hX K)|fail)
  exact eQ
 rw [if_neg k7]
 refine ⟨⟨n1,n2,n3,n4,rq0,lk0,hd0,[],[],root0⟩,⟨b4,e4⟩,0,0,rfl,rfl,rfl,rfl,b4,e4,m4,rfl,?_,l4,by omega,c4'⟩
 have h3:n1=3∨n1=5∨(n1=0∧e1≠0):=by
  by_cases he:e1=0
  ·have:¬(n1<1∨7<n1):=fun h=>hbad ⟨h,he⟩
   omega
  ·exact .inr (.inr ⟨hz he,he⟩)
 rcases h3 with h3|h3|⟨h3,he⟩<;>subst h3
 ·skip
  dsimp only [ecs,lk0,hd0,iI,rq0,Vl.nul,Vl.c,Idf.cs,LRq.cs,LLk.cs,LHd.cs] at *
  refine aT aB (sz:=57) Tryz.func67 rfl mS ?_
  repeat' (first|(refine aC ?_;intro K hK hX)|refine aL [0,1,2,3,4,27] ?_|((with_reducible refine aX ?_);refine yA ?_;refine bH (aU aB rfl rfl rfl) rfl ?_)|((with_reducible refine aD ?_);refine aK (a1) aE rfl zby rfl rfl rfl rfl zcv rfl ztp ?_)|((with_reducible refine aD ?_);refine aK (a2) aE rfl zby rfl rfl rfl rfl zcv rfl ztp ?_)|((with_reducible refine aD ?_);refine aK (a3) aE rfl zby rfl rfl rfl rfl zcv rfl ztp ?_)|((with_reducible refine aD ?_);refine aK (a4) aE rfl zby rfl rfl rfl rfl zcv rfl ztp ?_)|((first|with_reducible refine aD ?_|with_reducible refine aV ?_);refine bN aB [0,1,2,3,4,5,6,7,8,9,10,11,12,13,14,15,16,17,18,19,20,21,22,23,24,25,26,27,28,29,30,31,32,33,34,35,36,37,38,39,40,41,42,43,44,45,46,47,48,49,50,51,52,53,54,55,56] aE rfl rfl zby Tryz.func134 rfl rfl rfl (szf:=13) fP rfl ?_)|refine stA ?_|(refine aH hK hX ?_;clear hK hX K)|fail|(first|refine bF zio ztr rfl rfl ResL.none ?_|refine bE zio ztr rfl rfl ResL.none ?_))
  exact eQ
 ·skip
  dsimp only [ecs,lk0,hd0,iI,rq0,Vl.nul,Vl.c,Idf.cs,LRq.cs,LLk.cs,LHd.cs] at *
  refine aT aB (sz:=57) Tryz.func67 rfl mS ?_
  repeat' (first|(refine aC ?_;intro K hK hX)|refine aL [0,1,2,3,4,27] ?_|((with_reducible refine aX ?_);refine yA ?_;refine bH (aU aB rfl rfl rfl) rfl ?_)|((with_reducible refine aD ?_);refine aK (a1) aE rfl zby rfl rfl rfl rfl zcv rfl ztp ?_)|((with_reducible refine aD ?_);refine aK (a2) aE rfl zby rfl rfl rfl rfl zcv rfl ztp ?_)|((with_reducible refine aD ?_);refine aK (a3) aE rfl zby rfl rfl rfl rfl zcv rfl ztp ?_)|((with_reducible refine aD ?_);refine aK (a4) aE rfl zby rfl rfl rfl rfl zcv rfl ztp ?_)|((first|with_reducible refine aD ?_|with_reducible refine aV ?_);refine bN aB [0,1,2,3,4,5,6,7,8,9,10,11,12,13,14,15,16,17,18,19,20,21,22,23,24,25,26,27,28,29,30,31,32,33,34,35,36,37,38,39,40,41,42,43,44,45,46,47,48,49,50,51,52,53,54,55,56] aE rfl rfl zby Tryz.func134 rfl rfl rfl (szf:=13) fP rfl ?_)|refine stA ?_|(refine aH hK hX ?_;clear hK hX K)|fail|(first|refine bF zio ztr rfl rfl ResL.none ?_|refine bE zio ztr rfl rfl ResL.none ?_))
  exact eQ
 ·skip
  dsimp only [ecs,lk0,hd0,iI,rq0,Vl.nul,Vl.c,Idf.cs,LRq.cs,LLk.cs,LHd.cs] at *
  refine aT aB (sz:=57) Tryz.func67 rfl mS ?_
  repeat' (first|(refine aC ?_;intro K hK hX)|refine aL [0,1,2,3,4,27] ?_|((with_reducible refine aX ?_);refine yA ?_;refine bH (aU aB rfl rfl rfl) rfl ?_)|((with_reducible refine aD ?_);refine aK (a1) aE rfl zby rfl rfl rfl rfl zcv rfl ztp ?_)|((with_reducible refine aD ?_);refine aK (a2) aE rfl zby rfl rfl rfl rfl zcv rfl ztp ?_)|((with_reducible refine aD ?_);refine aK (a3) aE rfl zby rfl rfl rfl rfl zcv rfl ztp ?_)|((with_reducible refine aD ?_);refine aK (a4) aE rfl zby rfl rfl rfl rfl zcv rfl ztp ?_)|((first|with_reducible refine aD ?_|with_reducible refine aV ?_);refine bN aB [0,1,2,3,4,5,6,7,8,9,10,11,12,13,14,15,16,17,18,19,20,21,22,23,24,25,26,27,28,29,30,31,32,33,34,35,36,37,38,39,40,41,42,43,44,45,46,47,48,49,50,51,52,53,54,55,56] aE rfl rfl zby Tryz.func134 rfl rfl rfl (szf:=13) fP rfl ?_)|refine stA ?_|(refine aH hK hX ?_;clear hK hX K)|fail|(first|refine bF zio ztr rfl rfl ResL.none ?_|refine bE zio ztr rfl rfl ResL.none ?_))
  exact eQ
end Go.Proofs.YtbgehdndimlgkaaGreat
namespace Go.Proofs.YtbgehdndimlgkaaGreat
open Go Go.RowKit Go.Av
set_option maxRecDepth 100000
attribute [local irreducible] Still Adds AWL AW Drw bT bW AC AWR cL Frz Go.Av.Src dC Out InK ItK AsK RdK eI eE ACT ACA eL
attribute [local simp] bQ bL bD
theorem yK {l:List UInt8} {m x k:Nat} {n:Int} (hn:aQ n) (h:l++lD x=aS n) (hl:l.length=m) (hk:(aS n).length=k):m+(lD x).length=k∧k≤10∧0<(lD x).length:=by
 have h1:=cD7 hn
 have h2:=kP x
 rw [← h,List.length_append] at hk h1
 omega
theorem iJ (n:Int) (hn:aQ n) (k:Nat) (hk:(aS n).length=k):AC Tryz.prog 126 [iv n] (.own 0 0 k 1 true) [(0,.row 5 (u8c (aS n)))] 1:=by
 by_cases h0:n<0
 ·have hz:=cP8 hn h0
  refine aF aB (sz:=29) Tryz.func126 rfl (by rw [Tryz.ntmps126];rfl) ?_
  repeat' (first|(refine aC ?_;intro K hK hX)|refine vH ?_|(refine aH hK hX ?_;clear hK hX K)|fail)
  rw [hz]
  have hzl:=aA5 hn.1 hn.2
  have hz0:[]++lD (zz n)=aS n:=rfl
  generalize zz n=z at hzl hz0
  refine cD 1 (fun p:List UInt8 × Nat × Nat=>[(3,.c (nv p.2.2)),(4,.own 0 0 p.2.1 1 true)]) (fun p=>[(0,.row 5 (u8c p.1))]) [] (fun p=>p.1.length=p.2.1∧p.1++lD p.2.2=aS n∧p.2.2<18446744073709551616) (fun p=>p.2.2) ([],0,z) ⟨rfl,hz0,hzl⟩ dU ?_
  rintro ⟨l,m,x⟩ ⟨hl,he,hx⟩ K hK hX
  dsimp only at hl he hx hK ⊢
  have hul:(u8c l).length=m:=by rw [aG,hl]
  obtain ⟨hk1,hk2,hk3⟩:=yK hn he hl hk
  by_cases hlt:x<128
  ·repeat' (first|(refine aC ?_;intro K hK hX)|refine vH ?_|(refine aH hK hX ?_;clear hK hX K)|fail)
   rw [jS hlt] at he hk1
   have e1:m+1=k:=by simpa using hk1
   rw [e1,show u8c l++[[CV.v (.int .u8 (x:Int))]].flatten=u8c (aS n) from by rw [← he];exact qY l x hlt]
   exact bB
  ·repeat' (first|(refine aC ?_;intro K hK hX)|refine dF2 ?_|(refine aH hK hX ?_;clear hK hX K)|fail)
   rw [lE hlt] at he
   refine ⟨(l++[UInt8.ofNat (x%128+128)],m+1,x / 128),⟨by simp [hl],by simpa using he,by simp only;omega⟩,by simp only;omega,?_⟩
   exact dX5
 ·have hz:=cP9 hn h0
  refine aF aB (sz:=29) Tryz.func126 rfl (by rw [Tryz.ntmps126];rfl) ?_
  repeat' (first|(refine aC ?_;intro K hK hX)|refine vH ?_|(refine aH hK hX ?_;clear hK hX K)|fail)
  rw [hz]
  have hzl:=aA5 hn.1 hn.2
  have hz0:[]++lD (zz n)=aS n:=rfl
  generalize zz n=z at hzl hz0
  refine cD 1 (fun p:List UInt8 × Nat × Nat=>[(3,.c (nv p.2.2)),(4,.own 0 0 p.2.1 1 true)]) (fun p=>[(0,.row 5 (u8c p.1))]) [] (fun p=>p.1.length=p.2.1∧p.1++lD p.2.2=aS n∧p.2.2<18446744073709551616) (fun p=>p.2.2) ([],0,z) ⟨rfl,hz0,hzl⟩ dU ?_
  rintro ⟨l,m,x⟩ ⟨hl,he,hx⟩ K hK hX
  dsimp only at hl he hx hK ⊢
  have hul:(u8c l).length=m:=by rw [aG,hl]
  obtain ⟨hk1,hk2,hk3⟩:=yK hn he hl hk
  by_cases hlt:x<128
  ·repeat' (first|(refine aC ?_;intro K hK hX)|refine vH ?_|(refine aH hK hX ?_;clear hK hX K)|fail)
   rw [jS hlt] at he hk1
   have e1:m+1=k:=by simpa using hk1
   rw [e1,show u8c l++[[CV.v (.int .u8 (x:Int))]].flatten=u8c (aS n) from by rw [← he];exact qY l x hlt]
   exact bB
  ·repeat' (first|(refine aC ?_;intro K hK hX)|refine dF2 ?_|(refine aH hK hX ?_;clear hK hX K)|fail)
   rw [lE hlt] at he
   refine ⟨(l++[UInt8.ofNat (x%128+128)],m+1,x / 128),⟨by simp [hl],by simpa using he,by simp only;omega⟩,by simp only;omega,?_⟩
   exact dX5
theorem tN (ns:List Int) (k:Nat) (hk:ns.length=k) (hns:∀n∈ns,aQ n) (m':Nat) (hm':(ns.flatMap aS).length=m') (hb:m'≤1000000):AC Tryz.prog 128 [.sl 1 k (jU .i64 ns)] (.own 0 0 m' 1 true) [(0,.row 5 (u8c (ns.flatMap aS)))] 1:=by
 have hkb:k≤1000000:=by
  have:=rA (f:=aS) (fun a=>kP (zz a)) ns
  omega
 have hil:(jU .i64 ns).length=k:=by rw [pO,hk]
 have hmono:=tA (f:=aS) ns
 refine aF aB (sz:=20) Tryz.func128 rfl (by rw [Tryz.ntmps128];rfl) ?_
 repeat' (first|(refine aC ?_;intro K hK hX)|refine vH ?_|(refine aH hK hX ?_;clear hK hX K)|fail)
 refine cD 1 (fun p:Nat × List UInt8 × Nat=>[(0,.c (.sl 1 k (jU .i64 ns))),(3,.own 0 0 p.2.2 1 true),(4,.c (iv p.1))]) (fun p=>[(0,.row 5 (u8c p.2.1))]) [] (fun p=>p.1≤k∧p.2.1.length=p.2.2∧p.2.1=(ns.take p.1).flatMap aS) (fun p=>k-p.1) (0,[],0) ⟨by omega,rfl,by simp⟩ dU ?_
 rintro ⟨i,q,w⟩ ⟨hi,hql,hq⟩ K hK hX
 dsimp only at hi hql hq hK ⊢
 have hulq:=u8l hql
 by_cases hlt:i<k
 ·obtain ⟨n,hat⟩:∃n,ns[i]? = some n:=⟨_,List.getElem?_eq_getElem aA⟩
  have hn:=hns n (List.mem_of_getElem? hat)
  have hx:=cF7 hat
  have hst:q++aS n=(ns.take (i+1)).flatMap aS:=by rw [hq,kI hat]
  have hmo:=hmono (i+1)
  rw [← hst,List.length_append] at hmo
  obtain ⟨j,hj⟩:∃j,(aS n).length=j:=⟨_,rfl⟩
  have i1:=iJ n hn j hj
  have hulj:=u8l hj
  repeat' (first|(refine aC ?_;intro K hK hX)|refine aL [0,2,3,4] ?_|(refine dG ?_;refine c1 i1 ?_)|refine eS ?_|refine stA ?_|(refine aH hK hX ?_;clear hK hX K)|fail)
  exact ⟨(i+1,q++aS n,w+j),⟨by omega,by rw [List.length_append,hql,hj],hst⟩,by simp only;omega,dP0⟩
 ·have hik:i=k:=by omega
  have hq':q=ns.flatMap aS:=by rw [hq,List.take_of_length_le aA]
  have hwm:w=m':=by rw [← hql,hq',hm']
  repeat' (first|(refine aC ?_;intro K hK hX)|refine vH ?_|(refine aH hK hX ?_;clear hK hX K)|fail)
  rw [← hq',← hwm]
  exact bB
theorem dT8 (a:Int) (ha:aQ a) (m':Nat) (hm':(aS a).length=m') (hb:m'≤1000000):AC Tryz.prog 128 [.sl 1 1 [iv a]] (.own 0 0 m' 1 true) [(0,.row 5 (u8c (aS a)))] 1:=by
 have:=tN [a] 1 rfl (by simp;exact ha) m' oY hb
 simpa [jU] using this
theorem bA5 (a b:Int) (ha:aQ a) (hb':aQ b) (m':Nat) (hm':(aS a++aS b).length=m') (hb:m'≤1000000):AC Tryz.prog 128 [.sl 1 2 [iv a,iv b]] (.own 0 0 m' 1 true) [(0,.row 5 (u8c (aS a++aS b)))] 1:=by
 have:=tN [a,b] 2 rfl (by simp;exact ⟨ha,hb'⟩) m' oY hb
 rw [show [a,b].flatMap aS=aS a++aS b by simp] at this
 exact this
theorem bA6 (a b c:Int) (ha:aQ a) (hb':aQ b) (hc:aQ c) (m':Nat) (hm':(aS a++(aS b++aS c)).length=m') (hb:m'≤1000000):AC Tryz.prog 128 [.sl 1 3 [iv a,iv b,iv c]] (.own 0 0 m' 1 true) [(0,.row 5 (u8c (aS a++(aS b++aS c))))] 1:=by
 have:=tN [a,b,c] 3 rfl (by simp;exact ⟨ha,hb',hc⟩) m' oY hb
 rw [show [a,b,c].flatMap aS=aS a++(aS b++aS c) by simp] at this
 exact this
theorem dT9 (a b c d:Int) (ha:aQ a) (hb':aQ b) (hc:aQ c) (hd:aQ d) (m':Nat) (hm':(aS a++(aS b++(aS c++aS d))).length=m') (hb:m'≤1000000):AC Tryz.prog 128 [.sl 1 4 [iv a,iv b,iv c,iv d]] (.own 0 0 m' 1 true) [(0,.row 5 (u8c (aS a++(aS b++(aS c++aS d)))))] 1:=by
 have:=tN [a,b,c,d] 4 rfl (by simp;exact ⟨ha,hb',hc,hd⟩) m' oY hb
 rw [show [a,b,c,d].flatMap aS=aS a++(aS b++(aS c++aS d)) by simp] at this
 exact this
theorem zJ (s:List UInt8) (m':Nat) (hm':(lW s).length=m') (hb:m'≤1000000):AC Tryz.prog 219 [sv s] (.own 0 0 m' 1 true) [(0,.row 5 (u8c (lW s)))] 1:=by
 obtain ⟨q,hq⟩:∃q,s.length=q:=⟨_,rfl⟩
 obtain ⟨j,hj⟩:∃j,(aS (q:Int)).length=j:=⟨_,rfl⟩
 have e:lW s=aS (q:Int)++s:=by rw [lW,hq]
 have hjq:j+q=m':=by rw [← hm',e,List.length_append,hj,hq]
 have i1:=iJ (q:Int) ⟨by omega,by omega⟩ j hj
 have hulj:=u8l hj
 rw [e]
 refine aF aB (sz:=8) Tryz.func219 rfl (by rw [Tryz.ntmps219];rfl) ?_
 repeat' (first|(refine aC ?_;intro K hK hX)|refine aL [0,2] ?_|((with_reducible refine uT ?_);refine vF aB aE rfl rfl rfl rfl rfl rfl rfl rfl rfl rfl dJ2 rfl (by first|with_reducible assumption|omega) mI dJ3 ?_)|(refine dG ?_;refine c1 i1 ?_)|(((with_reducible refine bP ?_);refine xA ?_);(first|((with_reducible refine aO6 ?_);(first|refine aJ (bB3 aB rfl rfl hq rfl) ?_))))|refine stA ?_|(refine aH hK hX ?_;clear hK hX K)|fail)
 rw [← bD,hjq]
 exact bB
theorem aS6 (v:Vl) (m':Nat) (hm':(kV (clV v)).length=m') (hb:m'≤1000000):AC Tryz.prog 220 [.agg v.c] (.own 0 0 m' 1 true) [(0,.row 5 (u8c (kV (clV v))))] 1:=by
 have hcl:=bR5 v
 have hok:=aE4 v
 generalize clV v=u at hcl hok hm' ⊢
 obtain ⟨k,n,t⟩:=u
 obtain ⟨k0,n0,t0⟩:=v
 rcases hok with ⟨h1,h2,h3⟩|⟨h1,h2,h2',h3⟩|⟨h1,h2,h3⟩<;>simp only at h1 h2 h3<;>subst h1
 ·obtain ⟨j,hj⟩:∃j,(aS 0).length=j:=⟨_,rfl⟩
  have hulj:=u8l hj
  have i1:=iJ 0 ⟨by decide,by decide⟩ j hj
  have e:kV ⟨0,n,t⟩=aS 0:=by simp [kV]
  rw [e] at hm' ⊢
  have hjm:j=m':=by omega
  refine aF aB (sz:=26) Tryz.func220 rfl (by rw [Tryz.ntmps220];rfl) ?_
  repeat' (first|(refine aC ?_;intro K hK hX)|refine aL [0,1,2,3] ?_|(refine dG ?_;first|refine c0 hcl ?_|refine c1 i1 ?_)|refine stA ?_|(refine aH hK hX ?_;clear hK hX K)|fail)
  rw [hjm]
  exact bB
 ·obtain ⟨j,hj⟩:∃j,(aS 1).length=j:=⟨_,rfl⟩
  have hulj:=u8l hj
  have i1:=iJ 1 ⟨by decide,by decide⟩ j hj
  have e:kV ⟨1,n,t⟩=aS 1++aS n:=by simp [kV]
  rw [e] at hm' ⊢
  obtain ⟨w,hw⟩:∃w,(aS n).length=w:=⟨_,rfl⟩
  have hulw:=u8l hw
  have i2:=iJ n ⟨by omega,by simp only at h2';omega⟩ w hw
  have hjm:j+w=m':=by rw [← hm',List.length_append,hj,hw]
  refine aF aB (sz:=26) Tryz.func220 rfl (by rw [Tryz.ntmps220];rfl) ?_
  repeat' (first|(refine aC ?_;intro K hK hX)|refine dG6 ?_|(refine aH hK hX ?_;clear hK hX K)|fail)
  rw [← bD,hjm]
  exact bB
 ·obtain ⟨j,hj⟩:∃j,(aS 2).length=j:=⟨_,rfl⟩
  have hulj:=u8l hj
  have i1:=iJ 2 ⟨by decide,by decide⟩ j hj
  have e:kV ⟨2,n,t⟩=aS 2++lW t:=by simp [kV]
  rw [e] at hm' ⊢
  obtain ⟨w,hw⟩:∃w,(lW t).length=w:=⟨_,rfl⟩
  have hulw:=u8l hw
  have hjm:j+w=m':=by rw [← hm',List.length_append,hj,hw]
  have i2:=zJ t w hw aA
  refine aF aB (sz:=26) Tryz.func220 rfl (by rw [Tryz.ntmps220];rfl) ?_
  repeat' (first|(refine aC ?_;intro K hK hX)|refine dG6 ?_|(refine aH hK hX ?_;clear hK hX K)|fail)
  rw [← bD,hjm]
  exact bB
theorem rF (i:Idf) (m':Nat) (hm':(dL i).length=m') (hb:m'≤1000000):AC Tryz.prog 165 [.agg i.cs] (.own 0 0 m' 1 true) [(0,.row 5 (u8c (dL i)))] 1:=by
 obtain ⟨j,hj⟩:∃j,(lW i.ns).length=j:=⟨_,rfl⟩
 obtain ⟨w,hw⟩:∃w,(kV (clV i.v)).length=w:=⟨_,rfl⟩
 have hjm:j+w=m':=by rw [← hm',dL,List.length_append,hj,hw]
 have i1:=zJ i.ns j hj aA
 have i2:=aS6 i.v w hw aA
 have hulj:=u8l hj
 have hulw:=u8l hw
 rw [dL]
 obtain ⟨ns,k,n,t⟩:=i
 dsimp only [Idf.cs,Vl.c] at *
 refine aF aB (sz:=10) Tryz.func165 rfl (by rw [Tryz.ntmps165];rfl) ?_
 repeat' (first|(refine aC ?_;intro K hK hX)|refine eJ [0,1,2] ?_|(refine gW ?_;first|refine c1 i1 ?_|refine c1 i2 ?_)|refine stA ?_|refine stE ?_|(refine aH hK hX ?_;clear hK hX K)|fail)
 rw [← bD,hjm]
 exact bB
end Go.Proofs.YtbgehdndimlgkaaGreat
