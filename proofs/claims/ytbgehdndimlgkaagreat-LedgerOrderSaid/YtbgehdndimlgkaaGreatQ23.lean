import Derived.Test.YtbgehdndimlgkaaGreatQ17
import Derived.Test.YtbgehdndimlgkaaGreatQ22
set_option maxHeartbeats 16000000
set_option linter.unusedSimpArgs false
set_option linter.unusedVariables false
namespace Go.Proofs.YtbgehdndimlgkaaGreat
open Go Go.RowKit Go.Av
set_option maxRecDepth 100000
attribute [local irreducible] Still Adds AWL AW Drw bS bY AC AWR cQ Frz Go.Av.Src cM Out InK ItK AsK RdK fC eZ ACT ACA fJ
attribute [local simp] bU bQ bM
structure RR {α:Type} (f:RS→α × RS) (N:Nat) (s0:RS) (i:Nat) (l:List α) (s:RS):Prop where
 le:i≤N
 len:l.length=i
 eq:iJ f N s0=(l++(iJ f (N-i) s).1,(iJ f (N-i) s).2)
theorem RR.init {α:Type} (f:RS→α × RS) (N:Nat) (s0:RS):RR f N s0 0 [] s0:=⟨Nat.zero_le _,rfl,by rw [Nat.sub_zero,List.nil_append]⟩
theorem RR.next {α:Type} {f:RS→α × RS} {N:Nat} {s0:RS} {i:Nat} {l:List α} {s:RS} (h:RR f N s0 i l s) (hi:i<N) (h0:s.e=0) {x:α} {s':RS} (hx:f s=(x,s')):RR f N s0 (i+1) (l++[x]) s':=by
 refine ⟨hi,by rw [List.length_append,h.len];rfl,?_⟩
 rw [h.eq,show N-i=(N-(i+1))+1 by omega,iJ,if_neg (by rw [h0];simp),hx]
 simp
theorem RR.stop {α:Type} {f:RS→α × RS} {N:Nat} {s0:RS} {i:Nat} {l:List α} {s:RS} (h:RR f N s0 i l s) (he:i=N∨s.e≠0):iJ f N s0=(l,s):=by
 have:iJ f (N-i) s=([],s):=by
  cases hn:N-i with
  | zero=>rfl
  | succ k=>rw [iJ,if_pos (he.resolve_left aA)]
 rw [h.eq,this,List.append_nil]
theorem rV {α:Type} {f:RS→α × RS} (hf:∀s,(f s).2.b.length≤s.b.length):∀(n:Nat) (s:RS),(iJ f n s).2.b.length≤s.b.length∧(iJ f n s).1.length≤n
 | 0,s=>⟨Nat.le_refl _,by simp [iJ]⟩
 | n+1,s=>by
  obtain ⟨h1,h2⟩:=rV hf n (f s).2
  have h3:=hf s
  rw [iJ]
  split
  ·exact ⟨Nat.le_refl _,by simp⟩
  ·exact ⟨Nat.le_trans h1 h3,by simp only [List.length_cons];omega⟩
theorem bQ2 (b:List UInt8) (e:Int) (m:Nat) (hm:b.length=m) (hb:m≤1000000000):∃r s' n,aY2 rVr 512 ⟨b,e⟩=(r,s')∧r.length=n∧n≤512∧ARd 136 109 [] b e m (.sl 3 n (vrc r)) s':=by
 obtain ⟨n1,s1,q1,b1,e1,m1,rfl,a1,l1,d1,c1'⟩:=nZ 512 aN b e m hm hb
 have hbd:=pV 0 512 aN aN ⟨b,e⟩
 rw [q1] at hbd
 dsimp only at hbd
 obtain ⟨N,hN⟩:∃N:Nat,n1=(N:Int):=⟨n1.toNat,by omega⟩
 subst hN
 unfold aY2
 rw [q1]
 dsimp only
 rw [Int.toNat_natCast]
 have hfa:=rV bH9 N ⟨b1,e1⟩
 obtain ⟨R,hR⟩:∃R,iJ rVr N ⟨b1,e1⟩=R:=⟨_,rfl⟩
 rw [hR] at hfa ⊢
 obtain ⟨hf1,hf2⟩:=hfa
 dsimp only at hf1
 rw [l1] at hf1
 refine ⟨R.1,R.2,_,rfl,rfl,by omega,?_⟩
 refine ⟨R.2.b,R.2.e,_,rfl,?_,rfl,by omega,by omega⟩
 refine aR aB (sz:=35) Tryz.func136 rfl (by rw [Tryz.ntmps136];rfl) ?_
 repeat' (first|(refine aC ?_;intro K hK hX)|refine dC0 ?_|(refine aF hK hX ?_;clear hK hX K)|fail)
 refine mR 3 76 3 rfl ?_
 refine bA [3,5] [0,1] rfl rfl (fun p:Nat × List Ver × List UInt8 × Int × Nat=>[(3,.own 1 0 p.1 3 true),(5,.c (iv p.1))]) (fun p=>[(1,.row 76 (vrc p.2.1)),(0,.blk 109 [.c (.sl 1 p.2.2.2.2 (u8c p.2.2.1)),.c (iv p.2.2.2.1)])]) (fun p=>RR rVr N ⟨b1,e1⟩ p.1 p.2.1 ⟨p.2.2.1,p.2.2.2.1⟩∧p.2.2.1.length=p.2.2.2.2∧p.2.2.2.2≤m1) (fun p=>N-p.1) (0,[],b1,e1,m1) ⟨RR.init _ _ _,l1,Nat.le_refl _⟩ fX ?_
 rintro ⟨i,l,bc,ec,mc⟩ ⟨hrl,hbc,hmc⟩ K hK hX
 dsimp only at hrl hbc hmc hK ⊢
 have hil:=hrl.len
 have hiN:=hrl.le
 have hcl:(vrc l).length=i*3:=by rw [cU,hil]
 by_cases hlt:i<N
 ·by_cases he:ec=0
  ·subst he
   obtain ⟨x1,t1,p1,j1,y1,f1,g1,rfl,r1,z1,w1,v1⟩:=cT bc 0 mc hbc aA
   obtain ⟨x2,t2,p2,j2,y2,f2,g2,rfl,r2,z2,w2,v2⟩:=cT y1 f1 g1 z1 v1
   obtain ⟨x3,t3,p3,j3,y3,f3,g3,rfl,r3,z3,w3,v3⟩:=cT y2 f2 g2 z2 v2
   have q2:rVr ⟨bc,0⟩=(⟨x1,x3,x2⟩,⟨y3,f3⟩):=by simp only [rVr,p1,p2,p3]
   have hnx:=hrl.next hlt rfl q2
   have hsn:=aT7 l ⟨x1,x3,x2⟩
   dsimp only at hsn
   repeat' (first|(refine aC ?_;intro K hK hX)|refine aI [0,2,3,4,5,6] ?_|((with_reducible refine aD ?_);refine aJ (r1) aE rfl zby rfl rfl rfl rfl zcv rfl ztp ?_)|((with_reducible refine aD ?_);refine aJ (r2) aE rfl zby rfl rfl rfl rfl zcv rfl ztp ?_)|((with_reducible refine aD ?_);refine aJ (r3) aE rfl zby rfl rfl rfl rfl zcv rfl ztp ?_)|refine stA ?_|(refine aF hK hX ?_;clear hK hX K)|fail)
   exact ⟨(i+1,l++[⟨x1,x3,x2⟩],y3,f3,g3),⟨hnx,z3,by simp only;omega⟩,by simp only;omega,bD4⟩
  ·have hres:=hrl.stop (.inr he)
   rw [hR] at hres
   repeat' (first|(refine aC ?_;intro K hK hX)|refine aL8 ?_|(refine aF hK hX ?_;clear hK hX K)|fail)
   rw [hres]
   dsimp only
   rw [hbc,hil]
   exact dG
 ·have hin:i=N:=by omega
  have hres:=hrl.stop (.inl hin)
  rw [hR] at hres
  repeat' (first|(refine aC ?_;intro K hK hX)|refine aL8 ?_|(refine aF hK hX ?_;clear hK hX K)|fail)
  rw [hres]
  dsimp only
  rw [hbc,hil]
  exact dG
theorem bQ1 (b:List UInt8) (e:Int) (m:Nat) (hm:b.length=m) (hb:m≤1000000000):∃r s' n,aY2 rSr 512 ⟨b,e⟩=(r,s')∧r.length=n∧n≤512∧ARd 137 109 [] b e m (.sl 2 n (src r)) s':=by
 obtain ⟨n1,s1,q1,b1,e1,m1,rfl,a1,l1,d1,c1'⟩:=nZ 512 aN b e m hm hb
 have hbd:=pV 0 512 aN aN ⟨b,e⟩
 rw [q1] at hbd
 dsimp only at hbd
 obtain ⟨N,hN⟩:∃N:Nat,n1=(N:Int):=⟨n1.toNat,by omega⟩
 subst hN
 unfold aY2
 rw [q1]
 dsimp only
 rw [Int.toNat_natCast]
 have hfa:=rV bH8 N ⟨b1,e1⟩
 obtain ⟨R,hR⟩:∃R,iJ rSr N ⟨b1,e1⟩=R:=⟨_,rfl⟩
 rw [hR] at hfa ⊢
 obtain ⟨hf1,hf2⟩:=hfa
 dsimp only at hf1
 rw [l1] at hf1
 refine ⟨R.1,R.2,_,rfl,rfl,by omega,?_⟩
 refine ⟨R.2.b,R.2.e,_,rfl,?_,rfl,by omega,by omega⟩
 refine aR aB (sz:=32) Tryz.func137 rfl (by rw [Tryz.ntmps137];rfl) ?_
 repeat' (first|(refine aC ?_;intro K hK hX)|refine dC0 ?_|(refine aF hK hX ?_;clear hK hX K)|fail)
 refine mR 3 72 2 rfl ?_
 refine bA [3,5] [0,1] rfl rfl (fun p:Nat × List Src × List UInt8 × Int × Nat=>[(3,.own 1 0 p.1 2 true),(5,.c (iv p.1))]) (fun p=>[(1,.row 72 (src p.2.1)),(0,.blk 109 [.c (.sl 1 p.2.2.2.2 (u8c p.2.2.1)),.c (iv p.2.2.2.1)])]) (fun p=>RR rSr N ⟨b1,e1⟩ p.1 p.2.1 ⟨p.2.2.1,p.2.2.2.1⟩∧p.2.2.1.length=p.2.2.2.2∧p.2.2.2.2≤m1) (fun p=>N-p.1) (0,[],b1,e1,m1) ⟨RR.init _ _ _,l1,Nat.le_refl _⟩ fX ?_
 rintro ⟨i,l,bc,ec,mc⟩ ⟨hrl,hbc,hmc⟩ K hK hX
 dsimp only at hrl hbc hmc hK ⊢
 have hil:=hrl.len
 have hiN:=hrl.le
 have hcl:(src l).length=i*2:=by rw [dQ,hil]
 by_cases hlt:i<N
 ·by_cases he:ec=0
  ·subst he
   obtain ⟨x1,t1,p1,j1,y1,f1,g1,rfl,r1,z1,w1,v1⟩:=cT bc 0 mc hbc aA
   obtain ⟨x2,t2,p2,j2,y2,f2,g2,rfl,r2,z2,w2,v2⟩:=cT y1 f1 g1 z1 v1
   have q2:rSr ⟨bc,0⟩=(⟨x1,x2⟩,⟨y2,f2⟩):=by simp only [rSr,p1,p2]
   have hnx:=hrl.next hlt rfl q2
   have hsn:=aS8 l ⟨x1,x2⟩
   dsimp only at hsn
   repeat' (first|(refine aC ?_;intro K hK hX)|refine aI [0,2,3,4,5,6] ?_|((with_reducible refine aD ?_);refine aJ (r1) aE rfl zby rfl rfl rfl rfl zcv rfl ztp ?_)|((with_reducible refine aD ?_);refine aJ (r2) aE rfl zby rfl rfl rfl rfl zcv rfl ztp ?_)|refine stA ?_|(refine aF hK hX ?_;clear hK hX K)|fail)
   exact ⟨(i+1,l++[⟨x1,x2⟩],y2,f2,g2),⟨hnx,z2,by simp only;omega⟩,by simp only;omega,bD4⟩
  ·have hres:=hrl.stop (.inr he)
   rw [hR] at hres
   repeat' (first|(refine aC ?_;intro K hK hX)|refine aL8 ?_|(refine aF hK hX ?_;clear hK hX K)|fail)
   rw [hres]
   dsimp only
   rw [hbc,hil]
   exact dG
 ·have hin:i=N:=by omega
  have hres:=hrl.stop (.inl hin)
  rw [hR] at hres
  repeat' (first|(refine aC ?_;intro K hK hX)|refine aL8 ?_|(refine aF hK hX ?_;clear hK hX K)|fail)
  rw [hres]
  dsimp only
  rw [hbc,hil]
  exact dG
theorem cK4 (l:List UInt8) (i:Nat) (hl:l.length=32) (hi:i<32):(u8c (l.take i++List.replicate (32-i) 0)).set (0+i*1) (.v (.int .u8 ((l.getD i 0).toNat:Int)))=u8c (l.take (i+1)++List.replicate (32-(i+1)) 0):=by
 rw [Nat.zero_add,Nat.mul_one]
 have e:List.replicate (32-i) (0:UInt8)=0::List.replicate (32-(i+1)) 0:=by rw [show 32-i=(32-(i+1))+1 by omega,List.replicate_succ]
 have h1:(l.take i).length=i:=by rw [List.length_take];omega
 rw [e,bM,List.set_append_right _ _ (by rw [aL,h1];exact Nat.le_refl _),aL,h1,Nat.sub_self]
 have h2:l.take (i+1)=l.take i++[l.getD i 0]:=by
  rw [List.take_add_one,List.getElem?_eq_getElem aA]
  simp [List.getD,List.getElem?_eq_getElem (show i<l.length by omega)]
 rw [h2,List.append_assoc,bM]
 rfl
attribute [local simp] aH8 aL
theorem cG5 (b : List UInt8) (e : Int) (m : Nat) (hm : b.length = m) (hb : m ≤ 1000000000) : ∃ r s', rDg ⟨b, e⟩ = (r, s') ∧ r.length = 32 ∧ ARd 124 109 [] b e m (.agg (u8c r)) s' := by
  obtain ⟨l, k, s2, q2, hk, hkm, b2, e2, m2, rfl, a2, l2, d2, c2'⟩ := aD4 32 ⟨by decide, by decide⟩ b e m hm hb
  have huk := u8l hk
  have hk32 : l = [] ∨ l.length = 32 := by
    have h := congrArg Prod.fst q2
    unfold rBy at h
    dsimp only at h
    split at h
    · exact .inl h.symm
    · split at h
      · exact .inl h.symm
      · right
        simp only at h
        rw [← h, List.length_take]
        simp only [Int.toNat] at *
        omega
  unfold rDg
  rw [show (32 : Nat) = (32 : Int).toNat from rfl, q2]
  dsimp only
  rcases hk32 with h0 | h0
  · subst h0
    rw [if_pos rfl]
    simp only [List.length_nil] at hk
    subst hk
    refine ⟨root0, _, rfl, by simp [root0], b2, e2, m2, rfl, ?_, l2, d2, c2'⟩
    refine aR aB (sz := 21) Tryz.func124 rfl (by rw [Tryz.ntmps124]; rfl) ?_
    repeat' (first | (refine aC ?_; intro K hK hX) | refine aI [0, 2, 3, 4, 5] ?_ | ((with_reducible refine sS ?_); refine qG 2 ?_) | (refine bB9 ?_; intro K hK hX) | ((with_reducible refine aD ?_); refine aJ (a2) aE rfl zby rfl rfl rfl rfl zcv rfl ztp ?_) | refine stA ?_ | (refine aF hK hX ?_; clear hK hX K) | fail)
    exact eV
  · rw [if_neg (fun h => by rw [h] at h0; cases h0)]
    rw [h0] at hk
    subst hk
    refine ⟨l, _, rfl, h0, b2, e2, m2, rfl, ?_, l2, d2, c2'⟩
    refine aR aB (sz := 21) Tryz.func124 rfl (by rw [Tryz.ntmps124]; rfl) ?_
    repeat' (first | (refine aC ?_; intro K hK hX) | refine aI [0, 2, 3, 4, 5] ?_ | ((with_reducible refine aD ?_); refine aJ (a2) aE rfl zby rfl rfl rfl rfl zcv rfl ztp ?_) | refine stA ?_ | (refine aF hK hX ?_; clear hK hX K) | fail)
    refine bA [5] [2] rfl rfl (fun i : Nat => [(5, .c (iv i))]) (fun i => [(2, .row 28 (u8c (l.take i ++ List.replicate (32 - i) 0)))]) (fun i => i ≤ 32) (fun i => 32 - i) 0 aA fX ?_
    intro i hi K hK hX
    have hlen : (u8c (l.take i ++ List.replicate (32 - i) 0)).length = 32 := by rw [aL, List.length_append, List.length_take, List.length_replicate]; omega
    by_cases hlt : i < 32
    · have hx : (u8c l)[i]? = some (.v (.int .u8 ((l.getD i 0).toNat : Int))) := by
        rw [List.getD_eq_getElem?_getD]
        simp [u8c, List.getElem?_eq_getElem (show i < l.length by omega)]
      have hfit : 0 + i * 1 < (u8c (l.take i ++ List.replicate (32 - i) 0)).length := by omega
      repeat' (first | (refine aC ?_; intro K hK hX) | refine aI [0, 2, 3, 4, 5] ?_ | refine eM ?_ | ((with_reducible refine jD ?_); (refine fR aB aE rfl rfl rfl rfl rfl rfl dE6 ?_)) | refine stA ?_ | (refine aF hK hX ?_; clear hK hX K) | fail)
      exact ⟨i + 1, by omega, by omega, (by refine eS rfl ?_ ?_ rfl <;> (repeat' (first | exact cW | exact cX | refine cI rfl dE7 rfl ?_ | refine bH rfl dE7 rfl ?_)))⟩
    · have hin : i = 32 := by omega
      repeat' (first | (refine aC ?_; intro K hK hX) | refine rG ?_ | (refine aF hK hX ?_; clear hK hX K) | fail)
      have hfin : u8c (l.take i ++ List.replicate (32 - i) 0) = u8c l := by rw [hin, List.take_of_length_le aA]; simp
      have hcv : Cv (.agg (u8c (l.take i ++ List.replicate (32 - i) 0))) (.agg (u8c l)) := rI (by rw [hfin])
      exact dF6
end Go.Proofs.YtbgehdndimlgkaaGreat
namespace Go.Proofs.YtbgehdndimlgkaaGreat
open Go Go.RowKit Go.Av
set_option maxRecDepth 100000
attribute [local irreducible] Still Adds AWL AW Drw bS bY AC AWR cQ Frz Go.Av.Src cM Out InK ItK AsK RdK fC eZ ACT ACA fJ
attribute [local simp] bU bQ bM
theorem aY4 (b:List UInt8) (e:Int) (m:Nat) (hm:b.length=m) (hb:m≤1000000000):∃r s' nv ns,rEn rpR ⟨b,e⟩=(r,s')∧r.vs.length=nv∧r.ss.length=ns∧r.root.length=32∧ARd 67 109 [] b e m (.agg (ecs r nv ns)) s':=by
 obtain ⟨n1,s1,q1,i1,b1,e1,m1,rfl,a1,l1,d1,c1'⟩:=cT b e m hm hb
 have hz:e1≠0→n1=0:=fun h=>by have:=nH (s:=⟨b,e⟩) (by rw [q1];exact h);rwa [q1] at this
 by_cases hbad:(n1<1∨7<n1)∧e1=0
 ·obtain ⟨hbd,rfl⟩:=hbad
  have hki:bP3 ⟨b,e⟩=(n1,⟨b1,1⟩):=by unfold bP3;rw [q1];dsimp only;rw [if_pos hbd,if_pos rfl]
  obtain ⟨n2,s2,q2,i2,b2,e2,m2,rfl,a2,l2,d2,c2'⟩:=cT b1 1 m1 l1 c1'
  obtain ⟨n3,s3,q3,i3,b3,e3,m3,rfl,a3,l3,d3,c3'⟩:=cT b2 e2 m2 l2 c2'
  obtain ⟨n4,s4,q4,i4,b4,e4,m4,rfl,a4,l4,d4,c4'⟩:=cT b3 e3 m3 l3 c3'
  have hEn:rEn rpR ⟨b,e⟩=lT rpR n1 n2 n3 n4 ⟨b4,e4⟩:=by simp only [rEn,rpR,hki,q2,q3,q4]
  rw [hEn]
  clear hEn
  unfold lT
  rw [if_neg aA,if_neg aA,if_neg aA,if_neg aA,if_neg aA]
  refine ⟨⟨n1,n2,n3,n4,rq0,lk0,hd0,[],[],root0⟩,⟨b4,e4⟩,0,0,rfl,rfl,rfl,rfl,b4,e4,m4,rfl,?_,l4,by omega,c4'⟩
  dsimp only [ecs,lk0,hd0,jF,rq0,Vl.nul,Vl.c,Idf.cs,LRq.cs,LLk.cs,LHd.cs] at *
  by_cases h1:n1<1
  ·refine aR aB (sz:=57) Tryz.func67 rfl mJ ?_
   repeat' (first|(refine aC ?_;intro K hK hX)|refine aI [0,1,2,3,4,27] ?_|((with_reducible refine aY ?_);refine yA ?_;refine bJ (aX aB rfl rfl rfl) rfl ?_)|((with_reducible refine aD ?_);refine aJ (a1) aE rfl zby rfl rfl rfl rfl zcv rfl ztp ?_)|((with_reducible refine aD ?_);refine aJ (a2) aE rfl zby rfl rfl rfl rfl zcv rfl ztp ?_)|((with_reducible refine aD ?_);refine aJ (a3) aE rfl zby rfl rfl rfl rfl zcv rfl ztp ?_)|((with_reducible refine aD ?_);refine aJ (a4) aE rfl zby rfl rfl rfl rfl zcv rfl ztp ?_)|((first|with_reducible refine aD ?_|with_reducible refine aS ?_);refine bL aB [0,1,2,3,4,5,6,7,8,9,10,11,12,13,14,15,16,17,18,19,20,21,22,23,24,25,26,27,28,29,30,31,32,33,34,35,36,37,38,39,40,41,42,43,44,45,46,47,48,49,50,51,52,53,54,55,56] aE rfl rfl zby Tryz.func134 rfl rfl rfl (szf:=13) iN rfl ?_)|refine stA ?_|(refine aF hK hX ?_;clear hK hX K)|fail|(first|refine bF zio ztr rfl rfl ResL.none ?_|refine bE zio ztr rfl rfl ResL.none ?_))
   exact eV
  ·refine aR aB (sz:=57) Tryz.func67 rfl mJ ?_
   repeat' (first|(refine aC ?_;intro K hK hX)|refine aI [0,1,2,3,4,27] ?_|((with_reducible refine aY ?_);refine yA ?_;refine bJ (aX aB rfl rfl rfl) rfl ?_)|((with_reducible refine aD ?_);refine aJ (a1) aE rfl zby rfl rfl rfl rfl zcv rfl ztp ?_)|((with_reducible refine aD ?_);refine aJ (a2) aE rfl zby rfl rfl rfl rfl zcv rfl ztp ?_)|((with_reducible refine aD ?_);refine aJ (a3) aE rfl zby rfl rfl rfl rfl zcv rfl ztp ?_)|((with_reducible refine aD ?_);refine aJ (a4) aE rfl zby rfl rfl rfl rfl zcv rfl ztp ?_)|((first|with_reducible refine aD ?_|with_reducible refine aS ?_);refine bL aB [0,1,2,3,4,5,6,7,8,9,10,11,12,13,14,15,16,17,18,19,20,21,22,23,24,25,26,27,28,29,30,31,32,33,34,35,36,37,38,39,40,41,42,43,44,45,46,47,48,49,50,51,52,53,54,55,56] aE rfl rfl zby Tryz.func134 rfl rfl rfl (szf:=13) iN rfl ?_)|refine stA ?_|(refine aF hK hX ?_;clear hK hX K)|fail|(first|refine bF zio ztr rfl rfl ResL.none ?_|refine bE zio ztr rfl rfl ResL.none ?_))
   exact eV
 have hki:bP3 ⟨b,e⟩=(n1,⟨b1,if (n1<1∨7<n1)∧e1=0 then 1 else e1⟩):=by
  unfold bP3;rw [q1];dsimp only
  rw [if_neg hbad]
  split
  ·rename_i h
   rw [if_neg (fun he=>hbad ⟨h,he⟩)]
  ·rfl
 rw [if_neg hbad] at hki
 obtain ⟨n2,s2,q2,i2,b2,e2,m2,rfl,a2,l2,d2,c2'⟩:=cT b1 e1 m1 l1 c1'
 obtain ⟨n3,s3,q3,i3,b3,e3,m3,rfl,a3,l3,d3,c3'⟩:=cT b2 e2 m2 l2 c2'
 obtain ⟨n4,s4,q4,i4,b4,e4,m4,rfl,a4,l4,d4,c4'⟩:=cT b3 e3 m3 l3 c3'
 have hEn:rEn rpR ⟨b,e⟩=lT rpR n1 n2 n3 n4 ⟨b4,e4⟩:=by simp only [rEn,rpR,hki,q2,q3,q4]
 rw [hEn]
 clear hEn hki
 unfold lT
 by_cases k1:n1=1
 ·subst k1
  rw [if_pos rfl]
  obtain ⟨x5,s5,q5,b5,e5,m5,rfl,a5,l5,d5,c5'⟩:=cH0 b4 e4 m4 l4 c4'
  refine ⟨⟨1,n2,n3,n4,x5,lk0,hd0,[],[],root0⟩,⟨b5,e5⟩,0,0,by simp only [rpR,q5],rfl,rfl,rfl,b5,e5,m5,rfl,?_,l5,by omega,c5'⟩
  obtain ⟨xk,⟨xn,⟨xvk,xvn,xvt⟩⟩,xs,xd,xdl⟩:=x5
  dsimp only [ecs,lk0,hd0,jF,rq0,Vl.nul,Vl.c,Idf.cs,LRq.cs,LLk.cs,LHd.cs] at *
  refine aR aB (sz:=57) Tryz.func67 rfl mJ ?_
  repeat' (first|(refine aC ?_;intro K hK hX)|refine bU6 ?_|(refine aF hK hX ?_;clear hK hX K)|fail)
  exact eV
 rw [if_neg k1]
 by_cases k2:n1=2
 ·subst k2
  rw [if_pos rfl]
  obtain ⟨x5,s5,nv,q5,hnv,hnv',b5,e5,m5,rfl,a5,l5,d5,c5'⟩:=bQ2 b4 e4 m4 l4 c4'
  obtain ⟨x6,s6,ns,q6,hns,hns',b6,e6,m6,rfl,a6,l6,d6,c6'⟩:=bQ1 b5 e5 m5 l5 c5'
  refine ⟨⟨2,n2,n3,n4,rq0,lk0,hd0,x5,x6,root0⟩,⟨b6,e6⟩,nv,ns,by simp only [rpR,q5,q6],hnv,hns,rfl,b6,e6,m6,rfl,?_,l6,by omega,c6'⟩
  dsimp only [ecs,lk0,hd0,jF,rq0,Vl.nul,Vl.c,Idf.cs,LRq.cs,LLk.cs,LHd.cs] at *
  refine aR aB (sz:=57) Tryz.func67 rfl mJ ?_
  repeat' (first|(refine aC ?_;intro K hK hX)|refine aI [0,2,3,4,27] ?_|((with_reducible refine aY ?_);refine yA ?_;refine bJ (aX aB rfl rfl rfl) rfl ?_)|((with_reducible refine aD ?_);refine aJ (a1) aE rfl zby rfl rfl rfl rfl zcv rfl ztp ?_)|((with_reducible refine aD ?_);refine aJ (a2) aE rfl zby rfl rfl rfl rfl zcv rfl ztp ?_)|((with_reducible refine aD ?_);refine aJ (a3) aE rfl zby rfl rfl rfl rfl zcv rfl ztp ?_)|((with_reducible refine aD ?_);refine aJ (a4) aE rfl zby rfl rfl rfl rfl zcv rfl ztp ?_)|((with_reducible refine aD ?_);refine aJ (a5) aE rfl zby rfl rfl rfl rfl zcv rfl ztp ?_)|((with_reducible refine aD ?_);refine aJ (a6) aE rfl zby rfl rfl rfl rfl zcv rfl ztp ?_)|refine stA ?_|(refine aF hK hX ?_;clear hK hX K)|fail)
  exact eV
 rw [if_neg k2]
 by_cases k4:n1=4
 ·subst k4
  rw [if_pos rfl]
  obtain ⟨x5,s5,q5,h32,b5,e5,m5,rfl,a5,l5,d5,c5'⟩:=cG5 b4 e4 m4 l4 c4'
  refine ⟨⟨4,n2,n3,n4,rq0,lk0,hd0,[],[],x5⟩,⟨b5,e5⟩,0,0,by simp only [rpR,q5],rfl,rfl,h32,b5,e5,m5,rfl,?_,l5,by omega,c5'⟩
  have hux:=u8l h32
  have hwh:((lay (iv 4::iv n2::iv n3::iv n4::iv 0::sv []::iv 0::iv 0::sv []::iv 0::iv 0::iv 0::sv []::iv 0::iv 0::sv []::sv []::iv 0::iv 0::sv []::iv 0::bv false::iv 0::iv 0::sv []::iv 0::iv 0::sv []::iv 0::iv 0::iv 0 :: .v (.slice none 0 0) :: .v (.slice none 0 0)::u8c root0) (0+33) (u8c x5)).drop 0).take 65=iv 4::iv n2::iv n3::iv n4::iv 0::sv []::iv 0::iv 0::sv []::iv 0::iv 0::iv 0::sv []::iv 0::iv 0::sv []::sv []::iv 0::iv 0::sv []::iv 0::bv false::iv 0::iv 0::sv []::iv 0::iv 0::sv []::iv 0::iv 0::iv 0 :: .v (.slice none 0 0) :: .v (.slice none 0 0)::u8c x5:=by
   have h1:lay (iv 4::iv n2::iv n3::iv n4::iv 0::sv []::iv 0::iv 0::sv []::iv 0::iv 0::iv 0::sv []::iv 0::iv 0::sv []::sv []::iv 0::iv 0::sv []::iv 0::bv false::iv 0::iv 0::sv []::iv 0::iv 0::sv []::iv 0::iv 0::iv 0 :: .v (.slice none 0 0) :: .v (.slice none 0 0)::u8c root0) (0+33) (u8c x5)=iv 4::iv n2::iv n3::iv n4::iv 0::sv []::iv 0::iv 0::sv []::iv 0::iv 0::iv 0::sv []::iv 0::iv 0::sv []::sv []::iv 0::iv 0::sv []::iv 0::bv false::iv 0::iv 0::sv []::iv 0::iv 0::sv []::iv 0::iv 0::iv 0 :: .v (.slice none 0 0) :: .v (.slice none 0 0)::u8c x5:=yR (a:=[iv 4,iv n2,iv n3,iv n4,iv 0,sv [],iv 0,iv 0,sv [],iv 0,iv 0,iv 0,sv [],iv 0,iv 0,sv [],sv [],iv 0,iv 0,sv [],iv 0,bv false,iv 0,iv 0,sv [],iv 0,iv 0,sv [],iv 0,iv 0,iv 0,.v (.slice none 0 0),.v (.slice none 0 0)]) (z:=u8c root0) (y:=u8c x5) rfl (by rw [hux];rfl)
   rw [h1,List.drop_zero,List.take_of_length_le (by simp only [List.length_cons,hux];omega)]
  have hwl:(iv 4::iv n2::iv n3::iv n4::iv 0::sv []::iv 0::iv 0::sv []::iv 0::iv 0::iv 0::sv []::iv 0::iv 0::sv []::sv []::iv 0::iv 0::sv []::iv 0::bv false::iv 0::iv 0::sv []::iv 0::iv 0::sv []::iv 0::iv 0::iv 0 :: .v (.slice none 0 0) :: .v (.slice none 0 0)::u8c x5).length=65:=by simp only [List.length_cons,hux]
  have hcvl:CvL (iv 4::iv n2::iv n3::iv n4::iv 0::sv []::iv 0::iv 0::sv []::iv 0::iv 0::iv 0::sv []::iv 0::iv 0::sv []::sv []::iv 0::iv 0::sv []::iv 0::bv false::iv 0::iv 0::sv []::iv 0::iv 0::sv []::iv 0::iv 0::iv 0 :: .v (.slice none 0 0) :: .v (.slice none 0 0)::u8c x5) (ecs ⟨4,n2,n3,n4,rq0,lk0,hd0,[],[],x5⟩ 0 0):=by
   dsimp only [ecs,lk0,hd0,jF,rq0,Vl.nul]
   repeat' (first|exact cH|exact gC|exact dX|(refine dM ?_ ?_)|exact qK)
  dsimp only [ecs,lk0,hd0,jF,rq0,Vl.nul,Vl.c,Idf.cs,LRq.cs,LLk.cs,LHd.cs] at *
  refine aR aB (sz:=57) Tryz.func67 rfl mJ ?_
  repeat' (first|(refine aC ?_;intro K hK hX)|refine aI [0,2,3,4,27] ?_|((with_reducible refine aY ?_);refine yA ?_;refine bJ (aX aB rfl rfl rfl) rfl ?_)|((with_reducible refine aD ?_);refine aJ (a1) aE rfl zby rfl rfl rfl rfl zcv rfl ztp ?_)|((with_reducible refine aD ?_);refine aJ (a2) aE rfl zby rfl rfl rfl rfl zcv rfl ztp ?_)|((with_reducible refine aD ?_);refine aJ (a3) aE rfl zby rfl rfl rfl rfl zcv rfl ztp ?_)|((with_reducible refine aD ?_);refine aJ (a4) aE rfl zby rfl rfl rfl rfl zcv rfl ztp ?_)|((with_reducible refine aD ?_);refine aJ (a5) aE rfl zby rfl rfl rfl rfl zcv rfl ztp ?_)|refine iV ?_|refine stA ?_|(refine aF hK hX ?_;clear hK hX K)|fail)
  exact dF7
 rw [if_neg k4]
 by_cases k6:n1=6
 ·subst k6
  rw [if_pos rfl]
  obtain ⟨x5,s5,q5,b5,e5,m5,rfl,a5,l5,d5,c5'⟩:=bQ0 b4 e4 m4 l4 c4'
  refine ⟨⟨6,n2,n3,n4,rq0,x5,hd0,[],[],root0⟩,⟨b5,e5⟩,0,0,by simp only [rpR,q5],rfl,rfl,rfl,b5,e5,m5,rfl,?_,l5,by omega,c5'⟩
  obtain ⟨⟨xn,⟨xvk,xvn,xvt⟩⟩,⟨yn,⟨yvk,yvn,yvt⟩⟩,xs,xr⟩:=x5
  dsimp only [ecs,lk0,hd0,jF,rq0,Vl.nul,Vl.c,Idf.cs,LRq.cs,LLk.cs,LHd.cs] at *
  refine aR aB (sz:=57) Tryz.func67 rfl mJ ?_
  repeat' (first|(refine aC ?_;intro K hK hX)|refine bU6 ?_|(refine aF hK hX ?_;clear hK hX K)|fail)
  exact eV
 rw [if_neg k6]
 by_cases k7:n1=7
 ·subst k7
  rw [if_pos rfl]
  obtain ⟨x5,s5,q5,b5,e5,m5,rfl,a5,l5,d5,c5'⟩:=bP9 b4 e4 m4 l4 c4'
  refine ⟨⟨7,n2,n3,n4,rq0,lk0,x5,[],[],root0⟩,⟨b5,e5⟩,0,0,by simp only [rpR,q5],rfl,rfl,rfl,b5,e5,m5,rfl,?_,l5,by omega,c5'⟩
  obtain ⟨xt,xc,⟨xn,⟨xvk,xvn,xvt⟩⟩,xs,xf,xo⟩:=x5
  dsimp only [ecs,lk0,hd0,jF,rq0,Vl.nul,Vl.c,Idf.cs,LRq.cs,LLk.cs,LHd.cs] at *
  refine aR aB (sz:=57) Tryz.func67 rfl mJ ?_
  repeat' (first|(refine aC ?_;intro K hK hX)|refine bU6 ?_|(refine aF hK hX ?_;clear hK hX K)|fail)
  exact eV
 rw [if_neg k7]
 refine ⟨⟨n1,n2,n3,n4,rq0,lk0,hd0,[],[],root0⟩,⟨b4,e4⟩,0,0,rfl,rfl,rfl,rfl,b4,e4,m4,rfl,?_,l4,by omega,c4'⟩
 have h3:n1=3∨n1=5∨(n1=0∧e1≠0):=by
  by_cases he:e1=0
  ·have:¬(n1<1∨7<n1):=fun h=>hbad ⟨h,he⟩
   omega
  ·exact .inr (.inr ⟨hz he,he⟩)
 rcases h3 with h3|h3|⟨h3,he⟩<;>subst h3
 ·skip
  dsimp only [ecs,lk0,hd0,jF,rq0,Vl.nul,Vl.c,Idf.cs,LRq.cs,LLk.cs,LHd.cs] at *
  refine aR aB (sz:=57) Tryz.func67 rfl mJ ?_
  repeat' (first|(refine aC ?_;intro K hK hX)|refine aI [0,1,2,3,4,27] ?_|((with_reducible refine aY ?_);refine yA ?_;refine bJ (aX aB rfl rfl rfl) rfl ?_)|((with_reducible refine aD ?_);refine aJ (a1) aE rfl zby rfl rfl rfl rfl zcv rfl ztp ?_)|((with_reducible refine aD ?_);refine aJ (a2) aE rfl zby rfl rfl rfl rfl zcv rfl ztp ?_)|((with_reducible refine aD ?_);refine aJ (a3) aE rfl zby rfl rfl rfl rfl zcv rfl ztp ?_)|((with_reducible refine aD ?_);refine aJ (a4) aE rfl zby rfl rfl rfl rfl zcv rfl ztp ?_)|((first|with_reducible refine aD ?_|with_reducible refine aS ?_);refine bL aB [0,1,2,3,4,5,6,7,8,9,10,11,12,13,14,15,16,17,18,19,20,21,22,23,24,25,26,27,28,29,30,31,32,33,34,35,36,37,38,39,40,41,42,43,44,45,46,47,48,49,50,51,52,53,54,55,56] aE rfl rfl zby Tryz.func134 rfl rfl rfl (szf:=13) iN rfl ?_)|refine stA ?_|(refine aF hK hX ?_;clear hK hX K)|fail|(first|refine bF zio ztr rfl rfl ResL.none ?_|refine bE zio ztr rfl rfl ResL.none ?_))
  exact eV
 ·skip
  dsimp only [ecs,lk0,hd0,jF,rq0,Vl.nul,Vl.c,Idf.cs,LRq.cs,LLk.cs,LHd.cs] at *
  refine aR aB (sz:=57) Tryz.func67 rfl mJ ?_
  repeat' (first|(refine aC ?_;intro K hK hX)|refine aI [0,1,2,3,4,27] ?_|((with_reducible refine aY ?_);refine yA ?_;refine bJ (aX aB rfl rfl rfl) rfl ?_)|((with_reducible refine aD ?_);refine aJ (a1) aE rfl zby rfl rfl rfl rfl zcv rfl ztp ?_)|((with_reducible refine aD ?_);refine aJ (a2) aE rfl zby rfl rfl rfl rfl zcv rfl ztp ?_)|((with_reducible refine aD ?_);refine aJ (a3) aE rfl zby rfl rfl rfl rfl zcv rfl ztp ?_)|((with_reducible refine aD ?_);refine aJ (a4) aE rfl zby rfl rfl rfl rfl zcv rfl ztp ?_)|((first|with_reducible refine aD ?_|with_reducible refine aS ?_);refine bL aB [0,1,2,3,4,5,6,7,8,9,10,11,12,13,14,15,16,17,18,19,20,21,22,23,24,25,26,27,28,29,30,31,32,33,34,35,36,37,38,39,40,41,42,43,44,45,46,47,48,49,50,51,52,53,54,55,56] aE rfl rfl zby Tryz.func134 rfl rfl rfl (szf:=13) iN rfl ?_)|refine stA ?_|(refine aF hK hX ?_;clear hK hX K)|fail|(first|refine bF zio ztr rfl rfl ResL.none ?_|refine bE zio ztr rfl rfl ResL.none ?_))
  exact eV
 ·skip
  dsimp only [ecs,lk0,hd0,jF,rq0,Vl.nul,Vl.c,Idf.cs,LRq.cs,LLk.cs,LHd.cs] at *
  refine aR aB (sz:=57) Tryz.func67 rfl mJ ?_
  repeat' (first|(refine aC ?_;intro K hK hX)|refine aI [0,1,2,3,4,27] ?_|((with_reducible refine aY ?_);refine yA ?_;refine bJ (aX aB rfl rfl rfl) rfl ?_)|((with_reducible refine aD ?_);refine aJ (a1) aE rfl zby rfl rfl rfl rfl zcv rfl ztp ?_)|((with_reducible refine aD ?_);refine aJ (a2) aE rfl zby rfl rfl rfl rfl zcv rfl ztp ?_)|((with_reducible refine aD ?_);refine aJ (a3) aE rfl zby rfl rfl rfl rfl zcv rfl ztp ?_)|((with_reducible refine aD ?_);refine aJ (a4) aE rfl zby rfl rfl rfl rfl zcv rfl ztp ?_)|((first|with_reducible refine aD ?_|with_reducible refine aS ?_);refine bL aB [0,1,2,3,4,5,6,7,8,9,10,11,12,13,14,15,16,17,18,19,20,21,22,23,24,25,26,27,28,29,30,31,32,33,34,35,36,37,38,39,40,41,42,43,44,45,46,47,48,49,50,51,52,53,54,55,56] aE rfl rfl zby Tryz.func134 rfl rfl rfl (szf:=13) iN rfl ?_)|refine stA ?_|(refine aF hK hX ?_;clear hK hX K)|fail|(first|refine bF zio ztr rfl rfl ResL.none ?_|refine bE zio ztr rfl rfl ResL.none ?_))
  exact eV
end Go.Proofs.YtbgehdndimlgkaaGreat
namespace Go.Proofs.YtbgehdndimlgkaaGreat
open Go Go.RowKit Go.Av
set_option maxRecDepth 100000
attribute [local irreducible] Still Adds AWL AW Drw bS bY AC AWR cQ Frz Go.Av.Src cM Out InK ItK AsK RdK fC eZ ACT ACA fJ
attribute [local simp] bU bQ bM
theorem yC {l:List UInt8} {m x k:Nat} {n:Int} (hn:aV n) (h:l++lY x=aT n) (hl:l.length=m) (hk:(aT n).length=k):m+(lY x).length=k∧k≤10∧0<(lY x).length:=by
 have h1:=cB4 hn
 have h2:=kF x
 rw [← h,List.length_append] at hk h1
 omega
theorem jE (n:Int) (hn:aV n) (k:Nat) (hk:(aT n).length=k):AC Tryz.prog 126 [iv n] (.own 0 0 k 1 true) [(0,.row 5 (u8c (aT n)))] 1:=by
 by_cases h0:n<0
 ·have hz:=cM4 hn h0
  refine aG aB (sz:=29) Tryz.func126 rfl (by rw [Tryz.ntmps126];rfl) ?_
  repeat' (first|(refine aC ?_;intro K hK hX)|refine aA8 ?_|(refine aF hK hX ?_;clear hK hX K)|fail)
  rw [hz]
  have hzl:=zZ hn.1 hn.2
  have hz0:[]++lY (zz n)=aT n:=rfl
  generalize zz n=z at hzl hz0
  refine dK 1 (fun p:List UInt8 × Nat × Nat=>[(3,.c (nv p.2.2)),(4,.own 0 0 p.2.1 1 true)]) (fun p=>[(0,.row 5 (u8c p.1))]) [] (fun p=>p.1.length=p.2.1∧p.1++lY p.2.2=aT n∧p.2.2<18446744073709551616) (fun p=>p.2.2) ([],0,z) ⟨rfl,hz0,hzl⟩ fX ?_
  rintro ⟨l,m,x⟩ ⟨hl,he,hx⟩ K hK hX
  dsimp only at hl he hx hK ⊢
  have hul:(u8c l).length=m:=by rw [aL,hl]
  obtain ⟨hk1,hk2,hk3⟩:=yC hn he hl hk
  by_cases hlt:x<128
  ·repeat' (first|(refine aC ?_;intro K hK hX)|refine aA8 ?_|(refine aF hK hX ?_;clear hK hX K)|fail)
   rw [kB hlt] at he hk1
   have e1:m+1=k:=by simpa using hk1
   rw [e1,show u8c l++[[CV.v (.int .u8 (x:Int))]].flatten=u8c (aT n) from by rw [← he];exact qO l x hlt]
   exact aU
  ·repeat' (first|(refine aC ?_;intro K hK hX)|refine dA8 ?_|(refine aF hK hX ?_;clear hK hX K)|fail)
   rw [mB hlt] at he
   refine ⟨(l++[UInt8.ofNat (x%128+128)],m+1,x / 128),⟨by simp [hl],by simpa using he,by simp only;omega⟩,by simp only;omega,?_⟩
   exact dD2
 ·have hz:=cM5 hn h0
  refine aG aB (sz:=29) Tryz.func126 rfl (by rw [Tryz.ntmps126];rfl) ?_
  repeat' (first|(refine aC ?_;intro K hK hX)|refine aA8 ?_|(refine aF hK hX ?_;clear hK hX K)|fail)
  rw [hz]
  have hzl:=zZ hn.1 hn.2
  have hz0:[]++lY (zz n)=aT n:=rfl
  generalize zz n=z at hzl hz0
  refine dK 1 (fun p:List UInt8 × Nat × Nat=>[(3,.c (nv p.2.2)),(4,.own 0 0 p.2.1 1 true)]) (fun p=>[(0,.row 5 (u8c p.1))]) [] (fun p=>p.1.length=p.2.1∧p.1++lY p.2.2=aT n∧p.2.2<18446744073709551616) (fun p=>p.2.2) ([],0,z) ⟨rfl,hz0,hzl⟩ fX ?_
  rintro ⟨l,m,x⟩ ⟨hl,he,hx⟩ K hK hX
  dsimp only at hl he hx hK ⊢
  have hul:(u8c l).length=m:=by rw [aL,hl]
  obtain ⟨hk1,hk2,hk3⟩:=yC hn he hl hk
  by_cases hlt:x<128
  ·repeat' (first|(refine aC ?_;intro K hK hX)|refine aA8 ?_|(refine aF hK hX ?_;clear hK hX K)|fail)
   rw [kB hlt] at he hk1
   have e1:m+1=k:=by simpa using hk1
   rw [e1,show u8c l++[[CV.v (.int .u8 (x:Int))]].flatten=u8c (aT n) from by rw [← he];exact qO l x hlt]
   exact aU
  ·repeat' (first|(refine aC ?_;intro K hK hX)|refine dA8 ?_|(refine aF hK hX ?_;clear hK hX K)|fail)
   rw [mB hlt] at he
   refine ⟨(l++[UInt8.ofNat (x%128+128)],m+1,x / 128),⟨by simp [hl],by simpa using he,by simp only;omega⟩,by simp only;omega,?_⟩
   exact dD2
theorem tA (ns:List Int) (k:Nat) (hk:ns.length=k) (hns:∀n∈ns,aV n) (m':Nat) (hm':(ns.flatMap aT).length=m') (hb:m'≤1000000):AC Tryz.prog 128 [.sl 1 k (cP .i64 ns)] (.own 0 0 m' 1 true) [(0,.row 5 (u8c (ns.flatMap aT)))] 1:=by
 have hkb:k≤1000000:=by
  have:=qQ (f:=aT) (fun a=>kF (zz a)) ns
  omega
 have hil:(cP .i64 ns).length=k:=by rw [eT,hk]
 have hmono:=sK (f:=aT) ns
 refine aG aB (sz:=20) Tryz.func128 rfl (by rw [Tryz.ntmps128];rfl) ?_
 repeat' (first|(refine aC ?_;intro K hK hX)|refine aA8 ?_|(refine aF hK hX ?_;clear hK hX K)|fail)
 refine dK 1 (fun p:Nat × List UInt8 × Nat=>[(0,.c (.sl 1 k (cP .i64 ns))),(3,.own 0 0 p.2.2 1 true),(4,.c (iv p.1))]) (fun p=>[(0,.row 5 (u8c p.2.1))]) [] (fun p=>p.1≤k∧p.2.1.length=p.2.2∧p.2.1=(ns.take p.1).flatMap aT) (fun p=>k-p.1) (0,[],0) ⟨by omega,rfl,by simp⟩ fX ?_
 rintro ⟨i,q,w⟩ ⟨hi,hql,hq⟩ K hK hX
 dsimp only at hi hql hq hK ⊢
 have hulq:=u8l hql
 by_cases hlt:i<k
 ·obtain ⟨n,hat⟩:∃n,ns[i]? = some n:=⟨_,List.getElem?_eq_getElem aA⟩
  have hn:=hns n (List.mem_of_getElem? hat)
  have hx:=cD2 hat
  have hst:q++aT n=(ns.take (i+1)).flatMap aT:=by rw [hq,jY hat]
  have hmo:=hmono (i+1)
  rw [← hst,List.length_append] at hmo
  obtain ⟨j,hj⟩:∃j,(aT n).length=j:=⟨_,rfl⟩
  have i1:=jE n hn j hj
  have hulj:=u8l hj
  repeat' (first|(refine aC ?_;intro K hK hX)|refine aI [0,2,3,4] ?_|(refine dV ?_;refine c1 i1 ?_)|refine eM ?_|refine stA ?_|(refine aF hK hX ?_;clear hK hX K)|fail)
  exact ⟨(i+1,q++aT n,w+j),⟨by omega,by rw [List.length_append,hql,hj],hst⟩,by simp only;omega,bW4⟩
 ·have hik:i=k:=by omega
  have hq':q=ns.flatMap aT:=by rw [hq,List.take_of_length_le aA]
  have hwm:w=m':=by rw [← hql,hq',hm']
  repeat' (first|(refine aC ?_;intro K hK hX)|refine aA8 ?_|(refine aF hK hX ?_;clear hK hX K)|fail)
  rw [← hq',← hwm]
  exact aU
theorem dP0 (a:Int) (ha:aV a) (m':Nat) (hm':(aT a).length=m') (hb:m'≤1000000):AC Tryz.prog 128 [.sl 1 1 [iv a]] (.own 0 0 m' 1 true) [(0,.row 5 (u8c (aT a)))] 1:=by
 have:=tA [a] 1 rfl (by simp;exact ha) m' oS hb
 simpa [cP] using this
theorem aZ0 (a b:Int) (ha:aV a) (hb':aV b) (m':Nat) (hm':(aT a++aT b).length=m') (hb:m'≤1000000):AC Tryz.prog 128 [.sl 1 2 [iv a,iv b]] (.own 0 0 m' 1 true) [(0,.row 5 (u8c (aT a++aT b)))] 1:=by
 have:=tA [a,b] 2 rfl (by simp;exact ⟨ha,hb'⟩) m' oS hb
 rw [show [a,b].flatMap aT=aT a++aT b by simp] at this
 exact this
theorem aZ1 (a b c:Int) (ha:aV a) (hb':aV b) (hc:aV c) (m':Nat) (hm':(aT a++(aT b++aT c)).length=m') (hb:m'≤1000000):AC Tryz.prog 128 [.sl 1 3 [iv a,iv b,iv c]] (.own 0 0 m' 1 true) [(0,.row 5 (u8c (aT a++(aT b++aT c))))] 1:=by
 have:=tA [a,b,c] 3 rfl (by simp;exact ⟨ha,hb',hc⟩) m' oS hb
 rw [show [a,b,c].flatMap aT=aT a++(aT b++aT c) by simp] at this
 exact this
theorem dP1 (a b c d:Int) (ha:aV a) (hb':aV b) (hc:aV c) (hd:aV d) (m':Nat) (hm':(aT a++(aT b++(aT c++aT d))).length=m') (hb:m'≤1000000):AC Tryz.prog 128 [.sl 1 4 [iv a,iv b,iv c,iv d]] (.own 0 0 m' 1 true) [(0,.row 5 (u8c (aT a++(aT b++(aT c++aT d)))))] 1:=by
 have:=tA [a,b,c,d] 4 rfl (by simp;exact ⟨ha,hb',hc,hd⟩) m' oS hb
 rw [show [a,b,c,d].flatMap aT=aT a++(aT b++(aT c++aT d)) by simp] at this
 exact this
theorem zC (s:List UInt8) (m':Nat) (hm':(mM s).length=m') (hb:m'≤1000000):AC Tryz.prog 219 [sv s] (.own 0 0 m' 1 true) [(0,.row 5 (u8c (mM s)))] 1:=by
 obtain ⟨q,hq⟩:∃q,s.length=q:=⟨_,rfl⟩
 obtain ⟨j,hj⟩:∃j,(aT (q:Int)).length=j:=⟨_,rfl⟩
 have e:mM s=aT (q:Int)++s:=by rw [mM,hq]
 have hjq:j+q=m':=by rw [← hm',e,List.length_append,hj,hq]
 have i1:=jE (q:Int) ⟨by omega,by omega⟩ j hj
 have hulj:=u8l hj
 rw [e]
 refine aG aB (sz:=8) Tryz.func219 rfl (by rw [Tryz.ntmps219];rfl) ?_
 repeat' (first|(refine aC ?_;intro K hK hX)|refine aI [0,2] ?_|((with_reducible refine uJ ?_);refine uW aB aE rfl rfl rfl rfl rfl rfl rfl rfl rfl rfl dE9 rfl (by first|with_reducible assumption|omega) lZ dF0 ?_)|(refine dV ?_;refine c1 i1 ?_)|(((with_reducible refine cA ?_);refine xA ?_);(first|((with_reducible refine aN7 ?_);(first|refine aK (aZ9 aB rfl rfl hq rfl) ?_))))|refine stA ?_|(refine aF hK hX ?_;clear hK hX K)|fail)
 rw [← bM,hjq]
 exact aU
theorem aR0 (v:Vl) (m':Nat) (hm':(kQ (clV v)).length=m') (hb:m'≤1000000):AC Tryz.prog 220 [.agg v.c] (.own 0 0 m' 1 true) [(0,.row 5 (u8c (kQ (clV v))))] 1:=by
 have hcl:=bP8 v
 have hok:=bG7 v
 generalize clV v=u at hcl hok hm' ⊢
 obtain ⟨k,n,t⟩:=u
 obtain ⟨k0,n0,t0⟩:=v
 rcases hok with ⟨h1,h2,h3⟩|⟨h1,h2,h2',h3⟩|⟨h1,h2,h3⟩<;>simp only at h1 h2 h3<;>subst h1
 ·obtain ⟨j,hj⟩:∃j,(aT 0).length=j:=⟨_,rfl⟩
  have hulj:=u8l hj
  have i1:=jE 0 ⟨by decide,by decide⟩ j hj
  have e:kQ ⟨0,n,t⟩=aT 0:=by simp [kQ]
  rw [e] at hm' ⊢
  have hjm:j=m':=by omega
  refine aG aB (sz:=26) Tryz.func220 rfl (by rw [Tryz.ntmps220];rfl) ?_
  repeat' (first|(refine aC ?_;intro K hK hX)|refine aI [0,1,2,3] ?_|(refine dV ?_;first|refine c0 hcl ?_|refine c1 i1 ?_)|refine stA ?_|(refine aF hK hX ?_;clear hK hX K)|fail)
  rw [hjm]
  exact aU
 ·obtain ⟨j,hj⟩:∃j,(aT 1).length=j:=⟨_,rfl⟩
  have hulj:=u8l hj
  have i1:=jE 1 ⟨by decide,by decide⟩ j hj
  have e:kQ ⟨1,n,t⟩=aT 1++aT n:=by simp [kQ]
  rw [e] at hm' ⊢
  obtain ⟨w,hw⟩:∃w,(aT n).length=w:=⟨_,rfl⟩
  have hulw:=u8l hw
  have i2:=jE n ⟨by omega,by simp only at h2';omega⟩ w hw
  have hjm:j+w=m':=by rw [← hm',List.length_append,hj,hw]
  refine aG aB (sz:=26) Tryz.func220 rfl (by rw [Tryz.ntmps220];rfl) ?_
  repeat' (first|(refine aC ?_;intro K hK hX)|refine dC7 ?_|(refine aF hK hX ?_;clear hK hX K)|fail)
  rw [← bM,hjm]
  exact aU
 ·obtain ⟨j,hj⟩:∃j,(aT 2).length=j:=⟨_,rfl⟩
  have hulj:=u8l hj
  have i1:=jE 2 ⟨by decide,by decide⟩ j hj
  have e:kQ ⟨2,n,t⟩=aT 2++mM t:=by simp [kQ]
  rw [e] at hm' ⊢
  obtain ⟨w,hw⟩:∃w,(mM t).length=w:=⟨_,rfl⟩
  have hulw:=u8l hw
  have hjm:j+w=m':=by rw [← hm',List.length_append,hj,hw]
  have i2:=zC t w hw aA
  refine aG aB (sz:=26) Tryz.func220 rfl (by rw [Tryz.ntmps220];rfl) ?_
  repeat' (first|(refine aC ?_;intro K hK hX)|refine dC7 ?_|(refine aF hK hX ?_;clear hK hX K)|fail)
  rw [← bM,hjm]
  exact aU
theorem qX (i:Idf) (m':Nat) (hm':(eJ i).length=m') (hb:m'≤1000000):AC Tryz.prog 165 [.agg i.cs] (.own 0 0 m' 1 true) [(0,.row 5 (u8c (eJ i)))] 1:=by
 obtain ⟨j,hj⟩:∃j,(mM i.ns).length=j:=⟨_,rfl⟩
 obtain ⟨w,hw⟩:∃w,(kQ (clV i.v)).length=w:=⟨_,rfl⟩
 have hjm:j+w=m':=by rw [← hm',eJ,List.length_append,hj,hw]
 have i1:=zC i.ns j hj aA
 have i2:=aR0 i.v w hw aA
 have hulj:=u8l hj
 have hulw:=u8l hw
 rw [eJ]
 obtain ⟨ns,k,n,t⟩:=i
 dsimp only [Idf.cs,Vl.c] at *
 refine aG aB (sz:=10) Tryz.func165 rfl (by rw [Tryz.ntmps165];rfl) ?_
 repeat' (first|(refine aC ?_;intro K hK hX)|refine eN [0,1,2] ?_|(refine gT ?_;first|refine c1 i1 ?_|refine c1 i2 ?_)|refine stA ?_|refine stE ?_|(refine aF hK hX ?_;clear hK hX K)|fail)
 rw [← bM,hjm]
 exact aU
end Go.Proofs.YtbgehdndimlgkaaGreat
