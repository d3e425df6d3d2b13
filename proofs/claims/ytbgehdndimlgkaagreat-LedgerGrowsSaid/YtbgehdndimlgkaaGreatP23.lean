/- Lemmas for laws of the ledger. -/
import Derived.Test.YtbgehdndimlgkaaGreatP17
import Derived.Test.YtbgehdndimlgkaaGreatP22
set_option linter.all false
set_option maxHeartbeats 16000000
namespace Go.Proofs.YtbgehdndimlgkaaGreat
open Go Go.RowKit Go.Av
set_option maxRecDepth 100000
section
attribute [local irreducible] Still Adds AWL AW Drw bY bW AC AWR cR Frz Go.Av.Src cQ Out InK ItK AsK RdK eL eF ACT ACA eT
attribute [local simp] bV bU bM
structure RR {α:Type} (f:RS->α × RS) (N:Nat) (s0:RS) (i:Nat) (l:List α) (s:RS):Prop where
 le:i<=N
 len:l.length=i
 eq:jQ f N s0=(l++(jQ f (N-i) s).1,(jQ f (N-i) s).2)
theorem RR.init {α:Type} (f:RS->α × RS) (N:Nat) (s0:RS):RR f N s0 0 [] s0:=⟨Al _,rfl,by rw [Br,Aw]⟩
section
variable {α:Type} {f:RS->α × RS} {N:Nat} {s0:RS} {i:Nat} {l:List α} {s:RS} (h:RR f N s0 i l s)
include α f N s0 i l s h
theorem RR.next (hi:i<N) (h0:s.e=0) {x:α} {s':RS} (hx:f s=(x,s')):RR f N s0 (i+1) (l++[x]) s':=by
 refine ⟨hi,by rw [Aa,h.len];rfl,?_⟩
 rw [h.eq,show N-i=(N-(i+1))+1 by omega,jQ,Ai (by rw [h0];simp),hx]
 simp
theorem RR.stop (he:i=N\/s.e≠0):jQ f N s0=(l,s):=by
 have:jQ f (N-i) s=([],s):=by
  cases hn:N-i with
  | zero=>rfl
  | succ k=>rw [jQ,Ak (he.resolve_left aA)]
 rw [h.eq,this,A1]
end
theorem uJ {α:Type} {f:RS->α × RS} (hf:∀s,(f s).2.b.length<=s.b.length):∀(n:Nat) (s:RS),(jQ f n s).2.b.length<=s.b.length/\(jQ f n s).1.length<=n
 | 0,s=>⟨Ah _,by simp [jQ]⟩
 | n+1,s=>by
  obtain ⟨h1,h2⟩:=uJ hf n (f s).2
  have h3:=hf s
  rw [jQ]
  split
  ·exact ⟨Ah _,by simp⟩
  ·exact ⟨At h1 h3,by simp only [As];omega⟩
theorem cE7 (b:Dr) (e:Int) (m:Nat) (hm:b.length=m) (hb:m<=1000000000):∃r s' n,bM6 rVr 512 ⟨b,e⟩=(r,s')/\r.length=n/\n<=512/\ARd 136 109 [] b e m (.sl 3 n (vrc r)) s':=by
 obtain ⟨n1,s1,q1,b1,e1,m1,rfl,a1,l1,d1,c1'⟩:=qQ 512 aN b e m hm hb
 have hbd:=sM 0 512 aN aN ⟨b,e⟩
 rw [q1] at hbd
 dsimp only at hbd
 obtain ⟨N,hN⟩:∃N:Nat,n1=(N:Int):=⟨n1.toNat,by omega⟩
 subst hN
 unfold bM6
 rw [q1]
 dsimp only
 rw [AX]
 have hfa:=uJ bV9 N ⟨b1,e1⟩
 obtain ⟨R,hR⟩:∃R,jQ rVr N ⟨b1,e1⟩=R:=⟨_,rfl⟩
 rw [hR] at hfa ⊢
 obtain ⟨hf1,hf2⟩:=hfa
 dsimp only at hf1
 rw [l1] at hf1
 refine ⟨R.1,R.2,_,rfl,rfl,by omega,?_⟩
 refine ⟨R.2.b,R.2.e,_,rfl,?_,rfl,by omega,by omega⟩
 refine bC aB (sz:=35) Tryz.func136 rfl (by rw [Tryz.ntmps136];rfl) ?_
 repeat' (first|(refine aC ?_;intro K hK hX)|refine cJ3 ?_|(refine aE hK hX ?_;clear hK hX K)|fail)
 refine lA 3 76 3 rfl ?_
 refine bF [3,5] [0,1] rfl rfl (fun p:Nat × List Ver × Dr × Int × Nat=>[(3,.own 1 0 p.1 3 true),(5,.c (iv p.1))]) (fun p=>[(1,.row 76 (vrc p.2.1)),(0,.blk 109 [.c (.sl 1 p.2.2.2.2 (u8c p.2.2.1)),.c (iv p.2.2.2.1)])]) (fun p=>RR rVr N ⟨b1,e1⟩ p.1 p.2.1 ⟨p.2.2.1,p.2.2.2.1⟩/\p.2.2.1.length=p.2.2.2.2/\p.2.2.2.2<=m1) (fun p=>N-p.1) (0,[],b1,e1,m1) ⟨RR.init _ _ _,l1,Ah _⟩ eS ?_
 rintro ⟨i,l,bc,ec,mc⟩ ⟨hrl,hbc,hmc⟩ K hK hX
 dsimp only at hrl hbc hmc hK ⊢
 have hil:=hrl.len
 have hiN:=hrl.le
 have hcl:(vrc l).length=i*3:=by rw [dE,hil]
 by_cases hlt:i<N
 ·by_cases he:ec=0
  ·subst he
   obtain ⟨x1,t1,p1,j1,y1,f1,g1,rfl,r1,z1,w1,v1⟩:=dK bc 0 mc hbc aA
   obtain ⟨x2,t2,p2,j2,y2,f2,g2,rfl,r2,z2,w2,v2⟩:=dK y1 f1 g1 z1 v1
   obtain ⟨x3,t3,p3,j3,y3,f3,g3,rfl,r3,z3,w3,v3⟩:=dK y2 f2 g2 z2 v2
   have q2:rVr ⟨bc,0⟩=(⟨x1,x3,x2⟩,⟨y3,f3⟩):=by simp only [rVr,p1,p2,p3]
   have hnx:=hrl.next hlt rfl q2
   have hsn:=bI5 l ⟨x1,x3,x2⟩
   dsimp only at hsn
   repeat' (first|(refine aC ?_;intro K hK hX)|refine aL [0,2,3,4,5,6] ?_|((with_reducible refine aF ?_);refine aK (r1) aG rfl zby rfl rfl rfl rfl zcv rfl ztp ?_)|((with_reducible refine aF ?_);refine aK (r2) aG rfl zby rfl rfl rfl rfl zcv rfl ztp ?_)|((with_reducible refine aF ?_);refine aK (r3) aG rfl zby rfl rfl rfl rfl zcv rfl ztp ?_)|refine stA ?_|(refine aE hK hX ?_;clear hK hX K)|fail)
   exact ⟨(i+1,l++[⟨x1,x3,x2⟩],y3,f3,g3),⟨hnx,z3,by simp only;omega⟩,by simp only;omega,bS2⟩
  ·have hres:=hrl.stop (.inr he)
   rw [hR] at hres
   repeat' (first|(refine aC ?_;intro K hK hX)|refine aC2 ?_|(refine aE hK hX ?_;clear hK hX K)|fail)
   rw [hres]
   dsimp only
   rw [hbc,hil]
   exact dX
 ·have hin:i=N:=by omega
  have hres:=hrl.stop (.inl hin)
  rw [hR] at hres
  repeat' (first|(refine aC ?_;intro K hK hX)|refine aC2 ?_|(refine aE hK hX ?_;clear hK hX K)|fail)
  rw [hres]
  dsimp only
  rw [hbc,hil]
  exact dX
theorem cE6 (b:Dr) (e:Int) (m:Nat) (hm:b.length=m) (hb:m<=1000000000):∃r s' n,bM6 rSr 512 ⟨b,e⟩=(r,s')/\r.length=n/\n<=512/\ARd 137 109 [] b e m (.sl 2 n (src r)) s':=by
 obtain ⟨n1,s1,q1,b1,e1,m1,rfl,a1,l1,d1,c1'⟩:=qQ 512 aN b e m hm hb
 have hbd:=sM 0 512 aN aN ⟨b,e⟩
 rw [q1] at hbd
 dsimp only at hbd
 obtain ⟨N,hN⟩:∃N:Nat,n1=(N:Int):=⟨n1.toNat,by omega⟩
 subst hN
 unfold bM6
 rw [q1]
 dsimp only
 rw [AX]
 have hfa:=uJ bV8 N ⟨b1,e1⟩
 obtain ⟨R,hR⟩:∃R,jQ rSr N ⟨b1,e1⟩=R:=⟨_,rfl⟩
 rw [hR] at hfa ⊢
 obtain ⟨hf1,hf2⟩:=hfa
 dsimp only at hf1
 rw [l1] at hf1
 refine ⟨R.1,R.2,_,rfl,rfl,by omega,?_⟩
 refine ⟨R.2.b,R.2.e,_,rfl,?_,rfl,by omega,by omega⟩
 refine bC aB (sz:=32) Tryz.func137 rfl (by rw [Tryz.ntmps137];rfl) ?_
 repeat' (first|(refine aC ?_;intro K hK hX)|refine cJ3 ?_|(refine aE hK hX ?_;clear hK hX K)|fail)
 refine lA 3 72 2 rfl ?_
 refine bF [3,5] [0,1] rfl rfl (fun p:Nat × List Src × Dr × Int × Nat=>[(3,.own 1 0 p.1 2 true),(5,.c (iv p.1))]) (fun p=>[(1,.row 72 (src p.2.1)),(0,.blk 109 [.c (.sl 1 p.2.2.2.2 (u8c p.2.2.1)),.c (iv p.2.2.2.1)])]) (fun p=>RR rSr N ⟨b1,e1⟩ p.1 p.2.1 ⟨p.2.2.1,p.2.2.2.1⟩/\p.2.2.1.length=p.2.2.2.2/\p.2.2.2.2<=m1) (fun p=>N-p.1) (0,[],b1,e1,m1) ⟨RR.init _ _ _,l1,Ah _⟩ eS ?_
 rintro ⟨i,l,bc,ec,mc⟩ ⟨hrl,hbc,hmc⟩ K hK hX
 dsimp only at hrl hbc hmc hK ⊢
 have hil:=hrl.len
 have hiN:=hrl.le
 have hcl:(src l).length=i*2:=by rw [dI,hil]
 by_cases hlt:i<N
 ·by_cases he:ec=0
  ·subst he
   obtain ⟨x1,t1,p1,j1,y1,f1,g1,rfl,r1,z1,w1,v1⟩:=dK bc 0 mc hbc aA
   obtain ⟨x2,t2,p2,j2,y2,f2,g2,rfl,r2,z2,w2,v2⟩:=dK y1 f1 g1 z1 v1
   have q2:rSr ⟨bc,0⟩=(⟨x1,x2⟩,⟨y2,f2⟩):=by simp only [rSr,p1,p2]
   have hnx:=hrl.next hlt rfl q2
   have hsn:=bH8 l ⟨x1,x2⟩
   dsimp only at hsn
   repeat' (first|(refine aC ?_;intro K hK hX)|refine aL [0,2,3,4,5,6] ?_|((with_reducible refine aF ?_);refine aK (r1) aG rfl zby rfl rfl rfl rfl zcv rfl ztp ?_)|((with_reducible refine aF ?_);refine aK (r2) aG rfl zby rfl rfl rfl rfl zcv rfl ztp ?_)|refine stA ?_|(refine aE hK hX ?_;clear hK hX K)|fail)
   exact ⟨(i+1,l++[⟨x1,x2⟩],y2,f2,g2),⟨hnx,z2,by simp only;omega⟩,by simp only;omega,bS2⟩
  ·have hres:=hrl.stop (.inr he)
   rw [hR] at hres
   repeat' (first|(refine aC ?_;intro K hK hX)|refine aC2 ?_|(refine aE hK hX ?_;clear hK hX K)|fail)
   rw [hres]
   dsimp only
   rw [hbc,hil]
   exact dX
 ·have hin:i=N:=by omega
  have hres:=hrl.stop (.inl hin)
  rw [hR] at hres
  repeat' (first|(refine aC ?_;intro K hK hX)|refine aC2 ?_|(refine aE hK hX ?_;clear hK hX K)|fail)
  rw [hres]
  dsimp only
  rw [hbc,hil]
  exact dX
theorem dB5 (l:Dr) (i:Nat) (hl:l.length=32) (hi:i<32):(u8c (l.take i++List.replicate (32-i) 0)).set (0+i*1) (.v (.int .u8 ((l.getD i 0).toNat:Int)))=u8c (l.take (i+1)++List.replicate (32-(i+1)) 0):=by
 rw [Ap,A9]
 have e:List.replicate (32-i) (0:UInt8)=0::List.replicate (32-(i+1)) 0:=by rw [show 32-i=(32-(i+1))+1 by omega,C9]
 have h1:(l.take i).length=i:=by rw [Ar];omega
 rw [e,bM,BM _ _ (by rw [aH,h1];exact Ah _),aH,h1,BX]
 have h2:l.take (i+1)=l.take i++[l.getD i 0]:=by
  rw [BD,Ab aA]
  simp [List.getD,Ab (show i<l.length by omega)]
 rw [h2,Ao,bM]
 rfl
attribute [local simp] vT aH
theorem bF1 (b : Dr) (e : Int) (m : Nat) (hm : b.length = m) (hb : m <= 1000000000) : ∃ r s', rDg ⟨b, e⟩ = (r, s') /\ r.length = 32 /\ ARd 124 109 [] b e m (.agg (u8c r)) s' := by
  obtain ⟨l, k, s2, q2, hk, hkm, b2, e2, m2, rfl, a2, l2, d2, c2'⟩ := xU 32 ⟨by decide, by decide⟩ b e m hm hb
  have huk := u8l hk
  have hk32 : l = [] \/ l.length = 32 := by
    have h := congrArg Prod.fst q2
    unfold rBy at h
    dsimp only at h
    split at h
    · exact .inl h.symm
    · split at h
      · exact .inl h.symm
      · right
        simp only at h
        rw [<- h, Ar]
        simp only [Int.toNat] at *
        omega
  unfold rDg
  rw [show (32 : Nat) = (32 : Int).toNat from rfl, q2]
  dsimp only
  rcases hk32 with h0 | h0
  · subst h0
    rw [Ak rfl]
    simp only [Bq] at hk
    subst hk
    refine ⟨root0, _, rfl, by simp [root0], b2, e2, m2, rfl, ?_, l2, d2, c2'⟩
    refine bC aB (sz := 21) Tryz.func124 rfl (by rw [Tryz.ntmps124]; rfl) ?_
    repeat' (first | (refine aC ?_; intro K hK hX) | refine aL [0, 2, 3, 4, 5] ?_ | ((with_reducible refine vR ?_); refine sV 2 ?_) | (refine bQ1 ?_; intro K hK hX) | ((with_reducible refine aF ?_); refine aK (a2) aG rfl zby rfl rfl rfl rfl zcv rfl ztp ?_) | refine stA ?_ | (refine aE hK hX ?_; clear hK hX K) | fail)
    exact fS
  · rw [Ai (fun h => by rw [h] at h0; cases h0)]
    rw [h0] at hk
    subst hk
    refine ⟨l, _, rfl, h0, b2, e2, m2, rfl, ?_, l2, d2, c2'⟩
    refine bC aB (sz := 21) Tryz.func124 rfl (by rw [Tryz.ntmps124]; rfl) ?_
    repeat' (first | (refine aC ?_; intro K hK hX) | refine aL [0, 2, 3, 4, 5] ?_ | ((with_reducible refine aF ?_); refine aK (a2) aG rfl zby rfl rfl rfl rfl zcv rfl ztp ?_) | refine stA ?_ | (refine aE hK hX ?_; clear hK hX K) | fail)
    refine bF [5] [2] rfl rfl (fun i : Nat => [(5, .c (iv i))]) (fun i => [(2, .row 28 (u8c (l.take i ++ List.replicate (32 - i) 0)))]) (fun i => i <= 32) (fun i => 32 - i) 0 aA eS ?_
    intro i hi K hK hX
    have hlen : (u8c (l.take i ++ List.replicate (32 - i) 0)).length = 32 := by rw [aH, Aa, Ar, CJ]; omega
    by_cases hlt : i < 32
    · have hx : (u8c l)[i]? = some (.v (.int .u8 ((l.getD i 0).toNat : Int))) := by
        rw [List.getD_eq_getElem?_getD]
        simp [u8c, Ab (show i < l.length by omega)]
      have hfit : 0 + i * 1 < (u8c (l.take i ++ List.replicate (32 - i) 0)).length := by omega
      repeat' (first | (refine aC ?_; intro K hK hX) | refine aL [0, 2, 3, 4, 5] ?_ | refine eW ?_ | ((with_reducible refine fT ?_); (refine eO aB aG rfl rfl rfl rfl rfl rfl dX9 ?_)) | refine stA ?_ | (refine aE hK hX ?_; clear hK hX K) | fail)
      exact ⟨i + 1, by omega, by omega, (by refine dF rfl ?_ ?_ rfl <;> (repeat' (first | exact cE | exact cG | refine bS rfl dY2 rfl ?_ | refine aZ rfl dY2 rfl ?_)))⟩
    · have hin : i = 32 := by omega
      repeat' (first | (refine aC ?_; intro K hK hX) | refine tT ?_ | (refine aE hK hX ?_; clear hK hX K) | fail)
      have hfin : u8c (l.take i ++ List.replicate (32 - i) 0) = u8c l := by rw [hin, Ae aA]; simp
      have hcv : Cv (.agg (u8c (l.take i ++ List.replicate (32 - i) 0))) (.agg (u8c l)) := rE (by rw [hfin])
      exact dZ5
end
section
attribute [local irreducible] Still Adds AWL AW Drw bY bW AC AWR cR Frz Go.Av.Src cQ Out InK ItK AsK RdK eL eF ACT ACA eT
attribute [local simp] bV bU bM
theorem aH2 (b:Dr) (e:Int) (m:Nat) (hm:b.length=m) (hb:m<=1000000000):∃r s' nv ns,rEn rpR ⟨b,e⟩=(r,s')/\r.vs.length=nv/\r.ss.length=ns/\r.root.length=32/\ARd 67 109 [] b e m (.agg (ecs r nv ns)) s':=by
 obtain ⟨n1,s1,q1,i1,b1,e1,m1,rfl,a1,l1,d1,c1'⟩:=dK b e m hm hb
 have hz:e1≠0->n1=0:=fun h=>by have:=pJ (s:=⟨b,e⟩) (by rw [q1];exact h);rwa [q1] at this
 by_cases hbad:(n1<1\/7<n1)/\e1=0
 ·obtain ⟨hbd,rfl⟩:=hbad
  have hki:cD5 ⟨b,e⟩=(n1,⟨b1,1⟩):=by unfold cD5;rw [q1];dsimp only;rw [Ak hbd,Ak rfl]
  obtain ⟨n2,s2,q2,i2,b2,e2,m2,rfl,a2,l2,d2,c2'⟩:=dK b1 1 m1 l1 c1'
  obtain ⟨n3,s3,q3,i3,b3,e3,m3,rfl,a3,l3,d3,c3'⟩:=dK b2 e2 m2 l2 c2'
  obtain ⟨n4,s4,q4,i4,b4,e4,m4,rfl,a4,l4,d4,c4'⟩:=dK b3 e3 m3 l3 c3'
  have hEn:rEn rpR ⟨b,e⟩=nQ rpR n1 n2 n3 n4 ⟨b4,e4⟩:=by simp only [rEn,rpR,hki,q2,q3,q4]
  rw [hEn]
  clear hEn
  unfold nQ
  rw [Ai aA,Ai aA,Ai aA,Ai aA,Ai aA]
  refine ⟨⟨n1,n2,n3,n4,rq0,lk0,hd0,[],[],root0⟩,⟨b4,e4⟩,0,0,rfl,rfl,rfl,rfl,b4,e4,m4,rfl,?_,l4,by omega,c4'⟩
  dsimp only [ecs,lk0,hd0,iT,rq0,Vl.nul,Vl.c,Idf.cs,LRq.cs,LLk.cs,LHd.cs] at *
  by_cases h1:n1<1
  ·refine bC aB (sz:=57) Tryz.func67 rfl oI ?_
   repeat' (first|(refine aC ?_;intro K hK hX)|refine aL [0,1,2,3,4,27] ?_|((with_reducible refine aW ?_);refine yA ?_;refine bE (aU aB rfl rfl rfl) rfl ?_)|((with_reducible refine aF ?_);refine aK (a1) aG rfl zby rfl rfl rfl rfl zcv rfl ztp ?_)|((with_reducible refine aF ?_);refine aK (a2) aG rfl zby rfl rfl rfl rfl zcv rfl ztp ?_)|((with_reducible refine aF ?_);refine aK (a3) aG rfl zby rfl rfl rfl rfl zcv rfl ztp ?_)|((with_reducible refine aF ?_);refine aK (a4) aG rfl zby rfl rfl rfl rfl zcv rfl ztp ?_)|((first|with_reducible refine aF ?_|with_reducible refine bD ?_);refine cA aB (List.range 57) aG rfl rfl zby Tryz.func134 rfl rfl rfl (szf:=13) gR rfl ?_)|refine stA ?_|(refine aE hK hX ?_;clear hK hX K)|fail|(first|refine bO zio ztr rfl rfl ResL.none ?_|refine bN zio ztr rfl rfl ResL.none ?_))
   exact fS
  ·refine bC aB (sz:=57) Tryz.func67 rfl oI ?_
   repeat' (first|(refine aC ?_;intro K hK hX)|refine aL [0,1,2,3,4,27] ?_|((with_reducible refine aW ?_);refine yA ?_;refine bE (aU aB rfl rfl rfl) rfl ?_)|((with_reducible refine aF ?_);refine aK (a1) aG rfl zby rfl rfl rfl rfl zcv rfl ztp ?_)|((with_reducible refine aF ?_);refine aK (a2) aG rfl zby rfl rfl rfl rfl zcv rfl ztp ?_)|((with_reducible refine aF ?_);refine aK (a3) aG rfl zby rfl rfl rfl rfl zcv rfl ztp ?_)|((with_reducible refine aF ?_);refine aK (a4) aG rfl zby rfl rfl rfl rfl zcv rfl ztp ?_)|((first|with_reducible refine aF ?_|with_reducible refine bD ?_);refine cA aB (List.range 57) aG rfl rfl zby Tryz.func134 rfl rfl rfl (szf:=13) gR rfl ?_)|refine stA ?_|(refine aE hK hX ?_;clear hK hX K)|fail|(first|refine bO zio ztr rfl rfl ResL.none ?_|refine bN zio ztr rfl rfl ResL.none ?_))
   exact fS
 have hki:cD5 ⟨b,e⟩=(n1,⟨b1,if (n1<1\/7<n1)/\e1=0 then 1 else e1⟩):=by
  unfold cD5;rw [q1];dsimp only
  rw [Ai hbad]
  split
  ·rename_i h
   rw [Ai (fun he=>hbad ⟨h,he⟩)]
  ·rfl
 rw [Ai hbad] at hki
 obtain ⟨n2,s2,q2,i2,b2,e2,m2,rfl,a2,l2,d2,c2'⟩:=dK b1 e1 m1 l1 c1'
 obtain ⟨n3,s3,q3,i3,b3,e3,m3,rfl,a3,l3,d3,c3'⟩:=dK b2 e2 m2 l2 c2'
 obtain ⟨n4,s4,q4,i4,b4,e4,m4,rfl,a4,l4,d4,c4'⟩:=dK b3 e3 m3 l3 c3'
 have hEn:rEn rpR ⟨b,e⟩=nQ rpR n1 n2 n3 n4 ⟨b4,e4⟩:=by simp only [rEn,rpR,hki,q2,q3,q4]
 rw [hEn]
 clear hEn hki
 unfold nQ
 by_cases k1:n1=1
 ·subst k1
  rw [Ak rfl]
  obtain ⟨x5,s5,q5,b5,e5,m5,rfl,a5,l5,d5,c5'⟩:=cX7 b4 e4 m4 l4 c4'
  refine ⟨⟨1,n2,n3,n4,x5,lk0,hd0,[],[],root0⟩,⟨b5,e5⟩,0,0,by simp only [rpR,q5],rfl,rfl,rfl,b5,e5,m5,rfl,?_,l5,by omega,c5'⟩
  obtain ⟨xk,⟨xn,⟨xvk,xvn,xvt⟩⟩,xs,xd,xdl⟩:=x5
  dsimp only [ecs,lk0,hd0,iT,rq0,Vl.nul,Vl.c,Idf.cs,LRq.cs,LLk.cs,LHd.cs] at *
  refine bC aB (sz:=57) Tryz.func67 rfl oI ?_
  repeat' (first|(refine aC ?_;intro K hK hX)|refine cK4 ?_|(refine aE hK hX ?_;clear hK hX K)|fail)
  exact fS
 rw [Ai k1]
 by_cases k2:n1=2
 ·subst k2
  rw [Ak rfl]
  obtain ⟨x5,s5,nv,q5,hnv,hnv',b5,e5,m5,rfl,a5,l5,d5,c5'⟩:=cE7 b4 e4 m4 l4 c4'
  obtain ⟨x6,s6,ns,q6,hns,hns',b6,e6,m6,rfl,a6,l6,d6,c6'⟩:=cE6 b5 e5 m5 l5 c5'
  refine ⟨⟨2,n2,n3,n4,rq0,lk0,hd0,x5,x6,root0⟩,⟨b6,e6⟩,nv,ns,by simp only [rpR,q5,q6],hnv,hns,rfl,b6,e6,m6,rfl,?_,l6,by omega,c6'⟩
  dsimp only [ecs,lk0,hd0,iT,rq0,Vl.nul,Vl.c,Idf.cs,LRq.cs,LLk.cs,LHd.cs] at *
  refine bC aB (sz:=57) Tryz.func67 rfl oI ?_
  repeat' (first|(refine aC ?_;intro K hK hX)|refine aL [0,2,3,4,27] ?_|((with_reducible refine aW ?_);refine yA ?_;refine bE (aU aB rfl rfl rfl) rfl ?_)|((with_reducible refine aF ?_);refine aK (a1) aG rfl zby rfl rfl rfl rfl zcv rfl ztp ?_)|((with_reducible refine aF ?_);refine aK (a2) aG rfl zby rfl rfl rfl rfl zcv rfl ztp ?_)|((with_reducible refine aF ?_);refine aK (a3) aG rfl zby rfl rfl rfl rfl zcv rfl ztp ?_)|((with_reducible refine aF ?_);refine aK (a4) aG rfl zby rfl rfl rfl rfl zcv rfl ztp ?_)|((with_reducible refine aF ?_);refine aK (a5) aG rfl zby rfl rfl rfl rfl zcv rfl ztp ?_)|((with_reducible refine aF ?_);refine aK (a6) aG rfl zby rfl rfl rfl rfl zcv rfl ztp ?_)|refine stA ?_|(refine aE hK hX ?_;clear hK hX K)|fail)
  exact fS
 rw [Ai k2]
 by_cases k4:n1=4
 ·subst k4
  rw [Ak rfl]
  obtain ⟨x5,s5,q5,h32,b5,e5,m5,rfl,a5,l5,d5,c5'⟩:=bF1 b4 e4 m4 l4 c4'
  refine ⟨⟨4,n2,n3,n4,rq0,lk0,hd0,[],[],x5⟩,⟨b5,e5⟩,0,0,by simp only [rpR,q5],rfl,rfl,h32,b5,e5,m5,rfl,?_,l5,by omega,c5'⟩
  have hux:=u8l h32
  have hwh:((lay (iv 4::iv n2::iv n3::iv n4::iv 0::sv []::iv 0::iv 0::sv []::iv 0::iv 0::iv 0::sv []::iv 0::iv 0::sv []::sv []::iv 0::iv 0::sv []::iv 0::bv false::iv 0::iv 0::sv []::iv 0::iv 0::sv []::iv 0::iv 0::iv 0 :: .v (.slice none 0 0) :: .v (.slice none 0 0)::u8c root0) (0+33) (u8c x5)).drop 0).take 65=iv 4::iv n2::iv n3::iv n4::iv 0::sv []::iv 0::iv 0::sv []::iv 0::iv 0::iv 0::sv []::iv 0::iv 0::sv []::sv []::iv 0::iv 0::sv []::iv 0::bv false::iv 0::iv 0::sv []::iv 0::iv 0::sv []::iv 0::iv 0::iv 0 :: .v (.slice none 0 0) :: .v (.slice none 0 0)::u8c x5:=by
   have h1:lay (iv 4::iv n2::iv n3::iv n4::iv 0::sv []::iv 0::iv 0::sv []::iv 0::iv 0::iv 0::sv []::iv 0::iv 0::sv []::sv []::iv 0::iv 0::sv []::iv 0::bv false::iv 0::iv 0::sv []::iv 0::iv 0::sv []::iv 0::iv 0::iv 0 :: .v (.slice none 0 0) :: .v (.slice none 0 0)::u8c root0) (0+33) (u8c x5)=iv 4::iv n2::iv n3::iv n4::iv 0::sv []::iv 0::iv 0::sv []::iv 0::iv 0::iv 0::sv []::iv 0::iv 0::sv []::sv []::iv 0::iv 0::sv []::iv 0::bv false::iv 0::iv 0::sv []::iv 0::iv 0::sv []::iv 0::iv 0::iv 0 :: .v (.slice none 0 0) :: .v (.slice none 0 0)::u8c x5:=aG5 (a:=[iv 4,iv n2,iv n3,iv n4,iv 0,sv [],iv 0,iv 0,sv [],iv 0,iv 0,iv 0,sv [],iv 0,iv 0,sv [],sv [],iv 0,iv 0,sv [],iv 0,bv false,iv 0,iv 0,sv [],iv 0,iv 0,sv [],iv 0,iv 0,iv 0,.v (.slice none 0 0),.v (.slice none 0 0)]) (z:=u8c root0) (y:=u8c x5) rfl (by rw [hux];rfl)
   rw [h1,AN,Ae (by simp only [As,hux];omega)]
  have hwl:(iv 4::iv n2::iv n3::iv n4::iv 0::sv []::iv 0::iv 0::sv []::iv 0::iv 0::iv 0::sv []::iv 0::iv 0::sv []::sv []::iv 0::iv 0::sv []::iv 0::bv false::iv 0::iv 0::sv []::iv 0::iv 0::sv []::iv 0::iv 0::iv 0 :: .v (.slice none 0 0) :: .v (.slice none 0 0)::u8c x5).length=65:=by simp only [As,hux]
  have hcvl:CvL (iv 4::iv n2::iv n3::iv n4::iv 0::sv []::iv 0::iv 0::sv []::iv 0::iv 0::iv 0::sv []::iv 0::iv 0::sv []::sv []::iv 0::iv 0::sv []::iv 0::bv false::iv 0::iv 0::sv []::iv 0::iv 0::sv []::iv 0::iv 0::iv 0 :: .v (.slice none 0 0) :: .v (.slice none 0 0)::u8c x5) (ecs ⟨4,n2,n3,n4,rq0,lk0,hd0,[],[],x5⟩ 0 0):=by
   dsimp only [ecs,lk0,hd0,iT,rq0,Vl.nul]
   repeat' (first|exact cV|exact hQ|exact gB|(refine eX ?_ ?_)|exact sX)
  dsimp only [ecs,lk0,hd0,iT,rq0,Vl.nul,Vl.c,Idf.cs,LRq.cs,LLk.cs,LHd.cs] at *
  refine bC aB (sz:=57) Tryz.func67 rfl oI ?_
  repeat' (first|(refine aC ?_;intro K hK hX)|refine aL [0,2,3,4,27] ?_|((with_reducible refine aW ?_);refine yA ?_;refine bE (aU aB rfl rfl rfl) rfl ?_)|((with_reducible refine aF ?_);refine aK (a1) aG rfl zby rfl rfl rfl rfl zcv rfl ztp ?_)|((with_reducible refine aF ?_);refine aK (a2) aG rfl zby rfl rfl rfl rfl zcv rfl ztp ?_)|((with_reducible refine aF ?_);refine aK (a3) aG rfl zby rfl rfl rfl rfl zcv rfl ztp ?_)|((with_reducible refine aF ?_);refine aK (a4) aG rfl zby rfl rfl rfl rfl zcv rfl ztp ?_)|((with_reducible refine aF ?_);refine aK (a5) aG rfl zby rfl rfl rfl rfl zcv rfl ztp ?_)|refine jR ?_|refine stA ?_|(refine aE hK hX ?_;clear hK hX K)|fail)
  exact dZ6
 rw [Ai k4]
 by_cases k6:n1=6
 ·subst k6
  rw [Ak rfl]
  obtain ⟨x5,s5,q5,b5,e5,m5,rfl,a5,l5,d5,c5'⟩:=cE4 b4 e4 m4 l4 c4'
  refine ⟨⟨6,n2,n3,n4,rq0,x5,hd0,[],[],root0⟩,⟨b5,e5⟩,0,0,by simp only [rpR,q5],rfl,rfl,rfl,b5,e5,m5,rfl,?_,l5,by omega,c5'⟩
  obtain ⟨⟨xn,⟨xvk,xvn,xvt⟩⟩,⟨yn,⟨yvk,yvn,yvt⟩⟩,xs,xr⟩:=x5
  dsimp only [ecs,lk0,hd0,iT,rq0,Vl.nul,Vl.c,Idf.cs,LRq.cs,LLk.cs,LHd.cs] at *
  refine bC aB (sz:=57) Tryz.func67 rfl oI ?_
  repeat' (first|(refine aC ?_;intro K hK hX)|refine cK4 ?_|(refine aE hK hX ?_;clear hK hX K)|fail)
  exact fS
 rw [Ai k6]
 by_cases k7:n1=7
 ·subst k7
  rw [Ak rfl]
  obtain ⟨x5,s5,q5,b5,e5,m5,rfl,a5,l5,d5,c5'⟩:=cE3 b4 e4 m4 l4 c4'
  refine ⟨⟨7,n2,n3,n4,rq0,lk0,x5,[],[],root0⟩,⟨b5,e5⟩,0,0,by simp only [rpR,q5],rfl,rfl,rfl,b5,e5,m5,rfl,?_,l5,by omega,c5'⟩
  obtain ⟨xt,xc,⟨xn,⟨xvk,xvn,xvt⟩⟩,xs,xf,xo⟩:=x5
  dsimp only [ecs,lk0,hd0,iT,rq0,Vl.nul,Vl.c,Idf.cs,LRq.cs,LLk.cs,LHd.cs] at *
  refine bC aB (sz:=57) Tryz.func67 rfl oI ?_
  repeat' (first|(refine aC ?_;intro K hK hX)|refine cK4 ?_|(refine aE hK hX ?_;clear hK hX K)|fail)
  exact fS
 rw [Ai k7]
 refine ⟨⟨n1,n2,n3,n4,rq0,lk0,hd0,[],[],root0⟩,⟨b4,e4⟩,0,0,rfl,rfl,rfl,rfl,b4,e4,m4,rfl,?_,l4,by omega,c4'⟩
 have h3:n1=3\/n1=5\/(n1=0/\e1≠0):=by
  by_cases he:e1=0
  ·have:¬(n1<1\/7<n1):=fun h=>hbad ⟨h,he⟩
   omega
  ·exact .inr (.inr ⟨hz he,he⟩)
 rcases h3 with h3|h3|⟨h3,he⟩<;>subst h3
 ·skip
  dsimp only [ecs,lk0,hd0,iT,rq0,Vl.nul,Vl.c,Idf.cs,LRq.cs,LLk.cs,LHd.cs] at *
  refine bC aB (sz:=57) Tryz.func67 rfl oI ?_
  repeat' (first|(refine aC ?_;intro K hK hX)|refine aL [0,1,2,3,4,27] ?_|((with_reducible refine aW ?_);refine yA ?_;refine bE (aU aB rfl rfl rfl) rfl ?_)|((with_reducible refine aF ?_);refine aK (a1) aG rfl zby rfl rfl rfl rfl zcv rfl ztp ?_)|((with_reducible refine aF ?_);refine aK (a2) aG rfl zby rfl rfl rfl rfl zcv rfl ztp ?_)|((with_reducible refine aF ?_);refine aK (a3) aG rfl zby rfl rfl rfl rfl zcv rfl ztp ?_)|((with_reducible refine aF ?_);refine aK (a4) aG rfl zby rfl rfl rfl rfl zcv rfl ztp ?_)|((first|with_reducible refine aF ?_|with_reducible refine bD ?_);refine cA aB (List.range 57) aG rfl rfl zby Tryz.func134 rfl rfl rfl (szf:=13) gR rfl ?_)|refine stA ?_|(refine aE hK hX ?_;clear hK hX K)|fail|(first|refine bO zio ztr rfl rfl ResL.none ?_|refine bN zio ztr rfl rfl ResL.none ?_))
  exact fS
 ·skip
  dsimp only [ecs,lk0,hd0,iT,rq0,Vl.nul,Vl.c,Idf.cs,LRq.cs,LLk.cs,LHd.cs] at *
  refine bC aB (sz:=57) Tryz.func67 rfl oI ?_
  repeat' (first|(refine aC ?_;intro K hK hX)|refine aL [0,1,2,3,4,27] ?_|((with_reducible refine aW ?_);refine yA ?_;refine bE (aU aB rfl rfl rfl) rfl ?_)|((with_reducible refine aF ?_);refine aK (a1) aG rfl zby rfl rfl rfl rfl zcv rfl ztp ?_)|((with_reducible refine aF ?_);refine aK (a2) aG rfl zby rfl rfl rfl rfl zcv rfl ztp ?_)|((with_reducible refine aF ?_);refine aK (a3) aG rfl zby rfl rfl rfl rfl zcv rfl ztp ?_)|((with_reducible refine aF ?_);refine aK (a4) aG rfl zby rfl rfl rfl rfl zcv rfl ztp ?_)|((first|with_reducible refine aF ?_|with_reducible refine bD ?_);refine cA aB (List.range 57) aG rfl rfl zby Tryz.func134 rfl rfl rfl (szf:=13) gR rfl ?_)|refine stA ?_|(refine aE hK hX ?_;clear hK hX K)|fail|(first|refine bO zio ztr rfl rfl ResL.none ?_|refine bN zio ztr rfl rfl ResL.none ?_))
  exact fS
 ·skip
  dsimp only [ecs,lk0,hd0,iT,rq0,Vl.nul,Vl.c,Idf.cs,LRq.cs,LLk.cs,LHd.cs] at *
  refine bC aB (sz:=57) Tryz.func67 rfl oI ?_
  repeat' (first|(refine aC ?_;intro K hK hX)|refine aL [0,1,2,3,4,27] ?_|((with_reducible refine aW ?_);refine yA ?_;refine bE (aU aB rfl rfl rfl) rfl ?_)|((with_reducible refine aF ?_);refine aK (a1) aG rfl zby rfl rfl rfl rfl zcv rfl ztp ?_)|((with_reducible refine aF ?_);refine aK (a2) aG rfl zby rfl rfl rfl rfl zcv rfl ztp ?_)|((with_reducible refine aF ?_);refine aK (a3) aG rfl zby rfl rfl rfl rfl zcv rfl ztp ?_)|((with_reducible refine aF ?_);refine aK (a4) aG rfl zby rfl rfl rfl rfl zcv rfl ztp ?_)|((first|with_reducible refine aF ?_|with_reducible refine bD ?_);refine cA aB (List.range 57) aG rfl rfl zby Tryz.func134 rfl rfl rfl (szf:=13) gR rfl ?_)|refine stA ?_|(refine aE hK hX ?_;clear hK hX K)|fail|(first|refine bO zio ztr rfl rfl ResL.none ?_|refine bN zio ztr rfl rfl ResL.none ?_))
  exact fS
end
section
attribute [local irreducible] Still Adds AWL AW Drw bY bW AC AWR cR Frz Go.Av.Src cQ Out InK ItK AsK RdK eL eF ACT ACA eT
attribute [local simp] bV bU bM
theorem aF1 {l:Dr} {m x k:Nat} {n:Int} (hn:aS n) (h:l++mH x=bA n) (hl:l.length=m) (hk:(bA n).length=k):m+(mH x).length=k/\k<=10/\0<(mH x).length:=by
 have h1:=cR6 hn
 have h2:=lR x
 rw [<- h,Aa] at hk h1
 omega
theorem jO (n:Int) (hn:aS n) (k:Nat) (hk:(bA n).length=k):qC' 126 [iv n] (.own 0 0 k 1 true) [(0,.row 5 (u8c (bA n)))] 1:=by
 by_cases h0:n<0
 ·have hz:=dE0 hn h0
  refine aD aB (sz:=29) Tryz.func126 rfl (by rw [Tryz.ntmps126];rfl) ?_
  repeat' (first|(refine aC ?_;intro K hK hX)|refine yK ?_|(refine aE hK hX ?_;clear hK hX K)|fail)
  rw [hz]
  have hzl:=aK6 hn.1 hn.2
  have hz0:[]++mH (zz n)=bA n:=rfl
  generalize zz n=z at hzl hz0
  refine cN 1 (fun p:Dr × Nat × Nat=>[(3,.c (nv p.2.2)),(4,.own 0 0 p.2.1 1 true)]) (fun p=>[(0,.row 5 (u8c p.1))]) [] (fun p=>p.1.length=p.2.1/\p.1++mH p.2.2=bA n/\p.2.2<18446744073709551616) (fun p=>p.2.2) ([],0,z) ⟨rfl,hz0,hzl⟩ eS ?_
  rintro ⟨l,m,x⟩ ⟨hl,he,hx⟩ K hK hX
  dsimp only at hl he hx hK ⊢
  have hul:(u8c l).length=m:=by rw [aH,hl]
  obtain ⟨hk1,hk2,hk3⟩:=aF1 hn he hl hk
  by_cases hlt:x<128
  ·repeat' (first|(refine aC ?_;intro K hK hX)|refine yK ?_|(refine aE hK hX ?_;clear hK hX K)|fail)
   rw [kP hlt] at he hk1
   have e1:m+1=k:=by simpa using hk1
   rw [e1,show u8c l++[[CV.v (.int .u8 (x:Int))]].flatten=u8c (bA n) from by rw [<- he];exact sZ l x hlt]
   exact aV
  ·repeat' (first|(refine aC ?_;intro K hK hX)|refine dU4 ?_|(refine aE hK hX ?_;clear hK hX K)|fail)
   rw [mI hlt] at he
   refine ⟨(l++[UInt8.ofNat (x%128+128)],m+1,x / 128),⟨by simp [hl],by simpa using he,by simp only;omega⟩,by simp only;omega,?_⟩
   exact dV8
 ·have hz:=dE1 hn h0
  refine aD aB (sz:=29) Tryz.func126 rfl (by rw [Tryz.ntmps126];rfl) ?_
  repeat' (first|(refine aC ?_;intro K hK hX)|refine yK ?_|(refine aE hK hX ?_;clear hK hX K)|fail)
  rw [hz]
  have hzl:=aK6 hn.1 hn.2
  have hz0:[]++mH (zz n)=bA n:=rfl
  generalize zz n=z at hzl hz0
  refine cN 1 (fun p:Dr × Nat × Nat=>[(3,.c (nv p.2.2)),(4,.own 0 0 p.2.1 1 true)]) (fun p=>[(0,.row 5 (u8c p.1))]) [] (fun p=>p.1.length=p.2.1/\p.1++mH p.2.2=bA n/\p.2.2<18446744073709551616) (fun p=>p.2.2) ([],0,z) ⟨rfl,hz0,hzl⟩ eS ?_
  rintro ⟨l,m,x⟩ ⟨hl,he,hx⟩ K hK hX
  dsimp only at hl he hx hK ⊢
  have hul:(u8c l).length=m:=by rw [aH,hl]
  obtain ⟨hk1,hk2,hk3⟩:=aF1 hn he hl hk
  by_cases hlt:x<128
  ·repeat' (first|(refine aC ?_;intro K hK hX)|refine yK ?_|(refine aE hK hX ?_;clear hK hX K)|fail)
   rw [kP hlt] at he hk1
   have e1:m+1=k:=by simpa using hk1
   rw [e1,show u8c l++[[CV.v (.int .u8 (x:Int))]].flatten=u8c (bA n) from by rw [<- he];exact sZ l x hlt]
   exact aV
  ·repeat' (first|(refine aC ?_;intro K hK hX)|refine dU4 ?_|(refine aE hK hX ?_;clear hK hX K)|fail)
   rw [mI hlt] at he
   refine ⟨(l++[UInt8.ofNat (x%128+128)],m+1,x / 128),⟨by simp [hl],by simpa using he,by simp only;omega⟩,by simp only;omega,?_⟩
   exact dV8
theorem vX (ns:List Int) (k:Nat) (hk:ns.length=k) (hns:∀n∈ns,aS n) (m':Nat) (hm':(ns.flatMap bA).length=m') (hb:m'<=1000000):qC' 128 [.sl 1 k (dO .i64 ns)] (.own 0 0 m' 1 true) [(0,.row 5 (u8c (ns.flatMap bA)))] 1:=by
 have hkb:k<=1000000:=by
  have:=tB (f:=bA) (fun a=>lR (zz a)) ns
  omega
 have hil:(dO .i64 ns).length=k:=by rw [fQ,hk]
 have hmono:=vG (f:=bA) ns
 refine aD aB (sz:=20) Tryz.func128 rfl (by rw [Tryz.ntmps128];rfl) ?_
 repeat' (first|(refine aC ?_;intro K hK hX)|refine yK ?_|(refine aE hK hX ?_;clear hK hX K)|fail)
 refine cN 1 (fun p:Nat × Dr × Nat=>[(0,.c (.sl 1 k (dO .i64 ns))),(3,.own 0 0 p.2.2 1 true),(4,.c (iv p.1))]) (fun p=>[(0,.row 5 (u8c p.2.1))]) [] (fun p=>p.1<=k/\p.2.1.length=p.2.2/\p.2.1=(ns.take p.1).flatMap bA) (fun p=>k-p.1) (0,[],0) ⟨by omega,rfl,by simp⟩ eS ?_
 rintro ⟨i,q,w⟩ ⟨hi,hql,hq⟩ K hK hX
 dsimp only at hi hql hq hK ⊢
 have hulq:=u8l hql
 by_cases hlt:i<k
 ·obtain ⟨n,hat⟩:∃n,ns[i]? = some n:=⟨_,Ab aA⟩
  have hn:=hns n (Ad hat)
  have hx:=cT3 hat
  have hst:q++bA n=(ns.take (i+1)).flatMap bA:=by rw [hq,lG hat]
  have hmo:=hmono (i+1)
  rw [<- hst,Aa] at hmo
  obtain ⟨j,hj⟩:∃j,(bA n).length=j:=⟨_,rfl⟩
  have i1:=jO n hn j hj
  have hulj:=u8l hj
  repeat' (first|(refine aC ?_;intro K hK hX)|refine aL [0,2,3,4] ?_|(refine dL ?_;refine c1 i1 ?_)|refine eW ?_|refine stA ?_|(refine aE hK hX ?_;clear hK hX K)|fail)
  exact ⟨(i+1,q++bA n,w+j),⟨by omega,by rw [Aa,hql,hj],hst⟩,by simp only;omega,cM0⟩
 ·have hik:i=k:=by omega
  have hq':q=ns.flatMap bA:=by rw [hq,Ae aA]
  have hwm:w=m':=by rw [<- hql,hq',hm']
  repeat' (first|(refine aC ?_;intro K hK hX)|refine yK ?_|(refine aE hK hX ?_;clear hK hX K)|fail)
  rw [<- hq',<- hwm]
  exact aV
theorem eK2 (a:Int) (ha:aS a) (m':Nat) (hm':(bA a).length=m') (hb:m'<=1000000):qC' 128 [.sl 1 1 [iv a]] (.own 0 0 m' 1 true) [(0,.row 5 (u8c (bA a)))] 1:=by
 have:=vX [a] 1 rfl (by simp;exact ha) m' rS hb
 simpa [dO] using this
theorem bN5 (a b:Int) (ha:aS a) (hb':aS b) (m':Nat) (hm':(bA a++bA b).length=m') (hb:m'<=1000000):qC' 128 [.sl 1 2 [iv a,iv b]] (.own 0 0 m' 1 true) [(0,.row 5 (u8c (bA a++bA b)))] 1:=by
 have:=vX [a,b] 2 rfl (by simp;exact ⟨ha,hb'⟩) m' rS hb
 rw [show [a,b].flatMap bA=bA a++bA b by simp] at this
 exact this
theorem bN6 (a b c:Int) (ha:aS a) (hb':aS b) (hc:aS c) (m':Nat) (hm':(bA a++(bA b++bA c)).length=m') (hb:m'<=1000000):qC' 128 [.sl 1 3 [iv a,iv b,iv c]] (.own 0 0 m' 1 true) [(0,.row 5 (u8c (bA a++(bA b++bA c))))] 1:=by
 have:=vX [a,b,c] 3 rfl (by simp;exact ⟨ha,hb',hc⟩) m' rS hb
 rw [show [a,b,c].flatMap bA=bA a++(bA b++bA c) by simp] at this
 exact this
theorem eK3 (a b c d:Int) (ha:aS a) (hb':aS b) (hc:aS c) (hd:aS d) (m':Nat) (hm':(bA a++(bA b++(bA c++bA d))).length=m') (hb:m'<=1000000):qC' 128 [.sl 1 4 [iv a,iv b,iv c,iv d]] (.own 0 0 m' 1 true) [(0,.row 5 (u8c (bA a++(bA b++(bA c++bA d)))))] 1:=by
 have:=vX [a,b,c,d] 4 rfl (by simp;exact ⟨ha,hb',hc,hd⟩) m' rS hb
 rw [show [a,b,c,d].flatMap bA=bA a++(bA b++(bA c++bA d)) by simp] at this
 exact this
theorem aH9 (s:Dr) (m':Nat) (hm':(nJ s).length=m') (hb:m'<=1000000):qC' 219 [sv s] (.own 0 0 m' 1 true) [(0,.row 5 (u8c (nJ s)))] 1:=by
 obtain ⟨q,hq⟩:∃q,s.length=q:=⟨_,rfl⟩
 obtain ⟨j,hj⟩:∃j,(bA (q:Int)).length=j:=⟨_,rfl⟩
 have e:nJ s=bA (q:Int)++s:=by rw [nJ,hq]
 have hjq:j+q=m':=by rw [<- hm',e,Aa,hj,hq]
 have i1:=jO (q:Int) ⟨by omega,by omega⟩ j hj
 have hulj:=u8l hj
 rw [e]
 refine aD aB (sz:=8) Tryz.func219 rfl (by rw [Tryz.ntmps219];rfl) ?_
 repeat' (first|(refine aC ?_;intro K hK hX)|refine aL [0,2] ?_|((with_reducible refine uE ?_);refine yF aB aG rfl rfl rfl rfl rfl rfl rfl rfl rfl rfl dY9 rfl (by first|with_reducible assumption|omega) nX dZ0 ?_)|(refine dL ?_;refine c1 i1 ?_)|(((with_reducible refine bL ?_);refine xA ?_);(first|((with_reducible refine bB2 ?_);(first|refine aJ (bO3 aB rfl rfl hq rfl) ?_))))|refine stA ?_|(refine aE hK hX ?_;clear hK hX K)|fail)
 rw [<- bM,hjq]
 exact aV
theorem bG1 (v:Vl) (m':Nat) (hm':(mA (clV v)).length=m') (hb:m'<=1000000):qC' 220 [.agg v.c] (.own 0 0 m' 1 true) [(0,.row 5 (u8c (mA (clV v))))] 1:=by
 have hcl:=cE1 v
 have hok:=aO0 v
 generalize clV v=u at hcl hok hm' ⊢
 obtain ⟨k,n,t⟩:=u
 obtain ⟨k0,n0,t0⟩:=v
 rcases hok with ⟨h1,h2,h3⟩|⟨h1,h2,h2',h3⟩|⟨h1,h2,h3⟩<;>simp only at h1 h2 h3<;>subst h1
 ·obtain ⟨j,hj⟩:∃j,(bA 0).length=j:=⟨_,rfl⟩
  have hulj:=u8l hj
  have i1:=jO 0 ⟨by decide,by decide⟩ j hj
  have e:mA ⟨0,n,t⟩=bA 0:=by simp [mA]
  rw [e] at hm' ⊢
  have hjm:j=m':=by omega
  refine aD aB (sz:=26) Tryz.func220 rfl (by rw [Tryz.ntmps220];rfl) ?_
  repeat' (first|(refine aC ?_;intro K hK hX)|refine aL [0,1,2,3] ?_|(refine dL ?_;first|refine c0 hcl ?_|refine c1 i1 ?_)|refine stA ?_|(refine aE hK hX ?_;clear hK hX K)|fail)
  rw [hjm]
  exact aV
 ·obtain ⟨j,hj⟩:∃j,(bA 1).length=j:=⟨_,rfl⟩
  have hulj:=u8l hj
  have i1:=jO 1 ⟨by decide,by decide⟩ j hj
  have e:mA ⟨1,n,t⟩=bA 1++bA n:=by simp [mA]
  rw [e] at hm' ⊢
  obtain ⟨w,hw⟩:∃w,(bA n).length=w:=⟨_,rfl⟩
  have hulw:=u8l hw
  have i2:=jO n ⟨by omega,by simp only at h2';omega⟩ w hw
  have hjm:j+w=m':=by rw [<- hm',Aa,hj,hw]
  refine aD aB (sz:=26) Tryz.func220 rfl (by rw [Tryz.ntmps220];rfl) ?_
  repeat' (first|(refine aC ?_;intro K hK hX)|refine cK0 ?_|(refine aE hK hX ?_;clear hK hX K)|fail)
  rw [<- bM,hjm]
  exact aV
 ·obtain ⟨j,hj⟩:∃j,(bA 2).length=j:=⟨_,rfl⟩
  have hulj:=u8l hj
  have i1:=jO 2 ⟨by decide,by decide⟩ j hj
  have e:mA ⟨2,n,t⟩=bA 2++nJ t:=by simp [mA]
  rw [e] at hm' ⊢
  obtain ⟨w,hw⟩:∃w,(nJ t).length=w:=⟨_,rfl⟩
  have hulw:=u8l hw
  have hjm:j+w=m':=by rw [<- hm',Aa,hj,hw]
  have i2:=aH9 t w hw aA
  refine aD aB (sz:=26) Tryz.func220 rfl (by rw [Tryz.ntmps220];rfl) ?_
  repeat' (first|(refine aC ?_;intro K hK hX)|refine cK0 ?_|(refine aE hK hX ?_;clear hK hX K)|fail)
  rw [<- bM,hjm]
  exact aV
theorem tK (i:Idf) (m':Nat) (hm':(eI i).length=m') (hb:m'<=1000000):qC' 165 [.agg i.cs] (.own 0 0 m' 1 true) [(0,.row 5 (u8c (eI i)))] 1:=by
 obtain ⟨j,hj⟩:∃j,(nJ i.ns).length=j:=⟨_,rfl⟩
 obtain ⟨w,hw⟩:∃w,(mA (clV i.v)).length=w:=⟨_,rfl⟩
 have hjm:j+w=m':=by rw [<- hm',eI,Aa,hj,hw]
 have i1:=aH9 i.ns j hj aA
 have i2:=bG1 i.v w hw aA
 have hulj:=u8l hj
 have hulw:=u8l hw
 rw [eI]
 obtain ⟨ns,k,n,t⟩:=i
 dsimp only [Idf.cs,Vl.c] at *
 refine aD aB (sz:=10) Tryz.func165 rfl (by rw [Tryz.ntmps165];rfl) ?_
 repeat' (first|(refine aC ?_;intro K hK hX)|refine fL [0,1,2] ?_|(refine iY ?_;first|refine c1 i1 ?_|refine c1 i2 ?_)|refine stA ?_|refine stE ?_|(refine aE hK hX ?_;clear hK hX K)|fail)
 rw [<- bM,hjm]
 exact aV
end
end Go.Proofs.YtbgehdndimlgkaaGreat
