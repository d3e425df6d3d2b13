/- Lemmas for laws of the ledger. -/
import Derived.Test.YtbgehdndimlgkaaGreatS17
import Derived.Test.YtbgehdndimlgkaaGreatS22
set_option linter.all false
set_option maxHeartbeats 16000000
namespace Go.Proofs.YtbgehdndimlgkaaGreat
open Go Go.RowKit Go.Av
set_option maxRecDepth 100000
section
attribute [local irreducible] Still Adds AWL AW Drw bX bY AC AWR cU Frz Go.Av.Src cQ Out InK ItK AsK RdK eP eI ACT ACA eW
attribute [local simp] bS bR bI
structure RR {α:Type} (f:RS->α × RS) (N:Nat) (s0:RS) (i:Nat) (l:List α) (s:RS):Prop where
 le:i<=N
 len:l.length=i
 eq:jC f N s0=(l++(jC f (N-i) s).1,(jC f (N-i) s).2)
theorem RR.init {α:Type} (f:RS->α × RS) (N:Nat) (s0:RS):RR f N s0 0 [] s0:=⟨Am _,rfl,by rw [BB,Ay]⟩
section
variable {α:Type} {f:RS->α × RS} {N:Nat} {s0:RS} {i:Nat} {l:List α} {s:RS} (h:RR f N s0 i l s)
include α f N s0 i l s h
theorem RR.next (hi:i<N) (h0:s.e=0) {x:α} {s':RS} (hx:f s=(x,s')):RR f N s0 (i+1) (l++[x]) s':=by
 refine ⟨hi,by rw [Aa,h.len];rfl,?_⟩
 rw [h.eq,show N-i=(N-(i+1))+1 by omega,jC,Aj (by rw [h0];simp),hx]
 simp
theorem RR.stop (he:i=N\/s.e≠0):jC f N s0=(l,s):=by
 have:jC f (N-i) s=([],s):=by
  cases hn:N-i with
  | zero=>rfl
  | succ k=>rw [jC,Ak (he.resolve_left aA)]
 rw [h.eq,this,A4]
end
theorem tH {α:Type} {f:RS->α × RS} (hf:∀s,(f s).2.b.length<=s.b.length):∀(n:Nat) (s:RS),(jC f n s).2.b.length<=s.b.length/\(jC f n s).1.length<=n
 | 0,s=>⟨Ah _,by simp [jC]⟩
 | n+1,s=>by
  obtain ⟨h1,h2⟩:=tH hf n (f s).2
  have h3:=hf s
  rw [jC]
  split
  ·exact ⟨Ah _,by simp⟩
  ·exact ⟨At h1 h3,by simp only [Au];omega⟩
theorem bY1 (b:Dm) (e:Int) (m:Nat) (hm:b.length=m) (hb:m<=1000000000):∃r s' n,bG5 rVr 512 ⟨b,e⟩=(r,s')/\r.length=n/\n<=512/\ARd 136 109 [] b e m (.sl 3 n (vrc r)) s':=by
 obtain ⟨n1,s1,q1,b1,e1,m1,rfl,a1,l1,d1,c1'⟩:=pJ 512 aN b e m hm hb
 have hbd:=rK 0 512 aN aN ⟨b,e⟩
 rw [q1] at hbd
 dsimp only at hbd
 obtain ⟨N,hN⟩:∃N:Nat,n1=(N:Int):=⟨n1.toNat,by omega⟩
 subst hN
 unfold bG5
 rw [q1]
 dsimp only
 rw [AS]
 have hfa:=tH bP9 N ⟨b1,e1⟩
 obtain ⟨R,hR⟩:∃R,jC rVr N ⟨b1,e1⟩=R:=⟨_,rfl⟩
 rw [hR] at hfa ⊢
 obtain ⟨hf1,hf2⟩:=hfa
 dsimp only at hf1
 rw [l1] at hf1
 refine ⟨R.1,R.2,_,rfl,rfl,by omega,?_⟩
 refine ⟨R.2.b,R.2.e,_,rfl,?_,rfl,by omega,by omega⟩
 refine aZ aB (sz:=35) Tryz.func136 rfl (by rw [Tryz.ntmps136];rfl) ?_
 repeat' (first|(refine aC ?_;intro K hK hX)|refine dN8 ?_|(refine aG hK hX ?_;clear hK hX K)|fail)
 refine lS 3 76 3 rfl ?_
 refine bH [3,5] [0,1] rfl rfl (fun p:Nat × List Ver × Dm × Int × Nat=>[(3,.own 1 0 p.1 3 true),(5,.c (iv p.1))]) (fun p=>[(1,.row 76 (vrc p.2.1)),(0,.blk 109 [.c (.sl 1 p.2.2.2.2 (u8c p.2.2.1)),.c (iv p.2.2.2.1)])]) (fun p=>RR rVr N ⟨b1,e1⟩ p.1 p.2.1 ⟨p.2.2.1,p.2.2.2.1⟩/\p.2.2.1.length=p.2.2.2.2/\p.2.2.2.2<=m1) (fun p=>N-p.1) (0,[],b1,e1,m1) ⟨RR.init _ _ _,l1,Ah _⟩ eH ?_
 rintro ⟨i,l,bc,ec,mc⟩ ⟨hrl,hbc,hmc⟩ K hK hX
 dsimp only at hrl hbc hmc hK ⊢
 have hil:=hrl.len
 have hiN:=hrl.le
 have hcl:(vrc l).length=i*3:=by rw [dC,hil]
 by_cases hlt:i<N
 ·by_cases he:ec=0
  ·subst he
   obtain ⟨x1,t1,p1,j1,y1,f1,g1,rfl,r1,z1,w1,v1⟩:=dB bc 0 mc hbc aA
   obtain ⟨x2,t2,p2,j2,y2,f2,g2,rfl,r2,z2,w2,v2⟩:=dB y1 f1 g1 z1 v1
   obtain ⟨x3,t3,p3,j3,y3,f3,g3,rfl,r3,z3,w3,v3⟩:=dB y2 f2 g2 z2 v2
   have q2:rVr ⟨bc,0⟩=(⟨x1,x3,x2⟩,⟨y3,f3⟩):=by simp only [rVr,p1,p2,p3]
   have hnx:=hrl.next hlt rfl q2
   have hsn:=bC4 l ⟨x1,x3,x2⟩
   dsimp only at hsn
   repeat' (first|(refine aC ?_;intro K hK hX)|refine aK [0,2,3,4,5,6] ?_|((with_reducible refine aF ?_);refine aJ (r1) aE rfl zby rfl rfl rfl rfl zcv rfl ztp ?_)|((with_reducible refine aF ?_);refine aJ (r2) aE rfl zby rfl rfl rfl rfl zcv rfl ztp ?_)|((with_reducible refine aF ?_);refine aJ (r3) aE rfl zby rfl rfl rfl rfl zcv rfl ztp ?_)|refine stA ?_|(refine aG hK hX ?_;clear hK hX K)|fail)
   exact ⟨(i+1,l++[⟨x1,x3,x2⟩],y3,f3,g3),⟨hnx,z3,by simp only;omega⟩,by simp only;omega,bM2⟩
  ·have hres:=hrl.stop (.inr he)
   rw [hR] at hres
   repeat' (first|(refine aC ?_;intro K hK hX)|refine zL ?_|(refine aG hK hX ?_;clear hK hX K)|fail)
   rw [hres]
   dsimp only
   rw [hbc,hil]
   exact dR
 ·have hin:i=N:=by omega
  have hres:=hrl.stop (.inl hin)
  rw [hR] at hres
  repeat' (first|(refine aC ?_;intro K hK hX)|refine zL ?_|(refine aG hK hX ?_;clear hK hX K)|fail)
  rw [hres]
  dsimp only
  rw [hbc,hil]
  exact dR
theorem bY0 (b:Dm) (e:Int) (m:Nat) (hm:b.length=m) (hb:m<=1000000000):∃r s' n,bG5 rSr 512 ⟨b,e⟩=(r,s')/\r.length=n/\n<=512/\ARd 137 109 [] b e m (.sl 2 n (src r)) s':=by
 obtain ⟨n1,s1,q1,b1,e1,m1,rfl,a1,l1,d1,c1'⟩:=pJ 512 aN b e m hm hb
 have hbd:=rK 0 512 aN aN ⟨b,e⟩
 rw [q1] at hbd
 dsimp only at hbd
 obtain ⟨N,hN⟩:∃N:Nat,n1=(N:Int):=⟨n1.toNat,by omega⟩
 subst hN
 unfold bG5
 rw [q1]
 dsimp only
 rw [AS]
 have hfa:=tH bP8 N ⟨b1,e1⟩
 obtain ⟨R,hR⟩:∃R,jC rSr N ⟨b1,e1⟩=R:=⟨_,rfl⟩
 rw [hR] at hfa ⊢
 obtain ⟨hf1,hf2⟩:=hfa
 dsimp only at hf1
 rw [l1] at hf1
 refine ⟨R.1,R.2,_,rfl,rfl,by omega,?_⟩
 refine ⟨R.2.b,R.2.e,_,rfl,?_,rfl,by omega,by omega⟩
 refine aZ aB (sz:=32) Tryz.func137 rfl (by rw [Tryz.ntmps137];rfl) ?_
 repeat' (first|(refine aC ?_;intro K hK hX)|refine dN8 ?_|(refine aG hK hX ?_;clear hK hX K)|fail)
 refine lS 3 72 2 rfl ?_
 refine bH [3,5] [0,1] rfl rfl (fun p:Nat × List Src × Dm × Int × Nat=>[(3,.own 1 0 p.1 2 true),(5,.c (iv p.1))]) (fun p=>[(1,.row 72 (src p.2.1)),(0,.blk 109 [.c (.sl 1 p.2.2.2.2 (u8c p.2.2.1)),.c (iv p.2.2.2.1)])]) (fun p=>RR rSr N ⟨b1,e1⟩ p.1 p.2.1 ⟨p.2.2.1,p.2.2.2.1⟩/\p.2.2.1.length=p.2.2.2.2/\p.2.2.2.2<=m1) (fun p=>N-p.1) (0,[],b1,e1,m1) ⟨RR.init _ _ _,l1,Ah _⟩ eH ?_
 rintro ⟨i,l,bc,ec,mc⟩ ⟨hrl,hbc,hmc⟩ K hK hX
 dsimp only at hrl hbc hmc hK ⊢
 have hil:=hrl.len
 have hiN:=hrl.le
 have hcl:(src l).length=i*2:=by rw [dV,hil]
 by_cases hlt:i<N
 ·by_cases he:ec=0
  ·subst he
   obtain ⟨x1,t1,p1,j1,y1,f1,g1,rfl,r1,z1,w1,v1⟩:=dB bc 0 mc hbc aA
   obtain ⟨x2,t2,p2,j2,y2,f2,g2,rfl,r2,z2,w2,v2⟩:=dB y1 f1 g1 z1 v1
   have q2:rSr ⟨bc,0⟩=(⟨x1,x2⟩,⟨y2,f2⟩):=by simp only [rSr,p1,p2]
   have hnx:=hrl.next hlt rfl q2
   have hsn:=bB5 l ⟨x1,x2⟩
   dsimp only at hsn
   repeat' (first|(refine aC ?_;intro K hK hX)|refine aK [0,2,3,4,5,6] ?_|((with_reducible refine aF ?_);refine aJ (r1) aE rfl zby rfl rfl rfl rfl zcv rfl ztp ?_)|((with_reducible refine aF ?_);refine aJ (r2) aE rfl zby rfl rfl rfl rfl zcv rfl ztp ?_)|refine stA ?_|(refine aG hK hX ?_;clear hK hX K)|fail)
   exact ⟨(i+1,l++[⟨x1,x2⟩],y2,f2,g2),⟨hnx,z2,by simp only;omega⟩,by simp only;omega,bM2⟩
  ·have hres:=hrl.stop (.inr he)
   rw [hR] at hres
   repeat' (first|(refine aC ?_;intro K hK hX)|refine zL ?_|(refine aG hK hX ?_;clear hK hX K)|fail)
   rw [hres]
   dsimp only
   rw [hbc,hil]
   exact dR
 ·have hin:i=N:=by omega
  have hres:=hrl.stop (.inl hin)
  rw [hR] at hres
  repeat' (first|(refine aC ?_;intro K hK hX)|refine zL ?_|(refine aG hK hX ?_;clear hK hX K)|fail)
  rw [hres]
  dsimp only
  rw [hbc,hil]
  exact dR
theorem cU3 (l:Dm) (i:Nat) (hl:l.length=32) (hi:i<32):(u8c (l.take i++List.replicate (32-i) 0)).set (0+i*1) (.v (.int .u8 ((l.getD i 0).toNat:Int)))=u8c (l.take (i+1)++List.replicate (32-(i+1)) 0):=by
 rw [Aq,A8]
 have e:List.replicate (32-i) (0:UInt8)=0::List.replicate (32-(i+1)) 0:=by rw [show 32-i=(32-(i+1))+1 by omega,C0]
 have h1:(l.take i).length=i:=by rw [As];omega
 rw [e,bI,BM _ _ (by rw [aH,h1];exact Ah _),aH,h1,BU]
 have h2:l.take (i+1)=l.take i++[l.getD i 0]:=by
  rw [B8,Ab aA]
  simp [List.getD,Ab (show i<l.length by omega)]
 rw [h2,Ao,bI]
 rfl
attribute [local simp] uL aH
theorem aY5 (b : Dm) (e : Int) (m : Nat) (hm : b.length = m) (hb : m <= 1000000000) : ∃ r s', rDg ⟨b, e⟩ = (r, s') /\ r.length = 32 /\ ARd 124 109 [] b e m (.agg (u8c r)) s' := by
  obtain ⟨l, k, s2, q2, hk, hkm, b2, e2, m2, rfl, a2, l2, d2, c2'⟩ := wO 32 ⟨by decide, by decide⟩ b e m hm hb
  have huk := u8l hk
  have hk32 : l = [] \/ l.length = 32 := by
    have h := congrArg Prod.fst q2
    unfold rBy at h
    dsimp only at h
    split at h
    · exact .inl h.symm
    · split at h
      · exact .inl h.symm
      · right
        simp only at h
        rw [<- h, As]
        simp only [Int.toNat] at *
        omega
  unfold rDg
  rw [show (32 : Nat) = (32 : Int).toNat from rfl, q2]
  dsimp only
  rcases hk32 with h0 | h0
  · subst h0
    rw [Ak rfl]
    simp only [Bt] at hk
    subst hk
    refine ⟨root0, _, rfl, by simp [root0], b2, e2, m2, rfl, ?_, l2, d2, c2'⟩
    refine aZ aB (sz := 21) Tryz.func124 rfl (by rw [Tryz.ntmps124]; rfl) ?_
    repeat' (first | (refine aC ?_; intro K hK hX) | refine aK [0, 2, 3, 4, 5] ?_ | ((with_reducible refine uJ ?_); refine rS 2 ?_) | (refine bK5 ?_; intro K hK hX) | ((with_reducible refine aF ?_); refine aJ (a2) aE rfl zby rfl rfl rfl rfl zcv rfl ztp ?_) | refine stA ?_ | (refine aG hK hX ?_; clear hK hX K) | fail)
    exact fH
  · rw [Aj (fun h => by rw [h] at h0; cases h0)]
    rw [h0] at hk
    subst hk
    refine ⟨l, _, rfl, h0, b2, e2, m2, rfl, ?_, l2, d2, c2'⟩
    refine aZ aB (sz := 21) Tryz.func124 rfl (by rw [Tryz.ntmps124]; rfl) ?_
    repeat' (first | (refine aC ?_; intro K hK hX) | refine aK [0, 2, 3, 4, 5] ?_ | ((with_reducible refine aF ?_); refine aJ (a2) aE rfl zby rfl rfl rfl rfl zcv rfl ztp ?_) | refine stA ?_ | (refine aG hK hX ?_; clear hK hX K) | fail)
    refine bH [5] [2] rfl rfl (fun i : Nat => [(5, .c (iv i))]) (fun i => [(2, .row 28 (u8c (l.take i ++ List.replicate (32 - i) 0)))]) (fun i => i <= 32) (fun i => 32 - i) 0 aA eH ?_
    intro i hi K hK hX
    have hlen : (u8c (l.take i ++ List.replicate (32 - i) 0)).length = 32 := by rw [aH, Aa, As, CE]; omega
    by_cases hlt : i < 32
    · have hx : (u8c l)[i]? = some (.v (.int .u8 ((l.getD i 0).toNat : Int))) := by
        rw [List.getD_eq_getElem?_getD]
        simp [u8c, Ab (show i < l.length by omega)]
      have hfit : 0 + i * 1 < (u8c (l.take i ++ List.replicate (32 - i) 0)).length := by omega
      repeat' (first | (refine aC ?_; intro K hK hX) | refine aK [0, 2, 3, 4, 5] ?_ | refine eJ ?_ | ((with_reducible refine fS ?_); (refine eQ aB aE rfl rfl rfl rfl rfl rfl dQ0 ?_)) | refine stA ?_ | (refine aG hK hX ?_; clear hK hX K) | fail)
      exact ⟨i + 1, by omega, by omega, (by refine dW rfl ?_ ?_ rfl <;> (repeat' (first | exact cO | exact cP | refine cG rfl dQ2 rfl ?_ | refine bD rfl dQ2 rfl ?_)))⟩
    · have hin : i = 32 := by omega
      repeat' (first | (refine aC ?_; intro K hK hX) | refine sS ?_ | (refine aG hK hX ?_; clear hK hX K) | fail)
      have hfin : u8c (l.take i ++ List.replicate (32 - i) 0) = u8c l := by rw [hin, Ad aA]; simp
      have hcv : Cv (.agg (u8c (l.take i ++ List.replicate (32 - i) 0))) (.agg (u8c l)) := pT (by rw [hfin])
      exact dR5
end
section
attribute [local irreducible] Still Adds AWL AW Drw bX bY AC AWR cU Frz Go.Av.Src cQ Out InK ItK AsK RdK eP eI ACT ACA eW
attribute [local simp] bS bR bI
theorem aD3 (b:Dm) (e:Int) (m:Nat) (hm:b.length=m) (hb:m<=1000000000):∃r s' nv ns,rEn rpR ⟨b,e⟩=(r,s')/\r.vs.length=nv/\r.ss.length=ns/\r.root.length=32/\ARd 67 109 [] b e m (.agg (ecs r nv ns)) s':=by
 obtain ⟨n1,s1,q1,i1,b1,e1,m1,rfl,a1,l1,d1,c1'⟩:=dB b e m hm hb
 have hz:e1≠0->n1=0:=fun h=>by have:=oK (s:=⟨b,e⟩) (by rw [q1];exact h);rwa [q1] at this
 by_cases hbad:(n1<1\/7<n1)/\e1=0
 ·obtain ⟨hbd,rfl⟩:=hbad
  have hki:bX1 ⟨b,e⟩=(n1,⟨b1,1⟩):=by unfold bX1;rw [q1];dsimp only;rw [Ak hbd,Ak rfl]
  obtain ⟨n2,s2,q2,i2,b2,e2,m2,rfl,a2,l2,d2,c2'⟩:=dB b1 1 m1 l1 c1'
  obtain ⟨n3,s3,q3,i3,b3,e3,m3,rfl,a3,l3,d3,c3'⟩:=dB b2 e2 m2 l2 c2'
  obtain ⟨n4,s4,q4,i4,b4,e4,m4,rfl,a4,l4,d4,c4'⟩:=dB b3 e3 m3 l3 c3'
  have hEn:rEn rpR ⟨b,e⟩=mU rpR n1 n2 n3 n4 ⟨b4,e4⟩:=by simp only [rEn,rpR,hki,q2,q3,q4]
  rw [hEn]
  clear hEn
  unfold mU
  rw [Aj aA,Aj aA,Aj aA,Aj aA,Aj aA]
  refine ⟨⟨n1,n2,n3,n4,rq0,lk0,hd0,[],[],root0⟩,⟨b4,e4⟩,0,0,rfl,rfl,rfl,rfl,b4,e4,m4,rfl,?_,l4,by omega,c4'⟩
  dsimp only [ecs,lk0,hd0,iE,rq0,Vl.nul,Vl.c,Idf.cs,LRq.cs,LLk.cs,LHd.cs] at *
  by_cases h1:n1<1
  ·refine aZ aB (sz:=57) Tryz.func67 rfl nL ?_
   repeat' (first|(refine aC ?_;intro K hK hX)|refine aK [0,1,2,3,4,27] ?_|((with_reducible refine aW ?_);refine yA ?_;refine bC (aR aB rfl rfl rfl) rfl ?_)|((with_reducible refine aF ?_);refine aJ (a1) aE rfl zby rfl rfl rfl rfl zcv rfl ztp ?_)|((with_reducible refine aF ?_);refine aJ (a2) aE rfl zby rfl rfl rfl rfl zcv rfl ztp ?_)|((with_reducible refine aF ?_);refine aJ (a3) aE rfl zby rfl rfl rfl rfl zcv rfl ztp ?_)|((with_reducible refine aF ?_);refine aJ (a4) aE rfl zby rfl rfl rfl rfl zcv rfl ztp ?_)|((first|with_reducible refine aF ?_|with_reducible refine bB ?_);refine bV aB (List.range 57) aE rfl rfl zby Tryz.func134 rfl rfl rfl (szf:=13) gI rfl ?_)|refine stA ?_|(refine aG hK hX ?_;clear hK hX K)|fail|(first|refine bK zio ztr rfl rfl ResL.none ?_|refine bJ zio ztr rfl rfl ResL.none ?_))
   exact fH
  ·refine aZ aB (sz:=57) Tryz.func67 rfl nL ?_
   repeat' (first|(refine aC ?_;intro K hK hX)|refine aK [0,1,2,3,4,27] ?_|((with_reducible refine aW ?_);refine yA ?_;refine bC (aR aB rfl rfl rfl) rfl ?_)|((with_reducible refine aF ?_);refine aJ (a1) aE rfl zby rfl rfl rfl rfl zcv rfl ztp ?_)|((with_reducible refine aF ?_);refine aJ (a2) aE rfl zby rfl rfl rfl rfl zcv rfl ztp ?_)|((with_reducible refine aF ?_);refine aJ (a3) aE rfl zby rfl rfl rfl rfl zcv rfl ztp ?_)|((with_reducible refine aF ?_);refine aJ (a4) aE rfl zby rfl rfl rfl rfl zcv rfl ztp ?_)|((first|with_reducible refine aF ?_|with_reducible refine bB ?_);refine bV aB (List.range 57) aE rfl rfl zby Tryz.func134 rfl rfl rfl (szf:=13) gI rfl ?_)|refine stA ?_|(refine aG hK hX ?_;clear hK hX K)|fail|(first|refine bK zio ztr rfl rfl ResL.none ?_|refine bJ zio ztr rfl rfl ResL.none ?_))
   exact fH
 have hki:bX1 ⟨b,e⟩=(n1,⟨b1,if (n1<1\/7<n1)/\e1=0 then 1 else e1⟩):=by
  unfold bX1;rw [q1];dsimp only
  rw [Aj hbad]
  split
  ·rename_i h
   rw [Aj (fun he=>hbad ⟨h,he⟩)]
  ·rfl
 rw [Aj hbad] at hki
 obtain ⟨n2,s2,q2,i2,b2,e2,m2,rfl,a2,l2,d2,c2'⟩:=dB b1 e1 m1 l1 c1'
 obtain ⟨n3,s3,q3,i3,b3,e3,m3,rfl,a3,l3,d3,c3'⟩:=dB b2 e2 m2 l2 c2'
 obtain ⟨n4,s4,q4,i4,b4,e4,m4,rfl,a4,l4,d4,c4'⟩:=dB b3 e3 m3 l3 c3'
 have hEn:rEn rpR ⟨b,e⟩=mU rpR n1 n2 n3 n4 ⟨b4,e4⟩:=by simp only [rEn,rpR,hki,q2,q3,q4]
 rw [hEn]
 clear hEn hki
 unfold mU
 by_cases k1:n1=1
 ·subst k1
  rw [Ak rfl]
  obtain ⟨x5,s5,q5,b5,e5,m5,rfl,a5,l5,d5,c5'⟩:=cQ4 b4 e4 m4 l4 c4'
  refine ⟨⟨1,n2,n3,n4,x5,lk0,hd0,[],[],root0⟩,⟨b5,e5⟩,0,0,by simp only [rpR,q5],rfl,rfl,rfl,b5,e5,m5,rfl,?_,l5,by omega,c5'⟩
  obtain ⟨xk,⟨xn,⟨xvk,xvn,xvt⟩⟩,xs,xd,xdl⟩:=x5
  dsimp only [ecs,lk0,hd0,iE,rq0,Vl.nul,Vl.c,Idf.cs,LRq.cs,LLk.cs,LHd.cs] at *
  refine aZ aB (sz:=57) Tryz.func67 rfl nL ?_
  repeat' (first|(refine aC ?_;intro K hK hX)|refine cD3 ?_|(refine aG hK hX ?_;clear hK hX K)|fail)
  exact fH
 rw [Aj k1]
 by_cases k2:n1=2
 ·subst k2
  rw [Ak rfl]
  obtain ⟨x5,s5,nv,q5,hnv,hnv',b5,e5,m5,rfl,a5,l5,d5,c5'⟩:=bY1 b4 e4 m4 l4 c4'
  obtain ⟨x6,s6,ns,q6,hns,hns',b6,e6,m6,rfl,a6,l6,d6,c6'⟩:=bY0 b5 e5 m5 l5 c5'
  refine ⟨⟨2,n2,n3,n4,rq0,lk0,hd0,x5,x6,root0⟩,⟨b6,e6⟩,nv,ns,by simp only [rpR,q5,q6],hnv,hns,rfl,b6,e6,m6,rfl,?_,l6,by omega,c6'⟩
  dsimp only [ecs,lk0,hd0,iE,rq0,Vl.nul,Vl.c,Idf.cs,LRq.cs,LLk.cs,LHd.cs] at *
  refine aZ aB (sz:=57) Tryz.func67 rfl nL ?_
  repeat' (first|(refine aC ?_;intro K hK hX)|refine aK [0,2,3,4,27] ?_|((with_reducible refine aW ?_);refine yA ?_;refine bC (aR aB rfl rfl rfl) rfl ?_)|((with_reducible refine aF ?_);refine aJ (a1) aE rfl zby rfl rfl rfl rfl zcv rfl ztp ?_)|((with_reducible refine aF ?_);refine aJ (a2) aE rfl zby rfl rfl rfl rfl zcv rfl ztp ?_)|((with_reducible refine aF ?_);refine aJ (a3) aE rfl zby rfl rfl rfl rfl zcv rfl ztp ?_)|((with_reducible refine aF ?_);refine aJ (a4) aE rfl zby rfl rfl rfl rfl zcv rfl ztp ?_)|((with_reducible refine aF ?_);refine aJ (a5) aE rfl zby rfl rfl rfl rfl zcv rfl ztp ?_)|((with_reducible refine aF ?_);refine aJ (a6) aE rfl zby rfl rfl rfl rfl zcv rfl ztp ?_)|refine stA ?_|(refine aG hK hX ?_;clear hK hX K)|fail)
  exact fH
 rw [Aj k2]
 by_cases k4:n1=4
 ·subst k4
  rw [Ak rfl]
  obtain ⟨x5,s5,q5,h32,b5,e5,m5,rfl,a5,l5,d5,c5'⟩:=aY5 b4 e4 m4 l4 c4'
  refine ⟨⟨4,n2,n3,n4,rq0,lk0,hd0,[],[],x5⟩,⟨b5,e5⟩,0,0,by simp only [rpR,q5],rfl,rfl,h32,b5,e5,m5,rfl,?_,l5,by omega,c5'⟩
  have hux:=u8l h32
  have hwh:((lay (iv 4::iv n2::iv n3::iv n4::iv 0::sv []::iv 0::iv 0::sv []::iv 0::iv 0::iv 0::sv []::iv 0::iv 0::sv []::sv []::iv 0::iv 0::sv []::iv 0::bv false::iv 0::iv 0::sv []::iv 0::iv 0::sv []::iv 0::iv 0::iv 0 :: .v (.slice none 0 0) :: .v (.slice none 0 0)::u8c root0) (0+33) (u8c x5)).drop 0).take 65=iv 4::iv n2::iv n3::iv n4::iv 0::sv []::iv 0::iv 0::sv []::iv 0::iv 0::iv 0::sv []::iv 0::iv 0::sv []::sv []::iv 0::iv 0::sv []::iv 0::bv false::iv 0::iv 0::sv []::iv 0::iv 0::sv []::iv 0::iv 0::iv 0 :: .v (.slice none 0 0) :: .v (.slice none 0 0)::u8c x5:=by
   have h1:lay (iv 4::iv n2::iv n3::iv n4::iv 0::sv []::iv 0::iv 0::sv []::iv 0::iv 0::iv 0::sv []::iv 0::iv 0::sv []::sv []::iv 0::iv 0::sv []::iv 0::bv false::iv 0::iv 0::sv []::iv 0::iv 0::sv []::iv 0::iv 0::iv 0 :: .v (.slice none 0 0) :: .v (.slice none 0 0)::u8c root0) (0+33) (u8c x5)=iv 4::iv n2::iv n3::iv n4::iv 0::sv []::iv 0::iv 0::sv []::iv 0::iv 0::iv 0::sv []::iv 0::iv 0::sv []::sv []::iv 0::iv 0::sv []::iv 0::bv false::iv 0::iv 0::sv []::iv 0::iv 0::sv []::iv 0::iv 0::iv 0 :: .v (.slice none 0 0) :: .v (.slice none 0 0)::u8c x5:=aC7 (a:=[iv 4,iv n2,iv n3,iv n4,iv 0,sv [],iv 0,iv 0,sv [],iv 0,iv 0,iv 0,sv [],iv 0,iv 0,sv [],sv [],iv 0,iv 0,sv [],iv 0,bv false,iv 0,iv 0,sv [],iv 0,iv 0,sv [],iv 0,iv 0,iv 0,.v (.slice none 0 0),.v (.slice none 0 0)]) (z:=u8c root0) (y:=u8c x5) rfl (by rw [hux];rfl)
   rw [h1,AY,Ad (by simp only [Au,hux];omega)]
  have hwl:(iv 4::iv n2::iv n3::iv n4::iv 0::sv []::iv 0::iv 0::sv []::iv 0::iv 0::iv 0::sv []::iv 0::iv 0::sv []::sv []::iv 0::iv 0::sv []::iv 0::bv false::iv 0::iv 0::sv []::iv 0::iv 0::sv []::iv 0::iv 0::iv 0 :: .v (.slice none 0 0) :: .v (.slice none 0 0)::u8c x5).length=65:=by simp only [Au,hux]
  have hcvl:CvL (iv 4::iv n2::iv n3::iv n4::iv 0::sv []::iv 0::iv 0::sv []::iv 0::iv 0::iv 0::sv []::iv 0::iv 0::sv []::sv []::iv 0::iv 0::sv []::iv 0::bv false::iv 0::iv 0::sv []::iv 0::iv 0::sv []::iv 0::iv 0::iv 0 :: .v (.slice none 0 0) :: .v (.slice none 0 0)::u8c x5) (ecs ⟨4,n2,n3,n4,rq0,lk0,hd0,[],[],x5⟩ 0 0):=by
   dsimp only [ecs,lk0,hd0,iE,rq0,Vl.nul]
   repeat' (first|exact cR|exact gM|exact fO|(refine eK ?_ ?_)|exact rV)
  dsimp only [ecs,lk0,hd0,iE,rq0,Vl.nul,Vl.c,Idf.cs,LRq.cs,LLk.cs,LHd.cs] at *
  refine aZ aB (sz:=57) Tryz.func67 rfl nL ?_
  repeat' (first|(refine aC ?_;intro K hK hX)|refine aK [0,2,3,4,27] ?_|((with_reducible refine aW ?_);refine yA ?_;refine bC (aR aB rfl rfl rfl) rfl ?_)|((with_reducible refine aF ?_);refine aJ (a1) aE rfl zby rfl rfl rfl rfl zcv rfl ztp ?_)|((with_reducible refine aF ?_);refine aJ (a2) aE rfl zby rfl rfl rfl rfl zcv rfl ztp ?_)|((with_reducible refine aF ?_);refine aJ (a3) aE rfl zby rfl rfl rfl rfl zcv rfl ztp ?_)|((with_reducible refine aF ?_);refine aJ (a4) aE rfl zby rfl rfl rfl rfl zcv rfl ztp ?_)|((with_reducible refine aF ?_);refine aJ (a5) aE rfl zby rfl rfl rfl rfl zcv rfl ztp ?_)|refine jO ?_|refine stA ?_|(refine aG hK hX ?_;clear hK hX K)|fail)
  exact dR6
 rw [Aj k4]
 by_cases k6:n1=6
 ·subst k6
  rw [Ak rfl]
  obtain ⟨x5,s5,q5,b5,e5,m5,rfl,a5,l5,d5,c5'⟩:=bX8 b4 e4 m4 l4 c4'
  refine ⟨⟨6,n2,n3,n4,rq0,x5,hd0,[],[],root0⟩,⟨b5,e5⟩,0,0,by simp only [rpR,q5],rfl,rfl,rfl,b5,e5,m5,rfl,?_,l5,by omega,c5'⟩
  obtain ⟨⟨xn,⟨xvk,xvn,xvt⟩⟩,⟨yn,⟨yvk,yvn,yvt⟩⟩,xs,xr⟩:=x5
  dsimp only [ecs,lk0,hd0,iE,rq0,Vl.nul,Vl.c,Idf.cs,LRq.cs,LLk.cs,LHd.cs] at *
  refine aZ aB (sz:=57) Tryz.func67 rfl nL ?_
  repeat' (first|(refine aC ?_;intro K hK hX)|refine cD3 ?_|(refine aG hK hX ?_;clear hK hX K)|fail)
  exact fH
 rw [Aj k6]
 by_cases k7:n1=7
 ·subst k7
  rw [Ak rfl]
  obtain ⟨x5,s5,q5,b5,e5,m5,rfl,a5,l5,d5,c5'⟩:=bX7 b4 e4 m4 l4 c4'
  refine ⟨⟨7,n2,n3,n4,rq0,lk0,x5,[],[],root0⟩,⟨b5,e5⟩,0,0,by simp only [rpR,q5],rfl,rfl,rfl,b5,e5,m5,rfl,?_,l5,by omega,c5'⟩
  obtain ⟨xt,xc,⟨xn,⟨xvk,xvn,xvt⟩⟩,xs,xf,xo⟩:=x5
  dsimp only [ecs,lk0,hd0,iE,rq0,Vl.nul,Vl.c,Idf.cs,LRq.cs,LLk.cs,LHd.cs] at *
  refine aZ aB (sz:=57) Tryz.func67 rfl nL ?_
  repeat' (first|(refine aC ?_;intro K hK hX)|refine cD3 ?_|(refine aG hK hX ?_;clear hK hX K)|fail)
  exact fH
 rw [Aj k7]
 refine ⟨⟨n1,n2,n3,n4,rq0,lk0,hd0,[],[],root0⟩,⟨b4,e4⟩,0,0,rfl,rfl,rfl,rfl,b4,e4,m4,rfl,?_,l4,by omega,c4'⟩
 have h3:n1=3\/n1=5\/(n1=0/\e1≠0):=by
  by_cases he:e1=0
  ·have:¬(n1<1\/7<n1):=fun h=>hbad ⟨h,he⟩
   omega
  ·exact .inr (.inr ⟨hz he,he⟩)
 rcases h3 with h3|h3|⟨h3,he⟩<;>subst h3
 ·skip
  dsimp only [ecs,lk0,hd0,iE,rq0,Vl.nul,Vl.c,Idf.cs,LRq.cs,LLk.cs,LHd.cs] at *
  refine aZ aB (sz:=57) Tryz.func67 rfl nL ?_
  repeat' (first|(refine aC ?_;intro K hK hX)|refine aK [0,1,2,3,4,27] ?_|((with_reducible refine aW ?_);refine yA ?_;refine bC (aR aB rfl rfl rfl) rfl ?_)|((with_reducible refine aF ?_);refine aJ (a1) aE rfl zby rfl rfl rfl rfl zcv rfl ztp ?_)|((with_reducible refine aF ?_);refine aJ (a2) aE rfl zby rfl rfl rfl rfl zcv rfl ztp ?_)|((with_reducible refine aF ?_);refine aJ (a3) aE rfl zby rfl rfl rfl rfl zcv rfl ztp ?_)|((with_reducible refine aF ?_);refine aJ (a4) aE rfl zby rfl rfl rfl rfl zcv rfl ztp ?_)|((first|with_reducible refine aF ?_|with_reducible refine bB ?_);refine bV aB (List.range 57) aE rfl rfl zby Tryz.func134 rfl rfl rfl (szf:=13) gI rfl ?_)|refine stA ?_|(refine aG hK hX ?_;clear hK hX K)|fail|(first|refine bK zio ztr rfl rfl ResL.none ?_|refine bJ zio ztr rfl rfl ResL.none ?_))
  exact fH
 ·skip
  dsimp only [ecs,lk0,hd0,iE,rq0,Vl.nul,Vl.c,Idf.cs,LRq.cs,LLk.cs,LHd.cs] at *
  refine aZ aB (sz:=57) Tryz.func67 rfl nL ?_
  repeat' (first|(refine aC ?_;intro K hK hX)|refine aK [0,1,2,3,4,27] ?_|((with_reducible refine aW ?_);refine yA ?_;refine bC (aR aB rfl rfl rfl) rfl ?_)|((with_reducible refine aF ?_);refine aJ (a1) aE rfl zby rfl rfl rfl rfl zcv rfl ztp ?_)|((with_reducible refine aF ?_);refine aJ (a2) aE rfl zby rfl rfl rfl rfl zcv rfl ztp ?_)|((with_reducible refine aF ?_);refine aJ (a3) aE rfl zby rfl rfl rfl rfl zcv rfl ztp ?_)|((with_reducible refine aF ?_);refine aJ (a4) aE rfl zby rfl rfl rfl rfl zcv rfl ztp ?_)|((first|with_reducible refine aF ?_|with_reducible refine bB ?_);refine bV aB (List.range 57) aE rfl rfl zby Tryz.func134 rfl rfl rfl (szf:=13) gI rfl ?_)|refine stA ?_|(refine aG hK hX ?_;clear hK hX K)|fail|(first|refine bK zio ztr rfl rfl ResL.none ?_|refine bJ zio ztr rfl rfl ResL.none ?_))
  exact fH
 ·skip
  dsimp only [ecs,lk0,hd0,iE,rq0,Vl.nul,Vl.c,Idf.cs,LRq.cs,LLk.cs,LHd.cs] at *
  refine aZ aB (sz:=57) Tryz.func67 rfl nL ?_
  repeat' (first|(refine aC ?_;intro K hK hX)|refine aK [0,1,2,3,4,27] ?_|((with_reducible refine aW ?_);refine yA ?_;refine bC (aR aB rfl rfl rfl) rfl ?_)|((with_reducible refine aF ?_);refine aJ (a1) aE rfl zby rfl rfl rfl rfl zcv rfl ztp ?_)|((with_reducible refine aF ?_);refine aJ (a2) aE rfl zby rfl rfl rfl rfl zcv rfl ztp ?_)|((with_reducible refine aF ?_);refine aJ (a3) aE rfl zby rfl rfl rfl rfl zcv rfl ztp ?_)|((with_reducible refine aF ?_);refine aJ (a4) aE rfl zby rfl rfl rfl rfl zcv rfl ztp ?_)|((first|with_reducible refine aF ?_|with_reducible refine bB ?_);refine bV aB (List.range 57) aE rfl rfl zby Tryz.func134 rfl rfl rfl (szf:=13) gI rfl ?_)|refine stA ?_|(refine aG hK hX ?_;clear hK hX K)|fail|(first|refine bK zio ztr rfl rfl ResL.none ?_|refine bJ zio ztr rfl rfl ResL.none ?_))
  exact fH
end
section
attribute [local irreducible] Still Adds AWL AW Drw bX bY AC AWR cU Frz Go.Av.Src cQ Out InK ItK AsK RdK eP eI ACT ACA eW
attribute [local simp] bS bR bI
theorem aB3 {l:Dm} {m x k:Nat} {n:Int} (hn:aT n) (h:l++mZ x=bA n) (hl:l.length=m) (hk:(bA n).length=k):m+(mZ x).length=k/\k<=10/\0<(mZ x).length:=by
 have h1:=cK3 hn
 have h2:=kY x
 rw [<- h,Aa] at hk h1
 omega
theorem jA (n:Int) (hn:aT n) (k:Nat) (hk:(bA n).length=k):qC' 126 [iv n] (.own 0 0 k 1 true) [(0,.row 5 (u8c (bA n)))] 1:=by
 by_cases h0:n<0
 ·have hz:=cW6 hn h0
  refine aD aB (sz:=29) Tryz.func126 rfl (by rw [Tryz.ntmps126];rfl) ?_
  repeat' (first|(refine aC ?_;intro K hK hX)|refine wZ ?_|(refine aG hK hX ?_;clear hK hX K)|fail)
  rw [hz]
  have hzl:=aF9 hn.1 hn.2
  have hz0:[]++mZ (zz n)=bA n:=rfl
  generalize zz n=z at hzl hz0
  refine cL 1 (fun p:Dm × Nat × Nat=>[(3,.c (nv p.2.2)),(4,.own 0 0 p.2.1 1 true)]) (fun p=>[(0,.row 5 (u8c p.1))]) [] (fun p=>p.1.length=p.2.1/\p.1++mZ p.2.2=bA n/\p.2.2<18446744073709551616) (fun p=>p.2.2) ([],0,z) ⟨rfl,hz0,hzl⟩ eH ?_
  rintro ⟨l,m,x⟩ ⟨hl,he,hx⟩ K hK hX
  dsimp only at hl he hx hK ⊢
  have hul:(u8c l).length=m:=by rw [aH,hl]
  obtain ⟨hk1,hk2,hk3⟩:=aB3 hn he hl hk
  by_cases hlt:x<128
  ·repeat' (first|(refine aC ?_;intro K hK hX)|refine wZ ?_|(refine aG hK hX ?_;clear hK hX K)|fail)
   rw [kS hlt] at he hk1
   have e1:m+1=k:=by simpa using hk1
   rw [e1,show u8c l++[[CV.v (.int .u8 (x:Int))]].flatten=u8c (bA n) from by rw [<- he];exact rX l x hlt]
   exact aY
  ·repeat' (first|(refine aC ?_;intro K hK hX)|refine dM6 ?_|(refine aG hK hX ?_;clear hK hX K)|fail)
   rw [nC hlt] at he
   refine ⟨(l++[UInt8.ofNat (x%128+128)],m+1,x / 128),⟨by simp [hl],by simpa using he,by simp only;omega⟩,by simp only;omega,?_⟩
   exact dO5
 ·have hz:=cW7 hn h0
  refine aD aB (sz:=29) Tryz.func126 rfl (by rw [Tryz.ntmps126];rfl) ?_
  repeat' (first|(refine aC ?_;intro K hK hX)|refine wZ ?_|(refine aG hK hX ?_;clear hK hX K)|fail)
  rw [hz]
  have hzl:=aF9 hn.1 hn.2
  have hz0:[]++mZ (zz n)=bA n:=rfl
  generalize zz n=z at hzl hz0
  refine cL 1 (fun p:Dm × Nat × Nat=>[(3,.c (nv p.2.2)),(4,.own 0 0 p.2.1 1 true)]) (fun p=>[(0,.row 5 (u8c p.1))]) [] (fun p=>p.1.length=p.2.1/\p.1++mZ p.2.2=bA n/\p.2.2<18446744073709551616) (fun p=>p.2.2) ([],0,z) ⟨rfl,hz0,hzl⟩ eH ?_
  rintro ⟨l,m,x⟩ ⟨hl,he,hx⟩ K hK hX
  dsimp only at hl he hx hK ⊢
  have hul:(u8c l).length=m:=by rw [aH,hl]
  obtain ⟨hk1,hk2,hk3⟩:=aB3 hn he hl hk
  by_cases hlt:x<128
  ·repeat' (first|(refine aC ?_;intro K hK hX)|refine wZ ?_|(refine aG hK hX ?_;clear hK hX K)|fail)
   rw [kS hlt] at he hk1
   have e1:m+1=k:=by simpa using hk1
   rw [e1,show u8c l++[[CV.v (.int .u8 (x:Int))]].flatten=u8c (bA n) from by rw [<- he];exact rX l x hlt]
   exact aY
  ·repeat' (first|(refine aC ?_;intro K hK hX)|refine dM6 ?_|(refine aG hK hX ?_;clear hK hX K)|fail)
   rw [nC hlt] at he
   refine ⟨(l++[UInt8.ofNat (x%128+128)],m+1,x / 128),⟨by simp [hl],by simpa using he,by simp only;omega⟩,by simp only;omega,?_⟩
   exact dO5
theorem uP (ns:List Int) (k:Nat) (hk:ns.length=k) (hns:∀n∈ns,aT n) (m':Nat) (hm':(ns.flatMap bA).length=m') (hb:m'<=1000000):qC' 128 [.sl 1 k (dE .i64 ns)] (.own 0 0 m' 1 true) [(0,.row 5 (u8c (ns.flatMap bA)))] 1:=by
 have hkb:k<=1000000:=by
  have:=sA (f:=bA) (fun a=>kY (zz a)) ns
  omega
 have hil:(dE .i64 ns).length=k:=by rw [fF,hk]
 have hmono:=uA (f:=bA) ns
 refine aD aB (sz:=20) Tryz.func128 rfl (by rw [Tryz.ntmps128];rfl) ?_
 repeat' (first|(refine aC ?_;intro K hK hX)|refine wZ ?_|(refine aG hK hX ?_;clear hK hX K)|fail)
 refine cL 1 (fun p:Nat × Dm × Nat=>[(0,.c (.sl 1 k (dE .i64 ns))),(3,.own 0 0 p.2.2 1 true),(4,.c (iv p.1))]) (fun p=>[(0,.row 5 (u8c p.2.1))]) [] (fun p=>p.1<=k/\p.2.1.length=p.2.2/\p.2.1=(ns.take p.1).flatMap bA) (fun p=>k-p.1) (0,[],0) ⟨by omega,rfl,by simp⟩ eH ?_
 rintro ⟨i,q,w⟩ ⟨hi,hql,hq⟩ K hK hX
 dsimp only at hi hql hq hK ⊢
 have hulq:=u8l hql
 by_cases hlt:i<k
 ·obtain ⟨n,hat⟩:∃n,ns[i]? = some n:=⟨_,Ab aA⟩
  have hn:=hns n (Af hat)
  have hx:=cM1 hat
  have hst:q++bA n=(ns.take (i+1)).flatMap bA:=by rw [hq,kP hat]
  have hmo:=hmono (i+1)
  rw [<- hst,Aa] at hmo
  obtain ⟨j,hj⟩:∃j,(bA n).length=j:=⟨_,rfl⟩
  have i1:=jA n hn j hj
  have hulj:=u8l hj
  repeat' (first|(refine aC ?_;intro K hK hX)|refine aK [0,2,3,4] ?_|(refine dK ?_;refine c1 i1 ?_)|refine eJ ?_|refine stA ?_|(refine aG hK hX ?_;clear hK hX K)|fail)
  exact ⟨(i+1,q++bA n,w+j),⟨by omega,by rw [Aa,hql,hj],hst⟩,by simp only;omega,cE7⟩
 ·have hik:i=k:=by omega
  have hq':q=ns.flatMap bA:=by rw [hq,Ad aA]
  have hwm:w=m':=by rw [<- hql,hq',hm']
  repeat' (first|(refine aC ?_;intro K hK hX)|refine wZ ?_|(refine aG hK hX ?_;clear hK hX K)|fail)
  rw [<- hq',<- hwm]
  exact aY
theorem eB8 (a:Int) (ha:aT a) (m':Nat) (hm':(bA a).length=m') (hb:m'<=1000000):qC' 128 [.sl 1 1 [iv a]] (.own 0 0 m' 1 true) [(0,.row 5 (u8c (bA a)))] 1:=by
 have:=uP [a] 1 rfl (by simp;exact ha) m' qM hb
 simpa [dE] using this
theorem bH5 (a b:Int) (ha:aT a) (hb':aT b) (m':Nat) (hm':(bA a++bA b).length=m') (hb:m'<=1000000):qC' 128 [.sl 1 2 [iv a,iv b]] (.own 0 0 m' 1 true) [(0,.row 5 (u8c (bA a++bA b)))] 1:=by
 have:=uP [a,b] 2 rfl (by simp;exact ⟨ha,hb'⟩) m' qM hb
 rw [show [a,b].flatMap bA=bA a++bA b by simp] at this
 exact this
theorem bH6 (a b c:Int) (ha:aT a) (hb':aT b) (hc:aT c) (m':Nat) (hm':(bA a++(bA b++bA c)).length=m') (hb:m'<=1000000):qC' 128 [.sl 1 3 [iv a,iv b,iv c]] (.own 0 0 m' 1 true) [(0,.row 5 (u8c (bA a++(bA b++bA c))))] 1:=by
 have:=uP [a,b,c] 3 rfl (by simp;exact ⟨ha,hb',hc⟩) m' qM hb
 rw [show [a,b,c].flatMap bA=bA a++(bA b++bA c) by simp] at this
 exact this
theorem eB9 (a b c d:Int) (ha:aT a) (hb':aT b) (hc:aT c) (hd:aT d) (m':Nat) (hm':(bA a++(bA b++(bA c++bA d))).length=m') (hb:m'<=1000000):qC' 128 [.sl 1 4 [iv a,iv b,iv c,iv d]] (.own 0 0 m' 1 true) [(0,.row 5 (u8c (bA a++(bA b++(bA c++bA d)))))] 1:=by
 have:=uP [a,b,c,d] 4 rfl (by simp;exact ⟨ha,hb',hc,hd⟩) m' qM hb
 rw [show [a,b,c,d].flatMap bA=bA a++(bA b++(bA c++bA d)) by simp] at this
 exact this
theorem aD7 (s:Dm) (m':Nat) (hm':(mO s).length=m') (hb:m'<=1000000):qC' 219 [sv s] (.own 0 0 m' 1 true) [(0,.row 5 (u8c (mO s)))] 1:=by
 obtain ⟨q,hq⟩:∃q,s.length=q:=⟨_,rfl⟩
 obtain ⟨j,hj⟩:∃j,(bA (q:Int)).length=j:=⟨_,rfl⟩
 have e:mO s=bA (q:Int)++s:=by rw [mO,hq]
 have hjq:j+q=m':=by rw [<- hm',e,Aa,hj,hq]
 have i1:=jA (q:Int) ⟨by omega,by omega⟩ j hj
 have hulj:=u8l hj
 rw [e]
 refine aD aB (sz:=8) Tryz.func219 rfl (by rw [Tryz.ntmps219];rfl) ?_
 repeat' (first|(refine aC ?_;intro K hK hX)|refine aK [0,2] ?_|((with_reducible refine wG ?_);refine wV aB aE rfl rfl rfl rfl rfl rfl rfl rfl rfl rfl dQ8 rfl (by first|with_reducible assumption|omega) nA dQ9 ?_)|(refine dK ?_;refine c1 i1 ?_)|(((with_reducible refine bP ?_);refine xA ?_);(first|((with_reducible refine aV6 ?_);(first|refine aL (bI5 aB rfl rfl hq rfl) ?_))))|refine stA ?_|(refine aG hK hX ?_;clear hK hX K)|fail)
 rw [<- bI,hjq]
 exact aY
theorem aZ6 (v:Vl) (m':Nat) (hm':(lI (clV v)).length=m') (hb:m'<=1000000):qC' 220 [.agg v.c] (.own 0 0 m' 1 true) [(0,.row 5 (u8c (lI (clV v))))] 1:=by
 have hcl:=bX5 v
 have hok:=aJ5 v
 generalize clV v=u at hcl hok hm' ⊢
 obtain ⟨k,n,t⟩:=u
 obtain ⟨k0,n0,t0⟩:=v
 rcases hok with ⟨h1,h2,h3⟩|⟨h1,h2,h2',h3⟩|⟨h1,h2,h3⟩<;>simp only at h1 h2 h3<;>subst h1
 ·obtain ⟨j,hj⟩:∃j,(bA 0).length=j:=⟨_,rfl⟩
  have hulj:=u8l hj
  have i1:=jA 0 ⟨by decide,by decide⟩ j hj
  have e:lI ⟨0,n,t⟩=bA 0:=by simp [lI]
  rw [e] at hm' ⊢
  have hjm:j=m':=by omega
  refine aD aB (sz:=26) Tryz.func220 rfl (by rw [Tryz.ntmps220];rfl) ?_
  repeat' (first|(refine aC ?_;intro K hK hX)|refine aK [0,1,2,3] ?_|(refine dK ?_;first|refine c0 hcl ?_|refine c1 i1 ?_)|refine stA ?_|(refine aG hK hX ?_;clear hK hX K)|fail)
  rw [hjm]
  exact aY
 ·obtain ⟨j,hj⟩:∃j,(bA 1).length=j:=⟨_,rfl⟩
  have hulj:=u8l hj
  have i1:=jA 1 ⟨by decide,by decide⟩ j hj
  have e:lI ⟨1,n,t⟩=bA 1++bA n:=by simp [lI]
  rw [e] at hm' ⊢
  obtain ⟨w,hw⟩:∃w,(bA n).length=w:=⟨_,rfl⟩
  have hulw:=u8l hw
  have i2:=jA n ⟨by omega,by simp only at h2';omega⟩ w hw
  have hjm:j+w=m':=by rw [<- hm',Aa,hj,hw]
  refine aD aB (sz:=26) Tryz.func220 rfl (by rw [Tryz.ntmps220];rfl) ?_
  repeat' (first|(refine aC ?_;intro K hK hX)|refine cC9 ?_|(refine aG hK hX ?_;clear hK hX K)|fail)
  rw [<- bI,hjm]
  exact aY
 ·obtain ⟨j,hj⟩:∃j,(bA 2).length=j:=⟨_,rfl⟩
  have hulj:=u8l hj
  have i1:=jA 2 ⟨by decide,by decide⟩ j hj
  have e:lI ⟨2,n,t⟩=bA 2++mO t:=by simp [lI]
  rw [e] at hm' ⊢
  obtain ⟨w,hw⟩:∃w,(mO t).length=w:=⟨_,rfl⟩
  have hulw:=u8l hw
  have hjm:j+w=m':=by rw [<- hm',Aa,hj,hw]
  have i2:=aD7 t w hw aA
  refine aD aB (sz:=26) Tryz.func220 rfl (by rw [Tryz.ntmps220];rfl) ?_
  repeat' (first|(refine aC ?_;intro K hK hX)|refine cC9 ?_|(refine aG hK hX ?_;clear hK hX K)|fail)
  rw [<- bI,hjm]
  exact aY
theorem sG (i:Idf) (m':Nat) (hm':(eA i).length=m') (hb:m'<=1000000):qC' 165 [.agg i.cs] (.own 0 0 m' 1 true) [(0,.row 5 (u8c (eA i)))] 1:=by
 obtain ⟨j,hj⟩:∃j,(mO i.ns).length=j:=⟨_,rfl⟩
 obtain ⟨w,hw⟩:∃w,(lI (clV i.v)).length=w:=⟨_,rfl⟩
 have hjm:j+w=m':=by rw [<- hm',eA,Aa,hj,hw]
 have i1:=aD7 i.ns j hj aA
 have i2:=aZ6 i.v w hw aA
 have hulj:=u8l hj
 have hulw:=u8l hw
 rw [eA]
 obtain ⟨ns,k,n,t⟩:=i
 dsimp only [Idf.cs,Vl.c] at *
 refine aD aB (sz:=10) Tryz.func165 rfl (by rw [Tryz.ntmps165];rfl) ?_
 repeat' (first|(refine aC ?_;intro K hK hX)|refine fB [0,1,2] ?_|(refine iK ?_;first|refine c1 i1 ?_|refine c1 i2 ?_)|refine stA ?_|refine stE ?_|(refine aG hK hX ?_;clear hK hX K)|fail)
 rw [<- bI,hjm]
 exact aY
end
end Go.Proofs.YtbgehdndimlgkaaGreat
