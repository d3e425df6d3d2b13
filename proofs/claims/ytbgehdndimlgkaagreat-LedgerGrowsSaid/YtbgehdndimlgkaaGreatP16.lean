/- Lemmas for laws of the ledger. -/
import Derived.Test.YtbgehdndimlgkaaGreatP13
set_option linter.all false
set_option maxHeartbeats 16000000
namespace Go.Proofs.YtbgehdndimlgkaaGreat
open Go Go.RowKit Go.Av
set_option maxRecDepth 100000
section
def rsC (s:RS):D8:=[.sl 1 s.b.length (u8c s.b),iv s.e]
theorem eB9:∀(b:Dr) (i x:Nat) (u:Nat) (r:Dr),i<=9->x<128 ^ i->pU i x b=some (u,r)->u<18446744073709551616
 | [],i,x,u,r,_,_,h=>by cases h
 | c::b,i,x,u,r,hi,hx,h=>by
  have hc:=c.toNat_lt
  rw [pU] at h
  split at h
  ·cases h
  ·rename_i hb
   have hp:128 ^ i<=128 ^ 9:=Ci aN hi
   have e9:(128:Nat) ^ 9=9223372036854775808:=by decide
   split at h
   ·rename_i hlt
    injection h with h;injection h with e1 e2
    subst e1
    by_cases h9:i=9
    ·subst h9
     have:c.toNat<=1:=by omega
     have:=Bl (128 ^ 9) this
     omega
    ·have hp8:128 ^ i<=128 ^ 8:=Ci aN aA
     have e8:(128:Nat) ^ 8=72057594037927936:=by decide
     have:=Nat.mul_le_mul (show c.toNat<=127 by omega) hp8
     omega
   ·rename_i hge
    have h9:i≠9:=fun e=>by omega
    refine eB9 b (i+1) _ u r aA ?_ h
    have:c.toNat%128*128 ^ i<=127*128 ^ i:=Bl _ aA
    rw [CG]
    omega
theorem eN1 {u:Nat} (h:u<18446744073709551616):aS (uz u):=by
 unfold uz aS
 split<;>omega
theorem eB0:aS 0:=⟨by decide,by decide⟩
theorem bE7 (s:RS):aS (bX s).1:=by
 unfold bX
 split
 ·exact eB0
 ·cases h:dM s.b with
  | none=>exact eB0
  | some p =>
   unfold dM at h
   obtain ⟨q,hq,he⟩:=Aq.1 h
   obtain ⟨u,r⟩:=q
   subst he
   exact eN1 (eB9 s.b 0 0 u r aA aT hq)
section
variable {P:D0} {tab:Tab} {ev:Evl} {h:aQ} {d:Dy} {T ty T':Dz} {x y:Operand} {pos:String} {aft:Dx} {gd:Ds}
theorem bG3 {b:Nat} (hb:b<256) (hx:ev x=some (.c (.v (.int .u8 (b:Int))))) (hy:ev y=some (.c (.v (.int .u8 127)))):Still P ⟨d,.binOp .and T x y T',ty,pos,aft,gd⟩ ev h (.c (.v (.int .u8 ((b%128:Nat):Int)))) :=
 aI4 hx hy (by
  have key:∀b:Fin 256,IntKind.u8.wrap ((BitVec.ofInt 8 ((b.val:Nat):Int) &&& BitVec.ofInt 8 127).toNat:Int)=((b.val%128:Nat):Int):=by decide +kernel
  exact key ⟨b,hb⟩)
theorem bG5 {b:Nat} (hb:b<256) (hx:ev x=some (.c (.v (.int .u8 (b:Int))))) (hy:ev y=some (.c (.v (.int .u8 128)))):Still P ⟨d,.binOp .rem T x y T',ty,pos,aft,gd⟩ ev h (.c (.v (.int .u8 ((b%128:Nat):Int)))) :=
 zI hx hy aN (by
  rw [Cu aA]
  omega)
theorem dG4 {b:Nat} (h:b<18446744073709551616):(BitVec.ofInt 64 (b:Int)).toNat=b:=by
 rw [Cd]
 omega
theorem cZ9 {b:Nat} (hb:b<18446744073709551616) (hx:ev x=some (.c (nv b))) (hy:ev y=some (.c (.v (.int .u64 1)))):Still P ⟨d,.binOp .and T x y T',ty,pos,aft,gd⟩ ev h (.c (nv (b%2))) :=
 aI4 hx hy (by
  show IntKind.u64.wrap ((BitVec.ofInt 64 (b:Int) &&& BitVec.ofInt 64 1).toNat:Int)=_
  rw [Dh,dG4 hb,show (BitVec.ofInt 64 1).toNat=1 by decide,Nat.and_one_is_mod]
  exact wG aA aA)
theorem aX2 {b q:Nat} {k:D3} {Y:Int} (hx:ev x=some (.c (nv b))) (hy:ev y=some (.c (.v (.int k Y)))) (hY:Y=(q:Int)) (hq:q<64) (hb:b*2 ^ q<18446744073709551616):Still P ⟨d,.binOp .shl T x y T',ty,pos,aft,gd⟩ ev h (.c (nv (b*2 ^ q))) :=
 bG8 hx hy aA (by
  subst hY
  have e:min ((q:Int).toNat) IntKind.u64.bits=q:=by
   show min ((q:Int).toNat) 64=q
   omega
  rw [e]
  have e2:((b:Int)*2 ^ q)=((b*2 ^ q:Nat):Int):=by push_cast;rfl
  rw [e2]
  exact wG aA aA)
theorem bX4 {a c q u:Nat} (ha:a<2 ^ q) (hu:a+c*2 ^ q=u) (hs:u<18446744073709551616) (hx:ev x=some (.c (nv a))) (hy:ev y=some (.c (nv (c*2 ^ q)))):Still P ⟨d,.binOp .or T x y T',ty,pos,aft,gd⟩ ev h (.c (nv u)) :=
 cF7 hx hy (by
  subst hu
  show IntKind.u64.wrap ((BitVec.ofInt 64 (a:Int) ||| BitVec.ofInt 64 ((c*2 ^ q:Nat):Int)).toNat:Int)=_
  rw [BitVec.toNat_or,dG4 aA,dG4 aA,Nat.or_comm,<- C6,<- Nat.shiftLeft_add_eq_or_of_lt ha,C6,CX]
  exact wG aA aA)
theorem dA1 {n:Int} (hn:aS n) (hx:ev x=some (.c (iv n))):Still P ⟨d,.unOp .xor T x,ty,pos,aft,gd⟩ ev h (.c (iv (-n-1))) :=
 tN hx (by
  show IntKind.i64.wrap ((BitVec.ofInt 64 (if IntKind.i64.signed then -1 else IntKind.i64.max) ^^^ BitVec.ofInt 64 n).toNat:Int)=_
  have e:BitVec.ofInt 64 (if IntKind.i64.signed then -1 else IntKind.i64.max)=BitVec.allOnes 64:=by decide
  rw [e,Da,Dg,Cd,IntKind.wrap_i64]
  obtain ⟨h1,h2⟩:=hn
  omega)
theorem dA2 {b:Nat} (hb:b<18446744073709551616) (hx:ev x=some (.c (nv b))):Still P ⟨d,.unOp .xor T x,ty,pos,aft,gd⟩ ev h (.c (nv (18446744073709551615-b))) :=
 tN hx (by
  show IntKind.u64.wrap ((BitVec.ofInt 64 (if IntKind.u64.signed then -1 else IntKind.u64.max) ^^^ BitVec.ofInt 64 (b:Int)).toNat:Int)=_
  have e:BitVec.ofInt 64 (if IntKind.u64.signed then -1 else IntKind.u64.max)=BitVec.allOnes 64:=by decide
  rw [e,Da,Dg,dG4 hb]
  rw [show (2 ^ 64-1-b:Nat)=18446744073709551615-b by omega]
  exact wG aA aA)
end
attribute [local irreducible] Still Adds AWL AW Drw bY bW AC AWR cR Frz Go.Av.Src cQ Out InK ItK AsK RdK eL eF ACT ACA eT
attribute [local simp] bV bU bM
theorem eN0 {l:Dr} {i:Nat} {c:UInt8} (h:l[i]? = some c):(u8c l)[i]? = some (.v (.int .u8 (c.toNat:Int))):=by simp [u8c,h]
theorem xH {l:Dr} {i:Nat} {c:UInt8} (h:l[i]? = some c):l.drop i=c::l.drop (i+1):=by
 obtain ⟨h1,h2⟩:=Ag.1 h
 rw [BB h1,h2]
structure AtI (b:Dr) (i x:Nat):Prop where
 p:pU 0 0 b=pU i x (b.drop i)
 e:eU 0 b=eU i (b.drop i)
 x:x<128 ^ i
 i:i<=9
theorem AtI.init (b:Dr):AtI b 0 0:=⟨rfl,rfl,by simp,by omega⟩
section
variable {b:Dr} {i x:Nat} (h:AtI b i x)
include b i x h
theorem AtI.none (hi:b.length<=i):bX ⟨b,0⟩=(0,⟨b,100⟩):=by
 have e1:b.drop i=[]:=AG hi
 have e2:=h.p
 have e3:=h.e
 rw [e1] at e2 e3
 simp only [bX,dM,e2,pU,CT,e3,eU,ne_eq,B0,AS]
theorem AtI.bad {c:UInt8} (hc:b[i]? = some c) (hb:(i=9/\1<c.toNat)\/(0<i/\c.toNat=0)):bX ⟨b,0⟩=(0,⟨b,1⟩):=by
 have e2:=h.p
 have e3:=h.e
 rw [xH hc] at e2 e3
 rw [pU,Ak hb] at e2
 rw [eU,Ak hb] at e3
 simp only [bX,dM,e2,CT,e3,ne_eq,B0,AS]
theorem AtI.last {c:UInt8} (hc:b[i]? = some c) (hb:¬((i=9/\1<c.toNat)\/(0<i/\c.toNat=0))) (hl:c.toNat<128):bX ⟨b,0⟩=(uz (x+c.toNat*2 ^ (7*i)),⟨b.drop (i+1),0⟩):=by
 have e2:=h.p
 rw [xH hc] at e2
 rw [pU,Ai hb,Ak hl] at e2
 have:(128:Nat) ^ i=2 ^ (7*i):=by rw [Nat.pow_mul]
 simp only [bX,dM,e2,Bi,ne_eq,B0,AS,this]
theorem AtI.next {c:UInt8} (hc:b[i]? = some c) (hb:¬((i=9/\1<c.toNat)\/(0<i/\c.toNat=0))) (hl:¬c.toNat<128):AtI b (i+1) (x+c.toNat%128*2 ^ (7*i)):=by
 have e2:=h.p
 have e3:=h.e
 rw [xH hc] at e2 e3
 rw [pU,Ai hb,Ai hl] at e2
 rw [eU,Ai hb,Ai hl] at e3
 have e4:(128:Nat) ^ i=2 ^ (7*i):=by rw [Nat.pow_mul]
 have hi:=h.i
 have hx:=h.x
 have hc2:=c.toNat_lt
 refine ⟨by rw [e2,e4],e3,?_,by omega⟩
 rw [CG,<- e4]
 have:c.toNat%128*128 ^ i<=127*128 ^ i:=Bl _ aA
 omega
theorem AtI.size {c:UInt8} (hc:b[i]? = some c) (hb:¬((i=9/\1<c.toNat)\/(0<i/\c.toNat=0))):x<2 ^ (7*i)/\x+c.toNat%128*2 ^ (7*i)<18446744073709551616:=by
 have e4:(128:Nat) ^ i=2 ^ (7*i):=by rw [Nat.pow_mul]
 have hi:=h.i
 have hx:=h.x
 refine ⟨by rw [<- e4];exact hx,?_⟩
 rw [<- e4]
 by_cases h9:i=9
 ·subst h9
  have e9:(128:Nat) ^ 9=9223372036854775808:=by decide
  have:c.toNat%128<=1:=by omega
  have:=Bl (128 ^ 9) this
  omega
 ·have hp8:128 ^ i<=128 ^ 8:=Ci aN aA
  have e8:(128:Nat) ^ 8=72057594037927936:=by decide
  have:=Nat.mul_le_mul (show c.toNat%128<=127 by omega) hp8
  omega
end
end
section
attribute [local irreducible] Still Adds AWL AW Drw bY bW AC AWR cR Frz Go.Av.Src cQ Out InK ItK AsK RdK eL eF ACT ACA eT
attribute [local simp] bV bU bM
theorem eH3 (s:RS) (hb:s.b.length<=1000000000):ACT Tryz.prog 163 194 (rsC s) [] (rsC (bX s).2) (iv (bX s).1):=by
 obtain ⟨b,e⟩:=s
 dsimp only at hb
 obtain ⟨n,hn⟩:∃n,b.length=n:=⟨_,rfl⟩
 by_cases he:e=0
 ·subst he
  have hul:=u8l hn
  obtain ⟨R,hR⟩:∃R,bX ⟨b,0⟩=R:=⟨_,rfl⟩
  rw [hR]
  unfold rsC
  dsimp only
  rw [hn] at hb ⊢
  refine bC aB (sz:=75) Tryz.func163 rfl (by rw [Tryz.ntmps163];rfl) ?_
  repeat' (first|(refine aC ?_;intro K hK hX)|refine aC2 ?_|(refine aE hK hX ?_;clear hK hX K)|fail)
  refine cN 1 (fun p:Nat × Nat=>[(0,.ref 0 0),(3,.c (nv p.2)),(4,.c (iv p.1))]) (fun p=>[(0,.blk 194 [.c (.sl 1 n (u8c b)),.c (iv 0)])]) [(none,[.ref 0 0])] (fun p=>AtI b p.1 p.2) (fun p=>10-p.1) (0,0) (AtI.init b) eS ?_
  rintro ⟨i,x⟩ hat K hK hX
  dsimp only at hat hK ⊢
  have hi9:=hat.i
  by_cases hlt:i<n
  ·obtain ⟨c,hc⟩:∃c,b[i]? = some c:=⟨_,Ab aA⟩
   have hcc:=eN0 hc
   have hcl:=c.toNat_lt
   by_cases hbad:(i=9/\1<c.toNat)\/(0<i/\c.toNat=0)
   ·have hres:=hat.bad hc hbad
    rw [hR] at hres
    by_cases h9:i=9/\1<c.toNat
    ·obtain ⟨h9,h1⟩:=h9
     repeat' (first|(refine aC ?_;intro K hK hX)|refine aL [0,1,2,3,4,5,6] ?_|((first|with_reducible refine aF ?_|with_reducible refine bD ?_);refine cA aB (List.range 75) aG rfl rfl zby Tryz.func216 rfl rfl rfl (szf:=13) nD rfl ?_)|refine eW ?_|refine stA ?_|(refine aE hK hX ?_;clear hK hX K)|fail|(first|refine bO zio ztr rfl rfl ResL.none ?_|refine bN zio ztr rfl rfl ResL.none ?_))
     rw [hres]
     dsimp only
     rw [hn]
     exact dX
    ·have h2:0<i/\c.toNat=0:=hbad.resolve_left h9
     obtain ⟨h2,h3⟩:=h2
     by_cases h4:i=9
     ·repeat' (first|(refine aC ?_;intro K hK hX)|refine aL [0,1,2,3,4,5,6] ?_|((first|with_reducible refine aF ?_|with_reducible refine bD ?_);refine cA aB (List.range 75) aG rfl rfl zby Tryz.func216 rfl rfl rfl (szf:=13) nD rfl ?_)|refine eW ?_|refine stA ?_|(refine aE hK hX ?_;clear hK hX K)|fail|(first|refine bO zio ztr rfl rfl ResL.none ?_|refine bN zio ztr rfl rfl ResL.none ?_))
      rw [hres]
      dsimp only
      rw [hn]
      exact dX
     ·repeat' (first|(refine aC ?_;intro K hK hX)|refine aL [0,1,2,3,4,5,6] ?_|((first|with_reducible refine aF ?_|with_reducible refine bD ?_);refine cA aB (List.range 75) aG rfl rfl zby Tryz.func216 rfl rfl rfl (szf:=13) nD rfl ?_)|refine eW ?_|refine stA ?_|(refine aE hK hX ?_;clear hK hX K)|fail|(first|refine bO zio ztr rfl rfl ResL.none ?_|refine bN zio ztr rfl rfl ResL.none ?_))
      rw [hres]
      dsimp only
      rw [hn]
      exact dX
   ·obtain ⟨hsx,hss⟩:=hat.size hc hbad
    by_cases hl:c.toNat<128
    ·have hres:=hat.last hc hbad hl
     rw [hR] at hres
     have hcm:c.toNat%128=c.toNat:=BH hl
     have hsh:c.toNat%128*2 ^ (7*i)<18446744073709551616:=by omega
     have hbl:(b.drop (i+1)).length=n-(i+1):=by rw [A0,hn]
     have h7:(7:Int)*(i:Int)=((7*i:Nat):Int):=by push_cast;rfl
     have h63:7*i<64:=by omega
     have hc8:c.toNat<256:=hcl
     rw [<- hcm] at hres
     obtain ⟨u,hu⟩:∃u,x+c.toNat%128*2 ^ (7*i)=u:=⟨_,rfl⟩
     rw [hu] at hss hres
     have hu64:aS ((u / 2 ^ 1:Nat):Int):=⟨by omega,by omega⟩
     have hcs:(i=9/\c.toNat=1)\/i=0\/(i≠9/\i≠0/\c.toNat≠0):=by omega
     have hcell:List.take ((n-(i+1))*1) (List.drop ((i+1)*1) (u8c b))=u8c (b.drop (i+1)):=by rw [A9,A9,bU,Ae (by rw [aH,hbl];exact Ah _)]
     rcases hcs with ⟨q1,q2⟩|q1|⟨q1,q2,q3⟩
     ·skip
      by_cases hodd:u%2=1
      ·have hz:uz u = -((u / 2 ^ 1:Nat):Int)-1:=by unfold uz;rw [Ak hodd]
       repeat' (first|(refine aC ?_;intro K hK hX)|refine cA7 ?_|(refine aE hK hX ?_;clear hK hX K)|fail)
       rw [hres]
       dsimp only
       rw [hbl,hz,hcell]
       exact dX
      ·have hz:uz u=((u / 2 ^ 1:Nat):Int):=by unfold uz;rw [Ai hodd]
       repeat' (first|(refine aC ?_;intro K hK hX)|refine cA7 ?_|(refine aE hK hX ?_;clear hK hX K)|fail)
       rw [hres]
       dsimp only
       rw [hbl,hz,hcell]
       exact dX
     ·skip
      by_cases hodd:u%2=1
      ·have hz:uz u = -((u / 2 ^ 1:Nat):Int)-1:=by unfold uz;rw [Ak hodd]
       repeat' (first|(refine aC ?_;intro K hK hX)|refine cA7 ?_|(refine aE hK hX ?_;clear hK hX K)|fail)
       rw [hres]
       dsimp only
       rw [hbl,hz,hcell]
       exact dX
      ·have hz:uz u=((u / 2 ^ 1:Nat):Int):=by unfold uz;rw [Ai hodd]
       repeat' (first|(refine aC ?_;intro K hK hX)|refine cA7 ?_|(refine aE hK hX ?_;clear hK hX K)|fail)
       rw [hres]
       dsimp only
       rw [hbl,hz,hcell]
       exact dX
     ·skip
      by_cases hodd:u%2=1
      ·have hz:uz u = -((u / 2 ^ 1:Nat):Int)-1:=by unfold uz;rw [Ak hodd]
       repeat' (first|(refine aC ?_;intro K hK hX)|refine cA7 ?_|(refine aE hK hX ?_;clear hK hX K)|fail)
       rw [hres]
       dsimp only
       rw [hbl,hz,hcell]
       exact dX
      ·have hz:uz u=((u / 2 ^ 1:Nat):Int):=by unfold uz;rw [Ai hodd]
       repeat' (first|(refine aC ?_;intro K hK hX)|refine cA7 ?_|(refine aE hK hX ?_;clear hK hX K)|fail)
       rw [hres]
       dsimp only
       rw [hbl,hz,hcell]
       exact dX
    ·have hnx:=hat.next hc hbad hl
     have hsh:c.toNat%128*2 ^ (7*i)<18446744073709551616:=by omega
     have h7:(7:Int)*(i:Int)=((7*i:Nat):Int):=by push_cast;rfl
     have h63:7*i<64:=by omega
     have hc8:c.toNat<256:=hcl
     obtain ⟨u,hu⟩:∃u,x+c.toNat%128*2 ^ (7*i)=u:=⟨_,rfl⟩
     rw [hu] at hss hnx
     have hcs:i=0\/(i≠9/\i≠0/\c.toNat≠0):=by omega
     rcases hcs with q1|⟨q1,q2,q3⟩
     ·repeat' (first|(refine aC ?_;intro K hK hX)|refine dS9 ?_|(refine aE hK hX ?_;clear hK hX K)|fail)
      exact ⟨(i+1,u),hnx,by simp only;omega,eS⟩
     ·repeat' (first|(refine aC ?_;intro K hK hX)|refine dS9 ?_|(refine aE hK hX ?_;clear hK hX K)|fail)
      exact ⟨(i+1,u),hnx,by simp only;omega,eS⟩
  ·have hres:=hat.none (show b.length<=i by omega)
   rw [hR] at hres
   repeat' (first|(refine aC ?_;intro K hK hX)|refine aL [0,1,2,3,4,5,6] ?_|((first|with_reducible refine aF ?_|with_reducible refine bD ?_);refine cA aB (List.range 75) aG rfl rfl zby Tryz.func216 rfl rfl rfl (szf:=13) nD rfl ?_)|refine stA ?_|(refine aE hK hX ?_;clear hK hX K)|fail|(first|refine bO zio ztr rfl rfl ResL.none ?_|refine bN zio ztr rfl rfl ResL.none ?_))
   rw [hres]
   dsimp only
   rw [hn]
   exact dX
 ·have hres:bX ⟨b,e⟩=(0,⟨b,e⟩):=by unfold bX;rw [Ak he]
  rw [hres]
  unfold rsC
  dsimp only
  have hul:=u8l hn
  rw [hn] at hb ⊢
  refine bC aB (sz:=75) Tryz.func163 rfl (by rw [Tryz.ntmps163];rfl) ?_
  repeat' (first|(refine aC ?_;intro K hK hX)|refine aL [0,2,3,4,5,6] ?_|((with_reducible refine vR ?_);refine sV 2 ?_)|(refine bQ1 ?_;intro K hK hX)|refine stA ?_|(refine aE hK hX ?_;clear hK hX K)|fail)
  exact dX
end
section
section
variable {P:D0} {tab:Tab} {ev:Evl} {h:aQ} {d:Dy} {T ty:Dz} {x:Operand} {pos:String} {aft:Dx} {gd:Ds}
theorem eL4 {e e':TyE} {E n r m size:Nat} {hi mx:Operand} {cs ys:D8} (tb:bT P tab) (hT:aX tab T=some e) (hk:e.kind = .slice E) (hE:aX tab E=some e') (hs:Nat.beq e'.size size=true) (hx:ev x=some (.c (.sl size n cs))) (hhi:Bd ev n (some hi) r) (hmx:Bd ev n (some mx) m) (hrm:r<=m) (hmn:m<=n) (hys:cs.take (r*size)=ys):Still P ⟨d,.slice T x none (some hi) (some mx),ty,pos,aft,gd⟩ ev h (.c (.sl size r ys)):=by
 intro B dom M H w a hh hc he
 have h1:=he x _ hx
 have hsz:=(aM tb hE).sizeOf w
 rw [Af hs] at hsz
 have hund:=(aM tb hT).slice hk
 simp only [Rep,RepC] at h1
 obtain ⟨A,c,us,h3,h4,h5,h6,h7,h70,h8⟩:=h1
 have hb:=zG (P:=P) (w:=w) (c:=c) true he hhi hmx hrm aA
 have h9:=h7.take (r*size)
 rw [hys] at h9
 have hmul:r*size<=n*size:=Bl _ aA
 refine ⟨.slice A r m,?_,A,m,us.take (r*size),rfl,hrm,by omega,?_,h9,fun u hu=>h70 u (AJ hu),fun hn=>?_⟩
 ·simp [execOp,Instr.sliceAt,Instr.slice,h3,Sem.run_bind,run_underlying hund,hb,hsz]
  cases A with
  | none=>simp
  | some p=>simp [Addr.add]
 ·rw [<- hys,Ar,h6]
  omega
 ·obtain ⟨b,o,rfl,hb1,hl1,hcell⟩:=h8 aA
  refine ⟨b,o,rfl,hb1,hl1,fun j u hj=>?_⟩
  have hjk:j<r*size:=by
   rcases AF j (r*size) with h1|h1
   ·exact h1
   ·rw [AR jE] at hj;cases hj
  rw [Bg hjk] at hj
  exact hcell _ u hj
end
attribute [local irreducible] Still Adds AWL AW Drw bY bW AC AWR cR Frz Go.Av.Src cQ Out InK ItK AsK RdK eL eF ACT ACA eT
attribute [local simp] bV bU bM
def ARd (f:FuncId) (T:Dz) (args:D8) (b:Dr) (e:Int) (m:Nat) (r:CV) (s':RS):Prop :=
 ∃b' e' m',s'=⟨b',e'⟩/\ACT Tryz.prog f T [.sl 1 m (u8c b),iv e] args [.sl 1 m' (u8c b'),iv e'] r/\b'.length=m'/\m'<=m/\m'<=1000000000
theorem nR (s:RS):(bX s).2.b.length<=s.b.length:=by
 have hp:∀(b:Dr) (i x u:Nat) (r:Dr),pU i x b=some (u,r)->r.length<=b.length:=by
  intro b
  induction b with
  | nil=>intro i x u r h;cases h
  | cons c b ih =>
   intro i x u r h
   rw [pU] at h
   split at h
   ·cases h
   ·split at h
    ·injection h with h;injection h with e1 e2;subst e2;simp
    ·have:=ih _ _ _ _ h
     rw [As];omega
 unfold bX
 split
 ·exact Ah _
 ·cases h:dM s.b with
  | none=>exact Ah _
  | some p =>
   unfold dM at h
   obtain ⟨q,hq,he⟩:=Aq.1 h
   obtain ⟨u,r⟩:=q
   subst he
   exact hp _ _ _ _ _ hq
theorem iA (b:Dr) (e:Int) (m:Nat) (hm:b.length=m) (hb:m<=1000000000):∃n s',bX ⟨b,e⟩=(n,s')/\aS n/\ARd 163 194 [] b e m (iv n) s':=by
 have h:=eH3 ⟨b,e⟩ (by rw [hm];exact hb)
 have h2:=bE7 ⟨b,e⟩
 have h3:=nR ⟨b,e⟩
 generalize bX ⟨b,e⟩=R at h h2 h3
 obtain ⟨n,b',e'⟩:=R
 simp only [rsC,hm] at h h2 h3
 exact ⟨n,_,rfl,h2,b',e',_,rfl,h,rfl,h3,by omega⟩
theorem sM (lo hi : Int) (h0 : lo <= 0) (h1 : 0 <= hi) (s : RS) : lo <= (rIn lo hi s).1 /\ (rIn lo hi s).1 <= hi := by
  unfold rIn
  split
  · exact ⟨h0, h1⟩
  · rename_i hn
    by_cases he : (bX s).2.e = 0
    · have : ¬ ((bX s).1 < lo \/ hi < (bX s).1) := fun h => hn ⟨he, h⟩
      omega
    · have : (bX s).1 = 0 := by
        unfold bX at he ⊢
        split at he
        · rename_i h; rw [Ak h]
        · rename_i h
          rw [Ai h]
          cases hp : dM s.b with
          | none => rfl
          | some p => rw [hp] at he; exact absurd rfl he
      omega
theorem pJ {s:RS} (he:(bX s).2.e≠0):(bX s).1=0:=by
 unfold bX at he ⊢
 split at he
 ·rename_i h;rw [Ak h]
 ·rename_i h
  rw [Ai h]
  cases hp:dM s.b with
  | none=>rfl
  | some p=>rw [hp] at he;exact absurd rfl he
theorem nO (lo hi:Int) (b:Dr) (e:Int) (m:Nat) (hm:b.length=m) (hb:m<=1000000000):∃n s',rIn lo hi ⟨b,e⟩=(n,s')/\ARd 175 194 [iv lo,iv hi] b e m (iv n) s':=by
 obtain ⟨n,s',q1,q2,b',e',m',rfl,q3,q4,q5,q6⟩:=iA b e m hm hb
 have hz:e'≠0->n=0:=fun h=>by have:=pJ (s:=⟨b,e⟩) (by rw [q1];exact h);rwa [q1] at this
 unfold rIn
 rw [q1]
 dsimp only
 by_cases he:e'=0
 ·subst he
  by_cases h1:n<lo
  ·rw [Ak ⟨rfl,.inl h1⟩]
   refine ⟨_,_,rfl,b',1,m',rfl,?_,q4,q5,q6⟩
   refine bC aB (sz:=33) Tryz.func175 rfl aS0 ?_
   repeat' (first|(refine aC ?_;intro K hK hX)|refine aL [0,1,2,6,7] ?_|((with_reducible refine aF ?_);refine aK (q3) aG rfl zby rfl rfl rfl rfl zcv rfl ztp ?_)|((first|with_reducible refine aF ?_|with_reducible refine bD ?_);refine cA aB (List.range 33) aG rfl rfl zby Tryz.func216 rfl rfl rfl (szf:=13) nD rfl ?_)|refine stA ?_|(refine aE hK hX ?_;clear hK hX K)|fail|(first|refine bO zio ztr rfl rfl ResL.none ?_|refine bN zio ztr rfl rfl ResL.none ?_))
   exact dX
  ·by_cases h2:hi<n
   ·rw [Ak ⟨rfl,.inr h2⟩]
    refine ⟨_,_,rfl,b',1,m',rfl,?_,q4,q5,q6⟩
    refine bC aB (sz:=33) Tryz.func175 rfl aS0 ?_
    repeat' (first|(refine aC ?_;intro K hK hX)|refine aL [0,1,2,6,7] ?_|((with_reducible refine aF ?_);refine aK (q3) aG rfl zby rfl rfl rfl rfl zcv rfl ztp ?_)|((first|with_reducible refine aF ?_|with_reducible refine bD ?_);refine cA aB (List.range 33) aG rfl rfl zby Tryz.func216 rfl rfl rfl (szf:=13) nD rfl ?_)|refine stA ?_|(refine aE hK hX ?_;clear hK hX K)|fail|(first|refine bO zio ztr rfl rfl ResL.none ?_|refine bN zio ztr rfl rfl ResL.none ?_))
    exact dX
   ·rw [Ai aA]
    refine ⟨_,_,rfl,b',0,m',rfl,?_,q4,q5,q6⟩
    refine bC aB (sz:=33) Tryz.func175 rfl aS0 ?_
    repeat' (first|(refine aC ?_;intro K hK hX)|refine aL [0,1,2,6,7] ?_|((with_reducible refine aF ?_);refine aK (q3) aG rfl zby rfl rfl rfl rfl zcv rfl ztp ?_)|((first|with_reducible refine aF ?_|with_reducible refine bD ?_);refine cA aB (List.range 33) aG rfl rfl zby Tryz.func216 rfl rfl rfl (szf:=13) nD rfl ?_)|refine stA ?_|(refine aE hK hX ?_;clear hK hX K)|fail|(first|refine bO zio ztr rfl rfl ResL.none ?_|refine bN zio ztr rfl rfl ResL.none ?_))
    exact dX
 ·have:=hz he
  subst this
  rw [Ai (fun h=>he h.1)]
  refine ⟨_,_,rfl,b',e',m',rfl,?_,q4,q5,q6⟩
  refine bC aB (sz:=33) Tryz.func175 rfl aS0 ?_
  repeat' (first|(refine aC ?_;intro K hK hX)|refine aL [0,1,2,6,7] ?_|((with_reducible refine aF ?_);refine aK (q3) aG rfl zby rfl rfl rfl rfl zcv rfl ztp ?_)|((first|with_reducible refine aF ?_|with_reducible refine bD ?_);refine cA aB (List.range 33) aG rfl rfl zby Tryz.func216 rfl rfl rfl (szf:=13) nD rfl ?_)|refine stA ?_|(refine aE hK hX ?_;clear hK hX K)|fail|(first|refine bO zio ztr rfl rfl ResL.none ?_|refine bN zio ztr rfl rfl ResL.none ?_))
  exact dX
theorem aY9 (x:Int) (hx:0<=x/\x<=1000000000) (b:Dr) (e:Int) (m:Nat) (hm:b.length=m) (hb:m<=1000000000):∃l k s',rBy x.toNat ⟨b,e⟩=(l,s')/\l.length=k/\k<=m/\ARd 229 194 [iv x] b e m (.sl 1 k (u8c l)) s':=by
 have hul:=u8l hm
 unfold rBy
 dsimp only
 by_cases he:e=0
 ·subst he
  rw [Ai aT]
  by_cases h1:m<x.toNat
  ·rw [Ak aA]
   refine ⟨_,0,_,rfl,rfl,by omega,b,100,m,rfl,?_,hm,Ah _,hb⟩
   refine bC aB (sz:=44) Tryz.func229 rfl (by rw [Tryz.ntmps229];rfl) ?_
   repeat' (first|(refine aC ?_;intro K hK hX)|refine aL [0,1,4,5] ?_|((first|with_reducible refine aF ?_|with_reducible refine bD ?_);refine cA aB (List.range 44) aG rfl rfl zby Tryz.func216 rfl rfl rfl (szf:=13) nD rfl ?_)|refine stA ?_|(refine aE hK hX ?_;clear hK hX K)|fail|(first|refine bO zio ztr rfl rfl ResL.none ?_|refine bN zio ztr rfl rfl ResL.none ?_))
   exact dX
  ·rw [Ai aA]
   obtain ⟨k,hk⟩:∃k:Nat,x=(k:Int):=⟨x.toNat,by omega⟩
   subst hk
   rw [AX] at h1 ⊢
   refine ⟨_,k,_,rfl,by rw [Ar];omega,by omega,b.drop k,0,m-k,rfl,?_,by rw [A0,hm],by omega,by omega⟩
   refine bC aB (sz:=44) Tryz.func229 rfl (by rw [Tryz.ntmps229];rfl) ?_
   have hcell:(u8c b).take (k*1)=u8c (b.take k):=by rw [A9,bV]
   have hcell2:List.take ((m-k)*1) (List.drop (k*1) (u8c b))=u8c (b.drop k):=by rw [A9,A9,bU,Ae (by rw [aH,A0];omega)]
   repeat' (first|(refine aC ?_;intro K hK hX)|refine aL [0,1,4,5] ?_|((first|with_reducible refine aF ?_|with_reducible refine bD ?_);refine cA aB (List.range 44) aG rfl rfl zby Tryz.func216 rfl rfl rfl (szf:=13) nD rfl ?_)|(((with_reducible refine bL ?_);refine xA ?_);(first|((with_reducible refine iZ ?_);(first|refine aJ (eL4 aB rfl rfl rfl rfl rfl (Bd.yes rfl rfl) (Bd.yes rfl rfl) (Ah _) aA hcell) ?_))))|refine stA ?_|(refine aE hK hX ?_;clear hK hX K)|fail|(first|refine bO zio ztr rfl rfl ResL.none ?_|refine bN zio ztr rfl rfl ResL.none ?_))
   rw [hcell2]
   exact dX
 ·rw [Ak he]
  refine ⟨_,0,_,rfl,rfl,by omega,b,e,m,rfl,?_,hm,Ah _,hb⟩
  refine bC aB (sz:=44) Tryz.func229 rfl (by rw [Tryz.ntmps229];rfl) ?_
  repeat' (first|(refine aC ?_;intro K hK hX)|refine aL [0,1,4,5] ?_|((first|with_reducible refine aF ?_|with_reducible refine bD ?_);refine cA aB (List.range 44) aG rfl rfl zby Tryz.func216 rfl rfl rfl (szf:=13) nD rfl ?_)|refine stA ?_|(refine aE hK hX ?_;clear hK hX K)|fail|(first|refine bO zio ztr rfl rfl ResL.none ?_|refine bN zio ztr rfl rfl ResL.none ?_))
  exact dX
end
section
attribute [local irreducible] Still Adds AWL AW Drw bY bW AC AWR cR Frz Go.Av.Src cQ Out InK ItK AsK RdK eL eF ACT ACA eT
attribute [local simp] bV bU bM
theorem bX7 (most:Int) (h0:0<=most) (h1:most<=1000000) (b:Dr) (e:Int) (m:Nat) (hm:b.length=m) (hb:m<=1000000000):∃r s',rTx most ⟨b,e⟩=(r,s')/\ARd 248 194 [iv most] b e m (sv r) s':=by
 obtain ⟨n1,s1,q1,b1,e1,m1,rfl,a1,l1,d1,c1'⟩:=nO 0 most b e m hm hb
 have hbd:=sM 0 most (Int.le_refl _) h0 ⟨b,e⟩
 rw [q1] at hbd
 dsimp only at hbd
 obtain ⟨l,k,s2,q2,hk,hkm,b2,e2,m2,rfl,a2,l2,d2,c2'⟩:=aY9 n1 ⟨hbd.1,by omega⟩ b1 e1 m1 l1 c1'
 have huk:=u8l hk
 refine ⟨l,⟨b2,e2⟩,by unfold rTx;rw [q1];exact q2,b2,e2,m2,rfl,?_,l2,by omega,c2'⟩
 refine bC aB (sz:=11) Tryz.func248 rfl (by rw [Tryz.ntmps248];rfl) ?_
 repeat' (first|(refine aC ?_;intro K hK hX)|refine aL [0,1,4] ?_|((with_reducible refine aF ?_);refine aK (a1) aG rfl zby rfl rfl rfl rfl zcv rfl ztp ?_)|((with_reducible refine aF ?_);refine aK (a2) aG rfl zby rfl rfl rfl rfl zcv rfl ztp ?_)|refine stA ?_|(refine aE hK hX ?_;clear hK hX K)|fail)
 exact dX
section
variable (b:Dr) (e:Int) (m:Nat) (hm:b.length=m) (hb:m<=1000000000)
include b e m hm hb
theorem dD0:∃r s',rVl bE8 ⟨b,e⟩=(r,s')/\ARd 249 194 [] b e m (.agg r.c) s':=by
 obtain ⟨n1,s1,q1,b1,e1,m1,rfl,a1,l1,d1,c1'⟩:=nO 0 2 b e m hm hb
 have hbd:=sM 0 2 aN aN ⟨b,e⟩
 rw [q1] at hbd
 dsimp only at hbd
 unfold rVl
 rw [q1]
 dsimp only
 by_cases k1:n1=1
 ·subst k1
  rw [Ak rfl]
  obtain ⟨n2,s2,q2,b2,e2,m2,rfl,a2,l2,d2,c2'⟩:=nO (-4294967296) 4294967296 b1 e1 m1 l1 c1'
  refine ⟨⟨1,n2,[]⟩,⟨b2,e2⟩,by unfold bE8;rw [q2],b2,e2,m2,rfl,?_,l2,by omega,c2'⟩
  dsimp only [Vl.c]
  refine bC aB (sz:=20) Tryz.func249 rfl (by rw [Tryz.ntmps249];rfl) ?_
  repeat' (first|(refine aC ?_;intro K hK hX)|refine dU6 ?_|(refine aE hK hX ?_;clear hK hX K)|fail)
  exact fS
 ·rw [Ai k1]
  by_cases k2:n1=2
  ·subst k2
   rw [Ak rfl]
   obtain ⟨l,s2,q2,b2,e2,m2,rfl,a2,l2,d2,c2'⟩:=bX7 32 aN aN b1 e1 m1 l1 c1'
   refine ⟨⟨2,0,l⟩,⟨b2,e2⟩,by rw [q2],b2,e2,m2,rfl,?_,l2,by omega,c2'⟩
   dsimp only [Vl.c]
   refine bC aB (sz:=20) Tryz.func249 rfl (by rw [Tryz.ntmps249];rfl) ?_
   repeat' (first|(refine aC ?_;intro K hK hX)|refine dU6 ?_|(refine aE hK hX ?_;clear hK hX K)|fail)
   exact fS
  ·rw [Ai k2]
   have k0:n1=0:=by omega
   subst k0
   refine ⟨⟨0,0,[]⟩,⟨b1,e1⟩,rfl,b1,e1,m1,rfl,?_,l1,by omega,c1'⟩
   dsimp only [Vl.c]
   refine bC aB (sz:=20) Tryz.func249 rfl (by rw [Tryz.ntmps249];rfl) ?_
   repeat' (first|(refine aC ?_;intro K hK hX)|refine aL [0,2,3,8] ?_|((with_reducible refine aF ?_);refine aK (a1) aG rfl zby rfl rfl rfl rfl zcv rfl ztp ?_)|refine stA ?_|(refine aE hK hX ?_;clear hK hX K)|fail)
   exact fS
theorem bP3:∃r s',rVr ⟨b,e⟩=(r,s')/\ARd 226 194 [] b e m (.agg [iv r.t,iv r.c,iv r.s]) s':=by
 obtain ⟨n1,s1,q1,i1,b1,e1,m1,rfl,a1,l1,d1,c1'⟩:=iA b e m hm hb
 obtain ⟨n2,s2,q2,i2,b2,e2,m2,rfl,a2,l2,d2,c2'⟩:=iA b1 e1 m1 l1 c1'
 obtain ⟨n3,s3,q3,i3,b3,e3,m3,rfl,a3,l3,d3,c3'⟩:=iA b2 e2 m2 l2 c2'
 refine ⟨⟨n1,n3,n2⟩,⟨b3,e3⟩,by simp only [rVr,q1,q2,q3],b3,e3,m3,rfl,?_,l3,by omega,c3'⟩
 refine bC aB (sz:=14) Tryz.func226 rfl (by rw [Tryz.ntmps226];rfl) ?_
 repeat' (first|(refine aC ?_;intro K hK hX)|refine aL [0,2,3] ?_|((with_reducible refine aF ?_);refine aK (a1) aG rfl zby rfl rfl rfl rfl zcv rfl ztp ?_)|((with_reducible refine aF ?_);refine aK (a2) aG rfl zby rfl rfl rfl rfl zcv rfl ztp ?_)|((with_reducible refine aF ?_);refine aK (a3) aG rfl zby rfl rfl rfl rfl zcv rfl ztp ?_)|refine stA ?_|(refine aE hK hX ?_;clear hK hX K)|fail)
 exact fS
theorem cF9:∃r s',rSr ⟨b,e⟩=(r,s')/\ARd 228 194 [] b e m (.agg [iv r.t,iv r.s]) s':=by
 obtain ⟨n1,s1,q1,i1,b1,e1,m1,rfl,a1,l1,d1,c1'⟩:=iA b e m hm hb
 obtain ⟨n2,s2,q2,i2,b2,e2,m2,rfl,a2,l2,d2,c2'⟩:=iA b1 e1 m1 l1 c1'
 refine ⟨⟨n1,n2⟩,⟨b2,e2⟩,by simp only [rSr,q1,q2],b2,e2,m2,rfl,?_,l2,by omega,c2'⟩
 refine bC aB (sz:=11) Tryz.func228 rfl (by rw [Tryz.ntmps228];rfl) ?_
 repeat' (first|(refine aC ?_;intro K hK hX)|refine cL1 ?_|(refine aE hK hX ?_;clear hK hX K)|fail)
 exact fS
theorem vK:∃r s',rId bE8 ⟨b,e⟩=(r,s')/\ARd 224 194 [] b e m (.agg r.cs) s':=by
 obtain ⟨n1,s1,q1,b1,e1,m1,rfl,a1,l1,d1,c1'⟩:=bX7 16 aN aN b e m hm hb
 obtain ⟨n2,s2,q2,b2,e2,m2,rfl,a2,l2,d2,c2'⟩:=dD0 b1 e1 m1 l1 c1'
 refine ⟨⟨n1,n2⟩,⟨b2,e2⟩,by simp only [rId,q1,q2],b2,e2,m2,rfl,?_,l2,by omega,c2'⟩
 obtain ⟨vk2,vn2,vt2⟩:=n2
 dsimp only [Idf.cs,Vl.c] at a2
 dsimp only [Idf.cs]
 refine bC aB (sz:=11) Tryz.func224 rfl (by rw [Tryz.ntmps224];rfl) ?_
 repeat' (first|(refine aC ?_;intro K hK hX)|refine cL1 ?_|(refine aE hK hX ?_;clear hK hX K)|fail)
 exact fS
theorem dM8:∃r s',rLk bE8 ⟨b,e⟩=(r,s')/\ARd 180 194 [] b e m (.agg r.cs) s':=by
 obtain ⟨n1,s1,q1,b1,e1,m1,rfl,a1,l1,d1,c1'⟩:=vK b e m hm hb
 obtain ⟨n2,s2,q2,b2,e2,m2,rfl,a2,l2,d2,c2'⟩:=vK b1 e1 m1 l1 c1'
 obtain ⟨n3,s3,q3,i3,b3,e3,m3,rfl,a3,l3,d3,c3'⟩:=iA b2 e2 m2 l2 c2'
 obtain ⟨n4,s4,q4,b4,e4,m4,rfl,a4,l4,d4,c4'⟩:=nO 0 1 b3 e3 m3 l3 c3'
 refine ⟨⟨n1,n2,n3,decide (n4=1)⟩,⟨b4,e4⟩,by simp only [rLk,q1,q2,q3,q4],b4,e4,m4,rfl,?_,l4,by omega,c4'⟩
 obtain ⟨ns1,⟨vk1,vn1,vt1⟩⟩:=n1
 obtain ⟨ns2,⟨vk2,vn2,vt2⟩⟩:=n2
 dsimp only [Idf.cs,Vl.c] at a1 a2
 dsimp only [LLk.cs]
 refine bC aB (sz:=18) Tryz.func180 rfl (by rw [Tryz.ntmps180];rfl) ?_
 repeat' (first|(refine aC ?_;intro K hK hX)|refine dT0 ?_|(refine aE hK hX ?_;clear hK hX K)|fail)
 exact fS
theorem dM0:∃r s',rHd bE8 ⟨b,e⟩=(r,s')/\ARd 181 194 [] b e m (.agg r.cs) s':=by
 obtain ⟨n1,s1,q1,i1,b1,e1,m1,rfl,a1,l1,d1,c1'⟩:=iA b e m hm hb
 obtain ⟨n2,s2,q2,i2,b2,e2,m2,rfl,a2,l2,d2,c2'⟩:=iA b1 e1 m1 l1 c1'
 obtain ⟨n3,s3,q3,b3,e3,m3,rfl,a3,l3,d3,c3'⟩:=vK b2 e2 m2 l2 c2'
 obtain ⟨n4,s4,q4,i4,b4,e4,m4,rfl,a4,l4,d4,c4'⟩:=iA b3 e3 m3 l3 c3'
 obtain ⟨n5,s5,q5,i5,b5,e5,m5,rfl,a5,l5,d5,c5'⟩:=iA b4 e4 m4 l4 c4'
 obtain ⟨n6,s6,q6,i6,b6,e6,m6,rfl,a6,l6,d6,c6'⟩:=iA b5 e5 m5 l5 c5'
 refine ⟨⟨n1,n2,n3,n4,n5,n6⟩,⟨b6,e6⟩,by simp only [rHd,q1,q2,q3,q4,q5,q6],b6,e6,m6,rfl,?_,l6,by omega,c6'⟩
 obtain ⟨ns3,⟨vk3,vn3,vt3⟩⟩:=n3
 dsimp only [Idf.cs,Vl.c] at a3
 dsimp only [LHd.cs]
 refine bC aB (sz:=23) Tryz.func181 rfl (by rw [Tryz.ntmps181];rfl) ?_
 repeat' (first|(refine aC ?_;intro K hK hX)|refine dS5 ?_|(refine aE hK hX ?_;clear hK hX K)|fail)
 exact fS
theorem bN2:∃r s',rRq bE8 ⟨b,e⟩=(r,s')/\ARd 176 194 [] b e m (.agg r.cs) s':=by
 obtain ⟨n1,s1,q1,i1,b1,e1,m1,rfl,a1,l1,d1,c1'⟩:=iA b e m hm hb
 obtain ⟨n2,s2,q2,b2,e2,m2,rfl,a2,l2,d2,c2'⟩:=vK b1 e1 m1 l1 c1'
 obtain ⟨n3,s3,q3,i3,b3,e3,m3,rfl,a3,l3,d3,c3'⟩:=iA b2 e2 m2 l2 c2'
 obtain ⟨n4,s4,q4,i4,b4,e4,m4,rfl,a4,l4,d4,c4'⟩:=iA b3 e3 m3 l3 c3'
 obtain ⟨n5,s5,q5,i5,b5,e5,m5,rfl,a5,l5,d5,c5'⟩:=iA b4 e4 m4 l4 c4'
 refine ⟨⟨n1,n2,n3,n4,n5⟩,⟨b5,e5⟩,by simp only [rRq,q1,q2,q3,q4,q5],b5,e5,m5,rfl,?_,l5,by omega,c5'⟩
 obtain ⟨ns2,⟨vk2,vn2,vt2⟩⟩:=n2
 dsimp only [Idf.cs,Vl.c] at a2
 dsimp only [LRq.cs]
 refine bC aB (sz:=20) Tryz.func176 rfl (by rw [Tryz.ntmps176];rfl) ?_
 repeat' (first|(refine aC ?_;intro K hK hX)|refine dS6 ?_|(refine aE hK hX ?_;clear hK hX K)|fail)
 exact fS
end
end
end Go.Proofs.YtbgehdndimlgkaaGreat
