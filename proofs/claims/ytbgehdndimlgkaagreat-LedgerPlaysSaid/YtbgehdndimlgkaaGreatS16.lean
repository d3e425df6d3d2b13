/- Lemmas for laws of the ledger. -/
import Derived.Test.YtbgehdndimlgkaaGreatS13
set_option linter.all false
set_option maxHeartbeats 16000000
namespace Go.Proofs.YtbgehdndimlgkaaGreat
open Go Go.RowKit Go.Av
set_option maxRecDepth 100000
section
def rsC (s:RS):D1:=[.sl 1 s.b.length (u8c s.b),iv s.e]
theorem dT6:∀(b:Dm) (i x:Nat) (u:Nat) (r:Dm),i<=9->x<128 ^ i->pU i x b=some (u,r)->u<18446744073709551616
 | [],i,x,u,r,_,_,h=>by cases h
 | c::b,i,x,u,r,hi,hx,h=>by
  have hc:=c.toNat_lt
  rw [pU] at h
  split at h
  ·cases h
  ·rename_i hb
   have hp:128 ^ i<=128 ^ 9:=Ce aN hi
   have e9:(128:Nat) ^ 9=9223372036854775808:=by decide
   split at h
   ·rename_i hlt
    injection h with h;injection h with e1 e2
    subst e1
    by_cases h9:i=9
    ·subst h9
     have:c.toNat<=1:=by omega
     have:=Bj (128 ^ 9) this
     omega
    ·have hp8:128 ^ i<=128 ^ 8:=Ce aN aA
     have e8:(128:Nat) ^ 8=72057594037927936:=by decide
     have:=Nat.mul_le_mul (show c.toNat<=127 by omega) hp8
     omega
   ·rename_i hge
    have h9:i≠9:=fun e=>by omega
    refine dT6 b (i+1) _ u r aA ?_ h
    have:c.toNat%128*128 ^ i<=127*128 ^ i:=Bj _ aA
    rw [CA]
    omega
theorem eE5 {u:Nat} (h:u<18446744073709551616):aT (uz u):=by
 unfold uz aT
 split<;>omega
theorem dS8:aT 0:=⟨by decide,by decide⟩
theorem aY1 (s:RS):aT (bT s).1:=by
 unfold bT
 split
 ·exact dS8
 ·cases h:dH s.b with
  | none=>exact dS8
  | some p =>
   unfold dH at h
   obtain ⟨q,hq,he⟩:=Ap.1 h
   obtain ⟨u,r⟩:=q
   subst he
   exact eE5 (dT6 s.b 0 0 u r aA aU hq)
section
variable {P:Dv} {tab:Tab} {ev:Evl} {h:aO} {d:Dt} {T ty T':Du} {x y:Operand} {pos:String} {aft:Ds} {gd:Dn}
theorem bA0 {b:Nat} (hb:b<256) (hx:ev x=some (.c (.v (.int .u8 (b:Int))))) (hy:ev y=some (.c (.v (.int .u8 127)))):Still P ⟨d,.binOp .and T x y T',ty,pos,aft,gd⟩ ev h (.c (.v (.int .u8 ((b%128:Nat):Int)))) :=
 aD9 hx hy (by
  have key:∀b:Fin 256,IntKind.u8.wrap ((BitVec.ofInt 8 ((b.val:Nat):Int) &&& BitVec.ofInt 8 127).toNat:Int)=((b.val%128:Nat):Int):=by decide +kernel
  exact key ⟨b,hb⟩)
theorem bA2 {b:Nat} (hb:b<256) (hx:ev x=some (.c (.v (.int .u8 (b:Int))))) (hy:ev y=some (.c (.v (.int .u8 128)))):Still P ⟨d,.binOp .rem T x y T',ty,pos,aft,gd⟩ ev h (.c (.v (.int .u8 ((b%128:Nat):Int)))) :=
 xW hx hy aN (by
  rw [Cs aA]
  omega)
theorem cY7 {b:Nat} (h:b<18446744073709551616):(BitVec.ofInt 64 (b:Int)).toNat=b:=by
 rw [BX]
 omega
theorem cS6 {b:Nat} (hb:b<18446744073709551616) (hx:ev x=some (.c (nv b))) (hy:ev y=some (.c (.v (.int .u64 1)))):Still P ⟨d,.binOp .and T x y T',ty,pos,aft,gd⟩ ev h (.c (nv (b%2))) :=
 aD9 hx hy (by
  show IntKind.u64.wrap ((BitVec.ofInt 64 (b:Int) &&& BitVec.ofInt 64 1).toNat:Int)=_
  rw [CY,cY7 hb,show (BitVec.ofInt 64 1).toNat=1 by decide,Nat.and_one_is_mod]
  exact uT aA aA)
theorem aR4 {b q:Nat} {k:Dw} {Y:Int} (hx:ev x=some (.c (nv b))) (hy:ev y=some (.c (.v (.int k Y)))) (hY:Y=(q:Int)) (hq:q<64) (hb:b*2 ^ q<18446744073709551616):Still P ⟨d,.binOp .shl T x y T',ty,pos,aft,gd⟩ ev h (.c (nv (b*2 ^ q))) :=
 bA5 hx hy aA (by
  subst hY
  have e:min ((q:Int).toNat) IntKind.u64.bits=q:=by
   show min ((q:Int).toNat) 64=q
   omega
  rw [e]
  have e2:((b:Int)*2 ^ q)=((b*2 ^ q:Nat):Int):=by push_cast;rfl
  rw [e2]
  exact uT aA aA)
theorem bR2 {a c q u:Nat} (ha:a<2 ^ q) (hu:a+c*2 ^ q=u) (hs:u<18446744073709551616) (hx:ev x=some (.c (nv a))) (hy:ev y=some (.c (nv (c*2 ^ q)))):Still P ⟨d,.binOp .or T x y T',ty,pos,aft,gd⟩ ev h (.c (nv u)) :=
 bZ3 hx hy (by
  subst hu
  show IntKind.u64.wrap ((BitVec.ofInt 64 (a:Int) ||| BitVec.ofInt 64 ((c*2 ^ q:Nat):Int)).toNat:Int)=_
  rw [BitVec.toNat_or,cY7 aA,cY7 aA,Nat.or_comm,<- Cw,<- Nat.shiftLeft_add_eq_or_of_lt ha,Cw,CP]
  exact uT aA aA)
theorem cS8 {n:Int} (hn:aT n) (hx:ev x=some (.c (iv n))):Still P ⟨d,.unOp .xor T x,ty,pos,aft,gd⟩ ev h (.c (iv (-n-1))) :=
 sK hx (by
  show IntKind.i64.wrap ((BitVec.ofInt 64 (if IntKind.i64.signed then -1 else IntKind.i64.max) ^^^ BitVec.ofInt 64 n).toNat:Int)=_
  have e:BitVec.ofInt 64 (if IntKind.i64.signed then -1 else IntKind.i64.max)=BitVec.allOnes 64:=by decide
  rw [e,CR,CZ,BX,IntKind.wrap_i64]
  obtain ⟨h1,h2⟩:=hn
  omega)
theorem cS9 {b:Nat} (hb:b<18446744073709551616) (hx:ev x=some (.c (nv b))):Still P ⟨d,.unOp .xor T x,ty,pos,aft,gd⟩ ev h (.c (nv (18446744073709551615-b))) :=
 sK hx (by
  show IntKind.u64.wrap ((BitVec.ofInt 64 (if IntKind.u64.signed then -1 else IntKind.u64.max) ^^^ BitVec.ofInt 64 (b:Int)).toNat:Int)=_
  have e:BitVec.ofInt 64 (if IntKind.u64.signed then -1 else IntKind.u64.max)=BitVec.allOnes 64:=by decide
  rw [e,CR,CZ,cY7 hb]
  rw [show (2 ^ 64-1-b:Nat)=18446744073709551615-b by omega]
  exact uT aA aA)
end
attribute [local irreducible] Still Adds AWL AW Drw bX bY AC AWR cU Frz Go.Av.Src cQ Out InK ItK AsK RdK eP eI ACT ACA eW
attribute [local simp] bS bR bI
theorem eO6 {l:Dm} {i:Nat} {c:UInt8} (h:l[i]? = some c):(u8c l)[i]? = some (.v (.int .u8 (c.toNat:Int))):=by simp [u8c,h]
theorem vU {l:Dm} {i:Nat} {c:UInt8} (h:l[i]? = some c):l.drop i=c::l.drop (i+1):=by
 obtain ⟨h1,h2⟩:=Ag.1 h
 rw [B6 h1,h2]
structure AtI (b:Dm) (i x:Nat):Prop where
 p:pU 0 0 b=pU i x (b.drop i)
 e:eU 0 b=eU i (b.drop i)
 x:x<128 ^ i
 i:i<=9
theorem AtI.init (b:Dm):AtI b 0 0:=⟨rfl,rfl,by simp,by omega⟩
section
variable {b:Dm} {i x:Nat} (h:AtI b i x)
include b i x h
theorem AtI.none (hi:b.length<=i):bT ⟨b,0⟩=(0,⟨b,100⟩):=by
 have e1:b.drop i=[]:=AG hi
 have e2:=h.p
 have e3:=h.e
 rw [e1] at e2 e3
 simp only [bT,dH,e2,pU,CN,e3,eU,ne_eq,Bw,AQ]
theorem AtI.bad {c:UInt8} (hc:b[i]? = some c) (hb:(i=9/\1<c.toNat)\/(0<i/\c.toNat=0)):bT ⟨b,0⟩=(0,⟨b,1⟩):=by
 have e2:=h.p
 have e3:=h.e
 rw [vU hc] at e2 e3
 rw [pU,Ak hb] at e2
 rw [eU,Ak hb] at e3
 simp only [bT,dH,e2,CN,e3,ne_eq,Bw,AQ]
theorem AtI.last {c:UInt8} (hc:b[i]? = some c) (hb:¬((i=9/\1<c.toNat)\/(0<i/\c.toNat=0))) (hl:c.toNat<128):bT ⟨b,0⟩=(uz (x+c.toNat*2 ^ (7*i)),⟨b.drop (i+1),0⟩):=by
 have e2:=h.p
 rw [vU hc] at e2
 rw [pU,Aj hb,Ak hl] at e2
 have:(128:Nat) ^ i=2 ^ (7*i):=by rw [Nat.pow_mul]
 simp only [bT,dH,e2,Bh,ne_eq,Bw,AQ,this]
theorem AtI.next {c:UInt8} (hc:b[i]? = some c) (hb:¬((i=9/\1<c.toNat)\/(0<i/\c.toNat=0))) (hl:¬c.toNat<128):AtI b (i+1) (x+c.toNat%128*2 ^ (7*i)):=by
 have e2:=h.p
 have e3:=h.e
 rw [vU hc] at e2 e3
 rw [pU,Aj hb,Aj hl] at e2
 rw [eU,Aj hb,Aj hl] at e3
 have e4:(128:Nat) ^ i=2 ^ (7*i):=by rw [Nat.pow_mul]
 have hi:=h.i
 have hx:=h.x
 have hc2:=c.toNat_lt
 refine ⟨by rw [e2,e4],e3,?_,by omega⟩
 rw [CA,<- e4]
 have:c.toNat%128*128 ^ i<=127*128 ^ i:=Bj _ aA
 omega
theorem AtI.size {c:UInt8} (hc:b[i]? = some c) (hb:¬((i=9/\1<c.toNat)\/(0<i/\c.toNat=0))):x<2 ^ (7*i)/\x+c.toNat%128*2 ^ (7*i)<18446744073709551616:=by
 have e4:(128:Nat) ^ i=2 ^ (7*i):=by rw [Nat.pow_mul]
 have hi:=h.i
 have hx:=h.x
 refine ⟨by rw [<- e4];exact hx,?_⟩
 rw [<- e4]
 by_cases h9:i=9
 ·subst h9
  have e9:(128:Nat) ^ 9=9223372036854775808:=by decide
  have:c.toNat%128<=1:=by omega
  have:=Bj (128 ^ 9) this
  omega
 ·have hp8:128 ^ i<=128 ^ 8:=Ce aN aA
  have e8:(128:Nat) ^ 8=72057594037927936:=by decide
  have:=Nat.mul_le_mul (show c.toNat%128<=127 by omega) hp8
  omega
end
end
section
attribute [local irreducible] Still Adds AWL AW Drw bX bY AC AWR cU Frz Go.Av.Src cQ Out InK ItK AsK RdK eP eI ACT ACA eW
attribute [local simp] bS bR bI
theorem dZ0 (s:RS) (hb:s.b.length<=1000000000):ACT Tryz.prog 163 194 (rsC s) [] (rsC (bT s).2) (iv (bT s).1):=by
 obtain ⟨b,e⟩:=s
 dsimp only at hb
 obtain ⟨n,hn⟩:∃n,b.length=n:=⟨_,rfl⟩
 by_cases he:e=0
 ·subst he
  have hul:=u8l hn
  obtain ⟨R,hR⟩:∃R,bT ⟨b,0⟩=R:=⟨_,rfl⟩
  rw [hR]
  unfold rsC
  dsimp only
  rw [hn] at hb ⊢
  refine aZ aB (sz:=75) Tryz.func163 rfl (by rw [Tryz.ntmps163];rfl) ?_
  repeat' (first|(refine aC ?_;intro K hK hX)|refine zL ?_|(refine aG hK hX ?_;clear hK hX K)|fail)
  refine cL 1 (fun p:Nat × Nat=>[(0,.ref 0 0),(3,.c (nv p.2)),(4,.c (iv p.1))]) (fun p=>[(0,.blk 194 [.c (.sl 1 n (u8c b)),.c (iv 0)])]) [(none,[.ref 0 0])] (fun p=>AtI b p.1 p.2) (fun p=>10-p.1) (0,0) (AtI.init b) eH ?_
  rintro ⟨i,x⟩ hat K hK hX
  dsimp only at hat hK ⊢
  have hi9:=hat.i
  by_cases hlt:i<n
  ·obtain ⟨c,hc⟩:∃c,b[i]? = some c:=⟨_,Ab aA⟩
   have hcc:=eO6 hc
   have hcl:=c.toNat_lt
   by_cases hbad:(i=9/\1<c.toNat)\/(0<i/\c.toNat=0)
   ·have hres:=hat.bad hc hbad
    rw [hR] at hres
    by_cases h9:i=9/\1<c.toNat
    ·obtain ⟨h9,h1⟩:=h9
     repeat' (first|(refine aC ?_;intro K hK hX)|refine aK [0,1,2,3,4,5,6] ?_|((first|with_reducible refine aF ?_|with_reducible refine bB ?_);refine bV aB (List.range 75) aE rfl rfl zby Tryz.func216 rfl rfl rfl (szf:=13) mI rfl ?_)|refine eJ ?_|refine stA ?_|(refine aG hK hX ?_;clear hK hX K)|fail|(first|refine bK zio ztr rfl rfl ResL.none ?_|refine bJ zio ztr rfl rfl ResL.none ?_))
     rw [hres]
     dsimp only
     rw [hn]
     exact dR
    ·have h2:0<i/\c.toNat=0:=hbad.resolve_left h9
     obtain ⟨h2,h3⟩:=h2
     by_cases h4:i=9
     ·repeat' (first|(refine aC ?_;intro K hK hX)|refine aK [0,1,2,3,4,5,6] ?_|((first|with_reducible refine aF ?_|with_reducible refine bB ?_);refine bV aB (List.range 75) aE rfl rfl zby Tryz.func216 rfl rfl rfl (szf:=13) mI rfl ?_)|refine eJ ?_|refine stA ?_|(refine aG hK hX ?_;clear hK hX K)|fail|(first|refine bK zio ztr rfl rfl ResL.none ?_|refine bJ zio ztr rfl rfl ResL.none ?_))
      rw [hres]
      dsimp only
      rw [hn]
      exact dR
     ·repeat' (first|(refine aC ?_;intro K hK hX)|refine aK [0,1,2,3,4,5,6] ?_|((first|with_reducible refine aF ?_|with_reducible refine bB ?_);refine bV aB (List.range 75) aE rfl rfl zby Tryz.func216 rfl rfl rfl (szf:=13) mI rfl ?_)|refine eJ ?_|refine stA ?_|(refine aG hK hX ?_;clear hK hX K)|fail|(first|refine bK zio ztr rfl rfl ResL.none ?_|refine bJ zio ztr rfl rfl ResL.none ?_))
      rw [hres]
      dsimp only
      rw [hn]
      exact dR
   ·obtain ⟨hsx,hss⟩:=hat.size hc hbad
    by_cases hl:c.toNat<128
    ·have hres:=hat.last hc hbad hl
     rw [hR] at hres
     have hcm:c.toNat%128=c.toNat:=BN hl
     have hsh:c.toNat%128*2 ^ (7*i)<18446744073709551616:=by omega
     have hbl:(b.drop (i+1)).length=n-(i+1):=by rw [A0,hn]
     have h7:(7:Int)*(i:Int)=((7*i:Nat):Int):=by push_cast;rfl
     have h63:7*i<64:=by omega
     have hc8:c.toNat<256:=hcl
     rw [<- hcm] at hres
     obtain ⟨u,hu⟩:∃u,x+c.toNat%128*2 ^ (7*i)=u:=⟨_,rfl⟩
     rw [hu] at hss hres
     have hu64:aT ((u / 2 ^ 1:Nat):Int):=⟨by omega,by omega⟩
     have hcs:(i=9/\c.toNat=1)\/i=0\/(i≠9/\i≠0/\c.toNat≠0):=by omega
     have hcell:List.take ((n-(i+1))*1) (List.drop ((i+1)*1) (u8c b))=u8c (b.drop (i+1)):=by rw [A8,A8,bR,Ad (by rw [aH,hbl];exact Ah _)]
     rcases hcs with ⟨q1,q2⟩|q1|⟨q1,q2,q3⟩
     ·skip
      by_cases hodd:u%2=1
      ·have hz:uz u = -((u / 2 ^ 1:Nat):Int)-1:=by unfold uz;rw [Ak hodd]
       repeat' (first|(refine aC ?_;intro K hK hX)|refine bU4 ?_|(refine aG hK hX ?_;clear hK hX K)|fail)
       rw [hres]
       dsimp only
       rw [hbl,hz,hcell]
       exact dR
      ·have hz:uz u=((u / 2 ^ 1:Nat):Int):=by unfold uz;rw [Aj hodd]
       repeat' (first|(refine aC ?_;intro K hK hX)|refine bU4 ?_|(refine aG hK hX ?_;clear hK hX K)|fail)
       rw [hres]
       dsimp only
       rw [hbl,hz,hcell]
       exact dR
     ·skip
      by_cases hodd:u%2=1
      ·have hz:uz u = -((u / 2 ^ 1:Nat):Int)-1:=by unfold uz;rw [Ak hodd]
       repeat' (first|(refine aC ?_;intro K hK hX)|refine bU4 ?_|(refine aG hK hX ?_;clear hK hX K)|fail)
       rw [hres]
       dsimp only
       rw [hbl,hz,hcell]
       exact dR
      ·have hz:uz u=((u / 2 ^ 1:Nat):Int):=by unfold uz;rw [Aj hodd]
       repeat' (first|(refine aC ?_;intro K hK hX)|refine bU4 ?_|(refine aG hK hX ?_;clear hK hX K)|fail)
       rw [hres]
       dsimp only
       rw [hbl,hz,hcell]
       exact dR
     ·skip
      by_cases hodd:u%2=1
      ·have hz:uz u = -((u / 2 ^ 1:Nat):Int)-1:=by unfold uz;rw [Ak hodd]
       repeat' (first|(refine aC ?_;intro K hK hX)|refine bU4 ?_|(refine aG hK hX ?_;clear hK hX K)|fail)
       rw [hres]
       dsimp only
       rw [hbl,hz,hcell]
       exact dR
      ·have hz:uz u=((u / 2 ^ 1:Nat):Int):=by unfold uz;rw [Aj hodd]
       repeat' (first|(refine aC ?_;intro K hK hX)|refine bU4 ?_|(refine aG hK hX ?_;clear hK hX K)|fail)
       rw [hres]
       dsimp only
       rw [hbl,hz,hcell]
       exact dR
    ·have hnx:=hat.next hc hbad hl
     have hsh:c.toNat%128*2 ^ (7*i)<18446744073709551616:=by omega
     have h7:(7:Int)*(i:Int)=((7*i:Nat):Int):=by push_cast;rfl
     have h63:7*i<64:=by omega
     have hc8:c.toNat<256:=hcl
     obtain ⟨u,hu⟩:∃u,x+c.toNat%128*2 ^ (7*i)=u:=⟨_,rfl⟩
     rw [hu] at hss hnx
     have hcs:i=0\/(i≠9/\i≠0/\c.toNat≠0):=by omega
     rcases hcs with q1|⟨q1,q2,q3⟩
     ·repeat' (first|(refine aC ?_;intro K hK hX)|refine dL2 ?_|(refine aG hK hX ?_;clear hK hX K)|fail)
      exact ⟨(i+1,u),hnx,by simp only;omega,eH⟩
     ·repeat' (first|(refine aC ?_;intro K hK hX)|refine dL2 ?_|(refine aG hK hX ?_;clear hK hX K)|fail)
      exact ⟨(i+1,u),hnx,by simp only;omega,eH⟩
  ·have hres:=hat.none (show b.length<=i by omega)
   rw [hR] at hres
   repeat' (first|(refine aC ?_;intro K hK hX)|refine aK [0,1,2,3,4,5,6] ?_|((first|with_reducible refine aF ?_|with_reducible refine bB ?_);refine bV aB (List.range 75) aE rfl rfl zby Tryz.func216 rfl rfl rfl (szf:=13) mI rfl ?_)|refine stA ?_|(refine aG hK hX ?_;clear hK hX K)|fail|(first|refine bK zio ztr rfl rfl ResL.none ?_|refine bJ zio ztr rfl rfl ResL.none ?_))
   rw [hres]
   dsimp only
   rw [hn]
   exact dR
 ·have hres:bT ⟨b,e⟩=(0,⟨b,e⟩):=by unfold bT;rw [Ak he]
  rw [hres]
  unfold rsC
  dsimp only
  have hul:=u8l hn
  rw [hn] at hb ⊢
  refine aZ aB (sz:=75) Tryz.func163 rfl (by rw [Tryz.ntmps163];rfl) ?_
  repeat' (first|(refine aC ?_;intro K hK hX)|refine aK [0,2,3,4,5,6] ?_|((with_reducible refine uJ ?_);refine rS 2 ?_)|(refine bK5 ?_;intro K hK hX)|refine stA ?_|(refine aG hK hX ?_;clear hK hX K)|fail)
  exact dR
end
section
section
variable {P:Dv} {tab:Tab} {ev:Evl} {h:aO} {d:Dt} {T ty:Du} {x:Operand} {pos:String} {aft:Ds} {gd:Dn}
theorem eD1 {e e':TyE} {E n r m size:Nat} {hi mx:Operand} {cs ys:D1} (tb:bQ P tab) (hT:aS tab T=some e) (hk:e.kind = .slice E) (hE:aS tab E=some e') (hs:Nat.beq e'.size size=true) (hx:ev x=some (.c (.sl size n cs))) (hhi:Bd ev n (some hi) r) (hmx:Bd ev n (some mx) m) (hrm:r<=m) (hmn:m<=n) (hys:cs.take (r*size)=ys):Still P ⟨d,.slice T x none (some hi) (some mx),ty,pos,aft,gd⟩ ev h (.c (.sl size r ys)):=by
 intro B dom M H w a hh hc he
 have h1:=he x _ hx
 have hsz:=(aM tb hE).sizeOf w
 rw [Ae hs] at hsz
 have hund:=(aM tb hT).slice hk
 simp only [Rep,RepC] at h1
 obtain ⟨A,c,us,h3,h4,h5,h6,h7,h70,h8⟩:=h1
 have hb:=xU (P:=P) (w:=w) (c:=c) true he hhi hmx hrm aA
 have h9:=h7.take (r*size)
 rw [hys] at h9
 have hmul:r*size<=n*size:=Bj _ aA
 refine ⟨.slice A r m,?_,A,m,us.take (r*size),rfl,hrm,by omega,?_,h9,fun u hu=>h70 u (AI hu),fun hn=>?_⟩
 ·simp [execOp,Instr.sliceAt,Instr.slice,h3,Sem.run_bind,run_underlying hund,hb,hsz]
  cases A with
  | none=>simp
  | some p=>simp [Addr.add]
 ·rw [<- hys,As,h6]
  omega
 ·obtain ⟨b,o,rfl,hb1,hl1,hcell⟩:=h8 aA
  refine ⟨b,o,rfl,hb1,hl1,fun j u hj=>?_⟩
  have hjk:j<r*size:=by
   rcases AE j (r*size) with h1|h1
   ·exact h1
   ·rw [AO kE] at hj;cases hj
  rw [Be hjk] at hj
  exact hcell _ u hj
end
attribute [local irreducible] Still Adds AWL AW Drw bX bY AC AWR cU Frz Go.Av.Src cQ Out InK ItK AsK RdK eP eI ACT ACA eW
attribute [local simp] bS bR bI
def ARd (f:FuncId) (T:Du) (args:D1) (b:Dm) (e:Int) (m:Nat) (r:CV) (s':RS):Prop :=
 ∃b' e' m',s'=⟨b',e'⟩/\ACT Tryz.prog f T [.sl 1 m (u8c b),iv e] args [.sl 1 m' (u8c b'),iv e'] r/\b'.length=m'/\m'<=m/\m'<=1000000000
theorem mV (s:RS):(bT s).2.b.length<=s.b.length:=by
 have hp:∀(b:Dm) (i x u:Nat) (r:Dm),pU i x b=some (u,r)->r.length<=b.length:=by
  intro b
  induction b with
  | nil=>intro i x u r h;cases h
  | cons c b ih =>
   intro i x u r h
   rw [pU] at h
   split at h
   ·cases h
   ·split at h
    ·injection h with h;injection h with e1 e2;subst e2;simp
    ·have:=ih _ _ _ _ h
     rw [Au];omega
 unfold bT
 split
 ·exact Ah _
 ·cases h:dH s.b with
  | none=>exact Ah _
  | some p =>
   unfold dH at h
   obtain ⟨q,hq,he⟩:=Ap.1 h
   obtain ⟨u,r⟩:=q
   subst he
   exact hp _ _ _ _ _ hq
theorem gQ (b:Dm) (e:Int) (m:Nat) (hm:b.length=m) (hb:m<=1000000000):∃n s',bT ⟨b,e⟩=(n,s')/\aT n/\ARd 163 194 [] b e m (iv n) s':=by
 have h:=dZ0 ⟨b,e⟩ (by rw [hm];exact hb)
 have h2:=aY1 ⟨b,e⟩
 have h3:=mV ⟨b,e⟩
 generalize bT ⟨b,e⟩=R at h h2 h3
 obtain ⟨n,b',e'⟩:=R
 simp only [rsC,hm] at h h2 h3
 exact ⟨n,_,rfl,h2,b',e',_,rfl,h,rfl,h3,by omega⟩
theorem rK (lo hi : Int) (h0 : lo <= 0) (h1 : 0 <= hi) (s : RS) : lo <= (rIn lo hi s).1 /\ (rIn lo hi s).1 <= hi := by
  unfold rIn
  split
  · exact ⟨h0, h1⟩
  · rename_i hn
    by_cases he : (bT s).2.e = 0
    · have : ¬ ((bT s).1 < lo \/ hi < (bT s).1) := fun h => hn ⟨he, h⟩
      omega
    · have : (bT s).1 = 0 := by
        unfold bT at he ⊢
        split at he
        · rename_i h; rw [Ak h]
        · rename_i h
          rw [Aj h]
          cases hp : dH s.b with
          | none => rfl
          | some p => rw [hp] at he; exact absurd rfl he
      omega
theorem oK {s:RS} (he:(bT s).2.e≠0):(bT s).1=0:=by
 unfold bT at he ⊢
 split at he
 ·rename_i h;rw [Ak h]
 ·rename_i h
  rw [Aj h]
  cases hp:dH s.b with
  | none=>rfl
  | some p=>rw [hp] at he;exact absurd rfl he
theorem mR (lo hi:Int) (b:Dm) (e:Int) (m:Nat) (hm:b.length=m) (hb:m<=1000000000):∃n s',rIn lo hi ⟨b,e⟩=(n,s')/\ARd 175 194 [iv lo,iv hi] b e m (iv n) s':=by
 obtain ⟨n,s',q1,q2,b',e',m',rfl,q3,q4,q5,q6⟩:=gQ b e m hm hb
 have hz:e'≠0->n=0:=fun h=>by have:=oK (s:=⟨b,e⟩) (by rw [q1];exact h);rwa [q1] at this
 unfold rIn
 rw [q1]
 dsimp only
 by_cases he:e'=0
 ·subst he
  by_cases h1:n<lo
  ·rw [Ak ⟨rfl,.inl h1⟩]
   refine ⟨_,_,rfl,b',1,m',rfl,?_,q4,q5,q6⟩
   refine aZ aB (sz:=33) Tryz.func175 rfl aN0 ?_
   repeat' (first|(refine aC ?_;intro K hK hX)|refine aK [0,1,2,6,7] ?_|((with_reducible refine aF ?_);refine aJ (q3) aE rfl zby rfl rfl rfl rfl zcv rfl ztp ?_)|((first|with_reducible refine aF ?_|with_reducible refine bB ?_);refine bV aB (List.range 33) aE rfl rfl zby Tryz.func216 rfl rfl rfl (szf:=13) mI rfl ?_)|refine stA ?_|(refine aG hK hX ?_;clear hK hX K)|fail|(first|refine bK zio ztr rfl rfl ResL.none ?_|refine bJ zio ztr rfl rfl ResL.none ?_))
   exact dR
  ·by_cases h2:hi<n
   ·rw [Ak ⟨rfl,.inr h2⟩]
    refine ⟨_,_,rfl,b',1,m',rfl,?_,q4,q5,q6⟩
    refine aZ aB (sz:=33) Tryz.func175 rfl aN0 ?_
    repeat' (first|(refine aC ?_;intro K hK hX)|refine aK [0,1,2,6,7] ?_|((with_reducible refine aF ?_);refine aJ (q3) aE rfl zby rfl rfl rfl rfl zcv rfl ztp ?_)|((first|with_reducible refine aF ?_|with_reducible refine bB ?_);refine bV aB (List.range 33) aE rfl rfl zby Tryz.func216 rfl rfl rfl (szf:=13) mI rfl ?_)|refine stA ?_|(refine aG hK hX ?_;clear hK hX K)|fail|(first|refine bK zio ztr rfl rfl ResL.none ?_|refine bJ zio ztr rfl rfl ResL.none ?_))
    exact dR
   ·rw [Aj aA]
    refine ⟨_,_,rfl,b',0,m',rfl,?_,q4,q5,q6⟩
    refine aZ aB (sz:=33) Tryz.func175 rfl aN0 ?_
    repeat' (first|(refine aC ?_;intro K hK hX)|refine aK [0,1,2,6,7] ?_|((with_reducible refine aF ?_);refine aJ (q3) aE rfl zby rfl rfl rfl rfl zcv rfl ztp ?_)|((first|with_reducible refine aF ?_|with_reducible refine bB ?_);refine bV aB (List.range 33) aE rfl rfl zby Tryz.func216 rfl rfl rfl (szf:=13) mI rfl ?_)|refine stA ?_|(refine aG hK hX ?_;clear hK hX K)|fail|(first|refine bK zio ztr rfl rfl ResL.none ?_|refine bJ zio ztr rfl rfl ResL.none ?_))
    exact dR
 ·have:=hz he
  subst this
  rw [Aj (fun h=>he h.1)]
  refine ⟨_,_,rfl,b',e',m',rfl,?_,q4,q5,q6⟩
  refine aZ aB (sz:=33) Tryz.func175 rfl aN0 ?_
  repeat' (first|(refine aC ?_;intro K hK hX)|refine aK [0,1,2,6,7] ?_|((with_reducible refine aF ?_);refine aJ (q3) aE rfl zby rfl rfl rfl rfl zcv rfl ztp ?_)|((first|with_reducible refine aF ?_|with_reducible refine bB ?_);refine bV aB (List.range 33) aE rfl rfl zby Tryz.func216 rfl rfl rfl (szf:=13) mI rfl ?_)|refine stA ?_|(refine aG hK hX ?_;clear hK hX K)|fail|(first|refine bK zio ztr rfl rfl ResL.none ?_|refine bJ zio ztr rfl rfl ResL.none ?_))
  exact dR
theorem aT1 (x:Int) (hx:0<=x/\x<=1000000000) (b:Dm) (e:Int) (m:Nat) (hm:b.length=m) (hb:m<=1000000000):∃l k s',rBy x.toNat ⟨b,e⟩=(l,s')/\l.length=k/\k<=m/\ARd 229 194 [iv x] b e m (.sl 1 k (u8c l)) s':=by
 have hul:=u8l hm
 unfold rBy
 dsimp only
 by_cases he:e=0
 ·subst he
  rw [Aj aU]
  by_cases h1:m<x.toNat
  ·rw [Ak aA]
   refine ⟨_,0,_,rfl,rfl,by omega,b,100,m,rfl,?_,hm,Ah _,hb⟩
   refine aZ aB (sz:=44) Tryz.func229 rfl (by rw [Tryz.ntmps229];rfl) ?_
   repeat' (first|(refine aC ?_;intro K hK hX)|refine aK [0,1,4,5] ?_|((first|with_reducible refine aF ?_|with_reducible refine bB ?_);refine bV aB (List.range 44) aE rfl rfl zby Tryz.func216 rfl rfl rfl (szf:=13) mI rfl ?_)|refine stA ?_|(refine aG hK hX ?_;clear hK hX K)|fail|(first|refine bK zio ztr rfl rfl ResL.none ?_|refine bJ zio ztr rfl rfl ResL.none ?_))
   exact dR
  ·rw [Aj aA]
   obtain ⟨k,hk⟩:∃k:Nat,x=(k:Int):=⟨x.toNat,by omega⟩
   subst hk
   rw [AS] at h1 ⊢
   refine ⟨_,k,_,rfl,by rw [As];omega,by omega,b.drop k,0,m-k,rfl,?_,by rw [A0,hm],by omega,by omega⟩
   refine aZ aB (sz:=44) Tryz.func229 rfl (by rw [Tryz.ntmps229];rfl) ?_
   have hcell:(u8c b).take (k*1)=u8c (b.take k):=by rw [A8,bS]
   have hcell2:List.take ((m-k)*1) (List.drop (k*1) (u8c b))=u8c (b.drop k):=by rw [A8,A8,bR,Ad (by rw [aH,A0];omega)]
   repeat' (first|(refine aC ?_;intro K hK hX)|refine aK [0,1,4,5] ?_|((first|with_reducible refine aF ?_|with_reducible refine bB ?_);refine bV aB (List.range 44) aE rfl rfl zby Tryz.func216 rfl rfl rfl (szf:=13) mI rfl ?_)|(((with_reducible refine bP ?_);refine xA ?_);(first|((with_reducible refine jW ?_);(first|refine aL (eD1 aB rfl rfl rfl rfl rfl (Bd.yes rfl rfl) (Bd.yes rfl rfl) (Ah _) aA hcell) ?_))))|refine stA ?_|(refine aG hK hX ?_;clear hK hX K)|fail|(first|refine bK zio ztr rfl rfl ResL.none ?_|refine bJ zio ztr rfl rfl ResL.none ?_))
   rw [hcell2]
   exact dR
 ·rw [Ak he]
  refine ⟨_,0,_,rfl,rfl,by omega,b,e,m,rfl,?_,hm,Ah _,hb⟩
  refine aZ aB (sz:=44) Tryz.func229 rfl (by rw [Tryz.ntmps229];rfl) ?_
  repeat' (first|(refine aC ?_;intro K hK hX)|refine aK [0,1,4,5] ?_|((first|with_reducible refine aF ?_|with_reducible refine bB ?_);refine bV aB (List.range 44) aE rfl rfl zby Tryz.func216 rfl rfl rfl (szf:=13) mI rfl ?_)|refine stA ?_|(refine aG hK hX ?_;clear hK hX K)|fail|(first|refine bK zio ztr rfl rfl ResL.none ?_|refine bJ zio ztr rfl rfl ResL.none ?_))
  exact dR
end
section
attribute [local irreducible] Still Adds AWL AW Drw bX bY AC AWR cU Frz Go.Av.Src cQ Out InK ItK AsK RdK eP eI ACT ACA eW
attribute [local simp] bS bR bI
theorem bR5 (most:Int) (h0:0<=most) (h1:most<=1000000) (b:Dm) (e:Int) (m:Nat) (hm:b.length=m) (hb:m<=1000000000):∃r s',rTx most ⟨b,e⟩=(r,s')/\ARd 248 194 [iv most] b e m (sv r) s':=by
 obtain ⟨n1,s1,q1,b1,e1,m1,rfl,a1,l1,d1,c1'⟩:=mR 0 most b e m hm hb
 have hbd:=rK 0 most (Int.le_refl _) h0 ⟨b,e⟩
 rw [q1] at hbd
 dsimp only at hbd
 obtain ⟨l,k,s2,q2,hk,hkm,b2,e2,m2,rfl,a2,l2,d2,c2'⟩:=aT1 n1 ⟨hbd.1,by omega⟩ b1 e1 m1 l1 c1'
 have huk:=u8l hk
 refine ⟨l,⟨b2,e2⟩,by unfold rTx;rw [q1];exact q2,b2,e2,m2,rfl,?_,l2,by omega,c2'⟩
 refine aZ aB (sz:=11) Tryz.func248 rfl (by rw [Tryz.ntmps248];rfl) ?_
 repeat' (first|(refine aC ?_;intro K hK hX)|refine aK [0,1,4] ?_|((with_reducible refine aF ?_);refine aJ (a1) aE rfl zby rfl rfl rfl rfl zcv rfl ztp ?_)|((with_reducible refine aF ?_);refine aJ (a2) aE rfl zby rfl rfl rfl rfl zcv rfl ztp ?_)|refine stA ?_|(refine aG hK hX ?_;clear hK hX K)|fail)
 exact dR
section
variable (b:Dm) (e:Int) (m:Nat) (hm:b.length=m) (hb:m<=1000000000)
include b e m hm hb
theorem cV7:∃r s',rVl aY2 ⟨b,e⟩=(r,s')/\ARd 249 194 [] b e m (.agg r.c) s':=by
 obtain ⟨n1,s1,q1,b1,e1,m1,rfl,a1,l1,d1,c1'⟩:=mR 0 2 b e m hm hb
 have hbd:=rK 0 2 aN aN ⟨b,e⟩
 rw [q1] at hbd
 dsimp only at hbd
 unfold rVl
 rw [q1]
 dsimp only
 by_cases k1:n1=1
 ·subst k1
  rw [Ak rfl]
  obtain ⟨n2,s2,q2,b2,e2,m2,rfl,a2,l2,d2,c2'⟩:=mR (-4294967296) 4294967296 b1 e1 m1 l1 c1'
  refine ⟨⟨1,n2,[]⟩,⟨b2,e2⟩,by unfold aY2;rw [q2],b2,e2,m2,rfl,?_,l2,by omega,c2'⟩
  dsimp only [Vl.c]
  refine aZ aB (sz:=20) Tryz.func249 rfl (by rw [Tryz.ntmps249];rfl) ?_
  repeat' (first|(refine aC ?_;intro K hK hX)|refine dM7 ?_|(refine aG hK hX ?_;clear hK hX K)|fail)
  exact fH
 ·rw [Aj k1]
  by_cases k2:n1=2
  ·subst k2
   rw [Ak rfl]
   obtain ⟨l,s2,q2,b2,e2,m2,rfl,a2,l2,d2,c2'⟩:=bR5 32 aN aN b1 e1 m1 l1 c1'
   refine ⟨⟨2,0,l⟩,⟨b2,e2⟩,by rw [q2],b2,e2,m2,rfl,?_,l2,by omega,c2'⟩
   dsimp only [Vl.c]
   refine aZ aB (sz:=20) Tryz.func249 rfl (by rw [Tryz.ntmps249];rfl) ?_
   repeat' (first|(refine aC ?_;intro K hK hX)|refine dM7 ?_|(refine aG hK hX ?_;clear hK hX K)|fail)
   exact fH
  ·rw [Aj k2]
   have k0:n1=0:=by omega
   subst k0
   refine ⟨⟨0,0,[]⟩,⟨b1,e1⟩,rfl,b1,e1,m1,rfl,?_,l1,by omega,c1'⟩
   dsimp only [Vl.c]
   refine aZ aB (sz:=20) Tryz.func249 rfl (by rw [Tryz.ntmps249];rfl) ?_
   repeat' (first|(refine aC ?_;intro K hK hX)|refine aK [0,2,3,8] ?_|((with_reducible refine aF ?_);refine aJ (a1) aE rfl zby rfl rfl rfl rfl zcv rfl ztp ?_)|refine stA ?_|(refine aG hK hX ?_;clear hK hX K)|fail)
   exact fH
theorem bJ7:∃r s',rVr ⟨b,e⟩=(r,s')/\ARd 226 194 [] b e m (.agg [iv r.t,iv r.c,iv r.s]) s':=by
 obtain ⟨n1,s1,q1,i1,b1,e1,m1,rfl,a1,l1,d1,c1'⟩:=gQ b e m hm hb
 obtain ⟨n2,s2,q2,i2,b2,e2,m2,rfl,a2,l2,d2,c2'⟩:=gQ b1 e1 m1 l1 c1'
 obtain ⟨n3,s3,q3,i3,b3,e3,m3,rfl,a3,l3,d3,c3'⟩:=gQ b2 e2 m2 l2 c2'
 refine ⟨⟨n1,n3,n2⟩,⟨b3,e3⟩,by simp only [rVr,q1,q2,q3],b3,e3,m3,rfl,?_,l3,by omega,c3'⟩
 refine aZ aB (sz:=14) Tryz.func226 rfl (by rw [Tryz.ntmps226];rfl) ?_
 repeat' (first|(refine aC ?_;intro K hK hX)|refine aK [0,2,3] ?_|((with_reducible refine aF ?_);refine aJ (a1) aE rfl zby rfl rfl rfl rfl zcv rfl ztp ?_)|((with_reducible refine aF ?_);refine aJ (a2) aE rfl zby rfl rfl rfl rfl zcv rfl ztp ?_)|((with_reducible refine aF ?_);refine aJ (a3) aE rfl zby rfl rfl rfl rfl zcv rfl ztp ?_)|refine stA ?_|(refine aG hK hX ?_;clear hK hX K)|fail)
 exact fH
theorem bZ5:∃r s',rSr ⟨b,e⟩=(r,s')/\ARd 228 194 [] b e m (.agg [iv r.t,iv r.s]) s':=by
 obtain ⟨n1,s1,q1,i1,b1,e1,m1,rfl,a1,l1,d1,c1'⟩:=gQ b e m hm hb
 obtain ⟨n2,s2,q2,i2,b2,e2,m2,rfl,a2,l2,d2,c2'⟩:=gQ b1 e1 m1 l1 c1'
 refine ⟨⟨n1,n2⟩,⟨b2,e2⟩,by simp only [rSr,q1,q2],b2,e2,m2,rfl,?_,l2,by omega,c2'⟩
 refine aZ aB (sz:=11) Tryz.func228 rfl (by rw [Tryz.ntmps228];rfl) ?_
 repeat' (first|(refine aC ?_;intro K hK hX)|refine cE0 ?_|(refine aG hK hX ?_;clear hK hX K)|fail)
 exact fH
theorem uD:∃r s',rId aY2 ⟨b,e⟩=(r,s')/\ARd 224 194 [] b e m (.agg r.cs) s':=by
 obtain ⟨n1,s1,q1,b1,e1,m1,rfl,a1,l1,d1,c1'⟩:=bR5 16 aN aN b e m hm hb
 obtain ⟨n2,s2,q2,b2,e2,m2,rfl,a2,l2,d2,c2'⟩:=cV7 b1 e1 m1 l1 c1'
 refine ⟨⟨n1,n2⟩,⟨b2,e2⟩,by simp only [rId,q1,q2],b2,e2,m2,rfl,?_,l2,by omega,c2'⟩
 obtain ⟨vk2,vn2,vt2⟩:=n2
 dsimp only [Idf.cs,Vl.c] at a2
 dsimp only [Idf.cs]
 refine aZ aB (sz:=11) Tryz.func224 rfl (by rw [Tryz.ntmps224];rfl) ?_
 repeat' (first|(refine aC ?_;intro K hK hX)|refine cE0 ?_|(refine aG hK hX ?_;clear hK hX K)|fail)
 exact fH
theorem dF1:∃r s',rLk aY2 ⟨b,e⟩=(r,s')/\ARd 180 194 [] b e m (.agg r.cs) s':=by
 obtain ⟨n1,s1,q1,b1,e1,m1,rfl,a1,l1,d1,c1'⟩:=uD b e m hm hb
 obtain ⟨n2,s2,q2,b2,e2,m2,rfl,a2,l2,d2,c2'⟩:=uD b1 e1 m1 l1 c1'
 obtain ⟨n3,s3,q3,i3,b3,e3,m3,rfl,a3,l3,d3,c3'⟩:=gQ b2 e2 m2 l2 c2'
 obtain ⟨n4,s4,q4,b4,e4,m4,rfl,a4,l4,d4,c4'⟩:=mR 0 1 b3 e3 m3 l3 c3'
 refine ⟨⟨n1,n2,n3,decide (n4=1)⟩,⟨b4,e4⟩,by simp only [rLk,q1,q2,q3,q4],b4,e4,m4,rfl,?_,l4,by omega,c4'⟩
 obtain ⟨ns1,⟨vk1,vn1,vt1⟩⟩:=n1
 obtain ⟨ns2,⟨vk2,vn2,vt2⟩⟩:=n2
 dsimp only [Idf.cs,Vl.c] at a1 a2
 dsimp only [LLk.cs]
 refine aZ aB (sz:=18) Tryz.func180 rfl (by rw [Tryz.ntmps180];rfl) ?_
 repeat' (first|(refine aC ?_;intro K hK hX)|refine dL3 ?_|(refine aG hK hX ?_;clear hK hX K)|fail)
 exact fH
theorem dE3:∃r s',rHd aY2 ⟨b,e⟩=(r,s')/\ARd 181 194 [] b e m (.agg r.cs) s':=by
 obtain ⟨n1,s1,q1,i1,b1,e1,m1,rfl,a1,l1,d1,c1'⟩:=gQ b e m hm hb
 obtain ⟨n2,s2,q2,i2,b2,e2,m2,rfl,a2,l2,d2,c2'⟩:=gQ b1 e1 m1 l1 c1'
 obtain ⟨n3,s3,q3,b3,e3,m3,rfl,a3,l3,d3,c3'⟩:=uD b2 e2 m2 l2 c2'
 obtain ⟨n4,s4,q4,i4,b4,e4,m4,rfl,a4,l4,d4,c4'⟩:=gQ b3 e3 m3 l3 c3'
 obtain ⟨n5,s5,q5,i5,b5,e5,m5,rfl,a5,l5,d5,c5'⟩:=gQ b4 e4 m4 l4 c4'
 obtain ⟨n6,s6,q6,i6,b6,e6,m6,rfl,a6,l6,d6,c6'⟩:=gQ b5 e5 m5 l5 c5'
 refine ⟨⟨n1,n2,n3,n4,n5,n6⟩,⟨b6,e6⟩,by simp only [rHd,q1,q2,q3,q4,q5,q6],b6,e6,m6,rfl,?_,l6,by omega,c6'⟩
 obtain ⟨ns3,⟨vk3,vn3,vt3⟩⟩:=n3
 dsimp only [Idf.cs,Vl.c] at a3
 dsimp only [LHd.cs]
 refine aZ aB (sz:=23) Tryz.func181 rfl (by rw [Tryz.ntmps181];rfl) ?_
 repeat' (first|(refine aC ?_;intro K hK hX)|refine dK8 ?_|(refine aG hK hX ?_;clear hK hX K)|fail)
 exact fH
theorem bH2:∃r s',rRq aY2 ⟨b,e⟩=(r,s')/\ARd 176 194 [] b e m (.agg r.cs) s':=by
 obtain ⟨n1,s1,q1,i1,b1,e1,m1,rfl,a1,l1,d1,c1'⟩:=gQ b e m hm hb
 obtain ⟨n2,s2,q2,b2,e2,m2,rfl,a2,l2,d2,c2'⟩:=uD b1 e1 m1 l1 c1'
 obtain ⟨n3,s3,q3,i3,b3,e3,m3,rfl,a3,l3,d3,c3'⟩:=gQ b2 e2 m2 l2 c2'
 obtain ⟨n4,s4,q4,i4,b4,e4,m4,rfl,a4,l4,d4,c4'⟩:=gQ b3 e3 m3 l3 c3'
 obtain ⟨n5,s5,q5,i5,b5,e5,m5,rfl,a5,l5,d5,c5'⟩:=gQ b4 e4 m4 l4 c4'
 refine ⟨⟨n1,n2,n3,n4,n5⟩,⟨b5,e5⟩,by simp only [rRq,q1,q2,q3,q4,q5],b5,e5,m5,rfl,?_,l5,by omega,c5'⟩
 obtain ⟨ns2,⟨vk2,vn2,vt2⟩⟩:=n2
 dsimp only [Idf.cs,Vl.c] at a2
 dsimp only [LRq.cs]
 refine aZ aB (sz:=20) Tryz.func176 rfl (by rw [Tryz.ntmps176];rfl) ?_
 repeat' (first|(refine aC ?_;intro K hK hX)|refine dK9 ?_|(refine aG hK hX ?_;clear hK hX K)|fail)
 exact fH
end
end
end Go.Proofs.YtbgehdndimlgkaaGreat
