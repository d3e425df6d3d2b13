/- Lemmas for laws of the ledger. -/
import Derived.Test.YtbgehdndimlgkaaGreatS16
set_option linter.all false
namespace Go.Proofs.YtbgehdndimlgkaaGreat
open Go Go.RowKit Go.Av
set_option maxRecDepth 100000
attribute [local irreducible] Still Adds AWL AW Drw bX bY AC AWR cU Frz Go.Av.Src cQ Out InK ItK AsK RdK eP eI ACT ACA eW
attribute [local simp] bS bR bI
set_option maxHeartbeats 16000000 in
theorem cQ2 (s:RS) (hb:s.b.length<=1000000000):ACT Tryz.prog 122 109 (rsC s) [] (rsC (bT s).2) (iv (bT s).1):=by
 obtain ⟨b,e⟩:=s
 dsimp only at hb
 obtain ⟨n,hn⟩:∃n,b.length=n:=⟨_,rfl⟩
 by_cases he:e=0
 ·subst he
  have hul:=u8l hn
  obtain ⟨R,hR⟩:∃R,bT ⟨b,0⟩=R:=⟨_,rfl⟩
  rw [hR]
  unfold rsC
  dsimp only
  rw [hn] at hb ⊢
  refine aZ aB (sz:=80) Tryz.func122 rfl (by rw [Tryz.ntmps122];rfl) ?_
  repeat' (first|(refine aC ?_;intro K hK hX)|refine sS ?_|(refine aG hK hX ?_;clear hK hX K)|fail)
  refine cL 1 (fun p:Nat × Nat=>[(0,.ref 0 0),(3,.c (nv p.2)),(4,.c (iv p.1))]) (fun p=>[(0,.blk 109 [.c (.sl 1 n (u8c b)),.c (iv 0)])]) [(none,[.ref 0 0])] (fun p=>AtI b p.1 p.2) (fun p=>10-p.1) (0,0) (AtI.init b) eH ?_
  rintro ⟨i,x⟩ hat K hK hX
  dsimp only at hat hK ⊢
  have hi9:=hat.i
  by_cases hlt:i<n
  ·obtain ⟨c,hc⟩:∃c,b[i]? = some c:=⟨_,Ab aA⟩
   have hcc:=eO6 hc
   have hcl:=c.toNat_lt
   by_cases hbad:(i=9/\1<c.toNat)\/(0<i/\c.toNat=0)
   ·have hres:=hat.bad hc hbad
    rw [hR] at hres
    by_cases h9:i=9/\1<c.toNat
    ·obtain ⟨h9,h1⟩:=h9
     repeat' (first|(refine aC ?_;intro K hK hX)|refine aK [0,1,2,3,4,5] ?_|((first|with_reducible refine aF ?_|with_reducible refine bB ?_);refine bV aB (List.range 80) aE rfl rfl zby Tryz.func134 rfl rfl rfl (szf:=13) gI rfl ?_)|refine eJ ?_|refine stA ?_|(refine aG hK hX ?_;clear hK hX K)|fail|(first|refine bK zio ztr rfl rfl ResL.none ?_|refine bJ zio ztr rfl rfl ResL.none ?_))
     rw [hres]
     dsimp only
     rw [hn]
     exact dR
    ·have h2:0<i/\c.toNat=0:=hbad.resolve_left h9
     obtain ⟨h2,h3⟩:=h2
     by_cases h4:i=9
     ·repeat' (first|(refine aC ?_;intro K hK hX)|refine aK [0,1,2,3,4,5] ?_|((first|with_reducible refine aF ?_|with_reducible refine bB ?_);refine bV aB (List.range 80) aE rfl rfl zby Tryz.func134 rfl rfl rfl (szf:=13) gI rfl ?_)|refine eJ ?_|refine stA ?_|(refine aG hK hX ?_;clear hK hX K)|fail|(first|refine bK zio ztr rfl rfl ResL.none ?_|refine bJ zio ztr rfl rfl ResL.none ?_))
      rw [hres]
      dsimp only
      rw [hn]
      exact dR
     ·repeat' (first|(refine aC ?_;intro K hK hX)|refine aK [0,1,2,3,4,5] ?_|((first|with_reducible refine aF ?_|with_reducible refine bB ?_);refine bV aB (List.range 80) aE rfl rfl zby Tryz.func134 rfl rfl rfl (szf:=13) gI rfl ?_)|refine eJ ?_|refine stA ?_|(refine aG hK hX ?_;clear hK hX K)|fail|(first|refine bK zio ztr rfl rfl ResL.none ?_|refine bJ zio ztr rfl rfl ResL.none ?_))
      rw [hres]
      dsimp only
      rw [hn]
      exact dR
   ·obtain ⟨hsx,hss⟩:=hat.size hc hbad
    by_cases hl:c.toNat<128
    ·have hres:=hat.last hc hbad hl
     rw [hR] at hres
     have hcm:c.toNat%128=c.toNat:=BN hl
     have hsh:c.toNat%128*2 ^ (7*i)<18446744073709551616:=by omega
     have hbl:(b.drop (i+1)).length=n-(i+1):=by rw [A0,hn]
     have h7:(7:Int)*(i:Int)=((7*i:Nat):Int):=by push_cast;rfl
     have h63:7*i<64:=by omega
     have hc8:c.toNat<256:=hcl
     rw [<- hcm] at hres
     obtain ⟨u,hu⟩:∃u,x+c.toNat%128*2 ^ (7*i)=u:=⟨_,rfl⟩
     rw [hu] at hss hres
     have hu63:u / 2 ^ 1<18446744073709551616:=by omega
     have hwr:IntKind.i64.wrap ((18446744073709551615-u / 2 ^ 1:Nat):Int) = -((u / 2 ^ 1:Nat):Int)-1:=by rw [IntKind.wrap_i64];omega
     have hu64:aT ((u / 2 ^ 1:Nat):Int):=⟨by omega,by omega⟩
     have hcs:(i=9/\c.toNat=1)\/i=0\/(i≠9/\i≠0/\c.toNat≠0):=by omega
     have hcell:List.take ((n-(i+1))*1) (List.drop ((i+1)*1) (u8c b))=u8c (b.drop (i+1)):=by rw [A8,A8,bR,Ad (by rw [aH,hbl];exact Ah _)]
     rcases hcs with ⟨q1,q2⟩|q1|⟨q1,q2,q3⟩
     ·skip
      by_cases hodd:u%2=1
      ·have hz:uz u = -((u / 2 ^ 1:Nat):Int)-1:=by unfold uz;rw [Ak hodd]
       repeat' (first|(refine aC ?_;intro K hK hX)|refine bU3 ?_|(refine aG hK hX ?_;clear hK hX K)|fail)
       rw [hres]
       dsimp only
       rw [hbl,hz,hcell]
       exact dR
      ·have hz:uz u=((u / 2 ^ 1:Nat):Int):=by unfold uz;rw [Aj hodd]
       repeat' (first|(refine aC ?_;intro K hK hX)|refine bU3 ?_|(refine aG hK hX ?_;clear hK hX K)|fail)
       rw [hres]
       dsimp only
       rw [hbl,hz,hcell]
       exact dR
     ·skip
      by_cases hodd:u%2=1
      ·have hz:uz u = -((u / 2 ^ 1:Nat):Int)-1:=by unfold uz;rw [Ak hodd]
       repeat' (first|(refine aC ?_;intro K hK hX)|refine bU3 ?_|(refine aG hK hX ?_;clear hK hX K)|fail)
       rw [hres]
       dsimp only
       rw [hbl,hz,hcell]
       exact dR
      ·have hz:uz u=((u / 2 ^ 1:Nat):Int):=by unfold uz;rw [Aj hodd]
       repeat' (first|(refine aC ?_;intro K hK hX)|refine bU3 ?_|(refine aG hK hX ?_;clear hK hX K)|fail)
       rw [hres]
       dsimp only
       rw [hbl,hz,hcell]
       exact dR
     ·skip
      by_cases hodd:u%2=1
      ·have hz:uz u = -((u / 2 ^ 1:Nat):Int)-1:=by unfold uz;rw [Ak hodd]
       repeat' (first|(refine aC ?_;intro K hK hX)|refine bU3 ?_|(refine aG hK hX ?_;clear hK hX K)|fail)
       rw [hres]
       dsimp only
       rw [hbl,hz,hcell]
       exact dR
      ·have hz:uz u=((u / 2 ^ 1:Nat):Int):=by unfold uz;rw [Aj hodd]
       repeat' (first|(refine aC ?_;intro K hK hX)|refine bU3 ?_|(refine aG hK hX ?_;clear hK hX K)|fail)
       rw [hres]
       dsimp only
       rw [hbl,hz,hcell]
       exact dR
    ·have hnx:=hat.next hc hbad hl
     have hsh:c.toNat%128*2 ^ (7*i)<18446744073709551616:=by omega
     have h7:(7:Int)*(i:Int)=((7*i:Nat):Int):=by push_cast;rfl
     have h63:7*i<64:=by omega
     have hc8:c.toNat<256:=hcl
     obtain ⟨u,hu⟩:∃u,x+c.toNat%128*2 ^ (7*i)=u:=⟨_,rfl⟩
     rw [hu] at hss hnx
     have hcs:i=0\/(i≠9/\i≠0/\c.toNat≠0):=by omega
     rcases hcs with q1|⟨q1,q2,q3⟩
     ·repeat' (first|(refine aC ?_;intro K hK hX)|refine dL0 ?_|(refine aG hK hX ?_;clear hK hX K)|fail)
      exact ⟨(i+1,u),hnx,by simp only;omega,eH⟩
     ·repeat' (first|(refine aC ?_;intro K hK hX)|refine dL0 ?_|(refine aG hK hX ?_;clear hK hX K)|fail)
      exact ⟨(i+1,u),hnx,by simp only;omega,eH⟩
  ·have hres:=hat.none (show b.length<=i by omega)
   rw [hR] at hres
   repeat' (first|(refine aC ?_;intro K hK hX)|refine aK [0,1,2,3,4,5] ?_|((first|with_reducible refine aF ?_|with_reducible refine bB ?_);refine bV aB (List.range 80) aE rfl rfl zby Tryz.func134 rfl rfl rfl (szf:=13) gI rfl ?_)|refine stA ?_|(refine aG hK hX ?_;clear hK hX K)|fail|(first|refine bK zio ztr rfl rfl ResL.none ?_|refine bJ zio ztr rfl rfl ResL.none ?_))
   rw [hres]
   dsimp only
   rw [hn]
   exact dR
 ·have hres:bT ⟨b,e⟩=(0,⟨b,e⟩):=by unfold bT;rw [Ak he]
  rw [hres]
  unfold rsC
  dsimp only
  have hul:=u8l hn
  rw [hn] at hb ⊢
  refine aZ aB (sz:=80) Tryz.func122 rfl (by rw [Tryz.ntmps122];rfl) ?_
  repeat' (first|(refine aC ?_;intro K hK hX)|refine aK [0,2,3,4,5] ?_|((with_reducible refine uJ ?_);refine rS 2 ?_)|(refine bK5 ?_;intro K hK hX)|refine stA ?_|(refine aG hK hX ?_;clear hK hX K)|fail)
  exact dR
end Go.Proofs.YtbgehdndimlgkaaGreat
