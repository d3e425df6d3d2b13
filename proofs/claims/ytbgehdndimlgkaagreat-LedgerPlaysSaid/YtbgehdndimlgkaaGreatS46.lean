/- Lemmas for laws of the ledger. -/
import Derived.Test.YtbgehdndimlgkaaGreatS34
set_option linter.all false
namespace Go.Proofs.YtbgehdndimlgkaaGreat
open Go Go.RowKit Go.Av
set_option maxRecDepth 100000
theorem cL4 {e:LEn} (hw:e.wf) (hk:aT e.k) (hz:e.sz) (ch:Dm):(iP kdL ch e).length<=100042:=by
 have h1:=oY hw hk hz
 have h2:(kdL ch (cM e)).length=32:=kU _ _
 have h3:=kM (n:=(cM e).length) aA
 unfold iP
 simp only [Aa]
 omega
attribute [local irreducible] Still Adds AWL AW Drw bX bY AC AWR cU Frz Go.Av.Src cQ Out InK ItK AsK RdK eP eI ACT ACA eW lec
set_option maxHeartbeats 16000000 in
theorem bY3 (ch:Dm) (hch:ch.length=32) (e:LEn) (hw:e.wf) (hk:aT e.k) (hz:e.sz) (nv ns:Nat) (hnv:e.vs.length=nv) (hns:e.ss.length=ns) (m:Nat) (hm:(iP kdL ch e).length=m):qC' 65 [.agg (u8c ch),.agg (ecs e nv ns)] (.tup [.c (.sl 1 m (u8c (iP kdL ch e))),.c (.agg (u8c (kdL ch (cM e))))]) [] 0:=by
 have hel:=cK hw.root nv ns
 have hul:(u8c ch).length=32:=by rw [aH,hch]
 obtain ⟨n1,hn1⟩:∃n,(cM e).length=n:=⟨_,rfl⟩
 have hlen:=oY hw hk hz
 rw [hn1] at hlen
 obtain ⟨n2,hn2⟩:∃n,(bA (n1:Int)).length=n:=⟨_,rfl⟩
 have hn2b:=kM (n:=n1) aA
 rw [hn2] at hn2b
 have h1:=aK5 e hw hk nv ns hnv hns n1 hn1 aA
 have h2:=aK7 330#64 ch (cM e) n1 hch hn1 aA
 have hkd:sum 330#64 (ch++cM e)=kdL ch (cM e):=rfl
 rw [hkd] at h2
 have hdl:=kU ch (cM e)
 have hfr:iP kdL ch e=bA (n1:Int)++(cM e++kdL ch (cM e)):=by unfold iP;rw [hn1]
 have hfl:n2+n1+32=m:=by rw [<- hm,hfr,Aa,Aa,hn1,hn2,hdl];omega
 have hfu:u8c (iP kdL ch e)=u8c (bA (n1:Int))++u8c (cM e)++u8c (kdL ch (cM e)):=by rw [hfr,bI,bI,Ao]
 have h3:=jA (n1:Int) ⟨by omega,by omega⟩ n2 hn2
 have h4:=zJ (kdL ch (cM e)) hdl
 have e1:(u8c (cM e)).length=n1:=by rw [aH,hn1]
 have e2:(u8c (bA (n1:Int))).length=n2:=by rw [aH,hn2]
 have e3:(u8c (kdL ch (cM e))).length=32:=by rw [aH,hdl]
 rw [hfu,<- hfl]
 clear hm hfl hfr hfu hkd
 have hrl:(u8c (bA (n1:Int))++u8c (cM e)++u8c (kdL ch (cM e))).length=(n2+n1+32)*1:=by rw [Aa,Aa];omega
 generalize ecs e nv ns=cs at *
 refine aD aB (sz:=22) Tryz.func65 rfl (by rw [Tryz.ntmps65];rfl) ?_
 repeat' (first|(refine aC ?_;intro K hK hX)|refine aK [0,1,2,3,4,5,6,7] ?_|((with_reducible refine aQ (i:=3) ?_);refine aP [0,1,2,3,4,5,6,7] rfl rfl ?_;refine bW [] ?_)|((with_reducible refine aQ ?_);refine aP [0,1,2,3,4,5,6,7] rfl rfl ?_;refine cJ [] ?_)|((with_reducible refine bM ?_);refine yA ?_;(first|refine bC (bN (T:=49) rfl) rfl ?_|refine bC (bN (T:=28) rfl) rfl ?_))|((first|with_reducible refine aF ?_|with_reducible refine gG ?_|with_reducible refine bL ?_);(first|refine wA ?_|refine wD ?_|refine wE ?_);refine oZ (dP (fG zby rfl (h1) zcv rfl) zln) ?_)|((first|with_reducible refine aF ?_|with_reducible refine gG ?_|with_reducible refine bL ?_);(first|refine wA ?_|refine wD ?_|refine wE ?_);refine oZ (dP (fG zby rfl (h4) zcv rfl) zln) ?_)|(refine dM ?_;first|refine c0 h2 ?_|refine c1 h3 ?_)|refine stA ?_|refine stD ?_|refine stE ?_|(refine aG hK hX ?_;clear hK hX K)|fail)
 refine cV zio ztr rfl (ResL.two (ResA.tmp rfl) zrs) (iM (aX zfz (aX zfz cS)))
structure BySt where
 i:Nat
 o:Dm
 c:Dm
 w:Nat
structure ByInv (l:List LEn) (n:Nat) (s:BySt):Prop where
 hi:s.i<=n
 hw:s.o.length=s.w
 ho:s.o=eI8 kdL root0 (l.take s.i)
 hc:s.c=(l.take s.i).foldl (fun c e=>kdL c (cM e)) root0
end Go.Proofs.YtbgehdndimlgkaaGreat
