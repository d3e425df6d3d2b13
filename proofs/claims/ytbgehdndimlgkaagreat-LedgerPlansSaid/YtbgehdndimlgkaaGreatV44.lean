/- Lemmas for laws of the ledger. -/
import Derived.Test.YtbgehdndimlgkaaGreatV40
set_option linter.all false
namespace Go.Proofs.YtbgehdndimlgkaaGreat
open Go Go.RowKit Go.Av
set_option maxRecDepth 100000
theorem dD9 {n lo hi:Int} (h:¬(lo<=n/\n<=hi)) (h3:aS n) (r:CZ):pIn lo hi (bO n++r)=none:=by
 unfold pIn
 rw [cN h3,Ak,Af h]
theorem dE0 {s:CZ} {m:Int} (h:m<s.length) (hs:s.length<=1000000) (r:CZ):pTx m (pM s++r)=none:=by
 unfold pTx pM
 rw [Ar,dD9 aA ⟨by omega,by omega⟩]
 rfl
theorem aD0 {i:Idf} (h:16<i.ns.length) (hs:i.ns.length<=1000000) (r:CZ):pId (gC i++r)=none:=by
 unfold pId gC
 rw [Ar,dE0 aA hs]
 rfl
theorem bV9 {e:LEn} (hw:e.wf) (hk:aS e.k) (h:(pEn (cW e)).isSome=true):(kY e.k e.day e.plan e.step (dC e)).isSome=true:=by
 obtain ⟨k1,k2⟩:=aZ5 hk h
 obtain ⟨a1,a2,a3⟩:=hw.h1
 unfold pEn cW at h
 rw [iB k1 k2 hk.1 hk.2,Ak] at h
 simp only at h
 rw [cN a1,Ak] at h
 simp only at h
 rw [cN a2,Ak] at h
 simp only at h
 rw [cN a3,Ak] at h
 exact h
theorem dM7 {e:LEn} (hw:e.wf) (hk:aS e.k) (hz:smE e) (h:(pEn (cW e)).isSome=true):e.rd:=by
 have hb:=bV9 hw hk h
 obtain ⟨s1,s2,s3,s4,s5,s6,s7,s8,s9,s10⟩:=hz
 refine ⟨aZ5 hk h,fun hk1=>?_,fun hk2=>⟨by omega,by omega⟩,fun hk6=>?_,fun hk7=>?_⟩
 ·refine CN fun hlt=>?_
  unfold kY dC at hb
  rw [Aj hk1,Aj hk1] at hb
  unfold pRq nH at hb
  rw [cN hw.rq.1,Ak] at hb
  simp only at hb
  rw [aD0 aA aA] at hb
  cases hb
 ·have hn1:¬e.k=1:=by omega
  have hn2:¬e.k=2:=by omega
  have hn4:¬e.k=4:=by omega
  unfold kY dC at hb
  rw [Af hn1,Af hn2,Af hn4,Aj hk6,Af hn1,Af hn2,Af hn4,Aj hk6] at hb
  unfold pLk nG at hb
  by_cases ha:e.lk.a.ns.length<=16
  ·refine ⟨ha,CN fun hlt=>?_⟩
   rw [rJ ha,Ak] at hb
   simp only at hb
   rw [aD0 aA aA] at hb
   cases hb
  ·rw [aD0 aA aA] at hb
   cases hb
 ·have hn1:¬e.k=1:=by omega
  have hn2:¬e.k=2:=by omega
  have hn4:¬e.k=4:=by omega
  have hn6:¬e.k=6:=by omega
  refine CN fun hlt=>?_
  unfold kY dC at hb
  rw [Af hn1,Af hn2,Af hn4,Af hn6,Aj hk7,Af hn1,Af hn2,Af hn4,Af hn6,Aj hk7] at hb
  unfold pHd nF at hb
  rw [cN hw.hd.1,Ak] at hb
  simp only at hb
  rw [cN hw.hd.2.1,Ak] at hb
  simp only at hb
  rw [aD0 aA aA] at hb
  cases hb
theorem bX0 {e:LEn} (hw:e.wf) (hr:e.rd):rdE e=clE e:=by
 have:=uI hw hr []
 rw [A2] at this
 unfold rdE
 rw [this]
 rfl
theorem dD3 {e:LEn} (hw:e.wf) (hr:e.rd):(rdE e).wf/\aS (rdE e).k/\(rdE e).sz:=by
 have h:=uI hw hr []
 rw [A2] at h
 obtain ⟨h1,h2,h3⟩:=bV4 h
 rw [bX0 hw hr]
 exact ⟨h1,⟨by have:=h2.1;simp only at this;omega,by have:=h2.2;simp only at this;omega⟩,h3⟩
theorem cM2 {l:List LEn} {e:LEn} (hl:OkL l) (hw:e.wf) (hr:e.rd):OkL (l++[rdE e]):=fun x hx=>by
 rcases Az.1 hx with h|h
 ·exact hl x h
 ·have:x=rdE e:=by simpa using h
  rw [this]
  exact dD3 hw hr
theorem bV1 {s:Lg} {e:LEn} (hf:¬Fol s.l e):opAd s e=(lgZ,11):=by
 unfold opAd
 rw [Aj hf]
section
section
variable {P:Di} {tab:Tab} {ev:Evl} {h:aL} {d:Dg} {T ty T':Dh} {x y:Operand} {pos:String} {aft:Df} {gd:Da}
end
theorem cC8 {l:List LEn} {e:LEn} (h:Fol l e):Fol l (clE e) where
 rd:=by rw [cH1];exact h.rd
 day:=h.day
 rq hk:=by
  have:=h.rq hk
  have hk:e.k=1:=hk
  unfold clE
  simp only [hk,B9]
  exact this
 er hk:=by
  have hk:e.k=2:=hk
  have:=h.er hk
  rw [(bL4 hk).1,(bL4 hk).2]
  exact this
 st hk:=h.st hk
 co hk:=h.co hk
 sg hk:=h.sg hk
theorem qZ {i:Idf} (h:i.ns.length<=40):(gC i).length<=110:=by
 unfold gC
 rw [Aa]
 have:=vW (s:=i.ns) aA
 have:=aH3 (aJ1 i.v)
 omega
theorem cH2 {e:LEn} (hw:e.wf) (hk:aS e.k) (hs:smE e):(cW e).length<=4000:=by
 obtain ⟨a1,a2,a3⟩:=hw.h1
 obtain ⟨b1,b2,b3,b4⟩:=hw.rq
 have c1:=hw.lk
 obtain ⟨d1,d2,d3,d4,d5⟩:=hw.hd
 have e1:=hw.vs
 have e2:=hw.ss
 have f1:=hw.root
 obtain ⟨s1,s2,s3,_,s4,_,s5,_,s6,_⟩:=hs
 unfold cW
 simp only [Aa]
 have k1:=aX hk
 have k2:=aX a1
 have k3:=aX a2
 have k4:=aX a3
 have k5:(dC e).length<=3000:=by
  unfold dC
  split
  ·unfold nH
   simp only [Aa]
   have:=aX b1
   have:=aX b2
   have:=aX b3
   have:=aX b4
   have:=qZ s3
   omega
  ·split
   ·unfold jC
    simp only [Aa]
    have:=iO (n:=e.vs.length) aA
    have:=iO (n:=e.ss.length) aA
    have:=mC (e:=fI) (m:=30) (l:=e.vs) fun x hx=>by
     obtain ⟨p1,p2,p3⟩:=e1 x hx
     have:=aX p1
     have:=aX p2
     have:=aX p3
     unfold fI
     simp only [Aa]
     omega
    have:=mC (e:=fW) (m:=20) (l:=e.ss) fun x hx=>by
     obtain ⟨p1,p2⟩:=e2 x hx
     have:=aX p1
     have:=aX p2
     unfold fW
     simp only [Aa]
     omega
    omega
   ·split
    ·omega
    ·split
     ·unfold nG
      simp only [Aa]
      have:=aX c1
      have:=qZ s4
      have:=qZ s5
      have:(bO (if e.lk.rv=true then 1 else 0)).length<=10:=aX (by unfold aS;split<;>omega)
      omega
     ·split
      ·unfold nF
       simp only [Aa]
       have:=aX d1
       have:=aX d2
       have:=aX d3
       have:=aX d4
       have:=aX d5
       have:=qZ s6
       omega
      ·simp
 omega
theorem cK1 {e:LEn} (hw:e.wf) (hk:aS e.k) (hs:smE e) (ch:CZ):(jA kdL ch e).length<=4042:=by
 have h1:=cH2 hw hk hs
 have h2:(kdL ch (cW e)).length=32:=mR _ _
 have h3:=iO (n:=(cW e).length) aA
 unfold jA
 simp only [Aa]
 omega
theorem cH4 {l:List LEn} (h:bS1 l) (hw:∀e∈l,e.wf/\aS e.k):OkL l:=fun e he=>⟨(hw e he).1,(hw e he).2,aS6 (h.2 e he)⟩
theorem cM3 {sy:CZ} {L:List LEn} {c:CZ} {e:LEn} (hF:Fol L e) (hl:L.length<512) (hb:sy.length+(jA kdL c e).length<=131072):opAd ⟨⟨sy,[],-1,false⟩,L,c⟩ e=(⟨⟨sy++jA kdL c e,[],-1,false⟩,L++[rdE e],kdL c (cW e)⟩,0):=by
 have h1:opA ⟨sy,[],-1,false⟩ (jA kdL c e)=(⟨sy,jA kdL c e,-1,false⟩,0):=by
  unfold opA
  rw [Af (by rw [mU (m:=sy.length) (k:=0) rfl rfl aA aO];simp)]
  simp only
  rw [Af aN,Af dS,Af aO]
  simp
 have h2:opS ⟨sy,jA kdL c e,-1,false⟩=(⟨sy++jA kdL c e,[],-1,false⟩,0):=by
  unfold opS
  rw [Af (by rw [mU (m:=sy.length) (k:=(jA kdL c e).length) rfl rfl aA aO];simp)]
  rw [Af aO,Af aO]
 have h0:¬¬Fol L e:=fun h=>h hF
 unfold opAd
 simp only
 rw [Af h0,Af aA,h1]
 simp only [h2,B9]
end
end Go.Proofs.YtbgehdndimlgkaaGreat
