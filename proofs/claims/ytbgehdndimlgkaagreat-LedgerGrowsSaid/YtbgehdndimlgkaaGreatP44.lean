/- Lemmas for laws of the ledger. -/
import Derived.Test.YtbgehdndimlgkaaGreatP40
set_option linter.all false
namespace Go.Proofs.YtbgehdndimlgkaaGreat
open Go Go.RowKit Go.Av
set_option maxRecDepth 100000
theorem eJ0 {n lo hi:Int} (h:¬(lo<=n/\n<=hi)) (h3:aS n) (r:Dr):pIn lo hi (bA n++r)=none:=by
 unfold pIn
 rw [dJ h3,Am,Ai h]
theorem eJ1 {s:Dr} {m:Int} (h:m<s.length) (hs:s.length<=1000000) (r:Dr):pTx m (nJ s++r)=none:=by
 unfold pTx nJ
 rw [Ao,eJ0 aA ⟨by omega,by omega⟩]
 rfl
theorem aV8 {i:Idf} (h:16<i.ns.length) (hs:i.ns.length<=1000000) (r:Dr):pId (eI i++r)=none:=by
 unfold pId eI
 rw [Ao,eJ1 aA hs]
 rfl
theorem cV8 {e:LEn} (hw:e.wf) (hk:aS e.k) (h:(pEn (cC e)).isSome=true):(mD e.k e.day e.plan e.step (cU e)).isSome=true:=by
 obtain ⟨k1,k2⟩:=bE1 hk h
 obtain ⟨a1,a2,a3⟩:=hw.h1
 unfold pEn cC at h
 rw [jZ k1 k2 hk.1 hk.2,Am] at h
 simp only at h
 rw [dJ a1,Am] at h
 simp only at h
 rw [dJ a2,Am] at h
 simp only at h
 rw [dJ a3,Am] at h
 exact h
theorem bW3 {e:LEn} (hw:e.wf) (hk:aS e.k) (hz:smE e) (h:(pEn (cC e)).isSome=true):e.rd:=by
 have hb:=cV8 hw hk h
 obtain ⟨s1,s2,s3,s4,s5,s6,s7,s8,s9,s10⟩:=hz
 refine ⟨bE1 hk h,fun hk1=>?_,fun hk2=>⟨by omega,by omega⟩,fun hk6=>?_,fun hk7=>?_⟩
 ·refine CP fun hlt=>?_
  unfold mD cU at hb
  rw [Ak hk1,Ak hk1] at hb
  unfold pRq kY at hb
  rw [dJ hw.rq.1,Am] at hb
  simp only at hb
  rw [aV8 aA aA] at hb
  cases hb
 ·have hn1:¬e.k=1:=by omega
  have hn2:¬e.k=2:=by omega
  have hn4:¬e.k=4:=by omega
  unfold mD cU at hb
  rw [Ai hn1,Ai hn2,Ai hn4,Ak hk6,Ai hn1,Ai hn2,Ai hn4,Ak hk6] at hb
  unfold pLk kX at hb
  by_cases ha:e.lk.a.ns.length<=16
  ·refine ⟨ha,CP fun hlt=>?_⟩
   rw [vV ha,Am] at hb
   simp only at hb
   rw [aV8 aA aA] at hb
   cases hb
  ·rw [aV8 aA aA] at hb
   cases hb
 ·have hn1:¬e.k=1:=by omega
  have hn2:¬e.k=2:=by omega
  have hn4:¬e.k=4:=by omega
  have hn6:¬e.k=6:=by omega
  refine CP fun hlt=>?_
  unfold mD cU at hb
  rw [Ai hn1,Ai hn2,Ai hn4,Ai hn6,Ak hk7,Ai hn1,Ai hn2,Ai hn4,Ai hn6,Ak hk7] at hb
  unfold pHd kW at hb
  rw [dJ hw.hd.1,Am] at hb
  simp only at hb
  rw [dJ hw.hd.2.1,Am] at hb
  simp only at hb
  rw [aV8 aA aA] at hb
  cases hb
theorem aW3 {e:LEn} (hw:e.wf) (hr:e.rd):rdE e=clE e:=by
 have:=tG hw hr []
 rw [A1] at this
 unfold rdE
 rw [this]
 rfl
theorem cU7 {e:LEn} (hw:e.wf) (hr:e.rd):(rdE e).wf/\aS (rdE e).k/\(rdE e).sz:=by
 have h:=tG hw hr []
 rw [A1] at h
 obtain ⟨h1,h2,h3⟩:=cV3 h
 rw [aW3 hw hr]
 exact ⟨h1,⟨by have:=h2.1;simp only at this;omega,by have:=h2.2;simp only at this;omega⟩,h3⟩
theorem bU8 {l:List LEn} {e:LEn} (hl:OkL l) (hw:e.wf) (hr:e.rd):OkL (l++[rdE e]):=fun x hx=>by
 rcases Az.1 hx with h|h
 ·exact hl x h
 ·have:x=rdE e:=by simpa using h
  rw [this]
  exact cU7 hw hr
theorem cU9 {s:Lg} {e:LEn} (hf:¬Fol s.l e):opAd s e=(lgZ,11):=by
 unfold opAd
 rw [Ak hf]
section
section
variable {P:D0} {tab:Tab} {ev:Evl} {h:aQ} {d:Dy} {T ty T':Dz} {x y:Operand} {pos:String} {aft:Dx} {gd:Ds}
theorem bX5 {b m J:Nat} (hm:0<m) (hJ:b%m=J) {Y:Int} (hY:Y=(m:Int)) (hx:ev x=some (.c (.v (.int .u64 (b:Int))))) (hy:ev y=some (.c (.v (.int .u64 Y)))):Still P ⟨d,.binOp .rem T x y T',ty,pos,aft,gd⟩ ev h (.c (nv J)):=by
 subst hJ
 exact aX1 hm hY hx hy
end
theorem aT3 {l:List LEn} (h:rY l) (hw:∀e∈l,e.wf/\aS e.k):OkL l:=fun e he=>⟨(hw e he).1,(hw e he).2,qZ (h.2 e he)⟩
end
end Go.Proofs.YtbgehdndimlgkaaGreat
