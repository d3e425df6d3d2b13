/- Lemmas for laws of the ledger. -/
import Derived.Test.YtbgehdndimlgkaaGreatS40
set_option linter.all false
namespace Go.Proofs.YtbgehdndimlgkaaGreat
open Go Go.RowKit Go.Av
set_option maxRecDepth 100000
theorem eA7 {n lo hi:Int} (h:¬(lo<=n/\n<=hi)) (h3:aT n) (r:Dm):pIn lo hi (bA n++r)=none:=by
 unfold pIn
 rw [dA h3,Al,Aj h]
theorem eA8 {s:Dm} {m:Int} (h:m<s.length) (hs:s.length<=1000000) (r:Dm):pTx m (mO s++r)=none:=by
 unfold pTx mO
 rw [Ao,eA7 aA ⟨by omega,by omega⟩]
 rfl
theorem aQ2 {i:Idf} (h:16<i.ns.length) (hs:i.ns.length<=1000000) (r:Dm):pId (eA i++r)=none:=by
 unfold pId eA
 rw [Ao,eA8 aA hs]
 rfl
theorem cO5 {e:LEn} (hw:e.wf) (hk:aT e.k) (h:(pEn (cM e)).isSome=true):(lM e.k e.day e.plan e.step (cN e)).isSome=true:=by
 obtain ⟨k1,k2⟩:=aX7 hk h
 obtain ⟨a1,a2,a3⟩:=hw.h1
 unfold pEn cM at h
 rw [jJ k1 k2 hk.1 hk.2,Al] at h
 simp only at h
 rw [dA a1,Al] at h
 simp only at h
 rw [dA a2,Al] at h
 simp only at h
 rw [dA a3,Al] at h
 exact h
theorem dU1 {e:LEn} (hw:e.wf) (hk:aT e.k) (hz:smE e) (h:(pEn (cM e)).isSome=true):e.rd:=by
 have hb:=cO5 hw hk h
 obtain ⟨s1,s2,s3,s4,s5,s6,s7,s8,s9,s10⟩:=hz
 refine ⟨aX7 hk h,fun hk1=>?_,fun hk2=>⟨by omega,by omega⟩,fun hk6=>?_,fun hk7=>?_⟩
 ·refine Dc fun hlt=>?_
  unfold lM cN at hb
  rw [Ak hk1,Ak hk1] at hb
  unfold pRq kI at hb
  rw [dA hw.rq.1,Al] at hb
  simp only at hb
  rw [aQ2 aA aA] at hb
  cases hb
 ·have hn1:¬e.k=1:=by omega
  have hn2:¬e.k=2:=by omega
  have hn4:¬e.k=4:=by omega
  unfold lM cN at hb
  rw [Aj hn1,Aj hn2,Aj hn4,Ak hk6,Aj hn1,Aj hn2,Aj hn4,Ak hk6] at hb
  unfold pLk kH at hb
  by_cases ha:e.lk.a.ns.length<=16
  ·refine ⟨ha,Dc fun hlt=>?_⟩
   rw [uN ha,Al] at hb
   simp only at hb
   rw [aQ2 aA aA] at hb
   cases hb
  ·rw [aQ2 aA aA] at hb
   cases hb
 ·have hn1:¬e.k=1:=by omega
  have hn2:¬e.k=2:=by omega
  have hn4:¬e.k=4:=by omega
  have hn6:¬e.k=6:=by omega
  refine Dc fun hlt=>?_
  unfold lM cN at hb
  rw [Aj hn1,Aj hn2,Aj hn4,Aj hn6,Ak hk7,Aj hn1,Aj hn2,Aj hn4,Aj hn6,Ak hk7] at hb
  unfold pHd kG at hb
  rw [dA hw.hd.1,Al] at hb
  simp only at hb
  rw [dA hw.hd.2.1,Al] at hb
  simp only at hb
  rw [aQ2 aA aA] at hb
  cases hb
theorem bG8 {e:LEn} (hw:e.wf) (hr:e.rd):rdE e=clE e:=by
 have:=uM hw hr []
 rw [A4] at this
 unfold rdE
 rw [this]
 rfl
theorem cN5 {e:LEn} (hw:e.wf) (hr:e.rd):(rdE e).wf/\aT (rdE e).k/\(rdE e).sz:=by
 have h:=uM hw hr []
 rw [A4] at h
 obtain ⟨h1,h2,h3⟩:=cO0 h
 rw [bG8 hw hr]
 exact ⟨h1,⟨by have:=h2.1;simp only at this;omega,by have:=h2.2;simp only at this;omega⟩,h3⟩
theorem dF8 {l:List LEn} {e:LEn} (hl:OkL l) (hw:e.wf) (hr:e.rd):OkL (l++[rdE e]):=fun x hx=>by
 rcases Az.1 hx with h|h
 ·exact hl x h
 ·have:x=rdE e:=by simpa using h
  rw [this]
  exact cN5 hw hr
section
section
variable {P:Dv} {tab:Tab} {ev:Evl} {h:aO} {d:Dt} {T ty T':Du} {x y:Operand} {pos:String} {aft:Ds} {gd:Dn}
end
end
end Go.Proofs.YtbgehdndimlgkaaGreat
