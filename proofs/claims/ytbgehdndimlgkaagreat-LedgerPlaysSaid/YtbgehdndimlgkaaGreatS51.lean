/- Lemmas for laws of the ledger. -/
import Derived.Test.YtbgehdndimlgkaaGreatS49
import Derived.Test.YtbgehdndimlgkaaGreatS50
set_option linter.all false
namespace Go.Proofs.YtbgehdndimlgkaaGreat
open Go Go.RowKit Go.Av
set_option maxRecDepth 100000
theorem fu0:(0:Int)<=9223372036854775807:=by decide
structure Pa where
 k:Int
 n:Int
 e:LEn
def paC (a:Pa):D1:=iv a.k::iv a.n::ecR a.e
def pas (l:List Pa):D1:=l.flatMap paC
theorem aQ3 {a:Pa} (h:a.e.wf):(paC a).length=67:=by
 have:=lQ h
 simp only [paC,Au,this]
theorem dG8 {l:List Pa} (h:∀a∈l,a.e.wf):(pas l).length=l.length*67:=wB fun a ha=>aQ3 (h a ha)
theorem eB0 {l:List Pa} (h:∀a∈l,a.e.wf) {i:Nat} {a:Pa} (he:l[i]? = some a):((pas l).drop (i*67)).take 67=paC a:=aB7 (fun a ha=>aQ3 (h a ha)) he
structure PyI (s:Lg):Prop where
 sz:s.d.sy.length+s.d.pe.length<=131072
 fu:s.d.fu<=9223372036854775807
 c:s.c.length=32
 ok:OkL s.l
 lf:LfE s.l
 len:s.l.length<=512
theorem PyI.lgN:PyI lgN:=⟨by simp [Go.Proofs.YtbgehdndimlgkaaGreat.lgN,dkN],by decide,rfl,fun e he=>by simp [Go.Proofs.YtbgehdndimlgkaaGreat.lgN] at he,fun e he=>by simp [Go.Proofs.YtbgehdndimlgkaaGreat.lgN] at he,by simp [Go.Proofs.YtbgehdndimlgkaaGreat.lgN]⟩
theorem PyI.lgZ:PyI lgZ:=⟨by simp [Go.Proofs.YtbgehdndimlgkaaGreat.lgZ,dkZ],by decide,rfl,fun e he=>by simp [Go.Proofs.YtbgehdndimlgkaaGreat.lgZ] at he,fun e he=>by simp [Go.Proofs.YtbgehdndimlgkaaGreat.lgZ] at he,by simp [Go.Proofs.YtbgehdndimlgkaaGreat.lgZ]⟩
theorem eA0 {s t:Dk} {b:Dm} {e:Int} (hf:s.fu<=9223372036854775807) (h:opA s b=(t,e)):t.fu<=9223372036854775807:=by
 unfold opA at h
 split at h
 ·injection h with h _;rw [<- h];exact fu0
 ·split at h
  ·injection h with h _;rw [<- h];exact hf
  ·split at h
   ·injection h with h _;rw [<- h];exact fu0
   ·split at h
    ·injection h with h _;rw [<- h];exact fu0
    ·injection h with h _
     rw [<- h]
     simp only
     split<;>omega
theorem eL6 {s t:Dk} {e:Int} (hs:s.sy.length+s.pe.length<=131072) (hf:s.fu<=9223372036854775807) (h:opS s=(t,e)):t.sy.length+t.pe.length<=131072/\t.fu<=9223372036854775807:=by
 unfold opS at h
 split at h
 ·injection h with h _;rw [<- h];exact ⟨by simp [dkZ],fu0⟩
 ·split at h
  ·injection h with h _;rw [<- h];exact ⟨hs,hf⟩
  ·split at h
   ·injection h with h _;rw [<- h];exact ⟨hs,hf⟩
   ·injection h with h _;rw [<- h];exact ⟨by simp only [Aa,Bt];omega,hf⟩
theorem eB1 {s:Lg} (h:PyI s) {e:LEn} (hw:e.wf) (hk:aT e.k) (hs:smE e):PyI (opAd s e).1:=by
 obtain ⟨h1,h2,h3,h4,h5,h6⟩:=h
 unfold opAd
 by_cases hF:Fol s.l e
 rotate_left
 ·rw [Ak hF];exact PyI.lgZ
 have hrd:=dU1 hw hk hs hF.rd
 rw [Aj (fun h=>h hF)]
 by_cases h512:512<=s.l.length
 ·rw [Ak h512];exact PyI.lgZ
 rw [Aj h512]
 obtain ⟨d1,e1,hoA⟩:∃d1 e1,opA s.d (iP kdL s.c e)=(d1,e1):=⟨_,_,rfl⟩
 have g1:=wI hoA
 have g2:=eA0 h2 hoA
 rw [hoA]
 simp only
 by_cases e10:e1=0
 ·rw [Ak e10]
  obtain ⟨d2,e2,hoS⟩:∃d2 e2,opS d1=(d2,e2):=⟨_,_,rfl⟩
  obtain ⟨g3,g4⟩:=eL6 g1 g2 hoS
  rw [hoS]
  simp only
  by_cases e20:e2=0
  ·rw [Ak e20]
   refine ⟨g3,g4,kU _ _,dF8 h4 hw hrd,fun x hx=>?_,by simp only [Aa,Ca];omega⟩
   rcases Az.1 hx with hx|hx
   ·exact h5 x hx
   ·rw [AX.1 hx,bG8 hw hrd];exact eJ7 (aF2 hs)
  ·rw [Aj e20];exact ⟨g3,g4,h3,h4,h5,h6⟩
 ·rw [Aj e10]
  split
  ·exact ⟨g1,g2,h3,h4,h5,h6⟩
  ·exact PyI.lgZ
theorem bP5 {s:Dk} (hf:s.fu<=9223372036854775807):PyI (opO s).1:=by
 obtain ⟨r,e,hr⟩:∃r e,opO s=(r,e):=⟨_,_,rfl⟩
 obtain ⟨o1,o2,o3,o4,o5⟩:=wJ s r e hr
 rw [hr]
 refine ⟨o5,?_,o1,o2,?_,o3⟩
 ·unfold opO at hr
  split at hr
  ·injection hr with hr _;rw [<- hr];exact fu0
  ·injection hr with hr _
   rw [<- hr]
   simp only
   unfold opT
   split
   ·exact fu0
   ·split
    ·exact hf
    ·exact hf
 ·unfold opO at hr
  split at hr
  ·injection hr with hr _;rw [<- hr];intro x hx;simp [Go.Proofs.YtbgehdndimlgkaaGreat.lgZ] at hx
  ·injection hr with hr _
   rw [<- hr]
   exact bP4 513 (fun x hx=>by simp at hx)
theorem cP4 {s:Lg} (n:Int):PyI (opCr s n).1:=by
 unfold opCr
 split
 ·exact PyI.lgZ
 ·refine bP5 ?_
  unfold opC
  split<;>simp [dkZ]
theorem dG9 {s:Lg} (h:PyI s) {n:Int} (hn:aT n):PyI ⟨(opF s.d n).1,s.l,s.c⟩:=by
 obtain ⟨h1,h2,h3,h4,h5,h6⟩:=h
 unfold opF
 split
 ·exact ⟨by simp [dkZ],fu0,h3,h4,h5,h6⟩
 ·exact ⟨h1,hn.2,h3,h4,h5,h6⟩
end Go.Proofs.YtbgehdndimlgkaaGreat
