/- Lemmas for laws of the ledger. -/
import Derived.Test.YtbgehdndimlgkaaGreatV12
import Derived.Test.YtbgehdndimlgkaaGreatV13
set_option linter.all false
namespace Go.Proofs.YtbgehdndimlgkaaGreat
open Go Go.RowKit Go.Av
set_option maxRecDepth 100000
def ecR (e:LEn):Dp:=ecs e e.vs.length e.ss.length
def lec (l:List LEn):Dp:=l.flatMap ecR
def OkL (l:List LEn):Prop:=∀e∈l,e.wf/\aS e.k/\e.sz
theorem eX {e:LEn} (h:e.wf):(ecR e).length=65:=cS h.root _ _
theorem wB {α:Type} {f:α->Dp} {k:Nat}:∀{l:List α} {i:Nat} {a:α},(∀a∈l,(f a).length=k)->l[i]? = some a->((l.flatMap f).drop (i*k)).take k=f a
 | [],i,a,_,e=>by simp at e
 | b::l,0,a,h,e=>by
  simp only [BC,Option.some.injEq] at e
  subst e
  rw [Ca,Bg,Aw,A8 (by rw [h b aO];exact Ae _),Ah (by rw [h b aO];exact Ae _)]
 | b::l,i+1,a,h,e=>by
  have hb:=h b aO
  rw [Aw,BG,hb,AM (by rw [hb,A9];omega),At,show (i+1)*k-k=i*k by rw [A9];omega]
  exact wB (fun a ha=>h a (by simp [ha])) (by simpa using e)
theorem sI {α:Type} {f:α->Dp} {k:Nat}:∀{l:List α},(∀a∈l,(f a).length=k)->(l.flatMap f).length=l.length*k
 | [],_=>by simp
 | b::l,h=>by rw [Aw,Aa,h b aO,sI fun a ha=>h a (by simp [ha]),Au,A9];omega
theorem gT {l:List LEn} (h:OkL l):(lec l).length=l.length*65:=sI fun e he=>eX (h e he).1
theorem mT {l:List LEn} (h:OkL l) {i:Nat} {e:LEn} (he:l[i]? = some e):((lec l).drop (i*65)).take 65=ecR e:=wB (fun e he=>eX (h e he).1) he
theorem OkL.take {l:List LEn} (h:OkL l) (i:Nat):OkL (l.take i):=fun e he=>h e (AL he)
theorem zB {α : Type} {p : α -> Prop} : ∀ {l : List α}, (∃ x ∈ l, p x) -> ∃ (j : Nat) (x : α), l[j]? = some x /\ p x /\ ∀ (q : Nat) (y : α), q < j -> l[q]? = some y -> ¬ p y
  | [], h => by obtain ⟨x, hx, _⟩ := h; simp at hx
  | y :: l, h => by
    by_cases e : p y
    · exact ⟨0, y, rfl, e, fun q x hq => by omega⟩
    · obtain ⟨j, x, h1, h2, h3⟩ := zB (l := l) (by
        obtain ⟨x, hx, hp⟩ := h
        rcases A3.1 hx with rfl | hx
        · exact absurd hp e
        · exact ⟨x, hx, hp⟩)
      refine ⟨j + 1, x, by simpa using h1, h2, fun q z hq hz => ?_⟩
      cases q with
      | zero => simp at hz; rw [<- hz]; exact e
      | succ q => exact h3 q z aA (by simpa using hz)
theorem eK {α:Type} {l:List α} {i:Nat} {x:α} (h:l[i]? = some x):l.take (i+1)=l.take i++[x]:=by rw [BT,h];rfl
theorem aI5 {α:Type} {lt:α->α->Prop} (v:α):∀l:List α,(insA lt v l).length<=l.length+1
 | []=>by simp [insA]
 | y::l=>by
  have:=aI5 (lt:=lt) v l
  rw [insA]
  split
  ·simp
  ·split
   ·simp
   ·simp only [Au];omega
theorem aF1 {α:Type} {lt:α->α->Prop} (l:List α):(ascL lt l).length<=l.length:=by
 refine jX (p:=fun l=>(ascL lt l).length<=l.length) (by simp [ascL]) (fun l v ih=>?_) l
 have:=aI5 (lt:=lt) v (ascL lt l)
 rw [xY,Aa,BN]
 omega
section
variable {l:List LEn} (h:OkL l)
include l h
theorem aA1:(jP l).length<=l.length*1000:=by
 induction l with
 | nil=>simp [jP]
 | cons e l ih =>
  have:=ih fun x hx=>h x (by simp [hx])
  have hs:=(h e aO).2.2.vs
  unfold jP at *
  rw [Aw,Aa,Au,A9]
  split
  ·omega
  ·rw [Bo];omega
theorem cD6:(pK l).length<=l.length*1000:=by
 induction l with
 | nil=>simp [pK]
 | cons e l ih =>
  have:=ih fun x hx=>h x (by simp [hx])
  have hs:=(h e aO).2.2.ss
  unfold pK at *
  rw [Aw,Aa,Au,A9]
  split
  ·omega
  ·rw [Bo];omega
theorem aU1:∀v∈jP l,cM1 v:=fun v hv=>by
 unfold jP at hv
 obtain ⟨e,he,hv⟩:=List.mem_flatMap.1 hv
 split at hv
 ·exact (h e he).1.vs v hv
 ·simp at hv
theorem cD7:∀v∈pK l,dR8 v:=fun v hv=>by
 unfold pK at hv
 obtain ⟨e,he,hv⟩:=List.mem_flatMap.1 hv
 split at hv
 ·exact (h e he).1.ss v hv
 ·simp at hv
end
attribute [local irreducible] Still Adds AWL AW Drw bN bP AC AWR cM Frz Go.Av.Src dB Out InK ItK AsK RdK eA dZ ACT ACA eL lec
end Go.Proofs.YtbgehdndimlgkaaGreat
