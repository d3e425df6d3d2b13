/-
  Lemmas for laws of the ledger; no statement of a law.
-/
import Derived.Test.YtbgehdndimlgkaaGreatQ12
import Derived.Test.YtbgehdndimlgkaaGreatQ13
set_option linter.unusedSimpArgs false
set_option linter.unusedVariables false
namespace Go.Proofs.YtbgehdndimlgkaaGreat
open Go Go.RowKit Go.Av
set_option maxRecDepth 100000
def ecR (e:LEn):List CV:=ecs e e.vs.length e.ss.length
def lec (l:List LEn):List CV:=l.flatMap ecR
def OkL (l:List LEn):Prop:=∀e∈l,e.wf∧aQ e.k∧e.sz
theorem gG {e:LEn} (h:e.wf):(ecR e).length=65:=cJ h.root _ _
theorem yO {α:Type} {f:α→List CV} {k:Nat}:∀{l:List α} {i:Nat} {a:α},(∀a∈l,(f a).length=k)→l[i]? = some a→((l.flatMap f).drop (i*k)).take k=f a
 | [],i,a,_,e=>by simp at e
 | b::l,0,a,h,e=>by
  simp only [List.getElem?_cons_zero,Option.some.injEq] at e
  subst e
  rw [Nat.zero_mul,List.drop_zero,List.flatMap_cons,List.take_append_of_le_length (by rw [h b aP];exact Nat.le_refl _),List.take_of_length_le (by rw [h b aP];exact Nat.le_refl _)]
 | b::l,i+1,a,h,e=>by
  have hb:=h b aP
  rw [List.flatMap_cons,List.drop_append,hb,List.drop_of_length_le (by rw [hb,Nat.add_mul];omega),List.nil_append,show (i+1)*k-k=i*k by rw [Nat.add_mul];omega]
  exact yO (fun a ha=>h a (by simp [ha])) (by simpa using e)
theorem uQ {α:Type} {f:α→List CV} {k:Nat}:∀{l:List α},(∀a∈l,(f a).length=k)→(l.flatMap f).length=l.length*k
 | [],_=>by simp
 | b::l,h=>by rw [List.flatMap_cons,List.length_append,h b aP,uQ fun a ha=>h a (by simp [ha]),List.length_cons,Nat.add_mul];omega
theorem fS {l:List LEn} (h:OkL l):(lec l).length=l.length*65:=uQ fun e he=>gG (h e he).1
theorem sC {l:List LEn} (h:OkL l) {i:Nat} {e:LEn} (he:l[i]? = some e):((lec l).drop (i*65)).take 65=ecR e:=yO (fun e he=>gG (h e he).1) he
theorem OkL.take {l:List LEn} (h:OkL l) (i:Nat):OkL (l.take i):=fun e he=>h e (List.mem_of_mem_take he)
theorem aD9 {α : Type} {p : α → Prop} : ∀ {l : List α}, (∃ x ∈ l, p x) → ∃ (j : Nat) (x : α), l[j]? = some x ∧ p x ∧ ∀ (q : Nat) (y : α), q < j → l[q]? = some y → ¬ p y
  | [], h => by obtain ⟨x, hx, _⟩ := h; simp at hx
  | y :: l, h => by
    by_cases e : p y
    · exact ⟨0, y, rfl, e, fun q x hq => by omega⟩
    · obtain ⟨j, x, h1, h2, h3⟩ := aD9 (l := l) (by
        obtain ⟨x, hx, hp⟩ := h
        rcases List.mem_cons.1 hx with rfl | hx
        · exact absurd hp e
        · exact ⟨x, hx, hp⟩)
      refine ⟨j + 1, x, by simpa using h1, h2, fun q z hq hz => ?_⟩
      cases q with
      | zero => simp at hz; rw [← hz]; exact e
      | succ q => exact h3 q z aA (by simpa using hz)
theorem lO {α:Type} {l:List α} {i:Nat} {x:α} (h:l[i]? = some x):l.take (i+1)=l.take i++[x]:=by rw [List.take_add_one,h];rfl
theorem aQ4 {α:Type} {lt:α→α→Prop} (v:α):∀l:List α,(insA lt v l).length≤l.length+1
 | []=>by simp [insA]
 | y::l=>by
  have:=aQ4 (lt:=lt) v l
  rw [insA]
  split
  ·simp
  ·split
   ·simp
   ·simp only [List.length_cons];omega
theorem aM3 {α:Type} {lt:α→α→Prop} (l:List α):(ascL lt l).length≤l.length:=by
 refine zZ (p:=fun l=>(ascL lt l).length≤l.length) (by simp [ascL]) (fun l v ih=>?_) l
 have:=aQ4 (lt:=lt) v (ascL lt l)
 rw [aB8,List.length_append,List.length_singleton]
 omega
theorem aG5 {l:List LEn} (h:OkL l):(kN l).length≤l.length*1000:=by
 induction l with
 | nil=>simp [kN]
 | cons e l ih =>
  have:=ih fun x hx=>h x (by simp [hx])
  have hs:=(h e aP).2.2.vs
  unfold kN at *
  rw [List.flatMap_cons,List.length_append,List.length_cons,Nat.add_mul]
  split
  ·omega
  ·rw [List.length_nil];omega
theorem cQ8 {l:List LEn} (h:OkL l):(rM l).length≤l.length*1000:=by
 induction l with
 | nil=>simp [rM]
 | cons e l ih =>
  have:=ih fun x hx=>h x (by simp [hx])
  have hs:=(h e aP).2.2.ss
  unfold rM at *
  rw [List.flatMap_cons,List.length_append,List.length_cons,Nat.add_mul]
  split
  ·omega
  ·rw [List.length_nil];omega
theorem bD2 {l:List LEn} (h:OkL l):∀v∈kN l,bP7 v:=fun v hv=>by
 unfold kN at hv
 obtain ⟨e,he,hv⟩:=List.mem_flatMap.1 hv
 split at hv
 ·exact (h e he).1.vs v hv
 ·simp at hv
theorem cQ9 {l:List LEn} (h:OkL l):∀v∈rM l,cZ2 v:=fun v hv=>by
 unfold rM at hv
 obtain ⟨e,he,hv⟩:=List.mem_flatMap.1 hv
 split at hv
 ·exact (h e he).1.ss v hv
 ·simp at hv
attribute [local irreducible] Still Adds AWL AW Drw bT bW AC AWR cL Frz Go.Av.Src dC Out InK ItK AsK RdK eI eE ACT ACA eL lec
end Go.Proofs.YtbgehdndimlgkaaGreat
