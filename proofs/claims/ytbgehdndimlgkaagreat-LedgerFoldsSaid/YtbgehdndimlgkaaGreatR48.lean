/- Lemmas for laws of the ledger. -/
import Derived.Test.YtbgehdndimlgkaaGreatR42
import Derived.Test.YtbgehdndimlgkaaGreatR46
set_option linter.all false
namespace Go.Proofs.YtbgehdndimlgkaaGreat
open Go Go.RowKit Go.Av
set_option maxRecDepth 100000
def fX {α:Type} (f:LEn->α) (k:Int) (l:List LEn):List α:=(l.filter fun e=>decide (e.k=k)).map f
theorem lB {α:Type} (f:LEn->α) (k:Int) (l:List LEn) (e:LEn):fX f k (l++[e])=fX f k l++if e.k=k then [f e] else []:=by
 unfold fX
 rw [BN,BU]
 by_cases h:e.k=k
 ·rw [Al h,Bl,Al (AT h)];rfl
 ·rw [Ak h,Bl,Ak lO];rfl
theorem jP {α:Type} (f:LEn->α) (k:Int) (l:List LEn):(fX f k l).length<=l.length:=by
 unfold fX
 rw [AS]
 exact Bf _ _
theorem zK {α:Type} {f:LEn->α} {k:Int} {l:List LEn} {x:α} (h:x∈fX f k l):∃e∈l,x=f e:=by
 obtain ⟨e,he,rfl⟩:=Bz.1 h
 exact ⟨e,(List.mem_filter.1 he).1,rfl⟩
def rqV (q:LRq):Dr:=q.vl.map CV.v
def lkV (q:LLk):Dr:=q.vl.map CV.v
def hdV (q:LHd):Dr:=q.vl.map CV.v
def kR (l:List LEn) (p:Int):List Ver:=match l.find? fun e=>decide (e.k=2/\e.plan=p) with
 | some e=>e.vs
 | none=>[]
theorem cL0 {l:List LEn} (h:OkL l) (p:Int):(kR l p).length<=1000000/\∀v∈kR l p,vL v:=by
 unfold kR
 split
 ·rename_i e he
  have hm:=h e (List.mem_of_find?_eq_some he)
  have:=hm.2.2.vs
  exact ⟨by omega,hm.1.vs⟩
 ·exact ⟨by simp,fun v hv=>by simp at hv⟩
theorem aS9 {l:List LEn} {p:Int} {i:Nat} {e:LEn} (he:l[i]? = some e) (h:e.k=2/\e.plan=p) (hb:∀(j:Nat) (x:LEn),j<i->l[j]? = some x->¬(x.k=2/\x.plan=p)):kR l p=e.vs:=by
 have:l.find? (fun e=>decide (e.k=2/\e.plan=p))=some e:=by
  have hi:i<l.length:=(Ad.1 he).1
  have h1:l=l.take i++e::l.drop (i+1):=by
   have h2:=Br i l
   rw [Bp hi] at h2
   have h3:l[i]=e:=(Ad.1 he).2
   rw [h3] at h2
   exact h2.symm
  rw [h1,List.find?_append]
  have h0:(l.take i).find? (fun e=>decide (e.k=2/\e.plan=p))=none:=by
   rw [List.find?_eq_none]
   intro x hx
   obtain ⟨j,hj⟩:=BV hx
   have hji:j<i:=by
    have:=(Ad.1 hj).1
    rw [Ao] at this
    omega
   rw [AZ hji] at hj
   have:=hb j x hji hj
   simpa using this
  rw [h0,List.find?_cons,AT h]
  rfl
 unfold kR
 rw [this]
theorem aT0 {l:List LEn} {p:Int} (hb:∀(j:Nat) (x:LEn),l[j]? = some x->¬(x.k=2/\x.plan=p)):kR l p=[]:=by
 have:l.find? (fun e=>decide (e.k=2/\e.plan=p))=none:=by
  rw [List.find?_eq_none]
  intro x hx
  obtain ⟨j,hj⟩:=BV hx
  have:=hb j x hj
  simpa using this
 unfold kR
 rw [this]
structure LEn.vw (e:LEn):Prop where
 rq:aS e.rq.who.v.k/\aS e.rq.who.v.n
 la:aS e.lk.a.v.k/\aS e.lk.a.v.n
 lb:aS e.lk.b.v.k/\aS e.lk.b.v.n
 hd:aS e.hd.who.v.k/\aS e.hd.who.v.n
theorem wH {i:Idf} (h:aS i.v.k/\aS i.v.n) (h1:i.ns.length<=1000000) (h2:i.v.t.length<=1000000):okId i:=⟨h1,h.1,h.2,h2⟩
theorem dU6 {e:LEn} (h:e.vw) (hs:smE e):e.lf:=by
 obtain ⟨_,_,h1,h2,h3,h4,h5,h6,h7,h8⟩:=hs
 exact ⟨wH h.rq aA aA,wH h.la aA aA,wH h.lb aA aA,wH h.hd aA aA⟩
end Go.Proofs.YtbgehdndimlgkaaGreat
namespace Go.Proofs.YtbgehdndimlgkaaGreat
open Go Go.RowKit Go.Av
def wI (l:Dr):Prop:=∀m,iv m∈l->aS m
theorem zW {x:CV} (h:∀m,iv m=x->aS m):wI [x]:=fun m hm=>h m (AY.1 hm)
theorem qJ {l:Dr} (h:qI l):wI l:=by
 obtain ⟨m,rfl,hm⟩:=kO h
 exact zW fun k e=>by injection e with e;injection e with _ e;exact e▸hm
theorem dZ1 {l:Dr} (h:qS l):wI l:=by
 obtain ⟨s,rfl,_⟩:=h
 exact zW fun k e=>by injection e with e;cases e
theorem eE2 {l:Dr} (h:qB l):wI l:=by
 obtain ⟨s,rfl⟩:=h
 exact zW fun k e=>by injection e with e;cases e
theorem bP8 {l:Dr} (h:qN l):wI l:=by
 cases h
 exact fun m hm=>by cases hm
theorem jF {A B:Dr->Prop} (hA:∀l,A l->wI l) (hB:∀l,B l->wI l) {l:Dr} (h:qC A B l):wI l:=by
 obtain ⟨a,b,rfl,h1,h2⟩:=h
 exact fun m hm=>(A0.1 hm).elim (hA _ h1 m) (hB _ h2 m)
theorem dY8 {k:Nat} {A:Dr->Prop} {l:Dr} (h:qL k A l):wI l:=by
 obtain ⟨ls,rfl,_⟩:=h
 exact zW fun k e=>by cases e
theorem eE3 {l:Dr} (h:qA 32 1 qU l):wI l:=by
 obtain ⟨ls,rfl,_,h⟩:=h
 intro m hm
 obtain ⟨c,hc,hm⟩:=List.mem_flatten.1 hm
 obtain ⟨⟨x,rfl,_⟩,_⟩:=h c hc
 exact zW (fun k e=>by injection e with e;injection e with e _;cases e) m hm
theorem dZ2 (l:Dr) (h:qVl l):wI l:=jF (fun _=>qJ) (fun _=>jF (fun _=>qJ) fun _=>jF (fun _=>dZ1) fun _=>bP8) h
theorem bI3 (l:Dr) (h:qId l):wI l:=jF (fun _=>dZ1) (fun _=>jF dZ2 fun _=>bP8) h
theorem dZ0 (l:Dr) (h:qRq l):wI l:=jF (fun _=>qJ) (fun _=>jF bI3 fun _=>jF (fun _=>qJ) fun _=>jF (fun _=>qJ) fun _=>jF (fun _=>qJ) fun _=>bP8) h
theorem dY9 (l:Dr) (h:qLk l):wI l:=jF bI3 (fun _=>jF bI3 fun _=>jF (fun _=>qJ) fun _=>jF (fun _=>eE2) fun _=>bP8) h
theorem dY7 (l:Dr) (h:qHd l):wI l:=jF (fun _=>qJ) (fun _=>jF (fun _=>qJ) fun _=>jF bI3 fun _=>jF (fun _=>qJ) fun _=>jF (fun _=>qJ) fun _=>jF (fun _=>qJ) fun _=>bP8) h
theorem dY6 (l:Dr) (h:qEn l):wI l:=jF (fun _=>qJ) (fun _=>jF (fun _=>qJ) fun _=>jF (fun _=>qJ) fun _=>jF (fun _=>qJ) fun _=>jF dZ0 fun _=>jF dY9 fun _=>jF dY7 fun _=>jF (fun _=>dY8) fun _=>jF (fun _=>dY8) fun _=>jF (fun _=>eE3) fun _=>bP8) h
theorem dY5 {e:LEn} (h:wI (ecR e)):e.vw:=by
 have h:∀m,iv m∈ecs e e.vs.length e.ss.length->aS m:=h
 refine ⟨⟨h _ ?_,h _ ?_⟩,⟨h _ ?_,h _ ?_⟩,⟨h _ ?_,h _ ?_⟩,⟨h _ ?_,h _ ?_⟩⟩<;>(unfold ecs;simp)
theorem aP8:∀(ls:List (Dr)),(∀l∈ls,qEn l/\l.length=65)->∃p:List LEn,ls.flatten=lec p/\p.length=ls.length/\∀e∈p,(e.wf/\aS e.k)/\e.vw
 | [],_=>⟨[],rfl,rfl,fun x hx=>(by cases hx)⟩
 | c::ls,h=>by
  have hq:=(h c aR).1
  have hv:=dY6 c hq
  obtain ⟨v,rfl,hw⟩:=dV5 hq
  obtain ⟨r,h1,h2,h3⟩:=aP8 ls fun d hd=>h d (by simp [hd])
  exact ⟨v::r,by rw [Bm,h1];rfl,by simp [h2],fun x hx=>(A3.1 hx).elim (fun e=>e▸⟨hw,dY5 hv⟩) (h3 x)⟩
theorem qd_vents {x:CV} (h:qL 65 qEn [x]):∃p:List LEn,x = .sl 65 p.length (lec p)/\p.length<=maxLen/\∀e∈p,(e.wf/\aS e.k)/\e.vw:=by
 obtain ⟨ls,h1,h2,h3⟩:=h
 obtain ⟨p,h4,h5,h6⟩:=aP8 ls h3
 exact ⟨p,by injection h1 with h1;rw [h1,h4,h5],by omega,h6⟩
end Go.Proofs.YtbgehdndimlgkaaGreat
