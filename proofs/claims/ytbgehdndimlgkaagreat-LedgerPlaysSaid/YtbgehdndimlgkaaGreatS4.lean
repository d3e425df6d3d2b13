/- Lemmas for laws of the ledger. -/
import Derived.Laws.IdiomStrings
import Derived.Test.YtbgehdndimlgkaaGreatS3
set_option linter.all false
namespace Go.Av
open Go Go.RowKit
section
abbrev Wr:=Option (Nat × Option AObj)
abbrev Eat:=Dr × Wr
def ov (c:Wr) (H:Nat->Option AObj) (id:Nat):Option AObj:=match c with
 | none=>H id
 | some (k,x)=>if id=k then x else H id
theorem aQ1 (H:Nat->Option AObj):ov none H=H:=rfl
theorem lE {c:Wr} {H:Nat->Option AObj} {id:Nat} (h:∀x,c≠some (id,x)):ov c H id=H id:=by
 unfold ov
 split
 ·rfl
 ·rename_i k x
  rw [Aj (fun e=>h x (by rw [e]))]
theorem xR {H:Nat->Option AObj} {id:Nat} {x:Option AObj}:ov (some (id,x)) H id=x:=by simp [ov]
theorem aD1 {c:Wr} {H H':Nat->Option AObj} {id:Nat} (h:H id=H' id):ov c H id=ov c H' id:=by
 unfold ov
 split
 ·exact h
 ·split
  ·rfl
  ·exact h
def HV:List Eat->Nat->(Nat->Bool)->(Nat->Option AObj)->Nat->Option AObj
 | [],_,_,G=>G
 | e::es,j,p,G=>HV es (j+1) p (match p j with|true=>ov e.2 G|false=>G)
theorem oB:∀(es:List Eat) (j:Nat) (p p':Nat->Bool) (G G':Nat->Option AObj) (id:Nat),(∀k T x,es[k]? = some (T,some (id,x))->p (j+k)=p' (j+k))->G id=G' id->HV es j p G id=HV es j p' G' id
 | [],j,p,p',G,G',id,_,h=>h
 | (T,c)::es,j,p,p',G,G',id,hk,h=>by
  unfold HV
  refine oB es (j+1) p p' _ _ id (fun k T x hx=>by have:=hk (k+1) T x vP;rwa [show j+(k+1)=j+1+k by omega] at this) ?_
  by_cases hc:∃x,c=some (id,x)
  ·obtain ⟨x,rfl⟩:=hc
   have:=hk 0 T x rfl
   rw [Ck] at this
   rw [this]
   cases p' j with
   | true=>exact aD1 h
   | false=>exact h
  ·have hn:∀x,c≠some (id,x):=fun x e=>hc ⟨x,e⟩
   have e1:(match p j with|true=>ov c G|false=>G) id=G id:=by
    cases p j with
    | true=>exact lE hn
    | false=>rfl
   have e2:(match p' j with|true=>ov c G'|false=>G') id=G' id:=by
    cases p' j with
    | true=>exact lE hn
    | false=>rfl
   exact e1.trans (h.trans e2.symm)
theorem bO4:∀(es:List Eat) (j:Nat) (G:Nat->Option AObj),HV es j (fun _=>false) G=G
 | [],j,G=>rfl
 | e::es,j,G=>by unfold HV;exact bO4 es (j+1) G
theorem uC {es:List Eat} {j:Nat} {p:Nat->Bool} {G:Nat->Option AObj} {id:Nat} (h:∀k T x,es[k]? = some (T,some (id,x))->p (j+k)=false):HV es j p G id=G id:=by
 rw [oB es j p (fun _=>false) G G id h rfl,bO4]
theorem cL8:∀(a b:List Eat) (j:Nat) (p:Nat->Bool) (G:Nat->Option AObj),HV (a++b) j p G=HV b (j+a.length) p (HV a j p G)
 | [],b,j,p,G=>rfl
 | e::a,b,j,p,G=>by
  show HV (a++b) (j+1) p _=HV b (j+(a.length+1)) p (HV a (j+1) p _)
  rw [cL8 a b (j+1) p _,show j+1+a.length=j+(a.length+1) by omega]
theorem aC1 {es:List Eat} {i:Nat} {e:Eat} (hi:es[i]? = some e) (p:Nat->Bool) (G:Nat->Option AObj):HV es 0 p G=HV (es.drop (i+1)) (i+1) p (match p i with|true=>ov e.2 (HV (es.take i) 0 p G)|false=>HV (es.take i) 0 p G):=by
 have hlt:=(Ag.1 hi).1
 have hs:es=es.take i++e::es.drop (i+1):=by
  have:=Ag.1 hi
  obtain ⟨h1,rfl⟩:=this
  simp
 conv=>lhs;rw [hs]
 rw [cL8,As,B0 aA,Aq]
 rfl
theorem cL9 {es:List Eat} {i:Nat} {T:Dr} {c:Wr} (hi:es[i]? = some (T,c)) {p p':Nat->Bool} (hp:p i=false) (hp':p' i=true) (hne:∀j,j≠i->p' j=p j) (hlate:∀k x,c=some (k,x)->∀j T' x',i<j->es[j]? = some (T',some (k,x'))->p j=false) (G:Nat->Option AObj):HV es 0 p' G=ov c (HV es 0 p G):=by
 funext id
 rw [aC1 hi p G,aC1 hi p' G,hp,hp']
 have etake:HV (es.take i) 0 p' G id=HV (es.take i) 0 p G id:=oB _ _ _ _ _ _ _ (fun k T x hk=>by
  rw [Aq]
  exact hne k (fun e=>by subst e;simp [AU] at hk)) rfl
 by_cases hc:∃x,c=some (id,x)
 ·obtain ⟨x,rfl⟩:=hc
  rw [xR,uC (fun k T' x' hk=>?_)]
  ·exact xR
  ·rw [AR] at hk
   rw [hne _ aA]
   exact hlate id x rfl _ T' x' aA hk
 ·have hn:∀x,c≠some (id,x):=fun x e=>hc ⟨x,e⟩
  rw [lE hn]
  exact oB _ _ _ _ _ _ _ (fun k T x _=>hne _ aA) ((lE hn).trans etake)
theorem dS7 {es:List Eat} {i:Nat} {e:Eat} (hi:es[i]? = some e) {p:Nat->Bool} (hp:p i=false) {id:Nat} (hearly:∀j T x,j<i->es[j]? = some (T,some (id,x))->p j=true) (hlate:∀j T x,i<j->es[j]? = some (T,some (id,x))->p j=false) (G:Nat->Option AObj):HV es 0 p G id=HV (es.take i) 0 (fun _=>true) G id:=by
 rw [aC1 hi p G,hp,uC (fun k T x hk=>by rw [AR] at hk;exact hlate _ T x aA hk)]
 refine oB _ _ _ _ _ _ _ (fun k T x hk=>?_) rfl
 rw [AU] at hk
 split at hk
 ·rw [Aq];exact hearly k T x aA hk
 ·cases hk
def bY (P:Dv) (o:Oper) (ev:Evl) (h:aO) (v:AV) (Δ : aO) (c:Wr) (i j:Nat):Prop :=
 ∀(B:Bs) (dom:Nat->Prop) (M:Nat->Dz) (H:Nat->Option AObj) (w:World) (a:Act) (K:Act->World->Prop) (Q:Exit->Act->World->Prop),
  (∀id o,lk h id=some o->dom id->H id=some o)->(∀id,i<=id->id<j->¬dom id/\H id=lk Δ id) ->
  ConcH B dom M H w->(∀x av,ev x=some av->Rep ⟨dom,M,bF B dom M H,w⟩ av (a.eval x)) ->
  (∀u w' M',Ext ⟨dom,M,bF B dom M H,w⟩ ⟨ad dom i j,M',bF B (ad dom i j) M' (ov c H),w'⟩->ConcH B (ad dom i j) M' (ov c H) w'->Rep ⟨ad dom i j,M',bF B (ad dom i j) M' (ov c H),w'⟩ v u->K (a.put o.dst u) w') ->
  o.wp P a w K Q
theorem Adds.est {P:Dv} {o:Oper} {ev:Evl} {h:aO} {v:AV} {Δ : aO} {i j:Nat} (hA:Adds P o ev h v Δ i j):bY P o ev h v Δ none i j:=hA
def wrH (c:Wr) (h:aO):aO:=match c with
 | none=>h
 | some (k,none)=>(k,.dead)::h
 | some (k,some o)=>(k,o)::h
def cW3:Wr->Prop
 | some (_,some o)=>o.live=some o
 | _=>True
theorem cW2 {c:Wr} (hc:cW3 c) (h:aO) (id:Nat):lk (wrH c h) id=ov c (lk h) id:=by
 match c,hc with
 | none,_=>rfl
 | some (k,none),_ =>
  show lk ((k,.dead)::h) id=_
  rw [cA]
  by_cases hk:k=id
  ·subst hk;rw [Ak rfl,xR];rfl
  ·rw [Aj hk,lE (fun x e=>hk (congrArg Prod.fst (Option.some.inj e)))]
 | some (k,some o),hl =>
  show lk ((k,o)::h) id=_
  rw [cA]
  by_cases hk:k=id
  ·subst hk;rw [Ak rfl,xR];exact hl
  ·rw [Aj hk,lE (fun x e=>hk (congrArg Prod.fst (Option.some.inj e)))]
theorem aC0:∀(es:List Eat) (i j:Nat) (G:Nat->Option AObj) {id:Nat},HV es i (fun _=>true) G id=HV es j (fun _=>true) G id
 | [],i,j,G,id=>rfl
 | e::es,i,j,G,id=>by unfold HV;exact aC0 es (i+1) (j+1) _
inductive ChainE (P : Dv) (ops : Dq) : Dp -> Env -> aO -> Nat -> D2 -> Dr -> List Eat -> (Nat -> Option AObj) -> Env -> aO -> Nat -> Prop
  | nil {env : Env} {h : aO} {n : Nat} {G : Nat -> Option AObj} (hG : ∀ id, id < n -> G id = lk h id) : ChainE P ops [] env h n [] [n] [] G env h n
  | add {o : Oper} {os : Dp} {env E : Env} {h hr Δ H : aO} {n n' N : Nat} {v : AV} {vs : D2} {ns : Dr} {es : List Eat} {G : Nat -> Option AObj} {T : Dr} {c : Wr} (hG : ∀ id, id < n -> G id = lk h id) (hG' : ∀ id, n <= id -> id < n' -> G id = lk Δ id) (hg : guardA ops env o true) (hn : n <= n') (hsub : ∀ id o, lk hr id = some o -> lk h id = some o /\ id ∈ T) (hT : ∀ p ∈ Δ, p.1 ∈ T) (hc : cW3 c) (hcT : ∀ k x, c = some (k, x) -> k ∈ T /\ k < n) (hA : bY P o (evT (o.looksAt ops) env) hr v Δ c n n') (hcov : ∀ id, n <= id -> id < n' -> (lk Δ id).isSome = true) (hkeys : ∀ p ∈ Δ, n <= p.1 /\ p.1 < n')
      (hr : ChainE P ops os (gJ env o.dst v) (wrH c (Δ ++ h)) n' vs ns es (ov c G) E H N) : ChainE P ops (o :: os) env h n (v :: vs) (n :: ns) ((T, c) :: es) G E H N
  | skip {o : Oper} {os : Dp} {env E : Env} {h H : aO} {n N : Nat} {vs : D2} {ns : Dr} {es : List Eat} {G : Nat -> Option AObj} (hG : ∀ id, id < n -> G id = lk h id) (hg : guardA ops env o false)
      (hr : ChainE P ops os (gJ env o.dst (.c (.v undef))) h n vs ns es G E H N) : ChainE P ops (o :: os) env h n (.c (.v undef) :: vs) (n :: ns) (([], none) :: es) G E H N
theorem ChainE.le {P:Dv} {ops:Dq} {l:Dp} {env E:Env} {h H:aO} {n N:Nat} {vs:D2} {ns:Dr} {es:List Eat} {G:Nat->Option AObj} (hc:ChainE P ops l env h n vs ns es G E H N):n<=N/\ns[0]? = some n/\ns.length=l.length+1/\vs.length=l.length/\ns[l.length]? = some N/\(∀id,id<n->G id=lk h id)/\(∀id,id<N->lk H id=HV es 0 (fun _=>true) G id):=by
 induction hc with
 | nil hG=>exact ⟨Ah _,rfl,rfl,rfl,rfl,hG,fun id hid=>(hG id hid).symm⟩
 | add hG hG' hg hn hsub hT hc hcT hA hcov hkeys hr ih =>
  obtain ⟨h1,h2,h3,h4,h5,h6,h7⟩:=ih
  exact ⟨by omega,rfl,by simp [h3],by simp [h4],by simpa using h5,hG,fun id hid=>(h7 id hid).trans (aC0 _ _ _ _)⟩
 | skip hG hg hr ih =>
  obtain ⟨h1,h2,h3,h4,h5,h6,h7⟩:=ih
  exact ⟨h1,rfl,by simp [h3],by simp [h4],by simpa using h5,hG,fun id hid=>(h7 id hid).trans (aC0 _ _ _ _)⟩
structure StepE (P:Dv) (ops:Dq) (l:Dp) (env0:Env) (vs:D2) (ns:Dr) (es:List Eat) (G:Nat->Option AObj) (N i:Nat) (o:Oper) (env:Env) (h hr Δ : aO) (n n':Nat) (v:AV) (T:Dr) (c:Wr):Prop where
 step:(guardA ops env o true/\(∀id o,lk hr id=some o->lk h id=some o/\id∈T)/\(∀id,n<=id->id<n'->id∈T)/\(∀k x,c=some (k,x)->k∈T)/\bY P o (evT (o.looksAt ops) env) hr v Δ c n n')\/(guardA ops env o false/\v = .c (.v undef)/\n'=n/\c=none)
 hv:vs[i]? = some v
 hn:ns[i]? = some n
 hn':ns[i+1]? = some n'
 he:es[i]? = some (T,c)
 le:n<=n'/\n'<=N
 env:∀t av,lkE env t=some av->(∃j oj,j<i/\l[j]? = some oj/\oj.dst=some t/\vs[j]? = some av)\/(lkE env0 t=some av/\∀j oj,j<i->l[j]? = some oj->oj.dst≠some t)
 old:∀id,id<n->HV (es.take i) 0 (fun _=>true) G id=lk h id
 new:∀id,n<=id->id<n'->G id=lk Δ id
 keys:∀p∈h,p.1<n
section
variable {P:Dv} {ops:Dq} {l:Dp} {env E:Env} {h H:aO} {n N:Nat} {vs:D2} {ns:Dr} {es:List Eat} {G:Nat->Option AObj} (hc:ChainE P ops l env h n vs ns es G E H N)
include P ops l env E h H n N vs ns es G hc
theorem ChainE.wrs:∀(j:Nat) (T:Dr) (k:Nat) (x:Option AObj) (a:Nat),es[j]? = some (T,some (k,x))->ns[j]? = some a->k<a:=by
 induction hc with
 | nil hG=>intro j T k x a hj;simp at hj
 | add hG hG' hg hn hsub hT hc hcT hA hcov hkeys hr ih =>
  intro j T k x a hj ha
  cases j with
  | zero =>
   simp at hj ha
   subst ha
   exact (hcT k x hj.2).2
  | succ j=>exact ih j T k x a vL vO
 | skip hG hg hr ih =>
  intro j T k x a hj ha
  cases j with
  | zero=>simp at hj
  | succ j=>exact ih j T k x a vL vO
theorem jI:∀{i j a b:Nat},i<=j->ns[i]? = some a->ns[j]? = some b->a<=b:=by
 induction hc with
 | nil hG =>
  intro i j a b hij ha hb
  cases i with
  | zero=>cases j with|zero=>simp at ha hb;omega|succ j=>simp at hb
  | succ i=>simp at ha
 | @add o os env E h hq Δ H n n' N v vs ns es G T c hG hG' hg hn hsub hT hc hcT hA hcov hkeys hr ih =>
  intro i j a b hij ha hb
  cases i with
  | zero =>
   cases j with
   | zero=>simp at ha hb;omega
   | succ j =>
    simp at ha hb
    have:=ih (Am j) hr.le.2.1 hb
    omega
  | succ i =>
   cases j with
   | zero=>omega
   | succ j=>exact ih (i:=i) (j:=j) aA vO (by simpa using hb)
 | @skip o os env E h H n N vs ns es G hG hg hr ih =>
  intro i j a b hij ha hb
  cases i with
  | zero =>
   cases j with
   | zero=>simp at ha hb;omega
   | succ j =>
    simp at ha hb
    have:=ih (Am j) hr.le.2.1 hb
    omega
  | succ i =>
   cases j with
   | zero=>omega
   | succ j=>exact ih (i:=i) (j:=j) aA vO (by simpa using hb)
end
section
variable {P : Dv} {ops : Dq} {l : Dp} {env E : Env} {h H : aO} {n N : Nat} {vs : D2} {ns : Dr} {es : List Eat} {G : Nat -> Option AObj} (hc : ChainE P ops l env h n vs ns es G E H N)
include P ops l env E h H n N vs ns es G hc
theorem ChainE.get :
    (∀ p ∈ h, p.1 < n) -> ∀ i o, l[i]? = some o -> ∃ env' h' hr Δ n1 n2 v T c, StepE P ops l env vs ns es G N i o env' h' hr Δ n1 n2 v T c := by
  induction hc with
  | nil hG => intro _ i o hi; simp at hi
  | @add o os env E h hq Δ H n n' N v vs ns es G T c hG hG' hg hn hsub hT hc hcT hA hcov hkeys hr ih =>
    intro hk0 i o' hi
    have hk1 : ∀ p ∈ wrH c (Δ ++ h), p.1 < n' := fun p hp => by
      have key : ∀ p ∈ Δ ++ h, p.1 < n' := fun p hp => (Az.1 hp).elim (fun hp => (hkeys p hp).2) (fun hp => by have := hk0 p hp; omega)
      match c, hcT, hp with
      | none, _, hp => exact key p hp
      | some (k, none), hcT, hp =>
        rcases A6.1 hp with rfl | hp
        · have := (hcT k none rfl).2; simp only; omega
        · exact key p hp
      | some (k, some o), hcT, hp =>
        rcases A6.1 hp with rfl | hp
        · have := (hcT k (some o) rfl).2; simp only; omega
        · exact key p hp
    have hle := hr.le
    cases i with
    | zero =>
      simp at hi; subst hi
      exact ⟨env, h, hq, Δ, n, n', v, T, c, .inl ⟨hg, hsub, (fun id k1 k2 => by
        obtain ⟨q, hq⟩ := AN.1 (hcov id k1 k2)
        obtain ⟨p, hp, rfl⟩ := aC8 hq
        exact hT p hp), (fun k x e => (hcT k x e).1), hA⟩, rfl, rfl, by simpa using hle.2.1, rfl, ⟨hn, hle.1⟩, fun t av ht => .inr ⟨ht, fun j oj hj => by omega⟩, hG, hG', hk0⟩
    | succ i =>
      obtain ⟨env', h', hq', Δ', n1, n2, v', T', c', s⟩ := ih hk1 i o' vM
      refine ⟨env', h', hq', Δ', n1, n2, v', T', c', s.step, by simpa using s.hv, by simpa using s.hn, by simpa using s.hn', by simpa using s.he, s.le, fun t av ht => ?_, fun id hid => ?_, fun id k1 k2 => ?_, s.keys⟩
      rotate_left
      · rw [BH]
        exact (aC0 _ 1 0 _).trans (s.old id hid)
      · have hle1 := jI hr (Am i) hle.2.1 s.hn
        rw [<- s.new id k1 k2, lE (fun x e => by have := (hcT id x e).2; omega)]
      rcases s.env t av ht with ⟨j, oj, h1, h2, h3, h4⟩ | ⟨h1, h2⟩
      · exact bN1
      · cases hd : o.dst with
        | none =>
          rw [hd] at h1
          exact .inr ⟨h1, fun j oj hj hl => by
            cases j with
            | zero => simp at hl; subst hl; rw [hd]; simp
            | succ j => exact h2 j oj aA fY⟩
        | some d =>
          rw [hd] at h1
          simp only [gJ, eZ] at h1
          by_cases hdt : d = t
          · rw [Ak hdt] at h1
            injection h1 with h1
            subst h1
            exact bN2
          · rw [Aj hdt] at h1
            exact .inr ⟨h1, fun j oj hj hl => by
              cases j with
              | zero => simp at hl; subst hl; rw [hd]; intro e; exact hdt (Option.some.inj e)
              | succ j => exact h2 j oj aA fY⟩
  | @skip o os env E h H n N vs ns es G hG hg hr ih =>
    intro hk0 i o' hi
    have hle := hr.le
    cases i with
    | zero =>
      simp at hi; subst hi
      exact ⟨env, h, [], [], n, n, .c (.v undef), [], none, .inr ⟨hg, rfl, rfl, rfl⟩, rfl, rfl, by simpa using hle.2.1, rfl, ⟨Ah _, hle.1⟩, fun t av ht => .inr ⟨ht, fun j oj hj => by omega⟩, hG, fun id h1 h2 => by omega, hk0⟩
    | succ i =>
      obtain ⟨env', h', hq', Δ', n1, n2, v', T', c', s⟩ := ih hk0 i o' vM
      refine ⟨env', h', hq', Δ', n1, n2, v', T', c', s.step, by simpa using s.hv, by simpa using s.hn, by simpa using s.hn', by simpa using s.he, s.le, fun t av ht => ?_, fun id hid => ?_, s.new, s.keys⟩
      rotate_left
      · rw [BH]
        exact (aC0 _ 1 0 _).trans (s.old id hid)
      rcases s.env t av ht with ⟨j, oj, h1, h2, h3, h4⟩ | ⟨h1, h2⟩
      · exact bN1
      · cases hd : o.dst with
        | none =>
          rw [hd] at h1
          exact .inr ⟨h1, fun j oj hj hl => by
            cases j with
            | zero => simp at hl; subst hl; rw [hd]; simp
            | succ j => exact h2 j oj aA fY⟩
        | some d =>
          rw [hd] at h1
          simp only [gJ, eZ] at h1
          by_cases hdt : d = t
          · rw [Ak hdt] at h1
            injection h1 with h1
            subst h1
            exact bN2
          · rw [Aj hdt] at h1
            exact .inr ⟨h1, fun j oj hj hl => by
              cases j with
              | zero => simp at hl; subst hl; rw [hd]; intro e; exact hdt (Option.some.inj e)
              | succ j => exact h2 j oj aA fY⟩
theorem ChainE.envEnd :
    ∀ t av, lkE E t = some av -> (∃ j oj, j < l.length /\ l[j]? = some oj /\ oj.dst = some t /\ vs[j]? = some av) \/ (lkE env t = some av /\ ∀ (j : Nat) (oj : Oper), l[j]? = some oj -> oj.dst ≠ some t) := by
  have key : ∀ {o : Oper} {os : Dp} {env E : Env} {v : AV} {vs : D2}, (∀ t av, lkE E t = some av -> (∃ j oj, j < os.length /\ os[j]? = some oj /\ oj.dst = some t /\ vs[j]? = some av) \/ (lkE (gJ env o.dst v) t = some av /\ ∀ (j : Nat) (oj : Oper), os[j]? = some oj -> oj.dst ≠ some t)) ->
      ∀ t av, lkE E t = some av -> (∃ j oj, j < (o :: os).length /\ (o :: os)[j]? = some oj /\ oj.dst = some t /\ (v :: vs)[j]? = some av) \/ (lkE env t = some av /\ ∀ (j : Nat) (oj : Oper), (o :: os)[j]? = some oj -> oj.dst ≠ some t) := by
    intro o os env E v vs ih t av ht
    rcases ih t av ht with ⟨j, oj, h1, h2, h3, h4⟩ | ⟨h1, h2⟩
    · exact .inl ⟨j + 1, oj, by simp; omega, by simpa using h2, h3, by simpa using h4⟩
    · cases hd : o.dst with
      | none =>
        rw [hd] at h1
        exact .inr ⟨h1, fun j oj hl => by
          cases j with
          | zero => simp at hl; subst hl; rw [hd]; simp
          | succ j => exact h2 j oj fY⟩
      | some d =>
        rw [hd] at h1
        simp only [gJ, eZ] at h1
        by_cases hdt : d = t
        · rw [Ak hdt] at h1
          injection h1 with h1
          subst h1
          exact .inl ⟨0, o, by simp, rfl, by rw [hd, hdt], rfl⟩
        · rw [Aj hdt] at h1
          exact .inr ⟨h1, fun j oj hl => by
            cases j with
            | zero => simp at hl; subst hl; rw [hd]; intro e; exact hdt (Option.some.inj e)
            | succ j => exact h2 j oj fY⟩
  induction hc with
  | nil hG => intro t av ht; exact .inr ⟨ht, fun j oj hl => by simp at hl⟩
  | add hG hG' hg hn hsub hT hc hcT hA hcov hkeys hr ih => exact key ih
  | skip hG hg hr ih => exact key ih
end
theorem ChainE.lenE {P:Dv} {ops:Dq} {l:Dp} {env E:Env} {h H:aO} {n N:Nat} {vs:D2} {ns:Dr} {es:List Eat} {G:Nat->Option AObj} (hc:ChainE P ops l env h n vs ns es G E H N):es.length=l.length:=by
 induction hc with
 | nil hG=>rfl
 | add hG hG' hg hn hsub hT hc hcT hA hcov hkeys hr ih=>simp [ih]
 | skip hG hg hr ih=>simp [ih]
def dA7 (l:Dp) (es:List Eat):Bool :=
 (List.range es.length).all fun i=>(List.range es.length).all fun j=>Nat.beq i j || match es[i]?,es[j]?,l[i]?,l[j]? with
  | some (T,_),some (_,some (k,_)),some oi,some oj => !sO T k || xH oj i || xH oi j
  | _,_,_,_=>true
theorem yM:∀{l:Dr} {t:Nat},t∈l->sO l t=true
 | x::r,t,h=>by
  unfold sO
  split
  ·rfl
  ·rename_i hb
   rcases A6.1 h with rfl|h
   ·rw [BP] at hb;cases hb
   ·exact yM h
theorem bV3 {l:Dp} {es:List Eat} (h:dA7 l es=true) {i j k:Nat} {T T':Dr} {c:Wr} {x:Option AObj} {oi oj:Oper} (hij:i≠j) (hi:es[i]? = some (T,c)) (hj:es[j]? = some (T',some (k,x))) (hk:k∈T) (hoi:l[i]? = some oi) (hoj:l[j]? = some oj):xH oj i=true\/xH oi j=true:=by
 have h1:=Aw.1 h i (AA.2 (Ag.1 hi).1)
 have h2:=Aw.1 h1 j (AA.2 (Ag.1 hj).1)
 rw [hi,hj,hoi,hoj] at h2
 have hne:Nat.beq i j=false:=by
  cases hb:Nat.beq i j with
  | false=>rfl
  | true=>exact absurd (Ae hb) hij
 simp only [hne,Bool.false_or,yM hk,Bool.not_true,Br] at h2
 exact h2
abbrev lst (listed:Array Bool) (j:Nat):Bool:=listed.getD j false
def aL6 (B:Bs) (sz n0:Nat) (env0:Env) (dfs:cD) (l:Dp) (vs:D2) (ns:Dr) (es:List Eat) (G:Nat->Option AObj) (listed:Array Bool) (a:Act) (w:World):Prop :=
 ∃M,ConcH B (eF n0 ns l.length listed) M (HV es 0 (lst listed) G) w/\a.tmps.size=sz /\
  (∀j o t v,l[j]? = some o->listed.getD j false=true->o.dst=some t->vs[j]? = some v->Rep ⟨eF n0 ns l.length listed,M,bF B (eF n0 ns l.length listed) M (HV es 0 (lst listed) G),w⟩ v (a.tmps.getD t undef)) /\
  (∀t av,lkE env0 t=some av->(∀(j:Nat) (o:Oper),l[j]? = some o->listed.getD j false=true->o.dst≠some t)->Rep ⟨eF n0 ns l.length listed,M,bF B (eF n0 ns l.length listed) M (HV es 0 (lst listed) G),w⟩ av (a.tmps.getD t undef)) /\
  DefRep B.fr ⟨eF n0 ns l.length listed,M,bF B (eF n0 ns l.length listed) M (HV es 0 (lst listed) G),w⟩ dfs a.defers
section wL
variable {P:Dv} {ops:Dq} {B:Bs} {sz n0 N:Nat} {env0 E:Env} {h0 H:aO} {dfs:cD} {l:Dp} {vs:D2} {ns:Dr} {es:List Eat} {G:Nat->Option AObj} {listed:Array Bool}
theorem eD8 (hc : ChainE P ops l env0 h0 n0 vs ns es G E H N) (hB : headB ops l = true) (hE : dA7 l es = true) (hcl : ∀ (j : Nat) (oj : Oper), l[j]? = some oj -> listed.getD j false = true -> ∀ e ∈ oj.after, Region.binds .any e = true -> listed.getD e.on false = true) (hk0 : ∀ p ∈ h0, p.1 < n0) (hsz : ∀ (j : Nat) (oj : Oper) (t : Nat), l[j]? = some oj -> oj.dst = some t -> t < sz) (hops : ∀ (j : Nat) (oj : Oper), l[j]? = some oj -> ops[j]? = some oj) {Q : Exit -> Act -> World -> Prop} {i : Nat} {o : Oper} {a : Act} {w : World} (hi : l[i]? = some o) (hr : i ∈ Region.ready .any ops listed) (hinv : aL6 B sz n0 env0 dfs l vs ns es G listed a w)
    {K : Act -> World -> Prop} (hK : ∀ a' w', aL6 B sz n0 env0 dfs l vs ns es G (listed.setIfInBounds i true) a' w' -> K a' w') : wpOp P ops Q i K a w := by
  obtain ⟨M, c1, c2, c3, c4, c5⟩ := hinv
  obtain ⟨env', h', hq, Δ, n1, n2, v, T, c, s⟩ := hc.get hk0 i o hi
  have hlt := (Ag.1 hi).1
  have hun := (mem_ready.1 hr).1
  have hall : ∀ e ∈ o.after, Region.binds .any e = true -> listed.getD e.on false = true := by
    obtain ⟨_, o', ho', hall⟩ := mem_ready.1 hr
    rw [hops i o hi] at ho'
    injection ho' with ho'
    subst ho'
    exact hall
  have hlistsz : i < listed.size := by
    rcases AE i listed.size with h | h
    · exact h
    · simp [B5 h] at hun
  have hb := hU hB hi
  have hu := (show aF7 l = true by simp only [headB, Ar] at hB; exact hB.1)
  have look : ∀ t av, t ∈ o.looksAt ops -> lkE env' t = some av -> Rep ⟨eF n0 ns l.length listed, M, bF B (eF n0 ns l.length listed) M (HV es 0 (lst listed) G), w⟩ av (a.tmps.getD t undef) := by
    intro t av ht hav
    rcases tD (hb.2 t ht) with hno | ⟨j, oj, hj, hdj, e, he, heb, hej⟩
    · rcases s.env t av hav with ⟨j, oj, h1, h2, h3, h4⟩ | ⟨h1, h2⟩
      · exact absurd h3 (hno j oj h2)
      · exact cG5
    · have hlj := hall e he heb
      rw [hej] at hlj
      have hji : j < i := by have := hb.1 e he heb; omega
      rcases s.env t av hav with ⟨j', oj', h1, h2, h3, h4⟩ | ⟨h1, h2⟩
      · have := jR hu h2 hj h3 hdj
        subst this
        exact c3 j' oj' t av h2 hlj h3 h4
      · exact absurd hdj (h2 j oj hji hj)
  have hdset := aA9 (n0 := n0) (m := l.length) hlt hun s.hn s.hn'
  have fin : ∀ u w' M', Ext ⟨eF n0 ns l.length listed, M, bF B (eF n0 ns l.length listed) M (HV es 0 (lst listed) G), w⟩ ⟨eF n0 ns l.length (listed.setIfInBounds i true), M', bF B (eF n0 ns l.length (listed.setIfInBounds i true)) M' (HV es 0 (lst (listed.setIfInBounds i true)) G), w'⟩ -> ConcH B (eF n0 ns l.length (listed.setIfInBounds i true)) M' (HV es 0 (lst (listed.setIfInBounds i true)) G) w' -> Rep ⟨eF n0 ns l.length (listed.setIfInBounds i true), M', bF B (eF n0 ns l.length (listed.setIfInBounds i true)) M' (HV es 0 (lst (listed.setIfInBounds i true)) G), w'⟩ v u -> K (a.put o.dst u) w' := by
    intro u w' M' hext hcc hv
    refine hK _ _ ⟨M', hcc, ?_, fun j oj t vj hj hl hd hvj => ?_, fun t av hav hno => ?_, ?_⟩
    · cases hd : o.dst with
      | none => simpa [Act.put] using c2
      | some d => simp [Act.put, c2]
    · by_cases hij : i = j
      · subst hij
        rw [hi] at hj; injection hj with hj; subst hj
        rw [s.hv] at hvj; injection hvj with hvj; subst hvj
        have ht := hsz i o t hi hd
        rw [hd]
        simp only [Act.put]
        rw [show (a.tmps.setIfInBounds t u).getD t undef = u by simp [c2, ht]]
        exact hv
      · rw [getD_set_ne false hij] at hl
        have h1 := c3 j oj t vj hj hl hd hvj
        have hne : ∀ d, o.dst = some d -> d ≠ t := fun d hdd e => hij (jR hu hi hj (by rw [hdd, e]) hd)
        cases hdo : o.dst with
        | none => simpa [Act.put] using Rep.ext hext _ _ h1
        | some d =>
          simp only [Act.put]
          rw [show (a.tmps.setIfInBounds d u).getD t undef = a.tmps.getD t undef by simp [Ba (hne d hdo)]]
          exact Rep.ext hext _ _ h1
    · have hself : o.dst ≠ some t := hno i o hi (by simp [hlistsz])
      have h1 := c4 t av hav (fun j oj hj hl => hno j oj hj (getD_set_true hl))
      cases hdo : o.dst with
      | none => simpa [Act.put] using Rep.ext hext _ _ h1
      | some d =>
        have hne : d ≠ t := fun e => hself (by rw [hdo, e])
        simp only [Act.put]
        rw [show (a.tmps.setIfInBounds d u).getD t undef = a.tmps.getD t undef by simp [Ba hne]]
        exact Rep.ext hext _ _ h1
    · have : (a.put o.dst u).defers = a.defers := by cases o.dst <;> rfl
      rw [this]
      exact c5.ext hext
  have hpi : lst listed i = false := getD_both hun
  have order : ∀ id, id ∈ T -> ∀ j T' x, j ≠ i -> es[j]? = some (T', some (id, x)) -> (j < i /\ lst listed j = true) \/ (i < j /\ lst listed j = false) := by
    intro id hid j T' x hji hj
    have hjl : j < l.length := by rw [<- hc.lenE]; exact (Ag.1 hj).1
    have hoj := Ab hjl
    rcases bV3 hE (Ne.symm hji) s.he hj hid hi hoj with he | he
    · unfold xH at he
      obtain ⟨e, he, h3⟩ := C1.1 he
      simp only [Ar] at h3
      have hlt2 := (hU hB hoj).1 e he h3.1
      rw [Ae h3.2] at hlt2
      refine .inr ⟨hlt2, ?_⟩
      cases hl : lst listed j with
      | false => rfl
      | true =>
        have h4 := hcl j _ hoj hl e he h3.1
        rw [Ae h3.2] at h4
        exact absurd (h4.symm.trans hpi) aU
    · unfold xH at he
      obtain ⟨e, he, h3⟩ := C1.1 he
      simp only [Ar] at h3
      have hlt2 := hb.1 e he h3.1
      have h4 := hall e he h3.1
      rw [Ae h3.2] at hlt2 h4
      exact .inl ⟨hlt2, h4⟩
  have hset : (∀ k x, c = some (k, x) -> k ∈ T) -> HV es 0 (lst (listed.setIfInBounds i true)) G = ov c (HV es 0 (lst listed) G) := fun hcT =>
    cL9 s.he hpi (by simp [lst, hlistsz]) (fun j hj => getD_set_ne false (Ne.symm hj)) (fun k x hk j T' x' hij hj => by
      rcases order k (hcT k x hk) j T' x' aA hj with ⟨h1, _⟩ | ⟨_, h2⟩
      · omega
      · exact h2) G
  have hat : ∀ id, id ∈ T -> HV es 0 (lst listed) G id = HV (es.take i) 0 (fun _ => true) G id := fun id hid =>
    dS7 s.he hpi (fun j T' x hji hj => by
      rcases order id hid j T' x aA hj with ⟨_, h2⟩ | ⟨h1, _⟩
      · exact h2
      · omega) (fun j T' x hij hj => by
      rcases order id hid j T' x aA hj with ⟨h1, _⟩ | ⟨_, h2⟩
      · omega
      · exact h2) G
  unfold wpOp
  rw [hops i o hi]
  simp only
  have gd : ∀ b, guardA ops env' o b -> Region.wanted o (yielded ops a.tmps) = b := by
    intro b hg
    unfold guardA at hg
    unfold Region.wanted
    cases hgd : o.guard with
    | none => rw [hgd] at hg; exact hg.symm
    | some p =>
      obtain ⟨j, want⟩ := p
      rw [hgd] at hg
      obtain ⟨t, h1, h2⟩ := hg
      rcases h2 with ⟨c, h2, h3⟩ | ⟨h2, rfl⟩
      rotate_left
      · have h4 := look t _ (by
          unfold Oper.looksAt
          rw [hgd]
          exact BL _ (by simp [h1])) h2
        simp only [Rep, RepC] at h4
        simp [nJ h1 h4]
      have h4 := look t _ (by
        unfold Oper.looksAt
        rw [hgd]
        exact BL _ (by simp [h1])) h2
      simp only [Rep, RepC] at h4
      have hlt : t < a.tmps.size := by
        rcases AE t a.tmps.size with h1 | h1
        · exact h1
        · simp [h1, undef] at h4
      have : yielded ops a.tmps j = some c := by
        unfold yielded
        rw [h1]
        have h5 : a.tmps[t]? = some (.bool c) := by
          rw [<- h4]
          simp [hlt]
        simp [h5]
      simp only [this]
      rw [<- h3]
      cases c <;> cases want <;> rfl
  rcases s.step with ⟨hg, hsub, hnT, hcT, hA⟩ | ⟨hg, rfl, rfl, rfl⟩
  · rw [gd true hg, Ak rfl]
    refine .inl (hA B (eF n0 ns l.length listed) M (HV es 0 (lst listed) G) w a K Q (fun id ob k1 k2 => ?_) (fun id k1 k2 => ⟨?_, ?newid⟩) c1 (fun x av hx => ?_) ?_)
    ·
      obtain ⟨k1, hidT⟩ := hsub id ob k1
      rw [hat id hidT]
      rcases AE id n1 with h1 | h1
      · rw [s.old id h1]; exact k1
      · obtain ⟨p, hp, hpi⟩ := aC8 k1
        have := s.keys p hp
        omega
    case newid =>
      rw [hat id (hnT id k1 k2), uC, s.new id k1 k2]
      intro k T' x hk
      exfalso
      rw [AU] at hk
      split at hk
      · rename_i hki
        have hkn : k < ns.length := by rw [hc.le.2.2.1]; omega
        have h1 := hc.wrs k T' id x _ hk (Ab hkn)
        have h2 := jI hc (show k <= i by omega) (Ab hkn) s.hn
        omega
      · cases hk
    · rintro (h1 | ⟨j, p, q, h1, h2, h3, h4, h5, h6⟩)
      · have := jI hc (Am i) hc.le.2.1 s.hn
        omega
      · have hij : i ≠ j := fun e => by subst e; rw [getD_both hun] at h2; cases h2
        rcases CT hij with h7 | h7
        · have := jI hc (show i + 1 <= j by omega) s.hn' h3
          omega
        · have := jI hc (show j + 1 <= i by omega) h4 s.hn
          omega
    · cases x with
      | tmp t =>
        simp only [evT] at hx
        split at hx
        · rename_i hm
          exact look t av (rD hm) hx
        · cases hx
      | const x => simp only [evT, Option.some.injEq] at hx; subst hx; simp [Rep, RepC, Act.eval]
      | global g => cases hx
      | func f => simp only [evT, Option.some.injEq] at hx; subst hx; exact ⟨[], rfl, rfl⟩
    · intro u w' M' hext hcc hv
      rw [<- hdset, <- hset hcT] at hext hcc hv
      exact fin u w' M' hext hcc hv
  · rw [gd false hg, Aj aU]
    have hds2 : eF n0 ns l.length (listed.setIfInBounds i true) = eF n0 ns l.length listed := by rw [hdset, dY]
    have hhe := hset (fun k x e => by cases e)
    rw [aQ1] at hhe
    refine fin undef w M ?_ ?_ ?_
    · rw [hds2, hhe]; exact Ext.refl _
    · rw [hds2, hhe]; exact c1
    · simp [Rep, RepC]
theorem dS9 {w:World} {a:Act} {k:Nat} (hc:ChainE P ops l env0 h0 n0 vs ns es G E H N) (h:tN B sz n0 env0 h0 dfs a w):aL6 B sz n0 env0 dfs l vs ns es G (Array.replicate k false) a w:=by
 obtain ⟨M,c1,c2,c3,c4⟩:=h
 have hd:eF n0 ns l.length (Array.replicate k false)=lt n0:=by
  funext id
  simp only [eF,lt,BD]
  refine ⟨fun h=>h.elim (fun h=>h) ?_,.inl⟩
  rintro ⟨j,p,q,h1,h2,_⟩
  rw [getD_replicate_false] at h2
  cases h2
 have hle:=hc.le
 have hHE:HV es 0 (lst (Array.replicate k false)) G=G:=by
  funext id
  exact uC (fun j T x _=>getD_replicate_false _ _)
 have hH:∀id,id<n0->G id=lk h0 id:=hle.2.2.2.2.2.1
 have eok:bF B (lt n0) M (G)=bF B (lt n0) M (lk h0):=by
  funext b
  unfold bF
  simp only [BD]
  refine Cy C5 ⟨fun hk id o hid hh=>hk id o hid (by rw [hH id hid];exact hh),fun hk id o hid hh=>hk id o hid bM8⟩
 unfold aL6
 rw [hHE]
 refine ⟨M,?_,c2,(fun j o t v hj hl=>by rw [getD_replicate_false] at hl;cases hl),fun t av hav _=>?_,?_⟩
 ·rw [hd]
  refine ⟨c1.fr,fun id o hid hh=>?_,fun id id' o o' g k1 k2 k3 k4=>c1.inj id id' o o' g k1 k2 (by rw [<- hH id k1];exact k3) (by rw [<- hH id' k2];exact k4),fun id o g k1 k2=>c1.lo id o g k1 (by rw [<- hH id k1];exact k2)⟩
  rw [eok]
  exact c1.obj id o hid bM8
 ·rw [hd,eok];exact c3 t av hav
 ·rw [hd,eok];exact c4
theorem eG6 {w:World} {a:Act} (hc:ChainE P ops l env0 h0 n0 vs ns es G E H N) (hall:∀j,j<l.length->listed.getD j false=true) (h:aL6 B sz n0 env0 dfs l vs ns es G listed a w):tN B sz N E H dfs a w:=by
 obtain ⟨M,c1,c2,c3,c4,c5⟩:=h
 have hle:=hc.le
 have hd:eF n0 ns l.length listed=lt N:=by
  funext id
  simp only [eF,lt,BD]
  constructor
  ·rintro (h|⟨j,p,q,h1,h2,h3,h4,h5,h6⟩)
   ·omega
   ·have:=jI hc (show j+1<=l.length by omega) h4 hle.2.2.2.2.1
    omega
  ·intro hid
   rcases AE id n0 with h|h
   ·exact .inl h
   ·
    have:∀k,k<=l.length->(∃b,ns[k]? = some b/\id<b)->∃j a b,j<l.length/\ns[j]? = some a/\ns[j+1]? = some b/\a<=id/\id<b:=by
     intro k
     induction k with
     | zero =>
      rintro _ ⟨b,hb,hlt⟩
      rw [hle.2.1] at hb
      injection hb with hb
      omega
     | succ k ih =>
      rintro hk ⟨b,hb,hlt⟩
      have hkl:k<ns.length:=by rw [hle.2.2.1];omega
      by_cases hq:ns[k]<=id
      ·exact ⟨k,ns[k],b,by omega,Ab hkl,hb,hq,hlt⟩
      ·exact ih aA ⟨ns[k],Ab hkl,by omega⟩
    obtain ⟨j,p,q,h1,h2,h3,h4,h5⟩:=this l.length (Ah _) ⟨N,hle.2.2.2.2.1,hid⟩
    exact .inr ⟨j,p,q,h1,hall j h1,h2,h3,h4,h5⟩
 have hHE:∀id,id<N->HV es 0 (lst listed) G id=lk H id:=fun id hid=>by
  rw [hle.2.2.2.2.2.2 id hid]
  refine oB _ _ _ _ _ _ _ (fun k T x hk=>?_) rfl
  rw [Aq]
  exact hall k (by rw [<- hc.lenE];exact (Ag.1 hk).1)
 rw [hd] at c1
 rw [hd] at c3 c4 c5
 have eok:bF B (lt N) M (HV es 0 (lst listed) G)=bF B (lt N) M (lk H):=by
  funext b
  unfold bF
  simp only [BD]
  refine Cy C5 ⟨fun hk id o hid hh=>hk id o hid (by rw [hHE id hid];exact hh),fun hk id o hid hh=>hk id o hid (by rw [<- hHE id hid];exact hh)⟩
 rw [eok] at c3 c4 c5
 have c1':ConcH B (lt N) M (lk H) w:=by
  refine ⟨c1.fr,fun id o hid hh=>?_,fun id id' o o' g k1 k2 k3 k4=>c1.inj id id' o o' g k1 k2 (by rw [hHE id k1];exact k3) (by rw [hHE id' k2];exact k4),fun id o g k1 k2=>c1.lo id o g k1 (by rw [hHE id k1];exact k2)⟩
  have:=c1.obj id o hid (by rw [hHE id hid];exact hh)
  rwa [eok] at this
 refine ⟨M,c1',c2,fun t av ht=>?_,c5⟩
 rcases hc.envEnd t av ht with ⟨j,oj,h1,h2,h3,h4⟩|⟨h1,h2⟩
 ·exact c3 j oj t av h2 (hall j h1) h3 h4
 ·exact c4 t av h1 (fun j o hj _=>h2 j o hj)
end wL
theorem cC0 {P : Dv} {sz n0 N : Nat} {env0 E : Env} {h0 H : aO} {dfs : cD} {K : AK} {id : Nat} {l : Dp} {vs : D2} {ns : Dr} {es : List Eat} {G : Nat -> Option AObj} (m : Nat) (hm : P.follows .mixedOrders = true) (hB : tW l m = true) (hE : dA7 (l.take m) es = true) (hsz : vW (l.take m) sz = true) (hk0 : aJ2 h0 n0 = true)
    (hc : ChainE P l.toArray (l.take m) env0 h0 n0 vs ns es G E H N) (next : AWL P l.toArray sz (l.drop m) K N E H dfs) : AW P sz (.region id l.toArray true) K n0 env0 h0 dfs := by
  intro B a w hcc rd hrd
  simp only [tW, Ar, Br] at hB
  obtain ⟨⟨⟨b1, b2⟩, b3⟩, b4⟩ := hB
  have hml : m <= l.length := A7 b1
  have htl : (l.take m).length = m := by simp; omega
  have hk0' : ∀ p ∈ h0, p.1 < n0 := fun p hp => by simpa [AJ] using List.all_eq_true.1 hk0 p hp
  have hsz' : ∀ (j : Nat) (oj : Oper) (t : Nat), (l.take m)[j]? = some oj -> oj.dst = some t -> t < sz := fun j oj t hj hd => by
    have := Aw.1 hsz oj (Af hj)
    exact fD this t hd
  have hops : ∀ (j : Nat) (oj : Oper), (l.take m)[j]? = some oj -> l.toArray[j]? = some oj := fun j oj hj => by
    rw [AU] at hj
    split at hj
    · simpa using hj
    · cases hj
  have hnd : rd = none \/ ∀ (i : Nat) (o : Oper), l.toArray[i]? = some o -> oF o = true := hrd.imp_right fun k i o ho => aM0 vE ho
  have hdrop : rd = none \/ (l.drop m).all oF = true := hrd.imp_right fun k => Aw.2 fun o ho => Aw.1 vE o (Bf ho)
  refine wpIn_region_any hm ?_
  have hdrew : tN B sz n0 env0 h0 dfs a { w with drawn := w.drawn + 1 } := by
    obtain ⟨M, c1, c2, c3, c4⟩ := hcc
    have hbel : Below w.heap.size w { w with drawn := w.drawn + 1 } := (Below.refl _ _).drew
    have hg := c1.grow hbel n0 n0 (M' := M) (fun _ _ => rfl) (fun id h1 h2 => by omega) (fun id o h1 h2 => by omega) (fun id id' o o' g h1 h2 => by omega) (fun _ id o h1 h2 => by omega)
    rw [dY] at hg
    exact cG6
  have key : ∀ (f : Nat) (listed : Array Bool) (a : Act) (w : World), (List.range m).countP (fun j => !listed.getD j false) = f -> HeadInv .any l.toArray m listed -> aL6 B sz n0 env0 dfs (l.take m) vs ns es G listed a w ->
      wpAnyIn (WF rd) 0 P .any l.toArray (KC B sz K) (f + (l.length - m)) listed a w := by
    intro f
    induction f with
    | zero =>
      intro listed a w hcnt hinv hI
      have hall := qH m hcnt
      have hlisted : listed = nB m (l.length - m) := by
        apply Array.ext
        · rw [hinv.size]; simp [nB]; omega
        · intro j h1 h2
          rw [hinv.size] at h1
          simp only [A1] at h1
          by_cases hj : j < m
          · have := hall j hj
            simp [hinv.size, h1] at this
            simp [nB, hj, this, BS]
          · have := hinv.tail j aA (by simpa using h1)
            simp [hinv.size, h1] at this
            simp [nB, hj, this, BS]
      rw [Aq]
      have hconc := eG6 hc (by rw [htl]; exact hall) hI
      have := kB (F := WF rd) (n := 0) (P := P) (ops := l.toArray) (md := .any) (Q' := KC B sz K) (l.drop m) m listed a w (fun j => by simp [AR]) cG0 (next B a w hconc rd hdrop)
      rwa [A0] at this
    | succ f ih =>
      intro listed a w hcnt hinv hI
      rw [show f + 1 + (l.length - m) = (f + (l.length - m)) + 1 by omega]
      have hex : ∃ j, j < m /\ listed.getD j false = false := by
        have hpos : 0 < (List.range m).countP (fun j => !listed.getD j false) := by omega
        obtain ⟨j, hj, hp⟩ := CO.1 hpos
        exact cG7
      have hsize : ∀ j, j < m -> j < listed.size := fun j hj => by rw [hinv.size]; simp; omega
      have hready : Region.ready .any l.toArray listed ≠ [] := by
        obtain ⟨j0, hj0, hu0⟩ := hex
        obtain ⟨j, ⟨hj, hu⟩, hmin⟩ := kN (fun j => j < m /\ listed.getD j false = false) ⟨j0, hj0, hu0⟩
        have hjl : j < (l.take m).length := by omega
        have hb := hU b2 (Ab hjl)
        have hr : j ∈ Region.ready .any l.toArray listed := by
          refine mem_ready.2 ⟨getD_in (hsize j hj) hu, (l.take m)[j], hops j _ (Ab hjl), fun e he hbn => ?_⟩
          have hlt := hb.1 e he hbn
          cases hle : listed.getD e.on false with
          | true => rfl
          | false => have := hmin e.on ⟨by omega, hle⟩; omega
        intro h0; rw [h0] at hr; cases hr
      refine ⟨fun h => absurd h hready, fun i hi => ?_⟩
      have him : i < m := by
        rcases AE i m with h | h
        · exact h
        · exfalso
          obtain ⟨_, oi, hoi, _⟩ := mem_ready.1 hi
          have hil : i < l.length := by simpa using (Cq.1 hoi).1
          rcases b3 with b3 | b3
          · have := Ae b3; omega
          · obtain ⟨j0, hj0, hu0⟩ := hex
            exact cG8
      have hil : i < (l.take m).length := by omega
      refine aS0 (hnd.imp_right fun k => k i) (eD8 (Q := fun _ _ _ => False) hc b2 hE (fun j oj hj hl e he hb => hinv.closed j oj (hops j oj hj) hl e he hb) hk0' hsz' hops (Ab hil) hi hI fun a' w' hI' => ?_)
      refine ih _ a' w' ?_ (hinv.set hi him) hI'
      have := sY m him (mem_ready.1 hi).1
      omega
  have hcount : (List.range m).countP (fun j => !(Array.replicate l.toArray.size false).getD j false) = m := by
    rw [CD.2 (fun j hj => by rw [getD_replicate_false]; rfl), C6]
  have := key m (Array.replicate l.toArray.size false) a _ hcount ⟨by simp, (fun j oj hj hl => by rw [getD_replicate_false] at hl; cases hl), fun t h1 h2 => by simp at h2; simp [h2]⟩ (dS9 hc hdrew)
  rw [show m + (l.length - m) = l.toArray.size by simp; omega] at this
  exact this
end
section
section
variable {P:Dv} {tab:Tab} {ev:Evl} {h:aO} {d:Dt} {T ty:Du} {x y:Operand} {pos:String} {aft:Ds} {gd:Dn} {i:Nat}
theorem cI7 (tb : bQ P tab) {e e' : TyE} {E size m k id : Nat} {vy : AV} {cs ys : D1} (hT : aS tab T = some e) (hk : e.kind = .slice E) (hE : aS tab E = some e') (hs : Nat.beq e'.size size = true) (hz : Nat.beq e'.zero.length size = true)
    (hx : ev x = some (.own id 0 m size true)) (ho : lk h id = some (.row E cs)) (hcl : cs.length = m * size) (hy : ev y = some vy) (hf : Src h vy size k ys) (h63 : m + k <= maxLen) (hb : (m + k) * e'.bytes <= 140737488355328) :
    bY P ⟨d, .call ⟨.builtin .append, #[x, y], #[T, T]⟩, ty, pos, aft, gd⟩ ev h (.own i 0 (m + k) size true) [(i, .row E (cs ++ ys))] (some (id, none)) i (i + 1) := by
  intro B dom M H w a K' Q hh hn c1 he hK'
  have hrx := he x _ hx
  have hry := he y _ hy
  have hid : dom id := by simp only [Rep] at hrx; exact hrx.1
  have hi0 := hn i (Ah _) (Bk _)
  have hidi : id ≠ i := fun e => hi0.1 (e ▸ hid)
  have hoH := hh id _ ho hid
  have h2 := hf B dom M H w _ hh c1 hry
  obtain ⟨ti, zv, hi, hzv, hszt, hby, hzc⟩ := jS (aM tb hE)
  have hs' := Ae hs
  have hz' := Ae hz
  have hzs : zv.cells.size = ti.size := by rw [<- A9, hzc, hz', hszt, hs']
  rw [<- hs', <- hszt] at h2
  have hsl := (aM tb hT).slice hk
  have fin : ∀ (w' : World) (gq : Dz) (u : Value), w'.os = w.os -> w'.tape = w.tape -> w'.output = w.output -> w.heap.size <= w'.heap.size -> (∀ b, b < w.heap.size -> M id ≠ some b -> w'.heap[b]? = w.heap[b]?) -> (∀ b s, w.shape? b = some s -> w'.shape? b = some s) ->
      (∀ g, gq = some g -> M id = some g \/ w.heap.size <= g) ->
      (∀ C, Ext ⟨dom, M, bF B dom M H, w⟩ C -> C.w = w' -> C.dom i -> C.M i = gq -> ObjRep C gq (.row E (cs ++ ys)) /\ Rep C (.own i 0 (m + k) size true) u) ->
      K' (a.put d u) w' := by
    intro w' gq u e1 e2 e3 e4 e5 e6 e7 e8
    let M' : Nat -> Dz := fun q => if q = i then gq else M q
    have hMn : M' i = gq := by simp [M']
    have hMo : ∀ q, dom q -> M' q = M q := fun q hq => by
      have : q ≠ i := fun e => hi0.1 (e ▸ hq)
      simp [M', this]
    have hln : H i = some (.row E (cs ++ ys)) := by rw [hi0.2, cA, Ak rfl]; rfl
    have hobj : ∀ q o, ad dom i (i + 1) q -> ov (some (id, none)) H q = some o -> (q = i /\ o = .row E (cs ++ ys)) \/ (dom q /\ q ≠ id /\ H q = some o) := fun q o hq hH => by
      by_cases hqi : q = id
      · subst hqi; rw [xR] at hH; cases hH
      · rw [lE (fun x e => hqi (congrArg Prod.fst (Option.some.inj e)).symm)] at hH
        rcases hq with hq | ⟨hq1, hq2⟩
        · exact .inr ⟨hq, hqi, hH⟩
        · obtain rfl : q = i := by omega
          rw [hln] at hH; injection hH with hH; exact .inl ⟨rfl, hH.symm⟩
    have hext : Ext ⟨dom, M, bF B dom M H, w⟩ ⟨ad dom i (i + 1), M', bF B (ad dom i (i + 1)) M' (ov (some (id, none)) H), w'⟩ := by
      refine ⟨fun q hq => ⟨.inl hq, hMo q hq⟩, fun b hb1 hb2 => ⟨⟨hb1.1, fun q o hq hH he => ?_⟩, A3 hb2 e4, e5 b hb2 (fun he => hb1.2 id _ hid hoH he)⟩, shp fun b s hbs => e6 b s hbs⟩
      rcases hobj q o hq hH with ⟨rfl, rfl⟩ | ⟨h1, h3, h4⟩
      · rw [hMn] at he
        rcases e7 b he with h1 | h1
        · exact hb1.2 id _ hid hoH h1
        · simp only at hb2; omega
      · rw [hMo q h1] at he; exact hb1.2 q o h1 h4 he
    have hdi : ad dom i (i + 1) i := .inr ⟨Ah _, Bk _⟩
    have e8' := e8 _ hext rfl hdi hMn
    have hcc : ConcH B (ad dom i (i + 1)) M' (ov (some (id, none)) H) w' := by
      refine ⟨⟨e1.trans c1.fr.os, e2.trans c1.fr.tape, e3.trans c1.fr.output, At c1.fr.size e4, fun b h1 h3 => ?_⟩, fun q o hq hH => ?_, fun q q' o o' g h1 h3 h4 h5 h6 h7 => ?_, fun q o g hq hH he => ?_⟩
      · rw [e5 b (A3 h1 c1.fr.size) (fun he => ?_)]
        · exact c1.fr.block b h1 h3
        · rcases c1.lo id _ b hid hoH he with h4 | h4
          · omega
          · exact h3 h4
      · rcases hobj q o hq hH with ⟨rfl, rfl⟩ | ⟨h1, h3, h4⟩
        · rw [hMn]; exact e8'.1
        · rw [hMo q h1]
          have h5 := c1.obj q o h1 h4
          exact dR4
      · rcases hobj q o h1 h4 with ⟨rfl, rfl⟩ | ⟨p1, p2, p3⟩ <;> rcases hobj q' o' h3 h5 with ⟨rfl, rfl⟩ | ⟨r1, r2, r3⟩
        · rfl
        · rw [hMn] at h6; rw [hMo q' r1] at h7
          rcases e7 g h6 with t1 | t1
          · exact absurd (c1.inj q' id o' _ g r1 hid r3 hoH h7 t1) r2
          · have := (c1.obj q' o' r1 r3).lt g h7; simp only at this; omega
        · rw [hMn] at h7; rw [hMo q p1] at h6
          rcases e7 g h7 with t1 | t1
          · exact absurd (c1.inj q id o _ g p1 hid p3 hoH h6 t1) p2
          · have := (c1.obj q o p1 p3).lt g h6; simp only at this; omega
        · rw [hMo q p1] at h6; rw [hMo q' r1] at h7
          exact dX3
      · rcases hobj q o hq hH with ⟨rfl, rfl⟩ | ⟨h1, h3, h4⟩
        · rw [hMn] at he
          rcases e7 g he with t1 | t1
          · exact c1.lo id _ g hid hoH t1
          · have := c1.fr.size; exact .inl aA
        · rw [hMo q h1] at he; exact c1.lo q o g h1 h4 he
    exact hK' u w' M' hext hcc e8'.2
  unfold Oper.wp
  simp only [Rep] at hrx
  rcases hrx.2 with ⟨q1, q2, q3, q4⟩ | ⟨g, cp, q1, q2, q3, q4, q5⟩ | ⟨_, q2, _⟩
  · subst q1
    obtain rfl : cs = [] := An (by simpa using hcl)
    obtain ⟨news, n1, n2, n3⟩ := aZ4 (P := P) (ty := ty) hsl hi hzv hzs h2 (by simpa using h63) (by rw [hby]; simpa using hb)
    rcases n3 with ⟨r1, hr⟩ | ⟨cap', vs', w', hr, hb', hblk, hlen, hc1, hc2⟩
    · have hys : ys = [] := An (by
        obtain ⟨_, _, _, _, h4, _⟩ := h2
        rw [h4, r1]; simp)
      rw [gE a.eval (w' := w) (v := .slice none 0 0) (by rw [q4]; exact hr)]
      simp only [Oper.upon]
      refine fin w none _ rfl rfl rfl (Ah _) (fun _ _ _ => rfl) (fun _ _ h => h) aU (fun C hext hw hdn hMn => ⟨.inl ⟨rfl, by rw [hys]; rfl⟩, hdn, .inl ⟨by omega, rfl, hMn, rfl⟩⟩)
    · rw [gE a.eval (w' := w') (v := .slice (some ⟨w.heap.size, 0, none⟩) k cap') (by rw [q4]; exact hr)]
      simp only [Oper.upon]
      refine fin w' (some w.heap.size) _ hb'.os hb'.tape hb'.output hb'.size (fun b hb2 _ => hb'.block b hb2) (fun b s hs => by rw [eC (hb'.block b (jM hs))]; exact hs) (fun g hg => by injection hg with hg; exact .inr aA) (fun C hext hw hdn hMn => ⟨.inr ⟨w.heap.size, news, vs', rfl, by rw [hw]; exact hblk, ?_, n2⟩, hdn, .inr (.inl ⟨w.heap.size, cap', hMn, by simp, by omega, hc2, fun _ => ⟨E, ?_⟩⟩)⟩)
      · rw [Ay]
        exact RepCs.mono hext.ok _ _ n1
      · unfold World.shape?
        rw [hw, hblk]
        simp only [A1, Aq]
        rw [hlen, hszt, hs']
  · obtain ⟨us, vs, hblk0, hus, hon⟩ := fI hh c1 ho hid q1
    obtain ⟨e0, hsh⟩ := q5 trivial
    have hcap : (us ++ vs).length = cp * ti.size := by
      have hsh' : w.shape? g = some (E, (us ++ vs).length) := by
        unfold World.shape?
        rw [hblk0]; simp
      skip
      rw [hsh'] at hsh
      injection hsh with hsh
      have := congrArg Prod.snd hsh
      simp only [Aq] at this
      rw [this, hszt, hs']
    obtain ⟨news, n1, n2, n3⟩ := bR0 (P := P) (ty := ty) hsl hi hzv hzs hblk0 cG3 hcap q3 q4 h2 h63 (by rw [hby]; exact hb)
    rcases n3 with ⟨vs', hr, hlen, hroom⟩ | ⟨cap', vs', w', hr, hb', hblk, hlen, hc1, hc2⟩
    · rw [gE a.eval (v := .slice (some ⟨g, 0, none⟩) (m + k) cp) (by rw [q2]; exact hr)]
      simp only [Oper.upon]
      have hnew := setRow_heap w g _ ((us ++ news) ++ vs').toArray E _ hblk0
      have hshp : ∀ b s, w.shape? b = some s -> (w.setRow g ((us ++ news) ++ vs').toArray).shape? b = some s := fun b s hs => by
        by_cases hbg : b = g
        · subst hbg
          rw [<- hs]
          unfold World.shape?
          rw [hnew, hblk0]
          simp only [A1, hlen]
        · rw [eC (setRow_other w g b _ hbg)]; exact hs
      refine fin _ (some g) _ rfl rfl rfl aU (fun b _ hb2 => setRow_other w g b _ (fun e => hb2 (by rw [e]; exact q1))) hshp (fun g' hg' => by injection hg' with hg'; subst hg'; exact .inl q1) (fun C hext hw hdn hMn => ⟨.inr ⟨g, us ++ news, vs', rfl, by rw [hw]; exact hnew, RepCs.mono hext.ok _ _ (hus.append n1), fun u hu => (Az.1 hu).elim (hon u) (n2 u)⟩, hdn, .inr (.inl ⟨g, cp, hMn, rfl, hroom, q4, fun _ => ⟨e0, ?_⟩⟩)⟩)
      rw [hw]
      exact hshp _ _ hsh
    · rw [gE a.eval (v := .slice (some ⟨w.heap.size, 0, none⟩) (m + k) cap') (w' := w') (by rw [q2]; exact hr)]
      simp only [Oper.upon]
      refine fin w' (some w.heap.size) _ hb'.os hb'.tape hb'.output hb'.size (fun b hb2 _ => hb'.block b hb2) (fun b s hs => by rw [eC (hb'.block b (jM hs))]; exact hs) (fun g hg => by injection hg with hg; exact .inr aA) (fun C hext hw hdn hMn => ⟨.inr ⟨w.heap.size, us ++ news, vs', rfl, by rw [hw]; exact hblk, RepCs.mono hext.ok _ _ (hus.append n1), fun u hu => (Az.1 hu).elim (hon u) (n2 u)⟩, hdn, .inr (.inl ⟨w.heap.size, cap', hMn, rfl, hc1, hc2, fun _ => ⟨E, ?_⟩⟩)⟩)
      unfold World.shape?
      rw [hw, hblk]
      simp only [A1, Aq]
      rw [hlen, hszt, hs']
  · cases q2
end
theorem ConcH.turnE {B : Bs} {dom : Nat -> Prop} {M : Nat -> Dz} {H : Nat -> Option AObj} {w w' : World} (hc : ConcH B dom M H w) {id g : Nat} {o o' : AObj} (hid : dom id) (ho : H id = some o) (hM : M id = some g)
    (hos : w'.os = w.os) (htp : w'.tape = w.tape) (hou : w'.output = w.output) (hsz : w'.heap.size = w.heap.size) (hbl : ∀ k, k ≠ g -> w'.heap[k]? = w.heap[k]?) (hsh : w'.shape? g = w.shape? g)
    (hob : Ext ⟨dom, M, bF B dom M H, w⟩ ⟨dom, M, bF B dom M (ov (some (id, some o')) H), w'⟩ -> ObjRep ⟨dom, M, bF B dom M (ov (some (id, some o')) H), w'⟩ (some g) o') :
    ConcH B dom M (ov (some (id, some o')) H) w' /\ Ext ⟨dom, M, bF B dom M H, w⟩ ⟨dom, M, bF B dom M (ov (some (id, some o')) H), w'⟩ := by
  have hlk : ∀ k, k ≠ id -> ov (some (id, some o')) H k = H k := fun k hk => lE fun x e => hk (congrArg Prod.fst (Option.some.inj e)).symm
  have hlk0 : ov (some (id, some o')) H id = some o' := xR
  have hok : ∀ b, bF B dom M H b -> bF B dom M (ov (some (id, some o')) H) b /\ b ≠ g := fun b hb => by
    refine ⟨⟨hb.1, fun k ok hk hH he => ?_⟩, fun e => hb.2 id o hid ho (by rw [hM, e])⟩
    by_cases hki : k = id
    · subst hki; exact hb.2 k o hk ho he
    · rw [hlk k hki] at hH; exact hb.2 k ok hk hH he
  have hext : Ext ⟨dom, M, bF B dom M H, w⟩ ⟨dom, M, bF B dom M (ov (some (id, some o')) H), w'⟩ := by
    refine ⟨fun k hk => ⟨hk, rfl⟩, fun b hb hl => ⟨(hok b hb).1, by simp only at hl ⊢; omega, hbl b (hok b hb).2⟩, shp fun b x hx => ?_⟩
    simp only at hx ⊢
    by_cases hbg : b = g
    · subst hbg; rw [hsh]; exact hx
    · rw [eC (hbl b hbg)]; exact hx
  refine ⟨⟨⟨hos.trans hc.fr.os, htp.trans hc.fr.tape, hou.trans hc.fr.output, by rw [hsz]; exact hc.fr.size, fun k h1 h2 => ?_⟩, fun k ok hk hH => ?_, fun k k' ok ok' g' k1 k2 k3 k4 k5 k6 => ?_, fun k ok g' k1 k2 k3 => ?_⟩, hext⟩
  · rw [hbl k (fun e => ?_)]
    · exact hc.fr.block k h1 h2
    · subst e
      rcases hc.lo id o k hid ho hM with h3 | h3
      · omega
      · exact h2 h3
  · by_cases hki : k = id
    · subst hki
      rw [hlk0] at hH
      injection hH with hH
      subst hH
      rw [hM]
      exact hob hext
    · rw [hlk k hki] at hH
      have h3 := hc.obj k ok hk hH
      refine h3.ext hext (fun j hj => hbl j (fun e => ?_))
      subst e
      exact hki (hc.inj k id ok o j hk hid hH ho hj hM)
  · have get : ∀ k ok, ov (some (id, some o')) H k = some ok -> ∃ ok', H k = some ok' := fun k ok hk => by
      by_cases hki : k = id
      · subst hki; exact ⟨o, ho⟩
      · rw [hlk k hki] at hk; exact ⟨ok, hk⟩
    obtain ⟨q1, hq1⟩ := get k ok k3
    obtain ⟨q2, hq2⟩ := get k' ok' k4
    exact hc.inj k k' q1 q2 g' k1 k2 hq1 hq2 k5 k6
  · by_cases hki : k = id
    · subst hki; exact hc.lo k o g' hid ho k3
    · rw [hlk k hki] at k2; exact hc.lo k ok g' k1 k2 k3
section
variable {P:Dv} {tab:Tab} {ev:Evl} {h:aO} {T ty:Du} {x y:Operand} {pos:String} {aft:Ds} {gd:Dn} {i:Nat}
section
variable (tb : bQ P tab) {e : TyE} (hT : aS tab T = some e)
include tb e hT
theorem cJ7 (hk : Nat.beq e.size 1 = true) {id off : Nat} {T' : Du} {cs : D2} {v : AV} (hx : ev x = some (.ref id off)) (hy : ev y = some v) (h1 : v.one = true) (ho : lk h id = some (.blk T' cs)) (hfit : off < cs.length) :
    bY P ⟨none, .store T x y, ty, pos, aft, gd⟩ ev h .junk [] (some (id, some (.blk T' (cs.set off v)))) i i := by
  intro B dom M H w a K' Q hh hn c1 he hK'
  have hp := he x _ hx
  have hv := he y _ hy
  simp only [Rep] at hp
  obtain ⟨hid, g, hM, hp⟩ := hp
  obtain ⟨us, hb, hus⟩ := iL hh c1 ho hid hM
  obtain ⟨o1, o2⟩ := hv.one h1
  have hsz : e.size = 1 := Ae hk
  have hlen : off + 1 <= us.length := by rw [hus.length]; omega
  have hrun := gH (P := P) (w := w) (aM tb hT) (g := g) (off := off) (cur := us) (vs := [a.eval y]) (v := a.eval y) hb (by rw [o2]) (by simp [hsz]) hlen (by simpa using o1)
  have hset : us.take off ++ [a.eval y] ++ us.drop (off + [a.eval y].length) = us.set off (a.eval y) := by
    rw [BF]
    rw [Ak aA]
    simp
  rw [hset] at hrun
  unfold Oper.wp execOp
  simp only [hp, Instr.storeAt, Instr.sureAddr, Sem.run_bind, Sem.run_pure, Result.andThen_ok, hrun]
  obtain ⟨k1, k2⟩ := c1.turnE (o' := .blk T' (cs.set off v)) (w' := w.setRow g (us.set off (a.eval y)).toArray) hid (hh _ _ ho hid) hM rfl rfl rfl aU (fun k hk => setRow_other w g k _ hk) (fE hb aU)
    (fun hext => ⟨g, _, rfl, setRow_heap w g _ _ T' _ hb, RepL.ext hext _ _ (RepL.set hus off hv)⟩)
  simp only [Oper.upon]
  rw [dY] at hK'
  exact aU5
theorem bV1 (hk : Nat.beq e.size 1 = true) {id off : Nat} {T' : Du} {cs : D1} {v : CV} (hx : ev x = some (.ref id off)) (hy : ev y = some (.c v)) (h1 : v.one = true) (ho : lk h id = some (.row T' cs)) (hfit : off < cs.length) :
    bY P ⟨none, .store T x y, ty, pos, aft, gd⟩ ev h .junk [] (some (id, some (.row T' (cs.set off v)))) i i := by
  intro B dom M H w a K' Q hh hn c1 he hK'
  have hp := he x _ hx
  have hv := he y _ hy
  simp only [Rep] at hp hv
  obtain ⟨hid, g, hM, hp⟩ := hp
  obtain ⟨us, vs, hb, hus, hone⟩ := fI hh c1 ho hid hM
  obtain ⟨o1, o2⟩ := hv.one h1
  have hsz : e.size = 1 := Ae hk
  have hul := hus.length
  have hlen : off + 1 <= (us ++ vs).length := by simp; omega
  have hrun := gH (P := P) (w := w) (aM tb hT) (g := g) (off := off) (cur := us ++ vs) (vs := [a.eval y]) (v := a.eval y) hb (by rw [o2]) (by simp [hsz]) hlen (by simpa using o1)
  have hset : (us ++ vs).take off ++ [a.eval y] ++ (us ++ vs).drop (off + [a.eval y].length) = us.set off (a.eval y) ++ vs := by
    rw [<- List.set_append_left _ _ aA, BF]
    rw [Ak fU]
    simp
  rw [hset] at hrun
  unfold Oper.wp execOp
  simp only [hp, Instr.storeAt, Instr.sureAddr, Sem.run_bind, Sem.run_pure, Result.andThen_ok, hrun]
  obtain ⟨k1, k2⟩ := c1.turnE (o' := .row T' (cs.set off v)) (w' := w.setRow g (us.set off (a.eval y) ++ vs).toArray) hid (hh _ _ ho hid) hM rfl rfl rfl aU (fun k hk => setRow_other w g k _ hk) (fE hb aU)
    (fun hext => .inr ⟨g, _, vs, rfl, setRow_heap w g _ _ T' _ hb, RepCs.mono hext.ok _ _ (RepCs.set hus off hv), fun u hu => (List.mem_or_eq_of_mem_set hu).elim (hone u) (fun e => e ▸ o1)⟩)
  simp only [Oper.upon]
  rw [dY] at hK'
  exact aU5
theorem cJ8 {id off : Nat} {T' : Du} {cs xs cs' : D2} {v : AV} (hx : ev x = some (.ref id off)) (hy : ev y = some v) (hp : Parts v xs) (hl : xs.length = e.size) (h1 : xs.all AV.one = true) (ho : lk h id = some (.blk T' cs)) (hfit : off + xs.length <= cs.length) (hcs : lay cs off xs = cs') :
    bY P ⟨none, .store T x y, ty, pos, aft, gd⟩ ev h .junk [] (some (id, some (.blk T' cs'))) i i := by
  subst hcs
  intro B dom M H w a K' Q hh hn c1 he hK'
  have hpt := he x _ hx
  simp only [Rep] at hpt
  obtain ⟨hid, g, hM, hpt⟩ := hpt
  obtain ⟨vs, hv, hvs⟩ := hp.rep (he y _ hy)
  obtain ⟨us, hb, hus⟩ := iL hh c1 ho hid hM
  have hul := hus.length
  have hvl := hvs.length
  have hrun := gH (P := P) (w := w) (aM tb hT) (g := g) (off := off) (cur := us) (vs := vs) (v := a.eval y) hb (by rw [hv]; rfl) aA aA (hvs.one h1)
  unfold Oper.wp execOp
  simp only [hpt, Instr.storeAt, Instr.sureAddr, Sem.run_bind, Sem.run_pure, Result.andThen_ok, hrun]
  obtain ⟨k1, k2⟩ := c1.turnE (o' := .blk T' (lay cs off xs)) (w' := w.setRow g (us.take off ++ vs ++ us.drop (off + vs.length)).toArray) hid (hh _ _ ho hid) hM rfl rfl rfl aU (fun k hk => setRow_other w g k _ hk) (fE hb fU)
    (fun hext => ⟨g, _, rfl, setRow_heap w g _ _ T' _ hb, RepL.ext hext _ _ (by
      unfold lay
      rw [hvl]
      exact ((hus.take off).append hvs).append (hus.drop (off + xs.length)))⟩)
  simp only [Oper.upon]
  rw [dY] at hK'
  exact aU5
theorem bV2 {id off : Nat} {T' : Du} {cs xs cs' : D1} (hx : ev x = some (.ref id off)) (hy : ev y = some (.c (.agg xs))) (hl : xs.length = e.size) (ho : lk h id = some (.row T' cs)) (hfit : off + xs.length <= cs.length) (hcs : lay cs off xs = cs') :
    bY P ⟨none, .store T x y, ty, pos, aft, gd⟩ ev h .junk [] (some (id, some (.row T' cs'))) i i := by
  subst hcs
  intro B dom M H w a K' Q hh hn c1 he hK'
  have hpt := he x _ hx
  have hvv := he y _ hy
  simp only [Rep, RepC] at hpt hvv
  obtain ⟨hid, g, hM, hpt⟩ := hpt
  obtain ⟨vs, hv, hvs, h1⟩ := hvv
  obtain ⟨us, ws, hb, hus, hone⟩ := fI hh c1 ho hid hM
  have hul := hus.length
  have hvl := hvs.length
  have hrun := gH (P := P) (w := w) (aM tb hT) (g := g) (off := off) (cur := us ++ ws) (vs := vs) (v := a.eval y) hb (by rw [hv]; rfl) aA fU h1
  have hset : (us ++ ws).take off ++ vs ++ (us ++ ws).drop (off + vs.length) = (us.take off ++ vs ++ us.drop (off + vs.length)) ++ ws := by
    rw [AD aA, B7 aA]
    simp
  rw [hset] at hrun
  unfold Oper.wp execOp
  simp only [hpt, Instr.storeAt, Instr.sureAddr, Sem.run_bind, Sem.run_pure, Result.andThen_ok, hrun]
  obtain ⟨k1, k2⟩ := c1.turnE (o' := .row T' (lay cs off xs)) (w' := w.setRow g ((us.take off ++ vs ++ us.drop (off + vs.length)) ++ ws).toArray) hid (hh _ _ ho hid) hM rfl rfl rfl aU (fun k hk => setRow_other w g k _ hk) (fE hb fU)
    (fun hext => .inr ⟨g, _, ws, rfl, setRow_heap w g _ _ T' _ hb, RepCs.mono hext.ok _ _ (by
      unfold lay
      rw [hvl]
      exact ((hus.take off).append hvs).append (hus.drop (off + xs.length))), fun u hu => by
        rcases Az.1 hu with hu | hu
        · rcases Az.1 hu with hu | hu
          · exact hone u (AI hu)
          · exact h1 u hu
        · exact hone u (Bf hu)⟩)
  simp only [Oper.upon]
  rw [dY] at hK'
  exact aU5
end
end
theorem ChainE.congrG {P:Dv} {ops:Dq} {l:Dp} {env E:Env} {h H:aO} {n N:Nat} {vs:D2} {ns:Dr} {es:List Eat} {G:Nat->Option AObj} (hc:ChainE P ops l env h n vs ns es G E H N):∀G',(∀id,id<N->G id=G' id)->ChainE P ops l env h n vs ns es G' E H N:=by
 induction hc with
 | nil hG=>intro G' hh;exact .nil fun id hid=>by rw [<- hh id hid];exact hG id hid
 | add hG hG' hg hn hsub hT hc hcT hA hcov hkeys hr ih =>
  intro G' hh
  have hle:=hr.le.1
  exact .add (fun id hid=>by rw [<- hh id aA];exact hG id hid) (fun id k1 k2=>by rw [<- hh id aA];exact hG' id k1 k2) hg hn hsub hT hc hcT hA hcov hkeys (ih _ fun id hid=>aD1 (hh id hid))
 | skip hG hg hr ih =>
  intro G' hh
  have hle:=hr.le.1
  exact .skip (fun id hid=>by rw [<- hh id aA];exact hG id hid) hg (ih _ hh)
theorem ChainE.snoc {P : Dv} {ops : Dq} {l : Dp} {env E : Env} {h H : aO} {n N : Nat} {vs : D2} {ns : Dr} {es : List Eat} {G : Nat -> Option AObj} (hc : ChainE P ops l env h n vs ns es G E H N) {o : Oper} {v : AV} {Δ hr : aO} {N' : Nat} {T : Dr} {c : Wr}
    (hs : (guardA ops E o true /\ N <= N' /\ (∀ id o, lk hr id = some o -> lk H id = some o /\ id ∈ T) /\ (∀ p ∈ Δ, p.1 ∈ T) /\ cW3 c /\ (∀ k x, c = some (k, x) -> k ∈ T /\ k < N) /\ bY P o (evT (o.looksAt ops) E) hr v Δ c N N' /\ (∀ id, N <= id -> id < N' -> (lk Δ id).isSome = true) /\ (∀ p ∈ Δ, N <= p.1 /\ p.1 < N')) \/ (guardA ops E o false /\ v = .c (.v undef) /\ Δ = [] /\ N' = N /\ T = [] /\ c = none)) (hΔ : ∀ id, N <= id -> id < N' -> G id = lk Δ id) :
    ∃ vs' ns', ChainE P ops (l ++ [o]) env h n vs' ns' (es ++ [(T, c)]) G (gJ E o.dst v) (wrH c (Δ ++ H)) N' := by
  induction hc with
  | @nil env h n G hG =>
    rcases hs with ⟨h1, h2, h3, h4, hw, hcT, h5, h6, h7⟩ | ⟨h1, rfl, rfl, rfl, rfl, rfl⟩
    · refine ⟨_, _, .add hG hΔ h1 h2 h3 h4 hw hcT h5 h6 h7 (.nil fun id hid => ?_)⟩
      rw [cW2 hw]
      refine aD1 ?_
      rcases AE id n with hlt | hge
      · rw [hG id hlt]
        exact (lB fun p hp e => by have := (h7 p hp).1; omega).symm
      · rw [hΔ id hge hid]
        obtain ⟨q, hq⟩ := AN.1 (h6 id hge hid)
        rw [nF hq, hq]
    · exact ⟨_, _, .skip hG h1 (.nil hG)⟩
  | add hG hG' hg hn hsub hT hc hcT hA hcov hkeys hr ih =>
    have hle := hr.le.1
    obtain ⟨vs', ns', hch⟩ := ih hs (fun id k1 k2 => by rw [lE (fun x e => by have := (hcT id x e).2; omega)]; exact hΔ id k1 k2)
    exact ⟨_, _, .add hG hG' hg hn hsub hT hc hcT hA hcov hkeys hch⟩
  | skip hG hg hr ih =>
    obtain ⟨vs', ns', hch⟩ := ih hs hΔ
    exact ⟨_, _, .skip hG hg hch⟩
def bX (P:Dv) (l:Dp) (sz:Nat) (K:AK) (dfs:cD) (id n0:Nat) (env0:Env) (h0:aO) (es:List Eat) (m:Nat) (rest:Dp) (n:Nat) (env:Env) (h:aO):Prop :=
 ∀pre vs ns G,pre++rest=l->ChainE P l.toArray pre env0 h0 n0 vs ns es G env h n->AW P sz (.region id l.toArray true) K n0 env0 h0 dfs
mutual
def AV.addIds:AV->Dr->Option (Dr)
 | .c _,r=>some r
 | .ip _ _,r=>some r
 | .junk,r=>some r
 | .ref id _,r=>some (id::r)
 | .own id _ _ _ _,r=>some (id::r)
 | .agg xs,r=>AV.addIdsL xs r
 | .tup xs,r=>AV.addIdsL xs r
 | .fn _ xs,r=>AV.addIdsL xs r
 | .yld id,r=>some (id::r)
 | .mh id,r=>some (id::r)
 | .bm _ id,r=>some (id::r)
def AV.addIdsL:D2->Dr->Option (Dr)
 | [],r=>some r
 | x::xs,r=>match AV.addIdsL xs r with|some r'=>AV.addIds x r'|none=>none
end
def uF (env:Env):Dr->Option (Dr)
 | []=>some []
 | t::ts=>match uF env ts with
  | some r=>match lkE env t with|some v=>AV.addIds v r|none=>some r
  | none=>none
def jY (ids:Dr):aO->Option aO
 | []=>some []
 | (i,o)::r=>match jY ids r with
  | some r'=>match sO ids i with|true=>some ((i,o)::r')|false=>some r'
  | none=>none
theorem aW4 {ids:Dr}:∀{h hr:aO},jY ids h=some hr->∀id,(lk hr id=if id∈ids then lk h id else none)
 | [],hr,hf,id=>by simp [jY] at hf;subst hf;simp [lk]
 | (i,o)::r,hr,hf,id=>by
  simp only [jY] at hf
  split at hf
  ·rename_i r' hr'
   have ih:=aW4 hr' id
   split at hf
   ·rename_i hm
    injection hf with hf;subst hf
    rw [cA,cA,ih]
    by_cases hi:i=id
    ·subst hi;simp [rD hm]
    ·simp [hi]
   ·rename_i hm
    injection hf with hf;subst hf
    rw [ih,cA]
    by_cases hi:i=id
    ·subst hi
     have:i∉ids:=fun h=>by rw [yM h] at hm;cases hm
     simp [this]
    ·simp [hi]
  ·cases hf
theorem dL {ids:Dr} {h hr:aO} (hf:jY ids h=some hr):∀id o,lk hr id=some o->lk h id=some o/\id∈ids:=by
 intro id o ho
 rw [aW4 hf] at ho
 split at ho
 ·rename_i hi;exact ⟨ho,hi⟩
 ·cases ho
section
variable {P:Dv} {l:Dp} {sz:Nat} {K:AK} {dfs:cD} {id n0 n:Nat} {env0 env:Env} {h0 h:aO} {es:List Eat} {m:Nat} {rest:Dp} {o:Oper} {v:AV}
theorem fC {Δ hr : aO} {n' : Nat} {T : Dr} {c : Wr} (hg : guardA l.toArray env o true) (hn : n <= n') (hsub : ∀ id o, lk hr id = some o -> lk h id = some o /\ id ∈ T) (hT : ∀ p ∈ Δ, p.1 ∈ T) (hc : cW3 c) (hcT : ∀ k x, c = some (k, x) -> k ∈ T /\ k < n) (hA : bY P o (evT (o.looksAt l.toArray) env) hr v Δ c n n') (hcov : ∀ id, n <= id -> id < n' -> (lk Δ id).isSome = true) (hkeys : ∀ p ∈ Δ, n <= p.1 /\ p.1 < n')
    (next : bX P l sz K dfs id n0 env0 h0 (es ++ [(T, c)]) m rest n' (gJ env o.dst v) (wrH c (Δ ++ h))) : bX P l sz K dfs id n0 env0 h0 es (m + 1) (o :: rest) n env h := by
  intro pre vs ns G hl hch
  have hch' := hch.congrG (fun id => if id < n then G id else lk Δ id) (fun id hid => by rw [Ak hid])
  obtain ⟨vs', ns', hch2⟩ := hch'.snoc (.inl ⟨hg, hn, hsub, hT, hc, hcT, hA, hcov, hkeys⟩) (fun id k1 k2 => by rw [Aj aA])
  exact next (pre ++ [o]) vs' ns' _ fY hch2
theorem cI3 (hm:P.follows .mixedOrders=true) (hB:tW l (l.length-rest.length)=true) (hE:dA7 (l.take (l.length-rest.length)) es=true) (hsz:vW (l.take (l.length-rest.length)) sz=true) (hk0:aJ2 h0 n0=true) (next:AWL P l.toArray sz rest K n env h dfs):bX P l sz K dfs id n0 env0 h0 es 0 rest n env h:=by
 intro pre vs ns G hl hc
 have hlen:l.length-rest.length=pre.length:=by rw [<- hl];simp
 rw [hlen] at hB hsz hE
 have ht:l.take pre.length=pre:=by rw [<- hl];simp
 have hd:l.drop pre.length=rest:=by rw [<- hl];simp
 exact cC0 pre.length hm hB hE hsz hk0 (by rw [ht];exact hc) (by rw [hd];exact next)
theorem eQ0 {l:D1} {size:Nat} (h:l.length=size):[l].all (fun l=>Nat.beq l.length size)=true:=by subst h;simp [BP]
def mP (fs:Dr) (all:Dp):Dp->Nat
 | []=>0
 | o::r=>match o.op with
  | .assign _=>match o.dst with
   | some t=>match cQ6 all t with|true=>0|false=>mP fs all r+1
   | none=>0
  | .call ⟨.value (.func f),_,_⟩=>match sO fs f with|true=>0|false=>mP fs all r+1
  | .call ⟨.value (.tmp _),_,_⟩=>0
  | .call ⟨.builtin .append,_,_⟩=>mP fs all r+1
  | .store _ _ _=>mP fs all r+1
  | op=>match aS1 op with|true=>0|false=>mP fs all r+1
theorem bW (fs:Dr) (hx:bX P l sz K dfs id n0 env0 h0 [] (mP fs l l) l n0 env0 h0):AW P sz (.region id l.toArray true) K n0 env0 h0 dfs:=hx [] [] [n0] _ rfl (.nil (G:=lk h0) fun _ _=>rfl)
end
section
variable {P:Dv} {sz n n0 i m t:Nat} {K:AK} {env env0:Env} {h h0 hr:aO} {es:List Eat} {ids:Dr} {dfs:cD} {rest l:Dp} {d:Dt} {op:Op} {ty:Du} {pos:String} {aft:Ds} {gd:Dn}
theorem lA {x:Operand} (hh:bX P l sz K dfs i n0 env0 h0 es m (⟨d,.move x,ty,pos,aft,gd⟩::rest) n env h):bX P l sz K dfs i n0 env0 h0 es m (⟨d,.move x,ty,pos,aft,gd⟩::rest) n env h:=hh
theorem iZ {T:Du} (hh:bX P l sz K dfs i n0 env0 h0 es m (⟨d,.alloc T,ty,pos,aft,gd⟩::rest) n env h):bX P l sz K dfs i n0 env0 h0 es m (⟨d,.alloc T,ty,pos,aft,gd⟩::rest) n env h:=hh
theorem aC4 {T:Du} {k:Nat} {ps:Array (Nat × Operand)} (hh:bX P l sz K dfs i n0 env0 h0 es m (⟨d,.buildSlice T k ps,ty,pos,aft,gd⟩::rest) n env h):bX P l sz K dfs i n0 env0 h0 es m (⟨d,.buildSlice T k ps,ty,pos,aft,gd⟩::rest) n env h:=hh
theorem sC {T:Du} {x y:Operand} (hh:bX P l sz K dfs i n0 env0 h0 es m (⟨d,.store T x y,ty,pos,aft,gd⟩::rest) n env h):bX P l sz K dfs i n0 env0 h0 es m (⟨d,.store T x y,ty,pos,aft,gd⟩::rest) n env h:=hh
theorem uK {x:Operand} (hh:bX P l sz K dfs i n0 env0 h0 es m (⟨d,.nilCheck x,ty,pos,aft,gd⟩::rest) n env h):bX P l sz K dfs i n0 env0 h0 es m (⟨d,.nilCheck x,ty,pos,aft,gd⟩::rest) n env h:=hh
theorem rA {T:Du} {x:Operand} {k:Nat} (hh:bX P l sz K dfs i n0 env0 h0 es m (⟨d,.fieldAddr T x k,ty,pos,aft,gd⟩::rest) n env h):bX P l sz K dfs i n0 env0 h0 es m (⟨d,.fieldAddr T x k,ty,pos,aft,gd⟩::rest) n env h:=hh
theorem dZ1 {b:Builtin} {xs:Array Operand} {ts:Dx} (hh:bX P l sz K dfs i n0 env0 h0 es m (⟨d,.call ⟨.builtin b,xs,ts⟩,ty,pos,aft,gd⟩::rest) n env h):bX P l sz K dfs i n0 env0 h0 es m (⟨d,.call ⟨.builtin b,xs,ts⟩,ty,pos,aft,gd⟩::rest) n env h:=hh
theorem bL {f:FuncId} {xs:Array Operand} {ts:Dx} (hh:bX P l sz K dfs i n0 env0 h0 es m (⟨d,.call ⟨.value (.func f),xs,ts⟩,ty,pos,aft,gd⟩::rest) n env h):bX P l sz K dfs i n0 env0 h0 es m (⟨d,.call ⟨.value (.func f),xs,ts⟩,ty,pos,aft,gd⟩::rest) n env h:=hh
theorem cZ {k:Nat} {o:Oper} (hh:Drw P l sz K dfs i n0 env0 h0 k (o::rest) n env h):Drw P l sz K dfs i n0 env0 h0 k (o::rest) n env h:=hh
theorem bF9 {k:Nat} {g:Nat × Bool} (hh:Drw P l sz K dfs i n0 env0 h0 k (⟨d,op,ty,pos,aft,some g⟩::rest) n env h):Drw P l sz K dfs i n0 env0 h0 k (⟨d,op,ty,pos,aft,some g⟩::rest) n env h:=hh
theorem iR {k:Nat} {o:Oper} (hh:bX P l sz K dfs i n0 env0 h0 es k (o::rest) n env h):bX P l sz K dfs i n0 env0 h0 es k (o::rest) n env h:=hh
section
variable (hg:guardA l.toArray env ⟨some t,op,ty,pos,aft,gd⟩ true) (hi:uF env (Oper.looksAt l.toArray ⟨some t,op,ty,pos,aft,gd⟩)=some ids) (hf:jY ids h=some hr)
include hg hi hf
theorem eV8 (hh:∃v,Still P ⟨some t,op,ty,pos,aft,gd⟩ (evT (Oper.looksAt l.toArray ⟨some t,op,ty,pos,aft,gd⟩) env) hr v/\bX P l sz K dfs i n0 env0 h0 (es++[(ids,none)]) m rest n ((t,v)::env) h):bX P l sz K dfs i n0 env0 h0 es (m+1) (⟨some t,op,ty,pos,aft,gd⟩::rest) n env h :=
 let ⟨_,h1,h2⟩:=hh;fC hg (Ah _) (dL hf) aU (c:=none) trivial (fun k x e=>by cases e) h1.adds.est (fun id h1 h2=>by omega) aU h2
theorem eV5 (hh:∃v,Adds P ⟨some t,op,ty,pos,aft,gd⟩ (evT (Oper.looksAt l.toArray ⟨some t,op,ty,pos,aft,gd⟩) env) hr v [] n n/\bX P l sz K dfs i n0 env0 h0 (es++[(ids,none)]) m rest n ((t,v)::env) h):bX P l sz K dfs i n0 env0 h0 es (m+1) (⟨some t,op,ty,pos,aft,gd⟩::rest) n env h :=
 let ⟨_,h1,h2⟩:=hh;fC hg (Ah _) (dL hf) aU (c:=none) trivial (fun k x e=>by cases e) h1.est (fun id h1 h2=>by omega) aU h2
theorem cA8 (hh:∃v obj,obj.live=some obj/\Adds P ⟨some t,op,ty,pos,aft,gd⟩ (evT (Oper.looksAt l.toArray ⟨some t,op,ty,pos,aft,gd⟩) env) hr v [(n,obj)] n (n+1)/\bX P l sz K dfs i n0 env0 h0 (es++[(n::ids,none)]) m rest (n+1) ((t,v)::env) ((n,obj)::h)):bX P l sz K dfs i n0 env0 h0 es (m+1) (⟨some t,op,ty,pos,aft,gd⟩::rest) n env h :=
 let ⟨_,_,hlv,h1,h2⟩:=hh;fC hg (BI _) (fun id o ho=>let ⟨a,b⟩:=dL hf id o ho;⟨a,by simp [b]⟩) aU (c:=none) trivial (fun k x e=>by cases e) h1.est (fun id h1 h2=>by
  obtain rfl:id=n:=by omega
  rw [cA,Ak rfl,hlv];rfl) aU h2
end
variable {f:FuncId} {xs:Dy} {ats:Dx}
theorem eX1 (hg : guardA l.toArray env ⟨some t, .call ⟨.value (.func f), xs.toArray, ats⟩, ty, pos, aft, gd⟩ true)
    (hh : jN P f xs (evT (Oper.looksAt l.toArray ⟨some t, .call ⟨.value (.func f), xs.toArray, ats⟩, ty, pos, aft, gd⟩) env) (fun r => bX P l sz K dfs i n0 env0 h0 (es ++ [([], none)]) m rest n ((t, r) :: env) h) (fun k size T rc => bX P l sz K dfs i n0 env0 h0 (es ++ [([n], none)]) m rest (n + 1) ((t, .own n 0 k size true) :: env) ((n, .row T rc) :: h))) : bX P l sz K dfs i n0 env0 h0 es (m + 1) (⟨some t, .call ⟨.value (.func f), xs.toArray, ats⟩, ty, pos, aft, gd⟩ :: rest) n env h := by
  obtain ⟨cs, cs', h1, h2, h3, ⟨r, h4, h5, h6⟩ | ⟨k, size, T, rc, h4, h5⟩⟩ := hh
  · have hA := fG (i := n) (h := []) (d := some t) (ty := ty) (pos := pos) (aft := aft) (gd := gd) (ats := ats) h1 h2 h4 h3 rfl
    rw [AV.sh_noId _ _ h5] at hA
    exact fC hg (Ah _) (fun id o ho => by cases ho) (by simp [shH]) (c := none) trivial (fun k x e => by cases e) hA.est (fun id h1 h2 => by omega) (by simp [shH]) h6
  · have hA := fG (i := n) (h := []) (d := some t) (ty := ty) (pos := pos) (aft := aft) (gd := gd) (ats := ats) h1 h2 h4 h3 rfl
    exact fC hg (BI _) (fun id o ho => by cases ho) (by simp [shH]) (c := none) trivial (fun k x e => by cases e) hA.est (fun id h1 h2 => by
      obtain rfl : id = n := by omega
      simp [shH, cA, AObj.live, AObj.sh]) (by simp [shH]) h5
variable {tab:Tab} {T:Du} {x y:Operand}
theorem aV3 (tb : bQ P tab) {e e' : TyE} {E size m' k id : Nat} {vy : AV} {cs ys : D1} (hg : guardA l.toArray env ⟨some t, .call ⟨.builtin .append, #[x, y], #[T, T]⟩, ty, pos, aft, gd⟩ true) (hi : uF env (Oper.looksAt l.toArray ⟨some t, .call ⟨.builtin .append, #[x, y], #[T, T]⟩, ty, pos, aft, gd⟩) = some ids) (hfl : jY ids h = some hr) (hT : aS tab T = some e) (hk : e.kind = .slice E) (hE : aS tab E = some e') (hs : Nat.beq e'.size size = true) (hz : Nat.beq e'.zero.length size = true)
    (hx : evT (Oper.looksAt l.toArray ⟨some t, .call ⟨.builtin .append, #[x, y], #[T, T]⟩, ty, pos, aft, gd⟩) env x = some (.own id 0 m' size true)) (ho : lk hr id = some (.row E cs)) (hcl : cs.length = m' * size) (hy : evT (Oper.looksAt l.toArray ⟨some t, .call ⟨.builtin .append, #[x, y], #[T, T]⟩, ty, pos, aft, gd⟩) env y = some vy) (hf : Src hr vy size k ys) (h63 : m' + k <= maxLen) (hb : (m' + k) * e'.bytes <= 140737488355328)
    (hin : Nat.blt id n = true) (next : bX P l sz K dfs i n0 env0 h0 (es ++ [(n :: ids, some (id, none))]) m rest (n + 1) ((t, .own n 0 (m' + k) size true) :: env) ((id, .dead) :: (n, .row E (cs ++ ys)) :: h)) : bX P l sz K dfs i n0 env0 h0 es (m + 1) (⟨some t, .call ⟨.builtin .append, #[x, y], #[T, T]⟩, ty, pos, aft, gd⟩ :: rest) n env h :=
  fC hg (BI _) (fun id o ho => let ⟨a, b⟩ := dL hfl id o ho; ⟨a, by simp [b]⟩) aU (c := some (_, none)) trivial (fun k x e => by
    injection e with e; injection e with e1 e2; subst e1
    exact ⟨by simp [(dL hfl _ _ ho).2], by simpa [AJ] using hin⟩) (cI7 tb hT hk hE hs hz hx ho hcl hy hf h63 hb) (fun id h1 h2 => by
    obtain rfl : id = n := by omega
    rw [cA, Ak rfl]; rfl) aU next
section
variable (tb : bQ P tab) {e : TyE} (hg : guardA l.toArray env ⟨none, .store T x y, ty, pos, aft, gd⟩ true) (hi : uF env (Oper.looksAt l.toArray ⟨none, .store T x y, ty, pos, aft, gd⟩) = some ids) (hfl : jY ids h = some hr) (hT : aS tab T = some e)
include tb e hg hi hfl hT
theorem cI1 (hk : Nat.beq e.size 1 = true) {id off : Nat} {T' : Du} {cs cs' : D2} {v : AV} (hx : evT (Oper.looksAt l.toArray ⟨none, .store T x y, ty, pos, aft, gd⟩) env x = some (.ref id off)) (hy : evT (Oper.looksAt l.toArray ⟨none, .store T x y, ty, pos, aft, gd⟩) env y = some v) (h1 : v.one = true) (ho : lk hr id = some (.blk T' cs)) (hs : bJ0 cs off v = some cs') (hin : Nat.blt id n = true)
    (next : bX P l sz K dfs i n0 env0 h0 (es ++ [(ids, some (id, some (.blk T' cs')))]) m rest n env ((id, .blk T' cs') :: h)) : bX P l sz K dfs i n0 env0 h0 es (m + 1) (⟨none, .store T x y, ty, pos, aft, gd⟩ :: rest) n env h :=
  fC (v := .junk) (Δ := []) hg (Ah _) (dL hfl) aU (c := some (id, some (.blk T' cs'))) rfl (fun k x e => by
    injection e with e; injection e with e1 e2; subst e1
    exact ⟨(dL hfl _ _ ho).2, by simpa [AJ] using hin⟩) (by rw [<- (pP hs).1]; exact cJ7 tb hT hk hx hy h1 ho (pP hs).2) (fun id h1 h2 => by omega) aU next
theorem bE5 (hk : Nat.beq e.size 1 = true) {id off : Nat} {T' : Du} {cs : D1} {v : CV} (hx : evT (Oper.looksAt l.toArray ⟨none, .store T x y, ty, pos, aft, gd⟩) env x = some (.ref id off)) (hy : evT (Oper.looksAt l.toArray ⟨none, .store T x y, ty, pos, aft, gd⟩) env y = some (.c v)) (h1 : v.one = true) (ho : lk hr id = some (.row T' cs)) (hfit : off < cs.length) (hin : Nat.blt id n = true)
    (next : bX P l sz K dfs i n0 env0 h0 (es ++ [(ids, some (id, some (.row T' (cs.set off v))))]) m rest n env ((id, .row T' (cs.set off v)) :: h)) : bX P l sz K dfs i n0 env0 h0 es (m + 1) (⟨none, .store T x y, ty, pos, aft, gd⟩ :: rest) n env h :=
  fC (v := .junk) (Δ := []) hg (Ah _) (dL hfl) aU (c := some (id, some (.row T' (cs.set off v)))) rfl (fun k x e => by
    injection e with e; injection e with e1 e2; subst e1
    exact ⟨(dL hfl _ _ ho).2, by simpa [AJ] using hin⟩) (bV1 tb hT hk hx hy h1 ho hfit) (fun id h1 h2 => by omega) aU next
theorem aV4 {id off : Nat} {T' : Du}{cs xs cs' : D2} {v : AV} (hx : evT (Oper.looksAt l.toArray ⟨none, .store T x y, ty, pos, aft, gd⟩) env x = some (.ref id off)) (hy : evT (Oper.looksAt l.toArray ⟨none, .store T x y, ty, pos, aft, gd⟩) env y = some v) (hp : Parts v xs) (hl : xs.length = e.size) (h1 : xs.all AV.one = true) (ho : lk hr id = some (.blk T' cs)) (hfit : off + xs.length <= cs.length) (hcs : lay cs off xs = cs') (hin : Nat.blt id n = true)
    (next : bX P l sz K dfs i n0 env0 h0 (es ++ [(ids, some (id, some (.blk T' cs')))]) m rest n env ((id, .blk T' cs') :: h)) : bX P l sz K dfs i n0 env0 h0 es (m + 1) (⟨none, .store T x y, ty, pos, aft, gd⟩ :: rest) n env h :=
  fC (v := .junk) (Δ := []) hg (Ah _) (dL hfl) aU (c := some (id, some (.blk T' cs'))) rfl (fun k x e => by
    injection e with e; injection e with e1 e2; subst e1
    exact ⟨(dL hfl _ _ ho).2, by simpa [AJ] using hin⟩) (cJ8 tb hT hx hy hp hl h1 ho hfit hcs) (fun id h1 h2 => by omega) aU next
theorem vS {id off : Nat} {T' : Du}{cs xs cs' : D1} (hx : evT (Oper.looksAt l.toArray ⟨none, .store T x y, ty, pos, aft, gd⟩) env x = some (.ref id off)) (hy : evT (Oper.looksAt l.toArray ⟨none, .store T x y, ty, pos, aft, gd⟩) env y = some (.c (.agg xs))) (hl : xs.length = e.size) (ho : lk hr id = some (.row T' cs)) (hfit : off + xs.length <= cs.length) (hcs : lay cs off xs = cs') (hin : Nat.blt id n = true)
    (next : bX P l sz K dfs i n0 env0 h0 (es ++ [(ids, some (id, some (.row T' cs')))]) m rest n env ((id, .row T' cs') :: h)) : bX P l sz K dfs i n0 env0 h0 es (m + 1) (⟨none, .store T x y, ty, pos, aft, gd⟩ :: rest) n env h :=
  fC (v := .junk) (Δ := []) hg (Ah _) (dL hfl) aU (c := some (id, some (.row T' cs'))) rfl (fun k x e => by
    injection e with e; injection e with e1 e2; subst e1
    exact ⟨(dL hfl _ _ ho).2, by simpa [AJ] using hin⟩) (bV2 tb hT hx hy hl ho hfit hcs) (fun id h1 h2 => by omega) aU next
end
end
end
section
def okg (ok:Nat->Prop) (w:World) (g:Nat) (b:Nat):Prop:=(ok b\/w.heap.size<=b)/\b≠g
def ACT (P:Dv) (f:FuncId) (T:Du) (c0 args c1:D1) (r:CV):Prop :=
 ∀(ok:Nat->Prop) (w:World) (g:Nat) (us0 vs:Do),¬ok g->w.heap[g]? = some (.cells us0.toArray T (0,0))->RepCs ok w c0 us0->RepCs ok w args vs ->
  Calls P f (Value.pointer (some ⟨g,0,none⟩)::vs).toArray w fun e w'=>∃v us1,e = .returned v/\FrB w [g] w'/\w'.heap[g]? = some (.cells us1.toArray T (0,0))/\RepCs (okg ok w g) w' c1 us1/\RepC (okg ok w g) w' r v
theorem ACT.eq {P:Dv} {f:FuncId} {T:Du} {c0 args c1 c1':D1} {r r':CV} (h:ACT P f T c0 args c1 r) (h1:c1=c1') (h2:r=r'):ACT P f T c0 args c1' r':=h1▸h2▸h
section call
variable {P:Dv} {ev:Evl} {h:aO} {d:Dt} {ty:Du} {pos:String} {aft:Ds} {gd:Dn} {i:Nat} {f:FuncId} {x0:Operand} {xs:Dy} {ats:Dx} {T:Du} {c0 c1 cs cs':D1} {a0:D2} {r:CV} {id:Nat}
theorem bN7 (hac : ACT P f T c0 cs' c1 r) (hb : Body P f) (hx0 : ev x0 = some (.ref id 0)) (ho : lk h id = some (.blk T a0)) (ha0 : a0 = c0.map AV.c) (hx : eX ev xs = some cs) (hcv : CvL cs cs') (hl : c1.length = c0.length) :
    bY P ⟨d, .call ⟨.value (.func f), (x0 :: xs).toArray, ats⟩, ty, pos, aft, gd⟩ ev h (.c r) [] (some (id, some (.blk T (c1.map AV.c)))) i i := by
  subst ha0
  intro B dom M H w a K Q hh hn hc he hK
  have hargs : RepCs (bF B dom M H) w cs (xs.map a.eval) := RepL.toC (C := ⟨dom, M, bF B dom M H, w⟩) (gD he tV)
  have hp := he x0 _ hx0
  simp only [Rep] at hp
  obtain ⟨hid, g, hM, hp⟩ := hp
  obtain ⟨us0, hb0, hus0⟩ := iL hh hc ho hid hM
  have hng : ¬ bF B dom M H g := fun hk => hk.2 id _ hid (hh id _ ho hid) hM
  unfold Oper.wp execOp
  simp only [resolve, Deferred.ofValue, Act.eval, invoke, Sem.run_bind, Sem.run_pure, Result.andThen_ok, AZ, Bg, Body.run hb, Oper.upon]
  rw [show (#[] ++ (List.map a.eval (x0 :: xs)).toArray : D0) = (Value.pointer (some ⟨g, 0, none⟩) :: List.map a.eval xs).toArray by simp [hp]]
  refine (hac _ w g us0 _ hng hb0 (RepL.toC hus0) (hcv _ _ _ hargs)).mono ?_
  rintro e w' ⟨v, us1, rfl, hfr, hb1, hus1, hv⟩
  simp only
  have hgs := cC hb0
  have hg1 : (w'.putObj g (.cells us0.toArray T (0, 0))).heap[g]? = some (.cells us0.toArray T (0, 0)) := World.putObj_heap_same (cC hb1)
  have ho1 : ∀ k, k ≠ g -> (w'.putObj g (.cells us0.toArray T (0, 0))).heap[k]? = w'.heap[k]? := fun k hk => World.putObj_heap_other (fun e => hk e)
  generalize hw1 : w'.putObj g (.cells us0.toArray T (0, 0)) = w1 at hg1 ho1
  have hs1 : w1.heap.size = w'.heap.size := by rw [<- hw1]; simp [World.putObj]
  have hbl : Below w.heap.size w w1 := ⟨by rw [<- hw1]; exact hfr.os, by rw [<- hw1]; exact hfr.tape, by rw [<- hw1]; exact hfr.output, by rw [hs1]; exact hfr.size, fun k hk => by
    by_cases e : k = g
    · subst e; rw [hg1, hb0]
    · rw [ho1 k e]; exact hfr.block k hk (by simp [e])⟩
  have hgr := hc.grow hbl i i (M' := M) (fun id _ => rfl) (fun id h1 h2 => by omega) (fun id o h1 h2 => by omega) (fun id id' o o' g h1 h2 => by omega) (fun hext id o h1 h2 => by omega)
  rw [dY] at hgr
  obtain ⟨g1, g2⟩ := hgr
  have hmon : kW (okg (bF B dom M H) w g) (bF B dom M (ov (some (id, some (.blk T (c1.map AV.c)))) H)) w' w' := fun b hb hl => by
    refine ⟨⟨?_, fun k o hk hH he => ?_⟩, hl, rfl⟩
    · rcases hb.1 with h1 | h1
      · exact h1.1
      · exact aU6
    · by_cases e : k = id
      · subst e
        rw [hM] at he
        injection he with he
        exact hb.2 he.symm
      · rw [lE (fun x hx => e (congrArg Prod.fst (Option.some.inj hx)).symm)] at hH
        rcases hb.1 with h1 | h1
        · exact h1.2 k o hk hH he
        · have := (hc.obj k o hk hH).lt b he
          simp only at this
          omega
  obtain ⟨k1, k2⟩ := g1.turnE (o' := .blk T (c1.map AV.c)) (w' := w') hid (hh id _ ho hid) hM jQ jQ jQ hs1.symm (fun k hk => (ho1 k hk).symm)
    (by
      unfold World.shape?
      rw [hb1, hg1]
      have e1 := hus1.length
      have e2 := (RepL.toC hus0).length
      simp only [A1]
      rw [e1, e2, hl])
    (fun hext => ⟨g, us1, rfl, hb1, RepL.ofC (RepCs.mono hmon _ _ hus1)⟩)
  rw [dY] at hK
  exact cH0
end call
section
variable {P:Dv} {sz n:Nat} {env:Env} {h:aO} {dfs:cD} {K:AK} {ops:Dq} {rest:Dp} {o:Oper}
theorem lP {v : AV} {Δ : aO} {n' : Nat} {c : Wr} (hg : guardA ops env o true) (hd : iD o.dst sz = true) (hn : n <= n') (hcw : cW3 c) (hA : bY P o (evA env) h v Δ c n n') (hcov : ∀ id, n <= id -> id < n' -> (lk Δ id).isSome = true) (hkeys : ∀ p ∈ Δ, n <= p.1)
    (next : AWL P ops sz rest K n' (gJ env o.dst v) (wrH c (Δ ++ h)) dfs) : AWL P ops sz (o :: rest) K n env h dfs := by
  intro B a w hc
  obtain ⟨M, h1, h2, h3, h4⟩ := hc
  refine eO fun K' hK' => ?_
  rw [Ak (hg.wanted h3)]
  have e1 : ∀ id, id < n -> lk (Δ ++ h) id = lk h id := fun id hid => lB fun p hp e => by have := hkeys p hp; omega
  have e2 : ∀ id, n <= id -> id < n' -> lk (Δ ++ h) id = lk Δ id := fun id h5 h6 => by
    obtain ⟨o', ho'⟩ := AN.1 (hcov id h5 h6)
    rw [nF ho', ho']
  have eok : bF B (lt n) M (lk (Δ ++ h)) = bF B (lt n) M (lk h) := by
    funext b
    unfold bF
    simp only [BD]
    exact eF9
  have h1' : ConcH B (lt n) M (lk (Δ ++ h)) w := by
    refine ⟨h1.fr, fun id o hid hH => ?_, fun id id' o o' g k1 k2 k3 k4 => h1.inj id id' o o' g k1 k2 bM9 bM7, fun id o g k1 k2 => h1.lo id o g k1 bN0⟩
    rw [eok]
    exact h1.obj id o hid aI2
  refine hA B (lt n) M (lk (Δ ++ h)) w a K' (KC B sz K) (fun id o k1 k2 => by rw [e1 id k2]; exact k1) (fun id k1 k2 => ⟨by simp only [lt]; omega, e2 id k1 k2⟩) h1' (by rw [eok]; exact dN h3) ?_
  intro u w' M' hext hcc hv
  rw [aX3 hn] at hext hcc hv
  rw [eok] at hext
  have ew : ov c (lk (Δ ++ h)) = lk (wrH c (Δ ++ h)) := by funext id; rw [cW2 hcw]
  rw [ew] at hext hcc hv
  obtain ⟨p1, p2, p3⟩ := kV (h' := wrH c (Δ ++ h)) (M' := M') h2 h3 hext (fD hd) hv
  exact hK' _ _ (next B _ _ ⟨M', hcc, p1, p2, by rw [p3]; exact h4.ext hext⟩)
end
section call
variable {P:Dv} {sz n i n0 m:Nat} {env env0:Env} {h h0 hr:aO} {dfs:cD} {K:AK} {ops:Dq} {l rest:Dp} {d:Dt} {es:List Eat} {ids:Dr} {t:Nat} {ty:Du} {pos:String} {aft:Ds} {gd:Dn} {f:FuncId} {x0:Operand} {xs:Dy} {ats:Dx} {T:Du} {c0 c1 cs cs':D1} {a0 a1:D2} {r:CV} {id:Nat}
theorem aJ (hac : ACT P f T c0 cs' c1 r) (hg : guardA ops env ⟨d, .call ⟨.value (.func f), (x0 :: xs).toArray, ats⟩, ty, pos, aft, gd⟩ true) (hd : iD d sz = true) (hb : Body P f) (hx0 : evA env x0 = some (.ref id 0)) (ho : lk h id = some (.blk T a0)) (ha0 : a0 = c0.map AV.c) (hx : eX (evA env) xs = some cs) (hcv : CvL cs cs') (hl : c1.length = c0.length) (ha1 : a1 = c1.map AV.c)
    (next : AWL P ops sz rest K n (gJ env d (.c r)) ((id, .blk T a1) :: h) dfs) : AWL P ops sz (⟨d, .call ⟨.value (.func f), (x0 :: xs).toArray, ats⟩, ty, pos, aft, gd⟩ :: rest) K n env h dfs := by
  subst ha1
  exact lP (c := some (id, some (.blk T (c1.map AV.c)))) (Δ := []) hg hd (Ah _) rfl (bN7 hac hb hx0 ho ha0 hx hcv hl) (fun id h1 h2 => by omega) aU next
theorem hQ (hac : ACT P f T c0 cs' c1 r) (hg : guardA l.toArray env ⟨some t, .call ⟨.value (.func f), (x0 :: xs).toArray, ats⟩, ty, pos, aft, gd⟩ true) (hi : uF env (Oper.looksAt l.toArray ⟨some t, .call ⟨.value (.func f), (x0 :: xs).toArray, ats⟩, ty, pos, aft, gd⟩) = some ids) (hfl : jY ids h = some hr) (hb : Body P f)
    (hx0 : evT (Oper.looksAt l.toArray ⟨some t, .call ⟨.value (.func f), (x0 :: xs).toArray, ats⟩, ty, pos, aft, gd⟩) env x0 = some (.ref id 0)) (ho : lk hr id = some (.blk T a0)) (ha0 : a0 = c0.map AV.c) (hx : eX (evT (Oper.looksAt l.toArray ⟨some t, .call ⟨.value (.func f), (x0 :: xs).toArray, ats⟩, ty, pos, aft, gd⟩) env) xs = some cs) (hcv : CvL cs cs') (hl : c1.length = c0.length) (ha1 : a1 = c1.map AV.c) (hin : Nat.blt id n = true)
    (next : bX P l sz K dfs i n0 env0 h0 (es ++ [(ids, some (id, some (.blk T a1)))]) m rest n ((t, .c r) :: env) ((id, .blk T a1) :: h)) : bX P l sz K dfs i n0 env0 h0 es (m + 1) (⟨some t, .call ⟨.value (.func f), (x0 :: xs).toArray, ats⟩, ty, pos, aft, gd⟩ :: rest) n env h := by
  subst ha1
  exact fC (v := .c r) (Δ := []) hg (Ah _) (dL hfl) aU (c := some (id, some (.blk T (c1.map AV.c)))) rfl (fun k x e => by
    injection e with e; injection e with e1 e2; subst e1
    exact ⟨(dL hfl _ _ ho).2, by simpa [AJ] using hin⟩) (bN7 hac hb hx0 ho ha0 hx hcv hl) (fun id h1 h2 => by omega) aU next
end call
section enter
def eI (n:Nat) (h:aO) (v:AV) (T:Du) (c1:D1) (r:CV):Prop :=
 ∀(B:Bs) (g:Nat) (M:Nat->Dz) (w:World) (u:Value),B.G=[g]->M 0=some g->0<n->ConcH B (lt n) M (lk h) w->Rep (cx B n M h w) v u ->
  ∃us1,w.heap[g]? = some (.cells us1.toArray T (0,0))/\RepCs (okg B.ok0 B.w0 g) w c1 us1/\RepC (okg B.ok0 B.w0 g) w r u
theorem aQ0 {n:Nat} {h:aO} {v:AV} {T:Du} {a1:D2} {c1:D1} {r:CV} (hf:Frz [0] h v r) (ho:lk h 0=some (.blk T a1)) (ha1:a1=c1.map AV.c):eI n h v T c1 r:=by
 subst ha1
 intro B g M w u hG hM hn hc hu
 obtain ⟨us1,hb1,hus⟩:=iL (fun id o h _=>h) hc ho (show lt n 0 from hn) hM
 have h1:=hf B (lt n) M (lk h) w u (fun id o h _=>h) (fun k hk=>by
  obtain rfl:k=0:=by simpa using hk
  exact ⟨hn,_,ho⟩) hc hu
 refine ⟨us1,hb1,RepCs.mono (fun b hb hl=>⟨⟨?_,fun e=>?_⟩,hl,rfl⟩) _ _ (RepL.toC hus),RepC.mono (fun b hb hl=>⟨⟨?_,fun e=>?_⟩,hl,rfl⟩) _ _ h1⟩
 ·rcases hb.1 with k1|k1|k1
  ·exact .inl k1
  ·exact .inr k1
  ·rw [hG] at k1
   obtain rfl:b=g:=by simpa using k1
   exact absurd hM (hb.2 0 _ hn ho)
 ·subst e;exact absurd hM (hb.2 0 _ hn ho)
 ·rcases hb.1 with k1|k1|k1
  ·exact .inl k1
  ·exact .inr k1
  ·rw [hG] at k1
   obtain rfl:b=g:=by simpa using k1
   exact absurd hM (hb.2 0 aU)
 ·subst e;exact absurd hM (hb.2 0 aU)
def eP (P:Dv) (tab:Tab) (rs:List ResultVar) (T:Du) (c1:D1) (r:CV):AK :=
 fun e n env h dfs=>(e = .normal\/e = .ret)/\iJ P h dfs/\jH dfs=some [.ref 0 0]/\∃v,ResL tab env (gK h dfs) rs v/\eI n (gK h dfs) v T c1 r
theorem yP {P:Dv} {tab:Tab} {rs:List ResultVar} {T:Du} {c1:D1} {r:CV} {v:AV} {h h':aO} {n:Nat} {e:Exit} {env:Env} {dfs:cD} (he:e = .normal\/e = .ret) (hd:iJ P h dfs) (hm:jH dfs=some [.ref 0 0]) (hh:gK h dfs=h') (hv:ResL tab env h' rs v) (ho:eI n h' v T c1 r):eP P tab rs T c1 r e n env h dfs:=⟨he,hd,hm,v,hh▸hv,hh▸ho⟩
theorem aZ {P : Dv} {tab : Tab} (tb : bQ P tab) {f : FuncId} {fn : Func} {c : Code} {T : Du} {c0 args c1 : D1} {r : CV} {sz : Nat} (hf : P.funcs[f]? = some fn) (hb : fn.body = some c) (hsz : max fn.ntmps (args.length + 1) = sz)
    (hx : AW P sz c (eP P tab fn.results.toList T c1 r) 1 (xJ 0 (.ref 0 0 :: args.map AV.c)) [(0, .blk T (c0.map AV.c))] [(none, [.ref 0 0])]) : ACT P f T c0 args c1 r := by
  intro ok w g us0 vs hng hb0 hc0 hvs
  have hlen := hvs.length
  have hok : ∀ b, ok b -> bF ⟨w, [g], ok, [.pointer (some ⟨g, 0, none⟩)]⟩ (lt 1) (fun _ => some g) (lk [(0, .blk T (c0.map AV.c))]) b := fun b hk => ⟨.inl hk, fun id o hid hH he => by
    injection he with he; subst he; exact hng hk⟩
  have hall : RepL (cx ⟨w, [g], ok, [.pointer (some ⟨g, 0, none⟩)]⟩ 1 (fun _ => some g) [(0, .blk T (c0.map AV.c))] w) (.ref 0 0 :: args.map AV.c) (.pointer (some ⟨g, 0, none⟩) :: vs) :=
    ⟨_, _, rfl, ⟨Cm, g, rfl, rfl⟩, RepL.ofC (RepCs.mono (fun b hb hl => ⟨hok b hb, hl, rfl⟩) _ _ hvs)⟩
  have hcc : ConcH ⟨w, [g], ok, [.pointer (some ⟨g, 0, none⟩)]⟩ (lt 1) (fun _ => some g) (lk [(0, .blk T (c0.map AV.c))]) w := by
    refine ⟨FrB.refl _ _, fun id o hid hH => ?_, fun id id' o o' g' h1 h2 _ _ _ _ => by simp only [lt] at h1 h2; omega, fun id o g' _ _ he => .inr (by injection he with he; simp [he])⟩
    have hid : id < 1 := hid
    obtain rfl : id = 0 := by omega
    have : some (AObj.blk T (c0.map AV.c)) = some o := hH
    injection this with this
    subst this
    exact ⟨g, us0, rfl, hb0, RepL.ofC (RepCs.mono (fun b hb hl => ⟨hok b hb, hl, rfl⟩) _ _ hc0)⟩
  refine gW hf hb (wp_mono (kR (hx ⟨w, [g], ok, [.pointer (some ⟨g, 0, none⟩)]⟩ _ w ⟨fun _ => some g, hcc, ?_, ?_, ?_⟩)) ?_)
  · simp; omega
  · intro t av ht
    obtain ⟨h1, h2⟩ := lU ht
    rw [BB] at h2
    obtain ⟨u, hu, hru⟩ := hall.get h2
    have : ((Value.pointer (some ⟨g, 0, none⟩) :: vs).toArray ++ Array.replicate (fn.ntmps - (Value.pointer (some ⟨g, 0, none⟩) :: vs).toArray.size) undef).getD t undef = u := by
      have hlt := (Ag.1 hu).1
      rw [BE, By aA3]
      rw [BJ, hu]
      rfl
    rw [this]
    exact hru
  · exact ⟨⟨_, _, rfl, ⟨Cm, g, rfl, rfl⟩, rfl⟩, rfl⟩
  · intro e a w' hq
    obtain ⟨n, env, h, dfs, ⟨h1, h2, h3, v, h4, h5⟩, M, d1, d2, d3, d4⟩ := hq
    have : iX P fn a.tmps (fun e w' => ∃ v us1, e = .returned v /\ FrB w [g] w' /\ w'.heap[g]? = some (.cells us1.toArray T (0, 0)) /\ RepCs (okg ok w g) w' c1 us1 /\ RepC (okg ok w g) w' r v) a.defers w' := by
      refine fR h2 d1 d4 fun w2 g1 g2 => ?_
      obtain ⟨u, k1, k2⟩ := h4.run tb g1 (fun t av ht => Rep.ext g2 _ _ (d3 t av ht))
      have hfr := RepL.ext g2 _ _ (lV h3 d4)
      simp only [RepL, Rep] at hfr
      obtain ⟨u0, us', e1, ⟨hn, g', hM, e2⟩, _⟩ := hfr
      injection e1 with e1 e3
      rw [<- e1] at e2
      injection e2 with e2
      injection e2 with e2
      injection e2 with e2 e4
      subst e2
      obtain ⟨us1, p1, p2, p3⟩ := h5 _ g M w2 u rfl hM hn g1 k1
      exact ⟨u, k2, u, us1, rfl, g1.fr, p1, p2, p3⟩
    rcases h1 with rfl | rfl <;> exact this
end enter
end
section
section
variable {P:Dv} {tab:Tab} {ev:Evl} {h:aO} {d:Dt} {T S ty:Du} {x:Operand} {pos:String} {aft:Ds} {gd:Dn} {i:Nat}
end
section
variable {P:Dv} {tab:Tab} {sz n:Nat} {env:Env} {h:aO} {dfs:cD} {K:AK} {ops:Dq} {rest:Dp} {d:Dt} {T ty:Du} {x:Operand} {pos:String} {aft:Ds} {gd:Dn}
end
section
variable {P:Dv} {tab:Tab} {ev:Evl} {h:aO} {d:Dt} {T ty:Du} {x:Operand} {pos:String} {aft:Ds} {gd:Dn}
theorem xU {n c r m : Nat} {hi mx : Operand} {C : Cx} {a : Act} {w : World} (b : Bool) (he : ∀ x av, ev x = some av -> Rep C av (a.eval x)) (hhi : Bd ev n (some hi) r) (hmx : Bd ev n (some mx) m) (hrm : r <= m) (hmc : m <= c) :
    (Instr.sliceBounds b n c none (some (a.eval hi)) (some (a.eval mx))).run P w = .ok (0, r, m) w := by
  have h1 := hmx.run (P := P) (w := w) (y := c) he (if b then .slice3Acap else .slice3Alen) hmc
  have h2 := hhi.run (P := P) (w := w) (y := m) he .slice3B hrm
  simp only [Bh] at h1 h2
  unfold Instr.sliceBounds
  simp [h1, h2]
theorem bI9 {e e':TyE} {E n r m size id off:Nat} {hi mx:Operand} {full:Bool} (tb:bQ P tab) (hT:aS tab T=some e) (hk:e.kind = .slice E) (hE:aS tab E=some e') (hs:Nat.beq e'.size size=true) (hx:ev x=some (.own id off n size full)) (hhi:Bd ev n (some hi) r) (hmx:Bd ev n (some mx) m) (hrm:r<=m) (hmn:m<=n):Still P ⟨d,.slice T x none (some hi) (some mx),ty,pos,aft,gd⟩ ev h (.own id off r size false):=by
 intro B dom M H w a hh hc he
 have h1:=he x _ hx
 have hsz:=(aM tb hE).sizeOf w
 rw [Ae hs] at hsz
 have hund:=(aM tb hT).slice hk
 simp only [Rep] at h1
 obtain ⟨hd,h1⟩:=h1
 have key:∀A c,a.eval x = .slice A n c->n<=c->(execOp a.eval ⟨d,.slice T x none (some hi) (some mx),ty,pos,aft,gd⟩).run P w = .ok (.value (.slice A r m)) w:=fun A c h3 h4=>by
  have hb:=xU (P:=P) (w:=w) (c:=c) true he hhi hmx hrm aA
  simp [execOp,Instr.sliceAt,Instr.slice,h3,Sem.run_bind,run_underlying hund,hb,hsz]
  cases A with
  | none=>simp
  | some p=>simp [Addr.add]
 rcases h1 with ⟨h1,h2,h3,h4⟩|⟨g,cp,h1,h2,h3,h4,h5⟩|⟨h1,h2,A,cp,h3,h4⟩
 ·obtain rfl:r=0:=by omega
  exact ⟨_,key none 0 (by rw [h4,h1]) aA,hd,.inr (.inr ⟨rfl,rfl,none,m,rfl,by simp [maxLen];omega⟩)⟩
 ·exact ⟨_,key _ cp h2 h3,hd,.inr (.inl ⟨g,m,h1,rfl,hrm,by omega,by simp⟩)⟩
 ·obtain rfl:r=0:=by omega
  exact ⟨_,key A cp (by rw [h3,h1]) aA,hd,.inr (.inr ⟨rfl,rfl,A,m,rfl,by omega⟩)⟩
end
theorem bT6 (m k:Nat):(m:Int)+(k:Int)=((m+k:Nat):Int):=by omega
theorem bT7 (m k:Nat):(m:Int)+(no_index (OfNat.ofNat k):Int)=((m+k:Nat):Int):=by
 show (m:Int)+(k:Int)=_
 omega
theorem bT9 {m k:Nat} (h:k<=m):(m:Int)-(k:Int)=((m-k:Nat):Int):=by omega
theorem bU0 {m k:Nat} (h:k<=m):(m:Int)-(no_index (OfNat.ofNat k):Int)=((m-k:Nat):Int):=by
 show (m:Int)-(k:Int)=_
 omega
theorem uL {α:Type} (cs ys:List α) (off:Nat):(lay cs off ys).length=min off cs.length+ys.length+(cs.length-(off+ys.length)):=by
 simp [lay];omega
theorem dE9 {z:Do} {a b:Dm} {m k:Nat} (hz:z.length=1) (ha:a.length=m) (hb:b.length=k):lay (lay (zc z (m+k)) 0 (u8c a)) (0+m*1) (u8c b)=u8c (a++b):=by
 have hl:(zc z (m+k)).length=m+k:=by rw [sN,hz,A8]
 have h1:(u8c a).length=m:=by rw [aH,ha]
 have h2:(u8c b).length=k:=by rw [aH,hb]
 generalize zc z (m+k)=Z at hl
 rw [bI]
 generalize u8c a=A at h1
 generalize u8c b=B at h2
 subst h1 h2
 simp [lay,Da,hl]
theorem cL5 {keep:Dr} {h:aO} {p:Prop} [Decidable p] (hp:p):Frz keep h (.c (.v (.bool (decide p)))) (.v (.bool true)):=by
 rw [AP hp];exact dU cR
theorem bV8 {keep:Dr} {h:aO} {p:Prop} [Decidable p] (hp:¬p):Frz keep h (.c (.v (.bool (decide p)))) (.v (.bool false)):=by
 rw [Bi hp];exact dU cR
theorem dD8 {keep:Dr} {h:aO} {k:Dw} {m n:Int} (hp:m=n):Frz keep h (.c (.v (.int k m))) (.v (.int k n)):=by
 subst hp;exact dU cR
def clo (ev:Evl):Evl:=fun x=>match ev x with|some (.c c)=>some (.c c)|_=>none
theorem cC8 {ev:Evl} {x:Operand} {av:AV} (h:clo ev x=some av):∃c,av = .c c/\ev x=some (.c c):=by
 unfold clo at h
 split at h
 ·rename_i c hc
  injection h with h
  exact ⟨c,h.symm,hc⟩
 ·cases h
theorem dP {P:Dv} {o:Oper} {ev:Evl} {h:aO} {i n size:Nat} {full:Bool} {E:Du} {cs:D1} (hA:Adds P o (clo ev) [] (.own 0 0 n size full) [(0,.row E cs)] 0 1) (hl:cs.length=n*size):Adds P o ev h (.c (.sl size n cs)) [] i i:=by
 intro B dom M H w a K Q hh _ hc he hK
 refine hA ⟨w,[],bF B dom M H,[]⟩ (lt 0) (fun _=>none) (lk [(0,.row E cs)]) w a K Q (fun id o hk=>by cases hk) (fun id h1 h2=>⟨by simp [lt],rfl⟩) (mF (FrB.refl _ _)) (fun x av hx=>?_) (fun u w' M' hext hc' hu=>?_)
 ·obtain ⟨c,rfl,hx'⟩:=cC8 hx
  have:=he x _ hx'
  simp only [Rep] at this ⊢
  exact RepC.mono (fun b hb hl=>⟨⟨.inl hb,fun id o hid=>absurd hid oX⟩,hl,rfl⟩) _ _ this
 ·have hb:Below w.heap.size w w':=hc'.fr.below
  have hg:=hc.grow hb i i (M':=M) (fun _ _=>rfl) (fun id h1 h2=>by omega) (fun id o h1 h2=>by omega) (fun id id' o o' g h1 h2=>by omega) (fun _ id o h1 h2=>by omega)
  have hnew:∀b,w.heap.size<=b->bF B dom M H b:=fun b hb=>⟨.inr (.inl (At hc.fr.size hb)),fun id o hid hH he'=>by
   have:=(hc.obj id o hid hH).lt b he'
   simp only at this
   omega⟩
  refine hK u w' M hg.2 hg.1 ?_
  rw [dY]
  have hd:ad (lt 0) 0 1 0 := .inr ⟨Ah _,Bk _⟩
  have hsub:∀b,bF ⟨w,[],bF B dom M H,[]⟩ (ad (lt 0) 0 1) M' (lk [(0,.row E cs)]) b->bF B dom M H b:=fun b hb=>by
   rcases hb.1 with h1|h1|h1
   ·exact h1
   ·exact hnew b h1
   ·cases h1
  have ho:=hc'.obj 0 _ hd rfl
  simp only [Rep] at hu
  obtain ⟨_,hu⟩:=hu
  rcases hu with ⟨h1,h2,h3,h4⟩|⟨g,cp,h1,h2,h3,h4,_⟩|⟨h1,h2,A,cp,h3,h4⟩
  ·subst h1
   have:cs=[]:=An fY
   subst this
   exact ⟨none,0,[],h4,Ah _,by simp [maxLen],by simp,by simp [RepCs],by simp,fun hn=>absurd hn aA⟩
  ·rcases ho with ⟨k1,_⟩|⟨k,us,vs,k1,k2,k3,k4⟩
   ·rw [h1] at k1;cases k1
   ·rw [h1] at k1
    injection k1 with k1
    subst k1
    have k2:w'.heap[g]? = some (.cells (us++vs).toArray E (0,0)):=k2
    have hlo:=hc'.lo 0 _ g hd rfl h1
    refine ⟨_,cp,us,h2,h3,h4,hl,RepCs.mono (fun b hb hl=>⟨hsub b hb,hl,rfl⟩) _ _ k3,k4,fun _=>⟨g,0,rfl,hnew g ?_,cC k2,fun j x hj=>?_⟩⟩
    ·rcases hlo with h5|h5
     ·exact h5
     ·cases h5
    ·rw [Aq];exact jE k2 hj
  ·subst h1
   have:cs=[]:=An fY
   subst this
   exact ⟨A,cp,[],h3,by omega,h4,by simp,by simp [RepCs],by simp,fun hn=>absurd hn aA⟩
end
end Go.Av
