/- Lemmas for laws of the ledger. -/
import Derived.Stop.BytesEq
import Derived.Lib.ConvBytes
import Derived.LoopN
import Derived.Test.YtbgehdndimlgkaaGreatS1
set_option linter.all false
namespace Go.Av
open Go Go.RowKit
section
def Out (n:Nat) (h:aO) (v r:AV) (hr:aO) (nr:Nat):Prop :=
 ∀(w0:World) (ok:Nat->Prop) (M:Nat->Dz) (w:World) (u:Value),ConcH ⟨w0,[],ok,[]⟩ (lt n) M (lk h) w->Rep (cx ⟨w0,[],ok,[]⟩ n M h w) v u ->
  ∃M',ConcH ⟨w0,[],ok,[]⟩ (lt nr) M' (lk hr) w/\Rep (cx ⟨w0,[],ok,[]⟩ nr M' hr w) r u
theorem mF {w0 w:World} {ok:Nat->Prop} {M:Nat->Dz} {H:Nat->Option AObj} (h:FrB w0 [] w):ConcH ⟨w0,[],ok,[]⟩ (lt 0) M H w :=
 ⟨h,fun id o hid=>absurd hid oX,fun id id' o o' g hid=>absurd hid oX,fun id o g hid=>absurd hid oX⟩
theorem aK0 {n:Nat} {h:aO} {v:AV} {x:CV} (hf:Frz [] h v x):Out n h v (.c x) [] 0:=by
 intro w0 ok M w u hc hu
 refine ⟨M,mF hc.fr,?_⟩
 have:=hf _ _ _ _ _ u (fun id o h _=>h) aU hc hu
 exact RepC.mono (fun b hb hl=>⟨⟨by simpa using hb.1,fun id o hid=>absurd hid oX⟩,hl,rfl⟩) _ _ this
theorem iM {n:Nat} {h:aO} {vs:D2} {xs:D1} (hf:aL5 [] h vs xs):Out n h (.tup vs) (.tup (xs.map AV.c)) [] 0:=by
 intro w0 ok M w u hc hu
 refine ⟨M,mF hc.fr,?_⟩
 simp only [Rep,cx] at hu
 obtain ⟨us,h1,h2⟩:=hu
 have:=hf _ _ _ _ _ us (fun id o h _=>h) aU hc h2
 exact ⟨us,h1,RepL.ofC (RepCs.mono (fun b hb hl=>⟨⟨by simpa using hb.1,fun id o hid=>absurd hid oX⟩,hl,rfl⟩) _ _ this)⟩
theorem bW3 {l:Dr} (hnd:l.Nodup) {i j:Nat} (hi:i<l.length) (hj:j<l.length) (he:l[i]=l[j]):i=j:=by
 rw [List.nodup_iff_pairwise_ne,Cc] at hnd
 rcases Nat.lt_trichotomy i j with h|h|h
 ·exact absurd he (hnd i j hi hj h)
 ·exact h
 ·exact absurd he.symm (hnd j i hj hi h)
def bJ9 (σ:Dr) (h hr:aO) (n:Nat):Prop:=∀i k,σ[i]? = some k->k<n/\∃T cs,lk h k=some (.row T cs)/\lk hr i=some (.row T cs)
def Ren (σ:Dr) (h:aO) (v r:AV):Prop :=
 ∀(w0:World) (ok:Nat->Prop) (n:Nat) (M:Nat->Dz) (w:World) (u:Value) (hr:aO),bJ9 σ h hr n->ConcH ⟨w0,[],ok,[]⟩ (lt n) M (lk h) w->Rep (cx ⟨w0,[],ok,[]⟩ n M h w) v u->Rep (cx ⟨w0,[],ok,[]⟩ σ.length (fun i=>(σ[i]?).bind M) hr w) r u
def cW9 (σ:Dr) (h:aO) (v r:D2):Prop :=
 ∀(w0:World) (ok:Nat->Prop) (n:Nat) (M:Nat->Dz) (w:World) (u:Do) (hr:aO),bJ9 σ h hr n->ConcH ⟨w0,[],ok,[]⟩ (lt n) M (lk h) w->RepL (cx ⟨w0,[],ok,[]⟩ n M h w) v u->RepL (cx ⟨w0,[],ok,[]⟩ σ.length (fun i=>(σ[i]?).bind M) hr w) r u
section ren
variable {σ:Dr} {h:aO}
theorem eN5 {v:AV} {x:CV} (hf:Frz σ h v x):Ren σ h v (.c x):=by
 intro w0 ok n M w u hr hk hc hu
 have:=hf _ _ _ _ _ u (fun id o h _=>h) (fun k hkm=>by
  obtain ⟨i,hi⟩:=List.mem_iff_getElem?.1 hkm
  obtain ⟨h1,T,cs,h2,_⟩:=hk i k hi
  exact ⟨h1,_,h2⟩) hc hu
 refine RepC.mono (fun b hb hl=>⟨⟨by simpa using hb.1,fun id o hid hH he=>?_⟩,hl,rfl⟩) _ _ this
 simp only at he
 cases hs:σ[id]? with
 | none=>rw [hs] at he;cases he
 | some k =>
  rw [hs] at he
  exact hb.2 k (Af hs) he
theorem bQ5 {i k off n size:Nat} {full:Bool} (hi:σ[i]? = some k):Ren σ h (.own k off n size full) (.own i off n size full):=by
 intro w0 ok n' M w u hr hk hc hu
 simp only [Rep,cx] at hu ⊢
 have hM:(σ[i]?).bind M=M k:=by rw [hi];rfl
 refine ⟨(Ag.1 hi).1,?_⟩
 rw [hM]
 exact hu.2
theorem cQ7:cW9 σ h [] []:=fun w0 ok n M w u hr hk hc hu=>by simpa [RepL] using hu
theorem aK4 {x y:AV} {xs ys:D2} (hx:Ren σ h x y) (hxs:cW9 σ h xs ys):cW9 σ h (x::xs) (y::ys):=by
 intro w0 ok n M w u hr hk hc hu
 simp only [RepL] at hu
 obtain ⟨a,l,h1,h2,h3⟩:=hu
 exact ⟨a,l,h1,hx w0 ok n M w a hr hk hc h2,hxs w0 ok n M w l hr hk hc h3⟩
theorem dH4 {xs ys:D2} (hx:cW9 σ h xs ys):Ren σ h (.agg xs) (.agg ys):=by
 intro w0 ok n M w u hr hk hc hu
 simp only [Rep] at hu
 obtain ⟨us,h1,h2⟩:=hu
 exact ⟨us,h1,hx w0 ok n M w us hr hk hc h2⟩
theorem bP1 {n:Nat} {v r:AV} {hr:aO} (hnd:σ.Nodup) (hk:bJ9 σ h hr n) (hren:Ren σ h v r):Out n h v r hr σ.length:=by
 intro w0 ok M w u hc hu
 refine ⟨fun i=>(σ[i]?).bind M,⟨hc.fr,fun id o hid hH=>?_,fun id id' o o' g k1 k2 k3 k4 k5 k6=>?_,fun id o g k1 k2 k3=>?_⟩,hren w0 ok n M w u hr hk hc hu⟩
 ·obtain ⟨k,hs⟩:∃k,σ[id]? = some k:=⟨σ[id],Ab hid⟩
  obtain ⟨h1,T,cs,h2,h3⟩:=hk id k hs
  rw [hH] at h3
  injection h3 with h3
  subst h3
  have:=hc.obj k _ h1 h2
  show ObjRep _ ((σ[id]?).bind M) _
  rw [hs]
  rcases this with k1|⟨g,us,vs,k1,k2,k3,k4⟩
  ·exact .inl k1
  ·refine .inr ⟨g,us,vs,k1,k2,RepCs.mono (fun b hb hl=>⟨⟨hb.1,fun id' o' hid' hH' he=>?_⟩,hl,rfl⟩) _ _ k3,k4⟩
   obtain ⟨k',hs'⟩:∃k,σ[id']? = some k:=⟨σ[id'],Ab hid'⟩
   obtain ⟨h1',T',cs',h2',h3'⟩:=hk id' k' hs'
   simp only [hs'] at he
   exact hb.2 k' _ h1' h2' he
 ·obtain ⟨k,hs⟩:∃k,σ[id]? = some k:=⟨σ[id],Ab k1⟩
  obtain ⟨k',hs'⟩:∃k,σ[id']? = some k:=⟨σ[id'],Ab k2⟩
  obtain ⟨h1,T,cs,h2,h3⟩:=hk id k hs
  obtain ⟨h1',T',cs',h2',h3'⟩:=hk id' k' hs'
  simp only [hs,hs'] at k5 k6
  have:=hc.inj k k' _ _ g h1 h1' h2 h2' k5 k6
  subst this
  have e1:=(Ag.1 hs)
  have e2:=(Ag.1 hs')
  exact bW3 hnd e1.1 e2.1 (e1.2.trans e2.2.symm)
 ·obtain ⟨k,hs⟩:∃k,σ[id]? = some k:=⟨σ[id],Ab k1⟩
  obtain ⟨h1,T,cs,h2,h3⟩:=hk id k hs
  simp only [hs] at k3
  exact hc.lo k _ g h1 h2 k3
theorem dT0 {k n:Nat} {T:Du} {cs:D1} (hk:Nat.blt k n=true) (h1:lk h k=some (.row T cs)):bJ9 [k] h [(0,.row T cs)] n:=by
 intro i j hi
 have:i=0:=by
  rcases BC i with h|h
  ·exact h
  ·rw [AO fU] at hi;cases hi
 subst this
 simp at hi
 subst hi
 exact ⟨by simpa using hk,T,cs,h1,rfl⟩
theorem dG1 {k n m size:Nat} {full:Bool} {T:Du} {cs:D1} (hk:Nat.blt k n=true) (h1:lk h k=some (.row T cs)):Out n h (.own k 0 m size full) (.own 0 0 m size full) [(0,.row T cs)] 1 :=
 bP1 (σ:=[k]) aU (dT0 hk h1) (bQ5 rfl)
end ren
def cQ (P:Dv) (tab:Tab) (rs:List ResultVar) (r:AV) (hr:aO) (nr:Nat):AK :=
 fun e n env h dfs=>(e = .normal\/e = .ret)/\iJ P h dfs/\∃v,ResL tab env (gK h dfs) rs v/\Out n (gK h dfs) v r hr nr
theorem cV {P:Dv} {tab:Tab} {rs:List ResultVar} {r v:AV} {hr h h':aO} {nr n:Nat} {e:Exit} {env:Env} {dfs:cD} (he:e = .normal\/e = .ret) (hd:iJ P h dfs) (hh:gK h dfs=h') (hv:ResL tab env h' rs v) (ho:Out n h' v r hr nr):cQ P tab rs r hr nr e n env h dfs:=⟨he,hd,v,hh▸hv,hh▸ho⟩
theorem bZ4 {w:World} {g:Nat} {o o':Obj} (h:w.heap[g]? = some o) (h1:o.isCells=false) (h2:o'.isCells=false):(w.putObj g o').shape? g=w.shape? g:=by
 unfold World.shape?
 rw [World.putObj_heap_same (cC h),h]
 have k1:∀c e z,o ≠ .cells c e z:=fun c e z hh=>by subst hh;exact absurd h1 (by simp [Obj.isCells])
 have k2:∀c e z,o' ≠ .cells c e z:=fun c e z hh=>by subst hh;exact absurd h2 (by simp [Obj.isCells])
 cases o<;>cases o'<;>first|rfl|exact absurd rfl (k1 _ _ _)|exact absurd rfl (k2 _ _ _)
theorem cV1 {B : Bs} {M : Nat -> Dz} {w : World} {n : Nat} {h : aO} (hc : ConcH B (lt n) M (lk h) w) {id g : Nat} {o o' : AObj} {q q' : Obj} (hlv : o'.live = some o') (hid : id < n) (ho : lk h id = some o) (hM : M id = some g) (hq : w.heap[g]? = some q) (h1 : q.isCells = false) (h2 : q'.isCells = false)
    (hob : Ext (cx B n M h w) (cx B n M ((id, o') :: h) (w.putObj g q')) -> ObjRep (cx B n M ((id, o') :: h) (w.putObj g q')) (some g) o') :
    ConcH B (lt n) M (lk ((id, o') :: h)) (w.putObj g q') /\ Ext (cx B n M h w) (cx B n M ((id, o') :: h) (w.putObj g q')) :=
  hc.turn hlv hid ho hM rfl rfl rfl (by simp [World.putObj]) (fun k hk => World.putObj_heap_other (fun e => hk e)) (bZ4 hq h1 h2) hob
theorem fR {P : Dv} {fn : Func} {tmps : D0} {R : Ending -> World -> Prop} {fr : Do} {B : Bs} {n : Nat} {M : Nat -> Dz} : ∀ {dfs : cD} {ds : List Deferred} {h : aO} {w : World}, iJ P h dfs -> ConcH B (lt n) M (lk h) w -> DefRep fr (cx B n M h w) dfs ds ->
    (∀ w', ConcH B (lt n) M (lk (gK h dfs)) w' -> Ext (cx B n M h w) (cx B n M (gK h dfs) w') -> ∃ v, (results fn tmps).run P w' = .ok v w' /\ R (.returned v) w') -> iX P fn tmps R ds w
  | [], ds, h, w, _, hc, hd, hr => by simp only [DefRep] at hd; subst hd; exact hr w hc (Ext.refl _)
  | (none, xs) :: r, ds, h, w, hi, hc, hd, hr => fR (dfs := r) hi hc hd.2 hr
  | (some f, caps) :: r, ds, h, w, hi, hc, hd, hr => by
    obtain ⟨us, ds', rfl, h2, h3⟩ := hd
    cases hf : Nat.beq f xB with
    | false =>
      simp only [iJ, hf] at hi
      obtain ⟨i1, i2, i3⟩ := hi
      simp only [gK, hf] at hr
      refine .inr ⟨.func f, us.toArray, f, us.toArray, by rw [aA8 hf], by rw [aA8 hf]; simp only [invoke]; rw [Body.run i2]; simp, (i1 us w h2.length).mono ?_⟩
      rintro e u' w' ⟨rfl, rfl, rfl⟩
      exact ⟨⟨_, rfl⟩, rfl, fR i3 hc h3 hr⟩
    | true =>
      simp only [iJ, hf] at hi
      simp only [gK, hf] at hr
      split at hi
      · rename_i caps' id off
        obtain ⟨i1, i3⟩ := hi
        simp only [RepL, Rep] at h2
        obtain ⟨u, us', rfl, ⟨hid, g, hM, rfl⟩, rfl⟩ := h2
        have hM : M id = some g := hM
        have ho := hc.obj id _ hid i1
        rw [hM] at ho
        obtain ⟨k, hk, hb⟩ := ho
        injection hk with hk
        subst hk
        have hb : w.heap[g]? = some (.deferred (some [])) := hb
        obtain ⟨t1, t2⟩ := cV1 hc (o' := .dfr false) (q' := .deferred none) rfl hid i1 hM hb rfl rfl (fun _ => ⟨g, rfl, World.putObj_heap_same (cC hb)⟩)
        exact .inl ⟨g, _, by simp only [bN5, hf, cE6], run_takeDeferred hb, fR i3 t1 (h3.ext t2) (fun w' k1 k2 => hr w' k1 (t2.trans k2))⟩
      · exact hi.elim
theorem aD {P : Dv} {tab : Tab} (tb : bQ P tab) {f : FuncId} {fn : Func} {c : Code} {args : D1} {r : AV} {hr : aO} {nr sz : Nat} (hf : P.funcs[f]? = some fn) (hb : fn.body = some c) (hsz : max fn.ntmps args.length = sz)
    (hx : AW P sz c (cQ P tab fn.results.toList r hr nr) 0 (aW1 0 args) [] []) : AC P f args r hr nr := by
  intro ok w vs hvs
  have hlen := hvs.length
  refine gW hf hb (wp_mono (kR (hx ⟨w, [], ok, []⟩ _ w ⟨fun _ => none, mF (FrB.refl _ _), ?_, ?_, ?_⟩)) ?_)
  · simp; omega
  · intro t av ht
    obtain ⟨c', h1, h2, rfl⟩ := vX ht
    rw [BB] at h2
    obtain ⟨u, hu, hru⟩ := hvs.get h2
    have : (vs.toArray ++ Array.replicate (fn.ntmps - vs.toArray.size) undef).getD t undef = u := by
      have hlt := (Ag.1 hu).1
      have h9 := (Ag.1 hu).2
      simp [Array.getElem?_append, hlt, h9]
    rw [this]
    simp only [Rep]
    exact eG2
  · rfl
  · intro e a w' hq
    obtain ⟨n, env, h, dfs, ⟨h1, h2, v, h3, h4⟩, M, c1, c2, c3, c4⟩ := hq
    have : iX P fn a.tmps (fun e w' => ∃ v M, e = .returned v /\ ConcH ⟨w, [], ok, []⟩ (lt nr) M (lk hr) w' /\ Rep (cx ⟨w, [], ok, []⟩ nr M hr w') r v) a.defers w' := by
      refine fR h2 c1 c4 fun w2 d1 d2 => ?_
      obtain ⟨u, k1, k2⟩ := h3.run tb d1 (fun t av ht => Rep.ext d2 _ _ (c3 t av ht))
      obtain ⟨M', k3, k4⟩ := h4 w ok M w2 u d1 k1
      exact ⟨u, k2, u, M', rfl, k3, k4⟩
    rcases h1 with rfl | rfl <;> exact this
theorem AC.args {P:Dv} {f:FuncId} {args args':D1} {r:AV} {hr:aO} {nr:Nat} (h:AC P f args r hr nr) (hc:CvL args' args):AC P f args' r hr nr:=fun ok w vs hvs=>h ok w vs (hc ok w vs hvs)
theorem AC.eq {P:Dv} {f:FuncId} {args:D1} {r r':AV} {hr hr':aO} {nr:Nat} (h:AC P f args r hr nr) (hc:r=r') (hh:hr=hr'):AC P f args r' hr' nr:=hc▸hh▸h
mutual
def AV.sh (k:Nat):AV->AV
 | .c x => .c x
 | .ip cs off => .ip cs off
 | .junk => .junk
 | .ref id off => .ref (k+id) off
 | .own id off n size full => .own (k+id) off n size full
 | .agg xs => .agg (AV.shs k xs)
 | .tup xs => .tup (AV.shs k xs)
 | .fn f xs => .fn f (AV.shs k xs)
 | .yld id => .yld (k+id)
 | .mh id => .mh (k+id)
 | .bm f id => .bm f (k+id)
def AV.shs (k:Nat):D2->D2
 | []=>[]
 | x::xs=>AV.sh k x::AV.shs k xs
end
structure Shf (k:Nat) (C C':Cx):Prop where
 dom:∀id,C.dom id->C'.dom (k+id)/\C'.M (k+id)=C.M id
 ok:kW C.ok C'.ok C.w C'.w
 shape:∀b x,C.w.shape? b=some x->C'.w.shape? b=some x
mutual
theorem Rep.sh {k:Nat} {C C':Cx} (h:Shf k C C'):∀(x:AV) (u:Value),Rep C x u->Rep C' (x.sh k) u
 | .c x,u,hu=>by simp only [Rep,AV.sh] at hu ⊢;exact RepC.mono h.ok x u hu
 | .ref id off,u,hu=>by
  simp only [Rep,AV.sh] at hu ⊢
  obtain ⟨hd,g,hg,hu⟩:=hu
  obtain ⟨k1,k2⟩:=h.dom id hd
  exact nX
 | .own id off n size full,u,hu=>by
  simp only [Rep,AV.sh] at hu ⊢
  obtain ⟨hd,hu⟩:=hu
  obtain ⟨k1,k2⟩:=h.dom id hd
  refine ⟨k1,?_⟩
  rcases hu with ⟨h1,h2,h3,h4⟩|⟨g,cp,h1,h2,h3,h4,h5⟩|h6
  ·exact cG9
  ·exact .inr (.inl ⟨g,cp,k2.trans h1,h2,h3,h4,fun hf=>let ⟨e,he⟩:=h5 hf;⟨e,h.shape _ _ he⟩⟩)
  ·exact .inr (.inr h6)
 | .ip cs off,u,hu=>by
  simp only [Rep,AV.sh] at hu ⊢
  obtain ⟨b,o,us,h1,h2,h3,h4,h6,h5⟩:=hu
  obtain ⟨k1,k2,k3⟩:=h.ok b h2 h3
  exact ⟨b,o,us,h1,k1,k2,RepCs.mono h.ok cs us h4,h6,fun j x hx=>by rw [World.cell?_of_block (w:=C.w) k3];exact h5 j x hx⟩
 | .agg xs,u,hu=>by
  simp only [Rep,AV.sh] at hu ⊢
  obtain ⟨us,h1,h2⟩:=hu
  exact ⟨us,h1,RepL.sh h xs us h2⟩
 | .tup xs,u,hu=>by
  simp only [Rep,AV.sh] at hu ⊢
  obtain ⟨us,h1,h2⟩:=hu
  exact ⟨us,h1,RepL.sh h xs us h2⟩
 | .fn f caps,u,hu=>by
  simp only [Rep,AV.sh] at hu ⊢
  obtain ⟨us,h1,h2⟩:=hu
  exact ⟨us,h1,RepL.sh h caps us h2⟩
 | .yld id,u,hu=>by
  simp only [Rep,AV.sh] at hu ⊢
  obtain ⟨hd,g,hg,hu⟩:=hu
  obtain ⟨k1,k2⟩:=h.dom id hd
  exact nX
 | .mh id,u,hu=>by
  simp only [Rep,AV.sh] at hu ⊢
  obtain ⟨hd,g,hg,hu⟩:=hu
  obtain ⟨k1,k2⟩:=h.dom id hd
  exact nX
 | .bm f id,u,hu=>by
  simp only [Rep,AV.sh] at hu ⊢
  obtain ⟨hd,g,hg,hu⟩:=hu
  obtain ⟨k1,k2⟩:=h.dom id hd
  exact nX
 | .junk,u,hu=>by simp only [Rep,AV.sh]
theorem RepL.sh {k:Nat} {C C':Cx} (h:Shf k C C'):∀(xs:D2) (us:Do),RepL C xs us->RepL C' (AV.shs k xs) us
 | [],us,hu=>by simpa [RepL,AV.shs] using hu
 | c::cs,us,hu=>by
  simp only [RepL,AV.shs] at hu ⊢
  obtain ⟨u,us',h1,h2,h3⟩:=hu
  exact ⟨u,us',h1,Rep.sh h c u h2,RepL.sh h cs us' h3⟩
end
theorem RepM.sh {k:Nat} {C C':Cx} (h:Shf k C C'):∀(es:List (CV × AV)) (ms:List MapEntry),RepM C es ms->RepM C' (es.map fun p=>(p.1,p.2.sh k)) ms
 | [],ms,hu=>hu
 | e::es,ms,hu=>by
  obtain ⟨m,ms',h1,h2,h3,h4⟩:=hu
  exact ⟨m,ms',h1,RepC.mono h.ok _ _ h2,Rep.sh h _ _ h3,RepM.sh h es ms' h4⟩
def AObj.sh (k:Nat):AObj->AObj
 | .blk T cs => .blk T (AV.shs k cs)
 | .row T cs => .row T cs
 | .lp b sz L sl xs => .lp b sz L sl (AV.shs k xs)
 | .dfr b => .dfr b
 | .tab es => .tab (es.map fun p=>(p.1,p.2.sh k))
 | .dead => .dead
def shH (k:Nat):aO->aO
 | []=>[]
 | p::r=>(k+p.1,p.2.sh k)::shH k r
theorem aF1 {k:Nat}:∀{h:aO} {id:Nat},lk (shH k h) (k+id)=(lk h id).map (AObj.sh k)
 | [],id=>rfl
 | p::r,id=>by
  obtain ⟨i,o⟩:=p
  rw [shH,cA,cA]
  by_cases hi:i=id
  ·subst hi;cases o<;>simp [AObj.sh,AObj.live]
  ·rw [Aj aA,Aj hi];exact aF1
theorem bB1 {k:Nat}:∀{h:aO},∀p∈shH k h,k<=p.1
 | [],p,hp=>by cases hp
 | q::r,p,hp=>by
  rw [shH] at hp
  rcases A6.1 hp with rfl|hp
  ·simp
  ·exact bB1 p hp
def aT7 (hr:aO) (nr:Nat):Bool:=hr.all (fun p=>Nat.blt p.1 nr)&&(List.range nr).all fun i=>(lk hr i).isSome
theorem bM1:∀{hr:aO} {nr id:Nat},hr.all (fun p=>Nat.blt p.1 nr)=true->(lk hr id).isSome=true->id<nr
 | [],nr,id,_,h=>by cases h
 | p::r,nr,id,ha,h=>by
  obtain ⟨i,o⟩:=p
  simp only [BA,Ar,AJ] at ha
  rw [cA] at h
  split at h
  ·rename_i e;subst e;exact ha.1
  ·exact bM1 (by simpa using ha.2) h
theorem rU {hr:aO} {nr:Nat} (h:aT7 hr nr=true) (id:Nat):id<nr↔(lk hr id).isSome=true:=by
 simp only [aT7,Ar] at h
 constructor
 ·intro hid
  exact Aw.1 h.2 id (AA.2 hid)
 ·exact bM1 h.1
section call
variable {P:Dv} {ev:Evl} {h:aO} {d:Dt} {ty:Du} {pos:String} {aft:Ds} {gd:Dn} {i:Nat} {f:FuncId} {xs:Dy} {ats:Dx} {r:AV} {hr:aO} {nr:Nat}
theorem fG {cs cs' : D1} (hb : Body P f) (hx : eX ev xs = some cs) (hac : AC P f cs' r hr nr) (hcv : CvL cs cs') (hcov : aT7 hr nr = true) :
    Adds P ⟨d, .call ⟨.value (.func f), xs.toArray, ats⟩, ty, pos, aft, gd⟩ ev h (r.sh i) (shH i hr) i (i + nr) := by
  intro B dom M H w a K Q hh hn hc he hK
  have hargs : RepCs (bF B dom M H) w cs (xs.map a.eval) := RepL.toC (C := ⟨dom, M, bF B dom M H, w⟩) (gD he tV)
  unfold Oper.wp execOp
  simp only [resolve, Deferred.ofValue, Act.eval, invoke, Sem.run_bind, Sem.run_pure, Result.andThen_ok, AZ, Bg, Body.run hb, Oper.upon]
  rw [show (#[] ++ (List.map a.eval xs).toArray : D0) = (List.map a.eval xs).toArray by simp]
  refine (hac _ w _ (hcv _ _ _ hargs)).mono ?_
  rintro e w' ⟨v, Mc, rfl, hcc, hv⟩
  simp only
  have hbl := hcc.fr.below
  let M' : Nat -> Dz := fun id => if i <= id /\ id < i + nr then Mc (id - i) else M id
  have hM1 : ∀ id, dom id -> M' id = M id := fun id hid => by
    have : ¬ (i <= id /\ id < i + nr) := fun h => (hn id h.1 h.2).1 hid
    simp [M', this]
  have hM2 : ∀ id, id < nr -> M' (i + id) = Mc id := fun id hid => by
    have : i <= i + id /\ i + id < i + nr := by omega
    simp [M', this]
  have hH : ∀ id, id < nr -> H (i + id) = (lk hr id).map (AObj.sh i) := fun id hid => by
    rw [(hn (i + id) aA aA).2, aF1]
  have hsplit : ∀ id, i <= id -> id < i + nr -> ∃ k, id = i + k /\ k < nr := fun id h1 h2 => ⟨id - i, by omega, by omega⟩
  have hobj : ∀ k, k < nr -> ∃ o, lk hr k = some o /\ H (i + k) = some (o.sh i) := fun k hk => by
    have := (rU hcov k).1 hk
    obtain ⟨o, ho⟩ := AN.1 this
    exact ⟨o, ho, by rw [hH k hk, ho]; rfl⟩
  have hnew : ∀ k g, k < nr -> Mc k = some g -> w.heap.size <= g := fun k g hk hg => by
    obtain ⟨o, ho, _⟩ := hobj k hk
    rcases hcc.lo k o g hk ho hg with h1 | h1
    · exact h1
    · cases h1
  have hshf : Ext ⟨dom, M, bF B dom M H, w⟩ ⟨ad dom i (i + nr), M', bF B (ad dom i (i + nr)) M' H, w'⟩ -> Shf i (cx ⟨w, [], bF B dom M H, []⟩ nr Mc hr w') ⟨ad dom i (i + nr), M', bF B (ad dom i (i + nr)) M' H, w'⟩ := fun hext => by
    refine ⟨fun id hid => ⟨.inr ⟨by omega, by simp only [cx, lt] at hid; omega⟩, hM2 id hid⟩, fun b hb hl => ⟨?_, hl, rfl⟩, fun _ _ h => h⟩
    obtain ⟨hb1, hb2⟩ := hb
    refine ⟨?_, fun id o hid hH' he' => ?_⟩
    · rcases hb1 with hb1 | hb1 | hb1
      · exact hb1.1
      · exact .inr (.inl (At hc.fr.size hb1))
      · cases hb1
    · rcases hid with hid | ⟨h1, h2⟩
      · have e1 := (hM1 id hid).symm.trans he'
        rcases hb1 with hb1 | hb1 | hb1
        · exact hb1.2 id o hid hH' e1
        · have := (hc.obj id o hid hH').lt b e1
          simp only at this hb1
          omega
        · cases hb1
      · obtain ⟨k, rfl, hk⟩ := hsplit id h1 h2
        obtain ⟨o', ho', _⟩ := hobj k hk
        exact hb2 k o' hk ho' ((hM2 k hk).symm.trans he')
  have hg := hc.grow hbl i (i + nr) (M' := M') hM1 (fun id h1 h2 => (hn id h1 h2).1)
    (fun id o h1 h2 h3 g hg => by
      obtain ⟨k, rfl, hk⟩ := hsplit id h1 h2
      exact hnew k g hk ((hM2 k hk).symm.trans hg))
    (fun id id' o o' g h1 h2 h3 h4 h5 h6 h7 h8 => by
      obtain ⟨k, rfl, hk⟩ := hsplit id h1 h2
      obtain ⟨k', rfl, hk'⟩ := hsplit id' h3 h4
      obtain ⟨q, hq, _⟩ := hobj k hk
      obtain ⟨q', hq', _⟩ := hobj k' hk'
      rw [hcc.inj k k' q q' g hk hk' hq hq' ((hM2 k hk).symm.trans h7) ((hM2 k' hk').symm.trans h8)])
    (fun hext id o h1 h2 h3 => by
      obtain ⟨k, rfl, hk⟩ := hsplit id h1 h2
      obtain ⟨q, hq, hq2⟩ := hobj k hk
      rw [hq2] at h3
      injection h3 with h3
      subst h3
      rw [hM2 k hk]
      have := hcc.obj k q hk hq
      cases q with
      | blk T cs =>
        obtain ⟨g, us, k1, k2, k3⟩ := this
        exact ⟨g, us, k1, k2, RepL.sh (hshf hext) _ _ k3⟩
      | row T cs =>
        rcases this with k1 | ⟨g, us, vs, k1, k2, k3, k4⟩
        · exact .inl k1
        · exact .inr ⟨g, us, vs, k1, k2, RepCs.mono (hshf hext).ok _ _ k3, k4⟩
      | lp b sz L sl xs =>
        obtain ⟨g, r, k1, h2, h3, h4, h5, h6, h7, h8, h9⟩ := this
        exact ⟨g, r, k1, h2, h3, h4, h5, h6, h7, h8, RepL.sh (hshf hext) _ _ h9⟩
      | dfr b => exact this
      | tab es =>
        obtain ⟨g, ms, t, k1, k2, k3⟩ := this
        exact ⟨g, ms, t, k1, k2, k3.1, RepM.sh (hshf hext) _ _ k3.2⟩
      | dead => exact this.elim)
  exact hK v w' M' hg.2 hg.1 (Rep.sh (hshf hg.2) _ _ hv)
end call
section
variable {P:Dv} {sz n:Nat} {env:Env} {h:aO} {dfs:cD} {K:AK} {ops:Dq} {rest:Dp} {d:Dt} {ty:Du} {pos:String} {aft:Ds} {gd:Dn} {f:FuncId} {xs:Dy} {ats:Dx} {r:AV} {hr:aO} {nr:Nat}
theorem qE {cs cs' : D1} (hg : guardA ops env ⟨d, .call ⟨.value (.func f), xs.toArray, ats⟩, ty, pos, aft, gd⟩ true) (hd : iD d sz = true) (hb : Body P f) (hx : eX (evA env) xs = some cs) (hac : AC P f cs' r hr nr) (hcv : CvL cs cs') (hcov : aT7 hr nr = true)
    (next : AWL P ops sz rest K (n + nr) (gJ env d (r.sh n)) (shH n hr ++ h) dfs) : AWL P ops sz (⟨d, .call ⟨.value (.func f), xs.toArray, ats⟩, ty, pos, aft, gd⟩ :: rest) K n env h dfs :=
  tQ hg hd (CG _ _) (fG hb hx hac hcv hcov) (fun id h1 h2 => by
    have := (rU hcov (id - n)).1 aA
    obtain ⟨o, ho⟩ := AN.1 this
    rw [show id = n + (id - n) by omega, aF1, ho]; rfl) bB1 next
end
end
section
def aL0 (tab:Tab) (E:Du):Dz:=match aS tab E with|some ⟨size,_,_,_⟩=>some size|none=>none
theorem bB2 {tab:Tab} {E size:Nat} (h:aL0 tab E=some size):∃e,aS tab E=some e/\e.size=size:=by
 unfold aL0 at h
 split at h
 ·rename_i s b k z he;injection h with h;exact ⟨_,he,h⟩
 ·cases h
section ops
variable {P:Dv} {tab:Tab} {ev:Evl} {h:aO} {d:Dt} {T ty:Du} {x y z:Operand} {pos:String} {aft:Ds} {gd:Dn} {i:Nat}
theorem aX6 {C:Cx} {id off n size:Nat} {full:Bool} {u:Value} (h:Rep C (.own id off n size full) u) (hn:0<n):C.dom id/\∃g cp,C.M id=some g/\u = .slice (some ⟨g,off,none⟩) n cp/\n<=cp/\cp<=maxLen/\(full=true->∃e,C.w.shape? g=some (e,off+cp*size)):=by
 simp only [Rep] at h
 obtain ⟨hd,⟨h1,_⟩|h2|⟨h3,_⟩⟩:=h
 ·omega
 ·exact ⟨hd,h2⟩
 ·omega
section index
variable {e e':TyE} {k:Dw} {j:Int} {m:Nat} (tb:bQ P tab) (hT:aS tab T=some e) (hy:ev y=some (.c (.v (.int k j)))) (hj:j=(m:Int))
include tb hT hy hj
theorem cT4 {E n size:Nat} {cs:D1} (hk:e.kind = .slice E) (hE:aS tab E=some e') (hs:Nat.beq e'.size size=true) (hx:ev x=some (.c (.sl size n cs))) (hm:m<n):Still P ⟨d,.indexAddr T x y,ty,pos,aft,gd⟩ ev h (.ip cs (m*size)):=by
 intro B dom M H w a hh hc he
 have h1:=he x _ hx
 have h2:=he y _ hy
 simp only [Rep,RepC] at h1 h2
 obtain ⟨A,c,us,h3,h4,h5,h6,h7,h70,h8⟩:=h1
 obtain ⟨b,o,rfl,hb,hl,hcell⟩:=h8 aA
 refine ⟨.pointer (some ⟨b,o+m*size,none⟩),?_,b,o,us,rfl,hb,hl,h7,h70,hcell⟩
 have hsz:=(aM tb hE).sizeOf w
 rw [Ae hs] at hsz
 subst hj
 have q1:(0:Int)<=(m:Int)/\(m:Int)<(n:Int):=by omega
 simp [execOp,Instr.indexAt,h2,h3,asIntOf,Sem.run_bind,run_underlying ((aM tb hT).slice hk),hm,hsz,iG]
theorem cT5 {E id off n size:Nat} {full:Bool} (hk:e.kind = .slice E) (hE:aS tab E=some e') (hs:Nat.beq e'.size size=true) (hx:ev x=some (.own id off n size full)) (hm:m<n):Still P ⟨d,.indexAddr T x y,ty,pos,aft,gd⟩ ev h (.ref id (off+m*size)):=by
 intro B dom M H w a hh hc he
 obtain ⟨hd,g,cp,h1,h3,_⟩:=aX6 (he x _ hx) aA
 have h2:=he y _ hy
 simp only [Rep,RepC] at h2
 refine ⟨.pointer (some ⟨g,off+m*size,none⟩),?_,hd,g,h1,rfl⟩
 have hsz:=(aM tb hE).sizeOf w
 rw [Ae hs] at hsz
 subst hj
 simp [execOp,Instr.indexAt,h2,h3,asIntOf,Sem.run_bind,run_underlying ((aM tb hT).slice hk),hm,hsz,iG]
theorem cT3 {E id off n size:Nat} (hk:e.kind = .array n E) (hs:aL0 tab E=some size) (hx:ev x=some (.ref id off)) (hm:m<n):Still P ⟨d,.indexAddr T x y,ty,pos,aft,gd⟩ ev h (.ref id (off+m*size)):=by
 obtain ⟨e',hE,hs⟩:=bB2 hs
 subst hs
 intro B dom M H w a hh hc he
 have h1:=he x _ hx
 have h2:=he y _ hy
 simp only [Rep,RepC] at h1 h2
 obtain ⟨hd,g,hM,h3⟩:=h1
 refine ⟨.pointer (some ⟨g,off+m*e'.size,none⟩),?_,hd,g,hM,rfl⟩
 have hsz:=(aM tb hE).sizeOf w
 subst hj
 simp [execOp,Instr.indexAt,h2,h3,asIntOf,Sem.run_bind,run_underlying ((aM tb hT).array hk),hm,hsz,iG,Instr.sureAddr]
end index
inductive Bd (ev:Evl) (dflt:Nat):Option Operand->Nat->Prop
 | no:Bd ev dflt none dflt
 | yes {x:Operand} {k:Dw} {j:Int} {m:Nat} (hx:ev x=some (.c (.v (.int k j)))) (hj:j=(m:Int)):Bd ev dflt (some x) m
theorem Bd.run {dflt m y : Nat} {lo : Option Operand} {C : Cx} {a : Act} {w : World} (hb : Bd ev dflt lo m) (he : ∀ x av, ev x = some av -> Rep C av (a.eval x)) (code : BoundsCode) (hm : m <= y) :
    (match lo.map a.eval with | some v => Instr.sliceBound v y code | none => (pure dflt : Sem Nat)).run P w = .ok m w := by
  cases hb with
  | no => rfl
  | yes hx hj =>
    have h1 := he _ _ hx
    simp only [Rep, RepC] at h1
    subst hj
    have : (0 : Int) <= (m : Int) /\ (m : Int) <= (y : Int) := by omega
    simp [h1, Instr.sliceBound, asIntOf, hm]
theorem mW {n c l r : Nat} {lo hi : Option Operand} {C : Cx} {a : Act} {w : World} (b : Bool) (he : ∀ x av, ev x = some av -> Rep C av (a.eval x)) (hlo : Bd ev 0 lo l) (hhi : Bd ev n hi r) (hlr : l <= r) (hrc : r <= c) :
    (Instr.sliceBounds b n c (lo.map a.eval) (hi.map a.eval) none).run P w = .ok (l, r, c) w := by
  have h1 := hlo.run (P := P) (w := w) (y := r) he .sliceB hlr
  have h2 := hhi.run (P := P) (w := w) (y := c) he (if b then .sliceAcap else .sliceAlen) hrc
  unfold Instr.sliceBounds
  simp only [Sem.run_bind, Sem.run_pure, Result.andThen_ok]
  cases hi with
  | none =>
    cases hhi
    cases lo with
    | none => cases hlo; simp
    | some q => simp only [Bh] at h1 ⊢; simp [h1]
  | some p =>
    simp only [Bh] at h2 ⊢
    cases lo with
    | none => cases hlo; simp [h2]
    | some q => simp only [Bh] at h1 ⊢; simp [h1, h2]
section slice
variable {e e':TyE} {E n l r size:Nat} {lo hi:Option Operand} (tb:bQ P tab) (hT:aS tab T=some e) (hk:e.kind = .slice E) (hE:aS tab E=some e') (hs:Nat.beq e'.size size=true) (hlo:Bd ev 0 lo l) (hhi:Bd ev n hi r) (hlr:l<=r) (hr:r<=n)
include tb hT hk hE hs hlo hhi hlr hr
theorem cT9 {cs ys:D1} (hx:ev x=some (.c (.sl size n cs))) (hys:(cs.drop (l*size)).take ((r-l)*size)=ys):Still P ⟨d,.slice T x lo hi none,ty,pos,aft,gd⟩ ev h (.c (.sl size (r-l) ys)):=by
 intro B dom M H w a hh hc he
 have h1:=he x _ hx
 simp only [Rep,RepC] at h1
 obtain ⟨A,c,us,h3,h4,h5,h6,h7,h70,h8⟩:=h1
 have hb:=mW (P:=P) (w:=w) (c:=c) true he hlo hhi hlr aA
 have hsz:=(aM tb hE).sizeOf w
 rw [Ae hs] at hsz
 have h9:=(h7.drop (l*size)).take ((r-l)*size)
 rw [hys] at h9
 have hmul:(r-l)*size+l*size<=n*size:=by
  rw [<- AM];exact Bj _ aA
 refine ⟨.slice (if c=l then A else A.map (·.add (l*size))) (r-l) (c-l),?_,_,_,(us.drop (l*size)).take ((r-l)*size),rfl,by omega,by omega,?_,h9,fun u hu=>h70 u (Bf (AI hu)),fun hn=>?_⟩
 ·have hund:=(aM tb hT).slice hk
  simp [execOp,Instr.sliceAt,Instr.slice,h3,Sem.run_bind,run_underlying hund,hb,hsz]
 ·rw [<- hys,As,A0,h6]
  omega
 ·obtain ⟨b,o,rfl,hb1,hl1,hcell⟩:=h8 aA
  refine ⟨b,o+l*size,by rw [Aj aA];simp [iG],hb1,hl1,fun j u hj=>?_⟩
  have hjk:j<(r-l)*size:=by
   rcases AE j ((r-l)*size) with h1|h1
   ·exact h1
   ·rw [AO kE] at hj;cases hj
  rw [Be hjk,AR] at hj
  rw [BO]
  exact hcell _ u hj
theorem cU1 {id off:Nat} {full:Bool} (hx:ev x=some (.own id off n size full)):Still P ⟨d,.slice T x lo hi none,ty,pos,aft,gd⟩ ev h (.own id (off+l*size) (r-l) size false):=by
 intro B dom M H w a hh hc he
 have h1:=he x _ hx
 have hsz:=(aM tb hE).sizeOf w
 rw [Ae hs] at hsz
 have hund:=(aM tb hT).slice hk
 simp only [Rep] at h1
 obtain ⟨hd,h1⟩:=h1
 have key:∀A c,a.eval x = .slice A n c->n<=c->(execOp a.eval ⟨d,.slice T x lo hi none,ty,pos,aft,gd⟩).run P w = .ok (.value (.slice (if c=l then A else A.map (·.add (l*size))) (r-l) (c-l))) w:=fun A c h3 h4=>by
  have hb:=mW (P:=P) (w:=w) (c:=c) true he hlo hhi hlr aA
  simp [execOp,Instr.sliceAt,Instr.slice,h3,Sem.run_bind,run_underlying hund,hb,hsz]
 rcases h1 with ⟨h1,h2,h3,h4⟩|⟨g,cp,h1,h2,h3,h4,h5⟩|⟨h1,h2,A,cp,h3,h4⟩
 ·subst h1
  obtain rfl:l=0:=by omega
  obtain rfl:r=0:=by omega
  refine ⟨_,key none 0 h4 (Ah _),hd,.inr (.inr ⟨rfl,rfl,none,0,?_,by simp [maxLen]⟩)⟩
  simp
 ·by_cases hlr':l<r
  ·refine ⟨_,key _ cp h2 h3,hd,.inr (.inl ⟨g,cp-l,h1,?_,by omega,by omega,by simp⟩)⟩
   rw [Aj aA]
   simp [iG]
  ·refine ⟨_,key _ cp h2 h3,hd,.inr (.inr ?_)⟩
   rw [show r-l=0 by omega]
   exact ⟨rfl,rfl,_,_,rfl,by omega⟩
 ·subst h1
  obtain rfl:l=0:=by omega
  obtain rfl:r=0:=by omega
  exact ⟨_,key A cp h3 (Am _),hd,.inr (.inr ⟨rfl,rfl,_,_,rfl,by omega⟩)⟩
end slice
theorem bI8 {e e':TyE} {E n r size id off:Nat} {hi:Option Operand} (tb:bQ P tab) (hT:aS tab T=some e) (hk:e.kind = .slice E) (hE:aS tab E=some e') (hs:Nat.beq e'.size size=true) (hhi:Bd ev n hi r) (hr:r<=n) {full:Bool} (hx:ev x=some (.own id off n size full)) (hfull:full=true):Still P ⟨d,.slice T x none hi none,ty,pos,aft,gd⟩ ev h (.own id off r size true):=by
 intro B dom M H w a hh hc he
 have h1:=he x _ hx
 have hsz:=(aM tb hE).sizeOf w
 rw [Ae hs] at hsz
 have hund:=(aM tb hT).slice hk
 simp only [Rep] at h1
 obtain ⟨hd,h1⟩:=h1
 have key:∀A c,a.eval x = .slice A n c->n<=c->(execOp a.eval ⟨d,.slice T x none hi none,ty,pos,aft,gd⟩).run P w = .ok (.value (.slice A r c)) w:=fun A c h3 h4=>by
  have hb:=mW (P:=P) (w:=w) (c:=c) (l:=0) true he Bd.no hhi (Am _) aA
  simp only [CN] at hb
  simp [execOp,Instr.sliceAt,Instr.slice,h3,Sem.run_bind,run_underlying hund,hb,hsz]
  cases A with
  | none=>simp
  | some p=>simp [Addr.add]
 rcases h1 with ⟨h1,h2,h3,h4⟩|⟨g,cp,h1,h2,h3,h4,h5⟩|⟨h1,h2,_⟩
 ·subst h1
  obtain rfl:r=0:=by omega
  exact ⟨_,key none 0 h4 (Ah _),hd,.inl ⟨rfl,h2,h3,rfl⟩⟩
 ·exact ⟨_,key _ cp h2 h3,hd,.inr (.inl ⟨g,cp,h1,rfl,by omega,h4,fun _=>h5 hfull⟩)⟩
 ·rw [hfull] at h2;cases h2
theorem aR5 {e:TyE} {E n id off l r size:Nat} {lo hi:Option Operand} (tb:bQ P tab) (hT:aS tab T=some e) (hk:e.kind = .array n E) (hs:aL0 tab E=some size) (hx:ev x=some (.ref id off)) (hlo:Bd ev 0 lo l) (hhi:Bd ev n hi r) (hlr:l<=r) (hr:r<=n) (hn:n<=maxLen):Still P ⟨d,.slice T x lo hi none,ty,pos,aft,gd⟩ ev h (.own id (off+l*size) (r-l) size false):=by
 obtain ⟨e',hE,hs⟩:=bB2 hs
 subst hs
 intro B dom M H w a hh hc he
 have h1:=he x _ hx
 have hsz:=(aM tb hE).sizeOf w
 have hund:=(aM tb hT).array hk
 simp only [Rep] at h1
 obtain ⟨hd,g,hM,h3⟩:=h1
 have hb:=mW (P:=P) (w:=w) (c:=n) false he hlo hhi hlr hr
 have hrun:(execOp a.eval ⟨d,.slice T x lo hi none,ty,pos,aft,gd⟩).run P w = .ok (.value (.slice (some (if n=l then ⟨g,off,none⟩ else (⟨g,off,none⟩:Addr).add (l*e'.size))) (r-l) (n-l))) w:=by
  simp [execOp,Instr.sliceAt,h3,Sem.run_bind,run_underlying hund,hb,hsz,Instr.sureAddr]
 by_cases hlr':l<r
 ·refine ⟨_,hrun,hd,.inr (.inl ⟨g,n-l,hM,?_,by omega,by omega,by simp⟩)⟩
  rw [Aj aA,iG]
 ·refine ⟨_,hrun,hd,.inr (.inr ?_)⟩
  rw [show r-l=0 by omega]
  exact ⟨rfl,rfl,_,_,rfl,by omega⟩
theorem bI2 {e:TyE} {E n size:Nat} {cs:D1} (tb:bQ P tab) (hT:aS tab T=some e) (hk:e.kind = .slice E) (hx:ev x=some (.c (.sl size n cs))):Still P ⟨d,.call ⟨.builtin .len,#[x],#[T]⟩,ty,pos,aft,gd⟩ ev h (.c (.v (.int .i64 n))):=by
 intro B dom M H w a hh hc he
 have h1:=he x _ hx
 simp only [Rep,RepC] at h1
 obtain ⟨A,c,us,h3,_⟩:=h1
 refine ⟨_,?_,rfl⟩
 simp [execOp,resolve,invoke,builtin,Builtin.len_,h3,run_underlying ((aM tb hT).slice hk),goInt]
theorem bI3 {e:TyE} {E:Nat} (tb:bQ P tab) (hT:aS tab T=some e) (hk:e.kind = .slice E) {A:Option Addr} {n c:Nat} (hx:ev x=some (.c (.v (.slice A n c)))):Still P ⟨d,.call ⟨.builtin .len,#[x],#[T]⟩,ty,pos,aft,gd⟩ ev h (.c (.v (.int .i64 n))):=by
 intro B dom M H w a hh hc he
 have h1:=he x _ hx
 simp only [Rep,RepC] at h1
 refine ⟨_,?_,rfl⟩
 simp [execOp,resolve,invoke,builtin,Builtin.len_,h1,run_underlying ((aM tb hT).slice hk),goInt]
theorem bI4 {e:TyE} {E id off n size:Nat} {full:Bool} (tb:bQ P tab) (hT:aS tab T=some e) (hk:e.kind = .slice E) (hx:ev x=some (.own id off n size full)):Still P ⟨d,.call ⟨.builtin .len,#[x],#[T]⟩,ty,pos,aft,gd⟩ ev h (.c (.v (.int .i64 n))):=by
 intro B dom M H w a hh hc he
 have h1:=he x _ hx
 have:∃A c,a.eval x = .slice A n c:=by
  simp only [Rep] at h1
  obtain ⟨_,⟨h1,_,_,h4⟩|⟨g,cp,_,h2,_⟩|⟨h1,_,A,cp,h3,_⟩⟩:=h1
  ·exact ⟨none,0,by rw [h4,h1]⟩
  ·exact ⟨_,_,h2⟩
  ·exact ⟨A,cp,by rw [h3,h1]⟩
 obtain ⟨A,c,h3⟩:=this
 refine ⟨_,?_,rfl⟩
 simp [execOp,resolve,invoke,builtin,Builtin.len_,h3,run_underlying ((aM tb hT).slice hk),goInt]
theorem aR1 {e:TyE} {s:ByteArray} (tb:bQ P tab) (hT:aS tab T=some e) (hk:e.kind = .str) (hx:ev x=some (.c (.v (.string s)))):Still P ⟨d,.call ⟨.builtin .len,#[x],#[T]⟩,ty,pos,aft,gd⟩ ev h (.c (.v (.int .i64 s.size))):=by
 intro B dom M H w a hh hc he
 have h1:=he x _ hx
 simp only [Rep,RepC] at h1
 refine ⟨_,?_,rfl⟩
 simp [execOp,resolve,invoke,builtin,Builtin.len_,h1,run_underlying ((aM tb hT).str hk),goInt]
section
variable {k:Dw} {p q r:Int} {ts:Dx} (hx:ev x=some (.c (.v (.int k p)))) (hy:ev y=some (.c (.v (.int k q))))
include k p q r ts hx hy
theorem bR1 (hr:(if q<p then q else p)=r):Still P ⟨d,.call ⟨.builtin .min,#[x,y],ts⟩,ty,pos,aft,gd⟩ ev h (.c (.v (.int k r))):=by
 intro B dom M H w a hh hc he
 have h1:=he x _ hx
 have h2:=he y _ hy
 simp only [Rep,RepC] at h1 h2
 refine ⟨_,?_,rfl⟩
 subst hr
 simp [execOp,resolve,invoke,builtin,Builtin.min_,Builtin.min2,h1,h2]
theorem cT6 (hr:(if p<q then q else p)=r):Still P ⟨d,.call ⟨.builtin .max,#[x,y],ts⟩,ty,pos,aft,gd⟩ ev h (.c (.v (.int k r))):=by
 intro B dom M H w a hh hc he
 have h1:=he x _ hx
 have h2:=he y _ hy
 simp only [Rep,RepC] at h1 h2
 refine ⟨_,?_,rfl⟩
 subst hr
 simp [execOp,resolve,invoke,builtin,Builtin.max_,Builtin.max2,h1,h2]
end
theorem aE6 {T':Du} {s t:ByteArray} {b:Bool} (hx:ev x=some (.c (.v (.string s)))) (hy:ev y=some (.c (.v (.string t)))) (hr:decide (s.toList=t.toList)=b):Still P ⟨d,.binOp .eql T x y T',ty,pos,aft,gd⟩ ev h (.c (.v (.bool b))) :=
 kJ hx hy bV9 (fun w=>by
  have:(s.toList==t.toList)=decide (s.toList=t.toList):=by rw [Dg];simp
  subst hr;simp only [binOp,Op.stringOp,this];rfl)
theorem aR0 {T':Du} {e:TyE} {p q b:Bool} (tb:bQ P tab) (hT:aS tab T=some e) (hk:e.kind = .bool) (hx:ev x=some (.c (.v (.bool p)))) (hy:ev y=some (.c (.v (.bool q)))) (hr:(p==q)=b):Still P ⟨d,.binOp .eql T x y T',ty,pos,aft,gd⟩ ev h (.c (.v (.bool b))) :=
 kJ hx hy bF6 (fun w=>by subst hr;exact run_eql_bool w T p q ((aM tb hT).bool hk))
def u8c (l:Dm):D1:=l.map fun b => .v (.int .u8 b.toNat)
theorem aH (l:Dm):(u8c l).length=l.length:=by simp [u8c]
theorem bI (a b:Dm):u8c (a++b)=u8c a++u8c b:=by simp [u8c]
theorem bS (a:Dm) (k:Nat):(u8c a).take k=u8c (a.take k):=by simp [u8c]
theorem bR (a:Dm) (k:Nat):(u8c a).drop k=u8c (a.drop k):=by simp [u8c]
theorem aL4 (l:Dm):u8c l=(l.map fun b=>Value.int .u8 b.toNat).map CV.v:=by simp [u8c]
theorem bR8 {l:Dm} {j:Nat} {b:UInt8} (h:l[j]? = some b):(u8c l)[j]? = some (.v (.int .u8 b.toNat)):=by simp [u8c,h]
def dE (k:Dw) (l:List Int):D1:=l.map fun n => .v (.int k n)
theorem fF (k:Dw) (l:List Int):(dE k l).length=l.length:=by simp [dE]
theorem aC3 (k:Dw) (l:List Int):dE k l=(l.map fun n=>Value.int k n).map CV.v:=by simp [dE]
theorem bZ1 {w : World} {src E dst : Du} (hs : P.underlying src = some (.slice E)) (he : P.underlying E = some (.int .u8)) (hd : P.underlying dst = some .string) {ok : Nat -> Prop} {l : Dm} {n : Nat} {u : Value} (hu : RepC ok w (.sl 1 n (u8c l)) u) :
    (convert src dst u).run P w = .ok (.string ⟨l.toArray⟩) w := by
  simp only [RepC] at hu
  obtain ⟨A, c, us, rfl, h2, h3, h4, h5, _, h6⟩ := hu
  rw [aL4] at h5
  have h5 := h5.of_plain
  subst h5
  have hlen : l.length = n := by simpa [u8c] using h4
  rcases BC n with h0 | h0
  · subst h0
    obtain rfl : l = [] := An hlen
    rcases A with _ | ad
    · rw [run_convert_bytes_nil w src E hs he 0 c dst hd]; rfl
    · rw [run_convert_bytes_string w src dst E _ 0 c hs he hd]
      simp [Conv.bytesToString, loadCells, loadCellsFrom]
      rfl
  · obtain ⟨b, o, rfl, _, _, hc⟩ := h6 h0
    have := run_convert_bytes_arg (P := P) w src E hs he b o n c (l.map fun b => (b.toNat : Int)) (by simpa using hlen) (fun i hi => by
      rw [hc i (.int .u8 (l[i]'(by omega)).toNat) (by simp [Ab (show i < l.length by omega)])]
      simp [List.getD, Ab (show i < l.length by omega)]) dst hd
    rw [this]
    congr 2
    simp only [strOfNums]
    congr 1
    simp only [BT, Array.mk.injEq]
    have : ((fun n : Int => UInt8.ofNat n.toNat) ∘ fun b : UInt8 => (b.toNat : Int)) = id := by
      funext b
      simp
    rw [this, List.map_id]
theorem aR6 {S:Du} {e e' es:TyE} {E n:Nat} {v:AV} {l:Dm} (tb:bQ P tab) (hS:aS tab S=some es) (hks:es.kind = .slice E) (hE:aS tab E=some e') (hke:e'.kind = .int .u8) (hT:aS tab T=some e) (hk:e.kind = .str) (hx:ev x=some v) (hf:Frz [] h v (.sl 1 n (u8c l))):Still P ⟨d,.convert S T x,ty,pos,aft,gd⟩ ev h (.c (.v (.string ⟨l.toArray⟩))):=by
 intro B dom M H w a hh hc he
 have h1:=hf B dom M H w _ hh aU hc (he x _ hx)
 refine ⟨_,?_,rfl⟩
 have:=bZ1 (P:=P) ((aM tb hS).slice hks) ((aM tb hE).int hke) ((aM tb hT).str hk) h1
 simp [execOp,this]
theorem sB {op:BinOp} {xs ys:D0} (w:World) (hg:P.eqGuardType P.depth T=false):(eqGuard op T x y (.agg xs) (.agg ys)).run P w = .ok () w:=by
 cases op<;>simp [eqGuard,hg]
theorem oM (w : World) (dd : Nat) (t E : Du) (n : Nat) (k k' : Dw) (ht : P.underlying t = some (.array n E)) (he : P.underlying E = some (.int k')) (hsz : ∀ w, (sizeOf E).run P w = .ok 1 w) (xs ys : List Int) (hx : xs.length = n) (hy : ys.length = n) :
    (Op.equalIn (dd + 2) t (.agg (xs.map (Value.int k)).toArray) (.agg (ys.map (Value.int k)).toArray)).run P w = .ok (decide (xs = ys)) w := by
  have hall : decide (xs = ys) = (List.range' 0 n 1).all fun i => xs.getD i 0 == ys.getD i 0 := by
    rw [Dg]
    simp only [Bq, Aw, List.mem_range'_1, Df]
    constructor
    · intro h i _; rw [h]
    · intro h
      apply List.ext_getElem aA
      intro i h1 h2
      have := h i aA
      simpa [List.getD, Ab h1, Ab h2] using this
  rw [hall, Op.equalIn]
  simp only [Sem.run_bind, run_underlying ht, Result.andThen_ok, hsz, Std.Legacy.Range.forIn_eq_forIn_range', Std.Legacy.Range.size, BB, Nat.add_sub_cancel, Nat.div_one]
  have hl : ∀ i ∈ List.range' 0 n 1, i < n := fun i hi => by simpa using (List.mem_range'_1.1 hi).2
  generalize List.range' 0 n 1 = l at hl ⊢
  induction l with
  | nil => simp
  | cons i l ih =>
    have hi : i < n := hl i aU
    have px : (part E (xs.map (Value.int k)).toArray (i * 1)).run P w = .ok (.int k (xs.getD i 0)) w := by
      simp [part, isAgg, run_underlying he, List.getD, Ab (show i < xs.length by omega)]
    have py : (part E (ys.map (Value.int k)).toArray (i * 1)).run P w = .ok (.int k (ys.getD i 0)) w := by
      simp [part, isAgg, run_underlying he, List.getD, Ab (show i < ys.length by omega)]
    have pe : (Op.equalIn (dd + 1) E (.int k (xs.getD i 0)) (.int k (ys.getD i 0))).run P w = .ok (xs.getD i 0 == ys.getD i 0) w := run_equalIn_int w dd E k k' _ _ he
    simp only [List.forIn_cons, Sem.run_bind, px, py, pe, Result.andThen_ok, BA]
    cases hb : (xs.getD i 0 == ys.getD i 0)
    · simp
    · simp only [Bool.not_true, AB, AQ, Sem.run_pure, Result.andThen_ok, Bool.true_and]
      exact ih fun j hj => hl j (by simp [hj])
section
variable (w : World) (t : Du) {E : Du} {n : Nat} {k k' : Dw} (ht : P.underlying t = some (.array n E)) (he : P.underlying E = some (.int k')) (hsz : ∀ w, (sizeOf E).run P w = .ok 1 w) (xs ys : List Int) (hx : xs.length = n) (hy : ys.length = n)
include w t E n k k' ht he hsz xs ys hx hy
theorem cS0 :
    (binOp .eql t (.agg (xs.map (Value.int k)).toArray) (.agg (ys.map (Value.int k)).toArray)).run P w = .ok (.bool (decide (xs = ys))) w := by
  rw [run_eql_struct, oM w 9998 t E n k k' ht he hsz xs ys hx hy]; rfl
theorem cS2 :
    (binOp .neq t (.agg (xs.map (Value.int k)).toArray) (.agg (ys.map (Value.int k)).toArray)).run P w = .ok (.bool (!decide (xs = ys))) w := by
  rw [run_neq_struct, oM w 9998 t E n k k' ht he hsz xs ys hx hy]; rfl
end
section eqarr
variable {T' E n:Nat} {e e':TyE} {k:Dw} {xs ys:List Int} {cs cs':D1} {b:Bool} (tb:bQ P tab) (hg:P.eqGuardType P.depth T=false) (hT:aS tab T=some e) (hk:e.kind = .array n E) (hE:aS tab E=some e') (hke:e'.kind = .int k) (hs:Nat.beq e'.size 1=true) (hx:ev x=some (.c (.agg cs))) (hy:ev y=some (.c (.agg cs'))) (hcx:cs=dE k xs) (hcy:cs'=dE k ys) (hlx:xs.length=n) (hly:ys.length=n)
include tb hg hT hk hE hke hs hx hy hcx hcy hlx hly
theorem eC4 (hb:decide (xs=ys)=b):Still P ⟨d,.binOp .eql T x y T',ty,pos,aft,gd⟩ ev h (.c (.v (.bool b))):=by
 intro B dom M H w a hh hc he
 have h1:=he x _ hx
 have h2:=he y _ hy
 subst hcx hcy
 simp only [Rep,RepC,aC3] at h1 h2
 obtain ⟨us,h1,h3,_⟩:=h1
 obtain ⟨vs,h2,h4,_⟩:=h2
 have h3:=h3.of_plain
 have h4:=h4.of_plain
 subst h3 h4
 refine ⟨_,?_,rfl⟩
 have hsz:∀w,(sizeOf E).run P w = .ok 1 w:=fun w=>by rw [(aM tb hE).sizeOf w,Ae hs]
 have:=cS0 (P:=P) w T (k:=k) ((aM tb hT).array hk) ((aM tb hE).int hke) hsz xs ys hlx hly
 rw [hb] at this
 simp only [execOp,h1,h2,Sem.run_bind,sB (P:=P) w hg,Result.andThen_ok,this]
 rfl
theorem eC9 (hb:(!decide (xs=ys))=b):Still P ⟨d,.binOp .neq T x y T',ty,pos,aft,gd⟩ ev h (.c (.v (.bool b))):=by
 intro B dom M H w a hh hc he
 have h1:=he x _ hx
 have h2:=he y _ hy
 subst hcx hcy
 simp only [Rep,RepC,aC3] at h1 h2
 obtain ⟨us,h1,h3,_⟩:=h1
 obtain ⟨vs,h2,h4,_⟩:=h2
 have h3:=h3.of_plain
 have h4:=h4.of_plain
 subst h3 h4
 refine ⟨_,?_,rfl⟩
 have hsz:∀w,(sizeOf E).run P w = .ok 1 w:=fun w=>by rw [(aM tb hE).sizeOf w,Ae hs]
 have:=cS2 (P:=P) w T (k:=k) ((aM tb hT).array hk) ((aM tb hE).int hke) hsz xs ys hlx hly
 rw [hb] at this
 simp only [execOp,h1,h2,Sem.run_bind,sB (P:=P) w hg,Result.andThen_ok,this]
 rfl
end eqarr
end ops
end
section
section ops
variable {P:Dv} {tab:Tab} {ev:Evl} {h:aO} {d:Dt} {T ty:Du} {x y z:Operand} {pos:String} {aft:Ds} {gd:Dn} {i:Nat}
theorem fP (w:World) (o:Obj):Below w.heap.size w (w.alloc o):=(Below.refl _ _).alloc (Ah _) _
def zav (l:Do):D2:=l.map fun v => .c (.v v)
theorem aS2 {C:Cx} (l:Do):RepL C (zav l) l:=by
 have:zav l=(l.map CV.v).map AV.c:=by simp [zav]
 rw [this]
 exact RepL.ofC (RepCs.plain l)
theorem wQ {w:World} {e:TyE} (hT:TyOk P T e) (ρ:Operand->Value):(execOp ρ ⟨d,.alloc T,ty,pos,aft,gd⟩).run P w = .ok (.value (.pointer (some ⟨w.heap.size,0,none⟩))) (w.alloc (.cells e.zero.toArray T)):=by
 obtain ⟨ti,hi,hs,hb,z,hz,hzc⟩:=hT.parts
 simp [execOp,Instr.alloc,zeroValue,typeInfo,hi,hz,newVar,newRow,<- hzc]
theorem aL7 (tb:bQ P tab) {e:TyE} {cs:D2} (hT:aS tab T=some e) (hz:zav e.zero=cs):Adds P ⟨d,.alloc T,ty,pos,aft,gd⟩ ev h (.ref i 0) [(i,.blk T cs)] i (i+1):=by
 subst hz
 refine iO rfl fun B dom M H w a hh hc he=>⟨_,_,some w.heap.size,wQ (aM tb hT) a.eval,fP _ _,fun g hg=>by injection hg with hg;omega,fun C hext hw hd hM=>⟨⟨w.heap.size,e.zero,rfl,?_,aS2 _⟩,hd,w.heap.size,hM,rfl⟩⟩
 rw [hw];exact heap_alloc_new w _
theorem yU (tb:bQ P tab) {e:TyE} {n E:Nat} {cs:D1} (hT:aS tab T=some e) (hk:e.kind = .array n E) (h1:e.zero.all Value.oneCell'=true) (hz:e.zero.map CV.v=cs):Adds P ⟨d,.alloc T,ty,pos,aft,gd⟩ ev h (.ref i 0) [(i,.row T cs)] i (i+1):=by
 subst hz
 refine iO rfl fun B dom M H w a hh hc he=>⟨_,_,some w.heap.size,wQ (aM tb hT) a.eval,fP _ _,fun g hg=>by injection hg with hg;omega,fun C hext hw hd hM=>⟨.inr ⟨w.heap.size,e.zero,[],rfl,?_,RepCs.plain _,fun u hu=>Aw.1 h1 u hu⟩,hd,w.heap.size,hM,rfl⟩⟩
 rw [hw,A4];exact heap_alloc_new w _
theorem aQ8 {w:World} (ρ:Operand->Value):(execOp ρ ⟨d,.box T x,ty,pos,aft,gd⟩).run P w = .ok (.value (.pointer (some ⟨w.heap.size,0,none⟩))) (w.alloc (.cells (ρ x).cells T)):=by
 simp [execOp,Instr.box,newVar,newRow]
theorem bC9 {v:AV} {xs:D2} (hx:ev x=some v) (hp:Parts v xs):Adds P ⟨d,.box T x,ty,pos,aft,gd⟩ ev h (.ref i 0) [(i,.blk T xs)] i (i+1):=by
 refine iO rfl fun B dom M H w a hh hc he=>?_
 obtain ⟨us,hu,hr⟩:=hp.rep (he x _ hx)
 refine ⟨_,_,some w.heap.size,aQ8 a.eval,fP _ _,fun g hg=>by injection hg with hg;omega,fun C hext hw hd hM=>⟨⟨w.heap.size,us,rfl,?_,RepL.ext hext _ _ hr⟩,hd,w.heap.size,hM,rfl⟩⟩
 rw [hw,hu];exact heap_alloc_new w _
theorem bD0 {cs:D1} {e:TyE} {n E:Nat} (hT:aS tab T=some e) (hk:e.kind = .array n E) (hx:ev x=some (.c (.agg cs))):Adds P ⟨d,.box T x,ty,pos,aft,gd⟩ ev h (.ref i 0) [(i,.row T cs)] i (i+1):=by
 refine iO rfl fun B dom M H w a hh hc he=>?_
 obtain ⟨us,hu,hr,hon⟩:=he x _ hx
 refine ⟨_,_,some w.heap.size,aQ8 a.eval,fP _ _,fun g hg=>by injection hg with hg;omega,fun C hext hw hd hM=>⟨.inr ⟨w.heap.size,us,[],rfl,?_,RepCs.mono hext.ok _ _ hr,hon⟩,hd,w.heap.size,hM,rfl⟩⟩
 rw [hw,A4,hu];exact heap_alloc_new w _
theorem jS {t:Du} {e:TyE} (hT:TyOk P t e):∃ti z,P.info? t=some ti/\ti.zero=some z/\ti.size=e.size/\ti.bytes=e.bytes/\z.cells.toList=e.zero:=by
 obtain ⟨ti,hi,hs,hb,z,hz,hzc⟩:=hT.parts
 exact ⟨ti,z,hi,hz,hs,hb,hzc⟩
def zc (z:Do) (n:Nat):D1:=(List.replicate n (z.map CV.v)).flatten
theorem sN (z:Do) (n:Nat):(zc z n).length=n*z.length:=by simp [zc]
theorem cW5 (z:Do) (n:Nat):zc z n=((List.replicate n z).flatten).map CV.v:=by
 simp [zc,List.map_flatten]
theorem rB (z:D0) (n:Nat) (hz:0<z.size):(madeCells z (n*z.size)).toList=(List.replicate n z.toList).flatten:=by
 apply Cp
 intro j
 have h1:(madeCells z (n*z.size)).toList=(List.range (n*z.size)).map (fun i=>z[i%z.size]!):=by
  simp [madeCells]
 rw [h1]
 clear h1
 induction n generalizing j with
 | zero=>simp
 | succ n ih =>
  rw [C0,Bo]
  by_cases hj:j<z.size
  ·rw [AL vL]
   have:j<(n+1)*z.size:=by rw [AM];omega
   simp [this,BN hj,hj]
  ·rw [AT vL]
   have h2:=ih (j-z.size)
   simp only [A9]
   rw [<- h2]
   simp only [Bv]
   by_cases hj2:j-z.size<n*z.size
   ·have h3:j<(n+1)*z.size:=by rw [AM];omega
    rw [List.getElem?_range h3,List.getElem?_range hj2]
    simp only [Bh]
    congr 2
    rw [Nat.mod_eq_sub_mod aA]
   ·have h3:¬j<(n+1)*z.size:=by rw [AM];omega
    rw [AO (by simpa using h3),AO (by simpa using hj2)]
theorem dV3 (tb : bQ P tab) {e e' : TyE} {E size l c : Nat} {cs : D1} {kl kc : Dw} {I J : Int} (hT : aS tab T = some e) (hk : e.kind = .slice E) (hE : aS tab E = some e') (hs : Nat.beq e'.size size = true) (hz : Nat.beq e'.zero.length size = true) (h1' : e'.zero.all Value.oneCell' = true) (hp : Nat.blt 0 size = true) (hx : ev x = some (.c (.v (.int kl I)))) (hy : ev y = some (.c (.v (.int kc J)))) (hI : I = (l : Int)) (hJ : J = (c : Int))
    (hlc : l <= c) (hb : e'.bytes * c <= 281474976710656) (hc : c <= maxLen) (hcs : zc e'.zero l = cs) : Adds P ⟨d, .makeSlice T x y, ty, pos, aft, gd⟩ ev h (.own i 0 l size true) [(i, .row E cs)] i (i + 1) := by
  subst hcs
  refine iO rfl fun B dom M H w a hh hcc he => ?_
  have h1 := he x _ hx
  have h2 := he y _ hy
  simp only [Rep, RepC] at h1 h2
  obtain ⟨ti, zv, hi, hzv, hsz, hby, hzc⟩ := jS (aM tb hE)
  have hs' := Ae hs
  have hz' := Ae hz
  have hp' : 0 < size := by simpa using hp
  subst hI hJ
  have h63 : (c : Int) <= 9223372036854775807 := by simp only [maxLen] at hc; omega
  have hb' : (e'.bytes : Int) * (c : Int) <= 281474976710656 := by
    have h9 : ((e'.bytes * c : Nat) : Int) <= 281474976710656 := by omega
    rwa [Dh] at h9
  have hr := run_make (P := P) w T E ti zv ((aM tb hT).slice hk) hi hzv kl kc l c aA aA (by rw [hby]; exact hb') h63
  simp only [AS, hsz, hs'] at hr
  have hzs : zv.cells.size = size := by rw [<- A9, hzc, hz']
  rw [<- hzs] at hr
  refine ⟨.slice (some ⟨w.heap.size, 0, none⟩) l c, w.alloc (.cells (madeCells zv.cells (c * zv.cells.size)) E), some w.heap.size, by simp only [execOp, h1, h2, hr, Sem.run_bind, Result.andThen_ok]; rfl, fP _ _, fun g hg => by injection hg with hg; omega, fun C hext hw hd hM => ⟨.inr ⟨w.heap.size, (List.replicate l zv.cells.toList).flatten, (List.replicate (c - l) zv.cells.toList).flatten, rfl, ?_, ?_, ?_⟩, hd, .inr (.inl ⟨w.heap.size, c, hM, rfl, hlc, hc, fun _ => ⟨E, ?_⟩⟩)⟩⟩
  · rw [hw, heap_alloc_new]
    congr 2
    apply BV.1
    rw [rB _ _ aA, Ci, <- List.flatten_append, List.replicate_append_replicate, show l + (c - l) = c by omega]
  · rw [cW5, hzc]; exact RepCs.plain _
  · intro u hu
    obtain ⟨l', hl', hu'⟩ := List.mem_flatten.1 hu
    rw [List.eq_of_mem_replicate hl', hzc] at hu'
    exact Aw.1 h1' u hu'
  · unfold World.shape?
    rw [hw, heap_alloc_new]
    simp only
    rw [<- A9, rB _ _ aA]
    simp [hzs]
theorem bS4 (tb:bQ P tab) {e e':TyE} {E size:Nat} (hT:aS tab T=some e) (hk:e.kind = .slice E) (hE:aS tab E=some e') (hs:Nat.beq e'.size size=true):Adds P ⟨d,.buildSlice T 0 #[],ty,pos,aft,gd⟩ ev h (.own i 0 0 size true) [(i,.row E [])] i (i+1):=by
 refine iO rfl fun B dom M H w a hh hcc he=>?_
 have hsz:=(aM tb hE).sizeOf w
 refine ⟨.slice (some ⟨w.heap.size,0,none⟩) 0 0,w.alloc (.cells #[] E),some w.heap.size,?_,fP _ _,fun g hg=>by injection hg with hg;omega,fun C hext hw hd hM=>⟨.inr ⟨w.heap.size,[],[],rfl,?_,by simp [RepCs],by simp⟩,hd,.inr (.inl ⟨w.heap.size,0,hM,rfl,Ah _,by simp [maxLen],fun _=>⟨E,?_⟩⟩)⟩⟩
 ·simp [execOp,Instr.buildSlice,Sem.run_bind,run_underlying ((aM tb hT).slice hk),hsz,newRow,Instr.fill,Array.range_zero']
 ·rw [hw];exact heap_alloc_new w _
 ·unfold World.shape?
  rw [hw,heap_alloc_new]
  simp
def nZ {α:Type}:Nat->List α->List (Nat × α)
 | _,[]=>[]
 | k,x::xs=>(k,x)::nZ (k+1) xs
theorem aI9 {α β:Type} (f:α->β):∀(xs:List α) (k:Nat),(nZ k xs).map (fun p=>(p.1,f p.2))=nZ k (xs.map f)
 | [],_=>rfl
 | x::xs,k=>by simp [nZ,aI9 f xs]
theorem aW3 {place : Nat -> Option (Nat × Nat)} {arr : Do} {v : Value} {vs : Do} {k off : Nat} {rest : List (Nat × Value)} (hv : v.cells.toList = vs) (hp : place k = some (off, vs.length)) (hfit : off + vs.length <= arr.length) :
    Instr.fill place arr.toArray ((k, v) :: rest) = Instr.fill place (lay arr off vs).toArray rest := by
  have hsz : v.cells.size = vs.length := by rw [<- hv]; simp
  rw [Instr.fill, hp]
  simp only
  rw [Aj (by simp [hsz]; omega)]
  congr 1
  rw [<- Array.foldl_toList, show v.cells.zipIdx.toList = vs.zipIdx by rw [<- hv]; simp]
  clear hv hsz hp
  have key : ∀ (vs pre : Do) (n : Nat), off + n + vs.length <= pre.length -> (List.foldl (fun (cs : D0) (x : Value × Nat) => cs.setIfInBounds (off + x.2) x.1) pre.toArray (vs.zipIdx n)) = (lay pre (off + n) vs).toArray := by
    intro vs
    induction vs with
    | nil => intro pre n _; simp [lay]
    | cons v vs ih =>
      intro pre n hl
      simp only [Au] at hl
      simp only [List.zipIdx_cons, Di, List.setIfInBounds_toArray]
      rw [ih (pre.set (off + n) v) (n + 1) fU]
      congr 1
      have := list_seg_step pre (off + n) v vs aA
      simpa [lay, BO, CP 1] using this
  exact key vs arr 0 aA
theorem aB6 (size : Nat) : ∀ (us : Do) (css : List (Do)) (k : Nat) (arr : Do), us.map (·.cells.toList) = css -> (∀ cs ∈ css, cs.length = size) -> (k + us.length) * size <= arr.length ->
    Instr.fill (fun i => some (i * size, size)) arr.toArray (nZ k us) = some (lay arr (k * size) css.flatten).toArray
  | [], css, k, arr, hc, hs, hl => by
    simp at hc; subst hc
    simp [nZ, Instr.fill, lay]
  | u :: us, css, k, arr, hc, hs, hl => by
    cases css with
    | nil => simp at hc
    | cons cs css =>
      simp only [AH, List.cons.injEq] at hc
      have hcl := hs cs aU
      simp only [Au] at hl
      have hkl : k * size + size <= arr.length := by
        have : (k + 1) * size <= (k + (us.length + 1)) * size := Bj _ aA
        rw [AM] at this; omega
      have hfl : css.flatten.length = us.length * size := by
        have h1 : ∀ c ∈ css, c.length = size := fun c hc => hs c (by simp [hc])
        have h2 : css.length = us.length := by rw [<- hc.2]; simp
        rw [<- h2]
        clear hc hs hl h2
        induction css with
        | nil => simp
        | cons c css ih => simp only [Bo, Aa, Au]; rw [h1 c aU, ih (fun c hc => h1 c (by simp [hc])), AM]; omega
      have hl2 : (k + 1) * size + us.length * size <= arr.length := by
        rw [<- AM]; rw [show k + 1 + us.length = k + (us.length + 1) by omega]; exact hl
      have hlayl : (lay arr (k * size) cs).length = arr.length := aC6 _ _ _ aA
      rw [nZ, aW3 (off := k * size) (vs := cs) hc.1 (by rw [hcl]) aA, aB6 size us css (k + 1) _ hc.2 (fun c h => hs c (by simp [h])) (by rw [hlayl, AM]; exact hl2)]
      congr 2
      have e1 : (k + 1) * size = k * size + cs.length := by rw [AM, hcl]; omega
      rw [e1] at hl2 ⊢
      simp only [lay, Bo]
      have t1 : (arr.take (k * size)).length = k * size := by simp; omega
      rw [AD fU, Ad fU]
      rw [BW]
      rw [AG fU]
      simp only [Ay, Ao, Aa, BR]
      congr 4
      omega
inductive Flat1:CV->D1->Prop
 | agg (cs:D1):Flat1 (.agg cs) cs
 | one {c:CV} (h:c.one=true):Flat1 c [c]
theorem Flat1.rep {ok:Nat->Prop} {w:World} {c:CV} {cs:D1} (h:Flat1 c cs) {u:Value} (hu:RepC ok w c u):RepCs ok w cs u.cells.toList/\∀x∈u.cells.toList,x.oneCell'=true:=by
 cases h with
 | agg =>
  simp only [RepC] at hu
  obtain ⟨us,rfl,h2,h3⟩:=hu
  exact ⟨by simpa [Value.cells] using h2,by simpa [Value.cells] using h3⟩
 | one h1 =>
  rw [(hu.one h1).2]
  exact ⟨⟨u,[],rfl,hu,rfl⟩,by simpa using (hu.one h1).1⟩
inductive FlatL:D1->List (D1)->Prop
 | nil:FlatL [] []
 | cons {c:CV} {cs:D1} {l:D1} {ls:List (D1)} (h:Flat1 c cs) (hl:FlatL l ls):FlatL (c::l) (cs::ls)
theorem FlatL.rep {ok:Nat->Prop} {w:World}:∀{l:D1} {ls:List (D1)},FlatL l ls->∀{us:Do},RepCs ok w l us->(us.map (·.cells.toList)).map List.length=ls.map List.length/\RepCs ok w ls.flatten (us.map (·.cells.toList)).flatten/\∀x∈(us.map (·.cells.toList)).flatten,x.oneCell'=true
 | _,_,.nil,us,h=>by simp only [RepCs] at h;subst h;simp [RepCs]
 | _,_,.cons h hl,us,hu=>by
  simp only [RepCs] at hu
  obtain ⟨u,us',rfl,h2,h3⟩:=hu
  obtain ⟨k1,k2,k4⟩:=hl.rep h3
  obtain ⟨k3,k5⟩:=h.rep h2
  refine ⟨?_,?_,?_⟩
  ·simp only [AH,k1,List.cons.injEq,and_true]
   exact k3.length
  ·simp only [AH,Bo]
   exact k3.append k2
  ·intro x hx
   simp only [AH,Bo] at hx
   rcases Az.1 hx with hx|hx
   ·exact k5 x hx
   ·exact k4 x hx
theorem cB1 (tb : bQ P tab) {e e' : TyE} {E size n : Nat} {parts : List (Nat × Operand)} {xs : Dy} {cs : D1} {ls : List (D1)} {all : D1} (hT : aS tab T = some e) (hk : e.kind = .slice E) (hE : aS tab E = some e') (hs : Nat.beq e'.size size = true) (hz : Nat.beq e'.zero.length size = true) (hp : Nat.blt 0 size = true) (hpt : parts = nZ 0 xs) (hn : Nat.beq xs.length n = true) (h0 : Nat.blt 0 n = true) (hle : Nat.ble (n * size) 16777216 = true)
    (hx : eX ev xs = some cs) (hfl : FlatL cs ls) (hsz : ls.all (fun l => Nat.beq l.length size) = true) (hall : ls.flatten = all) : Adds P ⟨d, .buildSlice T n parts.toArray, ty, pos, aft, gd⟩ ev h (.own i 0 n size true) [(i, .row E all)] i (i + 1) := by
  subst hall hpt
  refine iO rfl fun B dom M H w a hh hcc he => ?_
  have hargs : RepCs (bF B dom M H) w cs (xs.map a.eval) := RepL.toC (C := ⟨dom, M, bF B dom M H, w⟩) (gD he tV)
  obtain ⟨k1, k2, hon⟩ := hfl.rep hargs
  have hs' := Ae hs
  have hz' := Ae hz
  have hn' := Ae hn
  have hp' : 0 < size := by simpa using hp
  have h0' : 0 < n := by simpa using h0
  have hle' : n * size <= 16777216 := by simpa using hle
  obtain ⟨ti, zv, hi, hzv, hszt, hby, hzc⟩ := jS (aM tb hE)
  have hzs : zv.cells.size = size := by rw [<- A9, hzc, hz']
  have hsizes : ∀ l ∈ (xs.map a.eval).map (·.cells.toList), l.length = size := by
    intro l hl
    have h1 : l.length ∈ ((xs.map a.eval).map (·.cells.toList)).map List.length := BG.2 ⟨l, hl, rfl⟩
    rw [k1] at h1
    obtain ⟨l', hl', he'⟩ := BG.1 h1
    rw [<- he']
    exact Ae (Aw.1 hsz l' hl')
  have hmul : 0 < n * size := Nat.mul_pos h0' hp'
  have hfill2 := aB6 size (xs.map a.eval) _ 0 (((Array.range (n * size)).map (zv.cells[· % zv.cells.size]!)).toList) rfl hsizes (by simp [hn'])
  have hflen : ((xs.map a.eval).map (·.cells.toList)).flatten.length = n * size := by
    have := k2.length
    rw [this]
    have : ∀ (ls : List (D1)), (∀ l ∈ ls, l.length = size) -> ls.flatten.length = ls.length * size := by
      intro ls
      induction ls with
      | nil => simp
      | cons l ls ih => intro hh; simp only [Bo, Aa, Au]; rw [hh l aU, ih (fun l h => hh l (by simp [h])), AM]; omega
    rw [this ls (fun l hl => Ae (Aw.1 hsz l hl))]
    have h3 : ls.length = (xs.map a.eval).length := by
      have := congrArg List.length k1
      simpa using this.symm
    rw [h3]; simp [hn']
  rw [Cf, oD _ _ (by rw [hflen]; simp)] at hfill2
  rw [Array.toArray_toList] at hfill2
  refine ⟨.slice (some ⟨w.heap.size, 0, none⟩) n n, w.alloc (.cells ((xs.map a.eval).map (·.cells.toList)).flatten.toArray E), some w.heap.size, ?_, fP _ _, fun g hg => by injection hg with hg; omega, fun C hext hw hd hM => ⟨.inr ⟨w.heap.size, _, [], rfl, ?_, RepCs.mono hext.ok _ _ k2, hon⟩, hd, .inr (.inl ⟨w.heap.size, n, hM, rfl, Ah _, ?_, fun _ => ⟨E, ?_⟩⟩)⟩⟩
  · have hpm : ((nZ 0 xs).toArray.map fun p => (p.1, a.eval p.2)).toList = nZ 0 (xs.map a.eval) := by rw [<- aI9]; simp
    have hne : ¬ n * size = 0 := by omega
    have hle2 : ¬ n * size > 2 ^ 24 := by simpa using hle'
    simp only [execOp, Instr.buildSlice, Sem.run_bind, run_underlying ((aM tb hT).slice hk), Result.andThen_ok, (aM tb hE).sizeOf w, hs']
    simp only [hle2, hne, AQ, Sem.run_bind, Sem.run_pure, Result.andThen_ok]
    rw [show (Array.map (fun x => (x.fst, a.eval x.snd)) (nZ 0 xs).toArray).toList = nZ 0 (xs.map a.eval) from hpm]
    simp only [zeroValue, typeInfo, Sem.run_bind, run_program, Result.andThen_ok, hi, Sem.run_pure, hzv]
    rw [hfill2]
    simp [newRow]
  · rw [hw, A4]; exact heap_alloc_new w _
  · have : n <= n * size := Nat.le_mul_of_pos_right _ hp'
    simp only [maxLen]; omega
  · unfold World.shape?
    rw [hw, heap_alloc_new]
    simp only [A1, Aq]
    rw [hflen]
end ops
end
section
def cX1 (ok:Nat->Prop) (w:World) (size k:Nat) (ys:D1) (u:Value):Prop :=
 ∃A c us,u = .slice A k c/\ys.length=k*size/\RepCs ok w ys us/\(∀u∈us,u.oneCell'=true)/\(0<k->∃b o,A=some ⟨b,o,none⟩/\∀j x,us[j]? = some x->w.cell? ⟨b,o+j,none⟩=some x)
def Src (h:aO) (v:AV) (size k:Nat) (ys:D1):Prop :=
 ∀(B:Bs) (dom:Nat->Prop) (M:Nat->Dz) (H:Nat->Option AObj) (w:World) (u:Value),(∀id o,lk h id=some o->dom id->H id=some o)->ConcH B dom M H w->Rep ⟨dom,M,bF B dom M H,w⟩ v u->cX1 (bF B dom M H) w size k ys u
section src
variable {h:aO}
theorem dU9 {size k:Nat} {ys:D1}:Src h (.c (.sl size k ys)) size k ys:=by
 intro B dom M H w u hh hc hu
 simp only [Rep,RepC] at hu
 obtain ⟨A,c,us,h1,h2,h3,h4,h5,h6,h7⟩:=hu
 exact ⟨A,c,us,h1,h4,h5,h6,fun hk=>let ⟨b,o,e,_,_,hcell⟩:=h7 hk;⟨b,o,e,hcell⟩⟩
theorem dI8 {id off k size:Nat} {full:Bool} {T:Du} {cs ys:D1} (ho:lk h id=some (.row T cs)) (hy:(cs.drop off).take (k*size)=ys) (hl:ys.length=k*size):Src h (.own id off k size full) size k ys:=by
 intro B dom M H w u hh hc hu
 simp only [Rep] at hu
 obtain ⟨hd,hu⟩:=hu
 have hz:k=0->ys=[]:=fun h0=>An (by rw [hl,h0];simp)
 rcases hu with ⟨h1,h2,h3,h4⟩|⟨g,cp,h1,h2,h3,h4,h5⟩|⟨h1,h2,A,cp,h3,h4⟩
 ·rw [hz h1] at hl ⊢
  exact ⟨none,0,[],by rw [h4,h1],hl,by simp [RepCs],by simp,fun hn=>absurd hn aA⟩
 ·obtain ⟨us,vs,hb,hr,hon⟩:=fI hh hc ho hd h1
  have h6:=(hr.drop off).take (k*size)
  rw [hy] at h6
  refine ⟨_,cp,(us.drop off).take (k*size),h2,hl,h6,fun u hu=>hon u (Bf (AI hu)),fun hn=>⟨g,off,rfl,fun j x hj=>?_⟩⟩
  have hjk:j<k*size:=by
   rcases AE j (k*size) with h1|h1
   ·exact h1
   ·rw [AO kE] at hj;cases hj
  rw [Be hjk,AR] at hj
  exact jE hb hj
 ·rw [hz h1] at hl ⊢
  exact ⟨A,cp,[],by rw [h3,h1],hl,by simp [RepCs],by simp,fun hn=>absurd hn aA⟩
theorem cU6 {id k size:Nat} {full:Bool} {T:Du} {cs:D1} (ho:lk h id=some (.row T cs)) (hl:cs.length=k*size):Src h (.own id 0 k size full) size k cs :=
 dI8 ho cF7 hl
end src
section app
variable {P:Dv} {tab:Tab}
section
variable {w : World} {T ty E : Du} {ti : TypeInfo} {z : Value} (ht : P.underlying T = some (.slice E)) (hi : P.info? E = some ti) (hz : ti.zero = some z) (hzs : z.cells.size = ti.size)
include w T ty E ti z ht hi hz hzs
theorem bR0 {g n cap : Nat} {us vs : Do} (hg : w.heap[g]? = some (.cells (us ++ vs).toArray E (0, 0))) (hul : us.length = n * ti.size) (hcap : (us ++ vs).length = cap * ti.size) (hnc : n <= cap) (hcm : cap <= maxLen)
    {ok : Nat -> Prop} {m : Nat} {ys : D1} {u : Value} (hu : cX1 ok w ti.size m ys u) (h63 : n + m <= maxLen) (hb : (n + m) * ti.bytes <= 140737488355328) :
    ∃ news, RepCs ok w ys news /\ (∀ x ∈ news, x.oneCell' = true) /\
      ((∃ vs', (Builtin.append_ #[T, T] ty #[.slice (some ⟨g, 0, none⟩) n cap, u]).run P w = .ok (.slice (some ⟨g, 0, none⟩) (n + m) cap) (w.setRow g ((us ++ news) ++ vs').toArray) /\ ((us ++ news) ++ vs').length = (us ++ vs).length /\ n + m <= cap) \/
       (∃ cap' vs' w', (Builtin.append_ #[T, T] ty #[.slice (some ⟨g, 0, none⟩) n cap, u]).run P w = .ok (.slice (some ⟨w.heap.size, 0, none⟩) (n + m) cap') w' /\ Below w.heap.size w w' /\ w'.heap[w.heap.size]? = some (.cells ((us ++ news) ++ vs').toArray E (0, 0)) /\ ((us ++ news) ++ vs').length = cap' * ti.size /\ n + m <= cap' /\ cap' <= maxLen)) := by
  obtain ⟨A, c, news, rfl, h4, h5, h6, h7⟩ := hu
  have hnl := h5.length
  refine ⟨news, h5, h6, ?_⟩
  rcases A with _ | ad
  · have hm : m = 0 := by
      rcases BC m with h0 | h0
      · exact h0
      · obtain ⟨b, o, he, _⟩ := h7 h0; cases he
    subst hm
    have : news = [] := An (by rw [hnl, h4]; simp)
    subst this
    refine .inl ⟨vs, ?_, by simp, by omega⟩
    rw [A4, setRow_self w g _ E (0, 0) hg]
    simp [Builtin.append_, run_underlying ht, sizeOf, typeInfo, hi, Builtin.lenOf, Builtin.firstCells, hnc, storeCells]
  · have hcells : ∀ j x, news[j]? = some x -> w.cell? (ad.add j) = some x := by
      intro j x hx
      rcases BC m with h0 | h0
      · subst h0
        have : news = [] := An (by rw [hnl, h4]; simp)
        subst this
        simp at hx
      · obtain ⟨b, o, he, hc⟩ := h7 h0
        injection he with he
        subst he
        rw [iG]
        exact hc j x hx
    have hl : news.length = m * ti.size := by rw [hnl, h4]
    by_cases hroom : n + m <= cap
    · have hfit : n * ti.size + news.length <= (us ++ vs).toArray.size := by
        rw [hl, <- AM, A1, hcap]; exact Bj _ hroom
      have hr := run_append_room (P := P) w T ty E ti ht hi g n cap _ hg ad m c news hl hcells h6 hroom hfit
      simp only [A1] at hfit
      refine .inl ⟨vs.drop news.length, ?_, ?_, hroom⟩
      · rw [hr]
        congr 3
        simp only [Ci]
        rw [AD aA, Ad aA]
        rw [BW, AG aA]
        simp only [Ay, hul]
        congr 2
        omega
      · simp only [Aa, A0] at hfit ⊢; omega
    · have holds : ∀ j x, us[j]? = some x -> w.cell? ((⟨g, 0, none⟩ : Addr).add j) = some x := fun j x hx => by rw [iG, Aq]; exact jE hg hx
      have hr := run_append_grow (P := P) w T ty E ti z ht hi hz ⟨g, 0, none⟩ n cap us hul holds ad m c news hl hcells aA bM6 (growslice_fits aA hb)
      have hge := grownCap_ge w (n + m) cap E
      have hle := grownCap_le_maxLen w (n + m) cap E h63
      refine .inr ⟨_, (Builtin.zeroCells z.cells (grownCap w (n + m) cap E - (n + m))).toList, _, hr, ?_, ?_, ?_, hge, hle⟩
      · exact cZ5
      · rw [show w.heap.size = w.drew.heap.size from rfl, heap_alloc_new]
        congr 2
        apply BV.1
        simp
      · simp only [Aa, A9, size_zeroCells, hzs, hl, hul, <- AM]
        congr 1; omega
theorem aZ4
    {ok : Nat -> Prop} {m : Nat} {ys : D1} {u : Value} (hu : cX1 ok w ti.size m ys u) (h63 : m <= maxLen) (hb : m * ti.bytes <= 140737488355328) :
    ∃ news, RepCs ok w ys news /\ (∀ x ∈ news, x.oneCell' = true) /\
      ((m = 0 /\ (Builtin.append_ #[T, T] ty #[.slice none 0 0, u]).run P w = .ok (.slice none 0 0) w) \/
       (∃ cap' vs' w', (Builtin.append_ #[T, T] ty #[.slice none 0 0, u]).run P w = .ok (.slice (some ⟨w.heap.size, 0, none⟩) m cap') w' /\ Below w.heap.size w w' /\ w'.heap[w.heap.size]? = some (.cells (news ++ vs').toArray E (0, 0)) /\ (news ++ vs').length = cap' * ti.size /\ m <= cap' /\ cap' <= maxLen)) := by
  obtain ⟨A, c, news, rfl, h4, h5, h6, h7⟩ := hu
  have hnl := h5.length
  refine ⟨news, h5, h6, ?_⟩
  by_cases h0 : m = 0
  · subst h0
    have : news = [] := An (by rw [hnl, h4]; simp)
    subst this
    refine .inl ⟨rfl, ?_⟩
    rcases A with _ | ad
    · simp [Builtin.append_, run_underlying ht, sizeOf, typeInfo, hi, Builtin.lenOf, Builtin.firstCells]
    · simp [Builtin.append_, run_underlying ht, sizeOf, typeInfo, hi, Builtin.lenOf, Builtin.firstCells, loadCells, loadCellsFrom]
  · obtain ⟨b, o, rfl, hc⟩ := h7 aA
    have hr := run_append_nil (P := P) w T ty E ti z ht hi hz ⟨b, o, none⟩ m c news (by rw [hnl, h4]) (fun j x hx => by rw [iG]; exact hc j x hx) aA bM6 aA
    have hge := grownCap_ge w m 0 E
    have hle := grownCap_le_maxLen w m 0 E h63
    refine .inr ⟨_, (Builtin.zeroCells z.cells (grownCap w m 0 E - m)).toList, _, hr, ?_, ?_, ?_, hge, hle⟩
    · exact cZ5
    · rw [show w.heap.size = w.drew.heap.size from rfl, heap_alloc_new]
      congr 2
      apply BV.1
      simp
    · simp only [Aa, A9, size_zeroCells, hzs, hnl, h4, <- AM]
      congr 1; omega
end
variable {ev:Evl} {h:aO} {d:Dt} {T ty:Du} {x y:Operand} {pos:String} {aft:Ds} {gd:Dn} {i:Nat}
theorem gE {w:World} (ρ:Operand->Value) {v:Value} {w':World} (hr:(Builtin.append_ #[T,T] ty #[ρ x,ρ y]).run P w = .ok v w'):(execOp ρ ⟨d,.call ⟨.builtin .append,#[x,y],#[T,T]⟩,ty,pos,aft,gd⟩).run P w = .ok (.value v) w':=by
 simp only [execOp,resolve,invoke,builtin,Sem.run_bind,Sem.run_pure,Result.andThen_ok,AZ,AH,C7,hr]
end app
section steps
variable {P:Dv} {tab:Tab} {sz n:Nat} {env:Env} {h:aO} {dfs:cD} {K:AK} {ops:Dq} {rest:Dp} {d:Dt} {T ty:Du} {x y:Operand} {pos:String} {aft:Ds} {gd:Dn}
theorem bD5 (tb : bQ P tab) {e e' : TyE} {E size m k id : Nat} {vy : AV} {cs ys : D1} (hg : guardA ops env ⟨d, .call ⟨.builtin .append, #[x, y], #[T, T]⟩, ty, pos, aft, gd⟩ true) (hd : iD d sz = true) (hT : aS tab T = some e) (hk : e.kind = .slice E) (hE : aS tab E = some e') (hs : Nat.beq e'.size size = true) (hz : Nat.beq e'.zero.length size = true)
    (hx : evA env x = some (.own id 0 m size true)) (ho : lk h id = some (.row E cs)) (hcl : cs.length = m * size) (hy : evA env y = some vy) (hf : Src h vy size k ys) (h63 : m + k <= maxLen) (hb : (m + k) * e'.bytes <= 140737488355328)
    (next : AWL P ops sz rest K (n + 1) (gJ env d (.own n 0 (m + k) size true)) ((n, .row E (cs ++ ys)) :: (id, .dead) :: h) dfs) :
    AWL P ops sz (⟨d, .call ⟨.builtin .append, #[x, y], #[T, T]⟩, ty, pos, aft, gd⟩ :: rest) K n env h dfs := by
  intro B a w hc
  obtain ⟨M, c1, c2, c3, c4⟩ := hc
  refine eO fun K' hK' => ?_
  rw [Ak (hg.wanted c3)]
  have hrx := dN c3 x _ hx
  have hry := dN c3 y _ hy
  have hid : id < n := by simp only [Rep] at hrx; exact hrx.1
  have h2 := hf B (lt n) M (lk h) w _ (fun id o h _ => h) c1 hry
  obtain ⟨ti, zv, hi, hzv, hszt, hby, hzc⟩ := jS (aM tb hE)
  have hs' := Ae hs
  have hz' := Ae hz
  have hzs : zv.cells.size = ti.size := by rw [<- A9, hzc, hz', hszt, hs']
  rw [<- hs', <- hszt] at h2
  have hsl := (aM tb hT).slice hk
  have fin : ∀ (w' : World) (gq : Dz) (u : Value), w'.os = w.os -> w'.tape = w.tape -> w'.output = w.output -> w.heap.size <= w'.heap.size -> (∀ b, b < w.heap.size -> M id ≠ some b -> w'.heap[b]? = w.heap[b]?) -> (∀ b s, w.shape? b = some s -> w'.shape? b = some s) ->
      (∀ g, gq = some g -> M id = some g \/ w.heap.size <= g) ->
      (∀ C, Ext (cx B n M h w) C -> C.w = w' -> C.dom n -> C.M n = gq -> ObjRep C gq (.row E (cs ++ ys)) /\ Rep C (.own n 0 (m + k) size true) u) ->
      K' (a.put d u) w' := by
    intro w' gq u e1 e2 e3 e4 e5 e6 e7 e8
    let M' : Nat -> Dz := fun q => if q = n then gq else M q
    let h' : aO := (n, .row E (cs ++ ys)) :: (id, .dead) :: h
    have hMn : M' n = gq := by simp [M']
    have hMo : ∀ q, q < n -> M' q = M q := fun q hq => by have : q ≠ n := by omega
                                                          simp [M', this]
    have hln : lk h' n = some (.row E (cs ++ ys)) := by simp only [h', cA, Bu]; rfl
    have hlid : lk h' id = none := by simp only [h', cA]; rw [Aj aA]; simp [AObj.live]
    have hlo : ∀ q, q < n -> q ≠ id -> lk h' q = lk h q := fun q hq hqi => by simp only [h', cA]; rw [Aj aA, Aj (fun e => hqi e.symm)]
    have hobj : ∀ q o, q < n + 1 -> lk h' q = some o -> (q = n /\ o = .row E (cs ++ ys)) \/ (q < n /\ q ≠ id /\ lk h q = some o) := fun q o hq hH => by
      by_cases hqn : q = n
      · subst hqn; rw [hln] at hH; injection hH with hH; exact .inl ⟨rfl, hH.symm⟩
      · have hqn' : q < n := by omega
        by_cases hqi : q = id
        · subst hqi; rw [hlid] at hH; cases hH
        · rw [hlo q hqn' hqi] at hH; exact .inr ⟨hqn', hqi, hH⟩
    have hext : Ext (cx B n M h w) (cx B (n + 1) M' h' w') := by
      refine ⟨fun q hq => ⟨CW hq, hMo q hq⟩, fun b hb1 hb2 => ⟨⟨hb1.1, fun q o hq hH he => ?_⟩, A3 hb2 e4, e5 b hb2 (fun he => hb1.2 id _ hid ho he)⟩, shp fun b s hbs => e6 b s hbs⟩
      rcases hobj q o hq hH with ⟨rfl, rfl⟩ | ⟨h1, h3, h4⟩
      · rw [hMn] at he
        rcases e7 b he with h1 | h1
        · exact hb1.2 id _ hid ho h1
        · simp only [cx] at hb2; omega
      · rw [hMo q h1] at he; exact hb1.2 q o h1 h4 he
    have e8' := e8 _ hext rfl (Bk n) hMn
    have hcc : ConcH B (lt (n + 1)) M' (lk h') w' := by
      refine ⟨⟨e1.trans c1.fr.os, e2.trans c1.fr.tape, e3.trans c1.fr.output, At c1.fr.size e4, fun b h1 h3 => ?_⟩, fun q o hq hH => ?_, fun q q' o o' g h1 h3 h4 h5 h6 h7 => ?_, fun q o g hq hH he => ?_⟩
      · rw [e5 b (A3 h1 c1.fr.size) (fun he => ?_)]
        · exact c1.fr.block b h1 h3
        · rcases c1.lo id _ b hid ho he with h4 | h4
          · omega
          · exact h3 h4
      · rcases hobj q o hq hH with ⟨rfl, rfl⟩ | ⟨h1, h3, h4⟩
        · rw [hMn]; exact e8'.1
        · rw [hMo q h1]
          have h5 := c1.obj q o h1 h4
          exact h5.ext hext (fun b hb => e5 b (h5.lt b hb) (fun he => h3 (c1.inj q id o _ b h1 hid h4 ho hb he)))
      · rcases hobj q o h1 h4 with ⟨rfl, rfl⟩ | ⟨p1, p2, p3⟩ <;> rcases hobj q' o' h3 h5 with ⟨rfl, rfl⟩ | ⟨r1, r2, r3⟩
        · rfl
        · rw [hMn] at h6; rw [hMo q' r1] at h7
          rcases e7 g h6 with t1 | t1
          · exact absurd (c1.inj q' id o' _ g r1 hid r3 ho h7 t1) r2
          · have := (c1.obj q' o' r1 r3).lt g h7; simp only at this; omega
        · rw [hMn] at h7; rw [hMo q p1] at h6
          rcases e7 g h7 with t1 | t1
          · exact absurd (c1.inj q id o _ g p1 hid p3 ho h6 t1) p2
          · have := (c1.obj q o p1 p3).lt g h6; simp only at this; omega
        · rw [hMo q p1] at h6; rw [hMo q' r1] at h7
          exact dX3
      · rcases hobj q o hq hH with ⟨rfl, rfl⟩ | ⟨h1, h3, h4⟩
        · rw [hMn] at he
          rcases e7 g he with t1 | t1
          · exact c1.lo id _ g hid ho t1
          · have := c1.fr.size; exact .inl aA
        · rw [hMo q h1] at he; exact c1.lo q o g h1 h4 he
    obtain ⟨p1, p2, p3⟩ := kV (h' := h') (M' := M') c2 c3 hext (fD hd) e8'.2
    exact hK' _ _ (next B _ _ ⟨M', hcc, p1, p2, by rw [p3]; exact c4.ext hext⟩)
  unfold Oper.wp
  simp only [Rep] at hrx
  rcases hrx.2 with ⟨q1, q2, q3, q4⟩ | ⟨g, cp, q1, q2, q3, q4, q5⟩ | ⟨_, q2, _⟩
  · subst q1
    obtain rfl : cs = [] := An (by simpa using hcl)
    obtain ⟨news, n1, n2, n3⟩ := aZ4 (P := P) (ty := ty) hsl hi hzv hzs h2 (by simpa using h63) (by rw [hby]; simpa using hb)
    rcases n3 with ⟨r1, hr⟩ | ⟨cap', vs', w', hr, hb', hblk, hlen, hc1, hc2⟩
    · have hys : ys = [] := An (by
        obtain ⟨_, _, _, _, h4, _⟩ := h2
        rw [h4, r1]; simp)
      rw [gE a.eval (w' := w) (v := .slice none 0 0) (by rw [q4]; exact hr)]
      simp only [Oper.upon]
      refine fin w none _ rfl rfl rfl (Ah _) (fun _ _ _ => rfl) (fun _ _ h => h) aU (fun C hext hw hdn hMn => ⟨.inl ⟨rfl, by rw [hys]; rfl⟩, hdn, .inl ⟨by omega, rfl, hMn, rfl⟩⟩)
    · rw [gE a.eval (w' := w') (v := .slice (some ⟨w.heap.size, 0, none⟩) k cap') (by rw [q4]; exact hr)]
      simp only [Oper.upon]
      refine fin w' (some w.heap.size) _ hb'.os hb'.tape hb'.output hb'.size (fun b hb2 _ => hb'.block b hb2) (fun b s hs => by rw [eC (hb'.block b (jM hs))]; exact hs) (fun g hg => by injection hg with hg; exact .inr aA) (fun C hext hw hdn hMn => ⟨.inr ⟨w.heap.size, news, vs', rfl, by rw [hw]; exact hblk, ?_, n2⟩, hdn, .inr (.inl ⟨w.heap.size, cap', hMn, by simp, by omega, hc2, fun _ => ⟨E, ?_⟩⟩)⟩)
      · rw [Ay]
        exact RepCs.mono hext.ok _ _ n1
      · unfold World.shape?
        rw [hw, hblk]
        simp only [A1, Aq]
        rw [hlen, hszt, hs']
  · obtain ⟨us, vs, hblk0, hus, hon⟩ := fI (fun id o h _ => h) c1 ho hid q1
    obtain ⟨e0, hsh⟩ := q5 trivial
    have hcap : (us ++ vs).length = cp * ti.size := by
      have hsh' : w.shape? g = some (E, (us ++ vs).length) := by
        unfold World.shape?
        rw [hblk0]; simp
      simp only [cx] at hsh
      rw [hsh'] at hsh
      injection hsh with hsh
      have := congrArg Prod.snd hsh
      simp only [Aq] at this
      rw [this, hszt, hs']
    obtain ⟨news, n1, n2, n3⟩ := bR0 (P := P) (ty := ty) hsl hi hzv hzs hblk0 cG3 hcap q3 q4 h2 h63 (by rw [hby]; exact hb)
    rcases n3 with ⟨vs', hr, hlen, hroom⟩ | ⟨cap', vs', w', hr, hb', hblk, hlen, hc1, hc2⟩
    · rw [gE a.eval (v := .slice (some ⟨g, 0, none⟩) (m + k) cp) (by rw [q2]; exact hr)]
      simp only [Oper.upon]
      have hnew := setRow_heap w g _ ((us ++ news) ++ vs').toArray E _ hblk0
      have hshp : ∀ b s, w.shape? b = some s -> (w.setRow g ((us ++ news) ++ vs').toArray).shape? b = some s := fun b s hs => by
        by_cases hbg : b = g
        · subst hbg
          rw [<- hs]
          unfold World.shape?
          rw [hnew, hblk0]
          simp only [A1, hlen]
        · rw [eC (setRow_other w g b _ hbg)]; exact hs
      refine fin _ (some g) _ rfl rfl rfl aU (fun b _ hb2 => setRow_other w g b _ (fun e => hb2 (by rw [e]; exact q1))) hshp (fun g' hg' => by injection hg' with hg'; subst hg'; exact .inl q1) (fun C hext hw hdn hMn => ⟨.inr ⟨g, us ++ news, vs', rfl, by rw [hw]; exact hnew, RepCs.mono hext.ok _ _ (hus.append n1), fun u hu => (Az.1 hu).elim (hon u) (n2 u)⟩, hdn, .inr (.inl ⟨g, cp, hMn, rfl, hroom, q4, fun _ => ⟨e0, ?_⟩⟩)⟩)
      rw [hw]
      exact hshp _ _ hsh
    · rw [gE a.eval (v := .slice (some ⟨w.heap.size, 0, none⟩) (m + k) cap') (w' := w') (by rw [q2]; exact hr)]
      simp only [Oper.upon]
      refine fin w' (some w.heap.size) _ hb'.os hb'.tape hb'.output hb'.size (fun b hb2 _ => hb'.block b hb2) (fun b s hs => by rw [eC (hb'.block b (jM hs))]; exact hs) (fun g hg => by injection hg with hg; exact .inr aA) (fun C hext hw hdn hMn => ⟨.inr ⟨w.heap.size, us ++ news, vs', rfl, by rw [hw]; exact hblk, RepCs.mono hext.ok _ _ (hus.append n1), fun u hu => (Az.1 hu).elim (hon u) (n2 u)⟩, hdn, .inr (.inl ⟨w.heap.size, cap', hMn, rfl, hc1, hc2, fun _ => ⟨E, ?_⟩⟩)⟩)
      unfold World.shape?
      rw [hw, hblk]
      simp only [A1, Aq]
      rw [hlen, hszt, hs']
  · cases q2
theorem cC1 (tb : bQ P tab) {e e' : TyE} {E T' Tb size k m id off : Nat} {full : Bool} {vy : AV} {cs ys : D1} (hg : guardA ops env ⟨d, .call ⟨.builtin .copy, #[x, y], #[T, T']⟩, ty, pos, aft, gd⟩ true) (hd : iD d sz = true) (hT : aS tab T = some e) (hk : e.kind = .slice E) (hE : aS tab E = some e') (hs : Nat.beq e'.size size = true)
    (hx : evA env x = some (.own id off k size full)) (ho : lk h id = some (.row Tb cs)) (hy : evA env y = some vy) (hf : Src h vy size m ys) (hmk : m <= k) (hfit : off + m * size <= cs.length)
    (next : AWL P ops sz rest K n (gJ env d (.c (.v (.int .i64 m)))) ((id, .row Tb (lay cs off ys)) :: h) dfs) :
    AWL P ops sz (⟨d, .call ⟨.builtin .copy, #[x, y], #[T, T']⟩, ty, pos, aft, gd⟩ :: rest) K n env h dfs := by
  intro B a w hc
  obtain ⟨M, c1, c2, c3, c4⟩ := hc
  refine eO fun K' hK' => ?_
  rw [Ak (hg.wanted c3)]
  have hrx := dN c3 x _ hx
  obtain ⟨A, c, news, hu, h4, h5, h6, h7⟩ := hf B (lt n) M (lk h) w _ (fun id o h _ => h) c1 (dN c3 y _ hy)
  have hnl := h5.length
  have hs' := Ae hs
  have hsz := (aM tb hE).sizeOf w
  rw [hs'] at hsz
  have hsl := (aM tb hT).slice hk
  have hid : id < n := by simp only [Rep] at hrx; exact hrx.1
  have hslice : ∃ Ax cx', a.eval x = .slice Ax k cx' := by
    simp only [Rep] at hrx
    obtain ⟨_, ⟨h1, _, _, h4⟩ | ⟨g, cp, _, h2, _⟩ | ⟨h1, _, A, cp, h3, _⟩⟩ := hrx
    · exact ⟨none, 0, by rw [h4, h1]⟩
    · exact ⟨_, _, h2⟩
    · exact ⟨A, cp, by rw [h3, h1]⟩
  have fin : ∀ (w' : World), ConcH B (lt n) M (lk ((id, .row Tb (lay cs off ys)) :: h)) w' -> Ext (cx B n M h w) (cx B n M ((id, .row Tb (lay cs off ys)) :: h) w') -> K' (a.put d (.int .i64 m)) w' := fun w' k1 k2 => by
    obtain ⟨p1, p2, p3⟩ := kV (v := .c (.v (.int .i64 m))) (u := .int .i64 m) (M' := M) (h' := (id, .row Tb (lay cs off ys)) :: h) (n' := n) c2 c3 k2 (fD hd) rfl
    exact hK' _ _ (next B _ _ ⟨M, k1, p1, p2, by rw [p3]; exact c4.ext k2⟩)
  unfold Oper.wp
  rcases BC m with h0 | h0
  · subst h0
    have hys : ys = [] := An (by rw [h4]; simp)
    subst hys
    have hnews : news = [] := An (by rw [hnl]; simp)
    obtain ⟨Ax, cx', hx'⟩ := hslice
    have hrun : (execOp a.eval ⟨d, .call ⟨.builtin .copy, #[x, y], #[T, T']⟩, ty, pos, aft, gd⟩).run P w = .ok (.value (.int .i64 (0 : Nat))) w := by
      cases A with
      | none => cases Ax <;> simp [execOp, resolve, invoke, builtin, Builtin.copy_, hx', hu, run_underlying hsl, Builtin.lenOf, Builtin.firstCells, hsz, storeCells, goInt]
      | some p => cases Ax <;> simp [execOp, resolve, invoke, builtin, Builtin.copy_, hx', hu, run_underlying hsl, Builtin.lenOf, Builtin.firstCells, hsz, storeCells, goInt, loadCells, loadCellsFrom]
    rw [hrun]
    simp only [Oper.upon]
    have hlay : lay cs off ([] : D1) = cs := by simp [lay]
    have hlk : lk ((id, .row Tb (lay cs off ([] : D1))) :: h) = lk h := by
      funext q
      rw [cA, hlay]
      split
      · rename_i e; subst e; exact ho.symm
      · rfl
    refine fin w (by rw [hlk]; exact c1) ?_
    unfold cx
    rw [hlk]
    exact Ext.refl _
  · obtain ⟨hidd, g, cp, q1, q2, q3, q4, _⟩ := aX6 hrx aA
    obtain ⟨us, vs, hb, hus, hon⟩ := fI (fun id o h _ => h) c1 ho hid q1
    obtain ⟨b, o, rfl, hcell⟩ := h7 h0
    have hul := hus.length
    have hl : news.length = m * size := by rw [hnl, h4]
    have hfc := run_firstCells_some (P := P) w size m ⟨b, o, none⟩ m c news hl (fun j x hx => by rw [iG]; exact hcell j x hx)
    have hst := run_storeCells_at P g off Tb news 0 (us ++ vs).toArray w hb fU h6
    simp only [Ck, Ci] at hst
    have hset : (us ++ vs).take off ++ news ++ (us ++ vs).drop (off + news.length) = lay us off news ++ vs := by
      rw [AD aA, B7 aA]
      simp [lay]
    rw [hset] at hst
    have hmin : Nat.min m k = m := B0 hmk
    have hrun : (execOp a.eval ⟨d, .call ⟨.builtin .copy, #[x, y], #[T, T']⟩, ty, pos, aft, gd⟩).run P w = .ok (.value (.int .i64 m)) (w.setRow g (lay us off news ++ vs).toArray) := by
      simp only [execOp, resolve, invoke, builtin, Sem.run_bind, Sem.run_pure, Result.andThen_ok, AZ, AH, C7, q2, hu, Builtin.copy_]
      simp [run_underlying hsl, Builtin.lenOf, hmin, hsz, hfc, hst, goInt]
    rw [hrun]
    simp only [Oper.upon]
    obtain ⟨k1, k2⟩ := c1.turn (o' := .row Tb (lay cs off ys)) (w' := w.setRow g (lay us off news ++ vs).toArray) rfl hid ho q1 rfl rfl rfl aU (fun k hk => setRow_other w g k _ hk) (fE hb (by rw [Aa, aC6 _ _ _ aA, Aa]))
      (fun hext => .inr ⟨g, _, vs, rfl, setRow_heap w g _ _ Tb _ hb, RepCs.mono hext.ok _ _ (by
        unfold lay
        rw [hnl]
        exact ((hus.take off).append h5).append (hus.drop (off + ys.length))), fun u hu => by
          unfold lay at hu
          rcases Az.1 hu with hu | hu
          · rcases Az.1 hu with hu | hu
            · exact hon u (AI hu)
            · exact h6 u hu
          · exact hon u (Bf hu)⟩)
    exact fin _ k1 k2
theorem bT4 {f : FuncId} {caps : D2} (hf : Nat.beq f xB = false) (hg : guardA ops env ⟨none, .defer ⟨.value x, #[], #[]⟩, ty, pos, aft, gd⟩ true) (hx : evA env x = some (.fn f caps))
    (next : AWL P ops sz rest K n env h ((some f, caps) :: dfs)) : AWL P ops sz (⟨none, .defer ⟨.value x, #[], #[]⟩, ty, pos, aft, gd⟩ :: rest) K n env h dfs := by
  intro B a w hc
  obtain ⟨M, c1, c2, c3, c4⟩ := hc
  refine eO fun K' hK' => ?_
  rw [Ak (hg.wanted c3)]
  obtain ⟨us, hu, hus⟩ := dN c3 x _ hx
  unfold Oper.wp
  have hrun : (execOp a.eval ⟨none, .defer ⟨.value x, #[], #[]⟩, ty, pos, aft, gd⟩).run P w = .ok (.defer { target := .fn (.func f) us.toArray, args := #[] }) w := by
    simp [execOp, resolve, hu, Deferred.ofValue]
  rw [hrun]
  simp only [Oper.upon, Act.put]
  exact hK' _ _ (next B _ _ ⟨M, c1, c2, c3, us, _, by rw [aA8 hf], hus, c4⟩)
end steps
end
section
section
variable {next:Nat->Env->aO->cD->Prop} {K:AK} {n:Nat} {env:Env} {h:aO} {dfs:cD} {id id':Nat}
theorem eJ5 (hk:K .normal n env h dfs):xM id K .normal n env h dfs:=hk
theorem dZ6 (hk:K .ret n env h dfs):xM id K .ret n env h dfs:=hk
theorem dZ4 (hb:Nat.beq id' id=true) (hk:K .normal n env h dfs):xM id K (.exit id') n env h dfs:=by simp only [xM,hb];exact hk
theorem dZ5 (hb:Nat.beq id' id=false) (hk:K (.exit id') n env h dfs):xM id K (.exit id') n env h dfs:=by simp only [xM,hb];exact hk
end
theorem w64 {x:Int} (h1 : -9223372036854775808<=x) (h2:x<=9223372036854775807):IntKind.i64.wrap x=x:=by rw [IntKind.wrap_i64];omega
theorem wu8 {x:Int} (h1:0<=x) (h2:x<=255):IntKind.u8.wrap x=x:=by rw [IntKind.wrap_u8];omega
theorem r64 {x y:Int} (h0:0<=x):x.tmod y=x%y:=Cs h0
theorem nt {j:Int} (h:0<=j):j=(j.toNat:Int):=by omega
theorem tL {α:Type} {cs:List α} {k:Nat} (h:cs.length=k):(cs.drop 0).take k=cs:=by rw [AY,Ad aA]
end
section
def sO:Dr->Nat->Bool
 | [],_=>false
 | x::r,t=>match Nat.beq x t with|true=>true|false=>sO r t
theorem rD:∀{l:Dr} {t:Nat},sO l t=true->t∈l
 | [],t,h=>by cases h
 | x::r,t,h=>by
  unfold sO at h
  split at h
  ·rename_i e;rw [Ae e];simp
  ·exact CM _ (rD h)
def evT (ts:Dr) (env:Env):Evl
 | .tmp t=>match sO ts t with|true=>lkE env t|false=>none
 | .const x=>some (.c (.v x))
 | .global _=>none
 | .func f=>some (.fn f [])
theorem aC8:∀{h:aO} {id:Nat} {o:AObj},lk h id=some o->∃p∈h,p.1=id
 | [],id,o,h=>by cases h
 | p::r,id,o,h=>by
  obtain ⟨i,q⟩:=p
  rw [cA] at h
  split at h
  ·rename_i e;exact ⟨(i,q),by simp,e⟩
  ·obtain ⟨p,hp,he⟩:=aC8 h
   exact ⟨p,by simp [hp],he⟩
inductive Chain (P : Dv) (ops : Dq) : Dp -> Env -> aO -> Nat -> D2 -> Dr -> Env -> aO -> Nat -> Prop
  | nil {env : Env} {h : aO} {n : Nat} : Chain P ops [] env h n [] [n] env h n
  | add {o : Oper} {os : Dp} {env E : Env} {h Δ H : aO} {n n' N : Nat} {v : AV} {vs : D2} {ns : Dr} (hg : guardA ops env o true) (hn : n <= n') (hA : Adds P o (evT (o.looksAt ops) env) h v Δ n n') (hcov : ∀ id, n <= id -> id < n' -> (lk Δ id).isSome = true) (hkeys : ∀ p ∈ Δ, n <= p.1 /\ p.1 < n')
      (hr : Chain P ops os (gJ env o.dst v) (Δ ++ h) n' vs ns E H N) : Chain P ops (o :: os) env h n (v :: vs) (n :: ns) E H N
  | skip {o : Oper} {os : Dp} {env E : Env} {h H : aO} {n N : Nat} {vs : D2} {ns : Dr} (hg : guardA ops env o false)
      (hr : Chain P ops os (gJ env o.dst (.c (.v undef))) h n vs ns E H N) : Chain P ops (o :: os) env h n (.c (.v undef) :: vs) (n :: ns) E H N
theorem Chain.le {P:Dv} {ops:Dq} {l:Dp} {env E:Env} {h H:aO} {n N:Nat} {vs:D2} {ns:Dr} (hc:Chain P ops l env h n vs ns E H N):n<=N/\ns[0]? = some n/\ns.length=l.length+1/\vs.length=l.length/\ns[l.length]? = some N/\∀id,id<n->lk H id=lk h id:=by
 induction hc with
 | nil=>exact ⟨Ah _,rfl,rfl,rfl,rfl,fun _ _=>rfl⟩
 | add hg hn hA hcov hkeys hr ih =>
  obtain ⟨h1,h2,h3,h4,h5,h6⟩:=ih
  refine ⟨by omega,rfl,by simp [h3],by simp [h4],by simpa using h5,fun id hid=>?_⟩
  rw [h6 id aA]
  exact lB fun p hp e=>by have:=(hkeys p hp).1;omega
 | skip hg hr ih =>
  obtain ⟨h1,h2,h3,h4,h5,h6⟩:=ih
  exact ⟨h1,rfl,by simp [h3],by simp [h4],by simpa using h5,h6⟩
structure StepAt (P:Dv) (ops:Dq) (l:Dp) (env0:Env) (vs:D2) (ns:Dr) (H:aO) (N i:Nat) (o:Oper) (env:Env) (h Δ : aO) (n n':Nat) (v:AV):Prop where
 step:(guardA ops env o true/\Adds P o (evT (o.looksAt ops) env) h v Δ n n')\/(guardA ops env o false/\v = .c (.v undef)/\n'=n)
 hv:vs[i]? = some v
 hn:ns[i]? = some n
 hn':ns[i+1]? = some n'
 le:n<=n'/\n'<=N
 env:∀t av,lkE env t=some av->(∃j oj,j<i/\l[j]? = some oj/\oj.dst=some t/\vs[j]? = some av)\/(lkE env0 t=some av/\∀j oj,j<i->l[j]? = some oj->oj.dst≠some t)
 old:∀id,id<n->lk H id=lk h id
 new:∀id,n<=id->id<n'->lk H id=lk Δ id
 keys:∀p∈h,p.1<n
section
variable {P : Dv} {ops : Dq} {l : Dp} {env E : Env} {h H : aO} {n N : Nat} {vs : D2} {ns : Dr} (hc : Chain P ops l env h n vs ns E H N)
include P ops l env E h H n N vs ns hc
theorem Chain.get :
    (∀ p ∈ h, p.1 < n) -> ∀ i o, l[i]? = some o -> ∃ env' h' Δ n1 n2 v, StepAt P ops l env vs ns H N i o env' h' Δ n1 n2 v := by
  induction hc with
  | nil => intro _ i o hi; simp at hi
  | @add o os env E h Δ H n n' N v vs ns hg hn hA hcov hkeys hr ih =>
    intro hk0 i o' hi
    have hk1 : ∀ p ∈ Δ ++ h, p.1 < n' := fun p hp => (Az.1 hp).elim (fun hp => (hkeys p hp).2) (fun hp => by have := hk0 p hp; omega)
    have hle := hr.le
    cases i with
    | zero =>
      simp at hi; subst hi
      refine ⟨env, h, Δ, n, n', v, .inl ⟨hg, hA⟩, rfl, rfl, by simpa using hle.2.1, ⟨hn, hle.1⟩, fun t av ht => .inr ⟨ht, fun j oj hj => by omega⟩, fun id hid => ?_, fun id h1 h2 => ?_, hk0⟩
      · rw [hle.2.2.2.2.2 id aA]
        exact lB fun p hp e => by have := (hkeys p hp).1; omega
      · rw [hle.2.2.2.2.2 id aA]
        obtain ⟨q, hq⟩ := AN.1 (hcov id h1 h2)
        rw [nF hq, hq]
    | succ i =>
      obtain ⟨env', h', Δ', n1, n2, v', s⟩ := ih hk1 i o' vM
      refine ⟨env', h', Δ', n1, n2, v', s.step, by simpa using s.hv, by simpa using s.hn, by simpa using s.hn', s.le, fun t av ht => ?_, s.old, s.new, s.keys⟩
      rcases s.env t av ht with ⟨j, oj, h1, h2, h3, h4⟩ | ⟨h1, h2⟩
      · exact bN1
      · cases hd : o.dst with
        | none =>
          rw [hd] at h1
          exact .inr ⟨h1, fun j oj hj hl => by
            cases j with
            | zero => simp at hl; subst hl; rw [hd]; simp
            | succ j => exact h2 j oj aA fY⟩
        | some d =>
          rw [hd] at h1
          simp only [gJ, eZ] at h1
          by_cases hdt : d = t
          · rw [Ak hdt] at h1
            injection h1 with h1
            subst h1
            exact bN2
          · rw [Aj hdt] at h1
            exact .inr ⟨h1, fun j oj hj hl => by
              cases j with
              | zero => simp at hl; subst hl; rw [hd]; intro e; exact hdt (Option.some.inj e)
              | succ j => exact h2 j oj aA fY⟩
  | @skip o os env E h H n N vs ns hg hr ih =>
    intro hk0 i o' hi
    have hle := hr.le
    cases i with
    | zero =>
      simp at hi; subst hi
      exact ⟨env, h, [], n, n, .c (.v undef), .inr ⟨hg, rfl, rfl⟩, rfl, rfl, by simpa using hle.2.1, ⟨Ah _, hle.1⟩, fun t av ht => .inr ⟨ht, fun j oj hj => by omega⟩, fun id hid => hle.2.2.2.2.2 id hid, fun id h1 h2 => by omega, hk0⟩
    | succ i =>
      obtain ⟨env', h', Δ', n1, n2, v', s⟩ := ih hk0 i o' vM
      refine ⟨env', h', Δ', n1, n2, v', s.step, by simpa using s.hv, by simpa using s.hn, by simpa using s.hn', s.le, fun t av ht => ?_, s.old, s.new, s.keys⟩
      rcases s.env t av ht with ⟨j, oj, h1, h2, h3, h4⟩ | ⟨h1, h2⟩
      · exact bN1
      · cases hd : o.dst with
        | none =>
          rw [hd] at h1
          exact .inr ⟨h1, fun j oj hj hl => by
            cases j with
            | zero => simp at hl; subst hl; rw [hd]; simp
            | succ j => exact h2 j oj aA fY⟩
        | some d =>
          rw [hd] at h1
          simp only [gJ, eZ] at h1
          by_cases hdt : d = t
          · rw [Ak hdt] at h1
            injection h1 with h1
            subst h1
            exact bN2
          · rw [Aj hdt] at h1
            exact .inr ⟨h1, fun j oj hj hl => by
              cases j with
              | zero => simp at hl; subst hl; rw [hd]; intro e; exact hdt (Option.some.inj e)
              | succ j => exact h2 j oj aA fY⟩
theorem Chain.envEnd :
    ∀ t av, lkE E t = some av -> (∃ j oj, j < l.length /\ l[j]? = some oj /\ oj.dst = some t /\ vs[j]? = some av) \/ (lkE env t = some av /\ ∀ (j : Nat) (oj : Oper), l[j]? = some oj -> oj.dst ≠ some t) := by
  have key : ∀ {o : Oper} {os : Dp} {env E : Env} {v : AV} {vs : D2}, (∀ t av, lkE E t = some av -> (∃ j oj, j < os.length /\ os[j]? = some oj /\ oj.dst = some t /\ vs[j]? = some av) \/ (lkE (gJ env o.dst v) t = some av /\ ∀ (j : Nat) (oj : Oper), os[j]? = some oj -> oj.dst ≠ some t)) ->
      ∀ t av, lkE E t = some av -> (∃ j oj, j < (o :: os).length /\ (o :: os)[j]? = some oj /\ oj.dst = some t /\ (v :: vs)[j]? = some av) \/ (lkE env t = some av /\ ∀ (j : Nat) (oj : Oper), (o :: os)[j]? = some oj -> oj.dst ≠ some t) := by
    intro o os env E v vs ih t av ht
    rcases ih t av ht with ⟨j, oj, h1, h2, h3, h4⟩ | ⟨h1, h2⟩
    · exact .inl ⟨j + 1, oj, by simp; omega, by simpa using h2, h3, by simpa using h4⟩
    · cases hd : o.dst with
      | none =>
        rw [hd] at h1
        exact .inr ⟨h1, fun j oj hl => by
          cases j with
          | zero => simp at hl; subst hl; rw [hd]; simp
          | succ j => exact h2 j oj fY⟩
      | some d =>
        rw [hd] at h1
        simp only [gJ, eZ] at h1
        by_cases hdt : d = t
        · rw [Ak hdt] at h1
          injection h1 with h1
          subst h1
          exact .inl ⟨0, o, by simp, rfl, by rw [hd, hdt], rfl⟩
        · rw [Aj hdt] at h1
          exact .inr ⟨h1, fun j oj hl => by
            cases j with
            | zero => simp at hl; subst hl; rw [hd]; intro e; exact hdt (Option.some.inj e)
            | succ j => exact h2 j oj fY⟩
  induction hc with
  | nil => intro t av ht; exact .inr ⟨ht, fun j oj hl => by simp at hl⟩
  | add hg hn hA hcov hkeys hr ih => exact key ih
  | skip hg hr ih => exact key ih
end
def cI5 (l:Dp) (t:Nat):Bool:=l.any fun o=>match o.dst with|some d=>Nat.beq d t|none=>false
def aF7:Dp->Bool
 | []=>true
 | o::r=>(match o.dst with|some d => !cI5 r d|none=>true)&&aF7 r
def xH (o:Oper) (j:Nat):Bool:=o.after.any fun e=>Region.binds .any e&&Nat.beq e.on j
def bO7 (l:Dp) (o:Oper) (t:Nat):Bool := !cI5 l t || (List.range l.length).any fun j=>(match l[j]? with|some oj=>(match oj.dst with|some d=>Nat.beq d t|none=>false)&&xH o j|none=>false)
def headB (ops:Dq) (l:Dp):Bool :=
 aF7 l&&(List.range l.length).all fun i=>match l[i]? with
  | some o=>(o.after.all fun e => !Region.binds .any e || Nat.blt e.on i)&&(o.looksAt ops).all fun t=>bO7 l o t
  | none=>true
def nB (m k:Nat):Array Bool:=(List.replicate m true++List.replicate k false).toArray
def tW (l:Dp) (m:Nat):Bool :=
 Nat.ble m l.length&&headB l.toArray (l.take m)&&(Nat.beq m l.length || (Region.sinkB .any l.toArray m&&Region.chainB .any l.toArray m))&&Region.seqB .any l.toArray (l.length-m) m (nB m (l.length-m))
theorem tB {l:Dp} {t:Nat} (h:cI5 l t=false):∀(j:Nat) (oj:Oper),l[j]? = some oj->oj.dst≠some t:=by
 intro j oj hj hd
 have:=List.any_eq_false.1 h oj (Af hj)
 rw [hd] at this
 simp [BP] at this
theorem jR:∀{l:Dp},aF7 l=true->∀{i j:Nat} {oi oj:Oper} {t:Nat},l[i]? = some oi->l[j]? = some oj->oi.dst=some t->oj.dst=some t->i=j
 | [],h,i,j,oi,oj,t,hi,hj,h1,h2=>by simp at hi
 | o::r,h,i,j,oi,oj,t,hi,hj,h1,h2=>by
  simp only [aF7,Ar] at h
  cases i with
  | zero =>
   cases j with
   | zero=>rfl
   | succ j =>
    simp at hi hj
    subst hi
    have h3:=h.1
    rw [h1] at h3
    exact absurd h2 (tB (by simpa using h3) j oj hj)
  | succ i =>
   cases j with
   | zero =>
    simp at hi hj
    subst hj
    have h3:=h.1
    rw [h2] at h3
    exact absurd h1 (tB (by simpa using h3) i oi hi)
   | succ j=>exact congrArg Nat.succ (jR h.2 vM vL h1 h2)
def eF (n0:Nat) (ns:Dr) (m:Nat) (listed:Array Bool) (id:Nat):Prop:=id<n0\/∃j a b,j<m/\listed.getD j false=true/\ns[j]? = some a/\ns[j+1]? = some b/\a<=id/\id<b
def cA9 (B:Bs) (sz n0:Nat) (env0:Env) (dfs:cD) (l:Dp) (vs:D2) (ns:Dr) (H:aO) (listed:Array Bool) (a:Act) (w:World):Prop :=
 ∃M,ConcH B (eF n0 ns l.length listed) M (lk H) w/\a.tmps.size=sz /\
  (∀j o t v,l[j]? = some o->listed.getD j false=true->o.dst=some t->vs[j]? = some v->Rep ⟨eF n0 ns l.length listed,M,bF B (eF n0 ns l.length listed) M (lk H),w⟩ v (a.tmps.getD t undef)) /\
  (∀t av,lkE env0 t=some av->(∀(j:Nat) (o:Oper),l[j]? = some o->listed.getD j false=true->o.dst≠some t)->Rep ⟨eF n0 ns l.length listed,M,bF B (eF n0 ns l.length listed) M (lk H),w⟩ av (a.tmps.getD t undef)) /\
  DefRep B.fr ⟨eF n0 ns l.length listed,M,bF B (eF n0 ns l.length listed) M (lk H),w⟩ dfs a.defers
theorem hU {ops:Dq} {l:Dp} (h:headB ops l=true) {i:Nat} {o:Oper} (hi:l[i]? = some o):(∀e∈o.after,Region.binds .any e=true->e.on<i)/\(∀t∈o.looksAt ops,bO7 l o t=true):=by
 simp only [headB,Ar,Aw] at h
 have hlt:=(Ag.1 hi).1
 have h1:=h.2 i (AA.2 hlt)
 simp only [hi,Ar] at h1
 refine ⟨fun e he hb=>?_,fun t ht=>Aw.1 h1.2 t ht⟩
 have h2:=CQ.1 h1.1 e he
 rw [hb] at h2
 simpa [AJ] using h2
theorem tD {l:Dp} {o:Oper} {t:Nat} (h:bO7 l o t=true):(∀(j:Nat) (oj:Oper),l[j]? = some oj->oj.dst≠some t)\/∃j oj,l[j]? = some oj/\oj.dst=some t/\∃e∈o.after,Region.binds .any e=true/\e.on=j:=by
 simp only [bO7,Br,Co] at h
 rcases h with h|h
 ·exact .inl (tB h)
 ·obtain ⟨j,_,hj⟩:=List.any_eq_true.1 h
  split at hj
  ·rename_i oj hoj
   simp only [Ar] at hj
   obtain ⟨h1,h2⟩:=hj
   unfold xH at h2
   obtain ⟨e,he,h3⟩:=C1.1 h2
   simp only [Ar] at h3
   split at h1
   ·rename_i d hd
    exact .inr ⟨j,oj,hoj,by rw [hd,Ae h1],e,he,h3.1,Ae h3.2⟩
   ·cases h1
  ·cases hj
section wL
variable {P:Dv} {ops:Dq} {B:Bs} {sz n0 N:Nat} {env0 E:Env} {h0 H:aO} {dfs:cD} {l:Dp} {vs:D2} {ns:Dr} {listed:Array Bool}
theorem yN {P:Dv} {ops:Dq} {l:Dp} {env E:Env} {h H:aO} {n N:Nat} {vs:D2} {ns:Dr} (hc:Chain P ops l env h n vs ns E H N):∀{i j a b:Nat},i<=j->ns[i]? = some a->ns[j]? = some b->a<=b:=by
 induction hc with
 | nil =>
  intro i j a b hij ha hb
  cases i with
  | zero=>cases j with|zero=>simp at ha hb;omega|succ j=>simp at hb
  | succ i=>simp at ha
 | @add o os env E h Δ H n n' N v vs ns hg hn hA hcov hkeys hr ih =>
  intro i j a b hij ha hb
  cases i with
  | zero =>
   cases j with
   | zero=>simp at ha hb;omega
   | succ j =>
    simp at ha hb
    have:=ih (Am j) hr.le.2.1 hb
    omega
  | succ i =>
   cases j with
   | zero=>omega
   | succ j=>exact ih (i:=i) (j:=j) aA vO (by simpa using hb)
 | @skip o os env E h H n N vs ns hg hr ih =>
  intro i j a b hij ha hb
  cases i with
  | zero =>
   cases j with
   | zero=>simp at ha hb;omega
   | succ j =>
    simp at ha hb
    have:=ih (Am j) hr.le.2.1 hb
    omega
  | succ i =>
   cases j with
   | zero=>omega
   | succ j=>exact ih (i:=i) (j:=j) aA vO (by simpa using hb)
theorem aA9 {m i a b:Nat} (hi:i<m) (hs:listed.getD i true=false) (ha:ns[i]? = some a) (hb:ns[i+1]? = some b):eF n0 ns m (listed.setIfInBounds i true)=ad (eF n0 ns m listed) a b:=by
 have hsz:i<listed.size:=by
  rcases AE i listed.size with h|h
  ·exact h
  ·simp [B5 h] at hs
 funext id
 simp only [eF,ad,BD]
 constructor
 ·rintro (h|⟨j,a',b',h1,h2,h3,h4,h5,h6⟩)
  ·exact .inl (.inl h)
  ·by_cases hij:i=j
   ·subst hij
    rw [ha] at h3;rw [hb] at h4
    injection h3 with h3;injection h4 with h4
    exact .inr aA
   ·rw [getD_set_ne false hij] at h2
    exact .inl (.inr ⟨j,a',b',h1,h2,h3,h4,h5,h6⟩)
 ·rintro ((h|⟨j,a',b',h1,h2,h3,h4,h5,h6⟩)|⟨h1,h2⟩)
  ·exact .inl h
  ·exact .inr ⟨j,a',b',h1,getD_set_true h2,h3,h4,h5,h6⟩
  ·exact .inr ⟨i,a,b,hi,by simp [hsz],ha,hb,h1,h2⟩
theorem eD9 (hc : Chain P ops l env0 h0 n0 vs ns E H N) (hB : headB ops l = true) (hk0 : ∀ p ∈ h0, p.1 < n0) (hsz : ∀ (j : Nat) (oj : Oper) (t : Nat), l[j]? = some oj -> oj.dst = some t -> t < sz) (hops : ∀ (j : Nat) (oj : Oper), l[j]? = some oj -> ops[j]? = some oj) {Q : Exit -> Act -> World -> Prop} {i : Nat} {o : Oper} {a : Act} {w : World} (hi : l[i]? = some o) (hr : i ∈ Region.ready .any ops listed) (hinv : cA9 B sz n0 env0 dfs l vs ns H listed a w)
    {K : Act -> World -> Prop} (hK : ∀ a' w', cA9 B sz n0 env0 dfs l vs ns H (listed.setIfInBounds i true) a' w' -> K a' w') : wpOp P ops Q i K a w := by
  obtain ⟨M, c1, c2, c3, c4, c5⟩ := hinv
  obtain ⟨env', h', Δ, n1, n2, v, s⟩ := hc.get hk0 i o hi
  have hlt := (Ag.1 hi).1
  have hun := (mem_ready.1 hr).1
  have hall : ∀ e ∈ o.after, Region.binds .any e = true -> listed.getD e.on false = true := by
    obtain ⟨_, o', ho', hall⟩ := mem_ready.1 hr
    rw [hops i o hi] at ho'
    injection ho' with ho'
    subst ho'
    exact hall
  have hlistsz : i < listed.size := by
    rcases AE i listed.size with h | h
    · exact h
    · simp [B5 h] at hun
  have hb := hU hB hi
  have hu := (show aF7 l = true by simp only [headB, Ar] at hB; exact hB.1)
  have look : ∀ t av, t ∈ o.looksAt ops -> lkE env' t = some av -> Rep ⟨eF n0 ns l.length listed, M, bF B (eF n0 ns l.length listed) M (lk H), w⟩ av (a.tmps.getD t undef) := by
    intro t av ht hav
    rcases tD (hb.2 t ht) with hno | ⟨j, oj, hj, hdj, e, he, heb, hej⟩
    · rcases s.env t av hav with ⟨j, oj, h1, h2, h3, h4⟩ | ⟨h1, h2⟩
      · exact absurd h3 (hno j oj h2)
      · exact cG5
    · have hlj := hall e he heb
      rw [hej] at hlj
      have hji : j < i := by have := hb.1 e he heb; omega
      rcases s.env t av hav with ⟨j', oj', h1, h2, h3, h4⟩ | ⟨h1, h2⟩
      · have := jR hu h2 hj h3 hdj
        subst this
        exact c3 j' oj' t av h2 hlj h3 h4
      · exact absurd hdj (h2 j oj hji hj)
  have hdset := aA9 (n0 := n0) (m := l.length) hlt hun s.hn s.hn'
  have fin : ∀ u w' M', Ext ⟨eF n0 ns l.length listed, M, bF B (eF n0 ns l.length listed) M (lk H), w⟩ ⟨eF n0 ns l.length (listed.setIfInBounds i true), M', bF B (eF n0 ns l.length (listed.setIfInBounds i true)) M' (lk H), w'⟩ -> ConcH B (eF n0 ns l.length (listed.setIfInBounds i true)) M' (lk H) w' -> Rep ⟨eF n0 ns l.length (listed.setIfInBounds i true), M', bF B (eF n0 ns l.length (listed.setIfInBounds i true)) M' (lk H), w'⟩ v u -> K (a.put o.dst u) w' := by
    intro u w' M' hext hcc hv
    refine hK _ _ ⟨M', hcc, ?_, fun j oj t vj hj hl hd hvj => ?_, fun t av hav hno => ?_, ?_⟩
    · cases hd : o.dst with
      | none => simpa [Act.put] using c2
      | some d => simp [Act.put, c2]
    · by_cases hij : i = j
      · subst hij
        rw [hi] at hj; injection hj with hj; subst hj
        rw [s.hv] at hvj; injection hvj with hvj; subst hvj
        have ht := hsz i o t hi hd
        rw [hd]
        simp only [Act.put]
        rw [show (a.tmps.setIfInBounds t u).getD t undef = u by simp [c2, ht]]
        exact hv
      · rw [getD_set_ne false hij] at hl
        have h1 := c3 j oj t vj hj hl hd hvj
        have hne : ∀ d, o.dst = some d -> d ≠ t := fun d hdd e => hij (jR hu hi hj (by rw [hdd, e]) hd)
        cases hdo : o.dst with
        | none => simpa [Act.put] using Rep.ext hext _ _ h1
        | some d =>
          simp only [Act.put]
          rw [show (a.tmps.setIfInBounds d u).getD t undef = a.tmps.getD t undef by simp [Ba (hne d hdo)]]
          exact Rep.ext hext _ _ h1
    · have hself : o.dst ≠ some t := hno i o hi (by simp [hlistsz])
      have h1 := c4 t av hav (fun j oj hj hl => hno j oj hj (getD_set_true hl))
      cases hdo : o.dst with
      | none => simpa [Act.put] using Rep.ext hext _ _ h1
      | some d =>
        have hne : d ≠ t := fun e => hself (by rw [hdo, e])
        simp only [Act.put]
        rw [show (a.tmps.setIfInBounds d u).getD t undef = a.tmps.getD t undef by simp [Ba hne]]
        exact Rep.ext hext _ _ h1
    · have : (a.put o.dst u).defers = a.defers := by cases o.dst <;> rfl
      rw [this]
      exact c5.ext hext
  unfold wpOp
  rw [hops i o hi]
  simp only
  have gd : ∀ b, guardA ops env' o b -> Region.wanted o (yielded ops a.tmps) = b := by
    intro b hg
    unfold guardA at hg
    unfold Region.wanted
    cases hgd : o.guard with
    | none => rw [hgd] at hg; exact hg.symm
    | some p =>
      obtain ⟨j, want⟩ := p
      rw [hgd] at hg
      obtain ⟨t, h1, h2⟩ := hg
      rcases h2 with ⟨c, h2, h3⟩ | ⟨h2, rfl⟩
      rotate_left
      · have h4 := look t _ (by
          unfold Oper.looksAt
          rw [hgd]
          exact BL _ (by simp [h1])) h2
        simp only [Rep, RepC] at h4
        simp [nJ h1 h4]
      have h4 := look t _ (by
        unfold Oper.looksAt
        rw [hgd]
        exact BL _ (by simp [h1])) h2
      simp only [Rep, RepC] at h4
      have hlt : t < a.tmps.size := by
        rcases AE t a.tmps.size with h1 | h1
        · exact h1
        · simp [h1, undef] at h4
      have : yielded ops a.tmps j = some c := by
        unfold yielded
        rw [h1]
        have h5 : a.tmps[t]? = some (.bool c) := by
          rw [<- h4]
          simp [hlt]
        simp [h5]
      simp only [this]
      rw [<- h3]
      cases c <;> cases want <;> rfl
  rcases s.step with ⟨hg, hA⟩ | ⟨hg, rfl, rfl⟩
  · rw [gd true hg, Ak rfl]
    refine .inl (hA B (eF n0 ns l.length listed) M (lk H) w a K Q (fun id ob k1 k2 => ?_) (fun id k1 k2 => ⟨?_, s.new id k1 k2⟩) c1 (fun x av hx => ?_) ?_)
    ·
      rcases AE id n1 with h1 | h1
      · rw [s.old id h1]; exact k1
      · obtain ⟨p, hp, hpi⟩ := aC8 k1
        have := s.keys p hp
        omega
    · rintro (h1 | ⟨j, p, q, h1, h2, h3, h4, h5, h6⟩)
      · have := yN hc (Am i) hc.le.2.1 s.hn
        omega
      · have hij : i ≠ j := fun e => by subst e; rw [getD_both hun] at h2; cases h2
        rcases CT hij with h7 | h7
        · have := yN hc (show i + 1 <= j by omega) s.hn' h3
          omega
        · have := yN hc (show j + 1 <= i by omega) h4 s.hn
          omega
    · cases x with
      | tmp t =>
        simp only [evT] at hx
        split at hx
        · rename_i hm
          exact look t av (rD hm) hx
        · cases hx
      | const x => simp only [evT, Option.some.injEq] at hx; subst hx; simp [Rep, RepC, Act.eval]
      | global g => cases hx
      | func f => simp only [evT, Option.some.injEq] at hx; subst hx; exact ⟨[], rfl, rfl⟩
    · intro u w' M' hext hcc hv
      rw [<- hdset] at hext hcc hv
      exact fin u w' M' hext hcc hv
  · rw [gd false hg, Aj aU]
    have hds2 : eF n0 ns l.length (listed.setIfInBounds i true) = eF n0 ns l.length listed := by rw [hdset, dY]
    refine fin undef w M ?_ ?_ ?_
    · rw [hds2]; exact Ext.refl _
    · rw [hds2]; exact c1
    · simp [Rep, RepC]
theorem eJ3 {w:World} {a:Act} {k:Nat} (hc:Chain P ops l env0 h0 n0 vs ns E H N) (h:tN B sz n0 env0 h0 dfs a w):cA9 B sz n0 env0 dfs l vs ns H (Array.replicate k false) a w:=by
 obtain ⟨M,c1,c2,c3,c4⟩:=h
 have hd:eF n0 ns l.length (Array.replicate k false)=lt n0:=by
  funext id
  simp only [eF,lt,BD]
  refine ⟨fun h=>h.elim (fun h=>h) ?_,.inl⟩
  rintro ⟨j,p,q,h1,h2,_⟩
  rw [getD_replicate_false] at h2
  cases h2
 have hle:=hc.le
 have hH:∀id,id<n0->lk H id=lk h0 id:=hle.2.2.2.2.2
 have eok:bF B (lt n0) M (lk H)=bF B (lt n0) M (lk h0):=by
  funext b
  unfold bF
  simp only [BD]
  refine Cy C5 ⟨fun hk id o hid hh=>hk id o hid (by rw [hH id hid];exact hh),fun hk id o hid hh=>hk id o hid bM8⟩
 refine ⟨M,?_,c2,(fun j o t v hj hl=>by rw [getD_replicate_false] at hl;cases hl),fun t av hav _=>?_,?_⟩
 ·rw [hd]
  refine ⟨c1.fr,fun id o hid hh=>?_,fun id id' o o' g k1 k2 k3 k4=>c1.inj id id' o o' g k1 k2 (by rw [<- hH id k1];exact k3) (by rw [<- hH id' k2];exact k4),fun id o g k1 k2=>c1.lo id o g k1 (by rw [<- hH id k1];exact k2)⟩
  rw [eok]
  exact c1.obj id o hid bM8
 ·rw [hd,eok];exact c3 t av hav
 ·rw [hd,eok];exact c4
theorem eR3 {w:World} {a:Act} (hc:Chain P ops l env0 h0 n0 vs ns E H N) (hall:∀j,j<l.length->listed.getD j false=true) (h:cA9 B sz n0 env0 dfs l vs ns H listed a w):tN B sz N E H dfs a w:=by
 obtain ⟨M,c1,c2,c3,c4,c5⟩:=h
 have hle:=hc.le
 have hd:eF n0 ns l.length listed=lt N:=by
  funext id
  simp only [eF,lt,BD]
  constructor
  ·rintro (h|⟨j,p,q,h1,h2,h3,h4,h5,h6⟩)
   ·omega
   ·have:=yN hc (show j+1<=l.length by omega) h4 hle.2.2.2.2.1
    omega
  ·intro hid
   rcases AE id n0 with h|h
   ·exact .inl h
   ·
    have:∀k,k<=l.length->(∃b,ns[k]? = some b/\id<b)->∃j a b,j<l.length/\ns[j]? = some a/\ns[j+1]? = some b/\a<=id/\id<b:=by
     intro k
     induction k with
     | zero =>
      rintro _ ⟨b,hb,hlt⟩
      rw [hle.2.1] at hb
      injection hb with hb
      omega
     | succ k ih =>
      rintro hk ⟨b,hb,hlt⟩
      have hkl:k<ns.length:=by rw [hle.2.2.1];omega
      by_cases hq:ns[k]<=id
      ·exact ⟨k,ns[k],b,by omega,Ab hkl,hb,hq,hlt⟩
      ·exact ih aA ⟨ns[k],Ab hkl,by omega⟩
    obtain ⟨j,p,q,h1,h2,h3,h4,h5⟩:=this l.length (Ah _) ⟨N,hle.2.2.2.2.1,hid⟩
    exact .inr ⟨j,p,q,h1,hall j h1,h2,h3,h4,h5⟩
 rw [hd] at c1 c3 c4 c5
 refine ⟨M,c1,c2,fun t av ht=>?_,c5⟩
 rcases hc.envEnd t av ht with ⟨j,oj,h1,h2,h3,h4⟩|⟨h1,h2⟩
 ·exact c3 j oj t av h2 (hall j h1) h3 h4
 ·exact c4 t av h1 (fun j o hj _=>h2 j o hj)
end wL
def vW (l:Dp) (sz:Nat):Bool:=l.all fun o=>iD o.dst sz
def aJ2 (h:aO) (n:Nat):Bool:=h.all fun p=>Nat.blt p.1 n
theorem qH {listed:Array Bool}:∀(m:Nat),(List.range m).countP (fun j => !listed.getD j false)=0->∀j,j<m->listed.getD j false=true:=by
 intro m h j hj
 rw [List.countP_eq_zero] at h
 have:=h j (AA.2 hj)
 simpa using this
theorem sY {listed:Array Bool} {i:Nat}:∀(m:Nat),i<m->listed.getD i true=false->(List.range m).countP (fun j => !listed.getD j false)=(List.range m).countP (fun j => !(listed.setIfInBounds i true).getD j false)+1:=by
 intro m hi hun
 have hsz:i<listed.size:=by
  rcases AE i listed.size with h|h
  ·exact h
  ·simp [B5 h] at hun
 induction m with
 | zero=>omega
 | succ m ih =>
  rw [List.range_succ,List.countP_append,List.countP_append]
  by_cases him:i=m
  ·subst him
   have h1:(List.range i).countP (fun j => !listed.getD j false)=(List.range i).countP (fun j => !(listed.setIfInBounds i true).getD j false):=by
    apply List.countP_congr
    intro j hj
    have:=AA.1 hj
    rw [getD_set_ne false aA]
   have h2:listed.getD i false=false:=getD_both hun
   have h3:(listed.setIfInBounds i true).getD i false=true:=by simp [hsz]
   rw [h1]
   simp only [List.countP_singleton,h2,h3]
   simp
  ·rw [ih aA]
   have:(listed.setIfInBounds i true).getD m false=listed.getD m false:=getD_set_ne false him
   simp only [List.countP_singleton,this]
   omega
theorem cX9 {P : Dv} {sz n0 N : Nat} {env0 E : Env} {h0 H : aO} {dfs : cD} {K : AK} {id : Nat} {l : Dp} {vs : D2} {ns : Dr} (m : Nat) (hm : P.follows .mixedOrders = true) (hB : tW l m = true) (hsz : vW (l.take m) sz = true) (hk0 : aJ2 h0 n0 = true)
    (hc : Chain P l.toArray (l.take m) env0 h0 n0 vs ns E H N) (next : AWL P l.toArray sz (l.drop m) K N E H dfs) : AW P sz (.region id l.toArray true) K n0 env0 h0 dfs := by
  intro B a w hcc rd hrd
  simp only [tW, Ar, Br] at hB
  obtain ⟨⟨⟨b1, b2⟩, b3⟩, b4⟩ := hB
  have hml : m <= l.length := A7 b1
  have htl : (l.take m).length = m := by simp; omega
  have hk0' : ∀ p ∈ h0, p.1 < n0 := fun p hp => by simpa [AJ] using List.all_eq_true.1 hk0 p hp
  have hsz' : ∀ (j : Nat) (oj : Oper) (t : Nat), (l.take m)[j]? = some oj -> oj.dst = some t -> t < sz := fun j oj t hj hd => by
    have := Aw.1 hsz oj (Af hj)
    exact fD this t hd
  have hops : ∀ (j : Nat) (oj : Oper), (l.take m)[j]? = some oj -> l.toArray[j]? = some oj := fun j oj hj => by
    rw [AU] at hj
    split at hj
    · simpa using hj
    · cases hj
  have hnd : rd = none \/ ∀ (i : Nat) (o : Oper), l.toArray[i]? = some o -> oF o = true := hrd.imp_right fun k i o ho => aM0 vE ho
  have hdrop : rd = none \/ (l.drop m).all oF = true := hrd.imp_right fun k => Aw.2 fun o ho => Aw.1 vE o (Bf ho)
  refine wpIn_region_any hm ?_
  have hdrew : tN B sz n0 env0 h0 dfs a { w with drawn := w.drawn + 1 } := by
    obtain ⟨M, c1, c2, c3, c4⟩ := hcc
    have hbel : Below w.heap.size w { w with drawn := w.drawn + 1 } := (Below.refl _ _).drew
    have hg := c1.grow hbel n0 n0 (M' := M) (fun _ _ => rfl) (fun id h1 h2 => by omega) (fun id o h1 h2 => by omega) (fun id id' o o' g h1 h2 => by omega) (fun _ id o h1 h2 => by omega)
    rw [dY] at hg
    exact cG6
  have key : ∀ (f : Nat) (listed : Array Bool) (a : Act) (w : World), (List.range m).countP (fun j => !listed.getD j false) = f -> HeadInv .any l.toArray m listed -> cA9 B sz n0 env0 dfs (l.take m) vs ns H listed a w ->
      wpAnyIn (WF rd) 0 P .any l.toArray (KC B sz K) (f + (l.length - m)) listed a w := by
    intro f
    induction f with
    | zero =>
      intro listed a w hcnt hinv hI
      have hall := qH m hcnt
      have hlisted : listed = nB m (l.length - m) := by
        apply Array.ext
        · rw [hinv.size]; simp [nB]; omega
        · intro j h1 h2
          rw [hinv.size] at h1
          simp only [A1] at h1
          by_cases hj : j < m
          · have := hall j hj
            simp [hinv.size, h1] at this
            simp [nB, hj, this, BS]
          · have := hinv.tail j aA (by simpa using h1)
            simp [hinv.size, h1] at this
            simp [nB, hj, this, BS]
      rw [Aq]
      have hconc := eR3 hc (by rw [htl]; exact hall) hI
      have := kB (F := WF rd) (n := 0) (P := P) (ops := l.toArray) (md := .any) (Q' := KC B sz K) (l.drop m) m listed a w (fun j => by simp [AR]) cG0 (next B a w hconc rd hdrop)
      rwa [A0] at this
    | succ f ih =>
      intro listed a w hcnt hinv hI
      rw [show f + 1 + (l.length - m) = (f + (l.length - m)) + 1 by omega]
      have hex : ∃ j, j < m /\ listed.getD j false = false := by
        have hpos : 0 < (List.range m).countP (fun j => !listed.getD j false) := by omega
        obtain ⟨j, hj, hp⟩ := CO.1 hpos
        exact cG7
      have hsize : ∀ j, j < m -> j < listed.size := fun j hj => by rw [hinv.size]; simp; omega
      have hready : Region.ready .any l.toArray listed ≠ [] := by
        obtain ⟨j0, hj0, hu0⟩ := hex
        obtain ⟨j, ⟨hj, hu⟩, hmin⟩ := kN (fun j => j < m /\ listed.getD j false = false) ⟨j0, hj0, hu0⟩
        have hjl : j < (l.take m).length := by omega
        have hb := hU b2 (Ab hjl)
        have hr : j ∈ Region.ready .any l.toArray listed := by
          refine mem_ready.2 ⟨getD_in (hsize j hj) hu, (l.take m)[j], hops j _ (Ab hjl), fun e he hbn => ?_⟩
          have hlt := hb.1 e he hbn
          cases hle : listed.getD e.on false with
          | true => rfl
          | false => have := hmin e.on ⟨by omega, hle⟩; omega
        intro h0; rw [h0] at hr; cases hr
      refine ⟨fun h => absurd h hready, fun i hi => ?_⟩
      have him : i < m := by
        rcases AE i m with h | h
        · exact h
        · exfalso
          obtain ⟨_, oi, hoi, _⟩ := mem_ready.1 hi
          have hil : i < l.length := by simpa using (Cq.1 hoi).1
          rcases b3 with b3 | b3
          · have := Ae b3; omega
          · obtain ⟨j0, hj0, hu0⟩ := hex
            exact cG8
      have hil : i < (l.take m).length := by omega
      refine aS0 (hnd.imp_right fun k => k i) (eD9 (Q := fun _ _ _ => False) hc b2 hk0' hsz' hops (Ab hil) hi hI fun a' w' hI' => ?_)
      refine ih _ a' w' ?_ (hinv.set hi him) hI'
      have := sY m him (mem_ready.1 hi).1
      omega
  have hcount : (List.range m).countP (fun j => !(Array.replicate l.toArray.size false).getD j false) = m := by
    rw [CD.2 (fun j hj => by rw [getD_replicate_false]; rfl), C6]
  have := key m (Array.replicate l.toArray.size false) a _ hcount ⟨by simp, (fun j oj hj hl => by rw [getD_replicate_false] at hl; cases hl), fun t h1 h2 => by simp at h2; simp [h2]⟩ (eJ3 hc hdrew)
  rw [show m + (l.length - m) = l.toArray.size by simp; omega] at this
  exact this
end
end Go.Av
