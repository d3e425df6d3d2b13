/- Lemmas for laws of the ledger. -/
import Derived.Test.YtbgehdndimlgkaaGreatV14
import Derived.Test.YtbgehdndimlgkaaGreatV19
import Derived.Test.YtbgehdndimlgkaaGreatV23
set_option linter.all false
namespace Go.Proofs.YtbgehdndimlgkaaGreat
open Go Go.RowKit Go.Av
set_option maxRecDepth 100000
section
attribute [local irreducible] Still Adds AWL AW Drw bN bP AC AWR cM Frz Go.Av.Src dB Out InK ItK AsK RdK eA dZ ACT ACA eL
attribute [local simp] bL bK bZ
end
section
attribute [local irreducible] Still Adds AWL AW Drw bN bP AC AWR cM Frz Go.Av.Src dB Out InK ItK AsK RdK eA dZ ACT ACA eL
attribute [local simp] bL bK bZ
end
section
attribute [local irreducible] Still Adds AWL AW Drw bN bP AC AWR cM Frz Go.Av.Src dB Out InK ItK AsK RdK eA dZ ACT ACA eL
attribute [local simp] bL bK bZ
end
structure Tl where
 so:Bool
 day:Int
 er:Nat
 sg:Nat
 bg:List Int
 co:List Int
 st:List (Int × Int)
 vs:List Ver
 ss:List Src
def Tl.new:Tl:=⟨false,0,0,0,[],[],[],[],[]⟩
def fY {κ:Type} [DecidableEq κ] (ks l:List κ):List κ:=l.foldl lQ ks
def Tl.add (t:Tl) (e:LEn):Tl :=
 if e.k=2 then ⟨true,e.day,t.er+1,t.sg,lQ t.bg e.plan,t.co,t.st,fY t.vs e.vs,fY t.ss e.ss⟩
 else if e.k=3 then ⟨true,e.day,t.er,t.sg,t.bg,t.co,lQ t.st (e.plan,e.step),t.vs,t.ss⟩
 else if e.k=4 then ⟨true,e.day,t.er,t.sg,t.bg,lQ t.co e.plan,t.st,t.vs,t.ss⟩
 else if e.k=5 then ⟨true,e.day,t.er,t.sg+1,t.bg,t.co,t.st,t.vs,t.ss⟩
 else ⟨true,e.day,t.er,t.sg,t.bg,t.co,t.st,t.vs,t.ss⟩
def Tl.of (l:List LEn):Tl:=l.foldl Tl.add Tl.new
theorem Tl.of_snoc (l:List LEn) (e:LEn):Tl.of (l++[e])=(Tl.of l).add e:=by unfold Tl.of;rw [Ct];rfl
theorem aQ2 {κ:Type} [DecidableEq κ] {ks:List κ} {k:κ} (h:ks.Nodup):(lQ ks k).Nodup:=by
 unfold lQ
 split
 ·exact h
 ·rename_i hn
  rw [List.nodup_append]
  refine ⟨h,by simp,fun a ha b hb e=>?_⟩
  rw [AP] at hb
  subst hb e
  exact hn ha
theorem kU {κ:Type} [DecidableEq κ]:∀(l ks:List κ) (x:κ),x∈fY ks l↔x∈ks\/x∈l
 | [],ks,x=>by simp [fY]
 | k::l,ks,x=>by
  have:=kU l (lQ ks k) x
  unfold fY at *
  rw [CX,this,rF,A3,or_assoc]
theorem mO {κ:Type} [DecidableEq κ]:∀{l ks:List κ},ks.Nodup->(fY ks l).Nodup
 | [],ks,h=>h
 | k::l,ks,h=>by
  unfold fY
  rw [CX]
  exact mO (l:=l) (aQ2 h)
theorem tJ {κ:Type} [DecidableEq κ] (ks l:List κ) (k:κ):fY ks (l++[k])=lQ (fY ks l) k:=by unfold fY;rw [Ct];rfl
structure TlR (l:List LEn) (t:Tl):Prop where
 so:t.so=true↔l≠[]
 day:∀x,l.getLast? = some x->t.day=x.day
 er:t.er=iQ l 2
 sg:t.sg=iQ l 5
 bg:∀p,p∈t.bg↔dV l 2 p
 co:∀p,p∈t.co↔dV l 4 p
 st:∀p s,(p,s)∈t.st↔∃x∈l,x.k=3/\x.plan=p/\x.step=s
 vs:t.vs.Nodup/\∀v,v∈t.vs↔v∈jP l
 ss:t.ss.Nodup/\∀v,v∈t.ss↔v∈pK l
theorem sU (l:List LEn) (e:LEn) (p s:Int):(∃x∈l++[e],x.k=3/\x.plan=p/\x.step=s)↔(∃x∈l,x.k=3/\x.plan=p/\x.step=s)\/(e.k=3/\e.plan=p/\e.step=s):=by
 constructor
 ·rintro ⟨x,hx,h⟩
  rcases Az.1 hx with hx|hx
  ·exact .inl ⟨x,hx,h⟩
  ·rw [AP] at hx
   subst hx
   exact .inr h
 ·rintro (⟨x,hx,h⟩|h)
  ·exact ⟨x,Az.2 (.inl hx),h⟩
  ·exact ⟨e,by simp,h⟩
theorem xP (l:List LEn):TlR l (Tl.of l):=by
 refine jX (p:=fun l=>TlR l (Tl.of l)) ?_ (fun l e ih=>?_) l
 ·exact ⟨by simp [Tl.of,Tl.new],fun x h=>by simp at h,rfl,rfl,fun p=>by simp [Tl.of,Tl.new,dV],fun p=>by simp [Tl.of,Tl.new,dV],fun p s=>by simp [Tl.of,Tl.new],⟨by simp [Tl.of,Tl.new],fun v=>by simp [Tl.of,Tl.new,jP]⟩,by simp [Tl.of,Tl.new],fun v=>by simp [Tl.of,Tl.new,pK]⟩
 ·rw [Tl.of_snoc]
  generalize Tl.of l=t at ih
  obtain ⟨h1,h2,h3,h4,h5,h6,h7,⟨h8,h9⟩,h10,h11⟩:=ih
  have hso:∀t':Tl,t'.so=true->(t'.so=true↔l++[e]≠[]):=fun t' h=>⟨fun _=>by simp,fun _=>h⟩
  have hday:∀t':Tl,t'.day=e.day->∀x,(l++[e]).getLast? = some x->t'.day=x.day:=fun t' h x hx=>by
   rw [List.getLast?_append] at hx
   simp at hx
   rw [h,hx]
  unfold Tl.add
  by_cases k2:e.k=2
  ·rw [Aj k2]
   refine ⟨hso _ rfl,hday _ rfl,?_,?_,fun p=>?_,fun p=>?_,fun p s=>?_,⟨mO h8,fun v=>?_⟩,mO h10,fun v=>?_⟩
   ·simp only;rw [eI,Aj k2,h3]
   ·simp only;rw [eI,Af aA,h4];rfl
   ·simp only;rw [rF,fE,h5];exact or_congr Cs ⟨fun h=>⟨k2,h.symm⟩,fun h=>h.2.symm⟩
   ·simp only;rw [fE,h6];exact ⟨.inl,fun h=>h.elim id fun h=>by omega⟩
   ·simp only;rw [sU,h7];exact ⟨.inl,fun h=>h.elim id fun h=>by omega⟩
   ·simp only;rw [kU,h9,oT,Aj k2,Az]
   ·simp only;rw [kU,h11,xX,Aj k2,Az]
  ·rw [Af k2]
   have hv:∀v,v∈t.vs↔v∈jP (l++[e]):=fun v=>by rw [h9,oT,Af k2,A2]
   have hs:∀v,v∈t.ss↔v∈pK (l++[e]):=fun v=>by rw [h11,xX,Af k2,A2]
   have he:t.er=iQ (l++[e]) 2:=by rw [eI,Af k2,h3];rfl
   have hb:∀p,p∈t.bg↔dV (l++[e]) 2 p:=fun p=>by rw [fE,h5];exact ⟨.inl,fun h=>h.elim id fun h=>absurd h.1 k2⟩
   by_cases k3:e.k=3
   ·rw [Aj k3]
    refine ⟨hso _ rfl,hday _ rfl,he,?_,hb,fun p=>?_,fun p s=>?_,⟨h8,hv⟩,h10,hs⟩
    ·simp only;rw [eI,Af aA,h4];rfl
    ·simp only;rw [fE,h6];exact ⟨.inl,fun h=>h.elim id fun h=>by omega⟩
    ·simp only
     rw [rF,sU,h7]
     refine or_congr Cs ⟨fun h=>?_,fun h=>?_⟩
     ·injection h with e1 e2;exact ⟨k3,e1.symm,e2.symm⟩
     ·rw [h.2.1,h.2.2]
   ·rw [Af k3]
    have hst:∀p s,(p,s)∈t.st↔∃x∈l++[e],x.k=3/\x.plan=p/\x.step=s:=fun p s=>by rw [sU,h7];exact ⟨.inl,fun h=>h.elim id fun h=>absurd h.1 k3⟩
    by_cases k4:e.k=4
    ·rw [Aj k4]
     refine ⟨hso _ rfl,hday _ rfl,he,?_,hb,fun p=>?_,hst,⟨h8,hv⟩,h10,hs⟩
     ·simp only;rw [eI,Af aA,h4];rfl
     ·simp only;rw [rF,fE,h6];exact or_congr Cs ⟨fun h=>⟨k4,h.symm⟩,fun h=>h.2.symm⟩
    ·rw [Af k4]
     have hc:∀p,p∈t.co↔dV (l++[e]) 4 p:=fun p=>by rw [fE,h6];exact ⟨.inl,fun h=>h.elim id fun h=>absurd h.1 k4⟩
     by_cases k5:e.k=5
     ·rw [Aj k5]
      refine ⟨hso _ rfl,hday _ rfl,he,?_,hb,hc,hst,⟨h8,hv⟩,h10,hs⟩
      simp only;rw [eI,Aj k5,h4]
     ·rw [Af k5]
      refine ⟨hso _ rfl,hday _ rfl,he,?_,hb,hc,hst,⟨h8,hv⟩,h10,hs⟩
      simp only;rw [eI,Af k5,h4];rfl
structure FolT (t:Tl) (e:LEn):Prop where
 rd:(pEn (cW e)).isSome=true
 day:0<=e.day/\e.day<=1048576/\(t.so=true->t.day<=e.day)
 rq:e.k=1->1<=e.rq.k/\e.rq.k<=3
 er:e.k=2->e.plan=t.er/\(e.vs≠[]\/e.ss≠[])/\t.vs.length+e.vs.length<=512/\t.ss.length+e.ss.length<=512/\(e.vs.Pairwise ltV/\∀v∈e.vs,v∉t.vs)/\e.ss.Pairwise ltS/\∀v∈e.ss,v∉t.ss
 st:e.k=3->(e.plan∈t.bg/\e.plan∉t.co)/\(0<=e.step/\e.step<128)/\(e.plan,e.step)∉t.st
 co:e.k=4->e.plan∈t.bg/\e.plan∉t.co
 sg:e.k=5->e.step=t.sg/\e.step<4
theorem TlR.fol {l:List LEn} {t:Tl} (h:TlR l t) (e:LEn):FolT t e↔Fol l e:=by
 obtain ⟨h1,h2,h3,h4,h5,h6,h7,⟨h8,h9⟩,h10,h11⟩:=h
 have hvl:t.vs.length=(erasV l).length:=kO slo_V h8 h9
 have hsl:t.ss.length=(erasS l).length:=kO cA3 h10 h11
 have hday:(t.so=true->t.day<=e.day)↔∀x,l.getLast? = some x->x.day<=e.day:=by
  constructor
  ·intro h x hx
   rw [<- h2 x hx]
   exact h (h1.2 fun e=>by subst e;simp at hx)
  ·intro h hs
   have hne:=h1.1 hs
   obtain ⟨x,hx⟩:∃x,l.getLast? = some x:=⟨_,C5 hne⟩
   rw [h2 x hx]
   exact h x hx
 have hvm:(∀v∈e.vs,v∉t.vs)↔∀v∈e.vs,v∉jP l:=CJ fun v=>CJ fun _=>CR (h9 v)
 have hsm:(∀v∈e.ss,v∉t.ss)↔∀v∈e.ss,v∉pK l:=CJ fun v=>CJ fun _=>CR (h11 v)
 have hno:((e.plan,e.step)∉t.st)↔¬∃x∈l,x.k=3/\x.plan=e.plan/\x.step=e.step:=CR (h7 _ _)
 have hbc:(e.plan∈t.bg/\e.plan∉t.co)↔dV l 2 e.plan/\¬dV l 4 e.plan:=C2 (h5 _) (CR (h6 _))
 constructor
 ·rintro ⟨a1,a2,a3,a4,a5,a6,a7⟩
  exact ⟨a1,⟨a2.1,a2.2.1,hday.1 a2.2.2⟩,a3,fun k=>by
   obtain ⟨p1,p2,p3,p4,⟨p5,p6⟩,p7,p8⟩:=a4 k
   exact ⟨by rw [p1,h3],p2,by omega,by omega,⟨p5,hvm.1 p6⟩,p7,hsm.1 p8⟩,fun k=>⟨hbc.1 (a5 k).1,(a5 k).2.1,hno.1 (a5 k).2.2⟩,fun k=>hbc.1 (a6 k),fun k=>by rw [<- h4];exact a7 k⟩
 ·rintro ⟨a1,a2,a3,a4,a5,a6,a7⟩
  exact ⟨a1,⟨a2.1,a2.2.1,hday.2 a2.2.2⟩,a3,fun k=>by
   obtain ⟨p1,p2,p3,p4,⟨p5,p6⟩,p7,p8⟩:=a4 k
   exact ⟨by rw [p1,h3],p2,by omega,by omega,⟨p5,hvm.2 p6⟩,p7,hsm.2 p8⟩,fun k=>⟨hbc.2 (a5 k).1,(a5 k).2.1,hno.2 (a5 k).2.2⟩,fun k=>hbc.2 (a6 k),fun k=>by rw [h4];exact a7 k⟩
end Go.Proofs.YtbgehdndimlgkaaGreat
namespace Go.Av
open Go Go.RowKit
structure MoreR (σ:Nat->Nat) (C C':Cx):Prop where
 dom:∀id,C.dom id->C'.dom (σ id)/\C'.M (σ id)=C.M id
 ok:jO C.ok C'.ok C.w C'.w
 shape:∀b x,C.w.shape? b=some x->C'.w.shape? b=some x
mutual
theorem Rep.moreR {σ:Nat->Nat} {C C':Cx} (h:MoreR σ C C'):∀(x:AV) (u:Value),Rep C x u->Rep C' (x.mp σ) u
 | .c x,u,hu=>by simp only [Rep,AV.mp] at hu ⊢;exact RepC.mono h.ok x u hu
 | .ref id off,u,hu=>by
  simp only [Rep,AV.mp] at hu ⊢
  obtain ⟨hd,g,hg,hu⟩:=hu
  obtain ⟨k1,k2⟩:=h.dom id hd
  exact lZ
 | .own id off n size full,u,hu=>by
  simp only [Rep,AV.mp] at hu ⊢
  obtain ⟨hd,hu⟩:=hu
  obtain ⟨k1,k2⟩:=h.dom id hd
  refine ⟨k1,?_⟩
  rcases hu with ⟨h1,h2,h3,h4⟩|⟨g,cp,h1,h2,h3,h4,h5⟩|h6
  ·exact bO9
  ·exact .inr (.inl ⟨g,cp,k2.trans h1,h2,h3,h4,fun hf=>let ⟨e,he⟩:=h5 hf;⟨e,h.shape _ _ he⟩⟩)
  ·exact .inr (.inr h6)
 | .ip cs off,u,hu=>by
  simp only [Rep,AV.mp] at hu ⊢
  obtain ⟨b,o,us,h1,h2,h3,h4,h6,h5⟩:=hu
  obtain ⟨k1,k2,k3⟩:=h.ok b h2 h3
  exact ⟨b,o,us,h1,k1,k2,RepCs.mono h.ok cs us h4,h6,fun j x hx=>by rw [World.cell?_of_block (w:=C.w) k3];exact h5 j x hx⟩
 | .agg xs,u,hu=>by
  simp only [Rep,AV.mp] at hu ⊢
  obtain ⟨us,h1,h2⟩:=hu
  exact ⟨us,h1,RepL.moreR h xs us h2⟩
 | .tup xs,u,hu=>by
  simp only [Rep,AV.mp] at hu ⊢
  obtain ⟨us,h1,h2⟩:=hu
  exact ⟨us,h1,RepL.moreR h xs us h2⟩
 | .fn f caps,u,hu=>by
  simp only [Rep,AV.mp] at hu ⊢
  obtain ⟨us,h1,h2⟩:=hu
  exact ⟨us,h1,RepL.moreR h caps us h2⟩
 | .yld id,u,hu=>by
  simp only [Rep,AV.mp] at hu ⊢
  obtain ⟨hd,g,hg,hu⟩:=hu
  obtain ⟨k1,k2⟩:=h.dom id hd
  exact lZ
 | .mh id,u,hu=>by
  simp only [Rep,AV.mp] at hu ⊢
  obtain ⟨hd,g,hg,hu⟩:=hu
  obtain ⟨k1,k2⟩:=h.dom id hd
  exact lZ
 | .bm f id,u,hu=>by
  simp only [Rep,AV.mp] at hu ⊢
  obtain ⟨hd,g,hg,hu⟩:=hu
  obtain ⟨k1,k2⟩:=h.dom id hd
  exact lZ
 | .junk,u,hu=>by simp only [Rep,AV.mp]
theorem RepL.moreR {σ:Nat->Nat} {C C':Cx} (h:MoreR σ C C'):∀(xs:Dq) (us:Db),RepL C xs us->RepL C' (AV.mps σ xs) us
 | [],us,hu=>by simpa [RepL,AV.mps] using hu
 | c::cs,us,hu=>by
  simp only [RepL,AV.mps] at hu ⊢
  obtain ⟨u,us',h1,h2,h3⟩:=hu
  exact ⟨u,us',h1,Rep.moreR h c u h2,RepL.moreR h cs us' h3⟩
end
theorem RepM.moreR {σ:Nat->Nat} {C C':Cx} (h:MoreR σ C C'):∀(es:List (CV × AV)) (ms:List MapEntry),RepM C es ms->RepM C' (es.map fun p=>(p.1,p.2.mp σ)) ms
 | [],ms,hu=>hu
 | e::es,ms,hu=>by
  obtain ⟨m,ms',h1,h2,h3,h4⟩:=hu
  exact ⟨m,ms',h1,RepC.mono h.ok _ _ h2,Rep.moreR h _ _ h3,RepM.moreR h es ms' h4⟩
theorem ObjRep.moreR {σ:Nat->Nat} {C C':Cx} (h:MoreR σ C C') {g:Dn} {o:AObj} (hw:C'.w=C.w) (ho:ObjRep C g o):ObjRep C' g (o.mp σ):=by
 cases o with
 | blk T cs =>
  obtain ⟨k,us,rfl,h2,h3⟩:=ho
  exact ⟨k,us,rfl,by rw [hw];exact h2,RepL.moreR h cs us h3⟩
 | row T cs =>
  rcases ho with h1|⟨k,us,vs,rfl,h2,h3,h4⟩
  ·exact .inl h1
  ·exact .inr ⟨k,us,vs,rfl,by rw [hw];exact h2,RepCs.mono h.ok cs us h3,h4⟩
 | lp b sz L sl xs =>
  obtain ⟨k,r,rfl,h2,h3,h4,h5,h6,h7,h8,h9⟩:=ho
  exact ⟨k,r,rfl,by rw [hw];exact h2,h3,h4,h5,h6,h7,h8,RepL.moreR h xs _ h9⟩
 | dfr b =>
  obtain ⟨k,rfl,h2⟩:=ho
  exact ⟨k,rfl,by rw [hw];exact h2⟩
 | tab es =>
  obtain ⟨k,ms,t,rfl,h2,h3⟩:=ho
  exact ⟨k,ms,t,rfl,by rw [hw];exact h2,h3.1,RepM.moreR h es _ h3.2⟩
 | dead=>exact ho.elim
def shB:Option AObj->Option AObj->Bool
 | some (.blk _ c),some (.blk _ c')=>Nat.beq c.length c'.length
 | some (.tab _),some (.tab _)=>true
 | _,_=>false
theorem aL3 {a b:Option AObj} (h:shB a b=true):∃x y,a=some x/\b=some y:=by
 unfold shB at h
 split at h<;>first|exact ⟨_,_,rfl,rfl⟩|cases h
def ACG (P:Di) (f:FuncId) (k:Nat) (h0:aL) (args:Dp) (h1:aL) (r:CV):Prop :=
 ∀(ok:Nat->Prop) (w:World) (M:Nat->Dn) (g:Nat) (vs:Db),ConcH ⟨w,(List.range k).filterMap M,ok,[]⟩ (lt k) M (lk h0) w->M 0=some g->(∀b,ok b->∀id,id<k->M id≠some b)->RepCs ok w args vs ->
  Calls P f (Value.pointer (some ⟨g,0,none⟩)::vs).toArray w fun e w'=>∃v,e = .returned v/\ConcH ⟨w,(List.range k).filterMap M,ok,[]⟩ (lt k) M (lk h1) w'/\RepC (aU ⟨w,(List.range k).filterMap M,ok,[]⟩ (lt k) M (lk h1)) w' r v
theorem ACG.eq {P:Di} {f:FuncId} {k:Nat} {h0 h1 h1':aL} {args:Dp} {r r':CV} (h:ACG P f k h0 args h1 r) (e1:h1=h1') (e2:r=r'):ACG P f k h0 args h1' r':=e1▸e2▸h
theorem tK {σ:Nat->Nat} {F:AObj->AObj} {h:aL} {q:Nat}:∀{h1:aL},(∀p∈h1,σ p.1≠q)->lk (h1.map (fun p=>(σ p.1,F p.2))++h) q=lk h q
 | [],_=>rfl
 | p::h1,hn=>by
  rw [AD,AF,bJ,Af (hn p aO)]
  exact tK fun p hp=>hn p (by simp [hp])
theorem tL {σ:Nat->Nat} {h:aL} {k:Nat} (hi:∀i j,i<k->j<k->σ i=σ j->i=j) {id:Nat} (hid:id<k) {o:AObj}:∀{h1:aL},(∀p∈h1,p.1<k)->lk h1 id=some o->lk (h1.map (fun p=>(σ p.1,p.2.mp σ))++h) (σ id)=some (o.mp σ)
 | [],_,e=>by cases e
 | p::h1,hk,e=>by
  rw [AD,AF,bJ]
  rw [bJ] at e
  by_cases hp:p.1=id
  ·rw [Aj hp] at e
   rw [Aj (by rw [hp]),pE e]
   cases o<;>first|rfl|(have:=pE e;rw [this] at e;cases e)
  ·rw [Af hp] at e
   rw [Af (fun he=>hp (hi _ _ (hk p aO) hid he))]
   exact tL hi hid (fun p hp=>hk p (by simp [hp])) e
section call
variable {P:Di} {sz n k:Nat} {env:Env} {h h0 h1 hm:aL} {dfs:bM} {K:AK} {ops:Dd} {rest:Dc} {d:Dg} {ty:Dh} {pos:String} {aft:Df} {gd:Da} {f:FuncId} {x0:Operand} {xs:Dm} {ats:Dl} {cs cs':Dp} {r:CV}
theorem jE (l : De) (hac : ACG P f k h0 cs' h1 r) (hg : guardA ops env ⟨d, .call ⟨.value (.func f), (x0 :: xs).toArray, ats⟩, ty, pos, aft, gd⟩ true) (hd : fH d sz = true) (hb : Body P f) (hk0 : Nat.blt 0 k = true) (hN : (List.range k).all (fun i => Nat.blt (sg l i) n) = true)
    (hinj : (List.range k).all (fun i => (List.range k).all fun j => Nat.beq i j || !Nat.beq (sg l i) (sg l j)) = true) (hx0 : evA env x0 = some (.ref (sg l 0) 0)) (hh : lN (sg l) h k h0) (hsh : (List.range k).all (fun i => shB (lk h0 i) (lk h1 i)) = true) (hkeys : h1.all (fun p => Nat.blt p.1 k) = true)
    (hx : dO (evA env) xs = some cs) (hcv : CvL cs cs') (hhm : h1.map (fun p => (sg l p.1, p.2.mp (sg l))) = hm)
    (next : AWL P ops sz rest K n (fA env d (.c r)) (hm ++ h) dfs) : AWL P ops sz (⟨d, .call ⟨.value (.func f), (x0 :: xs).toArray, ats⟩, ty, pos, aft, gd⟩ :: rest) K n env h dfs := by
  subst hhm
  have hk0 : 0 < k := by simpa using hk0
  have hn' : ∀ i, i < k -> sg l i < n := fun i hi => by
    have := Aq.1 hN i (A5.2 hi)
    simpa using this
  have hi' : ∀ i j, i < k -> j < k -> sg l i = sg l j -> i = j := fun i j hi hj e => by
    have := Aq.1 (Aq.1 hinj i (A5.2 hi)) j (A5.2 hj)
    simp only [Bn, Ce] at this
    rcases this with h | h
    · exact Ac h
    · rw [e, B7] at h; cases h
  have hsh' : ∀ i, i < k -> shB (lk h0 i) (lk h1 i) = true := fun i hi => Aq.1 hsh i (A5.2 hi)
  have hkeys' : ∀ p ∈ h1, p.1 < k := fun p hp => by have := Aq.1 hkeys p hp; simpa using this
  generalize sg l = σ at *
  clear hN hinj hsh hkeys
  intro B a w hc
  obtain ⟨M, g1, g2, g3, g4⟩ := hc
  refine dM fun K' hK' => ?_
  rw [Aj (hg.wanted g3)]
  have he := cT g3
  let M' : Nat -> Dn := fun i => M (σ i)
  let ok := aU B (lt n) M (lk h)
  let B' : Bs := ⟨w, (List.range k).filterMap M', ok, []⟩
  have hl0 : ∀ i, i < k -> ∃ o0 o1, lk h0 i = some o0 /\ lk h1 i = some o1 /\ lk h (σ i) = some (o0.mp σ) /\ lk (h1.map (fun p => (σ p.1, p.2.mp σ)) ++ h) (σ i) = some (o1.mp σ) := fun i hi => by
    obtain ⟨x, y, e1, e2⟩ := aL3 (hsh' i hi)
    exact ⟨x, y, e1, e2, (hh i x e1).1, tL hi' hi hkeys' e2⟩
  have hout : ∀ q, (∀ i, i < k -> σ i ≠ q) -> lk (h1.map (fun p => (σ p.1, p.2.mp σ)) ++ h) q = lk h q := fun q hq => tK fun p hp => hq p.1 (hkeys' p hp)
  have hnk : ∀ b, ok b -> ∀ id, id < k -> M' id ≠ some b := fun b hb id hid he => by
    obtain ⟨o0, o1, e1, e2, e3, e4⟩ := hl0 id hid
    exact hb.2 (σ id) _ (hn' id hid) e3 he
  have hmemG : ∀ b, b ∈ (List.range k).filterMap M' ↔ ∃ i, i < k /\ M' i = some b := fun b => by simp [CF]
  have hless : LessR k σ (cx B n M h w) ⟨lt k, M', aU B' (lt k) M' (lk h0), w⟩ := ⟨fun id hid _ => ⟨hid, rfl⟩, fun b hb hl => ⟨⟨.inl hb, fun id o hid hH he => hnk b hb id hid he⟩, hl, rfl⟩, fun _ _ h => h⟩
  have hcon : ConcH B' (lt k) M' (lk h0) w := by
    refine ⟨FrB.refl _ _, fun id o hid hH => ?_, fun id id' o o' g k1 k2 k3 k4 k5 k6 => ?_, fun id o g k1 k2 k3 => .inr ((hmemG g).2 ⟨id, k1, k3⟩)⟩
    · exact (g1.obj _ _ (hn' id hid) (hh id o hH).1).lessR hless rfl (hh id o hH).2
    · exact hi' id id' k1 k2 (g1.inj _ _ _ _ g (hn' id k1) (hn' id' k2) (hh id o k3).1 (hh id' o' k4).1 k5 k6)
  have hargs : RepCs ok w cs (xs.map a.eval) := RepL.toC (C := cx B n M h w) (eY he qV)
  have hp := he x0 _ hx0
  simp only [Rep] at hp
  obtain ⟨hid, g, hM, hp⟩ := hp
  unfold Oper.wp execOp
  simp only [resolve, Deferred.ofValue, Act.eval, invoke, Sem.run_bind, Sem.run_pure, Result.andThen_ok, AQ, AX, Body.run hb, Oper.upon]
  rw [show (#[] ++ (List.map a.eval (x0 :: xs)).toArray : Do) = (Value.pointer (some ⟨g, 0, none⟩) :: List.map a.eval xs).toArray by simp [hp]]
  refine (hac ok w M' g _ hcon hM hnk (hcv _ _ _ hargs)).mono ?_
  rintro e w' ⟨v, rfl, hc1, hv⟩
  simp only
  generalize hHm : h1.map (fun p => (σ p.1, p.2.mp σ)) ++ h = Hm at *
  have hlive : ∀ q, (lk Hm q).isSome = (lk h q).isSome := fun q => by
    by_cases hq : ∃ i, i < k /\ σ i = q
    · obtain ⟨i, hi, rfl⟩ := hq
      obtain ⟨o0, o1, e1, e2, e3, e4⟩ := hl0 i hi
      rw [e3, e4]; rfl
    · rw [hout q fun i hi e => hq ⟨i, hi, e⟩]
  have hliveS : ∀ q o, lk Hm q = some o -> ∃ o', lk h q = some o' := fun q o hq => by
    have := hlive q
    rw [hq] at this
    exact AI.1 this.symm
  have hliveS' : ∀ q o, lk h q = some o -> ∃ o', lk Hm q = some o' := fun q o hq => by
    have := hlive q
    rw [hq] at this
    exact AI.1 this
  have hfr := hc1.fr
  have hGb : ∀ b, b < w.heap.size -> (∀ i, i < k -> M' i ≠ some b) -> w'.heap[b]? = w.heap[b]? := fun b hb hn => hfr.block b hb (fun hm => by obtain ⟨i, hi, e⟩ := (hmemG b).1 hm; exact hn i hi e)
  have hokE : aU B (lt n) M (lk Hm) = ok := by
    funext b
    simp only [ok, aU, Bu]
    refine C2 Cs ⟨fun hk q o hq hH => ?_, fun hk q o hq hH => ?_⟩
    · obtain ⟨o', ho'⟩ := hliveS' q o hH; exact hk q o' hq ho'
    · obtain ⟨o', ho'⟩ := hliveS q o hH; exact hk q o' hq ho'
  have hkeep : jO ok (aU B (lt n) M (lk Hm)) w w' := fun b hb hl => ⟨by rw [hokE]; exact hb, A0 hl hfr.size, hGb b hl (fun i hi => hnk b hb i hi)⟩
  have hshape : ∀ b e s, w.shape? b = some (e, s) -> ∃ e', w'.shape? b = some (e', s) := fun b e s hs => by
    by_cases hq : ∃ i, i < k /\ M' i = some b
    · obtain ⟨i, hi, hMi⟩ := hq
      obtain ⟨o0, o1, e1, e2, e3, e4⟩ := hl0 i hi
      have p0 := hcon.obj i o0 hi e1
      have p1 := hc1.obj i o1 hi e2
      have ps := hsh' i hi
      rw [e1, e2] at ps
      cases o0 <;> cases o1 <;> simp only [shB] at ps <;> try cases ps
      · obtain ⟨b0, us0, q1, q2, q3⟩ := p0
        obtain ⟨b1, us1, r1, r2, r3⟩ := p1
        rw [hMi] at q1 r1
        injection q1 with q1
        injection r1 with r1
        subst q1 r1
        rename_i T0 c0 T1 c1
        refine ⟨T1, ?_⟩
        have ps := Ac ps
        have l0 := q3.length
        have l1 := r3.length
        unfold World.shape? at hs ⊢
        simp only at q2 r2
        rw [q2] at hs
        rw [r2]
        simp only [Option.some.injEq, Prod.mk.injEq, Ay] at hs ⊢
        exact ⟨trivial, by omega⟩
      · obtain ⟨b0, ms, t, q1, q2, q3⟩ := p0
        rw [hMi] at q1
        injection q1 with q1
        subst q1
        unfold World.shape? at hs
        simp only at q2
        rw [q2] at hs
        cases hs
    · refine ⟨e, ?_⟩
      rw [eC (hGb b (jW hs) fun i hi e => hq ⟨i, hi, e⟩)]
      exact hs
  have hext : Ext (cx B n M h w) (cx B n M Hm w') := ⟨fun id hid => ⟨hid, rfl⟩, hkeep, hshape⟩
  have hnewok : ∀ b, aU B' (lt k) M' (lk h1) b -> b < w'.heap.size -> aU B (lt n) M (lk Hm) b := fun b hb hl => by
    rw [hokE]
    rcases hb.1 with h5 | h5 | h5
    · exact h5
    · refine ⟨.inr (.inl (Ao g1.fr.size h5)), fun q o hq hH he => ?_⟩
      have := (g1.obj q o hq hH).lt b he
      simp only [B', cx] at h5 this
      omega
    · obtain ⟨i, hi, e⟩ := (hmemG b).1 h5
      obtain ⟨o0, o1, e1, e2, e3, e4⟩ := hl0 i hi
      exact absurd e (hb.2 i o1 hi e2)
  have hmore : MoreR σ ⟨lt k, M', aU B' (lt k) M' (lk h1), w'⟩ (cx B n M Hm w') := ⟨fun id hid => ⟨hn' id hid, rfl⟩, fun b hb hl => ⟨hnewok b hb hl, hl, rfl⟩, fun _ _ h => h⟩
  have hcc : ConcH B (lt n) M (lk Hm) w' := by
    refine ⟨⟨hfr.os.trans g1.fr.os, hfr.tape.trans g1.fr.tape, hfr.output.trans g1.fr.output, Ao g1.fr.size hfr.size, fun b hb hnG => ?_⟩, fun q o hq hH => ?_, fun q q' o o' g k1 k2 k3 k4 => ?_, fun q o g k1 k2 => ?_⟩
    · rw [hGb b (A0 hb g1.fr.size) (fun i hi e => ?_)]
      · exact g1.fr.block b hb hnG
      · obtain ⟨o0, o1, e1, e2, e3, e4⟩ := hl0 i hi
        rcases g1.lo _ _ b (hn' i hi) e3 e with h5 | h5
        · omega
        · exact hnG h5
    · by_cases hqi : ∃ i, i < k /\ σ i = q
      · obtain ⟨i, hi, rfl⟩ := hqi
        obtain ⟨o0, o1, e1, e2, e3, e4⟩ := hl0 i hi
        rw [e4] at hH
        injection hH with hH
        subst hH
        exact (hc1.obj i o1 hi e2).moreR hmore rfl
      · have hH' : lk h q = some o := by rw [<- hout q fun i hi e => hqi ⟨i, hi, e⟩]; exact hH
        have ho := g1.obj q o hq hH'
        refine ho.ext hext fun b hb => hGb b (ho.lt b hb) fun i hi e => ?_
        obtain ⟨o0, o1, e1, e2, e3, e4⟩ := hl0 i hi
        exact hqi ⟨i, hi, g1.inj _ _ _ _ b (hn' i hi) hq e3 hH' e hb⟩
    · obtain ⟨x, hx⟩ := hliveS q o k3
      obtain ⟨y, hy⟩ := hliveS q' o' k4
      exact g1.inj q q' x y g k1 k2 hx hy
    · obtain ⟨x, hx⟩ := hliveS q o k2
      exact g1.lo q x g k1 hx
  have hvr : Rep (cx B n M Hm w') (.c r) v := RepC.mono (fun b hb hl => ⟨hnewok b hb hl, hl, rfl⟩) _ _ hv
  obtain ⟨p1, p2, p3⟩ := jM (h' := Hm) (M' := M) g2 g3 hext (dT hd) hvr
  exact hK' _ _ (next B _ _ ⟨M, hcc, p1, p2, by rw [p3]; exact g4.ext hext⟩)
end call
section enter
def frG:Nat->Dq->Bool
 | _,[]=>true
 | i,.ref j 0::r=>Nat.beq i j&&frG (i+1) r
 | i,.mh j::r=>Nat.beq i j&&frG (i+1) r
 | _,_=>false
theorem aY2 {i0 i:Nat}:∀{l:Dq} {v:AV},frG i0 l=true->l[i]? = some v->v = .ref (i0+i) 0\/v = .mh (i0+i):=by
 induction i generalizing i0 with
 | zero =>
  intro l v h hv
  match l,h,hv with
  | .ref j 0::r,h,hv =>
   simp only [frG,Am] at h
   simp only [Au,BC,Option.some.injEq] at hv
   rw [<- hv,Ac h.1]
   exact .inl rfl
  | .mh j::r,h,hv =>
   simp only [frG,Am] at h
   simp only [Au,BC,Option.some.injEq] at hv
   rw [<- hv,Ac h.1]
   exact .inr rfl
 | succ i ih =>
  intro l v h hv
  match l,h,hv with
  | .ref j 0::r,h,hv =>
   simp only [frG,Am] at h
   have:=ih h.2 (by simpa using hv)
   rw [show i0+1+i=i0+(i+1) by omega] at this
   exact this
  | .mh j::r,h,hv =>
   simp only [frG,Am] at h
   have:=ih h.2 (by simpa using hv)
   rw [show i0+1+i=i0+(i+1) by omega] at this
   exact this
def eR (P:Di) (tab:Tab) (rs:List ResultVar) (k:Nat) (F:Dq) (h1:aL) (r:CV):AK :=
 fun e n env h dfs=>(e = .normal\/e = .ret)/\gB P h dfs/\hU dfs=some F/\k<=n/\lN id (fB h dfs) k h1/\(∀i,i<k->(lk (fB h dfs) i).isSome=true/\(lk h1 i).isSome=true)/\∃v,ResL tab env (fB h dfs) rs v/\Frz (List.range k) (fB h dfs) v r
theorem bA4 {P:Di} {tab:Tab} {rs:List ResultVar} {k:Nat} {F:Dq} {h1 h h':aL} {r:CV} {v:AV} {n:Nat} {e:Exit} {env:Env} {dfs:bM} (he:e = .normal\/e = .ret) (hd:gB P h dfs) (hm:hU dfs=some F) (hh:fB h dfs=h') (hn:Nat.ble k n=true) (hw:lN id h' k h1) (hl:(List.range k).all (fun i=>(lk h' i).isSome&&(lk h1 i).isSome)=true) (hv:ResL tab env h' rs v) (ho:Frz (List.range k) h' v r):eR P tab rs k F h1 r e n env h dfs:=by
 subst hh
 refine ⟨he,hd,hm,AA hn,hw,fun i hi=>?_,v,hv,ho⟩
 have:=Aq.1 hl i (A5.2 hi)
 simpa using this
theorem mp_id:∀x:AV,x.mp id=x:=by
 intro x
 have:(∀x:AV,x.mp id=x)/\(∀xs:Dq,AV.mps id xs=xs):=by
  refine ⟨fun x=>?_,fun xs=>?_⟩
  ·induction x using AV.rec (motive_2:=fun xs=>AV.mps id xs=xs)<;>simp_all [AV.mp,AV.mps]
  ·induction xs using AV.rec_1 (motive_1:=fun x=>x.mp id=x)<;>simp_all [AV.mp,AV.mps]
 exact this.1 x
theorem cI {P : Di} {tab : Tab} (tb : bF P tab) (F : Dq) {f : FuncId} {fn : Func} {c : Code} {k : Nat} {h0 h1 : aL} {args : Dp} {r : CV} {sz : Nat} (hf : P.funcs[f]? = some fn) (hb : fn.body = some c) (hsz : max fn.ntmps (args.length + 1) = sz) (hF : frG 0 F = true) (hFl : Nat.beq F.length k = true) (hlv : (List.range k).all (fun i => (lk h0 i).isSome) = true) (hF0 : F[0]? = some (.ref 0 0))
    (hmh : ∀ i, F[i]? = some (.mh i) -> ∃ es, lk h0 i = some (.tab es)) (hrf : ∀ i, F[i]? = some (.ref i 0) -> ∃ T cs, lk h0 i = some (.blk T cs))
    (hx : AW P sz c (eR P tab fn.results.toList k F h1 r) k (tF 0 (.ref 0 0 :: args.map AV.c)) h0 [(none, F)]) : ACG P f k h0 args h1 r := by
  intro ok w M g vs hcon hM0 hnk hvs
  have hlen := hvs.length
  have hFl := Ac hFl
  have hk0 : 0 < k := by
    rw [<- hFl]
    have := (Ad.1 hF0).1
    omega
  have hfv : ∃ fr : Db, ∀ (ok' : Nat -> Prop) (w' : World), RepL ⟨lt k, M, ok', w'⟩ F fr := by
    have key : ∀ (l : Dq) (i0 : Nat), frG i0 l = true -> i0 + l.length <= k -> (∀ i v, l[i]? = some v -> F[i0 + i]? = some v) -> ∃ fr : Db, ∀ (ok' : Nat -> Prop) (w' : World), RepL ⟨lt k, M, ok', w'⟩ l fr := by
      intro l
      induction l with
      | nil => intro i0 _ _ _; exact ⟨[], fun _ _ => rfl⟩
      | cons v l ih =>
        intro i0 h1 h2 h3
        have hv := aY2 (i := 0) h1 rfl
        have hF' := h3 0 v rfl
        obtain ⟨fr, hfr⟩ := ih (i0 + 1) (by
          match v, h1 with
          | .ref j 0, h1 => simp only [frG, Am] at h1; exact h1.2
          | .mh j, h1 => simp only [frG, Am] at h1; exact h1.2) (by simp only [Au] at h2; omega) (fun i x hx => by
            have := h3 (i + 1) x (by simpa using hx)
            rw [show i0 + 1 + i = i0 + (i + 1) by omega]
            exact this)
        have hi0 : i0 < k := by simp only [Au] at h2; omega
        rw [BU] at hv hF'
        rcases hv with rfl | rfl
        · obtain ⟨T, cs, ho⟩ := hrf i0 hF'
          obtain ⟨b, us, e1, _⟩ := hcon.obj i0 _ hi0 ho
          exact ⟨.pointer (some ⟨b, 0, none⟩) :: fr, fun ok' w' => ⟨_, _, rfl, ⟨hi0, b, e1, rfl⟩, hfr ok' w'⟩⟩
        · obtain ⟨es, ho⟩ := hmh i0 hF'
          obtain ⟨b, ms, t, e1, _⟩ := hcon.obj i0 _ hi0 ho
          exact ⟨.map (some b) :: fr, fun ok' w' => ⟨_, _, rfl, ⟨hi0, b, e1, rfl⟩, hfr ok' w'⟩⟩
    exact key F 0 hF aA (fun i v hv => by rw [Al]; exact hv)
  obtain ⟨fr, hfr⟩ := hfv
  have hcon' : ConcH ⟨w, (List.range k).filterMap M, ok, fr⟩ (lt k) M (lk h0) w := ⟨hcon.fr, hcon.obj, hcon.inj, hcon.lo⟩
  have hok : ∀ b, ok b -> aU ⟨w, (List.range k).filterMap M, ok, fr⟩ (lt k) M (lk h0) b := fun b hk => ⟨.inl hk, fun id o hid hH he => hnk b hk id hid he⟩
  have hall : RepL (cx ⟨w, (List.range k).filterMap M, ok, fr⟩ k M h0 w) (.ref 0 0 :: args.map AV.c) (.pointer (some ⟨g, 0, none⟩) :: vs) :=
    ⟨_, _, rfl, ⟨hk0, g, hM0, rfl⟩, RepL.ofC (RepCs.mono (fun b hb hl => ⟨hok b hb, hl, rfl⟩) _ _ hvs)⟩
  refine fL hf hb (wp_mono (jI (hx ⟨w, (List.range k).filterMap M, ok, fr⟩ _ w ⟨M, hcon', ?_, ?_, ?_⟩)) ?_)
  · simp; omega
  · intro t av ht
    obtain ⟨e1, e2⟩ := kK ht
    rw [B1] at e2
    obtain ⟨u, hu, hru⟩ := hall.get e2
    have : ((Value.pointer (some ⟨g, 0, none⟩) :: vs).toArray ++ Array.replicate (fn.ntmps - (Value.pointer (some ⟨g, 0, none⟩) :: vs).toArray.size) undef).getD t undef = u := by
      have hlt := (Ad.1 hu).1
      rw [B0, Bq vL]
      rw [Bv, hu]
      rfl
    rw [this]
    exact hru
  · exact ⟨hfr _ _, rfl⟩
  · intro e a w' hq
    obtain ⟨n, env, h, dfs, ⟨j1, j2, j3, j4, j5, j6, v, j7, j8⟩, M', d1, d2, d3, d4⟩ := hq
    have : gS P fn a.tmps (fun e w' => ∃ v, e = .returned v /\ ConcH ⟨w, (List.range k).filterMap M, ok, []⟩ (lt k) M (lk h1) w' /\ RepC (aU ⟨w, (List.range k).filterMap M, ok, []⟩ (lt k) M (lk h1)) w' r v) a.defers w' := by
      refine eH j2 d1 d4 fun w2 g1 g2 => ?_
      obtain ⟨u, k1, k2⟩ := j7.run tb g1 (fun t av ht => Rep.ext g2 _ _ (d3 t av ht))
      have hfr2 := RepL.ext g2 _ _ (kL j3 d4)
      have hMM : ∀ i, i < k -> M' i = M i := fun i hi => by
        obtain ⟨x, hx⟩ : ∃ x, F[i]? = some x := ⟨F[i]'(by omega), Ab aA⟩
        have hxx := aY2 hF hx
        rw [Al] at hxx
        obtain ⟨u1, q1, q2⟩ := (hfr ok w).get hx
        obtain ⟨u2, q3, q4⟩ := hfr2.get hx
        rw [q1] at q3
        injection q3 with q3
        subst q3
        rcases hxx with rfl | rfl
        · simp only [Rep, cx] at q2 q4
          obtain ⟨_, b1, e1, e2⟩ := q2
          obtain ⟨_, b2, e3, e4⟩ := q4
          rw [e2] at e4
          injection e4 with e4; injection e4 with e4; injection e4 with e4
          rw [e1, e3, e4]
        · simp only [Rep, cx] at q2 q4
          obtain ⟨_, b1, e1, e2⟩ := q2
          obtain ⟨_, b2, e3, e4⟩ := q4
          rw [e2] at e4
          injection e4 with e4; injection e4 with e4
          rw [e1, e3, e4]
      have hsome : ∀ i, i < k -> ∃ o, lk (fB h dfs) i = some o := fun i hi => AI.1 (j6 i hi).1
      have hokd : ∀ b, aU ⟨w, (List.range k).filterMap M, ok, fr⟩ (lt n) M' (lk (fB h dfs)) b -> aU ⟨w, (List.range k).filterMap M, ok, []⟩ (lt k) M (lk h1) b := fun b hb => ⟨hb.1, fun id o hid hH he => by
        obtain ⟨o', ho'⟩ := hsome id hid
        exact hb.2 id o' (A0 hid j4) ho' ((hMM id hid).trans he)⟩
      have hls : LessR k id (cx ⟨w, (List.range k).filterMap M, ok, fr⟩ n M' (fB h dfs) w2) ⟨lt k, M, aU ⟨w, (List.range k).filterMap M, ok, []⟩ (lt k) M (lk h1), w2⟩ := ⟨fun q hq _ => ⟨hq, (hMM q hq).symm⟩, fun b hb hl => ⟨hokd b hb, hl, rfl⟩, fun _ _ h => h⟩
      refine ⟨u, k2, u, rfl, ⟨g1.fr, fun q o hq hH => ?_, fun q q' o o' b q1 q2 q3 q4 q5 q6 => ?_, fun q o b q1 q2 q3 => .inr (by simp only [CF, A5]; exact ⟨q, q1, q3⟩)⟩, ?_⟩
      · rw [<- hMM q hq]
        exact (g1.obj q _ (A0 hq j4) (j5 q o hH).1).lessR hls rfl (j5 q o hH).2
      · exact g1.inj q q' _ _ b (A0 q1 j4) (A0 q2 j4) (j5 q o q3).1 (j5 q' o' q4).1 ((hMM q q1).trans q5) ((hMM q' q2).trans q6)
      · have hz := j8 _ (lt n) M' (lk (fB h dfs)) w2 u (fun id o h _ => h) (fun q hq => ⟨A0 (A5.1 hq) j4, hsome q (A5.1 hq)⟩) g1 k1
        refine RepC.mono (fun b hb hl => ⟨⟨hb.1, fun id o hid hH he => ?_⟩, hl, rfl⟩) _ _ hz
        exact hb.2 id (A5.2 hid) ((hMM id hid).trans he)
    rcases j1 with rfl | rfl <;> exact this
end enter
end Go.Av
