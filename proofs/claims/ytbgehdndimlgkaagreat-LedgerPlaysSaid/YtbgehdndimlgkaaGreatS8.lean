/- Lemmas for laws of the ledger. -/
import Derived.Test.YtbgehdndimlgkaaGreatS5
import Derived.Test.YtbgehdndimlgkaaGreatS7
set_option linter.all false
namespace Go.Av
open Go Go.RowKit
section
def cW8 (ok:Nat->Prop) (w:World) (E:Du) (size n:Nat) (cs:D1) (gq:Dz) (v:Value):Prop :=
 (gq=none/\n=0/\cs=[]/\v = .slice none 0 0) \/
 ∃g cp us vs,gq=some g/\v = .slice (some ⟨g,0,none⟩) n cp/\n<=cp/\cp<=maxLen/\w.heap[g]? = some (.cells (us++vs).toArray E (0,0))/\RepCs ok w cs us/\(∀u∈us,u.oneCell'=true)/\us.length+vs.length=cp*size
def ACA (P:Dv) (f:FuncId) (E:Du) (size n:Nat) (c0 args c1:D1) (m:Nat):Prop :=
 ∀(ok:Nat->Prop) (w:World) (gq:Dz) (v0:Value) (vs:Do),(∀g,gq=some g->¬ok g)->cW8 ok w E size n c0 gq v0->RepCs ok w args vs ->
  Calls P f (v0::vs).toArray w fun e w'=>∃(v:Value) (gq':Dz),e = .returned v/\FrB w gq.toList w'/\(∀b e s,w.shape? b=some (e,s)->∃e',w'.shape? b=some (e',s))/\(∀g,gq'=some g->gq=some g\/w.heap.size<=g)/\cW8 ok w' E size m c1 gq' v
def aG5 (c1:D1):Prop:=∀(ok ok':Nat->Prop) (w w':World) (us:Do),RepCs ok w c1 us->RepCs ok' w' c1 us
section call
variable {P:Dv} {ev:Evl} {h:aO} {d:Dt} {ty:Du} {pos:String} {aft:Ds} {gd:Dn} {i:Nat} {f:FuncId} {x0:Operand} {xs:Dy} {ats:Dx} {E:Du} {c0 c1 cs cs':D1} {id size m k:Nat}
theorem bN6 (hac : ACA P f E size m c0 cs' c1 k) (hb : Body P f) (hx0 : ev x0 = some (.own id 0 m size true)) (ho : lk h id = some (.row E c0)) (hcl : c0.length = m * size) (hx : eX ev xs = some cs) (hcv : CvL cs cs') (hfl : aG5 c1) :
    bY P ⟨d, .call ⟨.value (.func f), (x0 :: xs).toArray, ats⟩, ty, pos, aft, gd⟩ ev h (.own i 0 k size true) [(i, .row E c1)] (some (id, none)) i (i + 1) := by
  intro B dom M H w a K' Q hh hn cc he hK'
  have hargs : RepCs (bF B dom M H) w cs (xs.map a.eval) := RepL.toC (C := ⟨dom, M, bF B dom M H, w⟩) (gD he tV)
  have hrx := he x0 _ hx0
  have hid : dom id := by simp only [Rep] at hrx; exact hrx.1
  have hi0 := hn i (Ah _) (Bk _)
  have hidi : id ≠ i := fun e => hi0.1 (e ▸ hid)
  have hoH := hh id _ ho hid
  have fin : ∀ (w' : World) (gq : Dz) (u : Value), w'.os = w.os -> w'.tape = w.tape -> w'.output = w.output -> w.heap.size <= w'.heap.size -> (∀ b, b < w.heap.size -> M id ≠ some b -> w'.heap[b]? = w.heap[b]?) -> (∀ b e s, w.shape? b = some (e, s) -> ∃ e', w'.shape? b = some (e', s)) ->
      (∀ g, gq = some g -> M id = some g \/ w.heap.size <= g) ->
      (∀ C, Ext ⟨dom, M, bF B dom M H, w⟩ C -> C.w = w' -> C.dom i -> C.M i = gq -> ObjRep C gq (.row E c1) /\ Rep C (.own i 0 k size true) u) ->
      K' (a.put d u) w' := by
    intro w' gq u e1 e2 e3 e4 e5 e6 e7 e8
    let M' : Nat -> Dz := fun q => if q = i then gq else M q
    have hMn : M' i = gq := by simp [M']
    have hMo : ∀ q, dom q -> M' q = M q := fun q hq => by
      have : q ≠ i := fun e => hi0.1 (e ▸ hq)
      simp [M', this]
    have hln : H i = some (.row E c1) := by rw [hi0.2, cA, Ak rfl]; rfl
    have hobj : ∀ q o, ad dom i (i + 1) q -> ov (some (id, none)) H q = some o -> (q = i /\ o = .row E c1) \/ (dom q /\ q ≠ id /\ H q = some o) := fun q o hq hH => by
      by_cases hqi : q = id
      · subst hqi; rw [xR] at hH; cases hH
      · rw [lE (fun x e => hqi (congrArg Prod.fst (Option.some.inj e)).symm)] at hH
        rcases hq with hq | ⟨hq1, hq2⟩
        · exact .inr ⟨hq, hqi, hH⟩
        · obtain rfl : q = i := by omega
          rw [hln] at hH; injection hH with hH; exact .inl ⟨rfl, hH.symm⟩
    have hext : Ext ⟨dom, M, bF B dom M H, w⟩ ⟨ad dom i (i + 1), M', bF B (ad dom i (i + 1)) M' (ov (some (id, none)) H), w'⟩ := by
      refine ⟨fun q hq => ⟨.inl hq, hMo q hq⟩, fun b hb1 hb2 => ⟨⟨hb1.1, fun q o hq hH he => ?_⟩, A3 hb2 e4, e5 b hb2 (fun he => hb1.2 id _ hid hoH he)⟩, e6⟩
      rcases hobj q o hq hH with ⟨rfl, rfl⟩ | ⟨h1, h3, h4⟩
      · rw [hMn] at he
        rcases e7 b he with h1 | h1
        · exact hb1.2 id _ hid hoH h1
        · simp only at hb2; omega
      · rw [hMo q h1] at he; exact hb1.2 q o h1 h4 he
    have hdi : ad dom i (i + 1) i := .inr ⟨Ah _, Bk _⟩
    have e8' := e8 _ hext rfl hdi hMn
    have hcc : ConcH B (ad dom i (i + 1)) M' (ov (some (id, none)) H) w' := by
      refine ⟨⟨e1.trans cc.fr.os, e2.trans cc.fr.tape, e3.trans cc.fr.output, At cc.fr.size e4, fun b h1 h3 => ?_⟩, fun q o hq hH => ?_, fun q q' o o' g h1 h3 h4 h5 h6 h7 => ?_, fun q o g hq hH he => ?_⟩
      · rw [e5 b (A3 h1 cc.fr.size) (fun he => ?_)]
        · exact cc.fr.block b h1 h3
        · rcases cc.lo id _ b hid hoH he with h4 | h4
          · omega
          · exact h3 h4
      · rcases hobj q o hq hH with ⟨rfl, rfl⟩ | ⟨h1, h3, h4⟩
        · rw [hMn]; exact e8'.1
        · rw [hMo q h1]
          have h5 := cc.obj q o h1 h4
          exact h5.ext hext (fun b hb => e5 b (h5.lt b hb) (fun he => h3 (cc.inj q id o _ b h1 hid h4 hoH hb he)))
      · rcases hobj q o h1 h4 with ⟨rfl, rfl⟩ | ⟨p1, p2, p3⟩ <;> rcases hobj q' o' h3 h5 with ⟨rfl, rfl⟩ | ⟨r1, r2, r3⟩
        · rfl
        · rw [hMn] at h6; rw [hMo q' r1] at h7
          rcases e7 g h6 with t1 | t1
          · exact absurd (cc.inj q' id o' _ g r1 hid r3 hoH h7 t1) r2
          · have := (cc.obj q' o' r1 r3).lt g h7; simp only at this; omega
        · rw [hMn] at h7; rw [hMo q p1] at h6
          rcases e7 g h7 with t1 | t1
          · exact absurd (cc.inj q id o _ g p1 hid p3 hoH h6 t1) p2
          · have := (cc.obj q o p1 p3).lt g h6; simp only at this; omega
        · rw [hMo q p1] at h6; rw [hMo q' r1] at h7
          exact cc.inj q q' o o' g p1 r1 p3 r3 h6 h7
      · rcases hobj q o hq hH with ⟨rfl, rfl⟩ | ⟨h1, h3, h4⟩
        · rw [hMn] at he
          rcases e7 g he with t1 | t1
          · exact cc.lo id _ g hid hoH t1
          · have := cc.fr.size; exact .inl aA
        · rw [hMo q h1] at he; exact cc.lo q o g h1 h4 he
    exact hK' u w' M' hext hcc e8'.2
  have hown : cW8 (bF B dom M H) w E size m c0 (M id) (a.eval x0) := by
    simp only [Rep] at hrx
    rcases hrx.2 with ⟨q1, q2, q3, q4⟩ | ⟨g, cp, q1, q2, q3, q4, q5⟩ | ⟨_, q2, _⟩
    · exact .inl ⟨q3, q1, An (by rw [hcl, q1, Cf]), q4⟩
    · obtain ⟨us, vs, hblk0, hus, hon⟩ := fI hh cc ho hid q1
      obtain ⟨e0, hsh⟩ := q5 trivial
      have hcap : us.length + vs.length = cp * size := by
        have hsh' : w.shape? g = some (E, (us ++ vs).length) := by
          unfold World.shape?
          rw [hblk0]; simp
        rw [hsh'] at hsh
        injection hsh with hsh
        have := congrArg Prod.snd hsh
        simp only [Aq, Aa] at this
        exact this
      exact .inr ⟨g, cp, us, vs, q1, q2, q3, q4, hblk0, hus, hon, hcap⟩
    · cases q2
  have hng : ∀ g, M id = some g -> ¬ bF B dom M H g := fun g hM hk => hk.2 id _ hid hoH hM
  unfold Oper.wp execOp
  simp only [resolve, Deferred.ofValue, Act.eval, invoke, Sem.run_bind, Sem.run_pure, Result.andThen_ok, AZ, Bg, Body.run hb, Oper.upon]
  rw [show (#[] ++ (List.map a.eval (x0 :: xs)).toArray : D0) = (a.eval x0 :: List.map a.eval xs).toArray by simp]
  refine (hac _ w (M id) _ _ hng hown (hcv _ _ _ hargs)).mono ?_
  rintro e w' ⟨v, gq', rfl, hfr, hshp, hgq, hov⟩
  simp only
  refine fin w' gq' v hfr.os hfr.tape hfr.output hfr.size (fun b h1 h2 => hfr.block b h1 (fun hm => h2 (by simpa using hm))) hshp hgq (fun C hext hw hdn hMn => ?_)
  rcases hov with ⟨r1, r2, r3, r4⟩ | ⟨g, cp, us, vs, r1, r2, r3, r4, r5, r6, r7, r8⟩
  · exact ⟨.inl ⟨r1, r3⟩, hdn, .inl ⟨r2, rfl, hMn.trans r1, r4⟩⟩
  · refine ⟨.inr ⟨g, us, vs, r1, by rw [hw]; exact r5, hfl _ _ _ _ _ r6, r7⟩, hdn, .inr (.inl ⟨g, cp, hMn.trans r1, r2, r3, r4, fun _ => ⟨E, ?_⟩⟩)⟩
    unfold World.shape?
    rw [hw, r5]
    simp only [A1, Aq, Aa]
    rw [r8]
end call
section
variable {P:Dv} {sz n:Nat} {env:Env} {h:aO} {dfs:cD} {K:AK} {ops:Dq} {rest:Dp} {d:Dt} {ty:Du} {pos:String} {aft:Ds} {gd:Dn} {f:FuncId} {x0:Operand} {xs:Dy} {ats:Dx} {E:Du} {c0 c1 cs cs':D1} {id size m k:Nat}
theorem dI (hac : ACA P f E size m c0 cs' c1 k) (hg : guardA ops env ⟨d, .call ⟨.value (.func f), (x0 :: xs).toArray, ats⟩, ty, pos, aft, gd⟩ true) (hd : iD d sz = true) (hb : Body P f) (hx0 : evA env x0 = some (.own id 0 m size true)) (ho : lk h id = some (.row E c0)) (hcl : c0.length = m * size) (hx : eX (evA env) xs = some cs) (hcv : CvL cs cs') (hfl : aG5 c1)
    (next : AWL P ops sz rest K (n + 1) (gJ env d (.own n 0 k size true)) ((id, .dead) :: (n, .row E c1) :: h) dfs) : AWL P ops sz (⟨d, .call ⟨.value (.func f), (x0 :: xs).toArray, ats⟩, ty, pos, aft, gd⟩ :: rest) K n env h dfs :=
  lP (c := some (id, none)) (Δ := [(n, .row E c1)]) hg hd (BI n) trivial (bN6 hac hb hx0 ho hcl hx hcv hfl) (fun q h1 h2 => by
    obtain rfl : q = n := by omega
    rw [cA, Ak rfl]; rfl) (fun p hp => by rw [AX.1 hp]; exact Ah _) next
end
section enter
def eW (P:Dv) (tab:Tab) (rs:List ResultVar) (E:Du) (size n:Nat) (c1:D1) (m:Nat):AK :=
 fun e k env h dfs=>(e = .normal\/e = .ret)/\iJ P h dfs/\jH dfs=some [.own 0 0 n size true]/\0<k/\∃id,lk (gK h dfs) id=some (.row E c1)/\c1.length=m*size/\ResL tab env (gK h dfs) rs (.own id 0 m size true)
theorem dH5 {P:Dv} {tab:Tab} {rs:List ResultVar} {E:Du} {size n m id:Nat} {c1:D1} {h h':aO} {k:Nat} {e:Exit} {env:Env} {dfs:cD} (he:e = .normal\/e = .ret) (hd:iJ P h dfs) (hm:jH dfs=some [.own 0 0 n size true]) (hh:gK h dfs=h') (hk:Nat.blt 0 k=true) (ho:lk h' id=some (.row E c1)) (hc:c1.length=m*size) (hv:ResL tab env h' rs (.own id 0 m size true)):eW P tab rs E size n c1 m e k env h dfs :=
 ⟨he,hd,hm,by simpa [AJ] using hk,id,by rw [hh,ho],hc,hh▸hv⟩
theorem dX {P : Dv} {tab : Tab} (tb : bQ P tab) {f : FuncId} {fn : Func} {c : Code} {E : Du} {size n : Nat} {c0 args c1 : D1} {m : Nat} {sz : Nat} (hf : P.funcs[f]? = some fn) (hb : fn.body = some c) (hsz : max fn.ntmps (args.length + 1) = sz) (hfl : aG5 c1)
    (hx : AW P sz c (eW P tab fn.results.toList E size n c1 m) 1 (xJ 0 (.own 0 0 n size true :: args.map AV.c)) [(0, .row E c0)] [(none, [.own 0 0 n size true])]) : ACA P f E size n c0 args c1 m := by
  intro ok w gq v0 vs hng hown hvs
  have hlen := hvs.length
  have hok : ∀ b, ok b -> bF ⟨w, gq.toList, ok, [v0]⟩ (lt 1) (fun _ => gq) (lk [(0, .row E c0)]) b := fun b hk => ⟨.inl hk, fun id o hid hH he => hng b he hk⟩
  have hrep : Rep (cx ⟨w, gq.toList, ok, [v0]⟩ 1 (fun _ => gq) [(0, .row E c0)] w) (.own 0 0 n size true) v0 := by
    simp only [Rep, cx]
    refine ⟨Cm, ?_⟩
    rcases hown with ⟨r1, r2, r3, r4⟩ | ⟨g, cp, us, ws, r1, r2, r3, r4, r5, r6, r7, r8⟩
    · exact .inl ⟨r2, trivial, r1, r4⟩
    · refine .inr (.inl ⟨g, cp, r1, r2, r3, r4, fun _ => ⟨E, ?_⟩⟩)
      unfold World.shape?
      rw [r5]
      simp [r8]
  have hall : RepL (cx ⟨w, gq.toList, ok, [v0]⟩ 1 (fun _ => gq) [(0, .row E c0)] w) (.own 0 0 n size true :: args.map AV.c) (v0 :: vs) :=
    ⟨_, _, rfl, hrep, RepL.ofC (RepCs.mono (fun b hb hl => ⟨hok b hb, hl, rfl⟩) _ _ hvs)⟩
  have hcc : ConcH ⟨w, gq.toList, ok, [v0]⟩ (lt 1) (fun _ => gq) (lk [(0, .row E c0)]) w := by
    refine ⟨FrB.refl _ _, fun id o hid hH => ?_, fun id id' o o' g' h1 h2 _ _ _ _ => by simp only [lt] at h1 h2; omega, fun id o g' _ _ he => .inr (by simp [he])⟩
    have hid : id < 1 := hid
    obtain rfl : id = 0 := by omega
    have : some (AObj.row E c0) = some o := hH
    injection this with this
    subst this
    rcases hown with ⟨r1, r2, r3, r4⟩ | ⟨g, cp, us, ws, r1, r2, r3, r4, r5, r6, r7, r8⟩
    · exact .inl ⟨r1, r3⟩
    · exact .inr ⟨g, us, ws, r1, r5, RepCs.mono (fun b hb hl => ⟨hok b hb, hl, rfl⟩) _ _ r6, r7⟩
  refine gW hf hb (wp_mono (kR (hx ⟨w, gq.toList, ok, [v0]⟩ _ w ⟨fun _ => gq, hcc, ?_, ?_, ?_⟩)) ?_)
  · simp; omega
  · intro t av ht
    obtain ⟨h1, h2⟩ := lU ht
    rw [BB] at h2
    obtain ⟨u, hu, hru⟩ := hall.get h2
    have : ((v0 :: vs).toArray ++ Array.replicate (fn.ntmps - (v0 :: vs).toArray.size) undef).getD t undef = u := by
      have hlt := (Ag.1 hu).1
      rw [BE, By aA3]
      rw [BJ, hu]
      rfl
    rw [this]
    exact hru
  · exact ⟨⟨_, _, rfl, hrep, rfl⟩, rfl⟩
  · intro e a w' hq
    obtain ⟨k, env, h, dfs, ⟨h1, h2, h3, h4, id, h5, h7, h6⟩, M, d1, d2, d3, d4⟩ := hq
    have : iX P fn a.tmps (fun e w' => ∃ (v : Value) (gq' : Dz), e = .returned v /\ FrB w gq.toList w' /\ (∀ b e s, w.shape? b = some (e, s) -> ∃ e', w'.shape? b = some (e', s)) /\ (∀ g, gq' = some g -> gq = some g \/ w.heap.size <= g) /\ cW8 ok w' E size m c1 gq' v) a.defers w' := by
      refine fR h2 d1 d4 fun w2 g1 g2 => ?_
      obtain ⟨u, k1, k2⟩ := h6.run tb g1 (fun t av ht => Rep.ext g2 _ _ (d3 t av ht))
      have hfr := RepL.ext g2 _ _ (lV h3 d4)
      simp only [RepL, Rep] at hfr
      obtain ⟨u0, us', e1, ⟨hn, hfr⟩, _⟩ := hfr
      injection e1 with e1 e3
      rw [<- e1] at hfr
      simp only [Rep, cx] at k1
      obtain ⟨kd, k1⟩ := k1
      refine ⟨u, k2, u, M id, rfl, g1.fr, fun b e s hs => ?_, fun g hg => ?_, ?_⟩
      · by_cases hbg : gq = some b
        · rcases hown with ⟨r1, _⟩ | ⟨g, cp, us, ws, r1, r2, r3, r4, r5, r6, r7, r8⟩
          · rw [hbg] at r1; cases r1
          · rw [hbg] at r1
            injection r1 with r1
            subst r1
            have hse : s = cp * size := by
              unfold World.shape? at hs
              rw [r5] at hs
              simp only [Option.some.injEq, Prod.mk.injEq, A1, Aa] at hs
              omega
            rcases hfr with ⟨_, _, _, q1⟩ | ⟨g', cap', hM, e2, _, _, hfull⟩ | ⟨_, q1, _⟩
            · rw [r2] at q1; cases q1
            · rw [r2] at e2
              injection e2 with e2 e5 e6
              injection e2 with e2
              injection e2 with e2 e4
              subst e2 e6
              obtain ⟨e', hsh⟩ := hfull trivial
              refine ⟨e', ?_⟩
              rw [hse, <- Aq (cp * size)]
              exact hsh
            · cases q1
        · refine ⟨e, ?_⟩
          rw [eC (g1.fr.block b (jM hs) (fun hm => hbg (by simpa using hm)))]
          exact hs
      · rcases g1.lo id _ g kd h5 hg with h | h
        · exact .inr h
        · exact .inl oW
      · rcases k1 with ⟨p1, p2, p3, p4⟩ | ⟨g, cp, p1, p2, p3, p4, p5⟩ | ⟨_, p2, _⟩
        · exact .inl ⟨p3, p1, An (by rw [h7, p1, Cf]), p4⟩
        · obtain ⟨us1, vs1, hb1, hr1, hone1⟩ := fI (fun id o h _ => h) g1 h5 kd p1
          refine .inr ⟨g, cp, us1, vs1, p1, p2, p3, p4, hb1, hfl _ _ _ _ _ hr1, hone1, ?_⟩
          obtain ⟨e, hsh⟩ := p5 trivial
          unfold World.shape? at hsh
          rw [hb1] at hsh
          simp only [Option.some.injEq, Prod.mk.injEq, A1, Aa] at hsh
          omega
        · cases p2
    rcases h1 with rfl | rfl <;> exact this
end enter
theorem ACA.nil {P:Dv} {f:FuncId} {E:Du} {size k:Nat} {args c1:D1} (h:ACA P f E size 0 [] args c1 k) (hfl:aG5 c1):AC P f (.v (.slice none 0 0)::args) (.own 0 0 k size true) [(0,.row E c1)] 1:=by
 intro ok w vs hvs
 simp only [RepCs,RepC] at hvs
 obtain ⟨u,us,rfl,rfl,h2⟩:=hvs
 refine (h ok w none _ us (fun g hg=>by cases hg) (.inl ⟨rfl,rfl,rfl,rfl⟩) h2).mono ?_
 rintro e w' ⟨v,gq',rfl,hfr,hshp,hgq,hov⟩
 refine ⟨v,fun _=>gq',rfl,?_,?_⟩
 ·refine ⟨hfr,fun id o hid hH=>?_,fun id id' o o' g' h1 h2 _ _ _ _=>by simp only [lt] at h1 h2;omega,fun id o g _ _ he=>?_⟩
  ·have hid:id<1:=hid
   obtain rfl:id=0:=by omega
   have:some (AObj.row E c1)=some o:=hH
   injection this with this
   subst this
   rcases hov with ⟨r1,r2,r3,r4⟩|⟨g,cp,us,ws,r1,r2,r3,r4,r5,r6,r7,r8⟩
   ·exact .inl ⟨r1,r3⟩
   ·exact .inr ⟨g,us,ws,r1,r5,hfl _ _ _ _ _ r6,r7⟩
  ·rcases hgq g he with h1|h1
   ·cases h1
   ·exact .inl h1
 ·simp only [Rep,cx]
  refine ⟨Cm,?_⟩
  rcases hov with ⟨r1,r2,r3,r4⟩|⟨g,cp,us,ws,r1,r2,r3,r4,r5,r6,r7,r8⟩
  ·exact .inl ⟨r2,trivial,r1,r4⟩
  ·refine .inr (.inl ⟨g,cp,r1,r2,r3,r4,fun _=>⟨E,?_⟩⟩)
   unfold World.shape?
   rw [r5]
   simp [r8]
theorem bO (l:Dm):aG5 (u8c l):=fun ok ok' w w' us h=>by
 have:us=l.map fun b=>Value.int .u8 b.toNat:=by
  induction l generalizing us with
  | nil=>simpa [u8c,RepCs] using h
  | cons b l ih =>
   simp only [u8c,AH,RepCs,RepC] at h
   obtain ⟨u,us',rfl,rfl,h3⟩:=h
   rw [ih us' h3]
   rfl
 subst this
 clear h
 induction l with
 | nil=>simp [u8c,RepCs]
 | cons b l ih=>exact ⟨_,_,rfl,rfl,ih⟩
end
section
section call
variable {P:Dv} {sz n i n0 m:Nat} {env env0:Env} {h h0 hr:aO} {dfs:cD} {K:AK} {ops:Dq} {l rest:Dp} {d:Dt} {es:List Eat} {ids:Dr} {t:Nat} {ty:Du} {pos:String} {aft:Ds} {gd:Dn} {f:FuncId} {x0:Operand} {xs:Dy} {ats:Dx} {E:Du} {c0 c1 cs cs':D1} {id size m' k:Nat}
theorem gY (hac : ACA P f E size m' c0 cs' c1 k) (hg : guardA l.toArray env ⟨some t, .call ⟨.value (.func f), (x0 :: xs).toArray, ats⟩, ty, pos, aft, gd⟩ true) (hi : uF env (Oper.looksAt l.toArray ⟨some t, .call ⟨.value (.func f), (x0 :: xs).toArray, ats⟩, ty, pos, aft, gd⟩) = some ids) (hfl : jY ids h = some hr) (hb : Body P f)
    (hx0 : evT (Oper.looksAt l.toArray ⟨some t, .call ⟨.value (.func f), (x0 :: xs).toArray, ats⟩, ty, pos, aft, gd⟩) env x0 = some (.own id 0 m' size true)) (ho : lk hr id = some (.row E c0)) (hcl : c0.length = m' * size) (hx : eX (evT (Oper.looksAt l.toArray ⟨some t, .call ⟨.value (.func f), (x0 :: xs).toArray, ats⟩, ty, pos, aft, gd⟩) env) xs = some cs) (hcv : CvL cs cs') (hfc : aG5 c1) (hin : Nat.blt id n = true)
    (next : bX P l sz K dfs i n0 env0 h0 (es ++ [(n :: ids, some (id, none))]) m rest (n + 1) ((t, .own n 0 k size true) :: env) ((id, .dead) :: (n, .row E c1) :: h)) : bX P l sz K dfs i n0 env0 h0 es (m + 1) (⟨some t, .call ⟨.value (.func f), (x0 :: xs).toArray, ats⟩, ty, pos, aft, gd⟩ :: rest) n env h :=
  fC hg (BI _) (fun id o ho => let ⟨a, b⟩ := dL hfl id o ho; ⟨a, by simp [b]⟩) aU (c := some (_, none)) trivial (fun k x e => by
    injection e with e; injection e with e1 e2; subst e1
    exact ⟨by simp [(dL hfl _ _ ho).2], by simpa [AJ] using hin⟩) (bN6 hac hb hx0 ho hcl hx hcv hfc) (fun id h1 h2 => by
    obtain rfl : id = n := by omega
    rw [cA, Ak rfl]; rfl) aU next
end call
theorem cA2 (l : Dr) {n N : Nat} {env E : Env} {h Hp : aO} {dfs D : cD} (hN : (List.range N).all (fun i => Nat.blt (sg l i) n) = true) (hinj : (List.range N).all (fun i => (List.range N).all fun j => Nat.beq i j || !Nat.beq (sg l i) (sg l j) || (lk Hp i).isNone || (lk Hp j).isNone) = true)
    (hE : yT (sg l) env N E) (hH : nK (sg l) h N Hp) (hD : D.all (fun p => AV.ltBs N p.2) = true) (hD' : dfs = D.map fun p => (p.1, AV.mps (sg l) p.2)) : cU n env h dfs N E Hp D := by
  intro B sz a w hc
  subst hD'
  obtain ⟨M, h1, h2, h3, h4⟩ := hc
  have hn' : ∀ i, i < N -> sg l i < n := fun i hi => by
    have := Aw.1 hN i (AA.2 hi)
    simpa using this
  have hi' : ∀ i j o o', i < N -> j < N -> lk Hp i = some o -> lk Hp j = some o' -> sg l i = sg l j -> i = j := fun i j o o' hi hj ho ho' e => by
    have := Aw.1 (Aw.1 hinj i (AA.2 hi)) j (AA.2 hj)
    simp only [Br, Co, ho, ho', Option.isNone_some] at this
    rcases this with ((h | h) | h) | h
    · exact Ae h
    · rw [e, BP] at h; cases h
    · cases h
    · cases h
  let M' : Nat -> Dz := fun i => M (sg l i)
  have hok : ∀ b, bF B (lt n) M (lk h) b -> bF B (lt N) M' (lk Hp) b := fun b hb => ⟨hb.1, fun id o hid hH' he => hb.2 (sg l id) _ (hn' id hid) (hH id o hH').1 he⟩
  have hls : LessR N (sg l) (cx B n M h w) (cx B N M' Hp w) := ⟨fun id hid _ => ⟨hid, rfl⟩, fun b hb hl => ⟨hok b hb, hl, rfl⟩, fun _ _ h => h⟩
  refine ⟨M', ⟨h1.fr, fun id o hid hH' => ?_, fun id id' o o' g k1 k2 k3 k4 k5 k6 => hi' id id' o o' k1 k2 k3 k4 (h1.inj _ _ _ _ g (hn' id k1) (hn' id' k2) (hH id o k3).1 (hH id' o' k4).1 k5 k6), fun id o g k1 k2 => h1.lo _ _ g (hn' id k1) (hH id o k2).1⟩, h2, fun t av ht => ?_, h4.lessR hls hD⟩
  · exact dR2
  · exact Rep.lessR hls _ _ (hE t av ht).2 (h3 t _ (hE t av ht).1)
end
section
section
variable {P:Dv} {tab:Tab} {sz n:Nat} {env:Env} {h:aO} {dfs:cD} {K:AK} {ops:Dq} {rest:Dp} {d:Dt} {ty:Du} {pos:String} {aft:Ds} {gd:Dn} {f:FuncId} {x:Operand} {xs:Dy} {ats:Dx}
def ItK (P:Dv) (l sz:Nat) (L:LC) (env':Env) (K:AK) (dfs:cD):AK :=
 fun e n' _ h' dfs'=>(e = .normal\/e = .ret)/\iJ P h' dfs'/\jH dfs'=some (.yld (l+1) :: .ref l 0::aW6 env' dfs) /\
  lk (gK h' dfs') (l+1)=some (.lp .ready sz L (env'.map (·.1)) (env'.map (·.2)))/\l+1<n' /\
  K .normal n' env' ((l+1,.lp .exhausted sz L (env'.map (·.1)) (env'.map (·.2)))::gK h' dfs') ((some xB,[.ref l 0])::dfs)
def eE8:List Tmp->D2->Env->Env
 | p::ps,v::vs,E=>eE8 ps vs ((p,v)::E)
 | _,_,E=>E
def eV9:Dr->D2->Env
 | s::ss,x::xs=>(s,x)::eV9 ss xs
 | _,_=>[]
def RdK (P:Dv) (id szc:Nat) (L:LC) (slots:Dr) (xs:D2) (env':Env) (ops:Dq) (sz:Nat) (rest:Dp) (K:AK) (d:Dt) (dfs:cD):AK :=
 fun e n2 _ h2 dfs2=>e = .normal/\jH dfs2=some (.yld id::aW6 env' dfs)/\lk h2 id=some (.lp .busy szc L slots xs)/\Nat.blt id n2=true/\AWL P ops sz rest K n2 (gJ env' d (.c (.v (.bool true)))) ((id,.lp .ready szc L slots xs)::h2) dfs
def AsK (P:Dv) (id szc:Nat) (L:LC) (slots:Dr) (xs:D2) (env':Env) (ops:Dq) (sz:Nat) (rest:Dp) (K:AK) (d:Dt) (dfs:cD):AK :=
 fun e n1 env1 h1 dfs1=>e = .normal/\jH dfs1=some (.yld id::aW6 env' dfs)/\lk h1 id=some (.lp .ready szc L slots xs)/\Nat.blt id n1=true/\AW P szc L.bd (RdK P id szc L slots xs env' ops sz rest K d dfs) n1 env1 ((id,.lp .busy szc L slots xs)::h1) dfs1
theorem eS4 {l : Nat} {L : LC} {env' env2 : Env} {e : Exit} {n' : Nat} {h' h2 : aO} {dfs' : cD} (he : e = .normal \/ e = .ret) (hi : iJ P h' dfs') (hm : jH dfs' = some (.yld (l + 1) :: .ref l 0 :: aW6 env' dfs)) (hh : gK h' dfs' = h2) (ho : lk h2 (l + 1) = some (.lp .ready sz L (env'.map (·.1)) (env'.map (·.2)))) (hlt : Nat.blt (l + 1) n' = true)
    (next : K .normal n' env' ((l + 1, .lp .exhausted sz L (env'.map (·.1)) (env'.map (·.2))) :: h2) ((some xB, [.ref l 0]) :: dfs)) : ItK P l sz L env' K dfs e n' env2 h' dfs' :=
  ⟨he, hi, hm, by rw [hh]; exact ho, by simpa using hlt, by rw [hh]; exact next⟩
theorem eQ1 {id szc n1 : Nat} {L : LC} {slots : Dr} {ys : D2} {env' env1 : Env} {h1 : aO} {dfs1 : cD} {ps : List Tmp} {asn bd : Code} (hL : L = ⟨ps, asn, bd⟩) (hm : jH dfs1 = some (.yld id :: aW6 env' dfs)) (ho : lk h1 id = some (.lp .ready szc L slots ys)) (hlt : Nat.blt id n1 = true)
    (next : AW P szc bd (RdK P id szc L slots ys env' ops sz rest K d dfs) n1 env1 ((id, .lp .busy szc L slots ys) :: h1) dfs1) : AsK P id szc L slots ys env' ops sz rest K d dfs .normal n1 env1 h1 dfs1 := by
  subst hL
  exact ⟨rfl, hm, ho, hlt, next⟩
theorem eN0 {id szc n2 t : Nat} {L : LC} {slots : Dr} {ys : D2} {env' env2 : Env} {h2 : aO} {dfs2 : cD} (hm : jH dfs2 = some (.yld id :: aW6 env' dfs)) (ho : lk h2 id = some (.lp .busy szc L slots ys)) (hlt : Nat.blt id n2 = true)
    (next : AWL P ops sz rest K n2 ((t, .c (.v (.bool true))) :: env') ((id, .lp .ready szc L slots ys) :: h2) dfs) : RdK P id szc L slots ys env' ops sz rest K (some t) dfs .normal n2 env2 h2 dfs2 := ⟨rfl, hm, ho, hlt, next⟩
def dS2 (ks:Dr):Env->Option Env
 | []=>some []
 | p::r=>match dS2 ks r with
  | some r'=>match sO ks p.1 with|true=>some r'|false=>some (p::r')
  | none=>none
def dS3 (ks:Dr):aO->Option aO
 | []=>some []
 | p::r=>match dS3 ks r with
  | some r'=>match sO ks p.1 with|true=>some r'|false=>some (p::r')
  | none=>none
theorem bH {ι : Type} {c : Code} (ks hs : Dr) {envR : Env} {hR : aO} (hE : dS2 ks env = some envR) (hH : dS3 hs h = some hR) (ov : ι -> Env) (hov : ι -> aO) (Inv : ι -> Prop) (μ : ι -> Nat) (i0 : ι) (h0 : Inv i0) (hw : cU n env h dfs n (ov i0 ++ envR) (hov i0 ++ hR) dfs)
    (round : ∀ i, Inv i -> ∀ K' : AK, (∀ n' env' h' dfs', (∃ j, Inv j /\ μ j < μ i /\ cU n' env' h' dfs' n (ov j ++ envR) (hov j ++ hR) dfs) -> K' .normal n' env' h' dfs') -> (∀ e n env h dfs, e ≠ .normal -> K e n env h dfs -> K' e n env h dfs) -> AW P sz c K' n (ov i ++ envR) (hov i ++ hR) dfs) : AW P sz (.loop c) K n env h dfs :=
  cL n (fun i => ov i ++ envR) (fun i => hov i ++ hR) dfs Inv μ i0 h0 hw round
end
theorem dZ9 {n : Nat} {h : aO} (T : Du) {B : Bs} {w : World} {M : Nat -> Dz} (c1 : ConcH B (lt n) M (lk h) w) : ∃ M', ConcH B (lt (n + 1)) M' (lk ((n, .row T []) :: h)) w /\ M' n = none /\ Ext (cx B n M h w) (cx B (n + 1) M' ((n, .row T []) :: h) w) := by
  have e1 : ∀ id, id < n -> lk ((n, .row T []) :: h) id = lk h id := fun id hid => by rw [cA, Aj aA]
  have e2 : lk ((n, AObj.row T []) :: h) n = some (.row T []) := by rw [cA, Ak rfl]; rfl
  have eok : bF B (lt n) M (lk ((n, .row T []) :: h)) = bF B (lt n) M (lk h) := by
    funext b
    unfold bF
    simp only [BD]
    exact dR3
  have h1' : ConcH B (lt n) M (lk ((n, .row T []) :: h)) w := by
    refine ⟨c1.fr, fun id o hid hH => ?_, fun id id' o o' g k1 k2 k3 k4 => c1.inj id id' o o' g k1 k2 bM9 bM7, fun id o g k1 k2 => c1.lo id o g k1 bN0⟩
    rw [eok]
    exact c1.obj id o hid aI2
  let M' : Nat -> Dz := fun id => if id = n then none else M id
  have hMn : M' n = none := by simp [M']
  have hg := h1'.grow (Below.refl w.heap.size w) n (n + 1) (M' := M') (fun id hid => by
      have : ¬ id = n := by simp only [lt] at hid; omega
      simp [M', this]) (fun id k1 k2 => by simp only [lt]; omega)
    (fun id o k1 k2 k3 g hg => by obtain rfl : id = n := by omega
                                  rw [hMn] at hg; cases hg)
    (fun id id' o o' g k1 k2 k3 k4 _ _ _ _ => by omega)
    (fun hext id o k1 k2 k3 => by
      obtain rfl : id = n := by omega
      rw [e2] at k3
      injection k3 with k3
      subst k3
      exact .inl ⟨hMn, rfl⟩)
  rw [aX3 (BI n)] at hg
  have hext : Ext (cx B n M h w) (cx B (n + 1) M' ((n, .row T []) :: h) w) := by
    have := hg.2
    rw [eok] at this
    exact this
  exact ⟨M', hg.1, hMn, hext⟩
theorem aR9 {n id k size:Nat} {env:Env} {h:aO} {dfs:cD} {T:Du} {cs cs':D2} (T':Du) (ho:lk h id=some (.blk T cs)) (hid:Nat.blt id n=true) (hk:cs[k]? = some (.c (.v (.slice none 0 0)))) (hs:cs.set k (.own n 0 0 size true)=cs'):cU n env h dfs (n+1) env ((id,.blk T cs')::(n,.row T' [])::h) dfs:=by
 intro B sz a w hc
 have hid':id<n:=by simpa using hid
 obtain ⟨M,c1,c2,c3,c4⟩:=hc
 obtain ⟨M',g1,hMn,hext⟩:=dZ9 T' c1
 have ho1:lk ((n,.row T' [])::h) id=some (.blk T cs):=by rw [cA,Aj aA];exact ho
 have hob:=g1.obj id _ (CW hid') ho1
 obtain ⟨g,us,hg,hb,hus⟩:=hob
 obtain ⟨u,hu,hru⟩:=hus.get hk
 simp only [Rep,RepC] at hru
 subst hru
 have hset:us.set k (.slice none 0 0)=us:=by
  apply Cp
  intro j
  rw [List.getElem?_set]
  split
  ·rename_i e;subst e;split
   ·exact hu.symm
   ·rename_i hl;rw [AO aA]
  ·rfl
 obtain ⟨t1,t2⟩:=g1.turn (w':=w) (o' := .blk T cs') rfl (CW hid') ho1 hg rfl rfl rfl rfl (fun _ _=>rfl) rfl (fun hx=>⟨g,us,rfl,hb,by
  have h1:=RepL.ext hx _ _ hus
  have:=h1.set k (c := .own n 0 0 size true) (u := .slice none 0 0) ⟨Bk n,.inl ⟨rfl,rfl,hMn,rfl⟩⟩
  rw [hset,hs] at this
  exact this⟩)
 have hxx:=hext.trans t2
 exact ⟨M',t1,c2,fun k av hk=>Rep.ext hxx _ _ (c3 k av hk),c4.ext hxx⟩
theorem bD4 {P:Dv} {sz n:Nat} {c:Code} {K:AK} {env:Env} {h:aO} {dfs:cD} (id k:Nat) (T':Du) (size:Nat) {T:Du} {cs cs':D2} (ho:lk h id=some (.blk T cs)) (hid:Nat.blt id n=true) (hk:cs[k]? = some (.c (.v (.slice none 0 0)))) (hs:cs.set k (.own n 0 0 size true)=cs') (next:AW P sz c K (n+1) env ((id,.blk T cs')::(n,.row T' [])::h) dfs):AW P sz c K n env h dfs:=oR (aR9 T' ho hid hk hs) next
end
end Go.Av
namespace Go.Proofs.YtbgehdndimlgkaaGreat
open Go Go.RowKit Go.Av
set_option maxRecDepth 100000
abbrev nv (x:Nat):CV := .v (.int .u64 (x:Int))
theorem rY (l:Dm) (x:Nat) (r:Int) (hr:r=((x%128+128:Nat):Int)):u8c l++[.v (.int .u8 r)]=u8c (l++[UInt8.ofNat (x%128+128)]):=by
 subst hr
 rw [bI]
 congr 1
 show _=[CV.v (.int .u8 ((UInt8.ofNat (x%128+128)).toNat:Int))]
 rw [C2,show (x%128+128)%2 ^ 8=x%128+128 by omega]
theorem rX (l:Dm) (x:Nat) (hx:x<128):u8c l++[.v (.int .u8 (x:Int))]=u8c (l++[UInt8.ofNat x]):=by
 rw [bI]
 congr 1
 show _=[CV.v (.int .u8 ((UInt8.ofNat x).toNat:Int))]
 rw [C2,BN aA]
theorem aW0:∀(k x:Nat),x<128 ^ (k+1)->(mZ x).length<=k+1
 | 0,x,h=>by rw [kS aA];simp
 | k+1,x,h=>by
  by_cases hx:x<128
  ·rw [kS hx];simp
  ·rw [nC hx,Au]
   have:=aW0 k (x / 128) (by rw [Nat.div_lt_iff_lt_mul aN];rw [CA] at h;omega)
   omega
theorem cK3 {n:Int} (h:aT n):(bA n).length<=10:=aW0 9 _ (A3 (aF9 h.1 h.2) aN)
theorem cW7 {n:Int} (h:aT n) (h0:¬n<0):(BitVec.ofInt 64 n <<< 1).toNat=zz n:=by
 obtain ⟨h1,h2⟩:=h
 unfold zz
 rw [Aj h0,C4,BX,Cw]
 omega
theorem cW6 {n:Int} (h:aT n) (h0:n<0):(~~~(BitVec.ofInt 64 n <<< 1)).toNat=zz n:=by
 obtain ⟨h1,h2⟩:=h
 unfold zz
 rw [Ak h0,CZ,C4,BX,Cw]
 omega
section
variable {P:Dv} {tab:Tab} {ev:Evl} {h:aO} {d:Dt} {T ty T':Du} {x y:Operand} {pos:String} {aft:Ds} {gd:Dn}
theorem uT {m:Int} (h1:0<=m) (h2:m<18446744073709551616):IntKind.u64.wrap m=m:=by rw [IntKind.wrap_u64];omega
theorem eD0 {b m:Nat} (hm:0<m) (hb:b<18446744073709551616) {Y:Int} (hY:Y=(m:Int)) (hx:ev x=some (.c (.v (.int .u64 (b:Int))))) (hy:ev y=some (.c (.v (.int .u64 Y)))):Still P ⟨d,.binOp .quo T x y T',ty,pos,aft,gd⟩ ev h (.c (nv (b / m))) :=
 aE9 hx hy aA (by
  subst hY
  have hlt:=Nat.div_le_self b m
  rw [Int.tdiv_eq_ediv_of_nonneg aA,<- Int.natCast_ediv]
  generalize b / m=q at hlt
  exact uT aA aA)
theorem bI7 {b m:Nat} (hm:0<m) {Y:Int} (hY:Y=(m:Int)) (hx:ev x=some (.c (.v (.int .u64 (b:Int))))) (hy:ev y=some (.c (.v (.int .u64 Y)))):Still P ⟨d,.binOp .rem T x y T',ty,pos,aft,gd⟩ ev h (.c (nv (b%m))) :=
 xW hx hy aA (by
  subst hY
  rw [Cs aA,<- Int.natCast_emod])
theorem aF0 {b m:Nat} {k:Dw} {Y:Int} (hx:ev x=some (.c (.v (.int .u64 (b:Int))))) (hy:ev y=some (.c (.v (.int k Y)))) (hY:Y=(m:Int)) (hm:m<64):Still P ⟨d,.binOp .shr T x y T',ty,pos,aft,gd⟩ ev h (.c (nv (b / 2 ^ m))) :=
 bA6 hx hy aA (by
  subst hY
  have e:min ((m:Int).toNat) IntKind.u64.bits=m:=by
   show min ((m:Int).toNat) 64=m
   omega
  rw [e,Int.fdiv_eq_ediv_of_nonneg _ (Int.le_of_lt (Int.pow_pos aN))]
  simp)
theorem cT0 (tb:bQ P tab) {S:Du} {e es:TyE} {b:Nat} (hS:aS tab S=some es) (hT:aS tab T=some e) (hk:e.kind = .int .u8) (hx:ev x=some (.c (.v (.int .u64 (b:Int))))):Still P ⟨d,.convert S T x,ty,pos,aft,gd⟩ ev h (.c (.v (.int .u8 ((b%256:Nat):Int)))) :=
 gB tb hS hT hk hx (by rw [IntKind.wrap_u8];omega)
theorem dI3 {b:Nat} (hb:b<256) (hx:ev x=some (.c (.v (.int .u8 (b:Int))))) (hy:ev y=some (.c (.v (.int .u8 128)))):Still P ⟨d,.binOp .or T x y T',ty,pos,aft,gd⟩ ev h (.c (.v (.int .u8 ((b%128+128:Nat):Int)))) :=
 bZ3 hx hy (by
  have key:∀b:Fin 256,IntKind.u8.wrap ((BitVec.ofInt 8 ((b.val:Nat):Int) ||| BitVec.ofInt 8 128).toNat:Int)=((b.val%128+128:Nat):Int):=by decide +kernel
  exact key ⟨b,hb⟩)
end
theorem cM1 {l:List Int} {i:Nat} {x:Int} (h:l[i]? = some x):(dE .i64 l)[i]? = some (iv x):=by simp [dE,h]
attribute [local irreducible] Still Adds AWL AW Drw bX bY AC AWR cU Frz Go.Av.Src cQ Out InK ItK AsK RdK eP eI ACT ACA eW
attribute [local simp] bS bR bI
theorem cM4 {n:Int} (h:aT n) (ns:List Int) (i:Nat) (hi:ns[i]? = some n):(ns.take (i+1)).flatMap bA=(ns.take i).flatMap bA++bA n:=by
 rw [B8,hi,Bc];simp
set_option maxHeartbeats 8000000 in
theorem yJ (L:Dm) (m:Nat) (hL:L.length=m) (ns:List Int) (k:Nat) (hk:ns.length=k) (hns:∀n∈ns,aT n) (m':Nat) (hm':(L++ns.flatMap bA).length=m') (hb:m'<=1000000):ACA Tryz.prog 151 5 1 m (u8c L) [.sl 1 k (dE .i64 ns)] (u8c (L++ns.flatMap bA)) m':=by
 have hkb:k<=1000000:=by
  have:∀l:List Int,l.length<=(l.flatMap bA).length:=by
   intro l
   induction l with
   | nil=>simp
   | cons x l ih=>rw [A5,Aa,Au];have:=kY (zz x);unfold bA at *;omega
  have:=this ns
  rw [Aa] at hm'
  omega
 have hil:(dE .i64 ns).length=k:=by rw [fF,hk]
 have hmono:∀i,((ns.take i).flatMap bA).length<=(ns.flatMap bA).length:=fun i=>by
  conv=>rhs;rw [<- B9 i ns]
  rw [Bc,Aa]
  omega
 rw [Aa] at hm'
 refine dX aB (sz:=38) Tryz.func151 rfl (by rw [Tryz.ntmps151];rfl) (bO _) ?_
 repeat' (first|(refine aC ?_;intro K hK hX)|refine aM6 ?_|(refine aG hK hX ?_;clear hK hX K)|fail)
 refine cL 2 (fun p:Nat × Dm × Nat=>[(0,.own 1 0 p.2.2 1 true),(8,.c (.sl 1 k (dE .i64 ns))),(9,.c (iv k)),(10,.c (iv p.1))]) (fun p=>[(1,.row 5 (u8c p.2.1))]) [(none,[.own 0 0 m 1 true])] (fun p=>p.1<=k/\p.2.1.length=p.2.2/\p.2.1=L++(ns.take p.1).flatMap bA) (fun p=>k-p.1) (0,L,m) ⟨by omega,hL,by simp⟩ (by refine cA2 [0,0] rfl rfl ?_ ?_ rfl rfl<;>(repeat' (first|exact dT|exact dD|refine dJ rfl xF rfl ?_|refine cB rfl xF rfl ?_))) ?_
 rintro ⟨i,q,w⟩ ⟨hi,hql,hq⟩ K hK hX
 dsimp only at hi hql hq hK ⊢
 by_cases hlt:i<k
 ·obtain ⟨n,hat⟩:∃n,ns[i]? = some n:=⟨_,Ab aA⟩
  have hn:=hns n (Af hat)
  have hx:=cM1 hat
  have hst:q++bA n=L++(ns.take (i+1)).flatMap bA:=by rw [hq,cM4 hn ns i hat,Ao]
  have hmo:=hmono (i+1)
  clear hq hat hmono
  by_cases h0:n<0
  ·have hz:=cW6 hn h0
   repeat' (first|(refine aC ?_;intro K hK hX)|refine aK [0,1,4,6,7,8,9,10] ?_|refine eJ ?_|refine stA ?_|(refine aG hK hX ?_;clear hK hX K)|fail)
   rw [hz]
   have hzl:=aF9 hn.1 hn.2
   have hz0:q++mZ (zz n)=L++(ns.take (i+1)).flatMap bA:=hst
   generalize zz n=z at hzl hz0
   refine cL 2 (fun p:Dm × Nat × Nat=>[(0,.own 1 0 p.2.1 1 true),(7,.c (nv p.2.2)),(8,.c (.sl 1 k (dE .i64 ns))),(9,.c (iv k)),(10,.c (iv i))]) (fun p=>[(1,.row 5 (u8c p.1))]) [(none,[.own 0 0 m 1 true])] (fun p=>p.1.length=p.2.1/\p.1++mZ p.2.2=L++(ns.take (i+1)).flatMap bA/\p.2.2<18446744073709551616) (fun p=>p.2.2) (q,w,z) ⟨hql,hz0,hzl⟩ eH ?_
   rintro ⟨l,j,x⟩ ⟨hl,he,hx⟩ K hK hX
   dsimp only at hl he hx hK ⊢
   have hul:(u8c l).length=j:=by rw [aH,hl]
   have hjb:j+1<=1000000:=by
    have h1:=congrArg List.length he
    have h2:=kY x
    rw [Aa,Aa] at h1
    omega
   by_cases hlt:x<128
   ·repeat' (first|(refine aC ?_;intro K hK hX)|refine aM6 ?_|(refine aG hK hX ?_;clear hK hX K)|fail)
    rw [kS hlt] at he
    refine ⟨(i+1,l++[UInt8.ofNat x],j+1),⟨by omega,by simp [hl],he⟩,by simp only;omega,?_⟩
    exact dO6
   ·have hx7:x / 2 ^ 7=x / 128:=rfl
    have hm7:x%256%128+128=x%128+128:=by omega
    have hlt8:x%256<256:=by omega
    repeat' (first|(refine aC ?_;intro K hK hX)|refine dL8 ?_|(refine aG hK hX ?_;clear hK hX K)|fail)
    rw [nC hlt] at he
    refine ⟨(l++[UInt8.ofNat (x%128+128)],j+1,x / 128),⟨by simp [hl],by simpa using he,by simp only;omega⟩,by simp only;omega,?_⟩
    exact dO4
  ·have hz:=cW7 hn h0
   repeat' (first|(refine aC ?_;intro K hK hX)|refine aK [0,1,4,6,7,8,9,10] ?_|refine eJ ?_|refine stA ?_|(refine aG hK hX ?_;clear hK hX K)|fail)
   rw [hz]
   have hzl:=aF9 hn.1 hn.2
   have hz0:q++mZ (zz n)=L++(ns.take (i+1)).flatMap bA:=hst
   generalize zz n=z at hzl hz0
   refine cL 2 (fun p:Dm × Nat × Nat=>[(0,.own 1 0 p.2.1 1 true),(7,.c (nv p.2.2)),(8,.c (.sl 1 k (dE .i64 ns))),(9,.c (iv k)),(10,.c (iv i))]) (fun p=>[(1,.row 5 (u8c p.1))]) [(none,[.own 0 0 m 1 true])] (fun p=>p.1.length=p.2.1/\p.1++mZ p.2.2=L++(ns.take (i+1)).flatMap bA/\p.2.2<18446744073709551616) (fun p=>p.2.2) (q,w,z) ⟨hql,hz0,hzl⟩ eH ?_
   rintro ⟨l,j,x⟩ ⟨hl,he,hx⟩ K hK hX
   dsimp only at hl he hx hK ⊢
   have hul:(u8c l).length=j:=by rw [aH,hl]
   have hjb:j+1<=1000000:=by
    have h1:=congrArg List.length he
    have h2:=kY x
    rw [Aa,Aa] at h1
    omega
   by_cases hlt:x<128
   ·repeat' (first|(refine aC ?_;intro K hK hX)|refine aM6 ?_|(refine aG hK hX ?_;clear hK hX K)|fail)
    rw [kS hlt] at he
    refine ⟨(i+1,l++[UInt8.ofNat x],j+1),⟨by omega,by simp [hl],he⟩,by simp only;omega,?_⟩
    exact dO6
   ·have hx7:x / 2 ^ 7=x / 128:=rfl
    have hm7:x%256%128+128=x%128+128:=by omega
    have hlt8:x%256<256:=by omega
    repeat' (first|(refine aC ?_;intro K hK hX)|refine dL8 ?_|(refine aG hK hX ?_;clear hK hX K)|fail)
    rw [nC hlt] at he
    refine ⟨(l++[UInt8.ofNat (x%128+128)],j+1,x / 128),⟨by simp [hl],by simpa using he,by simp only;omega⟩,by simp only;omega,?_⟩
    exact dO4
 ·have hik:i=k:=by omega
  have hq':q=L++ns.flatMap bA:=by rw [hq,Ad aA]
  have hwm:w=m':=by rw [<- hql,hq',Aa,hm']
  have hul:(u8c q).length=w:=by rw [aH,hql]
  repeat' (first|(refine aC ?_;intro K hK hX)|refine aM6 ?_|(refine aG hK hX ?_;clear hK hX K)|fail)
  rw [<- hq',<- hwm]
  exact kF
end Go.Proofs.YtbgehdndimlgkaaGreat
