/- Lemmas for laws of the ledger. -/
import Derived.Test.YtbgehdndimlgkaaGreatS36
set_option linter.all false
set_option maxHeartbeats 16000000
namespace Go.Av
open Go Go.RowKit
theorem cO3 {n nr:Nat} {h hr:aO} {v r:AV} (hw:cU n [(0,v)] h [] nr [(0,r)] hr []):Out n h v r hr nr:=by
 intro w0 ok M w u hc hu
 have henv:∀(t:Nat) (av:AV),lkE [(0,v)] t=some av->Rep (cx ⟨w0,[],ok,[]⟩ n M h w) av ((#[u]:D0).getD t undef):=fun t av ht=>by
  rw [eZ] at ht
  split at ht
  ·rename_i e
   subst e
   injection ht with ht
   subst ht
   exact hu
  ·cases ht
 obtain ⟨M',c1,_,c3,_⟩:=hw ⟨w0,[],ok,[]⟩ 1 ⟨#[u],[]⟩ w ⟨M,hc,rfl,henv,rfl⟩
 exact ⟨M',c1,c3 0 r rfl⟩
theorem RepL.mem {C:Cx}:∀{xs:D2} {us:Do},RepL C xs us->∀{x:AV},x∈xs->∃u,Rep C x u
 | [],us,_,x,hx=>by simp at hx
 | y::ys,us,h,x,hx=>by
  simp only [RepL] at h
  obtain ⟨u,us',h1,h2,h3⟩:=h
  rcases A6.1 hx with rfl|hx
  ·exact ⟨u,h2⟩
  ·exact RepL.mem h3 hx
section
variable {P:Dv} {n i k:Nat} {hr h0:aO} {ev:Evl} {d:Dt} {ty:Du} {pos:String} {aft:Ds} {gd:Dn} {f:FuncId} {x0:Operand} {xs:Dy} {ats:Dx} {cs cs':D1} {r:CV} {T:Du} {aa:D2}
theorem cI9 (σ : Nat -> Nat) (hac : ACG P f k h0 cs' h0 r) (hb : Body P f) (hk0 : 0 < k) (hi' : ∀ i j, i < k -> j < k -> σ i = σ j -> i = j) (hx0 : ev x0 = some (.ref (σ 0) 0)) (hh : nK σ hr k h0) (hsh : ∀ i, i < k -> shB (lk h0 i) (lk h0 i) = true) (ha : lk hr (σ 0) = some (.blk T aa)) (hmh : ∀ i, i < k -> i ≠ 0 -> AV.mh (σ i) ∈ aa) (hx : eX ev xs = some cs) (hcv : CvL cs cs') :
    bY P ⟨d, .call ⟨.value (.func f), (x0 :: xs).toArray, ats⟩, ty, pos, aft, gd⟩ ev hr (.c r) [] none i i := by
  intro B dom M H w a K Q hsub hnew g1 he hK
  rw [dY, aQ1] at hK
  have hp := he x0 _ hx0
  simp only [Rep] at hp
  obtain ⟨hid, g, hM, hp⟩ := hp
  obtain ⟨us0, hb0, hus0⟩ := iL hsub g1 ha hid hM
  have hdm : ∀ i, i < k -> dom (σ i) := fun i hi => by
    by_cases h0 : i = 0
    · rw [h0]; exact hid
    · obtain ⟨u, hu⟩ := RepL.mem hus0 (hmh i hi h0)
      simp only [Rep] at hu
      exact hu.1
  let M' : Nat -> Dz := fun i => M (σ i)
  let ok := bF B dom M H
  let B' : Bs := ⟨w, (List.range k).filterMap M', ok, []⟩
  have hl0 : ∀ i, i < k -> ∃ o0, lk h0 i = some o0 /\ H (σ i) = some (o0.mp σ) := fun i hi => by
    obtain ⟨x, y, e1, e2⟩ := bB0 (hsh i hi)
    exact ⟨x, e1, hsub _ _ (hh i x e1).1 (hdm i hi)⟩
  have hHi : ∀ id o, id < k -> lk h0 id = some o -> H (σ id) = some (o.mp σ) := fun id o hid hH => hsub _ _ (hh id o hH).1 (hdm id hid)
  have hnk : ∀ b, ok b -> ∀ id, id < k -> M' id ≠ some b := fun b hb id hid he => by
    obtain ⟨o0, e1, e3⟩ := hl0 id hid
    exact hb.2 (σ id) _ (hdm id hid) e3 he
  have hmemG : ∀ b, b ∈ (List.range k).filterMap M' ↔ ∃ i, i < k /\ M' i = some b := fun b => by simp [CS]
  have hless : LessR k σ ⟨dom, M, bF B dom M H, w⟩ ⟨lt k, M', bF B' (lt k) M' (lk h0), w⟩ := ⟨fun id hid _ => ⟨hid, rfl⟩, fun b hb hl => ⟨⟨.inl hb, fun id o hid hH he => hnk b hb id hid he⟩, hl, rfl⟩, fun _ _ h => h⟩
  have hcon : ConcH B' (lt k) M' (lk h0) w := by
    refine ⟨FrB.refl _ _, fun id o hid hH => ?_, fun id id' o o' g k1 k2 k3 k4 k5 k6 => ?_, fun id o g k1 k2 k3 => .inr ((hmemG g).2 ⟨id, k1, k3⟩)⟩
    · exact (g1.obj _ _ (hdm id hid) (hHi id o hid hH)).lessR hless rfl (hh id o hH).2
    · exact hi' id id' k1 k2 (g1.inj _ _ _ _ g (hdm id k1) (hdm id' k2) (hHi id o k1 k3) (hHi id' o' k2 k4) k5 k6)
  have hargs : RepCs ok w cs (xs.map a.eval) := RepL.toC (C := ⟨dom, M, bF B dom M H, w⟩) (gD he tV)
  unfold Oper.wp execOp
  simp only [resolve, Deferred.ofValue, Act.eval, invoke, Sem.run_bind, Sem.run_pure, Result.andThen_ok, AZ, Bg, Body.run hb, Oper.upon]
  rw [show (#[] ++ (List.map a.eval (x0 :: xs)).toArray : D0) = (Value.pointer (some ⟨g, 0, none⟩) :: List.map a.eval xs).toArray by simp [hp]]
  refine (hac ok w M' g _ hcon hM hnk (hcv _ _ _ hargs)).mono ?_
  rintro e w' ⟨v, rfl, hc1, hv⟩
  simp only
  have hfr := hc1.fr
  have hGb : ∀ b, b < w.heap.size -> (∀ i, i < k -> M' i ≠ some b) -> w'.heap[b]? = w.heap[b]? := fun b hb hn => hfr.block b hb (fun hm => by obtain ⟨i, hi, e⟩ := (hmemG b).1 hm; exact hn i hi e)
  have hkeep : kW ok ok w w' := fun b hb hl => ⟨hb, A3 hl hfr.size, hGb b hl (fun i hi => hnk b hb i hi)⟩
  have hshape : ∀ b e s, w.shape? b = some (e, s) -> ∃ e', w'.shape? b = some (e', s) := fun b e s hs => by
    by_cases hq : ∃ i, i < k /\ M' i = some b
    · obtain ⟨i, hi, hMi⟩ := hq
      obtain ⟨o0, e1, e3⟩ := hl0 i hi
      have p0 := hcon.obj i o0 hi e1
      have p1 := hc1.obj i o0 hi e1
      have ps := hsh i hi
      rw [e1] at ps
      cases o0 <;> simp only [shB] at ps <;> try cases ps
      · obtain ⟨b0, us0, q1, q2, q3⟩ := p0
        obtain ⟨b1, us1, r1, r2, r3⟩ := p1
        rw [hMi] at q1 r1
        injection q1 with q1
        injection r1 with r1
        subst q1 r1
        rename_i T0 c0
        refine ⟨T0, ?_⟩
        have l0 := q3.length
        have l1 := r3.length
        unfold World.shape? at hs ⊢
        simp only at q2 r2
        rw [q2] at hs
        rw [r2]
        simp only [Option.some.injEq, Prod.mk.injEq, A1] at hs ⊢
        exact ⟨trivial, by omega⟩
      · obtain ⟨b0, ms, t, q1, q2, q3⟩ := p0
        rw [hMi] at q1
        injection q1 with q1
        subst q1
        unfold World.shape? at hs
        simp only at q2
        rw [q2] at hs
        cases hs
    · refine ⟨e, ?_⟩
      rw [eC (hGb b (jM hs) fun i hi e => hq ⟨i, hi, e⟩)]
      exact hs
  have hext : Ext ⟨dom, M, bF B dom M H, w⟩ ⟨dom, M, bF B dom M H, w'⟩ := ⟨fun id hid => ⟨hid, rfl⟩, hkeep, hshape⟩
  have hnewok : ∀ b, bF B' (lt k) M' (lk h0) b -> b < w'.heap.size -> bF B dom M H b := fun b hb hl => by
    rcases hb.1 with h5 | h5 | h5
    · exact h5
    · refine ⟨.inr (.inl (At g1.fr.size h5)), fun q o hq hH he => ?_⟩
      have := (g1.obj q o hq hH).lt b he
      simp only [B'] at h5 this
      omega
    · obtain ⟨i, hi, e⟩ := (hmemG b).1 h5
      obtain ⟨o0, e1, e3⟩ := hl0 i hi
      exact absurd e (hb.2 i o0 hi e1)
  have hmore : MoreR σ ⟨lt k, M', bF B' (lt k) M' (lk h0), w'⟩ ⟨dom, M, bF B dom M H, w'⟩ := ⟨fun id hid => ⟨hdm id hid, rfl⟩, fun b hb hl => ⟨hnewok b hb hl, hl, rfl⟩, fun _ _ h => h⟩
  have hcc : ConcH B dom M H w' := by
    refine ⟨⟨hfr.os.trans g1.fr.os, hfr.tape.trans g1.fr.tape, hfr.output.trans g1.fr.output, At g1.fr.size hfr.size, fun b hb hnG => ?_⟩, fun q o hq hH => ?_, fun q q' o o' g k1 k2 k3 k4 => g1.inj q q' o o' g k1 k2 k3 k4, fun q o g k1 k2 => g1.lo q o g k1 k2⟩
    · rw [hGb b (A3 hb g1.fr.size) (fun i hi e => ?_)]
      · exact g1.fr.block b hb hnG
      · obtain ⟨o0, e1, e3⟩ := hl0 i hi
        rcases g1.lo _ _ b (hdm i hi) e3 e with h5 | h5
        · omega
        · exact hnG h5
    · by_cases hqi : ∃ i, i < k /\ σ i = q
      · obtain ⟨i, hi, rfl⟩ := hqi
        obtain ⟨o0, e1, e3⟩ := hl0 i hi
        rw [e3] at hH
        injection hH with hH
        subst hH
        exact (hc1.obj i o0 hi e1).moreR hmore rfl
      · have ho := g1.obj q o hq hH
        refine ho.ext hext fun b hb => hGb b (ho.lt b hb) fun i hi e => ?_
        obtain ⟨o0, e1, e3⟩ := hl0 i hi
        exact hqi ⟨i, hi, g1.inj _ _ _ _ b (hdm i hi) hq e3 hH e hb⟩
  have hvr : Rep ⟨dom, M, bF B dom M H, w'⟩ (.c r) v := RepC.mono (fun b hb hl => ⟨hnewok b hb hl, hl, rfl⟩) _ _ hv
  exact hK v w' M hext hcc hvr
end
section
variable {P:Dv} {sz n i n0 m k nr:Nat} {env env0:Env} {h h0 hr hh0:aO} {dfs:cD} {K:AK} {l rest:Dp} {es:List Eat} {ids:Dr} {t:Nat} {ty:Du} {pos:String} {aft:Ds} {gd:Dn} {f:FuncId} {x0:Operand} {xs:Dy} {ats:Dx} {cs cs':D1} {rc:CV} {r:AV} {T:Du} {aa:D2}
theorem qP (q : Dr) (hac : ACG P f k h0 cs' h0 rc) (hg : guardA l.toArray env ⟨some t, .call ⟨.value (.func f), (x0 :: xs).toArray, ats⟩, ty, pos, aft, gd⟩ true) (hfl : jY q h = some hr) (hb : Body P f) (hk0 : Nat.blt 0 k = true)
    (hinj : (List.range k).all (fun i => (List.range k).all fun j => Nat.beq i j || !Nat.beq (sg q i) (sg q j)) = true) (hx0 : evT (Oper.looksAt l.toArray ⟨some t, .call ⟨.value (.func f), (x0 :: xs).toArray, ats⟩, ty, pos, aft, gd⟩) env x0 = some (.ref (sg q 0) 0)) (hh : nK (sg q) hr k h0) (hsh : (List.range k).all (fun i => shB (lk h0 i) (lk h0 i)) = true) (ha : lk hr (sg q 0) = some (.blk T aa)) (hmh : ∀ i, i < k -> i ≠ 0 -> AV.mh (sg q i) ∈ aa)
    (hx : eX (evT (Oper.looksAt l.toArray ⟨some t, .call ⟨.value (.func f), (x0 :: xs).toArray, ats⟩, ty, pos, aft, gd⟩) env) xs = some cs) (hcv : CvL cs cs')
    (next : bX P l sz K dfs i n0 env0 hh0 (es ++ [(q, none)]) m rest n ((t, .c rc) :: env) h) : bX P l sz K dfs i n0 env0 hh0 es (m + 1) (⟨some t, .call ⟨.value (.func f), (x0 :: xs).toArray, ats⟩, ty, pos, aft, gd⟩ :: rest) n env h :=
  fC (v := .c rc) (Δ := []) hg (Ah _) (dL hfl) aU (c := none) trivial (fun k x e => by cases e) (cI9 (sg q) hac hb (by simpa using hk0) (fun i j hi hj e => by
    have := Aw.1 (Aw.1 hinj i (AA.2 hi)) j (AA.2 hj)
    simp only [Br, Co] at this
    rcases this with h | h
    · exact Ae h
    · rw [e, BP] at h; cases h) hx0 hh (fun i hi => Aw.1 hsh i (AA.2 hi)) ha hmh hx hcv) (fun id h1 h2 => by omega) aU next
theorem bJ1 {k nr:Nat}:∀{h:aO},h.all (fun p=>Nat.blt p.1 nr)=true->∀p∈shH k h,k<=p.1/\p.1<k+nr
 | [],_,p,hp=>by cases hp
 | q::r,ha,p,hp=>by
  simp only [BA,Ar,AJ] at ha
  rw [shH] at hp
  rcases A6.1 hp with rfl|hp
  ·simp only;omega
  ·exact bJ1 ha.2 p hp
theorem dA0 (hac : AC P f cs' r hr nr) (hg : guardA l.toArray env ⟨some t, .call ⟨.value (.func f), xs.toArray, ats⟩, ty, pos, aft, gd⟩ true) (hb : Body P f) (hx : eX (evT (Oper.looksAt l.toArray ⟨some t, .call ⟨.value (.func f), xs.toArray, ats⟩, ty, pos, aft, gd⟩) env) xs = some cs) (hcv : CvL cs cs') (hcov : aT7 hr nr = true)
    (next : bX P l sz K dfs i n0 env0 hh0 (es ++ [((List.range nr).map (n + ·), none)]) m rest (n + nr) ((t, r.sh n) :: env) (shH n hr ++ h)) : bX P l sz K dfs i n0 env0 hh0 es (m + 1) (⟨some t, .call ⟨.value (.func f), xs.toArray, ats⟩, ty, pos, aft, gd⟩ :: rest) n env h :=
  fC (v := r.sh n) (Δ := shH n hr) (hr := []) hg (CG _ _) (fun id o ho => by cases ho) (fun p hp => by
    obtain ⟨h1, h2⟩ := bJ1 (k := n) (CJ.1 hcov).1 p hp
    exact BG.2 ⟨p.1 - n, AA.2 aA, by omega⟩) (c := none) trivial (fun k x e => by cases e) (fG hb hx hac hcv hcov) (fun id h1 h2 => by
    have := (rU hcov (id - n)).1 aA
    obtain ⟨o, ho⟩ := AN.1 this
    rw [show id = n + (id - n) by omega, aF1, ho]; rfl) (bJ1 (CJ.1 hcov).1) next
theorem uS {k:Nat}:shH k []=[]:=rfl
theorem cT {k i j:Nat} {o o':AObj} {r r':aO} (hi:k+i=j) (ho:o.sh k=o') (hr:shH k r=r'):shH k ((i,o)::r)=(j,o')::r':=by rw [shH,hi,ho,hr]
theorem dZ {κ:Type} {kc:κ->CV} {k:Nat} {L:List κ}:(AObj.tab (aI kc L)).sh k=AObj.tab (aI kc L):=by
 simp only [AObj.sh,aI,BT]
 congr 1
theorem qQ {hm : aO} (hac : AC P f cs' r hr nr) (hg : guardA l.toArray env ⟨some t, .call ⟨.value (.func f), xs.toArray, ats⟩, ty, pos, aft, gd⟩ true) (hb : Body P f) (hx : eX (evT (Oper.looksAt l.toArray ⟨some t, .call ⟨.value (.func f), xs.toArray, ats⟩, ty, pos, aft, gd⟩) env) xs = some cs) (hcv : CvL cs cs') (hcov : aT7 hr nr = true) (hsh : shH n hr = hm)
    (next : bX P l sz K dfs i n0 env0 hh0 (es ++ [((List.range nr).map (n + ·), none)]) m rest (n + nr) ((t, r.sh n) :: env) (hm ++ h)) : bX P l sz K dfs i n0 env0 hh0 es (m + 1) (⟨some t, .call ⟨.value (.func f), xs.toArray, ats⟩, ty, pos, aft, gd⟩ :: rest) n env h := by
  subst hsh
  exact dA0 hac hg hb hx hcv hcov next
end
end Go.Av
namespace Go.Proofs.YtbgehdndimlgkaaGreat
open Go Go.RowKit Go.Av
set_option maxRecDepth 100000
attribute [local irreducible] Still Adds AWL AW Drw bX bY AC AWR cU Frz Go.Av.Src cQ Out InK ItK AsK RdK eP eI ACT ACA eW ACG fL lec
theorem dF7 (l:List LEn) (n:Nat) (hln:l.length=n) (hnb:n<=1000) (hwl:OkL l):qC' 60 [.sl 65 n (lec l)] (.ref 0 0) (tlH (Tl.of l)) 6:=by
 have hll:(lec l).length=n*65:=by rw [fX hwl,hln]
 obtain ⟨T,hT⟩:∃T:Nat->Tl,∀i,Tl.of (l.take i)=T i:=⟨_,fun _=>rfl⟩
 have hT0:T 0=Tl.new:=by rw [<- hT];rfl
 have hTn:T n=Tl.of l:=by rw [<- hT,Ad aA]
 refine aD aB (sz:=24) Tryz.func60 rfl (by rw [Tryz.ntmps60];rfl) ?_
 repeat' (first|(refine aC ?_;intro K hK hX)|refine aK [0,2,3,5,13,14,15] ?_|((with_reducible refine cM7 ?_);refine yA ?_;refine bC (aG6 rfl) rfl ?_)|refine stA ?_|(refine aG hK hX ?_;clear hK hX K)|fail)
 refine bH [15] [5,0,1,2,3,4] rfl rfl (fun i:Nat=>[(15,.c (iv i))]) (fun i=>[(5,.blk tTl [.c (bv (T i).so),.c (iv (T i).day),.c (iv (T i).er),.c (iv (T i).sg),.mh 0,.mh 1,.mh 2,.mh 3,.mh 4]),(0,.tab (aI ktI.kc (T i).bg)),(1,.tab (aI ktI.kc (T i).co)),(2,.tab (aI ktP.kc (T i).st)),(3,.tab (aI ktV.kc (T i).vs)),(4,.tab (aI ktS.kc (T i).ss))]) (fun i=>i<=n) (fun i=>n-i) 0 (Am _) (by refine dW rfl ?_ ?_ rfl<;>(repeat' (first|exact cO|exact cP|refine cG rfl (by first|rfl|(first|rfl|(rw [hT0];rfl))|exact zeq) rfl ?_|refine bD rfl (by first|rfl|(first|rfl|(rw [hT0];rfl))|exact zeq) rfl ?_|refine bD rfl (by first|rfl|(first|rfl|(rw [hT0];rfl))) dO ?_))) ?_
 intro i hi K hK hX
 by_cases hlt:i<n
 ·obtain ⟨e,hat⟩:∃e,l[i]? = some e:=⟨_,Ab aA⟩
  have hx:=wH hwl hat
  obtain ⟨ow,ok,oz⟩:=hwl e (Af hat)
  have hel:=lQ ow
  obtain ⟨t1,t2,t3⟩:=cV0 (l:=l.take i) kE (hwl.take i)
  have hs:(T i).add e=T (i+1):=by rw [<- hT,<- hT,iF hat,Tl.of_snoc]
  rw [hT] at t1
  have ha:ACG Tryz.prog 63 6 [(0,.blk tTl [.c (bv (T i).so),.c (iv (T i).day),.c (iv (T i).er),.c (iv (T i).sg),.mh 1,.mh 2,.mh 3,.mh 4,.mh 5]),(1,.tab (aI ktI.kc (T i).bg)),(2,.tab (aI ktI.kc (T i).co)),(3,.tab (aI ktP.kc (T i).st)),(4,.tab (aI ktV.kc (T i).vs)),(5,.tab (aI ktS.kc (T i).ss))] [.agg (ecR e)] [(0,.blk tTl [.c (bv (T (i+1)).so),.c (iv (T (i+1)).day),.c (iv (T (i+1)).er),.c (iv (T (i+1)).sg),.mh 1,.mh 2,.mh 3,.mh 4,.mh 5]),(1,.tab (aI ktI.kc (T (i+1)).bg)),(2,.tab (aI ktI.kc (T (i+1)).co)),(3,.tab (aI ktP.kc (T (i+1)).st)),(4,.tab (aI ktV.kc (T (i+1)).vs)),(5,.tab (aI ktS.kc (T (i+1)).ss))] (.v (.tuple #[])):=by
   have:=cB3 (T i) t1 e ow _ _ rfl rfl (At oz.vs aN) (At oz.ss aN)
   rw [hs] at this
   exact this
  clear hT hs t1 t2 t3 ow oz
  generalize ecR e=cs at *
  repeat' (first|(refine aC ?_;intro K hK hX)|refine aK [0,2,3,5,13,14,15] ?_|((with_reducible refine aW ?_);refine yA ?_;refine bC (aR (T:=49) aB rfl rfl rfl) rfl ?_)|((with_reducible refine aF ?_);refine nR [5,0,1,2,3,4] ha aE rfl zby rfl rfl rfl rfl sT rfl rfl rfl pR (cE rfl rfl (cE rfl setT_mp.symm (cE rfl setT_mp.symm (cE rfl setT_mp.symm (cE rfl setT_mp.symm (cE rfl setT_mp.symm rC)))))) ?_)|refine jO ?_|refine stA ?_|(refine aG hK hX ?_;clear hK hX K)|fail)
  exact dS
 ·have hin:i=n:=by omega
  rw [hin,hTn]
  repeat' (first|(refine aC ?_;intro K hK hX)|refine aK [0,2,3,5,13,14,15] ?_|refine stA ?_|(refine aG hK hX ?_;clear hK hX K)|fail)
  refine cV zio ztr rfl (ResL.one (ResA.tmp rfl)) (cO3 (by refine fW [5,0,1,2,3,4] rfl rfl ?_ ?_ rfl rfl<;>(repeat' (first|exact dT|exact dD|refine dJ rfl xF rfl ?_|refine cB rfl setT_mp dO ?_|refine cB rfl xF rfl ?_))))
theorem wJ (s:Dk) (r:Lg) (e:Int) (hr:opO s=(r,e)):r.c.length=32/\OkL r.l/\r.l.length<=512/\FolL r.l/\r.d.sy.length+r.d.pe.length<=131072:=by
 unfold opO at hr
 by_cases he:(opR s).2≠0
 ·rw [Ak he] at hr
  injection hr with hr _
  rw [<- hr]
  exact ⟨rfl,fun e he=>by simp [lgZ] at he,by simp [lgZ],fun i e he=>by simp [lgZ] at he,by simp [lgZ,dkZ]⟩
 ·rw [Aj he] at hr
  injection hr with hr _
  have hb:(opR s).1.length<=131072:=by
   unfold opR
   split
   ·simp
   ·rename_i hok
    split
    ·simp
    ·obtain ⟨h3,_⟩:=eD (sy:=s.sy) (pe:=s.pe) (fu:=s.fu) (dn:=s.dn) rfl rfl (by cases hd:s.ok;exact absurd hd hok;rfl)
     rw [Aa]
     exact h3
  obtain ⟨p1,p2,p3,p4,p5⟩:=pG 513 (l:=[]) (ch:=root0) (b:=(opR s).1) aA rfl (fun e he=>by simp at he) aU
  rw [<- hr]
  refine ⟨p4,p1,p2,p5 (fun i e he=>by simp at he),?_⟩
  simp only
  unfold opT
  split
  ·simp [dkZ]
  ·rename_i h1
   split
   ·rename_i h2
    exact (he (by unfold opR;rw [Aj (fun h=>h1 (.inl h)),Ak h2];decide)).elim
   ·rename_i h2
    have hok:s.ok=true:=by cases hd:s.ok;exact absurd (.inl hd) h1;rfl
    obtain ⟨h3,_⟩:=eD (sy:=s.sy) (pe:=s.pe) (fu:=s.fu) (dn:=s.dn) rfl rfl hok
    simp only [As,Aa,Bt]
    omega
noncomputable def opCr (s:Lg) (n:Int):Lg × Int:=if (opC s.d n).2≠0 then (lgZ,(opC s.d n).2) else opO (opC s.d n).1
theorem aU4:pW Tryz.prog 101 2:=by
 intro us w hl
 obtain ⟨u0,u1,rfl⟩:∃u0 u1,us=[u0,u1]:=by
  match us,hl with | [u0,u1],_=>exact ⟨u0,u1,rfl⟩
 refine callsD_of_wpS Tryz.func101 rfl fun c₀ cs hu=>?_
 apply wpS_seq
 apply wpS_region
 simp [wpOpsS,go_sem,recoverD,hu,Tryz.ntmps101,Exit.thenS]
 refine wpS_cond (t:=false) pS ?_
 simp only [AB,AQ]
 refine wpS_of_wp (wp_skip ?_)
 cases c₀
 simp_all [bodyPostS,results,Tryz.results101]
theorem aA5:Body Tryz.prog 101:=by unfold Body;kernel_rfl
theorem aA7 (s:Lg) (m k q:Nat) (hm:s.d.sy.length=m) (hk:s.d.pe.length=k) (h1:m<=1000000) (h2:k<=1000000) (hc:s.c.length=32) (n:Int) (hn:aT n) (r:Lg) (e:Int) (m' k' q':Nat) (hr:opCr s n=(r,e)) (hm':r.d.sy.length=m') (hk':r.d.pe.length=k') (hq':r.l.length=q'):qC' 37 [.agg (lgV m k q s),iv n] (.tup [.c (.agg (lgV m' k' q' r)),.c (iv e)]) [] 0:=by
 obtain ⟨d2,e2,hcr⟩:∃d2 e2,opC s.d n=(d2,e2):=⟨_,_,rfl⟩
 have hac:=cH7 s.d.sy s.d.pe s.d.fu s.d.dn m k n hm hk h1 h2 hn.1 hn.2 d2 e2 _ _ hcr rfl rfl
 unfold opCr at hr
 rw [hcr] at hr
 simp only at hr
 have hcl:(u8c s.c).length=32:=by rw [aH,hc]
 have hlg:(lgV m k q s).length=37:=by unfold lgV;rw [Aa,hcl];rfl
 have hw0:List.take 4 (List.drop (0+0) (lgV m k q s))=[.sl 1 m (u8c s.d.sy),.sl 1 k (u8c s.d.pe),iv s.d.fu,bv s.d.dn]:=rfl
 generalize lgV m k q s=g at *
 by_cases he:e2≠0
 ·rw [Ak he] at hr
  injection hr with hr1 hr2
  subst hr1 hr2
  obtain rfl:m'=0:=hm'.symm
  obtain rfl:k'=0:=hk'.symm
  obtain rfl:q'=0:=hq'.symm
  obtain ⟨y1,y2,y3,y4⟩:=d2
  try dsimp only at hac
  refine aD aB (sz:=23) Tryz.func37 rfl (by rw [Tryz.ntmps37];rfl) ?_
  repeat' (first|(refine aC ?_;intro K hK hX)|refine aK [0,1,2,4,5,6] ?_|((with_reducible refine aQ (i:=4) ?_);refine aP [0,1,2,4,5,6] rfl rfl ?_;refine bW [] ?_)|((with_reducible refine aQ ?_);refine aP [0,1,2,4,5,6] rfl rfl ?_;refine cJ [] ?_)|((with_reducible refine bM ?_);refine yA ?_;refine bC (bN (T:=61) rfl) rfl ?_)|((with_reducible refine aW ?_);refine yA ?_;refine bC (aR (T:=61) aB rfl rfl rfl) rfl ?_)|(refine dM ?_;refine c0 hac ?_)|refine fT ?_|refine stA ?_|refine stD ?_|refine stE ?_|(refine aG hK hX ?_;clear hK hX K)|fail)
  refine cV zio (by exact ⟨aU4,aA5,trivial⟩) rfl (ResL.two zrs zrs) (iM (aX (dU (mN aP5)) (aX (dU cR) cS)))
 ·have he0:e2=0:=Bb he
  subst he0
  rw [Aj he] at hr
  have hd:d2.sy.length<=1000000/\d2.pe.length<=1000000:=by
   unfold opC at hcr
   split at hcr
   ·injection hcr with _ h;cases h
   ·rename_i hok
    injection hcr with h _
    rw [<- h]
    simp only [Aa,As,Bt]
    obtain ⟨h3,_⟩:=eD (sy:=s.d.sy) (pe:=s.d.pe) (fu:=s.d.fu) (dn:=s.d.dn) hm hk (by cases hd:s.d.ok;exact absurd hd hok;rfl)
    omega
  have hrl0:=wJ d2 r e hr
  have hop:=aP8 d2 _ _ rfl rfl hd.1 hd.2 r e m' k' q' hr hm' hk' hq'
  generalize d2.sy.length=z1 at *
  generalize d2.pe.length=z2 at *
  obtain ⟨y1,y2,y3,y4⟩:=d2
  have hrl:(lgV m' k' q' r).length=37:=by
   have:=hrl0.1
   unfold lgV
   rw [Aa,aH,this];rfl
  generalize lgV m' k' q' r=gr at *
  try dsimp only at hac hop
  refine aD aB (sz:=23) Tryz.func37 rfl (by rw [Tryz.ntmps37];rfl) ?_
  repeat' (first|(refine aC ?_;intro K hK hX)|refine bE [0,1,2,4,5,6] ?_|((with_reducible refine bM ?_);refine yA ?_;refine bC (bN (T:=61) rfl) rfl ?_)|((with_reducible refine aW ?_);refine yA ?_;refine bC (aR (T:=61) aB rfl rfl rfl) rfl ?_)|(refine bZ ?_;first|refine c0 hac ?_|refine c0 hop ?_)|refine eE ?_|refine stA ?_|refine stD ?_|(refine aG hK hX ?_;clear hK hX K)|fail)
  refine cV zio (by exact ⟨aU4,aA5,trivial⟩) rfl (ResL.two zrs zrs) (iM (aX zfz (aX zfz cS)))
end Go.Proofs.YtbgehdndimlgkaaGreat
