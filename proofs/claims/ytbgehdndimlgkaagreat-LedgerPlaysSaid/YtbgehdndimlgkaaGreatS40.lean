/- Lemmas for laws of the ledger. -/
import Derived.Laws.AppendOwn
import Derived.Sort.Grow
import Derived.Shelf.SlSortCmp.NoneTotal
import Derived.Test.YtbgehdndimlgkaaGreatS39
set_option linter.all false
namespace Go.Proofs.YtbgehdndimlgkaaGreat
open Go Go.RowKit Go.Av
set_option maxRecDepth 100000
section
variable {α:Type} [DecidableEq α]
def cpA (l:List α):Nat->List α
 | 0=>[]
 | m+1=>if 0<m/\l[m]? = l[m-1]? then cpA l m else cpA l m++l[m]?.toList
theorem sZ (l:List α):∀m,(cpA l m).length<=m
 | 0=>Ah _
 | m+1=>by
  have:=sZ l m
  have h1:(l[m]?.toList).length<=1:=by cases l[m]? <;> simp
  rw [cpA]
  split
  ·omega
  ·rw [Aa];omega
theorem cZ0 {l:List α} (h:0<l.length):(cpA l 1).length=1:=by
 rw [cpA,Aj aA,Ab h];rfl
def rwA (l:List α) (m:Nat):List α:=cpA l m++l.drop (cpA l m).length
section
variable {l:List α}
include l
theorem bI0 {m:Nat} (h:m<=l.length):(rwA l m).length=l.length:=by
 have:=sZ l m
 unfold rwA
 rw [Aa,A0];omega
theorem eC1 {m j:Nat} (hk:(cpA l m).length<=j):(rwA l m)[j]? = l[j]? := by
 unfold rwA
 rw [AT hk,AR]
 congr 1
 omega
theorem aZ9 {m:Nat} (h0:0<m) (h:l[m]? = l[m-1]?):cpA l (m+1)=cpA l m/\rwA l (m+1)=rwA l m:=by
 have:cpA l (m+1)=cpA l m:=by rw [cpA,Ak ⟨h0,h⟩]
 exact ⟨this,by unfold rwA;rw [this]⟩
theorem aZ8 {m:Nat} {x:α} (hm:l[m]? = some x) (h:¬(0<m/\l[m]? = l[m-1]?)):(cpA l (m+1)).length=(cpA l m).length+1/\rwA l (m+1)=(rwA l m).set (cpA l m).length x:=by
 have e:cpA l (m+1)=cpA l m++[x]:=by rw [cpA,Aj h,hm];rfl
 have hl:=sZ l m
 have hml:=(Ag.1 hm).1
 refine ⟨by rw [e,Aa];rfl,?_⟩
 unfold rwA
 rw [e,Aa,Ca,BM _ _ (Ah _),BU,B6 (i:=(cpA l m).length) aA,BY,Ao]
 rfl
theorem aZ7 {m:Nat} {x:α} (hm:l[m]? = some x) (hk:(cpA l m).length=m) (h:¬(0<m/\l[m]? = l[m-1]?)) (hr:rwA l m=l):(cpA l (m+1)).length=m+1/\rwA l (m+1)=l:=by
 obtain ⟨h1,h2⟩:=aZ8 hm h
 refine ⟨by omega,?_⟩
 rw [h2,hr,hk]
 refine Cp fun j=>?_
 have hml:=(Ag.1 hm).1
 rw [List.getElem?_set]
 split
 ·rename_i e;subst e;first|exact hm.symm|(rw [Ak hml];exact hm.symm)
 ·rfl
theorem cS4 {m:Nat}:(rwA l m).take (cpA l m).length=cpA l m:=by
 unfold rwA
 rw [AD (Ah _),List.take_length]
theorem dI2 (h:0<l.length):rwA l 1=l :=
 (aZ7 (m:=0) (Ab h) rfl aA rfl).2
theorem bE3 (h:l.length=1):cpA l 1=l:=by
 match l,h with
 | [x],_=>rfl
theorem aT8 {n:Nat} (hn:l.length=n) (hkl:(cpA l n).length=n) (hkr:rwA l n=l):cpA l n=l:=by
 unfold rwA at hkr
 rw [List.drop_eq_nil_of_le aA,A4] at hkr
 exact hkr
end
variable {lt:α->α->Prop}
theorem cU7 (h:SLO lt) {l:List α} (hs:l.Pairwise fun x y=>¬lt y x) {i j:Nat} {x y:α} (hij:i<=j) (hx:l[i]? = some x) (hy:l[j]? = some y):¬lt y x:=by
 by_cases e:i=j
 ·subst e
  rw [hx] at hy
  injection hy with hy
  subst hy
  exact h.irr x
 ·obtain ⟨h1,h2⟩:=Ag.1 hx
  obtain ⟨h3,h4⟩:=Ag.1 hy
  have:=Cc.1 hs i j h1 h3 aA
  rw [h2,h4] at this
  exact this
theorem aH5 (h:SLO lt) {l:List α} (hs:l.Pairwise fun x y=>¬lt y x):∀m,m<=l.length->(cpA l m).Pairwise lt/\∀x,x∈cpA l m↔x∈l.take m
 | 0,_=>⟨List.Pairwise.nil,fun x=>by simp [cpA]⟩
 | m+1,hm=>by
  obtain ⟨h1,h2⟩:=aH5 h hs m aA
  obtain ⟨y,hy⟩:∃y,l[m]? = some y:=⟨_,Ab aA⟩
  have ht:l.take (m+1)=l.take m++[y]:=by rw [B8,hy];rfl
  rw [cpA]
  split
  ·rename_i h3
   refine ⟨h1,fun x=>?_⟩
   rw [h2,ht,Az,AX]
   refine ⟨fun h => .inl h,fun h=>h.elim id fun e=>?_⟩
   rw [e]
   refine Af (i:=m-1) ?_
   rw [AU,Ak aA,<- h3.2,hy]
  ·rename_i h3
   rw [hy,Option.toList_some]
   refine ⟨List.pairwise_append.2 ⟨h1,C3 _ _,fun x hx z hz=>?_⟩,fun x=>by rw [Az,h2,ht,Az]⟩
   have hz:z=y:=by simpa using hz
   subst hz
   obtain ⟨j,hj⟩:=List.mem_iff_getElem?.1 ((h2 x).1 hx)
   have hjm:j<m:=by
    by_cases hc:j<m
    ·exact hc
    ·rw [AU,Aj hc] at hj;cases hj
   rw [AU,Ak hjm] at hj
   obtain ⟨u,hu⟩:∃u,l[m-1]? = some u:=⟨_,Ab aA⟩
   have a1:=cU7 h hs (i:=j) (j:=m-1) aA hj hu
   have a2:=cU7 h hs (i:=m-1) (j:=m) aA hu hy
   have hne:u≠z:=fun e=>h3 ⟨by omega,by rw [hy,hu,e]⟩
   rcases h.tri u z with e|e|e
   ·rcases h.tri x u with e2|e2|e2
    ·exact h.tr _ _ _ e2 e
    ·rw [e2];exact e
    ·exact absurd e2 a1
   ·exact absurd e hne
   ·exact absurd e a2
open Classical in
noncomputable def srtA (lt:α->α->Prop) (l:List α):List α:=l.mergeSort fun x y=>decide (¬lt y x)
theorem sM (l:List α):(srtA lt l).Perm l:=List.mergeSort_perm l _
theorem rQ (l:List α):(srtA lt l).length=l.length:=(sM l).length_eq
open Classical in
theorem bB6 (h:SLO lt) (l:List α):(srtA lt l).Pairwise fun x y=>¬lt y x:=by
 have:=List.pairwise_mergeSort (le:=fun x y:α=>decide (¬lt y x)) (fun a b c h1 h2=>by
  simp only [Bq] at *
  intro h3
  rcases h.tri a b with e|e|e
  ·exact h2 (h.tr _ _ _ h3 e)
  ·exact h2 (e▸h3)
  ·exact h1 e) (fun a b=>by
  simp only [Br,Bq]
  by_cases h1:lt b a
  ·right
   intro h2
   exact h.irr _ (h.tr _ _ _ h1 h2)
  ·exact .inl h1) l
 exact this.imp fun h=>CB h
theorem cZ1 (h:SLO lt) (l:List α) {n:Nat} (hn:l.length=n):cpA (srtA lt l) n=ascL lt l:=by
 obtain ⟨h1,h2⟩:=aH5 h (bB6 h l) n (by rw [rQ,hn];exact Ah _)
 refine bT1 h h1 fun x=>?_
 rw [h2,Ad (by rw [rQ,hn];exact Ah _),(sM l).mem_iff]
end
theorem eE2 {α:Type} {lt:α->α->Prop} (h:SLO lt) {f:α->α->Int} (hf:∀a b,f a b<0↔lt a b):Go.Sort.SWO (Go.Proofs.ltOf f) where
 irrefl x:=by
  have:=h.irr x
  rw [<- hf] at this
  simp [Go.Proofs.ltOf,this]
 trans x y z h1 h2:=by
  simp only [Go.Proofs.ltOf,Bq,hf] at *
  exact h.tr _ _ _ h1 h2
 ntrans x y z h1 h2:=by
  simp only [Go.Proofs.ltOf,decide_eq_false_iff_not,hf] at *
  intro h3
  rcases h.tri x y with e|e|e
  ·exact h1 e
  ·exact h2 (e▸h3)
  ·exact h2 (h.tr _ _ _ e h3)
end Go.Proofs.YtbgehdndimlgkaaGreat
namespace Go.Av
open Go Go.RowKit
section
theorem wR {P : Dv} (w : World) (t e ty : Du) (zv : Value) (ht : P.underlying t = some (.slice e)) (hv : ∀ w, (zeroValue e).run P w = .ok zv w) {n : Nat} {zs : Do} (hzc : (Builtin.zeroCells zv.cells n).toList = zs) (h1 : ∀ v ∈ zs, v.oneCell' = true) (b o c' : Nat) (c : Nat) (hn : 0 < c')
    (hc : ∀ j, j < zs.length -> (w.cell? ⟨b, o + j, none⟩).isSome = true) (hf : ∀ j, j < zs.length -> w.frozen? ⟨b, o + j, none⟩ = false) (hcn : c' = n) :
    (Builtin.clear_ #[t] ty #[.slice (some ⟨b, o, none⟩) c' c]).run P w = .ok (.tuple #[]) (w.setCells b o zs) := by
  subst hcn
  have hst := run_storeCells_cells (P := P) b o zs 0 w (by simpa using hc) (by simpa using hf) h1
  simp only [Ck] at hst
  obtain ⟨m, rfl⟩ : ∃ m, c' = m + 1 := ⟨c' - 1, by omega⟩
  simp [Builtin.clear_, run_underlying ht, hv, hzc, hst]
section
variable {P:Dv} {tab:Tab} {sz n:Nat} {env:Env} {h:aO} {dfs:cD} {K:AK} {ops:Dq} {rest:Dp} {ty T:Du} {pos:String} {aft:Ds} {gd:Dn} {x:Operand}
theorem bD7 (tb : bQ P tab) {id off m size : Nat} {e e' : TyE} {E T' : Du} (hg : guardA ops env ⟨none, .call ⟨.builtin .clear, #[x], #[T]⟩, ty, pos, aft, gd⟩ true) (hT : aS tab T = some e) (hk : e.kind = .slice E) (hE : aS tab E = some e') (hsz : e'.size = size) (hz0 : e'.zero.length = size) (h1 : e'.zero.all (·.oneCell') = true)
     {full : Bool} {cs : D1} (hx : evA env x = some (.own id off m size full)) (ho : lk h id = some (.row T' cs)) (hm : 0 < m) (hfit : off + m * size <= cs.length)
    (next : AWL P ops sz rest K n env ((id, .row T' (cs.take off)) :: h) dfs) : AWL P ops sz (⟨none, .call ⟨.builtin .clear, #[x], #[T]⟩, ty, pos, aft, gd⟩ :: rest) K n env h dfs := by
  intro B a w hc
  obtain ⟨M, c1, c2, c3, c4⟩ := hc
  refine eO fun K' hK' => ?_
  rw [Ak (hg.wanted c3)]
  have hp := dN c3 x _ hx
  simp only [Rep] at hp
  obtain ⟨hid, ⟨q1, _⟩ | ⟨g, cp, hM, hp, hmc, hcp, _⟩ | ⟨q1, _⟩⟩ := hp
  · omega
  · obtain ⟨us, vs, hb, hus, hone⟩ := fI (fun id o h _ => h) c1 ho hid hM
    have hul := hus.length
    obtain ⟨i, hi, _, _, zv, hzv, hzz⟩ := (aM tb hE).parts
    obtain ⟨zs, hzs⟩ : ∃ zs, (Builtin.zeroCells zv.cells m).toList = zs := ⟨_, rfl⟩
    have hzl : zs.length = m * size := by rw [<- hzs, A9, size_zeroCells, <- A9, hzz, hz0]
    have hzo : ∀ v ∈ zs, v.oneCell' = true := fun v hv => by
      rw [<- hzs] at hv
      simp only [Builtin.zeroCells, Array.toList_map, BG] at hv
      obtain ⟨i, hi, rfl⟩ := hv
      have hi2 : i < m * zv.cells.size := by simpa using hi
      have hps : 0 < zv.cells.size := by
        rcases BC zv.cells.size with h | h
        · rw [h] at hi2; omega
        · exact h
      have hlt : i % zv.cells.size < zv.cells.size := CI _ hps
      rw [Cg zv.cells _ hlt]
      refine Aw.1 h1 _ ?_
      rw [<- hzz]
      exact Array.getElem_mem_toList hlt
    have hv : ∀ w, (zeroValue E).run P w = .ok zv w := fun w => by
      simp only [zeroValue, typeInfo, Sem.run_bind, run_program, Result.andThen_ok, hi, Sem.run_pure, hzv]
    have hcell : ∀ j, j < zs.length -> (w.cell? ⟨g, off + j, none⟩).isSome = true := fun j hj => by
      rw [nT hb, AL aA, Ab aA]; rfl
    have hfr : ∀ j, j < zs.length -> w.frozen? ⟨g, off + j, none⟩ = false := fun j hj => by
      unfold World.frozen?
      rw [hb]
      simp
    have hrun := wR (P := P) w T E ty zv ((aM tb hT).slice hk) hv hzs hzo g off m cp hm hcell hfr rfl
    obtain ⟨cur, l1, l2, l3⟩ := uR g T' zs off w (us ++ vs) hb
    rw [l3] at hrun
    rw [AD aA] at l2
    have hcur : cur = us.take off ++ cur.drop off := by rw [<- l2, B9]
    unfold Oper.wp
    have hx' := bF2 (P := P) (T := T) (ty := ty) (pos := pos) (aft := aft) (gd := gd) (x := x) (w := w) a.eval (v := .tuple #[]) (by rw [hp]; exact hrun)
    simp only [hx']
    obtain ⟨k1, k2⟩ := c1.turn (o' := .row T' (cs.take off)) (w' := w.setRow g cur.toArray) rfl hid ho hM rfl rfl rfl aU (fun k hk => setRow_other w g k _ hk) (fE hb (by simp [l1]))
      (fun hext => .inr ⟨g, us.take off, cur.drop off, rfl, by rw [<- hcur]; exact setRow_heap w g _ _ T' _ hb, RepCs.mono hext.ok _ _ (RepCs.take off hus), fun u hu => hone u (AI hu)⟩)
    simp only [Oper.upon, Act.put]
    exact cH1
  · omega
end
end
section
def ACP (P:Dv) (f:FuncId) (E:Du) (size n:Nat) (pre c0 args c1:D1) (m:Nat):Prop :=
 ∀(ok:Nat->Prop) (w:World) (g cap:Nat) (us0 vs0 ps vs:Do),¬ok g->w.heap[g]? = some (.cells (us0++vs0).toArray E (0,0))->RepCs ok w c0 us0->(∀u∈us0,u.oneCell'=true)->n<=cap->cap<=maxLen->us0.length+vs0.length=cap*size->RepCs ok w pre ps->RepCs ok w args vs ->
  Calls P f (ps++Value.slice (some ⟨g,0,none⟩) n cap::vs).toArray w fun e w'=>∃v us1 vs1,e = .returned v/\FrB w [g] w'/\w'.heap[g]? = some (.cells (us1++vs1).toArray E (0,0))/\us1.length+vs1.length=cap*size/\RepCs (okg ok w g) w' c1 us1/\(∀u∈us1,u.oneCell'=true)/\∀(C:Cx) (id:Nat),C.dom id->C.M id=some g->Rep C (.own id 0 m size false) v
theorem ACP.eq {P:Dv} {f:FuncId} {E:Du} {size n m m':Nat} {pre c0 args c1 c1':D1} (h:ACP P f E size n pre c0 args c1 m) (h1:c1=c1') (h2:m=m'):ACP P f E size n pre c0 args c1' m':=h1▸h2▸h
section call
variable {P:Dv} {ev:Evl} {h:aO} {d:Dt} {ty:Du} {pos:String} {aft:Ds} {gd:Dn} {i:Nat} {f:FuncId} {x0:Operand} {xs:Dy} {ats:Dx} {E:Du} {c0 c1 cs cs' ps ps':D1} {id size m k:Nat} {ys:Dy}
theorem dA5 (hac : ACP P f E size m ps' c0 cs' c1 k) (hb : Body P f) (hm : 0 < m) (hx0 : ev x0 = some (.own id 0 m size true)) (ho : lk h id = some (.row E c0)) (hy : eX ev ys = some ps) (hcp : CvL ps ps') (hx : eX ev xs = some cs) (hcv : CvL cs cs') :
    bY P ⟨d, .call ⟨.value (.func f), (ys ++ x0 :: xs).toArray, ats⟩, ty, pos, aft, gd⟩ ev h (.own id 0 k size false) [] (some (id, some (.row E c1))) i i := by
  intro B dom M H w a K Q hh hn hc he hK
  have hargs : RepCs (bF B dom M H) w cs (xs.map a.eval) := RepL.toC (C := ⟨dom, M, bF B dom M H, w⟩) (gD he tV)
  have hargp : RepCs (bF B dom M H) w ps (ys.map a.eval) := RepL.toC (C := ⟨dom, M, bF B dom M H, w⟩) (gD he (by rw [yY hy, BT]; rfl))
  have hp := he x0 _ hx0
  simp only [Rep] at hp
  obtain ⟨hid, hp⟩ := hp
  rcases hp with ⟨h1, _⟩ | ⟨g, cap, hM, hp, hncap, hcap, hfull⟩ | ⟨h1, _⟩
  · omega
  · obtain ⟨us0, vs0, hb0, hus0, hone0⟩ := fI hh hc ho hid hM
    have hng : ¬ bF B dom M H g := fun hk => hk.2 id _ hid (hh id _ ho hid) hM
    have hlen0 : us0.length + vs0.length = cap * size := by
      obtain ⟨e, hsh⟩ := hfull trivial
      unfold World.shape? at hsh
      rw [hb0] at hsh
      simp only [Option.some.injEq, Prod.mk.injEq, A1, Aa] at hsh
      omega
    unfold Oper.wp execOp
    simp only [resolve, Deferred.ofValue, Act.eval, invoke, Sem.run_bind, Sem.run_pure, Result.andThen_ok, AZ, Bg, Body.run hb, Oper.upon]
    rw [show (#[] ++ (List.map a.eval (ys ++ x0 :: xs)).toArray : D0) = (List.map a.eval ys ++ Value.slice (some ⟨g, 0, none⟩) m cap :: List.map a.eval xs).toArray by simp [hp]]
    refine (hac _ w g cap us0 vs0 _ _ hng hb0 hus0 hone0 hncap hcap hlen0 (hcp _ _ _ hargp) (hcv _ _ _ hargs)).mono ?_
    rintro e w' ⟨v, us1, vs1, rfl, hfr, hb1, hlen1, hus1, hone1, hv⟩
    simp only
    have hgs := cC hb0
    have hg1 : (w'.putObj g (.cells (us0 ++ vs0).toArray E (0, 0))).heap[g]? = some (.cells (us0 ++ vs0).toArray E (0, 0)) := World.putObj_heap_same (cC hb1)
    have ho1 : ∀ k, k ≠ g -> (w'.putObj g (.cells (us0 ++ vs0).toArray E (0, 0))).heap[k]? = w'.heap[k]? := fun k hk => World.putObj_heap_other (fun e => hk e)
    generalize hw1 : w'.putObj g (.cells (us0 ++ vs0).toArray E (0, 0)) = w1 at hg1 ho1
    have hs1 : w1.heap.size = w'.heap.size := by rw [<- hw1]; simp [World.putObj]
    have hbl : Below w.heap.size w w1 := ⟨by rw [<- hw1]; exact hfr.os, by rw [<- hw1]; exact hfr.tape, by rw [<- hw1]; exact hfr.output, by rw [hs1]; exact hfr.size, fun k hk => by
      by_cases e : k = g
      · subst e; rw [hg1, hb0]
      · rw [ho1 k e]; exact hfr.block k hk (by simp [e])⟩
    have hgr := hc.grow hbl i i (M' := M) (fun id _ => rfl) (fun id h1 h2 => by omega) (fun id o h1 h2 => by omega) (fun id id' o o' g h1 h2 => by omega) (fun hext id o h1 h2 => by omega)
    rw [dY] at hgr
    obtain ⟨g1, g2⟩ := hgr
    have hmon : kW (okg (bF B dom M H) w g) (bF B dom M (ov (some (id, some (.row E c1))) H)) w' w' := fun b hb hl => by
      refine ⟨⟨?_, fun k o hk hH he => ?_⟩, hl, rfl⟩
      · rcases hb.1 with h1 | h1
        · exact h1.1
        · exact aU6
      · by_cases e : k = id
        · subst e
          rw [hM] at he
          injection he with he
          exact hb.2 he.symm
        · rw [lE (fun x hx => e (congrArg Prod.fst (Option.some.inj hx)).symm)] at hH
          rcases hb.1 with h1 | h1
          · exact h1.2 k o hk hH he
          · have := (hc.obj k o hk hH).lt b he
            simp only at this
            omega
    obtain ⟨k1, k2⟩ := g1.turnE (o' := .row E c1) (w' := w') hid (hh id _ ho hid) hM jQ jQ jQ hs1.symm (fun k hk => (ho1 k hk).symm)
      (by
        unfold World.shape?
        rw [hb1, hg1]
        simp only [A1, Aa]
        rw [hlen1, hlen0])
      (fun hext => .inr ⟨g, us1, vs1, rfl, hb1, RepCs.mono hmon _ _ hus1, hone1⟩)
    rw [dY] at hK
    exact hK v w' M (g2.trans k2) k1 (hv _ id hid hM)
  · omega
end call
section
variable {P:Dv} {sz n:Nat} {env:Env} {h:aO} {dfs:cD} {K:AK} {ops:Dq} {rest:Dp} {d:Dt} {ty:Du} {pos:String} {aft:Ds} {gd:Dn} {f:FuncId} {x0:Operand} {xs:Dy} {ats:Dx} {E:Du} {c0 c0' c1 cs cs' ps ps':D1} {id size m k:Nat} {y0:Operand}
theorem bT3 (hac : ACP P f E size m [] c0 cs' c1 k) (hg : guardA ops env ⟨d, .call ⟨.value (.func f), (x0 :: xs).toArray, ats⟩, ty, pos, aft, gd⟩ true) (hd : iD d sz = true) (hb : Body P f) (hm : 0 < m) (hx0 : evA env x0 = some (.own id 0 m size true)) (ho : lk h id = some (.row E c0')) (h0 : c0' = c0) (hx : eX (evA env) xs = some cs) (hcv : CvL cs cs')
    (next : AWL P ops sz rest K n (gJ env d (.own id 0 k size false)) ((id, .row E c1) :: h) dfs) : AWL P ops sz (⟨d, .call ⟨.value (.func f), (x0 :: xs).toArray, ats⟩, ty, pos, aft, gd⟩ :: rest) K n env h dfs := by
  subst h0
  exact lP (c := some (id, some (.row E c1))) (Δ := []) hg hd (Ah _) rfl (dA5 (ys := []) hac hb hm hx0 ho rfl fO hx hcv) (fun id h1 h2 => by omega) aU next
end
section drawn
variable {P:Dv} {l rest:Dp} {sz i n n0 m:Nat} {K:AK} {dfs:cD} {env env0:Env} {h h0 hr:aO} {es:List Eat} {ids:Dr} {t:Tmp} {ty:Du} {pos:String} {aft:Ds} {gd:Dn} {f:FuncId} {y0 x0:Operand} {xs:Dy} {ats:Dx} {E:Du} {c0 c0' c1 cs cs' ps ps':D1} {id size q k:Nat}
end drawn
section enter
def cX0 (P:Dv) (tab:Tab) (rs:List ResultVar) (E:Du) (size n:Nat) (pre:D1) (c1:D1) (m:Nat):AK :=
 fun e k env h dfs=>(e = .normal\/e = .ret)/\iJ P h dfs/\jH dfs=some [.own 0 0 n size true]/\0<k/\∃c' fl,lk (gK h dfs) 0=some (.row E c')/\c'.take (m*size)=c1/\ResL tab env (gK h dfs) rs (.own 0 0 m size fl)
theorem bQ8 {P:Dv} {tab:Tab} {rs:List ResultVar} {E:Du} {size n m:Nat} {pre c1 c':D1} {h h':aO} {k:Nat} {e:Exit} {env:Env} {dfs:cD} {fl:Bool} (he:e = .normal\/e = .ret) (hd:iJ P h dfs) (hm:jH dfs=some [.own 0 0 n size true]) (hh:gK h dfs=h') (hk:Nat.blt 0 k=true) (ho:lk h' 0=some (.row E c')) (hc:c'.take (m*size)=c1) (hv:ResL tab env h' rs (.own 0 0 m size fl)):cX0 P tab rs E size n pre c1 m e k env h dfs :=
 ⟨he,hd,hm,by simpa [AJ] using hk,c',fl,by rw [hh,ho],hc,hh▸hv⟩
theorem aG8 {P : Dv} {tab : Tab} (tb : bQ P tab) {f : FuncId} {fn : Func} {c : Code} {E : Du} {size n : Nat} {pre c0 args c1 : D1} {m : Nat} {sz : Nat} (hf : P.funcs[f]? = some fn) (hb : fn.body = some c) (hsz : max fn.ntmps (pre.length + (args.length + 1)) = sz) (hn0 : 0 < n)
    (hx : AW P sz c (cX0 P tab fn.results.toList E size n pre c1 m) 1 (xJ 0 (pre.map AV.c ++ .own 0 0 n size true :: args.map AV.c)) [(0, .row E c0)] [(none, [.own 0 0 n size true])]) : ACP P f E size n pre c0 args c1 m := by
  intro ok w g cap us0 vs0 ps vs hng hb0 hc0 hone0 hncap hcap hlen0 hps hvs
  have hlen := hvs.length
  have hlenp := hps.length
  have hok : ∀ b, ok b -> bF ⟨w, [g], ok, [.slice (some ⟨g, 0, none⟩) n cap]⟩ (lt 1) (fun _ => some g) (lk [(0, .row E c0)]) b := fun b hk => ⟨.inl hk, fun id o hid hH he => by
    injection he with he; subst he; exact hng hk⟩
  have hshape : w.shape? g = some (E, 0 + cap * size) := by
    unfold World.shape?
    rw [hb0]
    simp [hlen0]
  have hall : RepL (cx ⟨w, [g], ok, [.slice (some ⟨g, 0, none⟩) n cap]⟩ 1 (fun _ => some g) [(0, .row E c0)] w) (pre.map AV.c ++ .own 0 0 n size true :: args.map AV.c) (ps ++ .slice (some ⟨g, 0, none⟩) n cap :: vs) :=
    RepL.append (RepL.ofC (RepCs.mono (fun b hb hl => ⟨hok b hb, hl, rfl⟩) _ _ hps)) ⟨_, _, rfl, ⟨Cm, .inr (.inl ⟨g, cap, rfl, rfl, hncap, hcap, fun _ => ⟨E, hshape⟩⟩)⟩, RepL.ofC (RepCs.mono (fun b hb hl => ⟨hok b hb, hl, rfl⟩) _ _ hvs)⟩
  have hcc : ConcH ⟨w, [g], ok, [.slice (some ⟨g, 0, none⟩) n cap]⟩ (lt 1) (fun _ => some g) (lk [(0, .row E c0)]) w := by
    refine ⟨FrB.refl _ _, fun id o hid hH => ?_, fun id id' o o' g' h1 h2 _ _ _ _ => by simp only [lt] at h1 h2; omega, fun id o g' _ _ he => .inr (by injection he with he; simp [he])⟩
    have hid : id < 1 := hid
    obtain rfl : id = 0 := by omega
    have : some (AObj.row E c0) = some o := hH
    injection this with this
    subst this
    exact .inr ⟨g, us0, vs0, rfl, hb0, RepCs.mono (fun b hb hl => ⟨hok b hb, hl, rfl⟩) _ _ hc0, hone0⟩
  refine gW hf hb (wp_mono (kR (hx ⟨w, [g], ok, [.slice (some ⟨g, 0, none⟩) n cap]⟩ _ w ⟨fun _ => some g, hcc, ?_, ?_, ?_⟩)) ?_)
  · simp; omega
  · intro t av ht
    obtain ⟨h1, h2⟩ := lU ht
    rw [BB] at h2
    obtain ⟨u, hu, hru⟩ := hall.get h2
    have : ((ps ++ Value.slice (some ⟨g, 0, none⟩) n cap :: vs).toArray ++ Array.replicate (fn.ntmps - (ps ++ Value.slice (some ⟨g, 0, none⟩) n cap :: vs).toArray.size) undef).getD t undef = u := by
      have hlt := (Ag.1 hu).1
      rw [BE, By aA3]
      rw [BJ, hu]
      rfl
    rw [this]
    exact hru
  · exact ⟨⟨_, _, rfl, ⟨Cm, .inr (.inl ⟨g, cap, rfl, rfl, hncap, hcap, fun _ => ⟨E, hshape⟩⟩)⟩, rfl⟩, rfl⟩
  · intro e a w' hq
    obtain ⟨k, env, h, dfs, ⟨h1, h2, h3, h4, c', fl, h5, h7, h6⟩, M, d1, d2, d3, d4⟩ := hq
    have : iX P fn a.tmps (fun e w' => ∃ v us1 vs1, e = .returned v /\ FrB w [g] w' /\ w'.heap[g]? = some (.cells (us1 ++ vs1).toArray E (0, 0)) /\ us1.length + vs1.length = cap * size /\ RepCs (okg ok w g) w' c1 us1 /\ (∀ u ∈ us1, u.oneCell' = true) /\ ∀ (C : Cx) (id : Nat), C.dom id -> C.M id = some g -> Rep C (.own id 0 m size false) v) a.defers w' := by
      refine fR h2 d1 d4 fun w2 g1 g2 => ?_
      obtain ⟨u, k1, k2⟩ := h6.run tb g1 (fun t av ht => Rep.ext g2 _ _ (d3 t av ht))
      have hfr := RepL.ext g2 _ _ (lV h3 d4)
      simp only [RepL, Rep] at hfr
      obtain ⟨u0, us', e1, ⟨hn, hfr⟩, _⟩ := hfr
      injection e1 with e1 e3
      rw [<- e1] at hfr
      rcases hfr with ⟨q1, _⟩ | ⟨g', cap', hM, e2, _, _, hfull⟩ | ⟨q1, _⟩
      · omega
      · injection e2 with e2 e5 e6
        injection e2 with e2
        injection e2 with e2 e4
        subst e2 e6
        obtain ⟨us1, vs1, hb1, hr1, hone1⟩ := fI (fun id o h _ => h) g1 h5 (show lt k 0 from h4) hM
        have hl1 : us1.length + vs1.length = cap * size := by
          obtain ⟨e, hsh⟩ := hfull trivial
          unfold World.shape? at hsh
          simp only [cx] at hsh
          rw [hb1] at hsh
          simp only [Option.some.injEq, Prod.mk.injEq, A1, Aa] at hsh
          omega
        refine ⟨u, k2, u, us1.take (m * size), us1.drop (m * size) ++ vs1, rfl, g1.fr, by rw [<- Ao, B9]; exact hb1, by rw [Aa, As, A0]; omega, ?_, fun x hx => hone1 x (AI hx), fun C id hd hM' => ?_⟩
        · rw [<- h7]
          refine RepCs.take _ (RepCs.mono (fun b hb hl => ⟨⟨?_, fun e => ?_⟩, hl, rfl⟩) _ _ hr1)
          · rcases hb.1 with k1 | k1 | k1
            · exact .inl k1
            · exact .inr k1
            · obtain rfl : b = g := by simpa using k1
              exact absurd hM (hb.2 0 _ h4 h5)
          · subst e; exact absurd hM (hb.2 0 _ h4 h5)
        · simp only [Rep, cx] at k1 ⊢
          refine ⟨hd, ?_⟩
          obtain ⟨_, ⟨p1, p2, p3, p4⟩ | ⟨g2', cp, p1, p2, p3, p4, p5⟩ | ⟨p1, p2, A, cp, p3, p4⟩⟩ := k1
          · have hM2 : M 0 = some g := hM
            rw [hM2] at p3; cases p3
          · have hM2 : M 0 = some g := hM
            rw [hM2] at p1
            injection p1 with p1
            subst p1
            exact .inr (.inl ⟨g, cp, hM', p2, p3, p4, fun h => by cases h⟩)
          · exact .inr (.inr ⟨p1, trivial, A, cp, p3, p4⟩)
      · omega
    rcases h1 with rfl | rfl <;> exact this
end enter
end
end Go.Av
namespace Go.Av
open Go Go.RowKit Go.Sort
end Go.Av
namespace Go.Proofs.YtbgehdndimlgkaaGreat
open Go.Shelf Go.Proofs
def Tryz.srtV_ren:Go.Shelf.Ren:=⟨fun|6=>91|15=>155|14=>158|28=>195|29=>196|20=>198|21=>199|22=>200|23=>201|24=>202|25=>203|26=>204|27=>205|46=>237|47=>233|48=>234|49=>238|50=>239|57=>252|n=>n,fun|22=>46|24=>76|25=>132|3=>3|39=>33|0=>0|53=>212|55=>120|4=>4|46=>205|45=>204|50=>209|5=>5|9=>9|66=>239|70=>243|76=>253|77=>254|n=>n,fun|n=>n⟩
theorem Tryz.srtV:Go.Proofs.SlLaysF0.n6 Tryz.prog Tryz.srtV_ren:={
 mixed:=by kernel_rfl
 f6:=⟨Tryz.f91.name,by decide,Tryz.func91.trans (congrArg some aV)⟩
 f14:=⟨Tryz.f158.name,by decide,Tryz.func158.trans (congrArg some aV)⟩
 f15:=Tryz.func155.trans (congrArg some aV)
 f20:=⟨Tryz.f198.name,by decide,Tryz.func198.trans (congrArg some aV)⟩
 f21:=⟨Tryz.f199.name,by decide,Tryz.func199.trans (congrArg some aV)⟩
 f22:=⟨Tryz.f200.name,by decide,Tryz.func200.trans (congrArg some aV)⟩
 f23:=⟨Tryz.f201.name,by decide,Tryz.func201.trans (congrArg some aV)⟩
 f24:=⟨Tryz.f202.name,by decide,Tryz.func202.trans (congrArg some aV)⟩
 f25:=⟨Tryz.f203.name,by decide,Tryz.func203.trans (congrArg some aV)⟩
 f26:=⟨Tryz.f204.name,by decide,Tryz.func204.trans (congrArg some aV)⟩
 f27:=⟨Tryz.f205.name,by decide,Tryz.func205.trans (congrArg some aV)⟩
 f28:=Tryz.func195.trans (congrArg some aV)
 f29:=Tryz.func196.trans (congrArg some aV)
 f46:=⟨Tryz.f237.name,by decide,Tryz.func237.trans (congrArg some aV)⟩
 f47:=Tryz.func233.trans (congrArg some aV)
 f48:=Tryz.func234.trans (congrArg some aV)
 f49:=⟨Tryz.f238.name,by decide,Tryz.func238.trans (congrArg some aV)⟩
 f50:=⟨Tryz.f239.name,by decide,Tryz.func239.trans (congrArg some aV)⟩
 f57:=⟨Tryz.f252.name,by decide,Tryz.func252.trans (congrArg some aV)⟩
 t0:=Tryz.underlying0
 a0:=Tryz.isAgg0
 z0:=Tryz.sizeOf0
 v0:=Tryz.zeroValue0
 t3:=Tryz.underlying3
 a3:=Tryz.isAgg3
 z3:=Tryz.sizeOf3
 v3:=Tryz.zeroValue3
 t4:=Tryz.underlying4
 a4:=Tryz.isAgg4
 z4:=Tryz.sizeOf4
 v4:=Tryz.zeroValue4
 t5:=Tryz.underlying5
 a5:=Tryz.isAgg5
 z5:=Tryz.sizeOf5
 v5:=Tryz.zeroValue5
 t9:=Tryz.underlying9
 a9:=Tryz.isAgg9
 z9:=Tryz.sizeOf9
 v9:=Tryz.zeroValue9
 t22:=Tryz.underlying46
 a22:=Tryz.isAgg46
 z22:=Tryz.sizeOf46
 v22:=Tryz.zeroValue46
 t25:=Tryz.underlying132
 a25:=Tryz.isAgg132
 z25:=Tryz.sizeOf132
 v25:=Tryz.zeroValue132
 t39:=Tryz.underlying33
 a39:=Tryz.isAgg33
 z39:=Tryz.sizeOf33
 v39:=Tryz.zeroValue33
 t45:=Tryz.underlying204
 a45:=Tryz.isAgg204
 z45:=Tryz.sizeOf204
 v45:=Tryz.zeroValue204
 t46:=Tryz.underlying205
 a46:=Tryz.isAgg205
 z46:=Tryz.sizeOf205
 v46:=Tryz.zeroValue205
 t50:=Tryz.underlying209
 a50:=Tryz.isAgg209
 z50:=Tryz.sizeOf209
 v50:=Tryz.zeroValue209
 t53:=Tryz.underlying212
 a53:=Tryz.isAgg212
 z53:=Tryz.sizeOf212
 v53:=Tryz.zeroValue212
 t55:=Tryz.underlying120
 a55:=Tryz.isAgg120
 z55:=Tryz.sizeOf120
 v55:=Tryz.zeroValue120
 t66:=Tryz.underlying239
 a66:=Tryz.isAgg239
 z66:=Tryz.sizeOf239
 v66:=Tryz.zeroValue239
 t70:=Tryz.underlying243
 a70:=Tryz.isAgg243
 z70:=Tryz.sizeOf243
 v70:=Tryz.zeroValue243
 t76:=Tryz.underlying253
 a76:=Tryz.isAgg253
 z76:=Tryz.sizeOf253
 v76:=Tryz.zeroValue253
 t77:=Tryz.underlying254
 a77:=Tryz.isAgg254
 z77:=Tryz.sizeOf254
 v77:=Tryz.zeroValue254}
end Go.Proofs.YtbgehdndimlgkaaGreat
