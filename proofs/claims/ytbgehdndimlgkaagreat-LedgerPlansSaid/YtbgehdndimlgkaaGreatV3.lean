/- Lemmas for laws of the ledger. -/
import Derived.Test.YtbgehdndimlgkaaGreatV2
set_option linter.all false
namespace Go.Av
open Go Go.RowKit
section
theorem Chain.snoc {P : Di} {ops : Dd} {l : Dc} {env E : Env} {h H : aL} {n N : Nat} {vs : Dq} {ns : De} (hc : Chain P ops l env h n vs ns E H N) {o : Oper} {v : AV} {Δ : aL} {N' : Nat}
    (hs : (guardA ops E o true /\ N <= N' /\ Adds P o (evT (o.looksAt ops) E) H v Δ N N' /\ (∀ id, N <= id -> id < N' -> (lk Δ id).isSome = true) /\ (∀ p ∈ Δ, N <= p.1 /\ p.1 < N')) \/ (guardA ops E o false /\ v = .c (.v undef) /\ Δ = [] /\ N' = N)) :
    ∃ vs' ns', Chain P ops (l ++ [o]) env h n vs' ns' (fA E o.dst v) (Δ ++ H) N' := by
  induction hc with
  | nil =>
    rcases hs with ⟨h1, h2, h3, h4, h5⟩ | ⟨h1, rfl, rfl, rfl⟩
    · exact ⟨_, _, .add h1 h2 h3 h4 h5 .nil⟩
    · exact ⟨_, _, .skip h1 .nil⟩
  | add hg hn hA hcov hkeys hr ih =>
    obtain ⟨vs', ns', hch⟩ := ih hs
    exact ⟨_, _, .add hg hn hA hcov hkeys hch⟩
  | skip hg hr ih =>
    obtain ⟨vs', ns', hch⟩ := ih hs
    exact ⟨_, _, .skip hg hch⟩
def Drw (P:Di) (l:Dc) (sz:Nat) (K:AK) (dfs:bM) (id n0:Nat) (env0:Env) (h0:aL) (m:Nat) (rest:Dc) (n:Nat) (env:Env) (h:aL):Prop :=
 ∀pre vs ns,pre++rest=l->Chain P l.toArray pre env0 h0 n0 vs ns env h n->AW P sz (.region id l.toArray true) K n0 env0 h0 dfs
section
variable {P:Di} {l:Dc} {sz:Nat} {K:AK} {dfs:bM} {id n0 n:Nat} {env0 env:Env} {h0 h:aL} {m:Nat} {rest:Dc} {o:Oper} {v:AV}
theorem cZ0 (m:Nat) (hx:Drw P l sz K dfs id n0 env0 h0 m l n0 env0 h0):AW P sz (.region id l.toArray true) K n0 env0 h0 dfs:=hx [] [] [n0] rfl .nil
theorem qY {Δ : aL} {n' : Nat} (hg : guardA l.toArray env o true) (hn : n <= n') (hA : Adds P o (evT (o.looksAt l.toArray) env) h v Δ n n') (hcov : ∀ id, n <= id -> id < n' -> (lk Δ id).isSome = true) (hkeys : ∀ p ∈ Δ, n <= p.1 /\ p.1 < n')
    (next : Drw P l sz K dfs id n0 env0 h0 m rest n' (fA env o.dst v) (Δ ++ h)) : Drw P l sz K dfs id n0 env0 h0 (m + 1) (o :: rest) n env h := by
  intro pre vs ns hl hc
  obtain ⟨vs', ns', hch⟩ := hc.snoc (.inl ⟨hg, hn, hA, hcov, hkeys⟩)
  exact next (pre ++ [o]) vs' ns' eT hch
theorem bP9 (hg:guardA l.toArray env o false) (next:Drw P l sz K dfs id n0 env0 h0 m rest n (fA env o.dst (.c (.v undef))) h):Drw P l sz K dfs id n0 env0 h0 (m+1) (o::rest) n env h:=by
 intro pre vs ns hl hc
 obtain ⟨vs',ns',hch⟩:=hc.snoc (.inr ⟨hg,rfl,rfl,rfl⟩)
 exact next (pre++[o]) vs' ns' eT hch
theorem bF0 (hg:guardA l.toArray env o true) (hA:Still P o (evT (o.looksAt l.toArray) env) h v) (next:Drw P l sz K dfs id n0 env0 h0 m rest n (fA env o.dst v) h):Drw P l sz K dfs id n0 env0 h0 (m+1) (o::rest) n env h :=
 qY hg (Ae _) hA.adds (fun id h1 h2=>by omega) aO next
theorem cG5 (hg:guardA l.toArray env o true) (hA:Adds P o (evT (o.looksAt l.toArray) env) h v [] n n) (next:Drw P l sz K dfs id n0 env0 h0 m rest n (fA env o.dst v) h):Drw P l sz K dfs id n0 env0 h0 (m+1) (o::rest) n env h :=
 qY hg (Ae _) hA (fun id h1 h2=>by omega) aO next
theorem cG6 {obj:AObj} (hlv:obj.live=some obj) (hg:guardA l.toArray env o true) (hA:Adds P o (evT (o.looksAt l.toArray) env) h v [(n,obj)] n (n+1)) (next:Drw P l sz K dfs id n0 env0 h0 m rest (n+1) (fA env o.dst v) ((n,obj)::h)):Drw P l sz K dfs id n0 env0 h0 (m+1) (o::rest) n env h :=
 qY hg (BB _) hA (fun id h1 h2=>by
  obtain rfl:id=n:=by omega
  rw [bJ,Aj rfl,hlv];rfl) aO next
theorem cG4 (hm:P.follows .mixedOrders=true) (hB:qX l (l.length-rest.length)=true) (hsz:sE (l.take (l.length-rest.length)) sz=true) (hk0:zF h0 n0=true) (next:AWL P l.toArray sz rest K n env h dfs):Drw P l sz K dfs id n0 env0 h0 0 rest n env h:=by
 intro pre vs ns hl hc
 have hlen:l.length-rest.length=pre.length:=by rw [<- hl];simp
 rw [hlen] at hB hsz
 have ht:l.take pre.length=pre:=by rw [<- hl];simp
 have hd:l.drop pre.length=rest:=by rw [<- hl];simp
 exact cE1 pre.length hm hB hsz hk0 (by rw [ht];exact hc) (by rw [hd];exact next)
variable {d:Dg} {ty:Dh} {pos:String} {aft:Df} {gd:Da} {f:FuncId} {xs:Dm} {ats:Dl} {r:AV} {hr:aL} {nr:Nat}
theorem cA2 {k nr:Nat}:∀{h:aL},h.all (fun p=>Nat.blt p.1 nr)=true->∀p∈shH k h,k<=p.1/\p.1<k+nr
 | [],_,p,hp=>by cases hp
 | q::r,hb,p,hp=>by
  simp only [Bw,Am,AH] at hb
  rw [shH] at hp
  rcases A3.1 hp with rfl|hp
  ·exact ⟨by simp,by simp;exact hb.1⟩
  ·exact cA2 (by simpa using hb.2) p hp
theorem aH1 {cs cs' : Dp} (hg : guardA l.toArray env ⟨d, .call ⟨.value (.func f), xs.toArray, ats⟩, ty, pos, aft, gd⟩ true) (hb : Body P f) (hx : dO (evT (Oper.looksAt l.toArray ⟨d, .call ⟨.value (.func f), xs.toArray, ats⟩, ty, pos, aft, gd⟩) env) xs = some cs) (hac : AC P f cs' r hr nr) (hcv : CvL cs cs') (hcov : aG1 hr nr = true)
    (next : Drw P l sz K dfs id n0 env0 h0 m rest (n + nr) (fA env d (r.sh n)) (shH n hr ++ h)) : Drw P l sz K dfs id n0 env0 h0 (m + 1) (⟨d, .call ⟨.value (.func f), xs.toArray, ats⟩, ty, pos, aft, gd⟩ :: rest) n env h :=
  qY hg (CM _ _) (fC hb hx hac hcv hcov) (fun id h1 h2 => by
    have := (oX hcov (id - n)).1 aA
    obtain ⟨o, ho⟩ := AI.1 this
    rw [show id = n + (id - n) by omega, xM, ho]; rfl) (cA2 (by simp only [aG1, Am] at hcov; exact hcov.1)) next
end
def AWR (P:Di) (sz:Nat) (c:Code) (K:AK):Nat->Nat->Env->aL->bM->Prop
 | 0,_,_,_,_=>False
 | k+1,n,env,h,dfs=>AW P sz c (bB4 (fun n env h dfs=>AWR P sz c K k n env h dfs) K) n env h dfs
theorem bL0 {P:Di} {sz k n:Nat} {c:Code} {K:AK} {env:Env} {h:aL} {dfs:bM} (hx:AW P sz c (bB4 (AWR P sz c K k) K) n env h dfs):AWR P sz c K (k+1) n env h dfs:=hx
theorem yB {P:Di} {sz n:Nat} {c:Code} {K:AK} {env:Env} {h:aL} {dfs:bM} (k:Nat) (hx:AWR P sz c K k n env h dfs):AW P sz (.loop c) K n env h dfs:=by
 intro B a w hc
 refine tW k ?_
 induction k generalizing n env h dfs a w with
 | zero=>exact hx.elim
 | succ k ih =>
  rw [aD3]
  refine mK (hx B a w hc) fun e a' w' hq=>?_
  obtain ⟨n',env',h',d',hk,hc'⟩:=hq
  cases e with
  | normal=>exact ih hk a' w' hc'
  | _=>exact ⟨n',env',h',d',hk,hc'⟩
def oE (place:Nat->Option (Nat × Nat)) (cs:Dq):List (Nat × Dq)->Option (Dq)
 | []=>some cs
 | (i,vs)::r=>match place i with
  | some (off,size)=>match Nat.beq vs.length size&&Nat.ble (off+vs.length) cs.length with
   | true=>oE place (lay cs off vs) r
   | false=>none
  | none=>none
inductive CellsA:AV->Dq->Prop
 | agg {v:AV} {xs:Dq} (h:Parts v xs):CellsA v xs
 | one {v:AV} (h:v.one=true):CellsA v [v]
theorem CellsA.rep {C:Cx} {v:AV} {xs:Dq} (h:CellsA v xs) {u:Value} (hr:Rep C v u):RepL C xs u.cells.toList:=by
 cases h with
 | agg h=>obtain ⟨us,rfl,h2⟩:=h.rep hr;simpa [Value.cells] using h2
 | one h=>rw [(hr.one h).2];exact ⟨u,[],rfl,hr,rfl⟩
inductive CellsL:Dq->List (Dq)->Prop
 | nil:CellsL [] []
 | cons {v:AV} {xs:Dq} {l:Dq} {ls:List (Dq)} (h:CellsA v xs) (hl:CellsL l ls):CellsL (v::l) (xs::ls)
theorem sH {C : Cx} (place : Nat -> Option (Nat × Nat)) : ∀ {ps : List (Nat × Value)} {ks : De} {vs : Dq} {ls : List (Dq)} {cs out : Dq} {us : Db}, CellsL vs ls -> ps.map (·.1) = ks -> RepL C vs (ps.map (·.2)) -> RepL C cs us -> oE place cs (ks.zip ls) = some out ->
    ∃ us', Instr.fill place us.toArray ps = some us'.toArray /\ RepL C out us'
  | [], ks, vs, ls, cs, out, us, hc, hk, hv, hcs, hf => by
    simp at hk; subst hk
    simp [oE] at hf; subst hf
    exact ⟨us, rfl, hcs⟩
  | (k, u) :: ps, ks, vs, ls, cs, out, us, hc, hk, hv, hcs, hf => by
    simp only [AD] at hk hv
    subst hk
    cases hc with
    | nil => obtain ⟨h1⟩ := hv
    | @cons v xs l ls h hl =>
      simp only [RepL] at hv
      obtain ⟨u', us'', he, h1, h2⟩ := hv
      injection he with he1 he2
      subst he1 he2
      simp only [List.zip_cons_cons, oE] at hf
      split at hf
      · rename_i off size hp
        split at hf
        · rename_i hb
          simp only [Am] at hb
          have hlen := (h.rep h1).length
          have e1 := Ac hb.1
          have e2 := AA hb.2
          have hul := hcs.length
          have hcs' : RepL C (lay cs off xs) (lay us off u.cells.toList) := by
            unfold lay
            rw [hlen]
            exact ((hcs.take off).append (h.rep h1)).append (hcs.drop (off + xs.length))
          obtain ⟨us', h3, h4⟩ := sH place hl rfl h2 hcs' hf
          refine ⟨us', ?_, h4⟩
          rw [aH6 (vs := u.cells.toList) (off := off) rfl (by rw [hlen, e1]; exact hp) (by rw [hlen, hul]; exact e2)]
          exact h3
        · cases hf
      · cases hf
section build
variable {P:Di} {tab:Tab} {ev:Evl} {h:aL} {d:Dg} {T ty:Dh} {pos:String} {aft:Df} {gd:Da}
def kC (tab:Tab) (fs:List (Nat × Dh)) (i:Nat):Option (Nat × Nat):=match fs[i]? with
 | some (off,t)=>match aP tab t with|some e=>some (off,e.size)|none=>none
 | none=>none
theorem tM (w : World) : ∀ (fs : List Field) (g : List (Nat × Dh)), fs.map (fun f => (f.offset, f.type)) = g -> (∀ (i : Nat) (p : Nat × Dh), g[i]? = some p -> ∃ e, aP tab p.2 = some e) -> bF P tab ->
    ∃ ps : List (Nat × Nat), (fs.mapM (fun (f : Field) => (do pure (f.offset, <- sizeOf f.type) : Sem (Nat × Nat)))).run P w = .ok ps w /\ ∀ i, ps[i]? = kC tab g i
  | [], g, hg, hl, tb => by
    simp at hg; subst hg
    exact ⟨[], by simp, fun i => by simp [kC]⟩
  | f :: fs, g, hg, hl, tb => by
    simp only [AD] at hg
    subst hg
    obtain ⟨e, he⟩ := hl 0 (f.offset, f.type) rfl
    obtain ⟨ps, h1, h2⟩ := tM w fs _ rfl (fun i p hp => hl (i + 1) p (by simpa using hp)) tb
    refine ⟨(f.offset, e.size) :: ps, ?_, fun i => ?_⟩
    · simp only [Ci, Sem.run_bind, (aK tb he).sizeOf w, Result.andThen_ok, Sem.run_pure, h1]
    · cases i with
      | zero => simp only [kC, BC]; simp only at he; rw [he]
      | succ i => simpa [kC] using h2 i
theorem rM (tb : bF P tab) {e : TyE} {fs : List (Nat × Dh)} {ps : List (Nat × Operand)} {vs : Dq} {ls : List (Dq)} {out : Dq} {v : AV} (hT : aP tab T = some e) (hk : e.kind = .struct fs) (hfs : fs.all (fun p => (aP tab p.2).isSome) = true) (hx : nA ev (ps.map (·.2)) = some vs) (hcl : CellsL vs ls) (hf : oE (kC tab fs) (zav e.zero) ((ps.map (·.1)).zip ls) = some out) (hv : IsAgg out v) :
    Still P ⟨d, .build T ps.toArray, ty, pos, aft, gd⟩ ev h v := by
  intro B dom M H w a hh hc he
  have hargs := eY he (kN hx)
  obtain ⟨fields, h1, h2⟩ := (aK tb hT).struct hk
  obtain ⟨ti, hi, hs, hby, z, hz, hzc⟩ := (aK tb hT).parts
  obtain ⟨qs, h3, h4⟩ := tM (P := P) (tab := tab) w fields.toList fs h2 (fun i p hp => AI.1 (Aq.1 hfs p (Ag hp))) tb
  obtain ⟨us', h5, h6⟩ := sH (ps := ps.map fun p => (p.1, a.eval p.2)) (ks := ps.map (·.1)) (kC tab fs) hcl aO (by rw [B6]; rw [B6] at hargs; exact hargs) (aE5 e.zero) hf
  refine ⟨.agg us'.toArray, ?_, hv.rep h6⟩
  have hm : (fields.mapM fun (f : Field) => (do pure (f.offset, <- sizeOf f.type) : Sem (Nat × Nat))).run P w = .ok qs.toArray w := by
    rw [Array.mapM_eq_mapM_toList, map_eq_pure_bind, Sem.run_bind, h3]
    rfl
  have hplace : (fun i => qs.toArray[i]?) = kC tab fs := by
    funext i; rw [<- h4 i]; simp
  simp only [execOp, Instr.build, Sem.run_bind, zeroValue, typeInfo, run_program, Result.andThen_ok, hi, Sem.run_pure, hz, run_underlying h1, hm]
  rw [hplace]
  rw [show (Array.map (fun x => (x.fst, a.eval x.snd)) ps.toArray).toList = ps.map fun p => (p.1, a.eval p.2) by simp]
  rw [show z.cells = e.zero.toArray by rw [<- hzc]]
  rw [h5]
  rfl
theorem xF (tb : bF P tab) {e e' : TyE} {n E : Nat} {ps : List (Nat × Operand)} {vs : Dq} {ls : List (Dq)} {out : Dq} {v : AV} (hT : aP tab T = some e) (hk : e.kind = .array n E) (hE : aP tab E = some e') (hx : nA ev (ps.map (·.2)) = some vs) (hcl : CellsL vs ls) (hf : oE (fun i => some (i * e'.size, e'.size)) (zav e.zero) ((ps.map (·.1)).zip ls) = some out) (hv : IsAgg out v) :
    Still P ⟨d, .build T ps.toArray, ty, pos, aft, gd⟩ ev h v := by
  intro B dom M H w a hh hc he
  have hargs := eY he (kN hx)
  have h1 := (aK tb hT).array hk
  obtain ⟨ti, hi, hs, hby, z, hz, hzc⟩ := (aK tb hT).parts
  obtain ⟨us', h5, h6⟩ := sH (ps := ps.map fun p => (p.1, a.eval p.2)) (ks := ps.map (·.1)) (fun i => some (i * e'.size, e'.size)) hcl aO (by rw [B6]; rw [B6] at hargs; exact hargs) (aE5 e.zero) hf
  refine ⟨.agg us'.toArray, ?_, hv.rep h6⟩
  simp only [execOp, Instr.build, Sem.run_bind, zeroValue, typeInfo, run_program, Result.andThen_ok, hi, Sem.run_pure, hz, run_underlying h1, (aK tb hE).sizeOf w]
  rw [show (Array.map (fun x => (x.fst, a.eval x.snd)) ps.toArray).toList = ps.map fun p => (p.1, a.eval p.2) by simp]
  rw [show z.cells = e.zero.toArray by rw [<- hzc]]
  rw [h5]
  rfl
end build
end
section
def IsW (p:Int) (x:BitVec 64):Prop:=p=(x.toNat:Int)
theorem rI {x:BitVec 64}:IsW (x.toNat:Int) x:=rfl
theorem cL0 {n:Nat} (h:Nat.blt n 18446744073709551616=true):IsW (n:Int) (BitVec.ofNat 64 n):=by
 have:n<18446744073709551616:=by simpa using h
 simp only [IsW,BitVec.toNat_ofNat]
 rw [BH aA]
theorem IsW.ofInt {p:Int} {x:BitVec 64} (h:IsW p x):BitVec.ofInt 64 p=x:=by
 unfold IsW at h
 subst h
 apply BitVec.eq_of_toNat_eq
 simp only [BI]
 have:=x.isLt
 omega
theorem bC0 (x:BitVec 64):IntKind.u64.wrap (x.toNat:Int)=(x.toNat:Int):=by
 have:=x.isLt
 rw [IntKind.wrap_u64];omega
section
variable {P:Di} {tab:Tab} {ev:Evl} {h:aL} {d:Dg} {T ty T':Dh} {X Y:Operand} {pos:String} {aft:Df} {gd:Da} {p q:Int} {x y:BitVec 64} (hX:ev X=some (.c (.v (.int .u64 p)))) (hp:IsW p x)
include hX hp
section
variable (hY:ev Y=some (.c (.v (.int .u64 q)))) (hq:IsW q y)
include hY hq
theorem dF7:Still P ⟨d,.binOp .xor T X Y T',ty,pos,aft,gd⟩ ev h (.c (.v (.int .u64 ((x ^^^ y).toNat:Int)))) :=
 bA9 hX hY (by show IntKind.u64.wrap ((BitVec.ofInt 64 p ^^^ BitVec.ofInt 64 q).toNat:Int)=_;rw [hp.ofInt,hq.ofInt,bC0])
theorem dE7:Still P ⟨d,.binOp .and T X Y T',ty,pos,aft,gd⟩ ev h (.c (.v (.int .u64 ((x &&& y).toNat:Int)))) :=
 zM hX hY (by show IntKind.u64.wrap ((BitVec.ofInt 64 p &&& BitVec.ofInt 64 q).toNat:Int)=_;rw [hp.ofInt,hq.ofInt,bC0])
theorem dN9:Still P ⟨d,.binOp .or T X Y T',ty,pos,aft,gd⟩ ev h (.c (.v (.int .u64 ((x ||| y).toNat:Int)))) :=
 bI0 hX hY (by show IntKind.u64.wrap ((BitVec.ofInt 64 p ||| BitVec.ofInt 64 q).toNat:Int)=_;rw [hp.ofInt,hq.ofInt,bC0])
theorem dE6:Still P ⟨d,.binOp .add T X Y T',ty,pos,aft,gd⟩ ev h (.c (.v (.int .u64 ((x+y).toNat:Int)))) :=
 cX9 hX hY (by unfold IsW at hp hq;subst hp hq;rw [IntKind.wrap_u64,BitVec.toNat_add];omega)
theorem dF2:Still P ⟨d,.binOp .mul T X Y T',ty,pos,aft,gd⟩ ev h (.c (.v (.int .u64 ((x*y).toNat:Int)))) :=
 cY0 hX hY (by unfold IsW at hp hq;subst hp hq;rw [IntKind.wrap_u64,BitVec.toNat_mul,<- CW];omega)
theorem dF5:Still P ⟨d,.binOp .sub T X Y T',ty,pos,aft,gd⟩ ev h (.c (.v (.int .u64 ((x-y).toNat:Int)))) :=
 cY3 hX hY (by unfold IsW at hp hq;subst hp hq;have:=x.isLt;have:=y.isLt;rw [IntKind.wrap_u64,BitVec.toNat_sub];omega)
end
theorem xG:Still P ⟨d,.unOp .xor T X,ty,pos,aft,gd⟩ ev h (.c (.v (.int .u64 ((~~~x).toNat:Int)))) :=
 rN hX (by
  show IntKind.u64.wrap ((BitVec.ofInt 64 18446744073709551615 ^^^ BitVec.ofInt 64 p).toNat:Int)=_
  rw [hp.ofInt,show BitVec.ofInt 64 18446744073709551615=BitVec.allOnes 64 by decide,BitVec.allOnes_xor,bC0])
section
variable {k:Dj} {r:Int} {m:Nat} (hY:ev Y=some (.c (.v (.int k r)))) (hr:r=(m:Int))
include k r m hY hr
theorem aD8:Still P ⟨d,.binOp .shl T X Y T',ty,pos,aft,gd⟩ ev h (.c (.v (.int .u64 ((x <<< m).toNat:Int)))) :=
 aK8 hX hY aA (by
  unfold IsW at hp;subst hp hr
  simp only [Bk,show IntKind.u64.bits=64 from rfl]
  rw [IntKind.wrap_u64,Cr,Cl]
  rcases A7 m 64 with h|h
  ·rw [BR aA]
   rw [show ((x.toNat:Int)*2 ^ m)=((x.toNat*2 ^ m:Nat):Int) by simp]
   omega
  ·rw [CO h,show ((x.toNat:Int)*2 ^ 64)=((x.toNat*2 ^ 64:Nat):Int) by simp]
   have h1:x.toNat*2 ^ m=(x.toNat*2 ^ (m-64))*2 ^ 64:=by rw [Nat.mul_assoc,<- Nat.pow_add];congr 2;omega
   have h2:x.toNat*2 ^ m%2 ^ 64=0:=by rw [h1];exact Nat.mul_mod_left _ _
   rw [h2]
   have h3:x.toNat*2 ^ 64%2 ^ 64=0:=Nat.mul_mod_left _ _
   omega)
theorem sT:Still P ⟨d,.binOp .shr T X Y T',ty,pos,aft,gd⟩ ev h (.c (.v (.int .u64 ((x >>> m).toNat:Int)))) :=
 aK9 hX hY aA (by
  unfold IsW at hp;subst hp hr
  simp only [Bk,show IntKind.u64.bits=64 from rfl]
  rw [BitVec.toNat_ushiftRight,Nat.shiftRight_eq_div_pow,Int.fdiv_eq_ediv_of_nonneg _ (by exact Int.pow_nonneg aN)]
  rcases A7 m 64 with h|h
  ·rw [BR aA];simp
  ·rw [CO h]
   have:=x.isLt
   have h1:x.toNat / 2 ^ m=0:=CL (A0 this (BV aN h))
   have h2:x.toNat / 2 ^ 64=0:=CL this
   rw [h1]
   rw [show ((2:Int) ^ 64)=((2 ^ 64:Nat):Int) by simp,<- Int.natCast_ediv,h2])
end
theorem xJ (tb:bF P tab) {S:Dh} {e es:TyE} (hS:aP tab S=some es) (hT:aP tab T=some e) (hk:e.kind = .int .u8):Still P ⟨d,.convert S T X,ty,pos,aft,gd⟩ ev h (.c (.v (.int .u8 ((UInt8.ofBitVec (x.setWidth 8)).toNat:Int)))) :=
 gU tb hS hT hk hX (by
  unfold IsW at hp;subst hp
  have:=x.isLt
  rw [IntKind.wrap_u8]
  simp)
end
section
variable {P:Di} {tab:Tab} {ev:Evl} {h:aL} {d:Dg} {T ty S:Dh} {X:Operand} {pos:String} {aft:Df} {gd:Da}
include P tab ev h d T ty S X pos aft gd
theorem xH {b:UInt8} (hX:ev X=some (.c (.v (.int .u8 (b.toNat:Int))))) (tb:bF P tab) {e es:TyE} (hS:aP tab S=some es) (hT:aP tab T=some e) (hk:e.kind = .int .u64):Still P ⟨d,.convert S T X,ty,pos,aft,gd⟩ ev h (.c (.v (.int .u64 ((b.toBitVec.setWidth 64).toNat:Int)))) :=
 gU tb hS hT hk hX (by
  have:=b.toNat_lt
  rw [IntKind.wrap_u64]
  simp
  omega)
theorem xI {m:Int} {k:Dj} (hX:ev X=some (.c (.v (.int k m)))) (tb:bF P tab) {e es:TyE} (hS:aP tab S=some es) (hT:aP tab T=some e) (hk:e.kind = .int .u64):Still P ⟨d,.convert S T X,ty,pos,aft,gd⟩ ev h (.c (.v (.int .u64 ((BitVec.ofInt 64 m).toNat:Int)))) :=
 gU tb hS hT hk hX (by
  rw [IntKind.wrap_u64]
  simp only [BI]
  omega)
end
end
end Go.Av
namespace Go.Av
open Go
section
variable {P:Di} {ops:Dd} {sz n n0 i m:Nat} {K:AK} {env env0:Env} {h h0:aL} {dfs:bM} {rest l:Dc} {d:Dg} {ty:Dh} {pos:String} {aft:Df} {gd:Da} {ev:Evl} {v:AV}
theorem bA {T:Dh} (hh:AWL P ops sz (⟨d,.alloc T,ty,pos,aft,gd⟩::rest) K n env h dfs):AWL P ops sz (⟨d,.alloc T,ty,pos,aft,gd⟩::rest) K n env h dfs:=hh
theorem cV {T:Dh} {x:Operand} (hh:AWL P ops sz (⟨d,.box T x,ty,pos,aft,gd⟩::rest) K n env h dfs):AWL P ops sz (⟨d,.box T x,ty,pos,aft,gd⟩::rest) K n env h dfs:=hh
theorem zC {T:Dh} {ps:Array (Nat × Operand)} (hh:AWL P ops sz (⟨d,.build T ps,ty,pos,aft,gd⟩::rest) K n env h dfs):AWL P ops sz (⟨d,.build T ps,ty,pos,aft,gd⟩::rest) K n env h dfs:=hh
theorem mP {T:Dh} {k:Nat} {ps:Array (Nat × Operand)} (hh:AWL P ops sz (⟨d,.buildSlice T k ps,ty,pos,aft,gd⟩::rest) K n env h dfs):AWL P ops sz (⟨d,.buildSlice T k ps,ty,pos,aft,gd⟩::rest) K n env h dfs:=hh
theorem jH {T:Dh} {x y:Operand} (hh:AWL P ops sz (⟨d,.store T x y,ty,pos,aft,gd⟩::rest) K n env h dfs):AWL P ops sz (⟨d,.store T x y,ty,pos,aft,gd⟩::rest) K n env h dfs:=hh
theorem bU0 {T:Dh} {x y:Operand} (hh:AWL P ops sz (⟨d,.makeSlice T x y,ty,pos,aft,gd⟩::rest) K n env h dfs):AWL P ops sz (⟨d,.makeSlice T x y,ty,pos,aft,gd⟩::rest) K n env h dfs:=hh
theorem sL {b:Builtin} {xs:Array Operand} {ts:Dl} (hh:AWL P ops sz (⟨d,.call ⟨.builtin b,xs,ts⟩,ty,pos,aft,gd⟩::rest) K n env h dfs):AWL P ops sz (⟨d,.call ⟨.builtin b,xs,ts⟩,ty,pos,aft,gd⟩::rest) K n env h dfs:=hh
theorem aF {f:FuncId} {xs:Array Operand} {ts:Dl} (hh:AWL P ops sz (⟨d,.call ⟨.value (.func f),xs,ts⟩,ty,pos,aft,gd⟩::rest) K n env h dfs):AWL P ops sz (⟨d,.call ⟨.value (.func f),xs,ts⟩,ty,pos,aft,gd⟩::rest) K n env h dfs:=hh
theorem iT {f:FuncId} {xs:Array Operand} {ts:Dl} (hh:Drw P l sz K dfs i n0 env0 h0 m (⟨d,.call ⟨.value (.func f),xs,ts⟩,ty,pos,aft,gd⟩::rest) n env h):Drw P l sz K dfs i n0 env0 h0 m (⟨d,.call ⟨.value (.func f),xs,ts⟩,ty,pos,aft,gd⟩::rest) n env h:=hh
theorem bD {q:Nat} {xs:Array Operand} {ts:Dl} (hh:AWL P ops sz (⟨d,.call ⟨.value (.tmp q),xs,ts⟩,ty,pos,aft,gd⟩::rest) K n env h dfs):AWL P ops sz (⟨d,.call ⟨.value (.tmp q),xs,ts⟩,ty,pos,aft,gd⟩::rest) K n env h dfs:=hh
theorem bG0 {c:Call} (hh:AWL P ops sz (⟨d,.defer c,ty,pos,aft,gd⟩::rest) K n env h dfs):AWL P ops sz (⟨d,.defer c,ty,pos,aft,gd⟩::rest) K n env h dfs:=hh
theorem bU1 {x:Operand} {a b:Code} (hh:AW P sz (.cond x a b) K n env h dfs):AW P sz (.cond x a b) K n env h dfs:=hh
theorem bC {a:Dd} (hh:AW P sz (.region i a true) K n env h dfs):AW P sz (.region i a true) K n env h dfs:=hh
theorem aI6 {c:Code} (hh:AW P sz (.loop c) K n env h dfs):AW P sz (.loop c) K n env h dfs:=hh
theorem cG {o:Oper} (hh:AWL P ops sz (o::rest) K n env h dfs):AWL P ops sz (o::rest) K n env h dfs:=hh
theorem bT9 {op:Op} {g:Nat × Bool} (hh:AWL P ops sz (⟨d,op,ty,pos,aft,some g⟩::rest) K n env h dfs):AWL P ops sz (⟨d,op,ty,pos,aft,some g⟩::rest) K n env h dfs:=hh
end
mutual
def AV.noId:AV->Bool
 | .c _ | .ip _ _ | .junk=>true
 | .ref _ _ | .own _ _ _ _ _ | .yld _ | .mh _ | .bm _ _=>false
 | .agg xs=>AV.noIds xs
 | .tup xs=>AV.noIds xs
 | .fn _ xs=>AV.noIds xs
def AV.noIds:Dq->Bool
 | []=>true
 | x::xs=>AV.noId x&&AV.noIds xs
end
mutual
theorem AV.sh_noId (k:Nat):∀(x:AV),x.noId=true->x.sh k=x
 | .c _,_=>rfl
 | .ip _ _,_=>rfl
 | .junk,_=>rfl
 | .ref _ _,h=>by cases h
 | .own _ _ _ _ _,h=>by cases h
 | .yld _,h=>by cases h
 | .mh _,h=>by cases h
 | .bm _ _,h=>by cases h
 | .agg xs,h=>by rw [AV.sh,AV.shs_noId k xs h]
 | .tup xs,h=>by rw [AV.sh,AV.shs_noId k xs h]
 | .fn _ xs,h=>by rw [AV.sh,AV.shs_noId k xs h]
theorem AV.shs_noId (k:Nat):∀(xs:Dq),AV.noIds xs=true->AV.shs k xs=xs
 | [],_=>rfl
 | x::xs,h=>by
  simp only [AV.noIds,Am] at h
  rw [AV.shs,AV.sh_noId k x h.1,AV.shs_noId k xs h.2]
end
section
variable {P:Di} {ops:Dd} {sz n n0 i m t:Nat} {K:AK} {env env0:Env} {h h0:aL} {dfs:bM} {rest l:Dc} {op:Op} {ty:Dh} {pos:String} {aft:Df} {gd:Da} {v:AV}
theorem cD5 (hg:guardA ops env ⟨some t,op,ty,pos,aft,gd⟩ true) (hd:Nat.blt t sz=true) (hA:Still P ⟨some t,op,ty,pos,aft,gd⟩ (evA env) h v) (next:AWL P ops sz rest K n ((t,v)::env) h dfs):AWL P ops sz (⟨some t,op,ty,pos,aft,gd⟩::rest) K n env h dfs:=bD5 hg hd hA next
theorem cG3 (hg:guardA l.toArray env ⟨some t,op,ty,pos,aft,gd⟩ true) (hA:Still P ⟨some t,op,ty,pos,aft,gd⟩ (evT (Oper.looksAt l.toArray ⟨some t,op,ty,pos,aft,gd⟩) env) h v) (next:Drw P l sz K dfs i n0 env0 h0 m rest n ((t,v)::env) h):Drw P l sz K dfs i n0 env0 h0 (m+1) (⟨some t,op,ty,pos,aft,gd⟩::rest) n env h:=bF0 hg hA next
theorem dH3 {obj:AObj} (hlv:obj.live=some obj) (hg:guardA ops env ⟨some t,op,ty,pos,aft,gd⟩ true) (hd:Nat.blt t sz=true) (hA:Adds P ⟨some t,op,ty,pos,aft,gd⟩ (evA env) h v [(n,obj)] n (n+1)) (next:AWL P ops sz rest K (n+1) ((t,v)::env) ((n,obj)::h) dfs):AWL P ops sz (⟨some t,op,ty,pos,aft,gd⟩::rest) K n env h dfs:=cE8 hlv hg hd hA next
theorem dJ5 {obj:AObj} (hlv:obj.live=some obj) (hg:guardA l.toArray env ⟨some t,op,ty,pos,aft,gd⟩ true) (hA:Adds P ⟨some t,op,ty,pos,aft,gd⟩ (evT (Oper.looksAt l.toArray ⟨some t,op,ty,pos,aft,gd⟩) env) h v [(n,obj)] n (n+1)) (next:Drw P l sz K dfs i n0 env0 h0 m rest (n+1) ((t,v)::env) ((n,obj)::h)):Drw P l sz K dfs i n0 env0 h0 (m+1) (⟨some t,op,ty,pos,aft,gd⟩::rest) n env h:=cG6 hlv hg hA next
theorem aN1 (hg:guardA ops env ⟨some t,op,ty,pos,aft,gd⟩ false) (hd:Nat.blt t sz=true) (next:AWL P ops sz rest K n ((t,.c (.v undef))::env) h dfs):AWL P ops sz (⟨some t,op,ty,pos,aft,gd⟩::rest) K n env h dfs:=bK9 hg hd next
theorem aP0 (hg:guardA l.toArray env ⟨some t,op,ty,pos,aft,gd⟩ false) (next:Drw P l sz K dfs i n0 env0 h0 m rest n ((t,.c (.v undef))::env) h):Drw P l sz K dfs i n0 env0 h0 (m+1) (⟨some t,op,ty,pos,aft,gd⟩::rest) n env h:=bP9 hg next
variable {f:FuncId} {xs:Dm} {ats:Dl} {r:AV} {hr:aL} {nr:Nat} {cs cs':Dp}
theorem cD3 (hg : guardA ops env ⟨some t, .call ⟨.value (.func f), xs.toArray, ats⟩, ty, pos, aft, gd⟩ true) (hd : Nat.blt t sz = true) (hb : Body P f) (hx : dO (evA env) xs = some cs) (hac : AC P f cs' r [] 0) (hcv : CvL cs cs') (hid : r.noId = true)
    (next : AWL P ops sz rest K n ((t, r) :: env) h dfs) : AWL P ops sz (⟨some t, .call ⟨.value (.func f), xs.toArray, ats⟩, ty, pos, aft, gd⟩ :: rest) K n env h dfs :=
  nN hg hd hb hx hac hcv rfl (by rw [AV.sh_noId _ _ hid]; exact next)
theorem cF9 (hg : guardA l.toArray env ⟨some t, .call ⟨.value (.func f), xs.toArray, ats⟩, ty, pos, aft, gd⟩ true) (hb : Body P f) (hx : dO (evT (Oper.looksAt l.toArray ⟨some t, .call ⟨.value (.func f), xs.toArray, ats⟩, ty, pos, aft, gd⟩) env) xs = some cs) (hac : AC P f cs' r [] 0) (hcv : CvL cs cs') (hid : r.noId = true)
    (next : Drw P l sz K dfs i n0 env0 h0 m rest n ((t, r) :: env) h) : Drw P l sz K dfs i n0 env0 h0 (m + 1) (⟨some t, .call ⟨.value (.func f), xs.toArray, ats⟩, ty, pos, aft, gd⟩ :: rest) n env h :=
  aH1 hg hb hx hac hcv rfl (by rw [AV.sh_noId _ _ hid]; exact next)
theorem cL9 (hg : guardA ops env ⟨none, .call ⟨.value (.func f), xs.toArray, ats⟩, ty, pos, aft, gd⟩ true) (hb : Body P f) (hx : dO (evA env) xs = some cs) (hac : AC P f cs' r [] 0) (hcv : CvL cs cs')
    (next : AWL P ops sz rest K n env h dfs) : AWL P ops sz (⟨none, .call ⟨.value (.func f), xs.toArray, ats⟩, ty, pos, aft, gd⟩ :: rest) K n env h dfs :=
  nN hg rfl hb hx hac hcv rfl next
theorem cD4 {T : Dh} {rc : Dp} {k size : Nat} (hg : guardA ops env ⟨some t, .call ⟨.value (.func f), xs.toArray, ats⟩, ty, pos, aft, gd⟩ true) (hd : Nat.blt t sz = true) (hb : Body P f) (hx : dO (evA env) xs = some cs) (hac : AC P f cs' (.own 0 0 k size true) [(0, .row T rc)] 1) (hcv : CvL cs cs')
    (next : AWL P ops sz rest K (n + 1) ((t, .own n 0 k size true) :: env) ((n, .row T rc) :: h) dfs) : AWL P ops sz (⟨some t, .call ⟨.value (.func f), xs.toArray, ats⟩, ty, pos, aft, gd⟩ :: rest) K n env h dfs :=
  nN hg hd hb hx hac hcv rfl next
theorem cG0 {T : Dh} {rc : Dp} {k size : Nat} (hg : guardA l.toArray env ⟨some t, .call ⟨.value (.func f), xs.toArray, ats⟩, ty, pos, aft, gd⟩ true) (hb : Body P f) (hx : dO (evT (Oper.looksAt l.toArray ⟨some t, .call ⟨.value (.func f), xs.toArray, ats⟩, ty, pos, aft, gd⟩) env) xs = some cs) (hac : AC P f cs' (.own 0 0 k size true) [(0, .row T rc)] 1) (hcv : CvL cs cs')
    (next : Drw P l sz K dfs i n0 env0 h0 m rest (n + 1) ((t, .own n 0 k size true) :: env) ((n, .row T rc) :: h)) : Drw P l sz K dfs i n0 env0 h0 (m + 1) (⟨some t, .call ⟨.value (.func f), xs.toArray, ats⟩, ty, pos, aft, gd⟩ :: rest) n env h :=
  aH1 hg hb hx hac hcv rfl next
variable {tab:Tab} {T:Dh} {x y:Operand}
theorem uO (tb : bF P tab) {e e' : TyE} {E size m k id : Nat} {vy : AV} {cs ys : Dp} (hg : guardA ops env ⟨some t, .call ⟨.builtin .append, #[x, y], #[T, T]⟩, ty, pos, aft, gd⟩ true) (hd : Nat.blt t sz = true) (hT : aP tab T = some e) (hk : e.kind = .slice E) (hE : aP tab E = some e') (hs : Nat.beq e'.size size = true) (hz : Nat.beq e'.zero.length size = true)
    (hx : evA env x = some (.own id 0 m size true)) (ho : lk h id = some (.row E cs)) (hcl : cs.length = m * size) (hy : evA env y = some vy) (hf : Src h vy size k ys) (h63 : m + k <= maxLen) (hb : (m + k) * e'.bytes <= 140737488355328)
    (next : AWL P ops sz rest K (n + 1) ((t, .own n 0 (m + k) size true) :: env) ((n, .row E (cs ++ ys)) :: (id, .dead) :: h) dfs) :
    AWL P ops sz (⟨some t, .call ⟨.builtin .append, #[x, y], #[T, T]⟩, ty, pos, aft, gd⟩ :: rest) K n env h dfs := aN6 tb hg hd hT hk hE hs hz hx ho hcl hy hf h63 hb next
theorem cY8 (tb : bF P tab) {e e' : TyE} {E T' Tb size k m id off : Nat} {full : Bool} {vy : AV} {cs ys : Dp} (hg : guardA ops env ⟨some t, .call ⟨.builtin .copy, #[x, y], #[T, T']⟩, ty, pos, aft, gd⟩ true) (hd : Nat.blt t sz = true) (hT : aP tab T = some e) (hk : e.kind = .slice E) (hE : aP tab E = some e') (hs : Nat.beq e'.size size = true)
    (hx : evA env x = some (.own id off k size full)) (ho : lk h id = some (.row Tb cs)) (hy : evA env y = some vy) (hf : Src h vy size m ys) (hmk : m <= k) (hfit : off + m * size <= cs.length)
    (next : AWL P ops sz rest K n ((t, .c (.v (.int .i64 m))) :: env) ((id, .row Tb (lay cs off ys)) :: h) dfs) :
    AWL P ops sz (⟨some t, .call ⟨.builtin .copy, #[x, y], #[T, T']⟩, ty, pos, aft, gd⟩ :: rest) K n env h dfs := bK7 tb hg hd hT hk hE hs hx ho hy hf hmk hfit next
end
def aE4:Op->Bool
 | .assign _ | .store .. | .mapUpdate .. | .insert .. | .entryStore .. | .defer _=>true
 | .call ⟨.builtin b,_,_⟩=>match b with | .append | .copy | .delete | .clear=>true|_=>false
 | _=>false
def cK5:Dc->Nat
 | []=>0
 | o::r=>match aE4 o.op with|true=>0|false=>cK5 r+1
def aS4 {α:Type}:List α->Nat->α->Option (List α)
 | [],_,_=>none
 | _::r,0,v=>some (v::r)
 | x::r,k+1,v=>match aS4 r k v with|some r'=>some (x::r')|none=>none
theorem mZ {α:Type}:∀{cs:List α} {k:Nat} {v:α} {cs':List α},aS4 cs k v=some cs'->cs.set k v=cs'/\k<cs.length
 | [],k,v,cs',h=>by cases h
 | x::r,0,v,cs',h=>by simp [aS4] at h;subst h;simp
 | x::r,k+1,v,cs',h=>by
  simp only [aS4] at h
  split at h
  ·rename_i r' hr
   injection h with h;subst h
   obtain ⟨h1,h2⟩:=mZ hr
   exact ⟨by simp [h1],by simp;exact h2⟩
  ·cases h
section
variable {P:Di} {sz n:Nat} {env:Env} {h:aL} {dfs:bM} {K:AK} {ops:Dd} {rest:Dc} {tab:Tab} {T ty:Dh} {x y:Operand} {pos:String} {aft:Df} {gd:Da}
section
variable (tb : bF P tab) {e : TyE} (hg : guardA ops env ⟨none, .store T x y, ty, pos, aft, gd⟩ true) (hT : aP tab T = some e) (hk : Nat.beq e.size 1 = true) {id off : Nat} {T' : Dh}
include tb e hg hT hk id off T'
theorem bS0 {cs cs' : Dq} {v : AV} (hx : evA env x = some (.ref id off)) (hy : evA env y = some v) (h1 : v.one = true) (ho : lk h id = some (.blk T' cs)) (hs : aS4 cs off v = some cs')
    (next : AWL P ops sz rest K n env ((id, .blk T' cs') :: h) dfs) : AWL P ops sz (⟨none, .store T x y, ty, pos, aft, gd⟩ :: rest) K n env h dfs :=
  aN8 tb hg hT hk hx hy h1 ho (mZ hs).2 (by rw [(mZ hs).1]; exact next)
theorem bF7 {cs cs' : Dp} {v : CV} (hx : evA env x = some (.ref id off)) (hy : evA env y = some (.c v)) (h1 : v.one = true) (ho : lk h id = some (.row T' cs)) (hs : aS4 cs off v = some cs')
    (next : AWL P ops sz rest K n env ((id, .row T' cs') :: h) dfs) : AWL P ops sz (⟨none, .store T x y, ty, pos, aft, gd⟩ :: rest) K n env h dfs :=
  fG tb hg hT hk hx hy h1 ho (mZ hs).2 (by rw [(mZ hs).1]; exact next)
end
end
section
variable {P:Di} {sz n:Nat} {env env':Env} {h h':aL} {dfs:bM} {K:AK}
theorem cE4 {x y:Code} (hx:∀K':AK,(∀n env h dfs,AW P sz y K n env h dfs->K' .normal n env h dfs)->(∀e n env h dfs,e ≠ .normal->K e n env h dfs->K' e n env h dfs)->AW P sz x K' n env h dfs):AW P sz (.seq x y) K n env h dfs :=
 cZ2 (hx _ (fun _ _ _ _ h=>h) (fun e n env h dfs he hk=>by cases e<;>first|exact absurd rfl he|exact hk))
theorem eV {ι : Type} {c : Code} (N : Nat) (E : ι -> Env) (Hp : ι -> aL) (D : bM) (Inv : ι -> Prop) (μ : ι -> Nat) (i0 : ι) (h0 : Inv i0) (hw : cM n env h dfs N (E i0) (Hp i0) D)
    (round : ∀ i, Inv i -> ∀ K' : AK, (∀ n' env' h' dfs', (∃ j, Inv j /\ μ j < μ i /\ cM n' env' h' dfs' N (E j) (Hp j) D) -> K' .normal n' env' h' dfs') -> (∀ e n env h dfs, e ≠ .normal -> K e n env h dfs -> K' e n env h dfs) -> AW P sz c K' N (E i) (Hp i) D) : AW P sz (.loop c) K n env h dfs :=
  cE3 N E Hp D Inv μ i0 h0 hw (fun i hi => round i hi _ (fun _ _ _ _ h => h) (fun e n env h dfs he hk => by cases e <;> first | exact absurd rfl he | exact hk))
theorem cQ4 {k:Nat} {c:Code} (hx:∀K':AK,(∀n env h dfs,AWR P sz c K k n env h dfs->K' .normal n env h dfs)->(∀e n env h dfs,e ≠ .normal->K e n env h dfs->K' e n env h dfs)->AW P sz c K' n env h dfs):AWR P sz c K (k+1) n env h dfs :=
 bL0 (hx _ (fun _ _ _ _ h=>h) (fun e n env h dfs he hk=>by cases e<;>first|exact absurd rfl he|exact hk))
def kZ (env:Env):De->Option Env
 | []=>some []
 | k::ks=>match kZ env ks with
  | some r=>match lkE env k with|some v=>some ((k,v)::r)|none=>some r
  | none=>none
theorem oO:∀{ks:De} {env':Env},kZ env ks=some env'->∀t av,lkE env' t=some av->lkE env t=some av
 | [],env',hp,t,av,ht=>by simp [kZ] at hp;subst hp;cases ht
 | k::ks,env',hp,t,av,ht=>by
  simp only [kZ] at hp
  split at hp
  ·rename_i r hr
   split at hp
   ·rename_i v hv
    injection hp with hp;subst hp
    rw [dX] at ht
    split at ht
    ·rename_i e;subst e;rw [hv];exact ht
    ·exact oO hr t av ht
   ·injection hp with hp;subst hp;exact oO hr t av ht
  ·cases hp
def qH (h:aL):Nat->Option aL
 | 0=>some []
 | k+1=>match qH h k with
  | some r=>match lk h k with|some v=>some ((k,v)::r)|none=>some r
  | none=>none
theorem gO:∀{k:Nat} {h':aL},qH h k=some h'->∀i o,lk h' i=some o->lk h i=some o
 | 0,h',hp,i,o,ho=>by simp [qH] at hp;subst hp;cases ho
 | k+1,h',hp,i,o,ho=>by
  simp only [qH] at hp
  split at hp
  ·rename_i r hr
   split at hp
   ·rename_i v hv
    injection hp with hp;subst hp
    rw [bJ] at ho
    split at ho
    ·rename_i e;subst e;rw [hv,<- pE ho]
    ·exact gO hr i o ho
   ·injection hp with hp;subst hp;exact gO hr i o ho
  ·cases hp
theorem aY {c:Code} (ks:De) (hE:kZ env ks=some env') (hH:qH h n=some h') (hx:AW P sz c K n env' h' dfs):AW P sz c K n env h dfs:=by
 intro B a w hc
 refine hx B a w ?_
 obtain ⟨M,c1,c2,c3,c4⟩:=hc
 have hext:Ext (cx B n M h w) (cx B n M h' w):=⟨fun id hid=>⟨hid,rfl⟩,fun b hb hl=>⟨⟨hb.1,fun id o hid ho he=>hb.2 id o hid (gO hH id o ho) he⟩,hl,rfl⟩,shp fun _ _ h=>h⟩
 refine ⟨M,⟨c1.fr,fun id o hid ho=>(c1.obj id o hid (gO hH id o ho)).ext hext (fun _ _=>rfl),fun id id' o o' g k1 k2 k3 k4=>c1.inj id id' o o' g k1 k2 (gO hH id o k3) (gO hH id' o' k4),fun id o g k1 k2=>c1.lo id o g k1 (gO hH id o k2)⟩,c2,fun t av ht=>Rep.ext hext _ _ (c3 t av (oO hE t av ht)),c4.ext hext⟩
theorem aB9 {i:Nat} {a:Dd} (hh:AW P sz (.region i a false) K n env h dfs):AW P sz (.region i a false) K n env h dfs:=hh
theorem cK9 {c:Code} (hh:AW P sz c K n env h dfs):AW P sz c K n env h dfs:=hh
end
end Go.Av
namespace Go.Av
open Go Go.RowKit
section
section
variable {P:Di} {ops:Dd} {sz n n0 i m t:Nat} {K:AK} {env env0:Env} {h h0:aL} {dfs:bM} {rest l:Dc} {op:Op} {ty:Dh} {pos:String} {aft:Df} {gd:Da}
theorem dT9 (hg:guardA ops env ⟨some t,op,ty,pos,aft,gd⟩ true) (hd:Nat.blt t sz=true) (hh:∃v,Still P ⟨some t,op,ty,pos,aft,gd⟩ (evA env) h v/\AWL P ops sz rest K n ((t,v)::env) h dfs):AWL P ops sz (⟨some t,op,ty,pos,aft,gd⟩::rest) K n env h dfs :=
 let ⟨_,h1,h2⟩:=hh;cD5 hg hd h1 h2
theorem dU0 (hg:guardA l.toArray env ⟨some t,op,ty,pos,aft,gd⟩ true) (hh:∃v,Still P ⟨some t,op,ty,pos,aft,gd⟩ (evT (Oper.looksAt l.toArray ⟨some t,op,ty,pos,aft,gd⟩) env) h v/\Drw P l sz K dfs i n0 env0 h0 m rest n ((t,v)::env) h):Drw P l sz K dfs i n0 env0 h0 (m+1) (⟨some t,op,ty,pos,aft,gd⟩::rest) n env h :=
 let ⟨_,h1,h2⟩:=hh;cG3 hg h1 h2
theorem bJ2 (hg:guardA ops env ⟨some t,op,ty,pos,aft,gd⟩ true) (hd:Nat.blt t sz=true) (hh:∃v obj,obj.live=some obj/\Adds P ⟨some t,op,ty,pos,aft,gd⟩ (evA env) h v [(n,obj)] n (n+1)/\AWL P ops sz rest K (n+1) ((t,v)::env) ((n,obj)::h) dfs):AWL P ops sz (⟨some t,op,ty,pos,aft,gd⟩::rest) K n env h dfs :=
 let ⟨_,_,h1,h2,h3⟩:=hh;dH3 h1 hg hd h2 h3
theorem bJ3 (hg:guardA l.toArray env ⟨some t,op,ty,pos,aft,gd⟩ true) (hh:∃v obj,obj.live=some obj/\Adds P ⟨some t,op,ty,pos,aft,gd⟩ (evT (Oper.looksAt l.toArray ⟨some t,op,ty,pos,aft,gd⟩) env) h v [(n,obj)] n (n+1)/\Drw P l sz K dfs i n0 env0 h0 m rest (n+1) ((t,v)::env) ((n,obj)::h)):Drw P l sz K dfs i n0 env0 h0 (m+1) (⟨some t,op,ty,pos,aft,gd⟩::rest) n env h :=
 let ⟨_,_,h1,h2,h3⟩:=hh;dJ5 h1 hg h2 h3
variable {f:FuncId} {xs:Dm} {ats:Dl}
def iH (P:Di) (f:FuncId) (xs:Dm) (ev:Evl) (N0:AV->Prop) (N1:Nat->Nat->Dh->Dp->Prop):Prop :=
 ∃cs cs',Body P f/\dO ev xs=some cs/\CvL cs cs'/\((∃r,AC P f cs' r [] 0/\r.noId=true/\N0 r)\/∃k size T rc,AC P f cs' (.own 0 0 k size true) [(0,.row T rc)] 1/\N1 k size T rc)
theorem dV2 (hg : guardA ops env ⟨some t, .call ⟨.value (.func f), xs.toArray, ats⟩, ty, pos, aft, gd⟩ true) (hd : Nat.blt t sz = true)
    (hh : iH P f xs (evA env) (fun r => AWL P ops sz rest K n ((t, r) :: env) h dfs) (fun k size T rc => AWL P ops sz rest K (n + 1) ((t, .own n 0 k size true) :: env) ((n, .row T rc) :: h) dfs)) : AWL P ops sz (⟨some t, .call ⟨.value (.func f), xs.toArray, ats⟩, ty, pos, aft, gd⟩ :: rest) K n env h dfs := by
  obtain ⟨cs, cs', h1, h2, h3, ⟨r, h4, h5, h6⟩ | ⟨k, size, T, rc, h4, h5⟩⟩ := hh
  · exact cD3 hg hd h1 h2 h4 h3 h5 h6
  · exact cD4 hg hd h1 h2 h4 h3 h5
theorem dV5 (hg : guardA ops env ⟨none, .call ⟨.value (.func f), xs.toArray, ats⟩, ty, pos, aft, gd⟩ true)
    (hh : iH P f xs (evA env) (fun r => AWL P ops sz rest K n env h dfs) (fun k size T rc => AWL P ops sz rest K (n + 1) env ((n, .row T rc) :: h) dfs)) : AWL P ops sz (⟨none, .call ⟨.value (.func f), xs.toArray, ats⟩, ty, pos, aft, gd⟩ :: rest) K n env h dfs := by
  obtain ⟨cs, cs', h1, h2, h3, ⟨r, h4, h5, h6⟩ | ⟨k, size, T, rc, h4, h5⟩⟩ := hh
  · exact cL9 hg h1 h2 h4 h3 h6
  · exact nN hg rfl h1 h2 h4 h3 rfl h5
theorem dV3 (hg : guardA l.toArray env ⟨some t, .call ⟨.value (.func f), xs.toArray, ats⟩, ty, pos, aft, gd⟩ true)
    (hh : iH P f xs (evT (Oper.looksAt l.toArray ⟨some t, .call ⟨.value (.func f), xs.toArray, ats⟩, ty, pos, aft, gd⟩) env) (fun r => Drw P l sz K dfs i n0 env0 h0 m rest n ((t, r) :: env) h) (fun k size T rc => Drw P l sz K dfs i n0 env0 h0 m rest (n + 1) ((t, .own n 0 k size true) :: env) ((n, .row T rc) :: h))) : Drw P l sz K dfs i n0 env0 h0 (m + 1) (⟨some t, .call ⟨.value (.func f), xs.toArray, ats⟩, ty, pos, aft, gd⟩ :: rest) n env h := by
  obtain ⟨cs, cs', h1, h2, h3, ⟨r, h4, h5, h6⟩ | ⟨k, size, T, rc, h4, h5⟩⟩ := hh
  · exact cF9 hg h1 h2 h4 h3 h5 h6
  · exact cG0 hg h1 h2 h4 h3 h5
theorem dP9 {cs cs':Dp} {r:AV} {ev:Evl} {N0:AV->Prop} {N1:Nat->Nat->Dh->Dp->Prop} (hac:AC P f cs' r [] 0) (hb:Body P f) (hx:dO ev xs=some cs) (hcv:CvL cs cs') (hid:r.noId=true) (hn:N0 r):iH P f xs ev N0 N1:=⟨cs,cs',hb,hx,hcv,.inl ⟨r,hac,hid,hn⟩⟩
theorem dQ0 {cs cs':Dp} {k size:Nat} {T:Dh} {rc:Dp} {ev:Evl} {N0:AV->Prop} {N1:Nat->Nat->Dh->Dp->Prop} (hac:AC P f cs' (.own 0 0 k size true) [(0,.row T rc)] 1) (hb:Body P f) (hx:dO ev xs=some cs) (hcv:CvL cs cs') (hn:N1 k size T rc):iH P f xs ev N0 N1:=⟨cs,cs',hb,hx,hcv,.inr ⟨k,size,T,rc,hac,hn⟩⟩
end
def aO3:AV->Option (Dq)
 | .agg xs=>some xs
 | .c (.agg cs)=>some (cs.map AV.c)
 | .c (.v x)=>match x.oneCell' with|true=>some [.c (.v x)]|false=>none
 | .c (.sl a b c)=>some [.c (.sl a b c)]
 | .ref a b=>some [.ref a b]
 | .own a b c d e=>some [.own a b c d e]
 | .ip a b=>some [.ip a b]
 | .fn a b=>some [.fn a b]
 | .yld a=>some [.yld a]
 | .mh a=>some [.mh a]
 | .bm f a=>some [.bm f a]
 | .tup _=>none
 | .junk=>none
theorem bE1 {v:AV} {xs:Dq} (h:aO3 v=some xs):CellsA v xs:=by
 unfold aO3 at h
 split at h<;>first|(injection h with h;subst h;first|exact .agg (.mixed _)|exact .agg (.closed _)|exact .one rfl)|(split at h<;>first|(rename_i h1;injection h with h;subst h;exact .one h1)|cases h)|cases h
def tX:Dq->Option (List (Dq))
 | []=>some []
 | v::r=>match aO3 v with
  | some x=>match tX r with|some l=>some (x::l)|none=>none
  | none=>none
theorem fM:∀{vs:Dq} {ls:List (Dq)},tX vs=some ls->CellsL vs ls
 | [],ls,h=>by simp [tX] at h;subst h;exact .nil
 | v::r,ls,h=>by
  simp only [tX] at h
  split at h
  ·rename_i x hx
   split at h
   ·rename_i l hl;injection h with h;subst h;exact .cons (bE1 hx) (fM hl)
   ·cases h
  ·cases h
def bS5:CV->Option (Dp)
 | .agg cs=>some cs
 | .v x=>match x.oneCell' with|true=>some [.v x]|false=>none
 | .sl a b c=>some [.sl a b c]
theorem bS6 {v:CV} {xs:Dp} (h:bS5 v=some xs):Flat1 v xs:=by
 unfold bS5 at h
 split at h<;>first|(injection h with h;subst h;first|exact .agg _|exact .one rfl)|(split at h<;>first|(rename_i h1;injection h with h;subst h;exact .one h1)|cases h)|cases h
def aA8:Dp->Option (List (Dp))
 | []=>some []
 | v::r=>match bS5 v with
  | some x=>match aA8 r with|some l=>some (x::l)|none=>none
  | none=>none
theorem jG:∀{vs:Dp} {ls:List (Dp)},aA8 vs=some ls->FlatL vs ls
 | [],ls,h=>by simp [aA8] at h;subst h;exact .nil
 | v::r,ls,h=>by
  simp only [aA8] at h
  split at h
  ·rename_i x hx
   split at h
   ·rename_i l hl;injection h with h;subst h;exact .cons (bS6 hx) (jG hl)
   ·cases h
  ·cases h
section comb
variable {P:Di} {tab:Tab} {ev:Evl} {h:aL} {d:Dg} {T ty T':Dh} {x y:Operand} {pos:String} {aft:Df} {gd:Da} {op:BinOp}
def cmpZ:BinOp->Int->Int->Option Bool
 | .eql,m,n=>some (decide (m=n))
 | .neq,m,n=>some (decide (m≠n))
 | .lss,m,n=>some (decide (m<n))
 | .leq,m,n=>some (decide (m<=n))
 | .gtr,m,n=>some (decide (n<m))
 | .geq,m,n=>some (decide (n<=m))
 | _,_,_=>none
theorem iV {k:Dj} {m n:Int} {b c:Bool} (hx:ev x=some (.c (.v (.int k m)))) (hy:ev y=some (.c (.v (.int k n)))) (hr:cmpZ op m n=some b) (hb:b=c):Still P ⟨d,.binOp op T x y T',ty,pos,aft,gd⟩ ev h (.c (.v (.bool c))):=by
 subst hb
 cases op<;>simp only [cmpZ,Option.some.injEq,reduceCtorEq] at hr
 ·exact dN3 hx hy hr
 ·exact dN8 hx hy hr
 ·exact dN7 hx hy hr
 ·exact dN6 hx hy hr
 ·exact dN5 hx hy hr
 ·exact dN4 hx hy hr
def bK2:BinOp->Int->Int->Option Int
 | .add,m,n=>some (m+n)
 | .sub,m,n=>some (m-n)
 | .mul,m,n=>some (m*n)
 | _,_,_=>none
theorem lR {k:Dj} {m n r r':Int} (hx:ev x=some (.c (.v (.int k m)))) (hy:ev y=some (.c (.v (.int k n)))) (hr:bK2 op m n=some r) (hw:k.wrap r=r'):Still P ⟨d,.binOp op T x y T',ty,pos,aft,gd⟩ ev h (.c (.v (.int k r'))):=by
 cases op<;>simp only [bK2,Option.some.injEq,reduceCtorEq] at hr
 ·exact cX9 hx hy (by rw [hr];exact hw)
 ·exact cY3 hx hy (by rw [hr];exact hw)
 ·exact cY0 hx hy (by rw [hr];exact hw)
theorem iU {m n r r':Int} (hx:ev x=some (.c (.v (.int .i64 m)))) (hy:ev y=some (.c (.v (.int .i64 n)))) (hr:bK2 op m n=some r) (hw:IntKind.i64.wrap r=r'):Still P ⟨d,.binOp op T x y T',ty,pos,aft,gd⟩ ev h (.c (.v (.int .i64 r'))):=lR hx hy hr hw
def cY7:BinOp->BitVec 64->BitVec 64->Option (BitVec 64)
 | .xor,x,y=>some (x ^^^ y)
 | .and,x,y=>some (x &&& y)
 | .or,x,y=>some (x ||| y)
 | .add,x,y=>some (x+y)
 | .sub,x,y=>some (x-y)
 | .mul,x,y=>some (x*y)
 | _,_,_=>none
theorem fZ {p q:Int} {u v z:BitVec 64} (hx:ev x=some (.c (.v (.int .u64 p)))) (hp:IsW p u) (hy:ev y=some (.c (.v (.int .u64 q)))) (hq:IsW q v) (hr:cY7 op u v=some z):Still P ⟨d,.binOp op T x y T',ty,pos,aft,gd⟩ ev h (.c (.v (.int .u64 (z.toNat:Int)))):=by
 cases op<;>simp only [cY7,Option.some.injEq,reduceCtorEq] at hr<;>subst hr
 ·exact dE6 hx hp hy hq
 ·exact dF5 hx hp hy hq
 ·exact dF2 hx hp hy hq
 ·exact dE7 hx hp hy hq
 ·exact dN9 hx hp hy hq
 ·exact dF7 hx hp hy hq
end comb
theorem aG {P:Di} {o:Oper} {ev:Evl} {h:aL} {N:AV->Prop} {v:AV} (hs:Still P o ev h v) (hn:N v):∃v,Still P o ev h v/\N v:=⟨v,hs,hn⟩
theorem bG {P:Di} {o:Oper} {ev:Evl} {h:aL} {n:Nat} {N:AV->AObj->Prop} {v:AV} {obj:AObj} (hs:Adds P o ev h v [(n,obj)] n (n+1)) (hl:obj.live=some obj) (hn:N v obj):∃v obj,obj.live=some obj/\Adds P o ev h v [(n,obj)] n (n+1)/\N v obj:=⟨v,obj,hl,hs,hn⟩
section
variable {P:Di} {ev:Evl} {h:aL} {N:AV->Prop} {d:Dg} {ty:Dh} {pos:String} {aft:Df} {gd:Da}
theorem aP3 {x:Operand} (hh:∃v,Still P ⟨d,.move x,ty,pos,aft,gd⟩ ev h v/\N v):∃v,Still P ⟨d,.move x,ty,pos,aft,gd⟩ ev h v/\N v:=hh
theorem vT {x:Operand} (hh:∃v,Still P ⟨d,.assign x,ty,pos,aft,gd⟩ ev h v/\N v):∃v,Still P ⟨d,.assign x,ty,pos,aft,gd⟩ ev h v/\N v:=hh
theorem aP4 {x y z:Operand} (hh:∃v,Still P ⟨d,.pick x y z,ty,pos,aft,gd⟩ ev h v/\N v):∃v,Still P ⟨d,.pick x y z,ty,pos,aft,gd⟩ ev h v/\N v:=hh
theorem aA7 {T:Dh} {ps:Array (Nat × Operand)} (hh:∃v,Still P ⟨d,.build T ps,ty,pos,aft,gd⟩ ev h v/\N v):∃v,Still P ⟨d,.build T ps,ty,pos,aft,gd⟩ ev h v/\N v:=hh
theorem gJ {T:Dh} {x:Operand} (hh:∃v,Still P ⟨d,.load T x,ty,pos,aft,gd⟩ ev h v/\N v):∃v,Still P ⟨d,.load T x,ty,pos,aft,gd⟩ ev h v/\N v:=hh
theorem bQ8 {x:Operand} (hh:∃v,Still P ⟨d,.nilCheck x,ty,pos,aft,gd⟩ ev h v/\N v):∃v,Still P ⟨d,.nilCheck x,ty,pos,aft,gd⟩ ev h v/\N v:=hh
theorem bU {o:BinOp} {T T':Dh} {x y:Operand} (hh:∃v,Still P ⟨d,.binOp o T x y T',ty,pos,aft,gd⟩ ev h v/\N v):∃v,Still P ⟨d,.binOp o T x y T',ty,pos,aft,gd⟩ ev h v/\N v:=hh
theorem cG8 {o:UnOp} {T:Dh} {x:Operand} (hh:∃v,Still P ⟨d,.unOp o T x,ty,pos,aft,gd⟩ ev h v/\N v):∃v,Still P ⟨d,.unOp o T x,ty,pos,aft,gd⟩ ev h v/\N v:=hh
theorem sF {T T':Dh} {x:Operand} (hh:∃v,Still P ⟨d,.convert T T' x,ty,pos,aft,gd⟩ ev h v/\N v):∃v,Still P ⟨d,.convert T T' x,ty,pos,aft,gd⟩ ev h v/\N v:=hh
theorem vU {f:Fn} {xs ys:Array Operand} (hh:∃v,Still P ⟨d,.makeFunc f xs ys,ty,pos,aft,gd⟩ ev h v/\N v):∃v,Still P ⟨d,.makeFunc f xs ys,ty,pos,aft,gd⟩ ev h v/\N v:=hh
theorem iR {T:Dh} {x:Operand} {lo hi mx:Option Operand} (hh:∃v,Still P ⟨d,.slice T x lo hi mx,ty,pos,aft,gd⟩ ev h v/\N v):∃v,Still P ⟨d,.slice T x lo hi mx,ty,pos,aft,gd⟩ ev h v/\N v:=hh
theorem aP2 {T:Dh} {x:Operand} {k:Nat} (hh:∃v,Still P ⟨d,.fieldAddr T x k,ty,pos,aft,gd⟩ ev h v/\N v):∃v,Still P ⟨d,.fieldAddr T x k,ty,pos,aft,gd⟩ ev h v/\N v:=hh
theorem bQ7 {T:Dh} {x y:Operand} (hh:∃v,Still P ⟨d,.indexAddr T x y,ty,pos,aft,gd⟩ ev h v/\N v):∃v,Still P ⟨d,.indexAddr T x y,ty,pos,aft,gd⟩ ev h v/\N v:=hh
theorem bQ6 {x:Operand} {k:Nat} (hh:∃v,Still P ⟨d,.extract x k,ty,pos,aft,gd⟩ ev h v/\N v):∃v,Still P ⟨d,.extract x k,ty,pos,aft,gd⟩ ev h v/\N v:=hh
theorem aP1 {b:Builtin} {xs:Array Operand} {ts:Dl} (hh:∃v,Still P ⟨d,.call ⟨.builtin b,xs,ts⟩,ty,pos,aft,gd⟩ ev h v/\N v):∃v,Still P ⟨d,.call ⟨.builtin b,xs,ts⟩,ty,pos,aft,gd⟩ ev h v/\N v:=hh
end
end
section
def Flc (c:CV):Prop:=∀ok w u,RepC ok w c u->∀ok' w',RepC ok' w' c u
def FlcL (cs:Dp):Prop:=∀c∈cs,Flc c
theorem FlcL.rep:∀{cs:Dp},FlcL cs->∀{ok w u},RepCs ok w cs u->∀ok' w',RepCs ok' w' cs u
 | [],_,ok,w,u,h,ok',w'=>h
 | c::cs,hf,ok,w,u,h,ok',w'=>by
  simp only [RepCs] at h ⊢
  obtain ⟨a,l,h1,h2,h3⟩:=h
  exact ⟨a,l,h1,hf c aO _ _ _ h2 _ _,FlcL.rep (fun d hd=>hf d (by simp [hd])) h3 _ _⟩
theorem aY1 {x:Value}:Flc (.v x):=fun ok w u h ok' w'=>h
theorem aB1 {cs:Dp} (h:FlcL cs):Flc (.agg cs):=fun ok w u hu ok' w'=>by
 simp only [RepC] at hu ⊢
 obtain ⟨us,h1,h2,h3⟩:=hu
 exact ⟨us,h1,h.rep h2 _ _,h3⟩
theorem pZ (l:Db):FlcL (l.map CV.v):=fun c hc=>by
 obtain ⟨x,_,rfl⟩:=By.1 hc
 exact aY1
theorem uA (l:CZ):FlcL (u8c l):=by rw [zV];exact pZ _
inductive FlR:AV->Prop
 | c {x:CV} (h:Flc x):FlR (.c x)
 | t {xs:Dp} (h:FlcL xs):FlR (.tup (xs.map AV.c))
theorem FlR.rep {r:AV} (h:FlR r) {C C':Cx} {u:Value} (hu:Rep C r u):Rep C' r u:=by
 cases h with
 | c h=>simp only [Rep] at hu ⊢;exact h _ _ _ hu _ _
 | t h =>
  simp only [Rep] at hu ⊢
  obtain ⟨us,h1,h2⟩:=hu
  exact ⟨us,h1,RepL.ofC (h.rep (RepL.toC h2) _ _)⟩
section call
variable {P:Di} {ev:Evl} {h:aL} {d:Dg} {ty:Dh} {pos:String} {aft:Df} {gd:Da} {i:Nat} {f:FuncId} {xs:Dm} {ats:Dl} {r:AV}
theorem aN4 {vs : Dq} {cs : Dp} (hb : Body P f) (hx : nA ev xs = some vs) (hfz : zX [] h vs cs) (hac : AC P f cs r [] 0) (hfl : FlR r) :
    Adds P ⟨d, .call ⟨.value (.func f), xs.toArray, ats⟩, ty, pos, aft, gd⟩ ev h r [] i i := by
  intro B dom M H w a K Q hh hn hc he hK
  have hargs := hfz B dom M H w _ hh aO hc (eY he (kN hx))
  unfold Oper.wp execOp
  simp only [resolve, Deferred.ofValue, Act.eval, invoke, Sem.run_bind, Sem.run_pure, Result.andThen_ok, AQ, AX, Body.run hb, Oper.upon]
  rw [show (#[] ++ (List.map a.eval xs).toArray : Do) = (List.map a.eval xs).toArray by simp]
  refine (hac _ w _ hargs).mono ?_
  rintro e w' ⟨v, Mc, rfl, hcc, hv⟩
  simp only
  have hbl := hcc.fr.below
  have hg := hc.grow hbl i i (M' := M) (fun id _ => rfl) (fun id h1 h2 => by omega) (fun id o h1 h2 => by omega) (fun id id' o o' g h1 h2 => by omega) (fun hext id o h1 h2 => by omega)
  exact hK v w' M hg.2 hg.1 (hfl.rep hv)
theorem aE6 {vs : Dq} {cs rc : Dp} {k size : Nat} {T : Dh} (hb : Body P f) (hx : nA ev xs = some vs) (hfz : zX [] h vs cs) (hac : AC P f cs (.own 0 0 k size true) [(0, .row T rc)] 1) (hfl : FlcL rc) :
    Adds P ⟨d, .call ⟨.value (.func f), xs.toArray, ats⟩, ty, pos, aft, gd⟩ ev h (.own i 0 k size true) [(i, .row T rc)] i (i + 1) := by
  intro B dom M H w a K Q hh hn hc he hK
  have hargs := hfz B dom M H w _ hh aO hc (eY he (kN hx))
  unfold Oper.wp execOp
  simp only [resolve, Deferred.ofValue, Act.eval, invoke, Sem.run_bind, Sem.run_pure, Result.andThen_ok, AQ, AX, Body.run hb, Oper.upon]
  rw [show (#[] ++ (List.map a.eval xs).toArray : Do) = (List.map a.eval xs).toArray by simp]
  refine (hac _ w _ hargs).mono ?_
  rintro e w' ⟨v, Mc, rfl, hcc, hv⟩
  simp only
  have hbl := hcc.fr.below
  have hob := hcc.obj 0 _ kA (show lk [(0, AObj.row T rc)] 0 = some (.row T rc) from rfl)
  have hHi : H i = some (.row T rc) := by rw [(hn i aA aA).2, bJ, Aj rfl]; rfl
  let M' : Nat -> Dn := fun id => if id = i then Mc 0 else M id
  have hM1 : ∀ id, dom id -> M' id = M id := fun id hid => by
    have : ¬ id = i := fun e => by subst e; exact (hn id aA aA).1 hid
    simp [M', this]
  have hMi : M' i = Mc 0 := by simp [M']
  have hnew : ∀ g, Mc 0 = some g -> w.heap.size <= g := fun g hg => by
    rcases hcc.lo 0 _ g kA (show lk [(0, AObj.row T rc)] 0 = some (.row T rc) from rfl) hg with h1 | h1
    · exact h1
    · cases h1
  have hg := hc.grow hbl i (i + 1) (M' := M') hM1 (fun id h1 h2 => (hn id h1 h2).1)
    (fun id o h1 h2 h3 g hg => by
      obtain rfl : id = i := by omega
      exact hnew g (hMi.symm.trans hg))
    (fun id id' o o' g h1 h2 h3 h4 _ _ _ _ => by omega)
    (fun hext id o h1 h2 h3 => by
      obtain rfl : id = i := by omega
      rw [hHi] at h3
      injection h3 with h3
      subst h3
      rw [hMi]
      rcases hob with k1 | ⟨g, us, ws, k1, k2, k3, k4⟩
      · exact .inl k1
      · exact .inr ⟨g, us, ws, k1, k2, hfl.rep k3 _ _, k4⟩)
  refine hK v w' M' hg.2 hg.1 ?_
  simp only [Rep, cx] at hv ⊢
  refine ⟨.inr ⟨by omega, by omega⟩, ?_⟩
  rw [hMi]
  exact hv.2
end call
section frame
def aI0 (env:Env) (dfs:bM):Dq:=env.map (·.2)++dfs.flatMap (·.2)
theorem qG {env:Env}:∀{ks:De} {env':Env},kZ env ks=some env'->∀p∈env',lkE env p.1=some p.2
 | [],env',hp,p,hm=>by simp [kZ] at hp;subst hp;cases hm
 | k::ks,env',hp,p,hm=>by
  simp only [kZ] at hp
  split at hp
  ·rename_i r hr
   split at hp
   ·rename_i v hv
    injection hp with hp;subst hp
    rcases A3.1 hm with rfl|hm
    ·exact hv
    ·exact qG hr p hm
   ·injection hp with hp;subst hp;exact qG hr p hm
  ·cases hp
theorem aY7:∀{env:Env} {t:Nat} {av:AV},lkE env t=some av->(t,av)∈env
 | [],t,av,h=>by cases h
 | (i,v)::r,t,av,h=>by
  rw [dX] at h
  split at h
  ·rename_i e;subst e;injection h with h;subst h;simp
  ·exact List.mem_cons_of_mem _ (aY7 h)
theorem aK1 {C:Cx} {g:Nat->Value}:∀{env:Env},(∀p∈env,Rep C p.2 (g p.1))->RepL C (env.map (·.2)) (env.map fun p=>g p.1)
 | [],_=>rfl
 | p::r,h=>⟨_,_,rfl,h p aO,aK1 fun q hq=>h q (by simp [hq])⟩
theorem wW {C:Cx} {g:Nat->Value}:∀{env:Env},RepL C (env.map (·.2)) (env.map fun p=>g p.1)->∀p∈env,Rep C p.2 (g p.1)
 | [],_,p,hp=>by cases hp
 | q::r,h,p,hp=>by
  simp only [AD,RepL] at h
  obtain ⟨u,us,e,h1,h2⟩:=h
  injection e with e1 e2
  subst e1 e2
  rcases A3.1 hp with rfl|hp
  ·exact h1
  ·exact wW h2 p hp
theorem mW {C:Cx}:∀{xs ys:Dq} {us vs:Db},us.length=xs.length->RepL C (xs++ys) (us++vs)->RepL C xs us/\RepL C ys vs
 | [],ys,us,vs,hl,h=>by
  have:us=[]:=Ai eT
  subst this
  exact ⟨rfl,h⟩
 | x::xs,ys,[],vs,hl,h=>by simp at hl
 | x::xs,ys,u::us,vs,hl,h=>by
  simp only [AF,RepL] at h
  obtain ⟨a,l,e,h1,h2⟩:=h
  injection e with e1 e2
  subst e1 e2
  obtain ⟨k1,k2⟩:=mW eT h2
  exact ⟨⟨_,_,rfl,h1,k1⟩,k2⟩
theorem sC {fr:Db} {C:Cx}:∀{dfs:bM} {ds:List Deferred},DefRep fr C dfs ds->∃us,us.length=(dfs.flatMap (·.2)).length/\RepL C (dfs.flatMap (·.2)) us/\∀C',RepL C' (dfs.flatMap (·.2)) us->DefRep fr C' dfs ds
 | [],ds,h=>⟨[],rfl,rfl,fun C' _=>h⟩
 | (some f,caps)::r,ds,h=>by
  obtain ⟨us,ds',rfl,h2,h3⟩:=h
  obtain ⟨vs,k0,k1,k2⟩:=sC h3
  refine ⟨us++vs,by simp only [Aw,Aa];rw [k0,h2.length],h2.append k1,fun C' hr=>?_⟩
  obtain ⟨l1,l2⟩:=mW h2.length hr
  exact ⟨us,ds',rfl,l1,k2 C' l2⟩
 | (none,xs)::r,ds,h=>by
  obtain ⟨h2,h3⟩:=h
  obtain ⟨vs,k0,k1,k2⟩:=sC h3
  refine ⟨fr++vs,by simp only [Aw,Aa];rw [k0,h2.length],h2.append k1,fun C' hr=>?_⟩
  obtain ⟨l1,l2⟩:=mW h2.length hr
  exact ⟨l1,k2 C' l2⟩
def hU:bM->Option (Dq)
 | []=>none
 | (none,xs)::_=>some xs
 | (some _,_)::r=>hU r
theorem kL {fr:Db} {C:Cx} {xs:Dq}:∀{dfs:bM} {ds:List Deferred},hU dfs=some xs->DefRep fr C dfs ds->RepL C xs fr
 | [],ds,h,_=>by cases h
 | (none,ys)::r,ds,h,hd=>by simp only [hU,Option.some.injEq] at h;subst h;exact hd.1
 | (some f,caps)::r,ds,h,hd=>by
  obtain ⟨us,ds',rfl,h2,h3⟩:=hd
  exact kL (dfs:=r) h h3
def tF:Nat->Dq->Env
 | _,[]=>[]
 | k,x::xs=>(k,x)::tF (k+1) xs
theorem kK:∀{cs:Dq} {k t:Nat} {av:AV},lkE (tF k cs) t=some av->k<=t/\cs[t-k]? = some av
 | [],k,t,av,h=>by cases h
 | c::cs,k,t,av,h=>by
  rw [tF,dX] at h
  split at h
  ·rename_i e;subst e;injection h with h;subst h;exact ⟨Ae _,by simp⟩
  ·rename_i e
   obtain ⟨h1,h2⟩:=kK h
   refine ⟨by omega,?_⟩
   rw [show t-k=(t-(k+1))+1 by omega]
   simpa using h2
def InK (P:Di) (tab:Tab) (rs:List ResultVar) (xs:Dq) (ops:Dd) (sz:Nat) (rest:Dc) (K:AK) (env:Env) (d:Dg) (dfs:bM):AK :=
 fun e n' env' h' dfs'=>(e = .normal\/e = .ret)/\gB P h' dfs'/\hU dfs'=some xs/\∃v,ResL tab env' (fB h' dfs') rs v/\AWL P ops sz rest K n' (fA env d v) (fB h' dfs') dfs
variable {P:Di} {tab:Tab} {sz n:Nat} {env:Env} {h:aL} {dfs:bM} {K:AK} {ops:Dd} {rest:Dc} {d:Dg} {ty:Dh} {pos:String} {aft:Df} {gd:Da} {f:FuncId} {x:Operand} {xs:Dm} {ats:Dl}
theorem bW {rs:List ResultVar} {zs:Dq} {t:Nat} {e:Exit} {n':Nat} {env':Env} {h':aL} {dfs':bM} {v:AV} (he:e = .normal\/e = .ret) (hi:gB P h' dfs') (hm:hU dfs'=some zs) {h2:aL} (hh:fB h' dfs'=h2) (hr:ResL tab env' h2 rs v) (next:AWL P ops sz rest K n' ((t,v)::env) h2 dfs):InK P tab rs zs ops sz rest K env (some t) dfs e n' env' h' dfs':=⟨he,hi,hm,v,hh▸hr,hh▸next⟩
theorem bV {rs:List ResultVar} {zs:Dq} {e:Exit} {n':Nat} {env':Env} {h':aL} {dfs':bM} {v:AV} (he:e = .normal\/e = .ret) (hi:gB P h' dfs') (hm:hU dfs'=some zs) {h2:aL} (hh:fB h' dfs'=h2) (hr:ResL tab env' h2 rs v) (next:AWL P ops sz rest K n' env h2 dfs):InK P tab rs zs ops sz rest K env none dfs e n' env' h' dfs':=⟨he,hi,hm,v,hh▸hr,hh▸next⟩
theorem dE4 {C:Cx} {caps:Dq} {u:Value} (h:Rep C (.fn f caps) u):∃us,u = .func (.func f) #[] us.toArray/\RepL C caps us:=by simpa only [Rep] using h
theorem cK (tb : bF P tab) (ks : De) {fn : Func} {c : Code} {vs caps ws : Dq} {env' : Env} {szf : Nat} (hg : guardA ops env ⟨d, .call ⟨.value x, xs.toArray, ats⟩, ty, pos, aft, gd⟩ true) (hd : fH d sz = true) (hxf : evA env x = some (.fn f caps)) (hb : Body P f) (hf : P.funcs[f]? = some fn) (hc : fn.body = some c) (hx : nA (evA env) xs = some vs) (hws : vs ++ caps = ws) (hsz : max fn.ntmps ws.length = szf) (hE : kZ env ks = some env')
    (next : AW P szf c (InK P tab fn.results.toList (aI0 env' dfs) ops sz rest K env' d dfs) n (tF 0 ws) h [(none, aI0 env' dfs)]) : AWL P ops sz (⟨d, .call ⟨.value x, xs.toArray, ats⟩, ty, pos, aft, gd⟩ :: rest) K n env h dfs := by
  intro B a w hcn
  obtain ⟨M, c1, c2, c3, c4⟩ := hcn
  refine dM fun K' hK' => ?_
  rw [Aj (hg.wanted c3)]
  obtain ⟨us, hxv, hus⟩ := dE4 (cT c3 x _ hxf)
  have hvs := eY (cT c3) (kN hx)
  obtain ⟨dv, dv0, dv1, dv2⟩ := sC c4
  have hcaps := hvs.append hus
  rw [hws] at hcaps
  have hlen := hcaps.length
  have henv : RepL (cx B n M h w) (env'.map (·.2)) (env'.map fun p => a.tmps.getD p.1 undef) := aK1 (g := fun t => a.tmps.getD t undef) fun p hp => c3 p.1 p.2 (qG hE p hp)
  let B' : Bs := ⟨B.w0, B.G, B.ok0, (env'.map fun p => a.tmps.getD p.1 undef) ++ dv⟩
  unfold Oper.wp execOp
  simp only [resolve, hxv, Deferred.ofValue, invoke, Sem.run_bind, Sem.run_pure, Result.andThen_ok, AQ, AX, Body.run hb, Oper.upon]
  rw [show (#[] ++ (List.map a.eval xs).toArray ++ us.toArray : Do) = (List.map a.eval xs ++ us).toArray by simp]
  refine fL hf hc (wp_mono (jI (next B' _ w ⟨M, ⟨c1.fr, c1.obj, c1.inj, c1.lo⟩, ?_, ?_, ?_⟩)) ?_)
  · simp only [Aa, Bb] at hlen
    simp
    omega
  · intro t av ht
    obtain ⟨h1, h2⟩ := kK ht
    rw [B1] at h2
    obtain ⟨u, hu, hru⟩ := hcaps.get h2
    have : ((List.map a.eval xs ++ us).toArray ++ Array.replicate (fn.ntmps - (List.map a.eval xs ++ us).toArray.size) undef).getD t undef = u := by
      have hlt := (Ad.1 hu).1
      rw [B0, Bq vL]
      rw [Bv, hu]
      rfl
    rw [this]
    exact hru
  · exact ⟨henv.append dv1, rfl⟩
  · intro e a' w' hq
    obtain ⟨n', env2, h', dfs', ⟨h1, h2, h3, v, h4, h5⟩, M', d1, d2, d3, d4⟩ := hq
    have : ∀ R : Ending -> World -> Prop, (∀ u w2, K' (a.put d u) w2 -> R (.returned u) w2) -> gS P fn a'.tmps R a'.defers w' := by
      intro R hR
      refine eH h2 d1 d4 fun w2 g1 g2 => ?_
      obtain ⟨u, k1, k2⟩ := h4.run tb g1 (fun t av ht => Rep.ext g2 _ _ (d3 t av ht))
      refine ⟨u, k2, ?_⟩
      obtain ⟨e1, e2⟩ := mW aO (RepL.ext g2 _ _ (kL h3 d4))
      have he := wW (g := fun t => a.tmps.getD t undef) e1
      obtain ⟨p1, p2, p3⟩ := jM (env := env') (B := B) (a := a) (w := w2) (w' := w2) (M := M') (M' := M') (n := n') (n' := n') (h := fB h' dfs') (h' := fB h' dfs') c2 (fun t av ht => he (t, av) (aY7 ht)) (Ext.refl _) (dT hd) (v := v) (u := u) k1
      exact hR u w2 (hK' _ _ (h5 B _ _ ⟨M', ⟨g1.fr, g1.obj, g1.inj, g1.lo⟩, p1, p2, by rw [p3]; exact dv2 _ e2⟩))
    rcases h1 with rfl | rfl <;> exact this _ (fun u _ h => h)
end frame
section strokes
variable {P:Di} {ops:Dd} {sz n n0 i m t:Nat} {K:AK} {env env0:Env} {h h0:aL} {dfs:bM} {rest l:Dc} {op:Op} {ty:Dh} {pos:String} {aft:Df} {gd:Da}
theorem dT6 (hg:guardA ops env ⟨some t,op,ty,pos,aft,gd⟩ true) (hd:Nat.blt t sz=true) (hh:∃v,Adds P ⟨some t,op,ty,pos,aft,gd⟩ (evA env) h v [] n n/\AWL P ops sz rest K n ((t,v)::env) h dfs):AWL P ops sz (⟨some t,op,ty,pos,aft,gd⟩::rest) K n env h dfs :=
 let ⟨_,h1,h2⟩:=hh;cE6 hg hd h1 h2
theorem dT7 (hg:guardA l.toArray env ⟨some t,op,ty,pos,aft,gd⟩ true) (hh:∃v,Adds P ⟨some t,op,ty,pos,aft,gd⟩ (evT (Oper.looksAt l.toArray ⟨some t,op,ty,pos,aft,gd⟩) env) h v [] n n/\Drw P l sz K dfs i n0 env0 h0 m rest n ((t,v)::env) h):Drw P l sz K dfs i n0 env0 h0 (m+1) (⟨some t,op,ty,pos,aft,gd⟩::rest) n env h :=
 let ⟨_,h1,h2⟩:=hh;cG5 hg h1 h2
theorem pN {o:Oper} {ev:Evl} {N:AV->Prop} {v:AV} (hs:Adds P o ev h v [] n n) (hn:N v):∃v,Adds P o ev h v [] n n/\N v:=⟨v,hs,hn⟩
def bX5 (all:Dc) (t:Nat):Bool:=(all.any fun o=>pO (o.looksAt all.toArray) t) || (Nat.blt 1 (all.countP fun o=>match o.dst with|some d=>Nat.beq d t|none=>false))
def oF (fs:De) (all:Dc):Dc->Nat
 | []=>0
 | o::r=>match o.op with
  | .assign _=>match o.dst with
   | some t=>match bX5 all t with|true=>0|false=>oF fs all r+1
   | none=>0
  | .call ⟨.value (.func f),_,_⟩=>match pO fs f with|true=>0|false=>oF fs all r+1
  | .call ⟨.value (.tmp _),_,_⟩=>0
  | op=>match aE4 op with|true=>0|false=>oF fs all r+1
theorem dG {id:Nat} (fs:De) (hx:Drw P l sz K dfs id n0 env0 h0 (oF fs l l) l n0 env0 h0):AW P sz (.region id l.toArray true) K n0 env0 h0 dfs:=cZ0 _ hx
theorem iL {keep:De} {x:AV} {y z:CV} (h1:Frz keep h x y) (h2:Cv y z):Frz keep h x z:=fun B dom M H w u hh hk hc hu=>h2 _ _ _ (h1 B dom M H w u hh hk hc hu)
end strokes
section pick
variable {P:Di} {ev:Evl} {h:aL} {d:Dg} {ty:Dh} {x y z:Operand} {pos:String} {aft:Df} {gd:Da} {b:Bool} {v:AV}
theorem xL (hc0:ev z=some (.c (.v (.bool b)))) (hb:b=true) (hx:ev x=some v):Still P ⟨d,.pick z x y,ty,pos,aft,gd⟩ ev h v:=by subst hb;exact uL hc0 hx
theorem xK (hc0:ev z=some (.c (.v (.bool b)))) (hb:b=false) (hy:ev y=some v):Still P ⟨d,.pick z x y,ty,pos,aft,gd⟩ ev h v:=by subst hb;exact uK hc0 hy
end pick
theorem AC.bool {P:Di} {f:FuncId} {args:Dp} {x:Value} (h:AC P f args (.c (.v x)) [] 0) {w:World} {vs:Db} (hvs:RepCs (fun _=>True) w args vs):Calls P f vs.toArray w fun e w'=>e = .returned x/\Below w.heap.size w w' :=
 (h _ w vs hvs).mono (by
  rintro e w' ⟨v,M,rfl,hc,hv⟩
  simp only [Rep,RepC] at hv
  subst hv
  exact ⟨rfl,hc.fr.below⟩)
end
section
mutual
def AV.mp (σ:Nat->Nat):AV->AV
 | .c x => .c x
 | .ip cs off => .ip cs off
 | .junk => .junk
 | .ref id off => .ref (σ id) off
 | .own id off n size full => .own (σ id) off n size full
 | .agg xs => .agg (AV.mps σ xs)
 | .tup xs => .tup (AV.mps σ xs)
 | .fn f xs => .fn f (AV.mps σ xs)
 | .yld id => .yld (σ id)
 | .mh id => .mh (σ id)
 | .bm f id => .bm f (σ id)
def AV.mps (σ:Nat->Nat):Dq->Dq
 | []=>[]
 | x::xs=>AV.mp σ x::AV.mps σ xs
end
structure LessR (N:Nat) (σ:Nat->Nat) (C C':Cx):Prop where
 dom:∀id,id<N->C.dom (σ id)->C'.dom id/\C'.M id=C.M (σ id)
 ok:jO C.ok C'.ok C.w C'.w
 shape:∀b x,C.w.shape? b=some x->C'.w.shape? b=some x
mutual
theorem Rep.lessR {N:Nat} {σ:Nat->Nat} {C C':Cx} (h:LessR N σ C C'):∀(x:AV) (u:Value),x.ltB N=true->Rep C (x.mp σ) u->Rep C' x u
 | .c x,u,_,hu=>by simp only [Rep,AV.mp] at hu ⊢;exact RepC.mono h.ok x u hu
 | .ref id off,u,hl,hu=>by
  simp only [Rep,AV.mp] at hu ⊢
  simp only [AV.ltB,AH] at hl
  obtain ⟨hd,g,hg,hu⟩:=hu
  obtain ⟨k1,k2⟩:=h.dom id hl hd
  exact lZ
 | .own id off n size full,u,hl,hu=>by
  simp only [Rep,AV.mp] at hu ⊢
  simp only [AV.ltB,AH] at hl
  obtain ⟨hd,hu⟩:=hu
  obtain ⟨k1,k2⟩:=h.dom id hl hd
  refine ⟨k1,?_⟩
  rcases hu with ⟨h1,h2,h3,h4⟩|⟨g,cp,h1,h2,h3,h4,h5⟩|h6
  ·exact bO9
  ·exact .inr (.inl ⟨g,cp,k2.trans h1,h2,h3,h4,fun hf=>let ⟨e,he⟩:=h5 hf;⟨e,h.shape _ _ he⟩⟩)
  ·exact .inr (.inr h6)
 | .ip cs off,u,_,hu=>by
  simp only [Rep,AV.mp] at hu ⊢
  obtain ⟨b,o,us,h1,h2,h3,h4,h6,h5⟩:=hu
  obtain ⟨k1,k2,k3⟩:=h.ok b h2 h3
  exact ⟨b,o,us,h1,k1,k2,RepCs.mono h.ok cs us h4,h6,fun j x hx=>by rw [World.cell?_of_block (w:=C.w) k3];exact h5 j x hx⟩
 | .agg xs,u,hl,hu=>by
  simp only [Rep,AV.mp] at hu ⊢
  obtain ⟨us,h1,h2⟩:=hu
  exact ⟨us,h1,RepL.lessR h xs us hl h2⟩
 | .tup xs,u,hl,hu=>by
  simp only [Rep,AV.mp] at hu ⊢
  obtain ⟨us,h1,h2⟩:=hu
  exact ⟨us,h1,RepL.lessR h xs us hl h2⟩
 | .fn f caps,u,hl,hu=>by
  simp only [Rep,AV.mp] at hu ⊢
  obtain ⟨us,h1,h2⟩:=hu
  exact ⟨us,h1,RepL.lessR h caps us hl h2⟩
 | .yld id,u,hl,hu=>by
  simp only [Rep,AV.mp] at hu ⊢
  simp only [AV.ltB,AH] at hl
  obtain ⟨hd,g,hg,hu⟩:=hu
  obtain ⟨k1,k2⟩:=h.dom id hl hd
  exact lZ
 | .mh id,u,hl,hu=>by
  simp only [Rep,AV.mp] at hu ⊢
  simp only [AV.ltB,AH] at hl
  obtain ⟨hd,g,hg,hu⟩:=hu
  obtain ⟨k1,k2⟩:=h.dom id hl hd
  exact lZ
 | .bm f id,u,hl,hu=>by
  simp only [Rep,AV.mp] at hu ⊢
  simp only [AV.ltB,AH] at hl
  obtain ⟨hd,g,hg,hu⟩:=hu
  obtain ⟨k1,k2⟩:=h.dom id hl hd
  exact lZ
 | .junk,u,_,hu=>by simp only [Rep]
theorem RepL.lessR {N:Nat} {σ:Nat->Nat} {C C':Cx} (h:LessR N σ C C'):∀(xs:Dq) (us:Db),AV.ltBs N xs=true->RepL C (AV.mps σ xs) us->RepL C' xs us
 | [],us,_,hu=>by simpa [RepL,AV.mps] using hu
 | c::cs,us,hl,hu=>by
  simp only [RepL,AV.mps] at hu ⊢
  simp only [AV.ltBs,Am] at hl
  obtain ⟨u,us',h1,h2,h3⟩:=hu
  exact ⟨u,us',h1,Rep.lessR h c u hl.1 h2,RepL.lessR h cs us' hl.2 h3⟩
end
def AObj.mp (σ:Nat->Nat):AObj->AObj
 | .blk T cs => .blk T (AV.mps σ cs)
 | .row T cs => .row T cs
 | .lp b sz L sl xs => .lp b sz L sl (AV.mps σ xs)
 | .dfr b => .dfr b
 | .tab es => .tab (es.map fun p=>(p.1,p.2.mp σ))
 | .dead => .dead
theorem RepM.lessR {N:Nat} {σ:Nat->Nat} {C C':Cx} (h:LessR N σ C C'):∀(es:List (CV × AV)) (ms:List MapEntry),(es.all fun p=>p.2.ltB N)=true->RepM C (es.map fun p=>(p.1,p.2.mp σ)) ms->RepM C' es ms
 | [],ms,_,hu=>hu
 | e::es,ms,hl,hu=>by
  obtain ⟨m,ms',h1,h2,h3,h4⟩:=hu
  simp only [Bw,Am] at hl
  exact ⟨m,ms',h1,RepC.mono h.ok _ _ h2,Rep.lessR h _ _ hl.1 h3,RepM.lessR h es ms' hl.2 h4⟩
theorem ObjRep.lessR {N:Nat} {σ:Nat->Nat} {C C':Cx} (h:LessR N σ C C') {g:Dn} {o:AObj} (hw:C'.w=C.w) (hl:o.ltB N=true) (ho:ObjRep C g (o.mp σ)):ObjRep C' g o:=by
 cases o with
 | blk T cs =>
  obtain ⟨k,us,rfl,h2,h3⟩:=ho
  exact ⟨k,us,rfl,by rw [hw];exact h2,RepL.lessR h cs us hl h3⟩
 | row T cs =>
  rcases ho with h1|⟨k,us,vs,rfl,h2,h3,h4⟩
  ·exact .inl h1
  ·exact .inr ⟨k,us,vs,rfl,by rw [hw];exact h2,RepCs.mono h.ok cs us h3,h4⟩
 | lp b sz L sl xs =>
  obtain ⟨k,r,rfl,h2,h3,h4,h5,h6,h7,h8,h9⟩:=ho
  exact ⟨k,r,rfl,by rw [hw];exact h2,h3,h4,h5,h6,h7,h8,RepL.lessR h xs _ hl h9⟩
 | dfr b =>
  obtain ⟨k,rfl,h2⟩:=ho
  exact ⟨k,rfl,by rw [hw];exact h2⟩
 | tab es =>
  obtain ⟨k,ms,t,rfl,h2,h3⟩:=ho
  exact ⟨k,ms,t,rfl,by rw [hw];exact h2,h3.1,RepM.lessR h es _ hl h3.2⟩
 | dead=>exact ho.elim
def uM (σ:Nat->Nat) (env:Env) (N:Nat) (E:Env):Prop:=∀t av,lkE E t=some av->lkE env t=some (av.mp σ)/\av.ltB N=true
def lN (σ:Nat->Nat) (h:aL) (N:Nat) (Hp:aL):Prop:=∀id o,lk Hp id=some o->lk h (σ id)=some (o.mp σ)/\o.ltB N=true
section
variable {σ:Nat->Nat}
theorem eO {env:Env} {N:Nat}:uM σ env N []:=fun t av h=>by cases h
theorem dY {env E:Env} {N t:Nat} {av av':AV} (h:lkE env t=some av') (he:av'=av.mp σ) (hl:av.ltB N=true) (hr:uM σ env N E):uM σ env N ((t,av)::E):=by
 intro k x hk
 rw [dX] at hk
 split at hk
 ·rename_i e;subst e;injection hk with hk;subst hk;exact ⟨h.trans (by rw [he]),hl⟩
 ·exact hr k x hk
theorem dL {h:aL} {N:Nat}:lN σ h N []:=fun t av h=>by cases h
theorem bY {h Hp:aL} {N t:Nat} {o o':AObj} (hh:lk h (σ t)=some o') (he:o'=o.mp σ) (hl:o.ltB N=true) (hr:lN σ h N Hp):lN σ h N ((t,o)::Hp):=by
 intro k x hk
 rw [bJ] at hk
 split at hk
 ·rename_i e;subst e;have hk:=pE hk;subst hk;exact ⟨hh.trans (by rw [he]),hl⟩
 ·exact hr k x hk
theorem DefRep.lessR {fr:Db} {N:Nat} {C C':Cx} (h:LessR N σ C C'):∀{l:bM} {ds:List Deferred},l.all (fun p=>AV.ltBs N p.2)=true->DefRep fr C (l.map fun p=>(p.1,AV.mps σ p.2)) ds->DefRep fr C' l ds
 | [],ds,_,hd=>hd
 | (some f,caps)::r,ds,hl,hd=>by
  obtain ⟨us,ds',h1,h2,h3⟩:=hd
  simp only [Bw,Am] at hl
  exact ⟨us,ds',h1,RepL.lessR h _ _ hl.1 h2,DefRep.lessR h hl.2 h3⟩
 | (none,xs)::r,ds,hl,hd=>by
  simp only [Bw,Am] at hl
  exact ⟨RepL.lessR h _ _ hl.1 hd.1,DefRep.lessR h hl.2 hd.2⟩
end
def sg (l:De) (i:Nat):Nat:=match l,i with
 | [],_=>0
 | x::_,0=>x
 | _::r,i+1=>sg r i
theorem iG (l : De) {n N : Nat} {env E : Env} {h Hp : aL} {dfs D : bM} (hN : (List.range N).all (fun i => Nat.blt (sg l i) n) = true) (hinj : (List.range N).all (fun i => (List.range N).all fun j => Nat.beq i j || !Nat.beq (sg l i) (sg l j)) = true)
    (hE : uM (sg l) env N E) (hH : lN (sg l) h N Hp) (hD : D.all (fun p => AV.ltBs N p.2) = true) (hD' : dfs = D.map fun p => (p.1, AV.mps (sg l) p.2)) : cM n env h dfs N E Hp D := by
  intro B sz a w hc
  subst hD'
  obtain ⟨M, h1, h2, h3, h4⟩ := hc
  have hn' : ∀ i, i < N -> sg l i < n := fun i hi => by
    have := Aq.1 hN i (A5.2 hi)
    simpa using this
  have hi' : ∀ i j, i < N -> j < N -> sg l i = sg l j -> i = j := fun i j hi hj e => by
    have := Aq.1 (Aq.1 hinj i (A5.2 hi)) j (A5.2 hj)
    simp only [Bn, Ce] at this
    rcases this with h | h
    · exact Ac h
    · rw [e, B7] at h; cases h
  let M' : Nat -> Dn := fun i => M (sg l i)
  have hok : ∀ b, aU B (lt n) M (lk h) b -> aU B (lt N) M' (lk Hp) b := fun b hb => ⟨hb.1, fun id o hid hH' he => hb.2 (sg l id) _ (hn' id hid) (hH id o hH').1 he⟩
  have hls : LessR N (sg l) (cx B n M h w) (cx B N M' Hp w) := ⟨fun id hid _ => ⟨hid, rfl⟩, fun b hb hl => ⟨hok b hb, hl, rfl⟩, fun _ _ h => h⟩
  refine ⟨M', ⟨h1.fr, fun id o hid hH' => ?_, fun id id' o o' g k1 k2 k3 k4 k5 k6 => hi' id id' k1 k2 (h1.inj _ _ _ _ g (hn' id k1) (hn' id' k2) (hH id o k3).1 (hH id' o' k4).1 k5 k6), fun id o g k1 k2 => h1.lo _ _ g (hn' id k1) (hH id o k2).1⟩, h2, fun t av ht => ?_, h4.lessR hls hD⟩
  · exact cV3
  · exact Rep.lessR hls _ _ (hE t av ht).2 (h3 t _ (hE t av ht).1)
section makes
variable {P:Di} {tab:Tab} {ev:Evl} {h:aL} {d:Dg} {T ty:Dh} {x y:Operand} {pos:String} {aft:Df} {gd:Da} {i:Nat} {e e':TyE} {E size:Nat} (tb:bF P tab) (hT:aP tab T=some e) (hk:e.kind = .slice E) (hs0:zQ tab E=some size) (hE:aP tab E=some e')
include tb hT hk hs0 hE
theorem kJ (hs:Nat.beq e'.size size=true):Adds P ⟨d,.buildSlice T 0 #[],ty,pos,aft,gd⟩ ev h (.own i 0 0 size true) [(i,.row E [])] i (i+1):=bC5 tb hT hk hE hs
theorem aO0 {l c : Nat} {cs : Dp} {kl kc : Dj} {I J : Int} (hs : Nat.beq e'.size size = true) (hz : Nat.beq e'.zero.length size = true) (h1' : e'.zero.all Value.oneCell' = true) (hp : Nat.blt 0 size = true) (hx : ev x = some (.c (.v (.int kl I)))) (hy : ev y = some (.c (.v (.int kc J)))) (hI : I = (l : Int)) (hJ : J = (c : Int))
    (hlc : l <= c) (hb : e'.bytes * c <= 281474976710656) (hc : c <= maxLen) (hcs : zc e'.zero l = cs) : Adds P ⟨d, .makeSlice T x y, ty, pos, aft, gd⟩ ev h (.own i 0 l size true) [(i, .row E cs)] i (i + 1) := cY9 tb hT hk hE hs hz h1' hp hx hy hI hJ hlc hb hc hcs
theorem lU {n : Nat} {parts : List (Nat × Operand)} {cs : Dp} {ls : List (Dp)} {all : Dp} (hs : Nat.beq e'.size size = true) (hz : Nat.beq e'.zero.length size = true) (hp : Nat.blt 0 size = true) (hpt : parts = mB 0 (parts.map (·.2))) (hn : Nat.beq (parts.map (·.2)).length n = true) (h0 : Nat.blt 0 n = true) (hle : Nat.ble (n * size) 16777216 = true)
    (hx : dO ev (parts.map (·.2)) = some cs) (hfl : FlatL cs ls) (hsz : ls.all (fun l => Nat.beq l.length size) = true) (hall : ls.flatten = all) : Adds P ⟨d, .buildSlice T n parts.toArray, ty, pos, aft, gd⟩ ev h (.own i 0 n size true) [(i, .row E all)] i (i + 1) := bJ7 tb hT hk hE hs hz hp hpt hn h0 hle hx hfl hsz hall
end makes
theorem bV8 {id id' off off' n n' size:Nat} {full:Bool} (h1:id=id') (h2:off=off') (h3:n=n'):AV.own id off n size full=AV.own id' off' n' size full:=by subst h1 h2 h3;rfl
theorem bT5 {k:Dj} {m n:Int} (h:m=n):AV.c (.v (.int k m)) = .c (.v (.int k n)):=by subst h;rfl
theorem bD8 (m:Nat):(m:Int)=(m:Int):=rfl
theorem bL2 (n:Nat):(OfNat.ofNat n:Int)=((OfNat.ofNat n:Nat):Int):=rfl
def dA8:List (Dp)->Option (Dp)
 | []=>some []
 | l::r=>match dA8 r with|some x=>some (l++x)|none=>none
end
section
def Fz (h Hp:aL) (v v':AV):Prop :=
 ∀(B:Bs) (n:Nat) (M:Nat->Dn) (w:World) (u:Value),(∀id o,lk Hp id=some o->lk h id=some o)->ConcH B (lt n) M (lk h) w->Rep (cx B n M h w) v u->Rep (cx B n M Hp w) v' u
theorem aB5 {B:Bs} {n:Nat} {M:Nat->Dn} {w:World} {h Hp:aL} (hs:∀id o,lk Hp id=some o->lk h id=some o):Ext (cx B n M h w) (cx B n M Hp w) :=
 ⟨fun id hid=>⟨hid,rfl⟩,fun b hb hl=>⟨⟨hb.1,fun id o hid ho he=>hb.2 id o hid (hs id o ho) he⟩,hl,rfl⟩,shp fun _ _ h=>h⟩
theorem cK3 {h Hp:aL} {v:AV}:Fz h Hp v v:=fun B n M w u hs hc hu=>Rep.ext (aB5 hs) _ _ hu
theorem dK0 {h Hp:aL} {B:Bs} {n:Nat} {M:Nat->Dn} {w:World} (hs:∀id o,lk Hp id=some o->lk h id=some o) (hc:ConcH B (lt n) M (lk h) w) {id g:Nat} {o:AObj} (ho:lk h id=some o) (hn:lk Hp id=none) (hd:id<n) (hM:M id=some g):aU B (lt n) M (lk Hp) g:=by
 refine ⟨?_,fun k o' hk hH he=>?_⟩
 ·rcases hc.lo id o g hd ho hM with h1|h1
  ·exact .inr (.inl h1)
  ·exact .inr (.inr h1)
 ·have:=hc.inj k id o' o g hk hd (hs k o' hH) ho he hM
  subst this
  rw [hn] at hH
  cases hH
theorem bT0 {h Hp:aL} {id off n size:Nat} {full:Bool} {T:Dh} {cs ys:Dp} (ho:lk h id=some (.row T cs)) (hn:lk Hp id=none) (hy:(cs.drop off).take (n*size)=ys) (hl:ys.length=n*size):Fz h Hp (.own id off n size full) (.c (.sl size n ys)):=by
 intro B N M w u hs hc hu
 have hext:=aB5 (B:=B) (n:=N) (M:=M) (w:=w) hs
 simp only [Rep,cx] at hu
 obtain ⟨hd,hu⟩:=hu
 have hz:n=0->∃us,RepCs (aU B (lt N) M (lk Hp)) w ys us/\∀u∈us,u.oneCell'=true:=fun h0=>by
  subst h0
  have:ys=[]:=Ai eT
  subst this
  exact ⟨[],by simp [RepCs],by simp⟩
 rcases hu with ⟨h1,h2,h3,h4⟩|⟨g,cp,h1,h2,h3,h4,h5⟩|⟨h1,h2,A,cp,h3,h4⟩
 ·obtain ⟨us,hus,hon⟩:=hz h1
  exact dJ2
 ·obtain ⟨us,vs,hb,hr,hon⟩:=eQ (fun id o h _=>h) hc ho hd h1
  have h6:=(hr.drop off).take (n*size)
  rw [hy] at h6
  refine ⟨some ⟨g,off,none⟩,cp,(us.drop off).take (n*size),h2,h3,h4,hl,RepCs.mono hext.ok _ _ h6,fun u hu=>hon u (AT (AL hu)),fun hn'=>⟨g,off,rfl,dK0 hs hc ho hn hd h1,bH hb,fun j x hj=>?_⟩⟩
  have hjk:j<n*size:=by
   rcases A7 j (n*size) with h1|h1
   ·exact h1
   ·rw [AJ nU] at hj;cases hj
  rw [AZ hjk,AS] at hj
  exact gY hb hj
 ·obtain ⟨us,hus,hon⟩:=hz h1
  subst h1
  exact dJ3
theorem aY3 {h Hp:aL} {id n size:Nat} {full:Bool} {T:Dh} {cs:Dp} (ho:lk h id=some (.row T cs)) (hn:lk Hp id=none) (hl:cs.length=n*size):Fz h Hp (.own id 0 n size full) (.c (.sl size n cs)) :=
 bT0 ho hn bN7 hl
inductive FzE (env:Env) (h Hp:aL):Env->Prop
 | nil:FzE env h Hp []
 | cons {t:Nat} {v v':AV} {E:Env} (hl:lkE env t=some v) (hf:Fz h Hp v v') (hr:FzE env h Hp E):FzE env h Hp ((t,v')::E)
theorem FzE.get {env E:Env} {h Hp:aL} (hf:FzE env h Hp E):∀t av,lkE E t=some av->∃v,lkE env t=some v/\Fz h Hp v av:=by
 induction hf with
 | nil=>intro t av ht;cases ht
 | cons hl hf hr ih =>
  intro k x hk
  rw [dX] at hk
  split at hk
  ·rename_i e;subst e;injection hk with hk;subst hk;exact ⟨_,hl,hf⟩
  ·exact ih k x hk
def dG3 (h:aL):aL->Prop
 | []=>True
 | (i,o)::r=>lk h i=some o/\dG3 h r
theorem aL9 {h:aL}:∀{Hp:aL},dG3 h Hp->∀id o,lk Hp id=some o->lk h id=some o
 | [],_,id,o,ho=>by cases ho
 | (i,q)::r,hs,id,o,ho=>by
  rw [bJ] at ho
  split at ho
  ·rename_i e;subst e;rw [hs.1];rw [pE ho]
  ·exact aL9 hs.2 id o ho
theorem cP9 {n:Nat} {env E:Env} {h Hp:aL} {dfs:bM} (hE:FzE env h Hp E) (hs:dG3 h Hp):cM n env h dfs n E Hp dfs:=by
 intro B sz a w hc
 obtain ⟨M,c1,c2,c3,c4⟩:=hc
 have hs:=aL9 hs
 have hext:=aB5 (B:=B) (n:=n) (M:=M) (w:=w) hs
 refine ⟨M,⟨c1.fr,fun id o hid ho=>(c1.obj id o hid (hs id o ho)).ext hext (fun _ _=>rfl),fun id id' o o' g k1 k2 k3 k4=>c1.inj id id' o o' g k1 k2 (hs id o k3) (hs id' o' k4),fun id o g k1 k2=>c1.lo id o g k1 (hs id o k2)⟩,c2,fun t av ht=>?_,c4.ext hext⟩
 obtain ⟨v,hv,hf⟩:=hE.get t av ht
 exact hf B n M w _ hs c1 (c3 t v hv)
theorem aF4 {P:Di} {ops:Dd} {sz n N:Nat} {l:Dc} {K:AK} {env E:Env} {h Hp:aL} {dfs D:bM} (hw:cM n env h dfs N E Hp D) (hx:AWL P ops sz l K N E Hp D):AWL P ops sz l K n env h dfs:=fun B a w hc=>hx B a w (hw B sz a w hc)
section ops
variable {P:Di} {tab:Tab} {ev:Evl} {h:aL} {d:Dg} {T ty:Dh} {x y:Operand} {pos:String} {aft:Df} {gd:Da} {i:Nat}
theorem bZ9 {e:TyE} {E:Nat} {hi:Option Operand} (tb:bF P tab) (hT:aP tab T=some e) (hk:e.kind = .slice E) {e':TyE} (hE:aP tab E=some e') (hhi:Bd ev 0 hi 0) (hx:ev x=some (.c (.v (.slice none 0 0)))):Still P ⟨d,.slice T x none hi none,ty,pos,aft,gd⟩ ev h (.c (.v (.slice none 0 0))):=by
 intro B dom M H w a hh hc he
 have h1:=he x _ hx
 simp only [Rep,RepC] at h1
 have hb:=lA (P:=P) (w:=w) (n:=0) (c:=0) true he (Bd.no:Bd ev 0 none 0) hhi (Ae _) (Ae _)
 have hsz:=(aK tb hE).sizeOf w
 refine ⟨_,?_,rfl⟩
 have hund:=(aK tb hT).slice hk
 simp only [C6] at hb
 simp [execOp,Instr.sliceAt,Instr.slice,h1,Sem.run_bind,run_underlying hund,hb,hsz]
theorem aR7 {e:TyE} {E:Nat} (tb:bF P tab) (hT:aP tab T=some e) (hk:e.kind = .slice E) {A:Option Addr} {n c:Nat} (hx:ev x=some (.c (.v (.slice A n c)))):Still P ⟨d,.call ⟨.builtin .cap,#[x],#[T]⟩,ty,pos,aft,gd⟩ ev h (.c (.v (.int .i64 c))):=by
 intro B dom M H w a hh hc he
 have h1:=he x _ hx
 simp only [Rep,RepC] at h1
 refine ⟨_,?_,rfl⟩
 simp [execOp,resolve,invoke,builtin,Builtin.cap_,h1,run_underlying ((aK tb hT).slice hk),goInt]
theorem iS {Ti:Dh} {w:World} (ρ:Operand->Value) {v:Value} {w':World} (hr:(Builtin.append_ #[T,Ti] ty #[ρ x,ρ y]).run P w = .ok v w'):(execOp ρ ⟨d,.call ⟨.builtin .append,#[x,y],#[T,Ti]⟩,ty,pos,aft,gd⟩).run P w = .ok (.value v) w':=by
 simp only [execOp,resolve,invoke,builtin,Sem.run_bind,Sem.run_pure,Result.andThen_ok,AQ,AD,Cw,hr]
theorem rS {Ti : Dh} {k : Dj} {e e' ei : TyE} {E size m : Nat} {I : Int} (tb : bF P tab) (hT : aP tab T = some e) (hk : e.kind = .slice E) (hs0 : zQ tab E = some size) (hE : aP tab E = some e') (hTi : aP tab Ti = some ei) (hki : ei.kind = .int k) (hs : Nat.beq e'.size size = true) (hz : Nat.beq e'.zero.length size = true) (hp : Nat.blt 0 size = true)
    (hx : ev x = some (.c (.v (.slice none 0 0)))) (hy : ev y = some (.c (.v (.int .i64 I)))) (hI : I = (m : Int)) (h0 : 0 < m) (h63 : m <= maxLen) (hb : m * e'.bytes <= 140737488355328) :
    Adds P ⟨d, .call ⟨.builtin .append, #[x, y], #[T, Ti]⟩, ty, pos, aft, gd⟩ ev h (.own i 0 m size true) [(i, .row E [])] i (i + 1) := by
  refine gF rfl fun B dom M H w a hh hcc he => ?_
  subst hI
  have h1 := he x _ hx
  have h2 := he y _ hy
  simp only [Rep, RepC] at h1 h2
  obtain ⟨ti, zv, hi, hzv, hszt, hby, hzc⟩ := jJ (aK tb hE)
  have hs' := Ac hs
  have hz' := Ac hz
  have hzs : zv.cells.size = ti.size := by rw [<- A6, hzc, hz', hszt, hs']
  have hp' : 0 < ti.size := by rw [hszt, hs']; simpa using hp
  rw [<- hby] at hb
  simp only [maxLen] at h63
  have hw : IntKind.i64.wrap (m : Int) = (m : Int) := w64 aA aA
  have c1 : ¬ ((m : Int) < 0) := by omega
  have c2 : ¬ ((281474976710656 : Int) < (m : Int) * (ti.bytes : Int)) := by
    have h3 : ((m * ti.bytes : Nat) : Int) = (m : Int) * (ti.bytes : Int) := CW _ _
    omega
  have c3 : ¬ ((m : Int) <= 0) := by omega
  have c4 : max (m : Int) 0 = (m : Int) := by omega
  have c5 : ¬ (m * ti.size = 0) := by
    have := Nat.mul_pos h0 hp'
    omega
  have hn : m ≠ 0 := by omega
  have h63' : ¬ (9223372036854775807 < (m : Int)) := by omega
  have h48' : ¬ (281474976710656 < Builtin.nextslicecap m 0 * ti.bytes) := by rw [nextslicecap_zero h0]; omega
  have hms : ¬ (m = 0 \/ ti.size = 0) := by omega
  have hr : (Builtin.append_ #[T, Ti] ty #[.slice none 0 0, .int .i64 m]).run P w = .ok (.slice (some ⟨w.heap.size, 0, none⟩) m (grownCap w m 0 E)) (w.drew.alloc (.cells (Builtin.zeroCells zv.cells m ++ Builtin.zeroCells zv.cells (grownCap w m 0 E - m)) E)) := by
    simp [Builtin.append_, run_underlying ((aK tb hT).slice hk), run_underlying ((aK tb hTi).int hki), sizeOf, typeInfo, zeroValue, hi, hzv, asInt, asIntOf, hw, c1, c2, c3, c4, c5, hn, h63', h48', hms, Question.forced, run_firstCells_none, newRow, grownCap]
  have hge := grownCap_ge w m 0 E
  have hle := grownCap_le_maxLen w m 0 E vM
  have hbl : (w.drew.alloc (.cells (Builtin.zeroCells zv.cells m ++ Builtin.zeroCells zv.cells (grownCap w m 0 E - m)) E)).heap[w.heap.size]? = some (.cells (([] : Db) ++ (Builtin.zeroCells zv.cells m ++ Builtin.zeroCells zv.cells (grownCap w m 0 E - m)).toList).toArray E (0, 0)) := by
    rw [show w.heap.size = w.drew.heap.size from rfl, heap_alloc_new]
    simp
  refine ⟨_, _, some w.heap.size, iS a.eval (by rw [h1, h2]; exact hr), ((Below.refl _ _).drew).alloc (Ae _) _, fun g hg => by injection hg with hg; omega, fun C hext hw hd hM => ⟨.inr ⟨w.heap.size, [], _, rfl, by rw [hw]; exact hbl, by simp [RepCs], by simp⟩, hd, .inr (.inl ⟨w.heap.size, _, hM, rfl, hge, hle, fun _ => ⟨E, ?_⟩⟩)⟩⟩
  unfold World.shape?
  rw [hw, hbl]
  simp only [At, Ay, Al, A6, Array.size_append, size_zeroCells, hzs, hszt, hs', <- A9]
  congr 3
  omega
end ops
end
theorem aM4 {n t size : Nat} {env : Env} {h : aL} {dfs : bM} (T : Dh) (hx : lkE env t = some (.c (.v (.slice none 0 0)))) : cM n env h dfs (n + 1) ((t, .own n 0 0 size true) :: env) ((n, .row T []) :: h) dfs := by
  intro B sz a w hc
  obtain ⟨M, c1, c2, c3, c4⟩ := hc
  have e1 : ∀ id, id < n -> lk ((n, .row T []) :: h) id = lk h id := fun id hid => by rw [bJ, Af aA]
  have e2 : lk ((n, AObj.row T []) :: h) n = some (.row T []) := by rw [bJ, Aj rfl]; rfl
  have eok : aU B (lt n) M (lk ((n, .row T []) :: h)) = aU B (lt n) M (lk h) := by
    funext b
    unfold aU
    simp only [Bu]
    exact cV4
  have h1' : ConcH B (lt n) M (lk ((n, .row T []) :: h)) w := by
    refine ⟨c1.fr, fun id o hid hH => ?_, fun id id' o o' g k1 k2 k3 k4 => c1.inj id id' o o' g k1 k2 aW4 aW2, fun id o g k1 k2 => c1.lo id o g k1 aW5⟩
    rw [eok]
    exact c1.obj id o hid yN
  let M' : Nat -> Dn := fun id => if id = n then none else M id
  have hMn : M' n = none := by simp [M']
  have hg := h1'.grow (Below.refl w.heap.size w) n (n + 1) (M' := M') (fun id hid => by
      have : ¬ id = n := by simp only [lt] at hid; omega
      simp [M', this]) (fun id k1 k2 => by simp only [lt]; omega)
    (fun id o k1 k2 k3 g hg => by obtain rfl : id = n := by omega
                                  rw [hMn] at hg; cases hg)
    (fun id id' o o' g k1 k2 k3 k4 _ _ _ _ => by omega)
    (fun hext id o k1 k2 k3 => by
      obtain rfl : id = n := by omega
      rw [e2] at k3
      injection k3 with k3
      subst k3
      exact .inl ⟨hMn, rfl⟩)
  rw [aJ0 (BB n)] at hg
  have hext : Ext (cx B n M h w) (cx B (n + 1) M' ((n, .row T []) :: h) w) := by
    have := hg.2
    rw [eok] at this
    exact this
  refine ⟨M', hg.1, c2, fun k av hk => ?_, c4.ext hext⟩
  rw [dX] at hk
  split at hk
  · rename_i e
    subst e
    injection hk with hk
    subst hk
    have := c3 _ _ hx
    simp only [Rep, RepC] at this
    exact ⟨Bj n, .inl ⟨rfl, rfl, hMn, this⟩⟩
  · exact Rep.ext hext _ _ (c3 k av hk)
theorem oU {P:Di} {sz n:Nat} {c:Code} {K:AK} {env:Env} {h:aL} {dfs:bM} (t:Nat) (T:Dh) (size:Nat) (hx:lkE env t=some (.c (.v (.slice none 0 0)))) (next:AW P sz c K (n+1) ((t,.own n 0 0 size true)::env) ((n,.row T [])::h) dfs):AW P sz c K n env h dfs:=lC (aM4 T hx) next
end Go.Av
