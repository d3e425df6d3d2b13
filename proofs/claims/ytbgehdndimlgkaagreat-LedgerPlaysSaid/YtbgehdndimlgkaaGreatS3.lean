/- Lemmas for laws of the ledger. -/
import Derived.Test.YtbgehdndimlgkaaGreatS2
set_option linter.all false
namespace Go.Av
open Go Go.RowKit
section
theorem Chain.snoc {P : Dv} {ops : Dq} {l : Dp} {env E : Env} {h H : aO} {n N : Nat} {vs : D2} {ns : Dr} (hc : Chain P ops l env h n vs ns E H N) {o : Oper} {v : AV} {Δ : aO} {N' : Nat}
    (hs : (guardA ops E o true /\ N <= N' /\ Adds P o (evT (o.looksAt ops) E) H v Δ N N' /\ (∀ id, N <= id -> id < N' -> (lk Δ id).isSome = true) /\ (∀ p ∈ Δ, N <= p.1 /\ p.1 < N')) \/ (guardA ops E o false /\ v = .c (.v undef) /\ Δ = [] /\ N' = N)) :
    ∃ vs' ns', Chain P ops (l ++ [o]) env h n vs' ns' (gJ E o.dst v) (Δ ++ H) N' := by
  induction hc with
  | nil =>
    rcases hs with ⟨h1, h2, h3, h4, h5⟩ | ⟨h1, rfl, rfl, rfl⟩
    · exact ⟨_, _, .add h1 h2 h3 h4 h5 .nil⟩
    · exact ⟨_, _, .skip h1 .nil⟩
  | add hg hn hA hcov hkeys hr ih =>
    obtain ⟨vs', ns', hch⟩ := ih hs
    exact ⟨_, _, .add hg hn hA hcov hkeys hch⟩
  | skip hg hr ih =>
    obtain ⟨vs', ns', hch⟩ := ih hs
    exact ⟨_, _, .skip hg hch⟩
def Drw (P:Dv) (l:Dp) (sz:Nat) (K:AK) (dfs:cD) (id n0:Nat) (env0:Env) (h0:aO) (m:Nat) (rest:Dp) (n:Nat) (env:Env) (h:aO):Prop :=
 ∀pre vs ns,pre++rest=l->Chain P l.toArray pre env0 h0 n0 vs ns env h n->AW P sz (.region id l.toArray true) K n0 env0 h0 dfs
section
variable {P:Dv} {l:Dp} {sz:Nat} {K:AK} {dfs:cD} {id n0 n:Nat} {env0 env:Env} {h0 h:aO} {m:Nat} {rest:Dp} {o:Oper} {v:AV}
theorem dV4 (m:Nat) (hx:Drw P l sz K dfs id n0 env0 h0 m l n0 env0 h0):AW P sz (.region id l.toArray true) K n0 env0 h0 dfs:=hx [] [] [n0] rfl .nil
theorem tX {Δ : aO} {n' : Nat} (hg : guardA l.toArray env o true) (hn : n <= n') (hA : Adds P o (evT (o.looksAt l.toArray) env) h v Δ n n') (hcov : ∀ id, n <= id -> id < n' -> (lk Δ id).isSome = true) (hkeys : ∀ p ∈ Δ, n <= p.1 /\ p.1 < n')
    (next : Drw P l sz K dfs id n0 env0 h0 m rest n' (gJ env o.dst v) (Δ ++ h)) : Drw P l sz K dfs id n0 env0 h0 (m + 1) (o :: rest) n env h := by
  intro pre vs ns hl hc
  obtain ⟨vs', ns', hch⟩ := hc.snoc (.inl ⟨hg, hn, hA, hcov, hkeys⟩)
  exact next (pre ++ [o]) vs' ns' fY hch
theorem cI4 (hg:guardA l.toArray env o false) (next:Drw P l sz K dfs id n0 env0 h0 m rest n (gJ env o.dst (.c (.v undef))) h):Drw P l sz K dfs id n0 env0 h0 (m+1) (o::rest) n env h:=by
 intro pre vs ns hl hc
 obtain ⟨vs',ns',hch⟩:=hc.snoc (.inr ⟨hg,rfl,rfl,rfl⟩)
 exact next (pre++[o]) vs' ns' fY hch
theorem bU9 (hg:guardA l.toArray env o true) (hA:Still P o (evT (o.looksAt l.toArray) env) h v) (next:Drw P l sz K dfs id n0 env0 h0 m rest n (gJ env o.dst v) h):Drw P l sz K dfs id n0 env0 h0 (m+1) (o::rest) n env h :=
 tX hg (Ah _) hA.adds (fun id h1 h2=>by omega) aU next
theorem dA3 (hg:guardA l.toArray env o true) (hA:Adds P o (evT (o.looksAt l.toArray) env) h v [] n n) (next:Drw P l sz K dfs id n0 env0 h0 m rest n (gJ env o.dst v) h):Drw P l sz K dfs id n0 env0 h0 (m+1) (o::rest) n env h :=
 tX hg (Ah _) hA (fun id h1 h2=>by omega) aU next
theorem dA4 {obj:AObj} (hlv:obj.live=some obj) (hg:guardA l.toArray env o true) (hA:Adds P o (evT (o.looksAt l.toArray) env) h v [(n,obj)] n (n+1)) (next:Drw P l sz K dfs id n0 env0 h0 m rest (n+1) (gJ env o.dst v) ((n,obj)::h)):Drw P l sz K dfs id n0 env0 h0 (m+1) (o::rest) n env h :=
 tX hg (BI _) hA (fun id h1 h2=>by
  obtain rfl:id=n:=by omega
  rw [cA,Ak rfl,hlv];rfl) aU next
theorem dA2 (hm:P.follows .mixedOrders=true) (hB:tW l (l.length-rest.length)=true) (hsz:vW (l.take (l.length-rest.length)) sz=true) (hk0:aJ2 h0 n0=true) (next:AWL P l.toArray sz rest K n env h dfs):Drw P l sz K dfs id n0 env0 h0 0 rest n env h:=by
 intro pre vs ns hl hc
 have hlen:l.length-rest.length=pre.length:=by rw [<- hl];simp
 rw [hlen] at hB hsz
 have ht:l.take pre.length=pre:=by rw [<- hl];simp
 have hd:l.drop pre.length=rest:=by rw [<- hl];simp
 exact cX9 pre.length hm hB hsz hk0 (by rw [ht];exact hc) (by rw [hd];exact next)
variable {d:Dt} {ty:Du} {pos:String} {aft:Ds} {gd:Dn} {f:FuncId} {xs:Dy} {ats:Dx} {r:AV} {hr:aO} {nr:Nat}
theorem cU4 {k nr:Nat}:∀{h:aO},h.all (fun p=>Nat.blt p.1 nr)=true->∀p∈shH k h,k<=p.1/\p.1<k+nr
 | [],_,p,hp=>by cases hp
 | q::r,hb,p,hp=>by
  simp only [BA,Ar,AJ] at hb
  rw [shH] at hp
  rcases A6.1 hp with rfl|hp
  ·exact ⟨by simp,by simp;exact hb.1⟩
  ·exact cU4 (by simpa using hb.2) p hp
theorem aV5 {cs cs' : D1} (hg : guardA l.toArray env ⟨d, .call ⟨.value (.func f), xs.toArray, ats⟩, ty, pos, aft, gd⟩ true) (hb : Body P f) (hx : eX (evT (Oper.looksAt l.toArray ⟨d, .call ⟨.value (.func f), xs.toArray, ats⟩, ty, pos, aft, gd⟩) env) xs = some cs) (hac : AC P f cs' r hr nr) (hcv : CvL cs cs') (hcov : aT7 hr nr = true)
    (next : Drw P l sz K dfs id n0 env0 h0 m rest (n + nr) (gJ env d (r.sh n)) (shH n hr ++ h)) : Drw P l sz K dfs id n0 env0 h0 (m + 1) (⟨d, .call ⟨.value (.func f), xs.toArray, ats⟩, ty, pos, aft, gd⟩ :: rest) n env h :=
  tX hg (CG _ _) (fG hb hx hac hcv hcov) (fun id h1 h2 => by
    have := (rU hcov (id - n)).1 aA
    obtain ⟨o, ho⟩ := AN.1 this
    rw [show id = n + (id - n) by omega, aF1, ho]; rfl) (cU4 (by simp only [aT7, Ar] at hcov; exact hcov.1)) next
end
def AWR (P:Dv) (sz:Nat) (c:Code) (K:AK):Nat->Nat->Env->aO->cD->Prop
 | 0,_,_,_,_=>False
 | k+1,n,env,h,dfs=>AW P sz c (bR7 (fun n env h dfs=>AWR P sz c K k n env h dfs) K) n env h dfs
theorem cC4 {P:Dv} {sz k n:Nat} {c:Code} {K:AK} {env:Env} {h:aO} {dfs:cD} (hx:AW P sz c (bR7 (AWR P sz c K k) K) n env h dfs):AWR P sz c K (k+1) n env h dfs:=hx
theorem rS {P:Dv} {sz n:Nat} {c:Code} {K:AK} {env:Env} {h:aO} {dfs:cD} (k:Nat) (hx:AWR P sz c K k n env h dfs):AW P sz (.loop c) K n env h dfs:=by
 intro B a w hc
 refine yC k ?_
 induction k generalizing n env h dfs a w with
 | zero=>exact hx.elim
 | succ k ih =>
  rw [aQ7]
  refine oP (hx B a w hc) fun e a' w' hq=>?_
  obtain ⟨n',env',h',d',hk,hc'⟩:=hq
  cases e with
  | normal=>exact ih hk a' w' hc'
  | _=>exact ⟨n',env',h',d',hk,hc'⟩
def qW (place:Nat->Option (Nat × Nat)) (cs:D2):List (Nat × D2)->Option (D2)
 | []=>some cs
 | (i,vs)::r=>match place i with
  | some (off,size)=>match Nat.beq vs.length size&&Nat.ble (off+vs.length) cs.length with
   | true=>qW place (lay cs off vs) r
   | false=>none
  | none=>none
inductive CellsA:AV->D2->Prop
 | agg {v:AV} {xs:D2} (h:Parts v xs):CellsA v xs
 | one {v:AV} (h:v.one=true):CellsA v [v]
theorem CellsA.rep {C:Cx} {v:AV} {xs:D2} (h:CellsA v xs) {u:Value} (hr:Rep C v u):RepL C xs u.cells.toList:=by
 cases h with
 | agg h=>obtain ⟨us,rfl,h2⟩:=h.rep hr;simpa [Value.cells] using h2
 | one h=>rw [(hr.one h).2];exact ⟨u,[],rfl,hr,rfl⟩
inductive CellsL:D2->List (D2)->Prop
 | nil:CellsL [] []
 | cons {v:AV} {xs:D2} {l:D2} {ls:List (D2)} (h:CellsA v xs) (hl:CellsL l ls):CellsL (v::l) (xs::ls)
theorem vY {C : Cx} (place : Nat -> Option (Nat × Nat)) : ∀ {ps : List (Nat × Value)} {ks : Dr} {vs : D2} {ls : List (D2)} {cs out : D2} {us : Do}, CellsL vs ls -> ps.map (·.1) = ks -> RepL C vs (ps.map (·.2)) -> RepL C cs us -> qW place cs (ks.zip ls) = some out ->
    ∃ us', Instr.fill place us.toArray ps = some us'.toArray /\ RepL C out us'
  | [], ks, vs, ls, cs, out, us, hc, hk, hv, hcs, hf => by
    simp at hk; subst hk
    simp [qW] at hf; subst hf
    exact ⟨us, rfl, hcs⟩
  | (k, u) :: ps, ks, vs, ls, cs, out, us, hc, hk, hv, hcs, hf => by
    simp only [AH] at hk hv
    subst hk
    cases hc with
    | nil => obtain ⟨h1⟩ := hv
    | @cons v xs l ls h hl =>
      simp only [RepL] at hv
      obtain ⟨u', us'', he, h1, h2⟩ := hv
      injection he with he1 he2
      subst he1 he2
      simp only [List.zip_cons_cons, qW] at hf
      split at hf
      · rename_i off size hp
        split at hf
        · rename_i hb
          simp only [Ar] at hb
          have hlen := (h.rep h1).length
          have e1 := Ae hb.1
          have e2 := A7 hb.2
          have hul := hcs.length
          have hcs' : RepL C (lay cs off xs) (lay us off u.cells.toList) := by
            unfold lay
            rw [hlen]
            exact ((hcs.take off).append (h.rep h1)).append (hcs.drop (off + xs.length))
          obtain ⟨us', h3, h4⟩ := vY place hl rfl h2 hcs' hf
          refine ⟨us', ?_, h4⟩
          rw [aW3 (vs := u.cells.toList) (off := off) rfl (by rw [hlen, e1]; exact hp) (by rw [hlen, hul]; exact e2)]
          exact h3
        · cases hf
      · cases hf
section build
variable {P:Dv} {tab:Tab} {ev:Evl} {h:aO} {d:Dt} {T ty:Du} {pos:String} {aft:Ds} {gd:Dn}
def lK (tab:Tab) (fs:List (Nat × Du)) (i:Nat):Option (Nat × Nat):=match fs[i]? with
 | some (off,t)=>match aS tab t with|some e=>some (off,e.size)|none=>none
 | none=>none
theorem xQ (w : World) : ∀ (fs : List Field) (g : List (Nat × Du)), fs.map (fun f => (f.offset, f.type)) = g -> (∀ (i : Nat) (p : Nat × Du), g[i]? = some p -> ∃ e, aS tab p.2 = some e) -> bQ P tab ->
    ∃ ps : List (Nat × Nat), (fs.mapM (fun (f : Field) => (do pure (f.offset, <- sizeOf f.type) : Sem (Nat × Nat)))).run P w = .ok ps w /\ ∀ i, ps[i]? = lK tab g i
  | [], g, hg, hl, tb => by
    simp at hg; subst hg
    exact ⟨[], by simp, fun i => by simp [lK]⟩
  | f :: fs, g, hg, hl, tb => by
    simp only [AH] at hg
    subst hg
    obtain ⟨e, he⟩ := hl 0 (f.offset, f.type) rfl
    obtain ⟨ps, h1, h2⟩ := xQ w fs _ rfl (fun i p hp => hl (i + 1) p (by simpa using hp)) tb
    refine ⟨(f.offset, e.size) :: ps, ?_, fun i => ?_⟩
    · simp only [Ct, Sem.run_bind, (aM tb he).sizeOf w, Result.andThen_ok, Sem.run_pure, h1]
    · cases i with
      | zero => simp only [lK, Bx]; simp only at he; rw [he]
      | succ i => simpa [lK] using h2 i
theorem nH (tb : bQ P tab) {e : TyE} {fs : List (Nat × Du)} {ps : List (Nat × Operand)} {vs : D2} {ls : List (D2)} {out : D2} {v : AV} (hT : aS tab T = some e) (hk : e.kind = .struct fs) (hfs : fs.all (fun p => (aS tab p.2).isSome) = true) (hx : pQ ev (ps.map (·.2)) = some vs) (hcl : CellsL vs ls) (hf : qW (lK tab fs) (zav e.zero) ((ps.map (·.1)).zip ls) = some out) (hv : IsAgg out v) :
    Still P ⟨d, .build T ps.toArray, ty, pos, aft, gd⟩ ev h v := by
  intro B dom M H w a hh hc he
  have hargs := gD he (mB hx)
  obtain ⟨fields, h1, h2⟩ := (aM tb hT).struct hk
  obtain ⟨ti, hi, hs, hby, z, hz, hzc⟩ := (aM tb hT).parts
  obtain ⟨qs, h3, h4⟩ := xQ (P := P) (tab := tab) w fields.toList fs h2 (fun i p hp => AN.1 (Aw.1 hfs p (Af hp))) tb
  obtain ⟨us', h5, h6⟩ := vY (ps := ps.map fun p => (p.1, a.eval p.2)) (ks := ps.map (·.1)) (lK tab fs) hcl aU (by rw [BT]; rw [BT] at hargs; exact hargs) (aS2 e.zero) hf
  refine ⟨.agg us'.toArray, ?_, hv.rep h6⟩
  have hm : (fields.mapM fun (f : Field) => (do pure (f.offset, <- sizeOf f.type) : Sem (Nat × Nat))).run P w = .ok qs.toArray w := by
    rw [Array.mapM_eq_mapM_toList, map_eq_pure_bind, Sem.run_bind, h3]
    rfl
  have hplace : (fun i => qs.toArray[i]?) = lK tab fs := by
    funext i; rw [<- h4 i]; simp
  simp only [execOp, Instr.build, Sem.run_bind, zeroValue, typeInfo, run_program, Result.andThen_ok, hi, Sem.run_pure, hz, run_underlying h1, hm]
  rw [hplace]
  rw [show (Array.map (fun x => (x.fst, a.eval x.snd)) ps.toArray).toList = ps.map fun p => (p.1, a.eval p.2) by simp]
  rw [show z.cells = e.zero.toArray by rw [<- hzc]]
  rw [h5]
  rfl
theorem aE1 (tb : bQ P tab) {e e' : TyE} {n E : Nat} {ps : List (Nat × Operand)} {vs : D2} {ls : List (D2)} {out : D2} {v : AV} (hT : aS tab T = some e) (hk : e.kind = .array n E) (hE : aS tab E = some e') (hx : pQ ev (ps.map (·.2)) = some vs) (hcl : CellsL vs ls) (hf : qW (fun i => some (i * e'.size, e'.size)) (zav e.zero) ((ps.map (·.1)).zip ls) = some out) (hv : IsAgg out v) :
    Still P ⟨d, .build T ps.toArray, ty, pos, aft, gd⟩ ev h v := by
  intro B dom M H w a hh hc he
  have hargs := gD he (mB hx)
  have h1 := (aM tb hT).array hk
  obtain ⟨ti, hi, hs, hby, z, hz, hzc⟩ := (aM tb hT).parts
  obtain ⟨us', h5, h6⟩ := vY (ps := ps.map fun p => (p.1, a.eval p.2)) (ks := ps.map (·.1)) (fun i => some (i * e'.size, e'.size)) hcl aU (by rw [BT]; rw [BT] at hargs; exact hargs) (aS2 e.zero) hf
  refine ⟨.agg us'.toArray, ?_, hv.rep h6⟩
  simp only [execOp, Instr.build, Sem.run_bind, zeroValue, typeInfo, run_program, Result.andThen_ok, hi, Sem.run_pure, hz, run_underlying h1, (aM tb hE).sizeOf w]
  rw [show (Array.map (fun x => (x.fst, a.eval x.snd)) ps.toArray).toList = ps.map fun p => (p.1, a.eval p.2) by simp]
  rw [show z.cells = e.zero.toArray by rw [<- hzc]]
  rw [h5]
  rfl
end build
end
section
def IsW (p:Int) (x:BitVec 64):Prop:=p=(x.toNat:Int)
theorem nD {x:BitVec 64}:IsW (x.toNat:Int) x:=rfl
theorem dE7 {n:Nat} (h:Nat.blt n 18446744073709551616=true):IsW (n:Int) (BitVec.ofNat 64 n):=by
 have:n<18446744073709551616:=by simpa using h
 simp only [IsW,BitVec.toNat_ofNat]
 rw [BN aA]
theorem IsW.ofInt {p:Int} {x:BitVec 64} (h:IsW p x):BitVec.ofInt 64 p=x:=by
 unfold IsW at h
 subst h
 apply BitVec.eq_of_toNat_eq
 simp only [BX]
 have:=x.isLt
 omega
theorem bS3 (x:BitVec 64):IntKind.u64.wrap (x.toNat:Int)=(x.toNat:Int):=by
 have:=x.isLt
 rw [IntKind.wrap_u64];omega
section
variable {P:Dv} {tab:Tab} {ev:Evl} {h:aO} {d:Dt} {T ty T':Du} {X Y:Operand} {pos:String} {aft:Ds} {gd:Dn} {p q:Int} {x y:BitVec 64} (hX:ev X=some (.c (.v (.int .u64 p)))) (hp:IsW p x)
include hX hp
section
variable (hY:ev Y=some (.c (.v (.int .u64 q)))) (hq:IsW q y)
include hY hq
theorem eD4:Still P ⟨d,.binOp .xor T X Y T',ty,pos,aft,gd⟩ ev h (.c (.v (.int .u64 ((x ^^^ y).toNat:Int)))) :=
 bR3 hX hY (by show IntKind.u64.wrap ((BitVec.ofInt 64 p ^^^ BitVec.ofInt 64 q).toNat:Int)=_;rw [hp.ofInt,hq.ofInt,bS3])
theorem eC3:Still P ⟨d,.binOp .and T X Y T',ty,pos,aft,gd⟩ ev h (.c (.v (.int .u64 ((x &&& y).toNat:Int)))) :=
 aD9 hX hY (by show IntKind.u64.wrap ((BitVec.ofInt 64 p &&& BitVec.ofInt 64 q).toNat:Int)=_;rw [hp.ofInt,hq.ofInt,bS3])
theorem eO2:Still P ⟨d,.binOp .or T X Y T',ty,pos,aft,gd⟩ ev h (.c (.v (.int .u64 ((x ||| y).toNat:Int)))) :=
 bZ3 hX hY (by show IntKind.u64.wrap ((BitVec.ofInt 64 p ||| BitVec.ofInt 64 q).toNat:Int)=_;rw [hp.ofInt,hq.ofInt,bS3])
theorem eC2:Still P ⟨d,.binOp .add T X Y T',ty,pos,aft,gd⟩ ev h (.c (.v (.int .u64 ((x+y).toNat:Int)))) :=
 dU5 hX hY (by unfold IsW at hp hq;subst hp hq;rw [IntKind.wrap_u64,BitVec.toNat_add];omega)
theorem eC8:Still P ⟨d,.binOp .mul T X Y T',ty,pos,aft,gd⟩ ev h (.c (.v (.int .u64 ((x*y).toNat:Int)))) :=
 dU6 hX hY (by unfold IsW at hp hq;subst hp hq;rw [IntKind.wrap_u64,BitVec.toNat_mul,<- Dh];omega)
theorem eD2:Still P ⟨d,.binOp .sub T X Y T',ty,pos,aft,gd⟩ ev h (.c (.v (.int .u64 ((x-y).toNat:Int)))) :=
 dU8 hX hY (by unfold IsW at hp hq;subst hp hq;have:=x.isLt;have:=y.isLt;rw [IntKind.wrap_u64,BitVec.toNat_sub];omega)
end
theorem aE2:Still P ⟨d,.unOp .xor T X,ty,pos,aft,gd⟩ ev h (.c (.v (.int .u64 ((~~~x).toNat:Int)))) :=
 sK hX (by
  show IntKind.u64.wrap ((BitVec.ofInt 64 18446744073709551615 ^^^ BitVec.ofInt 64 p).toNat:Int)=_
  rw [hp.ofInt,show BitVec.ofInt 64 18446744073709551615=BitVec.allOnes 64 by decide,CR,bS3])
section
variable {k:Dw} {r:Int} {m:Nat} (hY:ev Y=some (.c (.v (.int k r)))) (hr:r=(m:Int))
include k r m hY hr
theorem wT:Still P ⟨d,.binOp .shl T X Y T',ty,pos,aft,gd⟩ ev h (.c (.v (.int .u64 ((x <<< m).toNat:Int)))) :=
 bA5 hX hY aA (by
  unfold IsW at hp;subst hp hr
  simp only [AS,show IntKind.u64.bits=64 from rfl]
  rw [IntKind.wrap_u64,C4,Cw]
  rcases AE m 64 with h|h
  ·rw [B0 aA]
   rw [show ((x.toNat:Int)*2 ^ m)=((x.toNat*2 ^ m:Nat):Int) by simp]
   omega
  ·rw [CH h,show ((x.toNat:Int)*2 ^ 64)=((x.toNat*2 ^ 64:Nat):Int) by simp]
   have h1:x.toNat*2 ^ m=(x.toNat*2 ^ (m-64))*2 ^ 64:=by rw [Nat.mul_assoc,<- Nat.pow_add];congr 2;omega
   have h2:x.toNat*2 ^ m%2 ^ 64=0:=by rw [h1];exact Nat.mul_mod_left _ _
   rw [h2]
   have h3:x.toNat*2 ^ 64%2 ^ 64=0:=Nat.mul_mod_left _ _
   omega)
theorem tJ:Still P ⟨d,.binOp .shr T X Y T',ty,pos,aft,gd⟩ ev h (.c (.v (.int .u64 ((x >>> m).toNat:Int)))) :=
 bA6 hX hY aA (by
  unfold IsW at hp;subst hp hr
  simp only [AS,show IntKind.u64.bits=64 from rfl]
  rw [BitVec.toNat_ushiftRight,Nat.shiftRight_eq_div_pow,Int.fdiv_eq_ediv_of_nonneg _ (by exact Int.pow_nonneg aN)]
  rcases AE m 64 with h|h
  ·rw [B0 aA];simp
  ·rw [CH h]
   have:=x.isLt
   have h1:x.toNat / 2 ^ m=0:=Db (A3 this (Ce aN h))
   have h2:x.toNat / 2 ^ 64=0:=Db this
   rw [h1]
   rw [show ((2:Int) ^ 64)=((2 ^ 64:Nat):Int) by simp,<- Int.natCast_ediv,h2])
end
theorem aE5 (tb:bQ P tab) {S:Du} {e es:TyE} (hS:aS tab S=some es) (hT:aS tab T=some e) (hk:e.kind = .int .u8):Still P ⟨d,.convert S T X,ty,pos,aft,gd⟩ ev h (.c (.v (.int .u8 ((UInt8.ofBitVec (x.setWidth 8)).toNat:Int)))) :=
 gB tb hS hT hk hX (by
  unfold IsW at hp;subst hp
  have:=x.isLt
  rw [IntKind.wrap_u8]
  simp)
end
section
variable {P:Dv} {tab:Tab} {ev:Evl} {h:aO} {d:Dt} {T ty S:Du} {X:Operand} {pos:String} {aft:Ds} {gd:Dn}
include P tab ev h d T ty S X pos aft gd
theorem aE3 {b:UInt8} (hX:ev X=some (.c (.v (.int .u8 (b.toNat:Int))))) (tb:bQ P tab) {e es:TyE} (hS:aS tab S=some es) (hT:aS tab T=some e) (hk:e.kind = .int .u64):Still P ⟨d,.convert S T X,ty,pos,aft,gd⟩ ev h (.c (.v (.int .u64 ((b.toBitVec.setWidth 64).toNat:Int)))) :=
 gB tb hS hT hk hX (by
  have:=b.toNat_lt
  rw [IntKind.wrap_u64]
  simp
  omega)
theorem aE4 {m:Int} {k:Dw} (hX:ev X=some (.c (.v (.int k m)))) (tb:bQ P tab) {e es:TyE} (hS:aS tab S=some es) (hT:aS tab T=some e) (hk:e.kind = .int .u64):Still P ⟨d,.convert S T X,ty,pos,aft,gd⟩ ev h (.c (.v (.int .u64 ((BitVec.ofInt 64 m).toNat:Int)))) :=
 gB tb hS hT hk hX (by
  rw [IntKind.wrap_u64]
  simp only [BX]
  omega)
end
end
end Go.Av
namespace Go.Av
open Go
section
variable {P:Dv} {ops:Dq} {sz n n0 i m:Nat} {K:AK} {env env0:Env} {h h0:aO} {dfs:cD} {rest l:Dp} {d:Dt} {ty:Du} {pos:String} {aft:Ds} {gd:Dn} {ev:Evl} {v:AV}
theorem aW {T:Du} (hh:AWL P ops sz (⟨d,.alloc T,ty,pos,aft,gd⟩::rest) K n env h dfs):AWL P ops sz (⟨d,.alloc T,ty,pos,aft,gd⟩::rest) K n env h dfs:=hh
theorem bM {T:Du} {x:Operand} (hh:AWL P ops sz (⟨d,.box T x,ty,pos,aft,gd⟩::rest) K n env h dfs):AWL P ops sz (⟨d,.box T x,ty,pos,aft,gd⟩::rest) K n env h dfs:=hh
theorem oC {T:Du} {ps:Array (Nat × Operand)} (hh:AWL P ops sz (⟨d,.build T ps,ty,pos,aft,gd⟩::rest) K n env h dfs):AWL P ops sz (⟨d,.build T ps,ty,pos,aft,gd⟩::rest) K n env h dfs:=hh
theorem pD {T:Du} {k:Nat} {ps:Array (Nat × Operand)} (hh:AWL P ops sz (⟨d,.buildSlice T k ps,ty,pos,aft,gd⟩::rest) K n env h dfs):AWL P ops sz (⟨d,.buildSlice T k ps,ty,pos,aft,gd⟩::rest) K n env h dfs:=hh
theorem fS {T:Du} {x y:Operand} (hh:AWL P ops sz (⟨d,.store T x y,ty,pos,aft,gd⟩::rest) K n env h dfs):AWL P ops sz (⟨d,.store T x y,ty,pos,aft,gd⟩::rest) K n env h dfs:=hh
theorem cM6 {T:Du} {x y:Operand} (hh:AWL P ops sz (⟨d,.makeSlice T x y,ty,pos,aft,gd⟩::rest) K n env h dfs):AWL P ops sz (⟨d,.makeSlice T x y,ty,pos,aft,gd⟩::rest) K n env h dfs:=hh
theorem wG {b:Builtin} {xs:Array Operand} {ts:Dx} (hh:AWL P ops sz (⟨d,.call ⟨.builtin b,xs,ts⟩,ty,pos,aft,gd⟩::rest) K n env h dfs):AWL P ops sz (⟨d,.call ⟨.builtin b,xs,ts⟩,ty,pos,aft,gd⟩::rest) K n env h dfs:=hh
theorem aF {f:FuncId} {xs:Array Operand} {ts:Dx} (hh:AWL P ops sz (⟨d,.call ⟨.value (.func f),xs,ts⟩,ty,pos,aft,gd⟩::rest) K n env h dfs):AWL P ops sz (⟨d,.call ⟨.value (.func f),xs,ts⟩,ty,pos,aft,gd⟩::rest) K n env h dfs:=hh
theorem gG {f:FuncId} {xs:Array Operand} {ts:Dx} (hh:Drw P l sz K dfs i n0 env0 h0 m (⟨d,.call ⟨.value (.func f),xs,ts⟩,ty,pos,aft,gd⟩::rest) n env h):Drw P l sz K dfs i n0 env0 h0 m (⟨d,.call ⟨.value (.func f),xs,ts⟩,ty,pos,aft,gd⟩::rest) n env h:=hh
theorem bB {q:Nat} {xs:Array Operand} {ts:Dx} (hh:AWL P ops sz (⟨d,.call ⟨.value (.tmp q),xs,ts⟩,ty,pos,aft,gd⟩::rest) K n env h dfs):AWL P ops sz (⟨d,.call ⟨.value (.tmp q),xs,ts⟩,ty,pos,aft,gd⟩::rest) K n env h dfs:=hh
theorem bW0 {c:Call} (hh:AWL P ops sz (⟨d,.defer c,ty,pos,aft,gd⟩::rest) K n env h dfs):AWL P ops sz (⟨d,.defer c,ty,pos,aft,gd⟩::rest) K n env h dfs:=hh
theorem cM8 {x:Operand} {a b:Code} (hh:AW P sz (.cond x a b) K n env h dfs):AW P sz (.cond x a b) K n env h dfs:=hh
theorem aQ {a:Dq} (hh:AW P sz (.region i a true) K n env h dfs):AW P sz (.region i a true) K n env h dfs:=hh
theorem uJ {c:Code} (hh:AW P sz (.loop c) K n env h dfs):AW P sz (.loop c) K n env h dfs:=hh
theorem bP {o:Oper} (hh:AWL P ops sz (o::rest) K n env h dfs):AWL P ops sz (o::rest) K n env h dfs:=hh
theorem cM5 {op:Op} {g:Nat × Bool} (hh:AWL P ops sz (⟨d,op,ty,pos,aft,some g⟩::rest) K n env h dfs):AWL P ops sz (⟨d,op,ty,pos,aft,some g⟩::rest) K n env h dfs:=hh
end
mutual
def AV.noId:AV->Bool
 | .c _ | .ip _ _ | .junk=>true
 | .ref _ _ | .own _ _ _ _ _ | .yld _ | .mh _ | .bm _ _=>false
 | .agg xs=>AV.noIds xs
 | .tup xs=>AV.noIds xs
 | .fn _ xs=>AV.noIds xs
def AV.noIds:D2->Bool
 | []=>true
 | x::xs=>AV.noId x&&AV.noIds xs
end
mutual
theorem AV.sh_noId (k:Nat):∀(x:AV),x.noId=true->x.sh k=x
 | .c _,_=>rfl
 | .ip _ _,_=>rfl
 | .junk,_=>rfl
 | .ref _ _,h=>by cases h
 | .own _ _ _ _ _,h=>by cases h
 | .yld _,h=>by cases h
 | .mh _,h=>by cases h
 | .bm _ _,h=>by cases h
 | .agg xs,h=>by rw [AV.sh,AV.shs_noId k xs h]
 | .tup xs,h=>by rw [AV.sh,AV.shs_noId k xs h]
 | .fn _ xs,h=>by rw [AV.sh,AV.shs_noId k xs h]
theorem AV.shs_noId (k:Nat):∀(xs:D2),AV.noIds xs=true->AV.shs k xs=xs
 | [],_=>rfl
 | x::xs,h=>by
  simp only [AV.noIds,Ar] at h
  rw [AV.shs,AV.sh_noId k x h.1,AV.shs_noId k xs h.2]
end
section
variable {P:Dv} {ops:Dq} {sz n n0 i m t:Nat} {K:AK} {env env0:Env} {h h0:aO} {dfs:cD} {rest l:Dp} {op:Op} {ty:Du} {pos:String} {aft:Ds} {gd:Dn} {v:AV}
theorem cX4 (hg:guardA ops env ⟨some t,op,ty,pos,aft,gd⟩ true) (hd:Nat.blt t sz=true) (hA:Still P ⟨some t,op,ty,pos,aft,gd⟩ (evA env) h v) (next:AWL P ops sz rest K n ((t,v)::env) h dfs):AWL P ops sz (⟨some t,op,ty,pos,aft,gd⟩::rest) K n env h dfs:=bT5 hg hd hA next
theorem dA1 (hg:guardA l.toArray env ⟨some t,op,ty,pos,aft,gd⟩ true) (hA:Still P ⟨some t,op,ty,pos,aft,gd⟩ (evT (Oper.looksAt l.toArray ⟨some t,op,ty,pos,aft,gd⟩) env) h v) (next:Drw P l sz K dfs i n0 env0 h0 m rest n ((t,v)::env) h):Drw P l sz K dfs i n0 env0 h0 (m+1) (⟨some t,op,ty,pos,aft,gd⟩::rest) n env h:=bU9 hg hA next
theorem eE7 {obj:AObj} (hlv:obj.live=some obj) (hg:guardA ops env ⟨some t,op,ty,pos,aft,gd⟩ true) (hd:Nat.blt t sz=true) (hA:Adds P ⟨some t,op,ty,pos,aft,gd⟩ (evA env) h v [(n,obj)] n (n+1)) (next:AWL P ops sz rest K (n+1) ((t,v)::env) ((n,obj)::h) dfs):AWL P ops sz (⟨some t,op,ty,pos,aft,gd⟩::rest) K n env h dfs:=cY6 hlv hg hd hA next
theorem eG3 {obj:AObj} (hlv:obj.live=some obj) (hg:guardA l.toArray env ⟨some t,op,ty,pos,aft,gd⟩ true) (hA:Adds P ⟨some t,op,ty,pos,aft,gd⟩ (evT (Oper.looksAt l.toArray ⟨some t,op,ty,pos,aft,gd⟩) env) h v [(n,obj)] n (n+1)) (next:Drw P l sz K dfs i n0 env0 h0 m rest (n+1) ((t,v)::env) ((n,obj)::h)):Drw P l sz K dfs i n0 env0 h0 (m+1) (⟨some t,op,ty,pos,aft,gd⟩::rest) n env h:=dA4 hlv hg hA next
theorem bD1 (hg:guardA ops env ⟨some t,op,ty,pos,aft,gd⟩ false) (hd:Nat.blt t sz=true) (next:AWL P ops sz rest K n ((t,.c (.v undef))::env) h dfs):AWL P ops sz (⟨some t,op,ty,pos,aft,gd⟩::rest) K n env h dfs:=cC3 hg hd next
theorem bE4 (hg:guardA l.toArray env ⟨some t,op,ty,pos,aft,gd⟩ false) (next:Drw P l sz K dfs i n0 env0 h0 m rest n ((t,.c (.v undef))::env) h):Drw P l sz K dfs i n0 env0 h0 (m+1) (⟨some t,op,ty,pos,aft,gd⟩::rest) n env h:=cI4 hg next
variable {f:FuncId} {xs:Dy} {ats:Dx} {r:AV} {hr:aO} {nr:Nat} {cs cs':D1}
theorem cX2 (hg : guardA ops env ⟨some t, .call ⟨.value (.func f), xs.toArray, ats⟩, ty, pos, aft, gd⟩ true) (hd : Nat.blt t sz = true) (hb : Body P f) (hx : eX (evA env) xs = some cs) (hac : AC P f cs' r [] 0) (hcv : CvL cs cs') (hid : r.noId = true)
    (next : AWL P ops sz rest K n ((t, r) :: env) h dfs) : AWL P ops sz (⟨some t, .call ⟨.value (.func f), xs.toArray, ats⟩, ty, pos, aft, gd⟩ :: rest) K n env h dfs :=
  qE hg hd hb hx hac hcv rfl (by rw [AV.sh_noId _ _ hid]; exact next)
theorem cZ8 (hg : guardA l.toArray env ⟨some t, .call ⟨.value (.func f), xs.toArray, ats⟩, ty, pos, aft, gd⟩ true) (hb : Body P f) (hx : eX (evT (Oper.looksAt l.toArray ⟨some t, .call ⟨.value (.func f), xs.toArray, ats⟩, ty, pos, aft, gd⟩) env) xs = some cs) (hac : AC P f cs' r [] 0) (hcv : CvL cs cs') (hid : r.noId = true)
    (next : Drw P l sz K dfs i n0 env0 h0 m rest n ((t, r) :: env) h) : Drw P l sz K dfs i n0 env0 h0 (m + 1) (⟨some t, .call ⟨.value (.func f), xs.toArray, ats⟩, ty, pos, aft, gd⟩ :: rest) n env h :=
  aV5 hg hb hx hac hcv rfl (by rw [AV.sh_noId _ _ hid]; exact next)
theorem dF6 (hg : guardA ops env ⟨none, .call ⟨.value (.func f), xs.toArray, ats⟩, ty, pos, aft, gd⟩ true) (hb : Body P f) (hx : eX (evA env) xs = some cs) (hac : AC P f cs' r [] 0) (hcv : CvL cs cs')
    (next : AWL P ops sz rest K n env h dfs) : AWL P ops sz (⟨none, .call ⟨.value (.func f), xs.toArray, ats⟩, ty, pos, aft, gd⟩ :: rest) K n env h dfs :=
  qE hg rfl hb hx hac hcv rfl next
theorem cX3 {T : Du} {rc : D1} {k size : Nat} (hg : guardA ops env ⟨some t, .call ⟨.value (.func f), xs.toArray, ats⟩, ty, pos, aft, gd⟩ true) (hd : Nat.blt t sz = true) (hb : Body P f) (hx : eX (evA env) xs = some cs) (hac : AC P f cs' (.own 0 0 k size true) [(0, .row T rc)] 1) (hcv : CvL cs cs')
    (next : AWL P ops sz rest K (n + 1) ((t, .own n 0 k size true) :: env) ((n, .row T rc) :: h) dfs) : AWL P ops sz (⟨some t, .call ⟨.value (.func f), xs.toArray, ats⟩, ty, pos, aft, gd⟩ :: rest) K n env h dfs :=
  qE hg hd hb hx hac hcv rfl next
theorem cZ9 {T : Du} {rc : D1} {k size : Nat} (hg : guardA l.toArray env ⟨some t, .call ⟨.value (.func f), xs.toArray, ats⟩, ty, pos, aft, gd⟩ true) (hb : Body P f) (hx : eX (evT (Oper.looksAt l.toArray ⟨some t, .call ⟨.value (.func f), xs.toArray, ats⟩, ty, pos, aft, gd⟩) env) xs = some cs) (hac : AC P f cs' (.own 0 0 k size true) [(0, .row T rc)] 1) (hcv : CvL cs cs')
    (next : Drw P l sz K dfs i n0 env0 h0 m rest (n + 1) ((t, .own n 0 k size true) :: env) ((n, .row T rc) :: h)) : Drw P l sz K dfs i n0 env0 h0 (m + 1) (⟨some t, .call ⟨.value (.func f), xs.toArray, ats⟩, ty, pos, aft, gd⟩ :: rest) n env h :=
  aV5 hg hb hx hac hcv rfl next
variable {tab:Tab} {T:Du} {x y:Operand}
theorem yV (tb : bQ P tab) {e e' : TyE} {E size m k id : Nat} {vy : AV} {cs ys : D1} (hg : guardA ops env ⟨some t, .call ⟨.builtin .append, #[x, y], #[T, T]⟩, ty, pos, aft, gd⟩ true) (hd : Nat.blt t sz = true) (hT : aS tab T = some e) (hk : e.kind = .slice E) (hE : aS tab E = some e') (hs : Nat.beq e'.size size = true) (hz : Nat.beq e'.zero.length size = true)
    (hx : evA env x = some (.own id 0 m size true)) (ho : lk h id = some (.row E cs)) (hcl : cs.length = m * size) (hy : evA env y = some vy) (hf : Src h vy size k ys) (h63 : m + k <= maxLen) (hb : (m + k) * e'.bytes <= 140737488355328)
    (next : AWL P ops sz rest K (n + 1) ((t, .own n 0 (m + k) size true) :: env) ((n, .row E (cs ++ ys)) :: (id, .dead) :: h) dfs) :
    AWL P ops sz (⟨some t, .call ⟨.builtin .append, #[x, y], #[T, T]⟩, ty, pos, aft, gd⟩ :: rest) K n env h dfs := bD5 tb hg hd hT hk hE hs hz hx ho hcl hy hf h63 hb next
theorem dV2 (tb : bQ P tab) {e e' : TyE} {E T' Tb size k m id off : Nat} {full : Bool} {vy : AV} {cs ys : D1} (hg : guardA ops env ⟨some t, .call ⟨.builtin .copy, #[x, y], #[T, T']⟩, ty, pos, aft, gd⟩ true) (hd : Nat.blt t sz = true) (hT : aS tab T = some e) (hk : e.kind = .slice E) (hE : aS tab E = some e') (hs : Nat.beq e'.size size = true)
    (hx : evA env x = some (.own id off k size full)) (ho : lk h id = some (.row Tb cs)) (hy : evA env y = some vy) (hf : Src h vy size m ys) (hmk : m <= k) (hfit : off + m * size <= cs.length)
    (next : AWL P ops sz rest K n ((t, .c (.v (.int .i64 m))) :: env) ((id, .row Tb (lay cs off ys)) :: h) dfs) :
    AWL P ops sz (⟨some t, .call ⟨.builtin .copy, #[x, y], #[T, T']⟩, ty, pos, aft, gd⟩ :: rest) K n env h dfs := cC1 tb hg hd hT hk hE hs hx ho hy hf hmk hfit next
end
def aS1:Op->Bool
 | .assign _ | .store .. | .mapUpdate .. | .insert .. | .entryStore .. | .defer _=>true
 | .call ⟨.builtin b,_,_⟩=>match b with | .append | .copy | .delete | .clear=>true|_=>false
 | _=>false
def dE1:Dp->Nat
 | []=>0
 | o::r=>match aS1 o.op with|true=>0|false=>dE1 r+1
def bJ0 {α:Type}:List α->Nat->α->Option (List α)
 | [],_,_=>none
 | _::r,0,v=>some (v::r)
 | x::r,k+1,v=>match bJ0 r k v with|some r'=>some (x::r')|none=>none
theorem pP {α:Type}:∀{cs:List α} {k:Nat} {v:α} {cs':List α},bJ0 cs k v=some cs'->cs.set k v=cs'/\k<cs.length
 | [],k,v,cs',h=>by cases h
 | x::r,0,v,cs',h=>by simp [bJ0] at h;subst h;simp
 | x::r,k+1,v,cs',h=>by
  simp only [bJ0] at h
  split at h
  ·rename_i r' hr
   injection h with h;subst h
   obtain ⟨h1,h2⟩:=pP hr
   exact ⟨by simp [h1],by simp;exact h2⟩
  ·cases h
section
variable {P:Dv} {sz n:Nat} {env:Env} {h:aO} {dfs:cD} {K:AK} {ops:Dq} {rest:Dp} {tab:Tab} {T ty:Du} {x y:Operand} {pos:String} {aft:Ds} {gd:Dn}
section
variable (tb : bQ P tab) {e : TyE} (hg : guardA ops env ⟨none, .store T x y, ty, pos, aft, gd⟩ true) (hT : aS tab T = some e) (hk : Nat.beq e.size 1 = true) {id off : Nat} {T' : Du}
include tb e hg hT hk id off T'
theorem cK8 {cs cs' : D2} {v : AV} (hx : evA env x = some (.ref id off)) (hy : evA env y = some v) (h1 : v.one = true) (ho : lk h id = some (.blk T' cs)) (hs : bJ0 cs off v = some cs')
    (next : AWL P ops sz rest K n env ((id, .blk T' cs') :: h) dfs) : AWL P ops sz (⟨none, .store T x y, ty, pos, aft, gd⟩ :: rest) K n env h dfs :=
  bD8 tb hg hT hk hx hy h1 ho (pP hs).2 (by rw [(pP hs).1]; exact next)
theorem bV6 {cs cs' : D1} {v : CV} (hx : evA env x = some (.ref id off)) (hy : evA env y = some (.c v)) (h1 : v.one = true) (ho : lk h id = some (.row T' cs)) (hs : bJ0 cs off v = some cs')
    (next : AWL P ops sz rest K n env ((id, .row T' cs') :: h) dfs) : AWL P ops sz (⟨none, .store T x y, ty, pos, aft, gd⟩ :: rest) K n env h dfs :=
  eQ tb hg hT hk hx hy h1 ho (pP hs).2 (by rw [(pP hs).1]; exact next)
end
end
section
variable {P:Dv} {sz n:Nat} {env env':Env} {h h':aO} {dfs:cD} {K:AK}
theorem cY2 {x y:Code} (hx:∀K':AK,(∀n env h dfs,AW P sz y K n env h dfs->K' .normal n env h dfs)->(∀e n env h dfs,e ≠ .normal->K e n env h dfs->K' e n env h dfs)->AW P sz x K' n env h dfs):AW P sz (.seq x y) K n env h dfs :=
 dV6 (hx _ (fun _ _ _ _ h=>h) (fun e n env h dfs he hk=>by cases e<;>first|exact absurd rfl he|exact hk))
theorem cL {ι : Type} {c : Code} (N : Nat) (E : ι -> Env) (Hp : ι -> aO) (D : cD) (Inv : ι -> Prop) (μ : ι -> Nat) (i0 : ι) (h0 : Inv i0) (hw : cU n env h dfs N (E i0) (Hp i0) D)
    (round : ∀ i, Inv i -> ∀ K' : AK, (∀ n' env' h' dfs', (∃ j, Inv j /\ μ j < μ i /\ cU n' env' h' dfs' N (E j) (Hp j) D) -> K' .normal n' env' h' dfs') -> (∀ e n env h dfs, e ≠ .normal -> K e n env h dfs -> K' e n env h dfs) -> AW P sz c K' N (E i) (Hp i) D) : AW P sz (.loop c) K n env h dfs :=
  cY1 N E Hp D Inv μ i0 h0 hw (fun i hi => round i hi _ (fun _ _ _ _ h => h) (fun e n env h dfs he hk => by cases e <;> first | exact absurd rfl he | exact hk))
theorem bK5 {k:Nat} {c:Code} (hx:∀K':AK,(∀n env h dfs,AWR P sz c K k n env h dfs->K' .normal n env h dfs)->(∀e n env h dfs,e ≠ .normal->K e n env h dfs->K' e n env h dfs)->AW P sz c K' n env h dfs):AWR P sz c K (k+1) n env h dfs :=
 cC4 (hx _ (fun _ _ _ _ h=>h) (fun e n env h dfs he hk=>by cases e<;>first|exact absurd rfl he|exact hk))
def mS (env:Env):Dr->Option Env
 | []=>some []
 | k::ks=>match mS env ks with
  | some r=>match lkE env k with|some v=>some ((k,v)::r)|none=>some r
  | none=>none
theorem rJ:∀{ks:Dr} {env':Env},mS env ks=some env'->∀t av,lkE env' t=some av->lkE env t=some av
 | [],env',hp,t,av,ht=>by simp [mS] at hp;subst hp;cases ht
 | k::ks,env',hp,t,av,ht=>by
  simp only [mS] at hp
  split at hp
  ·rename_i r hr
   split at hp
   ·rename_i v hv
    injection hp with hp;subst hp
    rw [eZ] at ht
    split at ht
    ·rename_i e;subst e;rw [hv];exact ht
    ·exact rJ hr t av ht
   ·injection hp with hp;subst hp;exact rJ hr t av ht
  ·cases hp
def tG (h:aO):Nat->Option aO
 | 0=>some []
 | k+1=>match tG h k with
  | some r=>match lk h k with|some v=>some ((k,v)::r)|none=>some r
  | none=>none
theorem iS:∀{k:Nat} {h':aO},tG h k=some h'->∀i o,lk h' i=some o->lk h i=some o
 | 0,h',hp,i,o,ho=>by simp [tG] at hp;subst hp;cases ho
 | k+1,h',hp,i,o,ho=>by
  simp only [tG] at hp
  split at hp
  ·rename_i r hr
   split at hp
   ·rename_i v hv
    injection hp with hp;subst hp
    rw [cA] at ho
    split at ho
    ·rename_i e;subst e;rw [hv,<- sD ho]
    ·exact iS hr i o ho
   ·injection hp with hp;subst hp;exact iS hr i o ho
  ·cases hp
theorem aP {c:Code} (ks:Dr) (hE:mS env ks=some env') (hH:tG h n=some h') (hx:AW P sz c K n env' h' dfs):AW P sz c K n env h dfs:=by
 intro B a w hc
 refine hx B a w ?_
 obtain ⟨M,c1,c2,c3,c4⟩:=hc
 have hext:Ext (cx B n M h w) (cx B n M h' w):=⟨fun id hid=>⟨hid,rfl⟩,fun b hb hl=>⟨⟨hb.1,fun id o hid ho he=>hb.2 id o hid (iS hH id o ho) he⟩,hl,rfl⟩,shp fun _ _ h=>h⟩
 refine ⟨M,⟨c1.fr,fun id o hid ho=>(c1.obj id o hid (iS hH id o ho)).ext hext (fun _ _=>rfl),fun id id' o o' g k1 k2 k3 k4=>c1.inj id id' o o' g k1 k2 (iS hH id o k3) (iS hH id' o' k4),fun id o g k1 k2=>c1.lo id o g k1 (iS hH id o k2)⟩,c2,fun t av ht=>Rep.ext hext _ _ (c3 t av (rJ hE t av ht)),c4.ext hext⟩
theorem aP1 {i:Nat} {a:Dq} (hh:AW P sz (.region i a false) K n env h dfs):AW P sz (.region i a false) K n env h dfs:=hh
theorem dE6 {c:Code} (hh:AW P sz c K n env h dfs):AW P sz c K n env h dfs:=hh
end
end Go.Av
namespace Go.Av
open Go Go.RowKit
section
section
variable {P:Dv} {ops:Dq} {sz n n0 i m t:Nat} {K:AK} {env env0:Env} {h h0:aO} {dfs:cD} {rest l:Dp} {op:Op} {ty:Du} {pos:String} {aft:Ds} {gd:Dn}
theorem eV6 (hg:guardA ops env ⟨some t,op,ty,pos,aft,gd⟩ true) (hd:Nat.blt t sz=true) (hh:∃v,Still P ⟨some t,op,ty,pos,aft,gd⟩ (evA env) h v/\AWL P ops sz rest K n ((t,v)::env) h dfs):AWL P ops sz (⟨some t,op,ty,pos,aft,gd⟩::rest) K n env h dfs :=
 let ⟨_,h1,h2⟩:=hh;cX4 hg hd h1 h2
theorem eV7 (hg:guardA l.toArray env ⟨some t,op,ty,pos,aft,gd⟩ true) (hh:∃v,Still P ⟨some t,op,ty,pos,aft,gd⟩ (evT (Oper.looksAt l.toArray ⟨some t,op,ty,pos,aft,gd⟩) env) h v/\Drw P l sz K dfs i n0 env0 h0 m rest n ((t,v)::env) h):Drw P l sz K dfs i n0 env0 h0 (m+1) (⟨some t,op,ty,pos,aft,gd⟩::rest) n env h :=
 let ⟨_,h1,h2⟩:=hh;dA1 hg h1 h2
theorem cA6 (hg:guardA ops env ⟨some t,op,ty,pos,aft,gd⟩ true) (hd:Nat.blt t sz=true) (hh:∃v obj,obj.live=some obj/\Adds P ⟨some t,op,ty,pos,aft,gd⟩ (evA env) h v [(n,obj)] n (n+1)/\AWL P ops sz rest K (n+1) ((t,v)::env) ((n,obj)::h) dfs):AWL P ops sz (⟨some t,op,ty,pos,aft,gd⟩::rest) K n env h dfs :=
 let ⟨_,_,h1,h2,h3⟩:=hh;eE7 h1 hg hd h2 h3
theorem cA7 (hg:guardA l.toArray env ⟨some t,op,ty,pos,aft,gd⟩ true) (hh:∃v obj,obj.live=some obj/\Adds P ⟨some t,op,ty,pos,aft,gd⟩ (evT (Oper.looksAt l.toArray ⟨some t,op,ty,pos,aft,gd⟩) env) h v [(n,obj)] n (n+1)/\Drw P l sz K dfs i n0 env0 h0 m rest (n+1) ((t,v)::env) ((n,obj)::h)):Drw P l sz K dfs i n0 env0 h0 (m+1) (⟨some t,op,ty,pos,aft,gd⟩::rest) n env h :=
 let ⟨_,_,h1,h2,h3⟩:=hh;eG3 h1 hg h2 h3
variable {f:FuncId} {xs:Dy} {ats:Dx}
def jN (P:Dv) (f:FuncId) (xs:Dy) (ev:Evl) (N0:AV->Prop) (N1:Nat->Nat->Du->D1->Prop):Prop :=
 ∃cs cs',Body P f/\eX ev xs=some cs/\CvL cs cs'/\((∃r,AC P f cs' r [] 0/\r.noId=true/\N0 r)\/∃k size T rc,AC P f cs' (.own 0 0 k size true) [(0,.row T rc)] 1/\N1 k size T rc)
theorem eW9 (hg : guardA ops env ⟨some t, .call ⟨.value (.func f), xs.toArray, ats⟩, ty, pos, aft, gd⟩ true) (hd : Nat.blt t sz = true)
    (hh : jN P f xs (evA env) (fun r => AWL P ops sz rest K n ((t, r) :: env) h dfs) (fun k size T rc => AWL P ops sz rest K (n + 1) ((t, .own n 0 k size true) :: env) ((n, .row T rc) :: h) dfs)) : AWL P ops sz (⟨some t, .call ⟨.value (.func f), xs.toArray, ats⟩, ty, pos, aft, gd⟩ :: rest) K n env h dfs := by
  obtain ⟨cs, cs', h1, h2, h3, ⟨r, h4, h5, h6⟩ | ⟨k, size, T, rc, h4, h5⟩⟩ := hh
  · exact cX2 hg hd h1 h2 h4 h3 h5 h6
  · exact cX3 hg hd h1 h2 h4 h3 h5
theorem eX2 (hg : guardA ops env ⟨none, .call ⟨.value (.func f), xs.toArray, ats⟩, ty, pos, aft, gd⟩ true)
    (hh : jN P f xs (evA env) (fun r => AWL P ops sz rest K n env h dfs) (fun k size T rc => AWL P ops sz rest K (n + 1) env ((n, .row T rc) :: h) dfs)) : AWL P ops sz (⟨none, .call ⟨.value (.func f), xs.toArray, ats⟩, ty, pos, aft, gd⟩ :: rest) K n env h dfs := by
  obtain ⟨cs, cs', h1, h2, h3, ⟨r, h4, h5, h6⟩ | ⟨k, size, T, rc, h4, h5⟩⟩ := hh
  · exact dF6 hg h1 h2 h4 h3 h6
  · exact qE hg rfl h1 h2 h4 h3 rfl h5
theorem eX0 (hg : guardA l.toArray env ⟨some t, .call ⟨.value (.func f), xs.toArray, ats⟩, ty, pos, aft, gd⟩ true)
    (hh : jN P f xs (evT (Oper.looksAt l.toArray ⟨some t, .call ⟨.value (.func f), xs.toArray, ats⟩, ty, pos, aft, gd⟩) env) (fun r => Drw P l sz K dfs i n0 env0 h0 m rest n ((t, r) :: env) h) (fun k size T rc => Drw P l sz K dfs i n0 env0 h0 m rest (n + 1) ((t, .own n 0 k size true) :: env) ((n, .row T rc) :: h))) : Drw P l sz K dfs i n0 env0 h0 (m + 1) (⟨some t, .call ⟨.value (.func f), xs.toArray, ats⟩, ty, pos, aft, gd⟩ :: rest) n env h := by
  obtain ⟨cs, cs', h1, h2, h3, ⟨r, h4, h5, h6⟩ | ⟨k, size, T, rc, h4, h5⟩⟩ := hh
  · exact cZ8 hg h1 h2 h4 h3 h5 h6
  · exact cZ9 hg h1 h2 h4 h3 h5
theorem eQ6 {cs cs':D1} {r:AV} {ev:Evl} {N0:AV->Prop} {N1:Nat->Nat->Du->D1->Prop} (hac:AC P f cs' r [] 0) (hb:Body P f) (hx:eX ev xs=some cs) (hcv:CvL cs cs') (hid:r.noId=true) (hn:N0 r):jN P f xs ev N0 N1:=⟨cs,cs',hb,hx,hcv,.inl ⟨r,hac,hid,hn⟩⟩
theorem eQ7 {cs cs':D1} {k size:Nat} {T:Du} {rc:D1} {ev:Evl} {N0:AV->Prop} {N1:Nat->Nat->Du->D1->Prop} (hac:AC P f cs' (.own 0 0 k size true) [(0,.row T rc)] 1) (hb:Body P f) (hx:eX ev xs=some cs) (hcv:CvL cs cs') (hn:N1 k size T rc):jN P f xs ev N0 N1:=⟨cs,cs',hb,hx,hcv,.inr ⟨k,size,T,rc,hac,hn⟩⟩
end
def bE0:AV->Option (D2)
 | .agg xs=>some xs
 | .c (.agg cs)=>some (cs.map AV.c)
 | .c (.v x)=>match x.oneCell' with|true=>some [.c (.v x)]|false=>none
 | .c (.sl a b c)=>some [.c (.sl a b c)]
 | .ref a b=>some [.ref a b]
 | .own a b c d e=>some [.own a b c d e]
 | .ip a b=>some [.ip a b]
 | .fn a b=>some [.fn a b]
 | .yld a=>some [.yld a]
 | .mh a=>some [.mh a]
 | .bm f a=>some [.bm f a]
 | .tup _=>none
 | .junk=>none
theorem bU1 {v:AV} {xs:D2} (h:bE0 v=some xs):CellsA v xs:=by
 unfold bE0 at h
 split at h<;>first|(injection h with h;subst h;first|exact .agg (.mixed _)|exact .agg (.closed _)|exact .one rfl)|(split at h<;>first|(rename_i h1;injection h with h;subst h;exact .one h1)|cases h)|cases h
def yH:D2->Option (List (D2))
 | []=>some []
 | v::r=>match bE0 v with
  | some x=>match yH r with|some l=>some (x::l)|none=>none
  | none=>none
theorem fJ:∀{vs:D2} {ls:List (D2)},yH vs=some ls->CellsL vs ls
 | [],ls,h=>by simp [yH] at h;subst h;exact .nil
 | v::r,ls,h=>by
  simp only [yH] at h
  split at h
  ·rename_i x hx
   split at h
   ·rename_i l hl;injection h with h;subst h;exact .cons (bU1 hx) (fJ hl)
   ·cases h
  ·cases h
def cL0:CV->Option (D1)
 | .agg cs=>some cs
 | .v x=>match x.oneCell' with|true=>some [.v x]|false=>none
 | .sl a b c=>some [.sl a b c]
theorem cL1 {v:CV} {xs:D1} (h:cL0 v=some xs):Flat1 v xs:=by
 unfold cL0 at h
 split at h<;>first|(injection h with h;subst h;first|exact .agg _|exact .one rfl)|(split at h<;>first|(rename_i h1;injection h with h;subst h;exact .one h1)|cases h)|cases h
def aO1:D1->Option (List (D1))
 | []=>some []
 | v::r=>match cL0 v with
  | some x=>match aO1 r with|some l=>some (x::l)|none=>none
  | none=>none
theorem kO:∀{vs:D1} {ls:List (D1)},aO1 vs=some ls->FlatL vs ls
 | [],ls,h=>by simp [aO1] at h;subst h;exact .nil
 | v::r,ls,h=>by
  simp only [aO1] at h
  split at h
  ·rename_i x hx
   split at h
   ·rename_i l hl;injection h with h;subst h;exact .cons (cL1 hx) (kO hl)
   ·cases h
  ·cases h
section comb
variable {P:Dv} {tab:Tab} {ev:Evl} {h:aO} {d:Dt} {T ty T':Du} {x y:Operand} {pos:String} {aft:Ds} {gd:Dn} {op:BinOp}
def cmpZ:BinOp->Int->Int->Option Bool
 | .eql,m,n=>some (decide (m=n))
 | .neq,m,n=>some (decide (m≠n))
 | .lss,m,n=>some (decide (m<n))
 | .leq,m,n=>some (decide (m<=n))
 | .gtr,m,n=>some (decide (n<m))
 | .geq,m,n=>some (decide (n<=m))
 | _,_,_=>none
theorem jV {k:Dw} {m n:Int} {b c:Bool} (hx:ev x=some (.c (.v (.int k m)))) (hy:ev y=some (.c (.v (.int k n)))) (hr:cmpZ op m n=some b) (hb:b=c):Still P ⟨d,.binOp op T x y T',ty,pos,aft,gd⟩ ev h (.c (.v (.bool c))):=by
 subst hb
 cases op<;>simp only [cmpZ,Option.some.injEq,reduceCtorEq] at hr
 ·exact eN6 hx hy hr
 ·exact eO1 hx hy hr
 ·exact eO0 hx hy hr
 ·exact eN9 hx hy hr
 ·exact eN8 hx hy hr
 ·exact eN7 hx hy hr
def cB5:BinOp->Int->Int->Option Int
 | .add,m,n=>some (m+n)
 | .sub,m,n=>some (m-n)
 | .mul,m,n=>some (m*n)
 | _,_,_=>none
theorem nN {k:Dw} {m n r r':Int} (hx:ev x=some (.c (.v (.int k m)))) (hy:ev y=some (.c (.v (.int k n)))) (hr:cB5 op m n=some r) (hw:k.wrap r=r'):Still P ⟨d,.binOp op T x y T',ty,pos,aft,gd⟩ ev h (.c (.v (.int k r'))):=by
 cases op<;>simp only [cB5,Option.some.injEq,reduceCtorEq] at hr
 ·exact dU5 hx hy (by rw [hr];exact hw)
 ·exact dU8 hx hy (by rw [hr];exact hw)
 ·exact dU6 hx hy (by rw [hr];exact hw)
theorem kA {m n r r':Int} (hx:ev x=some (.c (.v (.int .i64 m)))) (hy:ev y=some (.c (.v (.int .i64 n)))) (hr:cB5 op m n=some r) (hw:IntKind.i64.wrap r=r'):Still P ⟨d,.binOp op T x y T',ty,pos,aft,gd⟩ ev h (.c (.v (.int .i64 r'))):=nN hx hy hr hw
def dV1:BinOp->BitVec 64->BitVec 64->Option (BitVec 64)
 | .xor,x,y=>some (x ^^^ y)
 | .and,x,y=>some (x &&& y)
 | .or,x,y=>some (x ||| y)
 | .add,x,y=>some (x+y)
 | .sub,x,y=>some (x-y)
 | .mul,x,y=>some (x*y)
 | _,_,_=>none
theorem iI {p q:Int} {u v z:BitVec 64} (hx:ev x=some (.c (.v (.int .u64 p)))) (hp:IsW p u) (hy:ev y=some (.c (.v (.int .u64 q)))) (hq:IsW q v) (hr:dV1 op u v=some z):Still P ⟨d,.binOp op T x y T',ty,pos,aft,gd⟩ ev h (.c (.v (.int .u64 (z.toNat:Int)))):=by
 cases op<;>simp only [dV1,Option.some.injEq,reduceCtorEq] at hr<;>subst hr
 ·exact eC2 hx hp hy hq
 ·exact eD2 hx hp hy hq
 ·exact eC8 hx hp hy hq
 ·exact eC3 hx hp hy hq
 ·exact eO2 hx hp hy hq
 ·exact eD4 hx hp hy hq
end comb
theorem aL {P:Dv} {o:Oper} {ev:Evl} {h:aO} {N:AV->Prop} {v:AV} (hs:Still P o ev h v) (hn:N v):∃v,Still P o ev h v/\N v:=⟨v,hs,hn⟩
theorem bC {P:Dv} {o:Oper} {ev:Evl} {h:aO} {n:Nat} {N:AV->AObj->Prop} {v:AV} {obj:AObj} (hs:Adds P o ev h v [(n,obj)] n (n+1)) (hl:obj.live=some obj) (hn:N v obj):∃v obj,obj.live=some obj/\Adds P o ev h v [(n,obj)] n (n+1)/\N v obj:=⟨v,obj,hl,hs,hn⟩
section
variable {P:Dv} {ev:Evl} {h:aO} {N:AV->Prop} {d:Dt} {ty:Du} {pos:String} {aft:Ds} {gd:Dn}
theorem bE8 {x:Operand} (hh:∃v,Still P ⟨d,.move x,ty,pos,aft,gd⟩ ev h v/\N v):∃v,Still P ⟨d,.move x,ty,pos,aft,gd⟩ ev h v/\N v:=hh
theorem aB0 {x:Operand} (hh:∃v,Still P ⟨d,.assign x,ty,pos,aft,gd⟩ ev h v/\N v):∃v,Still P ⟨d,.assign x,ty,pos,aft,gd⟩ ev h v/\N v:=hh
theorem bE9 {x y z:Operand} (hh:∃v,Still P ⟨d,.pick x y z,ty,pos,aft,gd⟩ ev h v/\N v):∃v,Still P ⟨d,.pick x y z,ty,pos,aft,gd⟩ ev h v/\N v:=hh
theorem aN9 {T:Du} {ps:Array (Nat × Operand)} (hh:∃v,Still P ⟨d,.build T ps,ty,pos,aft,gd⟩ ev h v/\N v):∃v,Still P ⟨d,.build T ps,ty,pos,aft,gd⟩ ev h v/\N v:=hh
theorem gO {T:Du} {x:Operand} (hh:∃v,Still P ⟨d,.load T x,ty,pos,aft,gd⟩ ev h v/\N v):∃v,Still P ⟨d,.load T x,ty,pos,aft,gd⟩ ev h v/\N v:=hh
theorem cJ4 {x:Operand} (hh:∃v,Still P ⟨d,.nilCheck x,ty,pos,aft,gd⟩ ev h v/\N v):∃v,Still P ⟨d,.nilCheck x,ty,pos,aft,gd⟩ ev h v/\N v:=hh
theorem bU {o:BinOp} {T T':Du} {x y:Operand} (hh:∃v,Still P ⟨d,.binOp o T x y T',ty,pos,aft,gd⟩ ev h v/\N v):∃v,Still P ⟨d,.binOp o T x y T',ty,pos,aft,gd⟩ ev h v/\N v:=hh
theorem cJ9 {o:UnOp} {T:Du} {x:Operand} (hh:∃v,Still P ⟨d,.unOp o T x,ty,pos,aft,gd⟩ ev h v/\N v):∃v,Still P ⟨d,.unOp o T x,ty,pos,aft,gd⟩ ev h v/\N v:=hh
theorem qT {T T':Du} {x:Operand} (hh:∃v,Still P ⟨d,.convert T T' x,ty,pos,aft,gd⟩ ev h v/\N v):∃v,Still P ⟨d,.convert T T' x,ty,pos,aft,gd⟩ ev h v/\N v:=hh
theorem aB1 {f:Fn} {xs ys:Array Operand} (hh:∃v,Still P ⟨d,.makeFunc f xs ys,ty,pos,aft,gd⟩ ev h v/\N v):∃v,Still P ⟨d,.makeFunc f xs ys,ty,pos,aft,gd⟩ ev h v/\N v:=hh
theorem jW {T:Du} {x:Operand} {lo hi mx:Option Operand} (hh:∃v,Still P ⟨d,.slice T x lo hi mx,ty,pos,aft,gd⟩ ev h v/\N v):∃v,Still P ⟨d,.slice T x lo hi mx,ty,pos,aft,gd⟩ ev h v/\N v:=hh
theorem bE7 {T:Du} {x:Operand} {k:Nat} (hh:∃v,Still P ⟨d,.fieldAddr T x k,ty,pos,aft,gd⟩ ev h v/\N v):∃v,Still P ⟨d,.fieldAddr T x k,ty,pos,aft,gd⟩ ev h v/\N v:=hh
theorem cJ3 {T:Du} {x y:Operand} (hh:∃v,Still P ⟨d,.indexAddr T x y,ty,pos,aft,gd⟩ ev h v/\N v):∃v,Still P ⟨d,.indexAddr T x y,ty,pos,aft,gd⟩ ev h v/\N v:=hh
theorem cJ2 {x:Operand} {k:Nat} (hh:∃v,Still P ⟨d,.extract x k,ty,pos,aft,gd⟩ ev h v/\N v):∃v,Still P ⟨d,.extract x k,ty,pos,aft,gd⟩ ev h v/\N v:=hh
theorem aV6 {b:Builtin} {xs:Array Operand} {ts:Dx} (hh:∃v,Still P ⟨d,.call ⟨.builtin b,xs,ts⟩,ty,pos,aft,gd⟩ ev h v/\N v):∃v,Still P ⟨d,.call ⟨.builtin b,xs,ts⟩,ty,pos,aft,gd⟩ ev h v/\N v:=hh
end
end
section
def Flc (c:CV):Prop:=∀ok w u,RepC ok w c u->∀ok' w',RepC ok' w' c u
def FlcL (cs:D1):Prop:=∀c∈cs,Flc c
theorem FlcL.rep:∀{cs:D1},FlcL cs->∀{ok w u},RepCs ok w cs u->∀ok' w',RepCs ok' w' cs u
 | [],_,ok,w,u,h,ok',w'=>h
 | c::cs,hf,ok,w,u,h,ok',w'=>by
  simp only [RepCs] at h ⊢
  obtain ⟨a,l,h1,h2,h3⟩:=h
  exact ⟨a,l,h1,hf c aU _ _ _ h2 _ _,FlcL.rep (fun d hd=>hf d (by simp [hd])) h3 _ _⟩
theorem bO0 {x:Value}:Flc (.v x):=fun ok w u h ok' w'=>h
theorem aO3 {cs:D1} (h:FlcL cs):Flc (.agg cs):=fun ok w u hu ok' w'=>by
 simp only [RepC] at hu ⊢
 obtain ⟨us,h1,h2,h3⟩:=hu
 exact ⟨us,h1,h.rep h2 _ _,h3⟩
theorem tC (l:Do):FlcL (l.map CV.v):=fun c hc=>by
 obtain ⟨x,_,rfl⟩:=BG.1 hc
 exact bO0
theorem yI (l:Dm):FlcL (u8c l):=by rw [aL4];exact tC _
inductive FlR:AV->Prop
 | c {x:CV} (h:Flc x):FlR (.c x)
 | t {xs:D1} (h:FlcL xs):FlR (.tup (xs.map AV.c))
theorem FlR.rep {r:AV} (h:FlR r) {C C':Cx} {u:Value} (hu:Rep C r u):Rep C' r u:=by
 cases h with
 | c h=>simp only [Rep] at hu ⊢;exact h _ _ _ hu _ _
 | t h =>
  simp only [Rep] at hu ⊢
  obtain ⟨us,h1,h2⟩:=hu
  exact ⟨us,h1,RepL.ofC (h.rep (RepL.toC h2) _ _)⟩
section call
variable {P:Dv} {ev:Evl} {h:aO} {d:Dt} {ty:Du} {pos:String} {aft:Ds} {gd:Dn} {i:Nat} {f:FuncId} {xs:Dy} {ats:Dx} {r:AV}
theorem bD3 {vs : D2} {cs : D1} (hb : Body P f) (hx : pQ ev xs = some vs) (hfz : aL5 [] h vs cs) (hac : AC P f cs r [] 0) (hfl : FlR r) :
    Adds P ⟨d, .call ⟨.value (.func f), xs.toArray, ats⟩, ty, pos, aft, gd⟩ ev h r [] i i := by
  intro B dom M H w a K Q hh hn hc he hK
  have hargs := hfz B dom M H w _ hh aU hc (gD he (mB hx))
  unfold Oper.wp execOp
  simp only [resolve, Deferred.ofValue, Act.eval, invoke, Sem.run_bind, Sem.run_pure, Result.andThen_ok, AZ, Bg, Body.run hb, Oper.upon]
  rw [show (#[] ++ (List.map a.eval xs).toArray : D0) = (List.map a.eval xs).toArray by simp]
  refine (hac _ w _ hargs).mono ?_
  rintro e w' ⟨v, Mc, rfl, hcc, hv⟩
  simp only
  have hbl := hcc.fr.below
  have hg := hc.grow hbl i i (M' := M) (fun id _ => rfl) (fun id h1 h2 => by omega) (fun id o h1 h2 => by omega) (fun id id' o o' g h1 h2 => by omega) (fun hext id o h1 h2 => by omega)
  exact hK v w' M hg.2 hg.1 (hfl.rep hv)
theorem aS5 {vs : D2} {cs rc : D1} {k size : Nat} {T : Du} (hb : Body P f) (hx : pQ ev xs = some vs) (hfz : aL5 [] h vs cs) (hac : AC P f cs (.own 0 0 k size true) [(0, .row T rc)] 1) (hfl : FlcL rc) :
    Adds P ⟨d, .call ⟨.value (.func f), xs.toArray, ats⟩, ty, pos, aft, gd⟩ ev h (.own i 0 k size true) [(i, .row T rc)] i (i + 1) := by
  intro B dom M H w a K Q hh hn hc he hK
  have hargs := hfz B dom M H w _ hh aU hc (gD he (mB hx))
  unfold Oper.wp execOp
  simp only [resolve, Deferred.ofValue, Act.eval, invoke, Sem.run_bind, Sem.run_pure, Result.andThen_ok, AZ, Bg, Body.run hb, Oper.upon]
  rw [show (#[] ++ (List.map a.eval xs).toArray : D0) = (List.map a.eval xs).toArray by simp]
  refine (hac _ w _ hargs).mono ?_
  rintro e w' ⟨v, Mc, rfl, hcc, hv⟩
  simp only
  have hbl := hcc.fr.below
  have hob := hcc.obj 0 _ oX (show lk [(0, AObj.row T rc)] 0 = some (.row T rc) from rfl)
  have hHi : H i = some (.row T rc) := by rw [(hn i aA aA).2, cA, Ak rfl]; rfl
  let M' : Nat -> Dz := fun id => if id = i then Mc 0 else M id
  have hM1 : ∀ id, dom id -> M' id = M id := fun id hid => by
    have : ¬ id = i := fun e => by subst e; exact (hn id aA aA).1 hid
    simp [M', this]
  have hMi : M' i = Mc 0 := by simp [M']
  have hnew : ∀ g, Mc 0 = some g -> w.heap.size <= g := fun g hg => by
    rcases hcc.lo 0 _ g oX (show lk [(0, AObj.row T rc)] 0 = some (.row T rc) from rfl) hg with h1 | h1
    · exact h1
    · cases h1
  have hg := hc.grow hbl i (i + 1) (M' := M') hM1 (fun id h1 h2 => (hn id h1 h2).1)
    (fun id o h1 h2 h3 g hg => by
      obtain rfl : id = i := by omega
      exact hnew g (hMi.symm.trans hg))
    (fun id id' o o' g h1 h2 h3 h4 _ _ _ _ => by omega)
    (fun hext id o h1 h2 h3 => by
      obtain rfl : id = i := by omega
      rw [hHi] at h3
      injection h3 with h3
      subst h3
      rw [hMi]
      rcases hob with k1 | ⟨g, us, ws, k1, k2, k3, k4⟩
      · exact .inl k1
      · exact .inr ⟨g, us, ws, k1, k2, hfl.rep k3 _ _, k4⟩)
  refine hK v w' M' hg.2 hg.1 ?_
  simp only [Rep, cx] at hv ⊢
  refine ⟨.inr ⟨by omega, by omega⟩, ?_⟩
  rw [hMi]
  exact hv.2
end call
section frame
def aW6 (env:Env) (dfs:cD):D2:=env.map (·.2)++dfs.flatMap (·.2)
theorem tF {env:Env}:∀{ks:Dr} {env':Env},mS env ks=some env'->∀p∈env',lkE env p.1=some p.2
 | [],env',hp,p,hm=>by simp [mS] at hp;subst hp;cases hm
 | k::ks,env',hp,p,hm=>by
  simp only [mS] at hp
  split at hp
  ·rename_i r hr
   split at hp
   ·rename_i v hv
    injection hp with hp;subst hp
    rcases A6.1 hm with rfl|hm
    ·exact hv
    ·exact tF hr p hm
   ·injection hp with hp;subst hp;exact tF hr p hm
  ·cases hp
theorem bO6:∀{env:Env} {t:Nat} {av:AV},lkE env t=some av->(t,av)∈env
 | [],t,av,h=>by cases h
 | (i,v)::r,t,av,h=>by
  rw [eZ] at h
  split at h
  ·rename_i e;subst e;injection h with h;subst h;simp
  ·exact CM _ (bO6 h)
theorem aY6 {C:Cx} {g:Nat->Value}:∀{env:Env},(∀p∈env,Rep C p.2 (g p.1))->RepL C (env.map (·.2)) (env.map fun p=>g p.1)
 | [],_=>rfl
 | p::r,h=>⟨_,_,rfl,h p aU,aY6 fun q hq=>h q (by simp [hq])⟩
theorem aD5 {C:Cx} {g:Nat->Value}:∀{env:Env},RepL C (env.map (·.2)) (env.map fun p=>g p.1)->∀p∈env,Rep C p.2 (g p.1)
 | [],_,p,hp=>by cases hp
 | q::r,h,p,hp=>by
  simp only [AH,RepL] at h
  obtain ⟨u,us,e,h1,h2⟩:=h
  injection e with e1 e2
  subst e1 e2
  rcases A6.1 hp with rfl|hp
  ·exact h1
  ·exact aD5 h2 p hp
theorem pL {C:Cx}:∀{xs ys:D2} {us vs:Do},us.length=xs.length->RepL C (xs++ys) (us++vs)->RepL C xs us/\RepL C ys vs
 | [],ys,us,vs,hl,h=>by
  have:us=[]:=An fY
  subst this
  exact ⟨rfl,h⟩
 | x::xs,ys,[],vs,hl,h=>by simp at hl
 | x::xs,ys,u::us,vs,hl,h=>by
  simp only [AF,RepL] at h
  obtain ⟨a,l,e,h1,h2⟩:=h
  injection e with e1 e2
  subst e1 e2
  obtain ⟨k1,k2⟩:=pL fY h2
  exact ⟨⟨_,_,rfl,h1,k1⟩,k2⟩
theorem vT {fr:Do} {C:Cx}:∀{dfs:cD} {ds:List Deferred},DefRep fr C dfs ds->∃us,us.length=(dfs.flatMap (·.2)).length/\RepL C (dfs.flatMap (·.2)) us/\∀C',RepL C' (dfs.flatMap (·.2)) us->DefRep fr C' dfs ds
 | [],ds,h=>⟨[],rfl,rfl,fun C' _=>h⟩
 | (some f,caps)::r,ds,h=>by
  obtain ⟨us,ds',rfl,h2,h3⟩:=h
  obtain ⟨vs,k0,k1,k2⟩:=vT h3
  refine ⟨us++vs,by simp only [A5,Aa];rw [k0,h2.length],h2.append k1,fun C' hr=>?_⟩
  obtain ⟨l1,l2⟩:=pL h2.length hr
  exact ⟨us,ds',rfl,l1,k2 C' l2⟩
 | (none,xs)::r,ds,h=>by
  obtain ⟨h2,h3⟩:=h
  obtain ⟨vs,k0,k1,k2⟩:=vT h3
  refine ⟨fr++vs,by simp only [A5,Aa];rw [k0,h2.length],h2.append k1,fun C' hr=>?_⟩
  obtain ⟨l1,l2⟩:=pL h2.length hr
  exact ⟨l1,k2 C' l2⟩
def jH:cD->Option (D2)
 | []=>none
 | (none,xs)::_=>some xs
 | (some _,_)::r=>jH r
theorem lV {fr:Do} {C:Cx} {xs:D2}:∀{dfs:cD} {ds:List Deferred},jH dfs=some xs->DefRep fr C dfs ds->RepL C xs fr
 | [],ds,h,_=>by cases h
 | (none,ys)::r,ds,h,hd=>by simp only [jH,Option.some.injEq] at h;subst h;exact hd.1
 | (some f,caps)::r,ds,h,hd=>by
  obtain ⟨us,ds',rfl,h2,h3⟩:=hd
  exact lV (dfs:=r) h h3
def xJ:Nat->D2->Env
 | _,[]=>[]
 | k,x::xs=>(k,x)::xJ (k+1) xs
theorem lU:∀{cs:D2} {k t:Nat} {av:AV},lkE (xJ k cs) t=some av->k<=t/\cs[t-k]? = some av
 | [],k,t,av,h=>by cases h
 | c::cs,k,t,av,h=>by
  rw [xJ,eZ] at h
  split at h
  ·rename_i e;subst e;injection h with h;subst h;exact ⟨Ah _,by simp⟩
  ·rename_i e
   obtain ⟨h1,h2⟩:=lU h
   refine ⟨by omega,?_⟩
   rw [show t-k=(t-(k+1))+1 by omega]
   simpa using h2
def InK (P:Dv) (tab:Tab) (rs:List ResultVar) (xs:D2) (ops:Dq) (sz:Nat) (rest:Dp) (K:AK) (env:Env) (d:Dt) (dfs:cD):AK :=
 fun e n' env' h' dfs'=>(e = .normal\/e = .ret)/\iJ P h' dfs'/\jH dfs'=some xs/\∃v,ResL tab env' (gK h' dfs') rs v/\AWL P ops sz rest K n' (gJ env d v) (gK h' dfs') dfs
variable {P:Dv} {tab:Tab} {sz n:Nat} {env:Env} {h:aO} {dfs:cD} {K:AK} {ops:Dq} {rest:Dp} {d:Dt} {ty:Du} {pos:String} {aft:Ds} {gd:Dn} {f:FuncId} {x:Operand} {xs:Dy} {ats:Dx}
theorem bK {rs:List ResultVar} {zs:D2} {t:Nat} {e:Exit} {n':Nat} {env':Env} {h':aO} {dfs':cD} {v:AV} (he:e = .normal\/e = .ret) (hi:iJ P h' dfs') (hm:jH dfs'=some zs) {h2:aO} (hh:gK h' dfs'=h2) (hr:ResL tab env' h2 rs v) (next:AWL P ops sz rest K n' ((t,v)::env) h2 dfs):InK P tab rs zs ops sz rest K env (some t) dfs e n' env' h' dfs':=⟨he,hi,hm,v,hh▸hr,hh▸next⟩
theorem bJ {rs:List ResultVar} {zs:D2} {e:Exit} {n':Nat} {env':Env} {h':aO} {dfs':cD} {v:AV} (he:e = .normal\/e = .ret) (hi:iJ P h' dfs') (hm:jH dfs'=some zs) {h2:aO} (hh:gK h' dfs'=h2) (hr:ResL tab env' h2 rs v) (next:AWL P ops sz rest K n' env h2 dfs):InK P tab rs zs ops sz rest K env none dfs e n' env' h' dfs':=⟨he,hi,hm,v,hh▸hr,hh▸next⟩
theorem eB7 {C:Cx} {caps:D2} {u:Value} (h:Rep C (.fn f caps) u):∃us,u = .func (.func f) #[] us.toArray/\RepL C caps us:=by simpa only [Rep] using h
theorem bV (tb : bQ P tab) (ks : Dr) {fn : Func} {c : Code} {vs caps ws : D2} {env' : Env} {szf : Nat} (hg : guardA ops env ⟨d, .call ⟨.value x, xs.toArray, ats⟩, ty, pos, aft, gd⟩ true) (hd : iD d sz = true) (hxf : evA env x = some (.fn f caps)) (hb : Body P f) (hf : P.funcs[f]? = some fn) (hc : fn.body = some c) (hx : pQ (evA env) xs = some vs) (hws : vs ++ caps = ws) (hsz : max fn.ntmps ws.length = szf) (hE : mS env ks = some env')
    (next : AW P szf c (InK P tab fn.results.toList (aW6 env' dfs) ops sz rest K env' d dfs) n (xJ 0 ws) h [(none, aW6 env' dfs)]) : AWL P ops sz (⟨d, .call ⟨.value x, xs.toArray, ats⟩, ty, pos, aft, gd⟩ :: rest) K n env h dfs := by
  intro B a w hcn
  obtain ⟨M, c1, c2, c3, c4⟩ := hcn
  refine eO fun K' hK' => ?_
  rw [Ak (hg.wanted c3)]
  obtain ⟨us, hxv, hus⟩ := eB7 (dN c3 x _ hxf)
  have hvs := gD (dN c3) (mB hx)
  obtain ⟨dv, dv0, dv1, dv2⟩ := vT c4
  have hcaps := hvs.append hus
  rw [hws] at hcaps
  have hlen := hcaps.length
  have henv : RepL (cx B n M h w) (env'.map (·.2)) (env'.map fun p => a.tmps.getD p.1 undef) := aY6 (g := fun t => a.tmps.getD t undef) fun p hp => c3 p.1 p.2 (tF hE p hp)
  let B' : Bs := ⟨B.w0, B.G, B.ok0, (env'.map fun p => a.tmps.getD p.1 undef) ++ dv⟩
  unfold Oper.wp execOp
  simp only [resolve, hxv, Deferred.ofValue, invoke, Sem.run_bind, Sem.run_pure, Result.andThen_ok, AZ, Bg, Body.run hb, Oper.upon]
  rw [show (#[] ++ (List.map a.eval xs).toArray ++ us.toArray : D0) = (List.map a.eval xs ++ us).toArray by simp]
  refine gW hf hc (wp_mono (kR (next B' _ w ⟨M, ⟨c1.fr, c1.obj, c1.inj, c1.lo⟩, ?_, ?_, ?_⟩)) ?_)
  · simp only [Aa, Bm] at hlen
    simp
    omega
  · intro t av ht
    obtain ⟨h1, h2⟩ := lU ht
    rw [BB] at h2
    obtain ⟨u, hu, hru⟩ := hcaps.get h2
    have : ((List.map a.eval xs ++ us).toArray ++ Array.replicate (fn.ntmps - (List.map a.eval xs ++ us).toArray.size) undef).getD t undef = u := by
      have hlt := (Ag.1 hu).1
      rw [BE, By aA3]
      rw [BJ, hu]
      rfl
    rw [this]
    exact hru
  · exact ⟨henv.append dv1, rfl⟩
  · intro e a' w' hq
    obtain ⟨n', env2, h', dfs', ⟨h1, h2, h3, v, h4, h5⟩, M', d1, d2, d3, d4⟩ := hq
    have : ∀ R : Ending -> World -> Prop, (∀ u w2, K' (a.put d u) w2 -> R (.returned u) w2) -> iX P fn a'.tmps R a'.defers w' := by
      intro R hR
      refine fR h2 d1 d4 fun w2 g1 g2 => ?_
      obtain ⟨u, k1, k2⟩ := h4.run tb g1 (fun t av ht => Rep.ext g2 _ _ (d3 t av ht))
      refine ⟨u, k2, ?_⟩
      obtain ⟨e1, e2⟩ := pL aU (RepL.ext g2 _ _ (lV h3 d4))
      have he := aD5 (g := fun t => a.tmps.getD t undef) e1
      obtain ⟨p1, p2, p3⟩ := kV (env := env') (B := B) (a := a) (w := w2) (w' := w2) (M := M') (M' := M') (n := n') (n' := n') (h := gK h' dfs') (h' := gK h' dfs') c2 (fun t av ht => he (t, av) (bO6 ht)) (Ext.refl _) (fD hd) (v := v) (u := u) k1
      exact hR u w2 (hK' _ _ (h5 B _ _ ⟨M', ⟨g1.fr, g1.obj, g1.inj, g1.lo⟩, p1, p2, by rw [p3]; exact dv2 _ e2⟩))
    rcases h1 with rfl | rfl <;> exact this _ (fun u _ h => h)
end frame
section strokes
variable {P:Dv} {ops:Dq} {sz n n0 i m t:Nat} {K:AK} {env env0:Env} {h h0:aO} {dfs:cD} {rest l:Dp} {op:Op} {ty:Du} {pos:String} {aft:Ds} {gd:Dn}
theorem eV3 (hg:guardA ops env ⟨some t,op,ty,pos,aft,gd⟩ true) (hd:Nat.blt t sz=true) (hh:∃v,Adds P ⟨some t,op,ty,pos,aft,gd⟩ (evA env) h v [] n n/\AWL P ops sz rest K n ((t,v)::env) h dfs):AWL P ops sz (⟨some t,op,ty,pos,aft,gd⟩::rest) K n env h dfs :=
 let ⟨_,h1,h2⟩:=hh;cY4 hg hd h1 h2
theorem eV4 (hg:guardA l.toArray env ⟨some t,op,ty,pos,aft,gd⟩ true) (hh:∃v,Adds P ⟨some t,op,ty,pos,aft,gd⟩ (evT (Oper.looksAt l.toArray ⟨some t,op,ty,pos,aft,gd⟩) env) h v [] n n/\Drw P l sz K dfs i n0 env0 h0 m rest n ((t,v)::env) h):Drw P l sz K dfs i n0 env0 h0 (m+1) (⟨some t,op,ty,pos,aft,gd⟩::rest) n env h :=
 let ⟨_,h1,h2⟩:=hh;dA3 hg h1 h2
theorem oZ {o:Oper} {ev:Evl} {N:AV->Prop} {v:AV} (hs:Adds P o ev h v [] n n) (hn:N v):∃v,Adds P o ev h v [] n n/\N v:=⟨v,hs,hn⟩
def cQ6 (all:Dp) (t:Nat):Bool:=(all.any fun o=>sO (o.looksAt all.toArray) t) || (Nat.blt 1 (all.countP fun o=>match o.dst with|some d=>Nat.beq d t|none=>false))
def qX (fs:Dr) (all:Dp):Dp->Nat
 | []=>0
 | o::r=>match o.op with
  | .assign _=>match o.dst with
   | some t=>match cQ6 all t with|true=>0|false=>qX fs all r+1
   | none=>0
  | .call ⟨.value (.func f),_,_⟩=>match sO fs f with|true=>0|false=>qX fs all r+1
  | .call ⟨.value (.tmp _),_,_⟩=>0
  | op=>match aS1 op with|true=>0|false=>qX fs all r+1
theorem cJ {id:Nat} (fs:Dr) (hx:Drw P l sz K dfs id n0 env0 h0 (qX fs l l) l n0 env0 h0):AW P sz (.region id l.toArray true) K n0 env0 h0 dfs:=dV4 _ hx
theorem fZ {keep:Dr} {x:AV} {y z:CV} (h1:Frz keep h x y) (h2:Cv y z):Frz keep h x z:=fun B dom M H w u hh hk hc hu=>h2 _ _ _ (h1 B dom M H w u hh hk hc hu)
end strokes
section pick
variable {P:Dv} {ev:Evl} {h:aO} {d:Dt} {ty:Du} {x y z:Operand} {pos:String} {aft:Ds} {gd:Dn} {b:Bool} {v:AV}
theorem aE8 (hc0:ev z=some (.c (.v (.bool b)))) (hb:b=true) (hx:ev x=some v):Still P ⟨d,.pick z x y,ty,pos,aft,gd⟩ ev h v:=by subst hb;exact yR hc0 hx
theorem aE7 (hc0:ev z=some (.c (.v (.bool b)))) (hb:b=false) (hy:ev y=some v):Still P ⟨d,.pick z x y,ty,pos,aft,gd⟩ ev h v:=by subst hb;exact yQ hc0 hy
end pick
theorem AC.bool {P:Dv} {f:FuncId} {args:D1} {x:Value} (h:AC P f args (.c (.v x)) [] 0) {w:World} {vs:Do} (hvs:RepCs (fun _=>True) w args vs):Calls P f vs.toArray w fun e w'=>e = .returned x/\Below w.heap.size w w' :=
 (h _ w vs hvs).mono (by
  rintro e w' ⟨v,M,rfl,hc,hv⟩
  simp only [Rep,RepC] at hv
  subst hv
  exact ⟨rfl,hc.fr.below⟩)
end
section
mutual
def AV.mp (σ:Nat->Nat):AV->AV
 | .c x => .c x
 | .ip cs off => .ip cs off
 | .junk => .junk
 | .ref id off => .ref (σ id) off
 | .own id off n size full => .own (σ id) off n size full
 | .agg xs => .agg (AV.mps σ xs)
 | .tup xs => .tup (AV.mps σ xs)
 | .fn f xs => .fn f (AV.mps σ xs)
 | .yld id => .yld (σ id)
 | .mh id => .mh (σ id)
 | .bm f id => .bm f (σ id)
def AV.mps (σ:Nat->Nat):D2->D2
 | []=>[]
 | x::xs=>AV.mp σ x::AV.mps σ xs
end
structure LessR (N:Nat) (σ:Nat->Nat) (C C':Cx):Prop where
 dom:∀id,id<N->C.dom (σ id)->C'.dom id/\C'.M id=C.M (σ id)
 ok:kW C.ok C'.ok C.w C'.w
 shape:∀b x,C.w.shape? b=some x->C'.w.shape? b=some x
mutual
theorem Rep.lessR {N:Nat} {σ:Nat->Nat} {C C':Cx} (h:LessR N σ C C'):∀(x:AV) (u:Value),x.ltB N=true->Rep C (x.mp σ) u->Rep C' x u
 | .c x,u,_,hu=>by simp only [Rep,AV.mp] at hu ⊢;exact RepC.mono h.ok x u hu
 | .ref id off,u,hl,hu=>by
  simp only [Rep,AV.mp] at hu ⊢
  simp only [AV.ltB,AJ] at hl
  obtain ⟨hd,g,hg,hu⟩:=hu
  obtain ⟨k1,k2⟩:=h.dom id hl hd
  exact nX
 | .own id off n size full,u,hl,hu=>by
  simp only [Rep,AV.mp] at hu ⊢
  simp only [AV.ltB,AJ] at hl
  obtain ⟨hd,hu⟩:=hu
  obtain ⟨k1,k2⟩:=h.dom id hl hd
  refine ⟨k1,?_⟩
  rcases hu with ⟨h1,h2,h3,h4⟩|⟨g,cp,h1,h2,h3,h4,h5⟩|h6
  ·exact cG9
  ·exact .inr (.inl ⟨g,cp,k2.trans h1,h2,h3,h4,fun hf=>let ⟨e,he⟩:=h5 hf;⟨e,h.shape _ _ he⟩⟩)
  ·exact .inr (.inr h6)
 | .ip cs off,u,_,hu=>by
  simp only [Rep,AV.mp] at hu ⊢
  obtain ⟨b,o,us,h1,h2,h3,h4,h6,h5⟩:=hu
  obtain ⟨k1,k2,k3⟩:=h.ok b h2 h3
  exact ⟨b,o,us,h1,k1,k2,RepCs.mono h.ok cs us h4,h6,fun j x hx=>by rw [World.cell?_of_block (w:=C.w) k3];exact h5 j x hx⟩
 | .agg xs,u,hl,hu=>by
  simp only [Rep,AV.mp] at hu ⊢
  obtain ⟨us,h1,h2⟩:=hu
  exact ⟨us,h1,RepL.lessR h xs us hl h2⟩
 | .tup xs,u,hl,hu=>by
  simp only [Rep,AV.mp] at hu ⊢
  obtain ⟨us,h1,h2⟩:=hu
  exact ⟨us,h1,RepL.lessR h xs us hl h2⟩
 | .fn f caps,u,hl,hu=>by
  simp only [Rep,AV.mp] at hu ⊢
  obtain ⟨us,h1,h2⟩:=hu
  exact ⟨us,h1,RepL.lessR h caps us hl h2⟩
 | .yld id,u,hl,hu=>by
  simp only [Rep,AV.mp] at hu ⊢
  simp only [AV.ltB,AJ] at hl
  obtain ⟨hd,g,hg,hu⟩:=hu
  obtain ⟨k1,k2⟩:=h.dom id hl hd
  exact nX
 | .mh id,u,hl,hu=>by
  simp only [Rep,AV.mp] at hu ⊢
  simp only [AV.ltB,AJ] at hl
  obtain ⟨hd,g,hg,hu⟩:=hu
  obtain ⟨k1,k2⟩:=h.dom id hl hd
  exact nX
 | .bm f id,u,hl,hu=>by
  simp only [Rep,AV.mp] at hu ⊢
  simp only [AV.ltB,AJ] at hl
  obtain ⟨hd,g,hg,hu⟩:=hu
  obtain ⟨k1,k2⟩:=h.dom id hl hd
  exact nX
 | .junk,u,_,hu=>by simp only [Rep]
theorem RepL.lessR {N:Nat} {σ:Nat->Nat} {C C':Cx} (h:LessR N σ C C'):∀(xs:D2) (us:Do),AV.ltBs N xs=true->RepL C (AV.mps σ xs) us->RepL C' xs us
 | [],us,_,hu=>by simpa [RepL,AV.mps] using hu
 | c::cs,us,hl,hu=>by
  simp only [RepL,AV.mps] at hu ⊢
  simp only [AV.ltBs,Ar] at hl
  obtain ⟨u,us',h1,h2,h3⟩:=hu
  exact ⟨u,us',h1,Rep.lessR h c u hl.1 h2,RepL.lessR h cs us' hl.2 h3⟩
end
def AObj.mp (σ:Nat->Nat):AObj->AObj
 | .blk T cs => .blk T (AV.mps σ cs)
 | .row T cs => .row T cs
 | .lp b sz L sl xs => .lp b sz L sl (AV.mps σ xs)
 | .dfr b => .dfr b
 | .tab es => .tab (es.map fun p=>(p.1,p.2.mp σ))
 | .dead => .dead
theorem RepM.lessR {N:Nat} {σ:Nat->Nat} {C C':Cx} (h:LessR N σ C C'):∀(es:List (CV × AV)) (ms:List MapEntry),(es.all fun p=>p.2.ltB N)=true->RepM C (es.map fun p=>(p.1,p.2.mp σ)) ms->RepM C' es ms
 | [],ms,_,hu=>hu
 | e::es,ms,hl,hu=>by
  obtain ⟨m,ms',h1,h2,h3,h4⟩:=hu
  simp only [BA,Ar] at hl
  exact ⟨m,ms',h1,RepC.mono h.ok _ _ h2,Rep.lessR h _ _ hl.1 h3,RepM.lessR h es ms' hl.2 h4⟩
theorem ObjRep.lessR {N:Nat} {σ:Nat->Nat} {C C':Cx} (h:LessR N σ C C') {g:Dz} {o:AObj} (hw:C'.w=C.w) (hl:o.ltB N=true) (ho:ObjRep C g (o.mp σ)):ObjRep C' g o:=by
 cases o with
 | blk T cs =>
  obtain ⟨k,us,rfl,h2,h3⟩:=ho
  exact ⟨k,us,rfl,by rw [hw];exact h2,RepL.lessR h cs us hl h3⟩
 | row T cs =>
  rcases ho with h1|⟨k,us,vs,rfl,h2,h3,h4⟩
  ·exact .inl h1
  ·exact .inr ⟨k,us,vs,rfl,by rw [hw];exact h2,RepCs.mono h.ok cs us h3,h4⟩
 | lp b sz L sl xs =>
  obtain ⟨k,r,rfl,h2,h3,h4,h5,h6,h7,h8,h9⟩:=ho
  exact ⟨k,r,rfl,by rw [hw];exact h2,h3,h4,h5,h6,h7,h8,RepL.lessR h xs _ hl h9⟩
 | dfr b =>
  obtain ⟨k,rfl,h2⟩:=ho
  exact ⟨k,rfl,by rw [hw];exact h2⟩
 | tab es =>
  obtain ⟨k,ms,t,rfl,h2,h3⟩:=ho
  exact ⟨k,ms,t,rfl,by rw [hw];exact h2,h3.1,RepM.lessR h es _ hl h3.2⟩
 | dead=>exact ho.elim
def yT (σ:Nat->Nat) (env:Env) (N:Nat) (E:Env):Prop:=∀t av,lkE E t=some av->lkE env t=some (av.mp σ)/\av.ltB N=true
def nK (σ:Nat->Nat) (h:aO) (N:Nat) (Hp:aO):Prop:=∀id o,lk Hp id=some o->lk h (σ id)=some (o.mp σ)/\o.ltB N=true
section
variable {σ:Nat->Nat}
theorem dT {env:Env} {N:Nat}:yT σ env N []:=fun t av h=>by cases h
theorem dJ {env E:Env} {N t:Nat} {av av':AV} (h:lkE env t=some av') (he:av'=av.mp σ) (hl:av.ltB N=true) (hr:yT σ env N E):yT σ env N ((t,av)::E):=by
 intro k x hk
 rw [eZ] at hk
 split at hk
 ·rename_i e;subst e;injection hk with hk;subst hk;exact ⟨h.trans (by rw [he]),hl⟩
 ·exact hr k x hk
theorem dD {h:aO} {N:Nat}:nK σ h N []:=fun t av h=>by cases h
theorem cB {h Hp:aO} {N t:Nat} {o o':AObj} (hh:lk h (σ t)=some o') (he:o'=o.mp σ) (hl:o.ltB N=true) (hr:nK σ h N Hp):nK σ h N ((t,o)::Hp):=by
 intro k x hk
 rw [cA] at hk
 split at hk
 ·rename_i e;subst e;have hk:=sD hk;subst hk;exact ⟨hh.trans (by rw [he]),hl⟩
 ·exact hr k x hk
theorem DefRep.lessR {fr:Do} {N:Nat} {C C':Cx} (h:LessR N σ C C'):∀{l:cD} {ds:List Deferred},l.all (fun p=>AV.ltBs N p.2)=true->DefRep fr C (l.map fun p=>(p.1,AV.mps σ p.2)) ds->DefRep fr C' l ds
 | [],ds,_,hd=>hd
 | (some f,caps)::r,ds,hl,hd=>by
  obtain ⟨us,ds',h1,h2,h3⟩:=hd
  simp only [BA,Ar] at hl
  exact ⟨us,ds',h1,RepL.lessR h _ _ hl.1 h2,DefRep.lessR h hl.2 h3⟩
 | (none,xs)::r,ds,hl,hd=>by
  simp only [BA,Ar] at hl
  exact ⟨RepL.lessR h _ _ hl.1 hd.1,DefRep.lessR h hl.2 hd.2⟩
end
def sg (l:Dr) (i:Nat):Nat:=match l,i with
 | [],_=>0
 | x::_,0=>x
 | _::r,i+1=>sg r i
theorem fW (l : Dr) {n N : Nat} {env E : Env} {h Hp : aO} {dfs D : cD} (hN : (List.range N).all (fun i => Nat.blt (sg l i) n) = true) (hinj : (List.range N).all (fun i => (List.range N).all fun j => Nat.beq i j || !Nat.beq (sg l i) (sg l j)) = true)
    (hE : yT (sg l) env N E) (hH : nK (sg l) h N Hp) (hD : D.all (fun p => AV.ltBs N p.2) = true) (hD' : dfs = D.map fun p => (p.1, AV.mps (sg l) p.2)) : cU n env h dfs N E Hp D := by
  intro B sz a w hc
  subst hD'
  obtain ⟨M, h1, h2, h3, h4⟩ := hc
  have hn' : ∀ i, i < N -> sg l i < n := fun i hi => by
    have := Aw.1 hN i (AA.2 hi)
    simpa using this
  have hi' : ∀ i j, i < N -> j < N -> sg l i = sg l j -> i = j := fun i j hi hj e => by
    have := Aw.1 (Aw.1 hinj i (AA.2 hi)) j (AA.2 hj)
    simp only [Br, Co] at this
    rcases this with h | h
    · exact Ae h
    · rw [e, BP] at h; cases h
  let M' : Nat -> Dz := fun i => M (sg l i)
  have hok : ∀ b, bF B (lt n) M (lk h) b -> bF B (lt N) M' (lk Hp) b := fun b hb => ⟨hb.1, fun id o hid hH' he => hb.2 (sg l id) _ (hn' id hid) (hH id o hH').1 he⟩
  have hls : LessR N (sg l) (cx B n M h w) (cx B N M' Hp w) := ⟨fun id hid _ => ⟨hid, rfl⟩, fun b hb hl => ⟨hok b hb, hl, rfl⟩, fun _ _ h => h⟩
  refine ⟨M', ⟨h1.fr, fun id o hid hH' => ?_, fun id id' o o' g k1 k2 k3 k4 k5 k6 => hi' id id' k1 k2 (h1.inj _ _ _ _ g (hn' id k1) (hn' id' k2) (hH id o k3).1 (hH id' o' k4).1 k5 k6), fun id o g k1 k2 => h1.lo _ _ g (hn' id k1) (hH id o k2).1⟩, h2, fun t av ht => ?_, h4.lessR hls hD⟩
  · exact dR2
  · exact Rep.lessR hls _ _ (hE t av ht).2 (h3 t _ (hE t av ht).1)
section makes
variable {P:Dv} {tab:Tab} {ev:Evl} {h:aO} {d:Dt} {T ty:Du} {x y:Operand} {pos:String} {aft:Ds} {gd:Dn} {i:Nat} {e e':TyE} {E size:Nat} (tb:bQ P tab) (hT:aS tab T=some e) (hk:e.kind = .slice E) (hs0:aL0 tab E=some size) (hE:aS tab E=some e')
include tb hT hk hs0 hE
theorem lT (hs:Nat.beq e'.size size=true):Adds P ⟨d,.buildSlice T 0 #[],ty,pos,aft,gd⟩ ev h (.own i 0 0 size true) [(i,.row E [])] i (i+1):=bS4 tb hT hk hE hs
theorem bD9 {l c : Nat} {cs : D1} {kl kc : Dw} {I J : Int} (hs : Nat.beq e'.size size = true) (hz : Nat.beq e'.zero.length size = true) (h1' : e'.zero.all Value.oneCell' = true) (hp : Nat.blt 0 size = true) (hx : ev x = some (.c (.v (.int kl I)))) (hy : ev y = some (.c (.v (.int kc J)))) (hI : I = (l : Int)) (hJ : J = (c : Int))
    (hlc : l <= c) (hb : e'.bytes * c <= 281474976710656) (hc : c <= maxLen) (hcs : zc e'.zero l = cs) : Adds P ⟨d, .makeSlice T x y, ty, pos, aft, gd⟩ ev h (.own i 0 l size true) [(i, .row E cs)] i (i + 1) := dV3 tb hT hk hE hs hz h1' hp hx hy hI hJ hlc hb hc hcs
theorem nS {n : Nat} {parts : List (Nat × Operand)} {cs : D1} {ls : List (D1)} {all : D1} (hs : Nat.beq e'.size size = true) (hz : Nat.beq e'.zero.length size = true) (hp : Nat.blt 0 size = true) (hpt : parts = nZ 0 (parts.map (·.2))) (hn : Nat.beq (parts.map (·.2)).length n = true) (h0 : Nat.blt 0 n = true) (hle : Nat.ble (n * size) 16777216 = true)
    (hx : eX ev (parts.map (·.2)) = some cs) (hfl : FlatL cs ls) (hsz : ls.all (fun l => Nat.beq l.length size) = true) (hall : ls.flatten = all) : Adds P ⟨d, .buildSlice T n parts.toArray, ty, pos, aft, gd⟩ ev h (.own i 0 n size true) [(i, .row E all)] i (i + 1) := cB1 tb hT hk hE hs hz hp hpt hn h0 hle hx hfl hsz hall
end makes
theorem cO4 {id id' off off' n n' size:Nat} {full:Bool} (h1:id=id') (h2:off=off') (h3:n=n'):AV.own id off n size full=AV.own id' off' n' size full:=by subst h1 h2 h3;rfl
theorem cM0 {k:Dw} {m n:Int} (h:m=n):AV.c (.v (.int k m)) = .c (.v (.int k n)):=by subst h;rfl
theorem bF4 {keep:Dr} {h:aO} {id off n a m:Nat} {full:Bool} {T:Du} {l:Dm} (ho:lk h id=some (.row T (u8c l))) (hk:keep.contains id=false) (h1:off=a) (h2:n=m) (h3:a+m<=l.length):Frz keep h (.own id off n 1 full) (.sl 1 m (u8c ((l.drop a).take m))):=by
 subst h1 h2
 exact kT ho hk (by rw [A8,bR,bS]) (by rw [aH,As,A0];omega)
theorem bT8 (m:Nat):(m:Int)=(m:Int):=rfl
theorem cC6 (n:Nat):(OfNat.ofNat n:Int)=((OfNat.ofNat n:Nat):Int):=rfl
def dX6:List (D1)->Option (D1)
 | []=>some []
 | l::r=>match dX6 r with|some x=>some (l++x)|none=>none
end
section
def Fz (h Hp:aO) (v v':AV):Prop :=
 ∀(B:Bs) (n:Nat) (M:Nat->Dz) (w:World) (u:Value),(∀id o,lk Hp id=some o->lk h id=some o)->ConcH B (lt n) M (lk h) w->Rep (cx B n M h w) v u->Rep (cx B n M Hp w) v' u
theorem aO6 {B:Bs} {n:Nat} {M:Nat->Dz} {w:World} {h Hp:aO} (hs:∀id o,lk Hp id=some o->lk h id=some o):Ext (cx B n M h w) (cx B n M Hp w) :=
 ⟨fun id hid=>⟨hid,rfl⟩,fun b hb hl=>⟨⟨hb.1,fun id o hid ho he=>hb.2 id o hid (hs id o ho) he⟩,hl,rfl⟩,shp fun _ _ h=>h⟩
theorem dD9 {h Hp:aO} {v:AV}:Fz h Hp v v:=fun B n M w u hs hc hu=>Rep.ext (aO6 hs) _ _ hu
theorem eI9 {h Hp:aO} {B:Bs} {n:Nat} {M:Nat->Dz} {w:World} (hs:∀id o,lk Hp id=some o->lk h id=some o) (hc:ConcH B (lt n) M (lk h) w) {id g:Nat} {o:AObj} (ho:lk h id=some o) (hn:lk Hp id=none) (hd:id<n) (hM:M id=some g):bF B (lt n) M (lk Hp) g:=by
 refine ⟨?_,fun k o' hk hH he=>?_⟩
 ·rcases hc.lo id o g hd ho hM with h1|h1
  ·exact .inr (.inl h1)
  ·exact .inr (.inr h1)
 ·have:=hc.inj k id o' o g hk hd (hs k o' hH) ho he hM
  subst this
  rw [hn] at hH
  cases hH
theorem cL7 {h Hp:aO} {id off n size:Nat} {full:Bool} {T:Du} {cs ys:D1} (ho:lk h id=some (.row T cs)) (hn:lk Hp id=none) (hy:(cs.drop off).take (n*size)=ys) (hl:ys.length=n*size):Fz h Hp (.own id off n size full) (.c (.sl size n ys)):=by
 intro B N M w u hs hc hu
 have hext:=aO6 (B:=B) (n:=N) (M:=M) (w:=w) hs
 simp only [Rep,cx] at hu
 obtain ⟨hd,hu⟩:=hu
 have hz:n=0->∃us,RepCs (bF B (lt N) M (lk Hp)) w ys us/\∀u∈us,u.oneCell'=true:=fun h0=>by
  subst h0
  have:ys=[]:=An fY
  subst this
  exact ⟨[],by simp [RepCs],by simp⟩
 rcases hu with ⟨h1,h2,h3,h4⟩|⟨g,cp,h1,h2,h3,h4,h5⟩|⟨h1,h2,A,cp,h3,h4⟩
 ·obtain ⟨us,hus,hon⟩:=hz h1
  exact eG0
 ·obtain ⟨us,vs,hb,hr,hon⟩:=fI (fun id o h _=>h) hc ho hd h1
  have h6:=(hr.drop off).take (n*size)
  rw [hy] at h6
  refine ⟨some ⟨g,off,none⟩,cp,(us.drop off).take (n*size),h2,h3,h4,hl,RepCs.mono hext.ok _ _ h6,fun u hu=>hon u (Bf (AI hu)),fun hn'=>⟨g,off,rfl,eI9 hs hc ho hn hd h1,cC hb,fun j x hj=>?_⟩⟩
  have hjk:j<n*size:=by
   rcases AE j (n*size) with h1|h1
   ·exact h1
   ·rw [AO kE] at hj;cases hj
  rw [Be hjk,AR] at hj
  exact jE hb hj
 ·obtain ⟨us,hus,hon⟩:=hz h1
  subst h1
  exact eG1
theorem bO3 {h Hp:aO} {id n size:Nat} {full:Bool} {T:Du} {cs:D1} (ho:lk h id=some (.row T cs)) (hn:lk Hp id=none) (hl:cs.length=n*size):Fz h Hp (.own id 0 n size full) (.c (.sl size n cs)) :=
 cL7 ho hn cF7 hl
inductive FzE (env:Env) (h Hp:aO):Env->Prop
 | nil:FzE env h Hp []
 | cons {t:Nat} {v v':AV} {E:Env} (hl:lkE env t=some v) (hf:Fz h Hp v v') (hr:FzE env h Hp E):FzE env h Hp ((t,v')::E)
theorem FzE.get {env E:Env} {h Hp:aO} (hf:FzE env h Hp E):∀t av,lkE E t=some av->∃v,lkE env t=some v/\Fz h Hp v av:=by
 induction hf with
 | nil=>intro t av ht;cases ht
 | cons hl hf hr ih =>
  intro k x hk
  rw [eZ] at hk
  split at hk
  ·rename_i e;subst e;injection hk with hk;subst hk;exact ⟨_,hl,hf⟩
  ·exact ih k x hk
def eE0 (h:aO):aO->Prop
 | []=>True
 | (i,o)::r=>lk h i=some o/\eE0 h r
theorem bB9 {h:aO}:∀{Hp:aO},eE0 h Hp->∀id o,lk Hp id=some o->lk h id=some o
 | [],_,id,o,ho=>by cases ho
 | (i,q)::r,hs,id,o,ho=>by
  rw [cA] at ho
  split at ho
  ·rename_i e;subst e;rw [hs.1];rw [sD ho]
  ·exact bB9 hs.2 id o ho
theorem dJ6 {n:Nat} {env E:Env} {h Hp:aO} {dfs:cD} (hE:FzE env h Hp E) (hs:eE0 h Hp):cU n env h dfs n E Hp dfs:=by
 intro B sz a w hc
 obtain ⟨M,c1,c2,c3,c4⟩:=hc
 have hs:=bB9 hs
 have hext:=aO6 (B:=B) (n:=n) (M:=M) (w:=w) hs
 refine ⟨M,⟨c1.fr,fun id o hid ho=>(c1.obj id o hid (hs id o ho)).ext hext (fun _ _=>rfl),fun id id' o o' g k1 k2 k3 k4=>c1.inj id id' o o' g k1 k2 (hs id o k3) (hs id' o' k4),fun id o g k1 k2=>c1.lo id o g k1 (hs id o k2)⟩,c2,fun t av ht=>?_,c4.ext hext⟩
 obtain ⟨v,hv,hf⟩:=hE.get t av ht
 exact hf B n M w _ hs c1 (c3 t v hv)
theorem aT0 {P:Dv} {ops:Dq} {sz n N:Nat} {l:Dp} {K:AK} {env E:Env} {h Hp:aO} {dfs D:cD} (hw:cU n env h dfs N E Hp D) (hx:AWL P ops sz l K N E Hp D):AWL P ops sz l K n env h dfs:=fun B a w hc=>hx B a w (hw B sz a w hc)
section ops
variable {P:Dv} {tab:Tab} {ev:Evl} {h:aO} {d:Dt} {T ty:Du} {x y:Operand} {pos:String} {aft:Ds} {gd:Dn} {i:Nat}
theorem cU0 {e:TyE} {E:Nat} {hi:Option Operand} (tb:bQ P tab) (hT:aS tab T=some e) (hk:e.kind = .slice E) {e':TyE} (hE:aS tab E=some e') (hhi:Bd ev 0 hi 0) (hx:ev x=some (.c (.v (.slice none 0 0)))):Still P ⟨d,.slice T x none hi none,ty,pos,aft,gd⟩ ev h (.c (.v (.slice none 0 0))):=by
 intro B dom M H w a hh hc he
 have h1:=he x _ hx
 simp only [Rep,RepC] at h1
 have hb:=mW (P:=P) (w:=w) (n:=0) (c:=0) true he (Bd.no:Bd ev 0 none 0) hhi (Ah _) (Ah _)
 have hsz:=(aM tb hE).sizeOf w
 refine ⟨_,?_,rfl⟩
 have hund:=(aM tb hT).slice hk
 simp only [CN] at hb
 simp [execOp,Instr.sliceAt,Instr.slice,h1,Sem.run_bind,run_underlying hund,hb,hsz]
theorem bI1 {e:TyE} {E:Nat} (tb:bQ P tab) (hT:aS tab T=some e) (hk:e.kind = .slice E) {A:Option Addr} {n c:Nat} (hx:ev x=some (.c (.v (.slice A n c)))):Still P ⟨d,.call ⟨.builtin .cap,#[x],#[T]⟩,ty,pos,aft,gd⟩ ev h (.c (.v (.int .i64 c))):=by
 intro B dom M H w a hh hc he
 have h1:=he x _ hx
 simp only [Rep,RepC] at h1
 refine ⟨_,?_,rfl⟩
 simp [execOp,resolve,invoke,builtin,Builtin.cap_,h1,run_underlying ((aM tb hT).slice hk),goInt]
theorem jX {Ti:Du} {w:World} (ρ:Operand->Value) {v:Value} {w':World} (hr:(Builtin.append_ #[T,Ti] ty #[ρ x,ρ y]).run P w = .ok v w'):(execOp ρ ⟨d,.call ⟨.builtin .append,#[x,y],#[T,Ti]⟩,ty,pos,aft,gd⟩).run P w = .ok (.value v) w':=by
 simp only [execOp,resolve,invoke,builtin,Sem.run_bind,Sem.run_pure,Result.andThen_ok,AZ,AH,C7,hr]
theorem uU {Ti : Du} {k : Dw} {e e' ei : TyE} {E size m : Nat} {I : Int} (tb : bQ P tab) (hT : aS tab T = some e) (hk : e.kind = .slice E) (hs0 : aL0 tab E = some size) (hE : aS tab E = some e') (hTi : aS tab Ti = some ei) (hki : ei.kind = .int k) (hs : Nat.beq e'.size size = true) (hz : Nat.beq e'.zero.length size = true) (hp : Nat.blt 0 size = true)
    (hx : ev x = some (.c (.v (.slice none 0 0)))) (hy : ev y = some (.c (.v (.int .i64 I)))) (hI : I = (m : Int)) (h0 : 0 < m) (h63 : m <= maxLen) (hb : m * e'.bytes <= 140737488355328) :
    Adds P ⟨d, .call ⟨.builtin .append, #[x, y], #[T, Ti]⟩, ty, pos, aft, gd⟩ ev h (.own i 0 m size true) [(i, .row E [])] i (i + 1) := by
  refine iO rfl fun B dom M H w a hh hcc he => ?_
  subst hI
  have h1 := he x _ hx
  have h2 := he y _ hy
  simp only [Rep, RepC] at h1 h2
  obtain ⟨ti, zv, hi, hzv, hszt, hby, hzc⟩ := jS (aM tb hE)
  have hs' := Ae hs
  have hz' := Ae hz
  have hzs : zv.cells.size = ti.size := by rw [<- A9, hzc, hz', hszt, hs']
  have hp' : 0 < ti.size := by rw [hszt, hs']; simpa using hp
  rw [<- hby] at hb
  simp only [maxLen] at h63
  have hw : IntKind.i64.wrap (m : Int) = (m : Int) := w64 aA aA
  have c1 : ¬ ((m : Int) < 0) := by omega
  have c2 : ¬ ((281474976710656 : Int) < (m : Int) * (ti.bytes : Int)) := by
    have h3 : ((m * ti.bytes : Nat) : Int) = (m : Int) * (ti.bytes : Int) := Dh _ _
    omega
  have c3 : ¬ ((m : Int) <= 0) := by omega
  have c4 : max (m : Int) 0 = (m : Int) := by omega
  have c5 : ¬ (m * ti.size = 0) := by
    have := Nat.mul_pos h0 hp'
    omega
  have hn : m ≠ 0 := by omega
  have h63' : ¬ (9223372036854775807 < (m : Int)) := by omega
  have h48' : ¬ (281474976710656 < Builtin.nextslicecap m 0 * ti.bytes) := by rw [nextslicecap_zero h0]; omega
  have hms : ¬ (m = 0 \/ ti.size = 0) := by omega
  have hr : (Builtin.append_ #[T, Ti] ty #[.slice none 0 0, .int .i64 m]).run P w = .ok (.slice (some ⟨w.heap.size, 0, none⟩) m (grownCap w m 0 E)) (w.drew.alloc (.cells (Builtin.zeroCells zv.cells m ++ Builtin.zeroCells zv.cells (grownCap w m 0 E - m)) E)) := by
    simp [Builtin.append_, run_underlying ((aM tb hT).slice hk), run_underlying ((aM tb hTi).int hki), sizeOf, typeInfo, zeroValue, hi, hzv, asInt, asIntOf, hw, c1, c2, c3, c4, c5, hn, h63', h48', hms, Question.forced, run_firstCells_none, newRow, grownCap]
  have hge := grownCap_ge w m 0 E
  have hle := grownCap_le_maxLen w m 0 E aA4
  have hbl : (w.drew.alloc (.cells (Builtin.zeroCells zv.cells m ++ Builtin.zeroCells zv.cells (grownCap w m 0 E - m)) E)).heap[w.heap.size]? = some (.cells (([] : Do) ++ (Builtin.zeroCells zv.cells m ++ Builtin.zeroCells zv.cells (grownCap w m 0 E - m)).toList).toArray E (0, 0)) := by
    rw [show w.heap.size = w.drew.heap.size from rfl, heap_alloc_new]
    simp
  refine ⟨_, _, some w.heap.size, jX a.eval (by rw [h1, h2]; exact hr), ((Below.refl _ _).drew).alloc (Ah _) _, fun g hg => by injection hg with hg; omega, fun C hext hw hd hM => ⟨.inr ⟨w.heap.size, [], _, rfl, by rw [hw]; exact hbl, by simp [RepCs], by simp⟩, hd, .inr (.inl ⟨w.heap.size, _, hM, rfl, hge, hle, fun _ => ⟨E, ?_⟩⟩)⟩⟩
  unfold World.shape?
  rw [hw, hbl]
  simp only [Ay, A1, Aq, A9, Array.size_append, size_zeroCells, hzs, hszt, hs', <- AM]
  congr 3
  omega
end ops
end
theorem bC5 {n t size : Nat} {env : Env} {h : aO} {dfs : cD} (T : Du) (hx : lkE env t = some (.c (.v (.slice none 0 0)))) : cU n env h dfs (n + 1) ((t, .own n 0 0 size true) :: env) ((n, .row T []) :: h) dfs := by
  intro B sz a w hc
  obtain ⟨M, c1, c2, c3, c4⟩ := hc
  have e1 : ∀ id, id < n -> lk ((n, .row T []) :: h) id = lk h id := fun id hid => by rw [cA, Aj aA]
  have e2 : lk ((n, AObj.row T []) :: h) n = some (.row T []) := by rw [cA, Ak rfl]; rfl
  have eok : bF B (lt n) M (lk ((n, .row T []) :: h)) = bF B (lt n) M (lk h) := by
    funext b
    unfold bF
    simp only [BD]
    exact dR3
  have h1' : ConcH B (lt n) M (lk ((n, .row T []) :: h)) w := by
    refine ⟨c1.fr, fun id o hid hH => ?_, fun id id' o o' g k1 k2 k3 k4 => c1.inj id id' o o' g k1 k2 bM9 bM7, fun id o g k1 k2 => c1.lo id o g k1 bN0⟩
    rw [eok]
    exact c1.obj id o hid aI2
  let M' : Nat -> Dz := fun id => if id = n then none else M id
  have hMn : M' n = none := by simp [M']
  have hg := h1'.grow (Below.refl w.heap.size w) n (n + 1) (M' := M') (fun id hid => by
      have : ¬ id = n := by simp only [lt] at hid; omega
      simp [M', this]) (fun id k1 k2 => by simp only [lt]; omega)
    (fun id o k1 k2 k3 g hg => by obtain rfl : id = n := by omega
                                  rw [hMn] at hg; cases hg)
    (fun id id' o o' g k1 k2 k3 k4 _ _ _ _ => by omega)
    (fun hext id o k1 k2 k3 => by
      obtain rfl : id = n := by omega
      rw [e2] at k3
      injection k3 with k3
      subst k3
      exact .inl ⟨hMn, rfl⟩)
  rw [aX3 (BI n)] at hg
  have hext : Ext (cx B n M h w) (cx B (n + 1) M' ((n, .row T []) :: h) w) := by
    have := hg.2
    rw [eok] at this
    exact this
  refine ⟨M', hg.1, c2, fun k av hk => ?_, c4.ext hext⟩
  rw [eZ] at hk
  split at hk
  · rename_i e
    subst e
    injection hk with hk
    subst hk
    have := c3 _ _ hx
    simp only [Rep, RepC] at this
    exact ⟨Bk n, .inl ⟨rfl, rfl, hMn, this⟩⟩
  · exact Rep.ext hext _ _ (c3 k av hk)
theorem lS {P:Dv} {sz n:Nat} {c:Code} {K:AK} {env:Env} {h:aO} {dfs:cD} (t:Nat) (T:Du) (size:Nat) (hx:lkE env t=some (.c (.v (.slice none 0 0)))) (next:AW P sz c K (n+1) ((t,.own n 0 0 size true)::env) ((n,.row T [])::h) dfs):AW P sz c K n env h dfs:=oR (bC5 T hx) next
end Go.Av
