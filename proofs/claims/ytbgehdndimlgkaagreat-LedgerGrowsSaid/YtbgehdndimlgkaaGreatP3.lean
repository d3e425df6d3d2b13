/- Lemmas for laws of the ledger. -/
import Derived.Test.YtbgehdndimlgkaaGreatP2
set_option linter.all false
namespace Go.Av
open Go Go.RowKit
section
theorem Chain.snoc {P : D0} {ops : Dv} {l : Du} {env E : Env} {h H : aQ} {n N : Nat} {vs : D9} {ns : Dw} (hc : Chain P ops l env h n vs ns E H N) {o : Oper} {v : AV} {Δ : aQ} {N' : Nat}
    (hs : (guardA ops E o true /\ N <= N' /\ Adds P o (evT (o.looksAt ops) E) H v Δ N N' /\ (∀ id, N <= id -> id < N' -> (lk Δ id).isSome = true) /\ (∀ p ∈ Δ, N <= p.1 /\ p.1 < N')) \/ (guardA ops E o false /\ v = .c (.v undef) /\ Δ = [] /\ N' = N)) :
    ∃ vs' ns', Chain P ops (l ++ [o]) env h n vs' ns' (gT E o.dst v) (Δ ++ H) N' := by
  induction hc with
  | nil =>
    rcases hs with ⟨h1, h2, h3, h4, h5⟩ | ⟨h1, rfl, rfl, rfl⟩
    · exact ⟨_, _, .add h1 h2 h3 h4 h5 .nil⟩
    · exact ⟨_, _, .skip h1 .nil⟩
  | add hg hn hA hcov hkeys hr ih =>
    obtain ⟨vs', ns', hch⟩ := ih hs
    exact ⟨_, _, .add hg hn hA hcov hkeys hch⟩
  | skip hg hr ih =>
    obtain ⟨vs', ns', hch⟩ := ih hs
    exact ⟨_, _, .skip hg hch⟩
def Drw (P:D0) (l:Du) (sz:Nat) (K:AK) (dfs:cK) (id n0:Nat) (env0:Env) (h0:aQ) (m:Nat) (rest:Du) (n:Nat) (env:Env) (h:aQ):Prop :=
 ∀pre vs ns,pre++rest=l->Chain P l.toArray pre env0 h0 n0 vs ns env h n->AW P sz (.region id l.toArray true) K n0 env0 h0 dfs
section
variable {P:D0} {l:Du} {sz:Nat} {K:AK} {dfs:cK} {id n0 n:Nat} {env0 env:Env} {h0 h:aQ} {m:Nat} {rest:Du} {o:Oper} {v:AV}
theorem eD7 (m:Nat) (hx:Drw P l sz K dfs id n0 env0 h0 m l n0 env0 h0):AW P sz (.region id l.toArray true) K n0 env0 h0 dfs:=hx [] [] [n0] rfl .nil
theorem vC {Δ : aQ} {n' : Nat} (hg : guardA l.toArray env o true) (hn : n <= n') (hA : Adds P o (evT (o.looksAt l.toArray) env) h v Δ n n') (hcov : ∀ id, n <= id -> id < n' -> (lk Δ id).isSome = true) (hkeys : ∀ p ∈ Δ, n <= p.1 /\ p.1 < n')
    (next : Drw P l sz K dfs id n0 env0 h0 m rest n' (gT env o.dst v) (Δ ++ h)) : Drw P l sz K dfs id n0 env0 h0 (m + 1) (o :: rest) n env h := by
  intro pre vs ns hl hc
  obtain ⟨vs', ns', hch⟩ := hc.snoc (.inl ⟨hg, hn, hA, hcov, hkeys⟩)
  exact next (pre ++ [o]) vs' ns' gJ hch
theorem cP7 (hg:guardA l.toArray env o false) (next:Drw P l sz K dfs id n0 env0 h0 m rest n (gT env o.dst (.c (.v undef))) h):Drw P l sz K dfs id n0 env0 h0 (m+1) (o::rest) n env h:=by
 intro pre vs ns hl hc
 obtain ⟨vs',ns',hch⟩:=hc.snoc (.inr ⟨hg,rfl,rfl,rfl⟩)
 exact next (pre++[o]) vs' ns' gJ hch
theorem cB3 (hg:guardA l.toArray env o true) (hA:Still P o (evT (o.looksAt l.toArray) env) h v) (next:Drw P l sz K dfs id n0 env0 h0 m rest n (gT env o.dst v) h):Drw P l sz K dfs id n0 env0 h0 (m+1) (o::rest) n env h :=
 vC hg (Ah _) hA.adds (fun id h1 h2=>by omega) aT next
theorem dI0 (hg:guardA l.toArray env o true) (hA:Adds P o (evT (o.looksAt l.toArray) env) h v [] n n) (next:Drw P l sz K dfs id n0 env0 h0 m rest n (gT env o.dst v) h):Drw P l sz K dfs id n0 env0 h0 (m+1) (o::rest) n env h :=
 vC hg (Ah _) hA (fun id h1 h2=>by omega) aT next
theorem dI1 {obj:AObj} (hlv:obj.live=some obj) (hg:guardA l.toArray env o true) (hA:Adds P o (evT (o.looksAt l.toArray) env) h v [(n,obj)] n (n+1)) (next:Drw P l sz K dfs id n0 env0 h0 m rest (n+1) (gT env o.dst v) ((n,obj)::h)):Drw P l sz K dfs id n0 env0 h0 (m+1) (o::rest) n env h :=
 vC hg (BK _) hA (fun id h1 h2=>by
  obtain rfl:id=n:=by omega
  rw [cD,Ak rfl,hlv];rfl) aT next
theorem dH9 (hm:P.follows .mixedOrders=true) (hB:vB l (l.length-rest.length)=true) (hsz:xJ (l.take (l.length-rest.length)) sz=true) (hk0:aN6 h0 n0=true) (next:AWL P l.toArray sz rest K n env h dfs):Drw P l sz K dfs id n0 env0 h0 0 rest n env h:=by
 intro pre vs ns hl hc
 have hlen:l.length-rest.length=pre.length:=by rw [<- hl];simp
 rw [hlen] at hB hsz
 have ht:l.take pre.length=pre:=by rw [<- hl];simp
 have hd:l.drop pre.length=rest:=by rw [<- hl];simp
 exact dF6 pre.length hm hB hsz hk0 (by rw [ht];exact hc) (by rw [hd];exact next)
variable {d:Dy} {ty:Dz} {pos:String} {aft:Dx} {gd:Ds} {f:FuncId} {xs:D5} {ats:D4} {r:AV} {hr:aQ} {nr:Nat}
theorem dB6 {k nr:Nat}:∀{h:aQ},h.all (fun p=>Nat.blt p.1 nr)=true->∀p∈shH k h,k<=p.1/\p.1<k+nr
 | [],_,p,hp=>by cases hp
 | q::r,hb,p,hp=>by
  simp only [BE,Au,AM] at hb
  rw [shH] at hp
  rcases A6.1 hp with rfl|hp
  ·exact ⟨by simp,by simp;exact hb.1⟩
  ·exact dB6 (by simpa using hb.2) p hp
theorem bB1 {cs cs' : D8} (hg : guardA l.toArray env ⟨d, .call ⟨.value (.func f), xs.toArray, ats⟩, ty, pos, aft, gd⟩ true) (hb : Body P f) (hx : fG (evT (Oper.looksAt l.toArray ⟨d, .call ⟨.value (.func f), xs.toArray, ats⟩, ty, pos, aft, gd⟩) env) xs = some cs) (hac : AC P f cs' r hr nr) (hcv : CvL cs cs') (hcov : aZ6 hr nr = true)
    (next : Drw P l sz K dfs id n0 env0 h0 m rest (n + nr) (gT env d (r.sh n)) (shH n hr ++ h)) : Drw P l sz K dfs id n0 env0 h0 (m + 1) (⟨d, .call ⟨.value (.func f), xs.toArray, ats⟩, ty, pos, aft, gd⟩ :: rest) n env h :=
  vC hg (CO _ _) (eE hb hx hac hcv hcov) (fun id h1 h2 => by
    have := (sW hcov (id - n)).1 aA
    obtain ⟨o, ho⟩ := AQ.1 this
    rw [show id = n + (id - n) by omega, aJ7, ho]; rfl) (dB6 (by simp only [aZ6, Au] at hcov; exact hcov.1)) next
end
def AWR (P:D0) (sz:Nat) (c:Code) (K:AK):Nat->Nat->Env->aQ->cK->Prop
 | 0,_,_,_,_=>False
 | k+1,n,env,h,dfs=>AW P sz c (bX9 (fun n env h dfs=>AWR P sz c K k n env h dfs) K) n env h dfs
theorem cI8 {P:D0} {sz k n:Nat} {c:Code} {K:AK} {env:Env} {h:aQ} {dfs:cK} (hx:AW P sz c (bX9 (AWR P sz c K k) K) n env h dfs):AWR P sz c K (k+1) n env h dfs:=hx
theorem sV {P:D0} {sz n:Nat} {c:Code} {K:AK} {env:Env} {h:aQ} {dfs:cK} (k:Nat) (hx:AWR P sz c K k n env h dfs):AW P sz (.loop c) K n env h dfs:=by
 intro B a w hc
 refine zO k ?_
 induction k generalizing n env h dfs a w with
 | zero=>exact hx.elim
 | succ k ih =>
  rw [aW4]
  refine pP (hx B a w hc) fun e a' w' hq=>?_
  obtain ⟨n',env',h',d',hk,hc'⟩:=hq
  cases e with
  | normal=>exact ih hk a' w' hc'
  | _=>exact ⟨n',env',h',d',hk,hc'⟩
def rF (place:Nat->Option (Nat × Nat)) (cs:D9):List (Nat × D9)->Option (D9)
 | []=>some cs
 | (i,vs)::r=>match place i with
  | some (off,size)=>match Nat.beq vs.length size&&Nat.ble (off+vs.length) cs.length with
   | true=>rF place (lay cs off vs) r
   | false=>none
  | none=>none
inductive CellsA:AV->D9->Prop
 | agg {v:AV} {xs:D9} (h:Parts v xs):CellsA v xs
 | one {v:AV} (h:v.one=true):CellsA v [v]
theorem CellsA.rep {C:Cx} {v:AV} {xs:D9} (h:CellsA v xs) {u:Value} (hr:Rep C v u):RepL C xs u.cells.toList:=by
 cases h with
 | agg h=>obtain ⟨us,rfl,h2⟩:=h.rep hr;simpa [Value.cells] using h2
 | one h=>rw [(hr.one h).2];exact ⟨u,[],rfl,hr,rfl⟩
inductive CellsL:D9->List (D9)->Prop
 | nil:CellsL [] []
 | cons {v:AV} {xs:D9} {l:D9} {ls:List (D9)} (h:CellsA v xs) (hl:CellsL l ls):CellsL (v::l) (xs::ls)
theorem xM {C : Cx} (place : Nat -> Option (Nat × Nat)) : ∀ {ps : List (Nat × Value)} {ks : Dw} {vs : D9} {ls : List (D9)} {cs out : D9} {us : Dt}, CellsL vs ls -> ps.map (·.1) = ks -> RepL C vs (ps.map (·.2)) -> RepL C cs us -> rF place cs (ks.zip ls) = some out ->
    ∃ us', Instr.fill place us.toArray ps = some us'.toArray /\ RepL C out us'
  | [], ks, vs, ls, cs, out, us, hc, hk, hv, hcs, hf => by
    simp at hk; subst hk
    simp [rF] at hf; subst hf
    exact ⟨us, rfl, hcs⟩
  | (k, u) :: ps, ks, vs, ls, cs, out, us, hc, hk, hv, hcs, hf => by
    simp only [AI] at hk hv
    subst hk
    cases hc with
    | nil => obtain ⟨h1⟩ := hv
    | @cons v xs l ls h hl =>
      simp only [RepL] at hv
      obtain ⟨u', us'', he, h1, h2⟩ := hv
      injection he with he1 he2
      subst he1 he2
      simp only [List.zip_cons_cons, rF] at hf
      split at hf
      · rename_i off size hp
        split at hf
        · rename_i hb
          simp only [Au] at hb
          have hlen := (h.rep h1).length
          have e1 := Af hb.1
          have e2 := A7 hb.2
          have hul := hcs.length
          have hcs' : RepL C (lay cs off xs) (lay us off u.cells.toList) := by
            unfold lay
            rw [hlen]
            exact ((hcs.take off).append (h.rep h1)).append (hcs.drop (off + xs.length))
          obtain ⟨us', h3, h4⟩ := xM place hl rfl h2 hcs' hf
          refine ⟨us', ?_, h4⟩
          rw [bC2 (vs := u.cells.toList) (off := off) rfl (by rw [hlen, e1]; exact hp) (by rw [hlen, hul]; exact e2)]
          exact h3
        · cases hf
      · cases hf
section build
variable {P:D0} {tab:Tab} {ev:Evl} {h:aQ} {d:Dy} {T ty:Dz} {pos:String} {aft:Dx} {gd:Ds}
def kS (tab:Tab) (fs:List (Nat × Dz)) (i:Nat):Option (Nat × Nat):=match fs[i]? with
 | some (off,t)=>match aX tab t with|some e=>some (off,e.size)|none=>none
 | none=>none
theorem yZ (w : World) : ∀ (fs : List Field) (g : List (Nat × Dz)), fs.map (fun f => (f.offset, f.type)) = g -> (∀ (i : Nat) (p : Nat × Dz), g[i]? = some p -> ∃ e, aX tab p.2 = some e) -> bT P tab ->
    ∃ ps : List (Nat × Nat), (fs.mapM (fun (f : Field) => (do pure (f.offset, <- sizeOf f.type) : Sem (Nat × Nat)))).run P w = .ok ps w /\ ∀ i, ps[i]? = kS tab g i
  | [], g, hg, hl, tb => by
    simp at hg; subst hg
    exact ⟨[], by simp, fun i => by simp [kS]⟩
  | f :: fs, g, hg, hl, tb => by
    simp only [AI] at hg
    subst hg
    obtain ⟨e, he⟩ := hl 0 (f.offset, f.type) rfl
    obtain ⟨ps, h1, h2⟩ := yZ w fs _ rfl (fun i p hp => hl (i + 1) p (by simpa using hp)) tb
    refine ⟨(f.offset, e.size) :: ps, ?_, fun i => ?_⟩
    · simp only [Cy, Sem.run_bind, (aM tb he).sizeOf w, Result.andThen_ok, Sem.run_pure, h1]
    · cases i with
      | zero => simp only [kS, B5]; simp only at he; rw [he]
      | succ i => simpa [kS] using h2 i
theorem lO (tb : bT P tab) {e : TyE} {fs : List (Nat × Dz)} {ps : List (Nat × Operand)} {vs : D9} {ls : List (D9)} {out : D9} {v : AV} (hT : aX tab T = some e) (hk : e.kind = .struct fs) (hfs : fs.all (fun p => (aX tab p.2).isSome) = true) (hx : rA ev (ps.map (·.2)) = some vs) (hcl : CellsL vs ls) (hf : rF (kS tab fs) (zav e.zero) ((ps.map (·.1)).zip ls) = some out) (hv : IsAgg out v) :
    Still P ⟨d, .build T ps.toArray, ty, pos, aft, gd⟩ ev h v := by
  intro B dom M H w a hh hc he
  have hargs := gM he (mT hx)
  obtain ⟨fields, h1, h2⟩ := (aM tb hT).struct hk
  obtain ⟨ti, hi, hs, hby, z, hz, hzc⟩ := (aM tb hT).parts
  obtain ⟨qs, h3, h4⟩ := yZ (P := P) (tab := tab) w fields.toList fs h2 (fun i p hp => AQ.1 (Ay.1 hfs p (Ad hp))) tb
  obtain ⟨us', h5, h6⟩ := xM (ps := ps.map fun p => (p.1, a.eval p.2)) (ks := ps.map (·.1)) (kS tab fs) hcl aT (by rw [BY]; rw [BY] at hargs; exact hargs) (aY0 e.zero) hf
  refine ⟨.agg us'.toArray, ?_, hv.rep h6⟩
  have hm : (fields.mapM fun (f : Field) => (do pure (f.offset, <- sizeOf f.type) : Sem (Nat × Nat))).run P w = .ok qs.toArray w := by
    rw [Array.mapM_eq_mapM_toList, map_eq_pure_bind, Sem.run_bind, h3]
    rfl
  have hplace : (fun i => qs.toArray[i]?) = kS tab fs := by
    funext i; rw [<- h4 i]; simp
  simp only [execOp, Instr.build, Sem.run_bind, zeroValue, typeInfo, run_program, Result.andThen_ok, hi, Sem.run_pure, hz, run_underlying h1, hm]
  rw [hplace]
  rw [show (Array.map (fun x => (x.fst, a.eval x.snd)) ps.toArray).toList = ps.map fun p => (p.1, a.eval p.2) by simp]
  rw [show z.cells = e.zero.toArray by rw [<- hzc]]
  rw [h5]
  rfl
theorem aI6 (tb : bT P tab) {e e' : TyE} {n E : Nat} {ps : List (Nat × Operand)} {vs : D9} {ls : List (D9)} {out : D9} {v : AV} (hT : aX tab T = some e) (hk : e.kind = .array n E) (hE : aX tab E = some e') (hx : rA ev (ps.map (·.2)) = some vs) (hcl : CellsL vs ls) (hf : rF (fun i => some (i * e'.size, e'.size)) (zav e.zero) ((ps.map (·.1)).zip ls) = some out) (hv : IsAgg out v) :
    Still P ⟨d, .build T ps.toArray, ty, pos, aft, gd⟩ ev h v := by
  intro B dom M H w a hh hc he
  have hargs := gM he (mT hx)
  have h1 := (aM tb hT).array hk
  obtain ⟨ti, hi, hs, hby, z, hz, hzc⟩ := (aM tb hT).parts
  obtain ⟨us', h5, h6⟩ := xM (ps := ps.map fun p => (p.1, a.eval p.2)) (ks := ps.map (·.1)) (fun i => some (i * e'.size, e'.size)) hcl aT (by rw [BY]; rw [BY] at hargs; exact hargs) (aY0 e.zero) hf
  refine ⟨.agg us'.toArray, ?_, hv.rep h6⟩
  simp only [execOp, Instr.build, Sem.run_bind, zeroValue, typeInfo, run_program, Result.andThen_ok, hi, Sem.run_pure, hz, run_underlying h1, (aM tb hE).sizeOf w]
  rw [show (Array.map (fun x => (x.fst, a.eval x.snd)) ps.toArray).toList = ps.map fun p => (p.1, a.eval p.2) by simp]
  rw [show z.cells = e.zero.toArray by rw [<- hzc]]
  rw [h5]
  rfl
end build
end
section
def IsW (p:Int) (x:BitVec 64):Prop:=p=(x.toNat:Int)
theorem nZ {x:BitVec 64}:IsW (x.toNat:Int) x:=rfl
theorem dM4 {n:Nat} (h:Nat.blt n 18446744073709551616=true):IsW (n:Int) (BitVec.ofNat 64 n):=by
 have:n<18446744073709551616:=by simpa using h
 simp only [IsW,BitVec.toNat_ofNat]
 rw [BH aA]
theorem IsW.ofInt {p:Int} {x:BitVec 64} (h:IsW p x):BitVec.ofInt 64 p=x:=by
 unfold IsW at h
 subst h
 apply BitVec.eq_of_toNat_eq
 simp only [Cd]
 have:=x.isLt
 omega
theorem bY6 (x:BitVec 64):IntKind.u64.wrap (x.toNat:Int)=(x.toNat:Int):=by
 have:=x.isLt
 rw [IntKind.wrap_u64];omega
section
variable {P:D0} {tab:Tab} {ev:Evl} {h:aQ} {d:Dy} {T ty T':Dz} {X Y:Operand} {pos:String} {aft:Dx} {gd:Ds} {p q:Int} {x y:BitVec 64} (hX:ev X=some (.c (.v (.int .u64 p)))) (hp:IsW p x)
include hX hp
section
variable (hY:ev Y=some (.c (.v (.int .u64 q)))) (hq:IsW q y)
include hY hq
theorem eL8:Still P ⟨d,.binOp .xor T X Y T',ty,pos,aft,gd⟩ ev h (.c (.v (.int .u64 ((x ^^^ y).toNat:Int)))) :=
 bH0 hX hY (by show IntKind.u64.wrap ((BitVec.ofInt 64 p ^^^ BitVec.ofInt 64 q).toNat:Int)=_;rw [hp.ofInt,hq.ofInt,bY6])
theorem eK6:Still P ⟨d,.binOp .and T X Y T',ty,pos,aft,gd⟩ ev h (.c (.v (.int .u64 ((x &&& y).toNat:Int)))) :=
 aI4 hX hY (by show IntKind.u64.wrap ((BitVec.ofInt 64 p &&& BitVec.ofInt 64 q).toNat:Int)=_;rw [hp.ofInt,hq.ofInt,bY6])
theorem eX0:Still P ⟨d,.binOp .or T X Y T',ty,pos,aft,gd⟩ ev h (.c (.v (.int .u64 ((x ||| y).toNat:Int)))) :=
 cF7 hX hY (by show IntKind.u64.wrap ((BitVec.ofInt 64 p ||| BitVec.ofInt 64 q).toNat:Int)=_;rw [hp.ofInt,hq.ofInt,bY6])
theorem eK5:Still P ⟨d,.binOp .add T X Y T',ty,pos,aft,gd⟩ ev h (.c (.v (.int .u64 ((x+y).toNat:Int)))) :=
 eC7 hX hY (by unfold IsW at hp hq;subst hp hq;rw [IntKind.wrap_u64,BitVec.toNat_add];omega)
theorem eL1:Still P ⟨d,.binOp .mul T X Y T',ty,pos,aft,gd⟩ ev h (.c (.v (.int .u64 ((x*y).toNat:Int)))) :=
 eC8 hX hY (by unfold IsW at hp hq;subst hp hq;rw [IntKind.wrap_u64,BitVec.toNat_mul,<- Dn];omega)
theorem eL5:Still P ⟨d,.binOp .sub T X Y T',ty,pos,aft,gd⟩ ev h (.c (.v (.int .u64 ((x-y).toNat:Int)))) :=
 eD0 hX hY (by unfold IsW at hp hq;subst hp hq;have:=x.isLt;have:=y.isLt;rw [IntKind.wrap_u64,BitVec.toNat_sub];omega)
end
theorem aI7:Still P ⟨d,.unOp .xor T X,ty,pos,aft,gd⟩ ev h (.c (.v (.int .u64 ((~~~x).toNat:Int)))) :=
 tN hX (by
  show IntKind.u64.wrap ((BitVec.ofInt 64 18446744073709551615 ^^^ BitVec.ofInt 64 p).toNat:Int)=_
  rw [hp.ofInt,show BitVec.ofInt 64 18446744073709551615=BitVec.allOnes 64 by decide,Da,bY6])
section
variable {k:D3} {r:Int} {m:Nat} (hY:ev Y=some (.c (.v (.int k r)))) (hr:r=(m:Int))
include k r m hY hr
theorem yB:Still P ⟨d,.binOp .shl T X Y T',ty,pos,aft,gd⟩ ev h (.c (.v (.int .u64 ((x <<< m).toNat:Int)))) :=
 bG8 hX hY aA (by
  unfold IsW at hp;subst hp hr
  simp only [AX,show IntKind.u64.bits=64 from rfl]
  rw [IntKind.wrap_u64,CE,C6]
  rcases AF m 64 with h|h
  ·rw [Bp aA]
   rw [show ((x.toNat:Int)*2 ^ m)=((x.toNat*2 ^ m:Nat):Int) by simp]
   omega
  ·rw [BQ h,show ((x.toNat:Int)*2 ^ 64)=((x.toNat*2 ^ 64:Nat):Int) by simp]
   have h1:x.toNat*2 ^ m=(x.toNat*2 ^ (m-64))*2 ^ 64:=by rw [Nat.mul_assoc,<- Nat.pow_add];congr 2;omega
   have h2:x.toNat*2 ^ m%2 ^ 64=0:=by rw [h1];exact Nat.mul_mod_left _ _
   rw [h2]
   have h3:x.toNat*2 ^ 64%2 ^ 64=0:=Nat.mul_mod_left _ _
   omega)
theorem uL:Still P ⟨d,.binOp .shr T X Y T',ty,pos,aft,gd⟩ ev h (.c (.v (.int .u64 ((x >>> m).toNat:Int)))) :=
 bG9 hX hY aA (by
  unfold IsW at hp;subst hp hr
  simp only [AX,show IntKind.u64.bits=64 from rfl]
  rw [BitVec.toNat_ushiftRight,Nat.shiftRight_eq_div_pow,Int.fdiv_eq_ediv_of_nonneg _ (by exact Int.pow_nonneg aN)]
  rcases AF m 64 with h|h
  ·rw [Bp aA];simp
  ·rw [BQ h]
   have:=x.isLt
   have h1:x.toNat / 2 ^ m=0:=Dj (A5 this (Ci aN h))
   have h2:x.toNat / 2 ^ 64=0:=Dj this
   rw [h1]
   rw [show ((2:Int) ^ 64)=((2 ^ 64:Nat):Int) by simp,<- Int.natCast_ediv,h2])
end
theorem aJ0 (tb:bT P tab) {S:Dz} {e es:TyE} (hS:aX tab S=some es) (hT:aX tab T=some e) (hk:e.kind = .int .u8):Still P ⟨d,.convert S T X,ty,pos,aft,gd⟩ ev h (.c (.v (.int .u8 ((UInt8.ofBitVec (x.setWidth 8)).toNat:Int)))) :=
 fC tb hS hT hk hX (by
  unfold IsW at hp;subst hp
  have:=x.isLt
  rw [IntKind.wrap_u8]
  simp)
end
section
variable {P:D0} {tab:Tab} {ev:Evl} {h:aQ} {d:Dy} {T ty S:Dz} {X:Operand} {pos:String} {aft:Dx} {gd:Ds}
include P tab ev h d T ty S X pos aft gd
theorem aI8 {b:UInt8} (hX:ev X=some (.c (.v (.int .u8 (b.toNat:Int))))) (tb:bT P tab) {e es:TyE} (hS:aX tab S=some es) (hT:aX tab T=some e) (hk:e.kind = .int .u64):Still P ⟨d,.convert S T X,ty,pos,aft,gd⟩ ev h (.c (.v (.int .u64 ((b.toBitVec.setWidth 64).toNat:Int)))) :=
 fC tb hS hT hk hX (by
  have:=b.toNat_lt
  rw [IntKind.wrap_u64]
  simp
  omega)
theorem aI9 {m:Int} {k:D3} (hX:ev X=some (.c (.v (.int k m)))) (tb:bT P tab) {e es:TyE} (hS:aX tab S=some es) (hT:aX tab T=some e) (hk:e.kind = .int .u64):Still P ⟨d,.convert S T X,ty,pos,aft,gd⟩ ev h (.c (.v (.int .u64 ((BitVec.ofInt 64 m).toNat:Int)))) :=
 fC tb hS hT hk hX (by
  rw [IntKind.wrap_u64]
  simp only [Cd]
  omega)
end
end
end Go.Av
namespace Go.Av
open Go
section
variable {P:D0} {ops:Dv} {sz n n0 i m:Nat} {K:AK} {env env0:Env} {h h0:aQ} {dfs:cK} {rest l:Du} {d:Dy} {ty:Dz} {pos:String} {aft:Dx} {gd:Ds} {ev:Evl} {v:AV}
theorem aW {T:Dz} (hh:AWL P ops sz (⟨d,.alloc T,ty,pos,aft,gd⟩::rest) K n env h dfs):AWL P ops sz (⟨d,.alloc T,ty,pos,aft,gd⟩::rest) K n env h dfs:=hh
theorem bH {T:Dz} {x:Operand} (hh:AWL P ops sz (⟨d,.box T x,ty,pos,aft,gd⟩::rest) K n env h dfs):AWL P ops sz (⟨d,.box T x,ty,pos,aft,gd⟩::rest) K n env h dfs:=hh
theorem lH {T:Dz} {ps:Array (Nat × Operand)} (hh:AWL P ops sz (⟨d,.build T ps,ty,pos,aft,gd⟩::rest) K n env h dfs):AWL P ops sz (⟨d,.build T ps,ty,pos,aft,gd⟩::rest) K n env h dfs:=hh
theorem qG {T:Dz} {k:Nat} {ps:Array (Nat × Operand)} (hh:AWL P ops sz (⟨d,.buildSlice T k ps,ty,pos,aft,gd⟩::rest) K n env h dfs):AWL P ops sz (⟨d,.buildSlice T k ps,ty,pos,aft,gd⟩::rest) K n env h dfs:=hh
theorem fT {T:Dz} {x y:Operand} (hh:AWL P ops sz (⟨d,.store T x y,ty,pos,aft,gd⟩::rest) K n env h dfs):AWL P ops sz (⟨d,.store T x y,ty,pos,aft,gd⟩::rest) K n env h dfs:=hh
theorem cT8 {T:Dz} {x y:Operand} (hh:AWL P ops sz (⟨d,.makeSlice T x y,ty,pos,aft,gd⟩::rest) K n env h dfs):AWL P ops sz (⟨d,.makeSlice T x y,ty,pos,aft,gd⟩::rest) K n env h dfs:=hh
theorem uE {b:Builtin} {xs:Array Operand} {ts:D4} (hh:AWL P ops sz (⟨d,.call ⟨.builtin b,xs,ts⟩,ty,pos,aft,gd⟩::rest) K n env h dfs):AWL P ops sz (⟨d,.call ⟨.builtin b,xs,ts⟩,ty,pos,aft,gd⟩::rest) K n env h dfs:=hh
theorem aF {f:FuncId} {xs:Array Operand} {ts:D4} (hh:AWL P ops sz (⟨d,.call ⟨.value (.func f),xs,ts⟩,ty,pos,aft,gd⟩::rest) K n env h dfs):AWL P ops sz (⟨d,.call ⟨.value (.func f),xs,ts⟩,ty,pos,aft,gd⟩::rest) K n env h dfs:=hh
theorem fI {f:FuncId} {xs:Array Operand} {ts:D4} (hh:Drw P l sz K dfs i n0 env0 h0 m (⟨d,.call ⟨.value (.func f),xs,ts⟩,ty,pos,aft,gd⟩::rest) n env h):Drw P l sz K dfs i n0 env0 h0 m (⟨d,.call ⟨.value (.func f),xs,ts⟩,ty,pos,aft,gd⟩::rest) n env h:=hh
theorem bD {q:Nat} {xs:Array Operand} {ts:D4} (hh:AWL P ops sz (⟨d,.call ⟨.value (.tmp q),xs,ts⟩,ty,pos,aft,gd⟩::rest) K n env h dfs):AWL P ops sz (⟨d,.call ⟨.value (.tmp q),xs,ts⟩,ty,pos,aft,gd⟩::rest) K n env h dfs:=hh
theorem cC5 {c:Call} (hh:AWL P ops sz (⟨d,.defer c,ty,pos,aft,gd⟩::rest) K n env h dfs):AWL P ops sz (⟨d,.defer c,ty,pos,aft,gd⟩::rest) K n env h dfs:=hh
theorem cU0 {x:Operand} {a b:Code} (hh:AW P sz (.cond x a b) K n env h dfs):AW P sz (.cond x a b) K n env h dfs:=hh
theorem aR {a:Dv} (hh:AW P sz (.region i a true) K n env h dfs):AW P sz (.region i a true) K n env h dfs:=hh
theorem vR {c:Code} (hh:AW P sz (.loop c) K n env h dfs):AW P sz (.loop c) K n env h dfs:=hh
theorem bL {o:Oper} (hh:AWL P ops sz (o::rest) K n env h dfs):AWL P ops sz (o::rest) K n env h dfs:=hh
theorem cT7 {op:Op} {g:Nat × Bool} (hh:AWL P ops sz (⟨d,op,ty,pos,aft,some g⟩::rest) K n env h dfs):AWL P ops sz (⟨d,op,ty,pos,aft,some g⟩::rest) K n env h dfs:=hh
end
mutual
def AV.noId:AV->Bool
 | .c _ | .ip _ _ | .junk=>true
 | .ref _ _ | .own _ _ _ _ _ | .yld _ | .mh _ | .bm _ _=>false
 | .agg xs=>AV.noIds xs
 | .tup xs=>AV.noIds xs
 | .fn _ xs=>AV.noIds xs
def AV.noIds:D9->Bool
 | []=>true
 | x::xs=>AV.noId x&&AV.noIds xs
end
mutual
theorem AV.sh_noId (k:Nat):∀(x:AV),x.noId=true->x.sh k=x
 | .c _,_=>rfl
 | .ip _ _,_=>rfl
 | .junk,_=>rfl
 | .ref _ _,h=>by cases h
 | .own _ _ _ _ _,h=>by cases h
 | .yld _,h=>by cases h
 | .mh _,h=>by cases h
 | .bm _ _,h=>by cases h
 | .agg xs,h=>by rw [AV.sh,AV.shs_noId k xs h]
 | .tup xs,h=>by rw [AV.sh,AV.shs_noId k xs h]
 | .fn _ xs,h=>by rw [AV.sh,AV.shs_noId k xs h]
theorem AV.shs_noId (k:Nat):∀(xs:D9),AV.noIds xs=true->AV.shs k xs=xs
 | [],_=>rfl
 | x::xs,h=>by
  simp only [AV.noIds,Au] at h
  rw [AV.shs,AV.sh_noId k x h.1,AV.shs_noId k xs h.2]
end
section
variable {P:D0} {ops:Dv} {sz n n0 i m t:Nat} {K:AK} {env env0:Env} {h h0:aQ} {dfs:cK} {rest l:Du} {op:Op} {ty:Dz} {pos:String} {aft:Dx} {gd:Ds} {v:AV}
theorem dE8 (hg:guardA ops env ⟨some t,op,ty,pos,aft,gd⟩ true) (hd:Nat.blt t sz=true) (hA:Still P ⟨some t,op,ty,pos,aft,gd⟩ (evA env) h v) (next:AWL P ops sz rest K n ((t,v)::env) h dfs):AWL P ops sz (⟨some t,op,ty,pos,aft,gd⟩::rest) K n env h dfs:=bZ8 hg hd hA next
theorem dH8 (hg:guardA l.toArray env ⟨some t,op,ty,pos,aft,gd⟩ true) (hA:Still P ⟨some t,op,ty,pos,aft,gd⟩ (evT (Oper.looksAt l.toArray ⟨some t,op,ty,pos,aft,gd⟩) env) h v) (next:Drw P l sz K dfs i n0 env0 h0 m rest n ((t,v)::env) h):Drw P l sz K dfs i n0 env0 h0 (m+1) (⟨some t,op,ty,pos,aft,gd⟩::rest) n env h:=cB3 hg hA next
theorem eN3 {obj:AObj} (hlv:obj.live=some obj) (hg:guardA ops env ⟨some t,op,ty,pos,aft,gd⟩ true) (hd:Nat.blt t sz=true) (hA:Adds P ⟨some t,op,ty,pos,aft,gd⟩ (evA env) h v [(n,obj)] n (n+1)) (next:AWL P ops sz rest K (n+1) ((t,v)::env) ((n,obj)::h) dfs):AWL P ops sz (⟨some t,op,ty,pos,aft,gd⟩::rest) K n env h dfs:=dG3 hlv hg hd hA next
theorem eP1 {obj:AObj} (hlv:obj.live=some obj) (hg:guardA l.toArray env ⟨some t,op,ty,pos,aft,gd⟩ true) (hA:Adds P ⟨some t,op,ty,pos,aft,gd⟩ (evT (Oper.looksAt l.toArray ⟨some t,op,ty,pos,aft,gd⟩) env) h v [(n,obj)] n (n+1)) (next:Drw P l sz K dfs i n0 env0 h0 m rest (n+1) ((t,v)::env) ((n,obj)::h)):Drw P l sz K dfs i n0 env0 h0 (m+1) (⟨some t,op,ty,pos,aft,gd⟩::rest) n env h:=dI1 hlv hg hA next
theorem bJ3 (hg:guardA ops env ⟨some t,op,ty,pos,aft,gd⟩ false) (hd:Nat.blt t sz=true) (next:AWL P ops sz rest K n ((t,.c (.v undef))::env) h dfs):AWL P ops sz (⟨some t,op,ty,pos,aft,gd⟩::rest) K n env h dfs:=cI7 hg hd next
theorem bK4 (hg:guardA l.toArray env ⟨some t,op,ty,pos,aft,gd⟩ false) (next:Drw P l sz K dfs i n0 env0 h0 m rest n ((t,.c (.v undef))::env) h):Drw P l sz K dfs i n0 env0 h0 (m+1) (⟨some t,op,ty,pos,aft,gd⟩::rest) n env h:=cP7 hg next
variable {f:FuncId} {xs:D5} {ats:D4} {r:AV} {hr:aQ} {nr:Nat} {cs cs':D8}
theorem dE6 (hg : guardA ops env ⟨some t, .call ⟨.value (.func f), xs.toArray, ats⟩, ty, pos, aft, gd⟩ true) (hd : Nat.blt t sz = true) (hb : Body P f) (hx : fG (evA env) xs = some cs) (hac : AC P f cs' r [] 0) (hcv : CvL cs cs') (hid : r.noId = true)
    (next : AWL P ops sz rest K n ((t, r) :: env) h dfs) : AWL P ops sz (⟨some t, .call ⟨.value (.func f), xs.toArray, ats⟩, ty, pos, aft, gd⟩ :: rest) K n env h dfs :=
  rM hg hd hb hx hac hcv rfl (by rw [AV.sh_noId _ _ hid]; exact next)
theorem dH5 (hg : guardA l.toArray env ⟨some t, .call ⟨.value (.func f), xs.toArray, ats⟩, ty, pos, aft, gd⟩ true) (hb : Body P f) (hx : fG (evT (Oper.looksAt l.toArray ⟨some t, .call ⟨.value (.func f), xs.toArray, ats⟩, ty, pos, aft, gd⟩) env) xs = some cs) (hac : AC P f cs' r [] 0) (hcv : CvL cs cs') (hid : r.noId = true)
    (next : Drw P l sz K dfs i n0 env0 h0 m rest n ((t, r) :: env) h) : Drw P l sz K dfs i n0 env0 h0 (m + 1) (⟨some t, .call ⟨.value (.func f), xs.toArray, ats⟩, ty, pos, aft, gd⟩ :: rest) n env h :=
  bB1 hg hb hx hac hcv rfl (by rw [AV.sh_noId _ _ hid]; exact next)
theorem dN3 (hg : guardA ops env ⟨none, .call ⟨.value (.func f), xs.toArray, ats⟩, ty, pos, aft, gd⟩ true) (hb : Body P f) (hx : fG (evA env) xs = some cs) (hac : AC P f cs' r [] 0) (hcv : CvL cs cs')
    (next : AWL P ops sz rest K n env h dfs) : AWL P ops sz (⟨none, .call ⟨.value (.func f), xs.toArray, ats⟩, ty, pos, aft, gd⟩ :: rest) K n env h dfs :=
  rM hg rfl hb hx hac hcv rfl next
theorem dE7 {T : Dz} {rc : D8} {k size : Nat} (hg : guardA ops env ⟨some t, .call ⟨.value (.func f), xs.toArray, ats⟩, ty, pos, aft, gd⟩ true) (hd : Nat.blt t sz = true) (hb : Body P f) (hx : fG (evA env) xs = some cs) (hac : AC P f cs' (.own 0 0 k size true) [(0, .row T rc)] 1) (hcv : CvL cs cs')
    (next : AWL P ops sz rest K (n + 1) ((t, .own n 0 k size true) :: env) ((n, .row T rc) :: h) dfs) : AWL P ops sz (⟨some t, .call ⟨.value (.func f), xs.toArray, ats⟩, ty, pos, aft, gd⟩ :: rest) K n env h dfs :=
  rM hg hd hb hx hac hcv rfl next
theorem dH6 {T : Dz} {rc : D8} {k size : Nat} (hg : guardA l.toArray env ⟨some t, .call ⟨.value (.func f), xs.toArray, ats⟩, ty, pos, aft, gd⟩ true) (hb : Body P f) (hx : fG (evT (Oper.looksAt l.toArray ⟨some t, .call ⟨.value (.func f), xs.toArray, ats⟩, ty, pos, aft, gd⟩) env) xs = some cs) (hac : AC P f cs' (.own 0 0 k size true) [(0, .row T rc)] 1) (hcv : CvL cs cs')
    (next : Drw P l sz K dfs i n0 env0 h0 m rest (n + 1) ((t, .own n 0 k size true) :: env) ((n, .row T rc) :: h)) : Drw P l sz K dfs i n0 env0 h0 (m + 1) (⟨some t, .call ⟨.value (.func f), xs.toArray, ats⟩, ty, pos, aft, gd⟩ :: rest) n env h :=
  bB1 hg hb hx hac hcv rfl next
variable {tab:Tab} {T:Dz} {x y:Operand}
theorem aA8 (tb : bT P tab) {e e' : TyE} {E size m k id : Nat} {vy : AV} {cs ys : D8} (hg : guardA ops env ⟨some t, .call ⟨.builtin .append, #[x, y], #[T, T]⟩, ty, pos, aft, gd⟩ true) (hd : Nat.blt t sz = true) (hT : aX tab T = some e) (hk : e.kind = .slice E) (hE : aX tab E = some e') (hs : Nat.beq e'.size size = true) (hz : Nat.beq e'.zero.length size = true)
    (hx : evA env x = some (.own id 0 m size true)) (ho : lk h id = some (.row E cs)) (hcl : cs.length = m * size) (hy : evA env y = some vy) (hf : Src h vy size k ys) (h63 : m + k <= maxLen) (hb : (m + k) * e'.bytes <= 140737488355328)
    (next : AWL P ops sz rest K (n + 1) ((t, .own n 0 (m + k) size true) :: env) ((n, .row E (cs ++ ys)) :: (id, .dead) :: h) dfs) :
    AWL P ops sz (⟨some t, .call ⟨.builtin .append, #[x, y], #[T, T]⟩, ty, pos, aft, gd⟩ :: rest) K n env h dfs := bJ7 tb hg hd hT hk hE hs hz hx ho hcl hy hf h63 hb next
theorem eD5 (tb : bT P tab) {e e' : TyE} {E T' Tb size k m id off : Nat} {full : Bool} {vy : AV} {cs ys : D8} (hg : guardA ops env ⟨some t, .call ⟨.builtin .copy, #[x, y], #[T, T']⟩, ty, pos, aft, gd⟩ true) (hd : Nat.blt t sz = true) (hT : aX tab T = some e) (hk : e.kind = .slice E) (hE : aX tab E = some e') (hs : Nat.beq e'.size size = true)
    (hx : evA env x = some (.own id off k size full)) (ho : lk h id = some (.row Tb cs)) (hy : evA env y = some vy) (hf : Src h vy size m ys) (hmk : m <= k) (hfit : off + m * size <= cs.length)
    (next : AWL P ops sz rest K n ((t, .c (.v (.int .i64 m))) :: env) ((id, .row Tb (lay cs off ys)) :: h) dfs) :
    AWL P ops sz (⟨some t, .call ⟨.builtin .copy, #[x, y], #[T, T']⟩, ty, pos, aft, gd⟩ :: rest) K n env h dfs := cI4 tb hg hd hT hk hE hs hx ho hy hf hmk hfit next
end
def aX9:Op->Bool
 | .assign _ | .store .. | .mapUpdate .. | .insert .. | .entryStore .. | .defer _=>true
 | .call ⟨.builtin b,_,_⟩=>match b with | .append | .copy | .delete | .clear=>true|_=>false
 | _=>false
def dL8:Du->Nat
 | []=>0
 | o::r=>match aX9 o.op with|true=>0|false=>dL8 r+1
def bO6 {α:Type}:List α->Nat->α->Option (List α)
 | [],_,_=>none
 | _::r,0,v=>some (v::r)
 | x::r,k+1,v=>match bO6 r k v with|some r'=>some (x::r')|none=>none
theorem qY {α:Type}:∀{cs:List α} {k:Nat} {v:α} {cs':List α},bO6 cs k v=some cs'->cs.set k v=cs'/\k<cs.length
 | [],k,v,cs',h=>by cases h
 | x::r,0,v,cs',h=>by simp [bO6] at h;subst h;simp
 | x::r,k+1,v,cs',h=>by
  simp only [bO6] at h
  split at h
  ·rename_i r' hr
   injection h with h;subst h
   obtain ⟨h1,h2⟩:=qY hr
   exact ⟨by simp [h1],by simp;exact h2⟩
  ·cases h
section
variable {P:D0} {sz n:Nat} {env:Env} {h:aQ} {dfs:cK} {K:AK} {ops:Dv} {rest:Du} {tab:Tab} {T ty:Dz} {x y:Operand} {pos:String} {aft:Dx} {gd:Ds}
section
variable (tb : bT P tab) {e : TyE} (hg : guardA ops env ⟨none, .store T x y, ty, pos, aft, gd⟩ true) (hT : aX tab T = some e) (hk : Nat.beq e.size 1 = true) {id off : Nat} {T' : Dz}
include tb e hg hT hk id off T'
theorem cS1 {cs cs' : D9} {v : AV} (hx : evA env x = some (.ref id off)) (hy : evA env y = some v) (h1 : v.one = true) (ho : lk h id = some (.blk T' cs)) (hs : bO6 cs off v = some cs')
    (next : AWL P ops sz rest K n env ((id, .blk T' cs') :: h) dfs) : AWL P ops sz (⟨none, .store T x y, ty, pos, aft, gd⟩ :: rest) K n env h dfs :=
  bJ9 tb hg hT hk hx hy h1 ho (qY hs).2 (by rw [(qY hs).1]; exact next)
theorem cB9 {cs cs' : D8} {v : CV} (hx : evA env x = some (.ref id off)) (hy : evA env y = some (.c v)) (h1 : v.one = true) (ho : lk h id = some (.row T' cs)) (hs : bO6 cs off v = some cs')
    (next : AWL P ops sz rest K n env ((id, .row T' cs') :: h) dfs) : AWL P ops sz (⟨none, .store T x y, ty, pos, aft, gd⟩ :: rest) K n env h dfs :=
  eO tb hg hT hk hx hy h1 ho (qY hs).2 (by rw [(qY hs).1]; exact next)
end
end
section
variable {P:D0} {sz n:Nat} {env env':Env} {h h':aQ} {dfs:cK} {K:AK}
theorem dF9 {x y:Code} (hx:∀K':AK,(∀n env h dfs,AW P sz y K n env h dfs->K' .normal n env h dfs)->(∀e n env h dfs,e ≠ .normal->K e n env h dfs->K' e n env h dfs)->AW P sz x K' n env h dfs):AW P sz (.seq x y) K n env h dfs :=
 eD9 (hx _ (fun _ _ _ _ h=>h) (fun e n env h dfs he hk=>by cases e<;>first|exact absurd rfl he|exact hk))
theorem cN {ι : Type} {c : Code} (N : Nat) (E : ι -> Env) (Hp : ι -> aQ) (D : cK) (Inv : ι -> Prop) (μ : ι -> Nat) (i0 : ι) (h0 : Inv i0) (hw : cR n env h dfs N (E i0) (Hp i0) D)
    (round : ∀ i, Inv i -> ∀ K' : AK, (∀ n' env' h' dfs', (∃ j, Inv j /\ μ j < μ i /\ cR n' env' h' dfs' N (E j) (Hp j) D) -> K' .normal n' env' h' dfs') -> (∀ e n env h dfs, e ≠ .normal -> K e n env h dfs -> K' e n env h dfs) -> AW P sz c K' N (E i) (Hp i) D) : AW P sz (.loop c) K n env h dfs :=
  dF8 N E Hp D Inv μ i0 h0 hw (fun i hi => round i hi _ (fun _ _ _ _ h => h) (fun e n env h dfs he hk => by cases e <;> first | exact absurd rfl he | exact hk))
theorem bQ1 {k:Nat} {c:Code} (hx:∀K':AK,(∀n env h dfs,AWR P sz c K k n env h dfs->K' .normal n env h dfs)->(∀e n env h dfs,e ≠ .normal->K e n env h dfs->K' e n env h dfs)->AW P sz c K' n env h dfs):AWR P sz c K (k+1) n env h dfs :=
 cI8 (hx _ (fun _ _ _ _ h=>h) (fun e n env h dfs he hk=>by cases e<;>first|exact absurd rfl he|exact hk))
def nP (env:Env):Dw->Option Env
 | []=>some []
 | k::ks=>match nP env ks with
  | some r=>match lkE env k with|some v=>some ((k,v)::r)|none=>some r
  | none=>none
theorem sL:∀{ks:Dw} {env':Env},nP env ks=some env'->∀t av,lkE env' t=some av->lkE env t=some av
 | [],env',hp,t,av,ht=>by simp [nP] at hp;subst hp;cases ht
 | k::ks,env',hp,t,av,ht=>by
  simp only [nP] at hp
  split at hp
  ·rename_i r hr
   split at hp
   ·rename_i v hv
    injection hp with hp;subst hp
    rw [fJ] at ht
    split at ht
    ·rename_i e;subst e;rw [hv];exact ht
    ·exact sL hr t av ht
   ·injection hp with hp;subst hp;exact sL hr t av ht
  ·cases hp
def uI (h:aQ):Nat->Option aQ
 | 0=>some []
 | k+1=>match uI h k with
  | some r=>match lk h k with|some v=>some ((k,v)::r)|none=>some r
  | none=>none
theorem jH:∀{k:Nat} {h':aQ},uI h k=some h'->∀i o,lk h' i=some o->lk h i=some o
 | 0,h',hp,i,o,ho=>by simp [uI] at hp;subst hp;cases ho
 | k+1,h',hp,i,o,ho=>by
  simp only [uI] at hp
  split at hp
  ·rename_i r hr
   split at hp
   ·rename_i v hv
    injection hp with hp;subst hp
    rw [cD] at ho
    split at ho
    ·rename_i e;subst e;rw [hv,<- tF ho]
    ·exact jH hr i o ho
   ·injection hp with hp;subst hp;exact jH hr i o ho
  ·cases hp
theorem aP {c:Code} (ks:Dw) (hE:nP env ks=some env') (hH:uI h n=some h') (hx:AW P sz c K n env' h' dfs):AW P sz c K n env h dfs:=by
 intro B a w hc
 refine hx B a w ?_
 obtain ⟨M,c1,c2,c3,c4⟩:=hc
 have hext:Ext (cx B n M h w) (cx B n M h' w):=⟨fun id hid=>⟨hid,rfl⟩,fun b hb hl=>⟨⟨hb.1,fun id o hid ho he=>hb.2 id o hid (jH hH id o ho) he⟩,hl,rfl⟩,shp fun _ _ h=>h⟩
 refine ⟨M,⟨c1.fr,fun id o hid ho=>(c1.obj id o hid (jH hH id o ho)).ext hext (fun _ _=>rfl),fun id id' o o' g k1 k2 k3 k4=>c1.inj id id' o o' g k1 k2 (jH hH id o k3) (jH hH id' o' k4),fun id o g k1 k2=>c1.lo id o g k1 (jH hH id o k2)⟩,c2,fun t av ht=>Rep.ext hext _ _ (c3 t av (sL hE t av ht)),c4.ext hext⟩
theorem aU6 {i:Nat} {a:Dv} (hh:AW P sz (.region i a false) K n env h dfs):AW P sz (.region i a false) K n env h dfs:=hh
theorem dM3 {c:Code} (hh:AW P sz c K n env h dfs):AW P sz c K n env h dfs:=hh
end
end Go.Av
namespace Go.Av
open Go Go.RowKit
section
section
variable {P:D0} {ops:Dv} {sz n n0 i m t:Nat} {K:AK} {env env0:Env} {h h0:aQ} {dfs:cK} {rest l:Du} {op:Op} {ty:Dz} {pos:String} {aft:Dx} {gd:Ds}
theorem fE8 (hg:guardA ops env ⟨some t,op,ty,pos,aft,gd⟩ true) (hd:Nat.blt t sz=true) (hh:∃v,Still P ⟨some t,op,ty,pos,aft,gd⟩ (evA env) h v/\AWL P ops sz rest K n ((t,v)::env) h dfs):AWL P ops sz (⟨some t,op,ty,pos,aft,gd⟩::rest) K n env h dfs :=
 let ⟨_,h1,h2⟩:=hh;dE8 hg hd h1 h2
theorem fE9 (hg:guardA l.toArray env ⟨some t,op,ty,pos,aft,gd⟩ true) (hh:∃v,Still P ⟨some t,op,ty,pos,aft,gd⟩ (evT (Oper.looksAt l.toArray ⟨some t,op,ty,pos,aft,gd⟩) env) h v/\Drw P l sz K dfs i n0 env0 h0 m rest n ((t,v)::env) h):Drw P l sz K dfs i n0 env0 h0 (m+1) (⟨some t,op,ty,pos,aft,gd⟩::rest) n env h :=
 let ⟨_,h1,h2⟩:=hh;dH8 hg h1 h2
theorem cH0 (hg:guardA ops env ⟨some t,op,ty,pos,aft,gd⟩ true) (hd:Nat.blt t sz=true) (hh:∃v obj,obj.live=some obj/\Adds P ⟨some t,op,ty,pos,aft,gd⟩ (evA env) h v [(n,obj)] n (n+1)/\AWL P ops sz rest K (n+1) ((t,v)::env) ((n,obj)::h) dfs):AWL P ops sz (⟨some t,op,ty,pos,aft,gd⟩::rest) K n env h dfs :=
 let ⟨_,_,h1,h2,h3⟩:=hh;eN3 h1 hg hd h2 h3
theorem cH1 (hg:guardA l.toArray env ⟨some t,op,ty,pos,aft,gd⟩ true) (hh:∃v obj,obj.live=some obj/\Adds P ⟨some t,op,ty,pos,aft,gd⟩ (evT (Oper.looksAt l.toArray ⟨some t,op,ty,pos,aft,gd⟩) env) h v [(n,obj)] n (n+1)/\Drw P l sz K dfs i n0 env0 h0 m rest (n+1) ((t,v)::env) ((n,obj)::h)):Drw P l sz K dfs i n0 env0 h0 (m+1) (⟨some t,op,ty,pos,aft,gd⟩::rest) n env h :=
 let ⟨_,_,h1,h2,h3⟩:=hh;eP1 h1 hg h2 h3
variable {f:FuncId} {xs:D5} {ats:D4}
def kD (P:D0) (f:FuncId) (xs:D5) (ev:Evl) (N0:AV->Prop) (N1:Nat->Nat->Dz->D8->Prop):Prop :=
 ∃cs cs',Body P f/\fG ev xs=some cs/\CvL cs cs'/\((∃r,AC P f cs' r [] 0/\r.noId=true/\N0 r)\/∃k size T rc,AC P f cs' (.own 0 0 k size true) [(0,.row T rc)] 1/\N1 k size T rc)
theorem fG0 (hg : guardA ops env ⟨some t, .call ⟨.value (.func f), xs.toArray, ats⟩, ty, pos, aft, gd⟩ true) (hd : Nat.blt t sz = true)
    (hh : kD P f xs (evA env) (fun r => AWL P ops sz rest K n ((t, r) :: env) h dfs) (fun k size T rc => AWL P ops sz rest K (n + 1) ((t, .own n 0 k size true) :: env) ((n, .row T rc) :: h) dfs)) : AWL P ops sz (⟨some t, .call ⟨.value (.func f), xs.toArray, ats⟩, ty, pos, aft, gd⟩ :: rest) K n env h dfs := by
  obtain ⟨cs, cs', h1, h2, h3, ⟨r, h4, h5, h6⟩ | ⟨k, size, T, rc, h4, h5⟩⟩ := hh
  · exact dE6 hg hd h1 h2 h4 h3 h5 h6
  · exact dE7 hg hd h1 h2 h4 h3 h5
theorem fG3 (hg : guardA ops env ⟨none, .call ⟨.value (.func f), xs.toArray, ats⟩, ty, pos, aft, gd⟩ true)
    (hh : kD P f xs (evA env) (fun r => AWL P ops sz rest K n env h dfs) (fun k size T rc => AWL P ops sz rest K (n + 1) env ((n, .row T rc) :: h) dfs)) : AWL P ops sz (⟨none, .call ⟨.value (.func f), xs.toArray, ats⟩, ty, pos, aft, gd⟩ :: rest) K n env h dfs := by
  obtain ⟨cs, cs', h1, h2, h3, ⟨r, h4, h5, h6⟩ | ⟨k, size, T, rc, h4, h5⟩⟩ := hh
  · exact dN3 hg h1 h2 h4 h3 h6
  · exact rM hg rfl h1 h2 h4 h3 rfl h5
theorem fG1 (hg : guardA l.toArray env ⟨some t, .call ⟨.value (.func f), xs.toArray, ats⟩, ty, pos, aft, gd⟩ true)
    (hh : kD P f xs (evT (Oper.looksAt l.toArray ⟨some t, .call ⟨.value (.func f), xs.toArray, ats⟩, ty, pos, aft, gd⟩) env) (fun r => Drw P l sz K dfs i n0 env0 h0 m rest n ((t, r) :: env) h) (fun k size T rc => Drw P l sz K dfs i n0 env0 h0 m rest (n + 1) ((t, .own n 0 k size true) :: env) ((n, .row T rc) :: h))) : Drw P l sz K dfs i n0 env0 h0 (m + 1) (⟨some t, .call ⟨.value (.func f), xs.toArray, ats⟩, ty, pos, aft, gd⟩ :: rest) n env h := by
  obtain ⟨cs, cs', h1, h2, h3, ⟨r, h4, h5, h6⟩ | ⟨k, size, T, rc, h4, h5⟩⟩ := hh
  · exact dH5 hg h1 h2 h4 h3 h5 h6
  · exact dH6 hg h1 h2 h4 h3 h5
theorem eZ2 {cs cs':D8} {r:AV} {ev:Evl} {N0:AV->Prop} {N1:Nat->Nat->Dz->D8->Prop} (hac:AC P f cs' r [] 0) (hb:Body P f) (hx:fG ev xs=some cs) (hcv:CvL cs cs') (hid:r.noId=true) (hn:N0 r):kD P f xs ev N0 N1:=⟨cs,cs',hb,hx,hcv,.inl ⟨r,hac,hid,hn⟩⟩
theorem eZ3 {cs cs':D8} {k size:Nat} {T:Dz} {rc:D8} {ev:Evl} {N0:AV->Prop} {N1:Nat->Nat->Dz->D8->Prop} (hac:AC P f cs' (.own 0 0 k size true) [(0,.row T rc)] 1) (hb:Body P f) (hx:fG ev xs=some cs) (hcv:CvL cs cs') (hn:N1 k size T rc):kD P f xs ev N0 N1:=⟨cs,cs',hb,hx,hcv,.inr ⟨k,size,T,rc,hac,hn⟩⟩
end
def bK1:AV->Option (D9)
 | .agg xs=>some xs
 | .c (.agg cs)=>some (cs.map AV.c)
 | .c (.v x)=>match x.oneCell' with|true=>some [.c (.v x)]|false=>none
 | .c (.sl a b c)=>some [.c (.sl a b c)]
 | .ref a b=>some [.ref a b]
 | .own a b c d e=>some [.own a b c d e]
 | .ip a b=>some [.ip a b]
 | .fn a b=>some [.fn a b]
 | .yld a=>some [.yld a]
 | .mh a=>some [.mh a]
 | .bm f a=>some [.bm f a]
 | .tup _=>none
 | .junk=>none
theorem cA4 {v:AV} {xs:D9} (h:bK1 v=some xs):CellsA v xs:=by
 unfold bK1 at h
 split at h<;>first|(injection h with h;subst h;first|exact .agg (.mixed _)|exact .agg (.closed _)|exact .one rfl)|(split at h<;>first|(rename_i h1;injection h with h;subst h;exact .one h1)|cases h)|cases h
def zQ:D9->Option (List (D9))
 | []=>some []
 | v::r=>match bK1 v with
  | some x=>match zQ r with|some l=>some (x::l)|none=>none
  | none=>none
theorem eV:∀{vs:D9} {ls:List (D9)},zQ vs=some ls->CellsL vs ls
 | [],ls,h=>by simp [zQ] at h;subst h;exact .nil
 | v::r,ls,h=>by
  simp only [zQ] at h
  split at h
  ·rename_i x hx
   split at h
   ·rename_i l hl;injection h with h;subst h;exact .cons (cA4 hx) (eV hl)
   ·cases h
  ·cases h
def cS3:CV->Option (D8)
 | .agg cs=>some cs
 | .v x=>match x.oneCell' with|true=>some [.v x]|false=>none
 | .sl a b c=>some [.sl a b c]
theorem cS4 {v:CV} {xs:D8} (h:cS3 v=some xs):Flat1 v xs:=by
 unfold cS3 at h
 split at h<;>first|(injection h with h;subst h;first|exact .agg _|exact .one rfl)|(split at h<;>first|(rename_i h1;injection h with h;subst h;exact .one h1)|cases h)|cases h
def aT5:D8->Option (List (D8))
 | []=>some []
 | v::r=>match cS3 v with
  | some x=>match aT5 r with|some l=>some (x::l)|none=>none
  | none=>none
theorem lF:∀{vs:D8} {ls:List (D8)},aT5 vs=some ls->FlatL vs ls
 | [],ls,h=>by simp [aT5] at h;subst h;exact .nil
 | v::r,ls,h=>by
  simp only [aT5] at h
  split at h
  ·rename_i x hx
   split at h
   ·rename_i l hl;injection h with h;subst h;exact .cons (cS4 hx) (lF hl)
   ·cases h
  ·cases h
section comb
variable {P:D0} {tab:Tab} {ev:Evl} {h:aQ} {d:Dy} {T ty T':Dz} {x y:Operand} {pos:String} {aft:Dx} {gd:Ds} {op:BinOp}
def cmpZ:BinOp->Int->Int->Option Bool
 | .eql,m,n=>some (decide (m=n))
 | .neq,m,n=>some (decide (m≠n))
 | .lss,m,n=>some (decide (m<n))
 | .leq,m,n=>some (decide (m<=n))
 | .gtr,m,n=>some (decide (n<m))
 | .geq,m,n=>some (decide (n<=m))
 | _,_,_=>none
theorem kM {k:D3} {m n:Int} {b c:Bool} (hx:ev x=some (.c (.v (.int k m)))) (hy:ev y=some (.c (.v (.int k n)))) (hr:cmpZ op m n=some b) (hb:b=c):Still P ⟨d,.binOp op T x y T',ty,pos,aft,gd⟩ ev h (.c (.v (.bool c))):=by
 subst hb
 cases op<;>simp only [cmpZ,Option.some.injEq,reduceCtorEq] at hr
 ·exact eW4 hx hy hr
 ·exact eW9 hx hy hr
 ·exact eW8 hx hy hr
 ·exact eW7 hx hy hr
 ·exact eW6 hx hy hr
 ·exact eW5 hx hy hr
def cH8:BinOp->Int->Int->Option Int
 | .add,m,n=>some (m+n)
 | .sub,m,n=>some (m-n)
 | .mul,m,n=>some (m*n)
 | _,_,_=>none
theorem oM {k:D3} {m n r r':Int} (hx:ev x=some (.c (.v (.int k m)))) (hy:ev y=some (.c (.v (.int k n)))) (hr:cH8 op m n=some r) (hw:k.wrap r=r'):Still P ⟨d,.binOp op T x y T',ty,pos,aft,gd⟩ ev h (.c (.v (.int k r'))):=by
 cases op<;>simp only [cH8,Option.some.injEq,reduceCtorEq] at hr
 ·exact eC7 hx hy (by rw [hr];exact hw)
 ·exact eD0 hx hy (by rw [hr];exact hw)
 ·exact eC8 hx hy (by rw [hr];exact hw)
theorem kA {m n r r':Int} (hx:ev x=some (.c (.v (.int .i64 m)))) (hy:ev y=some (.c (.v (.int .i64 n)))) (hr:cH8 op m n=some r) (hw:IntKind.i64.wrap r=r'):Still P ⟨d,.binOp op T x y T',ty,pos,aft,gd⟩ ev h (.c (.v (.int .i64 r'))):=oM hx hy hr hw
def eD3:BinOp->BitVec 64->BitVec 64->Option (BitVec 64)
 | .xor,x,y=>some (x ^^^ y)
 | .and,x,y=>some (x &&& y)
 | .or,x,y=>some (x ||| y)
 | .add,x,y=>some (x+y)
 | .sub,x,y=>some (x-y)
 | .mul,x,y=>some (x*y)
 | _,_,_=>none
theorem iW {p q:Int} {u v z:BitVec 64} (hx:ev x=some (.c (.v (.int .u64 p)))) (hp:IsW p u) (hy:ev y=some (.c (.v (.int .u64 q)))) (hq:IsW q v) (hr:eD3 op u v=some z):Still P ⟨d,.binOp op T x y T',ty,pos,aft,gd⟩ ev h (.c (.v (.int .u64 (z.toNat:Int)))):=by
 cases op<;>simp only [eD3,Option.some.injEq,reduceCtorEq] at hr<;>subst hr
 ·exact eK5 hx hp hy hq
 ·exact eL5 hx hp hy hq
 ·exact eL1 hx hp hy hq
 ·exact eK6 hx hp hy hq
 ·exact eX0 hx hp hy hq
 ·exact eL8 hx hp hy hq
end comb
theorem aJ {P:D0} {o:Oper} {ev:Evl} {h:aQ} {N:AV->Prop} {v:AV} (hs:Still P o ev h v) (hn:N v):∃v,Still P o ev h v/\N v:=⟨v,hs,hn⟩
theorem bE {P:D0} {o:Oper} {ev:Evl} {h:aQ} {n:Nat} {N:AV->AObj->Prop} {v:AV} {obj:AObj} (hs:Adds P o ev h v [(n,obj)] n (n+1)) (hl:obj.live=some obj) (hn:N v obj):∃v obj,obj.live=some obj/\Adds P o ev h v [(n,obj)] n (n+1)/\N v obj:=⟨v,obj,hl,hs,hn⟩
section
variable {P:D0} {ev:Evl} {h:aQ} {N:AV->Prop} {d:Dy} {ty:Dz} {pos:String} {aft:Dx} {gd:Ds}
theorem bK8 {x:Operand} (hh:∃v,Still P ⟨d,.move x,ty,pos,aft,gd⟩ ev h v/\N v):∃v,Still P ⟨d,.move x,ty,pos,aft,gd⟩ ev h v/\N v:=hh
theorem aE8 {x:Operand} (hh:∃v,Still P ⟨d,.assign x,ty,pos,aft,gd⟩ ev h v/\N v):∃v,Still P ⟨d,.assign x,ty,pos,aft,gd⟩ ev h v/\N v:=hh
theorem bK9 {x y z:Operand} (hh:∃v,Still P ⟨d,.pick x y z,ty,pos,aft,gd⟩ ev h v/\N v):∃v,Still P ⟨d,.pick x y z,ty,pos,aft,gd⟩ ev h v/\N v:=hh
theorem aT1 {T:Dz} {ps:Array (Nat × Operand)} (hh:∃v,Still P ⟨d,.build T ps,ty,pos,aft,gd⟩ ev h v/\N v):∃v,Still P ⟨d,.build T ps,ty,pos,aft,gd⟩ ev h v/\N v:=hh
theorem gH {T:Dz} {x:Operand} (hh:∃v,Still P ⟨d,.load T x,ty,pos,aft,gd⟩ ev h v/\N v):∃v,Still P ⟨d,.load T x,ty,pos,aft,gd⟩ ev h v/\N v:=hh
theorem cQ7 {x:Operand} (hh:∃v,Still P ⟨d,.nilCheck x,ty,pos,aft,gd⟩ ev h v/\N v):∃v,Still P ⟨d,.nilCheck x,ty,pos,aft,gd⟩ ev h v/\N v:=hh
theorem bQ {o:BinOp} {T T':Dz} {x y:Operand} (hh:∃v,Still P ⟨d,.binOp o T x y T',ty,pos,aft,gd⟩ ev h v/\N v):∃v,Still P ⟨d,.binOp o T x y T',ty,pos,aft,gd⟩ ev h v/\N v:=hh
theorem cR2 {o:UnOp} {T:Dz} {x:Operand} (hh:∃v,Still P ⟨d,.unOp o T x,ty,pos,aft,gd⟩ ev h v/\N v):∃v,Still P ⟨d,.unOp o T x,ty,pos,aft,gd⟩ ev h v/\N v:=hh
theorem oK {T T':Dz} {x:Operand} (hh:∃v,Still P ⟨d,.convert T T' x,ty,pos,aft,gd⟩ ev h v/\N v):∃v,Still P ⟨d,.convert T T' x,ty,pos,aft,gd⟩ ev h v/\N v:=hh
theorem aE9 {f:Fn} {xs ys:Array Operand} (hh:∃v,Still P ⟨d,.makeFunc f xs ys,ty,pos,aft,gd⟩ ev h v/\N v):∃v,Still P ⟨d,.makeFunc f xs ys,ty,pos,aft,gd⟩ ev h v/\N v:=hh
theorem iZ {T:Dz} {x:Operand} {lo hi mx:Option Operand} (hh:∃v,Still P ⟨d,.slice T x lo hi mx,ty,pos,aft,gd⟩ ev h v/\N v):∃v,Still P ⟨d,.slice T x lo hi mx,ty,pos,aft,gd⟩ ev h v/\N v:=hh
theorem bK7 {T:Dz} {x:Operand} {k:Nat} (hh:∃v,Still P ⟨d,.fieldAddr T x k,ty,pos,aft,gd⟩ ev h v/\N v):∃v,Still P ⟨d,.fieldAddr T x k,ty,pos,aft,gd⟩ ev h v/\N v:=hh
theorem cQ6 {T:Dz} {x y:Operand} (hh:∃v,Still P ⟨d,.indexAddr T x y,ty,pos,aft,gd⟩ ev h v/\N v):∃v,Still P ⟨d,.indexAddr T x y,ty,pos,aft,gd⟩ ev h v/\N v:=hh
theorem cQ5 {x:Operand} {k:Nat} (hh:∃v,Still P ⟨d,.extract x k,ty,pos,aft,gd⟩ ev h v/\N v):∃v,Still P ⟨d,.extract x k,ty,pos,aft,gd⟩ ev h v/\N v:=hh
theorem bB2 {b:Builtin} {xs:Array Operand} {ts:D4} (hh:∃v,Still P ⟨d,.call ⟨.builtin b,xs,ts⟩,ty,pos,aft,gd⟩ ev h v/\N v):∃v,Still P ⟨d,.call ⟨.builtin b,xs,ts⟩,ty,pos,aft,gd⟩ ev h v/\N v:=hh
end
end
section
def Flc (c:CV):Prop:=∀ok w u,RepC ok w c u->∀ok' w',RepC ok' w' c u
def FlcL (cs:D8):Prop:=∀c∈cs,Flc c
theorem FlcL.rep:∀{cs:D8},FlcL cs->∀{ok w u},RepCs ok w cs u->∀ok' w',RepCs ok' w' cs u
 | [],_,ok,w,u,h,ok',w'=>h
 | c::cs,hf,ok,w,u,h,ok',w'=>by
  simp only [RepCs] at h ⊢
  obtain ⟨a,l,h1,h2,h3⟩:=h
  exact ⟨a,l,h1,hf c aT _ _ _ h2 _ _,FlcL.rep (fun d hd=>hf d (by simp [hd])) h3 _ _⟩
theorem bT8 {x:Value}:Flc (.v x):=fun ok w u h ok' w'=>h
theorem aT7 {cs:D8} (h:FlcL cs):Flc (.agg cs):=fun ok w u hu ok' w'=>by
 simp only [RepC] at hu ⊢
 obtain ⟨us,h1,h2,h3⟩:=hu
 exact ⟨us,h1,h.rep h2 _ _,h3⟩
theorem uD (l:Dt):FlcL (l.map CV.v):=fun c hc=>by
 obtain ⟨x,_,rfl⟩:=B8.1 hc
 exact bT8
theorem zS (l:Dr):FlcL (u8c l):=by rw [aQ3];exact uD _
inductive FlR:AV->Prop
 | c {x:CV} (h:Flc x):FlR (.c x)
 | t {xs:D8} (h:FlcL xs):FlR (.tup (xs.map AV.c))
theorem FlR.rep {r:AV} (h:FlR r) {C C':Cx} {u:Value} (hu:Rep C r u):Rep C' r u:=by
 cases h with
 | c h=>simp only [Rep] at hu ⊢;exact h _ _ _ hu _ _
 | t h =>
  simp only [Rep] at hu ⊢
  obtain ⟨us,h1,h2⟩:=hu
  exact ⟨us,h1,RepL.ofC (h.rep (RepL.toC h2) _ _)⟩
section call
variable {P:D0} {ev:Evl} {h:aQ} {d:Dy} {ty:Dz} {pos:String} {aft:Dx} {gd:Ds} {i:Nat} {f:FuncId} {xs:D5} {ats:D4} {r:AV}
theorem bJ5 {vs : D9} {cs : D8} (hb : Body P f) (hx : rA ev xs = some vs) (hfz : aQ4 [] h vs cs) (hac : AC P f cs r [] 0) (hfl : FlR r) :
    Adds P ⟨d, .call ⟨.value (.func f), xs.toArray, ats⟩, ty, pos, aft, gd⟩ ev h r [] i i := by
  intro B dom M H w a K Q hh hn hc he hK
  have hargs := hfz B dom M H w _ hh aT hc (gM he (mT hx))
  unfold Oper.wp execOp
  simp only [resolve, Deferred.ofValue, Act.eval, invoke, Sem.run_bind, Sem.run_pure, Result.andThen_ok, Bc, Bk, Body.run hb, Oper.upon]
  rw [show (#[] ++ (List.map a.eval xs).toArray : D7) = (List.map a.eval xs).toArray by simp]
  refine (hac _ w _ hargs).mono ?_
  rintro e w' ⟨v, Mc, rfl, hcc, hv⟩
  simp only
  have hbl := hcc.fr.below
  have hg := hc.grow hbl i i (M' := M) (fun id _ => rfl) (fun id h1 h2 => by omega) (fun id o h1 h2 => by omega) (fun id id' o o' g h1 h2 => by omega) (fun hext id o h1 h2 => by omega)
  exact hK v w' M hg.2 hg.1 (hfl.rep hv)
theorem aY3 {vs : D9} {cs rc : D8} {k size : Nat} {T : Dz} (hb : Body P f) (hx : rA ev xs = some vs) (hfz : aQ4 [] h vs cs) (hac : AC P f cs (.own 0 0 k size true) [(0, .row T rc)] 1) (hfl : FlcL rc) :
    Adds P ⟨d, .call ⟨.value (.func f), xs.toArray, ats⟩, ty, pos, aft, gd⟩ ev h (.own i 0 k size true) [(i, .row T rc)] i (i + 1) := by
  intro B dom M H w a K Q hh hn hc he hK
  have hargs := hfz B dom M H w _ hh aT hc (gM he (mT hx))
  unfold Oper.wp execOp
  simp only [resolve, Deferred.ofValue, Act.eval, invoke, Sem.run_bind, Sem.run_pure, Result.andThen_ok, Bc, Bk, Body.run hb, Oper.upon]
  rw [show (#[] ++ (List.map a.eval xs).toArray : D7) = (List.map a.eval xs).toArray by simp]
  refine (hac _ w _ hargs).mono ?_
  rintro e w' ⟨v, Mc, rfl, hcc, hv⟩
  simp only
  have hbl := hcc.fr.below
  have hob := hcc.obj 0 _ pZ (show lk [(0, AObj.row T rc)] 0 = some (.row T rc) from rfl)
  have hHi : H i = some (.row T rc) := by rw [(hn i aA aA).2, cD, Ak rfl]; rfl
  let M' : Nat -> D6 := fun id => if id = i then Mc 0 else M id
  have hM1 : ∀ id, dom id -> M' id = M id := fun id hid => by
    have : ¬ id = i := fun e => by subst e; exact (hn id aA aA).1 hid
    simp [M', this]
  have hMi : M' i = Mc 0 := by simp [M']
  have hnew : ∀ g, Mc 0 = some g -> w.heap.size <= g := fun g hg => by
    rcases hcc.lo 0 _ g pZ (show lk [(0, AObj.row T rc)] 0 = some (.row T rc) from rfl) hg with h1 | h1
    · exact h1
    · cases h1
  have hg := hc.grow hbl i (i + 1) (M' := M') hM1 (fun id h1 h2 => (hn id h1 h2).1)
    (fun id o h1 h2 h3 g hg => by
      obtain rfl : id = i := by omega
      exact hnew g (hMi.symm.trans hg))
    (fun id id' o o' g h1 h2 h3 h4 _ _ _ _ => by omega)
    (fun hext id o h1 h2 h3 => by
      obtain rfl : id = i := by omega
      rw [hHi] at h3
      injection h3 with h3
      subst h3
      rw [hMi]
      rcases hob with k1 | ⟨g, us, ws, k1, k2, k3, k4⟩
      · exact .inl k1
      · exact .inr ⟨g, us, ws, k1, k2, hfl.rep k3 _ _, k4⟩)
  refine hK v w' M' hg.2 hg.1 ?_
  simp only [Rep, cx] at hv ⊢
  refine ⟨.inr ⟨by omega, by omega⟩, ?_⟩
  rw [hMi]
  exact hv.2
end call
section frame
def bC5 (env:Env) (dfs:cK):D9:=env.map (·.2)++dfs.flatMap (·.2)
theorem uH {env:Env}:∀{ks:Dw} {env':Env},nP env ks=some env'->∀p∈env',lkE env p.1=some p.2
 | [],env',hp,p,hm=>by simp [nP] at hp;subst hp;cases hm
 | k::ks,env',hp,p,hm=>by
  simp only [nP] at hp
  split at hp
  ·rename_i r hr
   split at hp
   ·rename_i v hv
    injection hp with hp;subst hp
    rcases A6.1 hm with rfl|hm
    ·exact hv
    ·exact uH hr p hm
   ·injection hp with hp;subst hp;exact uH hr p hm
  ·cases hp
theorem bU6:∀{env:Env} {t:Nat} {av:AV},lkE env t=some av->(t,av)∈env
 | [],t,av,h=>by cases h
 | (i,v)::r,t,av,h=>by
  rw [fJ] at h
  split at h
  ·rename_i e;subst e;injection h with h;subst h;simp
  ·exact CS _ (bU6 h)
theorem bF2 {C:Cx} {g:Nat->Value}:∀{env:Env},(∀p∈env,Rep C p.2 (g p.1))->RepL C (env.map (·.2)) (env.map fun p=>g p.1)
 | [],_=>rfl
 | p::r,h=>⟨_,_,rfl,h p aT,bF2 fun q hq=>h q (by simp [hq])⟩
theorem aH5 {C:Cx} {g:Nat->Value}:∀{env:Env},RepL C (env.map (·.2)) (env.map fun p=>g p.1)->∀p∈env,Rep C p.2 (g p.1)
 | [],_,p,hp=>by cases hp
 | q::r,h,p,hp=>by
  simp only [AI,RepL] at h
  obtain ⟨u,us,e,h1,h2⟩:=h
  injection e with e1 e2
  subst e1 e2
  rcases A6.1 hp with rfl|hp
  ·exact h1
  ·exact aH5 h2 p hp
theorem qT {C:Cx}:∀{xs ys:D9} {us vs:Dt},us.length=xs.length->RepL C (xs++ys) (us++vs)->RepL C xs us/\RepL C ys vs
 | [],ys,us,vs,hl,h=>by
  have:us=[]:=An gJ
  subst this
  exact ⟨rfl,h⟩
 | x::xs,ys,[],vs,hl,h=>by simp at hl
 | x::xs,ys,u::us,vs,hl,h=>by
  simp only [AE,RepL] at h
  obtain ⟨a,l,e,h1,h2⟩:=h
  injection e with e1 e2
  subst e1 e2
  obtain ⟨k1,k2⟩:=qT gJ h2
  exact ⟨⟨_,_,rfl,h1,k1⟩,k2⟩
theorem xG {fr:Dt} {C:Cx}:∀{dfs:cK} {ds:List Deferred},DefRep fr C dfs ds->∃us,us.length=(dfs.flatMap (·.2)).length/\RepL C (dfs.flatMap (·.2)) us/\∀C',RepL C' (dfs.flatMap (·.2)) us->DefRep fr C' dfs ds
 | [],ds,h=>⟨[],rfl,rfl,fun C' _=>h⟩
 | (some f,caps)::r,ds,h=>by
  obtain ⟨us,ds',rfl,h2,h3⟩:=h
  obtain ⟨vs,k0,k1,k2⟩:=xG h3
  refine ⟨us++vs,by simp only [A4,Aa];rw [k0,h2.length],h2.append k1,fun C' hr=>?_⟩
  obtain ⟨l1,l2⟩:=qT h2.length hr
  exact ⟨us,ds',rfl,l1,k2 C' l2⟩
 | (none,xs)::r,ds,h=>by
  obtain ⟨h2,h3⟩:=h
  obtain ⟨vs,k0,k1,k2⟩:=xG h3
  refine ⟨fr++vs,by simp only [A4,Aa];rw [k0,h2.length],h2.append k1,fun C' hr=>?_⟩
  obtain ⟨l1,l2⟩:=qT h2.length hr
  exact ⟨l1,k2 C' l2⟩
def jW:cK->Option (D9)
 | []=>none
 | (none,xs)::_=>some xs
 | (some _,_)::r=>jW r
theorem mM {fr:Dt} {C:Cx} {xs:D9}:∀{dfs:cK} {ds:List Deferred},jW dfs=some xs->DefRep fr C dfs ds->RepL C xs fr
 | [],ds,h,_=>by cases h
 | (none,ys)::r,ds,h,hd=>by simp only [jW,Option.some.injEq] at h;subst h;exact hd.1
 | (some f,caps)::r,ds,h,hd=>by
  obtain ⟨us,ds',rfl,h2,h3⟩:=hd
  exact mM (dfs:=r) h h3
def yS:Nat->D9->Env
 | _,[]=>[]
 | k,x::xs=>(k,x)::yS (k+1) xs
theorem mL:∀{cs:D9} {k t:Nat} {av:AV},lkE (yS k cs) t=some av->k<=t/\cs[t-k]? = some av
 | [],k,t,av,h=>by cases h
 | c::cs,k,t,av,h=>by
  rw [yS,fJ] at h
  split at h
  ·rename_i e;subst e;injection h with h;subst h;exact ⟨Ah _,by simp⟩
  ·rename_i e
   obtain ⟨h1,h2⟩:=mL h
   refine ⟨by omega,?_⟩
   rw [show t-k=(t-(k+1))+1 by omega]
   simpa using h2
def InK (P:D0) (tab:Tab) (rs:List ResultVar) (xs:D9) (ops:Dv) (sz:Nat) (rest:Du) (K:AK) (env:Env) (d:Dy) (dfs:cK):AK :=
 fun e n' env' h' dfs'=>(e = .normal\/e = .ret)/\iX P h' dfs'/\jW dfs'=some xs/\∃v,ResL tab env' (gX h' dfs') rs v/\AWL P ops sz rest K n' (gT env d v) (gX h' dfs') dfs
variable {P:D0} {tab:Tab} {sz n:Nat} {env:Env} {h:aQ} {dfs:cK} {K:AK} {ops:Dv} {rest:Du} {d:Dy} {ty:Dz} {pos:String} {aft:Dx} {gd:Ds} {f:FuncId} {x:Operand} {xs:D5} {ats:D4}
theorem bO {rs:List ResultVar} {zs:D9} {t:Nat} {e:Exit} {n':Nat} {env':Env} {h':aQ} {dfs':cK} {v:AV} (he:e = .normal\/e = .ret) (hi:iX P h' dfs') (hm:jW dfs'=some zs) {h2:aQ} (hh:gX h' dfs'=h2) (hr:ResL tab env' h2 rs v) (next:AWL P ops sz rest K n' ((t,v)::env) h2 dfs):InK P tab rs zs ops sz rest K env (some t) dfs e n' env' h' dfs':=⟨he,hi,hm,v,hh▸hr,hh▸next⟩
theorem bN {rs:List ResultVar} {zs:D9} {e:Exit} {n':Nat} {env':Env} {h':aQ} {dfs':cK} {v:AV} (he:e = .normal\/e = .ret) (hi:iX P h' dfs') (hm:jW dfs'=some zs) {h2:aQ} (hh:gX h' dfs'=h2) (hr:ResL tab env' h2 rs v) (next:AWL P ops sz rest K n' env h2 dfs):InK P tab rs zs ops sz rest K env none dfs e n' env' h' dfs':=⟨he,hi,hm,v,hh▸hr,hh▸next⟩
theorem eK1 {C:Cx} {caps:D9} {u:Value} (h:Rep C (.fn f caps) u):∃us,u = .func (.func f) #[] us.toArray/\RepL C caps us:=by simpa only [Rep] using h
theorem cA (tb : bT P tab) (ks : Dw) {fn : Func} {c : Code} {vs caps ws : D9} {env' : Env} {szf : Nat} (hg : guardA ops env ⟨d, .call ⟨.value x, xs.toArray, ats⟩, ty, pos, aft, gd⟩ true) (hd : iS d sz = true) (hxf : evA env x = some (.fn f caps)) (hb : Body P f) (hf : P.funcs[f]? = some fn) (hc : fn.body = some c) (hx : rA (evA env) xs = some vs) (hws : vs ++ caps = ws) (hsz : max fn.ntmps ws.length = szf) (hE : nP env ks = some env')
    (next : AW P szf c (InK P tab fn.results.toList (bC5 env' dfs) ops sz rest K env' d dfs) n (yS 0 ws) h [(none, bC5 env' dfs)]) : AWL P ops sz (⟨d, .call ⟨.value x, xs.toArray, ats⟩, ty, pos, aft, gd⟩ :: rest) K n env h dfs := by
  intro B a w hcn
  obtain ⟨M, c1, c2, c3, c4⟩ := hcn
  refine fD fun K' hK' => ?_
  rw [Ak (hg.wanted c3)]
  obtain ⟨us, hxv, hus⟩ := eK1 (dV c3 x _ hxf)
  have hvs := gM (dV c3) (mT hx)
  obtain ⟨dv, dv0, dv1, dv2⟩ := xG c4
  have hcaps := hvs.append hus
  rw [hws] at hcaps
  have hlen := hcaps.length
  have henv : RepL (cx B n M h w) (env'.map (·.2)) (env'.map fun p => a.tmps.getD p.1 undef) := bF2 (g := fun t => a.tmps.getD t undef) fun p hp => c3 p.1 p.2 (uH hE p hp)
  let B' : Bs := ⟨B.w0, B.G, B.ok0, (env'.map fun p => a.tmps.getD p.1 undef) ++ dv⟩
  unfold Oper.wp execOp
  simp only [resolve, hxv, Deferred.ofValue, invoke, Sem.run_bind, Sem.run_pure, Result.andThen_ok, Bc, Bk, Body.run hb, Oper.upon]
  rw [show (#[] ++ (List.map a.eval xs).toArray ++ us.toArray : D7) = (List.map a.eval xs ++ us).toArray by simp]
  refine iI hf hc (wp_mono (lL (next B' _ w ⟨M, ⟨c1.fr, c1.obj, c1.inj, c1.lo⟩, ?_, ?_, ?_⟩)) ?_)
  · simp only [Aa, Bf] at hlen
    simp
    omega
  · intro t av ht
    obtain ⟨h1, h2⟩ := mL ht
    rw [Br] at h2
    obtain ⟨u, hu, hru⟩ := hcaps.get h2
    have : ((List.map a.eval xs ++ us).toArray ++ Array.replicate (fn.ntmps - (List.map a.eval xs ++ us).toArray.size) undef).getD t undef = u := by
      have hlt := (Ag.1 hu).1
      rw [BI, B7 aE2]
      rw [BN, hu]
      rfl
    rw [this]
    exact hru
  · exact ⟨henv.append dv1, rfl⟩
  · intro e a' w' hq
    obtain ⟨n', env2, h', dfs', ⟨h1, h2, h3, v, h4, h5⟩, M', d1, d2, d3, d4⟩ := hq
    have : ∀ R : Ending -> World -> Prop, (∀ u w2, K' (a.put d u) w2 -> R (.returned u) w2) -> jM P fn a'.tmps R a'.defers w' := by
      intro R hR
      refine gF h2 d1 d4 fun w2 g1 g2 => ?_
      obtain ⟨u, k1, k2⟩ := h4.run tb g1 (fun t av ht => Rep.ext g2 _ _ (d3 t av ht))
      refine ⟨u, k2, ?_⟩
      obtain ⟨e1, e2⟩ := qT aT (RepL.ext g2 _ _ (mM h3 d4))
      have he := aH5 (g := fun t => a.tmps.getD t undef) e1
      obtain ⟨p1, p2, p3⟩ := lN (env := env') (B := B) (a := a) (w := w2) (w' := w2) (M := M') (M' := M') (n := n') (n' := n') (h := gX h' dfs') (h' := gX h' dfs') c2 (fun t av ht => he (t, av) (bU6 ht)) (Ext.refl _) (fN hd) (v := v) (u := u) k1
      exact hR u w2 (hK' _ _ (h5 B _ _ ⟨M', ⟨g1.fr, g1.obj, g1.inj, g1.lo⟩, p1, p2, by rw [p3]; exact dv2 _ e2⟩))
    rcases h1 with rfl | rfl <;> exact this _ (fun u _ h => h)
end frame
section strokes
variable {P:D0} {ops:Dv} {sz n n0 i m t:Nat} {K:AK} {env env0:Env} {h h0:aQ} {dfs:cK} {rest l:Du} {op:Op} {ty:Dz} {pos:String} {aft:Dx} {gd:Ds}
theorem fE5 (hg:guardA ops env ⟨some t,op,ty,pos,aft,gd⟩ true) (hd:Nat.blt t sz=true) (hh:∃v,Adds P ⟨some t,op,ty,pos,aft,gd⟩ (evA env) h v [] n n/\AWL P ops sz rest K n ((t,v)::env) h dfs):AWL P ops sz (⟨some t,op,ty,pos,aft,gd⟩::rest) K n env h dfs :=
 let ⟨_,h1,h2⟩:=hh;dG1 hg hd h1 h2
theorem fE6 (hg:guardA l.toArray env ⟨some t,op,ty,pos,aft,gd⟩ true) (hh:∃v,Adds P ⟨some t,op,ty,pos,aft,gd⟩ (evT (Oper.looksAt l.toArray ⟨some t,op,ty,pos,aft,gd⟩) env) h v [] n n/\Drw P l sz K dfs i n0 env0 h0 m rest n ((t,v)::env) h):Drw P l sz K dfs i n0 env0 h0 (m+1) (⟨some t,op,ty,pos,aft,gd⟩::rest) n env h :=
 let ⟨_,h1,h2⟩:=hh;dI0 hg h1 h2
theorem nK {o:Oper} {ev:Evl} {N:AV->Prop} {v:AV} (hs:Adds P o ev h v [] n n) (hn:N v):∃v,Adds P o ev h v [] n n/\N v:=⟨v,hs,hn⟩
def cX9 (all:Du) (t:Nat):Bool:=(all.any fun o=>tQ (o.looksAt all.toArray) t) || (Nat.blt 1 (all.countP fun o=>match o.dst with|some d=>Nat.beq d t|none=>false))
def rZ (fs:Dw) (all:Du):Du->Nat
 | []=>0
 | o::r=>match o.op with
  | .assign _=>match o.dst with
   | some t=>match cX9 all t with|true=>0|false=>rZ fs all r+1
   | none=>0
  | .call ⟨.value (.func f),_,_⟩=>match tQ fs f with|true=>0|false=>rZ fs all r+1
  | .call ⟨.value (.tmp _),_,_⟩=>0
  | op=>match aX9 op with|true=>0|false=>rZ fs all r+1
theorem cM {id:Nat} (fs:Dw) (hx:Drw P l sz K dfs id n0 env0 h0 (rZ fs l l) l n0 env0 h0):AW P sz (.region id l.toArray true) K n0 env0 h0 dfs:=eD7 _ hx
theorem gK {keep:Dw} {x:AV} {y z:CV} (h1:Frz keep h x y) (h2:Cv y z):Frz keep h x z:=fun B dom M H w u hh hk hc hu=>h2 _ _ _ (h1 B dom M H w u hh hk hc hu)
end strokes
section pick
variable {P:D0} {ev:Evl} {h:aQ} {d:Dy} {ty:Dz} {x y z:Operand} {pos:String} {aft:Dx} {gd:Ds} {b:Bool} {v:AV}
theorem aJ4 (hc0:ev z=some (.c (.v (.bool b)))) (hb:b=true) (hx:ev x=some v):Still P ⟨d,.pick z x y,ty,pos,aft,gd⟩ ev h v:=by subst hb;exact aA3 hc0 hx
theorem aJ3 (hc0:ev z=some (.c (.v (.bool b)))) (hb:b=false) (hy:ev y=some v):Still P ⟨d,.pick z x y,ty,pos,aft,gd⟩ ev h v:=by subst hb;exact aA2 hc0 hy
end pick
theorem AC.bool {P:D0} {f:FuncId} {args:D8} {x:Value} (h:AC P f args (.c (.v x)) [] 0) {w:World} {vs:Dt} (hvs:RepCs (fun _=>True) w args vs):Calls P f vs.toArray w fun e w'=>e = .returned x/\Below w.heap.size w w' :=
 (h _ w vs hvs).mono (by
  rintro e w' ⟨v,M,rfl,hc,hv⟩
  simp only [Rep,RepC] at hv
  subst hv
  exact ⟨rfl,hc.fr.below⟩)
end
section
mutual
def AV.mp (σ:Nat->Nat):AV->AV
 | .c x => .c x
 | .ip cs off => .ip cs off
 | .junk => .junk
 | .ref id off => .ref (σ id) off
 | .own id off n size full => .own (σ id) off n size full
 | .agg xs => .agg (AV.mps σ xs)
 | .tup xs => .tup (AV.mps σ xs)
 | .fn f xs => .fn f (AV.mps σ xs)
 | .yld id => .yld (σ id)
 | .mh id => .mh (σ id)
 | .bm f id => .bm f (σ id)
def AV.mps (σ:Nat->Nat):D9->D9
 | []=>[]
 | x::xs=>AV.mp σ x::AV.mps σ xs
end
structure LessR (N:Nat) (σ:Nat->Nat) (C C':Cx):Prop where
 dom:∀id,id<N->C.dom (σ id)->C'.dom id/\C'.M id=C.M (σ id)
 ok:lP C.ok C'.ok C.w C'.w
 shape:∀b x,C.w.shape? b=some x->C'.w.shape? b=some x
mutual
theorem Rep.lessR {N:Nat} {σ:Nat->Nat} {C C':Cx} (h:LessR N σ C C'):∀(x:AV) (u:Value),x.ltB N=true->Rep C (x.mp σ) u->Rep C' x u
 | .c x,u,_,hu=>by simp only [Rep,AV.mp] at hu ⊢;exact RepC.mono h.ok x u hu
 | .ref id off,u,hl,hu=>by
  simp only [Rep,AV.mp] at hu ⊢
  simp only [AV.ltB,AM] at hl
  obtain ⟨hd,g,hg,hu⟩:=hu
  obtain ⟨k1,k2⟩:=h.dom id hl hd
  exact oW
 | .own id off n size full,u,hl,hu=>by
  simp only [Rep,AV.mp] at hu ⊢
  simp only [AV.ltB,AM] at hl
  obtain ⟨hd,hu⟩:=hu
  obtain ⟨k1,k2⟩:=h.dom id hl hd
  refine ⟨k1,?_⟩
  rcases hu with ⟨h1,h2,h3,h4⟩|⟨g,cp,h1,h2,h3,h4,h5⟩|h6
  ·exact cO1
  ·exact .inr (.inl ⟨g,cp,k2.trans h1,h2,h3,h4,fun hf=>let ⟨e,he⟩:=h5 hf;⟨e,h.shape _ _ he⟩⟩)
  ·exact .inr (.inr h6)
 | .ip cs off,u,_,hu=>by
  simp only [Rep,AV.mp] at hu ⊢
  obtain ⟨b,o,us,h1,h2,h3,h4,h6,h5⟩:=hu
  obtain ⟨k1,k2,k3⟩:=h.ok b h2 h3
  exact ⟨b,o,us,h1,k1,k2,RepCs.mono h.ok cs us h4,h6,fun j x hx=>by rw [World.cell?_of_block (w:=C.w) k3];exact h5 j x hx⟩
 | .agg xs,u,hl,hu=>by
  simp only [Rep,AV.mp] at hu ⊢
  obtain ⟨us,h1,h2⟩:=hu
  exact ⟨us,h1,RepL.lessR h xs us hl h2⟩
 | .tup xs,u,hl,hu=>by
  simp only [Rep,AV.mp] at hu ⊢
  obtain ⟨us,h1,h2⟩:=hu
  exact ⟨us,h1,RepL.lessR h xs us hl h2⟩
 | .fn f caps,u,hl,hu=>by
  simp only [Rep,AV.mp] at hu ⊢
  obtain ⟨us,h1,h2⟩:=hu
  exact ⟨us,h1,RepL.lessR h caps us hl h2⟩
 | .yld id,u,hl,hu=>by
  simp only [Rep,AV.mp] at hu ⊢
  simp only [AV.ltB,AM] at hl
  obtain ⟨hd,g,hg,hu⟩:=hu
  obtain ⟨k1,k2⟩:=h.dom id hl hd
  exact oW
 | .mh id,u,hl,hu=>by
  simp only [Rep,AV.mp] at hu ⊢
  simp only [AV.ltB,AM] at hl
  obtain ⟨hd,g,hg,hu⟩:=hu
  obtain ⟨k1,k2⟩:=h.dom id hl hd
  exact oW
 | .bm f id,u,hl,hu=>by
  simp only [Rep,AV.mp] at hu ⊢
  simp only [AV.ltB,AM] at hl
  obtain ⟨hd,g,hg,hu⟩:=hu
  obtain ⟨k1,k2⟩:=h.dom id hl hd
  exact oW
 | .junk,u,_,hu=>by simp only [Rep]
theorem RepL.lessR {N:Nat} {σ:Nat->Nat} {C C':Cx} (h:LessR N σ C C'):∀(xs:D9) (us:Dt),AV.ltBs N xs=true->RepL C (AV.mps σ xs) us->RepL C' xs us
 | [],us,_,hu=>by simpa [RepL,AV.mps] using hu
 | c::cs,us,hl,hu=>by
  simp only [RepL,AV.mps] at hu ⊢
  simp only [AV.ltBs,Au] at hl
  obtain ⟨u,us',h1,h2,h3⟩:=hu
  exact ⟨u,us',h1,Rep.lessR h c u hl.1 h2,RepL.lessR h cs us' hl.2 h3⟩
end
def AObj.mp (σ:Nat->Nat):AObj->AObj
 | .blk T cs => .blk T (AV.mps σ cs)
 | .row T cs => .row T cs
 | .lp b sz L sl xs => .lp b sz L sl (AV.mps σ xs)
 | .dfr b => .dfr b
 | .tab es => .tab (es.map fun p=>(p.1,p.2.mp σ))
 | .dead => .dead
theorem RepM.lessR {N:Nat} {σ:Nat->Nat} {C C':Cx} (h:LessR N σ C C'):∀(es:List (CV × AV)) (ms:List MapEntry),(es.all fun p=>p.2.ltB N)=true->RepM C (es.map fun p=>(p.1,p.2.mp σ)) ms->RepM C' es ms
 | [],ms,_,hu=>hu
 | e::es,ms,hl,hu=>by
  obtain ⟨m,ms',h1,h2,h3,h4⟩:=hu
  simp only [BE,Au] at hl
  exact ⟨m,ms',h1,RepC.mono h.ok _ _ h2,Rep.lessR h _ _ hl.1 h3,RepM.lessR h es ms' hl.2 h4⟩
theorem ObjRep.lessR {N:Nat} {σ:Nat->Nat} {C C':Cx} (h:LessR N σ C C') {g:D6} {o:AObj} (hw:C'.w=C.w) (hl:o.ltB N=true) (ho:ObjRep C g (o.mp σ)):ObjRep C' g o:=by
 cases o with
 | blk T cs =>
  obtain ⟨k,us,rfl,h2,h3⟩:=ho
  exact ⟨k,us,rfl,by rw [hw];exact h2,RepL.lessR h cs us hl h3⟩
 | row T cs =>
  rcases ho with h1|⟨k,us,vs,rfl,h2,h3,h4⟩
  ·exact .inl h1
  ·exact .inr ⟨k,us,vs,rfl,by rw [hw];exact h2,RepCs.mono h.ok cs us h3,h4⟩
 | lp b sz L sl xs =>
  obtain ⟨k,r,rfl,h2,h3,h4,h5,h6,h7,h8,h9⟩:=ho
  exact ⟨k,r,rfl,by rw [hw];exact h2,h3,h4,h5,h6,h7,h8,RepL.lessR h xs _ hl h9⟩
 | dfr b =>
  obtain ⟨k,rfl,h2⟩:=ho
  exact ⟨k,rfl,by rw [hw];exact h2⟩
 | tab es =>
  obtain ⟨k,ms,t,rfl,h2,h3⟩:=ho
  exact ⟨k,ms,t,rfl,by rw [hw];exact h2,h3.1,RepM.lessR h es _ hl h3.2⟩
 | dead=>exact ho.elim
def aA6 (σ:Nat->Nat) (env:Env) (N:Nat) (E:Env):Prop:=∀t av,lkE E t=some av->lkE env t=some (av.mp σ)/\av.ltB N=true
def oG (σ:Nat->Nat) (h:aQ) (N:Nat) (Hp:aQ):Prop:=∀id o,lk Hp id=some o->lk h (σ id)=some (o.mp σ)/\o.ltB N=true
section
variable {σ:Nat->Nat}
theorem dU {env:Env} {N:Nat}:aA6 σ env N []:=fun t av h=>by cases h
theorem dD {env E:Env} {N t:Nat} {av av':AV} (h:lkE env t=some av') (he:av'=av.mp σ) (hl:av.ltB N=true) (hr:aA6 σ env N E):aA6 σ env N ((t,av)::E):=by
 intro k x hk
 rw [fJ] at hk
 split at hk
 ·rename_i e;subst e;injection hk with hk;subst hk;exact ⟨h.trans (by rw [he]),hl⟩
 ·exact hr k x hk
theorem dB {h:aQ} {N:Nat}:oG σ h N []:=fun t av h=>by cases h
theorem cB {h Hp:aQ} {N t:Nat} {o o':AObj} (hh:lk h (σ t)=some o') (he:o'=o.mp σ) (hl:o.ltB N=true) (hr:oG σ h N Hp):oG σ h N ((t,o)::Hp):=by
 intro k x hk
 rw [cD] at hk
 split at hk
 ·rename_i e;subst e;have hk:=tF hk;subst hk;exact ⟨hh.trans (by rw [he]),hl⟩
 ·exact hr k x hk
theorem DefRep.lessR {fr:Dt} {N:Nat} {C C':Cx} (h:LessR N σ C C'):∀{l:cK} {ds:List Deferred},l.all (fun p=>AV.ltBs N p.2)=true->DefRep fr C (l.map fun p=>(p.1,AV.mps σ p.2)) ds->DefRep fr C' l ds
 | [],ds,_,hd=>hd
 | (some f,caps)::r,ds,hl,hd=>by
  obtain ⟨us,ds',h1,h2,h3⟩:=hd
  simp only [BE,Au] at hl
  exact ⟨us,ds',h1,RepL.lessR h _ _ hl.1 h2,DefRep.lessR h hl.2 h3⟩
 | (none,xs)::r,ds,hl,hd=>by
  simp only [BE,Au] at hl
  exact ⟨RepL.lessR h _ _ hl.1 hd.1,DefRep.lessR h hl.2 hd.2⟩
end
def sg (l:Dw) (i:Nat):Nat:=match l,i with
 | [],_=>0
 | x::_,0=>x
 | _::r,i+1=>sg r i
theorem fR (l : Dw) {n N : Nat} {env E : Env} {h Hp : aQ} {dfs D : cK} (hN : (List.range N).all (fun i => Nat.blt (sg l i) n) = true) (hinj : (List.range N).all (fun i => (List.range N).all fun j => Nat.beq i j || !Nat.beq (sg l i) (sg l j)) = true)
    (hE : aA6 (sg l) env N E) (hH : oG (sg l) h N Hp) (hD : D.all (fun p => AV.ltBs N p.2) = true) (hD' : dfs = D.map fun p => (p.1, AV.mps (sg l) p.2)) : cR n env h dfs N E Hp D := by
  intro B sz a w hc
  subst hD'
  obtain ⟨M, h1, h2, h3, h4⟩ := hc
  have hn' : ∀ i, i < N -> sg l i < n := fun i hi => by
    have := Ay.1 hN i (AB.2 hi)
    simpa using this
  have hi' : ∀ i j, i < N -> j < N -> sg l i = sg l j -> i = j := fun i j hi hj e => by
    have := Ay.1 (Ay.1 hinj i (AB.2 hi)) j (AB.2 hj)
    simp only [By, Cs] at this
    rcases this with h | h
    · exact Af h
    · rw [e, BS] at h; cases h
  let M' : Nat -> D6 := fun i => M (sg l i)
  have hok : ∀ b, bG B (lt n) M (lk h) b -> bG B (lt N) M' (lk Hp) b := fun b hb => ⟨hb.1, fun id o hid hH' he => hb.2 (sg l id) _ (hn' id hid) (hH id o hH').1 he⟩
  have hls : LessR N (sg l) (cx B n M h w) (cx B N M' Hp w) := ⟨fun id hid _ => ⟨hid, rfl⟩, fun b hb hl => ⟨hok b hb, hl, rfl⟩, fun _ _ h => h⟩
  refine ⟨M', ⟨h1.fr, fun id o hid hH' => ?_, fun id id' o o' g k1 k2 k3 k4 k5 k6 => hi' id id' k1 k2 (h1.inj _ _ _ _ g (hn' id k1) (hn' id' k2) (hH id o k3).1 (hH id' o' k4).1 k5 k6), fun id o g k1 k2 => h1.lo _ _ g (hn' id k1) (hH id o k2).1⟩, h2, fun t av ht => ?_, h4.lessR hls hD⟩
  · exact dZ2
  · exact Rep.lessR hls _ _ (hE t av ht).2 (h3 t _ (hE t av ht).1)
section makes
variable {P:D0} {tab:Tab} {ev:Evl} {h:aQ} {d:Dy} {T ty:Dz} {x y:Operand} {pos:String} {aft:Dx} {gd:Ds} {i:Nat} {e e':TyE} {E size:Nat} (tb:bT P tab) (hT:aX tab T=some e) (hk:e.kind = .slice E) (hs0:aP9 tab E=some size) (hE:aX tab E=some e')
include tb hT hk hs0 hE
theorem mK (hs:Nat.beq e'.size size=true):Adds P ⟨d,.buildSlice T 0 #[],ty,pos,aft,gd⟩ ev h (.own i 0 0 size true) [(i,.row E [])] i (i+1):=bY8 tb hT hk hE hs
theorem bK0 {l c : Nat} {cs : D8} {kl kc : D3} {I J : Int} (hs : Nat.beq e'.size size = true) (hz : Nat.beq e'.zero.length size = true) (h1' : e'.zero.all Value.oneCell' = true) (hp : Nat.blt 0 size = true) (hx : ev x = some (.c (.v (.int kl I)))) (hy : ev y = some (.c (.v (.int kc J)))) (hI : I = (l : Int)) (hJ : J = (c : Int))
    (hlc : l <= c) (hb : e'.bytes * c <= 281474976710656) (hc : c <= maxLen) (hcs : zc e'.zero l = cs) : Adds P ⟨d, .makeSlice T x y, ty, pos, aft, gd⟩ ev h (.own i 0 l size true) [(i, .row E cs)] i (i + 1) := eD6 tb hT hk hE hs hz h1' hp hx hy hI hJ hlc hb hc hcs
theorem oT {n : Nat} {parts : List (Nat × Operand)} {cs : D8} {ls : List (D8)} {all : D8} (hs : Nat.beq e'.size size = true) (hz : Nat.beq e'.zero.length size = true) (hp : Nat.blt 0 size = true) (hpt : parts = oY 0 (parts.map (·.2))) (hn : Nat.beq (parts.map (·.2)).length n = true) (h0 : Nat.blt 0 n = true) (hle : Nat.ble (n * size) 16777216 = true)
    (hx : fG ev (parts.map (·.2)) = some cs) (hfl : FlatL cs ls) (hsz : ls.all (fun l => Nat.beq l.length size) = true) (hall : ls.flatten = all) : Adds P ⟨d, .buildSlice T n parts.toArray, ty, pos, aft, gd⟩ ev h (.own i 0 n size true) [(i, .row E all)] i (i + 1) := cH4 tb hT hk hE hs hz hp hpt hn h0 hle hx hfl hsz hall
end makes
theorem cV7 {id id' off off' n n' size:Nat} {full:Bool} (h1:id=id') (h2:off=off') (h3:n=n'):AV.own id off n size full=AV.own id' off' n' size full:=by subst h1 h2 h3;rfl
theorem cT2 {k:D3} {m n:Int} (h:m=n):AV.c (.v (.int k m)) = .c (.v (.int k n)):=by subst h;rfl
theorem bL4 {keep:Dw} {h:aQ} {id off n a m:Nat} {full:Bool} {T:Dz} {l:Dr} (ho:lk h id=some (.row T (u8c l))) (hk:keep.contains id=false) (h1:off=a) (h2:n=m) (h3:a+m<=l.length):Frz keep h (.own id off n 1 full) (.sl 1 m (u8c ((l.drop a).take m))):=by
 subst h1 h2
 exact lM ho hk (by rw [A9,bU,bV]) (by rw [aH,Ar,A0];omega)
theorem cA1 (m:Nat):(m:Int)=(m:Int):=rfl
theorem cJ0 (n:Nat):(OfNat.ofNat n:Int)=((OfNat.ofNat n:Nat):Int):=rfl
def eF8:List (D8)->Option (D8)
 | []=>some []
 | l::r=>match eF8 r with|some x=>some (l++x)|none=>none
end
section
def Fz (h Hp:aQ) (v v':AV):Prop :=
 ∀(B:Bs) (n:Nat) (M:Nat->D6) (w:World) (u:Value),(∀id o,lk Hp id=some o->lk h id=some o)->ConcH B (lt n) M (lk h) w->Rep (cx B n M h w) v u->Rep (cx B n M Hp w) v' u
theorem aU1 {B:Bs} {n:Nat} {M:Nat->D6} {w:World} {h Hp:aQ} (hs:∀id o,lk Hp id=some o->lk h id=some o):Ext (cx B n M h w) (cx B n M Hp w) :=
 ⟨fun id hid=>⟨hid,rfl⟩,fun b hb hl=>⟨⟨hb.1,fun id o hid ho he=>hb.2 id o hid (hs id o ho) he⟩,hl,rfl⟩,shp fun _ _ h=>h⟩
theorem dL6 {h Hp:aQ} {v:AV}:Fz h Hp v v:=fun B n M w u hs hc hu=>Rep.ext (aU1 hs) _ _ hu
theorem eR6 {h Hp:aQ} {B:Bs} {n:Nat} {M:Nat->D6} {w:World} (hs:∀id o,lk Hp id=some o->lk h id=some o) (hc:ConcH B (lt n) M (lk h) w) {id g:Nat} {o:AObj} (ho:lk h id=some o) (hn:lk Hp id=none) (hd:id<n) (hM:M id=some g):bG B (lt n) M (lk Hp) g:=by
 refine ⟨?_,fun k o' hk hH he=>?_⟩
 ·rcases hc.lo id o g hd ho hM with h1|h1
  ·exact .inr (.inl h1)
  ·exact .inr (.inr h1)
 ·have:=hc.inj k id o' o g hk hd (hs k o' hH) ho he hM
  subst this
  rw [hn] at hH
  cases hH
theorem cS9 {h Hp:aQ} {id off n size:Nat} {full:Bool} {T:Dz} {cs ys:D8} (ho:lk h id=some (.row T cs)) (hn:lk Hp id=none) (hy:(cs.drop off).take (n*size)=ys) (hl:ys.length=n*size):Fz h Hp (.own id off n size full) (.c (.sl size n ys)):=by
 intro B N M w u hs hc hu
 have hext:=aU1 (B:=B) (n:=N) (M:=M) (w:=w) hs
 simp only [Rep,cx] at hu
 obtain ⟨hd,hu⟩:=hu
 have hz:n=0->∃us,RepCs (bG B (lt N) M (lk Hp)) w ys us/\∀u∈us,u.oneCell'=true:=fun h0=>by
  subst h0
  have:ys=[]:=An gJ
  subst this
  exact ⟨[],by simp [RepCs],by simp⟩
 rcases hu with ⟨h1,h2,h3,h4⟩|⟨g,cp,h1,h2,h3,h4,h5⟩|⟨h1,h2,A,cp,h3,h4⟩
 ·obtain ⟨us,hus,hon⟩:=hz h1
  exact eO8
 ·obtain ⟨us,vs,hb,hr,hon⟩:=fU (fun id o h _=>h) hc ho hd h1
  have h6:=(hr.drop off).take (n*size)
  rw [hy] at h6
  refine ⟨some ⟨g,off,none⟩,cp,(us.drop off).take (n*size),h2,h3,h4,hl,RepCs.mono hext.ok _ _ h6,fun u hu=>hon u (Bh (AJ hu)),fun hn'=>⟨g,off,rfl,eR6 hs hc ho hn hd h1,cJ hb,fun j x hj=>?_⟩⟩
  have hjk:j<n*size:=by
   rcases AF j (n*size) with h1|h1
   ·exact h1
   ·rw [AR jE] at hj;cases hj
  rw [Bg hjk,AT] at hj
  exact jT hb hj
 ·obtain ⟨us,hus,hon⟩:=hz h1
  subst h1
  exact eO9
theorem bU1 {h Hp:aQ} {id n size:Nat} {full:Bool} {T:Dz} {cs:D8} (ho:lk h id=some (.row T cs)) (hn:lk Hp id=none) (hl:cs.length=n*size):Fz h Hp (.own id 0 n size full) (.c (.sl size n cs)) :=
 cS9 ho hn cM9 hl
inductive FzE (env:Env) (h Hp:aQ):Env->Prop
 | nil:FzE env h Hp []
 | cons {t:Nat} {v v':AV} {E:Env} (hl:lkE env t=some v) (hf:Fz h Hp v v') (hr:FzE env h Hp E):FzE env h Hp ((t,v')::E)
theorem FzE.get {env E:Env} {h Hp:aQ} (hf:FzE env h Hp E):∀t av,lkE E t=some av->∃v,lkE env t=some v/\Fz h Hp v av:=by
 induction hf with
 | nil=>intro t av ht;cases ht
 | cons hl hf hr ih =>
  intro k x hk
  rw [fJ] at hk
  split at hk
  ·rename_i e;subst e;injection hk with hk;subst hk;exact ⟨_,hl,hf⟩
  ·exact ih k x hk
def eM5 (h:aQ):aQ->Prop
 | []=>True
 | (i,o)::r=>lk h i=some o/\eM5 h r
theorem bI1 {h:aQ}:∀{Hp:aQ},eM5 h Hp->∀id o,lk Hp id=some o->lk h id=some o
 | [],_,id,o,ho=>by cases ho
 | (i,q)::r,hs,id,o,ho=>by
  rw [cD] at ho
  split at ho
  ·rename_i e;subst e;rw [hs.1];rw [tF ho]
  ·exact bI1 hs.2 id o ho
theorem dR2 {n:Nat} {env E:Env} {h Hp:aQ} {dfs:cK} (hE:FzE env h Hp E) (hs:eM5 h Hp):cR n env h dfs n E Hp dfs:=by
 intro B sz a w hc
 obtain ⟨M,c1,c2,c3,c4⟩:=hc
 have hs:=bI1 hs
 have hext:=aU1 (B:=B) (n:=n) (M:=M) (w:=w) hs
 refine ⟨M,⟨c1.fr,fun id o hid ho=>(c1.obj id o hid (hs id o ho)).ext hext (fun _ _=>rfl),fun id id' o o' g k1 k2 k3 k4=>c1.inj id id' o o' g k1 k2 (hs id o k3) (hs id' o' k4),fun id o g k1 k2=>c1.lo id o g k1 (hs id o k2)⟩,c2,fun t av ht=>?_,c4.ext hext⟩
 obtain ⟨v,hv,hf⟩:=hE.get t av ht
 exact hf B n M w _ hs c1 (c3 t v hv)
theorem aY8 {P:D0} {ops:Dv} {sz n N:Nat} {l:Du} {K:AK} {env E:Env} {h Hp:aQ} {dfs D:cK} (hw:cR n env h dfs N E Hp D) (hx:AWL P ops sz l K N E Hp D):AWL P ops sz l K n env h dfs:=fun B a w hc=>hx B a w (hw B sz a w hc)
section ops
variable {P:D0} {tab:Tab} {ev:Evl} {h:aQ} {d:Dy} {T ty:Dz} {x y:Operand} {pos:String} {aft:Dx} {gd:Ds} {i:Nat}
theorem dB2 {e:TyE} {E:Nat} {hi:Option Operand} (tb:bT P tab) (hT:aX tab T=some e) (hk:e.kind = .slice E) {e':TyE} (hE:aX tab E=some e') (hhi:Bd ev 0 hi 0) (hx:ev x=some (.c (.v (.slice none 0 0)))):Still P ⟨d,.slice T x none hi none,ty,pos,aft,gd⟩ ev h (.c (.v (.slice none 0 0))):=by
 intro B dom M H w a hh hc he
 have h1:=he x _ hx
 simp only [Rep,RepC] at h1
 have hb:=nS (P:=P) (w:=w) (n:=0) (c:=0) true he (Bd.no:Bd ev 0 none 0) hhi (Ah _) (Ah _)
 have hsz:=(aM tb hE).sizeOf w
 refine ⟨_,?_,rfl⟩
 have hund:=(aM tb hT).slice hk
 simp only [CT] at hb
 simp [execOp,Instr.sliceAt,Instr.slice,h1,Sem.run_bind,run_underlying hund,hb,hsz]
theorem bN9 {e:TyE} {E:Nat} (tb:bT P tab) (hT:aX tab T=some e) (hk:e.kind = .slice E) {A:Option Addr} {n c:Nat} (hx:ev x=some (.c (.v (.slice A n c)))):Still P ⟨d,.call ⟨.builtin .cap,#[x],#[T]⟩,ty,pos,aft,gd⟩ ev h (.c (.v (.int .i64 c))):=by
 intro B dom M H w a hh hc he
 have h1:=he x _ hx
 simp only [Rep,RepC] at h1
 refine ⟨_,?_,rfl⟩
 simp [execOp,resolve,invoke,builtin,Builtin.cap_,h1,run_underlying ((aM tb hT).slice hk),goInt]
theorem kQ {Ti:Dz} {w:World} (ρ:Operand->Value) {v:Value} {w':World} (hr:(Builtin.append_ #[T,Ti] ty #[ρ x,ρ y]).run P w = .ok v w'):(execOp ρ ⟨d,.call ⟨.builtin .append,#[x,y],#[T,Ti]⟩,ty,pos,aft,gd⟩).run P w = .ok (.value v) w':=by
 simp only [execOp,resolve,invoke,builtin,Sem.run_bind,Sem.run_pure,Result.andThen_ok,Bc,AI,CD,hr]
theorem wH {Ti : Dz} {k : D3} {e e' ei : TyE} {E size m : Nat} {I : Int} (tb : bT P tab) (hT : aX tab T = some e) (hk : e.kind = .slice E) (hs0 : aP9 tab E = some size) (hE : aX tab E = some e') (hTi : aX tab Ti = some ei) (hki : ei.kind = .int k) (hs : Nat.beq e'.size size = true) (hz : Nat.beq e'.zero.length size = true) (hp : Nat.blt 0 size = true)
    (hx : ev x = some (.c (.v (.slice none 0 0)))) (hy : ev y = some (.c (.v (.int .i64 I)))) (hI : I = (m : Int)) (h0 : 0 < m) (h63 : m <= maxLen) (hb : m * e'.bytes <= 140737488355328) :
    Adds P ⟨d, .call ⟨.builtin .append, #[x, y], #[T, Ti]⟩, ty, pos, aft, gd⟩ ev h (.own i 0 m size true) [(i, .row E [])] i (i + 1) := by
  refine jD rfl fun B dom M H w a hh hcc he => ?_
  subst hI
  have h1 := he x _ hx
  have h2 := he y _ hy
  simp only [Rep, RepC] at h1 h2
  obtain ⟨ti, zv, hi, hzv, hszt, hby, hzc⟩ := kH (aM tb hE)
  have hs' := Af hs
  have hz' := Af hz
  have hzs : zv.cells.size = ti.size := by rw [<- AA, hzc, hz', hszt, hs']
  have hp' : 0 < ti.size := by rw [hszt, hs']; simpa using hp
  rw [<- hby] at hb
  simp only [maxLen] at h63
  have hw : IntKind.i64.wrap (m : Int) = (m : Int) := w64 aA aA
  have c1 : ¬ ((m : Int) < 0) := by omega
  have c2 : ¬ ((281474976710656 : Int) < (m : Int) * (ti.bytes : Int)) := by
    have h3 : ((m * ti.bytes : Nat) : Int) = (m : Int) * (ti.bytes : Int) := Dn _ _
    omega
  have c3 : ¬ ((m : Int) <= 0) := by omega
  have c4 : max (m : Int) 0 = (m : Int) := by omega
  have c5 : ¬ (m * ti.size = 0) := by
    have := Nat.mul_pos h0 hp'
    omega
  have hn : m ≠ 0 := by omega
  have h63' : ¬ (9223372036854775807 < (m : Int)) := by omega
  have h48' : ¬ (281474976710656 < Builtin.nextslicecap m 0 * ti.bytes) := by rw [nextslicecap_zero h0]; omega
  have hms : ¬ (m = 0 \/ ti.size = 0) := by omega
  have hr : (Builtin.append_ #[T, Ti] ty #[.slice none 0 0, .int .i64 m]).run P w = .ok (.slice (some ⟨w.heap.size, 0, none⟩) m (grownCap w m 0 E)) (w.drew.alloc (.cells (Builtin.zeroCells zv.cells m ++ Builtin.zeroCells zv.cells (grownCap w m 0 E - m)) E)) := by
    simp [Builtin.append_, run_underlying ((aM tb hT).slice hk), run_underlying ((aM tb hTi).int hki), sizeOf, typeInfo, zeroValue, hi, hzv, asInt, asIntOf, hw, c1, c2, c3, c4, c5, hn, h63', h48', hms, Question.forced, run_firstCells_none, newRow, grownCap]
  have hge := grownCap_ge w m 0 E
  have hle := grownCap_le_maxLen w m 0 E tZ
  have hbl : (w.drew.alloc (.cells (Builtin.zeroCells zv.cells m ++ Builtin.zeroCells zv.cells (grownCap w m 0 E - m)) E)).heap[w.heap.size]? = some (.cells (([] : Dt) ++ (Builtin.zeroCells zv.cells m ++ Builtin.zeroCells zv.cells (grownCap w m 0 E - m)).toList).toArray E (0, 0)) := by
    rw [show w.heap.size = w.drew.heap.size from rfl, heap_alloc_new]
    simp
  refine ⟨_, _, some w.heap.size, kQ a.eval (by rw [h1, h2]; exact hr), ((Below.refl _ _).drew).alloc (Ah _) _, fun g hg => by injection hg with hg; omega, fun C hext hw hd hM => ⟨.inr ⟨w.heap.size, [], _, rfl, by rw [hw]; exact hbl, by simp [RepCs], by simp⟩, hd, .inr (.inl ⟨w.heap.size, _, hM, rfl, hge, hle, fun _ => ⟨E, ?_⟩⟩)⟩⟩
  unfold World.shape?
  rw [hw, hbl]
  simp only [Aw, A3, Ap, AA, Array.size_append, size_zeroCells, hzs, hszt, hs', <- AL]
  congr 3
  omega
end ops
end
theorem bI6 {n t size : Nat} {env : Env} {h : aQ} {dfs : cK} (T : Dz) (hx : lkE env t = some (.c (.v (.slice none 0 0)))) : cR n env h dfs (n + 1) ((t, .own n 0 0 size true) :: env) ((n, .row T []) :: h) dfs := by
  intro B sz a w hc
  obtain ⟨M, c1, c2, c3, c4⟩ := hc
  have e1 : ∀ id, id < n -> lk ((n, .row T []) :: h) id = lk h id := fun id hid => by rw [cD, Ai aA]
  have e2 : lk ((n, AObj.row T []) :: h) n = some (.row T []) := by rw [cD, Ak rfl]; rfl
  have eok : bG B (lt n) M (lk ((n, .row T []) :: h)) = bG B (lt n) M (lk h) := by
    funext b
    unfold bG
    simp only [BG]
    exact dZ3
  have h1' : ConcH B (lt n) M (lk ((n, .row T []) :: h)) w := by
    refine ⟨c1.fr, fun id o hid hH => ?_, fun id id' o o' g k1 k2 k3 k4 => c1.inj id id' o o' g k1 k2 aR8 aR6, fun id o g k1 k2 => c1.lo id o g k1 aR9⟩
    rw [eok]
    exact c1.obj id o hid wP
  let M' : Nat -> D6 := fun id => if id = n then none else M id
  have hMn : M' n = none := by simp [M']
  have hg := h1'.grow (Below.refl w.heap.size w) n (n + 1) (M' := M') (fun id hid => by
      have : ¬ id = n := by simp only [lt] at hid; omega
      simp [M', this]) (fun id k1 k2 => by simp only [lt]; omega)
    (fun id o k1 k2 k3 g hg => by obtain rfl : id = n := by omega
                                  rw [hMn] at hg; cases hg)
    (fun id id' o o' g k1 k2 k3 k4 _ _ _ _ => by omega)
    (fun hext id o k1 k2 k3 => by
      obtain rfl : id = n := by omega
      rw [e2] at k3
      injection k3 with k3
      subst k3
      exact .inl ⟨hMn, rfl⟩)
  rw [bD4 (BK n)] at hg
  have hext : Ext (cx B n M h w) (cx B (n + 1) M' ((n, .row T []) :: h) w) := by
    have := hg.2
    rw [eok] at this
    exact this
  refine ⟨M', hg.1, c2, fun k av hk => ?_, c4.ext hext⟩
  rw [fJ] at hk
  split at hk
  · rename_i e
    subst e
    injection hk with hk
    subst hk
    have := c3 _ _ hx
    simp only [Rep, RepC] at this
    exact ⟨Bm n, .inl ⟨rfl, rfl, hMn, this⟩⟩
  · exact Rep.ext hext _ _ (c3 k av hk)
theorem lA {P:D0} {sz n:Nat} {c:Code} {K:AK} {env:Env} {h:aQ} {dfs:cK} (t:Nat) (T:Dz) (size:Nat) (hx:lkE env t=some (.c (.v (.slice none 0 0)))) (next:AW P sz c K (n+1) ((t,.own n 0 0 size true)::env) ((n,.row T [])::h) dfs):AW P sz c K n env h dfs:=nW (bI6 T hx) next
end Go.Av
