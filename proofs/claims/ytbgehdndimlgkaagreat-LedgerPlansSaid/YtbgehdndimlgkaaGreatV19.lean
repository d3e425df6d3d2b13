/- Lemmas for laws of the ledger. -/
import Derived.Test.YtbgehdndimlgkaaGreatV18
set_option linter.all false
namespace Go.Proofs.YtbgehdndimlgkaaGreat
open Go Go.RowKit Go.Av
set_option maxRecDepth 100000
section
def S5.get (s:S5):Nat->BitVec 64
 | 0=>s.a
 | 1=>s.b
 | 2=>s.c
 | 3=>s.d
 | _=>s.e
def S5.put (s:S5) (i:Nat) (x:BitVec 64):S5 :=
 match i with
 | 0=>{s with a:=x}
 | 1=>{s with b:=x}
 | 2=>{s with c:=x}
 | 3=>{s with d:=x}
 | _=>{s with e:=x}
def nx (i:Nat):Nat:=(i+1)%5
def lin (k:BitVec 64) (s:S5):S5:=⟨s.a ^^^ s.e,s.b,s.c ^^^ k ^^^ s.b,s.d,s.e ^^^ s.d⟩
def tk (s:S5):Nat->S5
 | 0=>⟨0,0,0,0,0⟩
 | i+1=>(tk s i).put i (~~~(s.get i) &&& s.get (nx i))
def uk (s t:S5):Nat->S5
 | 0=>s
 | i+1=>(uk s t i).put i ((uk s t i).get i ^^^ t.get (nx i))
def dU6 (s:S5):S5:=⟨s.a ^^^ s.e,s.b ^^^ s.a,~~~s.c,s.d ^^^ s.c,s.e⟩
def ra:Nat->Nat
 | 0=>19
 | 1=>61
 | 2=>1
 | 3=>10
 | _=>7
def rb:Nat->Nat
 | 0=>28
 | 1=>39
 | 2=>6
 | 3=>17
 | _=>41
def mk (s:S5):Nat->S5
 | 0=>s
 | i+1=>(mk s i).put i ((mk s i).get i ^^^ aR6 ((mk s i).get i) (ra i) ^^^ aR6 ((mk s i).get i) (rb i))
attribute [local irreducible] Still Adds AWL AW Drw AC AWR cM Frz Go.Av.Src dB Out
abbrev ri:Dp:=[iv 19,iv 61,iv 1,iv 10,iv 7]
abbrev rj:Dp:=[iv 28,iv 39,iv 6,iv 17,iv 41]
end
section
attribute [local irreducible] Still Adds AWL AW Drw AC AWR cM Frz Go.Av.Src dB Out InK
attribute [local simp] bL bK
end
section
attribute [local irreducible] Still Adds AWL AW Drw AC AWR cM Frz Go.Av.Src dB Out InK
attribute [local simp] bL bK bZ
end
section
def hx (n:Nat):UInt8:=[48,49,50,51,52,53,54,55,56,57,97,98,99,100,101,102].getD n 0
def fmt (l:CZ):CZ:=l.flatMap fun b=>[hx (b.toNat / 16),hx (b.toNat%16)]
def dg (c:UInt8):Dn:=if 48<=c.toNat/\c.toNat<=57 then some (c.toNat-48) else if 97<=c.toNat/\c.toNat<=102 then some (c.toNat-87) else none
def sb (s:ByteArray) (i:Nat):UInt8:=s.data.getD i 0
def dK1 (s:ByteArray):Prop:=s.size=64/\∀i,i<64->(dg (sb s i)).isSome=true
def dv (s:ByteArray) (i:Nat):Nat:=(dg (sb s i)).getD 0
def pb (s:ByteArray) (i:Nat):UInt8:=UInt8.ofNat (dv s (2*i)*16+dv s (2*i+1))
open Classical in
noncomputable def pval (s:ByteArray):CZ:=if dK1 s then (List.range 32).map (pb s) else List.replicate 32 0
open Classical in
noncomputable def perr (s:ByteArray):Int:=if dK1 s then 0 else 2
def flg (f:Nat->UInt8) (n i:Nat):CZ:=(List.range i).map f++List.replicate (n-i) 0
section
variable {P:Di} {ev:Evl} {h:aL} {d:Dg} {T ty T':Dh} {x y:Operand} {pos:String} {aft:Df} {gd:Da}
end
attribute [local irreducible] Still Adds AWL AW Drw AC AWR cM Frz Go.Av.Src dB Out InK
end
section
attribute [local irreducible] Still Adds AWL AW Drw AC AWR cM Frz Go.Av.Src dB Out InK
end
section
theorem bB6 (l:CZ):u8c l=cH .u8 (l.map fun b=>(b.toNat:Int)):=by simp [u8c,cH]
theorem dG6 (l l':CZ):(l.map fun b=>(b.toNat:Int))=(l'.map fun b=>(b.toNat:Int))↔l=l':=by
 constructor
 ·intro h
  exact (List.map_inj_right (fun a b hab=>by
   have:a.toNat=b.toNat:=by omega
   exact UInt8.toNat.inj this)).1 h
 ·rintro rfl;rfl
section
variable {P:Di} {tab:Tab} {ev:Evl} {h:aL} {d:Dg} {T ty T' E n:Nat} {x y:Operand} {pos:String} {aft:Df} {gd:Da} {e e':TyE} {l l':CZ} {cs cs':Dp} {b:Bool} (tb:bF P tab) (hg:P.eqGuardType P.depth T=false) (hT:aP tab T=some e) (hk:e.kind = .array n E) (hE:aP tab E=some e') (hke:e'.kind = .int .u8) (hs:Nat.beq e'.size 1=true) (hx:ev x=some (.c (.agg cs))) (hy:ev y=some (.c (.agg cs'))) (hcx:cs=u8c l) (hcy:cs'=u8c l') (hlx:l.length=n) (hly:l'.length=n)
include tb hg hT hk hE hke hs hx hy hcx hcy hlx hly
theorem bZ5 (hb:(!decide (l=l'))=b):Still P ⟨d,.binOp .neq T x y T',ty,pos,aft,gd⟩ ev h (.c (.v (.bool b))) :=
 dF3 tb hg hT hk hE hke hs hx hy (hcx.trans (bB6 l)) (hcy.trans (bB6 l')) (by rw [Bb];exact hlx) (by rw [Bb];exact hly) (by rw [<- hb];exact congrArg (!·) (CQ.2 (dG6 l l')))
end
attribute [local irreducible] Still Adds AWL AW Drw AC AWR cM Frz Go.Av.Src dB Out InK
end
end Go.Proofs.YtbgehdndimlgkaaGreat
namespace Go.Av
open Go Go.RowKit
inductive ResF (tab:Tab) (env:Env) (h:aL):List ResultVar->AV->Prop
 | mk {r1 r2 r3 r4:ResultVar} {v1 v2 v3 v4:AV} (h1:ResA tab env h r1 v1) (h2:ResA tab env h r2 v2) (h3:ResA tab env h r3 v3) (h4:ResA tab env h r4 v4):ResF tab env h [r1,r2,r3,r4] (.tup [v1,v2,v3,v4])
theorem ResF.run {P : Di} {tab : Tab} {env : Env} {h : aL} {n : Nat} (tb : bF P tab) {fn : Func} {v : AV} (hr : ResF tab env h fn.results.toList v) {B : Bs} {M : Nat -> Dn} {w : World} {tmps : Do} (hc : ConcH B (lt n) M (lk h) w) (he : ∀ t av, lkE env t = some av -> Rep (cx B n M h w) av (tmps.getD t undef)) :
    ∃ u, Rep (cx B n M h w) v u /\ (results fn tmps).run P w = .ok u w := by
  have one : ∀ {rv : ResultVar} {v : AV}, ResA tab env h rv v -> ∃ u, Rep (cx B n M h w) v u /\ Rd P tmps w rv u := by
    intro rv v hA
    obtain ⟨u, h1, h2⟩ := hA.run tb hc he
    refine ⟨u, h1, ?_⟩
    cases rv with
    | tmp t => simpa [Rd] using h2
    | cell p T => obtain ⟨q, hq, hl⟩ := h2; exact ⟨q, by simpa using hq, hl⟩
  generalize hl : fn.results.toList = l at hr
  have hf : fn.results = l.toArray := by rw [<- hl]
  cases hr with
  | mk h1 h2 h3 h4 =>
    obtain ⟨u1, k1, k2⟩ := one h1
    obtain ⟨u2, l1, l2⟩ := one h2
    obtain ⟨u3, m1, m2⟩ := one h3
    obtain ⟨u4, n1, n2⟩ := one h4
    refine ⟨.tuple #[u1, u2, u3, u4], ⟨[u1, u2, u3, u4], rfl, u1, [u2, u3, u4], rfl, k1, u2, [u3, u4], rfl, l1, u3, [u4], rfl, m1, u4, [], rfl, n1, rfl⟩, ?_⟩
    rename_i r1 r2 r3 r4 v1 v2 v3 v4
    cases r1 <;> cases r2 <;> cases r3 <;> cases r4 <;> simp only [Rd] at k2 l2 m2 n2 <;> (try obtain ⟨q, hq, hl1⟩ := k2) <;> (try obtain ⟨q2, hq2, hl2⟩ := l2) <;> (try obtain ⟨q3, hq3, hl3⟩ := m2) <;> (try obtain ⟨q4, hq4, hl4⟩ := n2) <;> simp [results, hf, asAddr, *]
def bC3 (P:Di) (tab:Tab) (rs:List ResultVar) (r:AV) (hr:aL) (nr:Nat):AK :=
 fun e n env h dfs=>(e = .normal\/e = .ret)/\gB P h dfs/\∃v,ResF tab env (fB h dfs) rs v/\Out n (fB h dfs) v r hr nr
theorem cO0 {P:Di} {tab:Tab} {rs:List ResultVar} {r v:AV} {hr h h':aL} {nr n:Nat} {e:Exit} {env:Env} {dfs:bM} (he:e = .normal\/e = .ret) (hd:gB P h dfs) (hh:fB h dfs=h') (hv:ResF tab env h' rs v) (ho:Out n h' v r hr nr):bC3 P tab rs r hr nr e n env h dfs:=⟨he,hd,v,hh▸hv,hh▸ho⟩
theorem jD {P : Di} {tab : Tab} (tb : bF P tab) {f : FuncId} {fn : Func} {c : Code} {args : Dp} {r : AV} {hr : aL} {nr sz : Nat} (hf : P.funcs[f]? = some fn) (hb : fn.body = some c) (hsz : max fn.ntmps args.length = sz)
    (hx : AW P sz c (bC3 P tab fn.results.toList r hr nr) 0 (aH5 0 args) [] []) : AC P f args r hr nr := by
  intro ok w vs hvs
  have hlen := hvs.length
  refine fL hf hb (wp_mono (jI (hx ⟨w, [], ok, []⟩ _ w ⟨fun _ => none, kR (FrB.refl _ _), ?_, ?_, ?_⟩)) ?_)
  · simp; omega
  · intro t av ht
    obtain ⟨c', h1, h2, rfl⟩ := sG ht
    rw [B1] at h2
    obtain ⟨u, hu, hru⟩ := hvs.get h2
    have : (vs.toArray ++ Array.replicate (fn.ntmps - vs.toArray.size) undef).getD t undef = u := by
      have hlt := (Ad.1 hu).1
      have h9 := (Ad.1 hu).2
      simp [Array.getElem?_append, hlt, h9]
    rw [this]
    simp only [Rep]
    exact dJ4
  · rfl
  · intro e a w' hq
    obtain ⟨n, env, h, dfs, ⟨h1, h2, v, h3, h4⟩, M, c1, c2, c3, c4⟩ := hq
    have : gS P fn a.tmps (fun e w' => ∃ v M, e = .returned v /\ ConcH ⟨w, [], ok, []⟩ (lt nr) M (lk hr) w' /\ Rep (cx ⟨w, [], ok, []⟩ nr M hr w') r v) a.defers w' := by
      refine eH h2 c1 c4 fun w2 d1 d2 => ?_
      obtain ⟨u, k1, k2⟩ := h3.run tb d1 (fun t av ht => Rep.ext d2 _ _ (c3 t av ht))
      obtain ⟨M', k3, k4⟩ := h4 w ok M w2 u d1 k1
      exact ⟨u, k2, u, M', rfl, k3, k4⟩
    rcases h1 with rfl | rfl <;> exact this
section
variable {P:Di} {tab:Tab} {ev:Evl} {h:aL} {d:Dg} {T ty:Dh} {x:Operand} {pos:String} {aft:Df} {gd:Da}
theorem cY2 (tb:bF P tab) {e:TyE} (hT:aP tab T=some e) {N E n size:Nat} {cs:Dp} (hk:e.kind = .array N E) (hx:ev x=some (.c (.sl size n cs))) (hn:N<=n) (h0:0<n):Still P ⟨d,.sliceToArrayPointer T x,ty,pos,aft,gd⟩ ev h (.ip cs 0):=by
 intro B dom M H w a hh hc he
 have h1:=he x _ hx
 simp only [Rep,RepC] at h1
 obtain ⟨A,c,us,h3,h4,h5,h6,h7,h70,h8⟩:=h1
 obtain ⟨b,o,rfl,hb,hl,hcell⟩:=h8 h0
 refine ⟨.pointer (some ⟨b,o,none⟩),?_,b,o,us,by rw [BU],hb,hl,h7,h70,hcell⟩
 simp [execOp,Instr.arrayAt,h3,Sem.run_bind,run_underlying ((aK tb hT).array hk),Nat.not_lt.2 hn]
end
end Go.Av
