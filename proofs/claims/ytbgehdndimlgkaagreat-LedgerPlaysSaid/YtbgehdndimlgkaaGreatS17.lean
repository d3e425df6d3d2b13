/- Lemmas for laws of the ledger. -/
import Derived.Lib.SliceRun
import Derived.Laws.Cover3
import Derived.Laws.CopyRow
import Derived.Test.YtbgehdndimlgkaaGreatS16
set_option linter.all false
set_option maxHeartbeats 16000000
namespace Go.Av
open Go Go.RowKit
section call
variable {P:Dv} {ev:Evl} {h:aO} {d:Dt} {ty:Du} {pos:String} {aft:Ds} {gd:Dn} {i:Nat} {f:FuncId} {xf x0:Operand} {xs:Dy} {ats:Dx} {T:Du} {c0 c1 cs cs':D1} {a0:D2} {r:CV} {id:Nat}
theorem xV {x:Operand} (hx:ev x=some (.ref id 0)):Still P ⟨d,.makeFunc (.func f) #[x] #[],ty,pos,aft,gd⟩ ev h (.bm f id):=by
 intro B dom M H w a hh hc he
 have h1:=he x _ hx
 simp only [Rep] at h1
 obtain ⟨hid,g,hM,hp⟩:=h1
 exact ⟨_,by simp [execOp,Instr.makeFunc,hp],hid,g,hM,rfl⟩
theorem cJ1 (hac : ACT P f T c0 cs' c1 r) (hb : Body P f) (hxf : ev xf = some (.fn f [])) (hx0 : ev x0 = some (.ref id 0)) (ho : lk h id = some (.blk T a0)) (ha0 : a0 = c0.map AV.c) (hx : eX ev xs = some cs) (hcv : CvL cs cs') (hl : c1.length = c0.length) :
    bY P ⟨d, .call ⟨.value xf, (x0 :: xs).toArray, ats⟩, ty, pos, aft, gd⟩ ev h (.c r) [] (some (id, some (.blk T (c1.map AV.c)))) i i := by
  subst ha0
  intro B dom M H w a K Q hh hn hc he hK
  have hargs : RepCs (bF B dom M H) w cs (xs.map a.eval) := RepL.toC (C := ⟨dom, M, bF B dom M H, w⟩) (gD he tV)
  have hfv := he xf _ hxf
  simp only [Rep, RepL] at hfv
  obtain ⟨usf, hfv, rfl⟩ := hfv
  have hp := he x0 _ hx0
  simp only [Rep] at hp
  obtain ⟨hid, g, hM, hp⟩ := hp
  obtain ⟨us0, hb0, hus0⟩ := iL hh hc ho hid hM
  have hng : ¬ bF B dom M H g := fun hk => hk.2 id _ hid (hh id _ ho hid) hM
  unfold Oper.wp execOp
  simp only [hfv, resolve, Deferred.ofValue, invoke, Sem.run_bind, Sem.run_pure, Result.andThen_ok, AZ, Bg, Body.run hb, Oper.upon]
  rw [show (#[] ++ (List.map a.eval (x0 :: xs)).toArray : D0) = (Value.pointer (some ⟨g, 0, none⟩) :: List.map a.eval xs).toArray by simp [hp]]
  refine (hac _ w g us0 _ hng hb0 (RepL.toC hus0) (hcv _ _ _ hargs)).mono ?_
  rintro e w' ⟨v, us1, rfl, hfr, hb1, hus1, hv⟩
  simp only
  have hgs := cC hb0
  have hg1 : (w'.putObj g (.cells us0.toArray T (0, 0))).heap[g]? = some (.cells us0.toArray T (0, 0)) := World.putObj_heap_same (cC hb1)
  have ho1 : ∀ k, k ≠ g -> (w'.putObj g (.cells us0.toArray T (0, 0))).heap[k]? = w'.heap[k]? := fun k hk => World.putObj_heap_other (fun e => hk e)
  generalize hw1 : w'.putObj g (.cells us0.toArray T (0, 0)) = w1 at hg1 ho1
  have hs1 : w1.heap.size = w'.heap.size := by rw [<- hw1]; simp [World.putObj]
  have hbl : Below w.heap.size w w1 := ⟨by rw [<- hw1]; exact hfr.os, by rw [<- hw1]; exact hfr.tape, by rw [<- hw1]; exact hfr.output, by rw [hs1]; exact hfr.size, fun k hk => by
    by_cases e : k = g
    · subst e; rw [hg1, hb0]
    · rw [ho1 k e]; exact hfr.block k hk (by simp [e])⟩
  have hgr := hc.grow hbl i i (M' := M) (fun id _ => rfl) (fun id h1 h2 => by omega) (fun id o h1 h2 => by omega) (fun id id' o o' g h1 h2 => by omega) (fun hext id o h1 h2 => by omega)
  rw [dY] at hgr
  obtain ⟨g1, g2⟩ := hgr
  have hmon : kW (okg (bF B dom M H) w g) (bF B dom M (ov (some (id, some (.blk T (c1.map AV.c)))) H)) w' w' := fun b hb hl => by
    refine ⟨⟨?_, fun k o hk hH he => ?_⟩, hl, rfl⟩
    · rcases hb.1 with h1 | h1
      · exact h1.1
      · exact aU6
    · by_cases e : k = id
      · subst e
        rw [hM] at he
        injection he with he
        exact hb.2 he.symm
      · rw [lE (fun x hx => e (congrArg Prod.fst (Option.some.inj hx)).symm)] at hH
        rcases hb.1 with h1 | h1
        · exact h1.2 k o hk hH he
        · have := (hc.obj k o hk hH).lt b he
          simp only at this
          omega
  obtain ⟨k1, k2⟩ := g1.turnE (o' := .blk T (c1.map AV.c)) (w' := w') hid (hh id _ ho hid) hM jQ jQ jQ hs1.symm (fun k hk => (ho1 k hk).symm)
    (by
      unfold World.shape?
      rw [hb1, hg1]
      have e1 := hus1.length
      have e2 := (RepL.toC hus0).length
      simp only [A1]
      rw [e1, e2, hl])
    (fun hext => ⟨g, us1, rfl, hb1, RepL.ofC (RepCs.mono hmon _ _ hus1)⟩)
  rw [dY] at hK
  exact cH0
theorem cI8 (hac : ACT P f T c0 [] c1 r) (hb : Body P f) (hxf : ev xf = some (.bm f id)) (ho : lk h id = some (.blk T a0)) (ha0 : a0 = c0.map AV.c) (hl : c1.length = c0.length) :
    bY P ⟨d, .call ⟨.value xf, #[], ats⟩, ty, pos, aft, gd⟩ ev h (.c r) [] (some (id, some (.blk T (c1.map AV.c)))) i i := by
  subst ha0
  intro B dom M H w a K Q hh hn hc he hK
  have hp := he xf _ hxf
  simp only [Rep] at hp
  obtain ⟨hid, g, hM, hp⟩ := hp
  obtain ⟨us0, hb0, hus0⟩ := iL hh hc ho hid hM
  have hng : ¬ bF B dom M H g := fun hk => hk.2 id _ hid (hh id _ ho hid) hM
  unfold Oper.wp execOp
  simp only [hp, resolve, Deferred.ofValue, invoke, Sem.run_bind, Sem.run_pure, Result.andThen_ok, AZ, Bg, Body.run hb, Oper.upon]
  rw [show (#[Value.pointer (some ⟨g, 0, none⟩)] ++ (List.map a.eval ([] : Dy)).toArray : D0) = (Value.pointer (some ⟨g, 0, none⟩) :: ([] : Do)).toArray by rfl]
  refine (hac _ w g us0 _ hng hb0 (RepL.toC hus0) (show RepCs (bF B dom M H) w [] [] from rfl)).mono ?_
  rintro e w' ⟨v, us1, rfl, hfr, hb1, hus1, hv⟩
  simp only
  have hgs := cC hb0
  have hg1 : (w'.putObj g (.cells us0.toArray T (0, 0))).heap[g]? = some (.cells us0.toArray T (0, 0)) := World.putObj_heap_same (cC hb1)
  have ho1 : ∀ k, k ≠ g -> (w'.putObj g (.cells us0.toArray T (0, 0))).heap[k]? = w'.heap[k]? := fun k hk => World.putObj_heap_other (fun e => hk e)
  generalize hw1 : w'.putObj g (.cells us0.toArray T (0, 0)) = w1 at hg1 ho1
  have hs1 : w1.heap.size = w'.heap.size := by rw [<- hw1]; simp [World.putObj]
  have hbl : Below w.heap.size w w1 := ⟨by rw [<- hw1]; exact hfr.os, by rw [<- hw1]; exact hfr.tape, by rw [<- hw1]; exact hfr.output, by rw [hs1]; exact hfr.size, fun k hk => by
    by_cases e : k = g
    · subst e; rw [hg1, hb0]
    · rw [ho1 k e]; exact hfr.block k hk (by simp [e])⟩
  have hgr := hc.grow hbl i i (M' := M) (fun id _ => rfl) (fun id h1 h2 => by omega) (fun id o h1 h2 => by omega) (fun id id' o o' g h1 h2 => by omega) (fun hext id o h1 h2 => by omega)
  rw [dY] at hgr
  obtain ⟨g1, g2⟩ := hgr
  have hmon : kW (okg (bF B dom M H) w g) (bF B dom M (ov (some (id, some (.blk T (c1.map AV.c)))) H)) w' w' := fun b hb hl => by
    refine ⟨⟨?_, fun k o hk hH he => ?_⟩, hl, rfl⟩
    · rcases hb.1 with h1 | h1
      · exact h1.1
      · exact aU6
    · by_cases e : k = id
      · subst e
        rw [hM] at he
        injection he with he
        exact hb.2 he.symm
      · rw [lE (fun x hx => e (congrArg Prod.fst (Option.some.inj hx)).symm)] at hH
        rcases hb.1 with h1 | h1
        · exact h1.2 k o hk hH he
        · have := (hc.obj k o hk hH).lt b he
          simp only at this
          omega
  obtain ⟨k1, k2⟩ := g1.turnE (o' := .blk T (c1.map AV.c)) (w' := w') hid (hh id _ ho hid) hM jQ jQ jQ hs1.symm (fun k hk => (ho1 k hk).symm)
    (by
      unfold World.shape?
      rw [hb1, hg1]
      have e1 := hus1.length
      have e2 := (RepL.toC hus0).length
      simp only [A1]
      rw [e1, e2, hl])
    (fun hext => ⟨g, us1, rfl, hb1, RepL.ofC (RepCs.mono hmon _ _ hus1)⟩)
  rw [dY] at hK
  exact cH0
end call
section
variable {P:Dv} {sz n:Nat} {env:Env} {h:aO} {dfs:cD} {K:AK} {ops:Dq} {rest:Dp} {d:Dt} {ty:Du} {pos:String} {aft:Ds} {gd:Dn} {f:FuncId} {xf x0:Operand} {xs:Dy} {ats:Dx} {T:Du} {c0 c1 cs cs':D1} {a0 a1:D2} {r:CV} {id:Nat}
theorem oT (hac : ACT P f T c0 cs' c1 r) (hg : guardA ops env ⟨d, .call ⟨.value xf, (x0 :: xs).toArray, ats⟩, ty, pos, aft, gd⟩ true) (hd : iD d sz = true) (hb : Body P f) (hxf : evA env xf = some (.fn f [])) (hx0 : evA env x0 = some (.ref id 0)) (ho : lk h id = some (.blk T a0)) (ha0 : a0 = c0.map AV.c) (hx : eX (evA env) xs = some cs) (hcv : CvL cs cs') (hl : c1.length = c0.length) (ha1 : a1 = c1.map AV.c)
    (next : AWL P ops sz rest K n (gJ env d (.c r)) ((id, .blk T a1) :: h) dfs) : AWL P ops sz (⟨d, .call ⟨.value xf, (x0 :: xs).toArray, ats⟩, ty, pos, aft, gd⟩ :: rest) K n env h dfs := by
  subst ha1
  exact lP (c := some (id, some (.blk T (c1.map AV.c)))) (Δ := []) hg hd (Ah _) rfl (cJ1 hac hb hxf hx0 ho ha0 hx hcv hl) (fun id h1 h2 => by omega) aU next
theorem oS (hac : ACT P f T c0 [] c1 r) (hg : guardA ops env ⟨d, .call ⟨.value xf, #[], ats⟩, ty, pos, aft, gd⟩ true) (hd : iD d sz = true) (hb : Body P f) (hxf : evA env xf = some (.bm f id)) (ho : lk h id = some (.blk T a0)) (ha0 : a0 = c0.map AV.c) (hl : c1.length = c0.length) (ha1 : a1 = c1.map AV.c)
    (next : AWL P ops sz rest K n (gJ env d (.c r)) ((id, .blk T a1) :: h) dfs) : AWL P ops sz (⟨d, .call ⟨.value xf, #[], ats⟩, ty, pos, aft, gd⟩ :: rest) K n env h dfs := by
  subst ha1
  exact lP (c := some (id, some (.blk T (c1.map AV.c)))) (Δ := []) hg hd (Ah _) rfl (cI8 hac hb hxf ho ha0 hl) (fun id h1 h2 => by omega) aU next
end
end Go.Av
namespace Go.Proofs.YtbgehdndimlgkaaGreat
open Go Go.RowKit Go.Av
set_option maxRecDepth 100000
section
attribute [local irreducible] Still Adds AWL AW Drw bX bY AC AWR cU Frz Go.Av.Src cQ Out InK ItK AsK RdK eP eI ACT ACA eW
attribute [local simp] bS bR bI
theorem bX2 {α:Type} (f:RS->α × RS) (n:Nat) (s:RS) (h:(f s).2.e=0):iN f (n+1) s=((iN f n (f s).2).1.map ((f s).1 :: ·),(iN f n (f s).2).2):=by
 rw [iN,Aj (by rw [h];simp)]
theorem bX3 {α:Type} (f:RS->α × RS) (n:Nat) (s:RS) (h:(f s).2.e≠0):iN f (n+1) s=(none,(f s).2):=by
 rw [iN,Ak h]
structure RL {α:Type} (f:RS->α × RS) (N:Nat) (s0:RS) (i:Nat) (l:List α) (s:RS):Prop where
 le:i<=N
 len:l.length=i
 eq:iN f N s0=((iN f (N-i) s).1.map (l ++ ·),(iN f (N-i) s).2)
theorem RL.init {α:Type} (f:RS->α × RS) (N:Nat) (s0:RS):RL f N s0 0 [] s0:=⟨Am _,rfl,by
 rw [BB]
 have:(fun x:List α=>[]++x)=id:=by funext x;rfl
 rw [this,Option.map_id];rfl⟩
section
variable {α:Type} {f:RS->α × RS} {N:Nat} {s0:RS} {i:Nat} {l:List α} {s:RS} (h:RL f N s0 i l s) (hi:i<N) {x:α} {s':RS} (hx:f s=(x,s'))
include α f N s0 i l s h hi x s' hx
theorem RL.next (he:s'.e=0):RL f N s0 (i+1) (l++[x]) s':=by
 refine ⟨hi,by rw [Aa,h.len];rfl,?_⟩
 rw [h.eq,show N-i=(N-(i+1))+1 by omega,bX2 f _ s (by rw [hx];exact he),hx]
 simp only [Option.map_map]
 congr 1
 congr 1
 funext y
 simp
theorem RL.stop (he:s'.e≠0):iN f N s0=(none,s'):=by
 rw [h.eq,show N-i=(N-(i+1))+1 by omega,bX3 f _ s (by rw [hx];exact he),hx]
 rfl
end
theorem RL.last {α:Type} {f:RS->α × RS} {N:Nat} {s0:RS} {l:List α} {s:RS} (h:RL f N s0 N l s):iN f N s0=(some l,s):=by
 rw [h.eq,BU,iN]
 simp
theorem wM {α:Type} {f:RS->α × RS} (hf:∀s,(f s).2.b.length<=s.b.length):∀(n:Nat) (s:RS),(iN f n s).2.b.length<=s.b.length/\((iN f n s).1.getD []).length<=n
 | 0,s=>⟨Ah _,by simp [iN]⟩
 | n+1,s=>by
  obtain ⟨h1,h2⟩:=wM hf n (f s).2
  have h3:=hf s
  rw [iN]
  split
  ·exact ⟨h3,by simp⟩
  ·refine ⟨At h1 h3,?_⟩
   simp only
   cases hr:(iN f n (f s).2).1 with
   | none=>simp
   | some l =>
    rw [hr] at h2
    simp only [Dd,Bh,Au] at h2 ⊢
    omega
theorem bP9 (s:RS):(rVr s).2.b.length<=s.b.length:=At (mV _) (At (mV _) (mV _))
theorem bP8 (s:RS):(rSr s).2.b.length<=s.b.length:=At (mV _) (mV _)
theorem bC4 (l:List Ver) (v:Ver):vrc l++[iv v.t,iv v.c,iv v.s]=vrc (l++[v]):=by simp [vrc]
theorem bB5 (l:List Src) (v:Src):src l++[iv v.t,iv v.s]=src (l++[v]):=by simp [src]
theorem bC2 (b:Dm) (e:Int) (m:Nat) (hm:b.length=m) (hb:m<=1000000000):∃r s' n,rLs rVr 512 ⟨b,e⟩=(r,s')/\r.length=n/\n<=512/\ARd 177 194 [] b e m (.sl 3 n (vrc r)) s':=by
 obtain ⟨n1,s1,q1,b1,e1,m1,rfl,a1,l1,d1,c1'⟩:=mR 0 512 b e m hm hb
 have hbd:=rK 0 512 aN aN ⟨b,e⟩
 rw [q1] at hbd
 dsimp only at hbd
 obtain ⟨N,hN⟩:∃N:Nat,n1=(N:Int):=⟨n1.toNat,by omega⟩
 subst hN
 unfold rLs
 rw [q1]
 dsimp only
 rw [AS]
 have hfa:=wM bP9 N ⟨b1,e1⟩
 obtain ⟨R,hR⟩:∃R,iN rVr N ⟨b1,e1⟩=R:=⟨_,rfl⟩
 rw [hR] at hfa ⊢
 obtain ⟨hf1,hf2⟩:=hfa
 dsimp only at hf1
 rw [l1] at hf1
 refine ⟨R.1.getD [],R.2,_,rfl,rfl,by omega,?_⟩
 refine ⟨R.2.b,R.2.e,_,rfl,?_,rfl,by omega,by omega⟩
 refine aZ aB (sz:=7) Tryz.func177 rfl (by rw [Tryz.ntmps177];rfl) ?_
 repeat' (first|(refine aC ?_;intro K hK hX)|refine aK [0,1,2,6,7,8,11,12] ?_|((with_reducible refine aF ?_);refine aJ (a1) aE rfl zby rfl rfl rfl rfl zcv rfl ztp ?_)|((first|with_reducible refine aF ?_|with_reducible refine bB ?_);refine bV aB (List.range 27) aE rfl rfl zby Tryz.func225 rfl rfl rfl (szf:=27) aN1 rfl ?_)|(((with_reducible refine bP ?_);refine xA ?_);(first|((with_reducible refine aB1 ?_);(first|refine aL (xV rfl) ?_))))|refine stA ?_|(refine aG hK hX ?_;clear hK hX K)|fail|(first|refine bK zio ztr rfl rfl (ResL.one (ResA.tmp rfl)) ?_|refine bJ zio ztr rfl rfl (ResL.one (ResA.tmp rfl)) ?_))
 refine lS 7 76 3 rfl ?_
 refine bH [7,12,9,10] [0,1] rfl rfl (fun p:Nat × List Ver × Dm × Int × Nat=>[(7,.own 1 0 p.1 3 true),(12,.c (iv p.1))]) (fun p=>[(1,.row 76 (vrc p.2.1)),(0,.blk 194 [.c (.sl 1 p.2.2.2.2 (u8c p.2.2.1)),.c (iv p.2.2.2.1)])]) (fun p=>RL rVr N ⟨b1,e1⟩ p.1 p.2.1 ⟨p.2.2.1,p.2.2.2.1⟩/\p.2.2.1.length=p.2.2.2.2/\p.2.2.2.2<=m1) (fun p=>N-p.1) (0,[],b1,e1,m1) ⟨RL.init _ _ _,l1,Ah _⟩ eH ?_
 rintro ⟨i,l,bc,ec,mc⟩ ⟨hrl,hbc,hmc⟩ K hK hX
 dsimp only at hrl hbc hmc hK ⊢
 have hil:=hrl.len
 have hiN:=hrl.le
 have hcl:(vrc l).length=i*3:=by rw [dC,hil]
 by_cases hlt:i<N
 ·obtain ⟨v,s2,q2,b2,e2,m2,rfl,a2,l2,d2,c2'⟩:=bJ7 bc ec mc hbc aA
  by_cases he:e2=0
  ·have hnx:=hrl.next hlt q2 he
   subst he
   have hsn:=bC4 l v
   obtain ⟨vt,vc,vs⟩:=v
   dsimp only at a2 hsn
   repeat' (first|(refine aC ?_;intro K hK hX)|refine aK [0,1,2,6,7,8,11,12] ?_|((with_reducible refine bB ?_);refine oS (a2) aE rfl zby rfl rfl rfl rfl ztp ?_)|((first|with_reducible refine aF ?_|with_reducible refine bB ?_);refine bV aB (List.range 27) aE rfl rfl zby Tryz.func225 rfl rfl rfl (szf:=27) aN1 rfl ?_)|refine stA ?_|(refine aG hK hX ?_;clear hK hX K)|fail|(first|refine bK zio ztr rfl rfl (ResL.one (ResA.tmp rfl)) ?_|refine bJ zio ztr rfl rfl (ResL.one (ResA.tmp rfl)) ?_))
   exact ⟨(i+1,l++[⟨vt,vc,vs⟩],b2,0,m2),⟨hnx,l2,by simp only;omega⟩,by simp only;omega,bM2⟩
  ·have hres:=hrl.stop hlt q2 he
   rw [hR] at hres
   repeat' (first|(refine aC ?_;intro K hK hX)|refine aK [0,1,2,6,7,8,11,12] ?_|((with_reducible refine bB ?_);refine oS (a2) aE rfl zby rfl rfl rfl rfl ztp ?_)|((first|with_reducible refine aF ?_|with_reducible refine bB ?_);refine bV aB (List.range 27) aE rfl rfl zby Tryz.func225 rfl rfl rfl (szf:=27) aN1 rfl ?_)|refine stA ?_|(refine aG hK hX ?_;clear hK hX K)|fail|(first|refine bK zio ztr rfl rfl (ResL.one (ResA.tmp rfl)) ?_|refine bJ zio ztr rfl rfl (ResL.one (ResA.tmp rfl)) ?_))
   rw [hres]
   dsimp only [Option.getD]
   rw [l2]
   exact dR
 ·have hin:i=N:=by omega
  rw [hin] at hrl hil
  have hres:=hrl.last
  rw [hR] at hres
  repeat' (first|(refine aC ?_;intro K hK hX)|refine aK [0,1,2,6,7,8,11,12] ?_|((first|with_reducible refine aF ?_|with_reducible refine bB ?_);refine bV aB (List.range 27) aE rfl rfl zby Tryz.func225 rfl rfl rfl (szf:=27) aN1 rfl ?_)|refine stA ?_|(refine aG hK hX ?_;clear hK hX K)|fail|(first|refine bK zio ztr rfl rfl (ResL.one (ResA.tmp rfl)) ?_|refine bJ zio ztr rfl rfl (ResL.one (ResA.tmp rfl)) ?_))
  rw [hres]
  dsimp only [Option.getD]
  rw [hbc,hil,hin]
  exact dR
theorem bJ2 (b:Dm) (e:Int) (m:Nat) (hm:b.length=m) (hb:m<=1000000000):∃r s' n,rLs rSr 512 ⟨b,e⟩=(r,s')/\r.length=n/\n<=512/\ARd 178 194 [] b e m (.sl 2 n (src r)) s':=by
 obtain ⟨n1,s1,q1,b1,e1,m1,rfl,a1,l1,d1,c1'⟩:=mR 0 512 b e m hm hb
 have hbd:=rK 0 512 aN aN ⟨b,e⟩
 rw [q1] at hbd
 dsimp only at hbd
 obtain ⟨N,hN⟩:∃N:Nat,n1=(N:Int):=⟨n1.toNat,by omega⟩
 subst hN
 unfold rLs
 rw [q1]
 dsimp only
 rw [AS]
 have hfa:=wM bP8 N ⟨b1,e1⟩
 obtain ⟨R,hR⟩:∃R,iN rSr N ⟨b1,e1⟩=R:=⟨_,rfl⟩
 rw [hR] at hfa ⊢
 obtain ⟨hf1,hf2⟩:=hfa
 dsimp only at hf1
 rw [l1] at hf1
 refine ⟨R.1.getD [],R.2,_,rfl,rfl,by omega,?_⟩
 refine ⟨R.2.b,R.2.e,_,rfl,?_,rfl,by omega,by omega⟩
 refine aZ aB (sz:=7) Tryz.func178 rfl (by rw [Tryz.ntmps178];rfl) ?_
 repeat' (first|(refine aC ?_;intro K hK hX)|refine aK [0,1,2,6,7,8,11,12] ?_|((with_reducible refine aF ?_);refine aJ (a1) aE rfl zby rfl rfl rfl rfl zcv rfl ztp ?_)|((first|with_reducible refine aF ?_|with_reducible refine bB ?_);refine bV aB (List.range 27) aE rfl rfl zby Tryz.func227 rfl rfl rfl (szf:=27) aN2 rfl ?_)|(((with_reducible refine bP ?_);refine xA ?_);(first|((with_reducible refine aB1 ?_);(first|refine aL (xV rfl) ?_))))|refine stA ?_|(refine aG hK hX ?_;clear hK hX K)|fail|(first|refine bK zio ztr rfl rfl (ResL.one (ResA.tmp rfl)) ?_|refine bJ zio ztr rfl rfl (ResL.one (ResA.tmp rfl)) ?_))
 refine lS 7 72 2 rfl ?_
 refine bH [7,12,9,10] [0,1] rfl rfl (fun p:Nat × List Src × Dm × Int × Nat=>[(7,.own 1 0 p.1 2 true),(12,.c (iv p.1))]) (fun p=>[(1,.row 72 (src p.2.1)),(0,.blk 194 [.c (.sl 1 p.2.2.2.2 (u8c p.2.2.1)),.c (iv p.2.2.2.1)])]) (fun p=>RL rSr N ⟨b1,e1⟩ p.1 p.2.1 ⟨p.2.2.1,p.2.2.2.1⟩/\p.2.2.1.length=p.2.2.2.2/\p.2.2.2.2<=m1) (fun p=>N-p.1) (0,[],b1,e1,m1) ⟨RL.init _ _ _,l1,Ah _⟩ eH ?_
 rintro ⟨i,l,bc,ec,mc⟩ ⟨hrl,hbc,hmc⟩ K hK hX
 dsimp only at hrl hbc hmc hK ⊢
 have hil:=hrl.len
 have hiN:=hrl.le
 have hcl:(src l).length=i*2:=by rw [dV,hil]
 by_cases hlt:i<N
 ·obtain ⟨v,s2,q2,b2,e2,m2,rfl,a2,l2,d2,c2'⟩:=bZ5 bc ec mc hbc aA
  by_cases he:e2=0
  ·have hnx:=hrl.next hlt q2 he
   subst he
   have hsn:=bB5 l v
   obtain ⟨vt,vs⟩:=v
   dsimp only at a2 hsn
   repeat' (first|(refine aC ?_;intro K hK hX)|refine aK [0,1,2,6,7,8,11,12] ?_|((with_reducible refine bB ?_);refine oS (a2) aE rfl zby rfl rfl rfl rfl ztp ?_)|((first|with_reducible refine aF ?_|with_reducible refine bB ?_);refine bV aB (List.range 27) aE rfl rfl zby Tryz.func227 rfl rfl rfl (szf:=27) aN2 rfl ?_)|refine stA ?_|(refine aG hK hX ?_;clear hK hX K)|fail|(first|refine bK zio ztr rfl rfl (ResL.one (ResA.tmp rfl)) ?_|refine bJ zio ztr rfl rfl (ResL.one (ResA.tmp rfl)) ?_))
   exact ⟨(i+1,l++[⟨vt,vs⟩],b2,0,m2),⟨hnx,l2,by simp only;omega⟩,by simp only;omega,bM2⟩
  ·have hres:=hrl.stop hlt q2 he
   rw [hR] at hres
   repeat' (first|(refine aC ?_;intro K hK hX)|refine aK [0,1,2,6,7,8,11,12] ?_|((with_reducible refine bB ?_);refine oS (a2) aE rfl zby rfl rfl rfl rfl ztp ?_)|((first|with_reducible refine aF ?_|with_reducible refine bB ?_);refine bV aB (List.range 27) aE rfl rfl zby Tryz.func227 rfl rfl rfl (szf:=27) aN2 rfl ?_)|refine stA ?_|(refine aG hK hX ?_;clear hK hX K)|fail|(first|refine bK zio ztr rfl rfl (ResL.one (ResA.tmp rfl)) ?_|refine bJ zio ztr rfl rfl (ResL.one (ResA.tmp rfl)) ?_))
   rw [hres]
   dsimp only [Option.getD]
   rw [l2]
   exact dR
 ·have hin:i=N:=by omega
  rw [hin] at hrl hil
  have hres:=hrl.last
  rw [hR] at hres
  repeat' (first|(refine aC ?_;intro K hK hX)|refine aK [0,1,2,6,7,8,11,12] ?_|((first|with_reducible refine aF ?_|with_reducible refine bB ?_);refine bV aB (List.range 27) aE rfl rfl zby Tryz.func227 rfl rfl rfl (szf:=27) aN2 rfl ?_)|refine stA ?_|(refine aG hK hX ?_;clear hK hX K)|fail|(first|refine bK zio ztr rfl rfl (ResL.one (ResA.tmp rfl)) ?_|refine bJ zio ztr rfl rfl (ResL.one (ResA.tmp rfl)) ?_))
  rw [hres]
  dsimp only [Option.getD]
  rw [hbc,hil,hin]
  exact dR
attribute [local simp] uL aH
theorem bU8 (b:Dm) (e:Int) (m:Nat) (hm:b.length=m) (hb:m<=1000000000):∃r s',rDg ⟨b,e⟩=(r,s')/\r.length=32/\ARd 179 194 [] b e m (.agg (u8c r)) s':=by
 obtain ⟨l,k,s2,q2,hk,hkm,b2,e2,m2,rfl,a2,l2,d2,c2'⟩:=aT1 32 ⟨by decide,by decide⟩ b e m hm hb
 have huk:=u8l hk
 have hk32:l=[]\/l.length=32:=by
  have h:=congrArg Prod.fst q2
  unfold rBy at h
  dsimp only at h
  split at h
  ·exact .inl h.symm
  ·split at h
   ·exact .inl h.symm
   ·right
    simp only at h
    rw [<- h,As]
    simp only [Int.toNat] at *
    omega
 unfold rDg
 rw [show (32:Nat)=(32:Int).toNat from rfl,q2]
 dsimp only
 rcases hk32 with h0|h0
 ·subst h0
  rw [Ak rfl]
  simp only [Bt] at hk
  subst hk
  refine ⟨root0,_,rfl,by simp [root0],b2,e2,m2,rfl,?_,l2,d2,c2'⟩
  refine aZ aB (sz:=9) Tryz.func179 rfl (by rw [Tryz.ntmps179];rfl) ?_
  repeat' (first|(refine aC ?_;intro K hK hX)|refine dM5 ?_|(refine aG hK hX ?_;clear hK hX K)|fail)
  exact fH
 ·rw [Aj (fun h=>by rw [h] at h0;cases h0)]
  rw [h0] at hk
  subst hk
  refine ⟨l,_,rfl,h0,b2,e2,m2,rfl,?_,l2,d2,c2'⟩
  refine aZ aB (sz:=9) Tryz.func179 rfl (by rw [Tryz.ntmps179];rfl) ?_
  repeat' (first|(refine aC ?_;intro K hK hX)|refine dM5 ?_|(refine aG hK hX ?_;clear hK hX K)|fail)
  rw [oD _ _ (show (u8c l).length=32 from huk)]
  have hcv:Cv (.agg (List.take 32 (List.drop 0 (u8c l)))) (.agg (u8c l)):=pT (by rw [AY,Ad (Cd huk)])
  exact dR5
end
section
section
variable {P:Dv} {tab:Tab} {ev:Evl} {h:aO} {d:Dt} {T ty:Du} {pos:String} {aft:Ds} {gd:Dn} {i:Nat}
theorem aR (tb:bQ P tab) {e:TyE} {cs:D1} (hT:aS tab T=some e) (h1:e.zero.all Value.oneCell'=true) (hz:e.zero.map CV.v=cs):Adds P ⟨d,.alloc T,ty,pos,aft,gd⟩ ev h (.ref i 0) [(i,.row T cs)] i (i+1):=by
 subst hz
 refine iO rfl fun B dom M H w a hh hc he=>⟨_,_,some w.heap.size,wQ (aM tb hT) a.eval,fP _ _,fun g hg=>by injection hg with hg;omega,fun C hext hw hd hM=>⟨.inr ⟨w.heap.size,e.zero,[],rfl,?_,RepCs.plain _,fun u hu=>Aw.1 h1 u hu⟩,hd,w.heap.size,hM,rfl⟩⟩
 rw [hw,A4];exact heap_alloc_new w _
end
theorem aC7 {α:Type} {a z y:List α} {k:Nat} (ha:a.length=k) (hz:z.length=y.length):lay (a++z) k y=a++y:=by
 unfold lay
 rw [List.take_left' ha,AG cG4,A4]
attribute [local irreducible] Still Adds AWL AW Drw bX bY AC AWR cU Frz Go.Av.Src cQ Out InK ItK AsK RdK eP eI ACT ACA eW
attribute [local simp] bS bR bI
theorem cK5 (b:Dm) (e:Int) (m:Nat) (hm:b.length=m) (hb:m<=1000000000):∃r s' nv ns,rEn rpP ⟨b,e⟩=(r,s')/\r.vs.length=nv/\r.ss.length=ns/\r.root.length=32/\ARd 146 194 [] b e m (.agg (ecs r nv ns)) s':=by
 obtain ⟨n1,s1,q1,b1,e1,m1,rfl,a1,l1,d1,c1'⟩:=mR 1 7 b e m hm hb
 obtain ⟨n2,s2,q2,i2,b2,e2,m2,rfl,a2,l2,d2,c2'⟩:=gQ b1 e1 m1 l1 c1'
 obtain ⟨n3,s3,q3,i3,b3,e3,m3,rfl,a3,l3,d3,c3'⟩:=gQ b2 e2 m2 l2 c2'
 obtain ⟨n4,s4,q4,i4,b4,e4,m4,rfl,a4,l4,d4,c4'⟩:=gQ b3 e3 m3 l3 c3'
 have hEn:rEn rpP ⟨b,e⟩=mU rpP n1 n2 n3 n4 ⟨b4,e4⟩:=by simp only [rEn,rpP,q1,q2,q3,q4]
 rw [hEn]
 clear hEn
 unfold mU
 by_cases k1:n1=1
 ·subst k1
  rw [Ak rfl]
  obtain ⟨x5,s5,q5,b5,e5,m5,rfl,a5,l5,d5,c5'⟩:=bH2 b4 e4 m4 l4 c4'
  refine ⟨⟨1,n2,n3,n4,x5,lk0,hd0,[],[],root0⟩,⟨b5,e5⟩,0,0,by simp only [rpP,q5],rfl,rfl,rfl,b5,e5,m5,rfl,?_,l5,by omega,c5'⟩
  obtain ⟨xk,⟨xn,⟨xvk,xvn,xvt⟩⟩,xs,xd,xdl⟩:=x5
  dsimp only [ecs,lk0,hd0,iE,rq0,Vl.nul,Vl.c,Idf.cs,LRq.cs,LLk.cs,LHd.cs] at *
  refine aZ aB (sz:=47) Tryz.func146 rfl vD ?_
  repeat' (first|(refine aC ?_;intro K hK hX)|refine cD4 ?_|(refine aG hK hX ?_;clear hK hX K)|fail)
  exact fH
 rw [Aj k1]
 by_cases k2:n1=2
 ·subst k2
  rw [Ak rfl]
  obtain ⟨x5,s5,nv,q5,hnv,hnv',b5,e5,m5,rfl,a5,l5,d5,c5'⟩:=bC2 b4 e4 m4 l4 c4'
  obtain ⟨x6,s6,ns,q6,hns,hns',b6,e6,m6,rfl,a6,l6,d6,c6'⟩:=bJ2 b5 e5 m5 l5 c5'
  refine ⟨⟨2,n2,n3,n4,rq0,lk0,hd0,x5,x6,root0⟩,⟨b6,e6⟩,nv,ns,by simp only [rpP,q5,q6],hnv,hns,rfl,b6,e6,m6,rfl,?_,l6,by omega,c6'⟩
  dsimp only [ecs,lk0,hd0,iE,rq0,Vl.nul,Vl.c,Idf.cs,LRq.cs,LLk.cs,LHd.cs] at *
  refine aZ aB (sz:=47) Tryz.func146 rfl vD ?_
  repeat' (first|(refine aC ?_;intro K hK hX)|refine aK [0,2,3,17] ?_|((with_reducible refine aW ?_);refine yA ?_;refine bC (aR aB rfl rfl rfl) rfl ?_)|((with_reducible refine aF ?_);refine aJ (a1) aE rfl zby rfl rfl rfl rfl zcv rfl ztp ?_)|((with_reducible refine aF ?_);refine aJ (a2) aE rfl zby rfl rfl rfl rfl zcv rfl ztp ?_)|((with_reducible refine aF ?_);refine aJ (a3) aE rfl zby rfl rfl rfl rfl zcv rfl ztp ?_)|((with_reducible refine aF ?_);refine aJ (a4) aE rfl zby rfl rfl rfl rfl zcv rfl ztp ?_)|((with_reducible refine aF ?_);refine aJ (a5) aE rfl zby rfl rfl rfl rfl zcv rfl ztp ?_)|((with_reducible refine aF ?_);refine aJ (a6) aE rfl zby rfl rfl rfl rfl zcv rfl ztp ?_)|refine stA ?_|(refine aG hK hX ?_;clear hK hX K)|fail)
  exact fH
 rw [Aj k2]
 by_cases k4:n1=4
 ·subst k4
  rw [Ak rfl]
  obtain ⟨x5,s5,q5,h32,b5,e5,m5,rfl,a5,l5,d5,c5'⟩:=bU8 b4 e4 m4 l4 c4'
  refine ⟨⟨4,n2,n3,n4,rq0,lk0,hd0,[],[],x5⟩,⟨b5,e5⟩,0,0,by simp only [rpP,q5],rfl,rfl,h32,b5,e5,m5,rfl,?_,l5,by omega,c5'⟩
  have hux:=u8l h32
  have hwh:((lay (iv 4::iv n2::iv n3::iv n4::iv 0::sv []::iv 0::iv 0::sv []::iv 0::iv 0::iv 0::sv []::iv 0::iv 0::sv []::sv []::iv 0::iv 0::sv []::iv 0::bv false::iv 0::iv 0::sv []::iv 0::iv 0::sv []::iv 0::iv 0::iv 0 :: .v (.slice none 0 0) :: .v (.slice none 0 0)::u8c root0) (0+33) (u8c x5)).drop 0).take 65=iv 4::iv n2::iv n3::iv n4::iv 0::sv []::iv 0::iv 0::sv []::iv 0::iv 0::iv 0::sv []::iv 0::iv 0::sv []::sv []::iv 0::iv 0::sv []::iv 0::bv false::iv 0::iv 0::sv []::iv 0::iv 0::sv []::iv 0::iv 0::iv 0 :: .v (.slice none 0 0) :: .v (.slice none 0 0)::u8c x5:=by
   have h1:lay (iv 4::iv n2::iv n3::iv n4::iv 0::sv []::iv 0::iv 0::sv []::iv 0::iv 0::iv 0::sv []::iv 0::iv 0::sv []::sv []::iv 0::iv 0::sv []::iv 0::bv false::iv 0::iv 0::sv []::iv 0::iv 0::sv []::iv 0::iv 0::iv 0 :: .v (.slice none 0 0) :: .v (.slice none 0 0)::u8c root0) (0+33) (u8c x5)=iv 4::iv n2::iv n3::iv n4::iv 0::sv []::iv 0::iv 0::sv []::iv 0::iv 0::iv 0::sv []::iv 0::iv 0::sv []::sv []::iv 0::iv 0::sv []::iv 0::bv false::iv 0::iv 0::sv []::iv 0::iv 0::sv []::iv 0::iv 0::iv 0 :: .v (.slice none 0 0) :: .v (.slice none 0 0)::u8c x5:=aC7 (a:=[iv 4,iv n2,iv n3,iv n4,iv 0,sv [],iv 0,iv 0,sv [],iv 0,iv 0,iv 0,sv [],iv 0,iv 0,sv [],sv [],iv 0,iv 0,sv [],iv 0,bv false,iv 0,iv 0,sv [],iv 0,iv 0,sv [],iv 0,iv 0,iv 0,.v (.slice none 0 0),.v (.slice none 0 0)]) (z:=u8c root0) (y:=u8c x5) rfl (by rw [hux];rfl)
   rw [h1,AY,Ad (by simp only [Au,hux];omega)]
  have hwl:(iv 4::iv n2::iv n3::iv n4::iv 0::sv []::iv 0::iv 0::sv []::iv 0::iv 0::iv 0::sv []::iv 0::iv 0::sv []::sv []::iv 0::iv 0::sv []::iv 0::bv false::iv 0::iv 0::sv []::iv 0::iv 0::sv []::iv 0::iv 0::iv 0 :: .v (.slice none 0 0) :: .v (.slice none 0 0)::u8c x5).length=65:=by simp only [Au,hux]
  have hcvl:CvL (iv 4::iv n2::iv n3::iv n4::iv 0::sv []::iv 0::iv 0::sv []::iv 0::iv 0::iv 0::sv []::iv 0::iv 0::sv []::sv []::iv 0::iv 0::sv []::iv 0::bv false::iv 0::iv 0::sv []::iv 0::iv 0::sv []::iv 0::iv 0::iv 0 :: .v (.slice none 0 0) :: .v (.slice none 0 0)::u8c x5) (ecs ⟨4,n2,n3,n4,rq0,lk0,hd0,[],[],x5⟩ 0 0):=by
   dsimp only [ecs,lk0,hd0,iE,rq0,Vl.nul]
   repeat' (first|exact cR|exact gM|exact fO|(refine eK ?_ ?_)|exact rV)
  dsimp only [ecs,lk0,hd0,iE,rq0,Vl.nul,Vl.c,Idf.cs,LRq.cs,LLk.cs,LHd.cs] at *
  refine aZ aB (sz:=47) Tryz.func146 rfl vD ?_
  repeat' (first|(refine aC ?_;intro K hK hX)|refine aK [0,2,3,17] ?_|((with_reducible refine aW ?_);refine yA ?_;refine bC (aR aB rfl rfl rfl) rfl ?_)|((with_reducible refine aF ?_);refine aJ (a1) aE rfl zby rfl rfl rfl rfl zcv rfl ztp ?_)|((with_reducible refine aF ?_);refine aJ (a2) aE rfl zby rfl rfl rfl rfl zcv rfl ztp ?_)|((with_reducible refine aF ?_);refine aJ (a3) aE rfl zby rfl rfl rfl rfl zcv rfl ztp ?_)|((with_reducible refine aF ?_);refine aJ (a4) aE rfl zby rfl rfl rfl rfl zcv rfl ztp ?_)|((with_reducible refine aF ?_);refine aJ (a5) aE rfl zby rfl rfl rfl rfl zcv rfl ztp ?_)|refine jO ?_|refine stA ?_|(refine aG hK hX ?_;clear hK hX K)|fail)
  exact dR6
 rw [Aj k4]
 by_cases k6:n1=6
 ·subst k6
  rw [Ak rfl]
  obtain ⟨x5,s5,q5,b5,e5,m5,rfl,a5,l5,d5,c5'⟩:=dF1 b4 e4 m4 l4 c4'
  refine ⟨⟨6,n2,n3,n4,rq0,x5,hd0,[],[],root0⟩,⟨b5,e5⟩,0,0,by simp only [rpP,q5],rfl,rfl,rfl,b5,e5,m5,rfl,?_,l5,by omega,c5'⟩
  obtain ⟨⟨xn,⟨xvk,xvn,xvt⟩⟩,⟨yn,⟨yvk,yvn,yvt⟩⟩,xs,xr⟩:=x5
  dsimp only [ecs,lk0,hd0,iE,rq0,Vl.nul,Vl.c,Idf.cs,LRq.cs,LLk.cs,LHd.cs] at *
  refine aZ aB (sz:=47) Tryz.func146 rfl vD ?_
  repeat' (first|(refine aC ?_;intro K hK hX)|refine cD4 ?_|(refine aG hK hX ?_;clear hK hX K)|fail)
  exact fH
 rw [Aj k6]
 by_cases k7:n1=7
 ·subst k7
  rw [Ak rfl]
  obtain ⟨x5,s5,q5,b5,e5,m5,rfl,a5,l5,d5,c5'⟩:=dE3 b4 e4 m4 l4 c4'
  refine ⟨⟨7,n2,n3,n4,rq0,lk0,x5,[],[],root0⟩,⟨b5,e5⟩,0,0,by simp only [rpP,q5],rfl,rfl,rfl,b5,e5,m5,rfl,?_,l5,by omega,c5'⟩
  obtain ⟨xt,xc,⟨xn,⟨xvk,xvn,xvt⟩⟩,xs,xf,xo⟩:=x5
  dsimp only [ecs,lk0,hd0,iE,rq0,Vl.nul,Vl.c,Idf.cs,LRq.cs,LLk.cs,LHd.cs] at *
  refine aZ aB (sz:=47) Tryz.func146 rfl vD ?_
  repeat' (first|(refine aC ?_;intro K hK hX)|refine cD4 ?_|(refine aG hK hX ?_;clear hK hX K)|fail)
  exact fH
 rw [Aj k7]
 refine ⟨⟨n1,n2,n3,n4,rq0,lk0,hd0,[],[],root0⟩,⟨b4,e4⟩,0,0,rfl,rfl,rfl,rfl,b4,e4,m4,rfl,?_,l4,by omega,c4'⟩
 dsimp only [ecs,lk0,hd0,iE,rq0,Vl.nul,Vl.c,Idf.cs,LRq.cs,LLk.cs,LHd.cs] at *
 refine aZ aB (sz:=47) Tryz.func146 rfl vD ?_
 repeat' (first|(refine aC ?_;intro K hK hX)|refine aK [0,2,3,17] ?_|((with_reducible refine aW ?_);refine yA ?_;refine bC (aR aB rfl rfl rfl) rfl ?_)|((with_reducible refine aF ?_);refine aJ (a1) aE rfl zby rfl rfl rfl rfl zcv rfl ztp ?_)|((with_reducible refine aF ?_);refine aJ (a2) aE rfl zby rfl rfl rfl rfl zcv rfl ztp ?_)|((with_reducible refine aF ?_);refine aJ (a3) aE rfl zby rfl rfl rfl rfl zcv rfl ztp ?_)|((with_reducible refine aF ?_);refine aJ (a4) aE rfl zby rfl rfl rfl rfl zcv rfl ztp ?_)|refine stA ?_|(refine aG hK hX ?_;clear hK hX K)|fail)
 exact fH
end
end Go.Proofs.YtbgehdndimlgkaaGreat
namespace Go.Av
open Go Go.RowKit
section
section
variable {n N m size id t:Nat} {full:Bool} {T:Du} {cs:D1} {env:Env} {h:aO} {dfs:cD}
theorem oO (hx:lkE env t=some (.own id 0 m size full)) (ho:lk h id=some (.row T cs)) (hl:cs.length=m*size):cU n env h dfs n ((t,.c (.sl size m cs))::env) ((id,.dead)::h) dfs:=by
 have hnone:lk ((id,AObj.dead)::h) id=none:=by rw [cA,Ak rfl];rfl
 have hs:∀k o,lk ((id,AObj.dead)::h) k=some o->lk h k=some o:=fun k o hk=>by
  rw [cA] at hk
  split at hk
  ·cases hk
  ·exact hk
 intro B sz a w hc
 obtain ⟨M,c1,c2,c3,c4⟩:=hc
 have hext:=aO6 (B:=B) (n:=n) (M:=M) (w:=w) hs
 refine ⟨M,⟨c1.fr,fun id o hid ho=>(c1.obj id o hid (hs id o ho)).ext hext (fun _ _=>rfl),fun id id' o o' g k1 k2 k3 k4=>c1.inj id id' o o' g k1 k2 (hs id o k3) (hs id' o' k4),fun id o g k1 k2=>c1.lo id o g k1 (hs id o k2)⟩,c2,fun k av hk=>?_,c4.ext hext⟩
 rw [eZ] at hk
 split at hk
 ·rename_i e
  subst e
  injection hk with hk
  subst hk
  exact bO3 (Hp:=(id,.dead)::h) ho hnone hl B n M w _ hs c1 (c3 _ _ hx)
 ·exact Rep.ext hext _ _ (c3 k av hk)
theorem dV7 {P:Dv} {ops:Dq} {sz:Nat} {l:Dp} {K:AK} (t:Nat) (hx:lkE env t=some (.own id 0 m size full)) (ho:lk h id=some (.row T cs)) (hl:cs.length=m*size) (next:AWL P ops sz l K n ((t,.c (.sl size m cs))::env) ((id,.dead)::h) dfs):AWL P ops sz l K n env h dfs:=aT0 (oO hx ho hl) next
end
end
section
theorem uR (g : Nat) (T : Du) : ∀ (vs : Do) (o : Nat) (w : World) (cur : Do), w.heap[g]? = some (.cells cur.toArray T (0, 0)) ->
    ∃ cur' : Do, cur'.length = cur.length /\ cur'.take o = cur.take o /\ w.setCells g o vs = w.setRow g cur'.toArray
  | [], o, w, cur, h => ⟨cur, rfl, rfl, (setRow_self w g _ T _ h).symm⟩
  | v :: vs, o, w, cur, h => by
    have h1 := setCell_eq_setRow w g o cur.toArray T (0, 0) v h
    rw [List.setIfInBounds_toArray] at h1
    have h2 := setRow_heap w g cur.toArray (cur.set o v).toArray T (0, 0) h
    obtain ⟨c, c1, c2, c3⟩ := uR g T vs (o + 1) (w.setRow g (cur.set o v).toArray) (cur.set o v) h2
    refine ⟨c, by rw [c1, Cl], ?_, ?_⟩
    · have := congrArg (List.take o) c2
      rw [C8, C8, B0 aA, List.take_set_of_le (Ah _)] at this
      exact this
    · show (w.setCell ⟨g, o, none⟩ v).setCells g (o + 1) vs = _
      rw [h1, c3, setRow_setRow]
theorem bF2 {P:Dv} {T ty:Du} {pos:String} {aft:Ds} {gd:Dn} {x:Operand} {w w':World} (ρ:Operand->Value) {v:Value} (hr:(Builtin.clear_ #[T] ty #[ρ x]).run P w = .ok v w'):(execOp ρ ⟨none,.call ⟨.builtin .clear,#[x],#[T]⟩,ty,pos,aft,gd⟩).run P w = .ok (.value v) w':=by
 simp only [execOp,resolve,invoke,builtin,Sem.run_bind,Sem.run_pure,Result.andThen_ok,AZ,AH,C7,hr]
section
variable {P:Dv} {tab:Tab} {sz n:Nat} {env:Env} {h:aO} {dfs:cD} {K:AK} {ops:Dq} {rest:Dp} {ty T:Du} {pos:String} {aft:Ds} {gd:Dn} {x:Operand}
end
section
variable {P:Dv} {tab:Tab} {ev:Evl} {h:aO} {d:Dt} {T T' ty:Du} {x y:Operand} {pos:String} {aft:Ds} {gd:Dn}
theorem bA1 (tb:bQ P tab) {e:TyE} {E n c:Nat} {A:Option Addr} (hT:aS tab T=some e) (hk:e.kind = .slice E) (hx:ev x=some (.c (.v (.slice A n c)))) (hy:ev y=some (.c (.v (.slice none 0 0)))):Still P ⟨d,.binOp .eql T x y T',ty,pos,aft,gd⟩ ev h (.c (.v (.bool A.isNone))):=by
 intro B dom M H w a hh hc he
 have h1:=he x _ hx
 have h2:=he y _ hy
 simp only [Rep,RepC] at h1 h2
 refine ⟨.bool A.isNone,?_,rfl⟩
 have hr:=run_equal_slice_nil (P:=P) w T E A n c ((aM tb hT).slice hk)
 simp [execOp,h1,h2,eqGuard,binOp,hr]
end
end
theorem eD7 {h:aO} {size c:Nat} {A:Option Addr}:Src h (.c (.v (.slice A 0 c))) size 0 []:=by
 intro B dom M H w u hh hc hu
 simp only [Rep,RepC] at hu
 exact ⟨A,c,[],hu,by simp,by simp [RepCs],by simp,fun h=>absurd h aA⟩
theorem uO {ok:Nat->Prop} {w:World} {size:Nat} {ys:D1}:∀(xs:D1) (vs:Do),RepCs ok w (xs ++ .sl size 0 []::ys) vs->∃A c,c<=maxLen/\RepCs ok w (xs ++ .v (.slice A 0 c)::ys) vs
 | [],vs,h=>by
  simp only [Ay,RepCs] at h
  obtain ⟨u,us,rfl,h1,h2⟩:=h
  simp only [RepC] at h1
  obtain ⟨A,c,us',rfl,_,h3,_⟩:=h1
  refine ⟨A,c,h3,?_⟩
  simp only [Ay,RepCs,RepC]
  exact ⟨_,us,rfl,rfl,h2⟩
 | x::xs,vs,h=>by
  simp only [AF,RepCs] at h
  obtain ⟨u,us,rfl,h1,h2⟩:=h
  obtain ⟨A,c,h3,h4⟩:=uO xs us h2
  refine ⟨A,c,h3,?_⟩
  simp only [AF,RepCs]
  exact ⟨u,us,rfl,h1,h4⟩
theorem AC.split0 {P:Dv} {f:FuncId} {size:Nat} {xs ys:D1} {r:AV} {hr:aO} {nr:Nat} (h:∀A c,c<=maxLen->AC P f (xs ++ .v (.slice A 0 c)::ys) r hr nr):AC P f (xs ++ .sl size 0 []::ys) r hr nr:=fun ok w vs hvs=>by
 obtain ⟨A,c,hc,h1⟩:=uO xs vs hvs
 exact h A c hc ok w vs h1
end Go.Av
