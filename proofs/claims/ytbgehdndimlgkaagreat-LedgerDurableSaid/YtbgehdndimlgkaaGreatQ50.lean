/-
  Lemmas for laws of the ledger; no statement of a law.
-/
import Derived.Test.YtbgehdndimlgkaaGreatQ49
set_option linter.unusedSimpArgs false
set_option linter.unusedVariables false
namespace Go.Proofs.YtbgehdndimlgkaaGreat
open Go Go.RowKit Go.Av
set_option maxRecDepth 100000
structure DuA (s:Lg):Prop where
 pe:s.d.pe=[]
 dn:s.d.dn=false
 fu:0≤s.d.fu
 sum:(s.d.sy.length:Int)+s.d.fu≤2999
 par:parF kdL 513 [] root0 s.d.sy=(s.l,s.d.sy.length,s.c)
structure DuB (s:Lg) (e:LEn):Prop where
 wf:e.wf∧aQ e.k∧smE e
 rd:e.rd
 fol:Fol s.l e
 fu:s.d.fu=0
 dn:s.d.dn=true
 sz:s.d.sy.length≤2999
 pe:∃j,s.d.pe=(cO kdL s.c e).take j
 par:parF kdL 513 [] root0 s.d.sy=(s.l,s.d.sy.length,s.c)
theorem cE8 (c:List UInt8) (e:LEn):0<(cO kdL c e).length:=by
 have h2:(kdL c (bO e)).length=32:=gI _ _
 unfold cO
 simp only [List.length_append]
 omega
theorem cC0 {s : Lg} (h : DuA s) {e : LEn} (hw : e.wf ∧ aQ e.k ∧ smE e) (hl : s.l.length < 512) : (¬ Fol s.l e ∧ opAd s e = (lgZ, 11)) ∨ (∃ r, opAd s e = (r, 104) ∧ DuB r e ∧ r.l = s.l) ∨ ∃ r, opAd s e = (r, 0) ∧ DuA r ∧ r.l = s.l ++ [clE e] ∧ e.rd := by
  obtain ⟨⟨sy, pe, fu, dn⟩, L, c⟩ := s
  obtain ⟨h1, h2, h3, h4, h5⟩ := h
  simp only at h1 h2 h3 h4 h5 hl
  subst h1 h2
  by_cases hF : Fol L e
  rotate_left
  · exact .inl ⟨hF, cH3 (s := ⟨⟨sy, [], fu, false⟩, L, c⟩) hF⟩
  right
  obtain ⟨hw, hk, hs⟩ := hw
  have hfl := tB hw hk hs c
  have hfp := cE8 c e
  have hrd := dM4 hw hk hs hF.rd
  have hre : rdE e = clE e := aJ9 hw hrd
  have h0 : ¬ ¬ Fol L e := fun h => h hF
  have hok : ∀ p : List UInt8, p.length ≤ 4042 → ∀ f : Int, -1 ≤ f → ∀ b, Dk.ok ⟨sy, p, f, b⟩ = true := fun p hp f hf b => fO (m := sy.length) (k := p.length) rfl rfl aA hf
  by_cases hlt : fu < (cO kdL c e).length
  · have h1 : opA ⟨sy, [], fu, false⟩ (cO kdL c e) = (⟨sy, (cO kdL c e).take fu.toNat, 0, true⟩, 104) := by
      unfold opA
      rw [if_neg (by rw [hok [] aP fu aA]; simp)]
      simp only
      rw [if_neg aN, if_neg eN, if_pos ⟨by omega, hlt⟩]
      simp
    left
    refine ⟨⟨⟨sy, (cO kdL c e).take fu.toNat, 0, true⟩, L, c⟩, ?_, ⟨⟨hw, hk, hs⟩, hrd, hF, rfl, rfl, by simp only; omega, ⟨_, rfl⟩, h5⟩, rfl⟩
    unfold opAd
    simp only
    rw [if_neg h0, if_neg aA, h1]
    simp
  · have h1 : opA ⟨sy, [], fu, false⟩ (cO kdL c e) = (⟨sy, cO kdL c e, fu - (cO kdL c e).length, false⟩, 0) := by
      unfold opA
      rw [if_neg (by rw [hok [] aP fu aA]; simp)]
      simp only
      rw [if_neg aN, if_neg eN, if_neg aA, if_neg aA]
      simp
    by_cases heq : fu - (cO kdL c e).length = 0
    · have h2 : opS ⟨sy, cO kdL c e, fu - (cO kdL c e).length, false⟩ = (⟨sy, cO kdL c e, 0, true⟩, 104) := by
        unfold opS
        rw [if_neg (by rw [hok _ hfl _ aA]; simp)]
        simp only
        rw [if_neg aN, if_pos ⟨heq, hfp⟩, heq]
      left
      refine ⟨⟨⟨sy, cO kdL c e, 0, true⟩, L, c⟩, ?_, ⟨⟨hw, hk, hs⟩, hrd, hF, rfl, rfl, by simp only; omega, ⟨(cO kdL c e).length, by simp only [List.take_length]⟩, h5⟩, rfl⟩
      unfold opAd
      simp only
      rw [if_neg h0, if_neg aA, h1]
      simp only [h2]
      simp
    · have h2 : opS ⟨sy, cO kdL c e, fu - (cO kdL c e).length, false⟩ = (⟨sy ++ cO kdL c e, [], fu - (cO kdL c e).length, false⟩, 0) := by
        unfold opS
        rw [if_neg (by rw [hok _ hfl _ aA]; simp)]
        simp only
        rw [if_neg aN, if_neg (fun h => heq h.1)]
      right
      have hmo := uW h5 hw hk (qM hs) hrd hF hl
      rw [List.take_length] at hmo
      refine ⟨⟨⟨sy ++ cO kdL c e, [], fu - (cO kdL c e).length, false⟩, L ++ [clE e], kdL c (bO e)⟩, ?_, ⟨rfl, rfl, by simp only; omega, by simp only [List.length_append]; omega, by simp only [List.length_append]; exact hmo⟩, rfl, hrd⟩
      unfold opAd
      simp only
      rw [if_neg h0, if_neg aA, h1]
      simp only [h2, if_true, hre]
theorem cB8 {s:Lg} (h:DuA s) (k:Int):∃r,opCr s k=(r,0)∧r.l=s.l∧OkL r.l∧LfE r.l∧r.c.length=32∧r.l.length≤512:=by
 obtain ⟨⟨sy,pe,fu,dn⟩,L,c⟩:=s
 obtain ⟨h1,h2,h3,h4,h5⟩:=h
 simp only at h1 h2 h3 h4 h5
 subst h1 h2
 have hC:opC ⟨sy,[],fu,false⟩ k=(⟨sy,[],-1,false⟩,0):=by
  unfold opC
  rw [if_neg (by rw [fO (m:=sy.length) (k:=0) rfl rfl aA rY];simp)]
  simp
 obtain ⟨o1,o2,o3,o4,o5,o6,o7⟩:=uV (s:=⟨sy,[],-1,false⟩) (fO (m:=sy.length) (k:=0) rfl rfl aA aP) rfl (by simp only [List.append_nil];exact h5)
 have hcr:opCr ⟨⟨sy,[],fu,false⟩,L,c⟩ k=opO ⟨sy,[],-1,false⟩:=by
  unfold opCr
  simp only [hC]
  rw [if_neg aN]
 exact ⟨_,hcr.trans o1,rfl,o3,o6,o5,o4⟩
theorem cB9 {s:Lg} {e:LEn} (h:DuB s e) (hl:s.l.length<512) (k:Int):∃r,opCr s k=(r,0)∧(r.l=s.l∨r.l=s.l++[clE e])∧OkL r.l∧LfE r.l∧r.c.length=32∧r.l.length≤512:=by
 obtain ⟨⟨sy,pe,fu,dn⟩,L,c⟩:=s
 obtain ⟨⟨w1,w2,w3⟩,h1,h2,h3,h4,h5,⟨j,h6⟩,h7⟩:=h
 simp only at h1 h2 h3 h4 h5 h6 h7 hl
 subst h3 h4 h6
 have hfl:=tB w1 w2 w3 c
 obtain ⟨p,hp⟩:∃p,((cO kdL c e).take j).take k.toNat=p:=⟨_,rfl⟩
 have hpl:p.length≤4042:=by rw [← hp,List.length_take,List.length_take];omega
 have hC:opC ⟨sy,(cO kdL c e).take j,0,true⟩ k=(⟨sy++p,[],-1,false⟩,0):=by
  unfold opC
  rw [if_neg (by rw [fO (m:=sy.length) (k:=((cO kdL c e).take j).length) rfl rfl pC aP];simp)]
  simp only [hp]
 have key:∀(M:List LEn) (n:Nat) (d:List UInt8),parF kdL 513 [] root0 (sy++p)=(M,n,d)→(M=L∨M=L++[clE e])→∃r:Lg,opCr ⟨⟨sy,(cO kdL c e).take j,0,true⟩,L,c⟩ k=(r,0)∧(r.l=L∨r.l=L++[clE e])∧OkL r.l∧LfE r.l∧r.c.length=32∧r.l.length≤512:=fun M n d hM hMe=>by
  obtain ⟨o1,o2,o3,o4,o5,o6,o7⟩:=uV (s:=⟨sy++p,[],-1,false⟩) (fO (m:=sy.length+p.length) (k:=0) aP rfl aA aP) rfl (by simp only [List.append_nil];exact hM)
  have hcr:opCr ⟨⟨sy,(cO kdL c e).take j,0,true⟩,L,c⟩ k=opO ⟨sy++p,[],-1,false⟩:=by
   unfold opCr
   simp only [hC]
   rw [if_neg aN]
  exact ⟨_,hcr.trans o1,hMe,o3,o6,o5,o4⟩
 have hpp:p=(cO kdL c e).take (min k.toNat j):=by rw [← hp,List.take_take]
 by_cases hlt:min k.toNat j<(cO kdL c e).length
 ·have ht:=bR0 h7 w1 w2 (qM w3) hlt
  rw [List.take_length,← hpp] at ht
  exact key _ _ _ ht (.inl rfl)
 ·have hm:=uW h7 w1 w2 (qM w3) h1 h2 hl
  rw [List.take_of_length_le aA] at hpp
  rw [List.take_length,← hpp] at hm
  exact key _ _ _ hm (.inr rfl)
structure DSt where
 i:Nat
 s:Lg
 e:LEn
 fl:Bool
 lc:List CV
 q:Nat
 m:Nat
 k:Nat
structure DInv (l:List LEn) (n:Nat) (t:DSt):Prop where
 hi:t.i≤n
 hq:t.s.l.length=t.q
 hqi:t.q≤t.i
 hm:t.s.d.sy.length=t.m
 hk:t.s.d.pe.length=t.k
 hc:t.s.c.length=32
 ho:OkL t.s.l
 hlc:t.lc.length=65
 hA:t.fl=false→DuA t.s
 hB:t.fl=true→DuB t.s t.e∧t.lc=ecR (clE t.e)∧(clE t.e).wf∧(clE t.e).sz
theorem cJ1 {s:Lg} (hs:s.d.sy.length≤100000) (h:parF kdL 513 [] root0 s.d.sy=(s.l,s.d.sy.length,s.c)):OkL s.l∧s.c.length=32:=by
 obtain ⟨p1,p2,p3,p4,p5⟩:=mC 513 (l:=[]) (ch:=root0) (b:=s.d.sy) aA rfl (fun e he=>by simp at he) aP
 rw [h] at p1 p4
 exact ⟨p1,p4⟩
def lg0 (f:Int):Lg:=⟨⟨[],[],f,false⟩,[],root0⟩
theorem eA8 (f:Nat):opF ⟨[],[],-1,false⟩ f=(⟨[],[],f,false⟩,0):=by
 unfold opF
 rw [if_neg]
 rintro (h|h)
 ·rw [fO (m:=0) (k:=0) rfl rfl aA aP] at h;cases h
 ·omega
theorem eA9 (f:Int) (hf:0≤f):opO ⟨[],[],f,false⟩=(lg0 f,0):=by
 obtain ⟨o1,_⟩:=uV (s:=⟨[],[],f,false⟩) (fO (m:=0) (k:=0) rfl rfl aA rY) rfl (show parF kdL 513 [] root0 []=([],0,root0) from fJ (pY _))
 exact o1
def lcZ:List CV:=(ecs en0 0 0).take 31 ++ .v (.slice none 0 0) :: .v (.slice none 0 0)::u8c root0
theorem dP5 {l:List LEn} {n:Nat} (f:Nat) (hf:f≤2999):DInv l n ⟨0,lg0 f,en0,false,lcZ,0,0,0⟩:=⟨Nat.zero_le _,rfl,Nat.zero_le _,rfl,rfl,rfl,fun e he=>by simp [lg0] at he,rfl,fun _=>⟨rfl,rfl,by simp only [lg0];omega,by simp only [lg0,List.length_nil];omega,fJ (pY _)⟩,fun h=>by cases h⟩
attribute [local irreducible] Still Adds AWL AW Drw bT bW AC AWR cL Frz Go.Av.Src dC Out InK ItK AsK RdK eI eE ACT ACA eL ACG fE lec
theorem dZ9 (l:List LEn) (n:Nat) (hn:l.length=n) (hb:n≤maxLen) (hw:∀e∈l,e.wf∧aQ e.k) (fuel keep:Int) (hf:¬uN l∨fuel<0):AC Tryz.prog 8 [.sl 65 n (lec l),iv fuel,iv keep] (.c (bv true)) [] 0:=by
 by_cases hF:uN l
 ·have h1:=uO l n hn hb (fun e he=>(hw e he).1) true ⟨fun _=>hF,fun _=>rfl⟩
  have h100:=hf.resolve_left (fun h=>h hF)
  generalize lec l=L at *
  refine aF aB (sz:=117) Tryz.func8 rfl (by rw [Tryz.ntmps8];rfl) ?_
  repeat' (first|(refine aC ?_;intro K hK hX)|refine dD9 ?_|(refine aH hK hX ?_;clear hK hX K)|fail)
  exact bB
 ·have h1:=uO l n hn hb (fun e he=>(hw e he).1) false ⟨fun h=>iM,fun h=>absurd h hF⟩
  generalize lec l=L at *
  refine aF aB (sz:=117) Tryz.func8 rfl (by rw [Tryz.ntmps8];rfl) ?_
  repeat' (first|(refine aC ?_;intro K hK hX)|refine dD9 ?_|(refine aH hK hX ?_;clear hK hX K)|fail)
  exact bB
set_option maxHeartbeats 64000000 in
theorem eA0 (l : List LEn) (n : Nat) (hn : l.length = n) (hb : n ≤ maxLen) (hw : ∀ e ∈ l, e.wf ∧ aQ e.k) (fuel keep : Int) (hk64 : aQ keep) (hfb : aQ fuel) (hf : uN l) (hf0 : 0 ≤ fuel) : AC Tryz.prog 8 [.sl 65 n (lec l), iv fuel, iv keep] (.c (bv true)) [] 0 := by
  have h1 := uO l n hn hb (fun e he => (hw e he).1) true ⟨fun _ => hf, fun _ => rfl⟩
  have ho := bG8 hf hw
  have hn16 : n ≤ 16 := by have := hf.1; omega
  have hll : (lec l).length = n * 65 := by rw [fS ho, hn]
  obtain ⟨f, hfe⟩ : ∃ f : Nat, fuel.tmod 3000 = (f : Int) := ⟨(fuel.tmod 3000).toNat, by have := Int.tmod_nonneg 3000 hf0; omega⟩
  have hfl : f ≤ 2999 := by have := Int.tmod_lt_of_pos fuel (show (0 : Int) < 3000 by decide); omega
  have h2 := cU7 [] [] (-1) false 0 0 f rfl rfl aN aN aA aA ⟨[], [], f, false⟩ 0 0 0 (eA8 f) rfl rfl
  have h3 := rE ⟨[], [], f, false⟩ 0 0 rfl rfl aN aN (lg0 f) 0 0 0 0 (eA9 f aA) rfl rfl rfl
  have g0 : (lgV 0 0 0 (lg0 f)).length = 37 := rfl
  refine aF aB (sz := 117) Tryz.func8 rfl (by rw [Tryz.ntmps8]; rfl) ?_
  repeat' (first | (refine aC ?_; intro K hK hX) | refine bU [0, 1, 2, 6, 7, 8, 9, 10, 11, 12, 13, 14, 15, 16, 17, 19, 20, 74] ?_ | ((with_reducible refine jJ ?_); refine yE ?_; (first | refine bH (aU (T := 61) aB rfl rfl rfl) rfl ?_ | refine bH (aU (T := 49) aB rfl rfl rfl) rfl ?_)) | ((with_reducible refine aX ?_); refine yA ?_; (first | refine bH (aU (T := 61) aB rfl rfl rfl) rfl ?_ | refine bH (aU (T := 49) aB rfl rfl rfl) rfl ?_)) | (refine dB ?_; first | refine c0 jD ?_ | refine c0 h1 ?_ | refine c0 aZ0 ?_ | refine c0 h2 ?_ | refine c0 h3 ?_) | ((first | ((with_reducible refine bP ?_); refine xA ?_) | ((with_reducible refine dX ?_); refine xD ?_)); (first | ((with_reducible refine bS ?_); (first | refine aJ (tP (k := .i64) rfl rfl aN hfe) ?_)))) | refine stA ?_ | refine stD ?_ | (refine aH hK hX ?_; clear hK hX K) | fail)
  refine lH 11 49 65 rfl ?_
  refine cD 4 (fun t : DSt => [(0, .c (.sl 65 n (lec l))), (2, .c (iv keep)), (6, .c (bv false)), (9, .ref 1 0), (11, .own 3 0 t.q 65 true), (12, .ref 2 0), (13, .c (bv t.fl)), (14, .c (iv t.i))]) (fun t => [(3, .row 49 (lec t.s.l)), (2, .row 49 t.lc), (1, .row 61 (lgV t.m t.k t.q t.s))]) [] (DInv l n) (fun t => n - t.i) ⟨0, lg0 f, en0, false, lcZ, 0, 0, 0⟩ (dP5 f hfl) cS8 ?_
  intro t ht K hK hX
  obtain ⟨i, s, e0, fl, lc, q, m, k⟩ := t
  obtain ⟨hi, hq, hqi, hm, hk, hc, hos, hlc, hA, hB⟩ := ht
  simp only at hi hq hqi hm hk hc hos hlc hA hB ⊢
  have hls : (lec s.l).length = q * 65 := by rw [fS hos, hq]
  have hgl : (lgV m k q s).length = 37 := by unfold lgV; rw [List.length_append, aG, hc]; rfl
  by_cases hlt : i < n ∧ fl = false
  · obtain ⟨hlt, rfl⟩ := hlt
    have hA := hA rfl
    clear hB
    obtain ⟨e, hat⟩ : ∃ e, l[i]? = some e := ⟨_, List.getElem?_eq_getElem aA⟩
    have hx := sC ho hat
    obtain ⟨ow, ok, oz⟩ := ho e (List.mem_of_getElem? hat)
    have osm := hf.2 e (List.mem_of_getElem? hat)
    have hel := gG ow
    have hmb : m ≤ 2999 := by have := hA.sum; have := hA.fu; omega
    have hkb : k = 0 := by rw [← hk, hA.pe]; rfl
    have hadd := fun r err m' k' q' hr hm' hk' hq' => sP s m k q hm hk hq aA aA (by have := hA.sum; omega) hc hos aA e ow ok oz _ _ rfl rfl r err m' k' q' hr hm' hk' hq'
    obtain ⟨x, nv', ns', r, v1, v2, v3, v4, v5, hrr⟩ := cK8 e ow ok oz _ _ rfl rfl
    have hel2 := cJ v3 nv' ns'
    change AC _ _ [.agg (ecR e)] _ _ _ at hrr
    rcases cC0 hA ⟨ow, ok, osm⟩ aA with ⟨_, hst⟩ | ⟨r2, hst, hB, hrl⟩ | ⟨r2, hst, hA2, hrl, hrd⟩
    · have h4 := hadd lgZ 11 0 0 0 hst rfl rfl rfl
      have gZ : (lgV 0 0 0 lgZ).length = 37 := rfl
      have hNx : DInv l n ⟨i + 1, s, e0, false, lc, q, m, k⟩ := ⟨by simp only; omega, hq, by simp only; omega, hm, hk, hc, hos, hlc, fun _ => hA, fun h => iM⟩
      change AC _ _ [_, .agg (ecR e)] _ _ _ at h4
      clear hadd hst
      generalize ecR e = cs at *
      generalize ecs x nv' ns' = cs2 at *
      generalize lgV 0 0 0 lgZ = gz at *
      repeat' (first | (refine aC ?_; intro K hK hX) | refine dO5 ?_ | (refine aH hK hX ?_; clear hK hX K) | fail)
      exact ⟨_, hNx, by simp only; omega, (by refine eH [0, 1, 2, 3] rfl rfl ?_ ?_ rfl rfl <;> (repeat' (first | exact cT | exact cI | refine cK rfl rQ rfl ?_ | refine bJ rfl setT_mp dZ ?_ | refine bJ rfl rQ rfl ?_)))⟩
    · have hpk := oC ow hB.rd []
      rw [List.append_nil] at hpk
      obtain rfl : r = true := v4.2 (by rw [hpk]; rfl)
      obtain ⟨t, ht⟩ := v5 rfl
      rw [hpk] at ht
      injection ht with ht
      injection ht with ht _
      subst ht v1 v2
      obtain ⟨ob, oc⟩ := cJ1 (s := r2) (by have := hB.sz; omega) hB.par
      have h4 := hadd r2 104 _ _ q hst rfl rfl (by rw [hrl, hq])
      have gZ : (lgV r2.d.sy.length r2.d.pe.length q r2).length = 37 := by unfold lgV; rw [List.length_append, aG, oc]; rfl
      obtain ⟨w1, w2, w3⟩ := dS1 ow hB.rd
      rw [aJ9 ow hB.rd] at w1 w3
      have hNx : DInv l n ⟨i + 1, r2, e, true, ecR (clE e), q, r2.d.sy.length, r2.d.pe.length⟩ := ⟨by simp only; omega, by simp only; rw [hrl, hq], by simp only; omega, rfl, rfl, oc, ob, hel2, fun h => iM, fun _ => ⟨hB, rfl, w1, w3⟩⟩
      change AC _ _ [_, .agg (ecR e)] _ _ _ at h4
      change AC _ _ _ (.tup [.c (.agg (ecR (clE e))), _]) _ _ at hrr
      change (ecR (clE e)).length = 65 at hel2
      rw [← hrl] at hls ⊢
      clear hadd hst
      generalize ecR e = cs at *
      generalize hcz : ecR (clE e) = cs2 at *
      generalize hgz : lgV r2.d.sy.length r2.d.pe.length q r2 = gz at *
      repeat' (first | (refine aC ?_; intro K hK hX) | refine dO5 ?_ | (refine aH hK hX ?_; clear hK hX K) | fail)
      exact ⟨_, hNx, by simp only; omega, (by refine eH [0, 1, 2, 3] rfl rfl ?_ ?_ rfl rfl <;> (repeat' (first | exact cT | exact cI | refine cK rfl dH8 rfl ?_ | refine bJ rfl setT_mp dZ ?_ | refine bJ rfl dH8 rfl ?_)))⟩
    · have hpk := oC ow hrd []
      rw [List.append_nil] at hpk
      obtain rfl : r = true := v4.2 (by rw [hpk]; rfl)
      obtain ⟨t, ht⟩ := v5 rfl
      rw [hpk] at ht
      injection ht with ht
      injection ht with ht _
      subst ht v1 v2
      obtain ⟨ob, oc⟩ := cJ1 (s := r2) (by have := hA2.sum; have := hA2.fu; omega) hA2.par
      have hq2 : r2.l.length = q + 1 := by rw [hrl, List.length_append, hq]; rfl
      have h4 := hadd r2 0 _ _ (q + 1) hst rfl rfl hq2
      have gZ : (lgV r2.d.sy.length r2.d.pe.length (q + 1) r2).length = 37 := by unfold lgV; rw [List.length_append, aG, oc]; rfl
      have hNx : DInv l n ⟨i + 1, r2, e0, false, lc, q + 1, r2.d.sy.length, r2.d.pe.length⟩ := ⟨by simp only; omega, hq2, by simp only; omega, rfl, rfl, oc, ob, hlc, fun _ => hA2, fun h => iM⟩
      have hsn : lec s.l ++ ecR (clE e) = lec r2.l := by rw [hrl]; unfold lec; rw [List.flatMap_append]; simp
      change AC _ _ [_, .agg (ecR e)] _ _ _ at h4
      change AC _ _ _ (.tup [.c (.agg (ecR (clE e))), _]) _ _ at hrr
      change (ecR (clE e)).length = 65 at hel2
      clear hadd hst
      generalize ecR e = cs at *
      generalize ecR (clE e) = cs2 at *
      generalize hgz : lgV r2.d.sy.length r2.d.pe.length (q + 1) r2 = gz at *
      repeat' (first | (refine aC ?_; intro K hK hX) | refine dO5 ?_ | (refine aH hK hX ?_; clear hK hX K) | fail)
      exact ⟨_, hNx, by simp only; omega, (by refine eH [0, 1, 2, 7] rfl rfl ?_ ?_ rfl rfl <;> (repeat' (first | exact cT | exact cI | refine cK rfl dH7 rfl ?_ | refine bJ rfl setT_mp dZ ?_ | refine bJ rfl dH7 rfl ?_)))⟩
  · have hmb : m ≤ 2999 := by
      cases fl with
      | false => have := (hA rfl).sum; have := (hA rfl).fu; omega
      | true => have := (hB rfl).1.sz; omega
    have hend : ∃ r, opCr s keep = (r, 0) ∧ OkL r.l ∧ LfE r.l ∧ r.c.length = 32 ∧ r.l.length ≤ 512 ∧ (r.l = s.l ∨ (fl = true ∧ lec r.l = lec s.l ++ lc ∧ r.l.length = q + 1)) := by
      cases fl with
      | false =>
        obtain ⟨r, a1, a2, a3, a4, a5, a6⟩ := cB8 (hA rfl) keep
        exact ⟨r, a1, a3, a4, a5, a6, .inl a2⟩
      | true =>
        obtain ⟨b1, b2, _⟩ := hB rfl
        obtain ⟨r, a1, a2, a3, a4, a5, a6⟩ := cB9 b1 aA keep
        refine ⟨r, a1, a3, a4, a5, a6, a2.imp id fun h => ⟨rfl, ?_, ?_⟩⟩
        · rw [h, b2]; unfold lec; rw [List.flatMap_append]; simp
        · rw [h, List.length_append, hq]; rfl
    have hkb : k ≤ 5000 := by
      cases fl with
      | false => rw [← hk, (hA rfl).pe]; simp
      | true =>
        obtain ⟨⟨w, _, _, _, _, _, ⟨j, hj⟩, _⟩, _⟩ := hB rfl
        have := tB w.1 w.2.1 w.2.2 s.c
        rw [← hk, hj, List.length_take]
        omega
    obtain ⟨r, c1', c2, c3, c4, c5, c6⟩ := hend
    obtain ⟨q', hq'⟩ : ∃ q', r.l.length = q' := ⟨_, rfl⟩
    have h4 := yB s m k q hm hk aA aA hc keep hk64 r 0 _ _ q' c1' rfl rfl hq'
    have h5 := sI r.l q' hq' aA c2 c3
    have gr : (lgV r.d.sy.length r.d.pe.length q' r).length = 37 := by unfold lgV; rw [List.length_append, aG, c4]; rfl
    have gr4 : (lgV r.d.sy.length r.d.pe.length q' r)[0 + 4]? = some (.sl 65 q' (lec r.l)) := rfl
    have hrl : (lec r.l).length = q' * 65 := by rw [fS c2, hq']
    generalize lgV r.d.sy.length r.d.pe.length q' r = gz at *
    generalize lgV m k q s = g at *
    rcases c6 with c6 | ⟨rfl, c6, c7⟩
    · obtain rfl : q = q' := by rw [← hq, ← hq', c6]
      rw [c6] at h5 gr4 hrl
      clear hA hB c1' c2 c3
      cases fl with
      | false =>
        have hin : ¬ i < n := fun h => hlt ⟨h, rfl⟩
        repeat' (first | (refine aC ?_; intro K hK hX) | refine bX6 ?_ | (refine aH hK hX ?_; clear hK hX K) | fail)
        exact bB
      | true =>
        by_cases hin : i < n
        · skip
          repeat' (first | (refine aC ?_; intro K hK hX) | refine bX6 ?_ | (refine aH hK hX ?_; clear hK hX K) | fail)
          exact bB
        · skip
          repeat' (first | (refine aC ?_; intro K hK hX) | refine bX6 ?_ | (refine aH hK hX ?_; clear hK hX K) | fail)
          exact bB
    · obtain rfl : q' = q + 1 := by rw [← hq', c7]
      rw [c6] at h5 gr4 hrl
      have hcl : (lec s.l ++ [lc].flatten).length = (q + 1) * 65 := by simp only [List.flatten_cons, List.flatten_nil, List.append_nil]; exact hrl
      have hce : lec s.l ++ lc = lec s.l ++ [lc].flatten := by simp
      rw [hce] at h5 gr4
      clear hA hB c1' c2 c3
      by_cases hin : i < n
      · skip
        repeat' (first | (refine aC ?_; intro K hK hX) | refine bX6 ?_ | (refine aH hK hX ?_; clear hK hX K) | fail)
        exact bB
      · skip
        repeat' (first | (refine aC ?_; intro K hK hX) | refine bX6 ?_ | (refine aH hK hX ?_; clear hK hX K) | fail)
        exact bB
theorem law_ldurable (l:List LEn) (n:Nat) (hn:l.length=n) (hb:n≤maxLen) (hw:∀e∈l,e.wf∧aQ e.k) (fuel keep:Int) (hfb:aQ fuel) (hk64:aQ keep):AC Tryz.prog 8 [.sl 65 n (lec l),iv fuel,iv keep] (.c (bv true)) [] 0:=by
 by_cases h:¬uN l∨fuel<0
 ·exact dZ9 l n hn hb hw fuel keep h
 ·by_cases hF:uN l
  ·exact eA0 l n hn hb hw fuel keep hk64 hfb hF aA
  ·exact absurd (.inl hF) h
end Go.Proofs.YtbgehdndimlgkaaGreat
