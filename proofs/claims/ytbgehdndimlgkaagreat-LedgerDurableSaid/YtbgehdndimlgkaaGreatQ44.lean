/-
  Lemmas for laws of the ledger; no statement of a law.
-/
import Derived.Test.YtbgehdndimlgkaaGreatQ40
set_option maxHeartbeats 16000000
set_option linter.unusedSimpArgs false
set_option linter.unusedVariables false
namespace Go.Proofs.YtbgehdndimlgkaaGreat
open Go Go.RowKit Go.Av
set_option maxRecDepth 100000
theorem dS8 {n lo hi:Int} (h:¬(lo≤n∧n≤hi)) (h3:aQ n) (r:List UInt8):pIn lo hi (aS n++r)=none:=by
 unfold pIn
 rw [cS h3,Option.bind_some,if_neg h]
theorem dS9 {s:List UInt8} {m:Int} (h:m<s.length) (hs:s.length≤1000000) (r:List UInt8):pTx m (lW s++r)=none:=by
 unfold pTx lW
 rw [List.append_assoc,dS8 aA ⟨by omega,by omega⟩]
 rfl
theorem aJ8 {i:Idf} (h:16<i.ns.length) (hs:i.ns.length≤1000000) (r:List UInt8):pId (dL i++r)=none:=by
 unfold pId dL
 rw [List.append_assoc,dS9 aA hs]
 rfl
theorem cI2 {e:LEn} (hw:e.wf) (hk:aQ e.k) (h:(pEn (bO e)).isSome=true):(kZ e.k e.day e.plan e.step (cG e)).isSome=true:=by
 obtain ⟨k1,k2⟩:=bI5 hk h
 obtain ⟨a1,a2,a3⟩:=hw.h1
 unfold pEn bO at h
 rw [iX k1 k2 hk.1 hk.2,Option.bind_some] at h
 simp only at h
 rw [cS a1,Option.bind_some] at h
 simp only at h
 rw [cS a2,Option.bind_some] at h
 simp only at h
 rw [cS a3,Option.bind_some] at h
 exact h
theorem dM4 {e:LEn} (hw:e.wf) (hk:aQ e.k) (hz:smE e) (h:(pEn (bO e)).isSome=true):e.rd:=by
 have hb:=cI2 hw hk h
 obtain ⟨s1,s2,s3,s4,s5,s6,s7,s8,s9,s10⟩:=hz
 refine ⟨bI5 hk h,fun hk1=>?_,fun hk2=>⟨by omega,by omega⟩,fun hk6=>?_,fun hk7=>?_⟩
 ·refine Nat.le_of_not_lt fun hlt=>?_
  unfold kZ cG at hb
  rw [if_pos hk1,if_pos hk1] at hb
  unfold pRq jR at hb
  rw [cS hw.rq.1,Option.bind_some] at hb
  simp only at hb
  rw [aJ8 aA aA] at hb
  cases hb
 ·have hn1:¬e.k=1:=by omega
  have hn2:¬e.k=2:=by omega
  have hn4:¬e.k=4:=by omega
  unfold kZ cG at hb
  rw [if_neg hn1,if_neg hn2,if_neg hn4,if_pos hk6,if_neg hn1,if_neg hn2,if_neg hn4,if_pos hk6] at hb
  unfold pLk jQ at hb
  by_cases ha:e.lk.a.ns.length≤16
  ·refine ⟨ha,Nat.le_of_not_lt fun hlt=>?_⟩
   rw [tK ha,Option.bind_some] at hb
   simp only at hb
   rw [aJ8 aA aA] at hb
   cases hb
  ·rw [aJ8 aA aA] at hb
   cases hb
 ·have hn1:¬e.k=1:=by omega
  have hn2:¬e.k=2:=by omega
  have hn4:¬e.k=4:=by omega
  have hn6:¬e.k=6:=by omega
  refine Nat.le_of_not_lt fun hlt=>?_
  unfold kZ cG at hb
  rw [if_neg hn1,if_neg hn2,if_neg hn4,if_neg hn6,if_pos hk7,if_neg hn1,if_neg hn2,if_neg hn4,if_neg hn6,if_pos hk7] at hb
  unfold pHd jP at hb
  rw [cS hw.hd.1,Option.bind_some] at hb
  simp only at hb
  rw [cS hw.hd.2.1,Option.bind_some] at hb
  simp only at hb
  rw [aJ8 aA aA] at hb
  cases hb
theorem aJ9 {e:LEn} (hw:e.wf) (hr:e.rd):rdE e=clE e:=by
 have:=oC hw hr []
 rw [List.append_nil] at this
 unfold rdE
 rw [this]
 rfl
theorem dS1 {e:LEn} (hw:e.wf) (hr:e.rd):(rdE e).wf∧aQ (rdE e).k∧(rdE e).sz:=by
 have h:=oC hw hr []
 rw [List.append_nil] at h
 obtain ⟨h1,h2,h3⟩:=cH7 h
 rw [aJ9 hw hr]
 exact ⟨h1,⟨by have:=h2.1;simp only at this;omega,by have:=h2.2;simp only at this;omega⟩,h3⟩
theorem cH3 {s:Lg} {e:LEn} (hf:¬Fol s.l e):opAd s e=(lgZ,11):=by
 unfold opAd
 rw [if_pos hf]
end Go.Proofs.YtbgehdndimlgkaaGreat
namespace Go.Proofs.YtbgehdndimlgkaaGreat
open Go Go.RowKit Go.Av
set_option maxRecDepth 100000
theorem aQ0 (kd:List UInt8→List UInt8→List UInt8):∀(l k:List LEn) (ch:List UInt8),gS kd ch (l++k)=gS kd ch l++gS kd (l.foldl (fun c e=>kd c (bO e)) ch) k
 | [],k,ch=>rfl
 | e::l,k,ch=>by rw [List.cons_append,gS,gS,aQ0 kd l k,List.append_assoc];rfl
theorem aI4 (kd:List UInt8→List UInt8→List UInt8) (l:List LEn) (ch:List UInt8) (i:Nat):(gS kd ch (l.take i)).length≤(gS kd ch l).length:=by
 have h:=aQ0 kd (l.take i) (l.drop i) ch
 rw [List.take_append_drop] at h
 rw [h,List.length_append]
 omega
theorem aP9 {e:LEn} (hw:e.wf) (hk:aQ e.k) (hz:e.sz) (ch:List UInt8):(cO kdL ch e).length≤100042:=by
 have h1:=lC hw hk hz
 have h2:(kdL ch (bO e)).length=32:=gI _ _
 have h3:=gP (n:=(bO e).length) aA
 unfold cO
 simp only [List.length_append]
 omega
theorem aQ1:∀{l:List LEn},OkL l→∀ch,(gS kdL ch l).length≤l.length*100042
 | [],_,_=>by simp [gS]
 | e::l,h,ch=>by
  obtain ⟨h1,h2,h3⟩:=h e aP
  have ha:=aP9 h1 h2 h3 ch
  have hb:=aQ1 (l:=l) (fun x hx=>h x (by simp [hx])) (kdL ch (bO e))
  rw [gS,List.length_append,List.length_cons,Nat.add_mul]
  omega
theorem bO8 {α β:Type} (f:β→α→β) (b:β) {l:List α} {i:Nat} {x:α} (h:l[i]? = some x):(l.take (i+1)).foldl f b=f ((l.take i).foldl f b) x:=by
 rw [lO h,List.foldl_append];rfl
theorem bH2:∀{l:List LEn} {ch:List UInt8},ch.length=32→(l.foldl (fun c e=>kdL c (bO e)) ch).length=32
 | [],_,h=>h
 | e::l,ch,_=>bH2 (l:=l) (gI _ _)
attribute [local irreducible] Still Adds AWL AW Drw bT bW AC AWR cL Frz Go.Av.Src dC Out InK ItK AsK RdK eI eE ACT ACA eL lec
theorem bS1 (ch:List UInt8) (hch:ch.length=32) (e:LEn) (hw:e.wf) (hk:aQ e.k) (hz:e.sz) (nv ns:Nat) (hnv:e.vs.length=nv) (hns:e.ss.length=ns) (m:Nat) (hm:(cO kdL ch e).length=m):AC Tryz.prog 65 [.agg (u8c ch),.agg (ecs e nv ns)] (.tup [.c (.sl 1 m (u8c (cO kdL ch e))),.c (.agg (u8c (kdL ch (bO e))))]) [] 0:=by
 have hel:=cJ hw.root nv ns
 have hul:(u8c ch).length=32:=by rw [aG,hch]
 obtain ⟨n1,hn1⟩:∃n,(bO e).length=n:=⟨_,rfl⟩
 have hlen:=lC hw hk hz
 rw [hn1] at hlen
 obtain ⟨n2,hn2⟩:∃n,(aS (n1:Int)).length=n:=⟨_,rfl⟩
 have hn2b:=gP (n:=n1) aA
 rw [hn2] at hn2b
 have h1:=aF2 e hw hk nv ns hnv hns n1 hn1 aA
 have h2:=bS2 330#64 ch (bO e) n1 hch hn1 aA
 have hkd:sum 330#64 (ch++bO e)=kdL ch (bO e):=rfl
 rw [hkd] at h2
 have hdl:=gI ch (bO e)
 have hfr:cO kdL ch e=aS (n1:Int)++(bO e++kdL ch (bO e)):=by unfold cO;rw [hn1]
 have hfl:n2+n1+32=m:=by rw [← hm,hfr,List.length_append,List.length_append,hn1,hn2,hdl];omega
 have hfu:u8c (cO kdL ch e)=u8c (aS (n1:Int))++u8c (bO e)++u8c (kdL ch (bO e)):=by rw [hfr,bD,bD,List.append_assoc]
 have h3:=iJ (n1:Int) ⟨by omega,by omega⟩ n2 hn2
 have h4:=xL (kdL ch (bO e)) hdl
 have e1:(u8c (bO e)).length=n1:=by rw [aG,hn1]
 have e2:(u8c (aS (n1:Int))).length=n2:=by rw [aG,hn2]
 have e3:(u8c (kdL ch (bO e))).length=32:=by rw [aG,hdl]
 rw [hfu,← hfl]
 clear hm hfl hfr hfu hkd
 have hrl:(u8c (aS (n1:Int))++u8c (bO e)++u8c (kdL ch (bO e))).length=(n2+n1+32)*1:=by rw [List.length_append,List.length_append];omega
 generalize ecs e nv ns=cs at *
 refine aF aB (sz:=22) Tryz.func65 rfl (by rw [Tryz.ntmps65];rfl) ?_
 repeat' (first|(refine aC ?_;intro K hK hX)|refine aL [0,1,2,3,4,5,6,7] ?_|((with_reducible refine bC (i:=3) ?_);refine bA [0,1,2,3,4,5,6,7] rfl rfl ?_;refine dK [] ?_)|((with_reducible refine bC ?_);refine bA [0,1,2,3,4,5,6,7] rfl rfl ?_;refine dF [] ?_)|((with_reducible refine cC ?_);refine yA ?_;(first|refine bH (cE (T:=49) rfl) rfl ?_|refine bH (cE (T:=28) rfl) rfl ?_))|((first|with_reducible refine aD ?_|with_reducible refine fN ?_|with_reducible refine bY ?_);(first|refine wA ?_|refine wD ?_|refine wE ?_);refine nW (dD (eP zby rfl (h1) zcv rfl) zln) ?_)|((first|with_reducible refine aD ?_|with_reducible refine fN ?_|with_reducible refine bY ?_);(first|refine wA ?_|refine wD ?_|refine wE ?_);refine nW (dD (eP zby rfl (h4) zcv rfl) zln) ?_)|(refine eV ?_;first|refine c0 h2 ?_|refine c1 h3 ?_)|refine stA ?_|refine stD ?_|refine stE ?_|(refine aH hK hX ?_;clear hK hX K)|fail)
 refine dA zio ztr rfl (ResL.two (ResA.tmp rfl) zrs) (jV (aZ zfz (aZ zfz cY)))
structure BySt where
 i:Nat
 o:List UInt8
 c:List UInt8
 w:Nat
structure ByInv (l:List LEn) (n:Nat) (s:BySt):Prop where
 hi:s.i≤n
 hw:s.o.length=s.w
 ho:s.o=gS kdL root0 (l.take s.i)
 hc:s.c=(l.take s.i).foldl (fun c e=>kdL c (bO e)) root0
theorem bR4 (l:List LEn) (n:Nat) (hn:l.length=n) (hb:n≤1000) (ho:OkL l) (m:Nat) (hm:(gS kdL root0 l).length=m):AC Tryz.prog 17 [.sl 65 n (lec l)] (.own 0 0 m 1 true) [(0,.row 5 (u8c (gS kdL root0 l)))] 1:=by
 have hll:(lec l).length=n*65:=by rw [fS ho,hn]
 have hmb:=aQ1 ho root0
 rw [hm,hn] at hmb
 refine aF aB (sz:=29) Tryz.func17 rfl (by rw [Tryz.ntmps17];rfl) ?_
 repeat' (first|(refine aC ?_;intro K hK hX)|refine bU [0,2,3,4,5,6,7] ?_|refine stA ?_|refine stD ?_|(refine aH hK hX ?_;clear hK hX K)|fail)
 refine cD 2 (fun s:BySt=>[(0,.c (.sl 65 n (lec l))),(3,.own 0 0 s.w 1 true),(4,.ref 1 0),(5,.c (iv s.i))]) (fun s=>[(1,.row 28 (u8c s.c)),(0,.row 5 (u8c s.o))]) [] (ByInv l n) (fun s=>n-s.i) ⟨0,[],root0,0⟩ ⟨Nat.zero_le _,rfl,rfl,rfl⟩ iR ?_
 rintro ⟨i,o,c,w⟩ ⟨hi,hw,hoo,hc⟩ K hK hX
 dsimp only at hi hw hoo hc ⊢
 have hc32:c.length=32:=by rw [hc];exact bH2 rfl
 have hulc:(u8c c).length=32:=by rw [aG,hc32]
 have hulo:=u8l hw
 have hle:=aI4 kdL l root0 i
 rw [← hoo,hw,hm] at hle
 by_cases hlt:i<n
 ·obtain ⟨e,hat⟩:∃e,l[i]? = some e:=⟨_,List.getElem?_eq_getElem aA⟩
  have hx:=sC ho hat
  obtain ⟨ow,ok,oz⟩:=ho e (List.mem_of_getElem? hat)
  obtain ⟨j,hj⟩:∃j,(cO kdL c e).length=j:=⟨_,rfl⟩
  have hjl:=aP9 ow ok oz c
  rw [hj] at hjl
  have hf:=bS1 c hc32 e ow ok oz _ _ rfl rfl j hj
  have hulj:=u8l hj
  have hel:=gG ow
  have hst:o++cO kdL c e=gS kdL root0 (l.take (i+1)):=by rw [hoo,lO hat,bO9,hc]
  have hcn:kdL c (bO e)=(l.take (i+1)).foldl (fun c e=>kdL c (bO e)) root0:=by rw [bO8 _ _ hat,hc]
  have hdl:(u8c (kdL c (bO e))).length=32:=by rw [aG];exact gI _ _
  have hNx:ByInv l n ⟨i+1,o++cO kdL c e,kdL c (bO e),w+j⟩:=⟨by simp only;omega,by simp only [List.length_append];omega,hst,hcn⟩
  have hap:=bD o (cO kdL c e)
  change AC _ _ [_,.agg (ecR e)] _ _ _ at hf
  clear hst hcn hoo hc
  generalize ecR e=cs at *
  repeat' (first|(refine aC ?_;intro K hK hX)|refine aL [0,2,3,4,5,6,7] ?_|((with_reducible refine bC (i:=6) ?_);refine bA [0,2,3,4,5,6,7] rfl rfl ?_;refine dK [] ?_)|((with_reducible refine bC ?_);refine bA [0,2,3,4,5,6,7] rfl rfl ?_;refine dF [] ?_)|(refine eV ?_;refine c0 hf ?_)|refine gL ?_|refine stA ?_|refine stD ?_|refine stE ?_|(refine aH hK hX ?_;clear hK hX K)|fail)
  exact ⟨_,hNx,by simp only;omega,(by refine eH [3,1] rfl rfl ?_ ?_ rfl rfl<;>(repeat' (first|exact cT|exact cI|refine cK rfl dI4 rfl ?_|refine bJ rfl dI4 rfl ?_)))⟩
 ·have hin:i=n:=by omega
  have ht:l.take i=l:=List.take_of_length_le aA
  rw [ht] at hoo
  have hwm:w=m:=by rw [← hw,hoo,hm]
  rw [hwm,hoo]
  repeat' (first|(refine aC ?_;intro K hK hX)|refine bU [0,2,3,4,5,6,7] ?_|refine stA ?_|refine stD ?_|(refine aH hK hX ?_;clear hK hX K)|fail)
  exact bB
end Go.Proofs.YtbgehdndimlgkaaGreat
namespace Go.Proofs.YtbgehdndimlgkaaGreat
open Go Go.RowKit Go.Av
set_option maxRecDepth 100000
structure okId (i:Idf):Prop where
 ns:i.ns.length≤1000000
 k:aQ i.v.k
 n:aQ i.v.n
 t:i.v.t.length≤1000000
structure LEn.lf (e:LEn):Prop where
 rq:okId e.rq.who
 la:okId e.lk.a
 lb:okId e.lk.b
 hd:okId e.hd.who
theorem lM {n:Int} (h1 : -1000000000000≤n) (h2:n≤1000000000000):aQ n:=by unfold aQ;omega
theorem bH9 {i:Idf} (h1:i.ns.length≤1000000) (h:okP i.v):okId i:=by
 obtain ⟨ns,k,n,t⟩:=i
 rcases h with ⟨a,b,c⟩|⟨a,b,c,d⟩|⟨a,b,c⟩<;>simp only at a b c h1
 ·subst a b c;exact ⟨h1,lM kU kU,lM kU kU,by simp⟩
 ·simp only at d;subst a d;exact ⟨h1,lM kU kU,lM kU kU,by simp⟩
 ·subst a b;exact ⟨h1,lM kU kU,lM kU kU,by simp only;omega⟩
theorem dS0:okId iI:=bH9 (by simp [iI]) aZ1
theorem eB3 {b:List UInt8} {p:Vl × List UInt8} (h:pVl b=some p):okP p.1:=by
 unfold pVl at h
 obtain ⟨k,hk,h⟩:=Option.bind_eq_some_iff.1 h
 split at h
 ·obtain ⟨q,hq,rfl⟩:=Option.map_eq_some_iff.1 h
  obtain ⟨_,h1,h2⟩:=aR0 hq
  exact .inr (.inl ⟨rfl,h1,h2,rfl⟩)
 ·split at h
  ·obtain ⟨q,hq,rfl⟩:=Option.map_eq_some_iff.1 h
   unfold pTx at hq
   obtain ⟨n,hn,hq⟩:=Option.bind_eq_some_iff.1 hq
   obtain ⟨_,h1,h2⟩:=aR0 hn
   have:=cH6 hq
   exact .inr (.inr ⟨rfl,rfl,by simp only;omega⟩)
  ·injection h with h
   rw [← h]
   exact aZ1
theorem aJ5 {b:List UInt8} {p:Idf × List UInt8} (h:pId b=some p):okId p.1:=by
 have h1:=aQ9 h
 unfold pId at h
 obtain ⟨q,hq,h⟩:=Option.bind_eq_some_iff.1 h
 obtain ⟨v,hv,rfl⟩:=Option.map_eq_some_iff.1 h
 exact bH9 aA (eB3 hv)
theorem eB1 {b:List UInt8} {p:LEn × List UInt8} (h:pEn b=some p):p.1.lf:=by
 have z:=dS0
 unfold pEn at h
 obtain ⟨k,hk,h⟩:=Option.bind_eq_some_iff.1 h
 obtain ⟨d,hd,h⟩:=Option.bind_eq_some_iff.1 h
 obtain ⟨pl,hp,h⟩:=Option.bind_eq_some_iff.1 h
 obtain ⟨st,hs,h⟩:=Option.bind_eq_some_iff.1 h
 unfold kZ at h
 split at h
 ·obtain ⟨x,hx,rfl⟩:=Option.map_eq_some_iff.1 h
  unfold pRq at hx
  obtain ⟨a1,h1,hx⟩:=Option.bind_eq_some_iff.1 hx
  obtain ⟨a2,h2,hx⟩:=Option.bind_eq_some_iff.1 hx
  obtain ⟨a3,h3,hx⟩:=Option.bind_eq_some_iff.1 hx
  obtain ⟨a4,h4,hx⟩:=Option.bind_eq_some_iff.1 hx
  obtain ⟨a5,h5,rfl⟩:=Option.map_eq_some_iff.1 hx
  exact ⟨aJ5 h2,z,z,z⟩
 ·split at h
  ·obtain ⟨v,hv,h⟩:=Option.bind_eq_some_iff.1 h
   obtain ⟨x,hx,rfl⟩:=Option.map_eq_some_iff.1 h
   exact ⟨z,z,z,z⟩
  ·split at h
   ·obtain ⟨x,hx,rfl⟩:=Option.map_eq_some_iff.1 h
    exact ⟨z,z,z,z⟩
   ·split at h
    ·obtain ⟨x,hx,rfl⟩:=Option.map_eq_some_iff.1 h
     unfold pLk at hx
     obtain ⟨a1,h1,hx⟩:=Option.bind_eq_some_iff.1 hx
     obtain ⟨a2,h2,hx⟩:=Option.bind_eq_some_iff.1 hx
     obtain ⟨a3,h3,hx⟩:=Option.bind_eq_some_iff.1 hx
     obtain ⟨a4,h4,rfl⟩:=Option.map_eq_some_iff.1 hx
     exact ⟨z,aJ5 h1,aJ5 h2,z⟩
    ·split at h
     ·obtain ⟨x,hx,rfl⟩:=Option.map_eq_some_iff.1 h
      unfold pHd at hx
      obtain ⟨a1,h1,hx⟩:=Option.bind_eq_some_iff.1 hx
      obtain ⟨a2,h2,hx⟩:=Option.bind_eq_some_iff.1 hx
      obtain ⟨a3,h3,hx⟩:=Option.bind_eq_some_iff.1 hx
      obtain ⟨a4,h4,hx⟩:=Option.bind_eq_some_iff.1 hx
      obtain ⟨a5,h5,hx⟩:=Option.bind_eq_some_iff.1 hx
      obtain ⟨a6,h6,rfl⟩:=Option.map_eq_some_iff.1 hx
      exact ⟨z,z,z,aJ5 h3⟩
     ·injection h with h
      rw [← h]
      exact ⟨z,z,z,z⟩
def LRq.vl (q:LRq):List Value:=[.int .i64 q.k,.string ⟨q.who.ns.toArray⟩,.int .i64 q.who.v.k,.int .i64 q.who.v.n,.string ⟨q.who.v.t.toArray⟩,.int .i64 q.s,.int .i64 q.d,.int .i64 q.dl]
def LLk.vl (l:LLk):List Value:=[.string ⟨l.a.ns.toArray⟩,.int .i64 l.a.v.k,.int .i64 l.a.v.n,.string ⟨l.a.v.t.toArray⟩,.string ⟨l.b.ns.toArray⟩,.int .i64 l.b.v.k,.int .i64 l.b.v.n,.string ⟨l.b.v.t.toArray⟩,.int .i64 l.s,.bool l.rv]
def LHd.vl (h:LHd):List Value:=[.int .i64 h.t,.int .i64 h.c,.string ⟨h.who.ns.toArray⟩,.int .i64 h.who.v.k,.int .i64 h.who.v.n,.string ⟨h.who.v.t.toArray⟩,.int .i64 h.s,.int .i64 h.fr,.int .i64 h.to]
def u8v (l:List UInt8):List Value:=l.map fun b => .int .u8 b.toNat
theorem wC {l:List UInt8} (h:l.length≤1000000):eA1 .s (.string ⟨l.toArray⟩):=by
 show (ByteArray.mk l.toArray).size≤maxLen
 have:(ByteArray.mk l.toArray).size=l.length:=by simp [ByteArray.size]
 rw [this]
 exact Nat.le_trans h aN
theorem eA4 {q:LRq} (h:okId q.who) (h1:aQ q.k) (h2:aQ q.s) (h3:aQ q.d) (h4:aQ q.dl):LfL [.i .i64,.s,.i .i64,.i .i64,.s,.i .i64,.i .i64,.i .i64] q.vl:=⟨⟨rfl,dY h1⟩,wC h.ns,⟨rfl,dY h.k⟩,⟨rfl,dY h.n⟩,wC h.t,⟨rfl,dY h2⟩,⟨rfl,dY h3⟩,⟨rfl,dY h4⟩,trivial⟩
theorem eA3 {q:LLk} (h:okId q.a) (g:okId q.b) (h1:aQ q.s):LfL [.s,.i .i64,.i .i64,.s,.s,.i .i64,.i .i64,.s,.i .i64,.b] q.vl:=⟨wC h.ns,⟨rfl,dY h.k⟩,⟨rfl,dY h.n⟩,wC h.t,wC g.ns,⟨rfl,dY g.k⟩,⟨rfl,dY g.n⟩,wC g.t,⟨rfl,dY h1⟩,trivial,trivial⟩
theorem eA2 {q:LHd} (h:okId q.who) (h1:aQ q.t) (h2:aQ q.c) (h3:aQ q.s) (h4:aQ q.fr) (h5:aQ q.to):LfL [.i .i64,.i .i64,.s,.i .i64,.i .i64,.s,.i .i64,.i .i64,.i .i64] q.vl:=⟨⟨rfl,dY h1⟩,⟨rfl,dY h2⟩,wC h.ns,⟨rfl,dY h.k⟩,⟨rfl,dY h.n⟩,wC h.t,⟨rfl,dY h3⟩,⟨rfl,dY h4⟩,⟨rfl,dY h5⟩,trivial⟩
theorem dR8 (b:UInt8):(Lit.int .u8 b.toNat).wf=true:=by
 have e1:IntKind.u8.min=0:=by decide
 have e2:IntKind.u8.max=255:=by decide
 have:=b.toNat_lt
 simp only [Lit.wf,e1,e2,decide_eq_true_eq,Bool.and_eq_true]
 omega
theorem dL5:∀{n:Nat} {l:List UInt8},l.length=n→LfL (List.replicate n (.i .u8)) (u8v l)
 | 0,[],_=>trivial
 | n+1,b::l,h=>⟨⟨rfl,dR8 b⟩,dL5 oZ⟩
 | 0,_::_,h=>by simp at h
 | _+1,[],h=>by simp at h
theorem eE0 (l:List UInt8):u8c l=(u8v l).map CV.v:=by unfold u8c u8v;rw [List.map_map];rfl
theorem tQ {α:Type} {x:α}:(true:Bool)=true↔x=x:=⟨fun _=>rfl,fun _=>rfl⟩
attribute [local irreducible] Still Adds AWL AW Drw bT bW AC AWR cL Frz Go.Av.Src dC Out InK ItK AsK RdK eI eE ACT ACA eL lec
theorem bS6 (l:List Ver) (n:Nat) (hn:l.length=n) (hb:n≤1000000) (hw:∀x∈l,bP7 x):AC Tryz.prog 113 [.sl 3 n (vrc l),.sl 3 n (vrc l)] (.c (bv true)) [] 0:=by
 have hcx:∀x:Ver,[iv x.t,iv x.c,iv x.s]=x.vl.map CV.v:=fun _=>rfl
 have hvl:(vrc l).length=n*3:=by rw [eA,hn]
 refine aF aB (sz:=26) Tryz.func113 rfl (by rw [Tryz.ntmps113];rfl) ?_
 repeat' (first|(refine aC ?_;intro K hK hX)|refine aC2 ?_|(refine aH hK hX ?_;clear hK hX K)|fail)
 refine cN [5] [] rfl rfl (fun i:Nat=>[(5,.c (iv i))]) (fun i=>[]) (fun i=>i≤n) (fun i=>n-i) 0 (Nat.zero_le _) iR ?_
 intro i hi K hK hX
 by_cases hlt:i<n
 ·obtain ⟨x,hat⟩:∃x,l[i]? = some x:=⟨_,List.getElem?_eq_getElem aA⟩
  have hx:=iP hat
  have lx:=cG7 (hw x (List.mem_of_getElem? hat))
  repeat' (first|(refine aC ?_;intro K hK hX)|refine dE4 ?_|(refine aH hK hX ?_;clear hK hX K)|fail)
  exact iT
 ·repeat' (first|(refine aC ?_;intro K hK hX)|refine aC2 ?_|(refine aH hK hX ?_;clear hK hX K)|fail)
  exact bB
theorem bS5 (l:List Src) (n:Nat) (hn:l.length=n) (hb:n≤1000000) (hw:∀x∈l,cZ2 x):AC Tryz.prog 115 [.sl 2 n (src l),.sl 2 n (src l)] (.c (bv true)) [] 0:=by
 have hcx:∀x:Src,[iv x.t,iv x.s]=x.vl.map CV.v:=fun _=>rfl
 have hvl:(src l).length=n*2:=by rw [fH,hn]
 refine aF aB (sz:=26) Tryz.func115 rfl (by rw [Tryz.ntmps115];rfl) ?_
 repeat' (first|(refine aC ?_;intro K hK hX)|refine aC2 ?_|(refine aH hK hX ?_;clear hK hX K)|fail)
 refine cN [5] [] rfl rfl (fun i:Nat=>[(5,.c (iv i))]) (fun i=>[]) (fun i=>i≤n) (fun i=>n-i) 0 (Nat.zero_le _) iR ?_
 intro i hi K hK hX
 by_cases hlt:i<n
 ·obtain ⟨x,hat⟩:∃x,l[i]? = some x:=⟨_,List.getElem?_eq_getElem aA⟩
  have hx:=iO hat
  have lx:=eH2 (hw x (List.mem_of_getElem? hat))
  repeat' (first|(refine aC ?_;intro K hK hX)|refine dE4 ?_|(refine aH hK hX ?_;clear hK hX K)|fail)
  exact iT
 ·repeat' (first|(refine aC ?_;intro K hK hX)|refine aC2 ?_|(refine aH hK hX ?_;clear hK hX K)|fail)
  exact bB
theorem cL0 (l:List Ver) (n:Nat) (hn:l.length=n) (hb:n≤1000000) (hw:∀x∈l,bP7 x):AC Tryz.prog 47 [.sl 3 n (vrc l),.sl 3 n (vrc l)] (.c (bv true)) [] 0:=by
 have h:=bS6 l n hn hb hw
 generalize vrc l=cs at *
 refine aF aB (sz:=8) Tryz.func47 rfl (by rw [Tryz.ntmps47];rfl) ?_
 repeat' (first|(refine aC ?_;intro K hK hX)|refine aL [0,1,4] ?_|(refine dG ?_;refine c0 h ?_)|refine stA ?_|(refine aH hK hX ?_;clear hK hX K)|fail)
 exact bB
theorem cK9 (l:List Src) (n:Nat) (hn:l.length=n) (hb:n≤1000000) (hw:∀x∈l,cZ2 x):AC Tryz.prog 49 [.sl 2 n (src l),.sl 2 n (src l)] (.c (bv true)) [] 0:=by
 have h:=bS5 l n hn hb hw
 generalize src l=cs at *
 refine aF aB (sz:=8) Tryz.func49 rfl (by rw [Tryz.ntmps49];rfl) ?_
 repeat' (first|(refine aC ?_;intro K hK hX)|refine aL [0,1,4] ?_|(refine dG ?_;refine c0 h ?_)|refine stA ?_|(refine aH hK hX ?_;clear hK hX K)|fail)
 exact bB
theorem bS3 (e:LEn) (hw:e.wf) (hk:aQ e.k) (hl:e.lf) (hz:e.sz) (nv ns:Nat) (hnv:e.vs.length=nv) (hns:e.ss.length=ns):AC Tryz.prog 20 [.agg (ecs e nv ns),.agg (ecs e nv ns)] (.c (bv true)) [] 0:=by
 have z1:=hz.vs
 have z2:=hz.ss
 have hv:=cL0 e.vs nv hnv aA hw.vs
 have hs:=cK9 e.ss ns hns aA hw.ss
 have l1:=eA4 (q:=e.rq) hl.rq hw.rq.1 hw.rq.2.1 hw.rq.2.2.1 hw.rq.2.2.2
 have l2:=eA3 (q:=e.lk) hl.la hl.lb hw.lk
 have l3:=eA2 (q:=e.hd) hl.hd hw.hd.1 hw.hd.2.1 hw.hd.2.2.1 hw.hd.2.2.2.1 hw.hd.2.2.2.2
 have l4:=dL5 hw.root
 have hel:=cJ hw.root nv ns
 have hul:(u8c e.root).length=32:=by rw [aG,hw.root]
 have gc0:(ecs e nv ns)[0+0]? = some (iv e.k):=rfl
 have gc1:(ecs e nv ns)[0+1]? = some (iv e.day):=rfl
 have gc2:(ecs e nv ns)[0+2]? = some (iv e.plan):=rfl
 have gc3:(ecs e nv ns)[0+3]? = some (iv e.step):=rfl
 have w4:List.take 8 (List.drop (0+4) (ecs e nv ns))=e.rq.vl.map CV.v:=rfl
 have w5:List.take 10 (List.drop (0+12) (ecs e nv ns))=e.lk.vl.map CV.v:=rfl
 have w6:List.take 9 (List.drop (0+22) (ecs e nv ns))=e.hd.vl.map CV.v:=rfl
 have gc7:(ecs e nv ns)[0+31]? = some (.sl 3 nv (vrc e.vs)):=rfl
 have gc8:(ecs e nv ns)[0+32]? = some (.sl 2 ns (src e.ss)):=rfl
 have w9:List.take 32 (List.drop (0+33) (ecs e nv ns))=u8c e.root:=by
  show List.take 32 (u8c e.root)=u8c e.root
  rw [List.take_of_length_le (Nat.le_of_eq hul)]
 have hcx:=eE0 e.root
 generalize ecs e nv ns=cs at *
 generalize e.rq.vl=q1 at *
 generalize e.lk.vl=q2 at *
 generalize e.hd.vl=q3 at *
 generalize vrc e.vs=q4 at *
 generalize src e.ss=q5 at *
 refine aF aB (sz:=73) Tryz.func20 rfl (by rw [Tryz.ntmps20];rfl) ?_
 repeat' (first|(refine aC ?_;intro K hK hX)|refine aL [0,1,2,3,4] ?_|((with_reducible refine cC ?_);refine yA ?_;refine bH (cE (T:=49) rfl) rfl ?_)|refine stA ?_|(refine aH hK hX ?_;clear hK hX K)|fail)
 simp only [List.append_eq,List.cons_append,List.nil_append]
 repeat' (first|(refine aC ?_;intro K hK hX)|refine aL [2,3,4] ?_|((with_reducible refine cC ?_);refine yA ?_;refine bH (cE (T:=49) rfl) rfl ?_)|(refine dG ?_;first|refine c0 hv ?_|refine c0 hs ?_)|(((with_reducible refine bP ?_);refine xA ?_);(first|((with_reducible refine bS ?_);(first|refine aJ (zS aW (m:=6) rfl aW aW aW aW aW rfl rfl w4 w4 l1 l1 tQ) ?_|refine aJ (zS aW (m:=6) rfl aW aW aW aW aW rfl rfl w5 w5 l2 l2 tQ) ?_|refine aJ (zS aW (m:=6) rfl aW aW aW aW aW rfl rfl w6 w6 l3 l3 tQ) ?_|refine aJ (zS aW (m:=6) rfl aW aW aW aW aW rfl rfl (w9.trans hcx) (w9.trans hcx) l4 l4 tQ) ?_))))|refine eS ?_|refine stA ?_|(refine aH hK hX ?_;clear hK hX K)|fail)
 exact bB
def LfE (l:List LEn):Prop:=∀e∈l,e.lf
theorem sI (l:List LEn) (n:Nat) (hn:l.length=n) (hb:n≤1000000) (ho:OkL l) (hl:LfE l):AC Tryz.prog 16 [.sl 65 n (lec l),.sl 65 n (lec l)] (.c (bv true)) [] 0:=by
 have hll:(lec l).length=n*65:=by rw [fS ho,hn]
 refine aF aB (sz:=27) Tryz.func16 rfl (by rw [Tryz.ntmps16];rfl) ?_
 repeat' (first|(refine aC ?_;intro K hK hX)|refine aC2 ?_|(refine aH hK hX ?_;clear hK hX K)|fail)
 refine cN [5] [] rfl rfl (fun i:Nat=>[(5,.c (iv i))]) (fun i=>[]) (fun i=>i≤n) (fun i=>n-i) 0 (Nat.zero_le _) iR ?_
 intro i hi K hK hX
 by_cases hlt:i<n
 ·obtain ⟨e,hat⟩:∃e,l[i]? = some e:=⟨_,List.getElem?_eq_getElem aA⟩
  have hx:=sC ho hat
  have hm:=List.mem_of_getElem? hat
  obtain ⟨ow,ok,oz⟩:=ho e hm
  have h1:=bS3 e ow ok (hl e hm) oz _ _ rfl rfl
  have hel:=gG ow
  change AC _ _ [.agg (ecR e),.agg (ecR e)] _ _ _ at h1
  generalize ecR e=cs at *
  repeat' (first|(refine aC ?_;intro K hK hX)|refine bU [0,1,4,5] ?_|(refine dB ?_;refine c0 h1 ?_)|refine jN ?_|refine stA ?_|refine stD ?_|(refine aH hK hX ?_;clear hK hX K)|fail)
  exact iT
 ·repeat' (first|(refine aC ?_;intro K hK hX)|refine aC2 ?_|(refine aH hK hX ?_;clear hK hX K)|fail)
  exact bB
end Go.Proofs.YtbgehdndimlgkaaGreat
