/-
  Lemmas for laws of the ledger; no statement of a law.
-/
import Derived.Test.YtbgehdndimlgkaaGreatQ45
set_option linter.unusedSimpArgs false
set_option linter.unusedVariables false
namespace Go.Proofs.YtbgehdndimlgkaaGreat
open Go Go.RowKit Go.Av
set_option maxRecDepth 100000
theorem cI6:∀(p s:List UInt8) (i x u:Nat) (r:List UInt8),pU i x (p++s)=some (u,r)→s.length≤r.length→∃q,r=q++s∧∀t,pU i x (p++t)=some (u,q++t)
 | [],s,i,x,u,r,h,hl=>by
  have:=zF h
  simp only [List.nil_append] at this
  omega
 | c::p,s,i,x,u,r,h,hl=>by
  rw [List.cons_append,pU] at h
  by_cases hn:(i=9∧1<c.toNat)∨(0<i∧c.toNat=0)
  ·rw [if_pos hn] at h;cases h
  ·rw [if_neg hn] at h
   by_cases hc:c.toNat<128
   ·rw [if_pos hc] at h
    injection h with h
    injection h with h1 h2
    refine ⟨p,h2.symm,fun t=>?_⟩
    rw [List.cons_append,pU,if_neg hn,if_pos hc,h1]
   ·rw [if_neg hc] at h
    obtain ⟨q,h1,h2⟩:=cI6 p s _ _ u r h hl
    refine ⟨q,h1,fun t=>?_⟩
    rw [List.cons_append,pU,if_neg hn,if_neg hc,h2]
theorem cI4 {p s r:List UInt8} {n:Int} (h:cP (p++s)=some (n,r)) (hl:s.length≤r.length):∃q,r=q++s∧∀t,cP (p++t)=some (n,q++t):=by
 unfold cP at h
 obtain ⟨y,hy,h⟩:=Option.map_eq_some_iff.1 h
 injection h with h1 h2
 obtain ⟨q,e1,e2⟩:=cI6 p s 0 0 y.1 y.2 hy (by rw [h2];exact hl)
 refine ⟨q,by rw [← h2,e1],fun t=>?_⟩
 unfold cP
 rw [e2,← h1]
 rfl
section
variable {kd:List UInt8→List UInt8→List UInt8}
theorem aJ4 {ch b:List UInt8} {e:LEn} {c:List UInt8} {k:Nat} (h:iB kd ch b=some (e,c,k)):0<k∧k≤b.length:=by
 unfold iB at h
 obtain ⟨p,hp,h⟩:=Option.bind_eq_some_iff.1 h
 have hlt:p.2.length<b.length:=by
  unfold cP at hp
  obtain ⟨y,hy,rfl⟩:=Option.map_eq_some_iff.1 hp
  exact zF hy
 split at h
 ·rename_i hc
  obtain ⟨q,hq,h⟩:=Option.bind_eq_some_iff.1 h
  split at h
  ·injection h with h
   injection h with _ h
   injection h with _ h
   omega
  ·cases h
 ·cases h
theorem cH2 {ch p s:List UInt8} {e:LEn} {c:List UInt8} (h:iB kd ch (p++s)=some (e,c,p.length)) (t:List UInt8):iB kd ch (p++t)=some (e,c,p.length):=by
 have h0:=h
 unfold iB at h
 obtain ⟨⟨n,r⟩,hp,h⟩:=Option.bind_eq_some_iff.1 h
 have hlt:r.length<(p++s).length:=by
  unfold cP at hp
  obtain ⟨y,hy,he⟩:=Option.map_eq_some_iff.1 hp
  injection he with _ he
  rw [← he]
  exact zF hy
 simp only at h
 split at h
 ·rename_i hc
  obtain ⟨g,hg,h⟩:=Option.bind_eq_some_iff.1 h
  split at h
  ·rename_i hd
   injection h with h
   injection h with h1 h
   injection h with h2 h3
   rw [List.length_append] at h3 hlt
   obtain ⟨q,e1,e2⟩:=cI4 hp aA
   subst e1
   rw [List.length_append] at hc h3 hlt
   have hq:q.length=n.toNat+32:=by omega
   have t1:∀u:List UInt8,(q++u).take n.toNat=q.take n.toNat:=fun u=>List.take_append_of_le_length aA
   have t2:∀u:List UInt8,((q++u).drop n.toNat).take 32=q.drop n.toNat:=fun u=>by
    rw [List.drop_append_of_le_length aA,List.take_append_of_le_length aC8,List.take_of_length_le aC8]
   rw [t1] at hg h2
   rw [t1,t2] at hd
   unfold iB
   rw [e2,Option.bind_some]
   simp only
   rw [if_pos aN7,t1,t2,hg,Option.bind_some,if_pos hd,h1,h2]
   simp only [List.length_append]
   congr 3
   omega
  ·cases h
 ·cases h
theorem bP9 {ch b:List UInt8} {e:LEn} {c:List UInt8} {k:Nat} (h:iB kd ch b=some (e,c,k)) (t:List UInt8):iB kd ch (b.take k++t)=some (e,c,k):=by
 have hl:=(aJ4 h).2
 have hk:(b.take k).length=k:=by rw [List.length_take];omega
 have h2:iB kd ch (b.take k++b.drop k)=some (e,c,(b.take k).length):=by rw [List.take_append_drop,hk,h]
 have:=cH2 h2 t
 rwa [hk] at this
theorem tL:∀(f:Nat) (l:List LEn) (ch b:List UInt8) (L:List LEn) (n:Nat) (c:List UInt8),f+l.length=513→l.length≤512→parF kd f l ch b=(L,n,c)→L.length≤512∧∀r,parF kd f l ch (b.take n++r)=((parF kd (513-L.length) L c r).1,n+(parF kd (513-L.length) L c r).2.1,(parF kd (513-L.length) L c r).2.2)
 | 0,l,ch,b,L,n,c,hf,hl,h=>by omega
 | f+1,l,ch,b,L,n,c,hf,hl,h=>by
  have stop:parF kd (f+1) l ch b=(l,0,ch)→L.length≤512∧∀r,parF kd (f+1) l ch (b.take n++r)=((parF kd (513-L.length) L c r).1,n+(parF kd (513-L.length) L c r).2.1,(parF kd (513-L.length) L c r).2.2):=fun h2=>by
   rw [h2] at h
   injection h with e1 h
   injection h with e2 e3
   subst e1 e2 e3
   refine ⟨hl,fun r=>?_⟩
   rw [List.take_zero,List.nil_append,show 513-l.length=f+1 by omega,Nat.zero_add]
  cases ho:iB kd ch b with
  | none=>exact stop (fJ ho)
  | some p =>
   obtain ⟨e,d,k⟩:=p
   by_cases hn:Fol l e∧l.length<512
   ·rw [jK ho hn] at h
    obtain ⟨L',n',c',hr⟩:∃L' n' c',parF kd f (l++[e]) d (b.drop k)=(L',n',c'):=⟨_,_,_,rfl⟩
    rw [hr] at h
    injection h with e1 h
    injection h with e2 e3
    simp only at e1 e2 e3
    subst e1 e2 e3
    obtain ⟨g1,g2⟩:=tL f (l++[e]) d (b.drop k) L' n' c' bZ1 bZ1 hr
    refine ⟨g1,fun r=>?_⟩
    have hk:=(aJ4 ho).2
    have hb:b.take (k+n')++r=b.take k++((b.drop k).take n'++r):=by rw [List.take_add,List.append_assoc]
    have hkl:(b.take k).length=k:=by rw [List.length_take];omega
    have hdr:(b.take k++((b.drop k).take n'++r)).drop k=(b.drop k).take n'++r:=by rw [List.drop_append_of_le_length aA,List.drop_of_length_le aA,List.nil_append]
    rw [hb,jK (bP9 ho _) hn,hdr,g2 r,Nat.add_assoc]
   ·exact stop (mB ho hn)
end
theorem aZ2 {b:List UInt8} {L:List LEn} {n:Nat} {c:List UInt8} (h:parF kdL 513 [] root0 b=(L,n,c)):L.length≤512∧parF kdL 513 [] root0 (b.take n)=(L,n,c):=by
 obtain ⟨h1,h2⟩:=tL 513 [] root0 b L n c rfl aP h
 have:=h2 []
 rw [List.append_nil,fJ (pY _)] at this
 exact ⟨h1,this⟩
theorem cQ0 {l:List LEn} {e:LEn} (h:Fol l e):Fol l (clE e) where
 rd:=by rw [cU4];exact h.rd
 day:=h.day
 rq hk:=by
  have:=h.rq hk
  have hk:e.k=1:=hk
  unfold clE
  simp only [hk,if_true]
  exact this
 er hk:=by
  have hk:e.k=2:=hk
  have:=h.er hk
  rw [(bW4 hk).1,(bW4 hk).2]
  exact this
 st hk:=h.st hk
 co hk:=h.co hk
 sg hk:=h.sg hk
theorem uW {b:List UInt8} {L:List LEn} {n:Nat} {c:List UInt8} (h:parF kdL 513 [] root0 b=(L,n,c)) {e:LEn} (hw:e.wf) (hk:aQ e.k) (hz:e.sz) (hr:e.rd) (hF:Fol L e) (hl:L.length<512):parF kdL 513 [] root0 (b.take n++cO kdL c e)=(L++[clE e],n+(cO kdL c e).length,kdL c (bO e)):=by
 obtain ⟨h1,h2⟩:=tL 513 [] root0 b L n c rfl aP h
 have hle:=lC hw hk hz
 have ho:=uU gI hw hr aA c []
 rw [List.append_nil] at ho
 rw [h2,show 513-L.length=(512-L.length)+1 by omega,jK ho ⟨cQ0 hF,hl⟩,List.drop_length,fJ (pY _)]
 rfl
theorem bR0 {b:List UInt8} {L:List LEn} {n:Nat} {c:List UInt8} (h:parF kdL 513 [] root0 b=(L,n,c)) {e:LEn} (hw:e.wf) (hk:aQ e.k) (hz:e.sz) {k:Nat} (hlt:k<(cO kdL c e).length):parF kdL 513 [] root0 (b.take n++(cO kdL c e).take k)=(L,n,c):=by
 obtain ⟨h1,h2⟩:=tL 513 [] root0 b L n c rfl aP h
 have hle:=lC hw hk hz
 rw [h2,fJ (cZ3 gI aA c hlt)]
 rfl
theorem sZ {i:Idf} (h:i.ns.length≤40):(dL i).length≤110:=by
 unfold dL
 rw [List.length_append]
 have:=yJ (s:=i.ns) aA
 have:=aO8 (aE4 i.v)
 omega
theorem bG7 {e:LEn} (hw:e.wf) (hk:aQ e.k) (hs:smE e):(bO e).length≤4000:=by
 obtain ⟨a1,a2,a3⟩:=hw.h1
 obtain ⟨b1,b2,b3,b4⟩:=hw.rq
 have c1:=hw.lk
 obtain ⟨d1,d2,d3,d4,d5⟩:=hw.hd
 have e1:=hw.vs
 have e2:=hw.ss
 have f1:=hw.root
 obtain ⟨s1,s2,s3,_,s4,_,s5,_,s6,_⟩:=hs
 unfold bO
 simp only [List.length_append]
 have k1:=bG hk
 have k2:=bG a1
 have k3:=bG a2
 have k4:=bG a3
 have k5:(cG e).length≤3000:=by
  unfold cG
  split
  ·unfold jR
   simp only [List.length_append]
   have:=bG b1
   have:=bG b2
   have:=bG b3
   have:=bG b4
   have:=sZ s3
   omega
  ·split
   ·unfold eW
    simp only [List.length_append]
    have:=gP (n:=e.vs.length) aA
    have:=gP (n:=e.ss.length) aA
    have:=nE (e:=dM) (m:=30) (l:=e.vs) fun x hx=>by
     obtain ⟨p1,p2,p3⟩:=e1 x hx
     have:=bG p1
     have:=bG p2
     have:=bG p3
     unfold dM
     simp only [List.length_append]
     omega
    have:=nE (e:=dQ) (m:=20) (l:=e.ss) fun x hx=>by
     obtain ⟨p1,p2⟩:=e2 x hx
     have:=bG p1
     have:=bG p2
     unfold dQ
     simp only [List.length_append]
     omega
    omega
   ·split
    ·omega
    ·split
     ·unfold jQ
      simp only [List.length_append]
      have:=bG c1
      have:=sZ s4
      have:=sZ s5
      have:(aS (if e.lk.rv=true then 1 else 0)).length≤10:=bG (by unfold aQ;split<;>omega)
      omega
     ·split
      ·unfold jP
       simp only [List.length_append]
       have:=bG d1
       have:=bG d2
       have:=bG d3
       have:=bG d4
       have:=bG d5
       have:=sZ s6
       omega
      ·simp
 omega
theorem tB {e:LEn} (hw:e.wf) (hk:aQ e.k) (hs:smE e) (ch:List UInt8):(cO kdL ch e).length≤4042:=by
 have h1:=bG7 hw hk hs
 have h2:(kdL ch (bO e)).length=32:=gI _ _
 have h3:=gP (n:=(bO e).length) aA
 unfold cO
 simp only [List.length_append]
 omega
theorem aI3:∀{l:List LEn},(∀e∈l,e.wf∧aQ e.k∧smE e)→∀ch,(gS kdL ch l).length≤l.length*4042
 | [],_,_=>by simp [gS]
 | e::l,h,ch=>by
  obtain ⟨h1,h2,h3⟩:=h e aP
  have ha:=tB h1 h2 h3 ch
  have hb:=aI3 (l:=l) (fun x hx=>h x (by simp [hx])) (kdL ch (bO e))
  rw [gS,List.length_append,List.length_cons,Nat.add_mul]
  omega
theorem aR4:∀(f:Nat) (l:List LEn) (ch b:List UInt8),(parF kdL f l ch b).1.length≤l.length+b.length
 | 0,l,ch,b=>by rw [parF];simp only;omega
 | f+1,l,ch,b=>by
  cases h:iB kdL ch b with
  | none=>rw [fJ h];simp only;omega
  | some p =>
   obtain ⟨e,d,k⟩:=p
   by_cases hn:Fol l e∧l.length<512
   ·obtain ⟨h1,h2⟩:=aJ4 h
    have ih:=aR4 f (l++[e]) d (b.drop k)
    rw [jK h hn]
    rw [List.length_append,List.length_singleton,List.length_drop] at ih
    simp only
    omega
   ·rw [mB h hn];simp only;omega
theorem bQ0 {e:LEn} (hl:(bO e).length≤1000000) (ch r:List UInt8) (h:¬(pEn (bO e)).isSome=true):iB kdL ch (cO kdL ch e++r)=none:=by
 have h32:=gI ch (bO e)
 have hp:pEn (bO e)=none:=by
  cases hx:pEn (bO e) with
  | none=>rfl
  | some x=>exact absurd (by rw [hx];rfl) h
 unfold iB cO
 rw [List.append_assoc,nI aA aA,Option.bind_some]
 simp only [Int.toNat_natCast,List.append_assoc,List.take_left]
 rw [if_pos ⟨by omega,by simp only [List.length_append];omega⟩,hp]
 rfl
theorem aE7:∀(l p:List LEn) (f:Nat) (ch t:List UInt8),(∀e∈l,e.wf∧aQ e.k∧smE e)→(parF kdL f p ch (gS kdL ch l++t)).1.length≤p.length+l.length+t.length
 | [],p,f,ch,t,_=>by
  have:=aR4 f p ch t
  rw [gS,List.nil_append,List.length_nil]
  omega
 | e::l,p,0,ch,t,_=>by rw [parF];simp only;omega
 | e::l,p,f+1,ch,t,h=>by
  obtain ⟨h1,h2,h3⟩:=h e aP
  have hle:=bG7 h1 h2 h3
  rw [gS,List.append_assoc,List.length_cons]
  by_cases hs:(pEn (bO e)).isSome=true
  ·have ho:=uU gI h1 (dM4 h1 h2 h3 hs) aA ch (gS kdL (kdL ch (bO e)) l++t)
   by_cases hn:Fol p (clE e)∧p.length<512
   ·rw [jK ho hn,List.drop_left]
    have:=aE7 l (p++[clE e]) f (kdL ch (bO e)) t (fun x hx=>h x (by simp [hx]))
    rw [List.length_append,List.length_singleton] at this
    simp only
    omega
   ·rw [mB ho hn];simp only;omega
  ·rw [fJ (bQ0 aA ch _ hs)];simp only;omega
end Go.Proofs.YtbgehdndimlgkaaGreat
