/-
  Lemmas for laws of the ledger; no statement of a law.
-/
import Derived.Test.YtbgehdndimlgkaaGreatQ46
import Derived.Test.YtbgehdndimlgkaaGreatQ47
import Derived.Test.YtbgehdndimlgkaaGreatQ48
set_option maxHeartbeats 16000000
set_option linter.unusedSimpArgs false
set_option linter.unusedVariables false
namespace Go.Proofs.YtbgehdndimlgkaaGreat
open Go Go.RowKit Go.Av
set_option maxRecDepth 100000
theorem uV {s:Dk} (hok:s.ok=true) (hdn:s.dn=false) {L:List LEn} {n:Nat} {c:List UInt8} (h:parF kdL 513 [] root0 (s.sy++s.pe)=(L,n,c)):opO s=(⟨⟨(s.sy++s.pe).take n,[],s.fu,false⟩,L,c⟩,0)∧n≤(s.sy++s.pe).length∧OkL L∧L.length≤512∧c.length=32∧LfE L∧FolL L:=by
 have hR:opR s=(s.sy++s.pe,0):=by unfold opR;rw [if_neg (by rw [hok];decide),if_neg (by rw [hdn];decide)]
 have hle:=(fW (sy:=s.sy) (pe:=s.pe) (fu:=s.fu) (dn:=s.dn) rfl rfl hok).1
 obtain ⟨p1,p2,p3,p4,p5⟩:=mC 513 (l:=[]) (ch:=root0) (b:=s.sy++s.pe) aN7 rfl (fun e he=>by simp at he) aP
 have p6:=bI8 513 (l:=[]) (ch:=root0) (b:=s.sy++s.pe) (fun e he=>by simp at he)
 rw [h] at p1 p2 p3 p4 p5 p6
 refine ⟨?_,p3,p1,p2,p4,p6,p5 (fun i e he=>by simp at he)⟩
 have hT:opT s n=(⟨(s.sy++s.pe).take n,[],s.fu,false⟩,0):=by
  unfold opT
  simp only [List.length_append] at p3
  rw [if_neg (by rw [hok];simp;omega),if_neg (by rw [hdn];decide),hdn,Int.toNat_natCast]
 unfold opO
 rw [hR]
 simp only [h]
 rw [hT]
 rfl
def e7:LEn:=⟨7,1048576,0,0,rq0,lk0,hd0,[],[],root0⟩
theorem wf7:e7.wf where
 h1:=⟨⟨by decide,by decide⟩,dR,dR⟩
 rq:=⟨dR,dR,dR,dR⟩
 lk:=dR
 hd:=⟨dR,dR,dR,dR,dR⟩
 vs:=fun v hv=>by simp [e7] at hv
 ss:=fun v hv=>by simp [e7] at hv
 root:=rfl
theorem k7:aQ e7.k:=⟨by decide,by decide⟩
theorem sm7:smE e7:=by simp [smE,e7,rq0,lk0,hd0,iI,Vl.nul]
theorem rd7:e7.rd where
 k:=by simp [e7]
 rq:=fun h=>by simp [e7] at h
 er:=fun h=>by simp [e7] at h
 lk:=fun h=>by simp [e7] at h
 hd:=fun _=>by simp [e7,hd0,iI]
theorem eG2 {L:List LEn} (h:FolL L):Fol L e7 where
 rd:=by
  have:=oC wf7 rd7 []
  rw [List.append_nil] at this
  rw [this];rfl
 day:=⟨by decide,by decide,fun x hx=>by
  have hm:∃i:Nat,L[i]? = some x:=by
   obtain ⟨i,hi⟩:=List.getElem?_of_mem (List.mem_of_getLast? hx)
   exact ⟨i,hi⟩
  obtain ⟨i,hi⟩:=hm
  exact (h i x hi).day.2.1⟩
 rq h:=by simp [e7] at h
 er h:=by simp [e7] at h
 st h:=by simp [e7] at h
 co h:=by simp [e7] at h
 sg h:=by simp [e7] at h
theorem cZ4 {sy:List UInt8} {L:List LEn} {c:List UInt8} {e:LEn} (hF:Fol L e) (hl:L.length<512) (hb:sy.length+(cO kdL c e).length≤131072):opAd ⟨⟨sy,[],-1,false⟩,L,c⟩ e=(⟨⟨sy++cO kdL c e,[],-1,false⟩,L++[rdE e],kdL c (bO e)⟩,0):=by
 have h1:opA ⟨sy,[],-1,false⟩ (cO kdL c e)=(⟨sy,cO kdL c e,-1,false⟩,0):=by
  unfold opA
  rw [if_neg (by rw [fO (m:=sy.length) (k:=0) rfl rfl aA aP];simp)]
  simp only
  rw [if_neg aN,if_neg eN,if_neg aP]
  simp
 have h2:opS ⟨sy,cO kdL c e,-1,false⟩=(⟨sy++cO kdL c e,[],-1,false⟩,0):=by
  unfold opS
  rw [if_neg (by rw [fO (m:=sy.length) (k:=(cO kdL c e).length) rfl rfl aA aP];simp)]
  rw [if_neg aP,if_neg aP]
 have h0:¬¬Fol L e:=fun h=>h hF
 unfold opAd
 simp only
 rw [if_neg h0,if_neg aA,h1]
 simp only [h2,if_true]
theorem bA2 {l:List LEn} (hf:uN l) (ho:OkL l) {tail:List UInt8} (ht:tail.length≤100):∃x z:Lg,opA dkN (gS kdL root0 l++tail)=(⟨[],gS kdL root0 l++tail,-1,false⟩,0)∧opO ⟨[],gS kdL root0 l++tail,-1,false⟩=(x,0)∧opO x.d=(x,0)∧opAd x e7=(z,0)∧opO z.d=(z,0)∧(x.d.sy.length≤131072∧x.d.pe=[]∧x.d.fu = -1∧x.d.dn=false)∧(z.d.sy.length≤131072∧z.d.pe=[]∧z.d.fu = -1∧z.d.dn=false)∧(OkL x.l∧LfE x.l∧x.l.length≤116∧x.c.length=32)∧(OkL z.l∧LfE z.l∧z.l.length=x.l.length+1∧z.c.length=32):=by
 obtain ⟨b,hbe⟩:∃b,gS kdL root0 l++tail=b:=⟨_,rfl⟩
 have hsm:=aI3 (l:=l) (fun e he=>⟨(ho e he).1,(ho e he).2.1,hf.2 e he⟩) root0
 have hl16:=hf.1
 have hbl:b.length≤64772:=by rw [← hbe,List.length_append];omega
 obtain ⟨L,n,c,hR⟩:∃L n c,parF kdL 513 [] root0 b=(L,n,c):=⟨_,_,_,rfl⟩
 have hcnt:=aE7 l [] 513 root0 tail (fun e he=>⟨(ho e he).1,(ho e he).2.1,hf.2 e he⟩)
 rw [hbe,hR] at hcnt
 simp only [List.length_nil] at hcnt
 obtain ⟨_,hag⟩:=aZ2 hR
 obtain ⟨o1,o2,o3,o4,o5,o6,o7⟩:=uV (s:=⟨[],b,-1,false⟩) (fO (m:=0) (k:=b.length) rfl rfl aA aP) rfl (by simp only [List.nil_append];exact hR)
 simp only [List.nil_append] at o1 o2
 have htl:(b.take n).length=n:=by rw [List.length_take];omega
 obtain ⟨q1,q2,_⟩:=uV (s:=⟨b.take n,[],-1,false⟩) (fO (m:=n) (k:=0) htl rfl aA aP) rfl (by simp only [List.append_nil];exact hag)
 simp only [List.append_nil,List.take_take,Nat.min_self] at q1
 have hF:=eG2 o7
 have hfr:=tB wf7 k7 sm7 c
 have h4:=cZ4 (sy:=b.take n) (c:=c) hF aA aA
 have hmo:=uW hR wf7 k7 (qM sm7) rd7 hF aA
 have hrd:rdE e7=clE e7:=aJ9 wf7 rd7
 obtain ⟨r1,r2,r3,r4,r5,r6,r7⟩:=uV (s:=⟨b.take n++cO kdL c e7,[],-1,false⟩) (fO (m:=n+(cO kdL c e7).length) (k:=0) (by rw [List.length_append,htl]) rfl aA aP) rfl (by simp only [List.append_nil];exact hmo)
 simp only [List.append_nil] at r1
 rw [List.take_of_length_le (l:=b.take n++cO kdL c e7) (by rw [List.length_append,htl];exact Nat.le_refl _)] at r1
 rw [hrd] at h4
 rw [hbe]
 refine ⟨_,_,?_,o1,q1,h4,r1,⟨by simp only;omega,rfl,rfl,rfl⟩,⟨by simp only [List.length_append,htl];omega,rfl,rfl,rfl⟩,⟨o3,o6,by simp only;omega,o5⟩,⟨r3,r6,by simp,r5⟩⟩
 unfold opA dkN
 rw [if_neg aN]
 simp only
 rw [if_neg aN,if_neg eN,if_neg aP]
 simp
attribute [local irreducible] Still Adds AWL AW Drw bT bW AC AWR cL Frz Go.Av.Src dC Out InK ItK AsK RdK eI eE ACT ACA eL ACG fE lec
theorem bS4 (s:Lg) (m k q:Nat) (hm:s.d.sy.length=m) (hk:s.d.pe.length=k) (hq:s.l.length=q) (hb:q≤1000) (ho:OkL s.l) (hl:LfE s.l) (hc:s.c.length=32):AC Tryz.prog 25 [.agg (lgV m k q s),.agg (lgV m k q s)] (.c (bv true)) [] 0:=by
 have h1:=dB6 s.d.sy s.d.pe s.d.fu s.d.dn m k hm hk
 have h2:=sI s.l q hq aA ho hl
 have hcl:(u8c s.c).length=32:=by rw [aG,hc]
 have hlg:(lgV m k q s).length=37:=by unfold lgV;rw [List.length_append,hcl];rfl
 have hw0:List.take 4 (List.drop (0+0) (lgV m k q s))=[.sl 1 m (u8c s.d.sy),.sl 1 k (u8c s.d.pe),iv s.d.fu,bv s.d.dn]:=rfl
 have hg4:(lgV m k q s)[0+4]? = some (.sl 65 q (lec s.l)):=rfl
 have hw5:List.take 32 (List.drop (0+5) (lgV m k q s))=u8c s.c:=by
  show List.take 32 (u8c s.c)=u8c s.c
  rw [List.take_of_length_le (Nat.le_of_eq hcl)]
 generalize lgV m k q s=g at *
 refine aF aB (sz:=24) Tryz.func25 rfl (by rw [Tryz.ntmps25];rfl) ?_
 repeat' (first|(refine aC ?_;intro K hK hX)|refine aL [0,1,2,3,4] ?_|((with_reducible refine cC ?_);refine yA ?_;refine bH (cE (T:=61) rfl) rfl ?_)|(refine dG ?_;first|refine c0 h1 ?_|refine c0 h2 ?_)|(((with_reducible refine bP ?_);refine xA ?_);(first|((with_reducible refine bS ?_);(first|refine aJ (aK4 aB aW rfl rfl rfl rfl rfl rfl hw5 hw5 rfl hc hc (decide_eq_true rfl)) ?_|refine aJ (aK4 aB aW rfl rfl rfl rfl rfl rfl rfl rfl rfl hc hc (decide_eq_true rfl)) ?_))))|refine eS ?_|refine jM ?_|refine stA ?_|(refine aH hK hX ?_;clear hK hX K)|fail)
 exact bB
theorem eA5 (l:List LEn) (n:Nat) (hn:l.length=n) (hb:n≤maxLen) (hw:∀e∈l,e.wf∧aQ e.k) (tail:List UInt8) (t:Nat) (ht:tail.length=t) (htb:t≤maxLen) (hf:¬uN l∨100<t):AC Tryz.prog 5 [.sl 65 n (lec l),.sl 1 t (u8c tail)] (.c (bv true)) [] 0:=by
 by_cases hF:uN l
 ·have h1:=uO l n hn hb (fun e he=>(hw e he).1) true ⟨fun _=>hF,fun _=>rfl⟩
  have h100:=hf.resolve_left (fun h=>h hF)
  generalize lec l=L at *
  refine aF aB (sz:=106) Tryz.func5 rfl (by rw [Tryz.ntmps5];rfl) ?_
  repeat' (first|(refine aC ?_;intro K hK hX)|refine dE6 ?_|(refine aH hK hX ?_;clear hK hX K)|fail)
  exact bB
 ·have h1:=uO l n hn hb (fun e he=>(hw e he).1) false ⟨fun h=>iM,fun h=>absurd h hF⟩
  generalize lec l=L at *
  refine aF aB (sz:=106) Tryz.func5 rfl (by rw [Tryz.ntmps5];rfl) ?_
  repeat' (first|(refine aC ?_;intro K hK hX)|refine dE6 ?_|(refine aH hK hX ?_;clear hK hX K)|fail)
  exact bB
theorem eA6 (l:List LEn) (n:Nat) (hn:l.length=n) (hb:n≤maxLen) (hw:∀e∈l,e.wf∧aQ e.k) (tail:List UInt8) (t:Nat) (ht:tail.length=t) (htb:t≤100) (hf:uN l):AC Tryz.prog 5 [.sl 65 n (lec l),.sl 1 t (u8c tail)] (.c (bv true)) [] 0:=by
 have h1:=uO l n hn hb (fun e he=>(hw e he).1) true ⟨fun _=>hf,fun _=>rfl⟩
 have ho:=bG8 hf hw
 have hn16:n≤16:=by have:=hf.1;omega
 obtain ⟨x,z,h2,h3,h4,h5,h6,⟨x1,x2,x3,x4⟩,⟨z1,z2,z3,z4⟩,⟨x5,x6,x7,x8⟩,⟨z5,z6,z7,z8⟩⟩:=bA2 hf ho (tail:=tail) aA
 obtain ⟨m,hm⟩:∃m,(gS kdL root0 l).length=m:=⟨_,rfl⟩
 have hsm:=aI3 (l:=l) (fun e he=>⟨(ho e he).1,(ho e he).2.1,hf.2 e he⟩) root0
 rw [hm,hn] at hsm
 have hby:=bR4 l n hn aA ho m hm
 have hulf:=u8l hm
 have hult:=u8l ht
 have hbl:(gS kdL root0 l++tail).length=m+t:=by rw [List.length_append,hm,ht]
 obtain ⟨a,ha⟩:∃a,x.d.sy.length=a:=⟨_,rfl⟩
 obtain ⟨b,hb2⟩:∃b,z.d.sy.length=b:=⟨_,rfl⟩
 obtain ⟨q,hq⟩:∃q,x.l.length=q:=⟨_,rfl⟩
 rw [ha] at x1
 rw [hb2] at z1
 rw [hq] at x7 z7
 have g1:=aB7 [] [] (gS kdL root0 l++tail) (-1) false 0 0 (m+t) rfl rfl hbl aN aN aA aN _ 0 0 (m+t) h2 rfl hbl
 rw [bD] at g1
 have g2:=rE ⟨[],gS kdL root0 l++tail,-1,false⟩ 0 (m+t) rfl hbl aN aA x 0 a 0 q h3 ha (by rw [x2];rfl) hq
 have g3:=rE x.d a 0 ha (by rw [x2];rfl) aA aN x 0 a 0 q h4 ha (by rw [x2];rfl) hq
 have g4:=sP x a 0 q ha (by rw [x2];rfl) hq aA aN (by rw [x3];decide) x8 x5 aA e7 wf7 k7 (qM sm7) 0 0 rfl rfl z 0 b 0 (q+1) h5 hb2 (by rw [z2];rfl) z7
 have g5:=rE z.d b 0 hb2 (by rw [z2];rfl) aA aN z 0 b 0 (q+1) h6 hb2 (by rw [z2];rfl) z7
 have g6:=bS4 x a 0 q ha (by rw [x2];rfl) hq aA x5 x6 x8
 have g7:=sI z.l (q+1) z7 aA z5 z6
 have e2:(lgV a 0 q x).length=37:=by unfold lgV;rw [List.length_append,aG,x8];rfl
 have e3:(lgV b 0 (q+1) z).length=37:=by unfold lgV;rw [List.length_append,aG,z8];rfl
 have w1:List.take 4 (List.drop (0+0) (lgV a 0 q x))=[.sl 1 a (u8c x.d.sy),.sl 1 0 (u8c x.d.pe),iv x.d.fu,bv x.d.dn]:=rfl
 have w2:List.take 4 (List.drop (0+0) (lgV b 0 (q+1) z))=[.sl 1 b (u8c z.d.sy),.sl 1 0 (u8c z.d.pe),iv z.d.fu,bv z.d.dn]:=rfl
 have v1:(lgV a 0 q x)[0+4]? = some (.sl 65 q (lec x.l)):=rfl
 have v2:(lgV b 0 (q+1) z)[0+4]? = some (.sl 65 (q+1) (lec z.l)):=rfl
 have w3:List.take 32 (List.drop (0+5) (lgV b 0 (q+1) z))=u8c z.c:=by
  show List.take 32 (u8c z.c)=u8c z.c
  rw [List.take_of_length_le (by rw [aG,z8];exact Nat.le_refl _)]
 have e4:(lec x.l).length=q*65:=by rw [fS x5,hq]
 have e5:(lec z.l).length=(q+1)*65:=by rw [fS z5,z7]
 have e6:(u8c x.d.sy).length=a:=by rw [aG,ha]
 have e7':(u8c z.d.sy).length=b:=by rw [aG,hb2]
 have e8:(u8c z.c).length=32:=by rw [aG,z8]
 have hrl:(u8c (gS kdL root0 l)++u8c tail).length=(m+t)*1:=by rw [List.length_append];omega
 change AC _ _ [.agg (lgV a 0 q x),.agg ([iv 7,iv 1048576,iv 0,iv 0,iv 0,.v (.string ⟨#[]⟩),iv 0,iv 0,.v (.string ⟨#[]⟩),iv 0,iv 0,iv 0,.v (.string ⟨#[]⟩),iv 0,iv 0,.v (.string ⟨#[]⟩),.v (.string ⟨#[]⟩),iv 0,iv 0,.v (.string ⟨#[]⟩),iv 0,bv false,iv 0,iv 0,.v (.string ⟨#[]⟩),iv 0,iv 0,.v (.string ⟨#[]⟩),iv 0,iv 0,iv 0,.sl 3 0 [],.sl 2 0 []]++List.replicate 32 (.v (.int .u8 0)))] _ _ _ at g4
 change AC _ _ [.agg [.sl 1 a (u8c x.d.sy),.sl 1 0 (u8c x.d.pe),iv x.d.fu,bv x.d.dn]] _ _ _ at g3
 change AC _ _ [.agg [.sl 1 b (u8c z.d.sy),.sl 1 0 (u8c z.d.pe),iv z.d.fu,bv z.d.dn]] _ _ _ at g5
 clear h2 h3 h4 h5 h6 hm hbl hw hf ho x5 x6 z5 z6
 generalize lgV a 0 q x=gx at *
 generalize lgV b 0 (q+1) z=gz at *
 generalize lec l=L at *
 generalize gS kdL root0 l=F at *
 refine aF aB (sz:=106) Tryz.func5 rfl (by rw [Tryz.ntmps5];rfl) ?_
 repeat' (first|(refine aC ?_;intro K hK hX)|refine aL [0,1,4,5,6,7,8,9,10,11,12,13,14] ?_|((with_reducible refine cC ?_);refine yA ?_;refine bH (cE rfl) rfl ?_)|((with_reducible refine aX ?_);refine yA ?_;refine bH (aU (T:=61) aB rfl rfl rfl) rfl ?_)|(refine dG ?_;first|refine c0 jD ?_|refine c0 h1 ?_|refine c0 aZ0 ?_|refine c1 hby ?_)|refine stA ?_|(refine aH hK hX ?_;clear hK hX K)|fail)
 refine bV9 29 rfl rfl hrl ?_
 repeat' (first|(refine aC ?_;intro K hK hX)|refine aL [0,1,4,5,6,7,8,9,10,11,12,13,14] ?_|((with_reducible refine cC ?_);refine yA ?_;refine bH (cE rfl) rfl ?_)|((with_reducible refine aX ?_);refine yA ?_;refine bH (aU (T:=61) aB rfl rfl rfl) rfl ?_)|(refine dG ?_;first|refine c0 jD ?_|refine c0 g1 ?_|refine c0 g2 ?_|refine c0 g3 ?_|refine c0 g4 ?_|refine c0 g5 ?_|refine c0 g6 ?_|refine c0 g7 ?_)|(((with_reducible refine bP ?_);refine xA ?_);(first|((with_reducible refine bS ?_);(first|refine aJ (aK4 aB aW rfl rfl rfl rfl rfl rfl w3 w3 rfl z8 z8 (decide_eq_true rfl)) ?_|refine aJ (aK4 aB aW rfl rfl rfl rfl rfl rfl rfl rfl rfl z8 z8 (decide_eq_true rfl)) ?_))))|refine eS ?_|refine jM ?_|refine stA ?_|(refine aH hK hX ?_;clear hK hX K)|fail)
 exact bB
theorem law_lreopens (l:List LEn) (n:Nat) (hn:l.length=n) (hb:n≤maxLen) (hw:∀e∈l,e.wf∧aQ e.k) (tail:List UInt8) (t:Nat) (ht:tail.length=t) (htb:t≤maxLen):AC Tryz.prog 5 [.sl 65 n (lec l),.sl 1 t (u8c tail)] (.c (bv true)) [] 0:=by
 by_cases h:¬uN l∨100<t
 ·exact eA5 l n hn hb hw tail t ht htb h
 ·by_cases hF:uN l
  ·exact eA6 l n hn hb hw tail t ht aA hF
  ·exact absurd (.inl hF) h
end Go.Proofs.YtbgehdndimlgkaaGreat
