/- Lemmas for laws of the ledger. -/
import Derived.ChangeOld
import Derived.ChangeSlices
import Derived.ShutString
import Derived.SizedLaws
import Derived.Test.YtbgehdndimlgkaaGreatS41
set_option linter.all false
set_option maxHeartbeats 16000000
namespace Go.Proofs.YtbgehdndimlgkaaGreat
open Go Go.RowKit Go.Av Go.Sort
set_option maxRecDepth 100000
theorem eD6 {l:List Ver} {n:Nat} (hn:l.length=n) (h0:0<n) (hb:n<=1000000):ACS Tryz.prog 91 76 3 n (vrc l) [CV.v (.func (.func 92) #[] #[])] (vrc (srtA ltV l)) (.tup []):=by
 have hb':Body Tryz.prog 92:=by unfold Body;kernel_rfl
 have hs:cB0 Tryz.prog 91 92 3:=by
  intro α _ enc hk h1 cf hO blk cap d w hC hH hblk hsz
  exact Go.Proofs.AnyQ.slices_SortFunc Tryz.srtV 3 Tryz.isAgg76 Tryz.sizeOf76 enc hk h1 cf hO 92 #[] blk 0 cap d w (fun args w=>hb'.run args w) hC hH hblk hsz
 exact bS6 (X:=Ver) (encX:=fun v=>[iv v.t,iv v.c,iv v.s]) (cmp:=aM8) (fun _=>True) hs hn h0 aA aN (fun _=>rfl) (fun x y _ _=>qG x y) (fun _ _=>trivial) (eE2 slo_V oV) (sM l) ((bB6 slo_V l).imp fun {a b} h=>by rw [oV];exact h) (fun x _ y _ h1 h2=>by
  rw [oV] at h1 h2
  rcases slo_V.tri x y with e|e|e
  ·exact absurd e h1
  ·exact e
  ·exact absurd e h2)
theorem dI7 (p:Option Addr) (cap:Nat) (fv:Value) (w:World):Calls Tryz.prog 91 #[.slice p 0 cap,fv] w fun e w'=>e = .returned (.tuple #[])/\w'=w :=
 Go.Proofs.AnyF.slices_SortFunc_none {Tryz.srtV with} p cap fv w
attribute [local irreducible] Still Adds AWL AW Drw bX bY AC AWR cU Frz Go.Av.Src cQ Out InK ItK AsK RdK eP eI ACT ACS eE6 ACP cX0
theorem cZ2:qC' 93 [.sl 3 0 []] (.c (.sl 3 0 [])) [] 0:=by
 refine aD aB (sz:=61) Tryz.func93 rfl (by rw [Tryz.ntmps93];rfl) ?_
 repeat' (first|(refine aC ?_;intro K hK hX)|refine aM5 ?_|(refine aG hK hX ?_;clear hK hX K)|fail)
 exact aY
theorem bV5 (l:List LEn) (n:Nat) (hn:l.length=n) (hb:n<=1000) (hw:OkL l) (q:Nat) (hq:(erasV l).length=q):qC' 30 [.sl 65 n (lec l)] (.c (.sl 3 q (vrc (erasV l)))) [] 0:=by
 have hll:(lec l).length=n*65:=by rw [fX hw,hn]
 obtain ⟨R,hR⟩:∃R,erasV l=R:=⟨_,rfl⟩
 rw [hR] at hq ⊢
 have hev:∀x∈srtA ltV (iY l),oG x:=fun x hx=>yF hw x ((sM _).mem_iff.1 hx)
 have hAl:=tP hw
 obtain ⟨D,hD⟩:∃D:Nat->List Ver,∀i,iY (l.take i)=D i:=⟨_,fun _=>rfl⟩
 obtain ⟨o,ho⟩:∃o:Nat->Nat,∀i,(D i).length=o i:=⟨_,fun _=>rfl⟩
 have hDn:D n=iY l:=by rw [<- hD,Ad aA]
 have hon:o n=(iY l).length:=by rw [<- ho,hDn]
 have hD0:D 0=[]:=by rw [<- hD];rfl
 have ho0:o 0=0:=by rw [<- ho,hD0];rfl
 have hob:∀i,i<=n->o i<=i*1000:=fun i hi=>by
  rw [<- ho,<- hD]
  have:=tP (hw.take i)
  rw [As] at this
  omega
 have hcl:∀i,(vrc (D i)).length=o i*3:=fun i=>by rw [dC,ho]
 refine aD aB (sz:=24) Tryz.func30 rfl (by rw [Tryz.ntmps30];rfl) ?_
 repeat' (first|(refine aC ?_;intro K hK hX)|refine aK [0,2,3,5,6,7,8] ?_|refine stA ?_|(refine aG hK hX ?_;clear hK hX K)|fail)
 refine lS 3 76 3 rfl ?_
 refine bH [8,3] [0] rfl rfl (fun i:Nat=>[(8,.c (iv i)),(3,.own 0 0 (o i) 3 true)]) (fun i=>[(0,.row 76 (vrc (D i)))]) (fun i=>i<=n) (fun i=>n-i) 0 (Am _) (by refine dW rfl ?_ ?_ rfl<;>(repeat' (first|exact cO|exact cP|refine cG rfl dP1 rfl ?_|refine bD rfl dP1 rfl ?_|refine bD rfl (by first|rfl|(first|rfl|exact congrArg (fun x=>AV.own 0 0 x 3 true) ho0.symm|exact congrArg (fun x=>AObj.row _ (vrc x)) hD0.symm)) dO ?_))) ?_
 intro i hi K hK hX
 by_cases hlt:i<n
 ·obtain ⟨e,hat⟩:∃e,l[i]? = some e:=⟨_,Ab aA⟩
  have hx:=wH hw hat
  obtain ⟨ow,ok,oz⟩:=hw e (Af hat)
  have hel:=lQ ow
  have hc0:(ecR e)[0+0]? = some (iv e.k):=rfl
  have hc1:(ecR e)[0+31]? = some (.sl 3 e.vs.length (vrc e.vs)):=rfl
  have hs:D (i+1)=D i++if e.k=2 then e.vs else []:=by rw [<- hD,<- hD,iF hat,nO]
  have hso:o (i+1)=(D (i+1)).length:=(ho _).symm
  have hoi:=hob i hi
  have hci:=hcl i
  have hvs:=oz.vs
  by_cases h2:e.k=2
  ·rw [Ak h2] at hs
   rw [h2] at hc0
   rw [hs,Aa,ho] at hso
   have hsc:vrc (D i)++vrc e.vs=vrc (D (i+1)):=by rw [hs];unfold vrc;rw [Bc]
   have hvl:(vrc e.vs).length=e.vs.length*3:=dC _
   generalize ecR e=cs at *
   generalize vrc e.vs=vc at *
   generalize e.vs.length=nv at *
   repeat' (first|(refine aC ?_;intro K hK hX)|refine dN0 ?_|(refine aG hK hX ?_;clear hK hX K)|fail)
   exact ⟨i+1,by omega,by omega,(by refine fW [2] rfl rfl ?_ ?_ rfl rfl<;>(repeat' (first|exact dT|exact dD|refine dJ rfl dP4 rfl ?_|refine cB rfl dP4 rfl ?_)))⟩
  ·rw [Aj h2,A4] at hs
   rw [hs,ho] at hso
   generalize ecR e=cs at *
   repeat' (first|(refine aC ?_;intro K hK hX)|refine dN0 ?_|(refine aG hK hX ?_;clear hK hX K)|fail)
   exact ⟨i+1,by omega,by omega,(by refine dW rfl ?_ ?_ rfl<;>(repeat' (first|exact cO|exact cP|refine cG rfl dP2 rfl ?_|refine bD rfl dP2 rfl ?_|refine bD rfl (by first|rfl|(first|rfl|exact congrArg (fun x=>AV.own 0 0 x 3 true) hso.symm|exact congrArg (fun x=>AObj.row _ (vrc x)) hs.symm)) dO ?_)))⟩
 ·have hin:i=n:=by omega
  have hoc:=hcl n
  rw [hin,hon,hDn] at *
  clear hob hcl ho0 hD0 hD ho hon hDn hin hlt hi
  by_cases h0:(iY l).length=0
  ·have hn0:iY l=[]:=An h0
   have hq0:vrc []=vrc R:=by rw [<- hR];unfold erasV;rw [hn0];rfl
   have hqq:0=q:=by rw [<- hq,<- hR];unfold erasV;rw [hn0];rfl
   rw [h0,hn0]
   have h2:qC' _ [.sl 3 0 (vrc [])] (.c (.sl 3 0 (vrc []))) [] 0:=cZ2
   repeat' (first|(refine aC ?_;intro K hK hX)|refine aK [0,2,3,5,6,7,8] ?_|(refine aM1 dI7 aE rfl zby rfl rfl rfl ?_)|(refine dV7 22 rfl rfl rfl ?_)|(refine dK ?_;refine c0 h2 ?_)|refine stA ?_|(refine aG hK hX ?_;clear hK hX K)|fail)
   refine cV zio ztr rfl (ResL.one (ResA.tmp rfl)) (aK0 (fZ (dU cR) (jG hqq hq0)))
  ·obtain ⟨m,hm⟩:∃m,(iY l).length=m:=⟨_,rfl⟩
   have hac:=eD6 hm aA aA
   have hcp:=dW5 (srtA ltV (iY l)) m (by rw [rQ,hm]) aA aA hev
   rw [cZ1 slo_V _ hm] at hcp
   change ACP _ _ _ _ _ _ _ _ (vrc (erasV l)) (erasV l).length at hcp
   rw [hR,hq] at hcp
   have hql:(vrc R).length=q*3:=by rw [dC,hq]
   have h0':0<m:=by omega
   rw [hm]
   repeat' (first|(refine aC ?_;intro K hK hX)|refine aK [0,2,3,5,6,7,8] ?_|(refine bD6 hac aE rfl zby h0' rfl rfl rfl rfl ?_)|((with_reducible refine aF ?_);refine bT3 (hcp) aE rfl zby (h0') rfl rfl (rfl) rfl zcv ?_)|refine stA ?_|(refine aG hK hX ?_;clear hK hX K)|fail)
   refine cV zio ztr rfl (ResL.one (ResA.tmp rfl)) (aK0 (gP rfl rfl hql))
end Go.Proofs.YtbgehdndimlgkaaGreat
namespace Go.Proofs.YtbgehdndimlgkaaGreat
open Go Go.RowKit Go.Av
set_option maxRecDepth 100000
theorem bO8:OkL []:=fun e h=>by simp at h
theorem dT2:OkL lgA.l:=fun e h=>by
 have:e=enA:=by simpa [lgA] using h
 subst this
 exact ⟨wfA,⟨by decide,by decide⟩,szA⟩
attribute [local irreducible] Still Adds AWL AW Drw bX bY AC AWR cU Frz Go.Av.Src cQ Out InK ItK AsK RdK eP eI ACT ACA eW ACG fL kdL
theorem sX:qC' 13 [] (.c (bv true)) [] 0:=by
 have hA:=aO4
 have hkl:lgA.c.length=32:=kU _ _
 have h1:=aP8 dkN 0 0 rfl rfl aN aN lgN 0 0 0 0 dT3 rfl rfl rfl
 have h2:=yW lgN 0 0 0 rfl rfl rfl aN aN aN rfl bO8 aN enA wfA ⟨by decide,by decide⟩ szA 1 0 rfl rfl lgA 0 frA.length 0 1 eA1 rfl rfl rfl
 have h3:=yW lgN 0 0 0 rfl rfl rfl aN aN aN rfl bO8 aN enB wfB ⟨by decide,by decide⟩ szB 0 0 rfl rfl lgZ 11 0 0 0 eA2 rfl rfl rfl
 have h4:=aA7 lgA frA.length 0 1 rfl rfl aA aN hkl 0 gF lgA 0 frA.length 0 1 eA3 rfl rfl rfl
 have h5:=bV5 lgA.l 1 rfl aN dT2 1 (by rw [dS5];rfl)
 rw [dS5] at h5
 have gN:(lgV 0 0 0 lgN).length=37:=rfl
 have gZ:(lgV 0 0 0 lgZ).length=37:=rfl
 have gA:(lgV frA.length 0 1 lgA).length=37:=by unfold lgV;rw [Aa,aH,hkl];rfl
 have c4:(lgV frA.length 0 1 lgA)[0+4]? = some (.sl 65 1 (lec lgA.l)):=rfl
 have hlc:(lec lgA.l).length=1*65:=fX dT2
 change AC _ _ [.agg (lgV 0 0 0 lgN),.agg ([iv 2,iv 0,iv 0,iv 0,iv 0,.v (.string ⟨#[]⟩),iv 0,iv 0,.v (.string ⟨#[]⟩),iv 0,iv 0,iv 0,.v (.string ⟨#[]⟩),iv 0,iv 0,.v (.string ⟨#[]⟩),.v (.string ⟨#[]⟩),iv 0,iv 0,.v (.string ⟨#[]⟩),iv 0,bv false,iv 0,iv 0,.v (.string ⟨#[]⟩),iv 0,iv 0,.v (.string ⟨#[]⟩),iv 0,iv 0,iv 0,.sl 3 1 [iv 0,iv 0,iv 5],.sl 2 0 []]++List.replicate 32 (.v (.int .u8 0)))] _ _ _ at h2
 change AC _ _ [.agg (lgV 0 0 0 lgN),.agg ([iv 3,iv 0,iv 0,iv 0,iv 0,.v (.string ⟨#[]⟩),iv 0,iv 0,.v (.string ⟨#[]⟩),iv 0,iv 0,iv 0,.v (.string ⟨#[]⟩),iv 0,iv 0,.v (.string ⟨#[]⟩),.v (.string ⟨#[]⟩),iv 0,iv 0,.v (.string ⟨#[]⟩),iv 0,bv false,iv 0,iv 0,.v (.string ⟨#[]⟩),iv 0,iv 0,.v (.string ⟨#[]⟩),iv 0,iv 0,iv 0,.sl 3 0 [],.sl 2 0 []]++List.replicate 32 (.v (.int .u8 0)))] _ _ _ at h3
 change AC _ _ _ (.c (.sl 3 1 [iv 0,iv 0,iv 5])) _ _ at h5
 generalize lgV 0 0 0 lgN=vN at *
 generalize lgV 0 0 0 lgZ=vZ at *
 generalize lgV frA.length 0 1 lgA=vA' at *
 generalize lec lgA.l=LL at *
 refine aD aB (sz:=69) Tryz.func13 rfl (by rw [Tryz.ntmps13];rfl) ?_
 repeat' (first|(refine aC ?_;intro K hK hX)|refine aK [0,1,2,3,4,6,7,8,9] ?_|refine vB ?_|((with_reducible refine aW ?_);refine yA ?_;refine bC (aR (T:=61) aB rfl rfl rfl) rfl ?_)|(refine dK ?_;first|refine c0 cN3 ?_|refine c0 h1 ?_|refine c0 h2 ?_|refine c0 h3 ?_|refine c0 h4 ?_|refine c0 h5 ?_)|refine eJ ?_|refine stA ?_|(refine aG hK hX ?_;clear hK hX K)|fail)
 exact aY
end Go.Proofs.YtbgehdndimlgkaaGreat
namespace Go.Av
open Go Go.RowKit
section
section
variable {H:Type} {enc:Du × Value->H} {P:Dv} {W:World} {base:Nat} {sp:Nat->Bool} {held:Bool}
abbrev RC (W:World) (xs:D1) (cs:Do):Prop:=RepCs (fun _=>True) W xs cs/\∀u∈cs,u.oneCell'=true
def pY (enc:Du × Value->H) (P:Dv) (W:World) (base:Nat) (sp:Nat->Bool) (held:Bool) (t:Du) (R:D1->Prop):Prop :=
 ∀fuel cs y,DataW.trod enc P W base sp held fuel t cs=some y->∃xs,RC W xs cs/\R xs
theorem RC.app {xs ys:D1} {cs ds:Do} (h:RC W xs cs) (k:RC W ys ds):RC W (xs++ys) (cs++ds) :=
 ⟨h.1.append k.1,fun u hu=>(Az.1 hu).elim (h.2 u) (k.2 u)⟩
theorem op_int {t:Du} {k:Dw} (hu:P.underlying t=some (.int k)):pY enc P W base sp held t fun xs=>∃m,xs=[.v (.int k m)]/\(Lit.int k m).wf=true:=by
 intro fuel cs y h
 obtain ⟨n,rfl,_,hw⟩:=DataW.trod_int hu h
 exact ⟨[.v (.int k n)],⟨⟨_,_,rfl,rfl,rfl⟩,by simp [Value.oneCell']⟩,n,rfl,hw⟩
theorem op_bool {t:Du} (hu:P.underlying t=some .bool):pY enc P W base sp held t fun xs=>∃m,xs=[.v (.bool m)]:=by
 intro fuel cs y h
 obtain ⟨n,rfl,_⟩:=DataW.trod_bool hu h
 exact ⟨[.v (.bool n)],⟨⟨_,_,rfl,rfl,rfl⟩,by simp [Value.oneCell']⟩,n,rfl⟩
theorem op_str {t:Du} (hu:P.underlying t=some .string):pY enc P W base sp held t fun xs=>∃s,xs=[.v (.string s)]/\s.size<=maxLen:=by
 intro fuel cs y h
 obtain ⟨n,rfl,_,hs⟩:=DataW.trod_string hu h
 exact ⟨[.v (.string n)],⟨⟨_,_,rfl,rfl,rfl⟩,by simp [Value.oneCell']⟩,n,rfl,hs⟩
theorem aJ3 {α β:Type} {f:α->Option β}:∀{L:List α} {ys:List β},L.mapM f=some ys->∀x∈L,∃y,f x=some y
 | [],ys,h,x,hx=>by cases hx
 | a::L,ys,h,x,hx=>by
  rw [Ct] at h
  simp only [bind,Ai,pure,Option.some.injEq] at h
  obtain ⟨y,hy,zs,hz,rfl⟩:=h
  rcases A6.1 hx with rfl|hx
  ·exact ⟨y,hy⟩
  ·exact aJ3 hz x hx
theorem aK1 {R:D1->Prop} {s:Nat}:∀(n:Nat) {cs:Do},cs.length=n*s->(∀i,i<n->∃xs,RC W xs ((cs.drop (i*s)).take s)/\R xs)->∃ls:List (D1),ls.length=n/\RC W ls.flatten cs/\∀l∈ls,R l/\l.length=s
 | 0,cs,hl,_=>by
  have:cs=[]:=An fY
  subst this
  exact ⟨[],rfl,⟨rfl,by simp⟩,by simp⟩
 | n+1,cs,hl,h=>by
  rw [De] at hl
  obtain ⟨xs,hx,hr⟩:=h 0 aA
  rw [Cf,AY] at hx
  obtain ⟨ls,h1,h2,h3⟩:=aK1 (R:=R) (s:=s) n (cs:=cs.drop s) aI1 (fun i hi=>by
   obtain ⟨ys,hy,hr⟩:=h (i+1) aA
   refine ⟨ys,?_,hr⟩
   rw [BR,show s+i*s=(i+1)*s by rw [De];omega]
   exact hy)
  refine ⟨xs::ls,by simp [h1],?_,fun l hl'=>?_⟩
  ·have:=hx.app h2
   rwa [B9] at this
  ·rcases A6.1 hl' with rfl|hl'
   ·refine ⟨hr,?_⟩
    rw [<- hx.1.length,As]
    omega
   ·exact h3 l hl'
theorem op_arr {t e:Du} {n s:Nat} {R:D1->Prop} (hu:P.underlying t=some (.array n e)) (hs:P.cellsOf e=s) (hct:P.cellsOf t=n*s) (he:pY enc P W base sp held e R):pY enc P W base sp held t fun xs=>∃ls:List (D1),xs=ls.flatten/\ls.length=n/\∀l∈ls,R l/\l.length=s:=by
 intro fuel cs y h
 cases fuel with
 | zero=>simp [DataW.trod] at h
 | succ m =>
  rw [DataW.trod_step] at h
  unfold DataW.trodStep at h
  simp only [hu] at h
  split at h
  ·rename_i hl
   simp only [Ap] at h
   obtain ⟨ys,hy,_⟩:=h
   rw [hs] at hy
   obtain ⟨ls,h1,h2,h3⟩:=aK1 (R:=R) (s:=s) n (cs:=cs) (by rw [hl,hct]) (fun i hi=>by
    obtain ⟨z,hz⟩:=aJ3 hy i (AA.2 hi)
    exact he m _ _ hz)
   exact ⟨_,h2,ls,rfl,h1,h3⟩
  ·cases h
theorem bU2 {a : Addr} {n : Nat} {cs : Do} (h : W.cells? base a n = some cs) : cs.length = n /\ ∀ j, j < n -> W.cell? (a.add j) = cs[j]? := by
  unfold World.cells? at h
  split at h
  · have key : ∀ (L : Dr) (cs : Do), L.mapM (fun i => W.cell? (a.add i)) = some cs -> cs.length = L.length /\ ∀ (j x : Nat), L[j]? = some x -> W.cell? (a.add x) = cs[j]? := by
      intro L
      induction L with
      | nil => intro cs h; simp at h; subst h; simp
      | cons x L ih =>
        intro cs h
        rw [Ct] at h
        simp only [bind, Ai, pure, Option.some.injEq] at h
        obtain ⟨y, hy, zs, hz, rfl⟩ := h
        obtain ⟨h1, h2⟩ := ih zs hz
        refine ⟨by simp [h1], fun j z hj => ?_⟩
        cases j with
        | zero => simp at hj; subst hj; simpa using hy
        | succ j => simpa using h2 j z vL
    obtain ⟨h1, h2⟩ := key _ _ h
    exact ⟨by simpa using h1, fun j hj => h2 j j (by simp [hj])⟩
  · cases h
theorem cB4 (a:Addr) (i j:Nat):(a.add i).add j=a.add (i+j):=by
 unfold Addr.add
 by_cases hi:i=0<;>by_cases hj:j=0<;>simp [hi,hj,BO]
theorem bQ0 {R : D1 -> Prop} {s : Nat} {a : Addr} : ∀ (n : Nat), (∀ i, i < n -> ∃ ci xs, W.cells? base (a.add (i * s)) s = some ci /\ RC W xs ci /\ R xs) ->
    ∃ (us : Do) (ls : List (D1)), us.length = n * s /\ (∀ j, j < n * s -> W.cell? (a.add j) = us[j]?) /\ ls.length = n /\ RC W ls.flatten us /\ ∀ l ∈ ls, R l /\ l.length = s
  | 0, _ => ⟨[], [], by simp, by simp, rfl, ⟨rfl, by simp⟩, by simp⟩
  | n + 1, h => by
    obtain ⟨us, ls, h1, h2, h3, h4, h5⟩ := bQ0 n (fun i hi => h i aA)
    obtain ⟨ci, xs, k1, k2, k3⟩ := h n aA
    obtain ⟨k4, k5⟩ := bU2 k1
    refine ⟨us ++ ci, ls ++ [xs], by rw [Aa, h1, k4, De], fun j hj => ?_, by simp [h3], ?_, fun l hl => ?_⟩
    · rw [De] at hj
      rcases AE j (n * s) with hlt | hge
      · rw [AL aA]; exact h2 j hlt
      · rw [AT aA, h1, <- k5 (j - n * s) aA, cB4]
        congr 2
        omega
    · have := h4.app k2
      simpa using this
    · rcases Az.1 hl with hl | hl
      · exact h5 l hl
      · rw [AX] at hl
        subst hl
        exact ⟨k3, by rw [<- k2.1.length]; exact k4⟩
theorem aR7 {x:Addr} {u:Value} (h:W.cell? x=some u):x.spot=none/\x.block<W.heap.size:=by
 unfold World.cell? at h
 split at h
 ·rename_i cs t fz hb
  split at h
  ·cases h
  ·rename_i hsp
   exact ⟨by simpa using hsp,cC hb⟩
 ·cases h
theorem op_slice {t e:Du} {s:Nat} {R:D1->Prop} (hu:P.underlying t=some (.slice e)) (hs:P.cellsOf e=s) (h0:0<s) (he:pY enc P W base sp held e R):pY enc P W base sp held t fun xs=>∃ls:List (D1),xs=[.sl s ls.length ls.flatten]/\ls.length<=maxLen/\∀l∈ls,R l/\l.length=s:=by
 intro fuel cs y h
 rcases DataW.trod_slice hu h with ⟨rfl,_⟩|⟨a,len,cap,elems,rest,n,_,rfl,rfl,hb,hl,hm,hlen,hel,hsp,hns⟩
 ·refine ⟨[.sl s 0 []],⟨⟨_,_,rfl,?_,rfl⟩,by simp [Value.oneCell']⟩,[],rfl,by simp [maxLen],by simp⟩
  exact ⟨none,0,[],rfl,Ah _,by simp [maxLen],by simp,by simp [RepCs],by simp,fun h=>absurd h aA⟩
 ·rw [hs] at hel
  obtain ⟨us,ls,h1,h2,h3,h4,h5⟩:=bQ0 (R:=R) (s:=s) (a:=a) (W:=W) (base:=base) len (fun i hi=>by
   have:=hel i hi
   rw [Ab aA] at this
   rw [Ai] at this
   obtain ⟨ci,k1,k2⟩:=this
   obtain ⟨xs,k3,k4⟩:=he _ _ _ k2
   exact ⟨ci,xs,k1,k3,k4⟩)
  refine ⟨[.sl s len ls.flatten],⟨⟨_,_,rfl,?_,rfl⟩,by simp [Value.oneCell']⟩,ls,by rw [h3],by omega,h5⟩
  have hfl:ls.flatten.length=len*s:=by rw [<- h4.1.length,h1]
  refine ⟨some a,cap,us,rfl,hl,hm,hfl,h4.1,h4.2,fun hn=>?_⟩
  have hpos:0<len*s:=Nat.mul_pos hn h0
  have hc0:=h2 0 hpos
  rw [Ab aA] at hc0
  obtain ⟨e1,e2⟩:=aR7 hc0
  obtain ⟨b,o,spt⟩:=a
  simp only [Addr.add] at e1 e2
  subst e1
  refine ⟨b,o,rfl,trivial,e2,fun j x hj=>?_⟩
  have hjl:j<len*s:=by
   rw [<- h1]
   exact (Ag.1 hj).1
  have:=h2 j hjl
  rw [hj,iG] at this
  exact this
def OpF (enc:Du × Value->H) (P:Dv) (W:World) (base:Nat) (sp:Nat->Bool) (held:Bool) (off:Nat) (fs:List Field) (R:D1->Prop):Prop :=
 ∀(fuel:Nat) (cs:Do) ys,fs.mapM (fun f=>DataW.trod enc P W base sp held fuel f.type ((cs.drop f.offset).take (P.cellsOf f.type)))=some ys->cs.length=off+(fs.map fun f=>P.cellsOf f.type).sum->∃xs,RC W xs (cs.drop off)/\R xs
theorem opf_nil {off:Nat}:OpF enc P W base sp held off [] fun xs=>xs=[]:=by
 intro fuel cs ys h hl
 simp at hl
 exact ⟨[],⟨by rw [AG aA];rfl,by rw [AG aA];simp⟩,rfl⟩
theorem opf_cons {off s:Nat} {f:Field} {fs:List Field} {R1 R2:D1->Prop} (hoff:f.offset=off) (hs:P.cellsOf f.type=s) (he:pY enc P W base sp held f.type R1) (hr:OpF enc P W base sp held (off+s) fs R2):OpF enc P W base sp held off (f::fs) fun xs=>∃a b,xs=a++b/\R1 a/\R2 b:=by
 intro fuel cs ys h hl
 rw [Ct] at h
 simp only [bind,Ai,pure,Option.some.injEq] at h
 obtain ⟨y,hy,zs,hz,rfl⟩:=h
 simp only [AH,CX,hs] at hl
 obtain ⟨b,h1,h2⟩:=hr fuel cs zs hz aA
 obtain ⟨a,h3,h4⟩:=he _ _ _ hy
 refine ⟨a++b,?_,a,b,rfl,h4,h2⟩
 rw [hoff,hs] at h3
 have:=h3.app h1
 rw [<- BR,B9] at this
 exact this
theorem op_struct {t:Du} {fs:List Field} {R:D1->Prop} (hu:P.underlying t=some (.struct fs.toArray)) (hc:P.cellsOf t=(fs.map fun f=>P.cellsOf f.type).sum) (hf:OpF enc P W base sp held 0 fs R):pY enc P W base sp held t R:=by
 intro fuel cs y h
 cases fuel with
 | zero=>simp [DataW.trod] at h
 | succ m =>
  rw [DataW.trod_step] at h
  unfold DataW.trodStep at h
  simp only [hu] at h
  split at h
  ·rename_i hl
   simp only [Ap] at h
   obtain ⟨ys,hy,_⟩:=h
   obtain ⟨xs,h1,h2⟩:=hf m cs ys (by simpa using hy) (by rw [hl,hc];omega)
   rw [AY] at h1
   exact ⟨xs,h1,h2⟩
  ·cases h
theorem arg_one {t:Du} {v:Value} {d:DataW H} {p:List MemPlace} {R:D1->Prop} (he:pY enc P W base sp held t R) (h:DataW.Trod enc P W base sp held t v d p) (hv:v.cells = #[v]):∃x,RepC (fun _=>True) W x v/\R [x]:=by
 obtain ⟨fuel,hf⟩:=h
 rw [hv] at hf
 obtain ⟨xs,h1,h2⟩:=he _ _ _ hf
 obtain ⟨h1,_⟩:=h1
 cases xs with
 | nil=>simp [RepCs] at h1
 | cons x xs =>
  simp only [RepCs] at h1
  obtain ⟨u,us,e,h3,h4⟩:=h1
  injection e with e1 e2
  subst e1 e2
  cases xs with
  | nil=>exact ⟨x,h3,h2⟩
  | cons y ys=>simp [RepCs] at h4
theorem eP0 {t:Du} {cs:D0} {d:DataW H} {p:List MemPlace} {R:D1->Prop} (he:pY enc P W base sp held t R) (h:DataW.Trod enc P W base sp held t (.agg cs) d p):∃xs,RepC (fun _=>True) W (.agg xs) (.agg cs)/\R xs:=by
 obtain ⟨fuel,hf⟩:=h
 obtain ⟨xs,h1,h2⟩:=he _ _ _ hf
 exact ⟨xs,⟨cs.toList,by simp,h1.1,h1.2⟩,h2⟩
end
end
end Go.Av
namespace Go.Proofs.YtbgehdndimlgkaaGreat
open Go Go.RowKit Go.Av
def qI (l:D1):Prop:=∃m,l=[CV.v (.int .i64 m)]/\(Lit.int .i64 m).wf=true
def qU (l:D1):Prop:=∃m,l=[CV.v (.int .u8 m)]/\(Lit.int .u8 m).wf=true
def qS (l:D1):Prop:=∃s:ByteArray,l=[CV.v (.string s)]/\s.size<=maxLen
def qB (l:D1):Prop:=∃m,l=[CV.v (.bool m)]
def qN (l:D1):Prop:=l=[]
def qC (A B:D1->Prop) (l:D1):Prop:=∃a b,l=a++b/\A a/\B b
def qL (k:Nat) (A:D1->Prop) (l:D1):Prop:=∃ls:List (D1),l=[CV.sl k ls.length ls.flatten]/\ls.length<=maxLen/\∀l∈ls,A l/\l.length=k
def qA (n k:Nat) (A:D1->Prop) (l:D1):Prop:=∃ls:List (D1),l=ls.flatten/\ls.length=n/\∀l∈ls,A l/\l.length=k
def qVl:=qC qI (qC qI (qC qS qN))
def qId:=qC qS (qC qVl qN)
def qRq:=qC qI (qC qId (qC qI (qC qI (qC qI qN))))
def qLk:=qC qId (qC qId (qC qI (qC qB qN)))
def qHd:=qC qI (qC qI (qC qId (qC qI (qC qI (qC qI qN)))))
def qVr:=qC qI (qC qI (qC qI qN))
def qSr:=qC qI (qC qI qN)
def qEn:=qC qI (qC qI (qC qI (qC qI (qC qRq (qC qLk (qC qHd (qC (qL 3 qVr) (qC (qL 2 qSr) (qC (qA 32 1 qU) qN)))))))))
theorem mT {l:D1} (h:qI l):∃m,l=[iv m]/\aT m:=by
 obtain ⟨m,rfl,hw⟩:=h
 have e1:IntKind.i64.min = -9223372036854775808:=by decide
 have e2:IntKind.i64.max=9223372036854775807:=by decide
 simp only [Lit.wf,e1,e2,Bq,Ar] at hw
 exact ⟨m,rfl,hw.1,hw.2⟩
theorem dJ1 (t:ByteArray):∃s:Dm,t=⟨s.toArray⟩/\t.size=s.length:=⟨t.data.toList,by cases t;simp,by cases t;simp [ByteArray.size]⟩
section
variable {l:D1}
include l
theorem eM6 (h:qS l):∃s:Dm,l=[sv s]:=by
 obtain ⟨t,rfl,_⟩:=h
 obtain ⟨s,rfl,_⟩:=dJ1 t
 exact ⟨s,rfl⟩
theorem eM8 (h:qVl l):∃v:Vl,l=[iv v.k,iv v.n,sv v.t]:=by
 obtain ⟨a,b,rfl,h1,c,d,rfl,h2,e,f,rfl,h3,rfl⟩:=h
 obtain ⟨m,rfl,_⟩:=mT h1
 obtain ⟨k,rfl,_⟩:=mT h2
 obtain ⟨s,rfl⟩:=eM6 h3
 exact ⟨⟨m,k,s⟩,rfl⟩
theorem bP7 (h:qId l):∃v:Idf,l=[sv v.ns,iv v.v.k,iv v.v.n,sv v.v.t]:=by
 obtain ⟨a,b,rfl,h1,c,d,rfl,h2,rfl⟩:=h
 obtain ⟨s,rfl⟩:=eM6 h1
 obtain ⟨v,rfl⟩:=eM8 h2
 exact ⟨⟨s,v⟩,rfl⟩
theorem eM5 (h:qRq l):∃v:LRq,l=[iv v.k,sv v.who.ns,iv v.who.v.k,iv v.who.v.n,sv v.who.v.t,iv v.s,iv v.d,iv v.dl]/\aT v.k/\aT v.s/\aT v.d/\aT v.dl:=by
 obtain ⟨a,b,rfl,h1,a,b,rfl,h2,a,b,rfl,h3,a,b,rfl,h4,a,b,rfl,h5,rfl⟩:=h
 obtain ⟨k,rfl,k1⟩:=mT h1
 obtain ⟨i,rfl⟩:=bP7 h2
 obtain ⟨s,rfl,k2⟩:=mT h3
 obtain ⟨d,rfl,k3⟩:=mT h4
 obtain ⟨dl,rfl,k4⟩:=mT h5
 exact ⟨⟨k,i,s,d,dl⟩,rfl,k1,k2,k3,k4⟩
theorem eM4 (h:qLk l):∃v:LLk,l=[sv v.a.ns,iv v.a.v.k,iv v.a.v.n,sv v.a.v.t,sv v.b.ns,iv v.b.v.k,iv v.b.v.n,sv v.b.v.t,iv v.s,bv v.rv]/\aT v.s:=by
 obtain ⟨a,b,rfl,h1,a,b,rfl,h2,a,b,rfl,h3,a,b,rfl,h4,rfl⟩:=h
 obtain ⟨i,rfl⟩:=bP7 h1
 obtain ⟨j,rfl⟩:=bP7 h2
 obtain ⟨s,rfl,k1⟩:=mT h3
 obtain ⟨r,rfl⟩:=h4
 exact ⟨⟨i,j,s,r⟩,rfl,k1⟩
theorem eM3 (h:qHd l):∃v:LHd,l=[iv v.t,iv v.c,sv v.who.ns,iv v.who.v.k,iv v.who.v.n,sv v.who.v.t,iv v.s,iv v.fr,iv v.to]/\aT v.t/\aT v.c/\aT v.s/\aT v.fr/\aT v.to:=by
 obtain ⟨a,b,rfl,h1,a,b,rfl,h2,a,b,rfl,h3,a,b,rfl,h4,a,b,rfl,h5,a,b,rfl,h6,rfl⟩:=h
 obtain ⟨t,rfl,k1⟩:=mT h1
 obtain ⟨c,rfl,k2⟩:=mT h2
 obtain ⟨i,rfl⟩:=bP7 h3
 obtain ⟨s,rfl,k3⟩:=mT h4
 obtain ⟨fr,rfl,k4⟩:=mT h5
 obtain ⟨to,rfl,k5⟩:=mT h6
 exact ⟨⟨t,c,i,s,fr,to⟩,rfl,k1,k2,k3,k4,k5⟩
theorem eM9 (h:qVr l):∃v:Ver,l=[iv v.t,iv v.c,iv v.s]/\aT v.t/\aT v.c/\aT v.s:=by
 obtain ⟨a,b,rfl,h1,a,b,rfl,h2,a,b,rfl,h3,rfl⟩:=h
 obtain ⟨x,rfl,k1⟩:=mT h1
 obtain ⟨y,rfl,k2⟩:=mT h2
 obtain ⟨z,rfl,k3⟩:=mT h3
 exact ⟨⟨x,y,z⟩,rfl,k1,k2,k3⟩
theorem eM7 (h:qSr l):∃v:Src,l=[iv v.t,iv v.s]/\aT v.t/\aT v.s:=by
 obtain ⟨a,b,rfl,h1,a,b,rfl,h2,rfl⟩:=h
 obtain ⟨x,rfl,k1⟩:=mT h1
 obtain ⟨y,rfl,k2⟩:=mT h2
 exact ⟨⟨x,y⟩,rfl,k1,k2⟩
end
theorem cP7:∀(ls:List (D1)),(∀l∈ls,qVr l/\l.length=3)->∃r:List Ver,ls.flatten=vrc r/\r.length=ls.length/\∀v∈r,aT v.t/\aT v.c/\aT v.s
 | [],_=>⟨[],rfl,rfl,fun v h=>eS⟩
 | c::ls,h=>by
  obtain ⟨v,rfl,k⟩:=eM9 (h c aU).1
  obtain ⟨r,h1,h2,h3⟩:=cP7 ls fun d hd=>h d (by simp [hd])
  exact ⟨v::r,by rw [Bo,h1];rfl,by simp [h2],fun x hx=>(A6.1 hx).elim (fun e=>e▸k) (h3 x)⟩
theorem cP5:∀(ls:List (D1)),(∀l∈ls,qSr l/\l.length=2)->∃r:List Src,ls.flatten=src r/\r.length=ls.length/\∀v∈r,aT v.t/\aT v.s
 | [],_=>⟨[],rfl,rfl,fun v h=>eS⟩
 | c::ls,h=>by
  obtain ⟨v,rfl,k⟩:=eM7 (h c aU).1
  obtain ⟨r,h1,h2,h3⟩:=cP5 ls fun d hd=>h d (by simp [hd])
  exact ⟨v::r,by rw [Bo,h1];rfl,by simp [h2],fun x hx=>(A6.1 hx).elim (fun e=>e▸k) (h3 x)⟩
theorem cP6:∀(ls:List (D1)),(∀l∈ls,qU l/\l.length=1)->∃r:Dm,ls.flatten=u8c r/\r.length=ls.length
 | [],_=>⟨[],rfl,rfl⟩
 | c::ls,h=>by
  obtain ⟨m,rfl,hw⟩:=(h c aU).1
  obtain ⟨r,h1,h2⟩:=cP6 ls fun d hd=>h d (by simp [hd])
  have e1:IntKind.u8.min=0:=by decide
  have e2:IntKind.u8.max=255:=by decide
  simp only [Lit.wf,e1,e2,Bq,Ar] at hw
  refine ⟨UInt8.ofNat m.toNat::r,?_,by simp [h2]⟩
  rw [Bo,h1]
  have:((UInt8.ofNat m.toNat).toNat:Int)=m:=by
   rw [C2,BN aA]
   omega
  show [CV.v (.int .u8 m)]++u8c r=u8c (UInt8.ofNat m.toNat::r)
  unfold u8c
  rw [AH,this]
  rfl
theorem eM2 {l:D1} (h:qEn l):∃e:LEn,l=ecR e/\e.wf/\aT e.k:=by
 obtain ⟨a,b,rfl,h1,a,b,rfl,h2,a,b,rfl,h3,a,b,rfl,h4,a,b,rfl,h5,a,b,rfl,h6,a,b,rfl,h7,a,b,rfl,⟨ls,rfl,_,h8⟩,a,b,rfl,⟨ms,rfl,_,h9⟩,a,b,rfl,⟨us,rfl,hu,h10⟩,rfl⟩:=h
 obtain ⟨k,rfl,k1⟩:=mT h1
 obtain ⟨day,rfl,k2⟩:=mT h2
 obtain ⟨plan,rfl,k3⟩:=mT h3
 obtain ⟨step,rfl,k4⟩:=mT h4
 obtain ⟨rq,rfl,k5⟩:=eM5 h5
 obtain ⟨lk,rfl,k6⟩:=eM4 h6
 obtain ⟨hd,rfl,k7⟩:=eM3 h7
 obtain ⟨vs,e8,l8,k8⟩:=cP7 ls h8
 obtain ⟨ss,e9,l9,k9⟩:=cP5 ms h9
 obtain ⟨root,e10,l10⟩:=cP6 us h10
 refine ⟨⟨k,day,plan,step,rq,lk,hd,vs,ss,root⟩,?_,⟨⟨k2,k3,k4⟩,k5,k6,k7,k8,k9,by rw [l10];exact hu⟩,k1⟩
 rw [e8,e9,e10,<- l8,<- l9]
 show _=ecs _ _ _
 simp only [ecs,A4,AF,Ay]
end Go.Proofs.YtbgehdndimlgkaaGreat
