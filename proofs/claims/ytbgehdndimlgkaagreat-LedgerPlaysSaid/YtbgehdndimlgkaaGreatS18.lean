/- Lemmas for laws of the ledger. -/
import Derived.Test.YtbgehdndimlgkaaGreatS17
set_option linter.all false
set_option maxHeartbeats 16000000
namespace Go.Proofs.YtbgehdndimlgkaaGreat
open Go Go.RowKit Go.Av
set_option maxRecDepth 100000
section
section
variable {P:Dv} {tab:Tab} {ev:Evl} {h:aO} {d:Dt} {T T' ty:Du} {x y:Operand} {pos:String} {aft:Ds} {gd:Dn}
theorem cT2 (tb:bQ P tab) {e:TyE} {E size n:Nat} {cs:D1} (hn:0<n) (hT:aS tab T=some e) (hk:e.kind = .slice E) (hx:ev x=some (.c (.sl size n cs))) (hy:ev y=some (.c (.v (.slice none 0 0)))):Still P ⟨d,.binOp .eql T x y T',ty,pos,aft,gd⟩ ev h (.c (bv false)):=by
 intro B dom M H w a hh hc he
 have h1:=he x _ hx
 have h2:=he y _ hy
 simp only [Rep,RepC] at h1 h2
 obtain ⟨A,c,us,e1,e2,e3,e4,e5,e7,e6⟩:=h1
 obtain ⟨b,o,rfl,_⟩:=e6 hn
 refine ⟨.bool false,?_,rfl⟩
 have hr:=run_equal_slice_nil (P:=P) w T E (some ⟨b,o,none⟩) n c ((aM tb hT).slice hk)
 simp [execOp,e1,h2,eqGuard,binOp,hr]
end
attribute [local irreducible] Still Adds AWL AW Drw bX bY AC AWR cU Frz Go.Av.Src cQ Out InK ItK AsK RdK eP eI ACT ACA eW
attribute [local simp] bS bR bI
theorem cV4 (l:Dm):(u8c l).length=l.length*1:=by rw [aH,A8]
theorem aG9 (r:Dm) (n:Nat) (hn:r.length=n) (hb:n<=1000000000):qC' 174 [.sl 1 n (u8c r)] (.c (.sl 1 n (u8c r))) [] 0:=by
 by_cases h0:n=0
 ·have hr:r=[]:=An aA
  rw [h0,hr]
  show qC' _ ([] ++ .sl 1 0 []::[]) _ [] 0
  refine AC.split0 fun A c hc=>?_
  rw [Ay]
  have hrc:([]:D1)=u8c []:=rfl
  rw [<- hrc]
  cases A with
  | none =>
   refine aD aB (sz:=8) Tryz.func174 rfl (by rw [Tryz.ntmps174];rfl) ?_
   repeat' (first|(refine aC ?_;intro K hK hX)|refine cE3 ?_|(refine aG hK hX ?_;clear hK hX K)|fail)
   exact aY
  | some a =>
   refine aD aB (sz:=8) Tryz.func174 rfl (by rw [Tryz.ntmps174];rfl) ?_
   repeat' (first|(refine aC ?_;intro K hK hX)|refine cD7 ?_|(refine aG hK hX ?_;clear hK hX K)|fail)
   exact aY
 ·have hil:(u8c r).length=n*1:=by rw [cV4,hn]
  have hp:0<n:=by omega
  refine aD aB (sz:=8) Tryz.func174 rfl (by rw [Tryz.ntmps174];rfl) ?_
  repeat' (first|(refine aC ?_;intro K hK hX)|refine cE2 ?_|(refine aG hK hX ?_;clear hK hX K)|fail)
  rw [Aq n,Ay]
  exact aY
theorem bE2 (r:List Ver) (n:Nat) (hn:r.length=n) (hb:n<=1000000):qC' 119 [.sl 3 n (vrc r)] (.c (.sl 3 n (vrc r))) [] 0:=by
 by_cases h0:n=0
 ·have hr:r=[]:=An aA
  rw [h0,hr]
  show qC' _ ([] ++ .sl 3 0 []::[]) _ [] 0
  refine AC.split0 fun A c hc=>?_
  rw [Ay]
  have hrc:([]:D1)=vrc []:=rfl
  rw [<- hrc]
  cases A with
  | none =>
   refine aD aB (sz:=8) Tryz.func119 rfl (by rw [Tryz.ntmps119];rfl) ?_
   repeat' (first|(refine aC ?_;intro K hK hX)|refine cE3 ?_|(refine aG hK hX ?_;clear hK hX K)|fail)
   exact aY
  | some a =>
   refine aD aB (sz:=8) Tryz.func119 rfl (by rw [Tryz.ntmps119];rfl) ?_
   repeat' (first|(refine aC ?_;intro K hK hX)|refine cD7 ?_|(refine aG hK hX ?_;clear hK hX K)|fail)
   exact aY
 ·have hil:(vrc r).length=n*3:=by rw [dC,hn]
  have hp:0<n:=by omega
  refine aD aB (sz:=8) Tryz.func119 rfl (by rw [Tryz.ntmps119];rfl) ?_
  repeat' (first|(refine aC ?_;intro K hK hX)|refine cE2 ?_|(refine aG hK hX ?_;clear hK hX K)|fail)
  rw [Aq n,Ay]
  exact aY
theorem bE1 (r:List Src) (n:Nat) (hn:r.length=n) (hb:n<=1000000):qC' 186 [.sl 2 n (src r)] (.c (.sl 2 n (src r))) [] 0:=by
 by_cases h0:n=0
 ·have hr:r=[]:=An aA
  rw [h0,hr]
  show qC' _ ([] ++ .sl 2 0 []::[]) _ [] 0
  refine AC.split0 fun A c hc=>?_
  rw [Ay]
  have hrc:([]:D1)=src []:=rfl
  rw [<- hrc]
  cases A with
  | none =>
   refine aD aB (sz:=8) Tryz.func186 rfl (by rw [Tryz.ntmps186];rfl) ?_
   repeat' (first|(refine aC ?_;intro K hK hX)|refine cE3 ?_|(refine aG hK hX ?_;clear hK hX K)|fail)
   exact aY
  | some a =>
   refine aD aB (sz:=8) Tryz.func186 rfl (by rw [Tryz.ntmps186];rfl) ?_
   repeat' (first|(refine aC ?_;intro K hK hX)|refine cD7 ?_|(refine aG hK hX ?_;clear hK hX K)|fail)
   exact aY
 ·have hil:(src r).length=n*2:=by rw [dV,hn]
  have hp:0<n:=by omega
  refine aD aB (sz:=8) Tryz.func186 rfl (by rw [Tryz.ntmps186];rfl) ?_
  repeat' (first|(refine aC ?_;intro K hK hX)|refine cE2 ?_|(refine aG hK hX ?_;clear hK hX K)|fail)
  rw [Aq n,Ay]
  exact aY
theorem cQ0:pW Tryz.prog 173 3:=by
 intro us w hl
 obtain ⟨u0,u1,u2,rfl⟩:∃u0 u1 u2,us=[u0,u1,u2]:=by
  match us,hl with | [u0,u1,u2],_=>exact ⟨u0,u1,u2,rfl⟩
 refine callsD_of_wpS Tryz.func173 rfl fun c₀ cs hu=>?_
 apply wpS_seq
 apply wpS_region
 simp [wpOpsS,go_sem,recoverD,hu,Tryz.ntmps173,Exit.thenS]
 refine wpS_cond (t:=false) pS ?_
 simp only [AB,AQ]
 refine wpS_of_wp (wp_skip ?_)
 cases c₀
 simp_all [bodyPostS,results,Tryz.results173]
theorem bG9:Body Tryz.prog 173:=by unfold Body;kernel_rfl
theorem cQ1:pW Tryz.prog 215 3:=by
 intro us w hl
 obtain ⟨u0,u1,u2,rfl⟩:∃u0 u1 u2,us=[u0,u1,u2]:=by
  match us,hl with | [u0,u1,u2],_=>exact ⟨u0,u1,u2,rfl⟩
 refine callsD_of_wpS Tryz.func215 rfl fun c₀ cs hu=>?_
 apply wpS_seq
 apply wpS_region
 simp [wpOpsS,go_sem,recoverD,hu,Tryz.ntmps215,Exit.thenS]
 refine wpS_cond (t:=false) pS ?_
 simp only [AB,AQ]
 refine wpS_of_wp (wp_skip ?_)
 cases c₀
 simp_all [bodyPostS,results,Tryz.results215]
theorem bH0:Body Tryz.prog 215:=by unfold Body;kernel_rfl
theorem cQ5 (b:Dm) (m:Nat) (hm:b.length=m) (hb:m<=1000000000):∃n s',bT ⟨b,0⟩=(n,s')/\aT n/\∃b' e' m',s'=⟨b',e'⟩/\b'.length=m'/\m'<=m/\(e'=0->qC' 120 [.sl 1 m (u8c b)] (.tup [.c (iv n),.c (.sl 1 m' (u8c b')),.c (iv 0)]) [] 0)/\(e'≠0->qC' 120 [.sl 1 m (u8c b)] (.tup [.c (iv 0),.c (.v (.slice none 0 0)),.c (iv e')]) [] 0):=by
 obtain ⟨n,s',q1,q2,b',e',m',rfl,q3,q4,q5,q6⟩:=gQ b 0 m hm hb
 refine ⟨n,_,q1,q2,b',e',m',rfl,q4,q5,fun he=>?_,fun he=>?_⟩
 ·subst he
  have hcl:=aG9 b' m' q4 q6
  refine aD aB (sz:=10) Tryz.func120 rfl (by rw [Tryz.ntmps120];rfl) ?_
  repeat' (first|(refine aC ?_;intro K hK hX)|refine aK (List.range 9) ?_|((with_reducible refine aQ ?_);refine aP (List.range 9) rfl rfl ?_;refine bW [162] ?_)|((with_reducible refine bB ?_);refine oT (q3) aE rfl zby rfl rfl rfl rfl rfl zcv rfl ztp ?_)|(refine iK ?_;refine c0 hcl ?_)|((first|with_reducible refine aF ?_|with_reducible refine bB ?_);refine bV aB (List.range 32) aE rfl rfl zby Tryz.func162 rfl rfl rfl (szf:=32) (by rw [Tryz.ntmps162];rfl) rfl ?_)|refine stA ?_|refine stE ?_|(refine aG hK hX ?_;clear hK hX K)|fail|(first|refine bK zio bM4 rfl rfl (ResL.three zrs zrs zrs) ?_|refine bJ zio bM4 rfl rfl (ResL.three zrs zrs zrs) ?_))
  exact dR7
 ·refine aD aB (sz:=10) Tryz.func120 rfl (by rw [Tryz.ntmps120];rfl) ?_
  repeat' (first|(refine aC ?_;intro K hK hX)|refine aK (List.range 9) ?_|((with_reducible refine aQ ?_);refine aP (List.range 9) rfl rfl ?_;refine bW [162] ?_)|((with_reducible refine bB ?_);refine oT (q3) aE rfl zby rfl rfl rfl rfl rfl zcv rfl ztp ?_)|((first|with_reducible refine aF ?_|with_reducible refine bB ?_);refine bV aB (List.range 32) aE rfl rfl zby Tryz.func162 rfl rfl rfl (szf:=32) (by rw [Tryz.ntmps162];rfl) rfl ?_)|refine stA ?_|refine stE ?_|(refine aG hK hX ?_;clear hK hX K)|fail|(first|refine bK zio bM4 rfl rfl (ResL.three zrs zrs zrs) ?_|refine bJ zio bM4 rfl rfl (ResL.three zrs zrs zrs) ?_))
  exact dR7
def en0:LEn:=⟨0,0,0,0,rq0,lk0,hd0,[],[],root0⟩
theorem aD4 (b:Dm) (m:Nat) (hm:b.length=m) (hb:m<=1000000000):∃r s' nv ns,rEn rpP ⟨b,0⟩=(r,s')/\r.vs.length=nv/\r.ss.length=ns/\r.root.length=32/\∃b' e' m',s'=⟨b',e'⟩/\b'.length=m'/\m'<=m/\(e'=0->qC' 77 [.sl 1 m (u8c b)] (.tup [.c (.agg (ecs r nv ns)),.c (.sl 1 m' (u8c b')),.c (iv 0)]) [] 0)/\(e'≠0->qC' 77 [.sl 1 m (u8c b)] (.tup [.c (.agg (ecs en0 0 0)),.c (.v (.slice none 0 0)),.c (iv e')]) [] 0):=by
 obtain ⟨r,s',nv,ns,q1,hv,hs,hr,b',e',m',rfl,q3,q4,q5,q6⟩:=cK5 b 0 m hm hb
 have hel:=cK hr nv ns
 refine ⟨r,_,nv,ns,q1,hv,hs,hr,b',e',m',rfl,q4,q5,fun he=>?_,fun he=>?_⟩
 ·subst he
  have hcl:=aG9 b' m' q4 q6
  generalize ecs r nv ns=cs at *
  have hwh:∀l:D1,l=cs->(l.drop 0).take 65=cs:=fun l h=>by rw [h,AY,Ad (Cd hel)]
  refine aD aB (sz:=10) Tryz.func77 rfl (by rw [Tryz.ntmps77];rfl) ?_
  repeat' (first|(refine aC ?_;intro K hK hX)|refine aK (List.range 9) ?_|((with_reducible refine aQ ?_);refine aP (List.range 9) rfl rfl ?_;refine bW [145] ?_)|((with_reducible refine aW ?_);refine yA ?_;refine bC (aR (T:=49) aB rfl rfl rfl) rfl ?_)|((with_reducible refine bB ?_);refine oT (q3) aE rfl zby rfl rfl rfl rfl rfl zcv rfl ztp ?_)|(refine iK ?_;refine c0 hcl ?_)|((first|with_reducible refine aF ?_|with_reducible refine bB ?_);refine bV aB (List.range 32) aE rfl rfl zby Tryz.func145 rfl rfl rfl (szf:=32) (by rw [Tryz.ntmps145];rfl) rfl ?_)|refine stA ?_|refine stE ?_|(refine aG hK hX ?_;clear hK hX K)|fail|(first|refine bK zio bM5 rfl rfl (ResL.three zrs zrs zrs) ?_|refine bJ zio bM5 rfl rfl (ResL.three zrs zrs zrs) ?_))
  exact dR8
 ·skip
  generalize ecs r nv ns=cs at *
  dsimp only [ecs,en0,lk0,hd0,iE,rq0,Vl.nul]
  refine aD aB (sz:=10) Tryz.func77 rfl (by rw [Tryz.ntmps77];rfl) ?_
  repeat' (first|(refine aC ?_;intro K hK hX)|refine aK (List.range 9) ?_|((with_reducible refine aQ ?_);refine aP (List.range 9) rfl rfl ?_;refine bW [145] ?_)|((with_reducible refine aW ?_);refine yA ?_;refine bC (aR (T:=49) aB rfl rfl rfl) rfl ?_)|((with_reducible refine bB ?_);refine oT (q3) aE rfl zby rfl rfl rfl rfl rfl zcv rfl ztp ?_)|((first|with_reducible refine aF ?_|with_reducible refine bB ?_);refine bV aB (List.range 32) aE rfl rfl zby Tryz.func145 rfl rfl rfl (szf:=32) (by rw [Tryz.ntmps145];rfl) rfl ?_)|refine stA ?_|refine stE ?_|(refine aG hK hX ?_;clear hK hX K)|fail|(first|refine bK zio bM5 rfl rfl (ResL.three zrs zrs zrs) ?_|refine bJ zio bM5 rfl rfl (ResL.three zrs zrs zrs) ?_))
  exact dR8
end
section
attribute [local irreducible] Still Adds AWL AW Drw AC AWR cU Frz Go.Av.Src cQ Out
abbrev wv (x:BitVec 64):CV := .v (.int .u64 (x.toNat:Int))
theorem dH8 (x:BitVec 64) (k:Int):qC' 257 [wv x,iv k] (.c (wv (x <<< (BitVec.ofInt 64 k &&& 63#64).toNat ||| x >>> (64#64-(BitVec.ofInt 64 k &&& 63#64)).toNat))) [] 0:=by
 refine aD aB (sz:=17) Tryz.func257 rfl (by rw [Tryz.ntmps257];rfl) ?_
 repeat' (first|(refine aC ?_;intro K hK hX)|refine aK [0,1,4,5] ?_|refine stA ?_|(refine aG hK hX ?_;clear hK hX K)|fail)
 exact aY
def aY8 (x:BitVec 64) (n:Nat):BitVec 64:=x >>> n ||| x <<< (64-n)
theorem bH8:∀a:Fin 64,0<a.val->(BitVec.ofInt 64 (0-(a.val:Int)) &&& 63#64).toNat=64-a.val/\(64#64-(BitVec.ofInt 64 (0-(a.val:Int)) &&& 63#64)).toNat=a.val:=by decide
theorem eC0 (x:BitVec 64) (a:Nat) (h0:0<a) (h1:a<64):x <<< (BitVec.ofInt 64 (0-(a:Int)) &&& 63#64).toNat ||| x >>> (64#64-(BitVec.ofInt 64 (0-(a:Int)) &&& 63#64)).toNat=aY8 x a:=by
 obtain ⟨e1,e2⟩:=bH8 ⟨a,h1⟩ h0
 simp only at e1 e2
 rw [e1,e2,aY8,BitVec.or_comm]
theorem bQ9 (x:BitVec 64) (a:Nat) (h0:0<a) (h1:a<64):qC' 257 [wv x,iv (0-(a:Int))] (.c (wv (aY8 x a))) [] 0:=by
 have:=dH8 x (0-(a:Int))
 rwa [eC0 x a h0 h1] at this
def mix (x:BitVec 64) (a b:Nat):BitVec 64:=x ^^^ aY8 x a ^^^ aY8 x b
theorem rE (x:BitVec 64) (a b:Nat) (h0:0<a) (h1:a<64) (h2:0<b) (h3:b<64):qC' 250 [wv x,iv a,iv b] (.c (wv (mix x a b))) [] 0:=by
 refine aD aB (sz:=18) Tryz.func250 rfl (by rw [Tryz.ntmps250];rfl) ?_
 repeat' (first|(refine aC ?_;intro K hK hX)|refine aK [0,1,2,6] ?_|(refine dK ?_;first|refine c0 (bQ9 x a h0 h1) ?_|refine c0 (bQ9 x b h2 h3) ?_)|refine stA ?_|(refine aG hK hX ?_;clear hK hX K)|fail)
 exact aY
theorem aK8 (x:BitVec 64) (a:Nat) (h0:0<a) (h1:a<64):qC' 254 [wv x,iv a] (.c (wv (aY8 x a))) [] 0:=by
 refine aD aB (sz:=13) Tryz.func254 rfl (by rw [Tryz.ntmps254];rfl) ?_
 repeat' (first|(refine aC ?_;intro K hK hX)|refine bE [0,1,4] ?_|((first|((with_reducible refine bP ?_);refine xA ?_)|((with_reducible refine cZ ?_);refine xD ?_));(first|((with_reducible refine bU ?_);(first|refine aL (wT (by exact rfl) (by exact nD) (by exact rfl) (show 64-(a:Int)=((64-a:Nat):Int) by omega)) ?_))))|refine stA ?_|refine stD ?_|(refine aG hK hX ?_;clear hK hX K)|fail)
 exact aY
end
section
attribute [local irreducible] Still Adds AWL AW Drw AC AWR cU Frz Go.Av.Src cQ Out
structure S5 where
 a:BitVec 64
 b:BitVec 64
 c:BitVec 64
 d:BitVec 64
 e:BitVec 64
deriving DecidableEq
def S5.cs (s:S5):D1:=[wv s.a,wv s.b,wv s.c,wv s.d,wv s.e]
def rnd (k:BitVec 64) (s:S5):S5 :=
 let c:=s.c ^^^ k
 let a:=s.a ^^^ s.e
 let e:=s.e ^^^ s.d
 let c:=c ^^^ s.b
 let t0 := ~~~a &&& s.b
 let t1 := ~~~s.b &&& c
 let t2 := ~~~c &&& s.d
 let t3 := ~~~s.d &&& e
 let t4 := ~~~e &&& a
 let a:=a ^^^ t1
 let b:=s.b ^^^ t2
 let c:=c ^^^ t3
 let d:=s.d ^^^ t4
 let e:=e ^^^ t0
 let b:=b ^^^ a
 let a:=a ^^^ e
 let d:=d ^^^ c
 let c := ~~~c
 ⟨mix a 19 28,mix b 61 39,mix c 1 6,mix d 10 17,mix e 7 41⟩
def rk (r:Nat):BitVec 64:=BitVec.ofInt 64 (240-15*(r:Int))
def wL:Nat->S5->S5
 | 0,s=>s
 | r+1,s=>rnd (rk r) (wL r s)
def pH (s:S5):S5:=wL 12 s
abbrev z5:D1:=[.v (.int .u64 0),.v (.int .u64 0),.v (.int .u64 0),.v (.int .u64 0),.v (.int .u64 0)]
theorem pI (s:S5):qC' 230 [.agg s.cs] (.c (.agg (pH s).cs)) [] 0:=by
 refine aD aB (sz:=139) Tryz.func230 rfl (by rw [Tryz.ntmps230];rfl) ?_
 repeat' (first|(refine aC ?_;intro K hK hX)|refine aK [0,1,2,3,4,5] ?_|refine stA ?_|(refine aG hK hX ?_;clear hK hX K)|fail)
 refine cL 2 (fun r:Nat=>[(1,.ref 0 0),(2,.ref 1 0),(5,.c (iv r))]) (fun r=>[(0,.row 198 (wL r s).cs),(1,.row 198 z5)]) [] (fun r=>r<=12) (fun r=>12-r) 0 aA eH ?_
 intro r hr K hK hX
 by_cases hlt:r<12
 ·repeat' (first|(refine aC ?_;intro K hK hX)|refine aK [0,1,2,3,4,5] ?_|(refine dK ?_;first|refine c0 (rE _ 19 28 aN aN aN aN) ?_|refine c0 (rE _ 61 39 aN aN aN aN) ?_|refine c0 (rE _ 1 6 aN aN aN aN) ?_|refine c0 (rE _ 10 17 aN aN aN aN) ?_|refine c0 (rE _ 7 41 aN aN aN aN) ?_)|refine stA ?_|(refine aG hK hX ?_;clear hK hX K)|fail)
  exact ⟨r+1,by omega,by omega,eH⟩
 ·repeat' (first|(refine aC ?_;intro K hK hX)|refine aK [0,1,2,3,4,5] ?_|refine stA ?_|(refine aG hK hX ?_;clear hK hX K)|fail)
  obtain rfl:r=12:=by omega
  exact mL
end
end Go.Proofs.YtbgehdndimlgkaaGreat
namespace Go.Proofs.YtbgehdndimlgkaaGreat
open Go Go.RowKit Go.Av
def wdN (l:Dm):Nat->BitVec 64
 | 0=>0#64
 | i+1=>wdN l i ||| (((l.getD i 0).toBitVec.setWidth 64) <<< (8*i))
def cW4 (s:S5) (x:BitVec 64):S5:={s with a:=s.a ^^^ x}
def xY (s:S5) (l:Dm):Nat->S5
 | 0=>s
 | k+1=>pH (cW4 (xY s l k) (wdN ((l.drop (8*k)).take 8) 8))
def aG3 (r:Dm):Dm:=r++1::List.replicate (7-r.length) 0
def aF4 (dom:BitVec 64):S5:=pH ⟨dom,1#64,2#64,3#64,4#64⟩
def oQ (dom:BitVec 64) (l:Dm):S5:=pH (cW4 (xY (aF4 dom) l (l.length / 8)) (wdN (aG3 (l.drop (8*(l.length / 8)))) 8))
def oI (l:Dm):Dm:=l++1::List.replicate (7-l.length%8) 0
theorem rH (r:Dm) (h:r.length<8):(aG3 r).length=8:=by simp [aG3];omega
theorem xS (l:Dm):(oI l).length=8*(l.length / 8+1):=by simp [oI];omega
theorem bW9 (l:Dm):(oI l).drop (8*(l.length / 8))=aG3 (l.drop (8*(l.length / 8))):=by
 have h:8*(l.length / 8)<=l.length:=by omega
 unfold oI aG3
 rw [B7 h,A0]
 congr 3
 omega
theorem bX0 (l:Dm) (j:Nat) (h:j<l.length / 8):((oI l).drop (8*j)).take 8=(l.drop (8*j)).take 8:=by
 unfold oI
 rw [B7 aA,AD aI1]
theorem aG7 (s:S5) (l:Dm):∀j,j<=l.length / 8->xY s (oI l) j=xY s l j
 | 0,_=>rfl
 | j+1,h=>by
  simp only [xY]
  rw [aG7 s l j aA,bX0 l j aA]
theorem aS4 (dom:BitVec 64) (l:Dm):xY (aF4 dom) (oI l) (l.length / 8+1)=oQ dom l:=by
 simp only [xY]
 rw [aG7 _ l _ (Ah _),bW9,Ad (by
  rw [rH]
  ·exact Ah _
  ·rw [A0];omega)]
 rfl
def sW:Nat->S5->S5
 | 0,s=>s
 | k+1,s=>pH (sW k s)
def uZ (s:S5) (i:Nat):UInt8:=UInt8.ofBitVec (((sW (i / 8) s).a >>> (8*(i%8))).setWidth 8)
def lJ (s:S5) (n:Nat):Dm:=(List.range n).map (uZ s)
theorem gU (s:S5) (n:Nat):(lJ s n).length=n:=by simp [lJ]
theorem aJ9 (s:S5) (n:Nat):lJ s (n+1)=lJ s n++[uZ s n]:=by simp [lJ,List.range_succ]
theorem bW7 (s:S5) (n m:Nat) (h:n<=m):(lJ s m).take n=lJ s n:=by
 simp only [lJ,<- List.map_take,List.take_range,B0 h]
def sum (dom:BitVec 64) (l:Dm):Dm:=lJ (oQ dom l) 32
theorem tK (dom:BitVec 64) (l:Dm):(sum dom l).length=32:=gU _ _
end Go.Proofs.YtbgehdndimlgkaaGreat
namespace Go.Proofs.YtbgehdndimlgkaaGreat
open Go Go.RowKit Go.Av
set_option maxRecDepth 100000
section
theorem dV0 (l:Dm) (i:Nat) (h:i<l.length):(u8c l)[i*1]? = some (.v (.int .u8 ((l.getD i 0).toNat:Int))):=by
 rw [A8]
 refine bR8 ?_
 simp [List.getD,Ab h]
theorem eE3 (l:Dm) (i:Nat) (h:i<l.length):(u8c l)[0+i*1]? = some (.v (.int .u8 ((l.getD i 0).toNat:Int))):=by
 rw [Aq];exact dV0 l i h
attribute [local irreducible] Still Adds AWL AW Drw AC AWR cU Frz Go.Av.Src cQ Out
theorem bS2 (l:Dm) (hl:l.length=8):qC' 231 [.sl 1 8 (u8c l)] (.c (wv (wdN l 8))) [] 0:=by
 refine aD aB (sz:=22) Tryz.func231 rfl (by rw [Tryz.ntmps231];rfl) ?_
 repeat' (first|(refine aC ?_;intro K hK hX)|refine aK [0,2,3,4,5,6,7,8] ?_|refine stA ?_|(refine aG hK hX ?_;clear hK hX K)|fail)
 refine cL 0 (fun i:Nat=>[(6,.c (.sl 1 8 (u8c l))),(7,.c (iv 8)),(8,.c (iv i)),(3,.c (wv (wdN l i)))]) (fun i=>[]) [] (fun i=>i<=8) (fun i=>8-i) 0 aA eH ?_
 intro i hi K hK hX
 by_cases hlt:i<8
 ·repeat' (first|(refine aC ?_;intro K hK hX)|refine aK [0,2,3,4,5,6,7,8] ?_|(((with_reducible refine bP ?_);refine xA ?_);(first|((with_reducible refine bU ?_);(first|refine aL (wT rfl nD rfl (show 8*(i:Int)=((8*i:Nat):Int) by omega)) ?_))|((with_reducible refine gO ?_);(first|refine aL (jB aB rfl rfl rfl rfl sU) ?_|refine aL (gS aB rfl rfl rfl rfl sU) ?_|refine aL (gR aB rfl rfl rfl sU) ?_))|((with_reducible refine e_ix ?_);(first|refine aL (s_ixV1 aB rfl rfl zcj rfl rfl rfl rfl rfl zle sU) ?_|refine aL (s_ixStr aB rfl rfl zcj rfl rfl sU) ?_))))|refine stA ?_|(refine aG hK hX ?_;clear hK hX K)|fail)
  exact ⟨i+1,by omega,by omega,eH⟩
 ·obtain rfl:i=8:=by omega
  repeat' (first|(refine aC ?_;intro K hK hX)|refine aK [0,2,3,4,5,6,7,8] ?_|refine stA ?_|(refine aG hK hX ?_;clear hK hX K)|fail)
  exact aY
theorem cS5 (l:Dm) (hl:l.length=8):qC' 244 [.sl 1 8 (u8c l)] (.c (wv (wdN l 8))) [] 0:=by
 refine aD aB (sz:=20) Tryz.func244 rfl (by rw [Tryz.ntmps244];rfl) ?_
 repeat' (first|(refine aC ?_;intro K hK hX)|refine wZ ?_|(refine aG hK hX ?_;clear hK hX K)|fail)
 refine cL 0 (fun i:Nat=>[(0,.c (.sl 1 8 (u8c l))),(4,.c (iv i)),(3,.c (wv (wdN l i)))]) (fun i=>[]) [] (fun i=>i<=8) (fun i=>8-i) 0 aA eH ?_
 intro i hi K hK hX
 by_cases hlt:i<8
 ·repeat' (first|(refine aC ?_;intro K hK hX)|refine aK [0,2,3,4] ?_|(((with_reducible refine bP ?_);refine xA ?_);(first|((with_reducible refine bU ?_);(first|refine aL (wT rfl nD rfl (show 8*(i:Int)=((8*i:Nat):Int) by omega)) ?_))|((with_reducible refine gO ?_);(first|refine aL (jB aB rfl rfl rfl rfl sU) ?_|refine aL (gS aB rfl rfl rfl rfl sU) ?_|refine aL (gR aB rfl rfl rfl sU) ?_))|((with_reducible refine e_ix ?_);(first|refine aL (s_ixV1 aB rfl rfl zcj rfl rfl rfl rfl rfl zle sU) ?_|refine aL (s_ixStr aB rfl rfl zcj rfl rfl sU) ?_))))|refine stA ?_|(refine aG hK hX ?_;clear hK hX K)|fail)
  exact ⟨i+1,by omega,by omega,eH⟩
 ·obtain rfl:i=8:=by omega
  repeat' (first|(refine aC ?_;intro K hK hX)|refine wZ ?_|(refine aG hK hX ?_;clear hK hX K)|fail)
  exact aY
end
section
theorem dI6 (l:Dm) (n k:Nat) (hl:l.length=n) (h:8*(k+1)<=n):AV.c (CV.sl 1 (n-8*k-8) (List.take ((n-8*k-8)*1) (List.drop (8*1) (u8c (List.drop (8*k) l)))))=AV.c (CV.sl 1 (n-8*(k+1)) (u8c (List.drop (8*(k+1)) l))):=by
 rw [A8,A8,bR,bS,BR,Ad aI1,show n-8*k-8=n-8*(k+1) by omega,show 8*k+8=8*(k+1) by omega]
theorem aX1 (r:Dm) (m:Nat) (h:r.length=m) (hm:m<8):lay (List.map CV.v [Value.int IntKind.u8 0,Value.int IntKind.u8 0,Value.int IntKind.u8 0,Value.int IntKind.u8 0,Value.int IntKind.u8 0,Value.int IntKind.u8 0,Value.int IntKind.u8 0,Value.int IntKind.u8 0]) (0+0*1) (u8c r)=u8c (r++List.replicate (8-m) 0):=by
 have:List.map CV.v [Value.int IntKind.u8 0,Value.int IntKind.u8 0,Value.int IntKind.u8 0,Value.int IntKind.u8 0,Value.int IntKind.u8 0,Value.int IntKind.u8 0,Value.int IntKind.u8 0,Value.int IntKind.u8 0]=u8c (List.replicate 8 0):=rfl
 rw [this]
 simp only [lay,Cf,Ck,C9,Ay,Aq,aH,bR,h,bI,List.drop_replicate]
theorem dI5 (r:Dm) (m:Nat) (h:r.length=m) (hm:m<8):(u8c (r++List.replicate (8-m) 0)).set (0+m*1) (.v (.int .u8 1))=u8c (aG3 r):=by
 have:CV.v (.int .u8 1) = .v (.int .u8 ((1:UInt8).toNat:Int)):=rfl
 rw [this,Aq,A8]
 unfold u8c
 rw [<- List.map_set]
 congr 1
 unfold aG3
 rw [BM _ _ aA,h,BU,show 8-m=(7-m)+1 by omega,C0,BY]
attribute [local irreducible] Still Adds AWL AW Drw AC AWR cU Frz Go.Av.Src cQ Out
attribute [local simp] bS bR
theorem bS5 (dom:BitVec 64) (l:Dm) (n:Nat) (hl:l.length=n) (hm:n<=maxLen):qC' 184 [wv dom,.sl 1 n (u8c l)] (.c (.agg (oQ dom l).cs)) [] 0:=by
 have hm':n<=9223372036854775807:=hm
 refine aD aB (sz:=38) Tryz.func184 rfl (by rw [Tryz.ntmps184];rfl) ?_
 repeat' (first|(refine aC ?_;intro K hK hX)|refine bE [0,1,4,5,6] ?_|(refine bZ ?_;refine c0 (pI ⟨dom,1#64,2#64,3#64,4#64⟩) ?_)|refine stA ?_|refine stD ?_|(refine aG hK hX ?_;clear hK hX K)|fail)
 refine cL 2 (fun k:Nat=>[(4,.ref 0 0),(5,.ref 1 0),(1,.c (.sl 1 (n-8*k) (u8c (l.drop (8*k)))))]) (fun k=>[(0,.row 198 z5),(1,.row 198 (xY (aF4 dom) l k).cs)]) [] (fun k=>8*k<=n) (fun k=>n-8*k) 0 aA eH ?_
 intro k hk K hK hX
 by_cases hlt:8<=n-8*k
 ·repeat' (first|(refine aC ?_;intro K hK hX)|refine bE [0,1,4,5,6] ?_|(refine bZ ?_;first|refine c0 (bS2 ((l.drop (8*k)).take 8) fU) ?_|refine c0 (pI (cW4 (xY (aF4 dom) l k) (wdN ((l.drop (8*k)).take 8) 8))) ?_)|refine stA ?_|refine stD ?_|(refine aG hK hX ?_;clear hK hX K)|fail)
  exact ⟨k+1,by omega,by omega,(by refine dW rfl ?_ ?_ rfl<;>(repeat' (first|exact cO|exact cP|refine cG rfl dR0 rfl ?_|refine bD rfl dR0 rfl ?_)))⟩
 ·have hr:(l.drop (8*k)).length=n-8*k:=by rw [A0,hl]
  have hkn:k=l.length / 8:=by omega
  have hp:(u8c (aG3 (l.drop (8*k)))).length=8:=by rw [aH,rH];omega
  have hq:(u8c (l.drop (8*k)++List.replicate (8-(n-8*k)) 0)).length=8:=by rw [aH,Aa,CE];omega
  have hk8:n-8*k<8:=by omega
  have hfit:0+(n-8*k)*1<(lay (List.map CV.v [Value.int IntKind.u8 0,Value.int IntKind.u8 0,Value.int IntKind.u8 0,Value.int IntKind.u8 0,Value.int IntKind.u8 0,Value.int IntKind.u8 0,Value.int IntKind.u8 0,Value.int IntKind.u8 0]) (0+0*1) (u8c (l.drop (8*k)))).length:=by rw [aX1 _ _ hr aA,hq];omega
  repeat' (first|(refine aC ?_;intro K hK hX)|refine bE [0,1,4,5,6] ?_|((with_reducible refine fS ?_);(refine eQ aB aE rfl rfl rfl rfl rfl rfl dQ0 ?_))|refine stA ?_|refine stD ?_|(refine aG hK hX ?_;clear hK hX K)|fail)
  rw [aX1 _ _ hr aA]
  rw [dI5 _ _ hr aA]
  repeat' (first|(refine aC ?_;intro K hK hX)|refine bE [0,1,4,5,6] ?_|((first|with_reducible refine aF ?_|with_reducible refine gG ?_);(first|refine wA ?_|refine wN ?_|refine wD ?_);(first|refine cF (bS2 (aG3 (l.drop (8*k))) (by rw [rH];omega)) ?_))|(refine bZ ?_;refine c0 (pI (cW4 (xY (aF4 dom) l k) (wdN (aG3 (l.drop (8*k))) 8))) ?_)|refine stA ?_|refine stD ?_|(refine aG hK hX ?_;clear hK hX K)|fail)
  subst hkn
  exact mL
end
section
theorem cU9:pW Tryz.prog 182 0:=by
 intro us w hl
 obtain ⟨_,rfl⟩:∃_:Unit,us=[]:=by
  match us,hl with | [],_=>exact ⟨(),rfl⟩
 refine callsD_of_wpS Tryz.func182 rfl fun c₀ cs hu=>?_
 apply wpS_region
 simp [wpOpsS,go_sem,recoverD,hu,Tryz.ntmps182,Exit.thenS]
 cases c₀
 simp_all [bodyPostS,results,Tryz.results182]
theorem bJ4:Body Tryz.prog 182:=by unfold Body;kernel_rfl
def fil (S:S5) (n i:Nat):Dm:=lJ S i++List.replicate (n-i) 0
theorem aW2 (S:S5) (n:Nat):fil S n n=lJ S n:=by simp [fil]
theorem aB5 (S:S5) (n i:Nat) (h:i<=n):(fil S n i).length=n:=by simp [fil,gU];omega
theorem dJ4 (l:Dm) (i:Nat) (b:UInt8):(u8c l).set i (.v (.int .u8 (b.toNat:Int)))=u8c (l.set i b):=by
 unfold u8c
 rw [<- List.map_set]
theorem aO0 (S:S5) (n i:Nat) (h:i<n):(u8c (fil S n i)).set (0+i*1) (.v (.int .u8 ((uZ S i).toNat:Int)))=u8c (fil S n (i+1)):=by
 rw [dJ4,Aq,A8]
 congr 1
 unfold fil
 rw [aJ9,BM _ _ (by rw [gU];omega),gU,BU,show n-i=(n-(i+1))+1 by omega,C0,BY]
 simp
def bZ6 (S:S5) (i:Nat):S5:=sW ((i-1) / 8) S
theorem aL1 (S:S5) (i:Nat) (h:¬(0<i/\i%8=0)):bZ6 S i=sW (i / 8) S:=by
 unfold bZ6;congr 1;omega
theorem bZ7 (S:S5) (i:Nat) (h:0<i/\i%8=0):pH (bZ6 S i)=sW (i / 8) S:=by
 unfold bZ6
 rw [show i / 8=(i-1) / 8+1 by omega]
 rfl
attribute [local irreducible] Still Adds AWL AW Drw AC AWR cU Frz Go.Av.Src cQ Out InK
abbrev z32:D1:=List.map CV.v [.int .u8 0,.int .u8 0,.int .u8 0,.int .u8 0,.int .u8 0,.int .u8 0,.int .u8 0,.int .u8 0,.int .u8 0,.int .u8 0,.int .u8 0,.int .u8 0,.int .u8 0,.int .u8 0,.int .u8 0,.int .u8 0,.int .u8 0,.int .u8 0,.int .u8 0,.int .u8 0,.int .u8 0,.int .u8 0,.int .u8 0,.int .u8 0,.int .u8 0,.int .u8 0,.int .u8 0,.int .u8 0,.int .u8 0,.int .u8 0,.int .u8 0,.int .u8 0]
theorem eE1 (dom:BitVec 64) (l:Dm) (n:Nat) (hl:l.length=n) (hm:n<=maxLen):qC' 148 [wv dom,.sl 1 n (u8c l)] (.c (.agg (u8c (sum dom l)))) [] 0:=by
 refine aD aB (sz:=12) Tryz.func148 rfl (by rw [Tryz.ntmps148];rfl) ?_
 repeat' (first|(refine aC ?_;intro K hK hX)|refine aK [0,1,2,4,5,6,7] ?_|((with_reducible refine aQ ?_);refine aP [0,1,2,4,5,6,7] rfl rfl ?_;refine cJ [183] ?_)|(refine bZ ?_;refine c0 (bS5 dom l n hl hm) ?_)|((first|with_reducible refine aF ?_|with_reducible refine bB ?_);refine bV aB (List.range 30) aE rfl rfl zby Tryz.func183 rfl rfl rfl (szf:=30) zU rfl ?_)|refine stA ?_|refine stD ?_|(refine aG hK hX ?_;clear hK hX K)|fail|(first|refine bK zio ztr rfl rfl ResL.none ?_|refine bJ zio ztr rfl rfl ResL.none ?_))
 generalize hS:oQ dom l=S
 refine cL 3 (fun i:Nat=>[(1,.own 1 0 32 1 false),(2,.ref 2 0),(6,.c (iv 32)),(7,.c (iv i))]) (fun i=>[(0,.row 28 z32),(1,.row 28 (u8c (fil S 32 i))),(2,.row 198 (bZ6 S i).cs)]) _ (fun i=>i<=32) (fun i=>32-i) 0 aA eH ?_
 intro i hi K hK hX
 by_cases hlt:i<32
 ·skip
  have hlen:(u8c (fil S 32 i)).length=32:=by rw [aH,aB5 _ _ _ aA]
  by_cases h0:0<i
  ·have g1:(decide ((0:Int)<(i:Int))==true)=true:=by rw [AP aA];rfl
   by_cases h8:i%8=0
   ·repeat' (first|(refine aC ?_;intro K hK hX)|refine aK [0,1,2,4,5,6,7] ?_|((with_reducible refine aQ ?_);refine aP [0,1,2,4,5,6,7] rfl rfl ?_;refine cJ [183] ?_)|(refine bZ ?_;refine c0 (pI (bZ6 S i)) ?_)|((first|with_reducible refine aF ?_|with_reducible refine bB ?_);refine bV aB (List.range 30) aE rfl rfl zby Tryz.func183 rfl rfl rfl (szf:=30) zU rfl ?_)|((first|((with_reducible refine bP ?_);refine xA ?_)|((with_reducible refine cZ ?_);refine xD ?_));(first|((with_reducible refine bU ?_);(first|refine aL (tJ rfl nD rfl (show 8*((i:Int)%8)=((8*(i%8):Nat):Int) by omega)) ?_))))|((with_reducible refine fS ?_);(refine eQ aB aE rfl rfl rfl rfl rfl rfl aU0 ?_))|refine stA ?_|refine stD ?_|(refine aG hK hX ?_;clear hK hX K)|fail|(first|refine bK zio ztr rfl rfl ResL.none ?_|refine bJ zio ztr rfl rfl ResL.none ?_))
    rw [bZ7 S i ⟨h0,h8⟩]
    exact ⟨i+1,by omega,by omega,cE8⟩
   ·repeat' (first|(refine aC ?_;intro K hK hX)|refine aK [0,1,2,4,5,6,7] ?_|((with_reducible refine aQ ?_);refine aP [0,1,2,4,5,6,7] rfl rfl ?_;refine cJ [183] ?_)|((first|with_reducible refine aF ?_|with_reducible refine bB ?_);refine bV aB (List.range 30) aE rfl rfl zby Tryz.func183 rfl rfl rfl (szf:=30) zU rfl ?_)|((first|((with_reducible refine bP ?_);refine xA ?_)|((with_reducible refine cZ ?_);refine xD ?_));(first|((with_reducible refine bU ?_);(first|refine aL (tJ rfl nD rfl (show 8*((i:Int)%8)=((8*(i%8):Nat):Int) by omega)) ?_))))|((with_reducible refine fS ?_);(refine eQ aB aE rfl rfl rfl rfl rfl rfl aU0 ?_))|refine stA ?_|refine stD ?_|(refine aG hK hX ?_;clear hK hX K)|fail|(first|refine bK zio ztr rfl rfl ResL.none ?_|refine bJ zio ztr rfl rfl ResL.none ?_))
    rw [aL1 S i (fun h=>h8 h.2)]
    exact ⟨i+1,by omega,by omega,cE8⟩
  ·have g1:(decide ((0:Int)<(i:Int))==true)=false:=by rw [Bi aA];rfl
   repeat' (first|(refine aC ?_;intro K hK hX)|refine aK [0,1,2,4,5,6,7] ?_|((with_reducible refine aQ ?_);refine aP [0,1,2,4,5,6,7] rfl rfl ?_;refine cJ [183] ?_)|((first|with_reducible refine aF ?_|with_reducible refine bB ?_);refine bV aB (List.range 30) aE rfl rfl zby Tryz.func183 rfl rfl rfl (szf:=30) zU rfl ?_)|((first|((with_reducible refine bP ?_);refine xA ?_)|((with_reducible refine cZ ?_);refine xD ?_));(first|((with_reducible refine bU ?_);(first|refine aL (tJ rfl nD rfl (show 8*((i:Int)%8)=((8*(i%8):Nat):Int) by omega)) ?_))))|((with_reducible refine fS ?_);(refine eQ aB aE rfl rfl rfl rfl rfl rfl aU0 ?_))|refine stA ?_|refine stD ?_|(refine aG hK hX ?_;clear hK hX K)|fail|(first|refine bK zio ztr rfl rfl ResL.none ?_|refine bJ zio ztr rfl rfl ResL.none ?_))
   rw [aL1 S i (fun h=>h0 h.1)]
   exact ⟨i+1,by omega,by omega,cE8⟩
 ·obtain rfl:i=32:=by omega
  repeat' (first|(refine aC ?_;intro K hK hX)|refine aK [0,1,2,4,5,6,7] ?_|((with_reducible refine aQ ?_);refine aP [0,1,2,4,5,6,7] rfl rfl ?_;refine cJ [183] ?_)|((first|with_reducible refine aF ?_|with_reducible refine bB ?_);refine bV aB (List.range 30) aE rfl rfl zby Tryz.func183 rfl rfl rfl (szf:=30) zU rfl ?_)|refine stA ?_|refine stD ?_|(refine aG hK hX ?_;clear hK hX K)|fail|(first|refine bK zio ztr rfl rfl ResL.none ?_|refine bJ zio ztr rfl rfl ResL.none ?_))
  rw [aW2]
  subst hS
  have hlen:(u8c (lJ (oQ dom l) 32)).length=32:=by rw [aH,gU]
  refine cV zio (by exact ⟨cU9,bJ4,trivial⟩) rfl (ResL.one zrs) zou
end
section
theorem bG0:pW Tryz.prog 147 0:=by
 intro us w hl
 obtain ⟨_,rfl⟩:∃_:Unit,us=[]:=by
  match us,hl with | [],_=>exact ⟨(),rfl⟩
 refine callsD_of_wpS Tryz.func147 rfl fun c₀ cs hu=>?_
 apply wpS_region
 simp [wpOpsS,go_sem,recoverD,hu,Tryz.ntmps147,Exit.thenS]
 cases c₀
 simp_all [bodyPostS,results,Tryz.results147]
theorem aP3:Body Tryz.prog 147:=by unfold Body;kernel_rfl
attribute [local irreducible] Still Adds AWL AW Drw AC AWR cU Frz Go.Av.Src cQ Out InK
attribute [local simp] bS bR bI
theorem dE0 (k:Nat) (h0:0<k) (hk:k<=1000000000):qC' 185 [.v (.slice none 0 0),iv k] (.own 0 0 0 1 true) [(0,.row 5 [])] 1:=by
 refine aD aB (sz:=27) Tryz.func185 rfl (by rw [Tryz.ntmps185];rfl) ?_
 repeat' (first|(refine aC ?_;intro K hK hX)|refine aK [0,1,4] ?_|refine stA ?_|(refine aG hK hX ?_;clear hK hX K)|fail)
 exact aY
theorem bU5 (a b:Dm) (m n:Nat) (ha:a.length=m) (hb:b.length=n) (h0:0<m) (hk:m+n<=1000000000):qC' 149 [.sl 1 2 [.sl 1 m (u8c a),.sl 1 n (u8c b)]] (.own 0 0 (m+n) 1 true) [(0,.row 5 (u8c (a++b)))] 1:=by
 have hua:(u8c a).length=m:=by rw [aH,ha]
 have hub:(u8c b).length=n:=by rw [aH,hb]
 refine aD aB (sz:=36) Tryz.func149 rfl (by rw [Tryz.ntmps149];rfl) ?_
 repeat' (first|(refine aC ?_;intro K hK hX)|refine aK [0,2,3,5,6,8,9,10,11,25,26,27] ?_|((with_reducible refine uJ ?_);refine rS 3 ?_)|(refine bK5 ?_;intro K hK hX)|(refine dK ?_;refine c1 (dE0 (m+n) aA aA) ?_)|refine stA ?_|(refine aG hK hX ?_;clear hK hX K)|fail)
 rw [show 0+m+n=m+n by omega,Ay,<- bI]
 exact aY
theorem aX0 (dom:BitVec 64) (k l:Dm) (n:Nat) (hk:k.length=32) (hl:l.length=n) (hm:n<=100000000):qC' 78 [wv dom,.agg (u8c k),.sl 1 n (u8c l)] (.c (.agg (u8c (sum dom (k++l))))) [] 0:=by
 have hua:(u8c k).length=32:=by rw [aH,hk]
 have hub:(u8c l).length=n:=by rw [aH,hl]
 have hus:(u8c (sum dom (k++l))).length=32:=by rw [aH,tK]
 have hukl:(u8c (k++l)).length=32+n:=by rw [aH,Aa];omega
 refine aD aB (sz:=13) Tryz.func78 rfl (by rw [Tryz.ntmps78];rfl) ?_
 repeat' (first|(refine aC ?_;intro K hK hX)|refine aK [0,1,2,4,6] ?_|refine stA ?_|(refine aG hK hX ?_;clear hK hX K)|fail)
 refine aT0 (dJ6 (E:=[(6,.ref 1 0),(7,.c (wv dom)),(8,.c (.sl 1 32 (u8c k))),(9,.c (.sl 1 n (u8c l)))]) (Hp:=[(1,.row 28 z32)]) (by repeat' (first|exact FzE.nil|refine FzE.cons rfl ?_ ?_|exact dD9|exact fz_ref rfl rfl|exact bO3 rfl rfl zln|exact cL7 rfl rfl (by first|exact tL (by first|rfl|omega)|rfl) zln)) (by repeat' (first|exact trivial|refine ⟨rfl,?_⟩))) ?_
 repeat' (first|(refine aC ?_;intro K hK hX)|refine aK [0,1,2,4,6] ?_|((with_reducible refine aF ?_);(first|refine wA ?_|refine wN ?_);(first|refine cF (eE1 dom (k++l) (32+n) fU aA4) ?_))|((with_reducible refine aF ?_);(refine yA ?_);(first|refine cF1 (bU5 k l 32 n hk hl aN aA) ?_))|refine stA ?_|(refine aG hK hX ?_;clear hK hX K)|fail)
 refine cV zio (by exact ⟨bG0,aP3,trivial⟩) rfl (ResL.one zrs) zou
end
end Go.Proofs.YtbgehdndimlgkaaGreat
