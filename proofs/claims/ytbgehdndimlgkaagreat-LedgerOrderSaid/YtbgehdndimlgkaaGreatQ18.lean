import Derived.Test.YtbgehdndimlgkaaGreatQ17
set_option maxHeartbeats 16000000
set_option linter.unusedSimpArgs false
set_option linter.unusedVariables false
namespace Go.Proofs.YtbgehdndimlgkaaGreat
open Go Go.RowKit Go.Av
set_option maxRecDepth 100000
section
variable {P:Program} {tab:Tab} {ev:Evl} {h:aO} {d:Option Tmp} {T T' ty:TypeId} {x y:Operand} {pos:String} {aft:Array Edge} {gd:Option (Nat × Bool)}
theorem cJ1 (tb:bN P tab) {e:TyE} {E size n:Nat} {cs:List CV} (hn:0<n) (hT:aP tab T=some e) (hk:e.kind = .slice E) (hx:ev x=some (.c (.sl size n cs))) (hy:ev y=some (.c (.v (.slice none 0 0)))):Still P ⟨d,.binOp .eql T x y T',ty,pos,aft,gd⟩ ev h (.c (bv false)):=by
 intro B dom M H w a hh hc he
 have h1:=he x _ hx
 have h2:=he y _ hy
 simp only [Rep,RepC] at h1 h2
 obtain ⟨A,c,us,e1,e2,e3,e4,e5,e7,e6⟩:=h1
 obtain ⟨b,o,rfl,_⟩:=e6 hn
 refine ⟨.bool false,?_,rfl⟩
 have hr:=run_equal_slice_nil (P:=P) w T E (some ⟨b,o,none⟩) n c ((aM tb hT).slice hk)
 simp [execOp,e1,h2,eqGuard,binOp,hr]
end
attribute [local irreducible] Still Adds AWL AW Drw bS bY AC AWR cQ Frz Go.Av.Src cM Out InK ItK AsK RdK fC eZ ACT ACA fJ
attribute [local simp] bU bQ bM
theorem cL3 (l:List UInt8):(u8c l).length=l.length*1:=by rw [aL,Nat.mul_one]
theorem aA6 (r:List UInt8) (n:Nat) (hn:r.length=n) (hb:n≤1000000000):AC Tryz.prog 174 [.sl 1 n (u8c r)] (.c (.sl 1 n (u8c r))) [] 0:=by
 by_cases h0:n=0
 ·have hr:r=[]:=List.eq_nil_of_length_eq_zero aA
  rw [h0,hr]
  show AC Tryz.prog _ ([] ++ .sl 1 0 []::[]) _ [] 0
  refine AC.split0 fun A c hc=>?_
  rw [List.nil_append]
  have hrc:([]:List CV)=u8c []:=rfl
  rw [← hrc]
  cases A with
  | none =>
   refine aG aB (sz:=8) Tryz.func174 rfl (by rw [Tryz.ntmps174];rfl) ?_
   repeat' (first|(refine aC ?_;intro K hK hX)|refine bV6 ?_|(refine aF hK hX ?_;clear hK hX K)|fail)
   exact aU
  | some a =>
   refine aG aB (sz:=8) Tryz.func174 rfl (by rw [Tryz.ntmps174];rfl) ?_
   repeat' (first|(refine aC ?_;intro K hK hX)|refine bV0 ?_|(refine aF hK hX ?_;clear hK hX K)|fail)
   exact aU
 ·have hil:(u8c r).length=n*1:=by rw [cL3,hn]
  have hp:0<n:=by omega
  refine aG aB (sz:=8) Tryz.func174 rfl (by rw [Tryz.ntmps174];rfl) ?_
  repeat' (first|(refine aC ?_;intro K hK hX)|refine bV5 ?_|(refine aF hK hX ?_;clear hK hX K)|fail)
  rw [Nat.zero_add n,List.nil_append]
  exact aU
theorem aV8 (r:List Ver) (n:Nat) (hn:r.length=n) (hb:n≤1000000):AC Tryz.prog 119 [.sl 3 n (vrc r)] (.c (.sl 3 n (vrc r))) [] 0:=by
 by_cases h0:n=0
 ·have hr:r=[]:=List.eq_nil_of_length_eq_zero aA
  rw [h0,hr]
  show AC Tryz.prog _ ([] ++ .sl 3 0 []::[]) _ [] 0
  refine AC.split0 fun A c hc=>?_
  rw [List.nil_append]
  have hrc:([]:List CV)=vrc []:=rfl
  rw [← hrc]
  cases A with
  | none =>
   refine aG aB (sz:=8) Tryz.func119 rfl (by rw [Tryz.ntmps119];rfl) ?_
   repeat' (first|(refine aC ?_;intro K hK hX)|refine bV6 ?_|(refine aF hK hX ?_;clear hK hX K)|fail)
   exact aU
  | some a =>
   refine aG aB (sz:=8) Tryz.func119 rfl (by rw [Tryz.ntmps119];rfl) ?_
   repeat' (first|(refine aC ?_;intro K hK hX)|refine bV0 ?_|(refine aF hK hX ?_;clear hK hX K)|fail)
   exact aU
 ·have hil:(vrc r).length=n*3:=by rw [cU,hn]
  have hp:0<n:=by omega
  refine aG aB (sz:=8) Tryz.func119 rfl (by rw [Tryz.ntmps119];rfl) ?_
  repeat' (first|(refine aC ?_;intro K hK hX)|refine bV5 ?_|(refine aF hK hX ?_;clear hK hX K)|fail)
  rw [Nat.zero_add n,List.nil_append]
  exact aU
theorem aV7 (r:List Src) (n:Nat) (hn:r.length=n) (hb:n≤1000000):AC Tryz.prog 186 [.sl 2 n (src r)] (.c (.sl 2 n (src r))) [] 0:=by
 by_cases h0:n=0
 ·have hr:r=[]:=List.eq_nil_of_length_eq_zero aA
  rw [h0,hr]
  show AC Tryz.prog _ ([] ++ .sl 2 0 []::[]) _ [] 0
  refine AC.split0 fun A c hc=>?_
  rw [List.nil_append]
  have hrc:([]:List CV)=src []:=rfl
  rw [← hrc]
  cases A with
  | none =>
   refine aG aB (sz:=8) Tryz.func186 rfl (by rw [Tryz.ntmps186];rfl) ?_
   repeat' (first|(refine aC ?_;intro K hK hX)|refine bV6 ?_|(refine aF hK hX ?_;clear hK hX K)|fail)
   exact aU
  | some a =>
   refine aG aB (sz:=8) Tryz.func186 rfl (by rw [Tryz.ntmps186];rfl) ?_
   repeat' (first|(refine aC ?_;intro K hK hX)|refine bV0 ?_|(refine aF hK hX ?_;clear hK hX K)|fail)
   exact aU
 ·have hil:(src r).length=n*2:=by rw [dQ,hn]
  have hp:0<n:=by omega
  refine aG aB (sz:=8) Tryz.func186 rfl (by rw [Tryz.ntmps186];rfl) ?_
  repeat' (first|(refine aC ?_;intro K hK hX)|refine bV5 ?_|(refine aF hK hX ?_;clear hK hX K)|fail)
  rw [Nat.zero_add n,List.nil_append]
  exact aU
theorem cG6:oJ Tryz.prog 173 3:=by
 intro us w hl
 obtain ⟨u0,u1,u2,rfl⟩:∃u0 u1 u2,us=[u0,u1,u2]:=by
  match us,hl with | [u0,u1,u2],_=>exact ⟨u0,u1,u2,rfl⟩
 refine callsD_of_wpS Tryz.func173 rfl fun c₀ cs hu=>?_
 apply wpS_seq
 apply wpS_region
 simp [wpOpsS,go_sem,recoverD,hu,Tryz.ntmps173,Exit.thenS]
 refine wpS_cond (t:=false) oG ?_
 simp only [Bool.false_eq_true,if_false]
 refine wpS_of_wp (wp_skip ?_)
 cases c₀
 simp_all [bodyPostS,results,Tryz.results173]
theorem aY3:Body Tryz.prog 173:=by unfold Body;kernel_rfl
theorem cG7:oJ Tryz.prog 215 3:=by
 intro us w hl
 obtain ⟨u0,u1,u2,rfl⟩:∃u0 u1 u2,us=[u0,u1,u2]:=by
  match us,hl with | [u0,u1,u2],_=>exact ⟨u0,u1,u2,rfl⟩
 refine callsD_of_wpS Tryz.func215 rfl fun c₀ cs hu=>?_
 apply wpS_seq
 apply wpS_region
 simp [wpOpsS,go_sem,recoverD,hu,Tryz.ntmps215,Exit.thenS]
 refine wpS_cond (t:=false) oG ?_
 simp only [Bool.false_eq_true,if_false]
 refine wpS_of_wp (wp_skip ?_)
 cases c₀
 simp_all [bodyPostS,results,Tryz.results215]
theorem aY5:Body Tryz.prog 215:=by unfold Body;kernel_rfl
theorem cH1 (b:List UInt8) (m:Nat) (hm:b.length=m) (hb:m≤1000000000):∃n s',bO ⟨b,0⟩=(n,s')∧aV n∧∃b' e' m',s'=⟨b',e'⟩∧b'.length=m'∧m'≤m∧(e'=0→AC Tryz.prog 120 [.sl 1 m (u8c b)] (.tup [.c (iv n),.c (.sl 1 m' (u8c b')),.c (iv 0)]) [] 0)∧(e'≠0→AC Tryz.prog 120 [.sl 1 m (u8c b)] (.tup [.c (iv 0),.c (.v (.slice none 0 0)),.c (iv e')]) [] 0):=by
 obtain ⟨n,s',q1,q2,b',e',m',rfl,q3,q4,q5,q6⟩:=gD b 0 m hm hb
 refine ⟨n,_,q1,q2,b',e',m',rfl,q4,q5,fun he=>?_,fun he=>?_⟩
 ·subst he
  have hcl:=aA6 b' m' q4 q6
  refine aG aB (sz:=10) Tryz.func120 rfl (by rw [Tryz.ntmps120];rfl) ?_
  repeat' (first|(refine aC ?_;intro K hK hX)|refine aI [0,1,2,3,4,5,6,7,8] ?_|((with_reducible refine bC ?_);refine aW [0,1,2,3,4,5,6,7,8] rfl rfl ?_;refine dE [162] ?_)|((with_reducible refine aS ?_);refine nO (q3) aE rfl zby rfl rfl rfl rfl rfl zcv rfl ztp ?_)|(refine gT ?_;refine c0 hcl ?_)|((first|with_reducible refine aD ?_|with_reducible refine aS ?_);refine bL aB [0,1,2,3,4,5,6,7,8,9,10,11,12,13,14,15,16,17,18,19,20,21,22,23,24,25,26,27,28,29,30,31] aE rfl rfl zby Tryz.func162 rfl rfl rfl (szf:=32) (by rw [Tryz.ntmps162];rfl) rfl ?_)|refine stA ?_|refine stE ?_|(refine aF hK hX ?_;clear hK hX K)|fail|(first|refine bF zio bD8 rfl rfl (ResL.three zrs zrs zrs) ?_|refine bE zio bD8 rfl rfl (ResL.three zrs zrs zrs) ?_))
  exact dF8
 ·refine aG aB (sz:=10) Tryz.func120 rfl (by rw [Tryz.ntmps120];rfl) ?_
  repeat' (first|(refine aC ?_;intro K hK hX)|refine aI [0,1,2,3,4,5,6,7,8] ?_|((with_reducible refine bC ?_);refine aW [0,1,2,3,4,5,6,7,8] rfl rfl ?_;refine dE [162] ?_)|((with_reducible refine aS ?_);refine nO (q3) aE rfl zby rfl rfl rfl rfl rfl zcv rfl ztp ?_)|((first|with_reducible refine aD ?_|with_reducible refine aS ?_);refine bL aB [0,1,2,3,4,5,6,7,8,9,10,11,12,13,14,15,16,17,18,19,20,21,22,23,24,25,26,27,28,29,30,31] aE rfl rfl zby Tryz.func162 rfl rfl rfl (szf:=32) (by rw [Tryz.ntmps162];rfl) rfl ?_)|refine stA ?_|refine stE ?_|(refine aF hK hX ?_;clear hK hX K)|fail|(first|refine bF zio bD8 rfl rfl (ResL.three zrs zrs zrs) ?_|refine bE zio bD8 rfl rfl (ResL.three zrs zrs zrs) ?_))
  exact dF8
def en0:LEn:=⟨0,0,0,0,rq0,lk0,hd0,[],[],root0⟩
theorem yY (b:List UInt8) (m:Nat) (hm:b.length=m) (hb:m≤1000000000):∃r s' nv ns,rEn rpP ⟨b,0⟩=(r,s')∧r.vs.length=nv∧r.ss.length=ns∧r.root.length=32∧∃b' e' m',s'=⟨b',e'⟩∧b'.length=m'∧m'≤m∧(e'=0→AC Tryz.prog 77 [.sl 1 m (u8c b)] (.tup [.c (.agg (ecs r nv ns)),.c (.sl 1 m' (u8c b')),.c (iv 0)]) [] 0)∧(e'≠0→AC Tryz.prog 77 [.sl 1 m (u8c b)] (.tup [.c (.agg (ecs en0 0 0)),.c (.v (.slice none 0 0)),.c (iv e')]) [] 0):=by
 obtain ⟨r,s',nv,ns,q1,hv,hs,hr,b',e',m',rfl,q3,q4,q5,q6⟩:=cB6 b 0 m hm hb
 have hel:=cK hr nv ns
 refine ⟨r,_,nv,ns,q1,hv,hs,hr,b',e',m',rfl,q4,q5,fun he=>?_,fun he=>?_⟩
 ·subst he
  have hcl:=aA6 b' m' q4 q6
  generalize ecs r nv ns=cs at *
  have hwh:∀l:List CV,l=cs→(l.drop 0).take 65=cs:=fun l h=>by rw [h,List.drop_zero,List.take_of_length_le (Nat.le_of_eq hel)]
  refine aG aB (sz:=10) Tryz.func77 rfl (by rw [Tryz.ntmps77];rfl) ?_
  repeat' (first|(refine aC ?_;intro K hK hX)|refine aI [0,1,2,3,4,5,6,7,8] ?_|((with_reducible refine bC ?_);refine aW [0,1,2,3,4,5,6,7,8] rfl rfl ?_;refine dE [145] ?_)|((with_reducible refine aY ?_);refine yA ?_;refine bJ (aX (T:=49) aB rfl rfl rfl) rfl ?_)|((with_reducible refine aS ?_);refine nO (q3) aE rfl zby rfl rfl rfl rfl rfl zcv rfl ztp ?_)|(refine gT ?_;refine c0 hcl ?_)|((first|with_reducible refine aD ?_|with_reducible refine aS ?_);refine bL aB [0,1,2,3,4,5,6,7,8,9,10,11,12,13,14,15,16,17,18,19,20,21,22,23,24,25,26,27,28,29,30,31] aE rfl rfl zby Tryz.func145 rfl rfl rfl (szf:=32) (by rw [Tryz.ntmps145];rfl) rfl ?_)|refine stA ?_|refine stE ?_|(refine aF hK hX ?_;clear hK hX K)|fail|(first|refine bF zio bD9 rfl rfl (ResL.three zrs zrs zrs) ?_|refine bE zio bD9 rfl rfl (ResL.three zrs zrs zrs) ?_))
  exact dF9
 ·skip
  generalize ecs r nv ns=cs at *
  dsimp only [ecs,en0,lk0,hd0,jF,rq0,Vl.nul]
  refine aG aB (sz:=10) Tryz.func77 rfl (by rw [Tryz.ntmps77];rfl) ?_
  repeat' (first|(refine aC ?_;intro K hK hX)|refine aI [0,1,2,3,4,5,6,7,8] ?_|((with_reducible refine bC ?_);refine aW [0,1,2,3,4,5,6,7,8] rfl rfl ?_;refine dE [145] ?_)|((with_reducible refine aY ?_);refine yA ?_;refine bJ (aX (T:=49) aB rfl rfl rfl) rfl ?_)|((with_reducible refine aS ?_);refine nO (q3) aE rfl zby rfl rfl rfl rfl rfl zcv rfl ztp ?_)|((first|with_reducible refine aD ?_|with_reducible refine aS ?_);refine bL aB [0,1,2,3,4,5,6,7,8,9,10,11,12,13,14,15,16,17,18,19,20,21,22,23,24,25,26,27,28,29,30,31] aE rfl rfl zby Tryz.func145 rfl rfl rfl (szf:=32) (by rw [Tryz.ntmps145];rfl) rfl ?_)|refine stA ?_|refine stE ?_|(refine aF hK hX ?_;clear hK hX K)|fail|(first|refine bF zio bD9 rfl rfl (ResL.three zrs zrs zrs) ?_|refine bE zio bD9 rfl rfl (ResL.three zrs zrs zrs) ?_))
  exact dF9
end Go.Proofs.YtbgehdndimlgkaaGreat
namespace Go.Proofs.YtbgehdndimlgkaaGreat
open Go Go.RowKit Go.Av
set_option maxRecDepth 100000
attribute [local irreducible] Still Adds AWL AW Drw AC AWR cQ Frz Go.Av.Src cM Out
abbrev wv (x:BitVec 64):CV := .v (.int .u64 (x.toNat:Int))
theorem cW7 (x:BitVec 64) (k:Int):AC Tryz.prog 257 [wv x,iv k] (.c (wv (x <<< (BitVec.ofInt 64 k &&& 63#64).toNat ||| x >>> (64#64-(BitVec.ofInt 64 k &&& 63#64)).toNat))) [] 0:=by
 refine aG aB (sz:=17) Tryz.func257 rfl (by rw [Tryz.ntmps257];rfl) ?_
 repeat' (first|(refine aC ?_;intro K hK hX)|refine aI [0,1,4,5] ?_|refine stA ?_|(refine aF hK hX ?_;clear hK hX K)|fail)
 exact aU
def aZ3 (x:BitVec 64) (n:Nat):BitVec 64:=x >>> n ||| x <<< (64-n)
theorem aZ2:∀a:Fin 64,0<a.val→(BitVec.ofInt 64 (0-(a.val:Int)) &&& 63#64).toNat=64-a.val∧(64#64-(BitVec.ofInt 64 (0-(a.val:Int)) &&& 63#64)).toNat=a.val:=by decide
theorem dP2 (x:BitVec 64) (a:Nat) (h0:0<a) (h1:a<64):x <<< (BitVec.ofInt 64 (0-(a:Int)) &&& 63#64).toNat ||| x >>> (64#64-(BitVec.ofInt 64 (0-(a:Int)) &&& 63#64)).toNat=aZ3 x a:=by
 obtain ⟨e1,e2⟩:=aZ2 ⟨a,h1⟩ h0
 simp only at e1 e2
 rw [e1,e2,aZ3,BitVec.or_comm]
theorem bI8 (x:BitVec 64) (a:Nat) (h0:0<a) (h1:a<64):AC Tryz.prog 257 [wv x,iv (0-(a:Int))] (.c (wv (aZ3 x a))) [] 0:=by
 have:=cW7 x (0-(a:Int))
 rwa [dP2 x a h0 h1] at this
def mix (x:BitVec 64) (a b:Nat):BitVec 64:=x ^^^ aZ3 x a ^^^ aZ3 x b
theorem pO (x:BitVec 64) (a b:Nat) (h0:0<a) (h1:a<64) (h2:0<b) (h3:b<64):AC Tryz.prog 250 [wv x,iv a,iv b] (.c (wv (mix x a b))) [] 0:=by
 refine aG aB (sz:=18) Tryz.func250 rfl (by rw [Tryz.ntmps250];rfl) ?_
 repeat' (first|(refine aC ?_;intro K hK hX)|refine aI [0,1,2,6] ?_|(refine dV ?_;first|refine c0 (bI8 x a h0 h1) ?_|refine c0 (bI8 x b h2 h3) ?_)|refine stA ?_|(refine aF hK hX ?_;clear hK hX K)|fail)
 exact aU
end Go.Proofs.YtbgehdndimlgkaaGreat
namespace Go.Proofs.YtbgehdndimlgkaaGreat
open Go Go.RowKit Go.Av
set_option maxRecDepth 100000
attribute [local irreducible] Still Adds AWL AW Drw AC AWR cQ Frz Go.Av.Src cM Out
structure S5 where
 a:BitVec 64
 b:BitVec 64
 c:BitVec 64
 d:BitVec 64
 e:BitVec 64
deriving DecidableEq
def S5.cs (s:S5):List CV:=[wv s.a,wv s.b,wv s.c,wv s.d,wv s.e]
def rnd (k:BitVec 64) (s:S5):S5 :=
 let c:=s.c ^^^ k
 let a:=s.a ^^^ s.e
 let e:=s.e ^^^ s.d
 let c:=c ^^^ s.b
 let t0 := ~~~a &&& s.b
 let t1 := ~~~s.b &&& c
 let t2 := ~~~c &&& s.d
 let t3 := ~~~s.d &&& e
 let t4 := ~~~e &&& a
 let a:=a ^^^ t1
 let b:=s.b ^^^ t2
 let c:=c ^^^ t3
 let d:=s.d ^^^ t4
 let e:=e ^^^ t0
 let b:=b ^^^ a
 let a:=a ^^^ e
 let d:=d ^^^ c
 let c := ~~~c
 ⟨mix a 19 28,mix b 61 39,mix c 1 6,mix d 10 17,mix e 7 41⟩
def rk (r:Nat):BitVec 64:=BitVec.ofInt 64 (240-15*(r:Int))
def aI4:Nat→S5→S5
 | 0,s=>s
 | r+1,s=>rnd (rk r) (aI4 r s)
def qW (s:S5):S5:=aI4 12 s
abbrev z5:List CV:=[.v (.int .u64 0),.v (.int .u64 0),.v (.int .u64 0),.v (.int .u64 0),.v (.int .u64 0)]
theorem nY (s:S5):AC Tryz.prog 230 [.agg s.cs] (.c (.agg (qW s).cs)) [] 0:=by
 refine aG aB (sz:=139) Tryz.func230 rfl (by rw [Tryz.ntmps230];rfl) ?_
 repeat' (first|(refine aC ?_;intro K hK hX)|refine aI [0,1,2,3,4,5] ?_|refine stA ?_|(refine aF hK hX ?_;clear hK hX K)|fail)
 refine dK 2 (fun r:Nat=>[(1,.ref 0 0),(2,.ref 1 0),(5,.c (iv r))]) (fun r=>[(0,.row 198 (aI4 r s).cs),(1,.row 198 z5)]) [] (fun r=>r≤12) (fun r=>12-r) 0 aA fX ?_
 intro r hr K hK hX
 by_cases hlt:r<12
 ·repeat' (first|(refine aC ?_;intro K hK hX)|refine aI [0,1,2,3,4,5] ?_|(refine dV ?_;first|refine c0 (pO _ 19 28 aN aN aN aN) ?_|refine c0 (pO _ 61 39 aN aN aN aN) ?_|refine c0 (pO _ 1 6 aN aN aN aN) ?_|refine c0 (pO _ 10 17 aN aN aN aN) ?_|refine c0 (pO _ 7 41 aN aN aN aN) ?_)|refine stA ?_|(refine aF hK hX ?_;clear hK hX K)|fail)
  exact ⟨r+1,by omega,by omega,fX⟩
 ·repeat' (first|(refine aC ?_;intro K hK hX)|refine aI [0,1,2,3,4,5] ?_|refine stA ?_|(refine aF hK hX ?_;clear hK hX K)|fail)
  obtain rfl:r=12:=by omega
  exact rH
end Go.Proofs.YtbgehdndimlgkaaGreat
namespace Go.Proofs.YtbgehdndimlgkaaGreat
open Go Go.RowKit Go.Av
def wdN (l:List UInt8):Nat→BitVec 64
 | 0=>0#64
 | i+1=>wdN l i ||| (((l.getD i 0).toBitVec.setWidth 64) <<< (8*i))
def cY8 (s:S5) (x:BitVec 64):S5:={s with a:=s.a ^^^ x}
def bS7 (s:S5) (l:List UInt8):Nat→S5
 | 0=>s
 | k+1=>qW (cY8 (bS7 s l k) (wdN ((l.drop (8*k)).take 8) 8))
def aP8 (r:List UInt8):List UInt8:=r++1::List.replicate (7-r.length) 0
def bJ4 (dom:BitVec 64):S5:=qW ⟨dom,1#64,2#64,3#64,4#64⟩
def aF0 (dom:BitVec 64) (l:List UInt8):S5:=qW (cY8 (bS7 (bJ4 dom) l (l.length / 8)) (wdN (aP8 (l.drop (8*(l.length / 8)))) 8))
def eF9 (l:List UInt8):List UInt8:=l++1::List.replicate (7-l.length%8) 0
theorem vP (r:List UInt8) (h:r.length<8):(aP8 r).length=8:=by simp [aP8];omega
def aP9:Nat→S5→S5
 | 0,s=>s
 | k+1,s=>qW (aP9 k s)
def aV4 (s:S5) (i:Nat):UInt8:=UInt8.ofBitVec (((aP9 (i / 8) s).a >>> (8*(i%8))).setWidth 8)
def aI1 (s:S5) (n:Nat):List UInt8:=(List.range n).map (aV4 s)
theorem kK (s:S5) (n:Nat):(aI1 s n).length=n:=by simp [aI1]
theorem bO9 (s:S5) (n:Nat):aI1 s (n+1)=aI1 s n++[aV4 s n]:=by simp [aI1,List.range_succ]
def sum (dom:BitVec 64) (l:List UInt8):List UInt8:=aI1 (aF0 dom l) 32
theorem zV (dom:BitVec 64) (l:List UInt8):(sum dom l).length=32:=kK _ _
end Go.Proofs.YtbgehdndimlgkaaGreat
namespace Go.Proofs.YtbgehdndimlgkaaGreat
open Go Go.RowKit Go.Av
set_option maxRecDepth 100000
theorem dI9 (l:List UInt8) (i:Nat) (h:i<l.length):(u8c l)[i*1]? = some (.v (.int .u8 ((l.getD i 0).toNat:Int))):=by
 rw [Nat.mul_one]
 refine cY1 ?_
 simp [List.getD,List.getElem?_eq_getElem h]
theorem dR4 (l:List UInt8) (i:Nat) (h:i<l.length):(u8c l)[0+i*1]? = some (.v (.int .u8 ((l.getD i 0).toNat:Int))):=by
 rw [Nat.zero_add];exact dI9 l i h
attribute [local irreducible] Still Adds AWL AW Drw AC AWR cQ Frz Go.Av.Src cM Out
theorem bK1 (l:List UInt8) (hl:l.length=8):AC Tryz.prog 231 [.sl 1 8 (u8c l)] (.c (wv (wdN l 8))) [] 0:=by
 refine aG aB (sz:=22) Tryz.func231 rfl (by rw [Tryz.ntmps231];rfl) ?_
 repeat' (first|(refine aC ?_;intro K hK hX)|refine aI [0,2,3,4,5,6,7,8] ?_|refine stA ?_|(refine aF hK hX ?_;clear hK hX K)|fail)
 refine dK 0 (fun i:Nat=>[(6,.c (.sl 1 8 (u8c l))),(7,.c (iv 8)),(8,.c (iv i)),(3,.c (wv (wdN l i)))]) (fun i=>[]) [] (fun i=>i≤8) (fun i=>8-i) 0 aA fX ?_
 intro i hi K hK hX
 by_cases hlt:i<8
 ·repeat' (first|(refine aC ?_;intro K hK hX)|refine aI [0,2,3,4,5,6,7,8] ?_|(((with_reducible refine cA ?_);refine xA ?_);(first|((with_reducible refine bT ?_);(first|refine aK (aJ5 rfl sU rfl (show 8*(i:Int)=((8*i:Nat):Int) by omega)) ?_))|((with_reducible refine iK ?_);(first|refine aK (lA aB rfl rfl rfl rfl aM5) ?_|refine aK (jP aB rfl rfl rfl rfl aM5) ?_|refine aK (jO aB rfl rfl rfl aM5) ?_))|((with_reducible refine e_ix ?_);(first|refine aK (s_ixV1 aB rfl rfl zcj rfl rfl rfl rfl rfl zle aM5) ?_|refine aK (s_ixStr aB rfl rfl zcj rfl rfl aM5) ?_))))|refine stA ?_|(refine aF hK hX ?_;clear hK hX K)|fail)
  exact ⟨i+1,by omega,by omega,fX⟩
 ·obtain rfl:i=8:=by omega
  repeat' (first|(refine aC ?_;intro K hK hX)|refine aI [0,2,3,4,5,6,7,8] ?_|refine stA ?_|(refine aF hK hX ?_;clear hK hX K)|fail)
  exact aU
end Go.Proofs.YtbgehdndimlgkaaGreat
namespace Go.Proofs.YtbgehdndimlgkaaGreat
open Go Go.RowKit Go.Av
set_option maxRecDepth 100000
theorem cX3 (l:List UInt8) (n k:Nat) (hl:l.length=n) (h:8*(k+1)≤n):AV.c (CV.sl 1 (n-8*k-8) (List.take ((n-8*k-8)*1) (List.drop (8*1) (u8c (List.drop (8*k) l)))))=AV.c (CV.sl 1 (n-8*(k+1)) (u8c (List.drop (8*(k+1)) l))):=by
 rw [Nat.mul_one,Nat.mul_one,bQ,bU,List.drop_drop,List.take_of_length_le (by rw [List.length_drop];omega),show n-8*k-8=n-8*(k+1) by omega,show 8*k+8=8*(k+1) by omega]
theorem aP1 (r:List UInt8) (m:Nat) (h:r.length=m) (hm:m<8):lay (List.map CV.v [Value.int IntKind.u8 0,Value.int IntKind.u8 0,Value.int IntKind.u8 0,Value.int IntKind.u8 0,Value.int IntKind.u8 0,Value.int IntKind.u8 0,Value.int IntKind.u8 0,Value.int IntKind.u8 0]) (0+0*1) (u8c r)=u8c (r++List.replicate (8-m) 0):=by
 have:List.map CV.v [Value.int IntKind.u8 0,Value.int IntKind.u8 0,Value.int IntKind.u8 0,Value.int IntKind.u8 0,Value.int IntKind.u8 0,Value.int IntKind.u8 0,Value.int IntKind.u8 0,Value.int IntKind.u8 0]=u8c (List.replicate 8 0):=rfl
 rw [this]
 simp only [lay,Nat.zero_mul,Nat.add_zero,List.take_zero,List.nil_append,Nat.zero_add,aL,bQ,h,bM,List.drop_replicate]
theorem cX2 (r:List UInt8) (m:Nat) (h:r.length=m) (hm:m<8):(u8c (r++List.replicate (8-m) 0)).set (0+m*1) (.v (.int .u8 1))=u8c (aP8 r):=by
 have:CV.v (.int .u8 1) = .v (.int .u8 ((1:UInt8).toNat:Int)):=rfl
 rw [this,Nat.zero_add,Nat.mul_one]
 unfold u8c
 rw [← List.map_set]
 congr 1
 unfold aP8
 rw [List.set_append_right _ _ aA,h,Nat.sub_self,show 8-m=(7-m)+1 by omega,List.replicate_succ,List.set_cons_zero]
attribute [local irreducible] Still Adds AWL AW Drw AC AWR cQ Frz Go.Av.Src cM Out
attribute [local simp] bU bQ
theorem bK5 (dom:BitVec 64) (l:List UInt8) (n:Nat) (hl:l.length=n) (hm:n≤maxLen):AC Tryz.prog 184 [wv dom,.sl 1 n (u8c l)] (.c (.agg (aF0 dom l).cs)) [] 0:=by
 have hm':n≤9223372036854775807:=hm
 refine aG aB (sz:=38) Tryz.func184 rfl (by rw [Tryz.ntmps184];rfl) ?_
 repeat' (first|(refine aC ?_;intro K hK hX)|refine bI [0,1,4,5,6] ?_|(refine cD ?_;refine c0 (nY ⟨dom,1#64,2#64,3#64,4#64⟩) ?_)|refine stA ?_|refine stD ?_|(refine aF hK hX ?_;clear hK hX K)|fail)
 refine dK 2 (fun k:Nat=>[(4,.ref 0 0),(5,.ref 1 0),(1,.c (.sl 1 (n-8*k) (u8c (l.drop (8*k)))))]) (fun k=>[(0,.row 198 z5),(1,.row 198 (bS7 (bJ4 dom) l k).cs)]) [] (fun k=>8*k≤n) (fun k=>n-8*k) 0 aA fX ?_
 intro k hk K hK hX
 by_cases hlt:8≤n-8*k
 ·repeat' (first|(refine aC ?_;intro K hK hX)|refine bI [0,1,4,5,6] ?_|(refine cD ?_;first|refine c0 (bK1 ((l.drop (8*k)).take 8) fO) ?_|refine c0 (nY (cY8 (bS7 (bJ4 dom) l k) (wdN ((l.drop (8*k)).take 8) 8))) ?_)|refine stA ?_|refine stD ?_|(refine aF hK hX ?_;clear hK hX K)|fail)
  exact ⟨k+1,by omega,by omega,(by refine eS rfl ?_ ?_ rfl<;>(repeat' (first|exact cW|exact cX|refine cI rfl dF1 rfl ?_|refine bH rfl dF1 rfl ?_)))⟩
 ·have hr:(l.drop (8*k)).length=n-8*k:=by rw [List.length_drop,hl]
  have hkn:k=l.length / 8:=by omega
  have hp:(u8c (aP8 (l.drop (8*k)))).length=8:=by rw [aL,vP];omega
  have hq:(u8c (l.drop (8*k)++List.replicate (8-(n-8*k)) 0)).length=8:=by rw [aL,List.length_append,List.length_replicate];omega
  have hk8:n-8*k<8:=by omega
  have hfit:0+(n-8*k)*1<(lay (List.map CV.v [Value.int IntKind.u8 0,Value.int IntKind.u8 0,Value.int IntKind.u8 0,Value.int IntKind.u8 0,Value.int IntKind.u8 0,Value.int IntKind.u8 0,Value.int IntKind.u8 0,Value.int IntKind.u8 0]) (0+0*1) (u8c (l.drop (8*k)))).length:=by rw [aP1 _ _ hr aA,hq];omega
  repeat' (first|(refine aC ?_;intro K hK hX)|refine bI [0,1,4,5,6] ?_|((with_reducible refine jD ?_);(refine fR aB aE rfl rfl rfl rfl rfl rfl dE6 ?_))|refine stA ?_|refine stD ?_|(refine aF hK hX ?_;clear hK hX K)|fail)
  rw [aP1 _ _ hr aA]
  rw [cX2 _ _ hr aA]
  repeat' (first|(refine aC ?_;intro K hK hX)|refine bI [0,1,4,5,6] ?_|((first|with_reducible refine aD ?_|with_reducible refine iP ?_);(first|refine wA ?_|refine wN ?_|refine wD ?_);(first|refine cF (bK1 (aP8 (l.drop (8*k))) (by rw [vP];omega)) ?_))|(refine cD ?_;refine c0 (nY (cY8 (bS7 (bJ4 dom) l k) (wdN (aP8 (l.drop (8*k))) 8))) ?_)|refine stA ?_|refine stD ?_|(refine aF hK hX ?_;clear hK hX K)|fail)
  subst hkn
  exact rH
end Go.Proofs.YtbgehdndimlgkaaGreat
namespace Go.Proofs.YtbgehdndimlgkaaGreat
open Go Go.RowKit Go.Av
set_option maxRecDepth 100000
theorem cL0:oJ Tryz.prog 182 0:=by
 intro us w hl
 obtain ⟨_,rfl⟩:∃_:Unit,us=[]:=by
  match us,hl with | [],_=>exact ⟨(),rfl⟩
 refine callsD_of_wpS Tryz.func182 rfl fun c₀ cs hu=>?_
 apply wpS_region
 simp [wpOpsS,go_sem,recoverD,hu,Tryz.ntmps182,Exit.thenS]
 cases c₀
 simp_all [bodyPostS,results,Tryz.results182]
theorem bA8:Body Tryz.prog 182:=by unfold Body;kernel_rfl
def fil (S:S5) (n i:Nat):List UInt8:=aI1 S i++List.replicate (n-i) 0
theorem cC1 (S:S5) (n:Nat):fil S n n=aI1 S n:=by simp [fil]
theorem aX0 (S:S5) (n i:Nat) (h:i≤n):(fil S n i).length=n:=by simp [fil,kK];omega
theorem cY2 (l:List UInt8) (i:Nat) (b:UInt8):(u8c l).set i (.v (.int .u8 (b.toNat:Int)))=u8c (l.set i b):=by
 unfold u8c
 rw [← List.map_set]
theorem bF7 (S:S5) (n i:Nat) (h:i<n):(u8c (fil S n i)).set (0+i*1) (.v (.int .u8 ((aV4 S i).toNat:Int)))=u8c (fil S n (i+1)):=by
 rw [cY2,Nat.zero_add,Nat.mul_one]
 congr 1
 unfold fil
 rw [bO9,List.set_append_right _ _ (by rw [kK];omega),kK,Nat.sub_self,show n-i=(n-(i+1))+1 by omega,List.replicate_succ,List.set_cons_zero]
 simp
def bR1 (S:S5) (i:Nat):S5:=aP9 ((i-1) / 8) S
theorem aE1 (S:S5) (i:Nat) (h:¬(0<i∧i%8=0)):bR1 S i=aP9 (i / 8) S:=by
 unfold bR1;congr 1;omega
theorem bR2 (S:S5) (i:Nat) (h:0<i∧i%8=0):qW (bR1 S i)=aP9 (i / 8) S:=by
 unfold bR1
 rw [show i / 8=(i-1) / 8+1 by omega]
 rfl
attribute [local irreducible] Still Adds AWL AW Drw AC AWR cQ Frz Go.Av.Src cM Out InK
abbrev z32:List CV:=List.map CV.v [.int .u8 0,.int .u8 0,.int .u8 0,.int .u8 0,.int .u8 0,.int .u8 0,.int .u8 0,.int .u8 0,.int .u8 0,.int .u8 0,.int .u8 0,.int .u8 0,.int .u8 0,.int .u8 0,.int .u8 0,.int .u8 0,.int .u8 0,.int .u8 0,.int .u8 0,.int .u8 0,.int .u8 0,.int .u8 0,.int .u8 0,.int .u8 0,.int .u8 0,.int .u8 0,.int .u8 0,.int .u8 0,.int .u8 0,.int .u8 0,.int .u8 0,.int .u8 0]
theorem dR2 (dom:BitVec 64) (l:List UInt8) (n:Nat) (hl:l.length=n) (hm:n≤maxLen):AC Tryz.prog 148 [wv dom,.sl 1 n (u8c l)] (.c (.agg (u8c (sum dom l)))) [] 0:=by
 refine aG aB (sz:=12) Tryz.func148 rfl (by rw [Tryz.ntmps148];rfl) ?_
 repeat' (first|(refine aC ?_;intro K hK hX)|refine aI [0,1,2,4,5,6,7] ?_|((with_reducible refine bC ?_);refine aW [0,1,2,4,5,6,7] rfl rfl ?_;refine dA [183] ?_)|(refine cD ?_;refine c0 (bK5 dom l n hl hm) ?_)|((first|with_reducible refine aD ?_|with_reducible refine aS ?_);refine bL aB [0,1,2,3,4,5,6,7,8,9,10,11,12,13,14,15,16,17,18,19,20,21,22,23,24,25,26,27,28,29] aE rfl rfl zby Tryz.func183 rfl rfl rfl (szf:=30) aM6 rfl ?_)|refine stA ?_|refine stD ?_|(refine aF hK hX ?_;clear hK hX K)|fail|(first|refine bF zio ztr rfl rfl ResL.none ?_|refine bE zio ztr rfl rfl ResL.none ?_))
 generalize hS:aF0 dom l=S
 refine dK 3 (fun i:Nat=>[(1,.own 1 0 32 1 false),(2,.ref 2 0),(6,.c (iv 32)),(7,.c (iv i))]) (fun i=>[(0,.row 28 z32),(1,.row 28 (u8c (fil S 32 i))),(2,.row 198 (bR1 S i).cs)]) _ (fun i=>i≤32) (fun i=>32-i) 0 aA fX ?_
 intro i hi K hK hX
 by_cases hlt:i<32
 ·skip
  have hlen:(u8c (fil S 32 i)).length=32:=by rw [aL,aX0 _ _ _ aA]
  by_cases h0:0<i
  ·have g1:(decide ((0:Int)<(i:Int))==true)=true:=by rw [decide_eq_true aA];rfl
   by_cases h8:i%8=0
   ·repeat' (first|(refine aC ?_;intro K hK hX)|refine aI [0,1,2,4,5,6,7] ?_|((with_reducible refine bC ?_);refine aW [0,1,2,4,5,6,7] rfl rfl ?_;refine dA [183] ?_)|(refine cD ?_;refine c0 (nY (bR1 S i)) ?_)|((first|with_reducible refine aD ?_|with_reducible refine aS ?_);refine bL aB [0,1,2,3,4,5,6,7,8,9,10,11,12,13,14,15,16,17,18,19,20,21,22,23,24,25,26,27,28,29] aE rfl rfl zby Tryz.func183 rfl rfl rfl (szf:=30) aM6 rfl ?_)|((first|((with_reducible refine cA ?_);refine xA ?_)|((with_reducible refine eK ?_);refine xD ?_));(first|((with_reducible refine bT ?_);(first|refine aK (uT rfl sU rfl (show 8*((i:Int)%8)=((8*(i%8):Nat):Int) by omega)) ?_))))|((with_reducible refine jD ?_);(refine fR aB aE rfl rfl rfl rfl rfl rfl bD7 ?_))|refine stA ?_|refine stD ?_|(refine aF hK hX ?_;clear hK hX K)|fail|(first|refine bF zio ztr rfl rfl ResL.none ?_|refine bE zio ztr rfl rfl ResL.none ?_))
    rw [bR2 S i ⟨h0,h8⟩]
    exact ⟨i+1,by omega,by omega,bW5⟩
   ·repeat' (first|(refine aC ?_;intro K hK hX)|refine aI [0,1,2,4,5,6,7] ?_|((with_reducible refine bC ?_);refine aW [0,1,2,4,5,6,7] rfl rfl ?_;refine dA [183] ?_)|((first|with_reducible refine aD ?_|with_reducible refine aS ?_);refine bL aB [0,1,2,3,4,5,6,7,8,9,10,11,12,13,14,15,16,17,18,19,20,21,22,23,24,25,26,27,28,29] aE rfl rfl zby Tryz.func183 rfl rfl rfl (szf:=30) aM6 rfl ?_)|((first|((with_reducible refine cA ?_);refine xA ?_)|((with_reducible refine eK ?_);refine xD ?_));(first|((with_reducible refine bT ?_);(first|refine aK (uT rfl sU rfl (show 8*((i:Int)%8)=((8*(i%8):Nat):Int) by omega)) ?_))))|((with_reducible refine jD ?_);(refine fR aB aE rfl rfl rfl rfl rfl rfl bD7 ?_))|refine stA ?_|refine stD ?_|(refine aF hK hX ?_;clear hK hX K)|fail|(first|refine bF zio ztr rfl rfl ResL.none ?_|refine bE zio ztr rfl rfl ResL.none ?_))
    rw [aE1 S i (fun h=>h8 h.2)]
    exact ⟨i+1,by omega,by omega,bW5⟩
  ·have g1:(decide ((0:Int)<(i:Int))==true)=false:=by rw [decide_eq_false aA];rfl
   repeat' (first|(refine aC ?_;intro K hK hX)|refine aI [0,1,2,4,5,6,7] ?_|((with_reducible refine bC ?_);refine aW [0,1,2,4,5,6,7] rfl rfl ?_;refine dA [183] ?_)|((first|with_reducible refine aD ?_|with_reducible refine aS ?_);refine bL aB [0,1,2,3,4,5,6,7,8,9,10,11,12,13,14,15,16,17,18,19,20,21,22,23,24,25,26,27,28,29] aE rfl rfl zby Tryz.func183 rfl rfl rfl (szf:=30) aM6 rfl ?_)|((first|((with_reducible refine cA ?_);refine xA ?_)|((with_reducible refine eK ?_);refine xD ?_));(first|((with_reducible refine bT ?_);(first|refine aK (uT rfl sU rfl (show 8*((i:Int)%8)=((8*(i%8):Nat):Int) by omega)) ?_))))|((with_reducible refine jD ?_);(refine fR aB aE rfl rfl rfl rfl rfl rfl bD7 ?_))|refine stA ?_|refine stD ?_|(refine aF hK hX ?_;clear hK hX K)|fail|(first|refine bF zio ztr rfl rfl ResL.none ?_|refine bE zio ztr rfl rfl ResL.none ?_))
   rw [aE1 S i (fun h=>h0 h.1)]
   exact ⟨i+1,by omega,by omega,bW5⟩
 ·obtain rfl:i=32:=by omega
  repeat' (first|(refine aC ?_;intro K hK hX)|refine aI [0,1,2,4,5,6,7] ?_|((with_reducible refine bC ?_);refine aW [0,1,2,4,5,6,7] rfl rfl ?_;refine dA [183] ?_)|((first|with_reducible refine aD ?_|with_reducible refine aS ?_);refine bL aB [0,1,2,3,4,5,6,7,8,9,10,11,12,13,14,15,16,17,18,19,20,21,22,23,24,25,26,27,28,29] aE rfl rfl zby Tryz.func183 rfl rfl rfl (szf:=30) aM6 rfl ?_)|refine stA ?_|refine stD ?_|(refine aF hK hX ?_;clear hK hX K)|fail|(first|refine bF zio ztr rfl rfl ResL.none ?_|refine bE zio ztr rfl rfl ResL.none ?_))
  rw [cC1]
  subst hS
  have hlen:(u8c (aI1 (aF0 dom l) 32)).length=32:=by rw [aL,kK]
  refine dC zio (by exact ⟨cL0,bA8,trivial⟩) rfl (ResL.one zrs) zou
end Go.Proofs.YtbgehdndimlgkaaGreat
namespace Go.Proofs.YtbgehdndimlgkaaGreat
open Go Go.RowKit Go.Av
set_option maxRecDepth 100000
theorem aX6:oJ Tryz.prog 147 0:=by
 intro us w hl
 obtain ⟨_,rfl⟩:∃_:Unit,us=[]:=by
  match us,hl with | [],_=>exact ⟨(),rfl⟩
 refine callsD_of_wpS Tryz.func147 rfl fun c₀ cs hu=>?_
 apply wpS_region
 simp [wpOpsS,go_sem,recoverD,hu,Tryz.ntmps147,Exit.thenS]
 cases c₀
 simp_all [bodyPostS,results,Tryz.results147]
theorem aH7:Body Tryz.prog 147:=by unfold Body;kernel_rfl
attribute [local irreducible] Still Adds AWL AW Drw AC AWR cQ Frz Go.Av.Src cM Out InK
attribute [local simp] bU bQ bM
theorem cT5 (k:Nat) (h0:0<k) (hk:k≤1000000000):AC Tryz.prog 185 [.v (.slice none 0 0),iv k] (.own 0 0 0 1 true) [(0,.row 5 [])] 1:=by
 refine aG aB (sz:=27) Tryz.func185 rfl (by rw [Tryz.ntmps185];rfl) ?_
 repeat' (first|(refine aC ?_;intro K hK hX)|refine aI [0,1,4] ?_|refine stA ?_|(refine aF hK hX ?_;clear hK hX K)|fail)
 exact aU
theorem bM5 (a b:List UInt8) (m n:Nat) (ha:a.length=m) (hb:b.length=n) (h0:0<m) (hk:m+n≤1000000000):AC Tryz.prog 149 [.sl 1 2 [.sl 1 m (u8c a),.sl 1 n (u8c b)]] (.own 0 0 (m+n) 1 true) [(0,.row 5 (u8c (a++b)))] 1:=by
 have hua:(u8c a).length=m:=by rw [aL,ha]
 have hub:(u8c b).length=n:=by rw [aL,hb]
 refine aG aB (sz:=36) Tryz.func149 rfl (by rw [Tryz.ntmps149];rfl) ?_
 repeat' (first|(refine aC ?_;intro K hK hX)|refine aI [0,2,3,5,6,8,9,10,11,25,26,27] ?_|((with_reducible refine sS ?_);refine qG 3 ?_)|(refine bB9 ?_;intro K hK hX)|(refine dV ?_;refine c1 (cT5 (m+n) aA aA) ?_)|refine stA ?_|(refine aF hK hX ?_;clear hK hX K)|fail)
 rw [show 0+m+n=m+n by omega,List.nil_append,← bM]
 exact aU
theorem aP0 (dom:BitVec 64) (k l:List UInt8) (n:Nat) (hk:k.length=32) (hl:l.length=n) (hm:n≤100000000):AC Tryz.prog 78 [wv dom,.agg (u8c k),.sl 1 n (u8c l)] (.c (.agg (u8c (sum dom (k++l))))) [] 0:=by
 have hua:(u8c k).length=32:=by rw [aL,hk]
 have hub:(u8c l).length=n:=by rw [aL,hl]
 have hus:(u8c (sum dom (k++l))).length=32:=by rw [aL,zV]
 have hukl:(u8c (k++l)).length=32+n:=by rw [aL,List.length_append];omega
 refine aG aB (sz:=13) Tryz.func78 rfl (by rw [Tryz.ntmps78];rfl) ?_
 repeat' (first|(refine aC ?_;intro K hK hX)|refine aI [0,1,2,4,6] ?_|refine stA ?_|(refine aF hK hX ?_;clear hK hX K)|fail)
 refine aL1 (cY4 (E:=[(6,.ref 1 0),(7,.c (wv dom)),(8,.c (.sl 1 32 (u8c k))),(9,.c (.sl 1 n (u8c l)))]) (Hp:=[(1,.row 28 z32)]) (by repeat' (first|exact FzE.nil|refine FzE.cons rfl ?_ ?_|exact cT4|exact fz_ref rfl rfl|exact bG2 rfl rfl zln|exact cC8 rfl rfl (by first|exact rX (by first|rfl|omega)|rfl) zln)) (by repeat' (first|exact trivial|refine ⟨rfl,?_⟩))) ?_
 repeat' (first|(refine aC ?_;intro K hK hX)|refine aI [0,1,2,4,6] ?_|((with_reducible refine aD ?_);(first|refine wA ?_|refine wN ?_);(first|refine cF (dR2 dom (k++l) (32+n) fO xU) ?_))|((with_reducible refine aD ?_);(refine yA ?_);(first|refine cF1 (bM5 k l 32 n hk hl aN aA) ?_))|refine stA ?_|(refine aF hK hX ?_;clear hK hX K)|fail)
 refine dC zio (by exact ⟨aX6,aH7,trivial⟩) rfl (ResL.one zrs) zou
end Go.Proofs.YtbgehdndimlgkaaGreat
