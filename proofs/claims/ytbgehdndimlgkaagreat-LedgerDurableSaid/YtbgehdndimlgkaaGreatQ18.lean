/-
  Lemmas for laws of the ledger; no statement of a law.
-/
import Derived.Test.YtbgehdndimlgkaaGreatQ17
set_option maxHeartbeats 16000000
set_option linter.unusedSimpArgs false
set_option linter.unusedVariables false
namespace Go.Proofs.YtbgehdndimlgkaaGreat
open Go Go.RowKit Go.Av
set_option maxRecDepth 100000
section
variable {P:Program} {tab:Tab} {ev:Evl} {h:aO} {d:Option Tmp} {T T' ty:TypeId} {x y:Operand} {pos:String} {aft:Array Edge} {gd:Option (Nat × Bool)}
theorem cM3 (tb:bK P tab) {e:TyE} {E size n:Nat} {cs:List CV} (hn:0<n) (hT:aR tab T=some e) (hk:e.kind = .slice E) (hx:ev x=some (.c (.sl size n cs))) (hy:ev y=some (.c (.v (.slice none 0 0)))):Still P ⟨d,.binOp .eql T x y T',ty,pos,aft,gd⟩ ev h (.c (bv false)):=by
 intro B dom M H w a hh hc he
 have h1:=he x _ hx
 have h2:=he y _ hy
 simp only [Rep,RepC] at h1 h2
 obtain ⟨A,c,us,e1,e2,e3,e4,e5,e7,e6⟩:=h1
 obtain ⟨b,o,rfl,_⟩:=e6 hn
 refine ⟨.bool false,?_,rfl⟩
 have hr:=run_equal_slice_nil (P:=P) w T E (some ⟨b,o,none⟩) n c ((aM tb hT).slice hk)
 simp [execOp,e1,h2,eqGuard,binOp,hr]
end
attribute [local irreducible] Still Adds AWL AW Drw bT bW AC AWR cL Frz Go.Av.Src dC Out InK ItK AsK RdK eI eE ACT ACA eL
attribute [local simp] bQ bL bD
theorem cO7 (l:List UInt8):(u8c l).length=l.length*1:=by rw [aG,Nat.mul_one]
theorem aB9 (r:List UInt8) (n:Nat) (hn:r.length=n) (hb:n≤1000000000):AC Tryz.prog 174 [.sl 1 n (u8c r)] (.c (.sl 1 n (u8c r))) [] 0:=by
 by_cases h0:n=0
 ·have hr:r=[]:=List.eq_nil_of_length_eq_zero aA
  rw [h0,hr]
  show AC Tryz.prog _ ([] ++ .sl 1 0 []::[]) _ [] 0
  refine AC.split0 fun A c hc=>?_
  rw [List.nil_append]
  have hrc:([]:List CV)=u8c []:=rfl
  rw [← hrc]
  cases A with
  | none =>
   refine aF aB (sz:=8) Tryz.func174 rfl (by rw [Tryz.ntmps174];rfl) ?_
   repeat' (first|(refine aC ?_;intro K hK hX)|refine bX8 ?_|(refine aH hK hX ?_;clear hK hX K)|fail)
   exact bB
  | some a =>
   refine aF aB (sz:=8) Tryz.func174 rfl (by rw [Tryz.ntmps174];rfl) ?_
   repeat' (first|(refine aC ?_;intro K hK hX)|refine bX1 ?_|(refine aH hK hX ?_;clear hK hX K)|fail)
   exact bB
 ·have hil:(u8c r).length=n*1:=by rw [cO7,hn]
  have hp:0<n:=by omega
  refine aF aB (sz:=8) Tryz.func174 rfl (by rw [Tryz.ntmps174];rfl) ?_
  repeat' (first|(refine aC ?_;intro K hK hX)|refine bX7 ?_|(refine aH hK hX ?_;clear hK hX K)|fail)
  rw [Nat.zero_add n,List.nil_append]
  exact bB
theorem aX0 (r:List Ver) (n:Nat) (hn:r.length=n) (hb:n≤1000000):AC Tryz.prog 119 [.sl 3 n (vrc r)] (.c (.sl 3 n (vrc r))) [] 0:=by
 by_cases h0:n=0
 ·have hr:r=[]:=List.eq_nil_of_length_eq_zero aA
  rw [h0,hr]
  show AC Tryz.prog _ ([] ++ .sl 3 0 []::[]) _ [] 0
  refine AC.split0 fun A c hc=>?_
  rw [List.nil_append]
  have hrc:([]:List CV)=vrc []:=rfl
  rw [← hrc]
  cases A with
  | none =>
   refine aF aB (sz:=8) Tryz.func119 rfl (by rw [Tryz.ntmps119];rfl) ?_
   repeat' (first|(refine aC ?_;intro K hK hX)|refine bX8 ?_|(refine aH hK hX ?_;clear hK hX K)|fail)
   exact bB
  | some a =>
   refine aF aB (sz:=8) Tryz.func119 rfl (by rw [Tryz.ntmps119];rfl) ?_
   repeat' (first|(refine aC ?_;intro K hK hX)|refine bX1 ?_|(refine aH hK hX ?_;clear hK hX K)|fail)
   exact bB
 ·have hil:(vrc r).length=n*3:=by rw [eA,hn]
  have hp:0<n:=by omega
  refine aF aB (sz:=8) Tryz.func119 rfl (by rw [Tryz.ntmps119];rfl) ?_
  repeat' (first|(refine aC ?_;intro K hK hX)|refine bX7 ?_|(refine aH hK hX ?_;clear hK hX K)|fail)
  rw [Nat.zero_add n,List.nil_append]
  exact bB
theorem aW9 (r:List Src) (n:Nat) (hn:r.length=n) (hb:n≤1000000):AC Tryz.prog 186 [.sl 2 n (src r)] (.c (.sl 2 n (src r))) [] 0:=by
 by_cases h0:n=0
 ·have hr:r=[]:=List.eq_nil_of_length_eq_zero aA
  rw [h0,hr]
  show AC Tryz.prog _ ([] ++ .sl 2 0 []::[]) _ [] 0
  refine AC.split0 fun A c hc=>?_
  rw [List.nil_append]
  have hrc:([]:List CV)=src []:=rfl
  rw [← hrc]
  cases A with
  | none =>
   refine aF aB (sz:=8) Tryz.func186 rfl (by rw [Tryz.ntmps186];rfl) ?_
   repeat' (first|(refine aC ?_;intro K hK hX)|refine bX8 ?_|(refine aH hK hX ?_;clear hK hX K)|fail)
   exact bB
  | some a =>
   refine aF aB (sz:=8) Tryz.func186 rfl (by rw [Tryz.ntmps186];rfl) ?_
   repeat' (first|(refine aC ?_;intro K hK hX)|refine bX1 ?_|(refine aH hK hX ?_;clear hK hX K)|fail)
   exact bB
 ·have hil:(src r).length=n*2:=by rw [fH,hn]
  have hp:0<n:=by omega
  refine aF aB (sz:=8) Tryz.func186 rfl (by rw [Tryz.ntmps186];rfl) ?_
  repeat' (first|(refine aC ?_;intro K hK hX)|refine bX7 ?_|(refine aH hK hX ?_;clear hK hX K)|fail)
  rw [Nat.zero_add n,List.nil_append]
  exact bB
theorem cJ9:oP Tryz.prog 173 3:=by
 intro us w hl
 obtain ⟨u0,u1,u2,rfl⟩:∃u0 u1 u2,us=[u0,u1,u2]:=by
  match us,hl with | [u0,u1,u2],_=>exact ⟨u0,u1,u2,rfl⟩
 refine callsD_of_wpS Tryz.func173 rfl fun c₀ cs hu=>?_
 apply wpS_seq
 apply wpS_region
 simp [wpOpsS,go_sem,recoverD,hu,Tryz.ntmps173,Exit.thenS]
 refine wpS_cond (t:=false) oN ?_
 simp only [Bool.false_eq_true,if_false]
 refine wpS_of_wp (wp_skip ?_)
 cases c₀
 simp_all [bodyPostS,results,Tryz.results173]
theorem aZ8:Body Tryz.prog 173:=by unfold Body;kernel_rfl
theorem cK0:oP Tryz.prog 215 3:=by
 intro us w hl
 obtain ⟨u0,u1,u2,rfl⟩:∃u0 u1 u2,us=[u0,u1,u2]:=by
  match us,hl with | [u0,u1,u2],_=>exact ⟨u0,u1,u2,rfl⟩
 refine callsD_of_wpS Tryz.func215 rfl fun c₀ cs hu=>?_
 apply wpS_seq
 apply wpS_region
 simp [wpOpsS,go_sem,recoverD,hu,Tryz.ntmps215,Exit.thenS]
 refine wpS_cond (t:=false) oN ?_
 simp only [Bool.false_eq_true,if_false]
 refine wpS_of_wp (wp_skip ?_)
 cases c₀
 simp_all [bodyPostS,results,Tryz.results215]
theorem bA0:Body Tryz.prog 215:=by unfold Body;kernel_rfl
theorem cK3 (b:List UInt8) (m:Nat) (hm:b.length=m) (hb:m≤1000000000):∃n s',bM ⟨b,0⟩=(n,s')∧aQ n∧∃b' e' m',s'=⟨b',e'⟩∧b'.length=m'∧m'≤m∧(e'=0→AC Tryz.prog 120 [.sl 1 m (u8c b)] (.tup [.c (iv n),.c (.sl 1 m' (u8c b')),.c (iv 0)]) [] 0)∧(e'≠0→AC Tryz.prog 120 [.sl 1 m (u8c b)] (.tup [.c (iv 0),.c (.v (.slice none 0 0)),.c (iv e')]) [] 0):=by
 obtain ⟨n,s',q1,q2,b',e',m',rfl,q3,q4,q5,q6⟩:=fV b 0 m hm hb
 refine ⟨n,_,q1,q2,b',e',m',rfl,q4,q5,fun he=>?_,fun he=>?_⟩
 ·subst he
  have hcl:=aB9 b' m' q4 q6
  refine aF aB (sz:=10) Tryz.func120 rfl (by rw [Tryz.ntmps120];rfl) ?_
  repeat' (first|(refine aC ?_;intro K hK hX)|refine aL [0,1,2,3,4,5,6,7,8] ?_|((with_reducible refine bC ?_);refine bA [0,1,2,3,4,5,6,7,8] rfl rfl ?_;refine dK [162] ?_)|((with_reducible refine aV ?_);refine nS (q3) aE rfl zby rfl rfl rfl rfl rfl zcv rfl ztp ?_)|(refine gW ?_;refine c0 hcl ?_)|((first|with_reducible refine aD ?_|with_reducible refine aV ?_);refine bN aB [0,1,2,3,4,5,6,7,8,9,10,11,12,13,14,15,16,17,18,19,20,21,22,23,24,25,26,27,28,29,30,31] aE rfl rfl zby Tryz.func162 rfl rfl rfl (szf:=32) (by rw [Tryz.ntmps162];rfl) rfl ?_)|refine stA ?_|refine stE ?_|(refine aH hK hX ?_;clear hK hX K)|fail|(first|refine bF zio bE9 rfl rfl (ResL.three zrs zrs zrs) ?_|refine bE zio bE9 rfl rfl (ResL.three zrs zrs zrs) ?_))
  exact dK1
 ·refine aF aB (sz:=10) Tryz.func120 rfl (by rw [Tryz.ntmps120];rfl) ?_
  repeat' (first|(refine aC ?_;intro K hK hX)|refine aL [0,1,2,3,4,5,6,7,8] ?_|((with_reducible refine bC ?_);refine bA [0,1,2,3,4,5,6,7,8] rfl rfl ?_;refine dK [162] ?_)|((with_reducible refine aV ?_);refine nS (q3) aE rfl zby rfl rfl rfl rfl rfl zcv rfl ztp ?_)|((first|with_reducible refine aD ?_|with_reducible refine aV ?_);refine bN aB [0,1,2,3,4,5,6,7,8,9,10,11,12,13,14,15,16,17,18,19,20,21,22,23,24,25,26,27,28,29,30,31] aE rfl rfl zby Tryz.func162 rfl rfl rfl (szf:=32) (by rw [Tryz.ntmps162];rfl) rfl ?_)|refine stA ?_|refine stE ?_|(refine aH hK hX ?_;clear hK hX K)|fail|(first|refine bF zio bE9 rfl rfl (ResL.three zrs zrs zrs) ?_|refine bE zio bE9 rfl rfl (ResL.three zrs zrs zrs) ?_))
  exact dK1
def en0:LEn:=⟨0,0,0,0,rq0,lk0,hd0,[],[],root0⟩
theorem zH (b:List UInt8) (m:Nat) (hm:b.length=m) (hb:m≤1000000000):∃r s' nv ns,rEn rpP ⟨b,0⟩=(r,s')∧r.vs.length=nv∧r.ss.length=ns∧r.root.length=32∧∃b' e' m',s'=⟨b',e'⟩∧b'.length=m'∧m'≤m∧(e'=0→AC Tryz.prog 77 [.sl 1 m (u8c b)] (.tup [.c (.agg (ecs r nv ns)),.c (.sl 1 m' (u8c b')),.c (iv 0)]) [] 0)∧(e'≠0→AC Tryz.prog 77 [.sl 1 m (u8c b)] (.tup [.c (.agg (ecs en0 0 0)),.c (.v (.slice none 0 0)),.c (iv e')]) [] 0):=by
 obtain ⟨r,s',nv,ns,q1,hv,hs,hr,b',e',m',rfl,q3,q4,q5,q6⟩:=cD9 b 0 m hm hb
 have hel:=cJ hr nv ns
 refine ⟨r,_,nv,ns,q1,hv,hs,hr,b',e',m',rfl,q4,q5,fun he=>?_,fun he=>?_⟩
 ·subst he
  have hcl:=aB9 b' m' q4 q6
  generalize ecs r nv ns=cs at *
  have hwh:∀l:List CV,l=cs→(l.drop 0).take 65=cs:=fun l h=>by rw [h,List.drop_zero,List.take_of_length_le (Nat.le_of_eq hel)]
  refine aF aB (sz:=10) Tryz.func77 rfl (by rw [Tryz.ntmps77];rfl) ?_
  repeat' (first|(refine aC ?_;intro K hK hX)|refine aL [0,1,2,3,4,5,6,7,8] ?_|((with_reducible refine bC ?_);refine bA [0,1,2,3,4,5,6,7,8] rfl rfl ?_;refine dK [145] ?_)|((with_reducible refine aX ?_);refine yA ?_;refine bH (aU (T:=49) aB rfl rfl rfl) rfl ?_)|((with_reducible refine aV ?_);refine nS (q3) aE rfl zby rfl rfl rfl rfl rfl zcv rfl ztp ?_)|(refine gW ?_;refine c0 hcl ?_)|((first|with_reducible refine aD ?_|with_reducible refine aV ?_);refine bN aB [0,1,2,3,4,5,6,7,8,9,10,11,12,13,14,15,16,17,18,19,20,21,22,23,24,25,26,27,28,29,30,31] aE rfl rfl zby Tryz.func145 rfl rfl rfl (szf:=32) (by rw [Tryz.ntmps145];rfl) rfl ?_)|refine stA ?_|refine stE ?_|(refine aH hK hX ?_;clear hK hX K)|fail|(first|refine bF zio bF0 rfl rfl (ResL.three zrs zrs zrs) ?_|refine bE zio bF0 rfl rfl (ResL.three zrs zrs zrs) ?_))
  exact dK2
 ·skip
  generalize ecs r nv ns=cs at *
  dsimp only [ecs,en0,lk0,hd0,iI,rq0,Vl.nul]
  refine aF aB (sz:=10) Tryz.func77 rfl (by rw [Tryz.ntmps77];rfl) ?_
  repeat' (first|(refine aC ?_;intro K hK hX)|refine aL [0,1,2,3,4,5,6,7,8] ?_|((with_reducible refine bC ?_);refine bA [0,1,2,3,4,5,6,7,8] rfl rfl ?_;refine dK [145] ?_)|((with_reducible refine aX ?_);refine yA ?_;refine bH (aU (T:=49) aB rfl rfl rfl) rfl ?_)|((with_reducible refine aV ?_);refine nS (q3) aE rfl zby rfl rfl rfl rfl rfl zcv rfl ztp ?_)|((first|with_reducible refine aD ?_|with_reducible refine aV ?_);refine bN aB [0,1,2,3,4,5,6,7,8,9,10,11,12,13,14,15,16,17,18,19,20,21,22,23,24,25,26,27,28,29,30,31] aE rfl rfl zby Tryz.func145 rfl rfl rfl (szf:=32) (by rw [Tryz.ntmps145];rfl) rfl ?_)|refine stA ?_|refine stE ?_|(refine aH hK hX ?_;clear hK hX K)|fail|(first|refine bF zio bF0 rfl rfl (ResL.three zrs zrs zrs) ?_|refine bE zio bF0 rfl rfl (ResL.three zrs zrs zrs) ?_))
  exact dK2
end Go.Proofs.YtbgehdndimlgkaaGreat
namespace Go.Proofs.YtbgehdndimlgkaaGreat
open Go Go.RowKit Go.Av
set_option maxRecDepth 100000
attribute [local irreducible] Still Adds AWL AW Drw AC AWR cL Frz Go.Av.Src dC Out
abbrev wv (x:BitVec 64):CV := .v (.int .u64 (x.toNat:Int))
theorem dB0 (x:BitVec 64) (k:Int):AC Tryz.prog 257 [wv x,iv k] (.c (wv (x <<< (BitVec.ofInt 64 k &&& 63#64).toNat ||| x >>> (64#64-(BitVec.ofInt 64 k &&& 63#64)).toNat))) [] 0:=by
 refine aF aB (sz:=17) Tryz.func257 rfl (by rw [Tryz.ntmps257];rfl) ?_
 repeat' (first|(refine aC ?_;intro K hK hX)|refine aL [0,1,4,5] ?_|refine stA ?_|(refine aH hK hX ?_;clear hK hX K)|fail)
 exact bB
def aS0 (x:BitVec 64) (n:Nat):BitVec 64:=x >>> n ||| x <<< (64-n)
theorem bA7:∀a:Fin 64,0<a.val→(BitVec.ofInt 64 (0-(a.val:Int)) &&& 63#64).toNat=64-a.val∧(64#64-(BitVec.ofInt 64 (0-(a.val:Int)) &&& 63#64)).toNat=a.val:=by decide
theorem dU0 (x:BitVec 64) (a:Nat) (h0:0<a) (h1:a<64):x <<< (BitVec.ofInt 64 (0-(a:Int)) &&& 63#64).toNat ||| x >>> (64#64-(BitVec.ofInt 64 (0-(a:Int)) &&& 63#64)).toNat=aS0 x a:=by
 obtain ⟨e1,e2⟩:=bA7 ⟨a,h1⟩ h0
 simp only at e1 e2
 rw [e1,e2,aS0,BitVec.or_comm]
theorem bK0 (x:BitVec 64) (a:Nat) (h0:0<a) (h1:a<64):AC Tryz.prog 257 [wv x,iv (0-(a:Int))] (.c (wv (aS0 x a))) [] 0:=by
 have:=dB0 x (0-(a:Int))
 rwa [dU0 x a h0 h1] at this
def mix (x:BitVec 64) (a b:Nat):BitVec 64:=x ^^^ aS0 x a ^^^ aS0 x b
theorem pV (x:BitVec 64) (a b:Nat) (h0:0<a) (h1:a<64) (h2:0<b) (h3:b<64):AC Tryz.prog 250 [wv x,iv a,iv b] (.c (wv (mix x a b))) [] 0:=by
 refine aF aB (sz:=18) Tryz.func250 rfl (by rw [Tryz.ntmps250];rfl) ?_
 repeat' (first|(refine aC ?_;intro K hK hX)|refine aL [0,1,2,6] ?_|(refine dG ?_;first|refine c0 (bK0 x a h0 h1) ?_|refine c0 (bK0 x b h2 h3) ?_)|refine stA ?_|(refine aH hK hX ?_;clear hK hX K)|fail)
 exact bB
theorem aF4 (x:BitVec 64) (a:Nat) (h0:0<a) (h1:a<64):AC Tryz.prog 254 [wv x,iv a] (.c (wv (aS0 x a))) [] 0:=by
 refine aF aB (sz:=13) Tryz.func254 rfl (by rw [Tryz.ntmps254];rfl) ?_
 repeat' (first|(refine aC ?_;intro K hK hX)|refine bU [0,1,4] ?_|((first|((with_reducible refine bP ?_);refine xA ?_)|((with_reducible refine dX ?_);refine xD ?_));(first|((with_reducible refine bS ?_);(first|refine aJ (vD (by exact rfl) (by exact mL) (by exact rfl) (show 64-(a:Int)=((64-a:Nat):Int) by omega)) ?_))))|refine stA ?_|refine stD ?_|(refine aH hK hX ?_;clear hK hX K)|fail)
 exact bB
end Go.Proofs.YtbgehdndimlgkaaGreat
namespace Go.Proofs.YtbgehdndimlgkaaGreat
open Go Go.RowKit Go.Av
set_option maxRecDepth 100000
attribute [local irreducible] Still Adds AWL AW Drw AC AWR cL Frz Go.Av.Src dC Out
structure S5 where
 a:BitVec 64
 b:BitVec 64
 c:BitVec 64
 d:BitVec 64
 e:BitVec 64
deriving DecidableEq
def S5.cs (s:S5):List CV:=[wv s.a,wv s.b,wv s.c,wv s.d,wv s.e]
def rnd (k:BitVec 64) (s:S5):S5 :=
 let c:=s.c ^^^ k
 let a:=s.a ^^^ s.e
 let e:=s.e ^^^ s.d
 let c:=c ^^^ s.b
 let t0 := ~~~a &&& s.b
 let t1 := ~~~s.b &&& c
 let t2 := ~~~c &&& s.d
 let t3 := ~~~s.d &&& e
 let t4 := ~~~e &&& a
 let a:=a ^^^ t1
 let b:=s.b ^^^ t2
 let c:=c ^^^ t3
 let d:=s.d ^^^ t4
 let e:=e ^^^ t0
 let b:=b ^^^ a
 let a:=a ^^^ e
 let d:=d ^^^ c
 let c := ~~~c
 ⟨mix a 19 28,mix b 61 39,mix c 1 6,mix d 10 17,mix e 7 41⟩
def rk (r:Nat):BitVec 64:=BitVec.ofInt 64 (240-15*(r:Int))
def uX:Nat→S5→S5
 | 0,s=>s
 | r+1,s=>rnd (rk r) (uX r s)
def oD (s:S5):S5:=uX 12 s
abbrev z5:List CV:=[.v (.int .u64 0),.v (.int .u64 0),.v (.int .u64 0),.v (.int .u64 0),.v (.int .u64 0)]
theorem oE (s:S5):AC Tryz.prog 230 [.agg s.cs] (.c (.agg (oD s).cs)) [] 0:=by
 refine aF aB (sz:=139) Tryz.func230 rfl (by rw [Tryz.ntmps230];rfl) ?_
 repeat' (first|(refine aC ?_;intro K hK hX)|refine aL [0,1,2,3,4,5] ?_|refine stA ?_|(refine aH hK hX ?_;clear hK hX K)|fail)
 refine cD 2 (fun r:Nat=>[(1,.ref 0 0),(2,.ref 1 0),(5,.c (iv r))]) (fun r=>[(0,.row 198 (uX r s).cs),(1,.row 198 z5)]) [] (fun r=>r≤12) (fun r=>12-r) 0 aA dU ?_
 intro r hr K hK hX
 by_cases hlt:r<12
 ·repeat' (first|(refine aC ?_;intro K hK hX)|refine aL [0,1,2,3,4,5] ?_|(refine dG ?_;first|refine c0 (pV _ 19 28 aN aN aN aN) ?_|refine c0 (pV _ 61 39 aN aN aN aN) ?_|refine c0 (pV _ 1 6 aN aN aN aN) ?_|refine c0 (pV _ 10 17 aN aN aN aN) ?_|refine c0 (pV _ 7 41 aN aN aN aN) ?_)|refine stA ?_|(refine aH hK hX ?_;clear hK hX K)|fail)
  exact ⟨r+1,by omega,by omega,dU⟩
 ·repeat' (first|(refine aC ?_;intro K hK hX)|refine aL [0,1,2,3,4,5] ?_|refine stA ?_|(refine aH hK hX ?_;clear hK hX K)|fail)
  obtain rfl:r=12:=by omega
  exact mJ
end Go.Proofs.YtbgehdndimlgkaaGreat
namespace Go.Proofs.YtbgehdndimlgkaaGreat
open Go Go.RowKit Go.Av
def wdN (l:List UInt8):Nat→BitVec 64
 | 0=>0#64
 | i+1=>wdN l i ||| (((l.getD i 0).toBitVec.setWidth 64) <<< (8*i))
def cP6 (s:S5) (x:BitVec 64):S5:={s with a:=s.a ^^^ x}
def wF (s:S5) (l:List UInt8):Nat→S5
 | 0=>s
 | k+1=>oD (cP6 (wF s l k) (wdN ((l.drop (8*k)).take 8) 8))
def aB0 (r:List UInt8):List UInt8:=r++1::List.replicate (7-r.length) 0
def aA0 (dom:BitVec 64):S5:=oD ⟨dom,1#64,2#64,3#64,4#64⟩
def nP (dom:BitVec 64) (l:List UInt8):S5:=oD (cP6 (wF (aA0 dom) l (l.length / 8)) (wdN (aB0 (l.drop (8*(l.length / 8)))) 8))
def nJ (l:List UInt8):List UInt8:=l++1::List.replicate (7-l.length%8) 0
theorem pZ (r:List UInt8) (h:r.length<8):(aB0 r).length=8:=by simp [aB0];omega
theorem vW (l:List UInt8):(nJ l).length=8*(l.length / 8+1):=by simp [nJ];omega
theorem bQ8 (l:List UInt8):(nJ l).drop (8*(l.length / 8))=aB0 (l.drop (8*(l.length / 8))):=by
 have h:8*(l.length / 8)≤l.length:=by omega
 unfold nJ aB0
 rw [List.drop_append_of_le_length h,List.length_drop]
 congr 3
 omega
theorem bQ9 (l:List UInt8) (j:Nat) (h:j<l.length / 8):((nJ l).drop (8*j)).take 8=(l.drop (8*j)).take 8:=by
 unfold nJ
 rw [List.drop_append_of_le_length aA,List.take_append_of_le_length aC8]
theorem aB4 (s:S5) (l:List UInt8):∀j,j≤l.length / 8→wF s (nJ l) j=wF s l j
 | 0,_=>rfl
 | j+1,h=>by
  simp only [wF]
  rw [aB4 s l j aA,bQ9 l j aA]
theorem aL7 (dom:BitVec 64) (l:List UInt8):wF (aA0 dom) (nJ l) (l.length / 8+1)=nP dom l:=by
 simp only [wF]
 rw [aB4 _ l _ (Nat.le_refl _),bQ8,List.take_of_length_le (by
  rw [pZ]
  ·exact Nat.le_refl _
  ·rw [List.length_drop];omega)]
 rfl
def rT:Nat→S5→S5
 | 0,s=>s
 | k+1,s=>oD (rT k s)
def tZ (s:S5) (i:Nat):UInt8:=UInt8.ofBitVec (((rT (i / 8) s).a >>> (8*(i%8))).setWidth 8)
def kW (s:S5) (n:Nat):List UInt8:=(List.range n).map (tZ s)
theorem fZ (s:S5) (n:Nat):(kW s n).length=n:=by simp [kW]
theorem aE6 (s:S5) (n:Nat):kW s (n+1)=kW s n++[tZ s n]:=by simp [kW,List.range_succ]
theorem bQ6 (s:S5) (n m:Nat) (h:n≤m):(kW s m).take n=kW s n:=by
 simp only [kW,← List.map_take,List.take_range,Nat.min_eq_left h]
def sum (dom:BitVec 64) (l:List UInt8):List UInt8:=kW (nP dom l) 32
theorem sL (dom:BitVec 64) (l:List UInt8):(sum dom l).length=32:=fZ _ _
end Go.Proofs.YtbgehdndimlgkaaGreat
namespace Go.Proofs.YtbgehdndimlgkaaGreat
open Go Go.RowKit Go.Av
set_option maxRecDepth 100000
theorem dN3 (l:List UInt8) (i:Nat) (h:i<l.length):(u8c l)[i*1]? = some (.v (.int .u8 ((l.getD i 0).toNat:Int))):=by
 rw [Nat.mul_one]
 refine bK9 ?_
 simp [List.getD,List.getElem?_eq_getElem h]
theorem dW3 (l:List UInt8) (i:Nat) (h:i<l.length):(u8c l)[0+i*1]? = some (.v (.int .u8 ((l.getD i 0).toNat:Int))):=by
 rw [Nat.zero_add];exact dN3 l i h
attribute [local irreducible] Still Adds AWL AW Drw AC AWR cL Frz Go.Av.Src dC Out
theorem bL3 (l:List UInt8) (hl:l.length=8):AC Tryz.prog 231 [.sl 1 8 (u8c l)] (.c (wv (wdN l 8))) [] 0:=by
 refine aF aB (sz:=22) Tryz.func231 rfl (by rw [Tryz.ntmps231];rfl) ?_
 repeat' (first|(refine aC ?_;intro K hK hX)|refine aL [0,2,3,4,5,6,7,8] ?_|refine stA ?_|(refine aH hK hX ?_;clear hK hX K)|fail)
 refine cD 0 (fun i:Nat=>[(6,.c (.sl 1 8 (u8c l))),(7,.c (iv 8)),(8,.c (iv i)),(3,.c (wv (wdN l i)))]) (fun i=>[]) [] (fun i=>i≤8) (fun i=>8-i) 0 aA dU ?_
 intro i hi K hK hX
 by_cases hlt:i<8
 ·repeat' (first|(refine aC ?_;intro K hK hX)|refine aL [0,2,3,4,5,6,7,8] ?_|(((with_reducible refine bP ?_);refine xA ?_);(first|((with_reducible refine bS ?_);(first|refine aJ (vD rfl mL rfl (show 8*(i:Int)=((8*i:Nat):Int) by omega)) ?_))|((with_reducible refine fU ?_);(first|refine aJ (iK aB rfl rfl rfl rfl rR) ?_|refine aJ (fY aB rfl rfl rfl rfl rR) ?_|refine aJ (fX aB rfl rfl rfl rR) ?_))|((with_reducible refine e_ix ?_);(first|refine aJ (s_ixV1 aB rfl rfl zcj rfl rfl rfl rfl rfl zle rR) ?_|refine aJ (s_ixStr aB rfl rfl zcj rfl rfl rR) ?_))))|refine stA ?_|(refine aH hK hX ?_;clear hK hX K)|fail)
  exact ⟨i+1,by omega,by omega,dU⟩
 ·obtain rfl:i=8:=by omega
  repeat' (first|(refine aC ?_;intro K hK hX)|refine aL [0,2,3,4,5,6,7,8] ?_|refine stA ?_|(refine aH hK hX ?_;clear hK hX K)|fail)
  exact bB
theorem cL8 (l:List UInt8) (hl:l.length=8):AC Tryz.prog 244 [.sl 1 8 (u8c l)] (.c (wv (wdN l 8))) [] 0:=by
 refine aF aB (sz:=20) Tryz.func244 rfl (by rw [Tryz.ntmps244];rfl) ?_
 repeat' (first|(refine aC ?_;intro K hK hX)|refine vH ?_|(refine aH hK hX ?_;clear hK hX K)|fail)
 refine cD 0 (fun i:Nat=>[(0,.c (.sl 1 8 (u8c l))),(4,.c (iv i)),(3,.c (wv (wdN l i)))]) (fun i=>[]) [] (fun i=>i≤8) (fun i=>8-i) 0 aA dU ?_
 intro i hi K hK hX
 by_cases hlt:i<8
 ·repeat' (first|(refine aC ?_;intro K hK hX)|refine aL [0,2,3,4] ?_|(((with_reducible refine bP ?_);refine xA ?_);(first|((with_reducible refine bS ?_);(first|refine aJ (vD rfl mL rfl (show 8*(i:Int)=((8*i:Nat):Int) by omega)) ?_))|((with_reducible refine fU ?_);(first|refine aJ (iK aB rfl rfl rfl rfl rR) ?_|refine aJ (fY aB rfl rfl rfl rfl rR) ?_|refine aJ (fX aB rfl rfl rfl rR) ?_))|((with_reducible refine e_ix ?_);(first|refine aJ (s_ixV1 aB rfl rfl zcj rfl rfl rfl rfl rfl zle rR) ?_|refine aJ (s_ixStr aB rfl rfl zcj rfl rfl rR) ?_))))|refine stA ?_|(refine aH hK hX ?_;clear hK hX K)|fail)
  exact ⟨i+1,by omega,by omega,dU⟩
 ·obtain rfl:i=8:=by omega
  repeat' (first|(refine aC ?_;intro K hK hX)|refine vH ?_|(refine aH hK hX ?_;clear hK hX K)|fail)
  exact bB
end Go.Proofs.YtbgehdndimlgkaaGreat
namespace Go.Proofs.YtbgehdndimlgkaaGreat
open Go Go.RowKit Go.Av
set_option maxRecDepth 100000
theorem dB8 (l:List UInt8) (n k:Nat) (hl:l.length=n) (h:8*(k+1)≤n):AV.c (CV.sl 1 (n-8*k-8) (List.take ((n-8*k-8)*1) (List.drop (8*1) (u8c (List.drop (8*k) l)))))=AV.c (CV.sl 1 (n-8*(k+1)) (u8c (List.drop (8*(k+1)) l))):=by
 rw [Nat.mul_one,Nat.mul_one,bL,bQ,List.drop_drop,List.take_of_length_le aC8,show n-8*k-8=n-8*(k+1) by omega,show 8*k+8=8*(k+1) by omega]
theorem aQ6 (r:List UInt8) (m:Nat) (h:r.length=m) (hm:m<8):lay (List.map CV.v [Value.int IntKind.u8 0,Value.int IntKind.u8 0,Value.int IntKind.u8 0,Value.int IntKind.u8 0,Value.int IntKind.u8 0,Value.int IntKind.u8 0,Value.int IntKind.u8 0,Value.int IntKind.u8 0]) (0+0*1) (u8c r)=u8c (r++List.replicate (8-m) 0):=by
 have:List.map CV.v [Value.int IntKind.u8 0,Value.int IntKind.u8 0,Value.int IntKind.u8 0,Value.int IntKind.u8 0,Value.int IntKind.u8 0,Value.int IntKind.u8 0,Value.int IntKind.u8 0,Value.int IntKind.u8 0]=u8c (List.replicate 8 0):=rfl
 rw [this]
 simp only [lay,Nat.zero_mul,Nat.add_zero,List.take_zero,List.nil_append,Nat.zero_add,aG,bL,h,bD,List.drop_replicate]
theorem dB7 (r:List UInt8) (m:Nat) (h:r.length=m) (hm:m<8):(u8c (r++List.replicate (8-m) 0)).set (0+m*1) (.v (.int .u8 1))=u8c (aB0 r):=by
 have:CV.v (.int .u8 1) = .v (.int .u8 ((1:UInt8).toNat:Int)):=rfl
 rw [this,Nat.zero_add,Nat.mul_one]
 unfold u8c
 rw [← List.map_set]
 congr 1
 unfold aB0
 rw [List.set_append_right _ _ aA,h,Nat.sub_self,show 8-m=(7-m)+1 by omega,List.replicate_succ,List.set_cons_zero]
attribute [local irreducible] Still Adds AWL AW Drw AC AWR cL Frz Go.Av.Src dC Out
attribute [local simp] bQ bL
theorem bL6 (dom:BitVec 64) (l:List UInt8) (n:Nat) (hl:l.length=n) (hm:n≤maxLen):AC Tryz.prog 184 [wv dom,.sl 1 n (u8c l)] (.c (.agg (nP dom l).cs)) [] 0:=by
 have hm':n≤9223372036854775807:=hm
 refine aF aB (sz:=38) Tryz.func184 rfl (by rw [Tryz.ntmps184];rfl) ?_
 repeat' (first|(refine aC ?_;intro K hK hX)|refine bU [0,1,4,5,6] ?_|(refine dB ?_;refine c0 (oE ⟨dom,1#64,2#64,3#64,4#64⟩) ?_)|refine stA ?_|refine stD ?_|(refine aH hK hX ?_;clear hK hX K)|fail)
 refine cD 2 (fun k:Nat=>[(4,.ref 0 0),(5,.ref 1 0),(1,.c (.sl 1 (n-8*k) (u8c (l.drop (8*k)))))]) (fun k=>[(0,.row 198 z5),(1,.row 198 (wF (aA0 dom) l k).cs)]) [] (fun k=>8*k≤n) (fun k=>n-8*k) 0 aA dU ?_
 intro k hk K hK hX
 by_cases hlt:8≤n-8*k
 ·repeat' (first|(refine aC ?_;intro K hK hX)|refine bU [0,1,4,5,6] ?_|(refine dB ?_;first|refine c0 (bL3 ((l.drop (8*k)).take 8) eN) ?_|refine c0 (oE (cP6 (wF (aA0 dom) l k) (wdN ((l.drop (8*k)).take 8) 8))) ?_)|refine stA ?_|refine stD ?_|(refine aH hK hX ?_;clear hK hX K)|fail)
  exact ⟨k+1,by omega,by omega,(by refine fB rfl ?_ ?_ rfl<;>(repeat' (first|exact dH|exact dI|refine cU rfl dJ4 rfl ?_|refine bR rfl dJ4 rfl ?_)))⟩
 ·have hr:(l.drop (8*k)).length=n-8*k:=by rw [List.length_drop,hl]
  have hkn:k=l.length / 8:=by omega
  have hp:(u8c (aB0 (l.drop (8*k)))).length=8:=by rw [aG,pZ];omega
  have hq:(u8c (l.drop (8*k)++List.replicate (8-(n-8*k)) 0)).length=8:=by rw [aG,List.length_append,List.length_replicate];omega
  have hk8:n-8*k<8:=by omega
  have hfit:0+(n-8*k)*1<(lay (List.map CV.v [Value.int IntKind.u8 0,Value.int IntKind.u8 0,Value.int IntKind.u8 0,Value.int IntKind.u8 0,Value.int IntKind.u8 0,Value.int IntKind.u8 0,Value.int IntKind.u8 0,Value.int IntKind.u8 0]) (0+0*1) (u8c (l.drop (8*k)))).length:=by rw [aQ6 _ _ hr aA,hq];omega
  repeat' (first|(refine aC ?_;intro K hK hX)|refine bU [0,1,4,5,6] ?_|((with_reducible refine gQ ?_);(refine eM aB aE rfl rfl rfl rfl rfl rfl dI3 ?_))|refine stA ?_|refine stD ?_|(refine aH hK hX ?_;clear hK hX K)|fail)
  rw [aQ6 _ _ hr aA]
  rw [dB7 _ _ hr aA]
  repeat' (first|(refine aC ?_;intro K hK hX)|refine bU [0,1,4,5,6] ?_|((first|with_reducible refine aD ?_|with_reducible refine fN ?_);(first|refine wA ?_|refine wN ?_|refine wD ?_);(first|refine cF (bL3 (aB0 (l.drop (8*k))) (by rw [pZ];omega)) ?_))|(refine dB ?_;refine c0 (oE (cP6 (wF (aA0 dom) l k) (wdN (aB0 (l.drop (8*k))) 8))) ?_)|refine stA ?_|refine stD ?_|(refine aH hK hX ?_;clear hK hX K)|fail)
  subst hkn
  exact mJ
end Go.Proofs.YtbgehdndimlgkaaGreat
namespace Go.Proofs.YtbgehdndimlgkaaGreat
open Go Go.RowKit Go.Av
set_option maxRecDepth 100000
theorem cO2:oP Tryz.prog 182 0:=by
 intro us w hl
 obtain ⟨_,rfl⟩:∃_:Unit,us=[]:=by
  match us,hl with | [],_=>exact ⟨(),rfl⟩
 refine callsD_of_wpS Tryz.func182 rfl fun c₀ cs hu=>?_
 apply wpS_region
 simp [wpOpsS,go_sem,recoverD,hu,Tryz.ntmps182,Exit.thenS]
 cases c₀
 simp_all [bodyPostS,results,Tryz.results182]
theorem bC2:Body Tryz.prog 182:=by unfold Body;kernel_rfl
def fil (S:S5) (n i:Nat):List UInt8:=kW S i++List.replicate (n-i) 0
theorem aP2 (S:S5) (n:Nat):fil S n n=kW S n:=by simp [fil]
theorem yM (S:S5) (n i:Nat) (h:i≤n):(fil S n i).length=n:=by simp [fil,fZ];omega
theorem dC6 (l:List UInt8) (i:Nat) (b:UInt8):(u8c l).set i (.v (.int .u8 (b.toNat:Int)))=u8c (l.set i b):=by
 unfold u8c
 rw [← List.map_set]
theorem aH7 (S:S5) (n i:Nat) (h:i<n):(u8c (fil S n i)).set (0+i*1) (.v (.int .u8 ((tZ S i).toNat:Int)))=u8c (fil S n (i+1)):=by
 rw [dC6,Nat.zero_add,Nat.mul_one]
 congr 1
 unfold fil
 rw [aE6,List.set_append_right _ _ (by rw [fZ];omega),fZ,Nat.sub_self,show n-i=(n-(i+1))+1 by omega,List.replicate_succ,List.set_cons_zero]
 simp
def bT3 (S:S5) (i:Nat):S5:=rT ((i-1) / 8) S
theorem aF8 (S:S5) (i:Nat) (h:¬(0<i∧i%8=0)):bT3 S i=rT (i / 8) S:=by
 unfold bT3;congr 1;omega
theorem bT4 (S:S5) (i:Nat) (h:0<i∧i%8=0):oD (bT3 S i)=rT (i / 8) S:=by
 unfold bT3
 rw [show i / 8=(i-1) / 8+1 by omega]
 rfl
attribute [local irreducible] Still Adds AWL AW Drw AC AWR cL Frz Go.Av.Src dC Out InK
abbrev z32:List CV:=List.map CV.v [.int .u8 0,.int .u8 0,.int .u8 0,.int .u8 0,.int .u8 0,.int .u8 0,.int .u8 0,.int .u8 0,.int .u8 0,.int .u8 0,.int .u8 0,.int .u8 0,.int .u8 0,.int .u8 0,.int .u8 0,.int .u8 0,.int .u8 0,.int .u8 0,.int .u8 0,.int .u8 0,.int .u8 0,.int .u8 0,.int .u8 0,.int .u8 0,.int .u8 0,.int .u8 0,.int .u8 0,.int .u8 0,.int .u8 0,.int .u8 0,.int .u8 0,.int .u8 0]
theorem dW1 (dom:BitVec 64) (l:List UInt8) (n:Nat) (hl:l.length=n) (hm:n≤maxLen):AC Tryz.prog 148 [wv dom,.sl 1 n (u8c l)] (.c (.agg (u8c (sum dom l)))) [] 0:=by
 refine aF aB (sz:=12) Tryz.func148 rfl (by rw [Tryz.ntmps148];rfl) ?_
 repeat' (first|(refine aC ?_;intro K hK hX)|refine aL [0,1,2,4,5,6,7] ?_|((with_reducible refine bC ?_);refine bA [0,1,2,4,5,6,7] rfl rfl ?_;refine dF [183] ?_)|(refine dB ?_;refine c0 (bL6 dom l n hl hm) ?_)|((first|with_reducible refine aD ?_|with_reducible refine aV ?_);refine bN aB [0,1,2,3,4,5,6,7,8,9,10,11,12,13,14,15,16,17,18,19,20,21,22,23,24,25,26,27,28,29] aE rfl rfl zby Tryz.func183 rfl rfl rfl (szf:=30) xQ rfl ?_)|refine stA ?_|refine stD ?_|(refine aH hK hX ?_;clear hK hX K)|fail|(first|refine bF zio ztr rfl rfl ResL.none ?_|refine bE zio ztr rfl rfl ResL.none ?_))
 generalize hS:nP dom l=S
 refine cD 3 (fun i:Nat=>[(1,.own 1 0 32 1 false),(2,.ref 2 0),(6,.c (iv 32)),(7,.c (iv i))]) (fun i=>[(0,.row 28 z32),(1,.row 28 (u8c (fil S 32 i))),(2,.row 198 (bT3 S i).cs)]) _ (fun i=>i≤32) (fun i=>32-i) 0 aA dU ?_
 intro i hi K hK hX
 by_cases hlt:i<32
 ·skip
  have hlen:(u8c (fil S 32 i)).length=32:=by rw [aG,yM _ _ _ aA]
  by_cases h0:0<i
  ·have g1:(decide ((0:Int)<(i:Int))==true)=true:=by rw [decide_eq_true aA];rfl
   by_cases h8:i%8=0
   ·repeat' (first|(refine aC ?_;intro K hK hX)|refine aL [0,1,2,4,5,6,7] ?_|((with_reducible refine bC ?_);refine bA [0,1,2,4,5,6,7] rfl rfl ?_;refine dF [183] ?_)|(refine dB ?_;refine c0 (oE (bT3 S i)) ?_)|((first|with_reducible refine aD ?_|with_reducible refine aV ?_);refine bN aB [0,1,2,3,4,5,6,7,8,9,10,11,12,13,14,15,16,17,18,19,20,21,22,23,24,25,26,27,28,29] aE rfl rfl zby Tryz.func183 rfl rfl rfl (szf:=30) xQ rfl ?_)|((first|((with_reducible refine bP ?_);refine xA ?_)|((with_reducible refine dX ?_);refine xD ?_));(first|((with_reducible refine bS ?_);(first|refine aJ (sK rfl mL rfl (show 8*((i:Int)%8)=((8*(i%8):Nat):Int) by omega)) ?_))))|((with_reducible refine gQ ?_);(refine eM aB aE rfl rfl rfl rfl rfl rfl aN6 ?_))|refine stA ?_|refine stD ?_|(refine aH hK hX ?_;clear hK hX K)|fail|(first|refine bF zio ztr rfl rfl ResL.none ?_|refine bE zio ztr rfl rfl ResL.none ?_))
    rw [bT4 S i ⟨h0,h8⟩]
    exact ⟨i+1,by omega,by omega,dP1⟩
   ·repeat' (first|(refine aC ?_;intro K hK hX)|refine aL [0,1,2,4,5,6,7] ?_|((with_reducible refine bC ?_);refine bA [0,1,2,4,5,6,7] rfl rfl ?_;refine dF [183] ?_)|((first|with_reducible refine aD ?_|with_reducible refine aV ?_);refine bN aB [0,1,2,3,4,5,6,7,8,9,10,11,12,13,14,15,16,17,18,19,20,21,22,23,24,25,26,27,28,29] aE rfl rfl zby Tryz.func183 rfl rfl rfl (szf:=30) xQ rfl ?_)|((first|((with_reducible refine bP ?_);refine xA ?_)|((with_reducible refine dX ?_);refine xD ?_));(first|((with_reducible refine bS ?_);(first|refine aJ (sK rfl mL rfl (show 8*((i:Int)%8)=((8*(i%8):Nat):Int) by omega)) ?_))))|((with_reducible refine gQ ?_);(refine eM aB aE rfl rfl rfl rfl rfl rfl aN6 ?_))|refine stA ?_|refine stD ?_|(refine aH hK hX ?_;clear hK hX K)|fail|(first|refine bF zio ztr rfl rfl ResL.none ?_|refine bE zio ztr rfl rfl ResL.none ?_))
    rw [aF8 S i (fun h=>h8 h.2)]
    exact ⟨i+1,by omega,by omega,dP1⟩
  ·have g1:(decide ((0:Int)<(i:Int))==true)=false:=by rw [decide_eq_false aA];rfl
   repeat' (first|(refine aC ?_;intro K hK hX)|refine aL [0,1,2,4,5,6,7] ?_|((with_reducible refine bC ?_);refine bA [0,1,2,4,5,6,7] rfl rfl ?_;refine dF [183] ?_)|((first|with_reducible refine aD ?_|with_reducible refine aV ?_);refine bN aB [0,1,2,3,4,5,6,7,8,9,10,11,12,13,14,15,16,17,18,19,20,21,22,23,24,25,26,27,28,29] aE rfl rfl zby Tryz.func183 rfl rfl rfl (szf:=30) xQ rfl ?_)|((first|((with_reducible refine bP ?_);refine xA ?_)|((with_reducible refine dX ?_);refine xD ?_));(first|((with_reducible refine bS ?_);(first|refine aJ (sK rfl mL rfl (show 8*((i:Int)%8)=((8*(i%8):Nat):Int) by omega)) ?_))))|((with_reducible refine gQ ?_);(refine eM aB aE rfl rfl rfl rfl rfl rfl aN6 ?_))|refine stA ?_|refine stD ?_|(refine aH hK hX ?_;clear hK hX K)|fail|(first|refine bF zio ztr rfl rfl ResL.none ?_|refine bE zio ztr rfl rfl ResL.none ?_))
   rw [aF8 S i (fun h=>h0 h.1)]
   exact ⟨i+1,by omega,by omega,dP1⟩
 ·obtain rfl:i=32:=by omega
  repeat' (first|(refine aC ?_;intro K hK hX)|refine aL [0,1,2,4,5,6,7] ?_|((with_reducible refine bC ?_);refine bA [0,1,2,4,5,6,7] rfl rfl ?_;refine dF [183] ?_)|((first|with_reducible refine aD ?_|with_reducible refine aV ?_);refine bN aB [0,1,2,3,4,5,6,7,8,9,10,11,12,13,14,15,16,17,18,19,20,21,22,23,24,25,26,27,28,29] aE rfl rfl zby Tryz.func183 rfl rfl rfl (szf:=30) xQ rfl ?_)|refine stA ?_|refine stD ?_|(refine aH hK hX ?_;clear hK hX K)|fail|(first|refine bF zio ztr rfl rfl ResL.none ?_|refine bE zio ztr rfl rfl ResL.none ?_))
  rw [aP2]
  subst hS
  have hlen:(u8c (kW (nP dom l) 32)).length=32:=by rw [aG,fZ]
  refine dA zio (by exact ⟨cO2,bC2,trivial⟩) rfl (ResL.one zrs) zou
end Go.Proofs.YtbgehdndimlgkaaGreat
namespace Go.Proofs.YtbgehdndimlgkaaGreat
open Go Go.RowKit Go.Av
set_option maxRecDepth 100000
theorem aY7:oP Tryz.prog 147 0:=by
 intro us w hl
 obtain ⟨_,rfl⟩:∃_:Unit,us=[]:=by
  match us,hl with | [],_=>exact ⟨(),rfl⟩
 refine callsD_of_wpS Tryz.func147 rfl fun c₀ cs hu=>?_
 apply wpS_region
 simp [wpOpsS,go_sem,recoverD,hu,Tryz.ntmps147,Exit.thenS]
 cases c₀
 simp_all [bodyPostS,results,Tryz.results147]
theorem aJ1:Body Tryz.prog 147:=by unfold Body;kernel_rfl
attribute [local irreducible] Still Adds AWL AW Drw AC AWR cL Frz Go.Av.Src dC Out InK
attribute [local simp] bQ bL bD
theorem cX6 (k:Nat) (h0:0<k) (hk:k≤1000000000):AC Tryz.prog 185 [.v (.slice none 0 0),iv k] (.own 0 0 0 1 true) [(0,.row 5 [])] 1:=by
 refine aF aB (sz:=27) Tryz.func185 rfl (by rw [Tryz.ntmps185];rfl) ?_
 repeat' (first|(refine aC ?_;intro K hK hX)|refine aL [0,1,4] ?_|refine stA ?_|(refine aH hK hX ?_;clear hK hX K)|fail)
 exact bB
theorem bN5 (a b:List UInt8) (m n:Nat) (ha:a.length=m) (hb:b.length=n) (h0:0<m) (hk:m+n≤1000000000):AC Tryz.prog 149 [.sl 1 2 [.sl 1 m (u8c a),.sl 1 n (u8c b)]] (.own 0 0 (m+n) 1 true) [(0,.row 5 (u8c (a++b)))] 1:=by
 have hua:(u8c a).length=m:=by rw [aG,ha]
 have hub:(u8c b).length=n:=by rw [aG,hb]
 refine aF aB (sz:=36) Tryz.func149 rfl (by rw [Tryz.ntmps149];rfl) ?_
 repeat' (first|(refine aC ?_;intro K hK hX)|refine aL [0,2,3,5,6,8,9,10,11,25,26,27] ?_|((with_reducible refine tH ?_);refine qR 3 ?_)|(refine bD6 ?_;intro K hK hX)|(refine dG ?_;refine c1 (cX6 (m+n) aA aA) ?_)|refine stA ?_|(refine aH hK hX ?_;clear hK hX K)|fail)
 rw [show 0+m+n=m+n by omega,List.nil_append,← bD]
 exact bB
theorem aQ5 (dom:BitVec 64) (k l:List UInt8) (n:Nat) (hk:k.length=32) (hl:l.length=n) (hm:n≤100000000):AC Tryz.prog 78 [wv dom,.agg (u8c k),.sl 1 n (u8c l)] (.c (.agg (u8c (sum dom (k++l))))) [] 0:=by
 have hua:(u8c k).length=32:=by rw [aG,hk]
 have hub:(u8c l).length=n:=by rw [aG,hl]
 have hus:(u8c (sum dom (k++l))).length=32:=by rw [aG,sL]
 have hukl:(u8c (k++l)).length=32+n:=by rw [aG,List.length_append];omega
 refine aF aB (sz:=13) Tryz.func78 rfl (by rw [Tryz.ntmps78];rfl) ?_
 repeat' (first|(refine aC ?_;intro K hK hX)|refine aL [0,1,2,4,6] ?_|refine stA ?_|(refine aH hK hX ?_;clear hK hX K)|fail)
 refine aM5 (dC8 (E:=[(6,.ref 1 0),(7,.c (wv dom)),(8,.c (.sl 1 32 (u8c k))),(9,.c (.sl 1 n (u8c l)))]) (Hp:=[(1,.row 28 z32)]) (by repeat' (first|exact FzE.nil|refine FzE.cons rfl ?_ ?_|exact cX5|exact fz_ref rfl rfl|exact bH4 rfl rfl zln|exact cF2 rfl rfl (by first|exact sM (by first|rfl|omega)|rfl) zln)) (by repeat' (first|exact trivial|refine ⟨rfl,?_⟩))) ?_
 repeat' (first|(refine aC ?_;intro K hK hX)|refine aL [0,1,2,4,6] ?_|((with_reducible refine aD ?_);(first|refine wA ?_|refine wN ?_);(first|refine cF (dW1 dom (k++l) (32+n) eN xX) ?_))|((with_reducible refine aD ?_);(refine yA ?_);(first|refine cF1 (bN5 k l 32 n hk hl aN aA) ?_))|refine stA ?_|(refine aH hK hX ?_;clear hK hX K)|fail)
 refine dA zio (by exact ⟨aY7,aJ1,trivial⟩) rfl (ResL.one zrs) zou
end Go.Proofs.YtbgehdndimlgkaaGreat
