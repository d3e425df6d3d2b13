/- Lemmas for laws of the ledger. -/
import Derived.Test.YtbgehdndimlgkaaGreatV17
set_option linter.all false
set_option maxHeartbeats 16000000
namespace Go.Proofs.YtbgehdndimlgkaaGreat
open Go Go.RowKit Go.Av
set_option maxRecDepth 100000
section
section
variable {P:Di} {tab:Tab} {ev:Evl} {h:aL} {d:Dg} {T T' ty:Dh} {x y:Operand} {pos:String} {aft:Df} {gd:Da}
theorem bY7 (tb:bF P tab) {e:TyE} {E size n:Nat} {cs:Dp} (hn:0<n) (hT:aP tab T=some e) (hk:e.kind = .slice E) (hx:ev x=some (.c (.sl size n cs))) (hy:ev y=some (.c (.v (.slice none 0 0)))):Still P ⟨d,.binOp .eql T x y T',ty,pos,aft,gd⟩ ev h (.c (bv false)):=by
 intro B dom M H w a hh hc he
 have h1:=he x _ hx
 have h2:=he y _ hy
 simp only [Rep,RepC] at h1 h2
 obtain ⟨A,c,us,e1,e2,e3,e4,e5,e7,e6⟩:=h1
 obtain ⟨b,o,rfl,_⟩:=e6 hn
 refine ⟨.bool false,?_,rfl⟩
 have hr:=run_equal_slice_nil (P:=P) w T E (some ⟨b,o,none⟩) n c ((aK tb hT).slice hk)
 simp [execOp,e1,h2,eqGuard,binOp,hr]
end
attribute [local irreducible] Still Adds AWL AW Drw bN bP AC AWR cM Frz Go.Av.Src dB Out InK ItK AsK RdK eA dZ ACT ACA eL
attribute [local simp] bL bK bZ
theorem cB6 (l:CZ):(u8c l).length=l.length*1:=by rw [aI,A4]
theorem yF (r:CZ) (n:Nat) (hn:r.length=n) (hb:n<=1000000000):qC' 174 [.sl 1 n (u8c r)] (.c (.sl 1 n (u8c r))) [] 0:=by
 by_cases h0:n=0
 ·have hr:r=[]:=Ai aA
  rw [h0,hr]
  show qC' _ ([] ++ .sl 1 0 []::[]) _ [] 0
  refine AC.split0 fun A c hc=>?_
  rw [At]
  have hrc:([]:Dp)=u8c []:=rfl
  rw [<- hrc]
  cases A with
  | none =>
   refine aJ aB (sz:=8) Tryz.func174 rfl (by rw [Tryz.ntmps174];rfl) ?_
   repeat' (first|(refine aC ?_;intro K hK hX)|refine bM5 ?_|(refine aH hK hX ?_;clear hK hX K)|fail)
   exact cJ
  | some a =>
   refine aJ aB (sz:=8) Tryz.func174 rfl (by rw [Tryz.ntmps174];rfl) ?_
   repeat' (first|(refine aC ?_;intro K hK hX)|refine bM1 ?_|(refine aH hK hX ?_;clear hK hX K)|fail)
   exact cJ
 ·have hil:(u8c r).length=n*1:=by rw [cB6,hn]
  have hp:0<n:=by omega
  refine aJ aB (sz:=8) Tryz.func174 rfl (by rw [Tryz.ntmps174];rfl) ?_
  repeat' (first|(refine aC ?_;intro K hK hX)|refine bM4 ?_|(refine aH hK hX ?_;clear hK hX K)|fail)
  rw [Al n,At]
  exact cJ
theorem aO6 (r:List Ver) (n:Nat) (hn:r.length=n) (hb:n<=1000000):qC' 119 [.sl 3 n (vrc r)] (.c (.sl 3 n (vrc r))) [] 0:=by
 by_cases h0:n=0
 ·have hr:r=[]:=Ai aA
  rw [h0,hr]
  show qC' _ ([] ++ .sl 3 0 []::[]) _ [] 0
  refine AC.split0 fun A c hc=>?_
  rw [At]
  have hrc:([]:Dp)=vrc []:=rfl
  rw [<- hrc]
  cases A with
  | none =>
   refine aJ aB (sz:=8) Tryz.func119 rfl (by rw [Tryz.ntmps119];rfl) ?_
   repeat' (first|(refine aC ?_;intro K hK hX)|refine bM5 ?_|(refine aH hK hX ?_;clear hK hX K)|fail)
   exact cJ
  | some a =>
   refine aJ aB (sz:=8) Tryz.func119 rfl (by rw [Tryz.ntmps119];rfl) ?_
   repeat' (first|(refine aC ?_;intro K hK hX)|refine bM1 ?_|(refine aH hK hX ?_;clear hK hX K)|fail)
   exact cJ
 ·have hil:(vrc r).length=n*3:=by rw [dW,hn]
  have hp:0<n:=by omega
  refine aJ aB (sz:=8) Tryz.func119 rfl (by rw [Tryz.ntmps119];rfl) ?_
  repeat' (first|(refine aC ?_;intro K hK hX)|refine bM4 ?_|(refine aH hK hX ?_;clear hK hX K)|fail)
  rw [Al n,At]
  exact cJ
theorem aO5 (r:List Src) (n:Nat) (hn:r.length=n) (hb:n<=1000000):qC' 186 [.sl 2 n (src r)] (.c (.sl 2 n (src r))) [] 0:=by
 by_cases h0:n=0
 ·have hr:r=[]:=Ai aA
  rw [h0,hr]
  show qC' _ ([] ++ .sl 2 0 []::[]) _ [] 0
  refine AC.split0 fun A c hc=>?_
  rw [At]
  have hrc:([]:Dp)=src []:=rfl
  rw [<- hrc]
  cases A with
  | none =>
   refine aJ aB (sz:=8) Tryz.func186 rfl (by rw [Tryz.ntmps186];rfl) ?_
   repeat' (first|(refine aC ?_;intro K hK hX)|refine bM5 ?_|(refine aH hK hX ?_;clear hK hX K)|fail)
   exact cJ
  | some a =>
   refine aJ aB (sz:=8) Tryz.func186 rfl (by rw [Tryz.ntmps186];rfl) ?_
   repeat' (first|(refine aC ?_;intro K hK hX)|refine bM1 ?_|(refine aH hK hX ?_;clear hK hX K)|fail)
   exact cJ
 ·have hil:(src r).length=n*2:=by rw [fT,hn]
  have hp:0<n:=by omega
  refine aJ aB (sz:=8) Tryz.func186 rfl (by rw [Tryz.ntmps186];rfl) ?_
  repeat' (first|(refine aC ?_;intro K hK hX)|refine bM4 ?_|(refine aH hK hX ?_;clear hK hX K)|fail)
  rw [Al n,At]
  exact cJ
theorem bX2:nJ Tryz.prog 173 3:=by
 intro us w hl
 obtain ⟨u0,u1,u2,rfl⟩:∃u0 u1 u2,us=[u0,u1,u2]:=by
  match us,hl with | [u0,u1,u2],_=>exact ⟨u0,u1,u2,rfl⟩
 refine callsD_of_wpS Tryz.func173 rfl fun c₀ cs hu=>?_
 apply wpS_seq
 apply wpS_region
 simp [wpOpsS,go_sem,recoverD,hu,Tryz.ntmps173,Exit.thenS]
 refine wpS_cond (t:=false) nD ?_
 simp only [AB,AY]
 refine wpS_of_wp (wp_skip ?_)
 cases c₀
 simp_all [bodyPostS,results,Tryz.results173]
theorem aR1:Body Tryz.prog 173:=by unfold Body;kernel_rfl
theorem bX3:nJ Tryz.prog 215 3:=by
 intro us w hl
 obtain ⟨u0,u1,u2,rfl⟩:∃u0 u1 u2,us=[u0,u1,u2]:=by
  match us,hl with | [u0,u1,u2],_=>exact ⟨u0,u1,u2,rfl⟩
 refine callsD_of_wpS Tryz.func215 rfl fun c₀ cs hu=>?_
 apply wpS_seq
 apply wpS_region
 simp [wpOpsS,go_sem,recoverD,hu,Tryz.ntmps215,Exit.thenS]
 refine wpS_cond (t:=false) nD ?_
 simp only [AB,AY]
 refine wpS_of_wp (wp_skip ?_)
 cases c₀
 simp_all [bodyPostS,results,Tryz.results215]
theorem aR2:Body Tryz.prog 215:=by unfold Body;kernel_rfl
theorem bX4 (b:CZ) (m:Nat) (hm:b.length=m) (hb:m<=1000000000):∃n s',bI ⟨b,0⟩=(n,s')/\aS n/\∃b' e' m',s'=⟨b',e'⟩/\b'.length=m'/\m'<=m/\(e'=0->qC' 120 [.sl 1 m (u8c b)] (.tup [.c (iv n),.c (.sl 1 m' (u8c b')),.c (iv 0)]) [] 0)/\(e'≠0->qC' 120 [.sl 1 m (u8c b)] (.tup [.c (iv 0),.c (.v (.slice none 0 0)),.c (iv e')]) [] 0):=by
 obtain ⟨n,s',q1,q2,b',e',m',rfl,q3,q4,q5,q6⟩:=fF b 0 m hm hb
 refine ⟨n,_,q1,q2,b',e',m',rfl,q4,q5,fun he=>?_,fun he=>?_⟩
 ·subst he
  have hcl:=yF b' m' q4 q6
  refine aJ aB (sz:=10) Tryz.func120 rfl (by rw [Tryz.ntmps120];rfl) ?_
  repeat' (first|(refine aC ?_;intro K hK hX)|refine aM (List.range 9) ?_|((with_reducible refine bC ?_);refine aY (List.range 9) rfl rfl ?_;refine dI [162] ?_)|((with_reducible refine bD ?_);refine mM (q3) aE rfl zby rfl rfl rfl rfl rfl zcv rfl ztp ?_)|(refine oY ?_;refine c0 hcl ?_)|((first|with_reducible refine aF ?_|with_reducible refine bD ?_);refine cK aB (List.range 32) aE rfl rfl zby Tryz.func162 rfl rfl rfl (szf:=32) (by rw [Tryz.ntmps162];rfl) rfl ?_)|refine stA ?_|refine stE ?_|(refine aH hK hX ?_;clear hK hX K)|fail|(first|refine bW zio aV9 rfl rfl (ResL.three zrs zrs zrs) ?_|refine bV zio aV9 rfl rfl (ResL.three zrs zrs zrs) ?_))
  exact cV5
 ·refine aJ aB (sz:=10) Tryz.func120 rfl (by rw [Tryz.ntmps120];rfl) ?_
  repeat' (first|(refine aC ?_;intro K hK hX)|refine aM (List.range 9) ?_|((with_reducible refine bC ?_);refine aY (List.range 9) rfl rfl ?_;refine dI [162] ?_)|((with_reducible refine bD ?_);refine mM (q3) aE rfl zby rfl rfl rfl rfl rfl zcv rfl ztp ?_)|((first|with_reducible refine aF ?_|with_reducible refine bD ?_);refine cK aB (List.range 32) aE rfl rfl zby Tryz.func162 rfl rfl rfl (szf:=32) (by rw [Tryz.ntmps162];rfl) rfl ?_)|refine stA ?_|refine stE ?_|(refine aH hK hX ?_;clear hK hX K)|fail|(first|refine bW zio aV9 rfl rfl (ResL.three zrs zrs zrs) ?_|refine bV zio aV9 rfl rfl (ResL.three zrs zrs zrs) ?_))
  exact cV5
def en0:LEn:=⟨0,0,0,0,rq0,lk0,hd0,[],[],root0⟩
theorem wV (b:CZ) (m:Nat) (hm:b.length=m) (hb:m<=1000000000):∃r s' nv ns,rEn rpP ⟨b,0⟩=(r,s')/\r.vs.length=nv/\r.ss.length=ns/\r.root.length=32/\∃b' e' m',s'=⟨b',e'⟩/\b'.length=m'/\m'<=m/\(e'=0->qC' 77 [.sl 1 m (u8c b)] (.tup [.c (.agg (ecs r nv ns)),.c (.sl 1 m' (u8c b')),.c (iv 0)]) [] 0)/\(e'≠0->qC' 77 [.sl 1 m (u8c b)] (.tup [.c (.agg (ecs en0 0 0)),.c (.v (.slice none 0 0)),.c (iv e')]) [] 0):=by
 obtain ⟨r,s',nv,ns,q1,hv,hs,hr,b',e',m',rfl,q3,q4,q5,q6⟩:=bR6 b 0 m hm hb
 have hel:=cS hr nv ns
 refine ⟨r,_,nv,ns,q1,hv,hs,hr,b',e',m',rfl,q4,q5,fun he=>?_,fun he=>?_⟩
 ·subst he
  have hcl:=yF b' m' q4 q6
  generalize ecs r nv ns=cs at *
  have hwh:∀l:Dp,l=cs->(l.drop 0).take 65=cs:=fun l h=>by rw [h,Bg,Ah (CA hel)]
  refine aJ aB (sz:=10) Tryz.func77 rfl (by rw [Tryz.ntmps77];rfl) ?_
  repeat' (first|(refine aC ?_;intro K hK hX)|refine aM (List.range 9) ?_|((with_reducible refine bC ?_);refine aY (List.range 9) rfl rfl ?_;refine dI [145] ?_)|((with_reducible refine bA ?_);refine yA ?_;refine bG (aW (T:=49) aB rfl rfl rfl) rfl ?_)|((with_reducible refine bD ?_);refine mM (q3) aE rfl zby rfl rfl rfl rfl rfl zcv rfl ztp ?_)|(refine oY ?_;refine c0 hcl ?_)|((first|with_reducible refine aF ?_|with_reducible refine bD ?_);refine cK aB (List.range 32) aE rfl rfl zby Tryz.func145 rfl rfl rfl (szf:=32) (by rw [Tryz.ntmps145];rfl) rfl ?_)|refine stA ?_|refine stE ?_|(refine aH hK hX ?_;clear hK hX K)|fail|(first|refine bW zio aW0 rfl rfl (ResL.three zrs zrs zrs) ?_|refine bV zio aW0 rfl rfl (ResL.three zrs zrs zrs) ?_))
  exact cV6
 ·skip
  generalize ecs r nv ns=cs at *
  dsimp only [ecs,en0,lk0,hd0,mE,rq0,Vl.nul]
  refine aJ aB (sz:=10) Tryz.func77 rfl (by rw [Tryz.ntmps77];rfl) ?_
  repeat' (first|(refine aC ?_;intro K hK hX)|refine aM (List.range 9) ?_|((with_reducible refine bC ?_);refine aY (List.range 9) rfl rfl ?_;refine dI [145] ?_)|((with_reducible refine bA ?_);refine yA ?_;refine bG (aW (T:=49) aB rfl rfl rfl) rfl ?_)|((with_reducible refine bD ?_);refine mM (q3) aE rfl zby rfl rfl rfl rfl rfl zcv rfl ztp ?_)|((first|with_reducible refine aF ?_|with_reducible refine bD ?_);refine cK aB (List.range 32) aE rfl rfl zby Tryz.func145 rfl rfl rfl (szf:=32) (by rw [Tryz.ntmps145];rfl) rfl ?_)|refine stA ?_|refine stE ?_|(refine aH hK hX ?_;clear hK hX K)|fail|(first|refine bW zio aW0 rfl rfl (ResL.three zrs zrs zrs) ?_|refine bV zio aW0 rfl rfl (ResL.three zrs zrs zrs) ?_))
  exact cV6
end
section
attribute [local irreducible] Still Adds AWL AW Drw AC AWR cM Frz Go.Av.Src dB Out
abbrev wv (x:BitVec 64):CV := .v (.int .u64 (x.toNat:Int))
theorem cO1 (x:BitVec 64) (k:Int):qC' 257 [wv x,iv k] (.c (wv (x <<< (BitVec.ofInt 64 k &&& 63#64).toNat ||| x >>> (64#64-(BitVec.ofInt 64 k &&& 63#64)).toNat))) [] 0:=by
 refine aJ aB (sz:=17) Tryz.func257 rfl (by rw [Tryz.ntmps257];rfl) ?_
 repeat' (first|(refine aC ?_;intro K hK hX)|refine aM [0,1,4,5] ?_|refine stA ?_|(refine aH hK hX ?_;clear hK hX K)|fail)
 exact cJ
def aR6 (x:BitVec 64) (n:Nat):BitVec 64:=x >>> n ||| x <<< (64-n)
theorem aR5:∀a:Fin 64,0<a.val->(BitVec.ofInt 64 (0-(a.val:Int)) &&& 63#64).toNat=64-a.val/\(64#64-(BitVec.ofInt 64 (0-(a.val:Int)) &&& 63#64)).toNat=a.val:=by decide
theorem dE5 (x:BitVec 64) (a:Nat) (h0:0<a) (h1:a<64):x <<< (BitVec.ofInt 64 (0-(a:Int)) &&& 63#64).toNat ||| x >>> (64#64-(BitVec.ofInt 64 (0-(a:Int)) &&& 63#64)).toNat=aR6 x a:=by
 obtain ⟨e1,e2⟩:=aR5 ⟨a,h1⟩ h0
 simp only at e1 e2
 rw [e1,e2,aR6,BitVec.or_comm]
theorem bA6 (x:BitVec 64) (a:Nat) (h0:0<a) (h1:a<64):qC' 257 [wv x,iv (0-(a:Int))] (.c (wv (aR6 x a))) [] 0:=by
 have:=cO1 x (0-(a:Int))
 rwa [dE5 x a h0 h1] at this
def mix (x:BitVec 64) (a b:Nat):BitVec 64:=x ^^^ aR6 x a ^^^ aR6 x b
theorem oL (x:BitVec 64) (a b:Nat) (h0:0<a) (h1:a<64) (h2:0<b) (h3:b<64):qC' 250 [wv x,iv a,iv b] (.c (wv (mix x a b))) [] 0:=by
 refine aJ aB (sz:=18) Tryz.func250 rfl (by rw [Tryz.ntmps250];rfl) ?_
 repeat' (first|(refine aC ?_;intro K hK hX)|refine aM [0,1,2,6] ?_|(refine eS ?_;first|refine c0 (bA6 x a h0 h1) ?_|refine c0 (bA6 x b h2 h3) ?_)|refine stA ?_|(refine aH hK hX ?_;clear hK hX K)|fail)
 exact cJ
end
section
attribute [local irreducible] Still Adds AWL AW Drw AC AWR cM Frz Go.Av.Src dB Out
structure S5 where
 a:BitVec 64
 b:BitVec 64
 c:BitVec 64
 d:BitVec 64
 e:BitVec 64
deriving DecidableEq
def S5.cs (s:S5):Dp:=[wv s.a,wv s.b,wv s.c,wv s.d,wv s.e]
def rnd (k:BitVec 64) (s:S5):S5 :=
 let c:=s.c ^^^ k
 let a:=s.a ^^^ s.e
 let e:=s.e ^^^ s.d
 let c:=c ^^^ s.b
 let t0 := ~~~a &&& s.b
 let t1 := ~~~s.b &&& c
 let t2 := ~~~c &&& s.d
 let t3 := ~~~s.d &&& e
 let t4 := ~~~e &&& a
 let a:=a ^^^ t1
 let b:=s.b ^^^ t2
 let c:=c ^^^ t3
 let d:=s.d ^^^ t4
 let e:=e ^^^ t0
 let b:=b ^^^ a
 let a:=a ^^^ e
 let d:=d ^^^ c
 let c := ~~~c
 ⟨mix a 19 28,mix b 61 39,mix c 1 6,mix d 10 17,mix e 7 41⟩
def rk (r:Nat):BitVec 64:=BitVec.ofInt 64 (240-15*(r:Int))
def aD1:Nat->S5->S5
 | 0,s=>s
 | r+1,s=>rnd (rk r) (aD1 r s)
def pF (s:S5):S5:=aD1 12 s
abbrev z5:Dp:=[.v (.int .u64 0),.v (.int .u64 0),.v (.int .u64 0),.v (.int .u64 0),.v (.int .u64 0)]
theorem mV (s:S5):qC' 230 [.agg s.cs] (.c (.agg (pF s).cs)) [] 0:=by
 refine aJ aB (sz:=139) Tryz.func230 rfl (by rw [Tryz.ntmps230];rfl) ?_
 repeat' (first|(refine aC ?_;intro K hK hX)|refine aM [0,1,2,3,4,5] ?_|refine stA ?_|(refine aH hK hX ?_;clear hK hX K)|fail)
 refine eV 2 (fun r:Nat=>[(1,.ref 0 0),(2,.ref 1 0),(5,.c (iv r))]) (fun r=>[(0,.row 198 (aD1 r s).cs),(1,.row 198 z5)]) [] (fun r=>r<=12) (fun r=>12-r) 0 aA jY ?_
 intro r hr K hK hX
 by_cases hlt:r<12
 ·repeat' (first|(refine aC ?_;intro K hK hX)|refine aM [0,1,2,3,4,5] ?_|(refine eS ?_;first|refine c0 (oL _ 19 28 aN aN aN aN) ?_|refine c0 (oL _ 61 39 aN aN aN aN) ?_|refine c0 (oL _ 1 6 aN aN aN aN) ?_|refine c0 (oL _ 10 17 aN aN aN aN) ?_|refine c0 (oL _ 7 41 aN aN aN aN) ?_)|refine stA ?_|(refine aH hK hX ?_;clear hK hX K)|fail)
  exact ⟨r+1,by omega,by omega,jY⟩
 ·repeat' (first|(refine aC ?_;intro K hK hX)|refine aM [0,1,2,3,4,5] ?_|refine stA ?_|(refine aH hK hX ?_;clear hK hX K)|fail)
  obtain rfl:r=12:=by omega
  exact tB
end
end Go.Proofs.YtbgehdndimlgkaaGreat
namespace Go.Proofs.YtbgehdndimlgkaaGreat
open Go Go.RowKit Go.Av
def wdN (l:CZ):Nat->BitVec 64
 | 0=>0#64
 | i+1=>wdN l i ||| (((l.getD i 0).toBitVec.setWidth 64) <<< (8*i))
def cQ3 (s:S5) (x:BitVec 64):S5:={s with a:=s.a ^^^ x}
def bJ8 (s:S5) (l:CZ):Nat->S5
 | 0=>s
 | k+1=>pF (cQ3 (bJ8 s l k) (wdN ((l.drop (8*k)).take 8) 8))
def aJ6 (r:CZ):CZ:=r++1::List.replicate (7-r.length) 0
def bB1 (dom:BitVec 64):S5:=pF ⟨dom,1#64,2#64,3#64,4#64⟩
def aA0 (dom:BitVec 64) (l:CZ):S5:=pF (cQ3 (bJ8 (bB1 dom) l (l.length / 8)) (wdN (aJ6 (l.drop (8*(l.length / 8)))) 8))
def dU7 (l:CZ):CZ:=l++1::List.replicate (7-l.length%8) 0
theorem tO (r:CZ) (h:r.length<8):(aJ6 r).length=8:=by simp [aJ6];omega
def aJ7:Nat->S5->S5
 | 0,s=>s
 | k+1,s=>pF (aJ7 k s)
def aO2 (s:S5) (i:Nat):UInt8:=UInt8.ofBitVec (((aJ7 (i / 8) s).a >>> (8*(i%8))).setWidth 8)
def aC7 (s:S5) (n:Nat):CZ:=(List.range n).map (aO2 s)
theorem jV (s:S5) (n:Nat):(aC7 s n).length=n:=by simp [aC7]
theorem bH1 (s:S5) (n:Nat):aC7 s (n+1)=aC7 s n++[aO2 s n]:=by simp [aC7,List.range_succ]
def sum (dom:BitVec 64) (l:CZ):CZ:=aC7 (aA0 dom l) 32
theorem xO (dom:BitVec 64) (l:CZ):(sum dom l).length=32:=jV _ _
end Go.Proofs.YtbgehdndimlgkaaGreat
namespace Go.Proofs.YtbgehdndimlgkaaGreat
open Go Go.RowKit Go.Av
set_option maxRecDepth 100000
section
theorem dO3 (l:CZ) (i:Nat) (h:i<l.length):(u8c l)[i*1]? = some (.v (.int .u8 ((l.getD i 0).toNat:Int))):=by
 rw [A4]
 refine cP5 ?_
 simp [List.getD,Ab h]
attribute [local irreducible] Still Adds AWL AW Drw AC AWR cM Frz Go.Av.Src dB Out
theorem bB9 (l:CZ) (hl:l.length=8):qC' 231 [.sl 1 8 (u8c l)] (.c (wv (wdN l 8))) [] 0:=by
 refine aJ aB (sz:=22) Tryz.func231 rfl (by rw [Tryz.ntmps231];rfl) ?_
 repeat' (first|(refine aC ?_;intro K hK hX)|refine aM [0,2,3,4,5,6,7,8] ?_|refine stA ?_|(refine aH hK hX ?_;clear hK hX K)|fail)
 refine eV 0 (fun i:Nat=>[(6,.c (.sl 1 8 (u8c l))),(7,.c (iv 8)),(8,.c (iv i)),(3,.c (wv (wdN l i)))]) (fun i=>[]) [] (fun i=>i<=8) (fun i=>8-i) 0 aA jY ?_
 intro i hi K hK hX
 by_cases hlt:i<8
 ·repeat' (first|(refine aC ?_;intro K hK hX)|refine aM [0,2,3,4,5,6,7,8] ?_|(((with_reducible refine cG ?_);refine xA ?_);(first|((with_reducible refine bU ?_);(first|refine aG (aD8 rfl rI rfl (show 8*(i:Int)=((8*i:Nat):Int) by omega)) ?_))|((with_reducible refine gJ ?_);(first|refine aG (jN aB rfl rfl rfl rfl aG4) ?_|refine aG (iD aB rfl rfl rfl rfl aG4) ?_|refine aG (iC aB rfl rfl rfl aG4) ?_))|((with_reducible refine e_ix ?_);(first|refine aG (s_ixV1 aB rfl rfl zcj rfl rfl rfl rfl rfl zle aG4) ?_|refine aG (s_ixStr aB rfl rfl zcj rfl rfl aG4) ?_))))|refine stA ?_|(refine aH hK hX ?_;clear hK hX K)|fail)
  exact ⟨i+1,by omega,by omega,jY⟩
 ·obtain rfl:i=8:=by omega
  repeat' (first|(refine aC ?_;intro K hK hX)|refine aM [0,2,3,4,5,6,7,8] ?_|refine stA ?_|(refine aH hK hX ?_;clear hK hX K)|fail)
  exact cJ
end
section
theorem cO7 (l:CZ) (n k:Nat) (hl:l.length=n) (h:8*(k+1)<=n):AV.c (CV.sl 1 (n-8*k-8) (List.take ((n-8*k-8)*1) (List.drop (8*1) (u8c (List.drop (8*k) l)))))=AV.c (CV.sl 1 (n-8*(k+1)) (u8c (List.drop (8*(k+1)) l))):=by
 rw [A4,A4,bK,bL,BJ,Ah (by rw [AG];omega),show n-8*k-8=n-8*(k+1) by omega,show 8*k+8=8*(k+1) by omega]
theorem aI8 (r:CZ) (m:Nat) (h:r.length=m) (hm:m<8):lay (List.map CV.v [Value.int IntKind.u8 0,Value.int IntKind.u8 0,Value.int IntKind.u8 0,Value.int IntKind.u8 0,Value.int IntKind.u8 0,Value.int IntKind.u8 0,Value.int IntKind.u8 0,Value.int IntKind.u8 0]) (0+0*1) (u8c r)=u8c (r++List.replicate (8-m) 0):=by
 have:List.map CV.v [Value.int IntKind.u8 0,Value.int IntKind.u8 0,Value.int IntKind.u8 0,Value.int IntKind.u8 0,Value.int IntKind.u8 0,Value.int IntKind.u8 0,Value.int IntKind.u8 0,Value.int IntKind.u8 0]=u8c (List.replicate 8 0):=rfl
 rw [this]
 simp only [lay,Ca,BU,List.take_zero,At,Al,aI,bK,h,bZ,List.drop_replicate]
theorem cO6 (r:CZ) (m:Nat) (h:r.length=m) (hm:m<8):(u8c (r++List.replicate (8-m) 0)).set (0+m*1) (.v (.int .u8 1))=u8c (aJ6 r):=by
 have:CV.v (.int .u8 1) = .v (.int .u8 ((1:UInt8).toNat:Int)):=rfl
 rw [this,Al,A4]
 unfold u8c
 rw [<- List.map_set]
 congr 1
 unfold aJ6
 rw [C1 _ _ aA,h,CC,show 8-m=(7-m)+1 by omega,C8,Cn]
attribute [local irreducible] Still Adds AWL AW Drw AC AWR cM Frz Go.Av.Src dB Out
attribute [local simp] bL bK
theorem bC6 (dom:BitVec 64) (l:CZ) (n:Nat) (hl:l.length=n) (hm:n<=maxLen):qC' 184 [wv dom,.sl 1 n (u8c l)] (.c (.agg (aA0 dom l).cs)) [] 0:=by
 have hm':n<=9223372036854775807:=hm
 refine aJ aB (sz:=38) Tryz.func184 rfl (by rw [Tryz.ntmps184];rfl) ?_
 repeat' (first|(refine aC ?_;intro K hK hX)|refine bS [0,1,4,5,6] ?_|(refine dJ ?_;refine c0 (mV ⟨dom,1#64,2#64,3#64,4#64⟩) ?_)|refine stA ?_|refine stD ?_|(refine aH hK hX ?_;clear hK hX K)|fail)
 refine eV 2 (fun k:Nat=>[(4,.ref 0 0),(5,.ref 1 0),(1,.c (.sl 1 (n-8*k) (u8c (l.drop (8*k)))))]) (fun k=>[(0,.row 198 z5),(1,.row 198 (bJ8 (bB1 dom) l k).cs)]) [] (fun k=>8*k<=n) (fun k=>n-8*k) 0 aA jY ?_
 intro k hk K hK hX
 by_cases hlt:8<=n-8*k
 ·repeat' (first|(refine aC ?_;intro K hK hX)|refine bS [0,1,4,5,6] ?_|(refine dJ ?_;first|refine c0 (bB9 ((l.drop (8*k)).take 8) dS) ?_|refine c0 (mV (cQ3 (bJ8 (bB1 dom) l k) (wdN ((l.drop (8*k)).take 8) 8))) ?_)|refine stA ?_|refine stD ?_|(refine aH hK hX ?_;clear hK hX K)|fail)
  exact ⟨k+1,by omega,by omega,(by refine cZ rfl ?_ ?_ rfl<;>(repeat' (first|exact cB|exact cC|refine bQ rfl cV1 rfl ?_|refine aQ rfl cV1 rfl ?_)))⟩
 ·have hr:(l.drop (8*k)).length=n-8*k:=by rw [AG,hl]
  have hkn:k=l.length / 8:=by omega
  have hp:(u8c (aJ6 (l.drop (8*k)))).length=8:=by rw [aI,tO];omega
  have hq:(u8c (l.drop (8*k)++List.replicate (8-(n-8*k)) 0)).length=8:=by rw [aI,Aa,List.length_replicate];omega
  have hk8:n-8*k<8:=by omega
  have hfit:0+(n-8*k)*1<(lay (List.map CV.v [Value.int IntKind.u8 0,Value.int IntKind.u8 0,Value.int IntKind.u8 0,Value.int IntKind.u8 0,Value.int IntKind.u8 0,Value.int IntKind.u8 0,Value.int IntKind.u8 0,Value.int IntKind.u8 0]) (0+0*1) (u8c (l.drop (8*k)))).length:=by rw [aI8 _ _ hr aA,hq];omega
  repeat' (first|(refine aC ?_;intro K hK hX)|refine bS [0,1,4,5,6] ?_|((with_reducible refine jH ?_);(refine fG aB aE rfl rfl rfl rfl rfl rfl (by first|exact hfit|exact AA rfl|omega|(simp<;>omega)) ?_))|refine stA ?_|refine stD ?_|(refine aH hK hX ?_;clear hK hX K)|fail)
  rw [aI8 _ _ hr aA]
  rw [cO6 _ _ hr aA]
  repeat' (first|(refine aC ?_;intro K hK hX)|refine bS [0,1,4,5,6] ?_|((first|with_reducible refine aF ?_|with_reducible refine iT ?_);(first|refine wA ?_|refine wN ?_|refine wD ?_);(first|refine cF (bB9 (aJ6 (l.drop (8*k))) (by rw [tO];omega)) ?_))|(refine dJ ?_;refine c0 (mV (cQ3 (bJ8 (bB1 dom) l k) (wdN (aJ6 (l.drop (8*k))) 8))) ?_)|refine stA ?_|refine stD ?_|(refine aH hK hX ?_;clear hK hX K)|fail)
  subst hkn
  exact tB
end
section
theorem cB1:nJ Tryz.prog 182 0:=by
 intro us w hl
 obtain ⟨_,rfl⟩:∃_:Unit,us=[]:=by
  match us,hl with | [],_=>exact ⟨(),rfl⟩
 refine callsD_of_wpS Tryz.func182 rfl fun c₀ cs hu=>?_
 apply wpS_region
 simp [wpOpsS,go_sem,recoverD,hu,Tryz.ntmps182,Exit.thenS]
 cases c₀
 simp_all [bodyPostS,results,Tryz.results182]
theorem aT0:Body Tryz.prog 182:=by unfold Body;kernel_rfl
def fil (S:S5) (n i:Nat):CZ:=aC7 S i++List.replicate (n-i) 0
theorem bS3 (S:S5) (n:Nat):fil S n n=aC7 S n:=by simp [fil]
theorem aP8 (S:S5) (n i:Nat) (h:i<=n):(fil S n i).length=n:=by simp [fil,jV];omega
theorem cP6 (l:CZ) (i:Nat) (b:UInt8):(u8c l).set i (.v (.int .u8 (b.toNat:Int)))=u8c (l.set i b):=by
 unfold u8c
 rw [<- List.map_set]
theorem aX8 (S:S5) (n i:Nat) (h:i<n):(u8c (fil S n i)).set (0+i*1) (.v (.int .u8 ((aO2 S i).toNat:Int)))=u8c (fil S n (i+1)):=by
 rw [cP6,Al,A4]
 congr 1
 unfold fil
 rw [bH1,C1 _ _ (by rw [jV];omega),jV,CC,show n-i=(n-(i+1))+1 by omega,C8,Cn]
 simp
def bI3 (S:S5) (i:Nat):S5:=aJ7 ((i-1) / 8) S
theorem zS (S:S5) (i:Nat) (h:¬(0<i/\i%8=0)):bI3 S i=aJ7 (i / 8) S:=by
 unfold bI3;congr 1;omega
theorem bI4 (S:S5) (i:Nat) (h:0<i/\i%8=0):pF (bI3 S i)=aJ7 (i / 8) S:=by
 unfold bI3
 rw [show i / 8=(i-1) / 8+1 by omega]
 rfl
attribute [local irreducible] Still Adds AWL AW Drw AC AWR cM Frz Go.Av.Src dB Out InK
abbrev z32:Dp:=List.map CV.v [.int .u8 0,.int .u8 0,.int .u8 0,.int .u8 0,.int .u8 0,.int .u8 0,.int .u8 0,.int .u8 0,.int .u8 0,.int .u8 0,.int .u8 0,.int .u8 0,.int .u8 0,.int .u8 0,.int .u8 0,.int .u8 0,.int .u8 0,.int .u8 0,.int .u8 0,.int .u8 0,.int .u8 0,.int .u8 0,.int .u8 0,.int .u8 0,.int .u8 0,.int .u8 0,.int .u8 0,.int .u8 0,.int .u8 0,.int .u8 0,.int .u8 0,.int .u8 0]
theorem dG4 (dom:BitVec 64) (l:CZ) (n:Nat) (hl:l.length=n) (hm:n<=maxLen):qC' 148 [wv dom,.sl 1 n (u8c l)] (.c (.agg (u8c (sum dom l)))) [] 0:=by
 refine aJ aB (sz:=12) Tryz.func148 rfl (by rw [Tryz.ntmps148];rfl) ?_
 repeat' (first|(refine aC ?_;intro K hK hX)|refine aM [0,1,2,4,5,6,7] ?_|((with_reducible refine bC ?_);refine aY [0,1,2,4,5,6,7] rfl rfl ?_;refine dG [183] ?_)|(refine dJ ?_;refine c0 (bC6 dom l n hl hm) ?_)|((first|with_reducible refine aF ?_|with_reducible refine bD ?_);refine cK aB (List.range 30) aE rfl rfl zby Tryz.func183 rfl rfl rfl (szf:=30) aG5 rfl ?_)|refine stA ?_|refine stD ?_|(refine aH hK hX ?_;clear hK hX K)|fail|(first|refine bW zio ztr rfl rfl ResL.none ?_|refine bV zio ztr rfl rfl ResL.none ?_))
 generalize hS:aA0 dom l=S
 refine eV 3 (fun i:Nat=>[(1,.own 1 0 32 1 false),(2,.ref 2 0),(6,.c (iv 32)),(7,.c (iv i))]) (fun i=>[(0,.row 28 z32),(1,.row 28 (u8c (fil S 32 i))),(2,.row 198 (bI3 S i).cs)]) _ (fun i=>i<=32) (fun i=>32-i) 0 aA jY ?_
 intro i hi K hK hX
 by_cases hlt:i<32
 ·skip
  have hlen:(u8c (fil S 32 i)).length=32:=by rw [aI,aP8 _ _ _ aA]
  by_cases h0:0<i
  ·have g1:(decide ((0:Int)<(i:Int))==true)=true:=by rw [AU aA];rfl
   by_cases h8:i%8=0
   ·repeat' (first|(refine aC ?_;intro K hK hX)|refine aM [0,1,2,4,5,6,7] ?_|((with_reducible refine bC ?_);refine aY [0,1,2,4,5,6,7] rfl rfl ?_;refine dG [183] ?_)|(refine dJ ?_;refine c0 (mV (bI3 S i)) ?_)|((first|with_reducible refine aF ?_|with_reducible refine bD ?_);refine cK aB (List.range 30) aE rfl rfl zby Tryz.func183 rfl rfl rfl (szf:=30) aG5 rfl ?_)|((first|((with_reducible refine cG ?_);refine xA ?_)|((with_reducible refine eD ?_);refine xD ?_));(first|((with_reducible refine bU ?_);(first|refine aG (sT rfl rI rfl (show 8*((i:Int)%8)=((8*(i%8):Nat):Int) by omega)) ?_))))|((with_reducible refine jH ?_);(refine fG aB aE rfl rfl rfl rfl rfl rfl aG3 ?_))|refine stA ?_|refine stD ?_|(refine aH hK hX ?_;clear hK hX K)|fail|(first|refine bW zio ztr rfl rfl ResL.none ?_|refine bV zio ztr rfl rfl ResL.none ?_))
    rw [bI4 S i ⟨h0,h8⟩]
    exact ⟨i+1,by omega,by omega,bN0⟩
   ·repeat' (first|(refine aC ?_;intro K hK hX)|refine aM [0,1,2,4,5,6,7] ?_|((with_reducible refine bC ?_);refine aY [0,1,2,4,5,6,7] rfl rfl ?_;refine dG [183] ?_)|((first|with_reducible refine aF ?_|with_reducible refine bD ?_);refine cK aB (List.range 30) aE rfl rfl zby Tryz.func183 rfl rfl rfl (szf:=30) aG5 rfl ?_)|((first|((with_reducible refine cG ?_);refine xA ?_)|((with_reducible refine eD ?_);refine xD ?_));(first|((with_reducible refine bU ?_);(first|refine aG (sT rfl rI rfl (show 8*((i:Int)%8)=((8*(i%8):Nat):Int) by omega)) ?_))))|((with_reducible refine jH ?_);(refine fG aB aE rfl rfl rfl rfl rfl rfl aG3 ?_))|refine stA ?_|refine stD ?_|(refine aH hK hX ?_;clear hK hX K)|fail|(first|refine bW zio ztr rfl rfl ResL.none ?_|refine bV zio ztr rfl rfl ResL.none ?_))
    rw [zS S i (fun h=>h8 h.2)]
    exact ⟨i+1,by omega,by omega,bN0⟩
  ·have g1:(decide ((0:Int)<(i:Int))==true)=false:=by rw [Be aA];rfl
   repeat' (first|(refine aC ?_;intro K hK hX)|refine aM [0,1,2,4,5,6,7] ?_|((with_reducible refine bC ?_);refine aY [0,1,2,4,5,6,7] rfl rfl ?_;refine dG [183] ?_)|((first|with_reducible refine aF ?_|with_reducible refine bD ?_);refine cK aB (List.range 30) aE rfl rfl zby Tryz.func183 rfl rfl rfl (szf:=30) aG5 rfl ?_)|((first|((with_reducible refine cG ?_);refine xA ?_)|((with_reducible refine eD ?_);refine xD ?_));(first|((with_reducible refine bU ?_);(first|refine aG (sT rfl rI rfl (show 8*((i:Int)%8)=((8*(i%8):Nat):Int) by omega)) ?_))))|((with_reducible refine jH ?_);(refine fG aB aE rfl rfl rfl rfl rfl rfl aG3 ?_))|refine stA ?_|refine stD ?_|(refine aH hK hX ?_;clear hK hX K)|fail|(first|refine bW zio ztr rfl rfl ResL.none ?_|refine bV zio ztr rfl rfl ResL.none ?_))
   rw [zS S i (fun h=>h0 h.1)]
   exact ⟨i+1,by omega,by omega,bN0⟩
 ·obtain rfl:i=32:=by omega
  repeat' (first|(refine aC ?_;intro K hK hX)|refine aM [0,1,2,4,5,6,7] ?_|((with_reducible refine bC ?_);refine aY [0,1,2,4,5,6,7] rfl rfl ?_;refine dG [183] ?_)|((first|with_reducible refine aF ?_|with_reducible refine bD ?_);refine cK aB (List.range 30) aE rfl rfl zby Tryz.func183 rfl rfl rfl (szf:=30) aG5 rfl ?_)|refine stA ?_|refine stD ?_|(refine aH hK hX ?_;clear hK hX K)|fail|(first|refine bW zio ztr rfl rfl ResL.none ?_|refine bV zio ztr rfl rfl ResL.none ?_))
  rw [bS3]
  subst hS
  have hlen:(u8c (aC7 (aA0 dom l) 32)).length=32:=by rw [aI,jV]
  refine cX zio (by exact ⟨cB1,aT0,trivial⟩) rfl (ResL.one zrs) zou
end
section
theorem aQ5:nJ Tryz.prog 147 0:=by
 intro us w hl
 obtain ⟨_,rfl⟩:∃_:Unit,us=[]:=by
  match us,hl with | [],_=>exact ⟨(),rfl⟩
 refine callsD_of_wpS Tryz.func147 rfl fun c₀ cs hu=>?_
 apply wpS_region
 simp [wpOpsS,go_sem,recoverD,hu,Tryz.ntmps147,Exit.thenS]
 cases c₀
 simp_all [bodyPostS,results,Tryz.results147]
theorem aC1:Body Tryz.prog 147:=by unfold Body;kernel_rfl
attribute [local irreducible] Still Adds AWL AW Drw AC AWR cM Frz Go.Av.Src dB Out InK
attribute [local simp] bL bK bZ
theorem cK4 (k:Nat) (h0:0<k) (hk:k<=1000000000):qC' 185 [.v (.slice none 0 0),iv k] (.own 0 0 0 1 true) [(0,.row 5 [])] 1:=by
 refine aJ aB (sz:=27) Tryz.func185 rfl (by rw [Tryz.ntmps185];rfl) ?_
 repeat' (first|(refine aC ?_;intro K hK hX)|refine aM [0,1,4] ?_|refine stA ?_|(refine aH hK hX ?_;clear hK hX K)|fail)
 exact cJ
theorem bE5 (a b:CZ) (m n:Nat) (ha:a.length=m) (hb:b.length=n) (h0:0<m) (hk:m+n<=1000000000):qC' 149 [.sl 1 2 [.sl 1 m (u8c a),.sl 1 n (u8c b)]] (.own 0 0 (m+n) 1 true) [(0,.row 5 (u8c (a++b)))] 1:=by
 have hua:(u8c a).length=m:=by rw [aI,ha]
 have hub:(u8c b).length=n:=by rw [aI,hb]
 refine aJ aB (sz:=36) Tryz.func149 rfl (by rw [Tryz.ntmps149];rfl) ?_
 repeat' (first|(refine aC ?_;intro K hK hX)|refine aM [0,2,3,5,6,8,9,10,11,25,26,27] ?_|((with_reducible refine aI6 ?_);refine yB 3 ?_)|(refine cQ4 ?_;intro K hK hX)|(refine eS ?_;refine c1 (cK4 (m+n) aA aA) ?_)|refine stA ?_|(refine aH hK hX ?_;clear hK hX K)|fail)
 rw [show 0+m+n=m+n by omega,At,<- bZ]
 exact cJ
theorem aI7 (dom:BitVec 64) (k l:CZ) (n:Nat) (hk:k.length=32) (hl:l.length=n) (hm:n<=100000000):qC' 78 [wv dom,.agg (u8c k),.sl 1 n (u8c l)] (.c (.agg (u8c (sum dom (k++l))))) [] 0:=by
 have hua:(u8c k).length=32:=by rw [aI,hk]
 have hub:(u8c l).length=n:=by rw [aI,hl]
 have hus:(u8c (sum dom (k++l))).length=32:=by rw [aI,xO]
 have hukl:(u8c (k++l)).length=32+n:=by rw [aI,Aa];omega
 refine aJ aB (sz:=13) Tryz.func78 rfl (by rw [Tryz.ntmps78];rfl) ?_
 repeat' (first|(refine aC ?_;intro K hK hX)|refine aM [0,1,2,4,6] ?_|refine stA ?_|(refine aH hK hX ?_;clear hK hX K)|fail)
 refine aF4 (cP9 (E:=[(6,.ref 1 0),(7,.c (wv dom)),(8,.c (.sl 1 32 (u8c k))),(9,.c (.sl 1 n (u8c l)))]) (Hp:=[(1,.row 28 z32)]) (by repeat' (first|exact FzE.nil|refine FzE.cons rfl ?_ ?_|exact cK3|exact fz_ref rfl rfl|exact aY3 rfl rfl zln|exact bT0 rfl rfl (by first|exact qK (by first|rfl|omega)|rfl) zln)) (by repeat' (first|exact trivial|refine ⟨rfl,?_⟩))) ?_
 repeat' (first|(refine aC ?_;intro K hK hX)|refine aM [0,1,2,4,6] ?_|((with_reducible refine aF ?_);(first|refine wA ?_|refine wN ?_);(first|refine cF (dG4 dom (k++l) (32+n) dS vM) ?_))|((with_reducible refine aF ?_);(refine yA ?_);(first|refine cF1 (bE5 k l 32 n hk hl aN aA) ?_))|refine stA ?_|(refine aH hK hX ?_;clear hK hX K)|fail)
 refine cX zio (by exact ⟨aQ5,aC1,trivial⟩) rfl (ResL.one zrs) zou
end
end Go.Proofs.YtbgehdndimlgkaaGreat
