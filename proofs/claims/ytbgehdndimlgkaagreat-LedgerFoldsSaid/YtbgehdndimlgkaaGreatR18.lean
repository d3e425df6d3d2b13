/- Lemmas for laws of the ledger. -/
import Derived.Test.YtbgehdndimlgkaaGreatR17
set_option linter.all false
set_option maxHeartbeats 16000000
namespace Go.Proofs.YtbgehdndimlgkaaGreat
open Go Go.RowKit Go.Av
set_option maxRecDepth 100000
section
section
variable {P:Dl} {tab:Tab} {ev:Evl} {h:aO} {d:Di} {T T' ty:Dj} {x y:Operand} {pos:String} {aft:Dh} {gd:Dc}
theorem cI1 (tb:bN P tab) {e:TyE} {E size n:Nat} {cs:Dr} (hn:0<n) (hT:aQ tab T=some e) (hk:e.kind = .slice E) (hx:ev x=some (.c (.sl size n cs))) (hy:ev y=some (.c (.v (.slice none 0 0)))):Still P ⟨d,.binOp .eql T x y T',ty,pos,aft,gd⟩ ev h (.c (bv false)):=by
 intro B dom M H w a hh hc he
 have h1:=he x _ hx
 have h2:=he y _ hy
 simp only [Rep,RepC] at h1 h2
 obtain ⟨A,c,us,e1,e2,e3,e4,e5,e7,e6⟩:=h1
 obtain ⟨b,o,rfl,_⟩:=e6 hn
 refine ⟨.bool false,?_,rfl⟩
 have hr:=run_equal_slice_nil (P:=P) w T E (some ⟨b,o,none⟩) n c ((aL tb hT).slice hk)
 simp [execOp,e1,h2,eqGuard,binOp,hr]
end
attribute [local irreducible] Still Adds AWL AW Drw bQ bT AC AWR cO Frz Go.Av.Src dF Out InK ItK AsK RdK eI eG ACT ACA fD
attribute [local simp] bZ bY cI
theorem cK6 (l:Db):(u8c l).length=l.length*1:=by rw [aK,A5]
theorem aA5 (r:Db) (n:Nat) (hn:r.length=n) (hb:n<=1000000000):qC' 174 [.sl 1 n (u8c r)] (.c (.sl 1 n (u8c r))) [] 0:=by
 by_cases h0:n=0
 ·have hr:r=[]:=Aj aA
  rw [h0,hr]
  show qC' _ ([] ++ .sl 1 0 []::[]) _ [] 0
  refine AC.split0 fun A c hc=>?_
  rw [Aw]
  have hrc:([]:Dr)=u8c []:=rfl
  rw [<- hrc]
  cases A with
  | none =>
   refine aG aB (sz:=8) Tryz.func174 rfl (by rw [Tryz.ntmps174];rfl) ?_
   repeat' (first|(refine aC ?_;intro K hK hX)|refine bT5 ?_|(refine aE hK hX ?_;clear hK hX K)|fail)
   exact bI
  | some a =>
   refine aG aB (sz:=8) Tryz.func174 rfl (by rw [Tryz.ntmps174];rfl) ?_
   repeat' (first|(refine aC ?_;intro K hK hX)|refine bT0 ?_|(refine aE hK hX ?_;clear hK hX K)|fail)
   exact bI
 ·have hil:(u8c r).length=n*1:=by rw [cK6,hn]
  have hp:0<n:=by omega
  refine aG aB (sz:=8) Tryz.func174 rfl (by rw [Tryz.ntmps174];rfl) ?_
  repeat' (first|(refine aC ?_;intro K hK hX)|refine bT4 ?_|(refine aE hK hX ?_;clear hK hX K)|fail)
  rw [Ai n,Aw]
  exact bI
theorem xF (r:List Ver) (n:Nat) (hn:r.length=n) (hb:n<=1000000):qC' 119 [.sl 3 n (vrc r)] (.c (.sl 3 n (vrc r))) [] 0:=by
 by_cases h0:n=0
 ·have hr:r=[]:=Aj aA
  rw [h0,hr]
  show qC' _ ([] ++ .sl 3 0 []::[]) _ [] 0
  refine AC.split0 fun A c hc=>?_
  rw [Aw]
  have hrc:([]:Dr)=vrc []:=rfl
  rw [<- hrc]
  cases A with
  | none =>
   refine aG aB (sz:=8) Tryz.func119 rfl (by rw [Tryz.ntmps119];rfl) ?_
   repeat' (first|(refine aC ?_;intro K hK hX)|refine bT5 ?_|(refine aE hK hX ?_;clear hK hX K)|fail)
   exact bI
  | some a =>
   refine aG aB (sz:=8) Tryz.func119 rfl (by rw [Tryz.ntmps119];rfl) ?_
   repeat' (first|(refine aC ?_;intro K hK hX)|refine bT0 ?_|(refine aE hK hX ?_;clear hK hX K)|fail)
   exact bI
 ·have hil:(vrc r).length=n*3:=by rw [dL,hn]
  have hp:0<n:=by omega
  refine aG aB (sz:=8) Tryz.func119 rfl (by rw [Tryz.ntmps119];rfl) ?_
  repeat' (first|(refine aC ?_;intro K hK hX)|refine bT4 ?_|(refine aE hK hX ?_;clear hK hX K)|fail)
  rw [Ai n,Aw]
  exact bI
theorem aV2 (r:List Src) (n:Nat) (hn:r.length=n) (hb:n<=1000000):qC' 186 [.sl 2 n (src r)] (.c (.sl 2 n (src r))) [] 0:=by
 by_cases h0:n=0
 ·have hr:r=[]:=Aj aA
  rw [h0,hr]
  show qC' _ ([] ++ .sl 2 0 []::[]) _ [] 0
  refine AC.split0 fun A c hc=>?_
  rw [Aw]
  have hrc:([]:Dr)=src []:=rfl
  rw [<- hrc]
  cases A with
  | none =>
   refine aG aB (sz:=8) Tryz.func186 rfl (by rw [Tryz.ntmps186];rfl) ?_
   repeat' (first|(refine aC ?_;intro K hK hX)|refine bT5 ?_|(refine aE hK hX ?_;clear hK hX K)|fail)
   exact bI
  | some a =>
   refine aG aB (sz:=8) Tryz.func186 rfl (by rw [Tryz.ntmps186];rfl) ?_
   repeat' (first|(refine aC ?_;intro K hK hX)|refine bT0 ?_|(refine aE hK hX ?_;clear hK hX K)|fail)
   exact bI
 ·have hil:(src r).length=n*2:=by rw [dK,hn]
  have hp:0<n:=by omega
  refine aG aB (sz:=8) Tryz.func186 rfl (by rw [Tryz.ntmps186];rfl) ?_
  repeat' (first|(refine aC ?_;intro K hK hX)|refine bT4 ?_|(refine aE hK hX ?_;clear hK hX K)|fail)
  rw [Ai n,Aw]
  exact bI
theorem cG1:qE Tryz.prog 173 3:=by
 intro us w hl
 obtain ⟨u0,u1,u2,rfl⟩:∃u0 u1 u2,us=[u0,u1,u2]:=by
  match us,hl with | [u0,u1,u2],_=>exact ⟨u0,u1,u2,rfl⟩
 refine callsD_of_wpS Tryz.func173 rfl fun c₀ cs hu=>?_
 apply wpS_seq
 apply wpS_region
 simp [wpOpsS,go_sem,recoverD,hu,Tryz.ntmps173,Exit.thenS]
 refine wpS_cond (t:=false) oO ?_
 simp only [AO,Bi]
 refine wpS_of_wp (wp_skip ?_)
 cases c₀
 simp_all [bodyPostS,results,Tryz.results173]
theorem aX9:Body Tryz.prog 173:=by unfold Body;kernel_rfl
theorem cG2:qE Tryz.prog 215 3:=by
 intro us w hl
 obtain ⟨u0,u1,u2,rfl⟩:∃u0 u1 u2,us=[u0,u1,u2]:=by
  match us,hl with | [u0,u1,u2],_=>exact ⟨u0,u1,u2,rfl⟩
 refine callsD_of_wpS Tryz.func215 rfl fun c₀ cs hu=>?_
 apply wpS_seq
 apply wpS_region
 simp [wpOpsS,go_sem,recoverD,hu,Tryz.ntmps215,Exit.thenS]
 refine wpS_cond (t:=false) oO ?_
 simp only [AO,Bi]
 refine wpS_of_wp (wp_skip ?_)
 cases c₀
 simp_all [bodyPostS,results,Tryz.results215]
theorem aY0:Body Tryz.prog 215:=by unfold Body;kernel_rfl
theorem cG4 (b:Db) (m:Nat) (hm:b.length=m) (hb:m<=1000000000):∃n s',bW ⟨b,0⟩=(n,s')/\aS n/\∃b' e' m',s'=⟨b',e'⟩/\b'.length=m'/\m'<=m/\(e'=0->qC' 120 [.sl 1 m (u8c b)] (.tup [.c (iv n),.c (.sl 1 m' (u8c b')),.c (iv 0)]) [] 0)/\(e'≠0->qC' 120 [.sl 1 m (u8c b)] (.tup [.c (iv 0),.c (.v (.slice none 0 0)),.c (iv e')]) [] 0):=by
 obtain ⟨n,s',q1,q2,b',e',m',rfl,q3,q4,q5,q6⟩:=gD b 0 m hm hb
 refine ⟨n,_,q1,q2,b',e',m',rfl,q4,q5,fun he=>?_,fun he=>?_⟩
 ·subst he
  have hcl:=aA5 b' m' q4 q6
  refine aG aB (sz:=10) Tryz.func120 rfl (by rw [Tryz.ntmps120];rfl) ?_
  repeat' (first|(refine aC ?_;intro K hK hX)|refine aJ (List.range 9) ?_|((with_reducible refine bB ?_);refine aY (List.range 9) rfl rfl ?_;refine dG [162] ?_)|((with_reducible refine aV ?_);refine nJ (q3) aD rfl zby rfl rfl rfl rfl rfl zcv rfl ztp ?_)|(refine pO ?_;refine c0 hcl ?_)|((first|with_reducible refine aH ?_|with_reducible refine aV ?_);refine bX aB (List.range 32) aD rfl rfl zby Tryz.func162 rfl rfl rfl (szf:=32) (by rw [Tryz.ntmps162];rfl) rfl ?_)|refine stA ?_|refine stE ?_|(refine aE hK hX ?_;clear hK hX K)|fail|(first|refine bK zio bD2 rfl rfl (ResL.three zrs zrs zrs) ?_|refine bJ zio bD2 rfl rfl (ResL.three zrs zrs zrs) ?_))
  exact dF5
 ·refine aG aB (sz:=10) Tryz.func120 rfl (by rw [Tryz.ntmps120];rfl) ?_
  repeat' (first|(refine aC ?_;intro K hK hX)|refine aJ (List.range 9) ?_|((with_reducible refine bB ?_);refine aY (List.range 9) rfl rfl ?_;refine dG [162] ?_)|((with_reducible refine aV ?_);refine nJ (q3) aD rfl zby rfl rfl rfl rfl rfl zcv rfl ztp ?_)|((first|with_reducible refine aH ?_|with_reducible refine aV ?_);refine bX aB (List.range 32) aD rfl rfl zby Tryz.func162 rfl rfl rfl (szf:=32) (by rw [Tryz.ntmps162];rfl) rfl ?_)|refine stA ?_|refine stE ?_|(refine aE hK hX ?_;clear hK hX K)|fail|(first|refine bK zio bD2 rfl rfl (ResL.three zrs zrs zrs) ?_|refine bJ zio bD2 rfl rfl (ResL.three zrs zrs zrs) ?_))
  exact dF5
def en0:LEn:=⟨0,0,0,0,rq0,lk0,hd0,[],[],root0⟩
theorem yV (b:Db) (m:Nat) (hm:b.length=m) (hb:m<=1000000000):∃r s' nv ns,rEn rpP ⟨b,0⟩=(r,s')/\r.vs.length=nv/\r.ss.length=ns/\r.root.length=32/\∃b' e' m',s'=⟨b',e'⟩/\b'.length=m'/\m'<=m/\(e'=0->qC' 77 [.sl 1 m (u8c b)] (.tup [.c (.agg (ecs r nv ns)),.c (.sl 1 m' (u8c b')),.c (iv 0)]) [] 0)/\(e'≠0->qC' 77 [.sl 1 m (u8c b)] (.tup [.c (.agg (ecs en0 0 0)),.c (.v (.slice none 0 0)),.c (iv e')]) [] 0):=by
 obtain ⟨r,s',nv,ns,q1,hv,hs,hr,b',e',m',rfl,q3,q4,q5,q6⟩:=cA3 b 0 m hm hb
 have hel:=dB hr nv ns
 refine ⟨r,_,nv,ns,q1,hv,hs,hr,b',e',m',rfl,q4,q5,fun he=>?_,fun he=>?_⟩
 ·subst he
  have hcl:=aA5 b' m' q4 q6
  generalize ecs r nv ns=cs at *
  have hwh:∀l:Dr,l=cs->(l.drop 0).take 65=cs:=fun l h=>by rw [h,Bj,Af (CD hel)]
  refine aG aB (sz:=10) Tryz.func77 rfl (by rw [Tryz.ntmps77];rfl) ?_
  repeat' (first|(refine aC ?_;intro K hK hX)|refine aJ (List.range 9) ?_|((with_reducible refine bB ?_);refine aY (List.range 9) rfl rfl ?_;refine dG [145] ?_)|((with_reducible refine aX ?_);refine yA ?_;refine bL (aW (T:=49) aB rfl rfl rfl) rfl ?_)|((with_reducible refine aV ?_);refine nJ (q3) aD rfl zby rfl rfl rfl rfl rfl zcv rfl ztp ?_)|(refine pO ?_;refine c0 hcl ?_)|((first|with_reducible refine aH ?_|with_reducible refine aV ?_);refine bX aB (List.range 32) aD rfl rfl zby Tryz.func145 rfl rfl rfl (szf:=32) (by rw [Tryz.ntmps145];rfl) rfl ?_)|refine stA ?_|refine stE ?_|(refine aE hK hX ?_;clear hK hX K)|fail|(first|refine bK zio bD3 rfl rfl (ResL.three zrs zrs zrs) ?_|refine bJ zio bD3 rfl rfl (ResL.three zrs zrs zrs) ?_))
  exact dF6
 ·skip
  generalize ecs r nv ns=cs at *
  dsimp only [ecs,en0,lk0,hd0,nB,rq0,Vl.nul]
  refine aG aB (sz:=10) Tryz.func77 rfl (by rw [Tryz.ntmps77];rfl) ?_
  repeat' (first|(refine aC ?_;intro K hK hX)|refine aJ (List.range 9) ?_|((with_reducible refine bB ?_);refine aY (List.range 9) rfl rfl ?_;refine dG [145] ?_)|((with_reducible refine aX ?_);refine yA ?_;refine bL (aW (T:=49) aB rfl rfl rfl) rfl ?_)|((with_reducible refine aV ?_);refine nJ (q3) aD rfl zby rfl rfl rfl rfl rfl zcv rfl ztp ?_)|((first|with_reducible refine aH ?_|with_reducible refine aV ?_);refine bX aB (List.range 32) aD rfl rfl zby Tryz.func145 rfl rfl rfl (szf:=32) (by rw [Tryz.ntmps145];rfl) rfl ?_)|refine stA ?_|refine stE ?_|(refine aE hK hX ?_;clear hK hX K)|fail|(first|refine bK zio bD3 rfl rfl (ResL.three zrs zrs zrs) ?_|refine bJ zio bD3 rfl rfl (ResL.three zrs zrs zrs) ?_))
  exact dF6
end
section
attribute [local irreducible] Still Adds AWL AW Drw AC AWR cO Frz Go.Av.Src dF Out
abbrev wv (x:BitVec 64):CV := .v (.int .u64 (x.toNat:Int))
theorem cW0 (x:BitVec 64) (k:Int):qC' 257 [wv x,iv k] (.c (wv (x <<< (BitVec.ofInt 64 k &&& 63#64).toNat ||| x >>> (64#64-(BitVec.ofInt 64 k &&& 63#64)).toNat))) [] 0:=by
 refine aG aB (sz:=17) Tryz.func257 rfl (by rw [Tryz.ntmps257];rfl) ?_
 repeat' (first|(refine aC ?_;intro K hK hX)|refine aJ [0,1,4,5] ?_|refine stA ?_|(refine aE hK hX ?_;clear hK hX K)|fail)
 exact bI
def aY6 (x:BitVec 64) (n:Nat):BitVec 64:=x >>> n ||| x <<< (64-n)
theorem aY5:∀a:Fin 64,0<a.val->(BitVec.ofInt 64 (0-(a.val:Int)) &&& 63#64).toNat=64-a.val/\(64#64-(BitVec.ofInt 64 (0-(a.val:Int)) &&& 63#64)).toNat=a.val:=by decide
theorem dO1 (x:BitVec 64) (a:Nat) (h0:0<a) (h1:a<64):x <<< (BitVec.ofInt 64 (0-(a:Int)) &&& 63#64).toNat ||| x >>> (64#64-(BitVec.ofInt 64 (0-(a:Int)) &&& 63#64)).toNat=aY6 x a:=by
 obtain ⟨e1,e2⟩:=aY5 ⟨a,h1⟩ h0
 simp only at e1 e2
 rw [e1,e2,aY6,BitVec.or_comm]
theorem bH3 (x:BitVec 64) (a:Nat) (h0:0<a) (h1:a<64):qC' 257 [wv x,iv (0-(a:Int))] (.c (wv (aY6 x a))) [] 0:=by
 have:=cW0 x (0-(a:Int))
 rwa [dO1 x a h0 h1] at this
def mix (x:BitVec 64) (a b:Nat):BitVec 64:=x ^^^ aY6 x a ^^^ aY6 x b
theorem pD (x:BitVec 64) (a b:Nat) (h0:0<a) (h1:a<64) (h2:0<b) (h3:b<64):qC' 250 [wv x,iv a,iv b] (.c (wv (mix x a b))) [] 0:=by
 refine aG aB (sz:=18) Tryz.func250 rfl (by rw [Tryz.ntmps250];rfl) ?_
 repeat' (first|(refine aC ?_;intro K hK hX)|refine aJ [0,1,2,6] ?_|(refine dR ?_;first|refine c0 (bH3 x a h0 h1) ?_|refine c0 (bH3 x b h2 h3) ?_)|refine stA ?_|(refine aE hK hX ?_;clear hK hX K)|fail)
 exact bI
end
section
attribute [local irreducible] Still Adds AWL AW Drw AC AWR cO Frz Go.Av.Src dF Out
structure S5 where
 a:BitVec 64
 b:BitVec 64
 c:BitVec 64
 d:BitVec 64
 e:BitVec 64
deriving DecidableEq
def S5.cs (s:S5):Dr:=[wv s.a,wv s.b,wv s.c,wv s.d,wv s.e]
def rnd (k:BitVec 64) (s:S5):S5 :=
 let c:=s.c ^^^ k
 let a:=s.a ^^^ s.e
 let e:=s.e ^^^ s.d
 let c:=c ^^^ s.b
 let t0 := ~~~a &&& s.b
 let t1 := ~~~s.b &&& c
 let t2 := ~~~c &&& s.d
 let t3 := ~~~s.d &&& e
 let t4 := ~~~e &&& a
 let a:=a ^^^ t1
 let b:=s.b ^^^ t2
 let c:=c ^^^ t3
 let d:=s.d ^^^ t4
 let e:=e ^^^ t0
 let b:=b ^^^ a
 let a:=a ^^^ e
 let d:=d ^^^ c
 let c := ~~~c
 ⟨mix a 19 28,mix b 61 39,mix c 1 6,mix d 10 17,mix e 7 41⟩
def rk (r:Nat):BitVec 64:=BitVec.ofInt 64 (240-15*(r:Int))
def aI8:Nat->S5->S5
 | 0,s=>s
 | r+1,s=>rnd (rk r) (aI8 r s)
def pW (s:S5):S5:=aI8 12 s
abbrev z5:Dr:=[.v (.int .u64 0),.v (.int .u64 0),.v (.int .u64 0),.v (.int .u64 0),.v (.int .u64 0)]
theorem nQ (s:S5):qC' 230 [.agg s.cs] (.c (.agg (pW s).cs)) [] 0:=by
 refine aG aB (sz:=139) Tryz.func230 rfl (by rw [Tryz.ntmps230];rfl) ?_
 repeat' (first|(refine aC ?_;intro K hK hX)|refine aJ [0,1,2,3,4,5] ?_|refine stA ?_|(refine aE hK hX ?_;clear hK hX K)|fail)
 refine fN 2 (fun r:Nat=>[(1,.ref 0 0),(2,.ref 1 0),(5,.c (iv r))]) (fun r=>[(0,.row 198 (aI8 r s).cs),(1,.row 198 z5)]) [] (fun r=>r<=12) (fun r=>12-r) 0 aA kI ?_
 intro r hr K hK hX
 by_cases hlt:r<12
 ·repeat' (first|(refine aC ?_;intro K hK hX)|refine aJ [0,1,2,3,4,5] ?_|(refine dR ?_;first|refine c0 (pD _ 19 28 aP aP aP aP) ?_|refine c0 (pD _ 61 39 aP aP aP aP) ?_|refine c0 (pD _ 1 6 aP aP aP aP) ?_|refine c0 (pD _ 10 17 aP aP aP aP) ?_|refine c0 (pD _ 7 41 aP aP aP aP) ?_)|refine stA ?_|(refine aE hK hX ?_;clear hK hX K)|fail)
  exact ⟨r+1,by omega,by omega,kI⟩
 ·repeat' (first|(refine aC ?_;intro K hK hX)|refine aJ [0,1,2,3,4,5] ?_|refine stA ?_|(refine aE hK hX ?_;clear hK hX K)|fail)
  obtain rfl:r=12:=by omega
  exact uQ
end
end Go.Proofs.YtbgehdndimlgkaaGreat
namespace Go.Proofs.YtbgehdndimlgkaaGreat
open Go Go.RowKit Go.Av
def wdN (l:Db):Nat->BitVec 64
 | 0=>0#64
 | i+1=>wdN l i ||| (((l.getD i 0).toBitVec.setWidth 64) <<< (8*i))
def cY3 (s:S5) (x:BitVec 64):S5:={s with a:=s.a ^^^ x}
def bQ8 (s:S5) (l:Db):Nat->S5
 | 0=>s
 | k+1=>pW (cY3 (bQ8 s l k) (wdN ((l.drop (8*k)).take 8) 8))
def aP6 (r:Db):Db:=r++1::List.replicate (7-r.length) 0
def bH8 (dom:BitVec 64):S5:=pW ⟨dom,1#64,2#64,3#64,4#64⟩
def aF1 (dom:BitVec 64) (l:Db):S5:=pW (cY3 (bQ8 (bH8 dom) l (l.length / 8)) (wdN (aP6 (l.drop (8*(l.length / 8)))) 8))
def eF6 (l:Db):Db:=l++1::List.replicate (7-l.length%8) 0
theorem vF (r:Db) (h:r.length<8):(aP6 r).length=8:=by simp [aP6];omega
def aP7:Nat->S5->S5
 | 0,s=>s
 | k+1,s=>pW (aP7 k s)
def aV0 (s:S5) (i:Nat):UInt8:=UInt8.ofBitVec (((aP7 (i / 8) s).a >>> (8*(i%8))).setWidth 8)
def aI5 (s:S5) (n:Nat):Db:=(List.range n).map (aV0 s)
theorem kG (s:S5) (n:Nat):(aI5 s n).length=n:=by simp [aI5]
theorem bN6 (s:S5) (n:Nat):aI5 s (n+1)=aI5 s n++[aV0 s n]:=by simp [aI5,List.range_succ]
def sum (dom:BitVec 64) (l:Db):Db:=aI5 (aF1 dom l) 32
theorem zT (dom:BitVec 64) (l:Db):(sum dom l).length=32:=kG _ _
end Go.Proofs.YtbgehdndimlgkaaGreat
namespace Go.Proofs.YtbgehdndimlgkaaGreat
open Go Go.RowKit Go.Av
set_option maxRecDepth 100000
section
theorem dY3 (l:Db) (i:Nat) (h:i<l.length):(u8c l)[i*1]? = some (.v (.int .u8 ((l.getD i 0).toNat:Int))):=by
 rw [A5]
 refine cX4 ?_
 simp [List.getD,Aa h]
attribute [local irreducible] Still Adds AWL AW Drw AC AWR cO Frz Go.Av.Src dF Out
theorem bI6 (l:Db) (hl:l.length=8):qC' 231 [.sl 1 8 (u8c l)] (.c (wv (wdN l 8))) [] 0:=by
 refine aG aB (sz:=22) Tryz.func231 rfl (by rw [Tryz.ntmps231];rfl) ?_
 repeat' (first|(refine aC ?_;intro K hK hX)|refine aJ [0,2,3,4,5,6,7,8] ?_|refine stA ?_|(refine aE hK hX ?_;clear hK hX K)|fail)
 refine fN 0 (fun i:Nat=>[(6,.c (.sl 1 8 (u8c l))),(7,.c (iv 8)),(8,.c (iv i)),(3,.c (wv (wdN l i)))]) (fun i=>[]) [] (fun i=>i<=8) (fun i=>8-i) 0 aA kI ?_
 intro i hi K hK hX
 by_cases hlt:i<8
 ·repeat' (first|(refine aC ?_;intro K hK hX)|refine aJ [0,2,3,4,5,6,7,8] ?_|(((with_reducible refine bU ?_);refine xA ?_);(first|((with_reducible refine bR ?_);(first|refine aI (aJ8 rfl sK rfl (show 8*(i:Int)=((8*i:Nat):Int) by omega)) ?_))|((with_reducible refine gB ?_);(first|refine aI (jZ aB rfl rfl rfl rfl xM) ?_|refine aI (iV aB rfl rfl rfl rfl xM) ?_|refine aI (iU aB rfl rfl rfl xM) ?_))|((with_reducible refine e_ix ?_);(first|refine aI (s_ixV1 aB rfl rfl zcj rfl rfl rfl rfl rfl zle xM) ?_|refine aI (s_ixStr aB rfl rfl zcj rfl rfl xM) ?_))))|refine stA ?_|(refine aE hK hX ?_;clear hK hX K)|fail)
  exact ⟨i+1,by omega,by omega,kI⟩
 ·obtain rfl:i=8:=by omega
  repeat' (first|(refine aC ?_;intro K hK hX)|refine aJ [0,2,3,4,5,6,7,8] ?_|refine stA ?_|(refine aE hK hX ?_;clear hK hX K)|fail)
  exact bI
end
section
theorem cW5 (l:Db) (n k:Nat) (hl:l.length=n) (h:8*(k+1)<=n):AV.c (CV.sl 1 (n-8*k-8) (List.take ((n-8*k-8)*1) (List.drop (8*1) (u8c (List.drop (8*k) l)))))=AV.c (CV.sl 1 (n-8*(k+1)) (u8c (List.drop (8*(k+1)) l))):=by
 rw [A5,A5,bY,bZ,BC,Af (by rw [A4];omega),show n-8*k-8=n-8*(k+1) by omega,show 8*k+8=8*(k+1) by omega]
theorem aO7 (r:Db) (m:Nat) (h:r.length=m) (hm:m<8):lay (List.map CV.v [Value.int IntKind.u8 0,Value.int IntKind.u8 0,Value.int IntKind.u8 0,Value.int IntKind.u8 0,Value.int IntKind.u8 0,Value.int IntKind.u8 0,Value.int IntKind.u8 0,Value.int IntKind.u8 0]) (0+0*1) (u8c r)=u8c (r++List.replicate (8-m) 0):=by
 have:List.map CV.v [Value.int IntKind.u8 0,Value.int IntKind.u8 0,Value.int IntKind.u8 0,Value.int IntKind.u8 0,Value.int IntKind.u8 0,Value.int IntKind.u8 0,Value.int IntKind.u8 0,Value.int IntKind.u8 0]=u8c (List.replicate 8 0):=rfl
 rw [this]
 simp only [lay,Cc,Cq,Cy,Aw,Ai,aK,bY,h,cI,List.drop_replicate]
theorem cW4 (r:Db) (m:Nat) (h:r.length=m) (hm:m<8):(u8c (r++List.replicate (8-m) 0)).set (0+m*1) (.v (.int .u8 1))=u8c (aP6 r):=by
 have:CV.v (.int .u8 1) = .v (.int .u8 ((1:UInt8).toNat:Int)):=rfl
 rw [this,Ai,A5]
 unfold u8c
 rw [<- CU]
 congr 1
 unfold aP6
 rw [BR _ _ aA,h,BW,show 8-m=(7-m)+1 by omega,CA,BO]
attribute [local irreducible] Still Adds AWL AW Drw AC AWR cO Frz Go.Av.Src dF Out
attribute [local simp] bZ bY
theorem bJ2 (dom:BitVec 64) (l:Db) (n:Nat) (hl:l.length=n) (hm:n<=maxLen):qC' 184 [wv dom,.sl 1 n (u8c l)] (.c (.agg (aF1 dom l).cs)) [] 0:=by
 have hm':n<=9223372036854775807:=hm
 refine aG aB (sz:=38) Tryz.func184 rfl (by rw [Tryz.ntmps184];rfl) ?_
 repeat' (first|(refine aC ?_;intro K hK hX)|refine bE [0,1,4,5,6] ?_|(refine dU ?_;refine c0 (nQ ⟨dom,1#64,2#64,3#64,4#64⟩) ?_)|refine stA ?_|refine stD ?_|(refine aE hK hX ?_;clear hK hX K)|fail)
 refine fN 2 (fun k:Nat=>[(4,.ref 0 0),(5,.ref 1 0),(1,.c (.sl 1 (n-8*k) (u8c (l.drop (8*k)))))]) (fun k=>[(0,.row 198 z5),(1,.row 198 (bQ8 (bH8 dom) l k).cs)]) [] (fun k=>8*k<=n) (fun k=>n-8*k) 0 aA kI ?_
 intro k hk K hK hX
 by_cases hlt:8<=n-8*k
 ·repeat' (first|(refine aC ?_;intro K hK hX)|refine bE [0,1,4,5,6] ?_|(refine dU ?_;first|refine c0 (bI6 ((l.drop (8*k)).take 8) eM) ?_|refine c0 (nQ (cY3 (bQ8 (bH8 dom) l k) (wdN ((l.drop (8*k)).take 8) 8))) ?_)|refine stA ?_|refine stD ?_|(refine aE hK hX ?_;clear hK hX K)|fail)
  exact ⟨k+1,by omega,by omega,(by refine cE rfl ?_ ?_ rfl<;>(repeat' (first|exact bF|exact bG|refine bC rfl dF1 rfl ?_|refine aN rfl dF1 rfl ?_)))⟩
 ·have hr:(l.drop (8*k)).length=n-8*k:=by rw [A4,hl]
  have hkn:k=l.length / 8:=by omega
  have hp:(u8c (aP6 (l.drop (8*k)))).length=8:=by rw [aK,vF];omega
  have hq:(u8c (l.drop (8*k)++List.replicate (8-(n-8*k)) 0)).length=8:=by rw [aK,Ab,List.length_replicate];omega
  have hk8:n-8*k<8:=by omega
  have hfit:0+(n-8*k)*1<(lay (List.map CV.v [Value.int IntKind.u8 0,Value.int IntKind.u8 0,Value.int IntKind.u8 0,Value.int IntKind.u8 0,Value.int IntKind.u8 0,Value.int IntKind.u8 0,Value.int IntKind.u8 0,Value.int IntKind.u8 0]) (0+0*1) (u8c (l.drop (8*k)))).length:=by rw [aO7 _ _ hr aA,hq];omega
  repeat' (first|(refine aC ?_;intro K hK hX)|refine bE [0,1,4,5,6] ?_|((with_reducible refine iN ?_);(refine fA aB aD rfl rfl rfl rfl rfl rfl (by first|exact hfit|exact A9 rfl|omega|(simp<;>omega)) ?_))|refine stA ?_|refine stD ?_|(refine aE hK hX ?_;clear hK hX K)|fail)
  rw [aO7 _ _ hr aA]
  rw [cW4 _ _ hr aA]
  repeat' (first|(refine aC ?_;intro K hK hX)|refine bE [0,1,4,5,6] ?_|((first|with_reducible refine aH ?_|with_reducible refine jL ?_);(first|refine wA ?_|refine wN ?_|refine wD ?_);(first|refine cF (bI6 (aP6 (l.drop (8*k))) (by rw [vF];omega)) ?_))|(refine dU ?_;refine c0 (nQ (cY3 (bQ8 (bH8 dom) l k) (wdN (aP6 (l.drop (8*k))) 8))) ?_)|refine stA ?_|refine stD ?_|(refine aE hK hX ?_;clear hK hX K)|fail)
  subst hkn
  exact uQ
end
section
theorem cK1:qE Tryz.prog 182 0:=by
 intro us w hl
 obtain ⟨_,rfl⟩:∃_:Unit,us=[]:=by
  match us,hl with | [],_=>exact ⟨(),rfl⟩
 refine callsD_of_wpS Tryz.func182 rfl fun c₀ cs hu=>?_
 apply wpS_region
 simp [wpOpsS,go_sem,recoverD,hu,Tryz.ntmps182,Exit.thenS]
 cases c₀
 simp_all [bodyPostS,results,Tryz.results182]
theorem bA1:Body Tryz.prog 182:=by unfold Body;kernel_rfl
def fil (S:S5) (n i:Nat):Db:=aI5 S i++List.replicate (n-i) 0
theorem cB0 (S:S5) (n:Nat):fil S n n=aI5 S n:=by simp [fil]
theorem aW6 (S:S5) (n i:Nat) (h:i<=n):(fil S n i).length=n:=by simp [fil,kG];omega
theorem cX5 (l:Db) (i:Nat) (b:UInt8):(u8c l).set i (.v (.int .u8 (b.toNat:Int)))=u8c (l.set i b):=by
 unfold u8c
 rw [<- CU]
theorem bE5 (S:S5) (n i:Nat) (h:i<n):(u8c (fil S n i)).set (0+i*1) (.v (.int .u8 ((aV0 S i).toNat:Int)))=u8c (fil S n (i+1)):=by
 rw [cX5,Ai,A5]
 congr 1
 unfold fil
 rw [bN6,BR _ _ (by rw [kG];omega),kG,BW,show n-i=(n-(i+1))+1 by omega,CA,BO]
 simp
def bP3 (S:S5) (i:Nat):S5:=aP7 ((i-1) / 8) S
theorem aE3 (S:S5) (i:Nat) (h:¬(0<i/\i%8=0)):bP3 S i=aP7 (i / 8) S:=by
 unfold bP3;congr 1;omega
theorem bP4 (S:S5) (i:Nat) (h:0<i/\i%8=0):pW (bP3 S i)=aP7 (i / 8) S:=by
 unfold bP3
 rw [show i / 8=(i-1) / 8+1 by omega]
 rfl
attribute [local irreducible] Still Adds AWL AW Drw AC AWR cO Frz Go.Av.Src dF Out InK
abbrev z32:Dr:=List.map CV.v [.int .u8 0,.int .u8 0,.int .u8 0,.int .u8 0,.int .u8 0,.int .u8 0,.int .u8 0,.int .u8 0,.int .u8 0,.int .u8 0,.int .u8 0,.int .u8 0,.int .u8 0,.int .u8 0,.int .u8 0,.int .u8 0,.int .u8 0,.int .u8 0,.int .u8 0,.int .u8 0,.int .u8 0,.int .u8 0,.int .u8 0,.int .u8 0,.int .u8 0,.int .u8 0,.int .u8 0,.int .u8 0,.int .u8 0,.int .u8 0,.int .u8 0,.int .u8 0]
theorem dQ0 (dom:BitVec 64) (l:Db) (n:Nat) (hl:l.length=n) (hm:n<=maxLen):qC' 148 [wv dom,.sl 1 n (u8c l)] (.c (.agg (u8c (sum dom l)))) [] 0:=by
 refine aG aB (sz:=12) Tryz.func148 rfl (by rw [Tryz.ntmps148];rfl) ?_
 repeat' (first|(refine aC ?_;intro K hK hX)|refine aJ [0,1,2,4,5,6,7] ?_|((with_reducible refine bB ?_);refine aY [0,1,2,4,5,6,7] rfl rfl ?_;refine dE [183] ?_)|(refine dU ?_;refine c0 (bJ2 dom l n hl hm) ?_)|((first|with_reducible refine aH ?_|with_reducible refine aV ?_);refine bX aB (List.range 30) aD rfl rfl zby Tryz.func183 rfl rfl rfl (szf:=30) xN rfl ?_)|refine stA ?_|refine stD ?_|(refine aE hK hX ?_;clear hK hX K)|fail|(first|refine bK zio ztr rfl rfl ResL.none ?_|refine bJ zio ztr rfl rfl ResL.none ?_))
 generalize hS:aF1 dom l=S
 refine fN 3 (fun i:Nat=>[(1,.own 1 0 32 1 false),(2,.ref 2 0),(6,.c (iv 32)),(7,.c (iv i))]) (fun i=>[(0,.row 28 z32),(1,.row 28 (u8c (fil S 32 i))),(2,.row 198 (bP3 S i).cs)]) _ (fun i=>i<=32) (fun i=>32-i) 0 aA kI ?_
 intro i hi K hK hX
 by_cases hlt:i<32
 ·skip
  have hlen:(u8c (fil S 32 i)).length=32:=by rw [aK,aW6 _ _ _ aA]
  by_cases h0:0<i
  ·have g1:(decide ((0:Int)<(i:Int))==true)=true:=by rw [AT aA];rfl
   by_cases h8:i%8=0
   ·repeat' (first|(refine aC ?_;intro K hK hX)|refine aJ [0,1,2,4,5,6,7] ?_|((with_reducible refine bB ?_);refine aY [0,1,2,4,5,6,7] rfl rfl ?_;refine dE [183] ?_)|(refine dU ?_;refine c0 (nQ (bP3 S i)) ?_)|((first|with_reducible refine aH ?_|with_reducible refine aV ?_);refine bX aB (List.range 30) aD rfl rfl zby Tryz.func183 rfl rfl rfl (szf:=30) xN rfl ?_)|((first|((with_reducible refine bU ?_);refine xA ?_)|((with_reducible refine cR ?_);refine xD ?_));(first|((with_reducible refine bR ?_);(first|refine aI (uI rfl sK rfl (show 8*((i:Int)%8)=((8*(i%8):Nat):Int) by omega)) ?_))))|((with_reducible refine iN ?_);(refine fA aB aD rfl rfl rfl rfl rfl rfl aB2 ?_))|refine stA ?_|refine stD ?_|(refine aE hK hX ?_;clear hK hX K)|fail|(first|refine bK zio ztr rfl rfl ResL.none ?_|refine bJ zio ztr rfl rfl ResL.none ?_))
    rw [bP4 S i ⟨h0,h8⟩]
    exact ⟨i+1,by omega,by omega,bV0⟩
   ·repeat' (first|(refine aC ?_;intro K hK hX)|refine aJ [0,1,2,4,5,6,7] ?_|((with_reducible refine bB ?_);refine aY [0,1,2,4,5,6,7] rfl rfl ?_;refine dE [183] ?_)|((first|with_reducible refine aH ?_|with_reducible refine aV ?_);refine bX aB (List.range 30) aD rfl rfl zby Tryz.func183 rfl rfl rfl (szf:=30) xN rfl ?_)|((first|((with_reducible refine bU ?_);refine xA ?_)|((with_reducible refine cR ?_);refine xD ?_));(first|((with_reducible refine bR ?_);(first|refine aI (uI rfl sK rfl (show 8*((i:Int)%8)=((8*(i%8):Nat):Int) by omega)) ?_))))|((with_reducible refine iN ?_);(refine fA aB aD rfl rfl rfl rfl rfl rfl aB2 ?_))|refine stA ?_|refine stD ?_|(refine aE hK hX ?_;clear hK hX K)|fail|(first|refine bK zio ztr rfl rfl ResL.none ?_|refine bJ zio ztr rfl rfl ResL.none ?_))
    rw [aE3 S i (fun h=>h8 h.2)]
    exact ⟨i+1,by omega,by omega,bV0⟩
  ·have g1:(decide ((0:Int)<(i:Int))==true)=false:=by rw [Bg aA];rfl
   repeat' (first|(refine aC ?_;intro K hK hX)|refine aJ [0,1,2,4,5,6,7] ?_|((with_reducible refine bB ?_);refine aY [0,1,2,4,5,6,7] rfl rfl ?_;refine dE [183] ?_)|((first|with_reducible refine aH ?_|with_reducible refine aV ?_);refine bX aB (List.range 30) aD rfl rfl zby Tryz.func183 rfl rfl rfl (szf:=30) xN rfl ?_)|((first|((with_reducible refine bU ?_);refine xA ?_)|((with_reducible refine cR ?_);refine xD ?_));(first|((with_reducible refine bR ?_);(first|refine aI (uI rfl sK rfl (show 8*((i:Int)%8)=((8*(i%8):Nat):Int) by omega)) ?_))))|((with_reducible refine iN ?_);(refine fA aB aD rfl rfl rfl rfl rfl rfl aB2 ?_))|refine stA ?_|refine stD ?_|(refine aE hK hX ?_;clear hK hX K)|fail|(first|refine bK zio ztr rfl rfl ResL.none ?_|refine bJ zio ztr rfl rfl ResL.none ?_))
   rw [aE3 S i (fun h=>h0 h.1)]
   exact ⟨i+1,by omega,by omega,bV0⟩
 ·obtain rfl:i=32:=by omega
  repeat' (first|(refine aC ?_;intro K hK hX)|refine aJ [0,1,2,4,5,6,7] ?_|((with_reducible refine bB ?_);refine aY [0,1,2,4,5,6,7] rfl rfl ?_;refine dE [183] ?_)|((first|with_reducible refine aH ?_|with_reducible refine aV ?_);refine bX aB (List.range 30) aD rfl rfl zby Tryz.func183 rfl rfl rfl (szf:=30) xN rfl ?_)|refine stA ?_|refine stD ?_|(refine aE hK hX ?_;clear hK hX K)|fail|(first|refine bK zio ztr rfl rfl ResL.none ?_|refine bJ zio ztr rfl rfl ResL.none ?_))
  rw [cB0]
  subst hS
  have hlen:(u8c (aI5 (aF1 dom l) 32)).length=32:=by rw [aK,kG]
  refine dD zio (by exact ⟨cK1,bA1,trivial⟩) rfl (ResL.one zrs) zou
end
section
theorem aX3:qE Tryz.prog 147 0:=by
 intro us w hl
 obtain ⟨_,rfl⟩:∃_:Unit,us=[]:=by
  match us,hl with | [],_=>exact ⟨(),rfl⟩
 refine callsD_of_wpS Tryz.func147 rfl fun c₀ cs hu=>?_
 apply wpS_region
 simp [wpOpsS,go_sem,recoverD,hu,Tryz.ntmps147,Exit.thenS]
 cases c₀
 simp_all [bodyPostS,results,Tryz.results147]
theorem aI0:Body Tryz.prog 147:=by unfold Body;kernel_rfl
attribute [local irreducible] Still Adds AWL AW Drw AC AWR cO Frz Go.Av.Src dF Out InK
attribute [local simp] bZ bY cI
theorem cS6 (k:Nat) (h0:0<k) (hk:k<=1000000000):qC' 185 [.v (.slice none 0 0),iv k] (.own 0 0 0 1 true) [(0,.row 5 [])] 1:=by
 refine aG aB (sz:=27) Tryz.func185 rfl (by rw [Tryz.ntmps185];rfl) ?_
 repeat' (first|(refine aC ?_;intro K hK hX)|refine aJ [0,1,4] ?_|refine stA ?_|(refine aE hK hX ?_;clear hK hX K)|fail)
 exact bI
theorem bK9 (a b:Db) (m n:Nat) (ha:a.length=m) (hb:b.length=n) (h0:0<m) (hk:m+n<=1000000000):qC' 149 [.sl 1 2 [.sl 1 m (u8c a),.sl 1 n (u8c b)]] (.own 0 0 (m+n) 1 true) [(0,.row 5 (u8c (a++b)))] 1:=by
 have hua:(u8c a).length=m:=by rw [aK,ha]
 have hub:(u8c b).length=n:=by rw [aK,hb]
 refine aG aB (sz:=36) Tryz.func149 rfl (by rw [Tryz.ntmps149];rfl) ?_
 repeat' (first|(refine aC ?_;intro K hK hX)|refine aJ [0,2,3,5,6,8,9,10,11,25,26,27] ?_|((with_reducible refine aO5 ?_);refine aA3 3 ?_)|(refine cY4 ?_;intro K hK hX)|(refine dR ?_;refine c1 (cS6 (m+n) aA aA) ?_)|refine stA ?_|(refine aE hK hX ?_;clear hK hX K)|fail)
 rw [show 0+m+n=m+n by omega,Aw,<- cI]
 exact bI
theorem aO6 (dom:BitVec 64) (k l:Db) (n:Nat) (hk:k.length=32) (hl:l.length=n) (hm:n<=100000000):qC' 78 [wv dom,.agg (u8c k),.sl 1 n (u8c l)] (.c (.agg (u8c (sum dom (k++l))))) [] 0:=by
 have hua:(u8c k).length=32:=by rw [aK,hk]
 have hub:(u8c l).length=n:=by rw [aK,hl]
 have hus:(u8c (sum dom (k++l))).length=32:=by rw [aK,zT]
 have hukl:(u8c (k++l)).length=32+n:=by rw [aK,Ab];omega
 refine aG aB (sz:=13) Tryz.func78 rfl (by rw [Tryz.ntmps78];rfl) ?_
 repeat' (first|(refine aC ?_;intro K hK hX)|refine aJ [0,1,2,4,6] ?_|refine stA ?_|(refine aE hK hX ?_;clear hK hX K)|fail)
 refine aL6 (cX9 (E:=[(6,.ref 1 0),(7,.c (wv dom)),(8,.c (.sl 1 32 (u8c k))),(9,.c (.sl 1 n (u8c l)))]) (Hp:=[(1,.row 28 z32)]) (by repeat' (first|exact FzE.nil|refine FzE.cons rfl ?_ ?_|exact cS5|exact fz_ref rfl rfl|exact bF0 rfl rfl zln|exact cB8 rfl rfl (by first|exact mM (by first|rfl|omega)|rfl) zln)) (by repeat' (first|exact trivial|refine ⟨rfl,?_⟩))) ?_
 repeat' (first|(refine aC ?_;intro K hK hX)|refine aJ [0,1,2,4,6] ?_|((with_reducible refine aH ?_);(first|refine wA ?_|refine wN ?_);(first|refine cF (dQ0 dom (k++l) (32+n) eM qX) ?_))|((with_reducible refine aH ?_);(refine yA ?_);(first|refine cF1 (bK9 k l 32 n hk hl aP aA) ?_))|refine stA ?_|(refine aE hK hX ?_;clear hK hX K)|fail)
 refine dD zio (by exact ⟨aX3,aI0,trivial⟩) rfl (ResL.one zrs) zou
end
end Go.Proofs.YtbgehdndimlgkaaGreat
