/- Lemmas for laws of the ledger. -/
import Derived.Test.YtbgehdndimlgkaaGreatP4
set_option linter.all false
namespace Go.Proofs.YtbgehdndimlgkaaGreat
open Go Go.RowKit Go.Av
section
abbrev iv (n:Int):CV := .v (.int .i64 n)
abbrev bv (b:Bool):CV := .v (.bool b)
abbrev uv (x:BitVec 64):CV := .v (.int .u64 (x.toNat:Int))
abbrev sv (l:Dr):CV := .v (.string ⟨l.toArray⟩)
theorem bsz (bs:ByteArray):bs.data.toList.length=bs.size:=by rw [AA];rfl
theorem dN0 (bs:ByteArray):∀(n i:Nat) (r:Dr),bs.size-i=n->ByteArray.toList.loop bs i r=r.reverse++bs.data.toList.drop i:=by
 intro n
 induction n with
 | zero =>
  intro i r h
  rw [ByteArray.toList.loop,Ai aA]
  have:=bsz bs
  rw [List.drop_eq_nil_of_le aA,A1]
 | succ n ih =>
  intro i r h
  rw [ByteArray.toList.loop,Ak aA,ih (i+1) _ aA]
  have hl:i<bs.data.toList.length:=by have:=bsz bs;omega
  rw [BB hl]
  have:bs.get! i=bs.data.toList[i]:=by
   have h2:i<bs.data.size:=by simpa using hl
   rw [ByteArray.get!,Ch bs.data i h2,C4]
  rw [this]
  simp
theorem bI2 (l:Dr):(⟨l.toArray⟩:ByteArray).toList=l:=by
 rw [ByteArray.toList,dN0 _ _ 0 [] rfl]
 simp
section
variable {P:D0} {tab:Tab} {ev:Evl} {h:aQ} {d:Dy} {T ty:Dz} {x y z:Operand} {pos:String} {aft:Dx} {gd:Ds}
theorem eK8 {T':Dz} {s t:Dr} {b:Bool} (hx:ev x=some (.c (sv s))) (hy:ev y=some (.c (sv t))) (hr:decide (s=t)=b):Still P ⟨d,.binOp .eql T x y T',ty,pos,aft,gd⟩ ev h (.c (.v (.bool b))) :=
 aJ1 hx hy (by rw [bI2,bI2];exact hr)
end
theorem aX6 (l:Dr):(⟨l.toArray⟩:ByteArray).size=l.length:=by simp [ByteArray.size]
end
structure Vl where
 k:Int
 n:Int
 t:Dr
deriving DecidableEq
def Vl.nul:Vl:=⟨0,0,[]⟩
def Vl.c (v:Vl):D8:=[iv v.k,iv v.n,sv v.t]
def okP (v:Vl):Prop:=(v.k=0/\v.n=0/\v.t=[])\/(v.k=1 /\ -4294967296<=v.n/\v.n<=4294967296/\v.t=[])\/(v.k=2/\v.n=0/\v.t.length<=32)
instance (v:Vl):Decidable (okP v):=by unfold okP;infer_instance
def okV (v:Vl):Bool:=decide (okP v)
def clV (v:Vl):Vl:=if okV v then v else Vl.nul
theorem bM2:okP Vl.nul := .inl ⟨rfl,rfl,rfl⟩
theorem aO0 (v:Vl):okP (clV v):=by
 unfold clV
 split
 ·rename_i h;exact CI h
 ·exact bM2
theorem eE3 {v:Vl} (h:okP v):clV v=v:=by unfold clV okV;rw [AH h];rfl
def cU3 (n:Nat):UInt8:=UInt8.ofNat n
def esc (b:UInt8):Dr:=if b=0 then [0,255] else [b]
def eZ6 (m:Nat):Dr:=[2,cU3 (m / 2 ^ 32),cU3 (m / 2 ^ 24),cU3 (m / 2 ^ 16),cU3 (m / 2 ^ 8),cU3 m]
def eZ8 (v:Vl):Dr:=if v.k=1 then eZ6 (v.n+4294967296).toNat else if v.k=2 then 3::v.t.flatMap esc++[0,0] else [1]
def eZ7 (r:List Vl):Dr:=r.flatMap fun v=>eZ8 (clV v)
def eA8 (h:BitVec 64) (b:UInt8):BitVec 64:=(h ^^^ BitVec.ofNat 64 b.toNat)*1099511628211#64
def eR8 (l:Dr):BitVec 64:=l.foldl eA8 14695981039346656037#64
def fF2 (v:Vl) (row:UInt8):BitVec 64:=eA8 (eR8 (eZ7 [v])) row
def rc (r:List Vl):D8:=r.flatMap Vl.c
def wide (v:Vl):Prop:=(-9223372036854775808<=v.k/\v.k<=9223372036854775807)/\(-9223372036854775808<=v.n/\v.n<=9223372036854775807)/\v.t.length<=maxLen
end Go.Proofs.YtbgehdndimlgkaaGreat
namespace Go.Proofs.YtbgehdndimlgkaaGreat
open Go Go.RowKit Go.Av
set_option maxRecDepth 100000
def mH (u:Nat):Dr:=if h:u<128 then [UInt8.ofNat u] else UInt8.ofNat (u%128+128)::mH (u / 128)
termination_by u
decreasing_by omega
theorem kP {u:Nat} (h:u<128):mH u=[UInt8.ofNat u]:=by rw [mH,dif_pos h]
theorem mI {u:Nat} (h:¬u<128):mH u=UInt8.ofNat (u%128+128)::mH (u / 128):=by rw [mH,dif_neg h]
def zz (n:Int):Nat:=if n<0 then (-2*n-1).toNat else (2*n).toNat
def uz (u:Nat):Int:=if u%2=1 then -((u / 2:Nat):Int)-1 else (u / 2:Nat)
theorem eX7 (n:Int):uz (zz n)=n:=by
 unfold uz zz
 split<;>split<;>omega
theorem aK6 {n:Int} (h1 : -9223372036854775808<=n) (h2:n<=9223372036854775807):zz n<18446744073709551616:=by
 unfold zz
 split<;>omega
def bA (n:Int):Dr:=mH (zz n)
def pU:Nat->Nat->Dr->Option (Nat × Dr)
 | _,_,[]=>none
 | i,x,c::b=>if (i=9/\1<c.toNat)\/(0<i/\c.toNat=0) then none else if c.toNat<128 then some (x+c.toNat*128 ^ i,b) else pU (i+1) (x+c.toNat%128*128 ^ i) b
def dM (b:Dr):Option (Int × Dr):=(pU 0 0 b).map fun p=>(uz p.1,p.2)
theorem aK3 {n:Nat} (h:n<256):(UInt8.ofNat n).toNat=n:=by
 rw [Co]
 exact BH h
theorem dO3 : ∀ (u i x : Nat) (r : Dr), i <= 9 -> (i = 0 \/ u ≠ 0) -> u * 128 ^ i < 18446744073709551616 -> pU i x (mH u ++ r) = some (x + u * 128 ^ i, r) := by
  intro u
  induction u using Nat.strongRecOn with
  | _ u ih =>
    intro i x r hi h0 hb
    by_cases h : u < 128
    · rw [kP h, CL, pU, aK3 aA]
      have h9 : ¬ ((i = 9 /\ 1 < u) \/ (0 < i /\ u = 0)) := by
        rintro (⟨e, h1⟩ | ⟨h1, h2⟩)
        · subst e
          have : 2 * 128 ^ 9 <= u * 128 ^ 9 := Bl _ h1
          have e2 : (2 * 128 ^ 9 : Nat) = 18446744073709551616 := by decide
          omega
        · omega
      rw [Ai h9, Ak h]
    · have hi9 : i ≠ 9 := fun e => by
        subst e
        have : 128 * 128 ^ 9 <= u * 128 ^ 9 := Bl _ aA
        have e2 : 18446744073709551616 <= (128 * 128 ^ 9 : Nat) := by decide
        omega
      rw [mI h, AE, pU, aK3 aA]
      have h9 : ¬ ((i = 9 /\ 1 < u % 128 + 128) \/ (0 < i /\ u % 128 + 128 = 0)) := by
        rintro (⟨e, _⟩ | ⟨_, h2⟩)
        · exact hi9 e
        · omega
      have hm : (u % 128 + 128) % 128 = u % 128 := by omega
      have hs : u % 128 * 128 ^ i + u / 128 * 128 ^ (i + 1) = u * 128 ^ i := by
        rw [CG, Nat.mul_comm (128 ^ i) 128, <- Nat.mul_assoc, <- AL]
        congr 1
        omega
      rw [Ai h9, Ai aA, hm, ih (u / 128) aA (i + 1) _ r aA (.inr aA) aA, BR, hs]
theorem tH {n:Int} (h1 : -9223372036854775808<=n) (h2:n<=9223372036854775807) (r:Dr):dM (bA n++r)=some (n,r):=by
 unfold dM bA
 rw [dO3 (zz n) 0 0 r aA (.inl rfl) (by rw [Nat.pow_zero,A9];exact aK6 h1 h2)]
 simp [eX7]
def pIn (lo hi:Int) (b:Dr):Option (Int × Dr):=(dM b).bind fun p=>if lo<=p.1/\p.1<=hi then some p else none
def pBy (n:Nat) (b:Dr):Option (Dr × Dr):=if n<=b.length then some (b.take n,b.drop n) else none
def pTx (m:Int) (b:Dr):Option (Dr × Dr):=(pIn 0 m b).bind fun p=>pBy p.1.toNat p.2
theorem jZ {n lo hi:Int} (h1:lo<=n) (h2:n<=hi) (h3 : -9223372036854775808<=n) (h4:n<=9223372036854775807) (r:Dr):pIn lo hi (bA n++r)=some (n,r):=by
 unfold pIn
 rw [tH h3 h4,Am,Ak ⟨h1,h2⟩]
def nJ (s:Dr):Dr:=bA s.length++s
theorem bE3 {s:Dr} {m:Int} (h:(s.length:Int)<=m) (hm:m<=9223372036854775807) (r:Dr):pTx m (nJ s++r)=some (s,r):=by
 unfold pTx nJ
 rw [Ao,jZ aA h aA aA,Am]
 unfold pBy
 simp only [AX]
 rw [Ak cN6,C5,CY]
def mA (v:Vl):Dr:=bA v.k++(if v.k=1 then bA v.n else if v.k=2 then nJ v.t else [])
def pVl (b:Dr):Option (Vl × Dr):=(pIn 0 2 b).bind fun p =>
 if p.1=1 then (pIn (-4294967296) 4294967296 p.2).map fun q=>(⟨1,q.1,[]⟩,q.2)
 else if p.1=2 then (pTx 32 p.2).map fun q=>(⟨2,0,q.1⟩,q.2) else some (⟨0,0,[]⟩,p.2)
theorem cW4 {v:Vl} (h:(v.k=0/\v.n=0/\v.t=[])\/(v.k=1 /\ -4294967296<=v.n/\v.n<=4294967296/\v.t=[])\/(v.k=2/\v.n=0/\v.t.length<=32)) (r:Dr):pVl (mA v++r)=some (v,r):=by
 obtain ⟨k,n,t⟩:=v
 unfold pVl mA
 rcases h with ⟨h1,h2,h3⟩|⟨h1,h2,h3,h4⟩|⟨h1,h2,h3⟩<;>simp only at h1 h2 h3<;>subst h1
 ·subst h2 h3
  simp only [A1,Ai (show ¬(0:Int)=1 by decide),Ai (show ¬(0:Int)=2 by decide)]
  rw [jZ aN aN aN aN,Am]
  simp
 ·simp only at h4
  subst h4
  simp only [Bx,Ao]
  rw [jZ aN aN aN aN,Am]
  simp only [Bx]
  rw [jZ h2 h3 aA aA]
  rfl
 ·subst h2
  simp only [Ai (show ¬(2:Int)=1 by decide),Bx,Ao]
  rw [jZ aN aN aN aN,Am]
  simp only [Ai (show ¬(2:Int)=1 by decide),Bx]
  rw [bE3 aA aN]
  rfl
def aS (n:Int):Prop := -9223372036854775808<=n/\n<=9223372036854775807
theorem dJ {n:Int} (h:aS n) (r:Dr):dM (bA n++r)=some (n,r):=tH h.1 h.2 r
structure Idf where
 ns:Dr
 v:Vl
def eI (i:Idf):Dr:=nJ i.ns++mA (clV i.v)
def pId (b:Dr):Option (Idf × Dr):=(pTx 16 b).bind fun p=>(pVl p.2).map fun q=>(⟨p.1,q.1⟩,q.2)
theorem vV {i:Idf} (h:i.ns.length<=16) (r:Dr):pId (eI i++r)=some (⟨i.ns,clV i.v⟩,r):=by
 unfold pId eI
 rw [Ao,bE3 aA aN,Am,cW4 (aO0 i.v)]
 rfl
structure Ver where
 t:Int
 c:Int
 s:Int
deriving DecidableEq
def eK (v:Ver):Dr:=bA v.t++bA v.s++bA v.c
def pVr (b:Dr):Option (Ver × Dr):=(dM b).bind fun p=>(dM p.2).bind fun q=>(dM q.2).map fun w=>(⟨p.1,w.1,q.1⟩,w.2)
theorem dO4 {v:Ver} (h1:aS v.t) (h2:aS v.c) (h3:aS v.s) (r:Dr):pVr (eK v++r)=some (v,r):=by
 unfold pVr eK
 rw [Ao,Ao,dJ h1,Am,dJ h3,Am,dJ h2]
 rfl
structure Src where
 t:Int
 s:Int
deriving DecidableEq
def eZ (v:Src):Dr:=bA v.t++bA v.s
def pSr (b:Dr):Option (Src × Dr):=(dM b).bind fun p=>(dM p.2).map fun q=>(⟨p.1,q.1⟩,q.2)
theorem dO2 {v:Src} (h1:aS v.t) (h2:aS v.s) (r:Dr):pSr (eZ v++r)=some (v,r):=by
 unfold pSr eZ
 rw [Ao,dJ h1,Am,dJ h2]
 rfl
def uG {α:Type} (p:Dr->Option (α × Dr)):Nat->Dr->Option (List α × Dr)
 | 0,b=>some ([],b)
 | n+1,b=>(p b).bind fun x=>(uG p n x.2).map fun y=>(x.1::y.1,y.2)
theorem bE2 {α:Type} {p:Dr->Option (α × Dr)} {e:α->Dr}:∀(l:List α) (r:Dr),(∀x∈l,∀r,p (e x++r)=some (x,r))->uG p l.length (l.flatMap e++r)=some (l,r)
 | [],r,_=>rfl
 | x::l,r,h=>by
  rw [As,uG,A4,Ao,h x aT,Am,bE2 l r fun y hy=>h y (by simp [hy])]
  rfl
def gE {α:Type} (e:α->Dr) (l:List α):Dr:=bA l.length++l.flatMap e
def pLs {α:Type} (p:Dr->Option (α × Dr)) (m:Int) (b:Dr):Option (List α × Dr):=(pIn 0 m b).bind fun q=>uG p q.1.toNat q.2
theorem bV3 {α:Type} {p:Dr->Option (α × Dr)} {e:α->Dr} {l:List α} {m:Int} (h:∀x∈l,∀r,p (e x++r)=some (x,r)) (hl:(l.length:Int)<=m) (hm:m<=9223372036854775807) (r:Dr):pLs p m (gE e l++r)=some (l,r):=by
 unfold pLs gE
 rw [Ao,jZ aA hl aA aA,Am]
 simp only [AX]
 exact bE2 l r h
structure LLk where
 a:Idf
 b:Idf
 s:Int
 rv:Bool
def kX (l:LLk):Dr:=eI l.a++(eI l.b++(bA l.s++bA (if l.rv then 1 else 0)))
def pLk (b:Dr):Option (LLk × Dr):=(pId b).bind fun p=>(pId p.2).bind fun q=>(dM q.2).bind fun s=>(pIn 0 1 s.2).map fun t=>(⟨p.1,q.1,s.1,decide (t.1=1)⟩,t.2)
def clI (i:Idf):Idf:=⟨i.ns,clV i.v⟩
theorem dO0 {l:LLk} (h1:l.a.ns.length<=16) (h2:l.b.ns.length<=16) (h3:aS l.s) (r:Dr):pLk (kX l++r)=some (⟨clI l.a,clI l.b,l.s,l.rv⟩,r):=by
 obtain ⟨a,b,s,rv⟩:=l
 unfold pLk kX
 simp only [Ao]
 rw [vV h1,Am]
 simp only
 rw [vV h2,Am]
 simp only
 rw [dJ h3,Am]
 simp only
 cases rv
 ·rw [Ai aN,jZ aN aN aN aN];rfl
 ·rw [Ak rfl,jZ aN aN aN aN];rfl
structure LHd where
 t:Int
 c:Int
 who:Idf
 s:Int
 fr:Int
 to:Int
def kW (h:LHd):Dr:=bA h.t++(bA h.c++(eI h.who++(bA h.s++(bA h.fr++bA h.to))))
def pHd (b:Dr):Option (LHd × Dr):=(dM b).bind fun t=>(dM t.2).bind fun c=>(pId c.2).bind fun w=>(dM w.2).bind fun s=>(dM s.2).bind fun f=>(dM f.2).map fun o=>(⟨t.1,c.1,w.1,s.1,f.1,o.1⟩,o.2)
theorem dN9 {h:LHd} (h1:aS h.t) (h2:aS h.c) (h3:h.who.ns.length<=16) (h4:aS h.s) (h5:aS h.fr) (h6:aS h.to) (r:Dr):pHd (kW h++r)=some (⟨h.t,h.c,clI h.who,h.s,h.fr,h.to⟩,r):=by
 unfold pHd kW
 simp only [Ao]
 rw [dJ h1,Am];simp only
 rw [dJ h2,Am];simp only
 rw [vV h3,Am];simp only
 rw [dJ h4,Am];simp only
 rw [dJ h5,Am];simp only
 rw [dJ h6];rfl
structure LRq where
 k:Int
 who:Idf
 s:Int
 d:Int
 dl:Int
def kY (q:LRq):Dr:=bA q.k++(eI q.who++(bA q.s++(bA q.d++bA q.dl)))
def pRq (b:Dr):Option (LRq × Dr):=(dM b).bind fun k=>(pId k.2).bind fun w=>(dM w.2).bind fun s=>(dM s.2).bind fun d=>(dM d.2).map fun o=>(⟨k.1,w.1,s.1,d.1,o.1⟩,o.2)
theorem dO1 {q:LRq} (h1:aS q.k) (h3:q.who.ns.length<=16) (h4:aS q.s) (h5:aS q.d) (h6:aS q.dl) (r:Dr):pRq (kY q++r)=some (⟨q.k,clI q.who,q.s,q.d,q.dl⟩,r):=by
 unfold pRq kY
 simp only [Ao]
 rw [dJ h1,Am];simp only
 rw [vV h3,Am];simp only
 rw [dJ h4,Am];simp only
 rw [dJ h5,Am];simp only
 rw [dJ h6];rfl
structure LEn where
 k:Int
 day:Int
 plan:Int
 step:Int
 rq:LRq
 lk:LLk
 hd:LHd
 vs:List Ver
 ss:List Src
 root:Dr
def iT:Idf:=⟨[],Vl.nul⟩
def rq0:LRq:=⟨0,iT,0,0,0⟩
def lk0:LLk:=⟨iT,iT,0,false⟩
def hd0:LHd:=⟨0,0,iT,0,0,0⟩
def root0:Dr:=List.replicate 32 0
def cU (e:LEn):Dr :=
 if e.k=1 then kY e.rq else if e.k=2 then gE eK e.vs++gE eZ e.ss else if e.k=4 then e.root else if e.k=6 then kX e.lk else if e.k=7 then kW e.hd else []
def cC (e:LEn):Dr:=bA e.k++(bA e.day++(bA e.plan++(bA e.step++cU e)))
def mD (k d p s:Int) (b:Dr):Option (LEn × Dr) :=
 if k=1 then (pRq b).map fun x=>(⟨k,d,p,s,x.1,lk0,hd0,[],[],root0⟩,x.2)
 else if k=2 then (pLs pVr 512 b).bind fun v=>(pLs pSr 512 v.2).map fun x=>(⟨k,d,p,s,rq0,lk0,hd0,v.1,x.1,root0⟩,x.2)
 else if k=4 then (pBy 32 b).map fun x=>(⟨k,d,p,s,rq0,lk0,hd0,[],[],x.1⟩,x.2)
 else if k=6 then (pLk b).map fun x=>(⟨k,d,p,s,rq0,x.1,hd0,[],[],root0⟩,x.2)
 else if k=7 then (pHd b).map fun x=>(⟨k,d,p,s,rq0,lk0,x.1,[],[],root0⟩,x.2)
 else some (⟨k,d,p,s,rq0,lk0,hd0,[],[],root0⟩,b)
def pEn (b:Dr):Option (LEn × Dr):=(pIn 1 7 b).bind fun k=>(dM k.2).bind fun d=>(dM d.2).bind fun p=>(dM p.2).bind fun s=>mD k.1 d.1 p.1 s.1 s.2
def clE (e:LEn):LEn :=
 ⟨e.k,e.day,e.plan,e.step,if e.k=1 then ⟨e.rq.k,clI e.rq.who,e.rq.s,e.rq.d,e.rq.dl⟩ else rq0,if e.k=6 then ⟨clI e.lk.a,clI e.lk.b,e.lk.s,e.lk.rv⟩ else lk0,if e.k=7 then ⟨e.hd.t,e.hd.c,clI e.hd.who,e.hd.s,e.hd.fr,e.hd.to⟩ else hd0,if e.k=2 then e.vs else [],if e.k=2 then e.ss else [],if e.k=4 then e.root else root0⟩
structure LEn.wf (e:LEn):Prop where
 h1:aS e.day/\aS e.plan/\aS e.step
 rq:aS e.rq.k/\aS e.rq.s/\aS e.rq.d/\aS e.rq.dl
 lk:aS e.lk.s
 hd:aS e.hd.t/\aS e.hd.c/\aS e.hd.s/\aS e.hd.fr/\aS e.hd.to
 vs:∀v∈e.vs,aS v.t/\aS v.c/\aS v.s
 ss:∀v∈e.ss,aS v.t/\aS v.s
 root:e.root.length=32
structure LEn.rd (e:LEn):Prop where
 k:1<=e.k/\e.k<=7
 rq:e.k=1->e.rq.who.ns.length<=16
 er:e.k=2->e.vs.length<=512/\e.ss.length<=512
 lk:e.k=6->e.lk.a.ns.length<=16/\e.lk.b.ns.length<=16
 hd:e.k=7->e.hd.who.ns.length<=16
theorem tG {e : LEn} (hw : e.wf) (hr : e.rd) (r : Dr) : pEn (cC e ++ r) = some (clE e, r) := by
  obtain ⟨a1, a2, a3⟩ := hw.h1
  obtain ⟨b1, b2, b3, b4⟩ := hw.rq
  have c1 := hw.lk
  obtain ⟨d1, d2, d3, d4, d5⟩ := hw.hd
  have e1 := hw.vs
  have e2 := hw.ss
  have f1 := hw.root
  obtain ⟨k1, k2⟩ := hr.k
  have g1 := hr.rq
  have g2 := hr.er
  have g3 := hr.lk
  have g4 := hr.hd
  clear hw hr
  obtain ⟨k, d, p, s, rq, lk, hd, vs, ss, root⟩ := e
  simp only at *
  unfold pEn cC cU clE
  simp only [Ao]
  rw [jZ k1 k2 aA aA, Am]; simp only
  rw [dJ a1, Am]; simp only
  rw [dJ a2, Am]; simp only
  rw [dJ a3, Am]; simp only
  unfold mD
  rcases (show k = 1 \/ k = 2 \/ k = 3 \/ k = 4 \/ k = 5 \/ k = 6 \/ k = 7 by omega) with h | h | h | h | h | h | h <;> subst h
  · simp [dO1 b1 (g1 rfl) b2 b3 b4]
  · have hv := bV3 (p := pVr) (e := eK) (l := vs) (m := 512) (fun x hx r => dO4 (e1 x hx).1 (e1 x hx).2.1 (e1 x hx).2.2 r) (by have := (g2 rfl).1; omega) aN (gE eZ ss ++ r)
    have hs := bV3 (p := pSr) (e := eZ) (l := ss) (m := 512) (fun x hx r => dO2 (e2 x hx).1 (e2 x hx).2 r) (by have := (g2 rfl).2; omega) aN r
    simp [Ao, hv, hs]
  · simp
  · have hb : pBy 32 (root ++ r) = some (root, r) := by
      unfold pBy
      rw [Ak cN6, <- f1, C5, CY]
    simp [hb]
  · simp
  · simp [dO0 (g3 rfl).1 (g3 rfl).2 c1]
  · simp [dN9 d1 d2 (g4 rfl) d3 d4 d5]
section
structure SLO {α:Type} (lt:α->α->Prop):Prop where
 irr:∀a,¬lt a a
 tr:∀a b c,lt a b->lt b c->lt a c
 tri:∀a b,lt a b\/a=b\/lt b a
section
variable {α:Type} {lt:α->α->Prop}
theorem zP (h:SLO lt):∀{l m:List α},l.Pairwise lt->m.Pairwise lt->(∀x,x∈l↔x∈m)->l=m
 | [],[],_,_,_=>rfl
 | [],y::m,_,_,hm=>by have:=(hm y).2 aT;cases this
 | x::l,[],_,_,hm=>by have:=(hm x).1 aT;cases this
 | x::l,y::m,hl,hm',hm=>by
  obtain ⟨l1,l2⟩:=Bu.1 hl
  obtain ⟨m1,m2⟩:=Bu.1 hm'
  have e:x=y:=by
   rcases A6.1 ((hm x).1 aT) with e|hx
   ·exact e
   ·rcases A6.1 ((hm y).2 aT) with e|hy
    ·exact e.symm
    ·exact absurd (h.tr _ _ _ (l1 y hy) (m1 x hx)) (h.irr x)
  subst e
  rw [zP h l2 m2 fun z=>?_]
  constructor
  ·intro hz
   rcases A6.1 ((hm z).1 (by simp [hz])) with e|hz'
   ·subst e;exact absurd (l1 z hz) (h.irr z)
   ·exact hz'
  ·intro hz
   rcases A6.1 ((hm z).2 (by simp [hz])) with e|hz'
   ·subst e;exact absurd (m1 z hz) (h.irr z)
   ·exact hz'
theorem wI (h:SLO lt) {l:List α} (hl:l.Pairwise lt):l.Nodup:=by
 rw [List.nodup_iff_pairwise_ne]
 exact hl.imp fun {a b} hab e=>by subst e;exact h.irr a hab
open Classical in
noncomputable def insA (lt:α->α->Prop) (v:α):List α->List α
 | []=>[v]
 | x::l=>if lt v x then v::x::l else if v=x then x::l else x::insA lt v l
theorem sB (v:α):∀(l:List α) (x:α),x∈insA lt v l↔x=v\/x∈l
 | [],x=>by simp [insA]
 | y::l,x=>by
  rw [insA]
  split
  ·rw [A6]
  ·split
   ·rename_i e
    subst e
    rw [A6]
    exact ⟨.inr,fun hx=>hx.elim .inl id⟩
   ·rw [A6,sB v l x,A6]
    constructor
    ·rintro (e|e|e)
     ·exact .inr (.inl e)
     ·exact .inl e
     ·exact .inr (.inr e)
    ·rintro (e|e|e)
     ·exact .inr (.inl e)
     ·exact .inl e
     ·exact .inr (.inr e)
theorem vO (h:SLO lt) (v:α):∀{l:List α},l.Pairwise lt->(insA lt v l).Pairwise lt
 | [],_=>CB _ _
 | y::l,hl=>by
  obtain ⟨l1,l2⟩:=Bu.1 hl
  rw [insA]
  split
  ·rename_i hv
   refine Bu.2 ⟨fun z hz=>?_,hl⟩
   rcases A6.1 hz with rfl|hz
   ·exact hv
   ·exact h.tr _ _ _ hv (l1 z hz)
  ·rename_i hv
   split
   ·exact hl
   ·rename_i hne
    refine Bu.2 ⟨fun z hz=>?_,vO h v l2⟩
    rcases (sB v l z).1 hz with rfl|hz
    ·rcases h.tri z y with e|e|e
     ·exact absurd e hv
     ·exact absurd e hne
     ·exact e
    ·exact l1 z hz
noncomputable def ascL (lt:α->α->Prop) (l:List α):List α:=l.foldl (fun m v=>insA lt v m) []
theorem oQ (l:List α) (v:α):ascL lt (l++[v])=insA lt v (ascL lt l):=by unfold ascL;rw [CC];rfl
theorem aJ8 {p:List α->Prop} (h0:p []) (h1:∀l x,p l->p (l++[x])):∀l,p l:=fun l=>by
 have:∀m:List α,p m.reverse:=fun m=>by
  induction m with
  | nil=>exact h0
  | cons x m ih=>rw [List.reverse_cons];exact h1 _ _ ih
 have:=this l.reverse
 rwa [List.reverse_reverse] at this
theorem dA (h:SLO lt) (l:List α):(ascL lt l).Pairwise lt/\∀x,x∈ascL lt l↔x∈l:=by
 refine aJ8 (p:=fun l=>(ascL lt l).Pairwise lt/\∀x,x∈ascL lt l↔x∈l) ⟨List.Pairwise.nil,fun x=>by simp [ascL]⟩ (fun l v ih=>?_) l
 rw [oQ]
 refine ⟨vO h v ih.1,fun x=>?_⟩
 rw [sB,ih.2 x,Az,AZ]
 exact Or.comm
theorem bZ4 (h:SLO lt) {l m:List α} (hm:m.Pairwise lt) (hx:∀x,x∈m↔x∈l):m=ascL lt l :=
 zP h hm (dA h l).1 fun x=>(hx x).trans ((dA h l).2 x).symm
theorem mU (h:SLO lt) {l m:List α} (hm:m.Nodup) (hx:∀x,x∈m↔x∈l):m.length=(ascL lt l).length :=
 ((List.perm_ext_iff_of_nodup hm (wI h (dA h l).1)).2 fun x=>(hx x).trans ((dA h l).2 x).symm).length_eq
theorem cH9 (h:SLO lt) {l m:List α} (hm:m.Nodup) (hd:∀x∈m,x∉l):(ascL lt (l++m)).length=(ascL lt l).length+m.length:=by
 rw [<- Aa]
 refine (mU h (List.nodup_append.2 ⟨wI h (dA h l).1,hm,fun a ha b hb e=>?_⟩) fun x=>?_).symm
 ·subst e
  exact hd a hb (((dA h l).2 a).1 ha)
 ·rw [Az,Az,(dA h l).2 x]
end
def ltV (a b:Ver):Prop:=a.t<b.t\/(a.t=b.t/\(a.s<b.s\/(a.s=b.s/\a.c<b.c)))
def ltS (a b:Src):Prop:=a.t<b.t\/(a.t=b.t/\a.s<b.s)
theorem slo_V:SLO ltV where
 irr a:=by unfold ltV;omega
 tr a b c h1 h2:=by unfold ltV at *;omega
 tri a b:=by
  unfold ltV
  by_cases h:a.t=b.t/\a.s=b.s/\a.c=b.c
  ·obtain ⟨ax,ac,av⟩:=a
   obtain ⟨bt,bc,bv'⟩:=b
   simp only at h
   obtain ⟨rfl,rfl,rfl⟩:=h
   exact .inr (.inl rfl)
  ·rcases (show (a.t<b.t\/(a.t=b.t/\(a.s<b.s\/(a.s=b.s/\a.c<b.c))))\/(b.t<a.t\/(b.t=a.t/\(b.s<a.s\/(b.s=a.s/\b.c<a.c)))) by omega) with h|h
   ·exact .inl h
   ·exact .inr (.inr h)
theorem slo_S:SLO ltS where
 irr a:=by unfold ltS;omega
 tr a b c h1 h2:=by unfold ltS at *;omega
 tri a b:=by
  unfold ltS
  by_cases h:a.t=b.t/\a.s=b.s
  ·obtain ⟨ax,av⟩:=a
   obtain ⟨bt,bv'⟩:=b
   simp only at h
   obtain ⟨rfl,rfl⟩:=h
   exact .inr (.inl rfl)
  ·rcases (show (a.t<b.t\/(a.t=b.t/\a.s<b.s))\/(b.t<a.t\/(b.t=a.t/\b.s<a.s)) by omega) with h|h
   ·exact .inl h
   ·exact .inr (.inr h)
theorem bH7:SLO fun a b:Int=>a<b where
 irr a:=by omega
 tr a b c h1 h2:=by omega
 tri a b:=by omega
def gW (l:List LEn):List Ver:=l.flatMap fun e=>if e.k=2 then e.vs else []
def iP (l:List LEn):List Src:=l.flatMap fun e=>if e.k=2 then e.ss else []
def mY (l:List LEn) (k:Int):Nat:=(l.filter fun e=>decide (e.k=k)).length
def jX (l:List LEn) (k p:Int):Prop:=∃x∈l,x.k=k/\x.plan=p
noncomputable def erasV (l:List LEn):List Ver:=ascL ltV (gW l)
noncomputable def erasS (l:List LEn):List Src:=ascL ltS (iP l)
open Classical in
noncomputable def unfi (l:List LEn):List Int:=ascL (fun a b:Int=>a<b) ((l.filter fun e=>decide (e.k=2/\¬jX l 4 e.plan)).map (·.plan))
noncomputable def doneS (l:List LEn) (p:Int):List Int:=ascL (fun a b:Int=>a<b) ((l.filter fun e=>decide (e.k=3/\e.plan=p)).map (·.step))
structure Fol (l:List LEn) (e:LEn):Prop where
 rd:(pEn (cC e)).isSome=true
 day:0<=e.day/\e.day<=1048576/\∀x,l.getLast? = some x->x.day<=e.day
 rq:e.k=1->1<=e.rq.k/\e.rq.k<=3
 er:e.k=2->e.plan=mY l 2/\(e.vs≠[]\/e.ss≠[])/\(erasV l).length+e.vs.length<=512/\(erasS l).length+e.ss.length<=512/\(e.vs.Pairwise ltV/\∀v∈e.vs,v∉gW l)/\e.ss.Pairwise ltS/\∀v∈e.ss,v∉iP l
 st:e.k=3->(jX l 2 e.plan/\¬jX l 4 e.plan)/\(0<=e.step/\e.step<128)/\¬∃x∈l,x.k=3/\x.plan=e.plan/\x.step=e.step
 co:e.k=4->jX l 2 e.plan/\¬jX l 4 e.plan
 sg:e.k=5->e.step=mY l 5/\e.step<4
theorem kI (l:List LEn) (e:LEn):gW (l++[e])=gW l++if e.k=2 then e.vs else []:=by unfold gW;rw [Bb];simp
theorem oP (l:List LEn) (e:LEn):iP (l++[e])=iP l++if e.k=2 then e.ss else []:=by unfold iP;rw [Bb];simp
theorem Fol.more {l:List LEn} {e:LEn} (h:Fol l e):(erasV (l++[e])).length=(erasV l).length+(if e.k=2 then e.vs.length else 0):=by
 unfold erasV
 rw [kI]
 split
 ·rename_i hk
  obtain ⟨_,_,_,_,⟨h1,h2⟩,_⟩:=h.er hk
  exact cH9 slo_V (wI slo_V h1) h2
 ·simp
end
section
theorem lR (u:Nat):0<(mH u).length:=by
 by_cases h:u<128
 ·rw [kP h];simp
 ·rw [mI h];simp
theorem eJ2:∀(u k i x:Nat),k<(mH u).length->pU i x ((mH u).take k)=none:=by
 intro u
 induction u using Nat.strongRecOn with
 | _ u ih =>
  intro k i x hk
  by_cases h:u<128
  ·rw [kP h,BO] at hk
   obtain rfl:k=0:=by omega
   rw [Cb,pU]
  ·rw [mI h] at hk ⊢
   cases k with
   | zero=>rw [Cb,pU]
   | succ k =>
    rw [Ba,pU]
    split
    ·rfl
    ·rename_i h9
     rw [aK3 aA,Ai aA]
     exact ih (u / 128) aA k _ _ (by rw [As] at hk;omega)
theorem cV9 {n:Int} {k:Nat} (h:k<(bA n).length):dM ((bA n).take k)=none:=by
 unfold dM bA at *
 rw [eJ2 _ _ _ _ h]
 rfl
theorem cW1:∀{b:Dr} {i x:Nat} {p:Nat × Dr},pU i x b=some p->p.2.length<b.length
 | [],i,x,p,h=>by rw [pU] at h;cases h
 | c::b,i,x,p,h=>by
  rw [pU] at h
  split at h
  ·cases h
  ·split at h
   ·injection h with h
    rw [<- h,As]
    exact Bm _
   ·have:=cW1 h
    rw [As];omega
theorem cW3:∀(b:Dr) (i x m:Nat),i+m=10->1<=m->pU i x (b.take m)=(pU i x b).map fun p=>(p.1,p.2.take (m-(b.length-p.2.length)))
 | [],i,x,m,_,_=>by rw [List.take_nil,pU];rfl
 | c::b,i,x,0,_,h=>by omega
 | c::b,i,x,m+1,h,_=>by
  rw [Ba,pU,pU]
  by_cases h9:(i=9/\1<c.toNat)\/(0<i/\c.toNat=0)
  ·rw [Ak h9,Ak h9];rfl
  ·rw [Ai h9,Ai h9]
   by_cases hc:c.toNat<128
   ·rw [Ak hc,Ak hc,Bi]
    simp only [As]
    rw [show m+1-(b.length+1-b.length)=m by omega]
   ·rw [Ai hc,Ai hc,cW3 b (i+1) _ m aA aA]
    cases hp:pU (i+1) (x+c.toNat%128*128 ^ i) b with
    | none=>rfl
    | some p =>
     have:=cW1 hp
     rw [Bi,Bi]
     simp only [As]
     rw [show m+1-(b.length+1-p.2.length)=m-(b.length-p.2.length) by omega]
section
variable (kd:Dr->Dr->Dr)
def eA (ch:Dr) (e:LEn):Dr:=bA (cC e).length++(cC e++kd ch (cC e))
def kN (ch b:Dr):Option (LEn × Dr × Nat) :=
 (dM b).bind fun p =>
  if 0<=p.1/\p.1+32<=p.2.length then
   (pEn (p.2.take p.1.toNat)).bind fun e =>
    if e.2=[]/\kd ch (p.2.take p.1.toNat)=(p.2.drop p.1.toNat).take 32 then some (e.1,kd ch (p.2.take p.1.toNat),b.length-p.2.length+p.1.toNat+32) else none
  else none
variable {kd}
theorem aO2 (hkd:∀c b,(kd c b).length=32) {e:LEn} (hw:e.wf) (hr:e.rd) (hl:(cC e).length<=9223372036854775807) (ch r:Dr):kN kd ch (eA kd ch e++r)=some (clE e,kd ch (cC e),(eA kd ch e).length):=by
 have hp:=tG hw hr []
 rw [A1] at hp
 have h32:=hkd ch (cC e)
 unfold kN eA
 rw [Ao,tH aA aA,Am]
 simp only [AX,Ao,C5,CY]
 rw [Ak ⟨by omega,by simp only [Aa];omega⟩,hp,Am]
 have e1:(kd ch (cC e)++r).take 32=kd ch (cC e):=by rw [<- h32,C5]
 simp only [e1,and_self,Bx]
 simp only [Aa]
 congr 3
 omega
theorem dN5 (hkd : ∀ c b, (kd c b).length = 32) {e : LEn} (hl : (cC e).length <= 9223372036854775807) (ch : Dr) {k : Nat} (hk : k < (eA kd ch e).length) : kN kd ch ((eA kd ch e).take k) = none := by
  have h32 := hkd ch (cC e)
  unfold kN
  by_cases hn : k < (bA (cC e).length).length
  · have : (eA kd ch e).take k = (bA (cC e).length).take k := by
      unfold eA
      rw [A8 aA]
    rw [this, cV9 hn]
    rfl
  · have : (eA kd ch e).take k = bA (cC e).length ++ (cC e ++ kd ch (cC e)).take (k - (bA (cC e).length).length) := by
      unfold eA
      rw [Cn, Ae aA]
    rw [this, tH aA aA, Am]
    unfold eA at hk
    simp only [Aa] at hk
    rw [Ai]
    rintro ⟨_, h⟩
    simp only [Ar, Aa] at h
    omega
end
end
section
theorem eE2 (v:Vl):clV (clV v)=clV v:=eE3 (aO0 v)
theorem aF0 (i:Idf):eI (clI i)=eI i:=by unfold eI clI;simp only [eE2]
theorem aT2 (e:LEn):cC (clE e)=cC e:=by
 obtain ⟨k,d,p,s,rq,lk,hd,vs,ss,root⟩:=e
 unfold cC clE cU
 simp only
 congr 4
 by_cases h1:k=1
 ·simp only [h1,Bx,kY,aF0]
 ·by_cases h2:k=2
  ·simp [h2]
  ·by_cases h4:k=4
   ·simp [h4]
   ·by_cases h6:k=6
    ·simp [h6,kX,aF0]
    ·by_cases h7:k=7
     ·simp [h7,kW,aF0]
     ·simp [h1,h2,h4,h6,h7]
theorem aZ1 (e:LEn):(clE e).k=e.k:=rfl
theorem aC1 {e:LEn} (h:e.k=2):(clE e).vs=e.vs/\(clE e).ss=e.ss:=by unfold clE;simp [h]
theorem dF0 (l:List LEn):gW (l.map clE)=gW l:=by
 unfold gW
 rw [Di]
 congr 1
 funext e
 by_cases h:e.k=2
 ·rw [Ak (by rw [aZ1];exact h),Ak h,(aC1 h).1]
 ·rw [Ai (by rw [aZ1];exact h),Ai h]
theorem dE9 (l:List LEn):iP (l.map clE)=iP l:=by
 unfold iP
 rw [Di]
 congr 1
 funext e
 by_cases h:e.k=2
 ·rw [Ak (by rw [aZ1];exact h),Ak h,(aC1 h).2]
 ·rw [Ai (by rw [aZ1];exact h),Ai h]
theorem bR9 (l:List LEn) (k:Int):mY (l.map clE) k=mY l k:=by
 unfold mY
 rw [List.filter_map,Bf]
 rfl
theorem zT (l:List LEn) (k p:Int):jX (l.map clE) k p↔jX l k p:=by
 unfold jX
 constructor
 ·rintro ⟨x,hx,h⟩
  obtain ⟨y,hy,rfl⟩:=B8.1 hx
  exact ⟨y,hy,h⟩
 ·rintro ⟨y,hy,h⟩
  exact ⟨clE y,List.mem_map_of_mem hy,h⟩
theorem dM6 (l:List LEn) (d:Int):(∀x,(l.map clE).getLast? = some x->x.day<=d)↔∀x,l.getLast? = some x->x.day<=d:=by
 rw [List.getLast?_map]
 constructor
 ·intro h x hx
  exact h (clE x) (by rw [hx];rfl)
 ·intro h x hx
  obtain ⟨y,hy,rfl⟩:=Aq.1 hx
  exact h y hy
theorem eD4 {l:List LEn} {e:LEn} (h:Fol l e):Fol (l.map clE) (clE e) where
 rd:=by rw [aT2];exact h.rd
 day:=⟨h.day.1,h.day.2.1,(dM6 l _).2 h.day.2.2⟩
 rq hk:=by
  have:=h.rq hk
  have hk:e.k=1:=hk
  unfold clE
  simp only [hk,Bx]
  exact this
 er hk:=by
  have hk:e.k=2:=hk
  have:=h.er hk
  rw [(aC1 hk).1,(aC1 hk).2]
  unfold erasV erasS
  rw [dF0,dE9,bR9]
  exact this
 st hk:=by
  have:=h.st hk
  rw [zT,zT]
  refine ⟨this.1,this.2.1,fun hx=>this.2.2 ?_⟩
  obtain ⟨x,hx,h1⟩:=hx
  obtain ⟨y,hy,rfl⟩:=B8.1 hx
  exact ⟨y,hy,h1⟩
 co hk:=by
  have:=h.co hk
  rw [zT,zT]
  exact this
 sg hk:=by
  have:=h.sg hk
  rw [bR9]
  exact this
def FolL (l:List LEn):Prop:=∀i e,l[i]? = some e->Fol (l.take i) e
section
variable (kd:Dr->Dr->Dr)
open Classical in
noncomputable def parF:Nat->List LEn->Dr->Dr->List LEn × Nat × Dr
 | 0,l,ch,_=>(l,0,ch)
 | f+1,l,ch,b=>match kN kd ch b with
  | none=>(l,0,ch)
  | some (e,c,n)=>if Fol l e/\l.length<512 then ((parF f (l++[e]) c (b.drop n)).1,n+(parF f (l++[e]) c (b.drop n)).2.1,(parF f (l++[e]) c (b.drop n)).2.2) else (l,0,ch)
def eP:Dr->List LEn->Dr
 | _,[]=>[]
 | ch,e::l=>eA kd ch e++eP (kd ch (cC e)) l
variable {kd}
theorem cC2 (ch:Dr) (l:List LEn) (e:LEn):eP kd ch (l++[e])=eP kd ch l++eA kd (l.foldl (fun c e=>kd c (cC e)) ch) e:=by
 induction l generalizing ch with
 | nil=>simp [eP]
 | cons x l ih=>rw [AE,eP,ih,eP,Ao];rfl
theorem bD7 (ch:Dr):kN kd ch []=none:=rfl
theorem bE4 (hkd : ∀ c b, (kd c b).length = 32) : ∀ (l p : List LEn) (ch : Dr) (f k : Nat), (∀ e ∈ l, e.wf /\ e.rd /\ (cC e).length <= 9223372036854775807) -> (∀ i e, l[i]? = some e -> Fol (p ++ l.take i) e) -> p.length + l.length <= 512 -> l.length < f -> k <= (eP kd ch l).length ->
    ∃ w, w <= l.length /\ (eP kd ch (l.take w)).length <= k /\ (w < l.length -> k < (eP kd ch (l.take (w + 1))).length) /\ parF kd f (p.map clE) ch ((eP kd ch l).take k) = ((p ++ l.take w).map clE, (eP kd ch (l.take w)).length, (l.take w).foldl (fun c e => kd c (cC e)) ch)
  | [], p, ch, 0, k, _, _, _, hf, _ => by omega
  | [], p, ch, f + 1, k, _, _, _, _, _ => by
    refine ⟨0, Ah _, by simp [eP], fun h => absurd h aT, ?_⟩
    rw [eP, List.take_nil, parF, bD7]
    simp [eP]
  | e :: l, p, ch, 0, k, _, _, _, hf, _ => by omega
  | e :: l, p, ch, f + 1, k, hw, hF, hp, hf, hk => by
    obtain ⟨w1, w2, w3⟩ := hw e aT
    have hFe : Fol p e := by have := hF 0 e rfl; simpa using this
    rw [eP] at hk ⊢
    by_cases hlt : k < (eA kd ch e).length
    · refine ⟨0, Al _, by simp [eP], fun _ => by rw [Ba, Cb, eP, eP, A1]; exact hlt, ?_⟩
      rw [A8 aA, parF, dN5 hkd w3 ch hlt]
      simp [eP]
    · have ht : (eA kd ch e ++ eP kd (kd ch (cC e)) l).take k = eA kd ch e ++ (eP kd (kd ch (cC e)) l).take (k - (eA kd ch e).length) := by
        rw [Cn, Ae aA]
      obtain ⟨w, q1, q2, q3, q4⟩ := bE4 hkd l (p ++ [e]) (kd ch (cC e)) f (k - (eA kd ch e).length) (fun x hx => hw x (by simp [hx])) (fun i x hx => by
        have := hF (i + 1) x uB
        rw [Ba] at this
        rw [Ao]
        exact this) (by simp only [Aa, As, Bq] at hp ⊢; omega) (by simp only [As] at hf; omega) (by rw [Aa] at hk; omega)
      refine ⟨w + 1, by simp only [As]; omega, by rw [Ba, eP, Aa]; omega, fun h => ?_, ?_⟩
      · have := q3 (by simp only [As] at h; omega)
        rw [Ba, eP, Aa]
        omega
      · rw [ht, parF, aO2 hkd w1 w2 w3]
        simp only
        rw [Ak ⟨eD4 hFe, by simp only [Bf, As] at hp ⊢; omega⟩, CY]
        have e1 : p.map clE ++ [clE e] = (p ++ [e]).map clE := by simp
        rw [e1, q4]
        simp only [Ba, eP, Aa, CU, Ao, CL]
end
end
structure RS where
 b:Dr
 e:Int
def eU:Nat->Dr->Int
 | _,[]=>100
 | i,c::b=>if (i=9/\1<c.toNat)\/(0<i/\c.toNat=0) then 1 else if c.toNat<128 then 1 else eU (i+1) b
theorem cP9:∀(i:Nat) (b:Dr),eU i b=1\/eU i b=100
 | _,[] => .inr rfl
 | i,c::b=>by
  rw [eU]
  split
  ·exact .inl rfl
  ·split
   ·exact .inl rfl
   ·exact cP9 (i+1) b
theorem eP2 (i:Nat) (b:Dr):eU i b≠0:=by rcases cP9 i b with h|h<;>rw [h]<;>decide
def bX (s:RS):Int × RS:=if s.e≠0 then (0,s) else match dM s.b with
 | some (n,r)=>(n,⟨r,0⟩)
 | none=>(0,⟨s.b,eU 0 s.b⟩)
def rIn (lo hi:Int) (s:RS):Int × RS:=if (bX s).2.e=0/\((bX s).1<lo\/hi<(bX s).1) then (0,⟨(bX s).2.b,1⟩) else bX s
def rBy (n:Nat) (s:RS):Dr × RS:=if s.e≠0 then ([],s) else if s.b.length<n then ([],⟨s.b,100⟩) else (s.b.take n,⟨s.b.drop n,0⟩)
def rTx (m:Int) (s:RS):Dr × RS:=rBy (rIn 0 m s).1.toNat (rIn 0 m s).2
def rVl (f:RS->Int × RS) (s:RS):Vl × RS :=
 if (rIn 0 2 s).1=1 then (⟨1,(f (rIn 0 2 s).2).1,[]⟩,(f (rIn 0 2 s).2).2)
 else if (rIn 0 2 s).1=2 then (⟨2,0,(rTx 32 (rIn 0 2 s).2).1⟩,(rTx 32 (rIn 0 2 s).2).2)
 else (⟨(rIn 0 2 s).1,0,[]⟩,(rIn 0 2 s).2)
def bE8:RS->Int × RS:=rIn (-4294967296) 4294967296
def bE9 (s:RS):Int × RS:=if (bX s).1 < -4294967296\/4294967296<(bX s).1 then ((bX s).1,⟨(bX s).2.b,if (bX s).2.e=0 then 1 else (bX s).2.e⟩) else bX s
def rId (f:RS->Int × RS) (s:RS):Idf × RS:=(⟨(rTx 16 s).1,(rVl f (rTx 16 s).2).1⟩,(rVl f (rTx 16 s).2).2)
def rVr (s:RS):Ver × RS:=(⟨(bX s).1,(bX (bX (bX s).2).2).1,(bX (bX s).2).1⟩,(bX (bX (bX s).2).2).2)
def rSr (s:RS):Src × RS:=(⟨(bX s).1,(bX (bX s).2).1⟩,(bX (bX s).2).2)
def jC {α:Type} (f:RS->α × RS):Nat->RS->Option (List α) × RS
 | 0,s=>(some [],s)
 | n+1,s=>if (f s).2.e≠0 then (none,(f s).2) else ((jC f n (f s).2).1.map ((f s).1 :: ·),(jC f n (f s).2).2)
def jQ {α:Type} (f:RS->α × RS):Nat->RS->List α × RS
 | 0,s=>([],s)
 | n+1,s=>if s.e≠0 then ([],s) else ((f s).1::(jQ f n (f s).2).1,(jQ f n (f s).2).2)
def rLs {α:Type} (f:RS->α × RS) (m:Int) (s:RS):List α × RS:=((jC f (rIn 0 m s).1.toNat (rIn 0 m s).2).1.getD [],(jC f (rIn 0 m s).1.toNat (rIn 0 m s).2).2)
def bM6 {α:Type} (f:RS->α × RS) (m:Int) (s:RS):List α × RS:=jQ f (rIn 0 m s).1.toNat (rIn 0 m s).2
def rLk (f:RS->Int × RS) (s:RS):LLk × RS :=
 let a:=rId f s;let b:=rId f a.2;let n:=bX b.2;let r:=rIn 0 1 n.2
 (⟨a.1,b.1,n.1,decide (r.1=1)⟩,r.2)
def rHd (f:RS->Int × RS) (s:RS):LHd × RS :=
 let t:=bX s;let c:=bX t.2;let w:=rId f c.2;let n:=bX w.2;let x:=bX n.2;let y:=bX x.2
 (⟨t.1,c.1,w.1,n.1,x.1,y.1⟩,y.2)
def rRq (f:RS->Int × RS) (s:RS):LRq × RS :=
 let k:=bX s;let w:=rId f k.2;let n:=bX w.2;let x:=bX n.2;let y:=bX x.2
 (⟨k.1,w.1,n.1,x.1,y.1⟩,y.2)
def rDg (s:RS):Dr × RS:=(if (rBy 32 s).1=[] then root0 else (rBy 32 s).1,(rBy 32 s).2)
def cD5 (s:RS):Int × RS:=if (bX s).1<1\/7<(bX s).1 then ((bX s).1,⟨(bX s).2.b,if (bX s).2.e=0 then 1 else (bX s).2.e⟩) else bX s
structure RP where
 ki:RS->Int × RS
 nu:RS->Int × RS
 vs:RS->List Ver × RS
 ss:RS->List Src × RS
def rpP:RP:=⟨rIn 1 7,bE8,rLs rVr 512,rLs rSr 512⟩
def rpR:RP:=⟨cD5,bE9,bM6 rVr 512,bM6 rSr 512⟩
def nQ (p:RP) (k d pl st:Int) (s:RS):LEn × RS :=
 if k=1 then (⟨k,d,pl,st,(rRq p.nu s).1,lk0,hd0,[],[],root0⟩,(rRq p.nu s).2)
 else if k=2 then (⟨k,d,pl,st,rq0,lk0,hd0,(p.vs s).1,(p.ss (p.vs s).2).1,root0⟩,(p.ss (p.vs s).2).2)
 else if k=4 then (⟨k,d,pl,st,rq0,lk0,hd0,[],[],(rDg s).1⟩,(rDg s).2)
 else if k=6 then (⟨k,d,pl,st,rq0,(rLk p.nu s).1,hd0,[],[],root0⟩,(rLk p.nu s).2)
 else if k=7 then (⟨k,d,pl,st,rq0,lk0,(rHd p.nu s).1,[],[],root0⟩,(rHd p.nu s).2)
 else (⟨k,d,pl,st,rq0,lk0,hd0,[],[],root0⟩,s)
def rEn (p:RP) (s:RS):LEn × RS :=
 let k:=p.ki s;let d:=bX k.2;let pl:=bX d.2;let st:=bX pl.2
 nQ p k.1 d.1 pl.1 st.1 st.2
structure Rd {α:Type} (f:RS->α × RS) (p:Dr->Option (α × Dr)):Prop where
 y:∀b x r,p b=some (x,r)->f ⟨b,0⟩=(x,⟨r,0⟩)
 n:∀b,p b=none->(f ⟨b,0⟩).2.e≠0
 x:∀s,s.e≠0->(f s).2.e≠0
theorem Rd.of {α:Type} {f:RS->α × RS} {p:Dr->Option (α × Dr)} (h:Rd f p) (b:Dr):(∃x r,p b=some (x,r)/\f ⟨b,0⟩=(x,⟨r,0⟩))\/(p b=none/\(f ⟨b,0⟩).2.e≠0):=by
 cases hp:p b with
 | none=>exact .inr ⟨rfl,h.n b hp⟩
 | some q=>obtain ⟨x,r⟩:=q;exact .inl ⟨x,r,rfl,h.y b x r hp⟩
theorem one_ne:(1:Int)≠0:=by decide
theorem eH2:(100:Int)≠0:=by decide
theorem rd_int:Rd bX dM:=by
 refine ⟨fun b x r h=>?_,fun b h=>?_,fun s h=>?_⟩
 ·simp [bX,h]
 ·simp [bX,h,eP2]
 ·simp [bX,h]
theorem sN (lo hi:Int):Rd (rIn lo hi) (pIn lo hi):=by
 refine ⟨fun b x r h=>?_,fun b h=>?_,fun s h=>?_⟩
 ·unfold pIn at h
  rcases rd_int.of b with ⟨n,q,h1,h2⟩|⟨h1,h2⟩
  ·rw [h1,Am] at h
   split at h
   ·rename_i hb
    injection h with h;injection h with e1 e2
    simp only at e1 e2 hb
    subst e1 e2
    rw [rIn,h2,Ai aE1]
   ·cases h
  ·rw [h1] at h;cases h
 ·unfold pIn at h
  rcases rd_int.of b with ⟨n,q,h1,h2⟩|⟨h1,h2⟩
  ·rw [h1,Am] at h
   split at h
   ·cases h
   ·rename_i hb
    simp only at hb
    rw [rIn,h2,Ak (by simp only;exact ⟨trivial,by omega⟩)]
    exact one_ne
  ·rw [rIn,Ai (fun h=>h2 h.1)]
   exact h2
 ·have h2:=rd_int.x s h
  rw [rIn,Ai (fun h=>h2 h.1)]
  exact h2
theorem aH1 (n:Nat):Rd (rBy n) (pBy n):=by
 refine ⟨fun b x r h=>?_,fun b h=>?_,fun s h=>?_⟩
 ·unfold pBy at h
  split at h
  ·injection h with h;injection h with e1 e2
   subst e1 e2
   rw [rBy,Ai aT,Ai aE1]
  ·cases h
 ·unfold pBy at h
  split at h
  ·cases h
  ·rw [rBy,Ai aT,Ak aE1]
   exact eH2
 ·rw [rBy,Ak h];exact h
theorem bW5 (m:Int):Rd (rTx m) (pTx m):=by
 refine ⟨fun b x r h=>?_,fun b h=>?_,fun s h=>?_⟩
 ·unfold pTx at h
  rcases (sN 0 m).of b with ⟨n,q,h1,h2⟩|⟨h1,h2⟩
  ·rw [h1,Am] at h
   rw [rTx,h2]
   exact (aH1 _).y _ _ _ h
  ·rw [h1] at h;cases h
 ·unfold pTx at h
  rcases (sN 0 m).of b with ⟨n,q,h1,h2⟩|⟨h1,h2⟩
  ·rw [h1,Am] at h
   rw [rTx,h2]
   exact (aH1 _).n _ h
  ·exact (aH1 _).x _ h2
 ·exact (aH1 _).x _ ((sN 0 m).x s h)
theorem eJ9:Rd bE8 (pIn (-4294967296) 4294967296):=sN _ _
theorem bW1 (lo hi:Int) (f:RS->Int × RS) (hf:∀s,f s=if (bX s).1<lo\/hi<(bX s).1 then ((bX s).1,⟨(bX s).2.b,if (bX s).2.e=0 then 1 else (bX s).2.e⟩) else bX s):Rd f (pIn lo hi):=by
 have hx:∀s,(bX s).2.e≠0->(f s).2.e≠0:=fun s h=>by
  rw [hf]
  split
  ·first|exact h|(simp only;rw [Ai h];exact h)
  ·exact h
 refine ⟨fun b x r h=>?_,fun b h=>?_,fun s h=>hx s (rd_int.x s h)⟩
 ·unfold pIn at h
  rcases rd_int.of b with ⟨n,q,h1,h2⟩|⟨h1,h2⟩
  ·rw [h1,Am] at h
   split at h
   ·rename_i hb
    injection h with h;injection h with e1 e2
    simp only at e1 e2 hb
    subst e1 e2
    rw [hf,h2,Ai aE1]
   ·cases h
  ·rw [h1] at h;cases h
 ·unfold pIn at h
  rcases rd_int.of b with ⟨n,q,h1,h2⟩|⟨h1,h2⟩
  ·rw [h1,Am] at h
   split at h
   ·cases h
   ·rename_i hb
    simp only at hb
    rw [hf,h2,Ak aE1]
    exact one_ne
  ·exact hx _ h2
theorem eK0:Rd bE9 (pIn (-4294967296) 4294967296):=bW1 _ _ _ fun s=>rfl
theorem eJ8:Rd cD5 (pIn 1 7):=bW1 _ _ _ fun s=>rfl
theorem eW2 {f:RS->Int × RS} (hf:Rd f (pIn (-4294967296) 4294967296)):Rd (rVl f) pVl:=by
 have hx:∀s,(rIn 0 2 s).2.e≠0->(rVl f s).2.e≠0:=fun s h=>by
  unfold rVl
  split
  ·exact hf.x _ h
  ·split
   ·exact (bW5 32).x _ h
   ·exact h
 refine ⟨fun b x r h=>?_,fun b h=>?_,fun s h=>hx s ((sN 0 2).x s h)⟩
 ·unfold pVl at h
  rcases (sN 0 2).of b with ⟨k,q,h1,h2⟩|⟨h1,h2⟩
  ·rw [h1,Am] at h
   unfold rVl
   rw [h2]
   simp only at h ⊢
   by_cases hk1:k=1
   ·rw [Ak hk1] at h ⊢
    obtain ⟨y,hy,he⟩:=Aq.1 h
    rw [hf.y _ _ _ hy]
    injection he with e1 e2
    subst e1 e2
    rfl
   ·rw [Ai hk1] at h ⊢
    by_cases hk2:k=2
    ·rw [Ak hk2] at h ⊢
     obtain ⟨y,hy,he⟩:=Aq.1 h
     rw [(bW5 32).y _ _ _ hy]
     injection he with e1 e2
     subst e1 e2
     rfl
    ·rw [Ai hk2] at h ⊢
     injection h with h;injection h with e1 e2
     subst e1 e2
     have hk0:k=0:=by
      unfold pIn at h1
      cases hp:dM b with
      | none=>rw [hp] at h1;cases h1
      | some q' =>
       rw [hp,Am] at h1
       split at h1
       ·rename_i hb
        injection h1 with h1
        rw [h1] at hb
        simp only at hb
        omega
       ·cases h1
     subst hk0
     rfl
  ·rw [h1] at h;cases h
 ·unfold pVl at h
  rcases (sN 0 2).of b with ⟨k,q,h1,h2⟩|⟨h1,h2⟩
  ·rw [h1,Am] at h
   unfold rVl
   rw [h2]
   simp only at h ⊢
   by_cases hk1:k=1
   ·rw [Ak hk1] at h ⊢
    exact hf.n _ pY
   ·rw [Ai hk1] at h ⊢
    by_cases hk2:k=2
    ·rw [Ak hk2] at h ⊢
     exact (bW5 32).n _ pY
    ·rw [Ai hk2] at h;cases h
  ·exact hx _ h2
section
variable {α β:Type} {f:RS->α × RS} {p:Dr->Option (α × Dr)} (hf:Rd f p)
include α β f p hf
theorem Rd.bind {g:α->RS->β × RS} {q:α->Dr->Option (β × Dr)} (hg:∀a,Rd (g a) (q a)):Rd (fun s=>g (f s).1 (f s).2) (fun b=>(p b).bind fun x=>q x.1 x.2):=by
 refine ⟨fun b x r h=>?_,fun b h=>?_,fun s h=>(hg _).x _ (hf.x s h)⟩
 ·rcases hf.of b with ⟨n,t,h1,h2⟩|⟨h1,h2⟩
  ·simp only [h1,Am] at h
   simp only [h2]
   exact (hg n).y _ _ _ h
  ·simp only [h1] at h;cases h
 ·rcases hf.of b with ⟨n,t,h1,h2⟩|⟨h1,h2⟩
  ·simp only [h1,Am] at h
   simp only [h2]
   exact (hg n).n _ h
  ·exact (hg _).x _ h2
theorem Rd.map (g:α->β):Rd (fun s=>(g (f s).1,(f s).2)) (fun b=>(p b).map fun x=>(g x.1,x.2)):=by
 refine ⟨fun b x r h=>?_,fun b h=>?_,fun s h=>hf.x s h⟩
 ·obtain ⟨y,hy,he⟩:=Aq.1 h
  injection he with e1 e2
  subst e1 e2
  simp only [hf.y _ _ _ hy]
 ·exact hf.n b pY
end
theorem Rd.pure {α:Type} (a:α):Rd (fun s=>(a,s)) (fun b=>some (a,b)):=⟨fun b x r h=>by injection h with h;injection h with e1 e2;subst e1 e2;rfl,fun b h=>dS,fun s h=>h⟩
theorem bW2 {f:RS->Int × RS} (hf:Rd f (pIn (-4294967296) 4294967296)):Rd (rId f) pId:=by
 have hfin:=(bW5 16).bind (β:=Idf) (g:=fun a s=>(⟨a,(rVl f s).1⟩,(rVl f s).2)) (q:=fun a b=>(pVl b).map fun q=>(⟨a,q.1⟩,q.2)) fun a=>(eW2 hf).map (fun v=>(⟨a,v⟩:Idf))
 exact hfin
theorem eC5:Rd rVr pVr:=by
 have hfin:=rd_int.bind (β:=Ver) (g:=fun t s=>(⟨t,(bX (bX s).2).1,(bX s).1⟩,(bX (bX s).2).2)) (q:=fun t b=>(dM b).bind fun q=>(dM q.2).map fun w=>(⟨t,w.1,q.1⟩,w.2)) fun t =>
 rd_int.bind (β:=Ver) (g:=fun x s=>(⟨t,(bX s).1,x⟩,(bX s).2)) (q:=fun x b=>(dM b).map fun w=>(⟨t,w.1,x⟩,w.2)) fun x=>rd_int.map (fun w=>(⟨t,w,x⟩:Ver))
 exact hfin
theorem eC4:Rd rSr pSr:=by
 have hfin:=rd_int.bind (β:=Src) (g:=fun t s=>(⟨t,(bX s).1⟩,(bX s).2)) (q:=fun t b=>(dM b).map fun q=>(⟨t,q.1⟩,q.2)) fun t=>rd_int.map (fun w=>(⟨t,w⟩:Src))
 exact hfin
theorem cX2 {α:Type} {f:RS->α × RS} {p:Dr->Option (α × Dr)} (hf:Rd f p):∀n,Rd (fun s=>((jC f n s).1.getD [],(jC f n s).2)) (uG p n)
 | 0=>⟨fun b x r h=>by injection h with h;injection h with e1 e2;subst e1 e2;rfl,fun b h=>dS,fun s h=>h⟩
 | n+1=>by
  have ih:=cX2 hf n
  refine ⟨fun b x r h=>?_,fun b h=>?_,fun s h=>?_⟩
  ·rw [uG] at h
   rcases hf.of b with ⟨a,t,h1,h2⟩|⟨h1,h2⟩
   ·rw [h1,Am] at h
    obtain ⟨y,hy,he⟩:=Aq.1 h
    injection he with e1 e2
    subst e1 e2
    have hi:=ih.y _ _ _ hy
    simp only [jC,h2,ne_eq,B0,AS]
    injection hi with i1 i2
    have hne:=(jC f n ⟨t,0⟩).1
    cases hr:(jC f n ⟨t,0⟩).1 with
    | none =>
     exfalso
     have:∀(n:Nat) (s:RS),s.e=0->(jC f n s).1=none->(jC f n s).2.e≠0:=by
      intro n
      induction n with
      | zero=>intro s _ h;cases h
      | succ n ihn =>
       intro s hs h
       rw [jC] at h ⊢
       split
       ·rename_i hne;exact hne
       ·rename_i hne
        rw [Ai hne] at h
        simp only [Option.map_eq_none_iff] at h
        exact ihn _ (by simpa using hne) h
     exact this n ⟨t,0⟩ rfl hr (by rw [i2])
    | some l =>
     rw [hr] at i1
     simp only [Df] at i1
     rw [Bi,Df,i1,i2]
   ·rw [h1] at h;cases h
  ·rw [uG] at h
   rcases hf.of b with ⟨a,t,h1,h2⟩|⟨h1,h2⟩
   ·rw [h1,Am] at h
    simp only [jC,h2,ne_eq,B0,AS]
    exact ih.n _ pY
   ·simp only [jC]
    rw [Ak h2]
    exact h2
  ·simp only [jC]
   rw [Ak (hf.x s h)]
   exact hf.x s h
theorem bW4 {α:Type} {f:RS->α × RS} {p:Dr->Option (α × Dr)} (hf:Rd f p):∀n,Rd (jQ f n) (uG p n)
 | 0=>⟨fun b x r h=>by injection h with h;injection h with e1 e2;subst e1 e2;rfl,fun b h=>dS,fun s h=>h⟩
 | n+1=>by
  have ih:=bW4 hf n
  refine ⟨fun b x r h=>?_,fun b h=>?_,fun s h=>?_⟩
  ·rw [uG] at h
   rcases hf.of b with ⟨a,t,h1,h2⟩|⟨h1,h2⟩
   ·rw [h1,Am] at h
    obtain ⟨y,hy,he⟩:=Aq.1 h
    injection he with e1 e2
    subst e1 e2
    simp only [jQ,h2,ne_eq,B0,AS,ih.y _ _ _ hy]
   ·rw [h1] at h;cases h
  ·rw [uG] at h
   rcases hf.of b with ⟨a,t,h1,h2⟩|⟨h1,h2⟩
   ·rw [h1,Am] at h
    simp only [jQ,h2,ne_eq,B0,AS]
    exact ih.n _ pY
   ·simp only [jQ,ne_eq,B0,AS]
    exact ih.x _ h2
  ·simp only [jQ]
   rw [Ak h]
   exact h
section
variable {α:Type} {f:RS->α × RS} {p:Dr->Option (α × Dr)} (hf:Rd f p) (m:Int)
include α f p hf m
theorem eC3:Rd (rLs f m) (pLs p m):=by
 have hfin:=(sN 0 m).bind (g:=fun n s=>((jC f n.toNat s).1.getD [],(jC f n.toNat s).2)) (q:=fun n b=>uG p n.toNat b) fun n=>cX2 hf n.toNat
 exact hfin
theorem cX1:Rd (bM6 f m) (pLs p m):=by
 have hfin:=(sN 0 m).bind (g:=fun n s=>jQ f n.toNat s) (q:=fun n b=>uG p n.toNat b) fun n=>bW4 hf n.toNat
 exact hfin
end
section
variable {f:RS->Int × RS} (hf:Rd f (pIn (-4294967296) 4294967296))
include f hf
theorem eW0:Rd (rLk f) pLk:=by
 have hfin:=(bW2 hf).bind (β:=LLk) (g:=fun a s=>let b:=rId f s;let n:=bX b.2;let r:=rIn 0 1 n.2;(⟨a,b.1,n.1,decide (r.1=1)⟩,r.2)) (q:=fun a b=>(pId b).bind fun q=>(dM q.2).bind fun s=>(pIn 0 1 s.2).map fun t=>(⟨a,q.1,s.1,decide (t.1=1)⟩,t.2)) fun a =>
 (bW2 hf).bind (β:=LLk) (g:=fun b s=>let n:=bX s;let r:=rIn 0 1 n.2;(⟨a,b,n.1,decide (r.1=1)⟩,r.2)) (q:=fun b c=>(dM c).bind fun s=>(pIn 0 1 s.2).map fun t=>(⟨a,b,s.1,decide (t.1=1)⟩,t.2)) fun b =>
 rd_int.bind (β:=LLk) (g:=fun n s=>let r:=rIn 0 1 s;(⟨a,b,n,decide (r.1=1)⟩,r.2)) (q:=fun n c=>(pIn 0 1 c).map fun t=>(⟨a,b,n,decide (t.1=1)⟩,t.2)) fun n=>(sN 0 1).map (fun t=>(⟨a,b,n,decide (t=1)⟩:LLk))
 exact hfin
theorem eV9:Rd (rHd f) pHd:=by
 have hfin:=rd_int.bind (β:=LHd) (g:=fun t s=>let c:=bX s;let w:=rId f c.2;let n:=bX w.2;let x:=bX n.2;let y:=bX x.2;(⟨t,c.1,w.1,n.1,x.1,y.1⟩,y.2)) (q:=fun t b=>(dM b).bind fun c=>(pId c.2).bind fun w=>(dM w.2).bind fun s=>(dM s.2).bind fun f=>(dM f.2).map fun o=>(⟨t,c.1,w.1,s.1,f.1,o.1⟩,o.2)) fun t =>
 rd_int.bind (β:=LHd) (g:=fun c s=>let w:=rId f s;let n:=bX w.2;let x:=bX n.2;let y:=bX x.2;(⟨t,c,w.1,n.1,x.1,y.1⟩,y.2)) (q:=fun c b=>(pId b).bind fun w=>(dM w.2).bind fun s=>(dM s.2).bind fun f=>(dM f.2).map fun o=>(⟨t,c,w.1,s.1,f.1,o.1⟩,o.2)) fun c =>
 (bW2 hf).bind (β:=LHd) (g:=fun w s=>let n:=bX s;let x:=bX n.2;let y:=bX x.2;(⟨t,c,w,n.1,x.1,y.1⟩,y.2)) (q:=fun w b=>(dM b).bind fun s=>(dM s.2).bind fun f=>(dM f.2).map fun o=>(⟨t,c,w,s.1,f.1,o.1⟩,o.2)) fun w =>
 rd_int.bind (β:=LHd) (g:=fun n s=>let x:=bX s;let y:=bX x.2;(⟨t,c,w,n,x.1,y.1⟩,y.2)) (q:=fun n b=>(dM b).bind fun f=>(dM f.2).map fun o=>(⟨t,c,w,n,f.1,o.1⟩,o.2)) fun n =>
 rd_int.bind (β:=LHd) (g:=fun x s=>let y:=bX s;(⟨t,c,w,n,x,y.1⟩,y.2)) (q:=fun x b=>(dM b).map fun o=>(⟨t,c,w,n,x,o.1⟩,o.2)) fun x=>rd_int.map (fun y=>(⟨t,c,w,n,x,y⟩:LHd))
 exact hfin
theorem eW1:Rd (rRq f) pRq:=by
 have hfin:=rd_int.bind (β:=LRq) (g:=fun k s=>let w:=rId f s;let n:=bX w.2;let x:=bX n.2;let y:=bX x.2;(⟨k,w.1,n.1,x.1,y.1⟩,y.2)) (q:=fun k b=>(pId b).bind fun w=>(dM w.2).bind fun s=>(dM s.2).bind fun d=>(dM d.2).map fun o=>(⟨k,w.1,s.1,d.1,o.1⟩,o.2)) fun k =>
 (bW2 hf).bind (β:=LRq) (g:=fun w s=>let n:=bX s;let x:=bX n.2;let y:=bX x.2;(⟨k,w,n.1,x.1,y.1⟩,y.2)) (q:=fun w b=>(dM b).bind fun s=>(dM s.2).bind fun d=>(dM d.2).map fun o=>(⟨k,w,s.1,d.1,o.1⟩,o.2)) fun w =>
 rd_int.bind (β:=LRq) (g:=fun n s=>let x:=bX s;let y:=bX x.2;(⟨k,w,n,x.1,y.1⟩,y.2)) (q:=fun n b=>(dM b).bind fun d=>(dM d.2).map fun o=>(⟨k,w,n,d.1,o.1⟩,o.2)) fun n =>
 rd_int.bind (β:=LRq) (g:=fun x s=>let y:=bX s;(⟨k,w,n,x,y.1⟩,y.2)) (q:=fun x b=>(dM b).map fun o=>(⟨k,w,n,x,o.1⟩,o.2)) fun x=>rd_int.map (fun y=>(⟨k,w,n,x,y⟩:LRq))
 exact hfin
end
theorem rd_dg:Rd rDg (pBy 32):=by
 refine ⟨fun b x r h=>?_,fun b h=>(aH1 32).n b h,fun s h=>(aH1 32).x s h⟩
 have h1:=(aH1 32).y _ _ _ h
 unfold pBy at h
 split at h
 ·rename_i hl
  injection h with h;injection h with e1 e2
  have hx:x≠[]:=fun e=>by
   have:=congrArg List.length e1
   rw [e,Ar] at this
   simp only [Bq] at this
   omega
  unfold rDg
  rw [h1]
  simp only
  rw [Ai hx]
 ·cases h
theorem dO8 {p:RP} (h1:Rd p.nu (pIn (-4294967296) 4294967296)) (h2:Rd p.vs (pLs pVr 512)) (h3:Rd p.ss (pLs pSr 512)) (k d pl st:Int):Rd (nQ p k d pl st) (mD k d pl st):=by
 have e:nQ p k d pl st=fun s=>nQ p k d pl st s:=rfl
 have e':mD k d pl st=fun b=>mD k d pl st b:=rfl
 rw [e,e']
 unfold nQ mD
 by_cases k1:k=1
 ·simp only [Ak k1]
  exact (eW1 h1).map (fun x=>(⟨k,d,pl,st,x,lk0,hd0,[],[],root0⟩:LEn))
 ·simp only [Ai k1]
  by_cases k2:k=2
  ·simp only [Ak k2]
   have hfin:=h2.bind (β:=LEn) (g:=fun v s=>(⟨k,d,pl,st,rq0,lk0,hd0,v,(p.ss s).1,root0⟩,(p.ss s).2)) (q:=fun v b=>(pLs pSr 512 b).map fun x=>(⟨k,d,pl,st,rq0,lk0,hd0,v,x.1,root0⟩,x.2)) fun v=>h3.map (fun x=>(⟨k,d,pl,st,rq0,lk0,hd0,v,x,root0⟩:LEn))
   exact hfin
  ·simp only [Ai k2]
   by_cases k4:k=4
   ·simp only [Ak k4]
    exact rd_dg.map (fun x=>(⟨k,d,pl,st,rq0,lk0,hd0,[],[],x⟩:LEn))
   ·simp only [Ai k4]
    by_cases k6:k=6
    ·simp only [Ak k6]
     exact (eW0 h1).map (fun x=>(⟨k,d,pl,st,rq0,x,hd0,[],[],root0⟩:LEn))
    ·simp only [Ai k6]
     by_cases k7:k=7
     ·simp only [Ak k7]
      exact (eV9 h1).map (fun x=>(⟨k,d,pl,st,rq0,lk0,x,[],[],root0⟩:LEn))
     ·simp only [Ai k7]
      exact Rd.pure _
theorem eC2 {p:RP} (h0:Rd p.ki (pIn 1 7)) (h1:Rd p.nu (pIn (-4294967296) 4294967296)) (h2:Rd p.vs (pLs pVr 512)) (h3:Rd p.ss (pLs pSr 512)):Rd (rEn p) pEn:=by
 have hfin:=h0.bind (β:=LEn) (g:=fun k s=>let d:=bX s;let pl:=bX d.2;let st:=bX pl.2;nQ p k d.1 pl.1 st.1 st.2) (q:=fun k b=>(dM b).bind fun d=>(dM d.2).bind fun p=>(dM p.2).bind fun s=>mD k d.1 p.1 s.1 s.2) fun k =>
 rd_int.bind (β:=LEn) (g:=fun d s=>let pl:=bX s;let st:=bX pl.2;nQ p k d pl.1 st.1 st.2) (q:=fun d b=>(dM b).bind fun p=>(dM p.2).bind fun s=>mD k d p.1 s.1 s.2) fun d =>
 rd_int.bind (β:=LEn) (g:=fun pl s=>let st:=bX s;nQ p k d pl st.1 st.2) (q:=fun pl b=>(dM b).bind fun s=>mD k d pl s.1 s.2) fun pl =>
 rd_int.bind (β:=LEn) (g:=fun st s=>nQ p k d pl st s) (q:=fun st b=>mD k d pl st b) fun st=>dO8 h1 h2 h3 k d pl st
 exact hfin
theorem rd_enP:Rd (rEn rpP) pEn:=eC2 (sN 1 7) eJ9 (eC3 eC5 512) (eC3 eC4 512)
theorem rd_enR:Rd (rEn rpR) pEn:=eC2 eJ8 eK0 (cX1 eC5 512) (cX1 eC4 512)
end Go.Proofs.YtbgehdndimlgkaaGreat
