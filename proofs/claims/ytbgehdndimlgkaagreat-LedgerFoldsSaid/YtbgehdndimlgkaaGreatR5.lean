/- Lemmas for laws of the ledger. -/
import Derived.Test.YtbgehdndimlgkaaGreatR4
set_option linter.all false
namespace Go.Proofs.YtbgehdndimlgkaaGreat
open Go Go.RowKit Go.Av
section
abbrev iv (n:Int):CV := .v (.int .i64 n)
abbrev bv (b:Bool):CV := .v (.bool b)
abbrev uv (x:BitVec 64):CV := .v (.int .u64 (x.toNat:Int))
abbrev sv (l:Db):CV := .v (.string ⟨l.toArray⟩)
theorem bsz (bs:ByteArray):bs.data.toList.length=bs.size:=by rw [A6];rfl
theorem cT8 (bs:ByteArray):∀(n i:Nat) (r:Db),bs.size-i=n->ByteArray.toList.loop bs i r=r.reverse++bs.data.toList.drop i:=by
 intro n
 induction n with
 | zero =>
  intro i r h
  rw [ByteArray.toList.loop,Ak aA]
  have:=bsz bs
  rw [List.drop_eq_nil_of_le aA,Ay]
 | succ n ih =>
  intro i r h
  rw [ByteArray.toList.loop,Al aA,ih (i+1) _ aA]
  have hl:i<bs.data.toList.length:=by have:=bsz bs;omega
  rw [Bp hl]
  have:bs.get! i=bs.data.toList[i]:=by
   have h2:i<bs.data.size:=by simpa using hl
   rw [ByteArray.get!,BB bs.data i h2,Ck]
  rw [this]
  simp
theorem aS7 (l:Db):(⟨l.toArray⟩:ByteArray).toList=l:=by
 rw [ByteArray.toList,cT8 _ _ 0 [] rfl]
 simp
section
variable {P:Dl} {tab:Tab} {ev:Evl} {h:aO} {d:Di} {T ty:Dj} {x y z:Operand} {pos:String} {aft:Dh} {gd:Dc}
theorem dO4 {T':Dj} {s t:Db} {b:Bool} (hx:ev x=some (.c (sv s))) (hy:ev y=some (.c (sv t))) (hr:decide (s=t)=b):Still P ⟨d,.binOp .eql T x y T',ty,pos,aft,gd⟩ ev h (.c (.v (.bool b))) :=
 aJ5 hx hy (by rw [aS7,aS7];exact hr)
end
theorem bA2 (l:Db):(⟨l.toArray⟩:ByteArray).size=l.length:=by simp [ByteArray.size]
end
structure Vl where
 k:Int
 n:Int
 t:Db
deriving DecidableEq
def Vl.nul:Vl:=⟨0,0,[]⟩
def Vl.c (v:Vl):Dr:=[iv v.k,iv v.n,sv v.t]
def okP (v:Vl):Prop:=(v.k=0/\v.n=0/\v.t=[])\/(v.k=1 /\ -4294967296<=v.n/\v.n<=4294967296/\v.t=[])\/(v.k=2/\v.n=0/\v.t.length<=32)
instance (v:Vl):Decidable (okP v):=by unfold okP;infer_instance
def okV (v:Vl):Bool:=decide (okP v)
def clV (v:Vl):Vl:=if okV v then v else Vl.nul
theorem dN2:okP Vl.nul := .inl ⟨rfl,rfl,rfl⟩
theorem cE2 (v:Vl):okP (clV v):=by
 unfold clV
 split
 ·rename_i h;exact CK h
 ·exact dN2
def cD2 (n:Nat):UInt8:=UInt8.ofNat n
def esc (b:UInt8):Db:=if b=0 then [0,255] else [b]
def eB2 (m:Nat):Db:=[2,cD2 (m / 2 ^ 32),cD2 (m / 2 ^ 24),cD2 (m / 2 ^ 16),cD2 (m / 2 ^ 8),cD2 m]
def eB4 (v:Vl):Db:=if v.k=1 then eB2 (v.n+4294967296).toNat else if v.k=2 then 3::v.t.flatMap esc++[0,0] else [1]
def eB3 (r:List Vl):Db:=r.flatMap fun v=>eB4 (clV v)
def dG6 (h:BitVec 64) (b:UInt8):BitVec 64:=(h ^^^ BitVec.ofNat 64 b.toNat)*1099511628211#64
def dT8 (l:Db):BitVec 64:=l.foldl dG6 14695981039346656037#64
def eF2 (v:Vl) (row:UInt8):BitVec 64:=dG6 (dT8 (eB3 [v])) row
def rc (r:List Vl):Dr:=r.flatMap Vl.c
def wide (v:Vl):Prop:=(-9223372036854775808<=v.k/\v.k<=9223372036854775807)/\(-9223372036854775808<=v.n/\v.n<=9223372036854775807)/\v.t.length<=maxLen
end Go.Proofs.YtbgehdndimlgkaaGreat
namespace Go.Proofs.YtbgehdndimlgkaaGreat
open Go Go.RowKit Go.Av
set_option maxRecDepth 100000
def sA (u:Nat):Db:=if h:u<128 then [UInt8.ofNat u] else UInt8.ofNat (u%128+128)::sA (u / 128)
termination_by u
decreasing_by omega
theorem pQ {u:Nat} (h:u<128):sA u=[UInt8.ofNat u]:=by rw [sA,dif_pos h]
theorem sB {u:Nat} (h:¬u<128):sA u=UInt8.ofNat (u%128+128)::sA (u / 128):=by rw [sA,dif_neg h]
def zz (n:Int):Nat:=if n<0 then (-2*n-1).toNat else (2*n).toNat
def uz (u:Nat):Int:=if u%2=1 then -((u / 2:Nat):Int)-1 else (u / 2:Nat)
theorem dY4 (n:Int):uz (zz n)=n:=by
 unfold uz zz
 split<;>split<;>omega
theorem bI8 {n:Int} (h1 : -9223372036854775808<=n) (h2:n<=9223372036854775807):zz n<18446744073709551616:=by
 unfold zz
 split<;>omega
def cC (n:Int):Db:=sA (zz n)
def pU:Nat->Nat->Db->Option (Nat × Db)
 | _,_,[]=>none
 | i,x,c::b=>if (i=9/\1<c.toNat)\/(0<i/\c.toNat=0) then none else if c.toNat<128 then some (x+c.toNat*128 ^ i,b) else pU (i+1) (x+c.toNat%128*128 ^ i) b
def cX (b:Db):Option (Int × Db):=(pU 0 0 b).map fun p=>(uz p.1,p.2)
theorem aS8 {n:Nat} (h:n<256):(UInt8.ofNat n).toNat=n:=by
 rw [Cs]
 exact BM h
theorem cV0 : ∀ (u i x : Nat) (r : Db), i <= 9 -> (i = 0 \/ u ≠ 0) -> u * 128 ^ i < 18446744073709551616 -> pU i x (sA u ++ r) = some (x + u * 128 ^ i, r) := by
  intro u
  induction u using Nat.strongRecOn with
  | _ u ih =>
    intro i x r hi h0 hb
    by_cases h : u < 128
    · rw [pQ h, List.singleton_append, pU, aS8 aA]
      have h9 : ¬ ((i = 9 /\ 1 < u) \/ (0 < i /\ u = 0)) := by
        rintro (⟨e, h1⟩ | ⟨h1, h2⟩)
        · subst e
          have : 2 * 128 ^ 9 <= u * 128 ^ 9 := Bc _ h1
          have e2 : (2 * 128 ^ 9 : Nat) = 18446744073709551616 := by decide
          omega
        · omega
      rw [Ak h9, Al h]
    · have hi9 : i ≠ 9 := fun e => by
        subst e
        have : 128 * 128 ^ 9 <= u * 128 ^ 9 := Bc _ aA
        have e2 : 18446744073709551616 <= (128 * 128 ^ 9 : Nat) := by decide
        omega
      rw [sB h, AL, pU, aS8 aA]
      have h9 : ¬ ((i = 9 /\ 1 < u % 128 + 128) \/ (0 < i /\ u % 128 + 128 = 0)) := by
        rintro (⟨e, _⟩ | ⟨_, h2⟩)
        · exact hi9 e
        · omega
      have hm : (u % 128 + 128) % 128 = u % 128 := by omega
      have hs : u % 128 * 128 ^ i + u / 128 * 128 ^ (i + 1) = u * 128 ^ i := by
        rw [CB, Nat.mul_comm (128 ^ i) 128, <- Nat.mul_assoc, <- AJ]
        congr 1
        omega
      rw [Ak h9, Ak aA, hm, ih (u / 128) aA (i + 1) _ r aA (.inr aA) aA, BZ, hs]
theorem uA {n:Int} (h1 : -9223372036854775808<=n) (h2:n<=9223372036854775807) (r:Db):cX (cC n++r)=some (n,r):=by
 unfold cX cC
 rw [cV0 (zz n) 0 0 r aA (.inl rfl) (by rw [Nat.pow_zero,A5];exact bI8 h1 h2)]
 simp [dY4]
def pIn (lo hi:Int) (b:Db):Option (Int × Db):=(cX b).bind fun p=>if lo<=p.1/\p.1<=hi then some p else none
def pBy (n:Nat) (b:Db):Option (Db × Db):=if n<=b.length then some (b.take n,b.drop n) else none
def pTx (m:Int) (b:Db):Option (Db × Db):=(pIn 0 m b).bind fun p=>pBy p.1.toNat p.2
theorem jM {n lo hi:Int} (h1:lo<=n) (h2:n<=hi) (h3 : -9223372036854775808<=n) (h4:n<=9223372036854775807) (r:Db):pIn lo hi (cC n++r)=some (n,r):=by
 unfold pIn
 rw [uA h3 h4,Ap,Al ⟨h1,h2⟩]
def rZ (s:Db):Db:=cC s.length++s
theorem aP5 {s:Db} {m:Int} (h:(s.length:Int)<=m) (hm:m<=9223372036854775807) (r:Db):pTx m (rZ s++r)=some (s,r):=by
 unfold pTx rZ
 rw [Ar,jM aA h aA aA,Ap]
 unfold pBy
 simp only [Bn]
 rw [Al bW4,Cl,List.drop_left]
def qF (v:Vl):Db:=cC v.k++(if v.k=1 then cC v.n else if v.k=2 then rZ v.t else [])
def pVl (b:Db):Option (Vl × Db):=(pIn 0 2 b).bind fun p =>
 if p.1=1 then (pIn (-4294967296) 4294967296 p.2).map fun q=>(⟨1,q.1,[]⟩,q.2)
 else if p.1=2 then (pTx 32 p.2).map fun q=>(⟨2,0,q.1⟩,q.2) else some (⟨0,0,[]⟩,p.2)
theorem cF4 {v:Vl} (h:(v.k=0/\v.n=0/\v.t=[])\/(v.k=1 /\ -4294967296<=v.n/\v.n<=4294967296/\v.t=[])\/(v.k=2/\v.n=0/\v.t.length<=32)) (r:Db):pVl (qF v++r)=some (v,r):=by
 obtain ⟨k,n,t⟩:=v
 unfold pVl qF
 rcases h with ⟨h1,h2,h3⟩|⟨h1,h2,h3,h4⟩|⟨h1,h2,h3⟩<;>simp only at h1 h2 h3<;>subst h1
 ·subst h2 h3
  simp only [Ay,Ak (show ¬(0:Int)=1 by decide),Ak (show ¬(0:Int)=2 by decide)]
  rw [jM aP aP aP aP,Ap]
  simp
 ·simp only at h4
  subst h4
  simp only [BX,Ar]
  rw [jM aP aP aP aP,Ap]
  simp only [BX]
  rw [jM h2 h3 aA aA]
  rfl
 ·subst h2
  simp only [Ak (show ¬(2:Int)=1 by decide),BX,Ar]
  rw [jM aP aP aP aP,Ap]
  simp only [Ak (show ¬(2:Int)=1 by decide),BX]
  rw [aP5 aA aP]
  rfl
def aS (n:Int):Prop := -9223372036854775808<=n/\n<=9223372036854775807
theorem dY {n:Int} (h:aS n) (r:Db):cX (cC n++r)=some (n,r):=uA h.1 h.2 r
structure Idf where
 ns:Db
 v:Vl
def kC (i:Idf):Db:=rZ i.ns++qF (clV i.v)
def pId (b:Db):Option (Idf × Db):=(pTx 16 b).bind fun p=>(pVl p.2).map fun q=>(⟨p.1,q.1⟩,q.2)
theorem wJ {i:Idf} (h:i.ns.length<=16) (r:Db):pId (kC i++r)=some (⟨i.ns,clV i.v⟩,r):=by
 unfold pId kC
 rw [Ar,aP5 aA aP,Ap,cF4 (cE2 i.v)]
 rfl
structure Ver where
 t:Int
 c:Int
 s:Int
deriving DecidableEq
def gX (v:Ver):Db:=cC v.t++cC v.s++cC v.c
def pVr (b:Db):Option (Ver × Db):=(cX b).bind fun p=>(cX p.2).bind fun q=>(cX q.2).map fun w=>(⟨p.1,w.1,q.1⟩,w.2)
theorem cV1 {v:Ver} (h1:aS v.t) (h2:aS v.c) (h3:aS v.s) (r:Db):pVr (gX v++r)=some (v,r):=by
 unfold pVr gX
 rw [Ar,Ar,dY h1,Ap,dY h3,Ap,dY h2]
 rfl
structure Src where
 t:Int
 s:Int
deriving DecidableEq
def iC (v:Src):Db:=cC v.t++cC v.s
def pSr (b:Db):Option (Src × Db):=(cX b).bind fun p=>(cX p.2).map fun q=>(⟨p.1,q.1⟩,q.2)
theorem cU9 {v:Src} (h1:aS v.t) (h2:aS v.s) (r:Db):pSr (iC v++r)=some (v,r):=by
 unfold pSr iC
 rw [Ar,dY h1,Ap,dY h2]
 rfl
def yS {α:Type} (p:Db->Option (α × Db)):Nat->Db->Option (List α × Db)
 | 0,b=>some ([],b)
 | n+1,b=>(p b).bind fun x=>(yS p n x.2).map fun y=>(x.1::y.1,y.2)
theorem aP4 {α:Type} {p:Db->Option (α × Db)} {e:α->Db}:∀(l:List α) (r:Db),(∀x∈l,∀r,p (e x++r)=some (x,r))->yS p l.length (l.flatMap e++r)=some (l,r)
 | [],r,_=>rfl
 | x::l,r,h=>by
  rw [At,yS,A1,Ar,h x aR,Ap,aP4 l r fun y hy=>h y (by simp [hy])]
  rfl
def kD {α:Type} (e:α->Db) (l:List α):Db:=cC l.length++l.flatMap e
def pLs {α:Type} (p:Db->Option (α × Db)) (m:Int) (b:Db):Option (List α × Db):=(pIn 0 m b).bind fun q=>yS p q.1.toNat q.2
theorem bG4 {α:Type} {p:Db->Option (α × Db)} {e:α->Db} {l:List α} {m:Int} (h:∀x∈l,∀r,p (e x++r)=some (x,r)) (hl:(l.length:Int)<=m) (hm:m<=9223372036854775807) (r:Db):pLs p m (kD e l++r)=some (l,r):=by
 unfold pLs kD
 rw [Ar,jM aA hl aA aA,Ap]
 simp only [Bn]
 exact aP4 l r h
structure LLk where
 a:Idf
 b:Idf
 s:Int
 rv:Bool
def rX (l:LLk):Db:=kC l.a++(kC l.b++(cC l.s++cC (if l.rv then 1 else 0)))
def pLk (b:Db):Option (LLk × Db):=(pId b).bind fun p=>(pId p.2).bind fun q=>(cX q.2).bind fun s=>(pIn 0 1 s.2).map fun t=>(⟨p.1,q.1,s.1,decide (t.1=1)⟩,t.2)
def clI (i:Idf):Idf:=⟨i.ns,clV i.v⟩
theorem cU7 {l:LLk} (h1:l.a.ns.length<=16) (h2:l.b.ns.length<=16) (h3:aS l.s) (r:Db):pLk (rX l++r)=some (⟨clI l.a,clI l.b,l.s,l.rv⟩,r):=by
 obtain ⟨a,b,s,rv⟩:=l
 unfold pLk rX
 simp only [Ar]
 rw [wJ h1,Ap]
 simp only
 rw [wJ h2,Ap]
 simp only
 rw [dY h3,Ap]
 simp only
 cases rv
 ·rw [Ak aP,jM aP aP aP aP];rfl
 ·rw [Al rfl,jM aP aP aP aP];rfl
structure LHd where
 t:Int
 c:Int
 who:Idf
 s:Int
 fr:Int
 to:Int
def rW (h:LHd):Db:=cC h.t++(cC h.c++(kC h.who++(cC h.s++(cC h.fr++cC h.to))))
def pHd (b:Db):Option (LHd × Db):=(cX b).bind fun t=>(cX t.2).bind fun c=>(pId c.2).bind fun w=>(cX w.2).bind fun s=>(cX s.2).bind fun f=>(cX f.2).map fun o=>(⟨t.1,c.1,w.1,s.1,f.1,o.1⟩,o.2)
theorem cU6 {h:LHd} (h1:aS h.t) (h2:aS h.c) (h3:h.who.ns.length<=16) (h4:aS h.s) (h5:aS h.fr) (h6:aS h.to) (r:Db):pHd (rW h++r)=some (⟨h.t,h.c,clI h.who,h.s,h.fr,h.to⟩,r):=by
 unfold pHd rW
 simp only [Ar]
 rw [dY h1,Ap];simp only
 rw [dY h2,Ap];simp only
 rw [wJ h3,Ap];simp only
 rw [dY h4,Ap];simp only
 rw [dY h5,Ap];simp only
 rw [dY h6];rfl
structure LRq where
 k:Int
 who:Idf
 s:Int
 d:Int
 dl:Int
def rY (q:LRq):Db:=cC q.k++(kC q.who++(cC q.s++(cC q.d++cC q.dl)))
def pRq (b:Db):Option (LRq × Db):=(cX b).bind fun k=>(pId k.2).bind fun w=>(cX w.2).bind fun s=>(cX s.2).bind fun d=>(cX d.2).map fun o=>(⟨k.1,w.1,s.1,d.1,o.1⟩,o.2)
theorem cU8 {q:LRq} (h1:aS q.k) (h3:q.who.ns.length<=16) (h4:aS q.s) (h5:aS q.d) (h6:aS q.dl) (r:Db):pRq (rY q++r)=some (⟨q.k,clI q.who,q.s,q.d,q.dl⟩,r):=by
 unfold pRq rY
 simp only [Ar]
 rw [dY h1,Ap];simp only
 rw [wJ h3,Ap];simp only
 rw [dY h4,Ap];simp only
 rw [dY h5,Ap];simp only
 rw [dY h6];rfl
structure LEn where
 k:Int
 day:Int
 plan:Int
 step:Int
 rq:LRq
 lk:LLk
 hd:LHd
 vs:List Ver
 ss:List Src
 root:Db
def nB:Idf:=⟨[],Vl.nul⟩
def rq0:LRq:=⟨0,nB,0,0,0⟩
def lk0:LLk:=⟨nB,nB,0,false⟩
def hd0:LHd:=⟨0,0,nB,0,0,0⟩
def root0:Db:=List.replicate 32 0
def fI (e:LEn):Db :=
 if e.k=1 then rY e.rq else if e.k=2 then kD gX e.vs++kD iC e.ss else if e.k=4 then e.root else if e.k=6 then rX e.lk else if e.k=7 then rW e.hd else []
def eA (e:LEn):Db:=cC e.k++(cC e.day++(cC e.plan++(cC e.step++fI e)))
def pF (k d p s:Int) (b:Db):Option (LEn × Db) :=
 if k=1 then (pRq b).map fun x=>(⟨k,d,p,s,x.1,lk0,hd0,[],[],root0⟩,x.2)
 else if k=2 then (pLs pVr 512 b).bind fun v=>(pLs pSr 512 v.2).map fun x=>(⟨k,d,p,s,rq0,lk0,hd0,v.1,x.1,root0⟩,x.2)
 else if k=4 then (pBy 32 b).map fun x=>(⟨k,d,p,s,rq0,lk0,hd0,[],[],x.1⟩,x.2)
 else if k=6 then (pLk b).map fun x=>(⟨k,d,p,s,rq0,x.1,hd0,[],[],root0⟩,x.2)
 else if k=7 then (pHd b).map fun x=>(⟨k,d,p,s,rq0,lk0,x.1,[],[],root0⟩,x.2)
 else some (⟨k,d,p,s,rq0,lk0,hd0,[],[],root0⟩,b)
def pEn (b:Db):Option (LEn × Db):=(pIn 1 7 b).bind fun k=>(cX k.2).bind fun d=>(cX d.2).bind fun p=>(cX p.2).bind fun s=>pF k.1 d.1 p.1 s.1 s.2
def clE (e:LEn):LEn :=
 ⟨e.k,e.day,e.plan,e.step,if e.k=1 then ⟨e.rq.k,clI e.rq.who,e.rq.s,e.rq.d,e.rq.dl⟩ else rq0,if e.k=6 then ⟨clI e.lk.a,clI e.lk.b,e.lk.s,e.lk.rv⟩ else lk0,if e.k=7 then ⟨e.hd.t,e.hd.c,clI e.hd.who,e.hd.s,e.hd.fr,e.hd.to⟩ else hd0,if e.k=2 then e.vs else [],if e.k=2 then e.ss else [],if e.k=4 then e.root else root0⟩
structure LEn.wf (e:LEn):Prop where
 h1:aS e.day/\aS e.plan/\aS e.step
 rq:aS e.rq.k/\aS e.rq.s/\aS e.rq.d/\aS e.rq.dl
 lk:aS e.lk.s
 hd:aS e.hd.t/\aS e.hd.c/\aS e.hd.s/\aS e.hd.fr/\aS e.hd.to
 vs:∀v∈e.vs,aS v.t/\aS v.c/\aS v.s
 ss:∀v∈e.ss,aS v.t/\aS v.s
 root:e.root.length=32
structure LEn.rd (e:LEn):Prop where
 k:1<=e.k/\e.k<=7
 rq:e.k=1->e.rq.who.ns.length<=16
 er:e.k=2->e.vs.length<=512/\e.ss.length<=512
 lk:e.k=6->e.lk.a.ns.length<=16/\e.lk.b.ns.length<=16
 hd:e.k=7->e.hd.who.ns.length<=16
theorem bG3 {e : LEn} (hw : e.wf) (hr : e.rd) (r : Db) : pEn (eA e ++ r) = some (clE e, r) := by
  obtain ⟨a1, a2, a3⟩ := hw.h1
  obtain ⟨b1, b2, b3, b4⟩ := hw.rq
  have c1 := hw.lk
  obtain ⟨d1, d2, d3, d4, d5⟩ := hw.hd
  have e1 := hw.vs
  have e2 := hw.ss
  have f1 := hw.root
  obtain ⟨k1, k2⟩ := hr.k
  have g1 := hr.rq
  have g2 := hr.er
  have g3 := hr.lk
  have g4 := hr.hd
  clear hw hr
  obtain ⟨k, d, p, s, rq, lk, hd, vs, ss, root⟩ := e
  simp only at *
  unfold pEn eA fI clE
  simp only [Ar]
  rw [jM k1 k2 aA aA, Ap]; simp only
  rw [dY a1, Ap]; simp only
  rw [dY a2, Ap]; simp only
  rw [dY a3, Ap]; simp only
  unfold pF
  rcases (show k = 1 \/ k = 2 \/ k = 3 \/ k = 4 \/ k = 5 \/ k = 6 \/ k = 7 by omega) with h | h | h | h | h | h | h <;> subst h
  · simp [cU8 b1 (g1 rfl) b2 b3 b4]
  · have hv := bG4 (p := pVr) (e := gX) (l := vs) (m := 512) (fun x hx r => cV1 (e1 x hx).1 (e1 x hx).2.1 (e1 x hx).2.2 r) (by have := (g2 rfl).1; omega) aP (kD iC ss ++ r)
    have hs := bG4 (p := pSr) (e := iC) (l := ss) (m := 512) (fun x hx r => cU9 (e2 x hx).1 (e2 x hx).2 r) (by have := (g2 rfl).2; omega) aP r
    simp [Ar, hv, hs]
  · simp
  · have hb : pBy 32 (root ++ r) = some (root, r) := by
      unfold pBy
      rw [Al bW4, <- f1, Cl, List.drop_left]
    simp [hb]
  · simp
  · simp [cU7 (g3 rfl).1 (g3 rfl).2 c1]
  · simp [cU6 d1 d2 (g4 rfl) d3 d4 d5]
section
structure SLO {α:Type} (lt:α->α->Prop):Prop where
 irr:∀a,¬lt a a
 tr:∀a b c,lt a b->lt b c->lt a c
 tri:∀a b,lt a b\/a=b\/lt b a
section
variable {α:Type} {lt:α->α->Prop}
theorem vR (h:SLO lt):∀{l m:List α},l.Pairwise lt->m.Pairwise lt->(∀x,x∈l↔x∈m)->l=m
 | [],[],_,_,_=>rfl
 | [],y::m,_,_,hm=>by have:=(hm y).2 aR;cases this
 | x::l,[],_,_,hm=>by have:=(hm x).1 aR;cases this
 | x::l,y::m,hl,hm',hm=>by
  obtain ⟨l1,l2⟩:=Bk.1 hl
  obtain ⟨m1,m2⟩:=Bk.1 hm'
  have e:x=y:=by
   rcases A3.1 ((hm x).1 aR) with e|hx
   ·exact e
   ·rcases A3.1 ((hm y).2 aR) with e|hy
    ·exact e.symm
    ·exact absurd (h.tr _ _ _ (l1 y hy) (m1 x hx)) (h.irr x)
  subst e
  rw [vR h l2 m2 fun z=>?_]
  constructor
  ·intro hz
   rcases A3.1 ((hm z).1 (by simp [hz])) with e|hz'
   ·subst e;exact absurd (l1 z hz) (h.irr z)
   ·exact hz'
  ·intro hz
   rcases A3.1 ((hm z).2 (by simp [hz])) with e|hz'
   ·subst e;exact absurd (m1 z hz) (h.irr z)
   ·exact hz'
theorem sX (h:SLO lt) {l:List α} (hl:l.Pairwise lt):l.Nodup:=by
 rw [List.nodup_iff_pairwise_ne]
 exact hl.imp fun {a b} hab e=>by subst e;exact h.irr a hab
open Classical in
noncomputable def insA (lt:α->α->Prop) (v:α):List α->List α
 | []=>[v]
 | x::l=>if lt v x then v::x::l else if v=x then x::l else x::insA lt v l
theorem oX (v:α):∀(l:List α) (x:α),x∈insA lt v l↔x=v\/x∈l
 | [],x=>by simp [insA]
 | y::l,x=>by
  rw [insA]
  split
  ·rw [A3]
  ·split
   ·rename_i e
    subst e
    rw [A3]
    exact ⟨.inr,fun hx=>hx.elim .inl id⟩
   ·rw [A3,oX v l x,A3]
    constructor
    ·rintro (e|e|e)
     ·exact .inr (.inl e)
     ·exact .inl e
     ·exact .inr (.inr e)
    ·rintro (e|e|e)
     ·exact .inr (.inl e)
     ·exact .inl e
     ·exact .inr (.inr e)
theorem sG (h:SLO lt) (v:α):∀{l:List α},l.Pairwise lt->(insA lt v l).Pairwise lt
 | [],_=>Cu _ _
 | y::l,hl=>by
  obtain ⟨l1,l2⟩:=Bk.1 hl
  rw [insA]
  split
  ·rename_i hv
   refine Bk.2 ⟨fun z hz=>?_,hl⟩
   rcases A3.1 hz with rfl|hz
   ·exact hv
   ·exact h.tr _ _ _ hv (l1 z hz)
  ·rename_i hv
   split
   ·exact hl
   ·rename_i hne
    refine Bk.2 ⟨fun z hz=>?_,sG h v l2⟩
    rcases (oX v l z).1 hz with rfl|hz
    ·rcases h.tri z y with e|e|e
     ·exact absurd e hv
     ·exact absurd e hne
     ·exact e
    ·exact l1 z hz
noncomputable def ascL (lt:α->α->Prop) (l:List α):List α:=l.foldl (fun m v=>insA lt v m) []
theorem mO (l:List α) (v:α):ascL lt (l++[v])=insA lt v (ascL lt l):=by unfold ascL;rw [Cw];rfl
theorem zO {p:List α->Prop} (h0:p []) (h1:∀l x,p l->p (l++[x])):∀l,p l:=fun l=>by
 have:∀m:List α,p m.reverse:=fun m=>by
  induction m with
  | nil=>exact h0
  | cons x m ih=>rw [List.reverse_cons];exact h1 _ _ ih
 have:=this l.reverse
 rwa [List.reverse_reverse] at this
theorem dQ (h:SLO lt) (l:List α):(ascL lt l).Pairwise lt/\∀x,x∈ascL lt l↔x∈l:=by
 refine zO (p:=fun l=>(ascL lt l).Pairwise lt/\∀x,x∈ascL lt l↔x∈l) ⟨List.Pairwise.nil,fun x=>by simp [ascL]⟩ (fun l v ih=>?_) l
 rw [mO]
 refine ⟨sG h v ih.1,fun x=>?_⟩
 rw [oX,ih.2 x,A0,AY]
 exact Or.comm
theorem bJ7 (h:SLO lt) {l m:List α} (hm:m.Pairwise lt) (hx:∀x,x∈m↔x∈l):m=ascL lt l :=
 vR h hm (dQ h l).1 fun x=>(hx x).trans ((dQ h l).2 x).symm
theorem lE (h:SLO lt) {l m:List α} (hm:m.Nodup) (hx:∀x,x∈m↔x∈l):m.length=(ascL lt l).length :=
 ((List.perm_ext_iff_of_nodup hm (sX h (dQ h l).1)).2 fun x=>(hx x).trans ((dQ h l).2 x).symm).length_eq
theorem bR4 (h:SLO lt) {l m:List α} (hm:m.Nodup) (hd:∀x∈m,x∉l):(ascL lt (l++m)).length=(ascL lt l).length+m.length:=by
 rw [<- Ab]
 refine (lE h (List.nodup_append.2 ⟨sX h (dQ h l).1,hm,fun a ha b hb e=>?_⟩) fun x=>?_).symm
 ·subst e
  exact hd a hb (((dQ h l).2 a).1 ha)
 ·rw [A0,A0,(dQ h l).2 x]
end
def ltV (a b:Ver):Prop:=a.t<b.t\/(a.t=b.t/\(a.s<b.s\/(a.s=b.s/\a.c<b.c)))
def ltS (a b:Src):Prop:=a.t<b.t\/(a.t=b.t/\a.s<b.s)
theorem slo_V:SLO ltV where
 irr a:=by unfold ltV;omega
 tr a b c h1 h2:=by unfold ltV at *;omega
 tri a b:=by
  unfold ltV
  by_cases h:a.t=b.t/\a.s=b.s/\a.c=b.c
  ·obtain ⟨ax,ac,av⟩:=a
   obtain ⟨bt,bc,bv'⟩:=b
   simp only at h
   obtain ⟨rfl,rfl,rfl⟩:=h
   exact .inr (.inl rfl)
  ·rcases (show (a.t<b.t\/(a.t=b.t/\(a.s<b.s\/(a.s=b.s/\a.c<b.c))))\/(b.t<a.t\/(b.t=a.t/\(b.s<a.s\/(b.s=a.s/\b.c<a.c)))) by omega) with h|h
   ·exact .inl h
   ·exact .inr (.inr h)
theorem slo_S:SLO ltS where
 irr a:=by unfold ltS;omega
 tr a b c h1 h2:=by unfold ltS at *;omega
 tri a b:=by
  unfold ltS
  by_cases h:a.t=b.t/\a.s=b.s
  ·obtain ⟨ax,av⟩:=a
   obtain ⟨bt,bv'⟩:=b
   simp only at h
   obtain ⟨rfl,rfl⟩:=h
   exact .inr (.inl rfl)
  ·rcases (show (a.t<b.t\/(a.t=b.t/\a.s<b.s))\/(b.t<a.t\/(b.t=a.t/\b.s<a.s)) by omega) with h|h
   ·exact .inl h
   ·exact .inr (.inr h)
theorem zM:SLO fun a b:Int=>a<b where
 irr a:=by omega
 tr a b c h1 h2:=by omega
 tri a b:=by omega
def iL (l:List LEn):List Ver:=l.flatMap fun e=>if e.k=2 then e.vs else []
def iP (l:List LEn):List Src:=l.flatMap fun e=>if e.k=2 then e.ss else []
def oB (l:List LEn) (k:Int):Nat:=(l.filter fun e=>decide (e.k=k)).length
def jK (l:List LEn) (k p:Int):Prop:=∃x∈l,x.k=k/\x.plan=p
noncomputable def erasV (l:List LEn):List Ver:=ascL ltV (iL l)
noncomputable def erasS (l:List LEn):List Src:=ascL ltS (iP l)
open Classical in
noncomputable def unfi (l:List LEn):List Int:=ascL (fun a b:Int=>a<b) ((l.filter fun e=>decide (e.k=2/\¬jK l 4 e.plan)).map (·.plan))
noncomputable def doneS (l:List LEn) (p:Int):List Int:=ascL (fun a b:Int=>a<b) ((l.filter fun e=>decide (e.k=3/\e.plan=p)).map (·.step))
structure Fol (l:List LEn) (e:LEn):Prop where
 rd:(pEn (eA e)).isSome=true
 day:0<=e.day/\e.day<=1048576/\∀x,l.getLast? = some x->x.day<=e.day
 rq:e.k=1->1<=e.rq.k/\e.rq.k<=3
 er:e.k=2->e.plan=oB l 2/\(e.vs≠[]\/e.ss≠[])/\(erasV l).length+e.vs.length<=512/\(erasS l).length+e.ss.length<=512/\(e.vs.Pairwise ltV/\∀v∈e.vs,v∉iL l)/\e.ss.Pairwise ltS/\∀v∈e.ss,v∉iP l
 st:e.k=3->(jK l 2 e.plan/\¬jK l 4 e.plan)/\(0<=e.step/\e.step<128)/\¬∃x∈l,x.k=3/\x.plan=e.plan/\x.step=e.step
 co:e.k=4->jK l 2 e.plan/\¬jK l 4 e.plan
 sg:e.k=5->e.step=oB l 5/\e.step<4
theorem mN (l:List LEn) (e:LEn):iL (l++[e])=iL l++if e.k=2 then e.vs else []:=by unfold iL;rw [AH];simp
theorem pK (l:List LEn) (e:LEn):iP (l++[e])=iP l++if e.k=2 then e.ss else []:=by unfold iP;rw [AH];simp
theorem Fol.more {l:List LEn} {e:LEn} (h:Fol l e):(erasV (l++[e])).length=(erasV l).length+(if e.k=2 then e.vs.length else 0):=by
 unfold erasV
 rw [mN]
 split
 ·rename_i hk
  obtain ⟨_,_,_,_,⟨h1,h2⟩,_⟩:=h.er hk
  exact bR4 slo_V (sX slo_V h1) h2
 ·simp
end
section
theorem mX (u:Nat):0<(sA u).length:=by
 by_cases h:u<128
 ·rw [pQ h];simp
 ·rw [sB h];simp
theorem cF0:∀{b:Db} {i x:Nat} {p:Nat × Db},pU i x b=some p->p.2.length<b.length
 | [],i,x,p,h=>by rw [pU] at h;cases h
 | c::b,i,x,p,h=>by
  rw [pU] at h
  split at h
  ·cases h
  ·split at h
   ·injection h with h
    rw [<- h,At]
    exact Be _
   ·have:=cF0 h
    rw [At];omega
theorem cF3:∀(b:Db) (i x m:Nat),i+m=10->1<=m->pU i x (b.take m)=(pU i x b).map fun p=>(p.1,p.2.take (m-(b.length-p.2.length)))
 | [],i,x,m,_,_=>by rw [List.take_nil,pU];rfl
 | c::b,i,x,0,_,h=>by omega
 | c::b,i,x,m+1,h,_=>by
  rw [B6,pU,pU]
  by_cases h9:(i=9/\1<c.toNat)\/(0<i/\c.toNat=0)
  ·rw [Al h9,Al h9];rfl
  ·rw [Ak h9,Ak h9]
   by_cases hc:c.toNat<128
   ·rw [Al hc,Al hc,AR]
    simp only [At]
    rw [show m+1-(b.length+1-b.length)=m by omega]
   ·rw [Ak hc,Ak hc,cF3 b (i+1) _ m aA aA]
    cases hp:pU (i+1) (x+c.toNat%128*128 ^ i) b with
    | none=>rfl
    | some p =>
     have:=cF0 hp
     rw [AR,AR]
     simp only [At]
     rw [show m+1-(b.length+1-p.2.length)=m-(b.length-p.2.length) by omega]
section
variable (kd:Db->Db->Db)
def nL (ch:Db) (e:LEn):Db:=cC (eA e).length++(eA e++kd ch (eA e))
def pE (ch b:Db):Option (LEn × Db × Nat) :=
 (cX b).bind fun p =>
  if 0<=p.1/\p.1+32<=p.2.length then
   (pEn (p.2.take p.1.toNat)).bind fun e =>
    if e.2=[]/\kd ch (p.2.take p.1.toNat)=(p.2.drop p.1.toNat).take 32 then some (e.1,kd ch (p.2.take p.1.toNat),b.length-p.2.length+p.1.toNat+32) else none
  else none
variable {kd}
theorem bN1 (hkd:∀c b,(kd c b).length=32) {e:LEn} (hw:e.wf) (hr:e.rd) (hl:(eA e).length<=9223372036854775807) (ch r:Db):pE kd ch (nL kd ch e++r)=some (clE e,kd ch (eA e),(nL kd ch e).length):=by
 have hp:=bG3 hw hr []
 rw [Ay] at hp
 have h32:=hkd ch (eA e)
 unfold pE nL
 rw [Ar,uA aA aA,Ap]
 simp only [Bn,Ar,Cl,List.drop_left]
 rw [Al ⟨by omega,by simp only [Ab];omega⟩,hp,Ap]
 have e1:(kd ch (eA e)++r).take 32=kd ch (eA e):=by rw [<- h32,Cl]
 simp only [e1,and_self,BX]
 simp only [Ab]
 congr 3
 omega
end
end
section
def FolL (l:List LEn):Prop:=∀i e,l[i]? = some e->Fol (l.take i) e
section
variable (kd:Db->Db->Db)
open Classical in
noncomputable def parF:Nat->List LEn->Db->Db->List LEn × Nat × Db
 | 0,l,ch,_=>(l,0,ch)
 | f+1,l,ch,b=>match pE kd ch b with
  | none=>(l,0,ch)
  | some (e,c,n)=>if Fol l e/\l.length<512 then ((parF f (l++[e]) c (b.drop n)).1,n+(parF f (l++[e]) c (b.drop n)).2.1,(parF f (l++[e]) c (b.drop n)).2.2) else (l,0,ch)
def eC4:Db->List LEn->Db
 | _,[]=>[]
 | ch,e::l=>nL kd ch e++eC4 (kd ch (eA e)) l
variable {kd}
theorem cE3 (ch:Db):pE kd ch []=none:=rfl
end
end
structure RS where
 b:Db
 e:Int
def eU:Nat->Db->Int
 | _,[]=>100
 | i,c::b=>if (i=9/\1<c.toNat)\/(0<i/\c.toNat=0) then 1 else if c.toNat<128 then 1 else eU (i+1) b
theorem bY6:∀(i:Nat) (b:Db),eU i b=1\/eU i b=100
 | _,[] => .inr rfl
 | i,c::b=>by
  rw [eU]
  split
  ·exact .inl rfl
  ·split
   ·exact .inl rfl
   ·exact bY6 (i+1) b
theorem dT2 (i:Nat) (b:Db):eU i b≠0:=by rcases bY6 i b with h|h<;>rw [h]<;>decide
def bW (s:RS):Int × RS:=if s.e≠0 then (0,s) else match cX s.b with
 | some (n,r)=>(n,⟨r,0⟩)
 | none=>(0,⟨s.b,eU 0 s.b⟩)
def rIn (lo hi:Int) (s:RS):Int × RS:=if (bW s).2.e=0/\((bW s).1<lo\/hi<(bW s).1) then (0,⟨(bW s).2.b,1⟩) else bW s
def rBy (n:Nat) (s:RS):Db × RS:=if s.e≠0 then ([],s) else if s.b.length<n then ([],⟨s.b,100⟩) else (s.b.take n,⟨s.b.drop n,0⟩)
def rTx (m:Int) (s:RS):Db × RS:=rBy (rIn 0 m s).1.toNat (rIn 0 m s).2
def rVl (f:RS->Int × RS) (s:RS):Vl × RS :=
 if (rIn 0 2 s).1=1 then (⟨1,(f (rIn 0 2 s).2).1,[]⟩,(f (rIn 0 2 s).2).2)
 else if (rIn 0 2 s).1=2 then (⟨2,0,(rTx 32 (rIn 0 2 s).2).1⟩,(rTx 32 (rIn 0 2 s).2).2)
 else (⟨(rIn 0 2 s).1,0,[]⟩,(rIn 0 2 s).2)
def aP9:RS->Int × RS:=rIn (-4294967296) 4294967296
def eC8 (s:RS):Int × RS:=if (bW s).1 < -4294967296\/4294967296<(bW s).1 then ((bW s).1,⟨(bW s).2.b,if (bW s).2.e=0 then 1 else (bW s).2.e⟩) else bW s
def rId (f:RS->Int × RS) (s:RS):Idf × RS:=(⟨(rTx 16 s).1,(rVl f (rTx 16 s).2).1⟩,(rVl f (rTx 16 s).2).2)
def rVr (s:RS):Ver × RS:=(⟨(bW s).1,(bW (bW (bW s).2).2).1,(bW (bW s).2).1⟩,(bW (bW (bW s).2).2).2)
def rSr (s:RS):Src × RS:=(⟨(bW s).1,(bW (bW s).2).1⟩,(bW (bW s).2).2)
def hQ {α:Type} (f:RS->α × RS):Nat->RS->Option (List α) × RS
 | 0,s=>(some [],s)
 | n+1,s=>if (f s).2.e≠0 then (none,(f s).2) else ((hQ f n (f s).2).1.map ((f s).1 :: ·),(hQ f n (f s).2).2)
def qP {α:Type} (f:RS->α × RS):Nat->RS->List α × RS
 | 0,s=>([],s)
 | n+1,s=>if s.e≠0 then ([],s) else ((f s).1::(qP f n (f s).2).1,(qP f n (f s).2).2)
def rLs {α:Type} (f:RS->α × RS) (m:Int) (s:RS):List α × RS:=((hQ f (rIn 0 m s).1.toNat (rIn 0 m s).2).1.getD [],(hQ f (rIn 0 m s).1.toNat (rIn 0 m s).2).2)
def dW3 {α:Type} (f:RS->α × RS) (m:Int) (s:RS):List α × RS:=qP f (rIn 0 m s).1.toNat (rIn 0 m s).2
def rLk (f:RS->Int × RS) (s:RS):LLk × RS :=
 let a:=rId f s;let b:=rId f a.2;let n:=bW b.2;let r:=rIn 0 1 n.2
 (⟨a.1,b.1,n.1,decide (r.1=1)⟩,r.2)
def rHd (f:RS->Int × RS) (s:RS):LHd × RS :=
 let t:=bW s;let c:=bW t.2;let w:=rId f c.2;let n:=bW w.2;let x:=bW n.2;let y:=bW x.2
 (⟨t.1,c.1,w.1,n.1,x.1,y.1⟩,y.2)
def rRq (f:RS->Int × RS) (s:RS):LRq × RS :=
 let k:=bW s;let w:=rId f k.2;let n:=bW w.2;let x:=bW n.2;let y:=bW x.2
 (⟨k.1,w.1,n.1,x.1,y.1⟩,y.2)
def rDg (s:RS):Db × RS:=(if (rBy 32 s).1=[] then root0 else (rBy 32 s).1,(rBy 32 s).2)
def eC7 (s:RS):Int × RS:=if (bW s).1<1\/7<(bW s).1 then ((bW s).1,⟨(bW s).2.b,if (bW s).2.e=0 then 1 else (bW s).2.e⟩) else bW s
structure RP where
 ki:RS->Int × RS
 nu:RS->Int × RS
 vs:RS->List Ver × RS
 ss:RS->List Src × RS
def rpP:RP:=⟨rIn 1 7,aP9,rLs rVr 512,rLs rSr 512⟩
def rpR:RP:=⟨eC7,eC8,dW3 rVr 512,dW3 rSr 512⟩
def pI (p:RP) (k d pl st:Int) (s:RS):LEn × RS :=
 if k=1 then (⟨k,d,pl,st,(rRq p.nu s).1,lk0,hd0,[],[],root0⟩,(rRq p.nu s).2)
 else if k=2 then (⟨k,d,pl,st,rq0,lk0,hd0,(p.vs s).1,(p.ss (p.vs s).2).1,root0⟩,(p.ss (p.vs s).2).2)
 else if k=4 then (⟨k,d,pl,st,rq0,lk0,hd0,[],[],(rDg s).1⟩,(rDg s).2)
 else if k=6 then (⟨k,d,pl,st,rq0,(rLk p.nu s).1,hd0,[],[],root0⟩,(rLk p.nu s).2)
 else if k=7 then (⟨k,d,pl,st,rq0,lk0,(rHd p.nu s).1,[],[],root0⟩,(rHd p.nu s).2)
 else (⟨k,d,pl,st,rq0,lk0,hd0,[],[],root0⟩,s)
def rEn (p:RP) (s:RS):LEn × RS :=
 let k:=p.ki s;let d:=bW k.2;let pl:=bW d.2;let st:=bW pl.2
 pI p k.1 d.1 pl.1 st.1 st.2
structure Rd {α:Type} (f:RS->α × RS) (p:Db->Option (α × Db)):Prop where
 y:∀b x r,p b=some (x,r)->f ⟨b,0⟩=(x,⟨r,0⟩)
 n:∀b,p b=none->(f ⟨b,0⟩).2.e≠0
 x:∀s,s.e≠0->(f s).2.e≠0
theorem Rd.of {α:Type} {f:RS->α × RS} {p:Db->Option (α × Db)} (h:Rd f p) (b:Db):(∃x r,p b=some (x,r)/\f ⟨b,0⟩=(x,⟨r,0⟩))\/(p b=none/\(f ⟨b,0⟩).2.e≠0):=by
 cases hp:p b with
 | none=>exact .inr ⟨rfl,h.n b hp⟩
 | some q=>obtain ⟨x,r⟩:=q;exact .inl ⟨x,r,rfl,h.y b x r hp⟩
theorem one_ne:(1:Int)≠0:=by decide
theorem dL9:(100:Int)≠0:=by decide
theorem rd_int:Rd bW cX:=by
 refine ⟨fun b x r h=>?_,fun b h=>?_,fun s h=>?_⟩
 ·simp [bW,h]
 ·simp [bW,h,dT2]
 ·simp [bW,h]
theorem qQ (lo hi:Int):Rd (rIn lo hi) (pIn lo hi):=by
 refine ⟨fun b x r h=>?_,fun b h=>?_,fun s h=>?_⟩
 ·unfold pIn at h
  rcases rd_int.of b with ⟨n,q,h1,h2⟩|⟨h1,h2⟩
  ·rw [h1,Ap] at h
   split at h
   ·rename_i hb
    injection h with h;injection h with e1 e2
    simp only at e1 e2 hb
    subst e1 e2
    rw [rIn,h2,Ak (by simp only;omega)]
   ·cases h
  ·rw [h1] at h;cases h
 ·unfold pIn at h
  rcases rd_int.of b with ⟨n,q,h1,h2⟩|⟨h1,h2⟩
  ·rw [h1,Ap] at h
   split at h
   ·cases h
   ·rename_i hb
    simp only at hb
    rw [rIn,h2,Al (by simp only;exact ⟨trivial,by omega⟩)]
    exact one_ne
  ·rw [rIn,Ak (fun h=>h2 h.1)]
   exact h2
 ·have h2:=rd_int.x s h
  rw [rIn,Ak (fun h=>h2 h.1)]
  exact h2
theorem yU (n:Nat):Rd (rBy n) (pBy n):=by
 refine ⟨fun b x r h=>?_,fun b h=>?_,fun s h=>?_⟩
 ·unfold pBy at h
  split at h
  ·injection h with h;injection h with e1 e2
   subst e1 e2
   rw [rBy,Ak aR,Ak (by simp only;omega)]
  ·cases h
 ·unfold pBy at h
  split at h
  ·cases h
  ·rw [rBy,Ak aR,Al (by simp only;omega)]
   exact dL9
 ·rw [rBy,Al h];exact h
theorem bG9 (m:Int):Rd (rTx m) (pTx m):=by
 refine ⟨fun b x r h=>?_,fun b h=>?_,fun s h=>?_⟩
 ·unfold pTx at h
  rcases (qQ 0 m).of b with ⟨n,q,h1,h2⟩|⟨h1,h2⟩
  ·rw [h1,Ap] at h
   rw [rTx,h2]
   exact (yU _).y _ _ _ h
  ·rw [h1] at h;cases h
 ·unfold pTx at h
  rcases (qQ 0 m).of b with ⟨n,q,h1,h2⟩|⟨h1,h2⟩
  ·rw [h1,Ap] at h
   rw [rTx,h2]
   exact (yU _).n _ h
  ·exact (yU _).x _ h2
 ·exact (yU _).x _ ((qQ 0 m).x s h)
theorem dN9:Rd aP9 (pIn (-4294967296) 4294967296):=qQ _ _
theorem dX0 {f:RS->Int × RS} (hf:Rd f (pIn (-4294967296) 4294967296)):Rd (rVl f) pVl:=by
 have hx:∀s,(rIn 0 2 s).2.e≠0->(rVl f s).2.e≠0:=fun s h=>by
  unfold rVl
  split
  ·exact hf.x _ h
  ·split
   ·exact (bG9 32).x _ h
   ·exact h
 refine ⟨fun b x r h=>?_,fun b h=>?_,fun s h=>hx s ((qQ 0 2).x s h)⟩
 ·unfold pVl at h
  rcases (qQ 0 2).of b with ⟨k,q,h1,h2⟩|⟨h1,h2⟩
  ·rw [h1,Ap] at h
   unfold rVl
   rw [h2]
   simp only at h ⊢
   by_cases hk1:k=1
   ·rw [Al hk1] at h ⊢
    obtain ⟨y,hy,he⟩:=Au.1 h
    rw [hf.y _ _ _ hy]
    injection he with e1 e2
    subst e1 e2
    rfl
   ·rw [Ak hk1] at h ⊢
    by_cases hk2:k=2
    ·rw [Al hk2] at h ⊢
     obtain ⟨y,hy,he⟩:=Au.1 h
     rw [(bG9 32).y _ _ _ hy]
     injection he with e1 e2
     subst e1 e2
     rfl
    ·rw [Ak hk2] at h ⊢
     injection h with h;injection h with e1 e2
     subst e1 e2
     have hk0:k=0:=by
      unfold pIn at h1
      cases hp:cX b with
      | none=>rw [hp] at h1;cases h1
      | some q' =>
       rw [hp,Ap] at h1
       split at h1
       ·rename_i hb
        injection h1 with h1
        rw [h1] at hb
        simp only at hb
        omega
       ·cases h1
     subst hk0
     rfl
  ·rw [h1] at h;cases h
 ·unfold pVl at h
  rcases (qQ 0 2).of b with ⟨k,q,h1,h2⟩|⟨h1,h2⟩
  ·rw [h1,Ap] at h
   unfold rVl
   rw [h2]
   simp only at h ⊢
   by_cases hk1:k=1
   ·rw [Al hk1] at h ⊢
    exact hf.n _ lO
   ·rw [Ak hk1] at h ⊢
    by_cases hk2:k=2
    ·rw [Al hk2] at h ⊢
     exact (bG9 32).n _ lO
    ·rw [Ak hk2] at h;cases h
  ·exact hx _ h2
section
variable {α β:Type} {f:RS->α × RS} {p:Db->Option (α × Db)} (hf:Rd f p)
include α β f p hf
theorem Rd.bind {g:α->RS->β × RS} {q:α->Db->Option (β × Db)} (hg:∀a,Rd (g a) (q a)):Rd (fun s=>g (f s).1 (f s).2) (fun b=>(p b).bind fun x=>q x.1 x.2):=by
 refine ⟨fun b x r h=>?_,fun b h=>?_,fun s h=>(hg _).x _ (hf.x s h)⟩
 ·rcases hf.of b with ⟨n,t,h1,h2⟩|⟨h1,h2⟩
  ·simp only [h1,Ap] at h
   simp only [h2]
   exact (hg n).y _ _ _ h
  ·simp only [h1] at h;cases h
 ·rcases hf.of b with ⟨n,t,h1,h2⟩|⟨h1,h2⟩
  ·simp only [h1,Ap] at h
   simp only [h2]
   exact (hg n).n _ h
  ·exact (hg _).x _ h2
theorem Rd.map (g:α->β):Rd (fun s=>(g (f s).1,(f s).2)) (fun b=>(p b).map fun x=>(g x.1,x.2)):=by
 refine ⟨fun b x r h=>?_,fun b h=>?_,fun s h=>hf.x s h⟩
 ·obtain ⟨y,hy,he⟩:=Au.1 h
  injection he with e1 e2
  subst e1 e2
  simp only [hf.y _ _ _ hy]
 ·exact hf.n b lO
end
theorem Rd.pure {α:Type} (a:α):Rd (fun s=>(a,s)) (fun b=>some (a,b)):=⟨fun b x r h=>by injection h with h;injection h with e1 e2;subst e1 e2;rfl,fun b h=>fE,fun s h=>h⟩
theorem bG8 {f:RS->Int × RS} (hf:Rd f (pIn (-4294967296) 4294967296)):Rd (rId f) pId:=by
 have hfin:=(bG9 16).bind (β:=Idf) (g:=fun a s=>(⟨a,(rVl f s).1⟩,(rVl f s).2)) (q:=fun a b=>(pVl b).map fun q=>(⟨a,q.1⟩,q.2)) fun a=>(dX0 hf).map (fun v=>(⟨a,v⟩:Idf))
 exact hfin
theorem dX1:Rd rVr pVr:=by
 have hfin:=rd_int.bind (β:=Ver) (g:=fun t s=>(⟨t,(bW (bW s).2).1,(bW s).1⟩,(bW (bW s).2).2)) (q:=fun t b=>(cX b).bind fun q=>(cX q.2).map fun w=>(⟨t,w.1,q.1⟩,w.2)) fun t =>
 rd_int.bind (β:=Ver) (g:=fun x s=>(⟨t,(bW s).1,x⟩,(bW s).2)) (q:=fun x b=>(cX b).map fun w=>(⟨t,w.1,x⟩,w.2)) fun x=>rd_int.map (fun w=>(⟨t,w,x⟩:Ver))
 exact hfin
theorem dW9:Rd rSr pSr:=by
 have hfin:=rd_int.bind (β:=Src) (g:=fun t s=>(⟨t,(bW s).1⟩,(bW s).2)) (q:=fun t b=>(cX b).map fun q=>(⟨t,q.1⟩,q.2)) fun t=>rd_int.map (fun w=>(⟨t,w⟩:Src))
 exact hfin
theorem cG0 {α:Type} {f:RS->α × RS} {p:Db->Option (α × Db)} (hf:Rd f p):∀n,Rd (fun s=>((hQ f n s).1.getD [],(hQ f n s).2)) (yS p n)
 | 0=>⟨fun b x r h=>by injection h with h;injection h with e1 e2;subst e1 e2;rfl,fun b h=>fE,fun s h=>h⟩
 | n+1=>by
  have ih:=cG0 hf n
  refine ⟨fun b x r h=>?_,fun b h=>?_,fun s h=>?_⟩
  ·rw [yS] at h
   rcases hf.of b with ⟨a,t,h1,h2⟩|⟨h1,h2⟩
   ·rw [h1,Ap] at h
    obtain ⟨y,hy,he⟩:=Au.1 h
    injection he with e1 e2
    subst e1 e2
    have hi:=ih.y _ _ _ hy
    simp only [hQ,h2,ne_eq,BF,Bi]
    injection hi with i1 i2
    have hne:=(hQ f n ⟨t,0⟩).1
    cases hr:(hQ f n ⟨t,0⟩).1 with
    | none =>
     exfalso
     have:∀(n:Nat) (s:RS),s.e=0->(hQ f n s).1=none->(hQ f n s).2.e≠0:=by
      intro n
      induction n with
      | zero=>intro s _ h;cases h
      | succ n ihn =>
       intro s hs h
       rw [hQ] at h ⊢
       split
       ·rename_i hne;exact hne
       ·rename_i hne
        rw [Ak hne] at h
        simp only [Option.map_eq_none_iff] at h
        exact ihn _ (by simpa using hne) h
     exact this n ⟨t,0⟩ rfl hr (by rw [i2])
    | some l =>
     rw [hr] at i1
     simp only [CN] at i1
     rw [AR,CN,i1,i2]
   ·rw [h1] at h;cases h
  ·rw [yS] at h
   rcases hf.of b with ⟨a,t,h1,h2⟩|⟨h1,h2⟩
   ·rw [h1,Ap] at h
    simp only [hQ,h2,ne_eq,BF,Bi]
    exact ih.n _ lO
   ·simp only [hQ]
    rw [Al h2]
    exact h2
  ·simp only [hQ]
   rw [Al (hf.x s h)]
   exact hf.x s h
theorem dH9 {α:Type} {f:RS->α × RS} {p:Db->Option (α × Db)} (hf:Rd f p) (m:Int):Rd (rLs f m) (pLs p m):=by
 have hfin:=(qQ 0 m).bind (g:=fun n s=>((hQ f n.toNat s).1.getD [],(hQ f n.toNat s).2)) (q:=fun n b=>yS p n.toNat b) fun n=>cG0 hf n.toNat
 exact hfin
section
variable {f:RS->Int × RS} (hf:Rd f (pIn (-4294967296) 4294967296))
include f hf
theorem dW7:Rd (rLk f) pLk:=by
 have hfin:=(bG8 hf).bind (β:=LLk) (g:=fun a s=>let b:=rId f s;let n:=bW b.2;let r:=rIn 0 1 n.2;(⟨a,b.1,n.1,decide (r.1=1)⟩,r.2)) (q:=fun a b=>(pId b).bind fun q=>(cX q.2).bind fun s=>(pIn 0 1 s.2).map fun t=>(⟨a,q.1,s.1,decide (t.1=1)⟩,t.2)) fun a =>
 (bG8 hf).bind (β:=LLk) (g:=fun b s=>let n:=bW s;let r:=rIn 0 1 n.2;(⟨a,b,n.1,decide (r.1=1)⟩,r.2)) (q:=fun b c=>(cX c).bind fun s=>(pIn 0 1 s.2).map fun t=>(⟨a,b,s.1,decide (t.1=1)⟩,t.2)) fun b =>
 rd_int.bind (β:=LLk) (g:=fun n s=>let r:=rIn 0 1 s;(⟨a,b,n,decide (r.1=1)⟩,r.2)) (q:=fun n c=>(pIn 0 1 c).map fun t=>(⟨a,b,n,decide (t.1=1)⟩,t.2)) fun n=>(qQ 0 1).map (fun t=>(⟨a,b,n,decide (t=1)⟩:LLk))
 exact hfin
theorem dW6:Rd (rHd f) pHd:=by
 have hfin:=rd_int.bind (β:=LHd) (g:=fun t s=>let c:=bW s;let w:=rId f c.2;let n:=bW w.2;let x:=bW n.2;let y:=bW x.2;(⟨t,c.1,w.1,n.1,x.1,y.1⟩,y.2)) (q:=fun t b=>(cX b).bind fun c=>(pId c.2).bind fun w=>(cX w.2).bind fun s=>(cX s.2).bind fun f=>(cX f.2).map fun o=>(⟨t,c.1,w.1,s.1,f.1,o.1⟩,o.2)) fun t =>
 rd_int.bind (β:=LHd) (g:=fun c s=>let w:=rId f s;let n:=bW w.2;let x:=bW n.2;let y:=bW x.2;(⟨t,c,w.1,n.1,x.1,y.1⟩,y.2)) (q:=fun c b=>(pId b).bind fun w=>(cX w.2).bind fun s=>(cX s.2).bind fun f=>(cX f.2).map fun o=>(⟨t,c,w.1,s.1,f.1,o.1⟩,o.2)) fun c =>
 (bG8 hf).bind (β:=LHd) (g:=fun w s=>let n:=bW s;let x:=bW n.2;let y:=bW x.2;(⟨t,c,w,n.1,x.1,y.1⟩,y.2)) (q:=fun w b=>(cX b).bind fun s=>(cX s.2).bind fun f=>(cX f.2).map fun o=>(⟨t,c,w,s.1,f.1,o.1⟩,o.2)) fun w =>
 rd_int.bind (β:=LHd) (g:=fun n s=>let x:=bW s;let y:=bW x.2;(⟨t,c,w,n,x.1,y.1⟩,y.2)) (q:=fun n b=>(cX b).bind fun f=>(cX f.2).map fun o=>(⟨t,c,w,n,f.1,o.1⟩,o.2)) fun n =>
 rd_int.bind (β:=LHd) (g:=fun x s=>let y:=bW s;(⟨t,c,w,n,x,y.1⟩,y.2)) (q:=fun x b=>(cX b).map fun o=>(⟨t,c,w,n,x,o.1⟩,o.2)) fun x=>rd_int.map (fun y=>(⟨t,c,w,n,x,y⟩:LHd))
 exact hfin
theorem dW8:Rd (rRq f) pRq:=by
 have hfin:=rd_int.bind (β:=LRq) (g:=fun k s=>let w:=rId f s;let n:=bW w.2;let x:=bW n.2;let y:=bW x.2;(⟨k,w.1,n.1,x.1,y.1⟩,y.2)) (q:=fun k b=>(pId b).bind fun w=>(cX w.2).bind fun s=>(cX s.2).bind fun d=>(cX d.2).map fun o=>(⟨k,w.1,s.1,d.1,o.1⟩,o.2)) fun k =>
 (bG8 hf).bind (β:=LRq) (g:=fun w s=>let n:=bW s;let x:=bW n.2;let y:=bW x.2;(⟨k,w,n.1,x.1,y.1⟩,y.2)) (q:=fun w b=>(cX b).bind fun s=>(cX s.2).bind fun d=>(cX d.2).map fun o=>(⟨k,w,s.1,d.1,o.1⟩,o.2)) fun w =>
 rd_int.bind (β:=LRq) (g:=fun n s=>let x:=bW s;let y:=bW x.2;(⟨k,w,n,x.1,y.1⟩,y.2)) (q:=fun n b=>(cX b).bind fun d=>(cX d.2).map fun o=>(⟨k,w,n,d.1,o.1⟩,o.2)) fun n =>
 rd_int.bind (β:=LRq) (g:=fun x s=>let y:=bW s;(⟨k,w,n,x,y.1⟩,y.2)) (q:=fun x b=>(cX b).map fun o=>(⟨k,w,n,x,o.1⟩,o.2)) fun x=>rd_int.map (fun y=>(⟨k,w,n,x,y⟩:LRq))
 exact hfin
end
theorem rd_dg:Rd rDg (pBy 32):=by
 refine ⟨fun b x r h=>?_,fun b h=>(yU 32).n b h,fun s h=>(yU 32).x s h⟩
 have h1:=(yU 32).y _ _ _ h
 unfold pBy at h
 split at h
 ·rename_i hl
  injection h with h;injection h with e1 e2
  have hx:x≠[]:=fun e=>by
   have:=congrArg List.length e1
   rw [e,Ao] at this
   simp only [BI] at this
   omega
  unfold rDg
  rw [h1]
  simp only
  rw [Ak hx]
 ·cases h
theorem cV4 {p:RP} (h1:Rd p.nu (pIn (-4294967296) 4294967296)) (h2:Rd p.vs (pLs pVr 512)) (h3:Rd p.ss (pLs pSr 512)) (k d pl st:Int):Rd (pI p k d pl st) (pF k d pl st):=by
 have e:pI p k d pl st=fun s=>pI p k d pl st s:=rfl
 have e':pF k d pl st=fun b=>pF k d pl st b:=rfl
 rw [e,e']
 unfold pI pF
 by_cases k1:k=1
 ·simp only [Al k1]
  exact (dW8 h1).map (fun x=>(⟨k,d,pl,st,x,lk0,hd0,[],[],root0⟩:LEn))
 ·simp only [Ak k1]
  by_cases k2:k=2
  ·simp only [Al k2]
   have hfin:=h2.bind (β:=LEn) (g:=fun v s=>(⟨k,d,pl,st,rq0,lk0,hd0,v,(p.ss s).1,root0⟩,(p.ss s).2)) (q:=fun v b=>(pLs pSr 512 b).map fun x=>(⟨k,d,pl,st,rq0,lk0,hd0,v,x.1,root0⟩,x.2)) fun v=>h3.map (fun x=>(⟨k,d,pl,st,rq0,lk0,hd0,v,x,root0⟩:LEn))
   exact hfin
  ·simp only [Ak k2]
   by_cases k4:k=4
   ·simp only [Al k4]
    exact rd_dg.map (fun x=>(⟨k,d,pl,st,rq0,lk0,hd0,[],[],x⟩:LEn))
   ·simp only [Ak k4]
    by_cases k6:k=6
    ·simp only [Al k6]
     exact (dW7 h1).map (fun x=>(⟨k,d,pl,st,rq0,x,hd0,[],[],root0⟩:LEn))
    ·simp only [Ak k6]
     by_cases k7:k=7
     ·simp only [Al k7]
      exact (dW6 h1).map (fun x=>(⟨k,d,pl,st,rq0,lk0,x,[],[],root0⟩:LEn))
     ·simp only [Ak k7]
      exact Rd.pure _
theorem dW5 {p:RP} (h0:Rd p.ki (pIn 1 7)) (h1:Rd p.nu (pIn (-4294967296) 4294967296)) (h2:Rd p.vs (pLs pVr 512)) (h3:Rd p.ss (pLs pSr 512)):Rd (rEn p) pEn:=by
 have hfin:=h0.bind (β:=LEn) (g:=fun k s=>let d:=bW s;let pl:=bW d.2;let st:=bW pl.2;pI p k d.1 pl.1 st.1 st.2) (q:=fun k b=>(cX b).bind fun d=>(cX d.2).bind fun p=>(cX p.2).bind fun s=>pF k d.1 p.1 s.1 s.2) fun k =>
 rd_int.bind (β:=LEn) (g:=fun d s=>let pl:=bW s;let st:=bW pl.2;pI p k d pl.1 st.1 st.2) (q:=fun d b=>(cX b).bind fun p=>(cX p.2).bind fun s=>pF k d p.1 s.1 s.2) fun d =>
 rd_int.bind (β:=LEn) (g:=fun pl s=>let st:=bW s;pI p k d pl st.1 st.2) (q:=fun pl b=>(cX b).bind fun s=>pF k d pl s.1 s.2) fun pl =>
 rd_int.bind (β:=LEn) (g:=fun st s=>pI p k d pl st s) (q:=fun st b=>pF k d pl st b) fun st=>cV4 h1 h2 h3 k d pl st
 exact hfin
theorem rd_enP:Rd (rEn rpP) pEn:=dW5 (qQ 1 7) dN9 (dH9 dX1 512) (dH9 dW9 512)
end Go.Proofs.YtbgehdndimlgkaaGreat
