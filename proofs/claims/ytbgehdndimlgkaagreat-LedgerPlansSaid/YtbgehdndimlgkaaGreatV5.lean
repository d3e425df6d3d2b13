/- Lemmas for laws of the ledger. -/
import Derived.Test.YtbgehdndimlgkaaGreatV4
set_option linter.all false
namespace Go.Proofs.YtbgehdndimlgkaaGreat
open Go Go.RowKit Go.Av
section
abbrev iv (n:Int):CV := .v (.int .i64 n)
abbrev bv (b:Bool):CV := .v (.bool b)
abbrev uv (x:BitVec 64):CV := .v (.int .u64 (x.toNat:Int))
abbrev sv (l:CZ):CV := .v (.string ⟨l.toArray⟩)
theorem bsz (bs:ByteArray):bs.data.toList.length=bs.size:=by rw [A6];rfl
theorem cL6 (bs:ByteArray):∀(n i:Nat) (r:CZ),bs.size-i=n->ByteArray.toList.loop bs i r=r.reverse++bs.data.toList.drop i:=by
 intro n
 induction n with
 | zero =>
  intro i r h
  rw [ByteArray.toList.loop,Af aA]
  have:=bsz bs
  rw [List.drop_eq_nil_of_le aA,A2]
 | succ n ih =>
  intro i r h
  rw [ByteArray.toList.loop,Aj aA,ih (i+1) _ aA]
  have hl:i<bs.data.toList.length:=by have:=bsz bs;omega
  rw [B3 hl]
  have:bs.get! i=bs.data.toList[i]:=by
   have h2:i<bs.data.size:=by simpa using hl
   rw [ByteArray.get!,B8 bs.data i h2,Ch]
  rw [this]
  simp
theorem aM0 (l:CZ):(⟨l.toArray⟩:ByteArray).toList=l:=by
 rw [ByteArray.toList,cL6 _ _ 0 [] rfl]
 simp
section
variable {P:Di} {tab:Tab} {ev:Evl} {h:aL} {d:Dg} {T ty:Dh} {x y z:Operand} {pos:String} {aft:Df} {gd:Da}
theorem dE9 {T':Dh} {s t:CZ} {b:Bool} (hx:ev x=some (.c (sv s))) (hy:ev y=some (.c (sv t))) (hr:decide (s=t)=b):Still P ⟨d,.binOp .eql T x y T',ty,pos,aft,gd⟩ ev h (.c (.v (.bool b))) :=
 aD5 hx hy (by rw [aM0,aM0];exact hr)
end
theorem aT1 (l:CZ):(⟨l.toArray⟩:ByteArray).size=l.length:=by simp [ByteArray.size]
end
structure Vl where
 k:Int
 n:Int
 t:CZ
deriving DecidableEq
def Vl.nul:Vl:=⟨0,0,[]⟩
def Vl.c (v:Vl):Dp:=[iv v.k,iv v.n,sv v.t]
def okP (v:Vl):Prop:=(v.k=0/\v.n=0/\v.t=[])\/(v.k=1 /\ -4294967296<=v.n/\v.n<=4294967296/\v.t=[])\/(v.k=2/\v.n=0/\v.t.length<=32)
instance (v:Vl):Decidable (okP v):=by unfold okP;infer_instance
def okV (v:Vl):Bool:=decide (okP v)
def clV (v:Vl):Vl:=if okV v then v else Vl.nul
theorem dD2:okP Vl.nul := .inl ⟨rfl,rfl,rfl⟩
theorem aJ1 (v:Vl):okP (clV v):=by
 unfold clV
 split
 ·rename_i h;exact Cy h
 ·exact dD2
theorem cZ8 {v:Vl} (h:okP v):clV v=v:=by unfold clV okV;rw [AU h];rfl
def bU4 (n:Nat):UInt8:=UInt8.ofNat n
def esc (b:UInt8):CZ:=if b=0 then [0,255] else [b]
def dQ3 (m:Nat):CZ:=[2,bU4 (m / 2 ^ 32),bU4 (m / 2 ^ 24),bU4 (m / 2 ^ 16),bU4 (m / 2 ^ 8),bU4 m]
def dQ5 (v:Vl):CZ:=if v.k=1 then dQ3 (v.n+4294967296).toNat else if v.k=2 then 3::v.t.flatMap esc++[0,0] else [1]
def dQ4 (r:List Vl):CZ:=r.flatMap fun v=>dQ5 (clV v)
def cW5 (h:BitVec 64) (b:UInt8):BitVec 64:=(h ^^^ BitVec.ofNat 64 b.toNat)*1099511628211#64
def dK2 (l:CZ):BitVec 64:=l.foldl cW5 14695981039346656037#64
def dU3 (v:Vl) (row:UInt8):BitVec 64:=cW5 (dK2 (dQ4 [v])) row
def rc (r:List Vl):Dp:=r.flatMap Vl.c
def wide (v:Vl):Prop:=(-9223372036854775808<=v.k/\v.k<=9223372036854775807)/\(-9223372036854775808<=v.n/\v.n<=9223372036854775807)/\v.t.length<=maxLen
end Go.Proofs.YtbgehdndimlgkaaGreat
namespace Go.Proofs.YtbgehdndimlgkaaGreat
open Go Go.RowKit Go.Av
set_option maxRecDepth 100000
def rA (u:Nat):CZ:=if h:u<128 then [UInt8.ofNat u] else UInt8.ofNat (u%128+128)::rA (u / 128)
termination_by u
decreasing_by omega
theorem pB {u:Nat} (h:u<128):rA u=[UInt8.ofNat u]:=by rw [rA,dif_pos h]
theorem rB {u:Nat} (h:¬u<128):rA u=UInt8.ofNat (u%128+128)::rA (u / 128):=by rw [rA,dif_neg h]
def zz (n:Int):Nat:=if n<0 then (-2*n-1).toNat else (2*n).toNat
def uz (u:Nat):Int:=if u%2=1 then -((u / 2:Nat):Int)-1 else (u / 2:Nat)
theorem dO4 (n:Int):uz (zz n)=n:=by
 unfold uz zz
 split<;>split<;>omega
theorem bC1 {n:Int} (h1 : -9223372036854775808<=n) (h2:n<=9223372036854775807):zz n<18446744073709551616:=by
 unfold zz
 split<;>omega
def bO (n:Int):CZ:=rA (zz n)
def pU:Nat->Nat->CZ->Option (Nat × CZ)
 | _,_,[]=>none
 | i,x,c::b=>if (i=9/\1<c.toNat)\/(0<i/\c.toNat=0) then none else if c.toNat<128 then some (x+c.toNat*128 ^ i,b) else pU (i+1) (x+c.toNat%128*128 ^ i) b
def cQ (b:CZ):Option (Int × CZ):=(pU 0 0 b).map fun p=>(uz p.1,p.2)
theorem aM1 {n:Nat} (h:n<256):(UInt8.ofNat n).toNat=n:=by
 rw [Co]
 exact BH h
theorem cN1 : ∀ (u i x : Nat) (r : CZ), i <= 9 -> (i = 0 \/ u ≠ 0) -> u * 128 ^ i < 18446744073709551616 -> pU i x (rA u ++ r) = some (x + u * 128 ^ i, r) := by
  intro u
  induction u using Nat.strongRecOn with
  | _ u ih =>
    intro i x r hi h0 hb
    by_cases h : u < 128
    · rw [pB h, List.singleton_append, pU, aM1 aA]
      have h9 : ¬ ((i = 9 /\ 1 < u) \/ (0 < i /\ u = 0)) := by
        rintro (⟨e, h1⟩ | ⟨h1, h2⟩)
        · subst e
          have : 2 * 128 ^ 9 <= u * 128 ^ 9 := Ba _ h1
          have e2 : (2 * 128 ^ 9 : Nat) = 18446744073709551616 := by decide
          omega
        · omega
      rw [Af h9, Aj h]
    · have hi9 : i ≠ 9 := fun e => by
        subst e
        have : 128 * 128 ^ 9 <= u * 128 ^ 9 := Ba _ aA
        have e2 : 18446744073709551616 <= (128 * 128 ^ 9 : Nat) := by decide
        omega
      rw [rB h, AF, pU, aM1 aA]
      have h9 : ¬ ((i = 9 /\ 1 < u % 128 + 128) \/ (0 < i /\ u % 128 + 128 = 0)) := by
        rintro (⟨e, _⟩ | ⟨_, h2⟩)
        · exact hi9 e
        · omega
      have hm : (u % 128 + 128) % 128 = u % 128 := by omega
      have hs : u % 128 * 128 ^ i + u / 128 * 128 ^ (i + 1) = u * 128 ^ i := by
        rw [CB, Nat.mul_comm (128 ^ i) 128, <- Nat.mul_assoc, <- A9]
        congr 1
        omega
      rw [Af h9, Af aA, hm, ih (u / 128) aA (i + 1) _ r aA (.inr aA) aA, BW, hs]
theorem sM {n:Int} (h1 : -9223372036854775808<=n) (h2:n<=9223372036854775807) (r:CZ):cQ (bO n++r)=some (n,r):=by
 unfold cQ bO
 rw [cN1 (zz n) 0 0 r aA (.inl rfl) (by rw [Nat.pow_zero,A4];exact bC1 h1 h2)]
 simp [dO4]
def pIn (lo hi:Int) (b:CZ):Option (Int × CZ):=(cQ b).bind fun p=>if lo<=p.1/\p.1<=hi then some p else none
def pBy (n:Nat) (b:CZ):Option (CZ × CZ):=if n<=b.length then some (b.take n,b.drop n) else none
def pTx (m:Int) (b:CZ):Option (CZ × CZ):=(pIn 0 m b).bind fun p=>pBy p.1.toNat p.2
theorem iB {n lo hi:Int} (h1:lo<=n) (h2:n<=hi) (h3 : -9223372036854775808<=n) (h4:n<=9223372036854775807) (r:CZ):pIn lo hi (bO n++r)=some (n,r):=by
 unfold pIn
 rw [sM h3 h4,Ak,Aj ⟨h1,h2⟩]
def pM (s:CZ):CZ:=bO s.length++s
theorem aJ5 {s:CZ} {m:Int} (h:(s.length:Int)<=m) (hm:m<=9223372036854775807) (r:CZ):pTx m (pM s++r)=some (s,r):=by
 unfold pTx pM
 rw [Ar,iB aA h aA aA,Ak]
 unfold pBy
 simp only [Bk]
 rw [Aj bO3,Cj,List.drop_left]
def pL (v:Vl):CZ:=bO v.k++(if v.k=1 then bO v.n else if v.k=2 then pM v.t else [])
def pVl (b:CZ):Option (Vl × CZ):=(pIn 0 2 b).bind fun p =>
 if p.1=1 then (pIn (-4294967296) 4294967296 p.2).map fun q=>(⟨1,q.1,[]⟩,q.2)
 else if p.1=2 then (pTx 32 p.2).map fun q=>(⟨2,0,q.1⟩,q.2) else some (⟨0,0,[]⟩,p.2)
theorem bW4 {v:Vl} (h:(v.k=0/\v.n=0/\v.t=[])\/(v.k=1 /\ -4294967296<=v.n/\v.n<=4294967296/\v.t=[])\/(v.k=2/\v.n=0/\v.t.length<=32)) (r:CZ):pVl (pL v++r)=some (v,r):=by
 obtain ⟨k,n,t⟩:=v
 unfold pVl pL
 rcases h with ⟨h1,h2,h3⟩|⟨h1,h2,h3,h4⟩|⟨h1,h2,h3⟩<;>simp only at h1 h2 h3<;>subst h1
 ·subst h2 h3
  simp only [A2,Af (show ¬(0:Int)=1 by decide),Af (show ¬(0:Int)=2 by decide)]
  rw [iB aN aN aN aN,Ak]
  simp
 ·simp only at h4
  subst h4
  simp only [B9,Ar]
  rw [iB aN aN aN aN,Ak]
  simp only [B9]
  rw [iB h2 h3 aA aA]
  rfl
 ·subst h2
  simp only [Af (show ¬(2:Int)=1 by decide),B9,Ar]
  rw [iB aN aN aN aN,Ak]
  simp only [Af (show ¬(2:Int)=1 by decide),B9]
  rw [aJ5 aA aN]
  rfl
def aS (n:Int):Prop := -9223372036854775808<=n/\n<=9223372036854775807
theorem cN {n:Int} (h:aS n) (r:CZ):cQ (bO n++r)=some (n,r):=sM h.1 h.2 r
structure Idf where
 ns:CZ
 v:Vl
def gC (i:Idf):CZ:=pM i.ns++pL (clV i.v)
def pId (b:CZ):Option (Idf × CZ):=(pTx 16 b).bind fun p=>(pVl p.2).map fun q=>(⟨p.1,q.1⟩,q.2)
theorem rJ {i:Idf} (h:i.ns.length<=16) (r:CZ):pId (gC i++r)=some (⟨i.ns,clV i.v⟩,r):=by
 unfold pId gC
 rw [Ar,aJ5 aA aN,Ak,bW4 (aJ1 i.v)]
 rfl
structure Ver where
 t:Int
 c:Int
 s:Int
deriving DecidableEq
def fI (v:Ver):CZ:=bO v.t++bO v.s++bO v.c
def pVr (b:CZ):Option (Ver × CZ):=(cQ b).bind fun p=>(cQ p.2).bind fun q=>(cQ q.2).map fun w=>(⟨p.1,w.1,q.1⟩,w.2)
theorem cN2 {v:Ver} (h1:aS v.t) (h2:aS v.c) (h3:aS v.s) (r:CZ):pVr (fI v++r)=some (v,r):=by
 unfold pVr fI
 rw [Ar,Ar,cN h1,Ak,cN h3,Ak,cN h2]
 rfl
structure Src where
 t:Int
 s:Int
deriving DecidableEq
def fW (v:Src):CZ:=bO v.t++bO v.s
def pSr (b:CZ):Option (Src × CZ):=(cQ b).bind fun p=>(cQ p.2).map fun q=>(⟨p.1,q.1⟩,q.2)
theorem cN0 {v:Src} (h1:aS v.t) (h2:aS v.s) (r:CZ):pSr (fW v++r)=some (v,r):=by
 unfold pSr fW
 rw [Ar,cN h1,Ak,cN h2]
 rfl
def wS {α:Type} (p:CZ->Option (α × CZ)):Nat->CZ->Option (List α × CZ)
 | 0,b=>some ([],b)
 | n+1,b=>(p b).bind fun x=>(wS p n x.2).map fun y=>(x.1::y.1,y.2)
theorem aJ4 {α:Type} {p:CZ->Option (α × CZ)} {e:α->CZ}:∀(l:List α) (r:CZ),(∀x∈l,∀r,p (e x++r)=some (x,r))->wS p l.length (l.flatMap e++r)=some (l,r)
 | [],r,_=>rfl
 | x::l,r,h=>by
  rw [Au,wS,Aw,Ar,h x aO,Ak,aJ4 l r fun y hy=>h y (by simp [hy])]
  rfl
def jC {α:Type} (e:α->CZ) (l:List α):CZ:=bO l.length++l.flatMap e
def pLs {α:Type} (p:CZ->Option (α × CZ)) (m:Int) (b:CZ):Option (List α × CZ):=(pIn 0 m b).bind fun q=>wS p q.1.toNat q.2
theorem aZ6 {α:Type} {p:CZ->Option (α × CZ)} {e:α->CZ} {l:List α} {m:Int} (h:∀x∈l,∀r,p (e x++r)=some (x,r)) (hl:(l.length:Int)<=m) (hm:m<=9223372036854775807) (r:CZ):pLs p m (jC e l++r)=some (l,r):=by
 unfold pLs jC
 rw [Ar,iB aA hl aA aA,Ak]
 simp only [Bk]
 exact aJ4 l r h
structure LLk where
 a:Idf
 b:Idf
 s:Int
 rv:Bool
def nG (l:LLk):CZ:=gC l.a++(gC l.b++(bO l.s++bO (if l.rv then 1 else 0)))
def pLk (b:CZ):Option (LLk × CZ):=(pId b).bind fun p=>(pId p.2).bind fun q=>(cQ q.2).bind fun s=>(pIn 0 1 s.2).map fun t=>(⟨p.1,q.1,s.1,decide (t.1=1)⟩,t.2)
def clI (i:Idf):Idf:=⟨i.ns,clV i.v⟩
theorem cM8 {l:LLk} (h1:l.a.ns.length<=16) (h2:l.b.ns.length<=16) (h3:aS l.s) (r:CZ):pLk (nG l++r)=some (⟨clI l.a,clI l.b,l.s,l.rv⟩,r):=by
 obtain ⟨a,b,s,rv⟩:=l
 unfold pLk nG
 simp only [Ar]
 rw [rJ h1,Ak]
 simp only
 rw [rJ h2,Ak]
 simp only
 rw [cN h3,Ak]
 simp only
 cases rv
 ·rw [Af aN,iB aN aN aN aN];rfl
 ·rw [Aj rfl,iB aN aN aN aN];rfl
structure LHd where
 t:Int
 c:Int
 who:Idf
 s:Int
 fr:Int
 to:Int
def nF (h:LHd):CZ:=bO h.t++(bO h.c++(gC h.who++(bO h.s++(bO h.fr++bO h.to))))
def pHd (b:CZ):Option (LHd × CZ):=(cQ b).bind fun t=>(cQ t.2).bind fun c=>(pId c.2).bind fun w=>(cQ w.2).bind fun s=>(cQ s.2).bind fun f=>(cQ f.2).map fun o=>(⟨t.1,c.1,w.1,s.1,f.1,o.1⟩,o.2)
theorem cM7 {h:LHd} (h1:aS h.t) (h2:aS h.c) (h3:h.who.ns.length<=16) (h4:aS h.s) (h5:aS h.fr) (h6:aS h.to) (r:CZ):pHd (nF h++r)=some (⟨h.t,h.c,clI h.who,h.s,h.fr,h.to⟩,r):=by
 unfold pHd nF
 simp only [Ar]
 rw [cN h1,Ak];simp only
 rw [cN h2,Ak];simp only
 rw [rJ h3,Ak];simp only
 rw [cN h4,Ak];simp only
 rw [cN h5,Ak];simp only
 rw [cN h6];rfl
structure LRq where
 k:Int
 who:Idf
 s:Int
 d:Int
 dl:Int
def nH (q:LRq):CZ:=bO q.k++(gC q.who++(bO q.s++(bO q.d++bO q.dl)))
def pRq (b:CZ):Option (LRq × CZ):=(cQ b).bind fun k=>(pId k.2).bind fun w=>(cQ w.2).bind fun s=>(cQ s.2).bind fun d=>(cQ d.2).map fun o=>(⟨k.1,w.1,s.1,d.1,o.1⟩,o.2)
theorem cM9 {q:LRq} (h1:aS q.k) (h3:q.who.ns.length<=16) (h4:aS q.s) (h5:aS q.d) (h6:aS q.dl) (r:CZ):pRq (nH q++r)=some (⟨q.k,clI q.who,q.s,q.d,q.dl⟩,r):=by
 unfold pRq nH
 simp only [Ar]
 rw [cN h1,Ak];simp only
 rw [rJ h3,Ak];simp only
 rw [cN h4,Ak];simp only
 rw [cN h5,Ak];simp only
 rw [cN h6];rfl
structure LEn where
 k:Int
 day:Int
 plan:Int
 step:Int
 rq:LRq
 lk:LLk
 hd:LHd
 vs:List Ver
 ss:List Src
 root:CZ
def mE:Idf:=⟨[],Vl.nul⟩
def rq0:LRq:=⟨0,mE,0,0,0⟩
def lk0:LLk:=⟨mE,mE,0,false⟩
def hd0:LHd:=⟨0,0,mE,0,0,0⟩
def root0:CZ:=List.replicate 32 0
def dC (e:LEn):CZ :=
 if e.k=1 then nH e.rq else if e.k=2 then jC fI e.vs++jC fW e.ss else if e.k=4 then e.root else if e.k=6 then nG e.lk else if e.k=7 then nF e.hd else []
def cW (e:LEn):CZ:=bO e.k++(bO e.day++(bO e.plan++(bO e.step++dC e)))
def kY (k d p s:Int) (b:CZ):Option (LEn × CZ) :=
 if k=1 then (pRq b).map fun x=>(⟨k,d,p,s,x.1,lk0,hd0,[],[],root0⟩,x.2)
 else if k=2 then (pLs pVr 512 b).bind fun v=>(pLs pSr 512 v.2).map fun x=>(⟨k,d,p,s,rq0,lk0,hd0,v.1,x.1,root0⟩,x.2)
 else if k=4 then (pBy 32 b).map fun x=>(⟨k,d,p,s,rq0,lk0,hd0,[],[],x.1⟩,x.2)
 else if k=6 then (pLk b).map fun x=>(⟨k,d,p,s,rq0,x.1,hd0,[],[],root0⟩,x.2)
 else if k=7 then (pHd b).map fun x=>(⟨k,d,p,s,rq0,lk0,x.1,[],[],root0⟩,x.2)
 else some (⟨k,d,p,s,rq0,lk0,hd0,[],[],root0⟩,b)
def pEn (b:CZ):Option (LEn × CZ):=(pIn 1 7 b).bind fun k=>(cQ k.2).bind fun d=>(cQ d.2).bind fun p=>(cQ p.2).bind fun s=>kY k.1 d.1 p.1 s.1 s.2
def clE (e:LEn):LEn :=
 ⟨e.k,e.day,e.plan,e.step,if e.k=1 then ⟨e.rq.k,clI e.rq.who,e.rq.s,e.rq.d,e.rq.dl⟩ else rq0,if e.k=6 then ⟨clI e.lk.a,clI e.lk.b,e.lk.s,e.lk.rv⟩ else lk0,if e.k=7 then ⟨e.hd.t,e.hd.c,clI e.hd.who,e.hd.s,e.hd.fr,e.hd.to⟩ else hd0,if e.k=2 then e.vs else [],if e.k=2 then e.ss else [],if e.k=4 then e.root else root0⟩
structure LEn.wf (e:LEn):Prop where
 h1:aS e.day/\aS e.plan/\aS e.step
 rq:aS e.rq.k/\aS e.rq.s/\aS e.rq.d/\aS e.rq.dl
 lk:aS e.lk.s
 hd:aS e.hd.t/\aS e.hd.c/\aS e.hd.s/\aS e.hd.fr/\aS e.hd.to
 vs:∀v∈e.vs,aS v.t/\aS v.c/\aS v.s
 ss:∀v∈e.ss,aS v.t/\aS v.s
 root:e.root.length=32
structure LEn.rd (e:LEn):Prop where
 k:1<=e.k/\e.k<=7
 rq:e.k=1->e.rq.who.ns.length<=16
 er:e.k=2->e.vs.length<=512/\e.ss.length<=512
 lk:e.k=6->e.lk.a.ns.length<=16/\e.lk.b.ns.length<=16
 hd:e.k=7->e.hd.who.ns.length<=16
theorem uI {e : LEn} (hw : e.wf) (hr : e.rd) (r : CZ) : pEn (cW e ++ r) = some (clE e, r) := by
  obtain ⟨a1, a2, a3⟩ := hw.h1
  obtain ⟨b1, b2, b3, b4⟩ := hw.rq
  have c1 := hw.lk
  obtain ⟨d1, d2, d3, d4, d5⟩ := hw.hd
  have e1 := hw.vs
  have e2 := hw.ss
  have f1 := hw.root
  obtain ⟨k1, k2⟩ := hr.k
  have g1 := hr.rq
  have g2 := hr.er
  have g3 := hr.lk
  have g4 := hr.hd
  clear hw hr
  obtain ⟨k, d, p, s, rq, lk, hd, vs, ss, root⟩ := e
  simp only at *
  unfold pEn cW dC clE
  simp only [Ar]
  rw [iB k1 k2 aA aA, Ak]; simp only
  rw [cN a1, Ak]; simp only
  rw [cN a2, Ak]; simp only
  rw [cN a3, Ak]; simp only
  unfold kY
  rcases (show k = 1 \/ k = 2 \/ k = 3 \/ k = 4 \/ k = 5 \/ k = 6 \/ k = 7 by omega) with h | h | h | h | h | h | h <;> subst h
  · simp [cM9 b1 (g1 rfl) b2 b3 b4]
  · have hv := aZ6 (p := pVr) (e := fI) (l := vs) (m := 512) (fun x hx r => cN2 (e1 x hx).1 (e1 x hx).2.1 (e1 x hx).2.2 r) (by have := (g2 rfl).1; omega) aN (jC fW ss ++ r)
    have hs := aZ6 (p := pSr) (e := fW) (l := ss) (m := 512) (fun x hx r => cN0 (e2 x hx).1 (e2 x hx).2 r) (by have := (g2 rfl).2; omega) aN r
    simp [Ar, hv, hs]
  · simp
  · have hb : pBy 32 (root ++ r) = some (root, r) := by
      unfold pBy
      rw [Aj bO3, <- f1, Cj, List.drop_left]
    simp [hb]
  · simp
  · simp [cM8 (g3 rfl).1 (g3 rfl).2 c1]
  · simp [cM7 d1 d2 (g4 rfl) d3 d4 d5]
section
structure SLO {α:Type} (lt:α->α->Prop):Prop where
 irr:∀a,¬lt a a
 tr:∀a b c,lt a b->lt b c->lt a c
 tri:∀a b,lt a b\/a=b\/lt b a
section
variable {α:Type} {lt:α->α->Prop}
theorem aU3 (h:SLO lt):∀{l m:List α},l.Pairwise lt->m.Pairwise lt->(∀x,x∈l↔x∈m)->l=m
 | [],[],_,_,_=>rfl
 | [],y::m,_,_,hm=>by have:=(hm y).2 aO;cases this
 | x::l,[],_,_,hm=>by have:=(hm x).1 aO;cases this
 | x::l,y::m,hl,hm',hm=>by
  obtain ⟨l1,l2⟩:=Br.1 hl
  obtain ⟨m1,m2⟩:=Br.1 hm'
  have e:x=y:=by
   rcases A3.1 ((hm x).1 aO) with e|hx
   ·exact e
   ·rcases A3.1 ((hm y).2 aO) with e|hy
    ·exact e.symm
    ·exact absurd (h.tr _ _ _ (l1 y hy) (m1 x hx)) (h.irr x)
  subst e
  rw [aU3 h l2 m2 fun z=>?_]
  constructor
  ·intro hz
   rcases A3.1 ((hm z).1 (by simp [hz])) with e|hz'
   ·subst e;exact absurd (l1 z hz) (h.irr z)
   ·exact hz'
  ·intro hz
   rcases A3.1 ((hm z).2 (by simp [hz])) with e|hz'
   ·subst e;exact absurd (m1 z hz) (h.irr z)
   ·exact hz'
theorem rT (h:SLO lt) {l:List α} (hl:l.Pairwise lt):l.Nodup:=by
 rw [List.nodup_iff_pairwise_ne]
 exact hl.imp fun {a b} hab e=>by subst e;exact h.irr a hab
open Classical in
noncomputable def insA (lt:α->α->Prop) (v:α):List α->List α
 | []=>[v]
 | x::l=>if lt v x then v::x::l else if v=x then x::l else x::insA lt v l
theorem wI (v:α):∀(l:List α) (x:α),x∈insA lt v l↔x=v\/x∈l
 | [],x=>by simp [insA]
 | y::l,x=>by
  rw [insA]
  split
  ·rw [A3]
  ·split
   ·rename_i e
    subst e
    rw [A3]
    exact ⟨.inr,fun hx=>hx.elim .inl id⟩
   ·rw [A3,wI v l x,A3]
    constructor
    ·rintro (e|e|e)
     ·exact .inr (.inl e)
     ·exact .inl e
     ·exact .inr (.inr e)
    ·rintro (e|e|e)
     ·exact .inr (.inl e)
     ·exact .inl e
     ·exact .inr (.inr e)
theorem aI4 (h:SLO lt) (v:α):∀{l:List α},l.Pairwise lt->(insA lt v l).Pairwise lt
 | [],_=>Cp _ _
 | y::l,hl=>by
  obtain ⟨l1,l2⟩:=Br.1 hl
  rw [insA]
  split
  ·rename_i hv
   refine Br.2 ⟨fun z hz=>?_,hl⟩
   rcases A3.1 hz with rfl|hz
   ·exact hv
   ·exact h.tr _ _ _ hv (l1 z hz)
  ·rename_i hv
   split
   ·exact hl
   ·rename_i hne
    refine Br.2 ⟨fun z hz=>?_,aI4 h v l2⟩
    rcases (wI v l z).1 hz with rfl|hz
    ·rcases h.tri z y with e|e|e
     ·exact absurd e hv
     ·exact absurd e hne
     ·exact e
    ·exact l1 z hz
noncomputable def ascL (lt:α->α->Prop) (l:List α):List α:=l.foldl (fun m v=>insA lt v m) []
theorem xY (l:List α) (v:α):ascL lt (l++[v])=insA lt v (ascL lt l):=by unfold ascL;rw [Ct];rfl
theorem jX {p:List α->Prop} (h0:p []) (h1:∀l x,p l->p (l++[x])):∀l,p l:=fun l=>by
 have:∀m:List α,p m.reverse:=fun m=>by
  induction m with
  | nil=>exact h0
  | cons x m ih=>rw [List.reverse_cons];exact h1 _ _ ih
 have:=this l.reverse
 rwa [List.reverse_reverse] at this
theorem iI (h:SLO lt) (l:List α):(ascL lt l).Pairwise lt/\∀x,x∈ascL lt l↔x∈l:=by
 refine jX (p:=fun l=>(ascL lt l).Pairwise lt/\∀x,x∈ascL lt l↔x∈l) ⟨List.Pairwise.nil,fun x=>by simp [ascL]⟩ (fun l v ih=>?_) l
 rw [xY]
 refine ⟨aI4 h v ih.1,fun x=>?_⟩
 rw [wI,ih.2 x,Az,AP]
 exact Or.comm
theorem xZ (h:SLO lt) {l m:List α} (hm:m.Pairwise lt) (hx:∀x,x∈m↔x∈l):m=ascL lt l :=
 aU3 h hm (iI h l).1 fun x=>(hx x).trans ((iI h l).2 x).symm
theorem kO (h:SLO lt) {l m:List α} (hm:m.Nodup) (hx:∀x,x∈m↔x∈l):m.length=(ascL lt l).length :=
 ((List.perm_ext_iff_of_nodup hm (rT h (iI h l).1)).2 fun x=>(hx x).trans ((iI h l).2 x).symm).length_eq
theorem bK3 (h:SLO lt) {l m:List α} (hm:m.Nodup) (hd:∀x∈m,x∉l):(ascL lt (l++m)).length=(ascL lt l).length+m.length:=by
 rw [<- Aa]
 refine (kO h (List.nodup_append.2 ⟨rT h (iI h l).1,hm,fun a ha b hb e=>?_⟩) fun x=>?_).symm
 ·subst e
  exact hd a hb (((iI h l).2 a).1 ha)
 ·rw [Az,Az,(iI h l).2 x]
end
def ltV (a b:Ver):Prop:=a.t<b.t\/(a.t=b.t/\(a.s<b.s\/(a.s=b.s/\a.c<b.c)))
def ltS (a b:Src):Prop:=a.t<b.t\/(a.t=b.t/\a.s<b.s)
theorem slo_V:SLO ltV where
 irr a:=by unfold ltV;omega
 tr a b c h1 h2:=by unfold ltV at *;omega
 tri a b:=by
  unfold ltV
  by_cases h:a.t=b.t/\a.s=b.s/\a.c=b.c
  ·obtain ⟨ax,ac,av⟩:=a
   obtain ⟨bt,bc,bv'⟩:=b
   simp only at h
   obtain ⟨rfl,rfl,rfl⟩:=h
   exact .inr (.inl rfl)
  ·rcases (show (a.t<b.t\/(a.t=b.t/\(a.s<b.s\/(a.s=b.s/\a.c<b.c))))\/(b.t<a.t\/(b.t=a.t/\(b.s<a.s\/(b.s=a.s/\b.c<a.c)))) by omega) with h|h
   ·exact .inl h
   ·exact .inr (.inr h)
theorem cA3:SLO ltS where
 irr a:=by unfold ltS;omega
 tr a b c h1 h2:=by unfold ltS at *;omega
 tri a b:=by
  unfold ltS
  by_cases h:a.t=b.t/\a.s=b.s
  ·obtain ⟨ax,av⟩:=a
   obtain ⟨bt,bv'⟩:=b
   simp only at h
   obtain ⟨rfl,rfl⟩:=h
   exact .inr (.inl rfl)
  ·rcases (show (a.t<b.t\/(a.t=b.t/\a.s<b.s))\/(b.t<a.t\/(b.t=a.t/\b.s<a.s)) by omega) with h|h
   ·exact .inl h
   ·exact .inr (.inr h)
theorem cY4:SLO fun a b:Int=>a<b where
 irr a:=by omega
 tr a b c h1 h2:=by omega
 tri a b:=by omega
def jP (l:List LEn):List Ver:=l.flatMap fun e=>if e.k=2 then e.vs else []
def pK (l:List LEn):List Src:=l.flatMap fun e=>if e.k=2 then e.ss else []
def iQ (l:List LEn) (k:Int):Nat:=(l.filter fun e=>decide (e.k=k)).length
def dV (l:List LEn) (k p:Int):Prop:=∃x∈l,x.k=k/\x.plan=p
noncomputable def erasV (l:List LEn):List Ver:=ascL ltV (jP l)
noncomputable def erasS (l:List LEn):List Src:=ascL ltS (pK l)
open Classical in
noncomputable def unfi (l:List LEn):List Int:=ascL (fun a b:Int=>a<b) ((l.filter fun e=>decide (e.k=2/\¬dV l 4 e.plan)).map (·.plan))
noncomputable def doneS (l:List LEn) (p:Int):List Int:=ascL (fun a b:Int=>a<b) ((l.filter fun e=>decide (e.k=3/\e.plan=p)).map (·.step))
structure Fol (l:List LEn) (e:LEn):Prop where
 rd:(pEn (cW e)).isSome=true
 day:0<=e.day/\e.day<=1048576/\∀x,l.getLast? = some x->x.day<=e.day
 rq:e.k=1->1<=e.rq.k/\e.rq.k<=3
 er:e.k=2->e.plan=iQ l 2/\(e.vs≠[]\/e.ss≠[])/\(erasV l).length+e.vs.length<=512/\(erasS l).length+e.ss.length<=512/\(e.vs.Pairwise ltV/\∀v∈e.vs,v∉jP l)/\e.ss.Pairwise ltS/\∀v∈e.ss,v∉pK l
 st:e.k=3->(dV l 2 e.plan/\¬dV l 4 e.plan)/\(0<=e.step/\e.step<128)/\¬∃x∈l,x.k=3/\x.plan=e.plan/\x.step=e.step
 co:e.k=4->dV l 2 e.plan/\¬dV l 4 e.plan
 sg:e.k=5->e.step=iQ l 5/\e.step<4
theorem oT (l:List LEn) (e:LEn):jP (l++[e])=jP l++if e.k=2 then e.vs else []:=by unfold jP;rw [Bc];simp
theorem xX (l:List LEn) (e:LEn):pK (l++[e])=pK l++if e.k=2 then e.ss else []:=by unfold pK;rw [Bc];simp
theorem Fol.more {l:List LEn} {e:LEn} (h:Fol l e):(erasV (l++[e])).length=(erasV l).length+(if e.k=2 then e.vs.length else 0):=by
 unfold erasV
 rw [oT]
 split
 ·rename_i hk
  obtain ⟨_,_,_,_,⟨h1,h2⟩,_⟩:=h.er hk
  exact bK3 slo_V (rT slo_V h1) h2
 ·simp
end
section
theorem mA (u:Nat):0<(rA u).length:=by
 by_cases h:u<128
 ·rw [pB h];simp
 ·rw [rB h];simp
theorem bW1:∀{b:CZ} {i x:Nat} {p:Nat × CZ},pU i x b=some p->p.2.length<b.length
 | [],i,x,p,h=>by rw [pU] at h;cases h
 | c::b,i,x,p,h=>by
  rw [pU] at h
  split at h
  ·cases h
  ·split at h
   ·injection h with h
    rw [<- h,Au]
    exact Bj _
   ·have:=bW1 h
    rw [Au];omega
theorem bW3:∀(b:CZ) (i x m:Nat),i+m=10->1<=m->pU i x (b.take m)=(pU i x b).map fun p=>(p.1,p.2.take (m-(b.length-p.2.length)))
 | [],i,x,m,_,_=>by rw [List.take_nil,pU];rfl
 | c::b,i,x,0,_,h=>by omega
 | c::b,i,x,m+1,h,_=>by
  rw [B2,pU,pU]
  by_cases h9:(i=9/\1<c.toNat)\/(0<i/\c.toNat=0)
  ·rw [Aj h9,Aj h9];rfl
  ·rw [Af h9,Af h9]
   by_cases hc:c.toNat<128
   ·rw [Aj hc,Aj hc,AN]
    simp only [Au]
    rw [show m+1-(b.length+1-b.length)=m by omega]
   ·rw [Af hc,Af hc,bW3 b (i+1) _ m aA aA]
    cases hp:pU (i+1) (x+c.toNat%128*128 ^ i) b with
    | none=>rfl
    | some p =>
     have:=bW1 hp
     rw [AN,AN]
     simp only [Au]
     rw [show m+1-(b.length+1-p.2.length)=m-(b.length-p.2.length) by omega]
section
variable (kd:CZ->CZ->CZ)
def jA (ch:CZ) (e:LEn):CZ:=bO (cW e).length++(cW e++kd ch (cW e))
def oM (ch b:CZ):Option (LEn × CZ × Nat) :=
 (cQ b).bind fun p =>
  if 0<=p.1/\p.1+32<=p.2.length then
   (pEn (p.2.take p.1.toNat)).bind fun e =>
    if e.2=[]/\kd ch (p.2.take p.1.toNat)=(p.2.drop p.1.toNat).take 32 then some (e.1,kd ch (p.2.take p.1.toNat),b.length-p.2.length+p.1.toNat+32) else none
  else none
variable {kd}
theorem bG6 (hkd:∀c b,(kd c b).length=32) {e:LEn} (hw:e.wf) (hr:e.rd) (hl:(cW e).length<=9223372036854775807) (ch r:CZ):oM kd ch (jA kd ch e++r)=some (clE e,kd ch (cW e),(jA kd ch e).length):=by
 have hp:=uI hw hr []
 rw [A2] at hp
 have h32:=hkd ch (cW e)
 unfold oM jA
 rw [Ar,sM aA aA,Ak]
 simp only [Bk,Ar,Cj,List.drop_left]
 rw [Aj ⟨by omega,by simp only [Aa];omega⟩,hp,Ak]
 have e1:(kd ch (cW e)++r).take 32=kd ch (cW e):=by rw [<- h32,Cj]
 simp only [e1,and_self,B9]
 simp only [Aa]
 congr 3
 omega
end
end
section
theorem cZ7 (v:Vl):clV (clV v)=clV v:=cZ8 (aJ1 v)
theorem vV (i:Idf):gC (clI i)=gC i:=by unfold gC clI;simp only [cZ7]
theorem cH1 (e:LEn):cW (clE e)=cW e:=by
 obtain ⟨k,d,p,s,rq,lk,hd,vs,ss,root⟩:=e
 unfold cW clE dC
 simp only
 congr 4
 by_cases h1:k=1
 ·simp only [h1,B9,nH,vV]
 ·by_cases h2:k=2
  ·simp [h2]
  ·by_cases h4:k=4
   ·simp [h4]
   ·by_cases h6:k=6
    ·simp [h6,nG,vV]
    ·by_cases h7:k=7
     ·simp [h7,nF,vV]
     ·simp [h1,h2,h4,h6,h7]
theorem bL4 {e:LEn} (h:e.k=2):(clE e).vs=e.vs/\(clE e).ss=e.ss:=by unfold clE;simp [h]
def FolL (l:List LEn):Prop:=∀i e,l[i]? = some e->Fol (l.take i) e
section
variable (kd:CZ->CZ->CZ)
open Classical in
noncomputable def parF:Nat->List LEn->CZ->CZ->List LEn × Nat × CZ
 | 0,l,ch,_=>(l,0,ch)
 | f+1,l,ch,b=>match oM kd ch b with
  | none=>(l,0,ch)
  | some (e,c,n)=>if Fol l e/\l.length<512 then ((parF f (l++[e]) c (b.drop n)).1,n+(parF f (l++[e]) c (b.drop n)).2.1,(parF f (l++[e]) c (b.drop n)).2.2) else (l,0,ch)
def dR5:CZ->List LEn->CZ
 | _,[]=>[]
 | ch,e::l=>jA kd ch e++dR5 (kd ch (cW e)) l
variable {kd}
theorem bV0 (ch:CZ):oM kd ch []=none:=rfl
end
end
structure RS where
 b:CZ
 e:Int
def eU:Nat->CZ->Int
 | _,[]=>100
 | i,c::b=>if (i=9/\1<c.toNat)\/(0<i/\c.toNat=0) then 1 else if c.toNat<128 then 1 else eU (i+1) b
theorem bQ1:∀(i:Nat) (b:CZ),eU i b=1\/eU i b=100
 | _,[] => .inr rfl
 | i,c::b=>by
  rw [eU]
  split
  ·exact .inl rfl
  ·split
   ·exact .inl rfl
   ·exact bQ1 (i+1) b
theorem dJ6 (i:Nat) (b:CZ):eU i b≠0:=by rcases bQ1 i b with h|h<;>rw [h]<;>decide
def bI (s:RS):Int × RS:=if s.e≠0 then (0,s) else match cQ s.b with
 | some (n,r)=>(n,⟨r,0⟩)
 | none=>(0,⟨s.b,eU 0 s.b⟩)
def rIn (lo hi:Int) (s:RS):Int × RS:=if (bI s).2.e=0/\((bI s).1<lo\/hi<(bI s).1) then (0,⟨(bI s).2.b,1⟩) else bI s
def rBy (n:Nat) (s:RS):CZ × RS:=if s.e≠0 then ([],s) else if s.b.length<n then ([],⟨s.b,100⟩) else (s.b.take n,⟨s.b.drop n,0⟩)
def rTx (m:Int) (s:RS):CZ × RS:=rBy (rIn 0 m s).1.toNat (rIn 0 m s).2
def rVl (f:RS->Int × RS) (s:RS):Vl × RS :=
 if (rIn 0 2 s).1=1 then (⟨1,(f (rIn 0 2 s).2).1,[]⟩,(f (rIn 0 2 s).2).2)
 else if (rIn 0 2 s).1=2 then (⟨2,0,(rTx 32 (rIn 0 2 s).2).1⟩,(rTx 32 (rIn 0 2 s).2).2)
 else (⟨(rIn 0 2 s).1,0,[]⟩,(rIn 0 2 s).2)
def aK0:RS->Int × RS:=rIn (-4294967296) 4294967296
def dS2 (s:RS):Int × RS:=if (bI s).1 < -4294967296\/4294967296<(bI s).1 then ((bI s).1,⟨(bI s).2.b,if (bI s).2.e=0 then 1 else (bI s).2.e⟩) else bI s
def rId (f:RS->Int × RS) (s:RS):Idf × RS:=(⟨(rTx 16 s).1,(rVl f (rTx 16 s).2).1⟩,(rVl f (rTx 16 s).2).2)
def rVr (s:RS):Ver × RS:=(⟨(bI s).1,(bI (bI (bI s).2).2).1,(bI (bI s).2).1⟩,(bI (bI (bI s).2).2).2)
def rSr (s:RS):Src × RS:=(⟨(bI s).1,(bI (bI s).2).1⟩,(bI (bI s).2).2)
def gE {α:Type} (f:RS->α × RS):Nat->RS->Option (List α) × RS
 | 0,s=>(some [],s)
 | n+1,s=>if (f s).2.e≠0 then (none,(f s).2) else ((gE f n (f s).2).1.map ((f s).1 :: ·),(gE f n (f s).2).2)
def pQ {α:Type} (f:RS->α × RS):Nat->RS->List α × RS
 | 0,s=>([],s)
 | n+1,s=>if s.e≠0 then ([],s) else ((f s).1::(pQ f n (f s).2).1,(pQ f n (f s).2).2)
def rLs {α:Type} (f:RS->α × RS) (m:Int) (s:RS):List α × RS:=((gE f (rIn 0 m s).1.toNat (rIn 0 m s).2).1.getD [],(gE f (rIn 0 m s).1.toNat (rIn 0 m s).2).2)
def dM2 {α:Type} (f:RS->α × RS) (m:Int) (s:RS):List α × RS:=pQ f (rIn 0 m s).1.toNat (rIn 0 m s).2
def rLk (f:RS->Int × RS) (s:RS):LLk × RS :=
 let a:=rId f s;let b:=rId f a.2;let n:=bI b.2;let r:=rIn 0 1 n.2
 (⟨a.1,b.1,n.1,decide (r.1=1)⟩,r.2)
def rHd (f:RS->Int × RS) (s:RS):LHd × RS :=
 let t:=bI s;let c:=bI t.2;let w:=rId f c.2;let n:=bI w.2;let x:=bI n.2;let y:=bI x.2
 (⟨t.1,c.1,w.1,n.1,x.1,y.1⟩,y.2)
def rRq (f:RS->Int × RS) (s:RS):LRq × RS :=
 let k:=bI s;let w:=rId f k.2;let n:=bI w.2;let x:=bI n.2;let y:=bI x.2
 (⟨k.1,w.1,n.1,x.1,y.1⟩,y.2)
def rDg (s:RS):CZ × RS:=(if (rBy 32 s).1=[] then root0 else (rBy 32 s).1,(rBy 32 s).2)
def dS1 (s:RS):Int × RS:=if (bI s).1<1\/7<(bI s).1 then ((bI s).1,⟨(bI s).2.b,if (bI s).2.e=0 then 1 else (bI s).2.e⟩) else bI s
structure RP where
 ki:RS->Int × RS
 nu:RS->Int × RS
 vs:RS->List Ver × RS
 ss:RS->List Src × RS
def rpP:RP:=⟨rIn 1 7,aK0,rLs rVr 512,rLs rSr 512⟩
def rpR:RP:=⟨dS1,dS2,dM2 rVr 512,dM2 rSr 512⟩
def oP (p:RP) (k d pl st:Int) (s:RS):LEn × RS :=
 if k=1 then (⟨k,d,pl,st,(rRq p.nu s).1,lk0,hd0,[],[],root0⟩,(rRq p.nu s).2)
 else if k=2 then (⟨k,d,pl,st,rq0,lk0,hd0,(p.vs s).1,(p.ss (p.vs s).2).1,root0⟩,(p.ss (p.vs s).2).2)
 else if k=4 then (⟨k,d,pl,st,rq0,lk0,hd0,[],[],(rDg s).1⟩,(rDg s).2)
 else if k=6 then (⟨k,d,pl,st,rq0,(rLk p.nu s).1,hd0,[],[],root0⟩,(rLk p.nu s).2)
 else if k=7 then (⟨k,d,pl,st,rq0,lk0,(rHd p.nu s).1,[],[],root0⟩,(rHd p.nu s).2)
 else (⟨k,d,pl,st,rq0,lk0,hd0,[],[],root0⟩,s)
def rEn (p:RP) (s:RS):LEn × RS :=
 let k:=p.ki s;let d:=bI k.2;let pl:=bI d.2;let st:=bI pl.2
 oP p k.1 d.1 pl.1 st.1 st.2
structure Rd {α:Type} (f:RS->α × RS) (p:CZ->Option (α × CZ)):Prop where
 y:∀b x r,p b=some (x,r)->f ⟨b,0⟩=(x,⟨r,0⟩)
 n:∀b,p b=none->(f ⟨b,0⟩).2.e≠0
 x:∀s,s.e≠0->(f s).2.e≠0
theorem Rd.of {α:Type} {f:RS->α × RS} {p:CZ->Option (α × CZ)} (h:Rd f p) (b:CZ):(∃x r,p b=some (x,r)/\f ⟨b,0⟩=(x,⟨r,0⟩))\/(p b=none/\(f ⟨b,0⟩).2.e≠0):=by
 cases hp:p b with
 | none=>exact .inr ⟨rfl,h.n b hp⟩
 | some q=>obtain ⟨x,r⟩:=q;exact .inl ⟨x,r,rfl,h.y b x r hp⟩
theorem one_ne:(1:Int)≠0:=by decide
theorem dC1:(100:Int)≠0:=by decide
theorem rd_int:Rd bI cQ:=by
 refine ⟨fun b x r h=>?_,fun b h=>?_,fun s h=>?_⟩
 ·simp [bI,h]
 ·simp [bI,h,dJ6]
 ·simp [bI,h]
theorem pR (lo hi:Int):Rd (rIn lo hi) (pIn lo hi):=by
 refine ⟨fun b x r h=>?_,fun b h=>?_,fun s h=>?_⟩
 ·unfold pIn at h
  rcases rd_int.of b with ⟨n,q,h1,h2⟩|⟨h1,h2⟩
  ·rw [h1,Ak] at h
   split at h
   ·rename_i hb
    injection h with h;injection h with e1 e2
    simp only at e1 e2 hb
    subst e1 e2
    rw [rIn,h2,Af (by simp only;omega)]
   ·cases h
  ·rw [h1] at h;cases h
 ·unfold pIn at h
  rcases rd_int.of b with ⟨n,q,h1,h2⟩|⟨h1,h2⟩
  ·rw [h1,Ak] at h
   split at h
   ·cases h
   ·rename_i hb
    simp only at hb
    rw [rIn,h2,Aj (by simp only;exact ⟨trivial,by omega⟩)]
    exact one_ne
  ·rw [rIn,Af (fun h=>h2 h.1)]
   exact h2
 ·have h2:=rd_int.x s h
  rw [rIn,Af (fun h=>h2 h.1)]
  exact h2
theorem wU (n:Nat):Rd (rBy n) (pBy n):=by
 refine ⟨fun b x r h=>?_,fun b h=>?_,fun s h=>?_⟩
 ·unfold pBy at h
  split at h
  ·injection h with h;injection h with e1 e2
   subst e1 e2
   rw [rBy,Af aO,Af (by simp only;omega)]
  ·cases h
 ·unfold pBy at h
  split at h
  ·cases h
  ·rw [rBy,Af aO,Aj (by simp only;omega)]
   exact dC1
 ·rw [rBy,Aj h];exact h
theorem bA2 (m:Int):Rd (rTx m) (pTx m):=by
 refine ⟨fun b x r h=>?_,fun b h=>?_,fun s h=>?_⟩
 ·unfold pTx at h
  rcases (pR 0 m).of b with ⟨n,q,h1,h2⟩|⟨h1,h2⟩
  ·rw [h1,Ak] at h
   rw [rTx,h2]
   exact (wU _).y _ _ _ h
  ·rw [h1] at h;cases h
 ·unfold pTx at h
  rcases (pR 0 m).of b with ⟨n,q,h1,h2⟩|⟨h1,h2⟩
  ·rw [h1,Ak] at h
   rw [rTx,h2]
   exact (wU _).n _ h
  ·exact (wU _).x _ h2
 ·exact (wU _).x _ ((pR 0 m).x s h)
theorem dE3:Rd aK0 (pIn (-4294967296) 4294967296):=pR _ _
theorem dN0 {f:RS->Int × RS} (hf:Rd f (pIn (-4294967296) 4294967296)):Rd (rVl f) pVl:=by
 have hx:∀s,(rIn 0 2 s).2.e≠0->(rVl f s).2.e≠0:=fun s h=>by
  unfold rVl
  split
  ·exact hf.x _ h
  ·split
   ·exact (bA2 32).x _ h
   ·exact h
 refine ⟨fun b x r h=>?_,fun b h=>?_,fun s h=>hx s ((pR 0 2).x s h)⟩
 ·unfold pVl at h
  rcases (pR 0 2).of b with ⟨k,q,h1,h2⟩|⟨h1,h2⟩
  ·rw [h1,Ak] at h
   unfold rVl
   rw [h2]
   simp only at h ⊢
   by_cases hk1:k=1
   ·rw [Aj hk1] at h ⊢
    obtain ⟨y,hy,he⟩:=As.1 h
    rw [hf.y _ _ _ hy]
    injection he with e1 e2
    subst e1 e2
    rfl
   ·rw [Af hk1] at h ⊢
    by_cases hk2:k=2
    ·rw [Aj hk2] at h ⊢
     obtain ⟨y,hy,he⟩:=As.1 h
     rw [(bA2 32).y _ _ _ hy]
     injection he with e1 e2
     subst e1 e2
     rfl
    ·rw [Af hk2] at h ⊢
     injection h with h;injection h with e1 e2
     subst e1 e2
     have hk0:k=0:=by
      unfold pIn at h1
      cases hp:cQ b with
      | none=>rw [hp] at h1;cases h1
      | some q' =>
       rw [hp,Ak] at h1
       split at h1
       ·rename_i hb
        injection h1 with h1
        rw [h1] at hb
        simp only at hb
        omega
       ·cases h1
     subst hk0
     rfl
  ·rw [h1] at h;cases h
 ·unfold pVl at h
  rcases (pR 0 2).of b with ⟨k,q,h1,h2⟩|⟨h1,h2⟩
  ·rw [h1,Ak] at h
   unfold rVl
   rw [h2]
   simp only at h ⊢
   by_cases hk1:k=1
   ·rw [Aj hk1] at h ⊢
    exact hf.n _ nS
   ·rw [Af hk1] at h ⊢
    by_cases hk2:k=2
    ·rw [Aj hk2] at h ⊢
     exact (bA2 32).n _ nS
    ·rw [Af hk2] at h;cases h
  ·exact hx _ h2
section
variable {α β:Type} {f:RS->α × RS} {p:CZ->Option (α × CZ)} (hf:Rd f p)
include α β f p hf
theorem Rd.bind {g:α->RS->β × RS} {q:α->CZ->Option (β × CZ)} (hg:∀a,Rd (g a) (q a)):Rd (fun s=>g (f s).1 (f s).2) (fun b=>(p b).bind fun x=>q x.1 x.2):=by
 refine ⟨fun b x r h=>?_,fun b h=>?_,fun s h=>(hg _).x _ (hf.x s h)⟩
 ·rcases hf.of b with ⟨n,t,h1,h2⟩|⟨h1,h2⟩
  ·simp only [h1,Ak] at h
   simp only [h2]
   exact (hg n).y _ _ _ h
  ·simp only [h1] at h;cases h
 ·rcases hf.of b with ⟨n,t,h1,h2⟩|⟨h1,h2⟩
  ·simp only [h1,Ak] at h
   simp only [h2]
   exact (hg n).n _ h
  ·exact (hg _).x _ h2
theorem Rd.map (g:α->β):Rd (fun s=>(g (f s).1,(f s).2)) (fun b=>(p b).map fun x=>(g x.1,x.2)):=by
 refine ⟨fun b x r h=>?_,fun b h=>?_,fun s h=>hf.x s h⟩
 ·obtain ⟨y,hy,he⟩:=As.1 h
  injection he with e1 e2
  subst e1 e2
  simp only [hf.y _ _ _ hy]
 ·exact hf.n b nS
end
theorem Rd.pure {α:Type} (a:α):Rd (fun s=>(a,s)) (fun b=>some (a,b)):=⟨fun b x r h=>by injection h with h;injection h with e1 e2;subst e1 e2;rfl,fun b h=>kB,fun s h=>h⟩
theorem bA1 {f:RS->Int × RS} (hf:Rd f (pIn (-4294967296) 4294967296)):Rd (rId f) pId:=by
 have hfin:=(bA2 16).bind (β:=Idf) (g:=fun a s=>(⟨a,(rVl f s).1⟩,(rVl f s).2)) (q:=fun a b=>(pVl b).map fun q=>(⟨a,q.1⟩,q.2)) fun a=>(dN0 hf).map (fun v=>(⟨a,v⟩:Idf))
 exact hfin
theorem dN1:Rd rVr pVr:=by
 have hfin:=rd_int.bind (β:=Ver) (g:=fun t s=>(⟨t,(bI (bI s).2).1,(bI s).1⟩,(bI (bI s).2).2)) (q:=fun t b=>(cQ b).bind fun q=>(cQ q.2).map fun w=>(⟨t,w.1,q.1⟩,w.2)) fun t =>
 rd_int.bind (β:=Ver) (g:=fun x s=>(⟨t,(bI s).1,x⟩,(bI s).2)) (q:=fun x b=>(cQ b).map fun w=>(⟨t,w.1,x⟩,w.2)) fun x=>rd_int.map (fun w=>(⟨t,w,x⟩:Ver))
 exact hfin
theorem dM9:Rd rSr pSr:=by
 have hfin:=rd_int.bind (β:=Src) (g:=fun t s=>(⟨t,(bI s).1⟩,(bI s).2)) (q:=fun t b=>(cQ b).map fun q=>(⟨t,q.1⟩,q.2)) fun t=>rd_int.map (fun w=>(⟨t,w⟩:Src))
 exact hfin
theorem bX1 {α:Type} {f:RS->α × RS} {p:CZ->Option (α × CZ)} (hf:Rd f p):∀n,Rd (fun s=>((gE f n s).1.getD [],(gE f n s).2)) (wS p n)
 | 0=>⟨fun b x r h=>by injection h with h;injection h with e1 e2;subst e1 e2;rfl,fun b h=>kB,fun s h=>h⟩
 | n+1=>by
  have ih:=bX1 hf n
  refine ⟨fun b x r h=>?_,fun b h=>?_,fun s h=>?_⟩
  ·rw [wS] at h
   rcases hf.of b with ⟨a,t,h1,h2⟩|⟨h1,h2⟩
   ·rw [h1,Ak] at h
    obtain ⟨y,hy,he⟩:=As.1 h
    injection he with e1 e2
    subst e1 e2
    have hi:=ih.y _ _ _ hy
    simp only [gE,h2,ne_eq,BD,AY]
    injection hi with i1 i2
    have hne:=(gE f n ⟨t,0⟩).1
    cases hr:(gE f n ⟨t,0⟩).1 with
    | none =>
     exfalso
     have:∀(n:Nat) (s:RS),s.e=0->(gE f n s).1=none->(gE f n s).2.e≠0:=by
      intro n
      induction n with
      | zero=>intro s _ h;cases h
      | succ n ihn =>
       intro s hs h
       rw [gE] at h ⊢
       split
       ·rename_i hne;exact hne
       ·rename_i hne
        rw [Af hne] at h
        simp only [Option.map_eq_none_iff] at h
        exact ihn _ (by simpa using hne) h
     exact this n ⟨t,0⟩ rfl hr (by rw [i2])
    | some l =>
     rw [hr] at i1
     simp only [CP] at i1
     rw [AN,CP,i1,i2]
   ·rw [h1] at h;cases h
  ·rw [wS] at h
   rcases hf.of b with ⟨a,t,h1,h2⟩|⟨h1,h2⟩
   ·rw [h1,Ak] at h
    simp only [gE,h2,ne_eq,BD,AY]
    exact ih.n _ nS
   ·simp only [gE]
    rw [Aj h2]
    exact h2
  ·simp only [gE]
   rw [Aj (hf.x s h)]
   exact hf.x s h
theorem cX7 {α:Type} {f:RS->α × RS} {p:CZ->Option (α × CZ)} (hf:Rd f p) (m:Int):Rd (rLs f m) (pLs p m):=by
 have hfin:=(pR 0 m).bind (g:=fun n s=>((gE f n.toNat s).1.getD [],(gE f n.toNat s).2)) (q:=fun n b=>wS p n.toNat b) fun n=>bX1 hf n.toNat
 exact hfin
section
variable {f:RS->Int × RS} (hf:Rd f (pIn (-4294967296) 4294967296))
include f hf
theorem dM6:Rd (rLk f) pLk:=by
 have hfin:=(bA1 hf).bind (β:=LLk) (g:=fun a s=>let b:=rId f s;let n:=bI b.2;let r:=rIn 0 1 n.2;(⟨a,b.1,n.1,decide (r.1=1)⟩,r.2)) (q:=fun a b=>(pId b).bind fun q=>(cQ q.2).bind fun s=>(pIn 0 1 s.2).map fun t=>(⟨a,q.1,s.1,decide (t.1=1)⟩,t.2)) fun a =>
 (bA1 hf).bind (β:=LLk) (g:=fun b s=>let n:=bI s;let r:=rIn 0 1 n.2;(⟨a,b,n.1,decide (r.1=1)⟩,r.2)) (q:=fun b c=>(cQ c).bind fun s=>(pIn 0 1 s.2).map fun t=>(⟨a,b,s.1,decide (t.1=1)⟩,t.2)) fun b =>
 rd_int.bind (β:=LLk) (g:=fun n s=>let r:=rIn 0 1 s;(⟨a,b,n,decide (r.1=1)⟩,r.2)) (q:=fun n c=>(pIn 0 1 c).map fun t=>(⟨a,b,n,decide (t.1=1)⟩,t.2)) fun n=>(pR 0 1).map (fun t=>(⟨a,b,n,decide (t=1)⟩:LLk))
 exact hfin
theorem dM5:Rd (rHd f) pHd:=by
 have hfin:=rd_int.bind (β:=LHd) (g:=fun t s=>let c:=bI s;let w:=rId f c.2;let n:=bI w.2;let x:=bI n.2;let y:=bI x.2;(⟨t,c.1,w.1,n.1,x.1,y.1⟩,y.2)) (q:=fun t b=>(cQ b).bind fun c=>(pId c.2).bind fun w=>(cQ w.2).bind fun s=>(cQ s.2).bind fun f=>(cQ f.2).map fun o=>(⟨t,c.1,w.1,s.1,f.1,o.1⟩,o.2)) fun t =>
 rd_int.bind (β:=LHd) (g:=fun c s=>let w:=rId f s;let n:=bI w.2;let x:=bI n.2;let y:=bI x.2;(⟨t,c,w.1,n.1,x.1,y.1⟩,y.2)) (q:=fun c b=>(pId b).bind fun w=>(cQ w.2).bind fun s=>(cQ s.2).bind fun f=>(cQ f.2).map fun o=>(⟨t,c,w.1,s.1,f.1,o.1⟩,o.2)) fun c =>
 (bA1 hf).bind (β:=LHd) (g:=fun w s=>let n:=bI s;let x:=bI n.2;let y:=bI x.2;(⟨t,c,w,n.1,x.1,y.1⟩,y.2)) (q:=fun w b=>(cQ b).bind fun s=>(cQ s.2).bind fun f=>(cQ f.2).map fun o=>(⟨t,c,w,s.1,f.1,o.1⟩,o.2)) fun w =>
 rd_int.bind (β:=LHd) (g:=fun n s=>let x:=bI s;let y:=bI x.2;(⟨t,c,w,n,x.1,y.1⟩,y.2)) (q:=fun n b=>(cQ b).bind fun f=>(cQ f.2).map fun o=>(⟨t,c,w,n,f.1,o.1⟩,o.2)) fun n =>
 rd_int.bind (β:=LHd) (g:=fun x s=>let y:=bI s;(⟨t,c,w,n,x,y.1⟩,y.2)) (q:=fun x b=>(cQ b).map fun o=>(⟨t,c,w,n,x,o.1⟩,o.2)) fun x=>rd_int.map (fun y=>(⟨t,c,w,n,x,y⟩:LHd))
 exact hfin
theorem dM8:Rd (rRq f) pRq:=by
 have hfin:=rd_int.bind (β:=LRq) (g:=fun k s=>let w:=rId f s;let n:=bI w.2;let x:=bI n.2;let y:=bI x.2;(⟨k,w.1,n.1,x.1,y.1⟩,y.2)) (q:=fun k b=>(pId b).bind fun w=>(cQ w.2).bind fun s=>(cQ s.2).bind fun d=>(cQ d.2).map fun o=>(⟨k,w.1,s.1,d.1,o.1⟩,o.2)) fun k =>
 (bA1 hf).bind (β:=LRq) (g:=fun w s=>let n:=bI s;let x:=bI n.2;let y:=bI x.2;(⟨k,w,n.1,x.1,y.1⟩,y.2)) (q:=fun w b=>(cQ b).bind fun s=>(cQ s.2).bind fun d=>(cQ d.2).map fun o=>(⟨k,w,s.1,d.1,o.1⟩,o.2)) fun w =>
 rd_int.bind (β:=LRq) (g:=fun n s=>let x:=bI s;let y:=bI x.2;(⟨k,w,n,x.1,y.1⟩,y.2)) (q:=fun n b=>(cQ b).bind fun d=>(cQ d.2).map fun o=>(⟨k,w,n,d.1,o.1⟩,o.2)) fun n =>
 rd_int.bind (β:=LRq) (g:=fun x s=>let y:=bI s;(⟨k,w,n,x,y.1⟩,y.2)) (q:=fun x b=>(cQ b).map fun o=>(⟨k,w,n,x,o.1⟩,o.2)) fun x=>rd_int.map (fun y=>(⟨k,w,n,x,y⟩:LRq))
 exact hfin
end
theorem rd_dg:Rd rDg (pBy 32):=by
 refine ⟨fun b x r h=>?_,fun b h=>(wU 32).n b h,fun s h=>(wU 32).x s h⟩
 have h1:=(wU 32).y _ _ _ h
 unfold pBy at h
 split at h
 ·rename_i hl
  injection h with h;injection h with e1 e2
  have hx:x≠[]:=fun e=>by
   have:=congrArg List.length e1
   rw [e,A1] at this
   simp only [Bo] at this
   omega
  unfold rDg
  rw [h1]
  simp only
  rw [Af hx]
 ·cases h
theorem cN5 {p:RP} (h1:Rd p.nu (pIn (-4294967296) 4294967296)) (h2:Rd p.vs (pLs pVr 512)) (h3:Rd p.ss (pLs pSr 512)) (k d pl st:Int):Rd (oP p k d pl st) (kY k d pl st):=by
 have e:oP p k d pl st=fun s=>oP p k d pl st s:=rfl
 have e':kY k d pl st=fun b=>kY k d pl st b:=rfl
 rw [e,e']
 unfold oP kY
 by_cases k1:k=1
 ·simp only [Aj k1]
  exact (dM8 h1).map (fun x=>(⟨k,d,pl,st,x,lk0,hd0,[],[],root0⟩:LEn))
 ·simp only [Af k1]
  by_cases k2:k=2
  ·simp only [Aj k2]
   have hfin:=h2.bind (β:=LEn) (g:=fun v s=>(⟨k,d,pl,st,rq0,lk0,hd0,v,(p.ss s).1,root0⟩,(p.ss s).2)) (q:=fun v b=>(pLs pSr 512 b).map fun x=>(⟨k,d,pl,st,rq0,lk0,hd0,v,x.1,root0⟩,x.2)) fun v=>h3.map (fun x=>(⟨k,d,pl,st,rq0,lk0,hd0,v,x,root0⟩:LEn))
   exact hfin
  ·simp only [Af k2]
   by_cases k4:k=4
   ·simp only [Aj k4]
    exact rd_dg.map (fun x=>(⟨k,d,pl,st,rq0,lk0,hd0,[],[],x⟩:LEn))
   ·simp only [Af k4]
    by_cases k6:k=6
    ·simp only [Aj k6]
     exact (dM6 h1).map (fun x=>(⟨k,d,pl,st,rq0,x,hd0,[],[],root0⟩:LEn))
    ·simp only [Af k6]
     by_cases k7:k=7
     ·simp only [Aj k7]
      exact (dM5 h1).map (fun x=>(⟨k,d,pl,st,rq0,lk0,x,[],[],root0⟩:LEn))
     ·simp only [Af k7]
      exact Rd.pure _
theorem dM4 {p:RP} (h0:Rd p.ki (pIn 1 7)) (h1:Rd p.nu (pIn (-4294967296) 4294967296)) (h2:Rd p.vs (pLs pVr 512)) (h3:Rd p.ss (pLs pSr 512)):Rd (rEn p) pEn:=by
 have hfin:=h0.bind (β:=LEn) (g:=fun k s=>let d:=bI s;let pl:=bI d.2;let st:=bI pl.2;oP p k d.1 pl.1 st.1 st.2) (q:=fun k b=>(cQ b).bind fun d=>(cQ d.2).bind fun p=>(cQ p.2).bind fun s=>kY k d.1 p.1 s.1 s.2) fun k =>
 rd_int.bind (β:=LEn) (g:=fun d s=>let pl:=bI s;let st:=bI pl.2;oP p k d pl.1 st.1 st.2) (q:=fun d b=>(cQ b).bind fun p=>(cQ p.2).bind fun s=>kY k d p.1 s.1 s.2) fun d =>
 rd_int.bind (β:=LEn) (g:=fun pl s=>let st:=bI s;oP p k d pl st.1 st.2) (q:=fun pl b=>(cQ b).bind fun s=>kY k d pl s.1 s.2) fun pl =>
 rd_int.bind (β:=LEn) (g:=fun st s=>oP p k d pl st s) (q:=fun st b=>kY k d pl st b) fun st=>cN5 h1 h2 h3 k d pl st
 exact hfin
theorem rd_enP:Rd (rEn rpP) pEn:=dM4 (pR 1 7) dE3 (cX7 dN1 512) (cX7 dM9 512)
end Go.Proofs.YtbgehdndimlgkaaGreat
