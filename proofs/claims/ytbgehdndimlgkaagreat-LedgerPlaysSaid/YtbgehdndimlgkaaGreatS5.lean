/- Lemmas for laws of the ledger. -/
import Derived.Test.YtbgehdndimlgkaaGreatS4
set_option linter.all false
namespace Go.Proofs.YtbgehdndimlgkaaGreat
open Go Go.RowKit Go.Av
section
abbrev iv (n:Int):CV := .v (.int .i64 n)
abbrev bv (b:Bool):CV := .v (.bool b)
abbrev uv (x:BitVec 64):CV := .v (.int .u64 (x.toNat:Int))
abbrev sv (l:Dm):CV := .v (.string ⟨l.toArray⟩)
theorem bsz (bs:ByteArray):bs.data.toList.length=bs.size:=by rw [A9];rfl
theorem dF3 (bs:ByteArray):∀(n i:Nat) (r:Dm),bs.size-i=n->ByteArray.toList.loop bs i r=r.reverse++bs.data.toList.drop i:=by
 intro n
 induction n with
 | zero =>
  intro i r h
  rw [ByteArray.toList.loop,Aj aA]
  have:=bsz bs
  rw [List.drop_eq_nil_of_le aA,A4]
 | succ n ih =>
  intro i r h
  rw [ByteArray.toList.loop,Ak aA,ih (i+1) _ aA]
  have hl:i<bs.data.toList.length:=by have:=bsz bs;omega
  rw [B6 hl]
  have:bs.get! i=bs.data.toList[i]:=by
   have h2:i<bs.data.size:=by simpa using hl
   rw [ByteArray.get!,Cg bs.data i h2,Cr]
  rw [this]
  simp
theorem bC0 (l:Dm):(⟨l.toArray⟩:ByteArray).toList=l:=by
 rw [ByteArray.toList,dF3 _ _ 0 [] rfl]
 simp
section
variable {P:Dv} {tab:Tab} {ev:Evl} {h:aO} {d:Dt} {T ty:Du} {x y z:Operand} {pos:String} {aft:Ds} {gd:Dn}
theorem eC5 {T':Du} {s t:Dm} {b:Bool} (hx:ev x=some (.c (sv s))) (hy:ev y=some (.c (sv t))) (hr:decide (s=t)=b):Still P ⟨d,.binOp .eql T x y T',ty,pos,aft,gd⟩ ev h (.c (.v (.bool b))) :=
 aE6 hx hy (by rw [bC0,bC0];exact hr)
end
theorem aR8 (l:Dm):(⟨l.toArray⟩:ByteArray).size=l.length:=by simp [ByteArray.size]
end
structure Vl where
 k:Int
 n:Int
 t:Dm
deriving DecidableEq
def Vl.nul:Vl:=⟨0,0,[]⟩
def Vl.c (v:Vl):D1:=[iv v.k,iv v.n,sv v.t]
def okP (v:Vl):Prop:=(v.k=0/\v.n=0/\v.t=[])\/(v.k=1 /\ -4294967296<=v.n/\v.n<=4294967296/\v.t=[])\/(v.k=2/\v.n=0/\v.t.length<=32)
instance (v:Vl):Decidable (okP v):=by unfold okP;infer_instance
def okV (v:Vl):Bool:=decide (okP v)
def clV (v:Vl):Vl:=if okV v then v else Vl.nul
theorem bG2:okP Vl.nul := .inl ⟨rfl,rfl,rfl⟩
theorem aJ5 (v:Vl):okP (clV v):=by
 unfold clV
 split
 ·rename_i h;exact CB h
 ·exact bG2
theorem dW1 {v:Vl} (h:okP v):clV v=v:=by unfold clV okV;rw [AP h];rfl
def cN0 (n:Nat):UInt8:=UInt8.ofNat n
def esc (b:UInt8):Dm:=if b=0 then [0,255] else [b]
def eR0 (m:Nat):Dm:=[2,cN0 (m / 2 ^ 32),cN0 (m / 2 ^ 24),cN0 (m / 2 ^ 16),cN0 (m / 2 ^ 8),cN0 m]
def eR2 (v:Vl):Dm:=if v.k=1 then eR0 (v.n+4294967296).toNat else if v.k=2 then 3::v.t.flatMap esc++[0,0] else [1]
def eR1 (r:List Vl):Dm:=r.flatMap fun v=>eR2 (clV v)
def dS6 (h:BitVec 64) (b:UInt8):BitVec 64:=(h ^^^ BitVec.ofNat 64 b.toNat)*1099511628211#64
def eJ1 (l:Dm):BitVec 64:=l.foldl dS6 14695981039346656037#64
def eW1 (v:Vl) (row:UInt8):BitVec 64:=dS6 (eJ1 (eR1 [v])) row
def rc (r:List Vl):D1:=r.flatMap Vl.c
def wide (v:Vl):Prop:=(-9223372036854775808<=v.k/\v.k<=9223372036854775807)/\(-9223372036854775808<=v.n/\v.n<=9223372036854775807)/\v.t.length<=maxLen
end Go.Proofs.YtbgehdndimlgkaaGreat
namespace Go.Proofs.YtbgehdndimlgkaaGreat
open Go Go.RowKit Go.Av
set_option maxRecDepth 100000
def mZ (u:Nat):Dm:=if h:u<128 then [UInt8.ofNat u] else UInt8.ofNat (u%128+128)::mZ (u / 128)
termination_by u
decreasing_by omega
theorem kS {u:Nat} (h:u<128):mZ u=[UInt8.ofNat u]:=by rw [mZ,dif_pos h]
theorem nC {u:Nat} (h:¬u<128):mZ u=UInt8.ofNat (u%128+128)::mZ (u / 128):=by rw [mZ,dif_neg h]
def zz (n:Int):Nat:=if n<0 then (-2*n-1).toNat else (2*n).toNat
def uz (u:Nat):Int:=if u%2=1 then -((u / 2:Nat):Int)-1 else (u / 2:Nat)
theorem eO8 (n:Int):uz (zz n)=n:=by
 unfold uz zz
 split<;>split<;>omega
theorem aF9 {n:Int} (h1 : -9223372036854775808<=n) (h2:n<=9223372036854775807):zz n<18446744073709551616:=by
 unfold zz
 split<;>omega
def bA (n:Int):Dm:=mZ (zz n)
def pU:Nat->Nat->Dm->Option (Nat × Dm)
 | _,_,[]=>none
 | i,x,c::b=>if (i=9/\1<c.toNat)\/(0<i/\c.toNat=0) then none else if c.toNat<128 then some (x+c.toNat*128 ^ i,b) else pU (i+1) (x+c.toNat%128*128 ^ i) b
def dH (b:Dm):Option (Int × Dm):=(pU 0 0 b).map fun p=>(uz p.1,p.2)
theorem bC1 {n:Nat} (h:n<256):(UInt8.ofNat n).toNat=n:=by
 rw [C2]
 exact BN h
theorem dG6 : ∀ (u i x : Nat) (r : Dm), i <= 9 -> (i = 0 \/ u ≠ 0) -> u * 128 ^ i < 18446744073709551616 -> pU i x (mZ u ++ r) = some (x + u * 128 ^ i, r) := by
  intro u
  induction u using Nat.strongRecOn with
  | _ u ih =>
    intro i x r hi h0 hb
    by_cases h : u < 128
    · rw [kS h, List.singleton_append, pU, bC1 aA]
      have h9 : ¬ ((i = 9 /\ 1 < u) \/ (0 < i /\ u = 0)) := by
        rintro (⟨e, h1⟩ | ⟨h1, h2⟩)
        · subst e
          have : 2 * 128 ^ 9 <= u * 128 ^ 9 := Bj _ h1
          have e2 : (2 * 128 ^ 9 : Nat) = 18446744073709551616 := by decide
          omega
        · omega
      rw [Aj h9, Ak h]
    · have hi9 : i ≠ 9 := fun e => by
        subst e
        have : 128 * 128 ^ 9 <= u * 128 ^ 9 := Bj _ aA
        have e2 : 18446744073709551616 <= (128 * 128 ^ 9 : Nat) := by decide
        omega
      rw [nC h, AF, pU, bC1 aA]
      have h9 : ¬ ((i = 9 /\ 1 < u % 128 + 128) \/ (0 < i /\ u % 128 + 128 = 0)) := by
        rintro (⟨e, _⟩ | ⟨_, h2⟩)
        · exact hi9 e
        · omega
      have hm : (u % 128 + 128) % 128 = u % 128 := by omega
      have hs : u % 128 * 128 ^ i + u / 128 * 128 ^ (i + 1) = u * 128 ^ i := by
        rw [CA, Nat.mul_comm (128 ^ i) 128, <- Nat.mul_assoc, <- AM]
        congr 1
        omega
      rw [Aj h9, Aj aA, hm, ih (u / 128) aA (i + 1) _ r aA (.inr aA) aA, BO, hs]
theorem wK {n:Int} (h1 : -9223372036854775808<=n) (h2:n<=9223372036854775807) (r:Dm):dH (bA n++r)=some (n,r):=by
 unfold dH bA
 rw [dG6 (zz n) 0 0 r aA (.inl rfl) (by rw [Nat.pow_zero,A8];exact aF9 h1 h2)]
 simp [eO8]
def pIn (lo hi:Int) (b:Dm):Option (Int × Dm):=(dH b).bind fun p=>if lo<=p.1/\p.1<=hi then some p else none
def pBy (n:Nat) (b:Dm):Option (Dm × Dm):=if n<=b.length then some (b.take n,b.drop n) else none
def pTx (m:Int) (b:Dm):Option (Dm × Dm):=(pIn 0 m b).bind fun p=>pBy p.1.toNat p.2
theorem jJ {n lo hi:Int} (h1:lo<=n) (h2:n<=hi) (h3 : -9223372036854775808<=n) (h4:n<=9223372036854775807) (r:Dm):pIn lo hi (bA n++r)=some (n,r):=by
 unfold pIn
 rw [wK h3 h4,Al,Ak ⟨h1,h2⟩]
def mO (s:Dm):Dm:=bA s.length++s
theorem aX9 {s:Dm} {m:Int} (h:(s.length:Int)<=m) (hm:m<=9223372036854775807) (r:Dm):pTx m (mO s++r)=some (s,r):=by
 unfold pTx mO
 rw [Ao,jJ aA h aA aA,Al]
 unfold pBy
 simp only [AS]
 rw [Ak cG4,Cu,List.drop_left]
def lI (v:Vl):Dm:=bA v.k++(if v.k=1 then bA v.n else if v.k=2 then mO v.t else [])
def pVl (b:Dm):Option (Vl × Dm):=(pIn 0 2 b).bind fun p =>
 if p.1=1 then (pIn (-4294967296) 4294967296 p.2).map fun q=>(⟨1,q.1,[]⟩,q.2)
 else if p.1=2 then (pTx 32 p.2).map fun q=>(⟨2,0,q.1⟩,q.2) else some (⟨0,0,[]⟩,p.2)
theorem cP0 {v:Vl} (h:(v.k=0/\v.n=0/\v.t=[])\/(v.k=1 /\ -4294967296<=v.n/\v.n<=4294967296/\v.t=[])\/(v.k=2/\v.n=0/\v.t.length<=32)) (r:Dm):pVl (lI v++r)=some (v,r):=by
 obtain ⟨k,n,t⟩:=v
 unfold pVl lI
 rcases h with ⟨h1,h2,h3⟩|⟨h1,h2,h3,h4⟩|⟨h1,h2,h3⟩<;>simp only at h1 h2 h3<;>subst h1
 ·subst h2 h3
  simp only [A4,Aj (show ¬(0:Int)=1 by decide),Aj (show ¬(0:Int)=2 by decide)]
  rw [jJ aN aN aN aN,Al]
  simp
 ·simp only at h4
  subst h4
  simp only [Bu,Ao]
  rw [jJ aN aN aN aN,Al]
  simp only [Bu]
  rw [jJ h2 h3 aA aA]
  rfl
 ·subst h2
  simp only [Aj (show ¬(2:Int)=1 by decide),Bu,Ao]
  rw [jJ aN aN aN aN,Al]
  simp only [Aj (show ¬(2:Int)=1 by decide),Bu]
  rw [aX9 aA aN]
  rfl
def aT (n:Int):Prop := -9223372036854775808<=n/\n<=9223372036854775807
theorem dA {n:Int} (h:aT n) (r:Dm):dH (bA n++r)=some (n,r):=wK h.1 h.2 r
structure Idf where
 ns:Dm
 v:Vl
def eA (i:Idf):Dm:=mO i.ns++lI (clV i.v)
def pId (b:Dm):Option (Idf × Dm):=(pTx 16 b).bind fun p=>(pVl p.2).map fun q=>(⟨p.1,q.1⟩,q.2)
theorem uN {i:Idf} (h:i.ns.length<=16) (r:Dm):pId (eA i++r)=some (⟨i.ns,clV i.v⟩,r):=by
 unfold pId eA
 rw [Ao,aX9 aA aN,Al,cP0 (aJ5 i.v)]
 rfl
structure Ver where
 t:Int
 c:Int
 s:Int
deriving DecidableEq
def eB (v:Ver):Dm:=bA v.t++bA v.s++bA v.c
def pVr (b:Dm):Option (Ver × Dm):=(dH b).bind fun p=>(dH p.2).bind fun q=>(dH q.2).map fun w=>(⟨p.1,w.1,q.1⟩,w.2)
theorem dG7 {v:Ver} (h1:aT v.t) (h2:aT v.c) (h3:aT v.s) (r:Dm):pVr (eB v++r)=some (v,r):=by
 unfold pVr eB
 rw [Ao,Ao,dA h1,Al,dA h3,Al,dA h2]
 rfl
structure Src where
 t:Int
 s:Int
deriving DecidableEq
def eL (v:Src):Dm:=bA v.t++bA v.s
def pSr (b:Dm):Option (Src × Dm):=(dH b).bind fun p=>(dH p.2).map fun q=>(⟨p.1,q.1⟩,q.2)
theorem dG5 {v:Src} (h1:aT v.t) (h2:aT v.s) (r:Dm):pSr (eL v++r)=some (v,r):=by
 unfold pSr eL
 rw [Ao,dA h1,Al,dA h2]
 rfl
def tE {α:Type} (p:Dm->Option (α × Dm)):Nat->Dm->Option (List α × Dm)
 | 0,b=>some ([],b)
 | n+1,b=>(p b).bind fun x=>(tE p n x.2).map fun y=>(x.1::y.1,y.2)
theorem aX8 {α:Type} {p:Dm->Option (α × Dm)} {e:α->Dm}:∀(l:List α) (r:Dm),(∀x∈l,∀r,p (e x++r)=some (x,r))->tE p l.length (l.flatMap e++r)=some (l,r)
 | [],r,_=>rfl
 | x::l,r,h=>by
  rw [Au,tE,A5,Ao,h x aU,Al,aX8 l r fun y hy=>h y (by simp [hy])]
  rfl
def fQ {α:Type} (e:α->Dm) (l:List α):Dm:=bA l.length++l.flatMap e
def pLs {α:Type} (p:Dm->Option (α × Dm)) (m:Int) (b:Dm):Option (List α × Dm):=(pIn 0 m b).bind fun q=>tE p q.1.toNat q.2
theorem bP2 {α:Type} {p:Dm->Option (α × Dm)} {e:α->Dm} {l:List α} {m:Int} (h:∀x∈l,∀r,p (e x++r)=some (x,r)) (hl:(l.length:Int)<=m) (hm:m<=9223372036854775807) (r:Dm):pLs p m (fQ e l++r)=some (l,r):=by
 unfold pLs fQ
 rw [Ao,jJ aA hl aA aA,Al]
 simp only [AS]
 exact aX8 l r h
structure LLk where
 a:Idf
 b:Idf
 s:Int
 rv:Bool
def kH (l:LLk):Dm:=eA l.a++(eA l.b++(bA l.s++bA (if l.rv then 1 else 0)))
def pLk (b:Dm):Option (LLk × Dm):=(pId b).bind fun p=>(pId p.2).bind fun q=>(dH q.2).bind fun s=>(pIn 0 1 s.2).map fun t=>(⟨p.1,q.1,s.1,decide (t.1=1)⟩,t.2)
def clI (i:Idf):Idf:=⟨i.ns,clV i.v⟩
theorem dG3 {l:LLk} (h1:l.a.ns.length<=16) (h2:l.b.ns.length<=16) (h3:aT l.s) (r:Dm):pLk (kH l++r)=some (⟨clI l.a,clI l.b,l.s,l.rv⟩,r):=by
 obtain ⟨a,b,s,rv⟩:=l
 unfold pLk kH
 simp only [Ao]
 rw [uN h1,Al]
 simp only
 rw [uN h2,Al]
 simp only
 rw [dA h3,Al]
 simp only
 cases rv
 ·rw [Aj aN,jJ aN aN aN aN];rfl
 ·rw [Ak rfl,jJ aN aN aN aN];rfl
structure LHd where
 t:Int
 c:Int
 who:Idf
 s:Int
 fr:Int
 to:Int
def kG (h:LHd):Dm:=bA h.t++(bA h.c++(eA h.who++(bA h.s++(bA h.fr++bA h.to))))
def pHd (b:Dm):Option (LHd × Dm):=(dH b).bind fun t=>(dH t.2).bind fun c=>(pId c.2).bind fun w=>(dH w.2).bind fun s=>(dH s.2).bind fun f=>(dH f.2).map fun o=>(⟨t.1,c.1,w.1,s.1,f.1,o.1⟩,o.2)
theorem dG2 {h:LHd} (h1:aT h.t) (h2:aT h.c) (h3:h.who.ns.length<=16) (h4:aT h.s) (h5:aT h.fr) (h6:aT h.to) (r:Dm):pHd (kG h++r)=some (⟨h.t,h.c,clI h.who,h.s,h.fr,h.to⟩,r):=by
 unfold pHd kG
 simp only [Ao]
 rw [dA h1,Al];simp only
 rw [dA h2,Al];simp only
 rw [uN h3,Al];simp only
 rw [dA h4,Al];simp only
 rw [dA h5,Al];simp only
 rw [dA h6];rfl
structure LRq where
 k:Int
 who:Idf
 s:Int
 d:Int
 dl:Int
def kI (q:LRq):Dm:=bA q.k++(eA q.who++(bA q.s++(bA q.d++bA q.dl)))
def pRq (b:Dm):Option (LRq × Dm):=(dH b).bind fun k=>(pId k.2).bind fun w=>(dH w.2).bind fun s=>(dH s.2).bind fun d=>(dH d.2).map fun o=>(⟨k.1,w.1,s.1,d.1,o.1⟩,o.2)
theorem dG4 {q:LRq} (h1:aT q.k) (h3:q.who.ns.length<=16) (h4:aT q.s) (h5:aT q.d) (h6:aT q.dl) (r:Dm):pRq (kI q++r)=some (⟨q.k,clI q.who,q.s,q.d,q.dl⟩,r):=by
 unfold pRq kI
 simp only [Ao]
 rw [dA h1,Al];simp only
 rw [uN h3,Al];simp only
 rw [dA h4,Al];simp only
 rw [dA h5,Al];simp only
 rw [dA h6];rfl
structure LEn where
 k:Int
 day:Int
 plan:Int
 step:Int
 rq:LRq
 lk:LLk
 hd:LHd
 vs:List Ver
 ss:List Src
 root:Dm
def iE:Idf:=⟨[],Vl.nul⟩
def rq0:LRq:=⟨0,iE,0,0,0⟩
def lk0:LLk:=⟨iE,iE,0,false⟩
def hd0:LHd:=⟨0,0,iE,0,0,0⟩
def root0:Dm:=List.replicate 32 0
def cN (e:LEn):Dm :=
 if e.k=1 then kI e.rq else if e.k=2 then fQ eB e.vs++fQ eL e.ss else if e.k=4 then e.root else if e.k=6 then kH e.lk else if e.k=7 then kG e.hd else []
def cM (e:LEn):Dm:=bA e.k++(bA e.day++(bA e.plan++(bA e.step++cN e)))
def lM (k d p s:Int) (b:Dm):Option (LEn × Dm) :=
 if k=1 then (pRq b).map fun x=>(⟨k,d,p,s,x.1,lk0,hd0,[],[],root0⟩,x.2)
 else if k=2 then (pLs pVr 512 b).bind fun v=>(pLs pSr 512 v.2).map fun x=>(⟨k,d,p,s,rq0,lk0,hd0,v.1,x.1,root0⟩,x.2)
 else if k=4 then (pBy 32 b).map fun x=>(⟨k,d,p,s,rq0,lk0,hd0,[],[],x.1⟩,x.2)
 else if k=6 then (pLk b).map fun x=>(⟨k,d,p,s,rq0,x.1,hd0,[],[],root0⟩,x.2)
 else if k=7 then (pHd b).map fun x=>(⟨k,d,p,s,rq0,lk0,x.1,[],[],root0⟩,x.2)
 else some (⟨k,d,p,s,rq0,lk0,hd0,[],[],root0⟩,b)
def pEn (b:Dm):Option (LEn × Dm):=(pIn 1 7 b).bind fun k=>(dH k.2).bind fun d=>(dH d.2).bind fun p=>(dH p.2).bind fun s=>lM k.1 d.1 p.1 s.1 s.2
def clE (e:LEn):LEn :=
 ⟨e.k,e.day,e.plan,e.step,if e.k=1 then ⟨e.rq.k,clI e.rq.who,e.rq.s,e.rq.d,e.rq.dl⟩ else rq0,if e.k=6 then ⟨clI e.lk.a,clI e.lk.b,e.lk.s,e.lk.rv⟩ else lk0,if e.k=7 then ⟨e.hd.t,e.hd.c,clI e.hd.who,e.hd.s,e.hd.fr,e.hd.to⟩ else hd0,if e.k=2 then e.vs else [],if e.k=2 then e.ss else [],if e.k=4 then e.root else root0⟩
structure LEn.wf (e:LEn):Prop where
 h1:aT e.day/\aT e.plan/\aT e.step
 rq:aT e.rq.k/\aT e.rq.s/\aT e.rq.d/\aT e.rq.dl
 lk:aT e.lk.s
 hd:aT e.hd.t/\aT e.hd.c/\aT e.hd.s/\aT e.hd.fr/\aT e.hd.to
 vs:∀v∈e.vs,aT v.t/\aT v.c/\aT v.s
 ss:∀v∈e.ss,aT v.t/\aT v.s
 root:e.root.length=32
structure LEn.rd (e:LEn):Prop where
 k:1<=e.k/\e.k<=7
 rq:e.k=1->e.rq.who.ns.length<=16
 er:e.k=2->e.vs.length<=512/\e.ss.length<=512
 lk:e.k=6->e.lk.a.ns.length<=16/\e.lk.b.ns.length<=16
 hd:e.k=7->e.hd.who.ns.length<=16
theorem uM {e : LEn} (hw : e.wf) (hr : e.rd) (r : Dm) : pEn (cM e ++ r) = some (clE e, r) := by
  obtain ⟨a1, a2, a3⟩ := hw.h1
  obtain ⟨b1, b2, b3, b4⟩ := hw.rq
  have c1 := hw.lk
  obtain ⟨d1, d2, d3, d4, d5⟩ := hw.hd
  have e1 := hw.vs
  have e2 := hw.ss
  have f1 := hw.root
  obtain ⟨k1, k2⟩ := hr.k
  have g1 := hr.rq
  have g2 := hr.er
  have g3 := hr.lk
  have g4 := hr.hd
  clear hw hr
  obtain ⟨k, d, p, s, rq, lk, hd, vs, ss, root⟩ := e
  simp only at *
  unfold pEn cM cN clE
  simp only [Ao]
  rw [jJ k1 k2 aA aA, Al]; simp only
  rw [dA a1, Al]; simp only
  rw [dA a2, Al]; simp only
  rw [dA a3, Al]; simp only
  unfold lM
  rcases (show k = 1 \/ k = 2 \/ k = 3 \/ k = 4 \/ k = 5 \/ k = 6 \/ k = 7 by omega) with h | h | h | h | h | h | h <;> subst h
  · simp [dG4 b1 (g1 rfl) b2 b3 b4]
  · have hv := bP2 (p := pVr) (e := eB) (l := vs) (m := 512) (fun x hx r => dG7 (e1 x hx).1 (e1 x hx).2.1 (e1 x hx).2.2 r) (by have := (g2 rfl).1; omega) aN (fQ eL ss ++ r)
    have hs := bP2 (p := pSr) (e := eL) (l := ss) (m := 512) (fun x hx r => dG5 (e2 x hx).1 (e2 x hx).2 r) (by have := (g2 rfl).2; omega) aN r
    simp [Ao, hv, hs]
  · simp
  · have hb : pBy 32 (root ++ r) = some (root, r) := by
      unfold pBy
      rw [Ak cG4, <- f1, Cu, List.drop_left]
    simp [hb]
  · simp
  · simp [dG3 (g3 rfl).1 (g3 rfl).2 c1]
  · simp [dG2 d1 d2 (g4 rfl) d3 d4 d5]
section
structure SLO {α:Type} (lt:α->α->Prop):Prop where
 irr:∀a,¬lt a a
 tr:∀a b c,lt a b->lt b c->lt a c
 tri:∀a b,lt a b\/a=b\/lt b a
section
variable {α:Type} {lt:α->α->Prop}
theorem yG (h:SLO lt):∀{l m:List α},l.Pairwise lt->m.Pairwise lt->(∀x,x∈l↔x∈m)->l=m
 | [],[],_,_,_=>rfl
 | [],y::m,_,_,hm=>by have:=(hm y).2 aU;cases this
 | x::l,[],_,_,hm=>by have:=(hm x).1 aU;cases this
 | x::l,y::m,hl,hm',hm=>by
  obtain ⟨l1,l2⟩:=Bp.1 hl
  obtain ⟨m1,m2⟩:=Bp.1 hm'
  have e:x=y:=by
   rcases A6.1 ((hm x).1 aU) with e|hx
   ·exact e
   ·rcases A6.1 ((hm y).2 aU) with e|hy
    ·exact e.symm
    ·exact absurd (h.tr _ _ _ (l1 y hy) (m1 x hx)) (h.irr x)
  subst e
  rw [yG h l2 m2 fun z=>?_]
  constructor
  ·intro hz
   rcases A6.1 ((hm z).1 (by simp [hz])) with e|hz'
   ·subst e;exact absurd (l1 z hz) (h.irr z)
   ·exact hz'
  ·intro hz
   rcases A6.1 ((hm z).2 (by simp [hz])) with e|hz'
   ·subst e;exact absurd (m1 z hz) (h.irr z)
   ·exact hz'
theorem uW (h:SLO lt) {l:List α} (hl:l.Pairwise lt):l.Nodup:=by
 rw [List.nodup_iff_pairwise_ne]
 exact hl.imp fun {a b} hab e=>by subst e;exact h.irr a hab
open Classical in
noncomputable def insA (lt:α->α->Prop) (v:α):List α->List α
 | []=>[v]
 | x::l=>if lt v x then v::x::l else if v=x then x::l else x::insA lt v l
theorem qZ (v:α):∀(l:List α) (x:α),x∈insA lt v l↔x=v\/x∈l
 | [],x=>by simp [insA]
 | y::l,x=>by
  rw [insA]
  split
  ·rw [A6]
  ·split
   ·rename_i e
    subst e
    rw [A6]
    exact ⟨.inr,fun hx=>hx.elim .inl id⟩
   ·rw [A6,qZ v l x,A6]
    constructor
    ·rintro (e|e|e)
     ·exact .inr (.inl e)
     ·exact .inl e
     ·exact .inr (.inr e)
    ·rintro (e|e|e)
     ·exact .inr (.inl e)
     ·exact .inl e
     ·exact .inr (.inr e)
theorem uG (h:SLO lt) (v:α):∀{l:List α},l.Pairwise lt->(insA lt v l).Pairwise lt
 | [],_=>C3 _ _
 | y::l,hl=>by
  obtain ⟨l1,l2⟩:=Bp.1 hl
  rw [insA]
  split
  ·rename_i hv
   refine Bp.2 ⟨fun z hz=>?_,hl⟩
   rcases A6.1 hz with rfl|hz
   ·exact hv
   ·exact h.tr _ _ _ hv (l1 z hz)
  ·rename_i hv
   split
   ·exact hl
   ·rename_i hne
    refine Bp.2 ⟨fun z hz=>?_,uG h v l2⟩
    rcases (qZ v l z).1 hz with rfl|hz
    ·rcases h.tri z y with e|e|e
     ·exact absurd e hv
     ·exact absurd e hne
     ·exact e
    ·exact l1 z hz
noncomputable def ascL (lt:α->α->Prop) (l:List α):List α:=l.foldl (fun m v=>insA lt v m) []
theorem nP (l:List α) (v:α):ascL lt (l++[v])=insA lt v (ascL lt l):=by unfold ascL;rw [CU];rfl
theorem aF3 {p:List α->Prop} (h0:p []) (h1:∀l x,p l->p (l++[x])):∀l,p l:=fun l=>by
 have:∀m:List α,p m.reverse:=fun m=>by
  induction m with
  | nil=>exact h0
  | cons x m ih=>rw [List.reverse_cons];exact h1 _ _ ih
 have:=this l.reverse
 rwa [List.reverse_reverse] at this
theorem dQ (h:SLO lt) (l:List α):(ascL lt l).Pairwise lt/\∀x,x∈ascL lt l↔x∈l:=by
 refine aF3 (p:=fun l=>(ascL lt l).Pairwise lt/\∀x,x∈ascL lt l↔x∈l) ⟨List.Pairwise.nil,fun x=>by simp [ascL]⟩ (fun l v ih=>?_) l
 rw [nP]
 refine ⟨uG h v ih.1,fun x=>?_⟩
 rw [qZ,ih.2 x,Az,AX]
 exact Or.comm
theorem bT1 (h:SLO lt) {l m:List α} (hm:m.Pairwise lt) (hx:∀x,x∈m↔x∈l):m=ascL lt l :=
 yG h hm (dQ h l).1 fun x=>(hx x).trans ((dQ h l).2 x).symm
theorem mC (h:SLO lt) {l m:List α} (hm:m.Nodup) (hx:∀x,x∈m↔x∈l):m.length=(ascL lt l).length :=
 ((List.perm_ext_iff_of_nodup hm (uW h (dQ h l).1)).2 fun x=>(hx x).trans ((dQ h l).2 x).symm).length_eq
theorem cB6 (h:SLO lt) {l m:List α} (hm:m.Nodup) (hd:∀x∈m,x∉l):(ascL lt (l++m)).length=(ascL lt l).length+m.length:=by
 rw [<- Aa]
 refine (mC h (List.nodup_append.2 ⟨uW h (dQ h l).1,hm,fun a ha b hb e=>?_⟩) fun x=>?_).symm
 ·subst e
  exact hd a hb (((dQ h l).2 a).1 ha)
 ·rw [Az,Az,(dQ h l).2 x]
end
def ltV (a b:Ver):Prop:=a.t<b.t\/(a.t=b.t/\(a.s<b.s\/(a.s=b.s/\a.c<b.c)))
def ltS (a b:Src):Prop:=a.t<b.t\/(a.t=b.t/\a.s<b.s)
theorem slo_V:SLO ltV where
 irr a:=by unfold ltV;omega
 tr a b c h1 h2:=by unfold ltV at *;omega
 tri a b:=by
  unfold ltV
  by_cases h:a.t=b.t/\a.s=b.s/\a.c=b.c
  ·obtain ⟨ax,ac,av⟩:=a
   obtain ⟨bt,bc,bv'⟩:=b
   simp only at h
   obtain ⟨rfl,rfl,rfl⟩:=h
   exact .inr (.inl rfl)
  ·rcases (show (a.t<b.t\/(a.t=b.t/\(a.s<b.s\/(a.s=b.s/\a.c<b.c))))\/(b.t<a.t\/(b.t=a.t/\(b.s<a.s\/(b.s=a.s/\b.c<a.c)))) by omega) with h|h
   ·exact .inl h
   ·exact .inr (.inr h)
theorem slo_S:SLO ltS where
 irr a:=by unfold ltS;omega
 tr a b c h1 h2:=by unfold ltS at *;omega
 tri a b:=by
  unfold ltS
  by_cases h:a.t=b.t/\a.s=b.s
  ·obtain ⟨ax,av⟩:=a
   obtain ⟨bt,bv'⟩:=b
   simp only at h
   obtain ⟨rfl,rfl⟩:=h
   exact .inr (.inl rfl)
  ·rcases (show (a.t<b.t\/(a.t=b.t/\a.s<b.s))\/(b.t<a.t\/(b.t=a.t/\b.s<a.s)) by omega) with h|h
   ·exact .inl h
   ·exact .inr (.inr h)
theorem bB3:SLO fun a b:Int=>a<b where
 irr a:=by omega
 tr a b c h1 h2:=by omega
 tri a b:=by omega
def iY (l:List LEn):List Ver:=l.flatMap fun e=>if e.k=2 then e.vs else []
def lO (l:List LEn):List Src:=l.flatMap fun e=>if e.k=2 then e.ss else []
def nV (l:List LEn) (k:Int):Nat:=(l.filter fun e=>decide (e.k=k)).length
def jZ (l:List LEn) (k p:Int):Prop:=∃x∈l,x.k=k/\x.plan=p
noncomputable def erasV (l:List LEn):List Ver:=ascL ltV (iY l)
noncomputable def erasS (l:List LEn):List Src:=ascL ltS (lO l)
open Classical in
noncomputable def unfi (l:List LEn):List Int:=ascL (fun a b:Int=>a<b) ((l.filter fun e=>decide (e.k=2/\¬jZ l 4 e.plan)).map (·.plan))
noncomputable def doneS (l:List LEn) (p:Int):List Int:=ascL (fun a b:Int=>a<b) ((l.filter fun e=>decide (e.k=3/\e.plan=p)).map (·.step))
structure Fol (l:List LEn) (e:LEn):Prop where
 rd:(pEn (cM e)).isSome=true
 day:0<=e.day/\e.day<=1048576/\∀x,l.getLast? = some x->x.day<=e.day
 rq:e.k=1->1<=e.rq.k/\e.rq.k<=3
 er:e.k=2->e.plan=nV l 2/\(e.vs≠[]\/e.ss≠[])/\(erasV l).length+e.vs.length<=512/\(erasS l).length+e.ss.length<=512/\(e.vs.Pairwise ltV/\∀v∈e.vs,v∉iY l)/\e.ss.Pairwise ltS/\∀v∈e.ss,v∉lO l
 st:e.k=3->(jZ l 2 e.plan/\¬jZ l 4 e.plan)/\(0<=e.step/\e.step<128)/\¬∃x∈l,x.k=3/\x.plan=e.plan/\x.step=e.step
 co:e.k=4->jZ l 2 e.plan/\¬jZ l 4 e.plan
 sg:e.k=5->e.step=nV l 5/\e.step<4
theorem nO (l:List LEn) (e:LEn):iY (l++[e])=iY l++if e.k=2 then e.vs else []:=by unfold iY;rw [Bc];simp
theorem uV (l:List LEn) (e:LEn):lO (l++[e])=lO l++if e.k=2 then e.ss else []:=by unfold lO;rw [Bc];simp
theorem Fol.more {l:List LEn} {e:LEn} (h:Fol l e):(erasV (l++[e])).length=(erasV l).length+(if e.k=2 then e.vs.length else 0):=by
 unfold erasV
 rw [nO]
 split
 ·rename_i hk
  obtain ⟨_,_,_,_,⟨h1,h2⟩,_⟩:=h.er hk
  exact cB6 slo_V (uW slo_V h1) h2
 ·simp
end
section
theorem kY (u:Nat):0<(mZ u).length:=by
 by_cases h:u<128
 ·rw [kS h];simp
 ·rw [nC h];simp
theorem cO7:∀{b:Dm} {i x:Nat} {p:Nat × Dm},pU i x b=some p->p.2.length<b.length
 | [],i,x,p,h=>by rw [pU] at h;cases h
 | c::b,i,x,p,h=>by
  rw [pU] at h
  split at h
  ·cases h
  ·split at h
   ·injection h with h
    rw [<- h,Au]
    exact Bk _
   ·have:=cO7 h
    rw [Au];omega
theorem cO9:∀(b:Dm) (i x m:Nat),i+m=10->1<=m->pU i x (b.take m)=(pU i x b).map fun p=>(p.1,p.2.take (m-(b.length-p.2.length)))
 | [],i,x,m,_,_=>by rw [List.take_nil,pU];rfl
 | c::b,i,x,0,_,h=>by omega
 | c::b,i,x,m+1,h,_=>by
  rw [BH,pU,pU]
  by_cases h9:(i=9/\1<c.toNat)\/(0<i/\c.toNat=0)
  ·rw [Ak h9,Ak h9];rfl
  ·rw [Aj h9,Aj h9]
   by_cases hc:c.toNat<128
   ·rw [Ak hc,Ak hc,Bh]
    simp only [Au]
    rw [show m+1-(b.length+1-b.length)=m by omega]
   ·rw [Aj hc,Aj hc,cO9 b (i+1) _ m aA aA]
    cases hp:pU (i+1) (x+c.toNat%128*128 ^ i) b with
    | none=>rfl
    | some p =>
     have:=cO7 hp
     rw [Bh,Bh]
     simp only [Au]
     rw [show m+1-(b.length+1-p.2.length)=m-(b.length-p.2.length) by omega]
section
variable (kd:Dm->Dm->Dm)
def iP (ch:Dm) (e:LEn):Dm:=bA (cM e).length++(cM e++kd ch (cM e))
def kD (ch b:Dm):Option (LEn × Dm × Nat) :=
 (dH b).bind fun p =>
  if 0<=p.1/\p.1+32<=p.2.length then
   (pEn (p.2.take p.1.toNat)).bind fun e =>
    if e.2=[]/\kd ch (p.2.take p.1.toNat)=(p.2.drop p.1.toNat).take 32 then some (e.1,kd ch (p.2.take p.1.toNat),b.length-p.2.length+p.1.toNat+32) else none
  else none
variable {kd}
theorem bW5 (hkd:∀c b,(kd c b).length=32) {e:LEn} (hw:e.wf) (hr:e.rd) (hl:(cM e).length<=9223372036854775807) (ch r:Dm):kD kd ch (iP kd ch e++r)=some (clE e,kd ch (cM e),(iP kd ch e).length):=by
 have hp:=uM hw hr []
 rw [A4] at hp
 have h32:=hkd ch (cM e)
 unfold kD iP
 rw [Ao,wK aA aA,Al]
 simp only [AS,Ao,Cu,List.drop_left]
 rw [Ak ⟨by omega,by simp only [Aa];omega⟩,hp,Al]
 have e1:(kd ch (cM e)++r).take 32=kd ch (cM e):=by rw [<- h32,Cu]
 simp only [e1,and_self,Bu]
 simp only [Aa]
 congr 3
 omega
end
end
section
theorem dW0 (v:Vl):clV (clV v)=clV v:=dW1 (aJ5 v)
theorem aB2 (i:Idf):eA (clI i)=eA i:=by unfold eA clI;simp only [dW0]
theorem bN9 (e:LEn):cM (clE e)=cM e:=by
 obtain ⟨k,d,p,s,rq,lk,hd,vs,ss,root⟩:=e
 unfold cM clE cN
 simp only
 congr 4
 by_cases h1:k=1
 ·simp only [h1,Bu,kI,aB2]
 ·by_cases h2:k=2
  ·simp [h2]
  ·by_cases h4:k=4
   ·simp [h4]
   ·by_cases h6:k=6
    ·simp [h6,kH,aB2]
    ·by_cases h7:k=7
     ·simp [h7,kG,aB2]
     ·simp [h1,h2,h4,h6,h7]
def FolL (l:List LEn):Prop:=∀i e,l[i]? = some e->Fol (l.take i) e
section
variable (kd:Dm->Dm->Dm)
open Classical in
noncomputable def parF:Nat->List LEn->Dm->Dm->List LEn × Nat × Dm
 | 0,l,ch,_=>(l,0,ch)
 | f+1,l,ch,b=>match kD kd ch b with
  | none=>(l,0,ch)
  | some (e,c,n)=>if Fol l e/\l.length<512 then ((parF f (l++[e]) c (b.drop n)).1,n+(parF f (l++[e]) c (b.drop n)).2.1,(parF f (l++[e]) c (b.drop n)).2.2) else (l,0,ch)
def eI8:Dm->List LEn->Dm
 | _,[]=>[]
 | ch,e::l=>iP kd ch e++eI8 (kd ch (cM e)) l
variable {kd}
theorem cN6 (ch:Dm):kD kd ch []=none:=rfl
end
end
structure RS where
 b:Dm
 e:Int
def eU:Nat->Dm->Int
 | _,[]=>100
 | i,c::b=>if (i=9/\1<c.toNat)\/(0<i/\c.toNat=0) then 1 else if c.toNat<128 then 1 else eU (i+1) b
theorem cI6:∀(i:Nat) (b:Dm),eU i b=1\/eU i b=100
 | _,[] => .inr rfl
 | i,c::b=>by
  rw [eU]
  split
  ·exact .inl rfl
  ·split
   ·exact .inl rfl
   ·exact cI6 (i+1) b
theorem eG4 (i:Nat) (b:Dm):eU i b≠0:=by rcases cI6 i b with h|h<;>rw [h]<;>decide
def bT (s:RS):Int × RS:=if s.e≠0 then (0,s) else match dH s.b with
 | some (n,r)=>(n,⟨r,0⟩)
 | none=>(0,⟨s.b,eU 0 s.b⟩)
def rIn (lo hi:Int) (s:RS):Int × RS:=if (bT s).2.e=0/\((bT s).1<lo\/hi<(bT s).1) then (0,⟨(bT s).2.b,1⟩) else bT s
def rBy (n:Nat) (s:RS):Dm × RS:=if s.e≠0 then ([],s) else if s.b.length<n then ([],⟨s.b,100⟩) else (s.b.take n,⟨s.b.drop n,0⟩)
def rTx (m:Int) (s:RS):Dm × RS:=rBy (rIn 0 m s).1.toNat (rIn 0 m s).2
def rVl (f:RS->Int × RS) (s:RS):Vl × RS :=
 if (rIn 0 2 s).1=1 then (⟨1,(f (rIn 0 2 s).2).1,[]⟩,(f (rIn 0 2 s).2).2)
 else if (rIn 0 2 s).1=2 then (⟨2,0,(rTx 32 (rIn 0 2 s).2).1⟩,(rTx 32 (rIn 0 2 s).2).2)
 else (⟨(rIn 0 2 s).1,0,[]⟩,(rIn 0 2 s).2)
def aY2:RS->Int × RS:=rIn (-4294967296) 4294967296
def aY3 (s:RS):Int × RS:=if (bT s).1 < -4294967296\/4294967296<(bT s).1 then ((bT s).1,⟨(bT s).2.b,if (bT s).2.e=0 then 1 else (bT s).2.e⟩) else bT s
def rId (f:RS->Int × RS) (s:RS):Idf × RS:=(⟨(rTx 16 s).1,(rVl f (rTx 16 s).2).1⟩,(rVl f (rTx 16 s).2).2)
def rVr (s:RS):Ver × RS:=(⟨(bT s).1,(bT (bT (bT s).2).2).1,(bT (bT s).2).1⟩,(bT (bT (bT s).2).2).2)
def rSr (s:RS):Src × RS:=(⟨(bT s).1,(bT (bT s).2).1⟩,(bT (bT s).2).2)
def iN {α:Type} (f:RS->α × RS):Nat->RS->Option (List α) × RS
 | 0,s=>(some [],s)
 | n+1,s=>if (f s).2.e≠0 then (none,(f s).2) else ((iN f n (f s).2).1.map ((f s).1 :: ·),(iN f n (f s).2).2)
def jC {α:Type} (f:RS->α × RS):Nat->RS->List α × RS
 | 0,s=>([],s)
 | n+1,s=>if s.e≠0 then ([],s) else ((f s).1::(jC f n (f s).2).1,(jC f n (f s).2).2)
def rLs {α:Type} (f:RS->α × RS) (m:Int) (s:RS):List α × RS:=((iN f (rIn 0 m s).1.toNat (rIn 0 m s).2).1.getD [],(iN f (rIn 0 m s).1.toNat (rIn 0 m s).2).2)
def bG5 {α:Type} (f:RS->α × RS) (m:Int) (s:RS):List α × RS:=jC f (rIn 0 m s).1.toNat (rIn 0 m s).2
def rLk (f:RS->Int × RS) (s:RS):LLk × RS :=
 let a:=rId f s;let b:=rId f a.2;let n:=bT b.2;let r:=rIn 0 1 n.2
 (⟨a.1,b.1,n.1,decide (r.1=1)⟩,r.2)
def rHd (f:RS->Int × RS) (s:RS):LHd × RS :=
 let t:=bT s;let c:=bT t.2;let w:=rId f c.2;let n:=bT w.2;let x:=bT n.2;let y:=bT x.2
 (⟨t.1,c.1,w.1,n.1,x.1,y.1⟩,y.2)
def rRq (f:RS->Int × RS) (s:RS):LRq × RS :=
 let k:=bT s;let w:=rId f k.2;let n:=bT w.2;let x:=bT n.2;let y:=bT x.2
 (⟨k.1,w.1,n.1,x.1,y.1⟩,y.2)
def rDg (s:RS):Dm × RS:=(if (rBy 32 s).1=[] then root0 else (rBy 32 s).1,(rBy 32 s).2)
def bX1 (s:RS):Int × RS:=if (bT s).1<1\/7<(bT s).1 then ((bT s).1,⟨(bT s).2.b,if (bT s).2.e=0 then 1 else (bT s).2.e⟩) else bT s
structure RP where
 ki:RS->Int × RS
 nu:RS->Int × RS
 vs:RS->List Ver × RS
 ss:RS->List Src × RS
def rpP:RP:=⟨rIn 1 7,aY2,rLs rVr 512,rLs rSr 512⟩
def rpR:RP:=⟨bX1,aY3,bG5 rVr 512,bG5 rSr 512⟩
def mU (p:RP) (k d pl st:Int) (s:RS):LEn × RS :=
 if k=1 then (⟨k,d,pl,st,(rRq p.nu s).1,lk0,hd0,[],[],root0⟩,(rRq p.nu s).2)
 else if k=2 then (⟨k,d,pl,st,rq0,lk0,hd0,(p.vs s).1,(p.ss (p.vs s).2).1,root0⟩,(p.ss (p.vs s).2).2)
 else if k=4 then (⟨k,d,pl,st,rq0,lk0,hd0,[],[],(rDg s).1⟩,(rDg s).2)
 else if k=6 then (⟨k,d,pl,st,rq0,(rLk p.nu s).1,hd0,[],[],root0⟩,(rLk p.nu s).2)
 else if k=7 then (⟨k,d,pl,st,rq0,lk0,(rHd p.nu s).1,[],[],root0⟩,(rHd p.nu s).2)
 else (⟨k,d,pl,st,rq0,lk0,hd0,[],[],root0⟩,s)
def rEn (p:RP) (s:RS):LEn × RS :=
 let k:=p.ki s;let d:=bT k.2;let pl:=bT d.2;let st:=bT pl.2
 mU p k.1 d.1 pl.1 st.1 st.2
structure Rd {α:Type} (f:RS->α × RS) (p:Dm->Option (α × Dm)):Prop where
 y:∀b x r,p b=some (x,r)->f ⟨b,0⟩=(x,⟨r,0⟩)
 n:∀b,p b=none->(f ⟨b,0⟩).2.e≠0
 x:∀s,s.e≠0->(f s).2.e≠0
theorem Rd.of {α:Type} {f:RS->α × RS} {p:Dm->Option (α × Dm)} (h:Rd f p) (b:Dm):(∃x r,p b=some (x,r)/\f ⟨b,0⟩=(x,⟨r,0⟩))\/(p b=none/\(f ⟨b,0⟩).2.e≠0):=by
 cases hp:p b with
 | none=>exact .inr ⟨rfl,h.n b hp⟩
 | some q=>obtain ⟨x,r⟩:=q;exact .inl ⟨x,r,rfl,h.y b x r hp⟩
theorem one_ne:(1:Int)≠0:=by decide
theorem dY9:(100:Int)≠0:=by decide
theorem rd_int:Rd bT dH:=by
 refine ⟨fun b x r h=>?_,fun b h=>?_,fun s h=>?_⟩
 ·simp [bT,h]
 ·simp [bT,h,eG4]
 ·simp [bT,h]
theorem rL (lo hi:Int):Rd (rIn lo hi) (pIn lo hi):=by
 refine ⟨fun b x r h=>?_,fun b h=>?_,fun s h=>?_⟩
 ·unfold pIn at h
  rcases rd_int.of b with ⟨n,q,h1,h2⟩|⟨h1,h2⟩
  ·rw [h1,Al] at h
   split at h
   ·rename_i hb
    injection h with h;injection h with e1 e2
    simp only at e1 e2 hb
    subst e1 e2
    rw [rIn,h2,Aj aA2]
   ·cases h
  ·rw [h1] at h;cases h
 ·unfold pIn at h
  rcases rd_int.of b with ⟨n,q,h1,h2⟩|⟨h1,h2⟩
  ·rw [h1,Al] at h
   split at h
   ·cases h
   ·rename_i hb
    simp only at hb
    rw [rIn,h2,Ak (by simp only;exact ⟨trivial,by omega⟩)]
    exact one_ne
  ·rw [rIn,Aj (fun h=>h2 h.1)]
   exact h2
 ·have h2:=rd_int.x s h
  rw [rIn,Aj (fun h=>h2 h.1)]
  exact h2
theorem aD2 (n:Nat):Rd (rBy n) (pBy n):=by
 refine ⟨fun b x r h=>?_,fun b h=>?_,fun s h=>?_⟩
 ·unfold pBy at h
  split at h
  ·injection h with h;injection h with e1 e2
   subst e1 e2
   rw [rBy,Aj aU,Aj aA2]
  ·cases h
 ·unfold pBy at h
  split at h
  ·cases h
  ·rw [rBy,Aj aU,Ak aA2]
   exact dY9
 ·rw [rBy,Ak h];exact h
theorem bQ4 (m:Int):Rd (rTx m) (pTx m):=by
 refine ⟨fun b x r h=>?_,fun b h=>?_,fun s h=>?_⟩
 ·unfold pTx at h
  rcases (rL 0 m).of b with ⟨n,q,h1,h2⟩|⟨h1,h2⟩
  ·rw [h1,Al] at h
   rw [rTx,h2]
   exact (aD2 _).y _ _ _ h
  ·rw [h1] at h;cases h
 ·unfold pTx at h
  rcases (rL 0 m).of b with ⟨n,q,h1,h2⟩|⟨h1,h2⟩
  ·rw [h1,Al] at h
   rw [rTx,h2]
   exact (aD2 _).n _ h
  ·exact (aD2 _).x _ h2
 ·exact (aD2 _).x _ ((rL 0 m).x s h)
theorem eB5:Rd aY2 (pIn (-4294967296) 4294967296):=rL _ _
theorem bQ1 (lo hi:Int) (f:RS->Int × RS) (hf:∀s,f s=if (bT s).1<lo\/hi<(bT s).1 then ((bT s).1,⟨(bT s).2.b,if (bT s).2.e=0 then 1 else (bT s).2.e⟩) else bT s):Rd f (pIn lo hi):=by
 have hx:∀s,(bT s).2.e≠0->(f s).2.e≠0:=fun s h=>by
  rw [hf]
  split
  ·first|exact h|(simp only;rw [Aj h];exact h)
  ·exact h
 refine ⟨fun b x r h=>?_,fun b h=>?_,fun s h=>hx s (rd_int.x s h)⟩
 ·unfold pIn at h
  rcases rd_int.of b with ⟨n,q,h1,h2⟩|⟨h1,h2⟩
  ·rw [h1,Al] at h
   split at h
   ·rename_i hb
    injection h with h;injection h with e1 e2
    simp only at e1 e2 hb
    subst e1 e2
    rw [hf,h2,Aj aA2]
   ·cases h
  ·rw [h1] at h;cases h
 ·unfold pIn at h
  rcases rd_int.of b with ⟨n,q,h1,h2⟩|⟨h1,h2⟩
  ·rw [h1,Al] at h
   split at h
   ·cases h
   ·rename_i hb
    simp only at hb
    rw [hf,h2,Ak aA2]
    exact one_ne
  ·exact hx _ h2
theorem eB6:Rd aY3 (pIn (-4294967296) 4294967296):=bQ1 _ _ _ fun s=>rfl
theorem eB4:Rd bX1 (pIn 1 7):=bQ1 _ _ _ fun s=>rfl
theorem eN4 {f:RS->Int × RS} (hf:Rd f (pIn (-4294967296) 4294967296)):Rd (rVl f) pVl:=by
 have hx:∀s,(rIn 0 2 s).2.e≠0->(rVl f s).2.e≠0:=fun s h=>by
  unfold rVl
  split
  ·exact hf.x _ h
  ·split
   ·exact (bQ4 32).x _ h
   ·exact h
 refine ⟨fun b x r h=>?_,fun b h=>?_,fun s h=>hx s ((rL 0 2).x s h)⟩
 ·unfold pVl at h
  rcases (rL 0 2).of b with ⟨k,q,h1,h2⟩|⟨h1,h2⟩
  ·rw [h1,Al] at h
   unfold rVl
   rw [h2]
   simp only at h ⊢
   by_cases hk1:k=1
   ·rw [Ak hk1] at h ⊢
    obtain ⟨y,hy,he⟩:=Ap.1 h
    rw [hf.y _ _ _ hy]
    injection he with e1 e2
    subst e1 e2
    rfl
   ·rw [Aj hk1] at h ⊢
    by_cases hk2:k=2
    ·rw [Ak hk2] at h ⊢
     obtain ⟨y,hy,he⟩:=Ap.1 h
     rw [(bQ4 32).y _ _ _ hy]
     injection he with e1 e2
     subst e1 e2
     rfl
    ·rw [Aj hk2] at h ⊢
     injection h with h;injection h with e1 e2
     subst e1 e2
     have hk0:k=0:=by
      unfold pIn at h1
      cases hp:dH b with
      | none=>rw [hp] at h1;cases h1
      | some q' =>
       rw [hp,Al] at h1
       split at h1
       ·rename_i hb
        injection h1 with h1
        rw [h1] at hb
        simp only at hb
        omega
       ·cases h1
     subst hk0
     rfl
  ·rw [h1] at h;cases h
 ·unfold pVl at h
  rcases (rL 0 2).of b with ⟨k,q,h1,h2⟩|⟨h1,h2⟩
  ·rw [h1,Al] at h
   unfold rVl
   rw [h2]
   simp only at h ⊢
   by_cases hk1:k=1
   ·rw [Ak hk1] at h ⊢
    exact hf.n _ oW
   ·rw [Aj hk1] at h ⊢
    by_cases hk2:k=2
    ·rw [Ak hk2] at h ⊢
     exact (bQ4 32).n _ oW
    ·rw [Aj hk2] at h;cases h
  ·exact hx _ h2
section
variable {α β:Type} {f:RS->α × RS} {p:Dm->Option (α × Dm)} (hf:Rd f p)
include α β f p hf
theorem Rd.bind {g:α->RS->β × RS} {q:α->Dm->Option (β × Dm)} (hg:∀a,Rd (g a) (q a)):Rd (fun s=>g (f s).1 (f s).2) (fun b=>(p b).bind fun x=>q x.1 x.2):=by
 refine ⟨fun b x r h=>?_,fun b h=>?_,fun s h=>(hg _).x _ (hf.x s h)⟩
 ·rcases hf.of b with ⟨n,t,h1,h2⟩|⟨h1,h2⟩
  ·simp only [h1,Al] at h
   simp only [h2]
   exact (hg n).y _ _ _ h
  ·simp only [h1] at h;cases h
 ·rcases hf.of b with ⟨n,t,h1,h2⟩|⟨h1,h2⟩
  ·simp only [h1,Al] at h
   simp only [h2]
   exact (hg n).n _ h
  ·exact (hg _).x _ h2
theorem Rd.map (g:α->β):Rd (fun s=>(g (f s).1,(f s).2)) (fun b=>(p b).map fun x=>(g x.1,x.2)):=by
 refine ⟨fun b x r h=>?_,fun b h=>?_,fun s h=>hf.x s h⟩
 ·obtain ⟨y,hy,he⟩:=Ap.1 h
  injection he with e1 e2
  subst e1 e2
  simp only [hf.y _ _ _ hy]
 ·exact hf.n b oW
end
theorem Rd.pure {α:Type} (a:α):Rd (fun s=>(a,s)) (fun b=>some (a,b)):=⟨fun b x r h=>by injection h with h;injection h with e1 e2;subst e1 e2;rfl,fun b h=>eS,fun s h=>h⟩
theorem bQ2 {f:RS->Int × RS} (hf:Rd f (pIn (-4294967296) 4294967296)):Rd (rId f) pId:=by
 have hfin:=(bQ4 16).bind (β:=Idf) (g:=fun a s=>(⟨a,(rVl f s).1⟩,(rVl f s).2)) (q:=fun a b=>(pVl b).map fun q=>(⟨a,q.1⟩,q.2)) fun a=>(eN4 hf).map (fun v=>(⟨a,v⟩:Idf))
 exact hfin
theorem dU3:Rd rVr pVr:=by
 have hfin:=rd_int.bind (β:=Ver) (g:=fun t s=>(⟨t,(bT (bT s).2).1,(bT s).1⟩,(bT (bT s).2).2)) (q:=fun t b=>(dH b).bind fun q=>(dH q.2).map fun w=>(⟨t,w.1,q.1⟩,w.2)) fun t =>
 rd_int.bind (β:=Ver) (g:=fun x s=>(⟨t,(bT s).1,x⟩,(bT s).2)) (q:=fun x b=>(dH b).map fun w=>(⟨t,w.1,x⟩,w.2)) fun x=>rd_int.map (fun w=>(⟨t,w,x⟩:Ver))
 exact hfin
theorem dU2:Rd rSr pSr:=by
 have hfin:=rd_int.bind (β:=Src) (g:=fun t s=>(⟨t,(bT s).1⟩,(bT s).2)) (q:=fun t b=>(dH b).map fun q=>(⟨t,q.1⟩,q.2)) fun t=>rd_int.map (fun w=>(⟨t,w⟩:Src))
 exact hfin
theorem cP9 {α:Type} {f:RS->α × RS} {p:Dm->Option (α × Dm)} (hf:Rd f p):∀n,Rd (fun s=>((iN f n s).1.getD [],(iN f n s).2)) (tE p n)
 | 0=>⟨fun b x r h=>by injection h with h;injection h with e1 e2;subst e1 e2;rfl,fun b h=>eS,fun s h=>h⟩
 | n+1=>by
  have ih:=cP9 hf n
  refine ⟨fun b x r h=>?_,fun b h=>?_,fun s h=>?_⟩
  ·rw [tE] at h
   rcases hf.of b with ⟨a,t,h1,h2⟩|⟨h1,h2⟩
   ·rw [h1,Al] at h
    obtain ⟨y,hy,he⟩:=Ap.1 h
    injection he with e1 e2
    subst e1 e2
    have hi:=ih.y _ _ _ hy
    simp only [iN,h2,ne_eq,Bw,AQ]
    injection hi with i1 i2
    have hne:=(iN f n ⟨t,0⟩).1
    cases hr:(iN f n ⟨t,0⟩).1 with
    | none =>
     exfalso
     have:∀(n:Nat) (s:RS),s.e=0->(iN f n s).1=none->(iN f n s).2.e≠0:=by
      intro n
      induction n with
      | zero=>intro s _ h;cases h
      | succ n ihn =>
       intro s hs h
       rw [iN] at h ⊢
       split
       ·rename_i hne;exact hne
       ·rename_i hne
        rw [Aj hne] at h
        simp only [Option.map_eq_none_iff] at h
        exact ihn _ (by simpa using hne) h
     exact this n ⟨t,0⟩ rfl hr (by rw [i2])
    | some l =>
     rw [hr] at i1
     simp only [Dd] at i1
     rw [Bh,Dd,i1,i2]
   ·rw [h1] at h;cases h
  ·rw [tE] at h
   rcases hf.of b with ⟨a,t,h1,h2⟩|⟨h1,h2⟩
   ·rw [h1,Al] at h
    simp only [iN,h2,ne_eq,Bw,AQ]
    exact ih.n _ oW
   ·simp only [iN]
    rw [Ak h2]
    exact h2
  ·simp only [iN]
   rw [Ak (hf.x s h)]
   exact hf.x s h
theorem bQ3 {α:Type} {f:RS->α × RS} {p:Dm->Option (α × Dm)} (hf:Rd f p):∀n,Rd (jC f n) (tE p n)
 | 0=>⟨fun b x r h=>by injection h with h;injection h with e1 e2;subst e1 e2;rfl,fun b h=>eS,fun s h=>h⟩
 | n+1=>by
  have ih:=bQ3 hf n
  refine ⟨fun b x r h=>?_,fun b h=>?_,fun s h=>?_⟩
  ·rw [tE] at h
   rcases hf.of b with ⟨a,t,h1,h2⟩|⟨h1,h2⟩
   ·rw [h1,Al] at h
    obtain ⟨y,hy,he⟩:=Ap.1 h
    injection he with e1 e2
    subst e1 e2
    simp only [jC,h2,ne_eq,Bw,AQ,ih.y _ _ _ hy]
   ·rw [h1] at h;cases h
  ·rw [tE] at h
   rcases hf.of b with ⟨a,t,h1,h2⟩|⟨h1,h2⟩
   ·rw [h1,Al] at h
    simp only [jC,h2,ne_eq,Bw,AQ]
    exact ih.n _ oW
   ·simp only [jC,ne_eq,Bw,AQ]
    exact ih.x _ h2
  ·simp only [jC]
   rw [Ak h]
   exact h
section
variable {α:Type} {f:RS->α × RS} {p:Dm->Option (α × Dm)} (hf:Rd f p) (m:Int)
include α f p hf m
theorem dU0:Rd (rLs f m) (pLs p m):=by
 have hfin:=(rL 0 m).bind (g:=fun n s=>((iN f n.toNat s).1.getD [],(iN f n.toNat s).2)) (q:=fun n b=>tE p n.toNat b) fun n=>cP9 hf n.toNat
 exact hfin
theorem cP8:Rd (bG5 f m) (pLs p m):=by
 have hfin:=(rL 0 m).bind (g:=fun n s=>jC f n.toNat s) (q:=fun n b=>tE p n.toNat b) fun n=>bQ3 hf n.toNat
 exact hfin
end
section
variable {f:RS->Int × RS} (hf:Rd f (pIn (-4294967296) 4294967296))
include f hf
theorem eN2:Rd (rLk f) pLk:=by
 have hfin:=(bQ2 hf).bind (β:=LLk) (g:=fun a s=>let b:=rId f s;let n:=bT b.2;let r:=rIn 0 1 n.2;(⟨a,b.1,n.1,decide (r.1=1)⟩,r.2)) (q:=fun a b=>(pId b).bind fun q=>(dH q.2).bind fun s=>(pIn 0 1 s.2).map fun t=>(⟨a,q.1,s.1,decide (t.1=1)⟩,t.2)) fun a =>
 (bQ2 hf).bind (β:=LLk) (g:=fun b s=>let n:=bT s;let r:=rIn 0 1 n.2;(⟨a,b,n.1,decide (r.1=1)⟩,r.2)) (q:=fun b c=>(dH c).bind fun s=>(pIn 0 1 s.2).map fun t=>(⟨a,b,s.1,decide (t.1=1)⟩,t.2)) fun b =>
 rd_int.bind (β:=LLk) (g:=fun n s=>let r:=rIn 0 1 s;(⟨a,b,n,decide (r.1=1)⟩,r.2)) (q:=fun n c=>(pIn 0 1 c).map fun t=>(⟨a,b,n,decide (t.1=1)⟩,t.2)) fun n=>(rL 0 1).map (fun t=>(⟨a,b,n,decide (t=1)⟩:LLk))
 exact hfin
theorem eN1:Rd (rHd f) pHd:=by
 have hfin:=rd_int.bind (β:=LHd) (g:=fun t s=>let c:=bT s;let w:=rId f c.2;let n:=bT w.2;let x:=bT n.2;let y:=bT x.2;(⟨t,c.1,w.1,n.1,x.1,y.1⟩,y.2)) (q:=fun t b=>(dH b).bind fun c=>(pId c.2).bind fun w=>(dH w.2).bind fun s=>(dH s.2).bind fun f=>(dH f.2).map fun o=>(⟨t,c.1,w.1,s.1,f.1,o.1⟩,o.2)) fun t =>
 rd_int.bind (β:=LHd) (g:=fun c s=>let w:=rId f s;let n:=bT w.2;let x:=bT n.2;let y:=bT x.2;(⟨t,c,w.1,n.1,x.1,y.1⟩,y.2)) (q:=fun c b=>(pId b).bind fun w=>(dH w.2).bind fun s=>(dH s.2).bind fun f=>(dH f.2).map fun o=>(⟨t,c,w.1,s.1,f.1,o.1⟩,o.2)) fun c =>
 (bQ2 hf).bind (β:=LHd) (g:=fun w s=>let n:=bT s;let x:=bT n.2;let y:=bT x.2;(⟨t,c,w,n.1,x.1,y.1⟩,y.2)) (q:=fun w b=>(dH b).bind fun s=>(dH s.2).bind fun f=>(dH f.2).map fun o=>(⟨t,c,w,s.1,f.1,o.1⟩,o.2)) fun w =>
 rd_int.bind (β:=LHd) (g:=fun n s=>let x:=bT s;let y:=bT x.2;(⟨t,c,w,n,x.1,y.1⟩,y.2)) (q:=fun n b=>(dH b).bind fun f=>(dH f.2).map fun o=>(⟨t,c,w,n,f.1,o.1⟩,o.2)) fun n =>
 rd_int.bind (β:=LHd) (g:=fun x s=>let y:=bT s;(⟨t,c,w,n,x,y.1⟩,y.2)) (q:=fun x b=>(dH b).map fun o=>(⟨t,c,w,n,x,o.1⟩,o.2)) fun x=>rd_int.map (fun y=>(⟨t,c,w,n,x,y⟩:LHd))
 exact hfin
theorem eN3:Rd (rRq f) pRq:=by
 have hfin:=rd_int.bind (β:=LRq) (g:=fun k s=>let w:=rId f s;let n:=bT w.2;let x:=bT n.2;let y:=bT x.2;(⟨k,w.1,n.1,x.1,y.1⟩,y.2)) (q:=fun k b=>(pId b).bind fun w=>(dH w.2).bind fun s=>(dH s.2).bind fun d=>(dH d.2).map fun o=>(⟨k,w.1,s.1,d.1,o.1⟩,o.2)) fun k =>
 (bQ2 hf).bind (β:=LRq) (g:=fun w s=>let n:=bT s;let x:=bT n.2;let y:=bT x.2;(⟨k,w,n.1,x.1,y.1⟩,y.2)) (q:=fun w b=>(dH b).bind fun s=>(dH s.2).bind fun d=>(dH d.2).map fun o=>(⟨k,w,s.1,d.1,o.1⟩,o.2)) fun w =>
 rd_int.bind (β:=LRq) (g:=fun n s=>let x:=bT s;let y:=bT x.2;(⟨k,w,n,x.1,y.1⟩,y.2)) (q:=fun n b=>(dH b).bind fun d=>(dH d.2).map fun o=>(⟨k,w,n,d.1,o.1⟩,o.2)) fun n =>
 rd_int.bind (β:=LRq) (g:=fun x s=>let y:=bT s;(⟨k,w,n,x,y.1⟩,y.2)) (q:=fun x b=>(dH b).map fun o=>(⟨k,w,n,x,o.1⟩,o.2)) fun x=>rd_int.map (fun y=>(⟨k,w,n,x,y⟩:LRq))
 exact hfin
end
theorem rd_dg:Rd rDg (pBy 32):=by
 refine ⟨fun b x r h=>?_,fun b h=>(aD2 32).n b h,fun s h=>(aD2 32).x s h⟩
 have h1:=(aD2 32).y _ _ _ h
 unfold pBy at h
 split at h
 ·rename_i hl
  injection h with h;injection h with e1 e2
  have hx:x≠[]:=fun e=>by
   have:=congrArg List.length e1
   rw [e,As] at this
   simp only [Bt] at this
   omega
  unfold rDg
  rw [h1]
  simp only
  rw [Aj hx]
 ·cases h
theorem dH1 {p:RP} (h1:Rd p.nu (pIn (-4294967296) 4294967296)) (h2:Rd p.vs (pLs pVr 512)) (h3:Rd p.ss (pLs pSr 512)) (k d pl st:Int):Rd (mU p k d pl st) (lM k d pl st):=by
 have e:mU p k d pl st=fun s=>mU p k d pl st s:=rfl
 have e':lM k d pl st=fun b=>lM k d pl st b:=rfl
 rw [e,e']
 unfold mU lM
 by_cases k1:k=1
 ·simp only [Ak k1]
  exact (eN3 h1).map (fun x=>(⟨k,d,pl,st,x,lk0,hd0,[],[],root0⟩:LEn))
 ·simp only [Aj k1]
  by_cases k2:k=2
  ·simp only [Ak k2]
   have hfin:=h2.bind (β:=LEn) (g:=fun v s=>(⟨k,d,pl,st,rq0,lk0,hd0,v,(p.ss s).1,root0⟩,(p.ss s).2)) (q:=fun v b=>(pLs pSr 512 b).map fun x=>(⟨k,d,pl,st,rq0,lk0,hd0,v,x.1,root0⟩,x.2)) fun v=>h3.map (fun x=>(⟨k,d,pl,st,rq0,lk0,hd0,v,x,root0⟩:LEn))
   exact hfin
  ·simp only [Aj k2]
   by_cases k4:k=4
   ·simp only [Ak k4]
    exact rd_dg.map (fun x=>(⟨k,d,pl,st,rq0,lk0,hd0,[],[],x⟩:LEn))
   ·simp only [Aj k4]
    by_cases k6:k=6
    ·simp only [Ak k6]
     exact (eN2 h1).map (fun x=>(⟨k,d,pl,st,rq0,x,hd0,[],[],root0⟩:LEn))
    ·simp only [Aj k6]
     by_cases k7:k=7
     ·simp only [Ak k7]
      exact (eN1 h1).map (fun x=>(⟨k,d,pl,st,rq0,lk0,x,[],[],root0⟩:LEn))
     ·simp only [Aj k7]
      exact Rd.pure _
theorem dT9 {p:RP} (h0:Rd p.ki (pIn 1 7)) (h1:Rd p.nu (pIn (-4294967296) 4294967296)) (h2:Rd p.vs (pLs pVr 512)) (h3:Rd p.ss (pLs pSr 512)):Rd (rEn p) pEn:=by
 have hfin:=h0.bind (β:=LEn) (g:=fun k s=>let d:=bT s;let pl:=bT d.2;let st:=bT pl.2;mU p k d.1 pl.1 st.1 st.2) (q:=fun k b=>(dH b).bind fun d=>(dH d.2).bind fun p=>(dH p.2).bind fun s=>lM k d.1 p.1 s.1 s.2) fun k =>
 rd_int.bind (β:=LEn) (g:=fun d s=>let pl:=bT s;let st:=bT pl.2;mU p k d pl.1 st.1 st.2) (q:=fun d b=>(dH b).bind fun p=>(dH p.2).bind fun s=>lM k d p.1 s.1 s.2) fun d =>
 rd_int.bind (β:=LEn) (g:=fun pl s=>let st:=bT s;mU p k d pl st.1 st.2) (q:=fun pl b=>(dH b).bind fun s=>lM k d pl s.1 s.2) fun pl =>
 rd_int.bind (β:=LEn) (g:=fun st s=>mU p k d pl st s) (q:=fun st b=>lM k d pl st b) fun st=>dH1 h1 h2 h3 k d pl st
 exact hfin
theorem rd_enP:Rd (rEn rpP) pEn:=dT9 (rL 1 7) eB5 (dU0 dU3 512) (dU0 dU2 512)
theorem rd_enR:Rd (rEn rpR) pEn:=dT9 eB4 eB6 (cP8 dU3 512) (cP8 dU2 512)
end Go.Proofs.YtbgehdndimlgkaaGreat
