/-
  Lemmas for laws of the ledger; no statement of a law.
-/
import Derived.Test.YtbgehdndimlgkaaGreatQ4
set_option linter.unusedSimpArgs false
set_option linter.unusedVariables false
namespace Go.Proofs.YtbgehdndimlgkaaGreat
open Go Go.RowKit Go.Av
abbrev iv (n:Int):CV := .v (.int .i64 n)
abbrev bv (b:Bool):CV := .v (.bool b)
abbrev uv (x:BitVec 64):CV := .v (.int .u64 (x.toNat:Int))
abbrev sv (l:List UInt8):CV := .v (.string ⟨l.toArray⟩)
theorem bsz (bs:ByteArray):bs.data.toList.length=bs.size:=by rw [Array.length_toList];rfl
theorem cY7 (bs:ByteArray):∀(n i:Nat) (r:List UInt8),bs.size-i=n→ByteArray.toList.loop bs i r=r.reverse++bs.data.toList.drop i:=by
 intro n
 induction n with
 | zero =>
  intro i r h
  rw [ByteArray.toList.loop,if_neg aA]
  have:=bsz bs
  rw [List.drop_eq_nil_of_le aA,List.append_nil]
 | succ n ih =>
  intro i r h
  rw [ByteArray.toList.loop,if_pos aA,ih (i+1) _ aA]
  have hl:i<bs.data.toList.length:=by have:=bsz bs;omega
  rw [List.drop_eq_getElem_cons hl]
  have:bs.get! i=bs.data.toList[i]:=by
   have h2:i<bs.data.size:=by simpa using hl
   rw [ByteArray.get!,getElem!_pos bs.data i h2,Array.getElem_toList]
  rw [this]
  simp
theorem aU8 (l:List UInt8):(⟨l.toArray⟩:ByteArray).toList=l:=by
 rw [ByteArray.toList,cY7 _ _ 0 [] rfl]
 simp
section
variable {P:Program} {tab:Tab} {ev:Evl} {h:aO} {d:Option Tmp} {T ty:TypeId} {x y z:Operand} {pos:String} {aft:Array Edge} {gd:Option (Nat × Bool)}
theorem dU5 {T':TypeId} {s t:List UInt8} {b:Bool} (hx:ev x=some (.c (sv s))) (hy:ev y=some (.c (sv t))) (hr:decide (s=t)=b):Still P ⟨d,.binOp .eql T x y T',ty,pos,aft,gd⟩ ev h (.c (.v (.bool b))) :=
 zT hx hy (by rw [aU8,aU8];exact hr)
end
theorem aL1 (l:List UInt8):(⟨l.toArray⟩:ByteArray).size=l.length:=by simp [ByteArray.size]
end Go.Proofs.YtbgehdndimlgkaaGreat
namespace Go.Proofs.YtbgehdndimlgkaaGreat
open Go Go.RowKit Go.Av
structure Vl where
 k:Int
 n:Int
 t:List UInt8
deriving DecidableEq
def Vl.nul:Vl:=⟨0,0,[]⟩
def Vl.c (v:Vl):List CV:=[iv v.k,iv v.n,sv v.t]
def okP (v:Vl):Prop:=(v.k=0∧v.n=0∧v.t=[])∨(v.k=1 ∧ -4294967296≤v.n∧v.n≤4294967296∧v.t=[])∨(v.k=2∧v.n=0∧v.t.length≤32)
instance (v:Vl):Decidable (okP v):=by unfold okP;infer_instance
def okV (v:Vl):Bool:=decide (okP v)
def clV (v:Vl):Vl:=if okV v then v else Vl.nul
theorem aZ1:okP Vl.nul := .inl ⟨rfl,rfl,rfl⟩
theorem aE4 (v:Vl):okP (clV v):=by
 unfold clV
 split
 ·rename_i h;exact of_decide_eq_true h
 ·exact aZ1
theorem dO4 {v:Vl} (h:okP v):clV v=v:=by unfold clV okV;rw [decide_eq_true h];rfl
def cG8 (n:Nat):UInt8:=UInt8.ofNat n
def esc (b:UInt8):List UInt8:=if b=0 then [0,255] else [b]
def eF8 (m:Nat):List UInt8:=[2,cG8 (m / 2 ^ 32),cG8 (m / 2 ^ 24),cG8 (m / 2 ^ 16),cG8 (m / 2 ^ 8),cG8 m]
def eG0 (v:Vl):List UInt8:=if v.k=1 then eF8 (v.n+4294967296).toNat else if v.k=2 then 3::v.t.flatMap esc++[0,0] else [1]
def eF9 (r:List Vl):List UInt8:=r.flatMap fun v=>eG0 (clV v)
def dL0 (h:BitVec 64) (b:UInt8):BitVec 64:=(h ^^^ BitVec.ofNat 64 b.toNat)*1099511628211#64
def dZ4 (l:List UInt8):BitVec 64:=l.foldl dL0 14695981039346656037#64
def eJ6 (v:Vl) (row:UInt8):BitVec 64:=dL0 (dZ4 (eF9 [v])) row
def rc (r:List Vl):List CV:=r.flatMap Vl.c
def wide (v:Vl):Prop:=(-9223372036854775808≤v.k∧v.k≤9223372036854775807)∧(-9223372036854775808≤v.n∧v.n≤9223372036854775807)∧v.t.length≤maxLen
end Go.Proofs.YtbgehdndimlgkaaGreat
namespace Go.Proofs.YtbgehdndimlgkaaGreat
open Go Go.RowKit Go.Av
set_option maxRecDepth 100000
def lD (u:Nat):List UInt8:=if h:u<128 then [UInt8.ofNat u] else UInt8.ofNat (u%128+128)::lD (u / 128)
termination_by u
decreasing_by omega
theorem jS {u:Nat} (h:u<128):lD u=[UInt8.ofNat u]:=by rw [lD,dif_pos h]
theorem lE {u:Nat} (h:¬u<128):lD u=UInt8.ofNat (u%128+128)::lD (u / 128):=by rw [lD,dif_neg h]
def zz (n:Int):Nat:=if n<0 then (-2*n-1).toNat else (2*n).toNat
def uz (u:Nat):Int:=if u%2=1 then -((u / 2:Nat):Int)-1 else (u / 2:Nat)
theorem eE1 (n:Int):uz (zz n)=n:=by
 unfold uz zz
 split<;>split<;>omega
theorem aA5 {n:Int} (h1 : -9223372036854775808≤n) (h2:n≤9223372036854775807):zz n<18446744073709551616:=by
 unfold zz
 split<;>omega
def aS (n:Int):List UInt8:=lD (zz n)
def pU:Nat→Nat→List UInt8→Option (Nat × List UInt8)
 | _,_,[]=>none
 | i,x,c::b=>if (i=9∧1<c.toNat)∨(0<i∧c.toNat=0) then none else if c.toNat<128 then some (x+c.toNat*128 ^ i,b) else pU (i+1) (x+c.toNat%128*128 ^ i) b
def cP (b:List UInt8):Option (Int × List UInt8):=(pU 0 0 b).map fun p=>(uz p.1,p.2)
theorem aA2 {n:Nat} (h:n<256):(UInt8.ofNat n).toNat=n:=by
 rw [UInt8.toNat_ofNat']
 exact Nat.mod_eq_of_lt h
theorem dA2 : ∀ (u i x : Nat) (r : List UInt8), i ≤ 9 → (i = 0 ∨ u ≠ 0) → u * 128 ^ i < 18446744073709551616 → pU i x (lD u ++ r) = some (x + u * 128 ^ i, r) := by
  intro u
  induction u using Nat.strongRecOn with
  | _ u ih =>
    intro i x r hi h0 hb
    by_cases h : u < 128
    · rw [jS h, List.singleton_append, pU, aA2 aA]
      have h9 : ¬ ((i = 9 ∧ 1 < u) ∨ (0 < i ∧ u = 0)) := by
        rintro (⟨e, h1⟩ | ⟨h1, h2⟩)
        · subst e
          have : 2 * 128 ^ 9 ≤ u * 128 ^ 9 := Nat.mul_le_mul_right _ h1
          have e2 : (2 * 128 ^ 9 : Nat) = 18446744073709551616 := by decide
          omega
        · omega
      rw [if_neg h9, if_pos h]
    · have hi9 : i ≠ 9 := fun e => by
        subst e
        have : 128 * 128 ^ 9 ≤ u * 128 ^ 9 := Nat.mul_le_mul_right _ aA
        have e2 : 18446744073709551616 ≤ (128 * 128 ^ 9 : Nat) := by decide
        omega
      rw [lE h, List.cons_append, pU, aA2 aA]
      have h9 : ¬ ((i = 9 ∧ 1 < u % 128 + 128) ∨ (0 < i ∧ u % 128 + 128 = 0)) := by
        rintro (⟨e, _⟩ | ⟨_, h2⟩)
        · exact hi9 e
        · omega
      have hm : (u % 128 + 128) % 128 = u % 128 := by omega
      have hs : u % 128 * 128 ^ i + u / 128 * 128 ^ (i + 1) = u * 128 ^ i := by
        rw [Nat.pow_succ, Nat.mul_comm (128 ^ i) 128, ← Nat.mul_assoc, ← Nat.add_mul]
        congr 1
        omega
      rw [if_neg h9, if_neg aA, hm, ih (u / 128) aA (i + 1) _ r aA (.inr aA) aA, Nat.add_assoc, hs]
theorem nI {n:Int} (h1 : -9223372036854775808≤n) (h2:n≤9223372036854775807) (r:List UInt8):cP (aS n++r)=some (n,r):=by
 unfold cP aS
 rw [dA2 (zz n) 0 0 r aA (.inl rfl) (by rw [Nat.pow_zero,Nat.mul_one];exact aA5 h1 h2)]
 simp [eE1]
def pIn (lo hi:Int) (b:List UInt8):Option (Int × List UInt8):=(cP b).bind fun p=>if lo≤p.1∧p.1≤hi then some p else none
def pBy (n:Nat) (b:List UInt8):Option (List UInt8 × List UInt8):=if n≤b.length then some (b.take n,b.drop n) else none
def pTx (m:Int) (b:List UInt8):Option (List UInt8 × List UInt8):=(pIn 0 m b).bind fun p=>pBy p.1.toNat p.2
theorem iX {n lo hi:Int} (h1:lo≤n) (h2:n≤hi) (h3 : -9223372036854775808≤n) (h4:n≤9223372036854775807) (r:List UInt8):pIn lo hi (aS n++r)=some (n,r):=by
 unfold pIn
 rw [nI h3 h4,Option.bind_some,if_pos ⟨h1,h2⟩]
def lW (s:List UInt8):List UInt8:=aS s.length++s
theorem aR3 {s:List UInt8} {m:Int} (h:(s.length:Int)≤m) (hm:m≤9223372036854775807) (r:List UInt8):pTx m (lW s++r)=some (s,r):=by
 unfold pTx lW
 rw [List.append_assoc,iX aA h aA aA,Option.bind_some]
 unfold pBy
 simp only [Int.toNat_natCast]
 rw [if_pos aN7,List.take_left,List.drop_left]
def kV (v:Vl):List UInt8:=aS v.k++(if v.k=1 then aS v.n else if v.k=2 then lW v.t else [])
def pVl (b:List UInt8):Option (Vl × List UInt8):=(pIn 0 2 b).bind fun p =>
 if p.1=1 then (pIn (-4294967296) 4294967296 p.2).map fun q=>(⟨1,q.1,[]⟩,q.2)
 else if p.1=2 then (pTx 32 p.2).map fun q=>(⟨2,0,q.1⟩,q.2) else some (⟨0,0,[]⟩,p.2)
theorem cI9 {v:Vl} (h:(v.k=0∧v.n=0∧v.t=[])∨(v.k=1 ∧ -4294967296≤v.n∧v.n≤4294967296∧v.t=[])∨(v.k=2∧v.n=0∧v.t.length≤32)) (r:List UInt8):pVl (kV v++r)=some (v,r):=by
 obtain ⟨k,n,t⟩:=v
 unfold pVl kV
 rcases h with ⟨h1,h2,h3⟩|⟨h1,h2,h3,h4⟩|⟨h1,h2,h3⟩<;>simp only at h1 h2 h3<;>subst h1
 ·subst h2 h3
  simp only [List.append_nil,if_neg (show ¬(0:Int)=1 by decide),if_neg (show ¬(0:Int)=2 by decide)]
  rw [iX aN aN aN aN,Option.bind_some]
  simp
 ·simp only at h4
  subst h4
  simp only [if_true,List.append_assoc]
  rw [iX aN aN aN aN,Option.bind_some]
  simp only [if_true]
  rw [iX h2 h3 aA aA]
  rfl
 ·subst h2
  simp only [if_neg (show ¬(2:Int)=1 by decide),if_true,List.append_assoc]
  rw [iX aN aN aN aN,Option.bind_some]
  simp only [if_neg (show ¬(2:Int)=1 by decide),if_true]
  rw [aR3 aA aN]
  rfl
end Go.Proofs.YtbgehdndimlgkaaGreat
namespace Go.Proofs.YtbgehdndimlgkaaGreat
open Go Go.RowKit Go.Av
set_option maxRecDepth 100000
def aQ (n:Int):Prop := -9223372036854775808≤n∧n≤9223372036854775807
theorem cS {n:Int} (h:aQ n) (r:List UInt8):cP (aS n++r)=some (n,r):=nI h.1 h.2 r
structure Idf where
 ns:List UInt8
 v:Vl
def dL (i:Idf):List UInt8:=lW i.ns++kV (clV i.v)
def pId (b:List UInt8):Option (Idf × List UInt8):=(pTx 16 b).bind fun p=>(pVl p.2).map fun q=>(⟨p.1,q.1⟩,q.2)
theorem tK {i:Idf} (h:i.ns.length≤16) (r:List UInt8):pId (dL i++r)=some (⟨i.ns,clV i.v⟩,r):=by
 unfold pId dL
 rw [List.append_assoc,aR3 aA aN,Option.bind_some,cI9 (aE4 i.v)]
 rfl
structure Ver where
 t:Int
 c:Int
 s:Int
deriving DecidableEq
def dM (v:Ver):List UInt8:=aS v.t++aS v.s++aS v.c
def pVr (b:List UInt8):Option (Ver × List UInt8):=(cP b).bind fun p=>(cP p.2).bind fun q=>(cP q.2).map fun w=>(⟨p.1,w.1,q.1⟩,w.2)
theorem dA3 {v:Ver} (h1:aQ v.t) (h2:aQ v.c) (h3:aQ v.s) (r:List UInt8):pVr (dM v++r)=some (v,r):=by
 unfold pVr dM
 rw [List.append_assoc,List.append_assoc,cS h1,Option.bind_some,cS h3,Option.bind_some,cS h2]
 rfl
structure Src where
 t:Int
 s:Int
deriving DecidableEq
def dQ (v:Src):List UInt8:=aS v.t++aS v.s
def pSr (b:List UInt8):Option (Src × List UInt8):=(cP b).bind fun p=>(cP p.2).map fun q=>(⟨p.1,q.1⟩,q.2)
theorem dA1 {v:Src} (h1:aQ v.t) (h2:aQ v.s) (r:List UInt8):pSr (dQ v++r)=some (v,r):=by
 unfold pSr dQ
 rw [List.append_assoc,cS h1,Option.bind_some,cS h2]
 rfl
def sE {α:Type} (p:List UInt8→Option (α × List UInt8)):Nat→List UInt8→Option (List α × List UInt8)
 | 0,b=>some ([],b)
 | n+1,b=>(p b).bind fun x=>(sE p n x.2).map fun y=>(x.1::y.1,y.2)
theorem aR2 {α:Type} {p:List UInt8→Option (α × List UInt8)} {e:α→List UInt8}:∀(l:List α) (r:List UInt8),(∀x∈l,∀r,p (e x++r)=some (x,r))→sE p l.length (l.flatMap e++r)=some (l,r)
 | [],r,_=>rfl
 | x::l,r,h=>by
  rw [List.length_cons,sE,List.flatMap_cons,List.append_assoc,h x aP,Option.bind_some,aR2 l r fun y hy=>h y (by simp [hy])]
  rfl
def eW {α:Type} (e:α→List UInt8) (l:List α):List UInt8:=aS l.length++l.flatMap e
def pLs {α:Type} (p:List UInt8→Option (α × List UInt8)) (m:Int) (b:List UInt8):Option (List α × List UInt8):=(pIn 0 m b).bind fun q=>sE p q.1.toNat q.2
theorem bI6 {α:Type} {p:List UInt8→Option (α × List UInt8)} {e:α→List UInt8} {l:List α} {m:Int} (h:∀x∈l,∀r,p (e x++r)=some (x,r)) (hl:(l.length:Int)≤m) (hm:m≤9223372036854775807) (r:List UInt8):pLs p m (eW e l++r)=some (l,r):=by
 unfold pLs eW
 rw [List.append_assoc,iX aA hl aA aA,Option.bind_some]
 simp only [Int.toNat_natCast]
 exact aR2 l r h
structure LLk where
 a:Idf
 b:Idf
 s:Int
 rv:Bool
def jQ (l:LLk):List UInt8:=dL l.a++(dL l.b++(aS l.s++aS (if l.rv then 1 else 0)))
def pLk (b:List UInt8):Option (LLk × List UInt8):=(pId b).bind fun p=>(pId p.2).bind fun q=>(cP q.2).bind fun s=>(pIn 0 1 s.2).map fun t=>(⟨p.1,q.1,s.1,decide (t.1=1)⟩,t.2)
def clI (i:Idf):Idf:=⟨i.ns,clV i.v⟩
theorem cZ9 {l:LLk} (h1:l.a.ns.length≤16) (h2:l.b.ns.length≤16) (h3:aQ l.s) (r:List UInt8):pLk (jQ l++r)=some (⟨clI l.a,clI l.b,l.s,l.rv⟩,r):=by
 obtain ⟨a,b,s,rv⟩:=l
 unfold pLk jQ
 simp only [List.append_assoc]
 rw [tK h1,Option.bind_some]
 simp only
 rw [tK h2,Option.bind_some]
 simp only
 rw [cS h3,Option.bind_some]
 simp only
 cases rv
 ·rw [if_neg aN,iX aN aN aN aN];rfl
 ·rw [if_pos rfl,iX aN aN aN aN];rfl
structure LHd where
 t:Int
 c:Int
 who:Idf
 s:Int
 fr:Int
 to:Int
def jP (h:LHd):List UInt8:=aS h.t++(aS h.c++(dL h.who++(aS h.s++(aS h.fr++aS h.to))))
def pHd (b:List UInt8):Option (LHd × List UInt8):=(cP b).bind fun t=>(cP t.2).bind fun c=>(pId c.2).bind fun w=>(cP w.2).bind fun s=>(cP s.2).bind fun f=>(cP f.2).map fun o=>(⟨t.1,c.1,w.1,s.1,f.1,o.1⟩,o.2)
theorem cZ8 {h:LHd} (h1:aQ h.t) (h2:aQ h.c) (h3:h.who.ns.length≤16) (h4:aQ h.s) (h5:aQ h.fr) (h6:aQ h.to) (r:List UInt8):pHd (jP h++r)=some (⟨h.t,h.c,clI h.who,h.s,h.fr,h.to⟩,r):=by
 unfold pHd jP
 simp only [List.append_assoc]
 rw [cS h1,Option.bind_some];simp only
 rw [cS h2,Option.bind_some];simp only
 rw [tK h3,Option.bind_some];simp only
 rw [cS h4,Option.bind_some];simp only
 rw [cS h5,Option.bind_some];simp only
 rw [cS h6];rfl
structure LRq where
 k:Int
 who:Idf
 s:Int
 d:Int
 dl:Int
def jR (q:LRq):List UInt8:=aS q.k++(dL q.who++(aS q.s++(aS q.d++aS q.dl)))
def pRq (b:List UInt8):Option (LRq × List UInt8):=(cP b).bind fun k=>(pId k.2).bind fun w=>(cP w.2).bind fun s=>(cP s.2).bind fun d=>(cP d.2).map fun o=>(⟨k.1,w.1,s.1,d.1,o.1⟩,o.2)
theorem dA0 {q:LRq} (h1:aQ q.k) (h3:q.who.ns.length≤16) (h4:aQ q.s) (h5:aQ q.d) (h6:aQ q.dl) (r:List UInt8):pRq (jR q++r)=some (⟨q.k,clI q.who,q.s,q.d,q.dl⟩,r):=by
 unfold pRq jR
 simp only [List.append_assoc]
 rw [cS h1,Option.bind_some];simp only
 rw [tK h3,Option.bind_some];simp only
 rw [cS h4,Option.bind_some];simp only
 rw [cS h5,Option.bind_some];simp only
 rw [cS h6];rfl
structure LEn where
 k:Int
 day:Int
 plan:Int
 step:Int
 rq:LRq
 lk:LLk
 hd:LHd
 vs:List Ver
 ss:List Src
 root:List UInt8
def iI:Idf:=⟨[],Vl.nul⟩
def rq0:LRq:=⟨0,iI,0,0,0⟩
def lk0:LLk:=⟨iI,iI,0,false⟩
def hd0:LHd:=⟨0,0,iI,0,0,0⟩
def root0:List UInt8:=List.replicate 32 0
def cG (e:LEn):List UInt8 :=
 if e.k=1 then jR e.rq else if e.k=2 then eW dM e.vs++eW dQ e.ss else if e.k=4 then e.root else if e.k=6 then jQ e.lk else if e.k=7 then jP e.hd else []
def bO (e:LEn):List UInt8:=aS e.k++(aS e.day++(aS e.plan++(aS e.step++cG e)))
def kZ (k d p s:Int) (b:List UInt8):Option (LEn × List UInt8) :=
 if k=1 then (pRq b).map fun x=>(⟨k,d,p,s,x.1,lk0,hd0,[],[],root0⟩,x.2)
 else if k=2 then (pLs pVr 512 b).bind fun v=>(pLs pSr 512 v.2).map fun x=>(⟨k,d,p,s,rq0,lk0,hd0,v.1,x.1,root0⟩,x.2)
 else if k=4 then (pBy 32 b).map fun x=>(⟨k,d,p,s,rq0,lk0,hd0,[],[],x.1⟩,x.2)
 else if k=6 then (pLk b).map fun x=>(⟨k,d,p,s,rq0,x.1,hd0,[],[],root0⟩,x.2)
 else if k=7 then (pHd b).map fun x=>(⟨k,d,p,s,rq0,lk0,x.1,[],[],root0⟩,x.2)
 else some (⟨k,d,p,s,rq0,lk0,hd0,[],[],root0⟩,b)
def pEn (b:List UInt8):Option (LEn × List UInt8):=(pIn 1 7 b).bind fun k=>(cP k.2).bind fun d=>(cP d.2).bind fun p=>(cP p.2).bind fun s=>kZ k.1 d.1 p.1 s.1 s.2
def clE (e:LEn):LEn :=
 ⟨e.k,e.day,e.plan,e.step,if e.k=1 then ⟨e.rq.k,clI e.rq.who,e.rq.s,e.rq.d,e.rq.dl⟩ else rq0,if e.k=6 then ⟨clI e.lk.a,clI e.lk.b,e.lk.s,e.lk.rv⟩ else lk0,if e.k=7 then ⟨e.hd.t,e.hd.c,clI e.hd.who,e.hd.s,e.hd.fr,e.hd.to⟩ else hd0,if e.k=2 then e.vs else [],if e.k=2 then e.ss else [],if e.k=4 then e.root else root0⟩
structure LEn.wf (e:LEn):Prop where
 h1:aQ e.day∧aQ e.plan∧aQ e.step
 rq:aQ e.rq.k∧aQ e.rq.s∧aQ e.rq.d∧aQ e.rq.dl
 lk:aQ e.lk.s
 hd:aQ e.hd.t∧aQ e.hd.c∧aQ e.hd.s∧aQ e.hd.fr∧aQ e.hd.to
 vs:∀v∈e.vs,aQ v.t∧aQ v.c∧aQ v.s
 ss:∀v∈e.ss,aQ v.t∧aQ v.s
 root:e.root.length=32
structure LEn.rd (e:LEn):Prop where
 k:1≤e.k∧e.k≤7
 rq:e.k=1→e.rq.who.ns.length≤16
 er:e.k=2→e.vs.length≤512∧e.ss.length≤512
 lk:e.k=6→e.lk.a.ns.length≤16∧e.lk.b.ns.length≤16
 hd:e.k=7→e.hd.who.ns.length≤16
theorem oC {e : LEn} (hw : e.wf) (hr : e.rd) (r : List UInt8) : pEn (bO e ++ r) = some (clE e, r) := by
  obtain ⟨a1, a2, a3⟩ := hw.h1
  obtain ⟨b1, b2, b3, b4⟩ := hw.rq
  have c1 := hw.lk
  obtain ⟨d1, d2, d3, d4, d5⟩ := hw.hd
  have e1 := hw.vs
  have e2 := hw.ss
  have f1 := hw.root
  obtain ⟨k1, k2⟩ := hr.k
  have g1 := hr.rq
  have g2 := hr.er
  have g3 := hr.lk
  have g4 := hr.hd
  clear hw hr
  obtain ⟨k, d, p, s, rq, lk, hd, vs, ss, root⟩ := e
  simp only at *
  unfold pEn bO cG clE
  simp only [List.append_assoc]
  rw [iX k1 k2 aA aA, Option.bind_some]; simp only
  rw [cS a1, Option.bind_some]; simp only
  rw [cS a2, Option.bind_some]; simp only
  rw [cS a3, Option.bind_some]; simp only
  unfold kZ
  rcases (show k = 1 ∨ k = 2 ∨ k = 3 ∨ k = 4 ∨ k = 5 ∨ k = 6 ∨ k = 7 by omega) with h | h | h | h | h | h | h <;> subst h
  · simp [dA0 b1 (g1 rfl) b2 b3 b4]
  · have hv := bI6 (p := pVr) (e := dM) (l := vs) (m := 512) (fun x hx r => dA3 (e1 x hx).1 (e1 x hx).2.1 (e1 x hx).2.2 r) (by have := (g2 rfl).1; omega) aN (eW dQ ss ++ r)
    have hs := bI6 (p := pSr) (e := dQ) (l := ss) (m := 512) (fun x hx r => dA1 (e2 x hx).1 (e2 x hx).2 r) (by have := (g2 rfl).2; omega) aN r
    simp [List.append_assoc, hv, hs]
  · simp
  · have hb : pBy 32 (root ++ r) = some (root, r) := by
      unfold pBy
      rw [if_pos aN7, ← f1, List.take_left, List.drop_left]
    simp [hb]
  · simp
  · simp [cZ9 (g3 rfl).1 (g3 rfl).2 c1]
  · simp [cZ8 d1 d2 (g4 rfl) d3 d4 d5]
end Go.Proofs.YtbgehdndimlgkaaGreat
namespace Go.Proofs.YtbgehdndimlgkaaGreat
open Go Go.RowKit Go.Av
set_option maxRecDepth 100000
structure SLO {α:Type} (lt:α→α→Prop):Prop where
 irr:∀a,¬lt a a
 tr:∀a b c,lt a b→lt b c→lt a c
 tri:∀a b,lt a b∨a=b∨lt b a
section
variable {α:Type} {lt:α→α→Prop}
theorem bD4 (h:SLO lt):∀{l m:List α},l.Pairwise lt→m.Pairwise lt→(∀x,x∈l↔x∈m)→l=m
 | [],[],_,_,_=>rfl
 | [],y::m,_,_,hm=>by have:=(hm y).2 aP;cases this
 | x::l,[],_,_,hm=>by have:=(hm x).1 aP;cases this
 | x::l,y::m,hl,hm',hm=>by
  obtain ⟨l1,l2⟩:=List.pairwise_cons.1 hl
  obtain ⟨m1,m2⟩:=List.pairwise_cons.1 hm'
  have e:x=y:=by
   rcases List.mem_cons.1 ((hm x).1 aP) with e|hx
   ·exact e
   ·rcases List.mem_cons.1 ((hm y).2 aP) with e|hy
    ·exact e.symm
    ·exact absurd (h.tr _ _ _ (l1 y hy) (m1 x hx)) (h.irr x)
  subst e
  rw [bD4 h l2 m2 fun z=>?_]
  constructor
  ·intro hz
   rcases List.mem_cons.1 ((hm z).1 (by simp [hz])) with e|hz'
   ·subst e;exact absurd (l1 z hz) (h.irr z)
   ·exact hz'
  ·intro hz
   rcases List.mem_cons.1 ((hm z).2 (by simp [hz])) with e|hz'
   ·subst e;exact absurd (m1 z hz) (h.irr z)
   ·exact hz'
theorem tW (h:SLO lt) {l:List α} (hl:l.Pairwise lt):l.Nodup:=by
 rw [List.nodup_iff_pairwise_ne]
 exact hl.imp fun {a b} hab e=>by subst e;exact h.irr a hab
open Classical in
noncomputable def insA (lt:α→α→Prop) (v:α):List α→List α
 | []=>[v]
 | x::l=>if lt v x then v::x::l else if v=x then x::l else x::insA lt v l
theorem yT (v:α):∀(l:List α) (x:α),x∈insA lt v l↔x=v∨x∈l
 | [],x=>by simp [insA]
 | y::l,x=>by
  rw [insA]
  split
  ·rw [List.mem_cons]
  ·split
   ·rename_i e
    subst e
    rw [List.mem_cons]
    exact ⟨.inr,fun hx=>hx.elim .inl id⟩
   ·rw [List.mem_cons,yT v l x,List.mem_cons]
    constructor
    ·rintro (e|e|e)
     ·exact .inr (.inl e)
     ·exact .inl e
     ·exact .inr (.inr e)
    ·rintro (e|e|e)
     ·exact .inr (.inl e)
     ·exact .inl e
     ·exact .inr (.inr e)
theorem aQ3 (h:SLO lt) (v:α):∀{l:List α},l.Pairwise lt→(insA lt v l).Pairwise lt
 | [],_=>List.pairwise_singleton _ _
 | y::l,hl=>by
  obtain ⟨l1,l2⟩:=List.pairwise_cons.1 hl
  rw [insA]
  split
  ·rename_i hv
   refine List.pairwise_cons.2 ⟨fun z hz=>?_,hl⟩
   rcases List.mem_cons.1 hz with rfl|hz
   ·exact hv
   ·exact h.tr _ _ _ hv (l1 z hz)
  ·rename_i hv
   split
   ·exact hl
   ·rename_i hne
    refine List.pairwise_cons.2 ⟨fun z hz=>?_,aQ3 h v l2⟩
    rcases (yT v l z).1 hz with rfl|hz
    ·rcases h.tri z y with e|e|e
     ·exact absurd e hv
     ·exact absurd e hne
     ·exact e
    ·exact l1 z hz
noncomputable def ascL (lt:α→α→Prop) (l:List α):List α:=l.foldl (fun m v=>insA lt v m) []
theorem aB8 (l:List α) (v:α):ascL lt (l++[v])=insA lt v (ascL lt l):=by unfold ascL;rw [List.foldl_append];rfl
theorem zZ {p:List α→Prop} (h0:p []) (h1:∀l x,p l→p (l++[x])):∀l,p l:=fun l=>by
 have:∀m:List α,p m.reverse:=fun m=>by
  induction m with
  | nil=>exact h0
  | cons x m ih=>rw [List.reverse_cons];exact h1 _ _ ih
 have:=this l.reverse
 rwa [List.reverse_reverse] at this
theorem jC (h:SLO lt) (l:List α):(ascL lt l).Pairwise lt∧∀x,x∈ascL lt l↔x∈l:=by
 refine zZ (p:=fun l=>(ascL lt l).Pairwise lt∧∀x,x∈ascL lt l↔x∈l) ⟨List.Pairwise.nil,fun x=>by simp [ascL]⟩ (fun l v ih=>?_) l
 rw [aB8]
 refine ⟨aQ3 h v ih.1,fun x=>?_⟩
 rw [yT,ih.2 x,List.mem_append,List.mem_singleton]
 exact Or.comm
theorem bM1 (h:SLO lt) {l m:List α} (hm:m.Pairwise lt) (hx:∀x,x∈m↔x∈l):m=ascL lt l :=
 bD4 h hm (jC h l).1 fun x=>(hx x).trans ((jC h l).2 x).symm
theorem lQ (h:SLO lt) {l m:List α} (hm:m.Nodup) (hx:∀x,x∈m↔x∈l):m.length=(ascL lt l).length :=
 ((List.perm_ext_iff_of_nodup hm (tW h (jC h l).1)).2 fun x=>(hx x).trans ((jC h l).2 x).symm).length_eq
theorem bV3 (h:SLO lt) {l m:List α} (hm:m.Nodup) (hd:∀x∈m,x∉l):(ascL lt (l++m)).length=(ascL lt l).length+m.length:=by
 rw [← List.length_append]
 refine (lQ h (List.nodup_append.2 ⟨tW h (jC h l).1,hm,fun a ha b hb e=>?_⟩) fun x=>?_).symm
 ·subst e
  exact hd a hb (((jC h l).2 a).1 ha)
 ·rw [List.mem_append,List.mem_append,(jC h l).2 x]
end
def ltV (a b:Ver):Prop:=a.t<b.t∨(a.t=b.t∧(a.s<b.s∨(a.s=b.s∧a.c<b.c)))
def ltS (a b:Src):Prop:=a.t<b.t∨(a.t=b.t∧a.s<b.s)
theorem slo_V:SLO ltV where
 irr a:=by unfold ltV;omega
 tr a b c h1 h2:=by unfold ltV at *;omega
 tri a b:=by
  unfold ltV
  by_cases h:a.t=b.t∧a.s=b.s∧a.c=b.c
  ·obtain ⟨ax,ac,av⟩:=a
   obtain ⟨bt,bc,bv'⟩:=b
   simp only at h
   obtain ⟨rfl,rfl,rfl⟩:=h
   exact .inr (.inl rfl)
  ·rcases (show (a.t<b.t∨(a.t=b.t∧(a.s<b.s∨(a.s=b.s∧a.c<b.c))))∨(b.t<a.t∨(b.t=a.t∧(b.s<a.s∨(b.s=a.s∧b.c<a.c)))) by omega) with h|h
   ·exact .inl h
   ·exact .inr (.inr h)
theorem cN7:SLO ltS where
 irr a:=by unfold ltS;omega
 tr a b c h1 h2:=by unfold ltS at *;omega
 tri a b:=by
  unfold ltS
  by_cases h:a.t=b.t∧a.s=b.s
  ·obtain ⟨ax,av⟩:=a
   obtain ⟨bt,bv'⟩:=b
   simp only at h
   obtain ⟨rfl,rfl⟩:=h
   exact .inr (.inl rfl)
  ·rcases (show (a.t<b.t∨(a.t=b.t∧a.s<b.s))∨(b.t<a.t∨(b.t=a.t∧b.s<a.s)) by omega) with h|h
   ·exact .inl h
   ·exact .inr (.inr h)
def kN (l:List LEn):List Ver:=l.flatMap fun e=>if e.k=2 then e.vs else []
def rM (l:List LEn):List Src:=l.flatMap fun e=>if e.k=2 then e.ss else []
def aA7 (l:List LEn) (k:Int):Nat:=(l.filter fun e=>decide (e.k=k)).length
def rN (l:List LEn) (k p:Int):Prop:=∃x∈l,x.k=k∧x.plan=p
noncomputable def erasV (l:List LEn):List Ver:=ascL ltV (kN l)
noncomputable def erasS (l:List LEn):List Src:=ascL ltS (rM l)
open Classical in
noncomputable def unfi (l:List LEn):List Int:=ascL (fun a b:Int=>a<b) ((l.filter fun e=>decide (e.k=2∧¬rN l 4 e.plan)).map (·.plan))
noncomputable def doneS (l:List LEn) (p:Int):List Int:=ascL (fun a b:Int=>a<b) ((l.filter fun e=>decide (e.k=3∧e.plan=p)).map (·.step))
structure Fol (l:List LEn) (e:LEn):Prop where
 rd:(pEn (bO e)).isSome=true
 day:0≤e.day∧e.day≤1048576∧∀x,l.getLast? = some x→x.day≤e.day
 rq:e.k=1→1≤e.rq.k∧e.rq.k≤3
 er:e.k=2→e.plan=aA7 l 2∧(e.vs≠[]∨e.ss≠[])∧(erasV l).length+e.vs.length≤512∧(erasS l).length+e.ss.length≤512∧(e.vs.Pairwise ltV∧∀v∈e.vs,v∉kN l)∧e.ss.Pairwise ltS∧∀v∈e.ss,v∉rM l
 st:e.k=3→(rN l 2 e.plan∧¬rN l 4 e.plan)∧(0≤e.step∧e.step<128)∧¬∃x∈l,x.k=3∧x.plan=e.plan∧x.step=e.step
 co:e.k=4→rN l 2 e.plan∧¬rN l 4 e.plan
 sg:e.k=5→e.step=aA7 l 5∧e.step<4
theorem qP (l:List LEn) (e:LEn):kN (l++[e])=kN l++if e.k=2 then e.vs else []:=by unfold kN;rw [List.flatMap_append];simp
theorem aB6 (l:List LEn) (e:LEn):rM (l++[e])=rM l++if e.k=2 then e.ss else []:=by unfold rM;rw [List.flatMap_append];simp
theorem Fol.more {l:List LEn} {e:LEn} (h:Fol l e):(erasV (l++[e])).length=(erasV l).length+(if e.k=2 then e.vs.length else 0):=by
 unfold erasV
 rw [qP]
 split
 ·rename_i hk
  obtain ⟨_,_,_,_,⟨h1,h2⟩,_⟩:=h.er hk
  exact bV3 slo_V (tW slo_V h1) h2
 ·simp
end Go.Proofs.YtbgehdndimlgkaaGreat
namespace Go.Proofs.YtbgehdndimlgkaaGreat
open Go Go.RowKit Go.Av
set_option maxRecDepth 100000
theorem kP (u:Nat):0<(lD u).length:=by
 by_cases h:u<128
 ·rw [jS h];simp
 ·rw [lE h];simp
theorem dT0:∀(u k i x:Nat),k<(lD u).length→pU i x ((lD u).take k)=none:=by
 intro u
 induction u using Nat.strongRecOn with
 | _ u ih =>
  intro k i x hk
  by_cases h:u<128
  ·rw [jS h,List.length_singleton] at hk
   obtain rfl:k=0:=by omega
   rw [List.take_zero,pU]
  ·rw [lE h] at hk ⊢
   cases k with
   | zero=>rw [List.take_zero,pU]
   | succ k =>
    rw [List.take_succ_cons,pU]
    split
    ·rfl
    ·rename_i h9
     rw [aA2 aA,if_neg aA]
     exact ih (u / 128) aA k _ _ (by rw [List.length_cons] at hk;omega)
theorem cI3 {n:Int} {k:Nat} (h:k<(aS n).length):cP ((aS n).take k)=none:=by
 unfold cP aS at *
 rw [dT0 _ _ _ _ h]
 rfl
theorem zF:∀{b:List UInt8} {i x:Nat} {p:Nat × List UInt8},pU i x b=some p→p.2.length<b.length
 | [],i,x,p,h=>by rw [pU] at h;cases h
 | c::b,i,x,p,h=>by
  rw [pU] at h
  split at h
  ·cases h
  ·split at h
   ·injection h with h
    rw [← h,List.length_cons]
    exact Nat.lt_succ_self _
   ·have:=zF h
    rw [List.length_cons];omega
theorem cI8:∀(b:List UInt8) (i x m:Nat),i+m=10→1≤m→pU i x (b.take m)=(pU i x b).map fun p=>(p.1,p.2.take (m-(b.length-p.2.length)))
 | [],i,x,m,_,_=>by rw [List.take_nil,pU];rfl
 | c::b,i,x,0,_,h=>by omega
 | c::b,i,x,m+1,h,_=>by
  rw [List.take_succ_cons,pU,pU]
  by_cases h9:(i=9∧1<c.toNat)∨(0<i∧c.toNat=0)
  ·rw [if_pos h9,if_pos h9];rfl
  ·rw [if_neg h9,if_neg h9]
   by_cases hc:c.toNat<128
   ·rw [if_pos hc,if_pos hc,Option.map_some]
    simp only [List.length_cons]
    rw [show m+1-(b.length+1-b.length)=m by omega]
   ·rw [if_neg hc,if_neg hc,cI8 b (i+1) _ m aA aA]
    cases hp:pU (i+1) (x+c.toNat%128*128 ^ i) b with
    | none=>rfl
    | some p =>
     have:=zF hp
     rw [Option.map_some,Option.map_some]
     simp only [List.length_cons]
     rw [show m+1-(b.length+1-p.2.length)=m-(b.length-p.2.length) by omega]
section
variable (kd:List UInt8→List UInt8→List UInt8)
def cO (ch:List UInt8) (e:LEn):List UInt8:=aS (bO e).length++(bO e++kd ch (bO e))
def iB (ch b:List UInt8):Option (LEn × List UInt8 × Nat) :=
 (cP b).bind fun p =>
  if 0≤p.1∧p.1+32≤p.2.length then
   (pEn (p.2.take p.1.toNat)).bind fun e =>
    if e.2=[]∧kd ch (p.2.take p.1.toNat)=(p.2.drop p.1.toNat).take 32 then some (e.1,kd ch (p.2.take p.1.toNat),b.length-p.2.length+p.1.toNat+32) else none
  else none
variable {kd}
theorem uU (hkd:∀c b,(kd c b).length=32) {e:LEn} (hw:e.wf) (hr:e.rd) (hl:(bO e).length≤9223372036854775807) (ch r:List UInt8):iB kd ch (cO kd ch e++r)=some (clE e,kd ch (bO e),(cO kd ch e).length):=by
 have hp:=oC hw hr []
 rw [List.append_nil] at hp
 have h32:=hkd ch (bO e)
 unfold iB cO
 rw [List.append_assoc,nI aA aA,Option.bind_some]
 simp only [Int.toNat_natCast,List.append_assoc,List.take_left,List.drop_left]
 rw [if_pos ⟨by omega,by simp only [List.length_append];omega⟩,hp,Option.bind_some]
 have e1:(kd ch (bO e)++r).take 32=kd ch (bO e):=by rw [← h32,List.take_left]
 simp only [e1,and_self,if_true]
 simp only [List.length_append]
 congr 3
 omega
theorem cZ3 (hkd : ∀ c b, (kd c b).length = 32) {e : LEn} (hl : (bO e).length ≤ 9223372036854775807) (ch : List UInt8) {k : Nat} (hk : k < (cO kd ch e).length) : iB kd ch ((cO kd ch e).take k) = none := by
  have h32 := hkd ch (bO e)
  unfold iB
  by_cases hn : k < (aS (bO e).length).length
  · have : (cO kd ch e).take k = (aS (bO e).length).take k := by
      unfold cO
      rw [List.take_append_of_le_length aA]
    rw [this, cI3 hn]
    rfl
  · have : (cO kd ch e).take k = aS (bO e).length ++ (bO e ++ kd ch (bO e)).take (k - (aS (bO e).length).length) := by
      unfold cO
      rw [List.take_append, List.take_of_length_le aA]
    rw [this, nI aA aA, Option.bind_some]
    unfold cO at hk
    simp only [List.length_append] at hk
    rw [if_neg]
    rintro ⟨_, h⟩
    simp only [List.length_take, List.length_append] at h
    omega
end
end Go.Proofs.YtbgehdndimlgkaaGreat
namespace Go.Proofs.YtbgehdndimlgkaaGreat
open Go Go.RowKit Go.Av
set_option maxRecDepth 100000
theorem dO3 (v:Vl):clV (clV v)=clV v:=dO4 (aE4 v)
theorem yI (i:Idf):dL (clI i)=dL i:=by unfold dL clI;simp only [dO3]
theorem cU4 (e:LEn):bO (clE e)=bO e:=by
 obtain ⟨k,d,p,s,rq,lk,hd,vs,ss,root⟩:=e
 unfold bO clE cG
 simp only
 congr 4
 by_cases h1:k=1
 ·simp only [h1,if_true,jR,yI]
 ·by_cases h2:k=2
  ·simp [h2]
  ·by_cases h4:k=4
   ·simp [h4]
   ·by_cases h6:k=6
    ·simp [h6,jQ,yI]
    ·by_cases h7:k=7
     ·simp [h7,jP,yI]
     ·simp [h1,h2,h4,h6,h7]
theorem bW4 {e:LEn} (h:e.k=2):(clE e).vs=e.vs∧(clE e).ss=e.ss:=by unfold clE;simp [h]
def FolL (l:List LEn):Prop:=∀i e,l[i]? = some e→Fol (l.take i) e
section
variable (kd:List UInt8→List UInt8→List UInt8)
open Classical in
noncomputable def parF:Nat→List LEn→List UInt8→List UInt8→List LEn × Nat × List UInt8
 | 0,l,ch,_=>(l,0,ch)
 | f+1,l,ch,b=>match iB kd ch b with
  | none=>(l,0,ch)
  | some (e,c,n)=>if Fol l e∧l.length<512 then ((parF f (l++[e]) c (b.drop n)).1,n+(parF f (l++[e]) c (b.drop n)).2.1,(parF f (l++[e]) c (b.drop n)).2.2) else (l,0,ch)
def gS:List UInt8→List LEn→List UInt8
 | _,[]=>[]
 | ch,e::l=>cO kd ch e++gS (kd ch (bO e)) l
variable {kd}
theorem bO9 (ch:List UInt8) (l:List LEn) (e:LEn):gS kd ch (l++[e])=gS kd ch l++cO kd (l.foldl (fun c e=>kd c (bO e)) ch) e:=by
 induction l generalizing ch with
 | nil=>simp [gS]
 | cons x l ih=>rw [List.cons_append,gS,ih,gS,List.append_assoc];rfl
theorem pY (ch:List UInt8):iB kd ch []=none:=rfl
end
end Go.Proofs.YtbgehdndimlgkaaGreat
namespace Go.Proofs.YtbgehdndimlgkaaGreat
open Go Go.RowKit Go.Av
set_option maxRecDepth 100000
structure RS where
 b:List UInt8
 e:Int
def eU:Nat→List UInt8→Int
 | _,[]=>100
 | i,c::b=>if (i=9∧1<c.toNat)∨(0<i∧c.toNat=0) then 1 else if c.toNat<128 then 1 else eU (i+1) b
theorem cC1:∀(i:Nat) (b:List UInt8),eU i b=1∨eU i b=100
 | _,[] => .inr rfl
 | i,c::b=>by
  rw [eU]
  split
  ·exact .inl rfl
  ·split
   ·exact .inl rfl
   ·exact cC1 (i+1) b
theorem dY8 (i:Nat) (b:List UInt8):eU i b≠0:=by rcases cC1 i b with h|h<;>rw [h]<;>decide
def bM (s:RS):Int × RS:=if s.e≠0 then (0,s) else match cP s.b with
 | some (n,r)=>(n,⟨r,0⟩)
 | none=>(0,⟨s.b,eU 0 s.b⟩)
def rIn (lo hi:Int) (s:RS):Int × RS:=if (bM s).2.e=0∧((bM s).1<lo∨hi<(bM s).1) then (0,⟨(bM s).2.b,1⟩) else bM s
def rBy (n:Nat) (s:RS):List UInt8 × RS:=if s.e≠0 then ([],s) else if s.b.length<n then ([],⟨s.b,100⟩) else (s.b.take n,⟨s.b.drop n,0⟩)
def rTx (m:Int) (s:RS):List UInt8 × RS:=rBy (rIn 0 m s).1.toNat (rIn 0 m s).2
def rVl (f:RS→Int × RS) (s:RS):Vl × RS :=
 if (rIn 0 2 s).1=1 then (⟨1,(f (rIn 0 2 s).2).1,[]⟩,(f (rIn 0 2 s).2).2)
 else if (rIn 0 2 s).1=2 then (⟨2,0,(rTx 32 (rIn 0 2 s).2).1⟩,(rTx 32 (rIn 0 2 s).2).2)
 else (⟨(rIn 0 2 s).1,0,[]⟩,(rIn 0 2 s).2)
def aR7:RS→Int × RS:=rIn (-4294967296) 4294967296
def aR8 (s:RS):Int × RS:=if (bM s).1 < -4294967296∨4294967296<(bM s).1 then ((bM s).1,⟨(bM s).2.b,if (bM s).2.e=0 then 1 else (bM s).2.e⟩) else bM s
def rId (f:RS→Int × RS) (s:RS):Idf × RS:=(⟨(rTx 16 s).1,(rVl f (rTx 16 s).2).1⟩,(rVl f (rTx 16 s).2).2)
def rVr (s:RS):Ver × RS:=(⟨(bM s).1,(bM (bM (bM s).2).2).1,(bM (bM s).2).1⟩,(bM (bM (bM s).2).2).2)
def rSr (s:RS):Src × RS:=(⟨(bM s).1,(bM (bM s).2).1⟩,(bM (bM s).2).2)
def gY {α:Type} (f:RS→α × RS):Nat→RS→Option (List α) × RS
 | 0,s=>(some [],s)
 | n+1,s=>if (f s).2.e≠0 then (none,(f s).2) else ((gY f n (f s).2).1.map ((f s).1 :: ·),(gY f n (f s).2).2)
def iL {α:Type} (f:RS→α × RS):Nat→RS→List α × RS
 | 0,s=>([],s)
 | n+1,s=>if s.e≠0 then ([],s) else ((f s).1::(iL f n (f s).2).1,(iL f n (f s).2).2)
def rLs {α:Type} (f:RS→α × RS) (m:Int) (s:RS):List α × RS:=((gY f (rIn 0 m s).1.toNat (rIn 0 m s).2).1.getD [],(gY f (rIn 0 m s).1.toNat (rIn 0 m s).2).2)
def aZ6 {α:Type} (f:RS→α × RS) (m:Int) (s:RS):List α × RS:=iL f (rIn 0 m s).1.toNat (rIn 0 m s).2
def rLk (f:RS→Int × RS) (s:RS):LLk × RS :=
 let a:=rId f s;let b:=rId f a.2;let n:=bM b.2;let r:=rIn 0 1 n.2
 (⟨a.1,b.1,n.1,decide (r.1=1)⟩,r.2)
def rHd (f:RS→Int × RS) (s:RS):LHd × RS :=
 let t:=bM s;let c:=bM t.2;let w:=rId f c.2;let n:=bM w.2;let x:=bM n.2;let y:=bM x.2
 (⟨t.1,c.1,w.1,n.1,x.1,y.1⟩,y.2)
def rRq (f:RS→Int × RS) (s:RS):LRq × RS :=
 let k:=bM s;let w:=rId f k.2;let n:=bM w.2;let x:=bM n.2;let y:=bM x.2
 (⟨k.1,w.1,n.1,x.1,y.1⟩,y.2)
def rDg (s:RS):List UInt8 × RS:=(if (rBy 32 s).1=[] then root0 else (rBy 32 s).1,(rBy 32 s).2)
def bR1 (s:RS):Int × RS:=if (bM s).1<1∨7<(bM s).1 then ((bM s).1,⟨(bM s).2.b,if (bM s).2.e=0 then 1 else (bM s).2.e⟩) else bM s
structure RP where
 ki:RS→Int × RS
 nu:RS→Int × RS
 vs:RS→List Ver × RS
 ss:RS→List Src × RS
def rpP:RP:=⟨rIn 1 7,aR7,rLs rVr 512,rLs rSr 512⟩
def rpR:RP:=⟨bR1,aR8,aZ6 rVr 512,aZ6 rSr 512⟩
def mE (p:RP) (k d pl st:Int) (s:RS):LEn × RS :=
 if k=1 then (⟨k,d,pl,st,(rRq p.nu s).1,lk0,hd0,[],[],root0⟩,(rRq p.nu s).2)
 else if k=2 then (⟨k,d,pl,st,rq0,lk0,hd0,(p.vs s).1,(p.ss (p.vs s).2).1,root0⟩,(p.ss (p.vs s).2).2)
 else if k=4 then (⟨k,d,pl,st,rq0,lk0,hd0,[],[],(rDg s).1⟩,(rDg s).2)
 else if k=6 then (⟨k,d,pl,st,rq0,(rLk p.nu s).1,hd0,[],[],root0⟩,(rLk p.nu s).2)
 else if k=7 then (⟨k,d,pl,st,rq0,lk0,(rHd p.nu s).1,[],[],root0⟩,(rHd p.nu s).2)
 else (⟨k,d,pl,st,rq0,lk0,hd0,[],[],root0⟩,s)
def rEn (p:RP) (s:RS):LEn × RS :=
 let k:=p.ki s;let d:=bM k.2;let pl:=bM d.2;let st:=bM pl.2
 mE p k.1 d.1 pl.1 st.1 st.2
structure Rd {α:Type} (f:RS→α × RS) (p:List UInt8→Option (α × List UInt8)):Prop where
 y:∀b x r,p b=some (x,r)→f ⟨b,0⟩=(x,⟨r,0⟩)
 n:∀b,p b=none→(f ⟨b,0⟩).2.e≠0
 x:∀s,s.e≠0→(f s).2.e≠0
theorem Rd.of {α:Type} {f:RS→α × RS} {p:List UInt8→Option (α × List UInt8)} (h:Rd f p) (b:List UInt8):(∃x r,p b=some (x,r)∧f ⟨b,0⟩=(x,⟨r,0⟩))∨(p b=none∧(f ⟨b,0⟩).2.e≠0):=by
 cases hp:p b with
 | none=>exact .inr ⟨rfl,h.n b hp⟩
 | some q=>obtain ⟨x,r⟩:=q;exact .inl ⟨x,r,rfl,h.y b x r hp⟩
theorem one_ne:(1:Int)≠0:=by decide
theorem dQ9:(100:Int)≠0:=by decide
theorem rd_int:Rd bM cP:=by
 refine ⟨fun b x r h=>?_,fun b h=>?_,fun s h=>?_⟩
 ·simp [bM,h]
 ·simp [bM,h,dY8]
 ·simp [bM,h]
theorem qG (lo hi:Int):Rd (rIn lo hi) (pIn lo hi):=by
 refine ⟨fun b x r h=>?_,fun b h=>?_,fun s h=>?_⟩
 ·unfold pIn at h
  rcases rd_int.of b with ⟨n,q,h1,h2⟩|⟨h1,h2⟩
  ·rw [h1,Option.bind_some] at h
   split at h
   ·rename_i hb
    injection h with h;injection h with e1 e2
    simp only at e1 e2 hb
    subst e1 e2
    rw [rIn,h2,if_neg rY]
   ·cases h
  ·rw [h1] at h;cases h
 ·unfold pIn at h
  rcases rd_int.of b with ⟨n,q,h1,h2⟩|⟨h1,h2⟩
  ·rw [h1,Option.bind_some] at h
   split at h
   ·cases h
   ·rename_i hb
    simp only at hb
    rw [rIn,h2,if_pos (by simp only;exact ⟨trivial,by omega⟩)]
    exact one_ne
  ·rw [rIn,if_neg (fun h=>h2 h.1)]
   exact h2
 ·have h2:=rd_int.x s h
  rw [rIn,if_neg (fun h=>h2 h.1)]
  exact h2
theorem zG (n:Nat):Rd (rBy n) (pBy n):=by
 refine ⟨fun b x r h=>?_,fun b h=>?_,fun s h=>?_⟩
 ·unfold pBy at h
  split at h
  ·injection h with h;injection h with e1 e2
   subst e1 e2
   rw [rBy,if_neg aP,if_neg rY]
  ·cases h
 ·unfold pBy at h
  split at h
  ·cases h
  ·rw [rBy,if_neg aP,if_pos rY]
   exact dQ9
 ·rw [rBy,if_pos h];exact h
theorem bJ6 (m:Int):Rd (rTx m) (pTx m):=by
 refine ⟨fun b x r h=>?_,fun b h=>?_,fun s h=>?_⟩
 ·unfold pTx at h
  rcases (qG 0 m).of b with ⟨n,q,h1,h2⟩|⟨h1,h2⟩
  ·rw [h1,Option.bind_some] at h
   rw [rTx,h2]
   exact (zG _).y _ _ _ h
  ·rw [h1] at h;cases h
 ·unfold pTx at h
  rcases (qG 0 m).of b with ⟨n,q,h1,h2⟩|⟨h1,h2⟩
  ·rw [h1,Option.bind_some] at h
   rw [rTx,h2]
   exact (zG _).n _ h
  ·exact (zG _).x _ h2
 ·exact (zG _).x _ ((qG 0 m).x s h)
theorem dT5:Rd aR7 (pIn (-4294967296) 4294967296):=qG _ _
theorem bJ3 (lo hi:Int) (f:RS→Int × RS) (hf:∀s,f s=if (bM s).1<lo∨hi<(bM s).1 then ((bM s).1,⟨(bM s).2.b,if (bM s).2.e=0 then 1 else (bM s).2.e⟩) else bM s):Rd f (pIn lo hi):=by
 have hx:∀s,(bM s).2.e≠0→(f s).2.e≠0:=fun s h=>by
  rw [hf]
  split
  ·first|exact h|(simp only;rw [if_neg h];exact h)
  ·exact h
 refine ⟨fun b x r h=>?_,fun b h=>?_,fun s h=>hx s (rd_int.x s h)⟩
 ·unfold pIn at h
  rcases rd_int.of b with ⟨n,q,h1,h2⟩|⟨h1,h2⟩
  ·rw [h1,Option.bind_some] at h
   split at h
   ·rename_i hb
    injection h with h;injection h with e1 e2
    simp only at e1 e2 hb
    subst e1 e2
    rw [hf,h2,if_neg rY]
   ·cases h
  ·rw [h1] at h;cases h
 ·unfold pIn at h
  rcases rd_int.of b with ⟨n,q,h1,h2⟩|⟨h1,h2⟩
  ·rw [h1,Option.bind_some] at h
   split at h
   ·cases h
   ·rename_i hb
    simp only at hb
    rw [hf,h2,if_pos rY]
    exact one_ne
  ·exact hx _ h2
theorem dT6:Rd aR8 (pIn (-4294967296) 4294967296):=bJ3 _ _ _ fun s=>rfl
theorem dT4:Rd bR1 (pIn 1 7):=bJ3 _ _ _ fun s=>rfl
theorem eC7 {f:RS→Int × RS} (hf:Rd f (pIn (-4294967296) 4294967296)):Rd (rVl f) pVl:=by
 have hx:∀s,(rIn 0 2 s).2.e≠0→(rVl f s).2.e≠0:=fun s h=>by
  unfold rVl
  split
  ·exact hf.x _ h
  ·split
   ·exact (bJ6 32).x _ h
   ·exact h
 refine ⟨fun b x r h=>?_,fun b h=>?_,fun s h=>hx s ((qG 0 2).x s h)⟩
 ·unfold pVl at h
  rcases (qG 0 2).of b with ⟨k,q,h1,h2⟩|⟨h1,h2⟩
  ·rw [h1,Option.bind_some] at h
   unfold rVl
   rw [h2]
   simp only at h ⊢
   by_cases hk1:k=1
   ·rw [if_pos hk1] at h ⊢
    obtain ⟨y,hy,he⟩:=Option.map_eq_some_iff.1 h
    rw [hf.y _ _ _ hy]
    injection he with e1 e2
    subst e1 e2
    rfl
   ·rw [if_neg hk1] at h ⊢
    by_cases hk2:k=2
    ·rw [if_pos hk2] at h ⊢
     obtain ⟨y,hy,he⟩:=Option.map_eq_some_iff.1 h
     rw [(bJ6 32).y _ _ _ hy]
     injection he with e1 e2
     subst e1 e2
     rfl
    ·rw [if_neg hk2] at h ⊢
     injection h with h;injection h with e1 e2
     subst e1 e2
     have hk0:k=0:=by
      unfold pIn at h1
      cases hp:cP b with
      | none=>rw [hp] at h1;cases h1
      | some q' =>
       rw [hp,Option.bind_some] at h1
       split at h1
       ·rename_i hb
        injection h1 with h1
        rw [h1] at hb
        simp only at hb
        omega
       ·cases h1
     subst hk0
     rfl
  ·rw [h1] at h;cases h
 ·unfold pVl at h
  rcases (qG 0 2).of b with ⟨k,q,h1,h2⟩|⟨h1,h2⟩
  ·rw [h1,Option.bind_some] at h
   unfold rVl
   rw [h2]
   simp only at h ⊢
   by_cases hk1:k=1
   ·rw [if_pos hk1] at h ⊢
    exact hf.n _ oZ
   ·rw [if_neg hk1] at h ⊢
    by_cases hk2:k=2
    ·rw [if_pos hk2] at h ⊢
     exact (bJ6 32).n _ oZ
    ·rw [if_neg hk2] at h;cases h
  ·exact hx _ h2
theorem Rd.bind {α β:Type} {f:RS→α × RS} {p:List UInt8→Option (α × List UInt8)} (hf:Rd f p) {g:α→RS→β × RS} {q:α→List UInt8→Option (β × List UInt8)} (hg:∀a,Rd (g a) (q a)):Rd (fun s=>g (f s).1 (f s).2) (fun b=>(p b).bind fun x=>q x.1 x.2):=by
 refine ⟨fun b x r h=>?_,fun b h=>?_,fun s h=>(hg _).x _ (hf.x s h)⟩
 ·rcases hf.of b with ⟨n,t,h1,h2⟩|⟨h1,h2⟩
  ·simp only [h1,Option.bind_some] at h
   simp only [h2]
   exact (hg n).y _ _ _ h
  ·simp only [h1] at h;cases h
 ·rcases hf.of b with ⟨n,t,h1,h2⟩|⟨h1,h2⟩
  ·simp only [h1,Option.bind_some] at h
   simp only [h2]
   exact (hg n).n _ h
  ·exact (hg _).x _ h2
theorem Rd.map {α β:Type} {f:RS→α × RS} {p:List UInt8→Option (α × List UInt8)} (hf:Rd f p) (g:α→β):Rd (fun s=>(g (f s).1,(f s).2)) (fun b=>(p b).map fun x=>(g x.1,x.2)):=by
 refine ⟨fun b x r h=>?_,fun b h=>?_,fun s h=>hf.x s h⟩
 ·obtain ⟨y,hy,he⟩:=Option.map_eq_some_iff.1 h
  injection he with e1 e2
  subst e1 e2
  simp only [hf.y _ _ _ hy]
 ·exact hf.n b oZ
theorem Rd.pure {α:Type} (a:α):Rd (fun s=>(a,s)) (fun b=>some (a,b)):=⟨fun b x r h=>by injection h with h;injection h with e1 e2;subst e1 e2;rfl,fun b h=>iM,fun s h=>h⟩
theorem bJ4 {f:RS→Int × RS} (hf:Rd f (pIn (-4294967296) 4294967296)):Rd (rId f) pId:=by
 have hfin:=(bJ6 16).bind (β:=Idf) (g:=fun a s=>(⟨a,(rVl f s).1⟩,(rVl f s).2)) (q:=fun a b=>(pVl b).map fun q=>(⟨a,q.1⟩,q.2)) fun a=>(eC7 hf).map (fun v=>(⟨a,v⟩:Idf))
 exact hfin
theorem dM6:Rd rVr pVr:=by
 have hfin:=rd_int.bind (β:=Ver) (g:=fun t s=>(⟨t,(bM (bM s).2).1,(bM s).1⟩,(bM (bM s).2).2)) (q:=fun t b=>(cP b).bind fun q=>(cP q.2).map fun w=>(⟨t,w.1,q.1⟩,w.2)) fun t =>
 rd_int.bind (β:=Ver) (g:=fun x s=>(⟨t,(bM s).1,x⟩,(bM s).2)) (q:=fun x b=>(cP b).map fun w=>(⟨t,w.1,x⟩,w.2)) fun x=>rd_int.map (fun w=>(⟨t,w,x⟩:Ver))
 exact hfin
theorem dM5:Rd rSr pSr:=by
 have hfin:=rd_int.bind (β:=Src) (g:=fun t s=>(⟨t,(bM s).1⟩,(bM s).2)) (q:=fun t b=>(cP b).map fun q=>(⟨t,q.1⟩,q.2)) fun t=>rd_int.map (fun w=>(⟨t,w⟩:Src))
 exact hfin
theorem cJ7 {α:Type} {f:RS→α × RS} {p:List UInt8→Option (α × List UInt8)} (hf:Rd f p):∀n,Rd (fun s=>((gY f n s).1.getD [],(gY f n s).2)) (sE p n)
 | 0=>⟨fun b x r h=>by injection h with h;injection h with e1 e2;subst e1 e2;rfl,fun b h=>iM,fun s h=>h⟩
 | n+1=>by
  have ih:=cJ7 hf n
  refine ⟨fun b x r h=>?_,fun b h=>?_,fun s h=>?_⟩
  ·rw [sE] at h
   rcases hf.of b with ⟨a,t,h1,h2⟩|⟨h1,h2⟩
   ·rw [h1,Option.bind_some] at h
    obtain ⟨y,hy,he⟩:=Option.map_eq_some_iff.1 h
    injection he with e1 e2
    subst e1 e2
    have hi:=ih.y _ _ _ hy
    simp only [gY,h2,ne_eq,not_true_eq_false,if_false]
    injection hi with i1 i2
    have hne:=(gY f n ⟨t,0⟩).1
    cases hr:(gY f n ⟨t,0⟩).1 with
    | none =>
     exfalso
     have:∀(n:Nat) (s:RS),s.e=0→(gY f n s).1=none→(gY f n s).2.e≠0:=by
      intro n
      induction n with
      | zero=>intro s _ h;cases h
      | succ n ihn =>
       intro s hs h
       rw [gY] at h ⊢
       split
       ·rename_i hne;exact hne
       ·rename_i hne
        rw [if_neg hne] at h
        simp only [Option.map_eq_none_iff] at h
        exact ihn _ (by simpa using hne) h
     exact this n ⟨t,0⟩ rfl hr (by rw [i2])
    | some l =>
     rw [hr] at i1
     simp only [Option.getD_some] at i1
     rw [Option.map_some,Option.getD_some,i1,i2]
   ·rw [h1] at h;cases h
  ·rw [sE] at h
   rcases hf.of b with ⟨a,t,h1,h2⟩|⟨h1,h2⟩
   ·rw [h1,Option.bind_some] at h
    simp only [gY,h2,ne_eq,not_true_eq_false,if_false]
    exact ih.n _ oZ
   ·simp only [gY]
    rw [if_pos h2]
    exact h2
  ·simp only [gY]
   rw [if_pos (hf.x s h)]
   exact hf.x s h
theorem bJ5 {α:Type} {f:RS→α × RS} {p:List UInt8→Option (α × List UInt8)} (hf:Rd f p):∀n,Rd (iL f n) (sE p n)
 | 0=>⟨fun b x r h=>by injection h with h;injection h with e1 e2;subst e1 e2;rfl,fun b h=>iM,fun s h=>h⟩
 | n+1=>by
  have ih:=bJ5 hf n
  refine ⟨fun b x r h=>?_,fun b h=>?_,fun s h=>?_⟩
  ·rw [sE] at h
   rcases hf.of b with ⟨a,t,h1,h2⟩|⟨h1,h2⟩
   ·rw [h1,Option.bind_some] at h
    obtain ⟨y,hy,he⟩:=Option.map_eq_some_iff.1 h
    injection he with e1 e2
    subst e1 e2
    simp only [iL,h2,ne_eq,not_true_eq_false,if_false,ih.y _ _ _ hy]
   ·rw [h1] at h;cases h
  ·rw [sE] at h
   rcases hf.of b with ⟨a,t,h1,h2⟩|⟨h1,h2⟩
   ·rw [h1,Option.bind_some] at h
    simp only [iL,h2,ne_eq,not_true_eq_false,if_false]
    exact ih.n _ oZ
   ·simp only [iL,ne_eq,not_true_eq_false,if_false]
    exact ih.x _ h2
  ·simp only [iL]
   rw [if_pos h]
   exact h
theorem dM3 {α:Type} {f:RS→α × RS} {p:List UInt8→Option (α × List UInt8)} (hf:Rd f p) (m:Int):Rd (rLs f m) (pLs p m):=by
 have hfin:=(qG 0 m).bind (g:=fun n s=>((gY f n.toNat s).1.getD [],(gY f n.toNat s).2)) (q:=fun n b=>sE p n.toNat b) fun n=>cJ7 hf n.toNat
 exact hfin
theorem cJ6 {α:Type} {f:RS→α × RS} {p:List UInt8→Option (α × List UInt8)} (hf:Rd f p) (m:Int):Rd (aZ6 f m) (pLs p m):=by
 have hfin:=(qG 0 m).bind (g:=fun n s=>iL f n.toNat s) (q:=fun n b=>sE p n.toNat b) fun n=>bJ5 hf n.toNat
 exact hfin
theorem eC5 {f:RS→Int × RS} (hf:Rd f (pIn (-4294967296) 4294967296)):Rd (rLk f) pLk:=by
 have hfin:=(bJ4 hf).bind (β:=LLk) (g:=fun a s=>let b:=rId f s;let n:=bM b.2;let r:=rIn 0 1 n.2;(⟨a,b.1,n.1,decide (r.1=1)⟩,r.2)) (q:=fun a b=>(pId b).bind fun q=>(cP q.2).bind fun s=>(pIn 0 1 s.2).map fun t=>(⟨a,q.1,s.1,decide (t.1=1)⟩,t.2)) fun a =>
 (bJ4 hf).bind (β:=LLk) (g:=fun b s=>let n:=bM s;let r:=rIn 0 1 n.2;(⟨a,b,n.1,decide (r.1=1)⟩,r.2)) (q:=fun b c=>(cP c).bind fun s=>(pIn 0 1 s.2).map fun t=>(⟨a,b,s.1,decide (t.1=1)⟩,t.2)) fun b =>
 rd_int.bind (β:=LLk) (g:=fun n s=>let r:=rIn 0 1 s;(⟨a,b,n,decide (r.1=1)⟩,r.2)) (q:=fun n c=>(pIn 0 1 c).map fun t=>(⟨a,b,n,decide (t.1=1)⟩,t.2)) fun n=>(qG 0 1).map (fun t=>(⟨a,b,n,decide (t=1)⟩:LLk))
 exact hfin
theorem eC4 {f:RS→Int × RS} (hf:Rd f (pIn (-4294967296) 4294967296)):Rd (rHd f) pHd:=by
 have hfin:=rd_int.bind (β:=LHd) (g:=fun t s=>let c:=bM s;let w:=rId f c.2;let n:=bM w.2;let x:=bM n.2;let y:=bM x.2;(⟨t,c.1,w.1,n.1,x.1,y.1⟩,y.2)) (q:=fun t b=>(cP b).bind fun c=>(pId c.2).bind fun w=>(cP w.2).bind fun s=>(cP s.2).bind fun f=>(cP f.2).map fun o=>(⟨t,c.1,w.1,s.1,f.1,o.1⟩,o.2)) fun t =>
 rd_int.bind (β:=LHd) (g:=fun c s=>let w:=rId f s;let n:=bM w.2;let x:=bM n.2;let y:=bM x.2;(⟨t,c,w.1,n.1,x.1,y.1⟩,y.2)) (q:=fun c b=>(pId b).bind fun w=>(cP w.2).bind fun s=>(cP s.2).bind fun f=>(cP f.2).map fun o=>(⟨t,c,w.1,s.1,f.1,o.1⟩,o.2)) fun c =>
 (bJ4 hf).bind (β:=LHd) (g:=fun w s=>let n:=bM s;let x:=bM n.2;let y:=bM x.2;(⟨t,c,w,n.1,x.1,y.1⟩,y.2)) (q:=fun w b=>(cP b).bind fun s=>(cP s.2).bind fun f=>(cP f.2).map fun o=>(⟨t,c,w,s.1,f.1,o.1⟩,o.2)) fun w =>
 rd_int.bind (β:=LHd) (g:=fun n s=>let x:=bM s;let y:=bM x.2;(⟨t,c,w,n,x.1,y.1⟩,y.2)) (q:=fun n b=>(cP b).bind fun f=>(cP f.2).map fun o=>(⟨t,c,w,n,f.1,o.1⟩,o.2)) fun n =>
 rd_int.bind (β:=LHd) (g:=fun x s=>let y:=bM s;(⟨t,c,w,n,x,y.1⟩,y.2)) (q:=fun x b=>(cP b).map fun o=>(⟨t,c,w,n,x,o.1⟩,o.2)) fun x=>rd_int.map (fun y=>(⟨t,c,w,n,x,y⟩:LHd))
 exact hfin
theorem eC6 {f:RS→Int × RS} (hf:Rd f (pIn (-4294967296) 4294967296)):Rd (rRq f) pRq:=by
 have hfin:=rd_int.bind (β:=LRq) (g:=fun k s=>let w:=rId f s;let n:=bM w.2;let x:=bM n.2;let y:=bM x.2;(⟨k,w.1,n.1,x.1,y.1⟩,y.2)) (q:=fun k b=>(pId b).bind fun w=>(cP w.2).bind fun s=>(cP s.2).bind fun d=>(cP d.2).map fun o=>(⟨k,w.1,s.1,d.1,o.1⟩,o.2)) fun k =>
 (bJ4 hf).bind (β:=LRq) (g:=fun w s=>let n:=bM s;let x:=bM n.2;let y:=bM x.2;(⟨k,w,n.1,x.1,y.1⟩,y.2)) (q:=fun w b=>(cP b).bind fun s=>(cP s.2).bind fun d=>(cP d.2).map fun o=>(⟨k,w,s.1,d.1,o.1⟩,o.2)) fun w =>
 rd_int.bind (β:=LRq) (g:=fun n s=>let x:=bM s;let y:=bM x.2;(⟨k,w,n,x.1,y.1⟩,y.2)) (q:=fun n b=>(cP b).bind fun d=>(cP d.2).map fun o=>(⟨k,w,n,d.1,o.1⟩,o.2)) fun n =>
 rd_int.bind (β:=LRq) (g:=fun x s=>let y:=bM s;(⟨k,w,n,x,y.1⟩,y.2)) (q:=fun x b=>(cP b).map fun o=>(⟨k,w,n,x,o.1⟩,o.2)) fun x=>rd_int.map (fun y=>(⟨k,w,n,x,y⟩:LRq))
 exact hfin
theorem rd_dg:Rd rDg (pBy 32):=by
 refine ⟨fun b x r h=>?_,fun b h=>(zG 32).n b h,fun s h=>(zG 32).x s h⟩
 have h1:=(zG 32).y _ _ _ h
 unfold pBy at h
 split at h
 ·rename_i hl
  injection h with h;injection h with e1 e2
  have hx:x≠[]:=fun e=>by
   have:=congrArg List.length e1
   rw [e,List.length_take] at this
   simp only [List.length_nil] at this
   omega
  unfold rDg
  rw [h1]
  simp only
  rw [if_neg hx]
 ·cases h
theorem dA4 {p:RP} (h1:Rd p.nu (pIn (-4294967296) 4294967296)) (h2:Rd p.vs (pLs pVr 512)) (h3:Rd p.ss (pLs pSr 512)) (k d pl st:Int):Rd (mE p k d pl st) (kZ k d pl st):=by
 have e:mE p k d pl st=fun s=>mE p k d pl st s:=rfl
 have e':kZ k d pl st=fun b=>kZ k d pl st b:=rfl
 rw [e,e']
 unfold mE kZ
 by_cases k1:k=1
 ·simp only [if_pos k1]
  exact (eC6 h1).map (fun x=>(⟨k,d,pl,st,x,lk0,hd0,[],[],root0⟩:LEn))
 ·simp only [if_neg k1]
  by_cases k2:k=2
  ·simp only [if_pos k2]
   have hfin:=h2.bind (β:=LEn) (g:=fun v s=>(⟨k,d,pl,st,rq0,lk0,hd0,v,(p.ss s).1,root0⟩,(p.ss s).2)) (q:=fun v b=>(pLs pSr 512 b).map fun x=>(⟨k,d,pl,st,rq0,lk0,hd0,v,x.1,root0⟩,x.2)) fun v=>h3.map (fun x=>(⟨k,d,pl,st,rq0,lk0,hd0,v,x,root0⟩:LEn))
   exact hfin
  ·simp only [if_neg k2]
   by_cases k4:k=4
   ·simp only [if_pos k4]
    exact rd_dg.map (fun x=>(⟨k,d,pl,st,rq0,lk0,hd0,[],[],x⟩:LEn))
   ·simp only [if_neg k4]
    by_cases k6:k=6
    ·simp only [if_pos k6]
     exact (eC5 h1).map (fun x=>(⟨k,d,pl,st,rq0,x,hd0,[],[],root0⟩:LEn))
    ·simp only [if_neg k6]
     by_cases k7:k=7
     ·simp only [if_pos k7]
      exact (eC4 h1).map (fun x=>(⟨k,d,pl,st,rq0,lk0,x,[],[],root0⟩:LEn))
     ·simp only [if_neg k7]
      exact Rd.pure _
theorem dM2 {p:RP} (h0:Rd p.ki (pIn 1 7)) (h1:Rd p.nu (pIn (-4294967296) 4294967296)) (h2:Rd p.vs (pLs pVr 512)) (h3:Rd p.ss (pLs pSr 512)):Rd (rEn p) pEn:=by
 have hfin:=h0.bind (β:=LEn) (g:=fun k s=>let d:=bM s;let pl:=bM d.2;let st:=bM pl.2;mE p k d.1 pl.1 st.1 st.2) (q:=fun k b=>(cP b).bind fun d=>(cP d.2).bind fun p=>(cP p.2).bind fun s=>kZ k d.1 p.1 s.1 s.2) fun k =>
 rd_int.bind (β:=LEn) (g:=fun d s=>let pl:=bM s;let st:=bM pl.2;mE p k d pl.1 st.1 st.2) (q:=fun d b=>(cP b).bind fun p=>(cP p.2).bind fun s=>kZ k d p.1 s.1 s.2) fun d =>
 rd_int.bind (β:=LEn) (g:=fun pl s=>let st:=bM s;mE p k d pl st.1 st.2) (q:=fun pl b=>(cP b).bind fun s=>kZ k d pl s.1 s.2) fun pl =>
 rd_int.bind (β:=LEn) (g:=fun st s=>mE p k d pl st s) (q:=fun st b=>kZ k d pl st b) fun st=>dA4 h1 h2 h3 k d pl st
 exact hfin
theorem rd_enP:Rd (rEn rpP) pEn:=dM2 (qG 1 7) dT5 (dM3 dM6 512) (dM3 dM5 512)
theorem rd_enR:Rd (rEn rpR) pEn:=dM2 dT4 dT6 (cJ6 dM6 512) (cJ6 dM5 512)
end Go.Proofs.YtbgehdndimlgkaaGreat
