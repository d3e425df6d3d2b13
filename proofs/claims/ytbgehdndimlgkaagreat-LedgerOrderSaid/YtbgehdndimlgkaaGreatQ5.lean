import Derived.Test.YtbgehdndimlgkaaGreatQ4
set_option linter.unusedSimpArgs false
set_option linter.unusedVariables false
namespace Go.Proofs.YtbgehdndimlgkaaGreat
open Go Go.RowKit Go.Av
abbrev iv (n:Int):CV := .v (.int .i64 n)
abbrev bv (b:Bool):CV := .v (.bool b)
abbrev uv (x:BitVec 64):CV := .v (.int .u64 (x.toNat:Int))
abbrev sv (l:List UInt8):CV := .v (.string ⟨l.toArray⟩)
theorem bsz (bs:ByteArray):bs.data.toList.length=bs.size:=by rw [Array.length_toList];rfl
theorem cU7 (bs:ByteArray):∀(n i:Nat) (r:List UInt8),bs.size-i=n→ByteArray.toList.loop bs i r=r.reverse++bs.data.toList.drop i:=by
 intro n
 induction n with
 | zero =>
  intro i r h
  rw [ByteArray.toList.loop,if_neg aA]
  have:=bsz bs
  rw [List.drop_eq_nil_of_le aA,List.append_nil]
 | succ n ih =>
  intro i r h
  rw [ByteArray.toList.loop,if_pos aA,ih (i+1) _ aA]
  have hl:i<bs.data.toList.length:=by have:=bsz bs;omega
  rw [List.drop_eq_getElem_cons hl]
  have:bs.get! i=bs.data.toList[i]:=by
   have h2:i<bs.data.size:=by simpa using hl
   rw [ByteArray.get!,getElem!_pos bs.data i h2,Array.getElem_toList]
  rw [this]
  simp
theorem aT3 (l:List UInt8):(⟨l.toArray⟩:ByteArray).toList=l:=by
 rw [ByteArray.toList,cU7 _ _ 0 [] rfl]
 simp
section
variable {P:Program} {tab:Tab} {ev:Evl} {h:aO} {d:Option Tmp} {T ty:TypeId} {x y z:Operand} {pos:String} {aft:Array Edge} {gd:Option (Nat × Bool)}
theorem dP6 {T':TypeId} {s t:List UInt8} {b:Bool} (hx:ev x=some (.c (sv s))) (hy:ev y=some (.c (sv t))) (hr:decide (s=t)=b):Still P ⟨d,.binOp .eql T x y T',ty,pos,aft,gd⟩ ev h (.c (.v (.bool b))) :=
 aJ1 hx hy (by rw [aT3,aT3];exact hr)
end
theorem aJ9 (l:List UInt8):(⟨l.toArray⟩:ByteArray).size=l.length:=by simp [ByteArray.size]
end Go.Proofs.YtbgehdndimlgkaaGreat
namespace Go.Proofs.YtbgehdndimlgkaaGreat
open Go Go.RowKit Go.Av
structure Vl where
 k:Int
 n:Int
 t:List UInt8
deriving DecidableEq
def Vl.nul:Vl:=⟨0,0,[]⟩
def Vl.c (v:Vl):List CV:=[iv v.k,iv v.n,sv v.t]
def okP (v:Vl):Prop:=(v.k=0∧v.n=0∧v.t=[])∨(v.k=1 ∧ -4294967296≤v.n∧v.n≤4294967296∧v.t=[])∨(v.k=2∧v.n=0∧v.t.length≤32)
instance (v:Vl):Decidable (okP v):=by unfold okP;infer_instance
def okV (v:Vl):Bool:=decide (okP v)
def clV (v:Vl):Vl:=if okV v then v else Vl.nul
theorem dN9:okP Vl.nul := .inl ⟨rfl,rfl,rfl⟩
theorem bG7 (v:Vl):okP (clV v):=by
 unfold clV
 split
 ·rename_i h;exact of_decide_eq_true h
 ·exact dN9
def cE1 (n:Nat):UInt8:=UInt8.ofNat n
def esc (b:UInt8):List UInt8:=if b=0 then [0,255] else [b]
def eB8 (m:Nat):List UInt8:=[2,cE1 (m / 2 ^ 32),cE1 (m / 2 ^ 24),cE1 (m / 2 ^ 16),cE1 (m / 2 ^ 8),cE1 m]
def eC0 (v:Vl):List UInt8:=if v.k=1 then eB8 (v.n+4294967296).toNat else if v.k=2 then 3::v.t.flatMap esc++[0,0] else [1]
def eB9 (r:List Vl):List UInt8:=r.flatMap fun v=>eC0 (clV v)
def dG8 (h:BitVec 64) (b:UInt8):BitVec 64:=(h ^^^ BitVec.ofNat 64 b.toNat)*1099511628211#64
def dW5 (l:List UInt8):BitVec 64:=l.foldl dG8 14695981039346656037#64
def eF5 (v:Vl) (row:UInt8):BitVec 64:=dG8 (dW5 (eB9 [v])) row
def rc (r:List Vl):List CV:=r.flatMap Vl.c
def wide (v:Vl):Prop:=(-9223372036854775808≤v.k∧v.k≤9223372036854775807)∧(-9223372036854775808≤v.n∧v.n≤9223372036854775807)∧v.t.length≤maxLen
end Go.Proofs.YtbgehdndimlgkaaGreat
namespace Go.Proofs.YtbgehdndimlgkaaGreat
open Go Go.RowKit Go.Av
set_option maxRecDepth 100000
def lY (u:Nat):List UInt8:=if h:u<128 then [UInt8.ofNat u] else UInt8.ofNat (u%128+128)::lY (u / 128)
termination_by u
decreasing_by omega
theorem kB {u:Nat} (h:u<128):lY u=[UInt8.ofNat u]:=by rw [lY,dif_pos h]
theorem mB {u:Nat} (h:¬u<128):lY u=UInt8.ofNat (u%128+128)::lY (u / 128):=by rw [lY,dif_neg h]
def zz (n:Int):Nat:=if n<0 then (-2*n-1).toNat else (2*n).toNat
def uz (u:Nat):Int:=if u%2=1 then -((u / 2:Nat):Int)-1 else (u / 2:Nat)
theorem dZ9 (n:Int):uz (zz n)=n:=by
 unfold uz zz
 split<;>split<;>omega
theorem zZ {n:Int} (h1 : -9223372036854775808≤n) (h2:n≤9223372036854775807):zz n<18446744073709551616:=by
 unfold zz
 split<;>omega
def aT (n:Int):List UInt8:=lY (zz n)
def pU:Nat→Nat→List UInt8→Option (Nat × List UInt8)
 | _,_,[]=>none
 | i,x,c::b=>if (i=9∧1<c.toNat)∨(0<i∧c.toNat=0) then none else if c.toNat<128 then some (x+c.toNat*128 ^ i,b) else pU (i+1) (x+c.toNat%128*128 ^ i) b
def cS (b:List UInt8):Option (Int × List UInt8):=(pU 0 0 b).map fun p=>(uz p.1,p.2)
theorem aT4 {n:Nat} (h:n<256):(UInt8.ofNat n).toNat=n:=by
 rw [UInt8.toNat_ofNat']
 exact Nat.mod_eq_of_lt h
theorem cV9 : ∀ (u i x : Nat) (r : List UInt8), i ≤ 9 → (i = 0 ∨ u ≠ 0) → u * 128 ^ i < 18446744073709551616 → pU i x (lY u ++ r) = some (x + u * 128 ^ i, r) := by
  intro u
  induction u using Nat.strongRecOn with
  | _ u ih =>
    intro i x r hi h0 hb
    by_cases h : u < 128
    · rw [kB h, List.singleton_append, pU, aT4 aA]
      have h9 : ¬ ((i = 9 ∧ 1 < u) ∨ (0 < i ∧ u = 0)) := by
        rintro (⟨e, h1⟩ | ⟨h1, h2⟩)
        · subst e
          have : 2 * 128 ^ 9 ≤ u * 128 ^ 9 := Nat.mul_le_mul_right _ h1
          have e2 : (2 * 128 ^ 9 : Nat) = 18446744073709551616 := by decide
          omega
        · omega
      rw [if_neg h9, if_pos h]
    · have hi9 : i ≠ 9 := fun e => by
        subst e
        have : 128 * 128 ^ 9 ≤ u * 128 ^ 9 := Nat.mul_le_mul_right _ aA
        have e2 : 18446744073709551616 ≤ (128 * 128 ^ 9 : Nat) := by decide
        omega
      rw [mB h, List.cons_append, pU, aT4 aA]
      have h9 : ¬ ((i = 9 ∧ 1 < u % 128 + 128) ∨ (0 < i ∧ u % 128 + 128 = 0)) := by
        rintro (⟨e, _⟩ | ⟨_, h2⟩)
        · exact hi9 e
        · omega
      have hm : (u % 128 + 128) % 128 = u % 128 := by omega
      have hs : u % 128 * 128 ^ i + u / 128 * 128 ^ (i + 1) = u * 128 ^ i := by
        rw [Nat.pow_succ, Nat.mul_comm (128 ^ i) 128, ← Nat.mul_assoc, ← Nat.add_mul]
        congr 1
        omega
      rw [if_neg h9, if_neg aA, hm, ih (u / 128) aA (i + 1) _ r aA (.inr aA) aA, Nat.add_assoc, hs]
theorem uL {n:Int} (h1 : -9223372036854775808≤n) (h2:n≤9223372036854775807) (r:List UInt8):cS (aT n++r)=some (n,r):=by
 unfold cS aT
 rw [cV9 (zz n) 0 0 r aA (.inl rfl) (by rw [Nat.pow_zero,Nat.mul_one];exact zZ h1 h2)]
 simp [dZ9]
def pIn (lo hi:Int) (b:List UInt8):Option (Int × List UInt8):=(cS b).bind fun p=>if lo≤p.1∧p.1≤hi then some p else none
def pBy (n:Nat) (b:List UInt8):Option (List UInt8 × List UInt8):=if n≤b.length then some (b.take n,b.drop n) else none
def pTx (m:Int) (b:List UInt8):Option (List UInt8 × List UInt8):=(pIn 0 m b).bind fun p=>pBy p.1.toNat p.2
theorem jL {n lo hi:Int} (h1:lo≤n) (h2:n≤hi) (h3 : -9223372036854775808≤n) (h4:n≤9223372036854775807) (r:List UInt8):pIn lo hi (aT n++r)=some (n,r):=by
 unfold pIn
 rw [uL h3 h4,Option.bind_some,if_pos ⟨h1,h2⟩]
def mM (s:List UInt8):List UInt8:=aT s.length++s
theorem aP7 {s:List UInt8} {m:Int} (h:(s.length:Int)≤m) (hm:m≤9223372036854775807) (r:List UInt8):pTx m (mM s++r)=some (s,r):=by
 unfold pTx mM
 rw [List.append_assoc,jL aA h aA aA,Option.bind_some]
 unfold pBy
 simp only [Int.toNat_natCast]
 rw [if_pos bX9,List.take_left,List.drop_left]
def kQ (v:Vl):List UInt8:=aT v.k++(if v.k=1 then aT v.n else if v.k=2 then mM v.t else [])
def pVl (b:List UInt8):Option (Vl × List UInt8):=(pIn 0 2 b).bind fun p =>
 if p.1=1 then (pIn (-4294967296) 4294967296 p.2).map fun q=>(⟨1,q.1,[]⟩,q.2)
 else if p.1=2 then (pTx 32 p.2).map fun q=>(⟨2,0,q.1⟩,q.2) else some (⟨0,0,[]⟩,p.2)
theorem cF7 {v:Vl} (h:(v.k=0∧v.n=0∧v.t=[])∨(v.k=1 ∧ -4294967296≤v.n∧v.n≤4294967296∧v.t=[])∨(v.k=2∧v.n=0∧v.t.length≤32)) (r:List UInt8):pVl (kQ v++r)=some (v,r):=by
 obtain ⟨k,n,t⟩:=v
 unfold pVl kQ
 rcases h with ⟨h1,h2,h3⟩|⟨h1,h2,h3,h4⟩|⟨h1,h2,h3⟩<;>simp only at h1 h2 h3<;>subst h1
 ·subst h2 h3
  simp only [List.append_nil,if_neg (show ¬(0:Int)=1 by decide),if_neg (show ¬(0:Int)=2 by decide)]
  rw [jL aN aN aN aN,Option.bind_some]
  simp
 ·simp only at h4
  subst h4
  simp only [if_true,List.append_assoc]
  rw [jL aN aN aN aN,Option.bind_some]
  simp only [if_true]
  rw [jL h2 h3 aA aA]
  rfl
 ·subst h2
  simp only [if_neg (show ¬(2:Int)=1 by decide),if_true,List.append_assoc]
  rw [jL aN aN aN aN,Option.bind_some]
  simp only [if_neg (show ¬(2:Int)=1 by decide),if_true]
  rw [aP7 aA aN]
  rfl
end Go.Proofs.YtbgehdndimlgkaaGreat
namespace Go.Proofs.YtbgehdndimlgkaaGreat
open Go Go.RowKit Go.Av
set_option maxRecDepth 100000
def aV (n:Int):Prop := -9223372036854775808≤n∧n≤9223372036854775807
theorem dZ {n:Int} (h:aV n) (r:List UInt8):cS (aT n++r)=some (n,r):=uL h.1 h.2 r
structure Idf where
 ns:List UInt8
 v:Vl
def eJ (i:Idf):List UInt8:=mM i.ns++kQ (clV i.v)
def pId (b:List UInt8):Option (Idf × List UInt8):=(pTx 16 b).bind fun p=>(pVl p.2).map fun q=>(⟨p.1,q.1⟩,q.2)
theorem wM {i:Idf} (h:i.ns.length≤16) (r:List UInt8):pId (eJ i++r)=some (⟨i.ns,clV i.v⟩,r):=by
 unfold pId eJ
 rw [List.append_assoc,aP7 aA aN,Option.bind_some,cF7 (bG7 i.v)]
 rfl
structure Ver where
 t:Int
 c:Int
 s:Int
deriving DecidableEq
def dR (v:Ver):List UInt8:=aT v.t++aT v.s++aT v.c
def pVr (b:List UInt8):Option (Ver × List UInt8):=(cS b).bind fun p=>(cS p.2).bind fun q=>(cS q.2).map fun w=>(⟨p.1,w.1,q.1⟩,w.2)
theorem cW0 {v:Ver} (h1:aV v.t) (h2:aV v.c) (h3:aV v.s) (r:List UInt8):pVr (dR v++r)=some (v,r):=by
 unfold pVr dR
 rw [List.append_assoc,List.append_assoc,dZ h1,Option.bind_some,dZ h3,Option.bind_some,dZ h2]
 rfl
structure Src where
 t:Int
 s:Int
deriving DecidableEq
def dY (v:Src):List UInt8:=aT v.t++aT v.s
def pSr (b:List UInt8):Option (Src × List UInt8):=(cS b).bind fun p=>(cS p.2).map fun q=>(⟨p.1,q.1⟩,q.2)
theorem cV8 {v:Src} (h1:aV v.t) (h2:aV v.s) (r:List UInt8):pSr (dY v++r)=some (v,r):=by
 unfold pSr dY
 rw [List.append_assoc,dZ h1,Option.bind_some,dZ h2]
 rfl
def rR {α:Type} (p:List UInt8→Option (α × List UInt8)):Nat→List UInt8→Option (List α × List UInt8)
 | 0,b=>some ([],b)
 | n+1,b=>(p b).bind fun x=>(rR p n x.2).map fun y=>(x.1::y.1,y.2)
theorem aP6 {α:Type} {p:List UInt8→Option (α × List UInt8)} {e:α→List UInt8}:∀(l:List α) (r:List UInt8),(∀x∈l,∀r,p (e x++r)=some (x,r))→rR p l.length (l.flatMap e++r)=some (l,r)
 | [],r,_=>rfl
 | x::l,r,h=>by
  rw [List.length_cons,rR,List.flatMap_cons,List.append_assoc,h x aQ,Option.bind_some,aP6 l r fun y hy=>h y (by simp [hy])]
  rfl
def fG {α:Type} (e:α→List UInt8) (l:List α):List UInt8:=aT l.length++l.flatMap e
def pLs {α:Type} (p:List UInt8→Option (α × List UInt8)) (m:Int) (b:List UInt8):Option (List α × List UInt8):=(pIn 0 m b).bind fun q=>rR p q.1.toNat q.2
theorem bH5 {α:Type} {p:List UInt8→Option (α × List UInt8)} {e:α→List UInt8} {l:List α} {m:Int} (h:∀x∈l,∀r,p (e x++r)=some (x,r)) (hl:(l.length:Int)≤m) (hm:m≤9223372036854775807) (r:List UInt8):pLs p m (fG e l++r)=some (l,r):=by
 unfold pLs fG
 rw [List.append_assoc,jL aA hl aA aA,Option.bind_some]
 simp only [Int.toNat_natCast]
 exact aP6 l r h
structure LLk where
 a:Idf
 b:Idf
 s:Int
 rv:Bool
def kT (l:LLk):List UInt8:=eJ l.a++(eJ l.b++(aT l.s++aT (if l.rv then 1 else 0)))
def pLk (b:List UInt8):Option (LLk × List UInt8):=(pId b).bind fun p=>(pId p.2).bind fun q=>(cS q.2).bind fun s=>(pIn 0 1 s.2).map fun t=>(⟨p.1,q.1,s.1,decide (t.1=1)⟩,t.2)
def clI (i:Idf):Idf:=⟨i.ns,clV i.v⟩
theorem cV6 {l:LLk} (h1:l.a.ns.length≤16) (h2:l.b.ns.length≤16) (h3:aV l.s) (r:List UInt8):pLk (kT l++r)=some (⟨clI l.a,clI l.b,l.s,l.rv⟩,r):=by
 obtain ⟨a,b,s,rv⟩:=l
 unfold pLk kT
 simp only [List.append_assoc]
 rw [wM h1,Option.bind_some]
 simp only
 rw [wM h2,Option.bind_some]
 simp only
 rw [dZ h3,Option.bind_some]
 simp only
 cases rv
 ·rw [if_neg aN,jL aN aN aN aN];rfl
 ·rw [if_pos rfl,jL aN aN aN aN];rfl
structure LHd where
 t:Int
 c:Int
 who:Idf
 s:Int
 fr:Int
 to:Int
def kS (h:LHd):List UInt8:=aT h.t++(aT h.c++(eJ h.who++(aT h.s++(aT h.fr++aT h.to))))
def pHd (b:List UInt8):Option (LHd × List UInt8):=(cS b).bind fun t=>(cS t.2).bind fun c=>(pId c.2).bind fun w=>(cS w.2).bind fun s=>(cS s.2).bind fun f=>(cS f.2).map fun o=>(⟨t.1,c.1,w.1,s.1,f.1,o.1⟩,o.2)
theorem cV5 {h:LHd} (h1:aV h.t) (h2:aV h.c) (h3:h.who.ns.length≤16) (h4:aV h.s) (h5:aV h.fr) (h6:aV h.to) (r:List UInt8):pHd (kS h++r)=some (⟨h.t,h.c,clI h.who,h.s,h.fr,h.to⟩,r):=by
 unfold pHd kS
 simp only [List.append_assoc]
 rw [dZ h1,Option.bind_some];simp only
 rw [dZ h2,Option.bind_some];simp only
 rw [wM h3,Option.bind_some];simp only
 rw [dZ h4,Option.bind_some];simp only
 rw [dZ h5,Option.bind_some];simp only
 rw [dZ h6];rfl
structure LRq where
 k:Int
 who:Idf
 s:Int
 d:Int
 dl:Int
def kU (q:LRq):List UInt8:=aT q.k++(eJ q.who++(aT q.s++(aT q.d++aT q.dl)))
def pRq (b:List UInt8):Option (LRq × List UInt8):=(cS b).bind fun k=>(pId k.2).bind fun w=>(cS w.2).bind fun s=>(cS s.2).bind fun d=>(cS d.2).map fun o=>(⟨k.1,w.1,s.1,d.1,o.1⟩,o.2)
theorem cV7 {q:LRq} (h1:aV q.k) (h3:q.who.ns.length≤16) (h4:aV q.s) (h5:aV q.d) (h6:aV q.dl) (r:List UInt8):pRq (kU q++r)=some (⟨q.k,clI q.who,q.s,q.d,q.dl⟩,r):=by
 unfold pRq kU
 simp only [List.append_assoc]
 rw [dZ h1,Option.bind_some];simp only
 rw [wM h3,Option.bind_some];simp only
 rw [dZ h4,Option.bind_some];simp only
 rw [dZ h5,Option.bind_some];simp only
 rw [dZ h6];rfl
structure LEn where
 k:Int
 day:Int
 plan:Int
 step:Int
 rq:LRq
 lk:LLk
 hd:LHd
 vs:List Ver
 ss:List Src
 root:List UInt8
def jF:Idf:=⟨[],Vl.nul⟩
def rq0:LRq:=⟨0,jF,0,0,0⟩
def lk0:LLk:=⟨jF,jF,0,false⟩
def hd0:LHd:=⟨0,0,jF,0,0,0⟩
def root0:List UInt8:=List.replicate 32 0
def cO (e:LEn):List UInt8 :=
 if e.k=1 then kU e.rq else if e.k=2 then fG dR e.vs++fG dY e.ss else if e.k=4 then e.root else if e.k=6 then kT e.lk else if e.k=7 then kS e.hd else []
def dI (e:LEn):List UInt8:=aT e.k++(aT e.day++(aT e.plan++(aT e.step++cO e)))
def pR (k d p s:Int) (b:List UInt8):Option (LEn × List UInt8) :=
 if k=1 then (pRq b).map fun x=>(⟨k,d,p,s,x.1,lk0,hd0,[],[],root0⟩,x.2)
 else if k=2 then (pLs pVr 512 b).bind fun v=>(pLs pSr 512 v.2).map fun x=>(⟨k,d,p,s,rq0,lk0,hd0,v.1,x.1,root0⟩,x.2)
 else if k=4 then (pBy 32 b).map fun x=>(⟨k,d,p,s,rq0,lk0,hd0,[],[],x.1⟩,x.2)
 else if k=6 then (pLk b).map fun x=>(⟨k,d,p,s,rq0,x.1,hd0,[],[],root0⟩,x.2)
 else if k=7 then (pHd b).map fun x=>(⟨k,d,p,s,rq0,lk0,x.1,[],[],root0⟩,x.2)
 else some (⟨k,d,p,s,rq0,lk0,hd0,[],[],root0⟩,b)
def pEn (b:List UInt8):Option (LEn × List UInt8):=(pIn 1 7 b).bind fun k=>(cS k.2).bind fun d=>(cS d.2).bind fun p=>(cS p.2).bind fun s=>pR k.1 d.1 p.1 s.1 s.2
def clE (e:LEn):LEn :=
 ⟨e.k,e.day,e.plan,e.step,if e.k=1 then ⟨e.rq.k,clI e.rq.who,e.rq.s,e.rq.d,e.rq.dl⟩ else rq0,if e.k=6 then ⟨clI e.lk.a,clI e.lk.b,e.lk.s,e.lk.rv⟩ else lk0,if e.k=7 then ⟨e.hd.t,e.hd.c,clI e.hd.who,e.hd.s,e.hd.fr,e.hd.to⟩ else hd0,if e.k=2 then e.vs else [],if e.k=2 then e.ss else [],if e.k=4 then e.root else root0⟩
structure LEn.wf (e:LEn):Prop where
 h1:aV e.day∧aV e.plan∧aV e.step
 rq:aV e.rq.k∧aV e.rq.s∧aV e.rq.d∧aV e.rq.dl
 lk:aV e.lk.s
 hd:aV e.hd.t∧aV e.hd.c∧aV e.hd.s∧aV e.hd.fr∧aV e.hd.to
 vs:∀v∈e.vs,aV v.t∧aV v.c∧aV v.s
 ss:∀v∈e.ss,aV v.t∧aV v.s
 root:e.root.length=32
structure LEn.rd (e:LEn):Prop where
 k:1≤e.k∧e.k≤7
 rq:e.k=1→e.rq.who.ns.length≤16
 er:e.k=2→e.vs.length≤512∧e.ss.length≤512
 lk:e.k=6→e.lk.a.ns.length≤16∧e.lk.b.ns.length≤16
 hd:e.k=7→e.hd.who.ns.length≤16
theorem bH4 {e : LEn} (hw : e.wf) (hr : e.rd) (r : List UInt8) : pEn (dI e ++ r) = some (clE e, r) := by
  obtain ⟨a1, a2, a3⟩ := hw.h1
  obtain ⟨b1, b2, b3, b4⟩ := hw.rq
  have c1 := hw.lk
  obtain ⟨d1, d2, d3, d4, d5⟩ := hw.hd
  have e1 := hw.vs
  have e2 := hw.ss
  have f1 := hw.root
  obtain ⟨k1, k2⟩ := hr.k
  have g1 := hr.rq
  have g2 := hr.er
  have g3 := hr.lk
  have g4 := hr.hd
  clear hw hr
  obtain ⟨k, d, p, s, rq, lk, hd, vs, ss, root⟩ := e
  simp only at *
  unfold pEn dI cO clE
  simp only [List.append_assoc]
  rw [jL k1 k2 aA aA, Option.bind_some]; simp only
  rw [dZ a1, Option.bind_some]; simp only
  rw [dZ a2, Option.bind_some]; simp only
  rw [dZ a3, Option.bind_some]; simp only
  unfold pR
  rcases (show k = 1 ∨ k = 2 ∨ k = 3 ∨ k = 4 ∨ k = 5 ∨ k = 6 ∨ k = 7 by omega) with h | h | h | h | h | h | h <;> subst h
  · simp [cV7 b1 (g1 rfl) b2 b3 b4]
  · have hv := bH5 (p := pVr) (e := dR) (l := vs) (m := 512) (fun x hx r => cW0 (e1 x hx).1 (e1 x hx).2.1 (e1 x hx).2.2 r) (by have := (g2 rfl).1; omega) aN (fG dY ss ++ r)
    have hs := bH5 (p := pSr) (e := dY) (l := ss) (m := 512) (fun x hx r => cV8 (e2 x hx).1 (e2 x hx).2 r) (by have := (g2 rfl).2; omega) aN r
    simp [List.append_assoc, hv, hs]
  · simp
  · have hb : pBy 32 (root ++ r) = some (root, r) := by
      unfold pBy
      rw [if_pos bX9, ← f1, List.take_left, List.drop_left]
    simp [hb]
  · simp
  · simp [cV6 (g3 rfl).1 (g3 rfl).2 c1]
  · simp [cV5 d1 d2 (g4 rfl) d3 d4 d5]
end Go.Proofs.YtbgehdndimlgkaaGreat
namespace Go.Proofs.YtbgehdndimlgkaaGreat
open Go Go.RowKit Go.Av
set_option maxRecDepth 100000
structure SLO {α:Type} (lt:α→α→Prop):Prop where
 irr:∀a,¬lt a a
 tr:∀a b c,lt a b→lt b c→lt a c
 tri:∀a b,lt a b∨a=b∨lt b a
section
variable {α:Type} {lt:α→α→Prop}
theorem vY (h:SLO lt):∀{l m:List α},l.Pairwise lt→m.Pairwise lt→(∀x,x∈l↔x∈m)→l=m
 | [],[],_,_,_=>rfl
 | [],y::m,_,_,hm=>by have:=(hm y).2 aQ;cases this
 | x::l,[],_,_,hm=>by have:=(hm x).1 aQ;cases this
 | x::l,y::m,hl,hm',hm=>by
  obtain ⟨l1,l2⟩:=List.pairwise_cons.1 hl
  obtain ⟨m1,m2⟩:=List.pairwise_cons.1 hm'
  have e:x=y:=by
   rcases List.mem_cons.1 ((hm x).1 aQ) with e|hx
   ·exact e
   ·rcases List.mem_cons.1 ((hm y).2 aQ) with e|hy
    ·exact e.symm
    ·exact absurd (h.tr _ _ _ (l1 y hy) (m1 x hx)) (h.irr x)
  subst e
  rw [vY h l2 m2 fun z=>?_]
  constructor
  ·intro hz
   rcases List.mem_cons.1 ((hm z).1 (by simp [hz])) with e|hz'
   ·subst e;exact absurd (l1 z hz) (h.irr z)
   ·exact hz'
  ·intro hz
   rcases List.mem_cons.1 ((hm z).2 (by simp [hz])) with e|hz'
   ·subst e;exact absurd (m1 z hz) (h.irr z)
   ·exact hz'
theorem tI (h:SLO lt) {l:List α} (hl:l.Pairwise lt):l.Nodup:=by
 rw [List.nodup_iff_pairwise_ne]
 exact hl.imp fun {a b} hab e=>by subst e;exact h.irr a hab
open Classical in
noncomputable def insA (lt:α→α→Prop) (v:α):List α→List α
 | []=>[v]
 | x::l=>if lt v x then v::x::l else if v=x then x::l else x::insA lt v l
theorem pK (v:α):∀(l:List α) (x:α),x∈insA lt v l↔x=v∨x∈l
 | [],x=>by simp [insA]
 | y::l,x=>by
  rw [insA]
  split
  ·rw [List.mem_cons]
  ·split
   ·rename_i e
    subst e
    rw [List.mem_cons]
    exact ⟨.inr,fun hx=>hx.elim .inl id⟩
   ·rw [List.mem_cons,pK v l x,List.mem_cons]
    constructor
    ·rintro (e|e|e)
     ·exact .inr (.inl e)
     ·exact .inl e
     ·exact .inr (.inr e)
    ·rintro (e|e|e)
     ·exact .inr (.inl e)
     ·exact .inl e
     ·exact .inr (.inr e)
theorem sP (h:SLO lt) (v:α):∀{l:List α},l.Pairwise lt→(insA lt v l).Pairwise lt
 | [],_=>List.pairwise_singleton _ _
 | y::l,hl=>by
  obtain ⟨l1,l2⟩:=List.pairwise_cons.1 hl
  rw [insA]
  split
  ·rename_i hv
   refine List.pairwise_cons.2 ⟨fun z hz=>?_,hl⟩
   rcases List.mem_cons.1 hz with rfl|hz
   ·exact hv
   ·exact h.tr _ _ _ hv (l1 z hz)
  ·rename_i hv
   split
   ·exact hl
   ·rename_i hne
    refine List.pairwise_cons.2 ⟨fun z hz=>?_,sP h v l2⟩
    rcases (pK v l z).1 hz with rfl|hz
    ·rcases h.tri z y with e|e|e
     ·exact absurd e hv
     ·exact absurd e hne
     ·exact e
    ·exact l1 z hz
noncomputable def ascL (lt:α→α→Prop) (l:List α):List α:=l.foldl (fun m v=>insA lt v m) []
theorem mQ (l:List α) (v:α):ascL lt (l++[v])=insA lt v (ascL lt l):=by unfold ascL;rw [List.foldl_append];rfl
theorem zT {p:List α→Prop} (h0:p []) (h1:∀l x,p l→p (l++[x])):∀l,p l:=fun l=>by
 have:∀m:List α,p m.reverse:=fun m=>by
  induction m with
  | nil=>exact h0
  | cons x m ih=>rw [List.reverse_cons];exact h1 _ _ ih
 have:=this l.reverse
 rwa [List.reverse_reverse] at this
theorem dF (h:SLO lt) (l:List α):(ascL lt l).Pairwise lt∧∀x,x∈ascL lt l↔x∈l:=by
 refine zT (p:=fun l=>(ascL lt l).Pairwise lt∧∀x,x∈ascL lt l↔x∈l) ⟨List.Pairwise.nil,fun x=>by simp [ascL]⟩ (fun l v ih=>?_) l
 rw [mQ]
 refine ⟨sP h v ih.1,fun x=>?_⟩
 rw [pK,ih.2 x,List.mem_append,List.mem_singleton]
 exact Or.comm
theorem bL1 (h:SLO lt) {l m:List α} (hm:m.Pairwise lt) (hx:∀x,x∈m↔x∈l):m=ascL lt l :=
 vY h hm (dF h l).1 fun x=>(hx x).trans ((dF h l).2 x).symm
theorem lH (h:SLO lt) {l m:List α} (hm:m.Nodup) (hx:∀x,x∈m↔x∈l):m.length=(ascL lt l).length :=
 ((List.perm_ext_iff_of_nodup hm (tI h (dF h l).1)).2 fun x=>(hx x).trans ((dF h l).2 x).symm).length_eq
theorem bT1 (h:SLO lt) {l m:List α} (hm:m.Nodup) (hd:∀x∈m,x∉l):(ascL lt (l++m)).length=(ascL lt l).length+m.length:=by
 rw [← List.length_append]
 refine (lH h (List.nodup_append.2 ⟨tI h (dF h l).1,hm,fun a ha b hb e=>?_⟩) fun x=>?_).symm
 ·subst e
  exact hd a hb (((dF h l).2 a).1 ha)
 ·rw [List.mem_append,List.mem_append,(dF h l).2 x]
end
def ltV (a b:Ver):Prop:=a.t<b.t∨(a.t=b.t∧(a.s<b.s∨(a.s=b.s∧a.c<b.c)))
def ltS (a b:Src):Prop:=a.t<b.t∨(a.t=b.t∧a.s<b.s)
theorem slo_V:SLO ltV where
 irr a:=by unfold ltV;omega
 tr a b c h1 h2:=by unfold ltV at *;omega
 tri a b:=by
  unfold ltV
  by_cases h:a.t=b.t∧a.s=b.s∧a.c=b.c
  ·obtain ⟨ax,ac,av⟩:=a
   obtain ⟨bt,bc,bv'⟩:=b
   simp only at h
   obtain ⟨rfl,rfl,rfl⟩:=h
   exact .inr (.inl rfl)
  ·rcases (show (a.t<b.t∨(a.t=b.t∧(a.s<b.s∨(a.s=b.s∧a.c<b.c))))∨(b.t<a.t∨(b.t=a.t∧(b.s<a.s∨(b.s=a.s∧b.c<a.c)))) by omega) with h|h
   ·exact .inl h
   ·exact .inr (.inr h)
theorem slo_S:SLO ltS where
 irr a:=by unfold ltS;omega
 tr a b c h1 h2:=by unfold ltS at *;omega
 tri a b:=by
  unfold ltS
  by_cases h:a.t=b.t∧a.s=b.s
  ·obtain ⟨ax,av⟩:=a
   obtain ⟨bt,bv'⟩:=b
   simp only at h
   obtain ⟨rfl,rfl⟩:=h
   exact .inr (.inl rfl)
  ·rcases (show (a.t<b.t∨(a.t=b.t∧a.s<b.s))∨(b.t<a.t∨(b.t=a.t∧b.s<a.s)) by omega) with h|h
   ·exact .inl h
   ·exact .inr (.inr h)
theorem aS7:SLO fun a b:Int=>a<b where
 irr a:=by omega
 tr a b c h1 h2:=by omega
 tri a b:=by omega
def iI (l:List LEn):List Ver:=l.flatMap fun e=>if e.k=2 then e.vs else []
def kX (l:List LEn):List Src:=l.flatMap fun e=>if e.k=2 then e.ss else []
def mW (l:List LEn) (k:Int):Nat:=(l.filter fun e=>decide (e.k=k)).length
def jK (l:List LEn) (k p:Int):Prop:=∃x∈l,x.k=k∧x.plan=p
noncomputable def erasV (l:List LEn):List Ver:=ascL ltV (iI l)
noncomputable def erasS (l:List LEn):List Src:=ascL ltS (kX l)
open Classical in
noncomputable def unfi (l:List LEn):List Int:=ascL (fun a b:Int=>a<b) ((l.filter fun e=>decide (e.k=2∧¬jK l 4 e.plan)).map (·.plan))
noncomputable def doneS (l:List LEn) (p:Int):List Int:=ascL (fun a b:Int=>a<b) ((l.filter fun e=>decide (e.k=3∧e.plan=p)).map (·.step))
structure Fol (l:List LEn) (e:LEn):Prop where
 rd:(pEn (dI e)).isSome=true
 day:0≤e.day∧e.day≤1048576∧∀x,l.getLast? = some x→x.day≤e.day
 rq:e.k=1→1≤e.rq.k∧e.rq.k≤3
 er:e.k=2→e.plan=mW l 2∧(e.vs≠[]∨e.ss≠[])∧(erasV l).length+e.vs.length≤512∧(erasS l).length+e.ss.length≤512∧(e.vs.Pairwise ltV∧∀v∈e.vs,v∉iI l)∧e.ss.Pairwise ltS∧∀v∈e.ss,v∉kX l
 st:e.k=3→(jK l 2 e.plan∧¬jK l 4 e.plan)∧(0≤e.step∧e.step<128)∧¬∃x∈l,x.k=3∧x.plan=e.plan∧x.step=e.step
 co:e.k=4→jK l 2 e.plan∧¬jK l 4 e.plan
 sg:e.k=5→e.step=mW l 5∧e.step<4
theorem mP (l:List LEn) (e:LEn):iI (l++[e])=iI l++if e.k=2 then e.vs else []:=by unfold iI;rw [List.flatMap_append];simp
theorem tH (l:List LEn) (e:LEn):kX (l++[e])=kX l++if e.k=2 then e.ss else []:=by unfold kX;rw [List.flatMap_append];simp
theorem Fol.more {l:List LEn} {e:LEn} (h:Fol l e):(erasV (l++[e])).length=(erasV l).length+(if e.k=2 then e.vs.length else 0):=by
 unfold erasV
 rw [mP]
 split
 ·rename_i hk
  obtain ⟨_,_,_,_,⟨h1,h2⟩,_⟩:=h.er hk
  exact bT1 slo_V (tI slo_V h1) h2
 ·simp
end Go.Proofs.YtbgehdndimlgkaaGreat
namespace Go.Proofs.YtbgehdndimlgkaaGreat
open Go Go.RowKit Go.Av
set_option maxRecDepth 100000
theorem kF (u:Nat):0<(lY u).length:=by
 by_cases h:u<128
 ·rw [kB h];simp
 ·rw [mB h];simp
theorem cF4:∀{b:List UInt8} {i x:Nat} {p:Nat × List UInt8},pU i x b=some p→p.2.length<b.length
 | [],i,x,p,h=>by rw [pU] at h;cases h
 | c::b,i,x,p,h=>by
  rw [pU] at h
  split at h
  ·cases h
  ·split at h
   ·injection h with h
    rw [← h,List.length_cons]
    exact Nat.lt_succ_self _
   ·have:=cF4 h
    rw [List.length_cons];omega
theorem cF6:∀(b:List UInt8) (i x m:Nat),i+m=10→1≤m→pU i x (b.take m)=(pU i x b).map fun p=>(p.1,p.2.take (m-(b.length-p.2.length)))
 | [],i,x,m,_,_=>by rw [List.take_nil,pU];rfl
 | c::b,i,x,0,_,h=>by omega
 | c::b,i,x,m+1,h,_=>by
  rw [List.take_succ_cons,pU,pU]
  by_cases h9:(i=9∧1<c.toNat)∨(0<i∧c.toNat=0)
  ·rw [if_pos h9,if_pos h9];rfl
  ·rw [if_neg h9,if_neg h9]
   by_cases hc:c.toNat<128
   ·rw [if_pos hc,if_pos hc,Option.map_some]
    simp only [List.length_cons]
    rw [show m+1-(b.length+1-b.length)=m by omega]
   ·rw [if_neg hc,if_neg hc,cF6 b (i+1) _ m aA aA]
    cases hp:pU (i+1) (x+c.toNat%128*128 ^ i) b with
    | none=>rfl
    | some p =>
     have:=cF4 hp
     rw [Option.map_some,Option.map_some]
     simp only [List.length_cons]
     rw [show m+1-(b.length+1-p.2.length)=m-(b.length-p.2.length) by omega]
section
variable (kd:List UInt8→List UInt8→List UInt8)
def nS (ch:List UInt8) (e:LEn):List UInt8:=aT (dI e).length++(dI e++kd ch (dI e))
def pQ (ch b:List UInt8):Option (LEn × List UInt8 × Nat) :=
 (cS b).bind fun p =>
  if 0≤p.1∧p.1+32≤p.2.length then
   (pEn (p.2.take p.1.toNat)).bind fun e =>
    if e.2=[]∧kd ch (p.2.take p.1.toNat)=(p.2.drop p.1.toNat).take 32 then some (e.1,kd ch (p.2.take p.1.toNat),b.length-p.2.length+p.1.toNat+32) else none
  else none
variable {kd}
theorem bO4 (hkd:∀c b,(kd c b).length=32) {e:LEn} (hw:e.wf) (hr:e.rd) (hl:(dI e).length≤9223372036854775807) (ch r:List UInt8):pQ kd ch (nS kd ch e++r)=some (clE e,kd ch (dI e),(nS kd ch e).length):=by
 have hp:=bH4 hw hr []
 rw [List.append_nil] at hp
 have h32:=hkd ch (dI e)
 unfold pQ nS
 rw [List.append_assoc,uL aA aA,Option.bind_some]
 simp only [Int.toNat_natCast,List.append_assoc,List.take_left,List.drop_left]
 rw [if_pos ⟨by omega,by simp only [List.length_append];omega⟩,hp,Option.bind_some]
 have e1:(kd ch (dI e)++r).take 32=kd ch (dI e):=by rw [← h32,List.take_left]
 simp only [e1,and_self,if_true]
 simp only [List.length_append]
 congr 3
 omega
end
end Go.Proofs.YtbgehdndimlgkaaGreat
namespace Go.Proofs.YtbgehdndimlgkaaGreat
open Go Go.RowKit Go.Av
set_option maxRecDepth 100000
def FolL (l:List LEn):Prop:=∀i e,l[i]? = some e→Fol (l.take i) e
section
variable (kd:List UInt8→List UInt8→List UInt8)
open Classical in
noncomputable def parF:Nat→List LEn→List UInt8→List UInt8→List LEn × Nat × List UInt8
 | 0,l,ch,_=>(l,0,ch)
 | f+1,l,ch,b=>match pQ kd ch b with
  | none=>(l,0,ch)
  | some (e,c,n)=>if Fol l e∧l.length<512 then ((parF f (l++[e]) c (b.drop n)).1,n+(parF f (l++[e]) c (b.drop n)).2.1,(parF f (l++[e]) c (b.drop n)).2.2) else (l,0,ch)
def eD2:List UInt8→List LEn→List UInt8
 | _,[]=>[]
 | ch,e::l=>nS kd ch e++eD2 (kd ch (dI e)) l
variable {kd}
theorem cE5 (ch:List UInt8):pQ kd ch []=none:=rfl
end
end Go.Proofs.YtbgehdndimlgkaaGreat
namespace Go.Proofs.YtbgehdndimlgkaaGreat
open Go Go.RowKit Go.Av
set_option maxRecDepth 100000
structure RS where
 b:List UInt8
 e:Int
def eU:Nat→List UInt8→Int
 | _,[]=>100
 | i,c::b=>if (i=9∧1<c.toNat)∨(0<i∧c.toNat=0) then 1 else if c.toNat<128 then 1 else eU (i+1) b
theorem bZ7:∀(i:Nat) (b:List UInt8),eU i b=1∨eU i b=100
 | _,[] => .inr rfl
 | i,c::b=>by
  rw [eU]
  split
  ·exact .inl rfl
  ·split
   ·exact .inl rfl
   ·exact bZ7 (i+1) b
theorem dT9 (i:Nat) (b:List UInt8):eU i b≠0:=by rcases bZ7 i b with h|h<;>rw [h]<;>decide
def bO (s:RS):Int × RS:=if s.e≠0 then (0,s) else match cS s.b with
 | some (n,r)=>(n,⟨r,0⟩)
 | none=>(0,⟨s.b,eU 0 s.b⟩)
def rIn (lo hi:Int) (s:RS):Int × RS:=if (bO s).2.e=0∧((bO s).1<lo∨hi<(bO s).1) then (0,⟨(bO s).2.b,1⟩) else bO s
def rBy (n:Nat) (s:RS):List UInt8 × RS:=if s.e≠0 then ([],s) else if s.b.length<n then ([],⟨s.b,100⟩) else (s.b.take n,⟨s.b.drop n,0⟩)
def rTx (m:Int) (s:RS):List UInt8 × RS:=rBy (rIn 0 m s).1.toNat (rIn 0 m s).2
def rVl (f:RS→Int × RS) (s:RS):Vl × RS :=
 if (rIn 0 2 s).1=1 then (⟨1,(f (rIn 0 2 s).2).1,[]⟩,(f (rIn 0 2 s).2).2)
 else if (rIn 0 2 s).1=2 then (⟨2,0,(rTx 32 (rIn 0 2 s).2).1⟩,(rTx 32 (rIn 0 2 s).2).2)
 else (⟨(rIn 0 2 s).1,0,[]⟩,(rIn 0 2 s).2)
def aQ2:RS→Int × RS:=rIn (-4294967296) 4294967296
def aQ3 (s:RS):Int × RS:=if (bO s).1 < -4294967296∨4294967296<(bO s).1 then ((bO s).1,⟨(bO s).2.b,if (bO s).2.e=0 then 1 else (bO s).2.e⟩) else bO s
def rId (f:RS→Int × RS) (s:RS):Idf × RS:=(⟨(rTx 16 s).1,(rVl f (rTx 16 s).2).1⟩,(rVl f (rTx 16 s).2).2)
def rVr (s:RS):Ver × RS:=(⟨(bO s).1,(bO (bO (bO s).2).2).1,(bO (bO s).2).1⟩,(bO (bO (bO s).2).2).2)
def rSr (s:RS):Src × RS:=(⟨(bO s).1,(bO (bO s).2).1⟩,(bO (bO s).2).2)
def gW {α:Type} (f:RS→α × RS):Nat→RS→Option (List α) × RS
 | 0,s=>(some [],s)
 | n+1,s=>if (f s).2.e≠0 then (none,(f s).2) else ((gW f n (f s).2).1.map ((f s).1 :: ·),(gW f n (f s).2).2)
def iJ {α:Type} (f:RS→α × RS):Nat→RS→List α × RS
 | 0,s=>([],s)
 | n+1,s=>if s.e≠0 then ([],s) else ((f s).1::(iJ f n (f s).2).1,(iJ f n (f s).2).2)
def rLs {α:Type} (f:RS→α × RS) (m:Int) (s:RS):List α × RS:=((gW f (rIn 0 m s).1.toNat (rIn 0 m s).2).1.getD [],(gW f (rIn 0 m s).1.toNat (rIn 0 m s).2).2)
def aY2 {α:Type} (f:RS→α × RS) (m:Int) (s:RS):List α × RS:=iJ f (rIn 0 m s).1.toNat (rIn 0 m s).2
def rLk (f:RS→Int × RS) (s:RS):LLk × RS :=
 let a:=rId f s;let b:=rId f a.2;let n:=bO b.2;let r:=rIn 0 1 n.2
 (⟨a.1,b.1,n.1,decide (r.1=1)⟩,r.2)
def rHd (f:RS→Int × RS) (s:RS):LHd × RS :=
 let t:=bO s;let c:=bO t.2;let w:=rId f c.2;let n:=bO w.2;let x:=bO n.2;let y:=bO x.2
 (⟨t.1,c.1,w.1,n.1,x.1,y.1⟩,y.2)
def rRq (f:RS→Int × RS) (s:RS):LRq × RS :=
 let k:=bO s;let w:=rId f k.2;let n:=bO w.2;let x:=bO n.2;let y:=bO x.2
 (⟨k.1,w.1,n.1,x.1,y.1⟩,y.2)
def rDg (s:RS):List UInt8 × RS:=(if (rBy 32 s).1=[] then root0 else (rBy 32 s).1,(rBy 32 s).2)
def bP3 (s:RS):Int × RS:=if (bO s).1<1∨7<(bO s).1 then ((bO s).1,⟨(bO s).2.b,if (bO s).2.e=0 then 1 else (bO s).2.e⟩) else bO s
structure RP where
 ki:RS→Int × RS
 nu:RS→Int × RS
 vs:RS→List Ver × RS
 ss:RS→List Src × RS
def rpP:RP:=⟨rIn 1 7,aQ2,rLs rVr 512,rLs rSr 512⟩
def rpR:RP:=⟨bP3,aQ3,aY2 rVr 512,aY2 rSr 512⟩
def lT (p:RP) (k d pl st:Int) (s:RS):LEn × RS :=
 if k=1 then (⟨k,d,pl,st,(rRq p.nu s).1,lk0,hd0,[],[],root0⟩,(rRq p.nu s).2)
 else if k=2 then (⟨k,d,pl,st,rq0,lk0,hd0,(p.vs s).1,(p.ss (p.vs s).2).1,root0⟩,(p.ss (p.vs s).2).2)
 else if k=4 then (⟨k,d,pl,st,rq0,lk0,hd0,[],[],(rDg s).1⟩,(rDg s).2)
 else if k=6 then (⟨k,d,pl,st,rq0,(rLk p.nu s).1,hd0,[],[],root0⟩,(rLk p.nu s).2)
 else if k=7 then (⟨k,d,pl,st,rq0,lk0,(rHd p.nu s).1,[],[],root0⟩,(rHd p.nu s).2)
 else (⟨k,d,pl,st,rq0,lk0,hd0,[],[],root0⟩,s)
def rEn (p:RP) (s:RS):LEn × RS :=
 let k:=p.ki s;let d:=bO k.2;let pl:=bO d.2;let st:=bO pl.2
 lT p k.1 d.1 pl.1 st.1 st.2
structure Rd {α:Type} (f:RS→α × RS) (p:List UInt8→Option (α × List UInt8)):Prop where
 y:∀b x r,p b=some (x,r)→f ⟨b,0⟩=(x,⟨r,0⟩)
 n:∀b,p b=none→(f ⟨b,0⟩).2.e≠0
 x:∀s,s.e≠0→(f s).2.e≠0
theorem Rd.of {α:Type} {f:RS→α × RS} {p:List UInt8→Option (α × List UInt8)} (h:Rd f p) (b:List UInt8):(∃x r,p b=some (x,r)∧f ⟨b,0⟩=(x,⟨r,0⟩))∨(p b=none∧(f ⟨b,0⟩).2.e≠0):=by
 cases hp:p b with
 | none=>exact .inr ⟨rfl,h.n b hp⟩
 | some q=>obtain ⟨x,r⟩:=q;exact .inl ⟨x,r,rfl,h.y b x r hp⟩
theorem one_ne:(1:Int)≠0:=by decide
theorem dM7:(100:Int)≠0:=by decide
theorem rd_int:Rd bO cS:=by
 refine ⟨fun b x r h=>?_,fun b h=>?_,fun s h=>?_⟩
 ·simp [bO,h]
 ·simp [bO,h,dT9]
 ·simp [bO,h]
theorem pW (lo hi:Int):Rd (rIn lo hi) (pIn lo hi):=by
 refine ⟨fun b x r h=>?_,fun b h=>?_,fun s h=>?_⟩
 ·unfold pIn at h
  rcases rd_int.of b with ⟨n,q,h1,h2⟩|⟨h1,h2⟩
  ·rw [h1,Option.bind_some] at h
   split at h
   ·rename_i hb
    injection h with h;injection h with e1 e2
    simp only at e1 e2 hb
    subst e1 e2
    rw [rIn,h2,if_neg xS]
   ·cases h
  ·rw [h1] at h;cases h
 ·unfold pIn at h
  rcases rd_int.of b with ⟨n,q,h1,h2⟩|⟨h1,h2⟩
  ·rw [h1,Option.bind_some] at h
   split at h
   ·cases h
   ·rename_i hb
    simp only at hb
    rw [rIn,h2,if_pos (by simp only;exact ⟨trivial,by omega⟩)]
    exact one_ne
  ·rw [rIn,if_neg (fun h=>h2 h.1)]
   exact h2
 ·have h2:=rd_int.x s h
  rw [rIn,if_neg (fun h=>h2 h.1)]
  exact h2
theorem yX (n:Nat):Rd (rBy n) (pBy n):=by
 refine ⟨fun b x r h=>?_,fun b h=>?_,fun s h=>?_⟩
 ·unfold pBy at h
  split at h
  ·injection h with h;injection h with e1 e2
   subst e1 e2
   rw [rBy,if_neg aQ,if_neg xS]
  ·cases h
 ·unfold pBy at h
  split at h
  ·cases h
  ·rw [rBy,if_neg aQ,if_pos xS]
   exact dM7
 ·rw [rBy,if_pos h];exact h
theorem bI4 (m:Int):Rd (rTx m) (pTx m):=by
 refine ⟨fun b x r h=>?_,fun b h=>?_,fun s h=>?_⟩
 ·unfold pTx at h
  rcases (pW 0 m).of b with ⟨n,q,h1,h2⟩|⟨h1,h2⟩
  ·rw [h1,Option.bind_some] at h
   rw [rTx,h2]
   exact (yX _).y _ _ _ h
  ·rw [h1] at h;cases h
 ·unfold pTx at h
  rcases (pW 0 m).of b with ⟨n,q,h1,h2⟩|⟨h1,h2⟩
  ·rw [h1,Option.bind_some] at h
   rw [rTx,h2]
   exact (yX _).n _ h
  ·exact (yX _).x _ h2
 ·exact (yX _).x _ ((pW 0 m).x s h)
theorem dO7:Rd aQ2 (pIn (-4294967296) 4294967296):=pW _ _
theorem bI1 (lo hi:Int) (f:RS→Int × RS) (hf:∀s,f s=if (bO s).1<lo∨hi<(bO s).1 then ((bO s).1,⟨(bO s).2.b,if (bO s).2.e=0 then 1 else (bO s).2.e⟩) else bO s):Rd f (pIn lo hi):=by
 have hx:∀s,(bO s).2.e≠0→(f s).2.e≠0:=fun s h=>by
  rw [hf]
  split
  ·first|exact h|(simp only;rw [if_neg h];exact h)
  ·exact h
 refine ⟨fun b x r h=>?_,fun b h=>?_,fun s h=>hx s (rd_int.x s h)⟩
 ·unfold pIn at h
  rcases rd_int.of b with ⟨n,q,h1,h2⟩|⟨h1,h2⟩
  ·rw [h1,Option.bind_some] at h
   split at h
   ·rename_i hb
    injection h with h;injection h with e1 e2
    simp only at e1 e2 hb
    subst e1 e2
    rw [hf,h2,if_neg xS]
   ·cases h
  ·rw [h1] at h;cases h
 ·unfold pIn at h
  rcases rd_int.of b with ⟨n,q,h1,h2⟩|⟨h1,h2⟩
  ·rw [h1,Option.bind_some] at h
   split at h
   ·cases h
   ·rename_i hb
    simp only at hb
    rw [hf,h2,if_pos xS]
    exact one_ne
  ·exact hx _ h2
theorem dO8:Rd aQ3 (pIn (-4294967296) 4294967296):=bI1 _ _ _ fun s=>rfl
theorem dO6:Rd bP3 (pIn 1 7):=bI1 _ _ _ fun s=>rfl
theorem dY6 {f:RS→Int × RS} (hf:Rd f (pIn (-4294967296) 4294967296)):Rd (rVl f) pVl:=by
 have hx:∀s,(rIn 0 2 s).2.e≠0→(rVl f s).2.e≠0:=fun s h=>by
  unfold rVl
  split
  ·exact hf.x _ h
  ·split
   ·exact (bI4 32).x _ h
   ·exact h
 refine ⟨fun b x r h=>?_,fun b h=>?_,fun s h=>hx s ((pW 0 2).x s h)⟩
 ·unfold pVl at h
  rcases (pW 0 2).of b with ⟨k,q,h1,h2⟩|⟨h1,h2⟩
  ·rw [h1,Option.bind_some] at h
   unfold rVl
   rw [h2]
   simp only at h ⊢
   by_cases hk1:k=1
   ·rw [if_pos hk1] at h ⊢
    obtain ⟨y,hy,he⟩:=Option.map_eq_some_iff.1 h
    rw [hf.y _ _ _ hy]
    injection he with e1 e2
    subst e1 e2
    rfl
   ·rw [if_neg hk1] at h ⊢
    by_cases hk2:k=2
    ·rw [if_pos hk2] at h ⊢
     obtain ⟨y,hy,he⟩:=Option.map_eq_some_iff.1 h
     rw [(bI4 32).y _ _ _ hy]
     injection he with e1 e2
     subst e1 e2
     rfl
    ·rw [if_neg hk2] at h ⊢
     injection h with h;injection h with e1 e2
     subst e1 e2
     have hk0:k=0:=by
      unfold pIn at h1
      cases hp:cS b with
      | none=>rw [hp] at h1;cases h1
      | some q' =>
       rw [hp,Option.bind_some] at h1
       split at h1
       ·rename_i hb
        injection h1 with h1
        rw [h1] at hb
        simp only at hb
        omega
       ·cases h1
     subst hk0
     rfl
  ·rw [h1] at h;cases h
 ·unfold pVl at h
  rcases (pW 0 2).of b with ⟨k,q,h1,h2⟩|⟨h1,h2⟩
  ·rw [h1,Option.bind_some] at h
   unfold rVl
   rw [h2]
   simp only at h ⊢
   by_cases hk1:k=1
   ·rw [if_pos hk1] at h ⊢
    exact hf.n _ oT
   ·rw [if_neg hk1] at h ⊢
    by_cases hk2:k=2
    ·rw [if_pos hk2] at h ⊢
     exact (bI4 32).n _ oT
    ·rw [if_neg hk2] at h;cases h
  ·exact hx _ h2
theorem Rd.bind {α β:Type} {f:RS→α × RS} {p:List UInt8→Option (α × List UInt8)} (hf:Rd f p) {g:α→RS→β × RS} {q:α→List UInt8→Option (β × List UInt8)} (hg:∀a,Rd (g a) (q a)):Rd (fun s=>g (f s).1 (f s).2) (fun b=>(p b).bind fun x=>q x.1 x.2):=by
 refine ⟨fun b x r h=>?_,fun b h=>?_,fun s h=>(hg _).x _ (hf.x s h)⟩
 ·rcases hf.of b with ⟨n,t,h1,h2⟩|⟨h1,h2⟩
  ·simp only [h1,Option.bind_some] at h
   simp only [h2]
   exact (hg n).y _ _ _ h
  ·simp only [h1] at h;cases h
 ·rcases hf.of b with ⟨n,t,h1,h2⟩|⟨h1,h2⟩
  ·simp only [h1,Option.bind_some] at h
   simp only [h2]
   exact (hg n).n _ h
  ·exact (hg _).x _ h2
theorem Rd.map {α β:Type} {f:RS→α × RS} {p:List UInt8→Option (α × List UInt8)} (hf:Rd f p) (g:α→β):Rd (fun s=>(g (f s).1,(f s).2)) (fun b=>(p b).map fun x=>(g x.1,x.2)):=by
 refine ⟨fun b x r h=>?_,fun b h=>?_,fun s h=>hf.x s h⟩
 ·obtain ⟨y,hy,he⟩:=Option.map_eq_some_iff.1 h
  injection he with e1 e2
  subst e1 e2
  simp only [hf.y _ _ _ hy]
 ·exact hf.n b oT
theorem Rd.pure {α:Type} (a:α):Rd (fun s=>(a,s)) (fun b=>some (a,b)):=⟨fun b x r h=>by injection h with h;injection h with e1 e2;subst e1 e2;rfl,fun b h=>dW,fun s h=>h⟩
theorem bI2 {f:RS→Int × RS} (hf:Rd f (pIn (-4294967296) 4294967296)):Rd (rId f) pId:=by
 have hfin:=(bI4 16).bind (β:=Idf) (g:=fun a s=>(⟨a,(rVl f s).1⟩,(rVl f s).2)) (q:=fun a b=>(pVl b).map fun q=>(⟨a,q.1⟩,q.2)) fun a=>(dY6 hf).map (fun v=>(⟨a,v⟩:Idf))
 exact hfin
theorem dI2:Rd rVr pVr:=by
 have hfin:=rd_int.bind (β:=Ver) (g:=fun t s=>(⟨t,(bO (bO s).2).1,(bO s).1⟩,(bO (bO s).2).2)) (q:=fun t b=>(cS b).bind fun q=>(cS q.2).map fun w=>(⟨t,w.1,q.1⟩,w.2)) fun t =>
 rd_int.bind (β:=Ver) (g:=fun x s=>(⟨t,(bO s).1,x⟩,(bO s).2)) (q:=fun x b=>(cS b).map fun w=>(⟨t,w.1,x⟩,w.2)) fun x=>rd_int.map (fun w=>(⟨t,w,x⟩:Ver))
 exact hfin
theorem dI1:Rd rSr pSr:=by
 have hfin:=rd_int.bind (β:=Src) (g:=fun t s=>(⟨t,(bO s).1⟩,(bO s).2)) (q:=fun t b=>(cS b).map fun q=>(⟨t,q.1⟩,q.2)) fun t=>rd_int.map (fun w=>(⟨t,w⟩:Src))
 exact hfin
theorem cG4 {α:Type} {f:RS→α × RS} {p:List UInt8→Option (α × List UInt8)} (hf:Rd f p):∀n,Rd (fun s=>((gW f n s).1.getD [],(gW f n s).2)) (rR p n)
 | 0=>⟨fun b x r h=>by injection h with h;injection h with e1 e2;subst e1 e2;rfl,fun b h=>dW,fun s h=>h⟩
 | n+1=>by
  have ih:=cG4 hf n
  refine ⟨fun b x r h=>?_,fun b h=>?_,fun s h=>?_⟩
  ·rw [rR] at h
   rcases hf.of b with ⟨a,t,h1,h2⟩|⟨h1,h2⟩
   ·rw [h1,Option.bind_some] at h
    obtain ⟨y,hy,he⟩:=Option.map_eq_some_iff.1 h
    injection he with e1 e2
    subst e1 e2
    have hi:=ih.y _ _ _ hy
    simp only [gW,h2,ne_eq,not_true_eq_false,if_false]
    injection hi with i1 i2
    have hne:=(gW f n ⟨t,0⟩).1
    cases hr:(gW f n ⟨t,0⟩).1 with
    | none =>
     exfalso
     have:∀(n:Nat) (s:RS),s.e=0→(gW f n s).1=none→(gW f n s).2.e≠0:=by
      intro n
      induction n with
      | zero=>intro s _ h;cases h
      | succ n ihn =>
       intro s hs h
       rw [gW] at h ⊢
       split
       ·rename_i hne;exact hne
       ·rename_i hne
        rw [if_neg hne] at h
        simp only [Option.map_eq_none_iff] at h
        exact ihn _ (by simpa using hne) h
     exact this n ⟨t,0⟩ rfl hr (by rw [i2])
    | some l =>
     rw [hr] at i1
     simp only [Option.getD_some] at i1
     rw [Option.map_some,Option.getD_some,i1,i2]
   ·rw [h1] at h;cases h
  ·rw [rR] at h
   rcases hf.of b with ⟨a,t,h1,h2⟩|⟨h1,h2⟩
   ·rw [h1,Option.bind_some] at h
    simp only [gW,h2,ne_eq,not_true_eq_false,if_false]
    exact ih.n _ oT
   ·simp only [gW]
    rw [if_pos h2]
    exact h2
  ·simp only [gW]
   rw [if_pos (hf.x s h)]
   exact hf.x s h
theorem bI3 {α:Type} {f:RS→α × RS} {p:List UInt8→Option (α × List UInt8)} (hf:Rd f p):∀n,Rd (iJ f n) (rR p n)
 | 0=>⟨fun b x r h=>by injection h with h;injection h with e1 e2;subst e1 e2;rfl,fun b h=>dW,fun s h=>h⟩
 | n+1=>by
  have ih:=bI3 hf n
  refine ⟨fun b x r h=>?_,fun b h=>?_,fun s h=>?_⟩
  ·rw [rR] at h
   rcases hf.of b with ⟨a,t,h1,h2⟩|⟨h1,h2⟩
   ·rw [h1,Option.bind_some] at h
    obtain ⟨y,hy,he⟩:=Option.map_eq_some_iff.1 h
    injection he with e1 e2
    subst e1 e2
    simp only [iJ,h2,ne_eq,not_true_eq_false,if_false,ih.y _ _ _ hy]
   ·rw [h1] at h;cases h
  ·rw [rR] at h
   rcases hf.of b with ⟨a,t,h1,h2⟩|⟨h1,h2⟩
   ·rw [h1,Option.bind_some] at h
    simp only [iJ,h2,ne_eq,not_true_eq_false,if_false]
    exact ih.n _ oT
   ·simp only [iJ,ne_eq,not_true_eq_false,if_false]
    exact ih.x _ h2
  ·simp only [iJ]
   rw [if_pos h]
   exact h
theorem dI0 {α:Type} {f:RS→α × RS} {p:List UInt8→Option (α × List UInt8)} (hf:Rd f p) (m:Int):Rd (rLs f m) (pLs p m):=by
 have hfin:=(pW 0 m).bind (g:=fun n s=>((gW f n.toNat s).1.getD [],(gW f n.toNat s).2)) (q:=fun n b=>rR p n.toNat b) fun n=>cG4 hf n.toNat
 exact hfin
theorem cG3 {α:Type} {f:RS→α × RS} {p:List UInt8→Option (α × List UInt8)} (hf:Rd f p) (m:Int):Rd (aY2 f m) (pLs p m):=by
 have hfin:=(pW 0 m).bind (g:=fun n s=>iJ f n.toNat s) (q:=fun n b=>rR p n.toNat b) fun n=>bI3 hf n.toNat
 exact hfin
theorem dY4 {f:RS→Int × RS} (hf:Rd f (pIn (-4294967296) 4294967296)):Rd (rLk f) pLk:=by
 have hfin:=(bI2 hf).bind (β:=LLk) (g:=fun a s=>let b:=rId f s;let n:=bO b.2;let r:=rIn 0 1 n.2;(⟨a,b.1,n.1,decide (r.1=1)⟩,r.2)) (q:=fun a b=>(pId b).bind fun q=>(cS q.2).bind fun s=>(pIn 0 1 s.2).map fun t=>(⟨a,q.1,s.1,decide (t.1=1)⟩,t.2)) fun a =>
 (bI2 hf).bind (β:=LLk) (g:=fun b s=>let n:=bO s;let r:=rIn 0 1 n.2;(⟨a,b,n.1,decide (r.1=1)⟩,r.2)) (q:=fun b c=>(cS c).bind fun s=>(pIn 0 1 s.2).map fun t=>(⟨a,b,s.1,decide (t.1=1)⟩,t.2)) fun b =>
 rd_int.bind (β:=LLk) (g:=fun n s=>let r:=rIn 0 1 s;(⟨a,b,n,decide (r.1=1)⟩,r.2)) (q:=fun n c=>(pIn 0 1 c).map fun t=>(⟨a,b,n,decide (t.1=1)⟩,t.2)) fun n=>(pW 0 1).map (fun t=>(⟨a,b,n,decide (t=1)⟩:LLk))
 exact hfin
theorem dY3 {f:RS→Int × RS} (hf:Rd f (pIn (-4294967296) 4294967296)):Rd (rHd f) pHd:=by
 have hfin:=rd_int.bind (β:=LHd) (g:=fun t s=>let c:=bO s;let w:=rId f c.2;let n:=bO w.2;let x:=bO n.2;let y:=bO x.2;(⟨t,c.1,w.1,n.1,x.1,y.1⟩,y.2)) (q:=fun t b=>(cS b).bind fun c=>(pId c.2).bind fun w=>(cS w.2).bind fun s=>(cS s.2).bind fun f=>(cS f.2).map fun o=>(⟨t,c.1,w.1,s.1,f.1,o.1⟩,o.2)) fun t =>
 rd_int.bind (β:=LHd) (g:=fun c s=>let w:=rId f s;let n:=bO w.2;let x:=bO n.2;let y:=bO x.2;(⟨t,c,w.1,n.1,x.1,y.1⟩,y.2)) (q:=fun c b=>(pId b).bind fun w=>(cS w.2).bind fun s=>(cS s.2).bind fun f=>(cS f.2).map fun o=>(⟨t,c,w.1,s.1,f.1,o.1⟩,o.2)) fun c =>
 (bI2 hf).bind (β:=LHd) (g:=fun w s=>let n:=bO s;let x:=bO n.2;let y:=bO x.2;(⟨t,c,w,n.1,x.1,y.1⟩,y.2)) (q:=fun w b=>(cS b).bind fun s=>(cS s.2).bind fun f=>(cS f.2).map fun o=>(⟨t,c,w,s.1,f.1,o.1⟩,o.2)) fun w =>
 rd_int.bind (β:=LHd) (g:=fun n s=>let x:=bO s;let y:=bO x.2;(⟨t,c,w,n,x.1,y.1⟩,y.2)) (q:=fun n b=>(cS b).bind fun f=>(cS f.2).map fun o=>(⟨t,c,w,n,f.1,o.1⟩,o.2)) fun n =>
 rd_int.bind (β:=LHd) (g:=fun x s=>let y:=bO s;(⟨t,c,w,n,x,y.1⟩,y.2)) (q:=fun x b=>(cS b).map fun o=>(⟨t,c,w,n,x,o.1⟩,o.2)) fun x=>rd_int.map (fun y=>(⟨t,c,w,n,x,y⟩:LHd))
 exact hfin
theorem dY5 {f:RS→Int × RS} (hf:Rd f (pIn (-4294967296) 4294967296)):Rd (rRq f) pRq:=by
 have hfin:=rd_int.bind (β:=LRq) (g:=fun k s=>let w:=rId f s;let n:=bO w.2;let x:=bO n.2;let y:=bO x.2;(⟨k,w.1,n.1,x.1,y.1⟩,y.2)) (q:=fun k b=>(pId b).bind fun w=>(cS w.2).bind fun s=>(cS s.2).bind fun d=>(cS d.2).map fun o=>(⟨k,w.1,s.1,d.1,o.1⟩,o.2)) fun k =>
 (bI2 hf).bind (β:=LRq) (g:=fun w s=>let n:=bO s;let x:=bO n.2;let y:=bO x.2;(⟨k,w,n.1,x.1,y.1⟩,y.2)) (q:=fun w b=>(cS b).bind fun s=>(cS s.2).bind fun d=>(cS d.2).map fun o=>(⟨k,w,s.1,d.1,o.1⟩,o.2)) fun w =>
 rd_int.bind (β:=LRq) (g:=fun n s=>let x:=bO s;let y:=bO x.2;(⟨k,w,n,x.1,y.1⟩,y.2)) (q:=fun n b=>(cS b).bind fun d=>(cS d.2).map fun o=>(⟨k,w,n,d.1,o.1⟩,o.2)) fun n =>
 rd_int.bind (β:=LRq) (g:=fun x s=>let y:=bO s;(⟨k,w,n,x,y.1⟩,y.2)) (q:=fun x b=>(cS b).map fun o=>(⟨k,w,n,x,o.1⟩,o.2)) fun x=>rd_int.map (fun y=>(⟨k,w,n,x,y⟩:LRq))
 exact hfin
theorem rd_dg:Rd rDg (pBy 32):=by
 refine ⟨fun b x r h=>?_,fun b h=>(yX 32).n b h,fun s h=>(yX 32).x s h⟩
 have h1:=(yX 32).y _ _ _ h
 unfold pBy at h
 split at h
 ·rename_i hl
  injection h with h;injection h with e1 e2
  have hx:x≠[]:=fun e=>by
   have:=congrArg List.length e1
   rw [e,List.length_take] at this
   simp only [List.length_nil] at this
   omega
  unfold rDg
  rw [h1]
  simp only
  rw [if_neg hx]
 ·cases h
theorem cW1 {p:RP} (h1:Rd p.nu (pIn (-4294967296) 4294967296)) (h2:Rd p.vs (pLs pVr 512)) (h3:Rd p.ss (pLs pSr 512)) (k d pl st:Int):Rd (lT p k d pl st) (pR k d pl st):=by
 have e:lT p k d pl st=fun s=>lT p k d pl st s:=rfl
 have e':pR k d pl st=fun b=>pR k d pl st b:=rfl
 rw [e,e']
 unfold lT pR
 by_cases k1:k=1
 ·simp only [if_pos k1]
  exact (dY5 h1).map (fun x=>(⟨k,d,pl,st,x,lk0,hd0,[],[],root0⟩:LEn))
 ·simp only [if_neg k1]
  by_cases k2:k=2
  ·simp only [if_pos k2]
   have hfin:=h2.bind (β:=LEn) (g:=fun v s=>(⟨k,d,pl,st,rq0,lk0,hd0,v,(p.ss s).1,root0⟩,(p.ss s).2)) (q:=fun v b=>(pLs pSr 512 b).map fun x=>(⟨k,d,pl,st,rq0,lk0,hd0,v,x.1,root0⟩,x.2)) fun v=>h3.map (fun x=>(⟨k,d,pl,st,rq0,lk0,hd0,v,x,root0⟩:LEn))
   exact hfin
  ·simp only [if_neg k2]
   by_cases k4:k=4
   ·simp only [if_pos k4]
    exact rd_dg.map (fun x=>(⟨k,d,pl,st,rq0,lk0,hd0,[],[],x⟩:LEn))
   ·simp only [if_neg k4]
    by_cases k6:k=6
    ·simp only [if_pos k6]
     exact (dY4 h1).map (fun x=>(⟨k,d,pl,st,rq0,x,hd0,[],[],root0⟩:LEn))
    ·simp only [if_neg k6]
     by_cases k7:k=7
     ·simp only [if_pos k7]
      exact (dY3 h1).map (fun x=>(⟨k,d,pl,st,rq0,lk0,x,[],[],root0⟩:LEn))
     ·simp only [if_neg k7]
      exact Rd.pure _
theorem dH9 {p:RP} (h0:Rd p.ki (pIn 1 7)) (h1:Rd p.nu (pIn (-4294967296) 4294967296)) (h2:Rd p.vs (pLs pVr 512)) (h3:Rd p.ss (pLs pSr 512)):Rd (rEn p) pEn:=by
 have hfin:=h0.bind (β:=LEn) (g:=fun k s=>let d:=bO s;let pl:=bO d.2;let st:=bO pl.2;lT p k d.1 pl.1 st.1 st.2) (q:=fun k b=>(cS b).bind fun d=>(cS d.2).bind fun p=>(cS p.2).bind fun s=>pR k d.1 p.1 s.1 s.2) fun k =>
 rd_int.bind (β:=LEn) (g:=fun d s=>let pl:=bO s;let st:=bO pl.2;lT p k d pl.1 st.1 st.2) (q:=fun d b=>(cS b).bind fun p=>(cS p.2).bind fun s=>pR k d p.1 s.1 s.2) fun d =>
 rd_int.bind (β:=LEn) (g:=fun pl s=>let st:=bO s;lT p k d pl st.1 st.2) (q:=fun pl b=>(cS b).bind fun s=>pR k d pl s.1 s.2) fun pl =>
 rd_int.bind (β:=LEn) (g:=fun st s=>lT p k d pl st s) (q:=fun st b=>pR k d pl st b) fun st=>cW1 h1 h2 h3 k d pl st
 exact hfin
theorem rd_enP:Rd (rEn rpP) pEn:=dH9 (pW 1 7) dO7 (dI0 dI2 512) (dI0 dI1 512)
theorem rd_enR:Rd (rEn rpR) pEn:=dH9 dO6 dO8 (cG3 dI2 512) (cG3 dI1 512)
end Go.Proofs.YtbgehdndimlgkaaGreat
