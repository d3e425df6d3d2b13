/- Lemmas for laws of the ledger. -/
import Derived.Lib.AppendStr
import Derived.Test.YtbgehdndimlgkaaGreatP8
set_option linter.all false
set_option maxHeartbeats 16000000
namespace Go.Proofs.YtbgehdndimlgkaaGreat
open Go Go.RowKit Go.Av
set_option maxRecDepth 100000
theorem aN9 {v:Vl} (h:okP v):okV v=true:=AH h
theorem mC {v:Vl} (h:¬okP v):okV v=false:=Bj h
attribute [local irreducible] Still Adds AWL AW Drw bY bW AC AWR cR Frz Go.Av.Src cQ Out InK ItK AsK RdK
theorem dC9 (v:Vl):qC' 258 [.agg v.c] (.c (bv (okV v))) [] 0:=by
 obtain ⟨k,n,t⟩:=v
 show AC _ _ [.agg [iv k,iv n,sv t]] _ _ _
 have hsz:=aX6 t
 by_cases k0:k=0
 ·subst k0
  by_cases n0:n=0
  ·by_cases t0:t=[]
   ·have hb:=aN9 (v:=⟨0,n,t⟩) (.inl ⟨rfl,n0,t0⟩)
    rw [hb]
    refine aD aB (sz:=41) Tryz.func258 rfl nB ?_
    repeat' (first|(refine aC ?_;intro K hK hX)|refine nV ?_|(refine aE hK hX ?_;clear hK hX K)|fail)
    exact aV
   ·have hb:=mC (v:=⟨0,n,t⟩) aS5
    rw [hb]
    refine aD aB (sz:=41) Tryz.func258 rfl nB ?_
    repeat' (first|(refine aC ?_;intro K hK hX)|refine nV ?_|(refine aE hK hX ?_;clear hK hX K)|fail)
    exact aV
  ·have hb:=mC (v:=⟨0,n,t⟩) aS6
   have t0:True:=trivial
   rw [hb]
   refine aD aB (sz:=41) Tryz.func258 rfl nB ?_
   repeat' (first|(refine aC ?_;intro K hK hX)|refine nV ?_|(refine aE hK hX ?_;clear hK hX K)|fail)
   exact aV
 ·by_cases k1:k=1
  ·subst k1
   have t9:True:=trivial
   by_cases n1 : -4294967296<=n
   ·by_cases n2:n<=4294967296
    ·by_cases t0:t=[]
     ·have hb:=aN9 (v:=⟨1,n,t⟩) (.inr (.inl ⟨rfl,n1,n2,t0⟩))
      rw [hb]
      refine aD aB (sz:=41) Tryz.func258 rfl nB ?_
      repeat' (first|(refine aC ?_;intro K hK hX)|refine nV ?_|(refine aE hK hX ?_;clear hK hX K)|fail)
      exact aV
     ·have hb:=mC (v:=⟨1,n,t⟩) aS5
      rw [hb]
      refine aD aB (sz:=41) Tryz.func258 rfl nB ?_
      repeat' (first|(refine aC ?_;intro K hK hX)|refine nV ?_|(refine aE hK hX ?_;clear hK hX K)|fail)
      exact aV
    ·have hb:=mC (v:=⟨1,n,t⟩) (by unfold okP;simp [n2])
     have t0:True:=trivial
     rw [hb]
     refine aD aB (sz:=41) Tryz.func258 rfl nB ?_
     repeat' (first|(refine aC ?_;intro K hK hX)|refine nV ?_|(refine aE hK hX ?_;clear hK hX K)|fail)
     exact aV
   ·have hb:=mC (v:=⟨1,n,t⟩) (by unfold okP;simp [n1])
    have t0:True:=trivial
    rw [hb]
    refine aD aB (sz:=41) Tryz.func258 rfl nB ?_
    repeat' (first|(refine aC ?_;intro K hK hX)|refine nV ?_|(refine aE hK hX ?_;clear hK hX K)|fail)
    exact aV
  ·by_cases k2:k=2
   ·subst k2
    have t0:True:=trivial
    by_cases n0:n=0
    ·by_cases t1:t.length<=32
     ·have hb:=aN9 (v:=⟨2,n,t⟩) (.inr (.inr ⟨rfl,n0,t1⟩))
      rw [hb]
      refine aD aB (sz:=41) Tryz.func258 rfl nB ?_
      repeat' (first|(refine aC ?_;intro K hK hX)|refine nV ?_|(refine aE hK hX ?_;clear hK hX K)|fail)
      exact aV
     ·have hb:=mC (v:=⟨2,n,t⟩) (by unfold okP;simp;omega)
      rw [hb]
      refine aD aB (sz:=41) Tryz.func258 rfl nB ?_
      repeat' (first|(refine aC ?_;intro K hK hX)|refine nV ?_|(refine aE hK hX ?_;clear hK hX K)|fail)
      exact aV
    ·have hb:=mC (v:=⟨2,n,t⟩) aS6
     rw [hb]
     refine aD aB (sz:=41) Tryz.func258 rfl nB ?_
     repeat' (first|(refine aC ?_;intro K hK hX)|refine nV ?_|(refine aE hK hX ?_;clear hK hX K)|fail)
     exact aV
   ·have hb:=mC (v:=⟨k,n,t⟩) (by unfold okP;simp [k0,k1,k2])
    have t0:True:=trivial
    rw [hb]
    refine aD aB (sz:=41) Tryz.func258 rfl nB ?_
    repeat' (first|(refine aC ?_;intro K hK hX)|refine nV ?_|(refine aE hK hX ?_;clear hK hX K)|fail)
    exact aV
theorem cF6 (v:Vl):qC' 255 [.agg v.c] (.c (bv (okV v))) [] 0:=by
 obtain ⟨k,n,t⟩:=v
 show AC _ _ [.agg [iv k,iv n,sv t]] _ _ _
 have hsz:=aX6 t
 by_cases k0:k=0
 ·subst k0
  by_cases n0:n=0
  ·by_cases t0:t=[]
   ·have hb:=aN9 (v:=⟨0,n,t⟩) (.inl ⟨rfl,n0,t0⟩)
    rw [hb]
    refine aD aB (sz:=41) Tryz.func255 rfl nC ?_
    repeat' (first|(refine aC ?_;intro K hK hX)|refine nV ?_|(refine aE hK hX ?_;clear hK hX K)|fail)
    exact aV
   ·have hb:=mC (v:=⟨0,n,t⟩) aS5
    rw [hb]
    refine aD aB (sz:=41) Tryz.func255 rfl nC ?_
    repeat' (first|(refine aC ?_;intro K hK hX)|refine nV ?_|(refine aE hK hX ?_;clear hK hX K)|fail)
    exact aV
  ·have hb:=mC (v:=⟨0,n,t⟩) aS6
   have t0:True:=trivial
   rw [hb]
   refine aD aB (sz:=41) Tryz.func255 rfl nC ?_
   repeat' (first|(refine aC ?_;intro K hK hX)|refine nV ?_|(refine aE hK hX ?_;clear hK hX K)|fail)
   exact aV
 ·by_cases k1:k=1
  ·subst k1
   have t9:True:=trivial
   by_cases n1 : -4294967296<=n
   ·by_cases n2:n<=4294967296
    ·by_cases t0:t=[]
     ·have hb:=aN9 (v:=⟨1,n,t⟩) (.inr (.inl ⟨rfl,n1,n2,t0⟩))
      rw [hb]
      refine aD aB (sz:=41) Tryz.func255 rfl nC ?_
      repeat' (first|(refine aC ?_;intro K hK hX)|refine nV ?_|(refine aE hK hX ?_;clear hK hX K)|fail)
      exact aV
     ·have hb:=mC (v:=⟨1,n,t⟩) aS5
      rw [hb]
      refine aD aB (sz:=41) Tryz.func255 rfl nC ?_
      repeat' (first|(refine aC ?_;intro K hK hX)|refine nV ?_|(refine aE hK hX ?_;clear hK hX K)|fail)
      exact aV
    ·have hb:=mC (v:=⟨1,n,t⟩) (by unfold okP;simp [n2])
     have t0:True:=trivial
     rw [hb]
     refine aD aB (sz:=41) Tryz.func255 rfl nC ?_
     repeat' (first|(refine aC ?_;intro K hK hX)|refine nV ?_|(refine aE hK hX ?_;clear hK hX K)|fail)
     exact aV
   ·have hb:=mC (v:=⟨1,n,t⟩) (by unfold okP;simp [n1])
    have t0:True:=trivial
    rw [hb]
    refine aD aB (sz:=41) Tryz.func255 rfl nC ?_
    repeat' (first|(refine aC ?_;intro K hK hX)|refine nV ?_|(refine aE hK hX ?_;clear hK hX K)|fail)
    exact aV
  ·by_cases k2:k=2
   ·subst k2
    have t0:True:=trivial
    by_cases n0:n=0
    ·by_cases t1:t.length<=32
     ·have hb:=aN9 (v:=⟨2,n,t⟩) (.inr (.inr ⟨rfl,n0,t1⟩))
      rw [hb]
      refine aD aB (sz:=41) Tryz.func255 rfl nC ?_
      repeat' (first|(refine aC ?_;intro K hK hX)|refine nV ?_|(refine aE hK hX ?_;clear hK hX K)|fail)
      exact aV
     ·have hb:=mC (v:=⟨2,n,t⟩) (by unfold okP;simp;omega)
      rw [hb]
      refine aD aB (sz:=41) Tryz.func255 rfl nC ?_
      repeat' (first|(refine aC ?_;intro K hK hX)|refine nV ?_|(refine aE hK hX ?_;clear hK hX K)|fail)
      exact aV
    ·have hb:=mC (v:=⟨2,n,t⟩) aS6
     rw [hb]
     refine aD aB (sz:=41) Tryz.func255 rfl nC ?_
     repeat' (first|(refine aC ?_;intro K hK hX)|refine nV ?_|(refine aE hK hX ?_;clear hK hX K)|fail)
     exact aV
   ·have hb:=mC (v:=⟨k,n,t⟩) (by unfold okP;simp [k0,k1,k2])
    have t0:True:=trivial
    rw [hb]
    refine aD aB (sz:=41) Tryz.func255 rfl nC ?_
    repeat' (first|(refine aC ?_;intro K hK hX)|refine nV ?_|(refine aE hK hX ?_;clear hK hX K)|fail)
    exact aV
theorem cJ1 (v:Vl):qC' 256 [.agg v.c] (.c (.agg (clV v).c)) [] 0:=by
 have hv:=dC9 v
 unfold clV
 cases hb:okV v with
 | true =>
  rw [hb] at hv
  obtain ⟨k,n,t⟩:=v
  refine aD aB (sz:=7) Tryz.func256 rfl (by rw [Tryz.ntmps256];rfl) ?_
  repeat' (first|(refine aC ?_;intro K hK hX)|refine bR8 ?_|(refine aE hK hX ?_;clear hK hX K)|fail)
  exact nG
 | false =>
  rw [hb] at hv
  obtain ⟨k,n,t⟩:=v
  refine aD aB (sz:=7) Tryz.func256 rfl (by rw [Tryz.ntmps256];rfl) ?_
  repeat' (first|(refine aC ?_;intro K hK hX)|refine bR8 ?_|(refine aE hK hX ?_;clear hK hX K)|fail)
  exact nG
theorem cE1 (v:Vl):qC' 245 [.agg v.c] (.c (.agg (clV v).c)) [] 0:=by
 have hv:=cF6 v
 unfold clV
 cases hb:okV v with
 | true =>
  rw [hb] at hv
  obtain ⟨k,n,t⟩:=v
  refine aD aB (sz:=7) Tryz.func245 rfl (by rw [Tryz.ntmps245];rfl) ?_
  repeat' (first|(refine aC ?_;intro K hK hX)|refine bR8 ?_|(refine aE hK hX ?_;clear hK hX K)|fail)
  exact nG
 | false =>
  rw [hb] at hv
  obtain ⟨k,n,t⟩:=v
  refine aD aB (sz:=7) Tryz.func245 rfl (by rw [Tryz.ntmps245];rfl) ?_
  repeat' (first|(refine aC ?_;intro K hK hX)|refine bR8 ?_|(refine aE hK hX ?_;clear hK hX K)|fail)
  exact nG
end Go.Proofs.YtbgehdndimlgkaaGreat
namespace Go.Av
open Go Go.RowKit Go.Lib
def aB6 (l:Dr):Dt:=l.map fun b=>Value.int .u8 b.toNat
theorem aB8 (ok:Nat->Prop) (w:World):∀l:Dr,RepCs ok w (u8c l) (aB6 l)
 | []=>rfl
 | b::l=>⟨_,_,rfl,rfl,aB8 ok w l⟩
theorem aB7 (l:Dr):∀x∈aB6 l,x.oneCell'=true:=fun x hx=>by
 obtain ⟨b,_,rfl⟩:=B8.1 hx
 rfl
theorem aK1 (l:Dr):strCells ⟨l.toArray⟩=aB6 l:=by simp [strCells,aB6]
theorem bQ2 (l:Dr):(⟨l.toArray⟩:ByteArray).size=l.length:=by simp [ByteArray.size]
section app
variable {P:D0} {tab:Tab}
section
variable {w : World} {T S ty E : Dz} {ti : TypeInfo} {z : Value} (ht : P.underlying T = some (.slice E)) (hS : P.underlying S = some .string) (hi : P.info? E = some ti) (hs1 : ti.size = 1) (hz : ti.zero = some z) (hzs : z.cells.size = ti.size)
include w T S ty E ti z ht hS hi hs1 hz hzs
theorem cZ2 {g n cap : Nat} {us vs : Dt} (hg : w.heap[g]? = some (.cells (us ++ vs).toArray E (0, 0))) (hul : us.length = n * ti.size) (hcap : (us ++ vs).length = cap * ti.size) (hnc : n <= cap) (hcm : cap <= maxLen)
    {ok : Nat -> Prop} (l : Dr) (h63 : n + l.length <= maxLen) (hb : (n + l.length) * ti.bytes <= 140737488355328) :
    ∃ news, RepCs ok w (u8c l) news /\ (∀ x ∈ news, x.oneCell' = true) /\
      ((∃ vs', (Builtin.append_ #[T, S] ty #[.slice (some ⟨g, 0, none⟩) n cap, .string ⟨l.toArray⟩]).run P w = .ok (.slice (some ⟨g, 0, none⟩) (n + l.length) cap) (w.setRow g ((us ++ news) ++ vs').toArray) /\ ((us ++ news) ++ vs').length = (us ++ vs).length /\ n + l.length <= cap) \/
       (∃ cap' vs' w', (Builtin.append_ #[T, S] ty #[.slice (some ⟨g, 0, none⟩) n cap, .string ⟨l.toArray⟩]).run P w = .ok (.slice (some ⟨w.heap.size, 0, none⟩) (n + l.length) cap') w' /\ Below w.heap.size w w' /\ w'.heap[w.heap.size]? = some (.cells ((us ++ news) ++ vs').toArray E (0, 0)) /\ ((us ++ news) ++ vs').length = cap' * ti.size /\ n + l.length <= cap' /\ cap' <= maxLen)) := by
  refine ⟨aB6 l, aB8 ok w l, aB7 l, ?_⟩
  have hnl : (aB6 l).length = l.length := Bf _
  have hsz := bQ2 l
  rw [hs1, A9] at hul hcap
  by_cases hroom : n + l.length <= cap
  · have hr := run_append_room_string (P := P) w T S ty E ti ht hS hi hs1 g n cap _ hg ⟨l.toArray⟩ (by rw [hsz]; exact hroom) (by rw [hsz, A3, hcap]; exact hroom)
    rw [hsz, aK1] at hr
    refine .inl ⟨vs.drop l.length, ?_, ?_, hroom⟩
    · rw [hr]
      congr 3
      simp only [Cl]
      rw [A8 aA, Ae aA, Ca, AG aA]
      simp only [Aw, hul]
      congr 2
      omega
    · rw [Aa] at hcap
      simp only [Aa, A0, hnl]; omega
  · have holds : ∀ j x, us[j]? = some x -> w.cell? ((⟨g, 0, none⟩ : Addr).add j) = some x := fun j x hx => by rw [iU, Ap]; exact jT hg hx
    have hr := run_append_grow_string (P := P) w T S ty E ti z ht hS hi hz ⟨g, 0, none⟩ n cap us (by rw [hs1, A9]; exact hul) holds ⟨l.toArray⟩ (by rw [hsz]; omega) (by rw [hsz]; simp only [maxLen] at h63; omega) (by rw [hsz]; exact growslice_fits aA hb)
    rw [hsz, aK1] at hr
    have hge := grownCap_ge w (n + l.length) cap E
    have hle := grownCap_le_maxLen w (n + l.length) cap E h63
    refine .inr ⟨_, (Builtin.zeroCells z.cells (grownCap w (n + l.length) cap E - (n + l.length))).toList, _, hr, ?_, ?_, ?_, hge, hle⟩
    · exact dH2
    · rw [show w.heap.size = w.drew.heap.size from rfl, heap_alloc_new]
      congr 2
      apply BZ.1
      simp
    · simp only [Aa, AA, size_zeroCells, hzs, hnl, hul, hs1, A9]
      omega
theorem cF4
    {ok : Nat -> Prop} (l : Dr) (h63 : l.length <= maxLen) (hb : l.length * ti.bytes <= 140737488355328) :
    ∃ news, RepCs ok w (u8c l) news /\ (∀ x ∈ news, x.oneCell' = true) /\
      ((l.length = 0 /\ (Builtin.append_ #[T, S] ty #[.slice none 0 0, .string ⟨l.toArray⟩]).run P w = .ok (.slice none 0 0) w) \/
       (∃ cap' vs' w', (Builtin.append_ #[T, S] ty #[.slice none 0 0, .string ⟨l.toArray⟩]).run P w = .ok (.slice (some ⟨w.heap.size, 0, none⟩) l.length cap') w' /\ Below w.heap.size w w' /\ w'.heap[w.heap.size]? = some (.cells (news ++ vs').toArray E (0, 0)) /\ (news ++ vs').length = cap' * ti.size /\ l.length <= cap' /\ cap' <= maxLen)) := by
  refine ⟨aB6 l, aB8 ok w l, aB7 l, ?_⟩
  have hnl : (aB6 l).length = l.length := Bf _
  have hsz := bQ2 l
  by_cases h0 : l.length = 0
  · refine .inl ⟨h0, ?_⟩
    rw [h0] at hsz
    have hl : l = [] := An h0
    subst hl
    simp [Builtin.append_, run_underlying ht, run_underlying hS, sizeOf, typeInfo, hi, Builtin.lenOf, Builtin.firstCells, ByteArray.size]
  · have hr := run_append_nil_string (P := P) w T S ty E ti z ht hS hi hz ⟨l.toArray⟩ (by rw [hsz]; omega) (by rw [hsz]; simp only [maxLen] at h63; omega) (by rw [hsz]; omega)
    rw [hsz] at hr
    have hge := grownCap_ge w l.length 0 E
    have hle := grownCap_le_maxLen w l.length 0 E h63
    refine .inr ⟨_, (Builtin.zeroCells z.cells (grownCap w l.length 0 E - l.length)).toList, _, hr, ?_, ?_, ?_, hge, hle⟩
    · exact dH2
    · rw [show w.heap.size = w.drew.heap.size from rfl, heap_alloc_new]
      congr 2
      apply BZ.1
      simp [aB6]
    · simp only [Aa, AA, size_zeroCells, hzs, hnl, hs1, A9]
      omega
end
variable {ev:Evl} {h:aQ} {d:Dy} {T S ty:Dz} {x y:Operand} {pos:String} {aft:Dx} {gd:Ds} {i:Nat}
theorem cB4 (tb : bT P tab) {e e' : TyE} {E m k id : Nat} {cs : D8} {l : Dr} {es : TyE} (hT : aX tab T = some e) (hk : e.kind = .slice E) (hE : aX tab E = some e') (hs : Nat.beq e'.size 1 = true) (hz : Nat.beq e'.zero.length 1 = true) (hS : aX tab S = some es) (hks : es.kind = .str)
    (hx : ev x = some (.own id 0 m 1 true)) (ho : lk h id = some (.row E cs)) (hcl : cs.length = m * 1) (hy : ev y = some (.c (.v (.string ⟨l.toArray⟩)))) (hlk : l.length = k) (h63 : m + k <= maxLen) (hb : (m + k) * e'.bytes <= 140737488355328) :
    bW P ⟨d, .call ⟨.builtin .append, #[x, y], #[T, S]⟩, ty, pos, aft, gd⟩ ev h (.own i 0 (m + k) 1 true) [(i, .row E (cs ++ u8c l))] (some (id, none)) i (i + 1) := by
  intro B dom M H w a K' Q hh hn c1 he hK'
  have hrx := he x _ hx
  have hry := he y _ hy
  have hid : dom id := by simp only [Rep] at hrx; exact hrx.1
  have hi0 := hn i (Ah _) (Bm _)
  have hidi : id ≠ i := fun e => hi0.1 (e ▸ hid)
  have hoH := hh id _ ho hid
  simp only [Rep, RepC] at hry
  obtain ⟨ti, zv, hi, hzv, hszt, hby, hzc⟩ := kH (aM tb hE)
  have hs' := Af hs
  have hz' := Af hz
  have hzs : zv.cells.size = ti.size := by rw [<- AA, hzc, hz', hszt, hs']
  have hs1 : ti.size = 1 := hszt.trans hs'
  have hstr := (aM tb hS).str hks
  subst hlk
  have hsl := (aM tb hT).slice hk
  have fin : ∀ (w' : World) (gq : D6) (u : Value), w'.os = w.os -> w'.tape = w.tape -> w'.output = w.output -> w.heap.size <= w'.heap.size -> (∀ b, b < w.heap.size -> M id ≠ some b -> w'.heap[b]? = w.heap[b]?) -> (∀ b s, w.shape? b = some s -> w'.shape? b = some s) ->
      (∀ g, gq = some g -> M id = some g \/ w.heap.size <= g) ->
      (∀ C, Ext ⟨dom, M, bG B dom M H, w⟩ C -> C.w = w' -> C.dom i -> C.M i = gq -> ObjRep C gq (.row E (cs ++ u8c l)) /\ Rep C (.own i 0 (m + l.length) 1 true) u) ->
      K' (a.put d u) w' := by
    intro w' gq u e1 e2 e3 e4 e5 e6 e7 e8
    let M' : Nat -> D6 := fun q => if q = i then gq else M q
    have hMn : M' i = gq := by simp [M']
    have hMo : ∀ q, dom q -> M' q = M q := fun q hq => by
      have : q ≠ i := fun e => hi0.1 (e ▸ hq)
      simp [M', this]
    have hln : H i = some (.row E (cs ++ u8c l)) := by rw [hi0.2, cD, Ak rfl]; rfl
    have hobj : ∀ q o, ad dom i (i + 1) q -> ov (some (id, none)) H q = some o -> (q = i /\ o = .row E (cs ++ u8c l)) \/ (dom q /\ q ≠ id /\ H q = some o) := fun q o hq hH => by
      by_cases hqi : q = id
      · subst hqi; rw [zB] at hH; cases hH
      · rw [lV (fun x e => hqi (congrArg Prod.fst (Option.some.inj e)).symm)] at hH
        rcases hq with hq | ⟨hq1, hq2⟩
        · exact .inr ⟨hq, hqi, hH⟩
        · obtain rfl : q = i := by omega
          rw [hln] at hH; injection hH with hH; exact .inl ⟨rfl, hH.symm⟩
    have hext : Ext ⟨dom, M, bG B dom M H, w⟩ ⟨ad dom i (i + 1), M', bG B (ad dom i (i + 1)) M' (ov (some (id, none)) H), w'⟩ := by
      refine ⟨fun q hq => ⟨.inl hq, hMo q hq⟩, fun b hb1 hb2 => ⟨⟨hb1.1, fun q o hq hH he => ?_⟩, A5 hb2 e4, e5 b hb2 (fun he => hb1.2 id _ hid hoH he)⟩, shp fun b s hbs => e6 b s hbs⟩
      rcases hobj q o hq hH with ⟨rfl, rfl⟩ | ⟨h1, h3, h4⟩
      · rw [hMn] at he
        rcases e7 b he with h1 | h1
        · exact hb1.2 id _ hid hoH h1
        · simp only at hb2; omega
      · rw [hMo q h1] at he; exact hb1.2 q o h1 h4 he
    have hdi : ad dom i (i + 1) i := .inr ⟨Ah _, Bm _⟩
    have e8' := e8 _ hext rfl hdi hMn
    have hcc : ConcH B (ad dom i (i + 1)) M' (ov (some (id, none)) H) w' := by
      refine ⟨⟨e1.trans c1.fr.os, e2.trans c1.fr.tape, e3.trans c1.fr.output, At c1.fr.size e4, fun b h1 h3 => ?_⟩, fun q o hq hH => ?_, fun q q' o o' g h1 h3 h4 h5 h6 h7 => ?_, fun q o g hq hH he => ?_⟩
      · rw [e5 b (A5 h1 c1.fr.size) (fun he => ?_)]
        · exact c1.fr.block b h1 h3
        · rcases c1.lo id _ b hid hoH he with h4 | h4
          · omega
          · exact h3 h4
      · rcases hobj q o hq hH with ⟨rfl, rfl⟩ | ⟨h1, h3, h4⟩
        · rw [hMn]; exact e8'.1
        · rw [hMo q h1]
          have h5 := c1.obj q o h1 h4
          exact dZ4
      · rcases hobj q o h1 h4 with ⟨rfl, rfl⟩ | ⟨p1, p2, p3⟩ <;> rcases hobj q' o' h3 h5 with ⟨rfl, rfl⟩ | ⟨r1, r2, r3⟩
        · rfl
        · rw [hMn] at h6; rw [hMo q' r1] at h7
          rcases e7 g h6 with t1 | t1
          · exact absurd (c1.inj q' id o' _ g r1 hid r3 hoH h7 t1) r2
          · have := (c1.obj q' o' r1 r3).lt g h7; simp only at this; omega
        · rw [hMn] at h7; rw [hMo q p1] at h6
          rcases e7 g h7 with t1 | t1
          · exact absurd (c1.inj q id o _ g p1 hid p3 hoH h6 t1) p2
          · have := (c1.obj q o p1 p3).lt g h6; simp only at this; omega
        · rw [hMo q p1] at h6; rw [hMo q' r1] at h7
          exact eF5
      · rcases hobj q o hq hH with ⟨rfl, rfl⟩ | ⟨h1, h3, h4⟩
        · rw [hMn] at he
          rcases e7 g he with t1 | t1
          · exact c1.lo id _ g hid hoH t1
          · have := c1.fr.size; exact .inl aA
        · rw [hMo q h1] at he; exact c1.lo q o g h1 h4 he
    exact hK' u w' M' hext hcc e8'.2
  unfold Oper.wp
  simp only [Rep] at hrx
  rcases hrx.2 with ⟨q1, q2, q3, q4⟩ | ⟨g, cp, q1, q2, q3, q4, q5⟩ | ⟨_, q2, _⟩
  · subst q1
    obtain rfl : cs = [] := An (by simpa using hcl)
    obtain ⟨news, n1, n2, n3⟩ := cF4 (P := P) (ty := ty) (ok := bG B dom M H) hsl hstr hi hs1 hzv hzs l (by simpa using h63) (by rw [hby]; simpa using hb)
    rcases n3 with ⟨r1, hr⟩ | ⟨cap', vs', w', hr, hb', hblk, hlen, hc1, hc2⟩
    · have hys : u8c l = [] := by rw [An r1]; rfl
      rw [kQ a.eval (w' := w) (v := .slice none 0 0) (by rw [q4, hry]; exact hr)]
      simp only [Oper.upon]
      refine fin w none _ rfl rfl rfl (Ah _) (fun _ _ _ => rfl) (fun _ _ h => h) aT (fun C hext hw hdn hMn => ⟨.inl ⟨rfl, by rw [hys]; rfl⟩, hdn, .inl ⟨by omega, rfl, hMn, rfl⟩⟩)
    · rw [kQ a.eval (w' := w') (v := .slice (some ⟨w.heap.size, 0, none⟩) l.length cap') (by rw [q4, hry]; exact hr)]
      simp only [Oper.upon]
      refine fin w' (some w.heap.size) _ hb'.os hb'.tape hb'.output hb'.size (fun b hb2 _ => hb'.block b hb2) (fun b s hs => by rw [eM (hb'.block b (kB hs))]; exact hs) (fun g hg => by injection hg with hg; exact .inr aA) (fun C hext hw hdn hMn => ⟨.inr ⟨w.heap.size, news, vs', rfl, by rw [hw]; exact hblk, ?_, n2⟩, hdn, .inr (.inl ⟨w.heap.size, cap', hMn, by simp, by omega, hc2, fun _ => ⟨E, ?_⟩⟩)⟩)
      · rw [Aw]
        exact RepCs.mono hext.ok _ _ n1
      · unfold World.shape?
        rw [hw, hblk]
        simp only [A3, Ap]
        rw [hlen, hszt, hs']
  · obtain ⟨us, vs, hblk0, hus, hon⟩ := fU hh c1 ho hid q1
    obtain ⟨e0, hsh⟩ := q5 trivial
    have hcap : (us ++ vs).length = cp * ti.size := by
      have hsh' : w.shape? g = some (E, (us ++ vs).length) := by
        unfold World.shape?
        rw [hblk0]; simp
      skip
      rw [hsh'] at hsh
      injection hsh with hsh
      have := congrArg Prod.snd hsh
      simp only [Ap] at this
      rw [this, hszt, hs']
    obtain ⟨news, n1, n2, n3⟩ := cZ2 (P := P) (ty := ty) (ok := bG B dom M H) hsl hstr hi hs1 hzv hzs hblk0 cN5 hcap q3 q4 l h63 (by rw [hby]; exact hb)
    rcases n3 with ⟨vs', hr, hlen, hroom⟩ | ⟨cap', vs', w', hr, hb', hblk, hlen, hc1, hc2⟩
    · rw [kQ a.eval (v := .slice (some ⟨g, 0, none⟩) (m + l.length) cp) (by rw [q2, hry]; exact hr)]
      simp only [Oper.upon]
      have hnew := setRow_heap w g _ ((us ++ news) ++ vs').toArray E _ hblk0
      have hshp : ∀ b s, w.shape? b = some s -> (w.setRow g ((us ++ news) ++ vs').toArray).shape? b = some s := fun b s hs => by
        by_cases hbg : b = g
        · subst hbg
          rw [<- hs]
          unfold World.shape?
          rw [hnew, hblk0]
          simp only [A3, hlen]
        · rw [eM (setRow_other w g b _ hbg)]; exact hs
      refine fin _ (some g) _ rfl rfl rfl aT (fun b _ hb2 => setRow_other w g b _ (fun e => hb2 (by rw [e]; exact q1))) hshp (fun g' hg' => by injection hg' with hg'; subst hg'; exact .inl q1) (fun C hext hw hdn hMn => ⟨.inr ⟨g, us ++ news, vs', rfl, by rw [hw]; exact hnew, RepCs.mono hext.ok _ _ (hus.append n1), fun u hu => (Az.1 hu).elim (hon u) (n2 u)⟩, hdn, .inr (.inl ⟨g, cp, hMn, rfl, hroom, q4, fun _ => ⟨e0, ?_⟩⟩)⟩)
      rw [hw]
      exact hshp _ _ hsh
    · rw [kQ a.eval (v := .slice (some ⟨w.heap.size, 0, none⟩) (m + l.length) cap') (w' := w') (by rw [q2, hry]; exact hr)]
      simp only [Oper.upon]
      refine fin w' (some w.heap.size) _ hb'.os hb'.tape hb'.output hb'.size (fun b hb2 _ => hb'.block b hb2) (fun b s hs => by rw [eM (hb'.block b (kB hs))]; exact hs) (fun g hg => by injection hg with hg; exact .inr aA) (fun C hext hw hdn hMn => ⟨.inr ⟨w.heap.size, us ++ news, vs', rfl, by rw [hw]; exact hblk, RepCs.mono hext.ok _ _ (hus.append n1), fun u hu => (Az.1 hu).elim (hon u) (n2 u)⟩, hdn, .inr (.inl ⟨w.heap.size, cap', hMn, rfl, hc1, hc2, fun _ => ⟨E, ?_⟩⟩)⟩)
      unfold World.shape?
      rw [hw, hblk]
      simp only [A3, Ap]
      rw [hlen, hszt, hs']
  · cases q2
end app
section
variable {P:D0} {tab:Tab} {sz n i n0 m:Nat} {env env0:Env} {h h0 hr:aQ} {dfs:cK} {K:AK} {ops:Dv} {l rest:Du} {es:List Eat} {ids:Dw} {t:Nat} {d:Dy} {T S ty:Dz} {x y:Operand} {pos:String} {aft:Dx} {gd:Ds} {e e' e2:TyE} {E m' k id:Nat} {cs:D8} {s:Dr}
theorem yF (tb : bT P tab) (hg : guardA ops env ⟨d, .call ⟨.builtin .append, #[x, y], #[T, S]⟩, ty, pos, aft, gd⟩ true) (hd : iS d sz = true) (hT : aX tab T = some e) (hk : e.kind = .slice E) (hE : aX tab E = some e') (hs : Nat.beq e'.size 1 = true) (hz : Nat.beq e'.zero.length 1 = true) (hS : aX tab S = some e2) (hks : e2.kind = .str) (hx : evA env x = some (.own id 0 m' 1 true)) (ho : lk h id = some (.row E cs)) (hcl : cs.length = m' * 1) (hy : evA env y = some (.c (.v (.string ⟨s.toArray⟩)))) (hlk : s.length = k) (h63 : m' + k <= maxLen) (hb : (m' + k) * e'.bytes <= 140737488355328)
    (next : AWL P ops sz rest K (n + 1) (gT env d (.own n 0 (m' + k) 1 true)) ((id, .dead) :: (n, .row E (cs ++ u8c s)) :: h) dfs) : AWL P ops sz (⟨d, .call ⟨.builtin .append, #[x, y], #[T, S]⟩, ty, pos, aft, gd⟩ :: rest) K n env h dfs :=
  mE (c := some (id, none)) (Δ := [(n, .row E (cs ++ u8c s))]) hg hd (BK n) trivial (cB4 tb hT hk hE hs hz hS hks hx ho hcl hy hlk h63 hb) (fun q h1 h2 => by
    obtain rfl : q = n := by omega
    rw [cD, Ak rfl]; rfl) (fun p hp => by rw [AZ.1 hp]; exact Ah _) next
end
end Go.Av
namespace Go.Proofs.YtbgehdndimlgkaaGreat
open Go Go.RowKit Go.Av
set_option maxRecDepth 100000
section
def Idf.cs (i:Idf):D8:=[sv i.ns,iv i.v.k,iv i.v.n,sv i.v.t]
def LRq.cs (q:LRq):D8:=[iv q.k,sv q.who.ns,iv q.who.v.k,iv q.who.v.n,sv q.who.v.t,iv q.s,iv q.d,iv q.dl]
def LLk.cs (l:LLk):D8:=[sv l.a.ns,iv l.a.v.k,iv l.a.v.n,sv l.a.v.t,sv l.b.ns,iv l.b.v.k,iv l.b.v.n,sv l.b.v.t,iv l.s,bv l.rv]
def LHd.cs (h:LHd):D8:=[iv h.t,iv h.c,sv h.who.ns,iv h.who.v.k,iv h.who.v.n,sv h.who.v.t,iv h.s,iv h.fr,iv h.to]
attribute [local irreducible] Still Adds AWL AW Drw bY bW AC AWR cR Frz Go.Av.Src cQ Out InK ItK AsK RdK eL eF ACT ACA eT
attribute [local simp] bV bU bM
theorem ACA.eq {P:D0} {f:FuncId} {E:Dz} {size n m m':Nat} {c0 args c1 c1':D8} (h:ACA P f E size n c0 args c1 m) (h1:c1=c1') (h2:m=m'):ACA P f E size n c0 args c1' m':=h1▸h2▸h
section
variable {P:D0} {tab:Tab} {ev:Evl} {h:aQ} {d:Dy} {T ty:Dz} {x:Operand} {pos:String} {aft:Dx} {gd:Ds}
theorem bO3 {e:TyE} (tb:bT P tab) {s:Dr} {q:Nat} (hT:aX tab T=some e) (hk:e.kind = .str) (hq:s.length=q) (hx:ev x=some (.c (sv s))):Still P ⟨d,.call ⟨.builtin .len,#[x],#[T]⟩,ty,pos,aft,gd⟩ ev h (.c (iv q)):=by
 have:=aW9 (d:=d) (ty:=ty) (pos:=pos) (aft:=aft) (gd:=gd) (h:=h) tb hT hk hx
 rw [aX6,hq] at this
 exact this
end
section
variable (L:Dr) (m:Nat) (hL:L.length=m)
include L m hL
theorem vQ (a:Int) (ha:aS a) (m':Nat) (hm':(L++bA a).length=m') (hb:m'<=1000000):ACA Tryz.prog 151 5 1 m (u8c L) [.sl 1 1 [iv a]] (u8c (L++bA a)) m':=by
 have:=zU L m hL [a] 1 rfl (by simp;exact ha) m' rS hb
 simpa [dO] using this
theorem cT4 (a b:Int) (ha:aS a) (hb':aS b) (m':Nat) (hm':(L++(bA a++bA b)).length=m') (hb:m'<=1000000):ACA Tryz.prog 151 5 1 m (u8c L) [.sl 1 2 [iv a,iv b]] (u8c (L++(bA a++bA b))) m':=by
 have:=zU L m hL [a,b] 2 rfl (by simp;exact ⟨ha,hb'⟩) m' rS hb
 simpa [dO] using this
theorem cT5 (a b c:Int) (ha:aS a) (hb':aS b) (hc:aS c) (m':Nat) (hm':(L++(bA a++(bA b++bA c))).length=m') (hb:m'<=1000000):ACA Tryz.prog 151 5 1 m (u8c L) [.sl 1 3 [iv a,iv b,iv c]] (u8c (L++(bA a++(bA b++bA c)))) m':=by
 have:=zU L m hL [a,b,c] 3 rfl (by simp;exact ⟨ha,hb',hc⟩) m' rS hb
 simpa [dO] using this
theorem eS1 (a b c d:Int) (ha:aS a) (hb':aS b) (hc:aS c) (hd:aS d) (m':Nat) (hm':(L++(bA a++(bA b++(bA c++bA d)))).length=m') (hb:m'<=1000000):ACA Tryz.prog 151 5 1 m (u8c L) [.sl 1 4 [iv a,iv b,iv c,iv d]] (u8c (L++(bA a++(bA b++(bA c++bA d))))) m':=by
 have:=zU L m hL [a,b,c,d] 4 rfl (by simp;exact ⟨ha,hb',hc,hd⟩) m' rS hb
 simpa [dO] using this
theorem bX8 (s:Dr) (m':Nat) (hm':(L++nJ s).length=m') (hb:m'<=1000000):ACA Tryz.prog 247 5 1 m (u8c L) [sv s] (u8c (L++nJ s)) m':=by
 have hul:(u8c L).length=m:=by rw [aH,hL]
 obtain ⟨j,hj⟩:∃j,(L++bA s.length).length=j:=⟨_,rfl⟩
 obtain ⟨q,hq⟩:∃q,s.length=q:=⟨_,rfl⟩
 have hsz:(⟨s.toArray⟩:ByteArray).size=q:=by rw [aX6,hq]
 have hjq:j+q=m':=by
  rw [<- hm',<- hj,<- hq]
  simp only [nJ,Aa]
  omega
 have h1:=vQ L m hL (s.length:Int) ⟨by omega,by omega⟩ j hj aA
 have e:u8c (L++nJ s)=u8c (L++bA s.length)++u8c s:=by rw [nJ,<- Ao,bM]
 have hul2:(u8c (L++bA s.length)).length=j:=by rw [aH,hj]
 rw [hq] at h1 hul2 e
 refine eD aB (sz:=12) Tryz.func247 rfl (by rw [Tryz.ntmps247];rfl) (bR _) ?_
 repeat' (first|(refine aC ?_;intro K hK hX)|refine aL [0,1,4] ?_|((with_reducible refine aF ?_);refine dR (h1) aG rfl zby rfl rfl zln rfl zcv (bR _) ?_)|refine wM ?_|((with_reducible refine uE ?_);refine yF aB aG rfl rfl rfl rfl rfl rfl rfl rfl rfl rfl dY9 rfl (by first|with_reducible assumption|omega) nX dZ0 ?_)|(((with_reducible refine bL ?_);refine xA ?_);(first|((with_reducible refine bB2 ?_);(first|refine aJ (bO3 aB rfl rfl hq rfl) ?_))))|refine stA ?_|(refine aE hK hX ?_;clear hK hX K)|fail)
 rw [<- e,hjq]
 have hul3:(u8c (L++nJ s)).length=m':=by rw [aH,hm']
 exact kV
theorem dG6 (v:Vl) (m':Nat) (hm':(L++mA (clV v)).length=m') (hb:m'<=1000000):ACA Tryz.prog 246 5 1 m (u8c L) [.agg v.c] (u8c (L++mA (clV v))) m':=by
 have hul:(u8c L).length=m:=by rw [aH,hL]
 have hul3:(u8c (L++mA (clV v))).length=m':=by rw [aH,hm']
 have hcl:=cJ1 v
 have hok:=aO0 v
 generalize clV v=u at hcl hok hm' hul3 ⊢
 obtain ⟨k,n,t⟩:=u
 obtain ⟨k0,n0,t0⟩:=v
 obtain ⟨X,hX⟩:∃X,L++bA k=X:=⟨_,rfl⟩
 obtain ⟨j,hj⟩:∃j,X.length=j:=⟨_,rfl⟩
 have hlk:j<=m':=by rw [<- hm',<- hj,<- hX];simp only [mA,Aa];omega
 have hulx:(u8c X).length=j:=by rw [aH,hj]
 rcases hok with ⟨h1,h2,h3⟩|⟨h1,h2,h2',h3⟩|⟨h1,h2,h3⟩<;>simp only at h1 h2 h3<;>subst h1
 ·have i1:=vQ L m hL 0 ⟨by decide,by decide⟩ j lB aA
  have e:L++mA ⟨0,n,t⟩=X:=by rw [<- hX];simp [mA]
  rw [hX] at i1
  rw [e] at hm' hul3 ⊢
  have hjm:j=m':=by omega
  refine eD aB (sz:=28) Tryz.func246 rfl (by rw [Tryz.ntmps246];rfl) (bR _) ?_
  repeat' (first|(refine aC ?_;intro K hK hX)|refine aL [0,1,3,4,13] ?_|((with_reducible refine aF ?_);refine dR (i1) aG rfl zby rfl rfl zln rfl zcv (bR _) ?_)|refine wM ?_|(refine dL ?_;refine c0 hcl ?_)|refine stA ?_|(refine aE hK hX ?_;clear hK hX K)|fail)
  rw [hjm]
  exact kV
 ·have i1:=vQ L m hL 1 ⟨by decide,by decide⟩ j lB aA
  rw [hX] at i1
  have e:L++mA ⟨1,n,t⟩=X++bA n:=by rw [<- hX];simp [mA]
  rw [e] at hm' hul3 ⊢
  have i2:=vQ X j hj n ⟨by omega,by simp only at h2';omega⟩ m' hm' hb
  refine eD aB (sz:=28) Tryz.func246 rfl (by rw [Tryz.ntmps246];rfl) (bR _) ?_
  repeat' (first|(refine aC ?_;intro K hK hX)|refine dT9 ?_|(refine aE hK hX ?_;clear hK hX K)|fail)
  exact kV
 ·have i1:=vQ L m hL 2 ⟨by decide,by decide⟩ j lB aA
  rw [hX] at i1
  have e:L++mA ⟨2,n,t⟩=X++nJ t:=by rw [<- hX];simp [mA]
  rw [e] at hm' hul3 ⊢
  have i2:=bX8 X j hj t m' hm' hb
  refine eD aB (sz:=28) Tryz.func246 rfl (by rw [Tryz.ntmps246];rfl) (bR _) ?_
  repeat' (first|(refine aC ?_;intro K hK hX)|refine dT9 ?_|(refine aE hK hX ?_;clear hK hX K)|fail)
  exact kV
theorem vL (i:Idf) (m':Nat) (hm':(L++eI i).length=m') (hb:m'<=1000000):ACA Tryz.prog 223 5 1 m (u8c L) [.agg i.cs] (u8c (L++eI i)) m':=by
 have hul:(u8c L).length=m:=by rw [aH,hL]
 have hul3:(u8c (L++eI i)).length=m':=by rw [aH,hm']
 obtain ⟨X,hX⟩:∃X,L++nJ i.ns=X:=⟨_,rfl⟩
 obtain ⟨j,hj⟩:∃j,X.length=j:=⟨_,rfl⟩
 have e:L++eI i=X++mA (clV i.v):=by rw [<- hX,eI,Ao]
 have hlk:j<=m':=by rw [<- hm',<- hj,e,Aa];omega
 have i1:=bX8 L m hL i.ns j lB aA
 rw [hX] at i1
 rw [e] at hm' hul3 ⊢
 have i2:=dG6 X j hj i.v m' hm' hb
 have hulx:(u8c X).length=j:=by rw [aH,hj]
 obtain ⟨ns,k,n,t⟩:=i
 dsimp only [Idf.cs,Vl.c] at *
 refine eD aB (sz:=12) Tryz.func223 rfl (by rw [Tryz.ntmps223];rfl) (bR _) ?_
 repeat' (first|(refine aC ?_;intro K hK hX)|refine fL [0,1,3,4] ?_|((with_reducible refine aF ?_);refine dR (i1) aG rfl zby rfl rfl zln rfl zcv (bR _) ?_)|((with_reducible refine bP ?_);refine iK (i1) aG rfl rfl zby rfl rfl zln rfl zcv (bR _) rfl ?_)|((with_reducible refine aF ?_);refine dR (i2) aG rfl zby rfl rfl zln rfl zcv (bR _) ?_)|((with_reducible refine bP ?_);refine iK (i2) aG rfl rfl zby rfl rfl zln rfl zcv (bR _) rfl ?_)|refine stA ?_|refine stE ?_|(refine aE hK hX ?_;clear hK hX K)|fail)
 exact kV
end
end
section
attribute [local irreducible] Still Adds AWL AW Drw bY bW AC AWR cR Frz Go.Av.Src cQ Out InK ItK AsK RdK eL eF ACT ACA eT
attribute [local simp] bV bU bM
theorem u8l {l:Dr} {n:Nat} (h:l.length=n):(u8c l).length=n:=by rw [aH,h]
section
variable (L:Dr) (m:Nat) (hL:L.length=m)
include L m hL
theorem bN3 (q:LRq) (h1:aS q.k) (h2:aS q.s) (h3:aS q.d) (h4:aS q.dl) (m':Nat) (hm':(L++kY q).length=m') (hb:m'<=1000000):ACA Tryz.prog 168 5 1 m (u8c L) [.agg q.cs] (u8c (L++kY q)) m':=by
 have hul:=u8l hL
 have hul3:=u8l hm'
 obtain ⟨X,hX⟩:∃X,L++bA q.k=X:=⟨_,rfl⟩
 obtain ⟨Y,hY⟩:∃Y,X++eI q.who=Y:=⟨_,rfl⟩
 obtain ⟨j,hj⟩:∃j,X.length=j:=⟨_,rfl⟩
 obtain ⟨w,hw⟩:∃w,Y.length=w:=⟨_,rfl⟩
 have e:L++kY q=Y++(bA q.s++(bA q.d++bA q.dl)):=by rw [<- hY,<- hX,kY];simp only [Ao]
 have hwm:w<=m':=by rw [<- hm',<- hw,e,Aa];omega
 have hjw:j<=w:=by rw [<- hw,<- hj,<- hY,Aa];omega
 have i1:=vQ L m hL q.k h1 j lB aA
 have i2:=vL X j hj q.who w (by rw [hY,hw]) aA
 rw [hX] at i1
 rw [hY] at i2
 rw [e] at hm' hul3 ⊢
 have i3:=cT5 Y w hw q.s q.d q.dl h2 h3 h4 m' hm' hb
 have hulx:=u8l hj
 have huly:=u8l hw
 obtain ⟨k,⟨ns,vk,vn,vt⟩,s,d,dl⟩:=q
 dsimp only [Idf.cs,LRq.cs,Vl.c] at *
 refine eD aB (sz:=22) Tryz.func168 rfl (by rw [Tryz.ntmps168];rfl) (bR _) ?_
 repeat' (first|(refine aC ?_;intro K hK hX)|refine dS3 ?_|(refine aE hK hX ?_;clear hK hX K)|fail)
 exact kV
theorem dM1 (q:LHd) (h1:aS q.t) (h2:aS q.c) (h3:aS q.s) (h4:aS q.fr) (h5:aS q.to) (m':Nat) (hm':(L++kW q).length=m') (hb:m'<=1000000):ACA Tryz.prog 172 5 1 m (u8c L) [.agg q.cs] (u8c (L++kW q)) m':=by
 have hul:=u8l hL
 have hul3:=u8l hm'
 obtain ⟨X,hX⟩:∃X,L++(bA q.t++bA q.c)=X:=⟨_,rfl⟩
 obtain ⟨Y,hY⟩:∃Y,X++eI q.who=Y:=⟨_,rfl⟩
 obtain ⟨j,hj⟩:∃j,X.length=j:=⟨_,rfl⟩
 obtain ⟨w,hw⟩:∃w,Y.length=w:=⟨_,rfl⟩
 have e:L++kW q=Y++(bA q.s++(bA q.fr++bA q.to)):=by rw [<- hY,<- hX,kW];simp only [Ao]
 have hwm:w<=m':=by rw [<- hm',<- hw,e,Aa];omega
 have hjw:j<=w:=by rw [<- hw,<- hj,<- hY,Aa];omega
 have i1:=cT4 L m hL q.t q.c h1 h2 j lB aA
 have i2:=vL X j hj q.who w (by rw [hY,hw]) aA
 rw [hX] at i1
 rw [hY] at i2
 rw [e] at hm' hul3 ⊢
 have i3:=cT5 Y w hw q.s q.fr q.to h3 h4 h5 m' hm' hb
 have hulx:=u8l hj
 have huly:=u8l hw
 obtain ⟨t,c,⟨ns,vk,vn,vt⟩,s,fr,to⟩:=q
 dsimp only [Idf.cs,LHd.cs,Vl.c] at *
 refine eD aB (sz:=24) Tryz.func172 rfl (by rw [Tryz.ntmps172];rfl) (bR _) ?_
 repeat' (first|(refine aC ?_;intro K hK hX)|refine dS3 ?_|(refine aE hK hX ?_;clear hK hX K)|fail)
 exact kV
theorem dM9 (q:LLk) (h1:aS q.s) (m':Nat) (hm':(L++kX q).length=m') (hb:m'<=1000000):ACA Tryz.prog 171 5 1 m (u8c L) [.agg q.cs] (u8c (L++kX q)) m':=by
 have hul:=u8l hL
 have hul3:=u8l hm'
 obtain ⟨X,hX⟩:∃X,L++eI q.a=X:=⟨_,rfl⟩
 obtain ⟨Y,hY⟩:∃Y,X++eI q.b=Y:=⟨_,rfl⟩
 obtain ⟨j,hj⟩:∃j,X.length=j:=⟨_,rfl⟩
 obtain ⟨w,hw⟩:∃w,Y.length=w:=⟨_,rfl⟩
 have e:L++kX q=Y++(bA q.s++bA (if q.rv then 1 else 0)):=by rw [<- hY,<- hX,kX];simp only [Ao]
 have hwm:w<=m':=by rw [<- hm',<- hw,e,Aa];omega
 have hjw:j<=w:=by rw [<- hw,<- hj,<- hY,Aa];omega
 have i1:=vL L m hL q.a j lB aA
 have i2:=vL X j hj q.b w (by rw [hY,hw]) aA
 rw [hX] at i1
 rw [hY] at i2
 rw [e] at hm' hul3 ⊢
 have i3:=cT4 Y w hw q.s (if q.rv then 1 else 0) h1 (by split<;>exact ⟨by decide,by decide⟩) m' hm' hb
 have hulx:=u8l hj
 have huly:=u8l hw
 obtain ⟨⟨ns,vk,vn,vt⟩,⟨ns2,vk2,vn2,vt2⟩,s,rv⟩:=q
 cases rv<;>simp only [AD,AS,Bx] at i3 hul3 hm' ⊢
 ·(try dsimp only [Idf.cs,LLk.cs,Vl.c] at *)
  refine eD aB (sz:=20) Tryz.func171 rfl (by rw [Tryz.ntmps171];rfl) (bR _) ?_
  repeat' (first|(refine aC ?_;intro K hK hX)|refine dS2 ?_|(refine aE hK hX ?_;clear hK hX K)|fail)
  exact kV
 ·(try dsimp only [Idf.cs,LLk.cs,Vl.c] at *)
  refine eD aB (sz:=20) Tryz.func171 rfl (by rw [Tryz.ntmps171];rfl) (bR _) ?_
  repeat' (first|(refine aC ?_;intro K hK hX)|refine dS2 ?_|(refine aE hK hX ?_;clear hK hX K)|fail)
  exact kV
end
end
end Go.Proofs.YtbgehdndimlgkaaGreat
