/- Lemmas for laws of the ledger. -/
import Derived.Lib.AppendStr
import Derived.Test.YtbgehdndimlgkaaGreatS8
set_option linter.all false
set_option maxHeartbeats 16000000
namespace Go.Proofs.YtbgehdndimlgkaaGreat
open Go Go.RowKit Go.Av
set_option maxRecDepth 100000
theorem aJ4 {v:Vl} (h:okP v):okV v=true:=AP h
theorem lL {v:Vl} (h:¬okP v):okV v=false:=Bi h
attribute [local irreducible] Still Adds AWL AW Drw bX bY AC AWR cU Frz Go.Av.Src cQ Out InK ItK AsK RdK
theorem cV6 (v:Vl):qC' 258 [.agg v.c] (.c (bv (okV v))) [] 0:=by
 obtain ⟨k,n,t⟩:=v
 show AC _ _ [.agg [iv k,iv n,sv t]] _ _ _
 have hsz:=aR8 t
 by_cases k0:k=0
 ·subst k0
  by_cases n0:n=0
  ·by_cases t0:t=[]
   ·have hb:=aJ4 (v:=⟨0,n,t⟩) (.inl ⟨rfl,n0,t0⟩)
    rw [hb]
    refine aD aB (sz:=41) Tryz.func258 rfl mG ?_
    repeat' (first|(refine aC ?_;intro K hK hX)|refine mY ?_|(refine aG hK hX ?_;clear hK hX K)|fail)
    exact aY
   ·have hb:=lL (v:=⟨0,n,t⟩) aN5
    rw [hb]
    refine aD aB (sz:=41) Tryz.func258 rfl mG ?_
    repeat' (first|(refine aC ?_;intro K hK hX)|refine mY ?_|(refine aG hK hX ?_;clear hK hX K)|fail)
    exact aY
  ·have hb:=lL (v:=⟨0,n,t⟩) aN6
   have t0:True:=trivial
   rw [hb]
   refine aD aB (sz:=41) Tryz.func258 rfl mG ?_
   repeat' (first|(refine aC ?_;intro K hK hX)|refine mY ?_|(refine aG hK hX ?_;clear hK hX K)|fail)
   exact aY
 ·by_cases k1:k=1
  ·subst k1
   have t9:True:=trivial
   by_cases n1 : -4294967296<=n
   ·by_cases n2:n<=4294967296
    ·by_cases t0:t=[]
     ·have hb:=aJ4 (v:=⟨1,n,t⟩) (.inr (.inl ⟨rfl,n1,n2,t0⟩))
      rw [hb]
      refine aD aB (sz:=41) Tryz.func258 rfl mG ?_
      repeat' (first|(refine aC ?_;intro K hK hX)|refine mY ?_|(refine aG hK hX ?_;clear hK hX K)|fail)
      exact aY
     ·have hb:=lL (v:=⟨1,n,t⟩) aN5
      rw [hb]
      refine aD aB (sz:=41) Tryz.func258 rfl mG ?_
      repeat' (first|(refine aC ?_;intro K hK hX)|refine mY ?_|(refine aG hK hX ?_;clear hK hX K)|fail)
      exact aY
    ·have hb:=lL (v:=⟨1,n,t⟩) (by unfold okP;simp [n2])
     have t0:True:=trivial
     rw [hb]
     refine aD aB (sz:=41) Tryz.func258 rfl mG ?_
     repeat' (first|(refine aC ?_;intro K hK hX)|refine mY ?_|(refine aG hK hX ?_;clear hK hX K)|fail)
     exact aY
   ·have hb:=lL (v:=⟨1,n,t⟩) (by unfold okP;simp [n1])
    have t0:True:=trivial
    rw [hb]
    refine aD aB (sz:=41) Tryz.func258 rfl mG ?_
    repeat' (first|(refine aC ?_;intro K hK hX)|refine mY ?_|(refine aG hK hX ?_;clear hK hX K)|fail)
    exact aY
  ·by_cases k2:k=2
   ·subst k2
    have t0:True:=trivial
    by_cases n0:n=0
    ·by_cases t1:t.length<=32
     ·have hb:=aJ4 (v:=⟨2,n,t⟩) (.inr (.inr ⟨rfl,n0,t1⟩))
      rw [hb]
      refine aD aB (sz:=41) Tryz.func258 rfl mG ?_
      repeat' (first|(refine aC ?_;intro K hK hX)|refine mY ?_|(refine aG hK hX ?_;clear hK hX K)|fail)
      exact aY
     ·have hb:=lL (v:=⟨2,n,t⟩) (by unfold okP;simp;omega)
      rw [hb]
      refine aD aB (sz:=41) Tryz.func258 rfl mG ?_
      repeat' (first|(refine aC ?_;intro K hK hX)|refine mY ?_|(refine aG hK hX ?_;clear hK hX K)|fail)
      exact aY
    ·have hb:=lL (v:=⟨2,n,t⟩) aN6
     rw [hb]
     refine aD aB (sz:=41) Tryz.func258 rfl mG ?_
     repeat' (first|(refine aC ?_;intro K hK hX)|refine mY ?_|(refine aG hK hX ?_;clear hK hX K)|fail)
     exact aY
   ·have hb:=lL (v:=⟨k,n,t⟩) (by unfold okP;simp [k0,k1,k2])
    have t0:True:=trivial
    rw [hb]
    refine aD aB (sz:=41) Tryz.func258 rfl mG ?_
    repeat' (first|(refine aC ?_;intro K hK hX)|refine mY ?_|(refine aG hK hX ?_;clear hK hX K)|fail)
    exact aY
theorem bZ2 (v:Vl):qC' 255 [.agg v.c] (.c (bv (okV v))) [] 0:=by
 obtain ⟨k,n,t⟩:=v
 show AC _ _ [.agg [iv k,iv n,sv t]] _ _ _
 have hsz:=aR8 t
 by_cases k0:k=0
 ·subst k0
  by_cases n0:n=0
  ·by_cases t0:t=[]
   ·have hb:=aJ4 (v:=⟨0,n,t⟩) (.inl ⟨rfl,n0,t0⟩)
    rw [hb]
    refine aD aB (sz:=41) Tryz.func255 rfl mH ?_
    repeat' (first|(refine aC ?_;intro K hK hX)|refine mY ?_|(refine aG hK hX ?_;clear hK hX K)|fail)
    exact aY
   ·have hb:=lL (v:=⟨0,n,t⟩) aN5
    rw [hb]
    refine aD aB (sz:=41) Tryz.func255 rfl mH ?_
    repeat' (first|(refine aC ?_;intro K hK hX)|refine mY ?_|(refine aG hK hX ?_;clear hK hX K)|fail)
    exact aY
  ·have hb:=lL (v:=⟨0,n,t⟩) aN6
   have t0:True:=trivial
   rw [hb]
   refine aD aB (sz:=41) Tryz.func255 rfl mH ?_
   repeat' (first|(refine aC ?_;intro K hK hX)|refine mY ?_|(refine aG hK hX ?_;clear hK hX K)|fail)
   exact aY
 ·by_cases k1:k=1
  ·subst k1
   have t9:True:=trivial
   by_cases n1 : -4294967296<=n
   ·by_cases n2:n<=4294967296
    ·by_cases t0:t=[]
     ·have hb:=aJ4 (v:=⟨1,n,t⟩) (.inr (.inl ⟨rfl,n1,n2,t0⟩))
      rw [hb]
      refine aD aB (sz:=41) Tryz.func255 rfl mH ?_
      repeat' (first|(refine aC ?_;intro K hK hX)|refine mY ?_|(refine aG hK hX ?_;clear hK hX K)|fail)
      exact aY
     ·have hb:=lL (v:=⟨1,n,t⟩) aN5
      rw [hb]
      refine aD aB (sz:=41) Tryz.func255 rfl mH ?_
      repeat' (first|(refine aC ?_;intro K hK hX)|refine mY ?_|(refine aG hK hX ?_;clear hK hX K)|fail)
      exact aY
    ·have hb:=lL (v:=⟨1,n,t⟩) (by unfold okP;simp [n2])
     have t0:True:=trivial
     rw [hb]
     refine aD aB (sz:=41) Tryz.func255 rfl mH ?_
     repeat' (first|(refine aC ?_;intro K hK hX)|refine mY ?_|(refine aG hK hX ?_;clear hK hX K)|fail)
     exact aY
   ·have hb:=lL (v:=⟨1,n,t⟩) (by unfold okP;simp [n1])
    have t0:True:=trivial
    rw [hb]
    refine aD aB (sz:=41) Tryz.func255 rfl mH ?_
    repeat' (first|(refine aC ?_;intro K hK hX)|refine mY ?_|(refine aG hK hX ?_;clear hK hX K)|fail)
    exact aY
  ·by_cases k2:k=2
   ·subst k2
    have t0:True:=trivial
    by_cases n0:n=0
    ·by_cases t1:t.length<=32
     ·have hb:=aJ4 (v:=⟨2,n,t⟩) (.inr (.inr ⟨rfl,n0,t1⟩))
      rw [hb]
      refine aD aB (sz:=41) Tryz.func255 rfl mH ?_
      repeat' (first|(refine aC ?_;intro K hK hX)|refine mY ?_|(refine aG hK hX ?_;clear hK hX K)|fail)
      exact aY
     ·have hb:=lL (v:=⟨2,n,t⟩) (by unfold okP;simp;omega)
      rw [hb]
      refine aD aB (sz:=41) Tryz.func255 rfl mH ?_
      repeat' (first|(refine aC ?_;intro K hK hX)|refine mY ?_|(refine aG hK hX ?_;clear hK hX K)|fail)
      exact aY
    ·have hb:=lL (v:=⟨2,n,t⟩) aN6
     rw [hb]
     refine aD aB (sz:=41) Tryz.func255 rfl mH ?_
     repeat' (first|(refine aC ?_;intro K hK hX)|refine mY ?_|(refine aG hK hX ?_;clear hK hX K)|fail)
     exact aY
   ·have hb:=lL (v:=⟨k,n,t⟩) (by unfold okP;simp [k0,k1,k2])
    have t0:True:=trivial
    rw [hb]
    refine aD aB (sz:=41) Tryz.func255 rfl mH ?_
    repeat' (first|(refine aC ?_;intro K hK hX)|refine mY ?_|(refine aG hK hX ?_;clear hK hX K)|fail)
    exact aY
theorem cC7 (v:Vl):qC' 256 [.agg v.c] (.c (.agg (clV v).c)) [] 0:=by
 have hv:=cV6 v
 unfold clV
 cases hb:okV v with
 | true =>
  rw [hb] at hv
  obtain ⟨k,n,t⟩:=v
  refine aD aB (sz:=7) Tryz.func256 rfl (by rw [Tryz.ntmps256];rfl) ?_
  repeat' (first|(refine aC ?_;intro K hK hX)|refine bM0 ?_|(refine aG hK hX ?_;clear hK hX K)|fail)
  exact mL
 | false =>
  rw [hb] at hv
  obtain ⟨k,n,t⟩:=v
  refine aD aB (sz:=7) Tryz.func256 rfl (by rw [Tryz.ntmps256];rfl) ?_
  repeat' (first|(refine aC ?_;intro K hK hX)|refine bM0 ?_|(refine aG hK hX ?_;clear hK hX K)|fail)
  exact mL
theorem bX5 (v:Vl):qC' 245 [.agg v.c] (.c (.agg (clV v).c)) [] 0:=by
 have hv:=bZ2 v
 unfold clV
 cases hb:okV v with
 | true =>
  rw [hb] at hv
  obtain ⟨k,n,t⟩:=v
  refine aD aB (sz:=7) Tryz.func245 rfl (by rw [Tryz.ntmps245];rfl) ?_
  repeat' (first|(refine aC ?_;intro K hK hX)|refine bM0 ?_|(refine aG hK hX ?_;clear hK hX K)|fail)
  exact mL
 | false =>
  rw [hb] at hv
  obtain ⟨k,n,t⟩:=v
  refine aD aB (sz:=7) Tryz.func245 rfl (by rw [Tryz.ntmps245];rfl) ?_
  repeat' (first|(refine aC ?_;intro K hK hX)|refine bM0 ?_|(refine aG hK hX ?_;clear hK hX K)|fail)
  exact mL
end Go.Proofs.YtbgehdndimlgkaaGreat
namespace Go.Av
open Go Go.RowKit Go.Lib
def zG (l:Dm):Do:=l.map fun b=>Value.int .u8 b.toNat
theorem zI (ok:Nat->Prop) (w:World):∀l:Dm,RepCs ok w (u8c l) (zG l)
 | []=>rfl
 | b::l=>⟨_,_,rfl,rfl,zI ok w l⟩
theorem zH (l:Dm):∀x∈zG l,x.oneCell'=true:=fun x hx=>by
 obtain ⟨b,_,rfl⟩:=BG.1 hx
 rfl
theorem aF5 (l:Dm):strCells ⟨l.toArray⟩=zG l:=by simp [strCells,zG]
theorem bK6 (l:Dm):(⟨l.toArray⟩:ByteArray).size=l.length:=by simp [ByteArray.size]
section app
variable {P:Dv} {tab:Tab}
section
variable {w : World} {T S ty E : Du} {ti : TypeInfo} {z : Value} (ht : P.underlying T = some (.slice E)) (hS : P.underlying S = some .string) (hi : P.info? E = some ti) (hs1 : ti.size = 1) (hz : ti.zero = some z) (hzs : z.cells.size = ti.size)
include w T S ty E ti z ht hS hi hs1 hz hzs
theorem cR9 {g n cap : Nat} {us vs : Do} (hg : w.heap[g]? = some (.cells (us ++ vs).toArray E (0, 0))) (hul : us.length = n * ti.size) (hcap : (us ++ vs).length = cap * ti.size) (hnc : n <= cap) (hcm : cap <= maxLen)
    {ok : Nat -> Prop} (l : Dm) (h63 : n + l.length <= maxLen) (hb : (n + l.length) * ti.bytes <= 140737488355328) :
    ∃ news, RepCs ok w (u8c l) news /\ (∀ x ∈ news, x.oneCell' = true) /\
      ((∃ vs', (Builtin.append_ #[T, S] ty #[.slice (some ⟨g, 0, none⟩) n cap, .string ⟨l.toArray⟩]).run P w = .ok (.slice (some ⟨g, 0, none⟩) (n + l.length) cap) (w.setRow g ((us ++ news) ++ vs').toArray) /\ ((us ++ news) ++ vs').length = (us ++ vs).length /\ n + l.length <= cap) \/
       (∃ cap' vs' w', (Builtin.append_ #[T, S] ty #[.slice (some ⟨g, 0, none⟩) n cap, .string ⟨l.toArray⟩]).run P w = .ok (.slice (some ⟨w.heap.size, 0, none⟩) (n + l.length) cap') w' /\ Below w.heap.size w w' /\ w'.heap[w.heap.size]? = some (.cells ((us ++ news) ++ vs').toArray E (0, 0)) /\ ((us ++ news) ++ vs').length = cap' * ti.size /\ n + l.length <= cap' /\ cap' <= maxLen)) := by
  refine ⟨zG l, zI ok w l, zH l, ?_⟩
  have hnl : (zG l).length = l.length := Bm _
  have hsz := bK6 l
  rw [hs1, A8] at hul hcap
  by_cases hroom : n + l.length <= cap
  · have hr := run_append_room_string (P := P) w T S ty E ti ht hS hi hs1 g n cap _ hg ⟨l.toArray⟩ (by rw [hsz]; exact hroom) (by rw [hsz, A1, hcap]; exact hroom)
    rw [hsz, aF5] at hr
    refine .inl ⟨vs.drop l.length, ?_, ?_, hroom⟩
    · rw [hr]
      congr 3
      simp only [Ci]
      rw [AD aA, Ad aA, BW, AG aA]
      simp only [Ay, hul]
      congr 2
      omega
    · rw [Aa] at hcap
      simp only [Aa, A0, hnl]; omega
  · have holds : ∀ j x, us[j]? = some x -> w.cell? ((⟨g, 0, none⟩ : Addr).add j) = some x := fun j x hx => by rw [iG, Aq]; exact jE hg hx
    have hr := run_append_grow_string (P := P) w T S ty E ti z ht hS hi hz ⟨g, 0, none⟩ n cap us (by rw [hs1, A8]; exact hul) holds ⟨l.toArray⟩ (by rw [hsz]; omega) (by rw [hsz]; simp only [maxLen] at h63; omega) (by rw [hsz]; exact growslice_fits aA hb)
    rw [hsz, aF5] at hr
    have hge := grownCap_ge w (n + l.length) cap E
    have hle := grownCap_le_maxLen w (n + l.length) cap E h63
    refine .inr ⟨_, (Builtin.zeroCells z.cells (grownCap w (n + l.length) cap E - (n + l.length))).toList, _, hr, ?_, ?_, ?_, hge, hle⟩
    · exact cZ5
    · rw [show w.heap.size = w.drew.heap.size from rfl, heap_alloc_new]
      congr 2
      apply BV.1
      simp
    · simp only [Aa, A9, size_zeroCells, hzs, hnl, hul, hs1, A8]
      omega
theorem bZ0
    {ok : Nat -> Prop} (l : Dm) (h63 : l.length <= maxLen) (hb : l.length * ti.bytes <= 140737488355328) :
    ∃ news, RepCs ok w (u8c l) news /\ (∀ x ∈ news, x.oneCell' = true) /\
      ((l.length = 0 /\ (Builtin.append_ #[T, S] ty #[.slice none 0 0, .string ⟨l.toArray⟩]).run P w = .ok (.slice none 0 0) w) \/
       (∃ cap' vs' w', (Builtin.append_ #[T, S] ty #[.slice none 0 0, .string ⟨l.toArray⟩]).run P w = .ok (.slice (some ⟨w.heap.size, 0, none⟩) l.length cap') w' /\ Below w.heap.size w w' /\ w'.heap[w.heap.size]? = some (.cells (news ++ vs').toArray E (0, 0)) /\ (news ++ vs').length = cap' * ti.size /\ l.length <= cap' /\ cap' <= maxLen)) := by
  refine ⟨zG l, zI ok w l, zH l, ?_⟩
  have hnl : (zG l).length = l.length := Bm _
  have hsz := bK6 l
  by_cases h0 : l.length = 0
  · refine .inl ⟨h0, ?_⟩
    rw [h0] at hsz
    have hl : l = [] := An h0
    subst hl
    simp [Builtin.append_, run_underlying ht, run_underlying hS, sizeOf, typeInfo, hi, Builtin.lenOf, Builtin.firstCells, ByteArray.size]
  · have hr := run_append_nil_string (P := P) w T S ty E ti z ht hS hi hz ⟨l.toArray⟩ (by rw [hsz]; omega) (by rw [hsz]; simp only [maxLen] at h63; omega) (by rw [hsz]; omega)
    rw [hsz] at hr
    have hge := grownCap_ge w l.length 0 E
    have hle := grownCap_le_maxLen w l.length 0 E h63
    refine .inr ⟨_, (Builtin.zeroCells z.cells (grownCap w l.length 0 E - l.length)).toList, _, hr, ?_, ?_, ?_, hge, hle⟩
    · exact cZ5
    · rw [show w.heap.size = w.drew.heap.size from rfl, heap_alloc_new]
      congr 2
      apply BV.1
      simp [zG]
    · simp only [Aa, A9, size_zeroCells, hzs, hnl, hs1, A8]
      omega
end
variable {ev:Evl} {h:aO} {d:Dt} {T S ty:Du} {x y:Operand} {pos:String} {aft:Ds} {gd:Dn} {i:Nat}
theorem bV0 (tb : bQ P tab) {e e' : TyE} {E m k id : Nat} {cs : D1} {l : Dm} {es : TyE} (hT : aS tab T = some e) (hk : e.kind = .slice E) (hE : aS tab E = some e') (hs : Nat.beq e'.size 1 = true) (hz : Nat.beq e'.zero.length 1 = true) (hS : aS tab S = some es) (hks : es.kind = .str)
    (hx : ev x = some (.own id 0 m 1 true)) (ho : lk h id = some (.row E cs)) (hcl : cs.length = m * 1) (hy : ev y = some (.c (.v (.string ⟨l.toArray⟩)))) (hlk : l.length = k) (h63 : m + k <= maxLen) (hb : (m + k) * e'.bytes <= 140737488355328) :
    bY P ⟨d, .call ⟨.builtin .append, #[x, y], #[T, S]⟩, ty, pos, aft, gd⟩ ev h (.own i 0 (m + k) 1 true) [(i, .row E (cs ++ u8c l))] (some (id, none)) i (i + 1) := by
  intro B dom M H w a K' Q hh hn c1 he hK'
  have hrx := he x _ hx
  have hry := he y _ hy
  have hid : dom id := by simp only [Rep] at hrx; exact hrx.1
  have hi0 := hn i (Ah _) (Bk _)
  have hidi : id ≠ i := fun e => hi0.1 (e ▸ hid)
  have hoH := hh id _ ho hid
  simp only [Rep, RepC] at hry
  obtain ⟨ti, zv, hi, hzv, hszt, hby, hzc⟩ := jS (aM tb hE)
  have hs' := Ae hs
  have hz' := Ae hz
  have hzs : zv.cells.size = ti.size := by rw [<- A9, hzc, hz', hszt, hs']
  have hs1 : ti.size = 1 := hszt.trans hs'
  have hstr := (aM tb hS).str hks
  subst hlk
  have hsl := (aM tb hT).slice hk
  have fin : ∀ (w' : World) (gq : Dz) (u : Value), w'.os = w.os -> w'.tape = w.tape -> w'.output = w.output -> w.heap.size <= w'.heap.size -> (∀ b, b < w.heap.size -> M id ≠ some b -> w'.heap[b]? = w.heap[b]?) -> (∀ b s, w.shape? b = some s -> w'.shape? b = some s) ->
      (∀ g, gq = some g -> M id = some g \/ w.heap.size <= g) ->
      (∀ C, Ext ⟨dom, M, bF B dom M H, w⟩ C -> C.w = w' -> C.dom i -> C.M i = gq -> ObjRep C gq (.row E (cs ++ u8c l)) /\ Rep C (.own i 0 (m + l.length) 1 true) u) ->
      K' (a.put d u) w' := by
    intro w' gq u e1 e2 e3 e4 e5 e6 e7 e8
    let M' : Nat -> Dz := fun q => if q = i then gq else M q
    have hMn : M' i = gq := by simp [M']
    have hMo : ∀ q, dom q -> M' q = M q := fun q hq => by
      have : q ≠ i := fun e => hi0.1 (e ▸ hq)
      simp [M', this]
    have hln : H i = some (.row E (cs ++ u8c l)) := by rw [hi0.2, cA, Ak rfl]; rfl
    have hobj : ∀ q o, ad dom i (i + 1) q -> ov (some (id, none)) H q = some o -> (q = i /\ o = .row E (cs ++ u8c l)) \/ (dom q /\ q ≠ id /\ H q = some o) := fun q o hq hH => by
      by_cases hqi : q = id
      · subst hqi; rw [xR] at hH; cases hH
      · rw [lE (fun x e => hqi (congrArg Prod.fst (Option.some.inj e)).symm)] at hH
        rcases hq with hq | ⟨hq1, hq2⟩
        · exact .inr ⟨hq, hqi, hH⟩
        · obtain rfl : q = i := by omega
          rw [hln] at hH; injection hH with hH; exact .inl ⟨rfl, hH.symm⟩
    have hext : Ext ⟨dom, M, bF B dom M H, w⟩ ⟨ad dom i (i + 1), M', bF B (ad dom i (i + 1)) M' (ov (some (id, none)) H), w'⟩ := by
      refine ⟨fun q hq => ⟨.inl hq, hMo q hq⟩, fun b hb1 hb2 => ⟨⟨hb1.1, fun q o hq hH he => ?_⟩, A3 hb2 e4, e5 b hb2 (fun he => hb1.2 id _ hid hoH he)⟩, shp fun b s hbs => e6 b s hbs⟩
      rcases hobj q o hq hH with ⟨rfl, rfl⟩ | ⟨h1, h3, h4⟩
      · rw [hMn] at he
        rcases e7 b he with h1 | h1
        · exact hb1.2 id _ hid hoH h1
        · simp only at hb2; omega
      · rw [hMo q h1] at he; exact hb1.2 q o h1 h4 he
    have hdi : ad dom i (i + 1) i := .inr ⟨Ah _, Bk _⟩
    have e8' := e8 _ hext rfl hdi hMn
    have hcc : ConcH B (ad dom i (i + 1)) M' (ov (some (id, none)) H) w' := by
      refine ⟨⟨e1.trans c1.fr.os, e2.trans c1.fr.tape, e3.trans c1.fr.output, At c1.fr.size e4, fun b h1 h3 => ?_⟩, fun q o hq hH => ?_, fun q q' o o' g h1 h3 h4 h5 h6 h7 => ?_, fun q o g hq hH he => ?_⟩
      · rw [e5 b (A3 h1 c1.fr.size) (fun he => ?_)]
        · exact c1.fr.block b h1 h3
        · rcases c1.lo id _ b hid hoH he with h4 | h4
          · omega
          · exact h3 h4
      · rcases hobj q o hq hH with ⟨rfl, rfl⟩ | ⟨h1, h3, h4⟩
        · rw [hMn]; exact e8'.1
        · rw [hMo q h1]
          have h5 := c1.obj q o h1 h4
          exact dR4
      · rcases hobj q o h1 h4 with ⟨rfl, rfl⟩ | ⟨p1, p2, p3⟩ <;> rcases hobj q' o' h3 h5 with ⟨rfl, rfl⟩ | ⟨r1, r2, r3⟩
        · rfl
        · rw [hMn] at h6; rw [hMo q' r1] at h7
          rcases e7 g h6 with t1 | t1
          · exact absurd (c1.inj q' id o' _ g r1 hid r3 hoH h7 t1) r2
          · have := (c1.obj q' o' r1 r3).lt g h7; simp only at this; omega
        · rw [hMn] at h7; rw [hMo q p1] at h6
          rcases e7 g h7 with t1 | t1
          · exact absurd (c1.inj q id o _ g p1 hid p3 hoH h6 t1) p2
          · have := (c1.obj q o p1 p3).lt g h6; simp only at this; omega
        · rw [hMo q p1] at h6; rw [hMo q' r1] at h7
          exact dX3
      · rcases hobj q o hq hH with ⟨rfl, rfl⟩ | ⟨h1, h3, h4⟩
        · rw [hMn] at he
          rcases e7 g he with t1 | t1
          · exact c1.lo id _ g hid hoH t1
          · have := c1.fr.size; exact .inl aA
        · rw [hMo q h1] at he; exact c1.lo q o g h1 h4 he
    exact hK' u w' M' hext hcc e8'.2
  unfold Oper.wp
  simp only [Rep] at hrx
  rcases hrx.2 with ⟨q1, q2, q3, q4⟩ | ⟨g, cp, q1, q2, q3, q4, q5⟩ | ⟨_, q2, _⟩
  · subst q1
    obtain rfl : cs = [] := An (by simpa using hcl)
    obtain ⟨news, n1, n2, n3⟩ := bZ0 (P := P) (ty := ty) (ok := bF B dom M H) hsl hstr hi hs1 hzv hzs l (by simpa using h63) (by rw [hby]; simpa using hb)
    rcases n3 with ⟨r1, hr⟩ | ⟨cap', vs', w', hr, hb', hblk, hlen, hc1, hc2⟩
    · have hys : u8c l = [] := by rw [An r1]; rfl
      rw [jX a.eval (w' := w) (v := .slice none 0 0) (by rw [q4, hry]; exact hr)]
      simp only [Oper.upon]
      refine fin w none _ rfl rfl rfl (Ah _) (fun _ _ _ => rfl) (fun _ _ h => h) aU (fun C hext hw hdn hMn => ⟨.inl ⟨rfl, by rw [hys]; rfl⟩, hdn, .inl ⟨by omega, rfl, hMn, rfl⟩⟩)
    · rw [jX a.eval (w' := w') (v := .slice (some ⟨w.heap.size, 0, none⟩) l.length cap') (by rw [q4, hry]; exact hr)]
      simp only [Oper.upon]
      refine fin w' (some w.heap.size) _ hb'.os hb'.tape hb'.output hb'.size (fun b hb2 _ => hb'.block b hb2) (fun b s hs => by rw [eC (hb'.block b (jM hs))]; exact hs) (fun g hg => by injection hg with hg; exact .inr aA) (fun C hext hw hdn hMn => ⟨.inr ⟨w.heap.size, news, vs', rfl, by rw [hw]; exact hblk, ?_, n2⟩, hdn, .inr (.inl ⟨w.heap.size, cap', hMn, by simp, by omega, hc2, fun _ => ⟨E, ?_⟩⟩)⟩)
      · rw [Ay]
        exact RepCs.mono hext.ok _ _ n1
      · unfold World.shape?
        rw [hw, hblk]
        simp only [A1, Aq]
        rw [hlen, hszt, hs']
  · obtain ⟨us, vs, hblk0, hus, hon⟩ := fI hh c1 ho hid q1
    obtain ⟨e0, hsh⟩ := q5 trivial
    have hcap : (us ++ vs).length = cp * ti.size := by
      have hsh' : w.shape? g = some (E, (us ++ vs).length) := by
        unfold World.shape?
        rw [hblk0]; simp
      skip
      rw [hsh'] at hsh
      injection hsh with hsh
      have := congrArg Prod.snd hsh
      simp only [Aq] at this
      rw [this, hszt, hs']
    obtain ⟨news, n1, n2, n3⟩ := cR9 (P := P) (ty := ty) (ok := bF B dom M H) hsl hstr hi hs1 hzv hzs hblk0 cG3 hcap q3 q4 l h63 (by rw [hby]; exact hb)
    rcases n3 with ⟨vs', hr, hlen, hroom⟩ | ⟨cap', vs', w', hr, hb', hblk, hlen, hc1, hc2⟩
    · rw [jX a.eval (v := .slice (some ⟨g, 0, none⟩) (m + l.length) cp) (by rw [q2, hry]; exact hr)]
      simp only [Oper.upon]
      have hnew := setRow_heap w g _ ((us ++ news) ++ vs').toArray E _ hblk0
      have hshp : ∀ b s, w.shape? b = some s -> (w.setRow g ((us ++ news) ++ vs').toArray).shape? b = some s := fun b s hs => by
        by_cases hbg : b = g
        · subst hbg
          rw [<- hs]
          unfold World.shape?
          rw [hnew, hblk0]
          simp only [A1, hlen]
        · rw [eC (setRow_other w g b _ hbg)]; exact hs
      refine fin _ (some g) _ rfl rfl rfl aU (fun b _ hb2 => setRow_other w g b _ (fun e => hb2 (by rw [e]; exact q1))) hshp (fun g' hg' => by injection hg' with hg'; subst hg'; exact .inl q1) (fun C hext hw hdn hMn => ⟨.inr ⟨g, us ++ news, vs', rfl, by rw [hw]; exact hnew, RepCs.mono hext.ok _ _ (hus.append n1), fun u hu => (Az.1 hu).elim (hon u) (n2 u)⟩, hdn, .inr (.inl ⟨g, cp, hMn, rfl, hroom, q4, fun _ => ⟨e0, ?_⟩⟩)⟩)
      rw [hw]
      exact hshp _ _ hsh
    · rw [jX a.eval (v := .slice (some ⟨w.heap.size, 0, none⟩) (m + l.length) cap') (w' := w') (by rw [q2, hry]; exact hr)]
      simp only [Oper.upon]
      refine fin w' (some w.heap.size) _ hb'.os hb'.tape hb'.output hb'.size (fun b hb2 _ => hb'.block b hb2) (fun b s hs => by rw [eC (hb'.block b (jM hs))]; exact hs) (fun g hg => by injection hg with hg; exact .inr aA) (fun C hext hw hdn hMn => ⟨.inr ⟨w.heap.size, us ++ news, vs', rfl, by rw [hw]; exact hblk, RepCs.mono hext.ok _ _ (hus.append n1), fun u hu => (Az.1 hu).elim (hon u) (n2 u)⟩, hdn, .inr (.inl ⟨w.heap.size, cap', hMn, rfl, hc1, hc2, fun _ => ⟨E, ?_⟩⟩)⟩)
      unfold World.shape?
      rw [hw, hblk]
      simp only [A1, Aq]
      rw [hlen, hszt, hs']
  · cases q2
end app
section
variable {P:Dv} {tab:Tab} {sz n i n0 m:Nat} {env env0:Env} {h h0 hr:aO} {dfs:cD} {K:AK} {ops:Dq} {l rest:Dp} {es:List Eat} {ids:Dr} {t:Nat} {d:Dt} {T S ty:Du} {x y:Operand} {pos:String} {aft:Ds} {gd:Dn} {e e' e2:TyE} {E m' k id:Nat} {cs:D1} {s:Dm}
theorem wV (tb : bQ P tab) (hg : guardA ops env ⟨d, .call ⟨.builtin .append, #[x, y], #[T, S]⟩, ty, pos, aft, gd⟩ true) (hd : iD d sz = true) (hT : aS tab T = some e) (hk : e.kind = .slice E) (hE : aS tab E = some e') (hs : Nat.beq e'.size 1 = true) (hz : Nat.beq e'.zero.length 1 = true) (hS : aS tab S = some e2) (hks : e2.kind = .str) (hx : evA env x = some (.own id 0 m' 1 true)) (ho : lk h id = some (.row E cs)) (hcl : cs.length = m' * 1) (hy : evA env y = some (.c (.v (.string ⟨s.toArray⟩)))) (hlk : s.length = k) (h63 : m' + k <= maxLen) (hb : (m' + k) * e'.bytes <= 140737488355328)
    (next : AWL P ops sz rest K (n + 1) (gJ env d (.own n 0 (m' + k) 1 true)) ((id, .dead) :: (n, .row E (cs ++ u8c s)) :: h) dfs) : AWL P ops sz (⟨d, .call ⟨.builtin .append, #[x, y], #[T, S]⟩, ty, pos, aft, gd⟩ :: rest) K n env h dfs :=
  lP (c := some (id, none)) (Δ := [(n, .row E (cs ++ u8c s))]) hg hd (BI n) trivial (bV0 tb hT hk hE hs hz hS hks hx ho hcl hy hlk h63 hb) (fun q h1 h2 => by
    obtain rfl : q = n := by omega
    rw [cA, Ak rfl]; rfl) (fun p hp => by rw [AX.1 hp]; exact Ah _) next
end
end Go.Av
namespace Go.Proofs.YtbgehdndimlgkaaGreat
open Go Go.RowKit Go.Av
set_option maxRecDepth 100000
section
def Idf.cs (i:Idf):D1:=[sv i.ns,iv i.v.k,iv i.v.n,sv i.v.t]
def LRq.cs (q:LRq):D1:=[iv q.k,sv q.who.ns,iv q.who.v.k,iv q.who.v.n,sv q.who.v.t,iv q.s,iv q.d,iv q.dl]
def LLk.cs (l:LLk):D1:=[sv l.a.ns,iv l.a.v.k,iv l.a.v.n,sv l.a.v.t,sv l.b.ns,iv l.b.v.k,iv l.b.v.n,sv l.b.v.t,iv l.s,bv l.rv]
def LHd.cs (h:LHd):D1:=[iv h.t,iv h.c,sv h.who.ns,iv h.who.v.k,iv h.who.v.n,sv h.who.v.t,iv h.s,iv h.fr,iv h.to]
attribute [local irreducible] Still Adds AWL AW Drw bX bY AC AWR cU Frz Go.Av.Src cQ Out InK ItK AsK RdK eP eI ACT ACA eW
attribute [local simp] bS bR bI
theorem ACA.eq {P:Dv} {f:FuncId} {E:Du} {size n m m':Nat} {c0 args c1 c1':D1} (h:ACA P f E size n c0 args c1 m) (h1:c1=c1') (h2:m=m'):ACA P f E size n c0 args c1' m':=h1▸h2▸h
section
variable {P:Dv} {tab:Tab} {ev:Evl} {h:aO} {d:Dt} {T ty:Du} {x:Operand} {pos:String} {aft:Ds} {gd:Dn}
theorem bI5 {e:TyE} (tb:bQ P tab) {s:Dm} {q:Nat} (hT:aS tab T=some e) (hk:e.kind = .str) (hq:s.length=q) (hx:ev x=some (.c (sv s))):Still P ⟨d,.call ⟨.builtin .len,#[x],#[T]⟩,ty,pos,aft,gd⟩ ev h (.c (iv q)):=by
 have:=aR1 (d:=d) (ty:=ty) (pos:=pos) (aft:=aft) (gd:=gd) (h:=h) tb hT hk hx
 rw [aR8,hq] at this
 exact this
end
section
variable (L:Dm) (m:Nat) (hL:L.length=m)
include L m hL
theorem uI (a:Int) (ha:aT a) (m':Nat) (hm':(L++bA a).length=m') (hb:m'<=1000000):ACA Tryz.prog 151 5 1 m (u8c L) [.sl 1 1 [iv a]] (u8c (L++bA a)) m':=by
 have:=yJ L m hL [a] 1 rfl (by simp;exact ha) m' qM hb
 simpa [dE] using this
theorem cM2 (a b:Int) (ha:aT a) (hb':aT b) (m':Nat) (hm':(L++(bA a++bA b)).length=m') (hb:m'<=1000000):ACA Tryz.prog 151 5 1 m (u8c L) [.sl 1 2 [iv a,iv b]] (u8c (L++(bA a++bA b))) m':=by
 have:=yJ L m hL [a,b] 2 rfl (by simp;exact ⟨ha,hb'⟩) m' qM hb
 simpa [dE] using this
theorem cM3 (a b c:Int) (ha:aT a) (hb':aT b) (hc:aT c) (m':Nat) (hm':(L++(bA a++(bA b++bA c))).length=m') (hb:m'<=1000000):ACA Tryz.prog 151 5 1 m (u8c L) [.sl 1 3 [iv a,iv b,iv c]] (u8c (L++(bA a++(bA b++bA c)))) m':=by
 have:=yJ L m hL [a,b,c] 3 rfl (by simp;exact ⟨ha,hb',hc⟩) m' qM hb
 simpa [dE] using this
theorem eJ4 (a b c d:Int) (ha:aT a) (hb':aT b) (hc:aT c) (hd:aT d) (m':Nat) (hm':(L++(bA a++(bA b++(bA c++bA d)))).length=m') (hb:m'<=1000000):ACA Tryz.prog 151 5 1 m (u8c L) [.sl 1 4 [iv a,iv b,iv c,iv d]] (u8c (L++(bA a++(bA b++(bA c++bA d))))) m':=by
 have:=yJ L m hL [a,b,c,d] 4 rfl (by simp;exact ⟨ha,hb',hc,hd⟩) m' qM hb
 simpa [dE] using this
theorem bR6 (s:Dm) (m':Nat) (hm':(L++mO s).length=m') (hb:m'<=1000000):ACA Tryz.prog 247 5 1 m (u8c L) [sv s] (u8c (L++mO s)) m':=by
 have hul:(u8c L).length=m:=by rw [aH,hL]
 obtain ⟨j,hj⟩:∃j,(L++bA s.length).length=j:=⟨_,rfl⟩
 obtain ⟨q,hq⟩:∃q,s.length=q:=⟨_,rfl⟩
 have hsz:(⟨s.toArray⟩:ByteArray).size=q:=by rw [aR8,hq]
 have hjq:j+q=m':=by
  rw [<- hm',<- hj,<- hq]
  simp only [mO,Aa]
  omega
 have h1:=uI L m hL (s.length:Int) ⟨by omega,by omega⟩ j hj aA
 have e:u8c (L++mO s)=u8c (L++bA s.length)++u8c s:=by rw [mO,<- Ao,bI]
 have hul2:(u8c (L++bA s.length)).length=j:=by rw [aH,hj]
 rw [hq] at h1 hul2 e
 refine dX aB (sz:=12) Tryz.func247 rfl (by rw [Tryz.ntmps247];rfl) (bO _) ?_
 repeat' (first|(refine aC ?_;intro K hK hX)|refine aK [0,1,4] ?_|((with_reducible refine aF ?_);refine dI (h1) aE rfl zby rfl rfl zln rfl zcv (bO _) ?_)|refine vB ?_|((with_reducible refine wG ?_);refine wV aB aE rfl rfl rfl rfl rfl rfl rfl rfl rfl rfl dQ8 rfl (by first|with_reducible assumption|omega) nA dQ9 ?_)|(((with_reducible refine bP ?_);refine xA ?_);(first|((with_reducible refine aV6 ?_);(first|refine aL (bI5 aB rfl rfl hq rfl) ?_))))|refine stA ?_|(refine aG hK hX ?_;clear hK hX K)|fail)
 rw [<- e,hjq]
 have hul3:(u8c (L++mO s)).length=m':=by rw [aH,hm']
 exact kF
theorem cY9 (v:Vl) (m':Nat) (hm':(L++lI (clV v)).length=m') (hb:m'<=1000000):ACA Tryz.prog 246 5 1 m (u8c L) [.agg v.c] (u8c (L++lI (clV v))) m':=by
 have hul:(u8c L).length=m:=by rw [aH,hL]
 have hul3:(u8c (L++lI (clV v))).length=m':=by rw [aH,hm']
 have hcl:=cC7 v
 have hok:=aJ5 v
 generalize clV v=u at hcl hok hm' hul3 ⊢
 obtain ⟨k,n,t⟩:=u
 obtain ⟨k0,n0,t0⟩:=v
 obtain ⟨X,hX⟩:∃X,L++bA k=X:=⟨_,rfl⟩
 obtain ⟨j,hj⟩:∃j,X.length=j:=⟨_,rfl⟩
 have hlk:j<=m':=by rw [<- hm',<- hj,<- hX];simp only [lI,Aa];omega
 have hulx:(u8c X).length=j:=by rw [aH,hj]
 rcases hok with ⟨h1,h2,h3⟩|⟨h1,h2,h2',h3⟩|⟨h1,h2,h3⟩<;>simp only at h1 h2 h3<;>subst h1
 ·have i1:=uI L m hL 0 ⟨by decide,by decide⟩ j kL aA
  have e:L++lI ⟨0,n,t⟩=X:=by rw [<- hX];simp [lI]
  rw [hX] at i1
  rw [e] at hm' hul3 ⊢
  have hjm:j=m':=by omega
  refine dX aB (sz:=28) Tryz.func246 rfl (by rw [Tryz.ntmps246];rfl) (bO _) ?_
  repeat' (first|(refine aC ?_;intro K hK hX)|refine aK [0,1,3,4,13] ?_|((with_reducible refine aF ?_);refine dI (i1) aE rfl zby rfl rfl zln rfl zcv (bO _) ?_)|refine vB ?_|(refine dK ?_;refine c0 hcl ?_)|refine stA ?_|(refine aG hK hX ?_;clear hK hX K)|fail)
  rw [hjm]
  exact kF
 ·have i1:=uI L m hL 1 ⟨by decide,by decide⟩ j kL aA
  rw [hX] at i1
  have e:L++lI ⟨1,n,t⟩=X++bA n:=by rw [<- hX];simp [lI]
  rw [e] at hm' hul3 ⊢
  have i2:=uI X j hj n ⟨by omega,by simp only at h2';omega⟩ m' hm' hb
  refine dX aB (sz:=28) Tryz.func246 rfl (by rw [Tryz.ntmps246];rfl) (bO _) ?_
  repeat' (first|(refine aC ?_;intro K hK hX)|refine dM1 ?_|(refine aG hK hX ?_;clear hK hX K)|fail)
  exact kF
 ·have i1:=uI L m hL 2 ⟨by decide,by decide⟩ j kL aA
  rw [hX] at i1
  have e:L++lI ⟨2,n,t⟩=X++mO t:=by rw [<- hX];simp [lI]
  rw [e] at hm' hul3 ⊢
  have i2:=bR6 X j hj t m' hm' hb
  refine dX aB (sz:=28) Tryz.func246 rfl (by rw [Tryz.ntmps246];rfl) (bO _) ?_
  repeat' (first|(refine aC ?_;intro K hK hX)|refine dM1 ?_|(refine aG hK hX ?_;clear hK hX K)|fail)
  exact kF
theorem uE (i:Idf) (m':Nat) (hm':(L++eA i).length=m') (hb:m'<=1000000):ACA Tryz.prog 223 5 1 m (u8c L) [.agg i.cs] (u8c (L++eA i)) m':=by
 have hul:(u8c L).length=m:=by rw [aH,hL]
 have hul3:(u8c (L++eA i)).length=m':=by rw [aH,hm']
 obtain ⟨X,hX⟩:∃X,L++mO i.ns=X:=⟨_,rfl⟩
 obtain ⟨j,hj⟩:∃j,X.length=j:=⟨_,rfl⟩
 have e:L++eA i=X++lI (clV i.v):=by rw [<- hX,eA,Ao]
 have hlk:j<=m':=by rw [<- hm',<- hj,e,Aa];omega
 have i1:=bR6 L m hL i.ns j kL aA
 rw [hX] at i1
 rw [e] at hm' hul3 ⊢
 have i2:=cY9 X j hj i.v m' hm' hb
 have hulx:(u8c X).length=j:=by rw [aH,hj]
 obtain ⟨ns,k,n,t⟩:=i
 dsimp only [Idf.cs,Vl.c] at *
 refine dX aB (sz:=12) Tryz.func223 rfl (by rw [Tryz.ntmps223];rfl) (bO _) ?_
 repeat' (first|(refine aC ?_;intro K hK hX)|refine fB [0,1,3,4] ?_|((with_reducible refine aF ?_);refine dI (i1) aE rfl zby rfl rfl zln rfl zcv (bO _) ?_)|((with_reducible refine bL ?_);refine gY (i1) aE rfl rfl zby rfl rfl zln rfl zcv (bO _) rfl ?_)|((with_reducible refine aF ?_);refine dI (i2) aE rfl zby rfl rfl zln rfl zcv (bO _) ?_)|((with_reducible refine bL ?_);refine gY (i2) aE rfl rfl zby rfl rfl zln rfl zcv (bO _) rfl ?_)|refine stA ?_|refine stE ?_|(refine aG hK hX ?_;clear hK hX K)|fail)
 exact kF
end
end
section
attribute [local irreducible] Still Adds AWL AW Drw bX bY AC AWR cU Frz Go.Av.Src cQ Out InK ItK AsK RdK eP eI ACT ACA eW
attribute [local simp] bS bR bI
theorem u8l {l:Dm} {n:Nat} (h:l.length=n):(u8c l).length=n:=by rw [aH,h]
section
variable (L:Dm) (m:Nat) (hL:L.length=m)
include L m hL
theorem bH3 (q:LRq) (h1:aT q.k) (h2:aT q.s) (h3:aT q.d) (h4:aT q.dl) (m':Nat) (hm':(L++kI q).length=m') (hb:m'<=1000000):ACA Tryz.prog 168 5 1 m (u8c L) [.agg q.cs] (u8c (L++kI q)) m':=by
 have hul:=u8l hL
 have hul3:=u8l hm'
 obtain ⟨X,hX⟩:∃X,L++bA q.k=X:=⟨_,rfl⟩
 obtain ⟨Y,hY⟩:∃Y,X++eA q.who=Y:=⟨_,rfl⟩
 obtain ⟨j,hj⟩:∃j,X.length=j:=⟨_,rfl⟩
 obtain ⟨w,hw⟩:∃w,Y.length=w:=⟨_,rfl⟩
 have e:L++kI q=Y++(bA q.s++(bA q.d++bA q.dl)):=by rw [<- hY,<- hX,kI];simp only [Ao]
 have hwm:w<=m':=by rw [<- hm',<- hw,e,Aa];omega
 have hjw:j<=w:=by rw [<- hw,<- hj,<- hY,Aa];omega
 have i1:=uI L m hL q.k h1 j kL aA
 have i2:=uE X j hj q.who w (by rw [hY,hw]) aA
 rw [hX] at i1
 rw [hY] at i2
 rw [e] at hm' hul3 ⊢
 have i3:=cM3 Y w hw q.s q.d q.dl h2 h3 h4 m' hm' hb
 have hulx:=u8l hj
 have huly:=u8l hw
 obtain ⟨k,⟨ns,vk,vn,vt⟩,s,d,dl⟩:=q
 dsimp only [Idf.cs,LRq.cs,Vl.c] at *
 refine dX aB (sz:=22) Tryz.func168 rfl (by rw [Tryz.ntmps168];rfl) (bO _) ?_
 repeat' (first|(refine aC ?_;intro K hK hX)|refine dK6 ?_|(refine aG hK hX ?_;clear hK hX K)|fail)
 exact kF
theorem dE4 (q:LHd) (h1:aT q.t) (h2:aT q.c) (h3:aT q.s) (h4:aT q.fr) (h5:aT q.to) (m':Nat) (hm':(L++kG q).length=m') (hb:m'<=1000000):ACA Tryz.prog 172 5 1 m (u8c L) [.agg q.cs] (u8c (L++kG q)) m':=by
 have hul:=u8l hL
 have hul3:=u8l hm'
 obtain ⟨X,hX⟩:∃X,L++(bA q.t++bA q.c)=X:=⟨_,rfl⟩
 obtain ⟨Y,hY⟩:∃Y,X++eA q.who=Y:=⟨_,rfl⟩
 obtain ⟨j,hj⟩:∃j,X.length=j:=⟨_,rfl⟩
 obtain ⟨w,hw⟩:∃w,Y.length=w:=⟨_,rfl⟩
 have e:L++kG q=Y++(bA q.s++(bA q.fr++bA q.to)):=by rw [<- hY,<- hX,kG];simp only [Ao]
 have hwm:w<=m':=by rw [<- hm',<- hw,e,Aa];omega
 have hjw:j<=w:=by rw [<- hw,<- hj,<- hY,Aa];omega
 have i1:=cM2 L m hL q.t q.c h1 h2 j kL aA
 have i2:=uE X j hj q.who w (by rw [hY,hw]) aA
 rw [hX] at i1
 rw [hY] at i2
 rw [e] at hm' hul3 ⊢
 have i3:=cM3 Y w hw q.s q.fr q.to h3 h4 h5 m' hm' hb
 have hulx:=u8l hj
 have huly:=u8l hw
 obtain ⟨t,c,⟨ns,vk,vn,vt⟩,s,fr,to⟩:=q
 dsimp only [Idf.cs,LHd.cs,Vl.c] at *
 refine dX aB (sz:=24) Tryz.func172 rfl (by rw [Tryz.ntmps172];rfl) (bO _) ?_
 repeat' (first|(refine aC ?_;intro K hK hX)|refine dK6 ?_|(refine aG hK hX ?_;clear hK hX K)|fail)
 exact kF
theorem dF2 (q:LLk) (h1:aT q.s) (m':Nat) (hm':(L++kH q).length=m') (hb:m'<=1000000):ACA Tryz.prog 171 5 1 m (u8c L) [.agg q.cs] (u8c (L++kH q)) m':=by
 have hul:=u8l hL
 have hul3:=u8l hm'
 obtain ⟨X,hX⟩:∃X,L++eA q.a=X:=⟨_,rfl⟩
 obtain ⟨Y,hY⟩:∃Y,X++eA q.b=Y:=⟨_,rfl⟩
 obtain ⟨j,hj⟩:∃j,X.length=j:=⟨_,rfl⟩
 obtain ⟨w,hw⟩:∃w,Y.length=w:=⟨_,rfl⟩
 have e:L++kH q=Y++(bA q.s++bA (if q.rv then 1 else 0)):=by rw [<- hY,<- hX,kH];simp only [Ao]
 have hwm:w<=m':=by rw [<- hm',<- hw,e,Aa];omega
 have hjw:j<=w:=by rw [<- hw,<- hj,<- hY,Aa];omega
 have i1:=uE L m hL q.a j kL aA
 have i2:=uE X j hj q.b w (by rw [hY,hw]) aA
 rw [hX] at i1
 rw [hY] at i2
 rw [e] at hm' hul3 ⊢
 have i3:=cM2 Y w hw q.s (if q.rv then 1 else 0) h1 (by split<;>exact ⟨by decide,by decide⟩) m' hm' hb
 have hulx:=u8l hj
 have huly:=u8l hw
 obtain ⟨⟨ns,vk,vn,vt⟩,⟨ns2,vk2,vn2,vt2⟩,s,rv⟩:=q
 cases rv<;>simp only [AB,AQ,Bu] at i3 hul3 hm' ⊢
 ·(try dsimp only [Idf.cs,LLk.cs,Vl.c] at *)
  refine dX aB (sz:=20) Tryz.func171 rfl (by rw [Tryz.ntmps171];rfl) (bO _) ?_
  repeat' (first|(refine aC ?_;intro K hK hX)|refine dK5 ?_|(refine aG hK hX ?_;clear hK hX K)|fail)
  exact kF
 ·(try dsimp only [Idf.cs,LLk.cs,Vl.c] at *)
  refine dX aB (sz:=20) Tryz.func171 rfl (by rw [Tryz.ntmps171];rfl) (bO _) ?_
  repeat' (first|(refine aC ?_;intro K hK hX)|refine dK5 ?_|(refine aG hK hX ?_;clear hK hX K)|fail)
  exact kF
end
end
end Go.Proofs.YtbgehdndimlgkaaGreat
