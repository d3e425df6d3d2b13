/- Lemmas for laws of the ledger. -/
import Derived.Lib.AppendStr
import Derived.Test.YtbgehdndimlgkaaGreatV8
set_option linter.all false
set_option maxHeartbeats 16000000
namespace Go.Proofs.YtbgehdndimlgkaaGreat
open Go Go.RowKit Go.Av
set_option maxRecDepth 100000
theorem bU8 {v:Vl} (h:okP v):okV v=true:=AU h
theorem tN {v:Vl} (h:¬okP v):okV v=false:=Be h
attribute [local irreducible] Still Adds AWL AW Drw bN bP AC AWR cM Frz Go.Av.Src dB Out InK ItK AsK RdK
theorem cB9 (v:Vl):qC' 258 [.agg v.c] (.c (bv (okV v))) [] 0:=by
 obtain ⟨k,n,t⟩:=v
 show AC _ _ [.agg [iv k,iv n,sv t]] _ _ _
 have hsz:=aT1 t
 by_cases k0:k=0
 ·subst k0
  by_cases n0:n=0
  ·by_cases t0:t=[]
   ·have hb:=bU8 (v:=⟨0,n,t⟩) (.inl ⟨rfl,n0,t0⟩)
    rw [hb]
    refine aJ aB (sz:=41) Tryz.func258 rfl nV ?_
    repeat' (first|(refine aC ?_;intro K hK hX)|refine vD ?_|(refine aH hK hX ?_;clear hK hX K)|fail)
    exact cJ
   ·have hb:=tN (v:=⟨0,n,t⟩) (by unfold okP;simp [t0])
    rw [hb]
    refine aJ aB (sz:=41) Tryz.func258 rfl nV ?_
    repeat' (first|(refine aC ?_;intro K hK hX)|refine vD ?_|(refine aH hK hX ?_;clear hK hX K)|fail)
    exact cJ
  ·have hb:=tN (v:=⟨0,n,t⟩) (by unfold okP;simp [n0])
   have t0:True:=trivial
   rw [hb]
   refine aJ aB (sz:=41) Tryz.func258 rfl nV ?_
   repeat' (first|(refine aC ?_;intro K hK hX)|refine vD ?_|(refine aH hK hX ?_;clear hK hX K)|fail)
   exact cJ
 ·by_cases k1:k=1
  ·subst k1
   have t9:True:=trivial
   by_cases n1 : -4294967296<=n
   ·by_cases n2:n<=4294967296
    ·by_cases t0:t=[]
     ·have hb:=bU8 (v:=⟨1,n,t⟩) (.inr (.inl ⟨rfl,n1,n2,t0⟩))
      rw [hb]
      refine aJ aB (sz:=41) Tryz.func258 rfl nV ?_
      repeat' (first|(refine aC ?_;intro K hK hX)|refine vD ?_|(refine aH hK hX ?_;clear hK hX K)|fail)
      exact cJ
     ·have hb:=tN (v:=⟨1,n,t⟩) (by unfold okP;simp [t0])
      rw [hb]
      refine aJ aB (sz:=41) Tryz.func258 rfl nV ?_
      repeat' (first|(refine aC ?_;intro K hK hX)|refine vD ?_|(refine aH hK hX ?_;clear hK hX K)|fail)
      exact cJ
    ·have hb:=tN (v:=⟨1,n,t⟩) (by unfold okP;simp [n2])
     have t0:True:=trivial
     rw [hb]
     refine aJ aB (sz:=41) Tryz.func258 rfl nV ?_
     repeat' (first|(refine aC ?_;intro K hK hX)|refine vD ?_|(refine aH hK hX ?_;clear hK hX K)|fail)
     exact cJ
   ·have hb:=tN (v:=⟨1,n,t⟩) (by unfold okP;simp [n1])
    have t0:True:=trivial
    rw [hb]
    refine aJ aB (sz:=41) Tryz.func258 rfl nV ?_
    repeat' (first|(refine aC ?_;intro K hK hX)|refine vD ?_|(refine aH hK hX ?_;clear hK hX K)|fail)
    exact cJ
  ·by_cases k2:k=2
   ·subst k2
    have t0:True:=trivial
    by_cases n0:n=0
    ·by_cases t1:t.length<=32
     ·have hb:=bU8 (v:=⟨2,n,t⟩) (.inr (.inr ⟨rfl,n0,t1⟩))
      rw [hb]
      refine aJ aB (sz:=41) Tryz.func258 rfl nV ?_
      repeat' (first|(refine aC ?_;intro K hK hX)|refine vD ?_|(refine aH hK hX ?_;clear hK hX K)|fail)
      exact cJ
     ·have hb:=tN (v:=⟨2,n,t⟩) (by unfold okP;simp;omega)
      rw [hb]
      refine aJ aB (sz:=41) Tryz.func258 rfl nV ?_
      repeat' (first|(refine aC ?_;intro K hK hX)|refine vD ?_|(refine aH hK hX ?_;clear hK hX K)|fail)
      exact cJ
    ·have hb:=tN (v:=⟨2,n,t⟩) (by unfold okP;simp [n0])
     rw [hb]
     refine aJ aB (sz:=41) Tryz.func258 rfl nV ?_
     repeat' (first|(refine aC ?_;intro K hK hX)|refine vD ?_|(refine aH hK hX ?_;clear hK hX K)|fail)
     exact cJ
   ·have hb:=tN (v:=⟨k,n,t⟩) (by unfold okP;simp [k0,k1,k2])
    have t0:True:=trivial
    rw [hb]
    refine aJ aB (sz:=41) Tryz.func258 rfl nV ?_
    repeat' (first|(refine aC ?_;intro K hK hX)|refine vD ?_|(refine aH hK hX ?_;clear hK hX K)|fail)
    exact cJ
theorem bL5 (v:Vl):qC' 256 [.agg v.c] (.c (.agg (clV v).c)) [] 0:=by
 have hv:=cB9 v
 unfold clV
 cases hb:okV v with
 | true =>
  rw [hb] at hv
  obtain ⟨k,n,t⟩:=v
  refine aJ aB (sz:=7) Tryz.func256 rfl (by rw [Tryz.ntmps256];rfl) ?_
  repeat' (first|(refine aC ?_;intro K hK hX)|refine aM [0,1,2] ?_|(refine eS ?_;refine c0 hv ?_)|refine stA ?_|(refine aH hK hX ?_;clear hK hX K)|fail)
  exact tB
 | false =>
  rw [hb] at hv
  obtain ⟨k,n,t⟩:=v
  refine aJ aB (sz:=7) Tryz.func256 rfl (by rw [Tryz.ntmps256];rfl) ?_
  repeat' (first|(refine aC ?_;intro K hK hX)|refine aM [0,1,2] ?_|(refine eS ?_;refine c0 hv ?_)|refine stA ?_|(refine aH hK hX ?_;clear hK hX K)|fail)
  exact tB
end Go.Proofs.YtbgehdndimlgkaaGreat
namespace Go.Av
open Go Go.RowKit Go.Lib
def uW (l:CZ):Db:=l.map fun b=>Value.int .u8 b.toNat
theorem uY (ok:Nat->Prop) (w:World):∀l:CZ,RepCs ok w (u8c l) (uW l)
 | []=>rfl
 | b::l=>⟨_,_,rfl,rfl,uY ok w l⟩
theorem uX (l:CZ):∀x∈uW l,x.oneCell'=true:=fun x hx=>by
 obtain ⟨b,_,rfl⟩:=By.1 hx
 rfl
theorem xN (l:CZ):strCells ⟨l.toArray⟩=uW l:=by simp [strCells,uW]
theorem aU5 (l:CZ):(⟨l.toArray⟩:ByteArray).size=l.length:=by simp [ByteArray.size]
section app
variable {P:Di} {tab:Tab}
section
variable {w : World} {T S ty E : Dh} {ti : TypeInfo} {z : Value} (ht : P.underlying T = some (.slice E)) (hS : P.underlying S = some .string) (hi : P.info? E = some ti) (hs1 : ti.size = 1) (hz : ti.zero = some z) (hzs : z.cells.size = ti.size)
include w T S ty E ti z ht hS hi hs1 hz hzs
theorem bX9 {g n cap : Nat} {us vs : Db} (hg : w.heap[g]? = some (.cells (us ++ vs).toArray E (0, 0))) (hul : us.length = n * ti.size) (hcap : (us ++ vs).length = cap * ti.size) (hnc : n <= cap) (hcm : cap <= maxLen)
    {ok : Nat -> Prop} (l : CZ) (h63 : n + l.length <= maxLen) (hb : (n + l.length) * ti.bytes <= 140737488355328) :
    ∃ news, RepCs ok w (u8c l) news /\ (∀ x ∈ news, x.oneCell' = true) /\
      ((∃ vs', (Builtin.append_ #[T, S] ty #[.slice (some ⟨g, 0, none⟩) n cap, .string ⟨l.toArray⟩]).run P w = .ok (.slice (some ⟨g, 0, none⟩) (n + l.length) cap) (w.setRow g ((us ++ news) ++ vs').toArray) /\ ((us ++ news) ++ vs').length = (us ++ vs).length /\ n + l.length <= cap) \/
       (∃ cap' vs' w', (Builtin.append_ #[T, S] ty #[.slice (some ⟨g, 0, none⟩) n cap, .string ⟨l.toArray⟩]).run P w = .ok (.slice (some ⟨w.heap.size, 0, none⟩) (n + l.length) cap') w' /\ Below w.heap.size w w' /\ w'.heap[w.heap.size]? = some (.cells ((us ++ news) ++ vs').toArray E (0, 0)) /\ ((us ++ news) ++ vs').length = cap' * ti.size /\ n + l.length <= cap' /\ cap' <= maxLen)) := by
  refine ⟨uW l, uY ok w l, uX l, ?_⟩
  have hnl : (uW l).length = l.length := Bb _
  have hsz := aU5 l
  rw [hs1, A4] at hul hcap
  by_cases hroom : n + l.length <= cap
  · have hr := run_append_room_string (P := P) w T S ty E ti ht hS hi hs1 g n cap _ hg ⟨l.toArray⟩ (by rw [hsz]; exact hroom) (by rw [hsz, Ay, hcap]; exact hroom)
    rw [hsz, xN] at hr
    refine .inl ⟨vs.drop l.length, ?_, ?_, hroom⟩
    · rw [hr]
      congr 3
      simp only [BX]
      rw [A8 aA, Ah aA, BG, AM aA]
      simp only [At, hul]
      congr 2
      omega
    · rw [Aa] at hcap
      simp only [Aa, AG, hnl]; omega
  · have holds : ∀ j x, us[j]? = some x -> w.cell? ((⟨g, 0, none⟩ : Addr).add j) = some x := fun j x hx => by rw [fX, Al]; exact gY hg hx
    have hr := run_append_grow_string (P := P) w T S ty E ti z ht hS hi hz ⟨g, 0, none⟩ n cap us (by rw [hs1, A4]; exact hul) holds ⟨l.toArray⟩ (by rw [hsz]; omega) (by rw [hsz]; simp only [maxLen] at h63; omega) (by rw [hsz]; exact growslice_fits aA hb)
    rw [hsz, xN] at hr
    have hge := grownCap_ge w (n + l.length) cap E
    have hle := grownCap_le_maxLen w (n + l.length) cap E h63
    refine .inr ⟨_, (Builtin.zeroCells z.cells (grownCap w (n + l.length) cap E - (n + l.length))).toList, _, hr, ?_, ?_, ?_, hge, hle⟩
    · exact cF5
    · rw [show w.heap.size = w.drew.heap.size from rfl, heap_alloc_new]
      congr 2
      apply BF.1
      simp
    · simp only [Aa, A6, size_zeroCells, hzs, hnl, hul, hs1, A4]
      omega
theorem bH8
    {ok : Nat -> Prop} (l : CZ) (h63 : l.length <= maxLen) (hb : l.length * ti.bytes <= 140737488355328) :
    ∃ news, RepCs ok w (u8c l) news /\ (∀ x ∈ news, x.oneCell' = true) /\
      ((l.length = 0 /\ (Builtin.append_ #[T, S] ty #[.slice none 0 0, .string ⟨l.toArray⟩]).run P w = .ok (.slice none 0 0) w) \/
       (∃ cap' vs' w', (Builtin.append_ #[T, S] ty #[.slice none 0 0, .string ⟨l.toArray⟩]).run P w = .ok (.slice (some ⟨w.heap.size, 0, none⟩) l.length cap') w' /\ Below w.heap.size w w' /\ w'.heap[w.heap.size]? = some (.cells (news ++ vs').toArray E (0, 0)) /\ (news ++ vs').length = cap' * ti.size /\ l.length <= cap' /\ cap' <= maxLen)) := by
  refine ⟨uW l, uY ok w l, uX l, ?_⟩
  have hnl : (uW l).length = l.length := Bb _
  have hsz := aU5 l
  by_cases h0 : l.length = 0
  · refine .inl ⟨h0, ?_⟩
    rw [h0] at hsz
    have hl : l = [] := Ai h0
    subst hl
    simp [Builtin.append_, run_underlying ht, run_underlying hS, sizeOf, typeInfo, hi, Builtin.lenOf, Builtin.firstCells, ByteArray.size]
  · have hr := run_append_nil_string (P := P) w T S ty E ti z ht hS hi hz ⟨l.toArray⟩ (by rw [hsz]; omega) (by rw [hsz]; simp only [maxLen] at h63; omega) (by rw [hsz]; omega)
    rw [hsz] at hr
    have hge := grownCap_ge w l.length 0 E
    have hle := grownCap_le_maxLen w l.length 0 E h63
    refine .inr ⟨_, (Builtin.zeroCells z.cells (grownCap w l.length 0 E - l.length)).toList, _, hr, ?_, ?_, ?_, hge, hle⟩
    · exact cF5
    · rw [show w.heap.size = w.drew.heap.size from rfl, heap_alloc_new]
      congr 2
      apply BF.1
      simp [uW]
    · simp only [Aa, A6, size_zeroCells, hzs, hnl, hs1, A4]
      omega
end
variable {ev:Evl} {h:aL} {d:Dg} {T S ty:Dh} {x y:Operand} {pos:String} {aft:Df} {gd:Da} {i:Nat}
theorem bF1 (tb : bF P tab) {e e' : TyE} {E m k id : Nat} {cs : Dp} {l : CZ} {es : TyE} (hT : aP tab T = some e) (hk : e.kind = .slice E) (hE : aP tab E = some e') (hs : Nat.beq e'.size 1 = true) (hz : Nat.beq e'.zero.length 1 = true) (hS : aP tab S = some es) (hks : es.kind = .str)
    (hx : ev x = some (.own id 0 m 1 true)) (ho : lk h id = some (.row E cs)) (hcl : cs.length = m * 1) (hy : ev y = some (.c (.v (.string ⟨l.toArray⟩)))) (hlk : l.length = k) (h63 : m + k <= maxLen) (hb : (m + k) * e'.bytes <= 140737488355328) :
    bP P ⟨d, .call ⟨.builtin .append, #[x, y], #[T, S]⟩, ty, pos, aft, gd⟩ ev h (.own i 0 (m + k) 1 true) [(i, .row E (cs ++ u8c l))] (some (id, none)) i (i + 1) := by
  intro B dom M H w a K' Q hh hn c1 he hK'
  have hrx := he x _ hx
  have hry := he y _ hy
  have hid : dom id := by simp only [Rep] at hrx; exact hrx.1
  have hi0 := hn i (Ae _) (Bj _)
  have hidi : id ≠ i := fun e => hi0.1 (e ▸ hid)
  have hoH := hh id _ ho hid
  simp only [Rep, RepC] at hry
  obtain ⟨ti, zv, hi, hzv, hszt, hby, hzc⟩ := jJ (aK tb hE)
  have hs' := Ac hs
  have hz' := Ac hz
  have hzs : zv.cells.size = ti.size := by rw [<- A6, hzc, hz', hszt, hs']
  have hs1 : ti.size = 1 := hszt.trans hs'
  have hstr := (aK tb hS).str hks
  subst hlk
  have hsl := (aK tb hT).slice hk
  have fin : ∀ (w' : World) (gq : Dn) (u : Value), w'.os = w.os -> w'.tape = w.tape -> w'.output = w.output -> w.heap.size <= w'.heap.size -> (∀ b, b < w.heap.size -> M id ≠ some b -> w'.heap[b]? = w.heap[b]?) -> (∀ b s, w.shape? b = some s -> w'.shape? b = some s) ->
      (∀ g, gq = some g -> M id = some g \/ w.heap.size <= g) ->
      (∀ C, Ext ⟨dom, M, aU B dom M H, w⟩ C -> C.w = w' -> C.dom i -> C.M i = gq -> ObjRep C gq (.row E (cs ++ u8c l)) /\ Rep C (.own i 0 (m + l.length) 1 true) u) ->
      K' (a.put d u) w' := by
    intro w' gq u e1 e2 e3 e4 e5 e6 e7 e8
    let M' : Nat -> Dn := fun q => if q = i then gq else M q
    have hMn : M' i = gq := by simp [M']
    have hMo : ∀ q, dom q -> M' q = M q := fun q hq => by
      have : q ≠ i := fun e => hi0.1 (e ▸ hq)
      simp [M', this]
    have hln : H i = some (.row E (cs ++ u8c l)) := by rw [hi0.2, bJ, Aj rfl]; rfl
    have hobj : ∀ q o, ad dom i (i + 1) q -> ov (some (id, none)) H q = some o -> (q = i /\ o = .row E (cs ++ u8c l)) \/ (dom q /\ q ≠ id /\ H q = some o) := fun q o hq hH => by
      by_cases hqi : q = id
      · subst hqi; rw [wR] at hH; cases hH
      · rw [kE (fun x e => hqi (congrArg Prod.fst (Option.some.inj e)).symm)] at hH
        rcases hq with hq | ⟨hq1, hq2⟩
        · exact .inr ⟨hq, hqi, hH⟩
        · obtain rfl : q = i := by omega
          rw [hln] at hH; injection hH with hH; exact .inl ⟨rfl, hH.symm⟩
    have hext : Ext ⟨dom, M, aU B dom M H, w⟩ ⟨ad dom i (i + 1), M', aU B (ad dom i (i + 1)) M' (ov (some (id, none)) H), w'⟩ := by
      refine ⟨fun q hq => ⟨.inl hq, hMo q hq⟩, fun b hb1 hb2 => ⟨⟨hb1.1, fun q o hq hH he => ?_⟩, A0 hb2 e4, e5 b hb2 (fun he => hb1.2 id _ hid hoH he)⟩, shp fun b s hbs => e6 b s hbs⟩
      rcases hobj q o hq hH with ⟨rfl, rfl⟩ | ⟨h1, h3, h4⟩
      · rw [hMn] at he
        rcases e7 b he with h1 | h1
        · exact hb1.2 id _ hid hoH h1
        · simp only at hb2; omega
      · rw [hMo q h1] at he; exact hb1.2 q o h1 h4 he
    have hdi : ad dom i (i + 1) i := .inr ⟨Ae _, Bj _⟩
    have e8' := e8 _ hext rfl hdi hMn
    have hcc : ConcH B (ad dom i (i + 1)) M' (ov (some (id, none)) H) w' := by
      refine ⟨⟨e1.trans c1.fr.os, e2.trans c1.fr.tape, e3.trans c1.fr.output, Ao c1.fr.size e4, fun b h1 h3 => ?_⟩, fun q o hq hH => ?_, fun q q' o o' g h1 h3 h4 h5 h6 h7 => ?_, fun q o g hq hH he => ?_⟩
      · rw [e5 b (A0 h1 c1.fr.size) (fun he => ?_)]
        · exact c1.fr.block b h1 h3
        · rcases c1.lo id _ b hid hoH he with h4 | h4
          · omega
          · exact h3 h4
      · rcases hobj q o hq hH with ⟨rfl, rfl⟩ | ⟨h1, h3, h4⟩
        · rw [hMn]; exact e8'.1
        · rw [hMo q h1]
          have h5 := c1.obj q o h1 h4
          exact h5.ext hext (fun b hb => e5 b (h5.lt b hb) (fun he => h3 (c1.inj q id o _ b h1 hid h4 hoH hb he)))
      · rcases hobj q o h1 h4 with ⟨rfl, rfl⟩ | ⟨p1, p2, p3⟩ <;> rcases hobj q' o' h3 h5 with ⟨rfl, rfl⟩ | ⟨r1, r2, r3⟩
        · rfl
        · rw [hMn] at h6; rw [hMo q' r1] at h7
          rcases e7 g h6 with t1 | t1
          · exact absurd (c1.inj q' id o' _ g r1 hid r3 hoH h7 t1) r2
          · have := (c1.obj q' o' r1 r3).lt g h7; simp only at this; omega
        · rw [hMn] at h7; rw [hMo q p1] at h6
          rcases e7 g h7 with t1 | t1
          · exact absurd (c1.inj q id o _ g p1 hid p3 hoH h6 t1) p2
          · have := (c1.obj q o p1 p3).lt g h6; simp only at this; omega
        · rw [hMo q p1] at h6; rw [hMo q' r1] at h7
          exact c1.inj q q' o o' g p1 r1 p3 r3 h6 h7
      · rcases hobj q o hq hH with ⟨rfl, rfl⟩ | ⟨h1, h3, h4⟩
        · rw [hMn] at he
          rcases e7 g he with t1 | t1
          · exact c1.lo id _ g hid hoH t1
          · have := c1.fr.size; exact .inl aA
        · rw [hMo q h1] at he; exact c1.lo q o g h1 h4 he
    exact hK' u w' M' hext hcc e8'.2
  unfold Oper.wp
  simp only [Rep] at hrx
  rcases hrx.2 with ⟨q1, q2, q3, q4⟩ | ⟨g, cp, q1, q2, q3, q4, q5⟩ | ⟨_, q2, _⟩
  · subst q1
    obtain rfl : cs = [] := Ai (by simpa using hcl)
    obtain ⟨news, n1, n2, n3⟩ := bH8 (P := P) (ty := ty) (ok := aU B dom M H) hsl hstr hi hs1 hzv hzs l (by simpa using h63) (by rw [hby]; simpa using hb)
    rcases n3 with ⟨r1, hr⟩ | ⟨cap', vs', w', hr, hb', hblk, hlen, hc1, hc2⟩
    · have hys : u8c l = [] := by rw [Ai r1]; rfl
      rw [iS a.eval (w' := w) (v := .slice none 0 0) (by rw [q4, hry]; exact hr)]
      simp only [Oper.upon]
      refine fin w none _ rfl rfl rfl (Ae _) (fun _ _ _ => rfl) (fun _ _ h => h) aO (fun C hext hw hdn hMn => ⟨.inl ⟨rfl, by rw [hys]; rfl⟩, hdn, .inl ⟨by omega, rfl, hMn, rfl⟩⟩)
    · rw [iS a.eval (w' := w') (v := .slice (some ⟨w.heap.size, 0, none⟩) l.length cap') (by rw [q4, hry]; exact hr)]
      simp only [Oper.upon]
      refine fin w' (some w.heap.size) _ hb'.os hb'.tape hb'.output hb'.size (fun b hb2 _ => hb'.block b hb2) (fun b s hs => by rw [eC (hb'.block b (jW hs))]; exact hs) (fun g hg => by injection hg with hg; exact .inr aA) (fun C hext hw hdn hMn => ⟨.inr ⟨w.heap.size, news, vs', rfl, by rw [hw]; exact hblk, ?_, n2⟩, hdn, .inr (.inl ⟨w.heap.size, cap', hMn, by simp, by omega, hc2, fun _ => ⟨E, ?_⟩⟩)⟩)
      · rw [At]
        exact RepCs.mono hext.ok _ _ n1
      · unfold World.shape?
        rw [hw, hblk]
        simp only [Ay, Al]
        rw [hlen, hszt, hs']
  · obtain ⟨us, vs, hblk0, hus, hon⟩ := eQ hh c1 ho hid q1
    obtain ⟨e0, hsh⟩ := q5 trivial
    have hcap : (us ++ vs).length = cp * ti.size := by
      have hsh' : w.shape? g = some (E, (us ++ vs).length) := by
        unfold World.shape?
        rw [hblk0]; simp
      skip
      rw [hsh'] at hsh
      injection hsh with hsh
      have := congrArg Prod.snd hsh
      simp only [Al] at this
      rw [this, hszt, hs']
    obtain ⟨news, n1, n2, n3⟩ := bX9 (P := P) (ty := ty) (ok := aU B dom M H) hsl hstr hi hs1 hzv hzs hblk0 (by rw [hus.length, hcl, hszt, hs']) hcap q3 q4 l h63 (by rw [hby]; exact hb)
    rcases n3 with ⟨vs', hr, hlen, hroom⟩ | ⟨cap', vs', w', hr, hb', hblk, hlen, hc1, hc2⟩
    · rw [iS a.eval (v := .slice (some ⟨g, 0, none⟩) (m + l.length) cp) (by rw [q2, hry]; exact hr)]
      simp only [Oper.upon]
      have hnew := setRow_heap w g _ ((us ++ news) ++ vs').toArray E _ hblk0
      have hshp : ∀ b s, w.shape? b = some s -> (w.setRow g ((us ++ news) ++ vs').toArray).shape? b = some s := fun b s hs => by
        by_cases hbg : b = g
        · subst hbg
          rw [<- hs]
          unfold World.shape?
          rw [hnew, hblk0]
          simp only [Ay, hlen]
        · rw [eC (setRow_other w g b _ hbg)]; exact hs
      refine fin _ (some g) _ rfl rfl rfl aO (fun b _ hb2 => setRow_other w g b _ (fun e => hb2 (by rw [e]; exact q1))) hshp (fun g' hg' => by injection hg' with hg'; subst hg'; exact .inl q1) (fun C hext hw hdn hMn => ⟨.inr ⟨g, us ++ news, vs', rfl, by rw [hw]; exact hnew, RepCs.mono hext.ok _ _ (hus.append n1), fun u hu => (Az.1 hu).elim (hon u) (n2 u)⟩, hdn, .inr (.inl ⟨g, cp, hMn, rfl, hroom, q4, fun _ => ⟨e0, ?_⟩⟩)⟩)
      rw [hw]
      exact hshp _ _ hsh
    · rw [iS a.eval (v := .slice (some ⟨w.heap.size, 0, none⟩) (m + l.length) cap') (w' := w') (by rw [q2, hry]; exact hr)]
      simp only [Oper.upon]
      refine fin w' (some w.heap.size) _ hb'.os hb'.tape hb'.output hb'.size (fun b hb2 _ => hb'.block b hb2) (fun b s hs => by rw [eC (hb'.block b (jW hs))]; exact hs) (fun g hg => by injection hg with hg; exact .inr aA) (fun C hext hw hdn hMn => ⟨.inr ⟨w.heap.size, us ++ news, vs', rfl, by rw [hw]; exact hblk, RepCs.mono hext.ok _ _ (hus.append n1), fun u hu => (Az.1 hu).elim (hon u) (n2 u)⟩, hdn, .inr (.inl ⟨w.heap.size, cap', hMn, rfl, hc1, hc2, fun _ => ⟨E, ?_⟩⟩)⟩)
      unfold World.shape?
      rw [hw, hblk]
      simp only [Ay, Al]
      rw [hlen, hszt, hs']
  · cases q2
end app
section
variable {P:Di} {tab:Tab} {sz n i n0 m:Nat} {env env0:Env} {h h0 hr:aL} {dfs:bM} {K:AK} {ops:Dd} {l rest:Dc} {es:List Eat} {ids:De} {t:Nat} {d:Dg} {T S ty:Dh} {x y:Operand} {pos:String} {aft:Df} {gd:Da} {e e' e2:TyE} {E m' k id:Nat} {cs:Dp} {s:CZ}
theorem aF2 (tb : bF P tab) (hg : guardA ops env ⟨d, .call ⟨.builtin .append, #[x, y], #[T, S]⟩, ty, pos, aft, gd⟩ true) (hd : fH d sz = true) (hT : aP tab T = some e) (hk : e.kind = .slice E) (hE : aP tab E = some e') (hs : Nat.beq e'.size 1 = true) (hz : Nat.beq e'.zero.length 1 = true) (hS : aP tab S = some e2) (hks : e2.kind = .str) (hx : evA env x = some (.own id 0 m' 1 true)) (ho : lk h id = some (.row E cs)) (hcl : cs.length = m' * 1) (hy : evA env y = some (.c (.v (.string ⟨s.toArray⟩)))) (hlk : s.length = k) (h63 : m' + k <= maxLen) (hb : (m' + k) * e'.bytes <= 140737488355328)
    (next : AWL P ops sz rest K (n + 1) (fA env d (.own n 0 (m' + k) 1 true)) ((id, .dead) :: (n, .row E (cs ++ u8c s)) :: h) dfs) : AWL P ops sz (⟨d, .call ⟨.builtin .append, #[x, y], #[T, S]⟩, ty, pos, aft, gd⟩ :: rest) K n env h dfs :=
  jK (c := some (id, none)) (Δ := [(n, .row E (cs ++ u8c s))]) hg hd (BB n) trivial (bF1 tb hT hk hE hs hz hS hks hx ho hcl hy hlk h63 hb) (fun q h1 h2 => by
    obtain rfl : q = n := by omega
    rw [bJ, Aj rfl]; rfl) (fun p hp => by rw [AP.1 hp]; exact Ae _) next
end
end Go.Av
namespace Go.Proofs.YtbgehdndimlgkaaGreat
open Go Go.RowKit Go.Av
set_option maxRecDepth 100000
section
def Idf.cs (i:Idf):Dp:=[sv i.ns,iv i.v.k,iv i.v.n,sv i.v.t]
def LRq.cs (q:LRq):Dp:=[iv q.k,sv q.who.ns,iv q.who.v.k,iv q.who.v.n,sv q.who.v.t,iv q.s,iv q.d,iv q.dl]
def LLk.cs (l:LLk):Dp:=[sv l.a.ns,iv l.a.v.k,iv l.a.v.n,sv l.a.v.t,sv l.b.ns,iv l.b.v.k,iv l.b.v.n,sv l.b.v.t,iv l.s,bv l.rv]
def LHd.cs (h:LHd):Dp:=[iv h.t,iv h.c,sv h.who.ns,iv h.who.v.k,iv h.who.v.n,sv h.who.v.t,iv h.s,iv h.fr,iv h.to]
attribute [local irreducible] Still Adds AWL AW Drw bN bP AC AWR cM Frz Go.Av.Src dB Out InK ItK AsK RdK eA dZ ACT ACA eL
attribute [local simp] bL bK bZ
theorem ACA.eq {P:Di} {f:FuncId} {E:Dh} {size n m m':Nat} {c0 args c1 c1':Dp} (h:ACA P f E size n c0 args c1 m) (h1:c1=c1') (h2:m=m'):ACA P f E size n c0 args c1' m':=h1▸h2▸h
section
variable {P:Di} {tab:Tab} {ev:Evl} {h:aL} {d:Dg} {T ty:Dh} {x:Operand} {pos:String} {aft:Df} {gd:Da}
theorem bZ1 {e:TyE} (tb:bF P tab) {s:CZ} {q:Nat} (hT:aP tab T=some e) (hk:e.kind = .str) (hq:s.length=q) (hx:ev x=some (.c (sv s))):Still P ⟨d,.call ⟨.builtin .len,#[x],#[T]⟩,ty,pos,aft,gd⟩ ev h (.c (iv q)):=by
 have:=aD6 (d:=d) (ty:=ty) (pos:=pos) (aft:=aft) (gd:=gd) (h:=h) tb hT hk hx
 rw [aT1,hq] at this
 exact this
end
section
variable (L:CZ) (m:Nat) (hL:L.length=m)
include L m hL
theorem rG (a:Int) (ha:aS a) (m':Nat) (hm':(L++bO a).length=m') (hb:m'<=1000000):ACA Tryz.prog 151 5 1 m (u8c L) [.sl 1 1 [iv a]] (u8c (L++bO a)) m':=by
 have:=uC L m hL [a] 1 rfl (by simp;exact ha) m' (by simpa using hm') hb
 simpa [cH] using this
theorem bT6 (a b:Int) (ha:aS a) (hb':aS b) (m':Nat) (hm':(L++(bO a++bO b)).length=m') (hb:m'<=1000000):ACA Tryz.prog 151 5 1 m (u8c L) [.sl 1 2 [iv a,iv b]] (u8c (L++(bO a++bO b))) m':=by
 have:=uC L m hL [a,b] 2 rfl (by simp;exact ⟨ha,hb'⟩) m' (by simpa using hm') hb
 simpa [cH] using this
theorem bT7 (a b c:Int) (ha:aS a) (hb':aS b) (hc:aS c) (m':Nat) (hm':(L++(bO a++(bO b++bO c))).length=m') (hb:m'<=1000000):ACA Tryz.prog 151 5 1 m (u8c L) [.sl 1 3 [iv a,iv b,iv c]] (u8c (L++(bO a++(bO b++bO c)))) m':=by
 have:=uC L m hL [a,b,c] 3 rfl (by simp;exact ⟨ha,hb',hc⟩) m' (by simpa using hm') hb
 simpa [cH] using this
theorem dK5 (a b c d:Int) (ha:aS a) (hb':aS b) (hc:aS c) (hd:aS d) (m':Nat) (hm':(L++(bO a++(bO b++(bO c++bO d)))).length=m') (hb:m'<=1000000):ACA Tryz.prog 151 5 1 m (u8c L) [.sl 1 4 [iv a,iv b,iv c,iv d]] (u8c (L++(bO a++(bO b++(bO c++bO d))))) m':=by
 have:=uC L m hL [a,b,c,d] 4 rfl (by simp;exact ⟨ha,hb',hc,hd⟩) m' (by simpa using hm') hb
 simpa [cH] using this
theorem bB3 (s:CZ) (m':Nat) (hm':(L++pM s).length=m') (hb:m'<=1000000):ACA Tryz.prog 247 5 1 m (u8c L) [sv s] (u8c (L++pM s)) m':=by
 have hul:(u8c L).length=m:=by rw [aI,hL]
 obtain ⟨j,hj⟩:∃j,(L++bO s.length).length=j:=⟨_,rfl⟩
 obtain ⟨q,hq⟩:∃q,s.length=q:=⟨_,rfl⟩
 have hsz:(⟨s.toArray⟩:ByteArray).size=q:=by rw [aT1,hq]
 have hjq:j+q=m':=by
  rw [<- hm',<- hj,<- hq]
  simp only [pM,Aa]
  omega
 have h1:=rG L m hL (s.length:Int) ⟨by omega,by omega⟩ j hj aA
 have e:u8c (L++pM s)=u8c (L++bO s.length)++u8c s:=by rw [pM,<- Ar,bZ]
 have hul2:(u8c (L++bO s.length)).length=j:=by rw [aI,hj]
 rw [hq] at h1 hul2 e
 refine dA aB (sz:=12) Tryz.func247 rfl (by rw [Tryz.ntmps247];rfl) (bE _) ?_
 repeat' (first|(refine aC ?_;intro K hK hX)|refine aM [0,1,4] ?_|((with_reducible refine aF ?_);refine cR (h1) aE rfl zby rfl rfl zln rfl zcv (bE _) ?_)|refine rW ?_|((with_reducible refine sL ?_);refine aF2 aB aE rfl rfl rfl rfl rfl rfl rfl rfl rfl rfl (by first|rfl|with_reducible assumption|omega|(simp;omega)) rfl (by first|with_reducible assumption|omega) lX (by first|exact AA rfl|omega|(simp;omega)) ?_)|(((with_reducible refine cG ?_);refine xA ?_);(first|((with_reducible refine aP1 ?_);(first|refine aG (bZ1 aB rfl rfl hq rfl) ?_))))|refine stA ?_|(refine aH hK hX ?_;clear hK hX K)|fail)
 rw [<- e,hjq]
 have hul3:(u8c (L++pM s)).length=m':=by rw [aI,hm']
 exact jB
theorem cE9 (v:Vl) (m':Nat) (hm':(L++pL (clV v)).length=m') (hb:m'<=1000000):ACA Tryz.prog 246 5 1 m (u8c L) [.agg v.c] (u8c (L++pL (clV v))) m':=by
 have hul:(u8c L).length=m:=by rw [aI,hL]
 have hul3:(u8c (L++pL (clV v))).length=m':=by rw [aI,hm']
 have hcl:=bL5 v
 have hok:=aJ1 v
 generalize clV v=u at hcl hok hm' hul3 ⊢
 obtain ⟨k,n,t⟩:=u
 obtain ⟨k0,n0,t0⟩:=v
 obtain ⟨X,hX⟩:∃X,L++bO k=X:=⟨_,rfl⟩
 obtain ⟨j,hj⟩:∃j,X.length=j:=⟨_,rfl⟩
 have hlk:j<=m':=by rw [<- hm',<- hj,<- hX];simp only [pL,Aa];omega
 have hulx:(u8c X).length=j:=by rw [aI,hj]
 rcases hok with ⟨h1,h2,h3⟩|⟨h1,h2,h2',h3⟩|⟨h1,h2,h3⟩<;>simp only at h1 h2 h3<;>subst h1
 ·have i1:=rG L m hL 0 ⟨by decide,by decide⟩ j lO aA
  have e:L++pL ⟨0,n,t⟩=X:=by rw [<- hX];simp [pL]
  rw [hX] at i1
  rw [e] at hm' hul3 ⊢
  have hjm:j=m':=by omega
  refine dA aB (sz:=28) Tryz.func246 rfl (by rw [Tryz.ntmps246];rfl) (bE _) ?_
  repeat' (first|(refine aC ?_;intro K hK hX)|refine aM [0,1,3,4,13] ?_|((with_reducible refine aF ?_);refine cR (i1) aE rfl zby rfl rfl zln rfl zcv (bE _) ?_)|refine rW ?_|(refine eS ?_;refine c0 hcl ?_)|refine stA ?_|(refine aH hK hX ?_;clear hK hX K)|fail)
  rw [hjm]
  exact jB
 ·have i1:=rG L m hL 1 ⟨by decide,by decide⟩ j lO aA
  rw [hX] at i1
  have e:L++pL ⟨1,n,t⟩=X++bO n:=by rw [<- hX];simp [pL]
  rw [e] at hm' hul3 ⊢
  have i2:=rG X j hj n ⟨by omega,by simp only at h2';omega⟩ m' hm' hb
  refine dA aB (sz:=28) Tryz.func246 rfl (by rw [Tryz.ntmps246];rfl) (bE _) ?_
  repeat' (first|(refine aC ?_;intro K hK hX)|refine cR3 ?_|(refine aH hK hX ?_;clear hK hX K)|fail)
  exact jB
 ·have i1:=rG L m hL 2 ⟨by decide,by decide⟩ j lO aA
  rw [hX] at i1
  have e:L++pL ⟨2,n,t⟩=X++pM t:=by rw [<- hX];simp [pL]
  rw [e] at hm' hul3 ⊢
  have i2:=bB3 X j hj t m' hm' hb
  refine dA aB (sz:=28) Tryz.func246 rfl (by rw [Tryz.ntmps246];rfl) (bE _) ?_
  repeat' (first|(refine aC ?_;intro K hK hX)|refine cR3 ?_|(refine aH hK hX ?_;clear hK hX K)|fail)
  exact jB
theorem rE (i:Idf) (m':Nat) (hm':(L++gC i).length=m') (hb:m'<=1000000):ACA Tryz.prog 223 5 1 m (u8c L) [.agg i.cs] (u8c (L++gC i)) m':=by
 have hul:(u8c L).length=m:=by rw [aI,hL]
 have hul3:(u8c (L++gC i)).length=m':=by rw [aI,hm']
 obtain ⟨X,hX⟩:∃X,L++pM i.ns=X:=⟨_,rfl⟩
 obtain ⟨j,hj⟩:∃j,X.length=j:=⟨_,rfl⟩
 have e:L++gC i=X++pL (clV i.v):=by rw [<- hX,gC,Ar]
 have hlk:j<=m':=by rw [<- hm',<- hj,e,Aa];omega
 have i1:=bB3 L m hL i.ns j lO aA
 rw [hX] at i1
 rw [e] at hm' hul3 ⊢
 have i2:=cE9 X j hj i.v m' hm' hb
 have hulx:(u8c X).length=j:=by rw [aI,hj]
 obtain ⟨ns,k,n,t⟩:=i
 dsimp only [Idf.cs,Vl.c] at *
 refine dA aB (sz:=12) Tryz.func223 rfl (by rw [Tryz.ntmps223];rfl) (bE _) ?_
 repeat' (first|(refine aC ?_;intro K hK hX)|refine gG [0,1,3,4] ?_|((with_reducible refine aF ?_);refine cR (i1) aE rfl zby rfl rfl zln rfl zcv (bE _) ?_)|((with_reducible refine bX ?_);refine fO (i1) aE rfl rfl zby rfl rfl zln rfl zcv (bE _) rfl ?_)|((with_reducible refine aF ?_);refine cR (i2) aE rfl zby rfl rfl zln rfl zcv (bE _) ?_)|((with_reducible refine bX ?_);refine fO (i2) aE rfl rfl zby rfl rfl zln rfl zcv (bE _) rfl ?_)|refine stA ?_|refine stE ?_|(refine aH hK hX ?_;clear hK hX K)|fail)
 exact jB
end
end
section
attribute [local irreducible] Still Adds AWL AW Drw bN bP AC AWR cM Frz Go.Av.Src dB Out InK ItK AsK RdK eA dZ ACT ACA eL
attribute [local simp] bL bK bZ
theorem u8l {l:CZ} {n:Nat} (h:l.length=n):(u8c l).length=n:=by rw [aI,h]
section
variable (L:CZ) (m:Nat) (hL:L.length=m)
include L m hL
theorem aR4 (q:LRq) (h1:aS q.k) (h2:aS q.s) (h3:aS q.d) (h4:aS q.dl) (m':Nat) (hm':(L++nH q).length=m') (hb:m'<=1000000):ACA Tryz.prog 168 5 1 m (u8c L) [.agg q.cs] (u8c (L++nH q)) m':=by
 have hul:=u8l hL
 have hul3:=u8l hm'
 obtain ⟨X,hX⟩:∃X,L++bO q.k=X:=⟨_,rfl⟩
 obtain ⟨Y,hY⟩:∃Y,X++gC q.who=Y:=⟨_,rfl⟩
 obtain ⟨j,hj⟩:∃j,X.length=j:=⟨_,rfl⟩
 obtain ⟨w,hw⟩:∃w,Y.length=w:=⟨_,rfl⟩
 have e:L++nH q=Y++(bO q.s++(bO q.d++bO q.dl)):=by rw [<- hY,<- hX,nH];simp only [Ar]
 have hwm:w<=m':=by rw [<- hm',<- hw,e,Aa];omega
 have hjw:j<=w:=by rw [<- hw,<- hj,<- hY,Aa];omega
 have i1:=rG L m hL q.k h1 j lO aA
 have i2:=rE X j hj q.who w (by rw [hY,hw]) aA
 rw [hX] at i1
 rw [hY] at i2
 rw [e] at hm' hul3 ⊢
 have i3:=bT7 Y w hw q.s q.d q.dl h2 h3 h4 m' hm' hb
 have hulx:=u8l hj
 have huly:=u8l hw
 obtain ⟨k,⟨ns,vk,vn,vt⟩,s,d,dl⟩:=q
 dsimp only [Idf.cs,LRq.cs,Vl.c] at *
 refine dA aB (sz:=22) Tryz.func168 rfl (by rw [Tryz.ntmps168];rfl) (bE _) ?_
 repeat' (first|(refine aC ?_;intro K hK hX)|refine cQ6 ?_|(refine aH hK hX ?_;clear hK hX K)|fail)
 exact jB
theorem cK8 (q:LHd) (h1:aS q.t) (h2:aS q.c) (h3:aS q.s) (h4:aS q.fr) (h5:aS q.to) (m':Nat) (hm':(L++nF q).length=m') (hb:m'<=1000000):ACA Tryz.prog 172 5 1 m (u8c L) [.agg q.cs] (u8c (L++nF q)) m':=by
 have hul:=u8l hL
 have hul3:=u8l hm'
 obtain ⟨X,hX⟩:∃X,L++(bO q.t++bO q.c)=X:=⟨_,rfl⟩
 obtain ⟨Y,hY⟩:∃Y,X++gC q.who=Y:=⟨_,rfl⟩
 obtain ⟨j,hj⟩:∃j,X.length=j:=⟨_,rfl⟩
 obtain ⟨w,hw⟩:∃w,Y.length=w:=⟨_,rfl⟩
 have e:L++nF q=Y++(bO q.s++(bO q.fr++bO q.to)):=by rw [<- hY,<- hX,nF];simp only [Ar]
 have hwm:w<=m':=by rw [<- hm',<- hw,e,Aa];omega
 have hjw:j<=w:=by rw [<- hw,<- hj,<- hY,Aa];omega
 have i1:=bT6 L m hL q.t q.c h1 h2 j lO aA
 have i2:=rE X j hj q.who w (by rw [hY,hw]) aA
 rw [hX] at i1
 rw [hY] at i2
 rw [e] at hm' hul3 ⊢
 have i3:=bT7 Y w hw q.s q.fr q.to h3 h4 h5 m' hm' hb
 have hulx:=u8l hj
 have huly:=u8l hw
 obtain ⟨t,c,⟨ns,vk,vn,vt⟩,s,fr,to⟩:=q
 dsimp only [Idf.cs,LHd.cs,Vl.c] at *
 refine dA aB (sz:=24) Tryz.func172 rfl (by rw [Tryz.ntmps172];rfl) (bE _) ?_
 repeat' (first|(refine aC ?_;intro K hK hX)|refine cQ6 ?_|(refine aH hK hX ?_;clear hK hX K)|fail)
 exact jB
theorem cL5 (q:LLk) (h1:aS q.s) (m':Nat) (hm':(L++nG q).length=m') (hb:m'<=1000000):ACA Tryz.prog 171 5 1 m (u8c L) [.agg q.cs] (u8c (L++nG q)) m':=by
 have hul:=u8l hL
 have hul3:=u8l hm'
 obtain ⟨X,hX⟩:∃X,L++gC q.a=X:=⟨_,rfl⟩
 obtain ⟨Y,hY⟩:∃Y,X++gC q.b=Y:=⟨_,rfl⟩
 obtain ⟨j,hj⟩:∃j,X.length=j:=⟨_,rfl⟩
 obtain ⟨w,hw⟩:∃w,Y.length=w:=⟨_,rfl⟩
 have e:L++nG q=Y++(bO q.s++bO (if q.rv then 1 else 0)):=by rw [<- hY,<- hX,nG];simp only [Ar]
 have hwm:w<=m':=by rw [<- hm',<- hw,e,Aa];omega
 have hjw:j<=w:=by rw [<- hw,<- hj,<- hY,Aa];omega
 have i1:=rE L m hL q.a j lO aA
 have i2:=rE X j hj q.b w (by rw [hY,hw]) aA
 rw [hX] at i1
 rw [hY] at i2
 rw [e] at hm' hul3 ⊢
 have i3:=bT6 Y w hw q.s (if q.rv then 1 else 0) h1 (by split<;>exact ⟨by decide,by decide⟩) m' hm' hb
 have hulx:=u8l hj
 have huly:=u8l hw
 obtain ⟨⟨ns,vk,vn,vt⟩,⟨ns2,vk2,vn2,vt2⟩,s,rv⟩:=q
 cases rv<;>simp only [AB,AY,B9] at i3 hul3 hm' ⊢
 ·(try dsimp only [Idf.cs,LLk.cs,Vl.c] at *)
  refine dA aB (sz:=20) Tryz.func171 rfl (by rw [Tryz.ntmps171];rfl) (bE _) ?_
  repeat' (first|(refine aC ?_;intro K hK hX)|refine cQ5 ?_|(refine aH hK hX ?_;clear hK hX K)|fail)
  exact jB
 ·(try dsimp only [Idf.cs,LLk.cs,Vl.c] at *)
  refine dA aB (sz:=20) Tryz.func171 rfl (by rw [Tryz.ntmps171];rfl) (bE _) ?_
  repeat' (first|(refine aC ?_;intro K hK hX)|refine cQ5 ?_|(refine aH hK hX ?_;clear hK hX K)|fail)
  exact jB
end
end
end Go.Proofs.YtbgehdndimlgkaaGreat
