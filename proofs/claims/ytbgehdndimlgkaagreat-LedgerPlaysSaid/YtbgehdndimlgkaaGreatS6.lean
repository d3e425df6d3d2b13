/- Lemmas for laws of the ledger. -/
import Derived.Test.YtbgehdndimlgkaaGreatProg
import Derived.Test.YtbgehdndimlgkaaGreatS3
set_option linter.all false
namespace Go.Av
open Go Go.RowKit
section
theorem gd1 {p:Prop} [Decidable p] (h:p):(decide p==true)=true:=by rw [AP h];rfl
theorem gd2 {p:Prop} [Decidable p] (h:¬p):(decide p==false)=true:=by rw [Bi h];rfl
theorem gd3 {p:Prop} [Decidable p] (h:¬p):(decide p==true)=false:=by rw [Bi h];rfl
theorem gd4 {p:Prop} [Decidable p] (h:p):(decide p==false)=false:=by rw [AP h];rfl
section
variable {P:Dv} {tab:Tab} {sz n:Nat} {env:Env} {h:aO} {dfs:cD} {K:AK} {ops:Dq} {rest:Dp}
theorem cR8 {w : World} {T ty E : Du} {ti : TypeInfo} {z : Value} (ht : P.underlying T = some (.slice E)) (hi : P.info? E = some ti) (hz : ti.zero = some z) (hzs : z.cells.size = ti.size) {A : Option Addr} {m : Nat} {us : Do} (hul : us.length = m * ti.size)
    (hA : 0 < m -> ∃ b o, A = some ⟨b, o, none⟩ /\ ∀ j x, us[j]? = some x -> w.cell? ⟨b, o + j, none⟩ = some x)
    {ok : Nat -> Prop} {k : Nat} {ys : D1} {u : Value} (hu : cX1 ok w ti.size k ys u) (hk : 0 < k) (h63 : m + k <= maxLen) (hb : (m + k) * ti.bytes <= 140737488355328) :
    ∃ news cap' vs' w', RepCs ok w ys news /\ (∀ x ∈ news, x.oneCell' = true) /\ (Builtin.append_ #[T, T] ty #[.slice A m m, u]).run P w = .ok (.slice (some ⟨w.heap.size, 0, none⟩) (m + k) cap') w' /\ Below w.heap.size w w' /\ w'.heap[w.heap.size]? = some (.cells ((us ++ news) ++ vs').toArray E (0, 0)) /\ ((us ++ news) ++ vs').length = cap' * ti.size /\ m + k <= cap' /\ cap' <= maxLen := by
  obtain ⟨A', c, news, rfl, h4, h5, h6, h7⟩ := hu
  have hnl := h5.length
  obtain ⟨b', o', rfl, hc'⟩ := h7 hk
  have hl : news.length = k * ti.size := by rw [hnl, h4]
  have hnews : ∀ j v, news[j]? = some v -> w.cell? ((⟨b', o', none⟩ : Addr).add j) = some v := fun j x hx => by rw [iG]; exact hc' j x hx
  rcases A with _ | ad
  · have h0 : m = 0 := by
      rcases BC m with h0 | h0
      · exact h0
      · obtain ⟨_, _, he, _⟩ := hA h0; cases he
    subst h0
    have : us = [] := An (by rw [hul]; simp)
    subst this
    have hr := run_append_nil (P := P) w T ty E ti z ht hi hz ⟨b', o', none⟩ k c news hl hnews hk bM6 (by rw [Aq] at hb; omega)
    have hge := grownCap_ge w k 0 E
    have hle := grownCap_le_maxLen w k 0 E aA
    refine ⟨news, _, (Builtin.zeroCells z.cells (grownCap w k 0 E - k)).toList, _, h5, h6, (by rw [Aq]; exact hr), ((Below.refl _ _).drew).alloc (Ah _) _, ?_, ?_, by rw [Aq]; exact hge, hle⟩
    · rw [show w.heap.size = w.drew.heap.size from rfl, heap_alloc_new]
      congr 2
      apply BV.1
      simp
    · simp only [Ay, Aa, A9, size_zeroCells, hzs, hl, <- AM]
      congr 1; omega
  · have holds : ∀ j v, us[j]? = some v -> w.cell? (ad.add j) = some v := fun j x hx => by
      rcases BC m with h0 | h0
      · subst h0
        have : us = [] := An (by rw [hul]; simp)
        subst this
        simp at hx
      · obtain ⟨b, o, he, hc⟩ := hA h0
        injection he with he
        subst he
        rw [iG]
        exact hc j x hx
    have hr := run_append_grow (P := P) w T ty E ti z ht hi hz ad m m us hul holds ⟨b', o', none⟩ k c news hl hnews aA bM6 (growslice_fits aA hb)
    have hge := grownCap_ge w (m + k) m E
    have hle := grownCap_le_maxLen w (m + k) m E h63
    refine ⟨news, _, (Builtin.zeroCells z.cells (grownCap w (m + k) m E - (m + k))).toList, _, h5, h6, hr, ((Below.refl _ _).drew).alloc (Ah _) _, ?_, ?_, hge, hle⟩
    · rw [show w.heap.size = w.drew.heap.size from rfl, heap_alloc_new]
      congr 2
      apply BV.1
      simp
    · simp only [Aa, A9, size_zeroCells, hzs, hl, hul, <- AM]
      congr 1; omega
theorem cC2 (tb : bQ P tab) {T ty1 ty2 ty3 : Du} {x r1 r2 y : Operand} {p1 p2 p3 : String} {a1 a2 a3 : Ds} {t1 t2 t3 : Nat} {e e' : TyE} {E size m k : Nat} {vy : AV} {cs ys : D1} {k1 k2 : Dw} {I J : Int}
    (hd1 : Nat.blt t1 sz = true) (hd2 : Nat.blt t2 sz = true) (hd3 : Nat.blt t3 sz = true) (h12 : Nat.beq t1 t2 = false) (hT : aS tab T = some e) (hk : e.kind = .slice E) (hE : aS tab E = some e') (hs : Nat.beq e'.size size = true) (hz : Nat.beq e'.zero.length size = true)
    (hx : evA env x = some (.c (.sl size m cs))) (hr1 : evA env r1 = some (.c (.v (.int k1 I)))) (hr2 : evA env r2 = some (.c (.v (.int k2 J)))) (hI : I = (m : Int)) (hJ : J = (m : Int)) (hy : evA ((t1, .junk) :: env) y = some vy) (hf : Src h vy size k ys) (hk0 : 0 < k) (h63 : m + k <= maxLen) (hb : (m + k) * e'.bytes <= 140737488355328)
    (next : AWL P ops sz rest K (n + 1) ((t3, .own n 0 (m + k) size true) :: (t2, vy) :: (t1, .junk) :: env) ((n, .row E (cs ++ ys)) :: h) dfs) :
    AWL P ops sz (⟨some t1, .slice T x none (some r1) (some r2), ty1, p1, a1, none⟩ :: ⟨some t2, .move y, ty2, p2, a2, none⟩ :: ⟨some t3, .call ⟨.builtin .append, #[.tmp t1, .tmp t2], #[T, T]⟩, ty3, p3, a3, none⟩ :: rest) K n env h dfs := by
  intro B a w hc
  obtain ⟨M, c1, c2, c3, c4⟩ := hc
  have hrx := dN c3 x _ hx
  simp only [Rep, RepC] at hrx
  obtain ⟨A, c, us, h3, h4, h5, h6, h7, h70, h8⟩ := hrx
  have e1 := dN c3 r1 _ hr1
  have e2 := dN c3 r2 _ hr2
  simp only [Rep, RepC] at e1 e2
  have hund := (aM tb hT).slice hk
  have hel : P.elem T = E := by simp [Program.elem, hund]
  have hs' := Ae hs
  have hsz := (aM tb hE).sizeOf w
  have h12' : t1 ≠ t2 := fun e => by subst e; rw [BP] at h12; cases h12
  have d1 : t1 < sz := by simpa using hd1
  have d2 : t2 < sz := by simpa using hd2
  refine eO fun K1 hK1 => ?_
  have hw1 : ∀ (aa : Act) (o : Oper), o.guard = none -> Region.wanted o (yielded ops aa.tmps) = true := fun aa o h => by simp [Region.wanted, h]
  rw [Ak (hw1 a _ rfl)]
  have hrun1 : (execOp a.eval ⟨some t1, .slice T x none (some r1) (some r2), ty1, p1, a1, none⟩).run P w = .ok (.value (.slice (if m = 0 then A else A.map (·.add 0)) m m)) w := by
    have hsl := run_slice_hm (P := P) w T A m c (by rw [hel]; exact hund) k1 k2 (m : Int) (m : Int) aA (Int.le_refl _) aA
    rw [hel, hsz, Result.andThen_ok] at hsl
    simp [execOp, Instr.sliceAt, h3, e1, e2, hI, hJ, Sem.run_bind, run_underlying hund, hsl, sliced]
  unfold Oper.wp
  rw [hrun1]
  simp only [Oper.upon]
  obtain ⟨q1, q2, q3⟩ := kV (v := .junk) (u := .slice (if m = 0 then A else A.map (·.add 0)) m m) (d := some t1) c2 c3 (Ext.refl _) (fD (d := some t1) (by simpa [iD] using hd1)) (by simp [Rep])
  refine hK1 _ _ ?_
  have hA1 : (a.put (some t1) (.slice (if m = 0 then A else A.map (·.add 0)) m m)).tmps.getD t1 undef = .slice (if m = 0 then A else A.map (·.add 0)) m m := by simp [Act.put, c2, d1]
  generalize a.put (some t1) (.slice (if m = 0 then A else A.map (·.add 0)) m m) = b at q1 q2 q3 hA1 ⊢
  refine eO fun K2 hK2 => ?_
  rw [Ak (hw1 b _ rfl)]
  have hrun2 : (execOp b.eval ⟨some t2, .move y, ty2, p2, a2, none⟩).run P w = .ok (.value (b.eval y)) w := by simp [execOp]
  unfold Oper.wp
  rw [hrun2]
  simp only [Oper.upon]
  have hry := dN q2 y _ hy
  obtain ⟨s1, s2, s3⟩ := kV (v := vy) (u := b.eval y) (d := some t2) q1 q2 (Ext.refl _) (fD (d := some t2) (by simpa [iD, q1] using hd2)) hry
  refine hK2 _ _ ?_
  have hA2 : (b.put (some t2) (b.eval y)).tmps.getD t1 undef = .slice (if m = 0 then A else A.map (·.add 0)) m m := by
    rw [<- hA1]; simp [Act.put, Ba (Ne.symm h12')]
  have hy2 : (b.put (some t2) (b.eval y)).tmps.getD t2 undef = b.eval y := by simp [Act.put, q1, d2]
  generalize b.put (some t2) (b.eval y) = b2 at s1 s2 s3 hA2 hy2 ⊢
  refine eO fun K3 hK3 => ?_
  rw [Ak (hw1 b2 _ rfl)]
  have h2 := hf B (lt n) M (lk h) w _ (fun id o h _ => h) c1 hry
  obtain ⟨ti, zv, hi, hzv, hszt, hby, hzc⟩ := jS (aM tb hE)
  have hz' := Ae hz
  have hzs : zv.cells.size = ti.size := by rw [<- A9, hzc, hz', hszt, hs']
  rw [<- hs', <- hszt] at h2
  have hul : us.length = m * ti.size := by rw [h7.length, h6, hszt, hs']
  obtain ⟨news, cap', vs', w', n1, n2, hr, hb', hblk, hlen, hc1, hc2⟩ := cR8 (P := P) (ty := ty3) (A := if m = 0 then A else A.map (·.add 0)) hund hi hzv hzs hul (fun hm => by
    obtain ⟨b, o, rfl, _, _, hcell⟩ := h8 hm
    exact ⟨b, o, by rw [Aj aA]; simp [iG], hcell⟩) h2 hk0 h63 (by rw [hby]; exact hb)
  have hrun3 : (execOp b2.eval ⟨some t3, .call ⟨.builtin .append, #[.tmp t1, .tmp t2], #[T, T]⟩, ty3, p3, a3, none⟩).run P w = .ok (.value (.slice (some ⟨w.heap.size, 0, none⟩) (m + k) cap')) w' := by
    refine gE b2.eval ?_
    show (Builtin.append_ #[T, T] ty3 #[b2.tmps.getD t1 undef, b2.tmps.getD t2 undef]).run P w = _
    rw [hA2, hy2]
    exact hr
  unfold Oper.wp
  rw [hrun3]
  simp only [Oper.upon]
  let M' : Nat -> Dz := fun id => if id = n then some w.heap.size else M id
  let h' : aO := (n, .row E (cs ++ ys)) :: h
  have hMn : M' n = some w.heap.size := by simp [M']
  have hln : lk h' n = some (.row E (cs ++ ys)) := by simp only [h', cA, Bu]; rfl
  have hlo : ∀ q, q < n -> lk h' q = lk h q := fun q hq => by simp only [h', cA]; rw [Aj aA]
  have eok : bF B (lt n) M (lk h') = bF B (lt n) M (lk h) := by
    funext b
    unfold bF
    simp only [BD]
    refine Cy C5 ⟨fun hk id o hid hH => hk id o hid (by rw [hlo id hid]; exact hH), fun hk id o hid hH => hk id o hid (by rw [<- hlo id hid]; exact hH)⟩
  have h1' : ConcH B (lt n) M (lk h') w := by
    refine ⟨c1.fr, fun id o hid hH => ?_, fun id id' o o' g k1 k2 k3 k4 => c1.inj id id' o o' g k1 k2 (by rw [<- hlo id k1]; exact k3) (by rw [<- hlo id' k2]; exact k4), fun id o g k1 k2 => c1.lo id o g k1 (by rw [<- hlo id k1]; exact k2)⟩
    rw [eok]
    exact c1.obj id o hid (by rw [<- hlo id hid]; exact hH)
  have hv : ∀ C, Ext ⟨lt n, M, bF B (lt n) M (lk h'), w⟩ C -> C.w = w' -> C.dom n -> C.M n = some w.heap.size -> ObjRep C (some w.heap.size) (.row E (cs ++ ys)) /\ Rep C (.own n 0 (m + k) size true) (.slice (some ⟨w.heap.size, 0, none⟩) (m + k) cap') := fun C hext hw hd hM => by
    refine ⟨.inr ⟨w.heap.size, us ++ news, vs', rfl, by rw [hw]; exact hblk, (RepCs.mono hext.ok _ _ (by rw [eok]; exact h7)).append (RepCs.mono hext.ok _ _ (by rw [eok]; exact n1)), fun u hu => (Az.1 hu).elim (h70 u) (n2 u)⟩, hd, .inr (.inl ⟨w.heap.size, cap', hM, rfl, hc1, hc2, fun _ => ⟨E, ?_⟩⟩)⟩
    unfold World.shape?
    rw [hw, hblk]
    simp only [A1, Aq]
    rw [hlen, hszt, hs']
  have hgr := h1'.grow hb' n (n + 1) (M' := M') (fun id hid => by
      have : id ≠ n := by simp only [lt] at hid; omega
      simp [M', this]) (fun id k1 k2 => by simp only [lt]; omega)
    (fun id o k1 k2 k3 g hg => by
      obtain rfl : id = n := by omega
      rw [hMn] at hg
      injection hg with hg; omega)
    (fun id id' o o' g k1 k2 k3 k4 => fun _ _ _ _ => by omega)
    (fun hext id o k1 k2 k3 => by
      obtain rfl : id = n := by omega
      rw [hln] at k3
      injection k3 with k3
      subst k3
      rw [hMn]
      exact (hv _ hext rfl (.inr ⟨k1, k2⟩) hMn).1)
  have hvv := (hv _ hgr.2 rfl (.inr ⟨Ah _, Bk _⟩) hMn).2
  obtain ⟨g1, g2⟩ := hgr
  rw [aX3 (BI n)] at g1 g2 hvv
  rw [eok] at g2
  obtain ⟨p1, p2, p3⟩ := kV (h' := h') (M' := M') s1 s2 g2 (d := some t3) (fD (d := some t3) (by simpa [iD] using hd3)) hvv
  exact hK3 _ _ (next B _ _ ⟨M', g1, p1, p2, by rw [p3, s3, q3]; exact c4.ext g2⟩)
end
end
def eW2 (K:AK):AK:=fun e n env h dfs=>e = .normal/\K .normal n env h dfs
def eD5 (ops:Dq) (n:Nat) (fs:Dr):Bool :=
 (List.range n).all fun i=>sO fs i || (List.range (n+1)).any fun j=>decide (i<j)&&Region.waitsFor .any ops j i && !sO fs j
def eL5 (l:Dp) (i:Nat):Bool:=match l[i]? with
 | some o=>(match o.op with | .move _=>true|_=>false)&&(List.range l.length).all fun j=>Nat.beq j i || Region.waitsFor .any l.toArray j i || (match l[j]? with|some oj=>o.apart l.toArray oj|none=>true)
 | none=>false
def eU1 (l:Dp):Bool:=l.all fun o=>match o.op with | .select _ _=>false|_=>true
def eQ9 (l:Dp) (m:Nat) (fs:Dr):Bool :=
 Nat.ble m l.length&&headB l.toArray (l.take m)&&(Nat.beq m l.length || (eD5 l.toArray m fs&&Region.chainB .any l.toArray m))&&Region.seqB .any l.toArray (l.length-m) m (nB m (l.length-m))&&fs.all (fun i=>Nat.blt i m&&eL5 l i)&&eU1 l
end Go.Av
set_option maxRecDepth 100000
namespace Go.Proofs.YtbgehdndimlgkaaGreat
open Go Go.Av
abbrev bG:TyE:=⟨1,8,.func,[.nilFunc]⟩
def tab:Tab:=[
 (1,bG),
 (2,⟨1,8,.int .i64,[.int .i64 0]⟩),
 (3,⟨1,8,.int .i64,[.int .i64 0]⟩),
 (4,⟨1,1,.bool,[.bool false]⟩),
 (5,⟨1,1,.int .u8,[.int .u8 0]⟩),
 (6,⟨1,1,.int .u8,[.int .u8 0]⟩),
 (7,⟨4,24,(.struct [(0,2),(1,3),(2,4),(3,6)]),[.int .i64 0,.int .i64 0,.bool false,.int .u8 0]⟩),
 (8,⟨4,24,(.struct [(0,2),(1,3),(2,4),(3,6)]),[.int .i64 0,.int .i64 0,.bool false,.int .u8 0]⟩),
 (9,⟨1,16,.str,[.string ⟨#[]⟩]⟩),
 (22,⟨1,24,.slice 5,[.slice none 0 0]⟩),
 (23,⟨1,24,.slice 49,[.slice none 0 0]⟩),
 (24,⟨2,16,.array 2 3,[.int .i64 0,.int .i64 0]⟩),
 (25,bG),
 (26,bG),
 (28,⟨32,32,.array 32 5,[.int .u8 0,.int .u8 0,.int .u8 0,.int .u8 0,.int .u8 0,.int .u8 0,.int .u8 0,.int .u8 0,.int .u8 0,.int .u8 0,.int .u8 0,.int .u8 0,.int .u8 0,.int .u8 0,.int .u8 0,.int .u8 0,.int .u8 0,.int .u8 0,.int .u8 0,.int .u8 0,.int .u8 0,.int .u8 0,.int .u8 0,.int .u8 0,.int .u8 0,.int .u8 0,.int .u8 0,.int .u8 0,.int .u8 0,.int .u8 0,.int .u8 0,.int .u8 0]⟩),
 (32,bG),
 (33,⟨1,8,.int .u64,[.int .u64 0]⟩),
 (37,⟨3,32,(.struct [(0,3),(1,2),(2,9)]),[.int .i64 0,.int .i64 0,.string ⟨#[]⟩]⟩),
 (39,⟨4,48,(.struct [(0,9),(1,37)]),[.string ⟨#[]⟩,.int .i64 0,.int .i64 0,.string ⟨#[]⟩]⟩),
 (41,⟨8,80,(.struct [(0,3),(1,39),(5,3),(6,3),(7,3)]),[.int .i64 0,.string ⟨#[]⟩,.int .i64 0,.int .i64 0,.string ⟨#[]⟩,.int .i64 0,.int .i64 0,.int .i64 0]⟩),
 (43,⟨10,112,(.struct [(0,39),(4,39),(8,3),(9,4)]),[.string ⟨#[]⟩,.int .i64 0,.int .i64 0,.string ⟨#[]⟩,.string ⟨#[]⟩,.int .i64 0,.int .i64 0,.string ⟨#[]⟩,.int .i64 0,.bool false]⟩),
 (45,⟨9,88,(.struct [(0,3),(1,3),(2,39),(6,3),(7,3),(8,3)]),[.int .i64 0,.int .i64 0,.string ⟨#[]⟩,.int .i64 0,.int .i64 0,.string ⟨#[]⟩,.int .i64 0,.int .i64 0,.int .i64 0]⟩),
 (46,⟨1,24,.slice 76,[.slice none 0 0]⟩),
 (47,⟨1,24,.slice 72,[.slice none 0 0]⟩),
 (49,⟨65,392,(.struct [(0,3),(1,3),(2,3),(3,3),(4,41),(12,43),(22,45),(31,46),(32,47),(33,28)]),[.int .i64 0,.int .i64 0,.int .i64 0,.int .i64 0,.int .i64 0,.string ⟨#[]⟩,.int .i64 0,.int .i64 0,.string ⟨#[]⟩,.int .i64 0,.int .i64 0,.int .i64 0,.string ⟨#[]⟩,.int .i64 0,.int .i64 0,.string ⟨#[]⟩,.string ⟨#[]⟩,.int .i64 0,.int .i64 0,.string ⟨#[]⟩,.int .i64 0,.bool false,.int .i64 0,.int .i64 0,.string ⟨#[]⟩,.int .i64 0,.int .i64 0,.string ⟨#[]⟩,.int .i64 0,.int .i64 0,.int .i64 0,.slice none 0 0,.slice none 0 0,.int .u8 0,.int .u8 0,.int .u8 0,.int .u8 0,.int .u8 0,.int .u8 0,.int .u8 0,.int .u8 0,.int .u8 0,.int .u8 0,.int .u8 0,.int .u8 0,.int .u8 0,.int .u8 0,.int .u8 0,.int .u8 0,.int .u8 0,.int .u8 0,.int .u8 0,.int .u8 0,.int .u8 0,.int .u8 0,.int .u8 0,.int .u8 0,.int .u8 0,.int .u8 0,.int .u8 0,.int .u8 0,.int .u8 0,.int .u8 0,.int .u8 0,.int .u8 0]⟩),
 (55,⟨4,64,(.struct [(0,22),(1,22),(2,3),(3,4)]),[.slice none 0 0,.slice none 0 0,.int .i64 0,.bool false]⟩),
 (56,⟨1,8,.int .i64,[.int .i64 0]⟩),
 (61,⟨37,120,(.struct [(0,55),(4,23),(5,28)]),[.slice none 0 0,.slice none 0 0,.int .i64 0,.bool false,.slice none 0 0,.int .u8 0,.int .u8 0,.int .u8 0,.int .u8 0,.int .u8 0,.int .u8 0,.int .u8 0,.int .u8 0,.int .u8 0,.int .u8 0,.int .u8 0,.int .u8 0,.int .u8 0,.int .u8 0,.int .u8 0,.int .u8 0,.int .u8 0,.int .u8 0,.int .u8 0,.int .u8 0,.int .u8 0,.int .u8 0,.int .u8 0,.int .u8 0,.int .u8 0,.int .u8 0,.int .u8 0,.int .u8 0,.int .u8 0,.int .u8 0,.int .u8 0,.int .u8 0]⟩),
 (64,bG),
 (72,⟨2,16,(.struct [(0,3),(1,3)]),[.int .i64 0,.int .i64 0]⟩),
 (76,⟨3,24,(.struct [(0,3),(1,3),(2,3)]),[.int .i64 0,.int .i64 0,.int .i64 0]⟩),
 (77,⟨1,24,.slice 79,[.slice none 0 0]⟩),
 (79,⟨67,408,(.struct [(0,3),(1,3),(2,49)]),[.int .i64 0,.int .i64 0,.int .i64 0,.int .i64 0,.int .i64 0,.int .i64 0,.int .i64 0,.string ⟨#[]⟩,.int .i64 0,.int .i64 0,.string ⟨#[]⟩,.int .i64 0,.int .i64 0,.int .i64 0,.string ⟨#[]⟩,.int .i64 0,.int .i64 0,.string ⟨#[]⟩,.string ⟨#[]⟩,.int .i64 0,.int .i64 0,.string ⟨#[]⟩,.int .i64 0,.bool false,.int .i64 0,.int .i64 0,.string ⟨#[]⟩,.int .i64 0,.int .i64 0,.string ⟨#[]⟩,.int .i64 0,.int .i64 0,.int .i64 0,.slice none 0 0,.slice none 0 0,.int .u8 0,.int .u8 0,.int .u8 0,.int .u8 0,.int .u8 0,.int .u8 0,.int .u8 0,.int .u8 0,.int .u8 0,.int .u8 0,.int .u8 0,.int .u8 0,.int .u8 0,.int .u8 0,.int .u8 0,.int .u8 0,.int .u8 0,.int .u8 0,.int .u8 0,.int .u8 0,.int .u8 0,.int .u8 0,.int .u8 0,.int .u8 0,.int .u8 0,.int .u8 0,.int .u8 0,.int .u8 0,.int .u8 0,.int .u8 0,.int .u8 0,.int .u8 0]⟩),
 (84,⟨1,24,.slice 3,[.slice none 0 0]⟩),
 (86,⟨1,24,.slice 41,[.slice none 0 0]⟩),
 (88,⟨1,24,.slice 43,[.slice none 0 0]⟩),
 (90,⟨1,24,.slice 45,[.slice none 0 0]⟩),
 (97,⟨1,8,.ptr,[.pointer none]⟩),
 (98,bG),
 (101,bG),
 (103,bG),
 (105,bG),
 (106,⟨1,8,.ptr,[.pointer none]⟩),
 (108,⟨2,32,(.struct [(0,22),(1,56)]),[.slice none 0 0,.int .i64 0]⟩),
 (109,⟨2,32,(.struct [(0,22),(1,56)]),[.slice none 0 0,.int .i64 0]⟩),
 (110,bG),
 (111,bG),
 (116,bG),
 (118,bG),
 (120,⟨1,8,.int .u64,[.int .u64 0]⟩),
 (129,bG),
 (132,bG),
 (134,⟨1,8,.map 3 4,[.map none]⟩),
 (138,bG),
 (140,bG),
 (142,bG),
 (146,⟨1,8,.map 24 4,[.map none]⟩),
 (147,⟨1,8,.map 76 4,[.map none]⟩),
 (148,⟨1,8,.map 72 4,[.map none]⟩),
 (150,⟨9,72,(.struct [(0,4),(1,3),(2,3),(3,3),(4,134),(5,134),(6,146),(7,147),(8,148)]),[.bool false,.int .i64 0,.int .i64 0,.int .i64 0,.map none,.map none,.map none,.map none,.map none]⟩),
 (171,bG),
 (172,⟨1,8,.ptr,[.pointer none]⟩),
 (184,bG),
 (194,⟨2,32,(.struct [(0,22),(1,56)]),[.slice none 0 0,.int .i64 0]⟩),
 (198,⟨5,40,.array 5 120,[.int .u64 0,.int .u64 0,.int .u64 0,.int .u64 0,.int .u64 0]⟩),
 (200,⟨1,24,.slice 22,[.slice none 0 0]⟩),
 (202,⟨1,24,.slice 2,[.slice none 0 0]⟩),
 (233,bG),
 (235,bG),
 (238,⟨8,8,.array 8 5,[.int .u8 0,.int .u8 0,.int .u8 0,.int .u8 0,.int .u8 0,.int .u8 0,.int .u8 0,.int .u8 0]⟩),
 (258,⟨5,40,.array 5 3,[.int .i64 0,.int .i64 0,.int .i64 0,.int .i64 0,.int .i64 0]⟩)]
theorem aB:bQ Tryz.prog tab:=by repeat' (first|exact trivial|refine ⟨⟨by kernel_rfl,by kernel_rfl⟩,?_⟩)
abbrev qC':=AC Tryz.prog
abbrev qW':=AW Tryz.prog
end Go.Proofs.YtbgehdndimlgkaaGreat
