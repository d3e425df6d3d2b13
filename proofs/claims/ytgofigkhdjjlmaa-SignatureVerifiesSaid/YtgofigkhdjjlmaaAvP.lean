/-
  append(b[:len(b):len(b)], y...): always new memory. For every program.
-/
import Derived.Test.YtgofigkhdjjlmaaAvN
set_option linter.unusedVariables false
set_option linter.unusedSimpArgs false
namespace Go.Av
open Go Go.RowKit
/-- Guards. -/
theorem gd1 {p : Prop} [Decidable p] (h : p) : (decide p == true) = true := by rw [decide_eq_true h]; rfl
theorem gd2 {p : Prop} [Decidable p] (h : ¬ p) : (decide p == false) = true := by rw [decide_eq_false h]; rfl
theorem gd3 {p : Prop} [Decidable p] (h : ¬ p) : (decide p == true) = false := by rw [decide_eq_false h]; rfl
theorem gd4 {p : Prop} [Decidable p] (h : p) : (decide p == false) = false := by rw [decide_eq_true h]; rfl
section
variable {P : Program} {tab : Tab} {sz n : Nat} {env : Env} {h : Heap} {dfs : Defs} {K : AK} {ops : Array Oper} {rest : List Oper}
/-- A slice without spare room, appended to. -/
theorem run_appG {w : World} {T ty E : TypeId} {ti : TypeInfo} {z : Value} (ht : P.underlying T = some (.slice E)) (hi : P.info? E = some ti) (hz : ti.zero = some z) (hzs : z.cells.size = ti.size) {A : Option Addr} {m : Nat} {us : List Value} (hul : us.length = m * ti.size)
    (hA : 0 < m → ∃ b o, A = some ⟨b, o, none⟩ ∧ ∀ j x, us[j]? = some x → w.cell? ⟨b, o + j, none⟩ = some x)
    {ok : Nat → Prop} {k : Nat} {ys : List CV} {u : Value} (hu : SrcR ok w ti.size k ys u) (hk : 0 < k) (h63 : m + k ≤ maxLen) (hb : (m + k) * ti.bytes ≤ 140737488355328) :
    ∃ news cap' vs' w', RepCs ok w ys news ∧ (∀ x ∈ news, x.oneCell' = true) ∧ (Builtin.append_ #[T, T] ty #[.slice A m m, u]).run P w = .ok (.slice (some ⟨w.heap.size, 0, none⟩) (m + k) cap') w' ∧ Below w.heap.size w w' ∧ w'.heap[w.heap.size]? = some (.cells ((us ++ news) ++ vs').toArray E (0, 0)) ∧ ((us ++ news) ++ vs').length = cap' * ti.size ∧ m + k ≤ cap' ∧ cap' ≤ maxLen := by
  obtain ⟨A', c, news, rfl, h4, h5, h6, h7⟩ := hu
  have hnl := h5.length
  obtain ⟨b', o', rfl, hc'⟩ := h7 hk
  have hl : news.length = k * ti.size := by rw [hnl, h4]
  have hnews : ∀ j v, news[j]? = some v → w.cell? ((⟨b', o', none⟩ : Addr).add j) = some v := fun j x hx => by rw [add_mk]; exact hc' j x hx
  rcases A with _ | ad
  · have h0 : m = 0 := by
      rcases Nat.eq_zero_or_pos m with h0 | h0
      · exact h0
      · obtain ⟨_, _, he, _⟩ := hA h0; cases he
    subst h0
    have : us = [] := List.eq_nil_of_length_eq_zero (by rw [hul]; simp)
    subst this
    have hr := run_append_nil (P := P) w T ty E ti z ht hi hz ⟨b', o', none⟩ k c news hl hnews hk (by simp only [maxLen] at h63; omega) (by rw [Nat.zero_add] at hb; omega)
    have hge := grownCap_ge w k 0 E
    have hle := grownCap_le_maxLen w k 0 E (by omega)
    refine ⟨news, _, (Builtin.zeroCells z.cells (grownCap w k 0 E - k)).toList, _, h5, h6, (by rw [Nat.zero_add]; exact hr), ((Below.refl _ _).drew).alloc (Nat.le_refl _) _, ?_, ?_, by rw [Nat.zero_add]; exact hge, hle⟩
    · rw [show w.heap.size = w.drew.heap.size from rfl, heap_alloc_new]
      congr 2
      apply Array.toList_inj.1
      simp
    · simp only [List.nil_append, List.length_append, Array.length_toList, size_zeroCells, hzs, hl, ← Nat.add_mul]
      congr 1; omega
  · have holds : ∀ j v, us[j]? = some v → w.cell? (ad.add j) = some v := fun j x hx => by
      rcases Nat.eq_zero_or_pos m with h0 | h0
      · subst h0
        have : us = [] := List.eq_nil_of_length_eq_zero (by rw [hul]; simp)
        subst this
        simp at hx
      · obtain ⟨b, o, he, hc⟩ := hA h0
        injection he with he
        subst he
        rw [add_mk]
        exact hc j x hx
    have hr := run_append_grow (P := P) w T ty E ti z ht hi hz ad m m us hul holds ⟨b', o', none⟩ k c news hl hnews (by omega) (by simp only [maxLen] at h63; omega) (growslice_fits (by omega) hb)
    have hge := grownCap_ge w (m + k) m E
    have hle := grownCap_le_maxLen w (m + k) m E h63
    refine ⟨news, _, (Builtin.zeroCells z.cells (grownCap w (m + k) m E - (m + k))).toList, _, h5, h6, hr, ((Below.refl _ _).drew).alloc (Nat.le_refl _) _, ?_, ?_, hge, hle⟩
    · rw [show w.heap.size = w.drew.heap.size from rfl, heap_alloc_new]
      congr 2
      apply Array.toList_inj.1
      simp
    · simp only [List.length_append, Array.length_toList, size_zeroCells, hzs, hl, hul, ← Nat.add_mul]
      congr 1; omega
theorem awl_ext3 (tb : TabOk P tab) {T ty1 ty2 ty3 : TypeId} {x r1 r2 y : Operand} {p1 p2 p3 : String} {a1 a2 a3 : Array Edge} {t1 t2 t3 : Nat} {e e' : TyE} {E size m k : Nat} {vy : AV} {cs ys : List CV} {k1 k2 : IntKind} {I J : Int}
    (hd1 : Nat.blt t1 sz = true) (hd2 : Nat.blt t2 sz = true) (hd3 : Nat.blt t3 sz = true) (h12 : Nat.beq t1 t2 = false) (hT : tyLook tab T = some e) (hk : e.kind = .slice E) (hE : tyLook tab E = some e') (hs : Nat.beq e'.size size = true) (hz : Nat.beq e'.zero.length size = true)
    (hx : evA env x = some (.c (.sl size m cs))) (hr1 : evA env r1 = some (.c (.v (.int k1 I)))) (hr2 : evA env r2 = some (.c (.v (.int k2 J)))) (hI : I = (m : Int)) (hJ : J = (m : Int)) (hy : evA ((t1, .junk) :: env) y = some vy) (hf : Src h vy size k ys) (hk0 : 0 < k) (h63 : m + k ≤ maxLen) (hb : (m + k) * e'.bytes ≤ 140737488355328)
    (next : AWL P ops sz rest K (n + 1) ((t3, .own n 0 (m + k) size true) :: (t2, vy) :: (t1, .junk) :: env) ((n, .row E (cs ++ ys)) :: h) dfs) :
    AWL P ops sz (⟨some t1, .slice T x none (some r1) (some r2), ty1, p1, a1, none⟩ :: ⟨some t2, .move y, ty2, p2, a2, none⟩ :: ⟨some t3, .call ⟨.builtin .append, #[.tmp t1, .tmp t2], #[T, T]⟩, ty3, p3, a3, none⟩ :: rest) K n env h dfs := by
  intro B a w hc
  obtain ⟨M, c1, c2, c3, c4⟩ := hc
  have hrx := rep_eval c3 x _ hx
  simp only [Rep, RepC] at hrx
  obtain ⟨A, c, us, h3, h4, h5, h6, h7, h70, h8⟩ := hrx
  have e1 := rep_eval c3 r1 _ hr1
  have e2 := rep_eval c3 r2 _ hr2
  simp only [Rep, RepC] at e1 e2
  have hund := (tyLook_ok tb hT).slice hk
  have hel : P.elem T = E := by simp [Program.elem, hund]
  have hs' := Nat.eq_of_beq_eq_true hs
  have hsz := (tyLook_ok tb hE).sizeOf w
  have h12' : t1 ≠ t2 := fun e => by subst e; rw [Nat.beq_refl] at h12; cases h12
  have d1 : t1 < sz := by simpa using hd1
  have d2 : t2 < sz := by simpa using hd2
  -- the slice
  refine wpList_step fun K1 hK1 => ?_
  have hw1 : ∀ (aa : Act) (o : Oper), o.guard = none → Region.wanted o (yielded ops aa.tmps) = true := fun aa o h => by simp [Region.wanted, h]
  rw [if_pos (hw1 a _ rfl)]
  have hrun1 : (execOp a.eval ⟨some t1, .slice T x none (some r1) (some r2), ty1, p1, a1, none⟩).run P w = .ok (.value (.slice (if m = 0 then A else A.map (·.add 0)) m m)) w := by
    have hsl := run_slice_hm (P := P) w T A m c (by rw [hel]; exact hund) k1 k2 (m : Int) (m : Int) (by omega) (Int.le_refl _) (by omega)
    rw [hel, hsz, Result.andThen_ok] at hsl
    simp [execOp, Instr.sliceAt, h3, e1, e2, hI, hJ, Sem.run_bind, run_underlying hund, hsl, sliced]
  unfold Oper.wp
  rw [hrun1]
  simp only [Oper.upon]
  obtain ⟨q1, q2, q3⟩ := put_env (v := .junk) (u := .slice (if m = 0 then A else A.map (·.add 0)) m m) (d := some t1) c2 c3 (Ext.refl _) (dstOk_spec (d := some t1) (by simpa [dstOk] using hd1)) (by simp [Rep])
  refine hK1 _ _ ?_
  have hA1 : (a.put (some t1) (.slice (if m = 0 then A else A.map (·.add 0)) m m)).tmps.getD t1 undef = .slice (if m = 0 then A else A.map (·.add 0)) m m := by simp [Act.put, c2, d1]
  generalize a.put (some t1) (.slice (if m = 0 then A else A.map (·.add 0)) m m) = b at q1 q2 q3 hA1 ⊢
  -- the move
  refine wpList_step fun K2 hK2 => ?_
  rw [if_pos (hw1 b _ rfl)]
  have hrun2 : (execOp b.eval ⟨some t2, .move y, ty2, p2, a2, none⟩).run P w = .ok (.value (b.eval y)) w := by simp [execOp]
  unfold Oper.wp
  rw [hrun2]
  simp only [Oper.upon]
  have hry := rep_eval q2 y _ hy
  obtain ⟨s1, s2, s3⟩ := put_env (v := vy) (u := b.eval y) (d := some t2) q1 q2 (Ext.refl _) (dstOk_spec (d := some t2) (by simpa [dstOk, q1] using hd2)) hry
  refine hK2 _ _ ?_
  have hA2 : (b.put (some t2) (b.eval y)).tmps.getD t1 undef = .slice (if m = 0 then A else A.map (·.add 0)) m m := by
    rw [← hA1]; simp [Act.put, Array.getElem?_setIfInBounds_ne (Ne.symm h12')]
  have hy2 : (b.put (some t2) (b.eval y)).tmps.getD t2 undef = b.eval y := by simp [Act.put, q1, d2]
  generalize b.put (some t2) (b.eval y) = b2 at s1 s2 s3 hA2 hy2 ⊢
  -- the append
  refine wpList_step fun K3 hK3 => ?_
  rw [if_pos (hw1 b2 _ rfl)]
  have h2 := hf B (lt n) M (lk h) w _ (fun id o h _ => h) c1 hry
  obtain ⟨ti, zv, hi, hzv, hszt, hby, hzc⟩ := zero_cells (tyLook_ok tb hE)
  have hz' := Nat.eq_of_beq_eq_true hz
  have hzs : zv.cells.size = ti.size := by rw [← Array.length_toList, hzc, hz', hszt, hs']
  rw [← hs', ← hszt] at h2
  have hul : us.length = m * ti.size := by rw [h7.length, h6, hszt, hs']
  obtain ⟨news, cap', vs', w', n1, n2, hr, hb', hblk, hlen, hc1, hc2⟩ := run_appG (P := P) (ty := ty3) (A := if m = 0 then A else A.map (·.add 0)) hund hi hzv hzs hul (fun hm => by
    obtain ⟨b, o, rfl, _, _, hcell⟩ := h8 hm
    exact ⟨b, o, by rw [if_neg (by omega)]; simp [add_mk], hcell⟩) h2 hk0 h63 (by rw [hby]; exact hb)
  have hrun3 : (execOp b2.eval ⟨some t3, .call ⟨.builtin .append, #[.tmp t1, .tmp t2], #[T, T]⟩, ty3, p3, a3, none⟩).run P w = .ok (.value (.slice (some ⟨w.heap.size, 0, none⟩) (m + k) cap')) w' := by
    refine exec_append b2.eval ?_
    show (Builtin.append_ #[T, T] ty3 #[b2.tmps.getD t1 undef, b2.tmps.getD t2 undef]).run P w = _
    rw [hA2, hy2]
    exact hr
  unfold Oper.wp
  rw [hrun3]
  simp only [Oper.upon]
  let M' : Nat → Option Nat := fun id => if id = n then some w.heap.size else M id
  let h' : Heap := (n, .row E (cs ++ ys)) :: h
  have hMn : M' n = some w.heap.size := by simp [M']
  have hln : lk h' n = some (.row E (cs ++ ys)) := by simp only [h', lk_cons, if_true]; rfl
  have hlo : ∀ q, q < n → lk h' q = lk h q := fun q hq => by simp only [h', lk_cons]; rw [if_neg (by omega)]
  have eok : okOf B (lt n) M (lk h') = okOf B (lt n) M (lk h) := by
    funext b
    unfold okOf
    simp only [eq_iff_iff]
    refine and_congr Iff.rfl ⟨fun hk id o hid hH => hk id o hid (by rw [hlo id hid]; exact hH), fun hk id o hid hH => hk id o hid (by rw [← hlo id hid]; exact hH)⟩
  have h1' : ConcH B (lt n) M (lk h') w := by
    refine ⟨c1.fr, fun id o hid hH => ?_, fun id id' o o' g k1 k2 k3 k4 => c1.inj id id' o o' g k1 k2 (by rw [← hlo id k1]; exact k3) (by rw [← hlo id' k2]; exact k4), fun id o g k1 k2 => c1.lo id o g k1 (by rw [← hlo id k1]; exact k2)⟩
    rw [eok]
    exact c1.obj id o hid (by rw [← hlo id hid]; exact hH)
  have hv : ∀ C, Ext ⟨lt n, M, okOf B (lt n) M (lk h'), w⟩ C → C.w = w' → C.dom n → C.M n = some w.heap.size → ObjRep C (some w.heap.size) (.row E (cs ++ ys)) ∧ Rep C (.own n 0 (m + k) size true) (.slice (some ⟨w.heap.size, 0, none⟩) (m + k) cap') := fun C hext hw hd hM => by
    refine ⟨.inr ⟨w.heap.size, us ++ news, vs', rfl, by rw [hw]; exact hblk, (RepCs.mono hext.ok _ _ (by rw [eok]; exact h7)).append (RepCs.mono hext.ok _ _ (by rw [eok]; exact n1)), fun u hu => (List.mem_append.1 hu).elim (h70 u) (n2 u)⟩, hd, .inr (.inl ⟨w.heap.size, cap', hM, rfl, hc1, hc2, fun _ => ⟨E, ?_⟩⟩)⟩
    unfold World.shape?
    rw [hw, hblk]
    simp only [List.size_toArray, Nat.zero_add]
    rw [hlen, hszt, hs']
  have hgr := h1'.grow hb' n (n + 1) (M' := M') (fun id hid => by
      have : id ≠ n := by simp only [lt] at hid; omega
      simp [M', this]) (fun id k1 k2 => by simp only [lt]; omega)
    (fun id o k1 k2 k3 g hg => by
      obtain rfl : id = n := by omega
      rw [hMn] at hg
      injection hg with hg; omega)
    (fun id id' o o' g k1 k2 k3 k4 => fun _ _ _ _ => by omega)
    (fun hext id o k1 k2 k3 => by
      obtain rfl : id = n := by omega
      rw [hln] at k3
      injection k3 with k3
      subst k3
      rw [hMn]
      exact (hv _ hext rfl (.inr ⟨k1, k2⟩) hMn).1)
  have hvv := (hv _ hgr.2 rfl (.inr ⟨Nat.le_refl _, Nat.lt_succ_self _⟩) hMn).2
  obtain ⟨g1, g2⟩ := hgr
  rw [lt_ad (Nat.le_succ n)] at g1 g2 hvv
  rw [eok] at g2
  obtain ⟨p1, p2, p3⟩ := put_env (h' := h') (M' := M') s1 s2 g2 (d := some t3) (dstOk_spec (d := some t3) (by simpa [dstOk] using hd3)) hvv
  exact hK3 _ _ (next B _ _ ⟨M', g1, p1, p2, by rw [p3, s3, q3]; exact c4.ext g2⟩)
end
end Go.Av
