/-
  append, copy, deferred calls, struct literals, bytes of a string, over abstract values. For every program.
-/
import Derived.Test.YtgofigkhdjjlmaaAvH
set_option linter.unusedVariables false
set_option linter.unusedSimpArgs false
namespace Go.Av
open Go Go.RowKit

/-- A slice value whose cells read as ys; the cells may lie anywhere. -/
def SrcR (ok : Nat → Prop) (w : World) (size k : Nat) (ys : List CV) (u : Value) : Prop :=
  ∃ A c us, u = .slice A k c ∧ ys.length = k * size ∧ RepCs ok w ys us ∧ (∀ u ∈ us, u.oneCell' = true) ∧ (0 < k → ∃ b o, A = some ⟨b, o, none⟩ ∧ ∀ j x, us[j]? = some x → w.cell? ⟨b, o + j, none⟩ = some x)
def Src (h : Heap) (v : AV) (size k : Nat) (ys : List CV) : Prop :=
  ∀ (B : Bs) (dom : Nat → Prop) (M : Nat → Option Nat) (H : Nat → Option AObj) (w : World) (u : Value), (∀ id o, lk h id = some o → dom id → H id = some o) → ConcH B dom M H w → Rep ⟨dom, M, okOf B dom M H, w⟩ v u → SrcR (okOf B dom M H) w size k ys u
section src
variable {h : Heap}
theorem src_c {size k : Nat} {ys : List CV} : Src h (.c (.sl size k ys)) size k ys := by
  intro B dom M H w u hh hc hu
  simp only [Rep, RepC] at hu
  obtain ⟨A, c, us, h1, h2, h3, h4, h5, h6, h7⟩ := hu
  exact ⟨A, c, us, h1, h4, h5, h6, fun hk => let ⟨b, o, e, _, _, hcell⟩ := h7 hk; ⟨b, o, e, hcell⟩⟩
theorem src_nil {size : Nat} : Src h (.c (.v (.slice none 0 0))) size 0 [] := by
  intro B dom M H w u hh hc hu
  simp only [Rep, RepC] at hu
  exact ⟨none, 0, [], hu, by simp, by simp [RepCs], by simp, fun h => absurd h (by omega)⟩
theorem src_own {id off k size : Nat} {full : Bool} {T : TypeId} {cs ys : List CV} (ho : lk h id = some (.row T cs)) (hy : (cs.drop off).take (k * size) = ys) (hl : ys.length = k * size) : Src h (.own id off k size full) size k ys := by
  intro B dom M H w u hh hc hu
  simp only [Rep] at hu
  obtain ⟨hd, hu⟩ := hu
  have hz : k = 0 → ys = [] := fun h0 => List.eq_nil_of_length_eq_zero (by rw [hl, h0]; simp)
  rcases hu with ⟨h1, h2, h3, h4⟩ | ⟨g, cp, h1, h2, h3, h4, h5⟩ | ⟨h1, h2, A, cp, h3, h4⟩
  · rw [hz h1] at hl ⊢
    exact ⟨none, 0, [], by rw [h4, h1], hl, by simp [RepCs], by simp, fun hn => absurd hn (by omega)⟩
  · obtain ⟨us, vs, hb, hr, hon⟩ := obj_row hh hc ho hd h1
    have h6 := (hr.drop off).take (k * size)
    rw [hy] at h6
    refine ⟨_, cp, (us.drop off).take (k * size), h2, hl, h6, fun u hu => hon u (List.mem_of_mem_drop (List.mem_of_mem_take hu)), fun hn => ⟨g, off, rfl, fun j x hj => ?_⟩⟩
    have hjk : j < k * size := by
      rcases Nat.lt_or_ge j (k * size) with h1 | h1
      · exact h1
      · rw [List.getElem?_eq_none (by rw [List.length_take]; omega)] at hj; cases hj
    rw [List.getElem?_take_of_lt hjk, List.getElem?_drop] at hj
    exact cell_row hb hj
  · rw [hz h1] at hl ⊢
    exact ⟨A, cp, [], by rw [h3, h1], hl, by simp [RepCs], by simp, fun hn => absurd hn (by omega)⟩
theorem src_ownW {id k size : Nat} {full : Bool} {T : TypeId} {cs : List CV} (ho : lk h id = some (.row T cs)) (hl : cs.length = k * size) : Src h (.own id 0 k size full) size k cs :=
  src_own ho (by rw [List.drop_zero, List.take_of_length_le (by omega)]) hl
end src

section app
variable {P : Program} {tab : Tab}

/-- What an append of the cells news to the row g leaves: written in place, or a new block. -/
theorem run_app {w : World} {T ty E : TypeId} {ti : TypeInfo} {z : Value} (ht : P.underlying T = some (.slice E)) (hi : P.info? E = some ti) (hz : ti.zero = some z) (hzs : z.cells.size = ti.size) {g n cap : Nat} {us vs : List Value} (hg : w.heap[g]? = some (.cells (us ++ vs).toArray E (0, 0))) (hul : us.length = n * ti.size) (hcap : (us ++ vs).length = cap * ti.size) (hnc : n ≤ cap) (hcm : cap ≤ maxLen)
    {ok : Nat → Prop} {m : Nat} {ys : List CV} {u : Value} (hu : SrcR ok w ti.size m ys u) (h63 : n + m ≤ maxLen) (hb : (n + m) * ti.bytes ≤ 140737488355328) :
    ∃ news, RepCs ok w ys news ∧ (∀ x ∈ news, x.oneCell' = true) ∧
      ((∃ vs', (Builtin.append_ #[T, T] ty #[.slice (some ⟨g, 0, none⟩) n cap, u]).run P w = .ok (.slice (some ⟨g, 0, none⟩) (n + m) cap) (w.setRow g ((us ++ news) ++ vs').toArray) ∧ ((us ++ news) ++ vs').length = (us ++ vs).length ∧ n + m ≤ cap) ∨
       (∃ cap' vs' w', (Builtin.append_ #[T, T] ty #[.slice (some ⟨g, 0, none⟩) n cap, u]).run P w = .ok (.slice (some ⟨w.heap.size, 0, none⟩) (n + m) cap') w' ∧ Below w.heap.size w w' ∧ w'.heap[w.heap.size]? = some (.cells ((us ++ news) ++ vs').toArray E (0, 0)) ∧ ((us ++ news) ++ vs').length = cap' * ti.size ∧ n + m ≤ cap' ∧ cap' ≤ maxLen)) := by
  obtain ⟨A, c, news, rfl, h4, h5, h6, h7⟩ := hu
  have hnl := h5.length
  refine ⟨news, h5, h6, ?_⟩
  rcases A with _ | ad
  · have hm : m = 0 := by
      rcases Nat.eq_zero_or_pos m with h0 | h0
      · exact h0
      · obtain ⟨b, o, he, _⟩ := h7 h0; cases he
    subst hm
    have : news = [] := List.eq_nil_of_length_eq_zero (by rw [hnl, h4]; simp)
    subst this
    refine .inl ⟨vs, ?_, by simp, by omega⟩
    rw [List.append_nil, setRow_self w g _ E (0, 0) hg]
    simp [Builtin.append_, run_underlying ht, sizeOf, typeInfo, hi, Builtin.lenOf, Builtin.firstCells, hnc, storeCells]
  · have hcells : ∀ j x, news[j]? = some x → w.cell? (ad.add j) = some x := by
      intro j x hx
      rcases Nat.eq_zero_or_pos m with h0 | h0
      · subst h0
        have : news = [] := List.eq_nil_of_length_eq_zero (by rw [hnl, h4]; simp)
        subst this
        simp at hx
      · obtain ⟨b, o, he, hc⟩ := h7 h0
        injection he with he
        subst he
        rw [add_mk]
        exact hc j x hx
    have hl : news.length = m * ti.size := by rw [hnl, h4]
    by_cases hroom : n + m ≤ cap
    · have hfit : n * ti.size + news.length ≤ (us ++ vs).toArray.size := by
        rw [hl, ← Nat.add_mul, List.size_toArray, hcap]; exact Nat.mul_le_mul_right _ hroom
      have hr := run_append_room (P := P) w T ty E ti ht hi g n cap _ hg ad m c news hl hcells h6 hroom hfit
      simp only [List.size_toArray] at hfit
      refine .inl ⟨vs.drop news.length, ?_, ?_, hroom⟩
      · rw [hr]
        congr 3
        simp only [List.toList_toArray]
        rw [List.take_append_of_le_length (by omega), List.take_of_length_le (by omega)]
        rw [List.drop_append, List.drop_of_length_le (by omega)]
        simp only [List.nil_append, hul]
        congr 2
        omega
      · simp only [List.length_append, List.length_drop] at hfit ⊢; omega
    · have holds : ∀ j x, us[j]? = some x → w.cell? ((⟨g, 0, none⟩ : Addr).add j) = some x := fun j x hx => by rw [add_mk, Nat.zero_add]; exact cell_row hg hx
      have hr := run_append_grow (P := P) w T ty E ti z ht hi hz ⟨g, 0, none⟩ n cap us hul holds ad m c news hl hcells (by omega) (by simp only [maxLen] at h63; omega) (growslice_fits (by omega) hb)
      have hge := grownCap_ge w (n + m) cap E
      have hle := grownCap_le_maxLen w (n + m) cap E h63
      refine .inr ⟨_, (Builtin.zeroCells z.cells (grownCap w (n + m) cap E - (n + m))).toList, _, hr, ?_, ?_, ?_, hge, hle⟩
      · exact ((Below.refl _ _).drew).alloc (Nat.le_refl _) _
      · rw [show w.heap.size = w.drew.heap.size from rfl, heap_alloc_new]
        congr 2
        apply Array.toList_inj.1
        simp
      · simp only [List.length_append, Array.length_toList, size_zeroCells, hzs, hl, hul, ← Nat.add_mul]
        congr 1; omega
/-- An append to a nil slice. -/
theorem run_appN {w : World} {T ty E : TypeId} {ti : TypeInfo} {z : Value} (ht : P.underlying T = some (.slice E)) (hi : P.info? E = some ti) (hz : ti.zero = some z) (hzs : z.cells.size = ti.size)
    {ok : Nat → Prop} {m : Nat} {ys : List CV} {u : Value} (hu : SrcR ok w ti.size m ys u) (h63 : m ≤ maxLen) (hb : m * ti.bytes ≤ 140737488355328) :
    ∃ news, RepCs ok w ys news ∧ (∀ x ∈ news, x.oneCell' = true) ∧
      ((m = 0 ∧ (Builtin.append_ #[T, T] ty #[.slice none 0 0, u]).run P w = .ok (.slice none 0 0) w) ∨
       (∃ cap' vs' w', (Builtin.append_ #[T, T] ty #[.slice none 0 0, u]).run P w = .ok (.slice (some ⟨w.heap.size, 0, none⟩) m cap') w' ∧ Below w.heap.size w w' ∧ w'.heap[w.heap.size]? = some (.cells (news ++ vs').toArray E (0, 0)) ∧ (news ++ vs').length = cap' * ti.size ∧ m ≤ cap' ∧ cap' ≤ maxLen)) := by
  obtain ⟨A, c, news, rfl, h4, h5, h6, h7⟩ := hu
  have hnl := h5.length
  refine ⟨news, h5, h6, ?_⟩
  by_cases h0 : m = 0
  · subst h0
    have : news = [] := List.eq_nil_of_length_eq_zero (by rw [hnl, h4]; simp)
    subst this
    refine .inl ⟨rfl, ?_⟩
    rcases A with _ | ad
    · simp [Builtin.append_, run_underlying ht, sizeOf, typeInfo, hi, Builtin.lenOf, Builtin.firstCells]
    · simp [Builtin.append_, run_underlying ht, sizeOf, typeInfo, hi, Builtin.lenOf, Builtin.firstCells, loadCells, loadCellsFrom]
  · obtain ⟨b, o, rfl, hc⟩ := h7 (by omega)
    have hr := run_append_nil (P := P) w T ty E ti z ht hi hz ⟨b, o, none⟩ m c news (by rw [hnl, h4]) (fun j x hx => by rw [add_mk]; exact hc j x hx) (by omega) (by simp only [maxLen] at h63; omega) (by omega)
    have hge := grownCap_ge w m 0 E
    have hle := grownCap_le_maxLen w m 0 E h63
    refine .inr ⟨_, (Builtin.zeroCells z.cells (grownCap w m 0 E - m)).toList, _, hr, ?_, ?_, ?_, hge, hle⟩
    · exact ((Below.refl _ _).drew).alloc (Nat.le_refl _) _
    · rw [show w.heap.size = w.drew.heap.size from rfl, heap_alloc_new]
      congr 2
      apply Array.toList_inj.1
      simp
    · simp only [List.length_append, Array.length_toList, size_zeroCells, hzs, hnl, h4, ← Nat.add_mul]
      congr 1; omega

variable {ev : Evl} {h : Heap} {d : Option Tmp} {T ty : TypeId} {x y : Operand} {pos : String} {aft : Array Edge} {gd : Option (Nat × Bool)} {i : Nat}
theorem exec_append {w : World} (ρ : Operand → Value) {v : Value} {w' : World} (hr : (Builtin.append_ #[T, T] ty #[ρ x, ρ y]).run P w = .ok v w') : (execOp ρ ⟨d, .call ⟨.builtin .append, #[x, y], #[T, T]⟩, ty, pos, aft, gd⟩).run P w = .ok (.value v) w' := by
  simp only [execOp, resolve, invoke, builtin, Sem.run_bind, Sem.run_pure, Result.andThen_ok, List.map_toArray, List.map_cons, List.map_nil, hr]

theorem a_appendN (tb : TabOk P tab) {e e' : TyE} {E size m : Nat} {vy : AV} {ys : List CV} (hT : tyLook tab T = some e) (hk : e.kind = .slice E) (hE : tyLook tab E = some e') (hs : Nat.beq e'.size size = true) (hz : Nat.beq e'.zero.length size = true)
    (hx : ev x = some (.c (.v (.slice none 0 0)))) (hy : ev y = some vy) (hf : Src h vy size m ys) (h63 : m ≤ maxLen) (hb : m * e'.bytes ≤ 140737488355328) :
    Adds P ⟨d, .call ⟨.builtin .append, #[x, y], #[T, T]⟩, ty, pos, aft, gd⟩ ev h (.own i 0 m size true) [(i, .row E ys)] i (i + 1) := by
  refine adds_one rfl fun B dom M H w a hh hcc he => ?_
  have h1 := he x _ hx
  simp only [Rep, RepC] at h1
  have h2 := hf B dom M H w _ hh hcc (he y _ hy)
  obtain ⟨ti, zv, hi, hzv, hszt, hby, hzc⟩ := zero_cells (tyLook_ok tb hE)
  have hs' := Nat.eq_of_beq_eq_true hs
  have hz' := Nat.eq_of_beq_eq_true hz
  have hzs : zv.cells.size = ti.size := by rw [← Array.length_toList, hzc, hz', hszt, hs']
  rw [← hs', ← hszt] at h2
  obtain ⟨news, n1, n2, n3⟩ := run_appN (P := P) (ty := ty) ((tyLook_ok tb hT).slice hk) hi hzv hzs h2 h63 (by rw [hby]; exact hb)
  rcases n3 with ⟨rfl, hr⟩ | ⟨cap', vs', w', hr, hb', hblk, hlen, hc1, hc2⟩
  · have : ys = [] := by
      obtain ⟨_, _, _, _, h4, _⟩ := h2
      exact List.eq_nil_of_length_eq_zero (by rw [h4]; simp)
    subst this
    exact ⟨_, w, none, exec_append a.eval (by rw [h1]; exact hr), Below.refl _ _, by simp, fun C hext hw hd hM => ⟨.inl ⟨rfl, rfl⟩, hd, .inl ⟨rfl, rfl, hM, rfl⟩⟩⟩
  · refine ⟨_, w', some w.heap.size, exec_append a.eval (by rw [h1]; exact hr), hb', fun g hg => by injection hg with hg; omega, fun C hext hw hd hM => ⟨.inr ⟨w.heap.size, news, vs', rfl, by rw [hw]; exact hblk, RepCs.mono hext.ok _ _ n1, n2⟩, hd, .inr (.inl ⟨w.heap.size, cap', hM, rfl, hc1, hc2, fun _ => ⟨E, ?_⟩⟩)⟩⟩
    unfold World.shape?
    rw [hw, hblk]
    simp only [List.size_toArray, Nat.zero_add]
    rw [hlen, hszt, hs']
end app

section steps
variable {P : Program} {tab : Tab} {sz n : Nat} {env : Env} {h : Heap} {dfs : Defs} {K : AK} {ops : Array Oper} {rest : List Oper} {d : Option Tmp} {T ty : TypeId} {x y : Operand} {pos : String} {aft : Array Edge} {gd : Option (Nat × Bool)}

/-- append to an own row: the row goes on under a new name. -/
theorem awl_append (tb : TabOk P tab) {e e' : TyE} {E size m k id : Nat} {vy : AV} {cs ys : List CV} (hg : guardA ops env ⟨d, .call ⟨.builtin .append, #[x, y], #[T, T]⟩, ty, pos, aft, gd⟩ true) (hd : dstOk d sz = true) (hT : tyLook tab T = some e) (hk : e.kind = .slice E) (hE : tyLook tab E = some e') (hs : Nat.beq e'.size size = true) (hz : Nat.beq e'.zero.length size = true)
    (hx : evA env x = some (.own id 0 m size true)) (ho : lk h id = some (.row E cs)) (hcl : cs.length = m * size) (hy : evA env y = some vy) (hf : Src h vy size k ys) (h63 : m + k ≤ maxLen) (hb : (m + k) * e'.bytes ≤ 140737488355328)
    (next : AWL P ops sz rest K (n + 1) (putE env d (.own n 0 (m + k) size true)) ((n, .row E (cs ++ ys)) :: (id, .dead) :: h) dfs) :
    AWL P ops sz (⟨d, .call ⟨.builtin .append, #[x, y], #[T, T]⟩, ty, pos, aft, gd⟩ :: rest) K n env h dfs := by
  intro B a w hc
  obtain ⟨M, c1, c2, c3, c4⟩ := hc
  refine wpList_step fun K' hK' => ?_
  rw [if_pos (hg.wanted c3)]
  have hrx := rep_eval c3 x _ hx
  have hry := rep_eval c3 y _ hy
  have hid : id < n := by simp only [Rep] at hrx; exact hrx.1
  have h2 := hf B (lt n) M (lk h) w _ (fun id o h _ => h) c1 hry
  obtain ⟨ti, zv, hi, hzv, hszt, hby, hzc⟩ := zero_cells (tyLook_ok tb hE)
  have hs' := Nat.eq_of_beq_eq_true hs
  have hz' := Nat.eq_of_beq_eq_true hz
  have hzs : zv.cells.size = ti.size := by rw [← Array.length_toList, hzc, hz', hszt, hs']
  rw [← hs', ← hszt] at h2
  have hsl := (tyLook_ok tb hT).slice hk
  -- what the walk goes on with, given the new block
  have fin : ∀ (w' : World) (gq : Option Nat) (u : Value), w'.os = w.os → w'.tape = w.tape → w'.output = w.output → w.heap.size ≤ w'.heap.size → (∀ b, b < w.heap.size → M id ≠ some b → w'.heap[b]? = w.heap[b]?) → (∀ b s, w.shape? b = some s → w'.shape? b = some s) →
      (∀ g, gq = some g → M id = some g ∨ w.heap.size ≤ g) →
      (∀ C, Ext (cx B n M h w) C → C.w = w' → C.dom n → C.M n = gq → ObjRep C gq (.row E (cs ++ ys)) ∧ Rep C (.own n 0 (m + k) size true) u) →
      K' (a.put d u) w' := by
    intro w' gq u e1 e2 e3 e4 e5 e6 e7 e8
    let M' : Nat → Option Nat := fun q => if q = n then gq else M q
    let h' : Heap := (n, .row E (cs ++ ys)) :: (id, .dead) :: h
    have hMn : M' n = gq := by simp [M']
    have hMo : ∀ q, q < n → M' q = M q := fun q hq => by have : q ≠ n := by omega
                                                         simp [M', this]
    have hln : lk h' n = some (.row E (cs ++ ys)) := by simp only [h', lk_cons, if_true]; rfl
    have hlid : lk h' id = none := by simp only [h', lk_cons]; rw [if_neg (by omega)]; simp [AObj.live]
    have hlo : ∀ q, q < n → q ≠ id → lk h' q = lk h q := fun q hq hqi => by simp only [h', lk_cons]; rw [if_neg (by omega), if_neg (fun e => hqi e.symm)]
    have hobj : ∀ q o, q < n + 1 → lk h' q = some o → (q = n ∧ o = .row E (cs ++ ys)) ∨ (q < n ∧ q ≠ id ∧ lk h q = some o) := fun q o hq hH => by
      by_cases hqn : q = n
      · subst hqn; rw [hln] at hH; injection hH with hH; exact .inl ⟨rfl, hH.symm⟩
      · have hqn' : q < n := by omega
        by_cases hqi : q = id
        · subst hqi; rw [hlid] at hH; cases hH
        · rw [hlo q hqn' hqi] at hH; exact .inr ⟨hqn', hqi, hH⟩
    have hext : Ext (cx B n M h w) (cx B (n + 1) M' h' w') := by
      refine ⟨fun q hq => ⟨Nat.lt_succ_of_lt hq, hMo q hq⟩, fun b hb1 hb2 => ⟨⟨hb1.1, fun q o hq hH he => ?_⟩, Nat.lt_of_lt_of_le hb2 e4, e5 b hb2 (fun he => hb1.2 id _ hid ho he)⟩, fun b s hbs => e6 b s hbs⟩
      rcases hobj q o hq hH with ⟨rfl, rfl⟩ | ⟨h1, h3, h4⟩
      · rw [hMn] at he
        rcases e7 b he with h1 | h1
        · exact hb1.2 id _ hid ho h1
        · simp only [cx] at hb2; omega
      · rw [hMo q h1] at he; exact hb1.2 q o h1 h4 he
    have e8' := e8 _ hext rfl (Nat.lt_succ_self n) hMn
    have hcc : ConcH B (lt (n + 1)) M' (lk h') w' := by
      refine ⟨⟨e1.trans c1.fr.os, e2.trans c1.fr.tape, e3.trans c1.fr.output, Nat.le_trans c1.fr.size e4, fun b h1 h3 => ?_⟩, fun q o hq hH => ?_, fun q q' o o' g h1 h3 h4 h5 h6 h7 => ?_, fun q o g hq hH he => ?_⟩
      · rw [e5 b (Nat.lt_of_lt_of_le h1 c1.fr.size) (fun he => ?_)]
        · exact c1.fr.block b h1 h3
        · rcases c1.lo id _ b hid ho he with h4 | h4
          · omega
          · exact h3 h4
      · rcases hobj q o hq hH with ⟨rfl, rfl⟩ | ⟨h1, h3, h4⟩
        · rw [hMn]; exact e8'.1
        · rw [hMo q h1]
          have h5 := c1.obj q o h1 h4
          exact h5.ext hext (fun b hb => e5 b (h5.lt b hb) (fun he => h3 (c1.inj q id o _ b h1 hid h4 ho hb he)))
      · rcases hobj q o h1 h4 with ⟨rfl, rfl⟩ | ⟨p1, p2, p3⟩ <;> rcases hobj q' o' h3 h5 with ⟨rfl, rfl⟩ | ⟨r1, r2, r3⟩
        · rfl
        · rw [hMn] at h6; rw [hMo q' r1] at h7
          rcases e7 g h6 with t1 | t1
          · exact absurd (c1.inj q' id o' _ g r1 hid r3 ho h7 t1) r2
          · have := (c1.obj q' o' r1 r3).lt g h7; simp only at this; omega
        · rw [hMn] at h7; rw [hMo q p1] at h6
          rcases e7 g h7 with t1 | t1
          · exact absurd (c1.inj q id o _ g p1 hid p3 ho h6 t1) p2
          · have := (c1.obj q o p1 p3).lt g h6; simp only at this; omega
        · rw [hMo q p1] at h6; rw [hMo q' r1] at h7
          exact c1.inj q q' o o' g p1 r1 p3 r3 h6 h7
      · rcases hobj q o hq hH with ⟨rfl, rfl⟩ | ⟨h1, h3, h4⟩
        · rw [hMn] at he
          rcases e7 g he with t1 | t1
          · exact c1.lo id _ g hid ho t1
          · have := c1.fr.size; exact .inl (by omega)
        · rw [hMo q h1] at he; exact c1.lo q o g h1 h4 he
    obtain ⟨p1, p2, p3⟩ := put_env (h' := h') (M' := M') c2 c3 hext (dstOk_spec hd) e8'.2
    exact hK' _ _ (next B _ _ ⟨M', hcc, p1, p2, by rw [p3]; exact c4.ext hext⟩)
  unfold Oper.wp
  simp only [Rep] at hrx
  rcases hrx.2 with ⟨q1, q2, q3, q4⟩ | ⟨g, cp, q1, q2, q3, q4, q5⟩ | ⟨_, q2, _⟩
  · subst q1
    obtain rfl : cs = [] := List.eq_nil_of_length_eq_zero (by simpa using hcl)
    obtain ⟨news, n1, n2, n3⟩ := run_appN (P := P) (ty := ty) hsl hi hzv hzs h2 (by simpa using h63) (by rw [hby]; simpa using hb)
    rcases n3 with ⟨r1, hr⟩ | ⟨cap', vs', w', hr, hb', hblk, hlen, hc1, hc2⟩
    · have hys : ys = [] := List.eq_nil_of_length_eq_zero (by
        obtain ⟨_, _, _, _, h4, _⟩ := h2
        rw [h4, r1]; simp)
      rw [exec_append a.eval (w' := w) (v := .slice none 0 0) (by rw [q4]; exact hr)]
      simp only [Oper.upon]
      refine fin w none _ rfl rfl rfl (Nat.le_refl _) (fun _ _ _ => rfl) (fun _ _ h => h) (by simp) (fun C hext hw hdn hMn => ⟨.inl ⟨rfl, by rw [hys]; rfl⟩, hdn, .inl ⟨by omega, rfl, hMn, rfl⟩⟩)
    · rw [exec_append a.eval (w' := w') (v := .slice (some ⟨w.heap.size, 0, none⟩) k cap') (by rw [q4]; exact hr)]
      simp only [Oper.upon]
      refine fin w' (some w.heap.size) _ hb'.os hb'.tape hb'.output hb'.size (fun b hb2 _ => hb'.block b hb2) (fun b s hs => by rw [shape_same (hb'.block b (shape_lt hs))]; exact hs) (fun g hg => by injection hg with hg; exact .inr (by omega)) (fun C hext hw hdn hMn => ⟨.inr ⟨w.heap.size, news, vs', rfl, by rw [hw]; exact hblk, ?_, n2⟩, hdn, .inr (.inl ⟨w.heap.size, cap', hMn, by simp, by omega, hc2, fun _ => ⟨E, ?_⟩⟩)⟩)
      · rw [List.nil_append]
        exact RepCs.mono hext.ok _ _ n1
      · unfold World.shape?
        rw [hw, hblk]
        simp only [List.size_toArray, Nat.zero_add]
        rw [hlen, hszt, hs']
  · obtain ⟨us, vs, hblk0, hus, hon⟩ := obj_row (fun id o h _ => h) c1 ho hid q1
    obtain ⟨e0, hsh⟩ := q5 trivial
    have hcap : (us ++ vs).length = cp * ti.size := by
      have hsh' : w.shape? g = some (E, (us ++ vs).length) := by
        unfold World.shape?
        rw [hblk0]; simp
      simp only [cx] at hsh
      rw [hsh'] at hsh
      injection hsh with hsh
      have := congrArg Prod.snd hsh
      simp only [Nat.zero_add] at this
      rw [this, hszt, hs']
    obtain ⟨news, n1, n2, n3⟩ := run_app (P := P) (ty := ty) hsl hi hzv hzs hblk0 (by rw [hus.length, hcl, hszt, hs']) hcap q3 q4 h2 h63 (by rw [hby]; exact hb)
    rcases n3 with ⟨vs', hr, hlen, hroom⟩ | ⟨cap', vs', w', hr, hb', hblk, hlen, hc1, hc2⟩
    · rw [exec_append a.eval (v := .slice (some ⟨g, 0, none⟩) (m + k) cp) (by rw [q2]; exact hr)]
      simp only [Oper.upon]
      have hnew := setRow_heap w g _ ((us ++ news) ++ vs').toArray E _ hblk0
      have hshp : ∀ b s, w.shape? b = some s → (w.setRow g ((us ++ news) ++ vs').toArray).shape? b = some s := fun b s hs => by
        by_cases hbg : b = g
        · subst hbg
          rw [← hs]
          unfold World.shape?
          rw [hnew, hblk0]
          simp only [List.size_toArray, hlen]
        · rw [shape_same (setRow_other w g b _ hbg)]; exact hs
      refine fin _ (some g) _ rfl rfl rfl (by simp) (fun b _ hb2 => setRow_other w g b _ (fun e => hb2 (by rw [e]; exact q1))) hshp (fun g' hg' => by injection hg' with hg'; subst hg'; exact .inl q1) (fun C hext hw hdn hMn => ⟨.inr ⟨g, us ++ news, vs', rfl, by rw [hw]; exact hnew, RepCs.mono hext.ok _ _ (hus.append n1), fun u hu => (List.mem_append.1 hu).elim (hon u) (n2 u)⟩, hdn, .inr (.inl ⟨g, cp, hMn, rfl, hroom, q4, fun _ => ⟨e0, ?_⟩⟩)⟩)
      rw [hw]
      exact hshp _ _ hsh
    · rw [exec_append a.eval (v := .slice (some ⟨w.heap.size, 0, none⟩) (m + k) cap') (w' := w') (by rw [q2]; exact hr)]
      simp only [Oper.upon]
      refine fin w' (some w.heap.size) _ hb'.os hb'.tape hb'.output hb'.size (fun b hb2 _ => hb'.block b hb2) (fun b s hs => by rw [shape_same (hb'.block b (shape_lt hs))]; exact hs) (fun g hg => by injection hg with hg; exact .inr (by omega)) (fun C hext hw hdn hMn => ⟨.inr ⟨w.heap.size, us ++ news, vs', rfl, by rw [hw]; exact hblk, RepCs.mono hext.ok _ _ (hus.append n1), fun u hu => (List.mem_append.1 hu).elim (hon u) (n2 u)⟩, hdn, .inr (.inl ⟨w.heap.size, cap', hMn, rfl, hc1, hc2, fun _ => ⟨E, ?_⟩⟩)⟩)
      unfold World.shape?
      rw [hw, hblk]
      simp only [List.size_toArray, Nat.zero_add]
      rw [hlen, hszt, hs']
  · cases q2

/-- copy of all cells of the source into an own row. -/
theorem awl_copy (tb : TabOk P tab) {e e' : TyE} {E T' Tb size k m id off : Nat} {full : Bool} {vy : AV} {cs ys : List CV} (hg : guardA ops env ⟨d, .call ⟨.builtin .copy, #[x, y], #[T, T']⟩, ty, pos, aft, gd⟩ true) (hd : dstOk d sz = true) (hT : tyLook tab T = some e) (hk : e.kind = .slice E) (hE : tyLook tab E = some e') (hs : Nat.beq e'.size size = true)
    (hx : evA env x = some (.own id off k size full)) (ho : lk h id = some (.row Tb cs)) (hy : evA env y = some vy) (hf : Src h vy size m ys) (hmk : m ≤ k) (hfit : off + m * size ≤ cs.length)
    (next : AWL P ops sz rest K n (putE env d (.c (.v (.int .i64 m)))) ((id, .row Tb (lay cs off ys)) :: h) dfs) :
    AWL P ops sz (⟨d, .call ⟨.builtin .copy, #[x, y], #[T, T']⟩, ty, pos, aft, gd⟩ :: rest) K n env h dfs := by
  intro B a w hc
  obtain ⟨M, c1, c2, c3, c4⟩ := hc
  refine wpList_step fun K' hK' => ?_
  rw [if_pos (hg.wanted c3)]
  have hrx := rep_eval c3 x _ hx
  obtain ⟨A, c, news, hu, h4, h5, h6, h7⟩ := hf B (lt n) M (lk h) w _ (fun id o h _ => h) c1 (rep_eval c3 y _ hy)
  have hnl := h5.length
  have hs' := Nat.eq_of_beq_eq_true hs
  have hsz := (tyLook_ok tb hE).sizeOf w
  rw [hs'] at hsz
  have hsl := (tyLook_ok tb hT).slice hk
  have hid : id < n := by simp only [Rep] at hrx; exact hrx.1
  have hslice : ∃ Ax cx', a.eval x = .slice Ax k cx' := by
    simp only [Rep] at hrx
    obtain ⟨_, ⟨h1, _, _, h4⟩ | ⟨g, cp, _, h2, _⟩ | ⟨h1, _, A, cp, h3, _⟩⟩ := hrx
    · exact ⟨none, 0, by rw [h4, h1]⟩
    · exact ⟨_, _, h2⟩
    · exact ⟨A, cp, by rw [h3, h1]⟩
  have fin : ∀ (w' : World), ConcH B (lt n) M (lk ((id, .row Tb (lay cs off ys)) :: h)) w' → Ext (cx B n M h w) (cx B n M ((id, .row Tb (lay cs off ys)) :: h) w') → K' (a.put d (.int .i64 m)) w' := fun w' k1 k2 => by
    obtain ⟨p1, p2, p3⟩ := put_env (v := .c (.v (.int .i64 m))) (u := .int .i64 m) (M' := M) (h' := (id, .row Tb (lay cs off ys)) :: h) (n' := n) c2 c3 k2 (dstOk_spec hd) rfl
    exact hK' _ _ (next B _ _ ⟨M, k1, p1, p2, by rw [p3]; exact c4.ext k2⟩)
  unfold Oper.wp
  rcases Nat.eq_zero_or_pos m with h0 | h0
  · subst h0
    have hys : ys = [] := List.eq_nil_of_length_eq_zero (by rw [h4]; simp)
    subst hys
    have hnews : news = [] := List.eq_nil_of_length_eq_zero (by rw [hnl]; simp)
    obtain ⟨Ax, cx', hx'⟩ := hslice
    have hrun : (execOp a.eval ⟨d, .call ⟨.builtin .copy, #[x, y], #[T, T']⟩, ty, pos, aft, gd⟩).run P w = .ok (.value (.int .i64 (0 : Nat))) w := by
      cases A with
      | none => cases Ax <;> simp [execOp, resolve, invoke, builtin, Builtin.copy_, hx', hu, run_underlying hsl, Builtin.lenOf, Builtin.firstCells, hsz, storeCells, goInt]
      | some p => cases Ax <;> simp [execOp, resolve, invoke, builtin, Builtin.copy_, hx', hu, run_underlying hsl, Builtin.lenOf, Builtin.firstCells, hsz, storeCells, goInt, loadCells, loadCellsFrom]
    rw [hrun]
    simp only [Oper.upon]
    have hlay : lay cs off ([] : List CV) = cs := by simp [lay]
    have hlk : lk ((id, .row Tb (lay cs off ([] : List CV))) :: h) = lk h := by
      funext q
      rw [lk_cons, hlay]
      split
      · rename_i e; subst e; exact ho.symm
      · rfl
    refine fin w (by rw [hlk]; exact c1) ?_
    unfold cx
    rw [hlk]
    exact Ext.refl _
  · obtain ⟨hidd, g, cp, q1, q2, q3, q4, _⟩ := own_some hrx (by omega)
    obtain ⟨us, vs, hb, hus, hon⟩ := obj_row (fun id o h _ => h) c1 ho hid q1
    obtain ⟨b, o, rfl, hcell⟩ := h7 h0
    have hul := hus.length
    have hl : news.length = m * size := by rw [hnl, h4]
    have hfc := run_firstCells_some (P := P) w size m ⟨b, o, none⟩ m c news hl (fun j x hx => by rw [add_mk]; exact hcell j x hx)
    have hst := run_storeCells_at P g off Tb news 0 (us ++ vs).toArray w hb (by simp; omega) h6
    simp only [Nat.add_zero, List.toList_toArray] at hst
    have hset : (us ++ vs).take off ++ news ++ (us ++ vs).drop (off + news.length) = lay us off news ++ vs := by
      rw [List.take_append_of_le_length (by omega), List.drop_append_of_le_length (by omega)]
      simp [lay]
    rw [hset] at hst
    have hmin : Nat.min m k = m := Nat.min_eq_left hmk
    have hrun : (execOp a.eval ⟨d, .call ⟨.builtin .copy, #[x, y], #[T, T']⟩, ty, pos, aft, gd⟩).run P w = .ok (.value (.int .i64 m)) (w.setRow g (lay us off news ++ vs).toArray) := by
      simp only [execOp, resolve, invoke, builtin, Sem.run_bind, Sem.run_pure, Result.andThen_ok, List.map_toArray, List.map_cons, List.map_nil, q2, hu, Builtin.copy_]
      simp [run_underlying hsl, Builtin.lenOf, hmin, hsz, hfc, hst, goInt]
    rw [hrun]
    simp only [Oper.upon]
    obtain ⟨k1, k2⟩ := c1.turn (o' := .row Tb (lay cs off ys)) (w' := w.setRow g (lay us off news ++ vs).toArray) rfl hid ho q1 rfl rfl rfl (by simp) (fun k hk => setRow_other w g k _ hk) (shape_setRow hb (by rw [List.length_append, lay_length _ _ _ (by omega), List.length_append]))
      (fun hext => .inr ⟨g, _, vs, rfl, setRow_heap w g _ _ Tb _ hb, RepCs.mono hext.ok _ _ (by
        unfold lay
        rw [hnl]
        exact ((hus.take off).append h5).append (hus.drop (off + ys.length))), fun u hu => by
          unfold lay at hu
          rcases List.mem_append.1 hu with hu | hu
          · rcases List.mem_append.1 hu with hu | hu
            · exact hon u (List.mem_of_mem_take hu)
            · exact h6 u hu
          · exact hon u (List.mem_of_mem_drop hu)⟩)
    exact fin _ k1 k2

/-- A deferred closure. -/
theorem awl_defer {f : FuncId} {caps : List AV} (hg : guardA ops env ⟨none, .defer ⟨.value x, #[], #[]⟩, ty, pos, aft, gd⟩ true) (hx : evA env x = some (.fn f caps))
    (next : AWL P ops sz rest K n env h ((some f, caps) :: dfs)) : AWL P ops sz (⟨none, .defer ⟨.value x, #[], #[]⟩, ty, pos, aft, gd⟩ :: rest) K n env h dfs := by
  intro B a w hc
  obtain ⟨M, c1, c2, c3, c4⟩ := hc
  refine wpList_step fun K' hK' => ?_
  rw [if_pos (hg.wanted c3)]
  obtain ⟨us, hu, hus⟩ := rep_eval c3 x _ hx
  unfold Oper.wp
  have hrun : (execOp a.eval ⟨none, .defer ⟨.value x, #[], #[]⟩, ty, pos, aft, gd⟩).run P w = .ok (.defer { target := .fn (.func f) us.toArray, args := #[] }) w := by
    simp [execOp, resolve, hu, Deferred.ofValue]
  rw [hrun]
  simp only [Oper.upon, Act.put]
  exact hK' _ _ (next B _ _ ⟨M, c1, c2, c3, us, _, rfl, hus, c4⟩)
end steps
end Go.Av
