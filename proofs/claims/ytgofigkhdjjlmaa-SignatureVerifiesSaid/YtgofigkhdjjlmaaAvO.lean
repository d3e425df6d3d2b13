/-
  Walking regions that draw their order and append in the midst. For every program.
-/
import Derived.Test.YtgofigkhdjjlmaaAvM
set_option linter.unusedVariables false
set_option linter.unusedSimpArgs false
namespace Go.Av
open Go Go.RowKit
section
variable {P : Program} {tab : Tab} {ev : Evl} {h : Heap} {d : Option Tmp} {T ty : TypeId} {x y : Operand} {pos : String} {aft : Array Edge} {gd : Option (Nat × Bool)} {i : Nat}
/-- append to an own row: the row goes on under a new name. -/
theorem e_append (tb : TabOk P tab) {e e' : TyE} {E size m k id : Nat} {vy : AV} {cs ys : List CV} (hT : tyLook tab T = some e) (hk : e.kind = .slice E) (hE : tyLook tab E = some e') (hs : Nat.beq e'.size size = true) (hz : Nat.beq e'.zero.length size = true)
    (hx : ev x = some (.own id 0 m size true)) (ho : lk h id = some (.row E cs)) (hcl : cs.length = m * size) (hy : ev y = some vy) (hf : Src h vy size k ys) (h63 : m + k ≤ maxLen) (hb : (m + k) * e'.bytes ≤ 140737488355328) :
    EStep P ⟨d, .call ⟨.builtin .append, #[x, y], #[T, T]⟩, ty, pos, aft, gd⟩ ev h (.own i 0 (m + k) size true) [(i, .row E (cs ++ ys))] (some (id, none)) i (i + 1) := by
  intro B dom M H w a K' Q hh hn c1 he hK'
  have hrx := he x _ hx
  have hry := he y _ hy
  have hid : dom id := by simp only [Rep] at hrx; exact hrx.1
  have hi0 := hn i (Nat.le_refl _) (Nat.lt_succ_self _)
  have hidi : id ≠ i := fun e => hi0.1 (e ▸ hid)
  have hoH := hh id _ ho hid
  have h2 := hf B dom M H w _ hh c1 hry
  obtain ⟨ti, zv, hi, hzv, hszt, hby, hzc⟩ := zero_cells (tyLook_ok tb hE)
  have hs' := Nat.eq_of_beq_eq_true hs
  have hz' := Nat.eq_of_beq_eq_true hz
  have hzs : zv.cells.size = ti.size := by rw [← Array.length_toList, hzc, hz', hszt, hs']
  rw [← hs', ← hszt] at h2
  have hsl := (tyLook_ok tb hT).slice hk
  have fin : ∀ (w' : World) (gq : Option Nat) (u : Value), w'.os = w.os → w'.tape = w.tape → w'.output = w.output → w.heap.size ≤ w'.heap.size → (∀ b, b < w.heap.size → M id ≠ some b → w'.heap[b]? = w.heap[b]?) → (∀ b s, w.shape? b = some s → w'.shape? b = some s) →
      (∀ g, gq = some g → M id = some g ∨ w.heap.size ≤ g) →
      (∀ C, Ext ⟨dom, M, okOf B dom M H, w⟩ C → C.w = w' → C.dom i → C.M i = gq → ObjRep C gq (.row E (cs ++ ys)) ∧ Rep C (.own i 0 (m + k) size true) u) →
      K' (a.put d u) w' := by
    intro w' gq u e1 e2 e3 e4 e5 e6 e7 e8
    let M' : Nat → Option Nat := fun q => if q = i then gq else M q
    have hMn : M' i = gq := by simp [M']
    have hMo : ∀ q, dom q → M' q = M q := fun q hq => by
      have : q ≠ i := fun e => hi0.1 (e ▸ hq)
      simp [M', this]
    have hln : H i = some (.row E (cs ++ ys)) := by rw [hi0.2, lk_cons, if_pos rfl]; rfl
    have hobj : ∀ q o, ad dom i (i + 1) q → ov (some (id, none)) H q = some o → (q = i ∧ o = .row E (cs ++ ys)) ∨ (dom q ∧ q ≠ id ∧ H q = some o) := fun q o hq hH => by
      by_cases hqi : q = id
      · subst hqi; rw [ov_eq] at hH; cases hH
      · rw [ov_ne (fun x e => hqi (congrArg Prod.fst (Option.some.inj e)).symm)] at hH
        rcases hq with hq | ⟨hq1, hq2⟩
        · exact .inr ⟨hq, hqi, hH⟩
        · obtain rfl : q = i := by omega
          rw [hln] at hH; injection hH with hH; exact .inl ⟨rfl, hH.symm⟩
    have hext : Ext ⟨dom, M, okOf B dom M H, w⟩ ⟨ad dom i (i + 1), M', okOf B (ad dom i (i + 1)) M' (ov (some (id, none)) H), w'⟩ := by
      refine ⟨fun q hq => ⟨.inl hq, hMo q hq⟩, fun b hb1 hb2 => ⟨⟨hb1.1, fun q o hq hH he => ?_⟩, Nat.lt_of_lt_of_le hb2 e4, e5 b hb2 (fun he => hb1.2 id _ hid hoH he)⟩, fun b s hbs => e6 b s hbs⟩
      rcases hobj q o hq hH with ⟨rfl, rfl⟩ | ⟨h1, h3, h4⟩
      · rw [hMn] at he
        rcases e7 b he with h1 | h1
        · exact hb1.2 id _ hid hoH h1
        · simp only at hb2; omega
      · rw [hMo q h1] at he; exact hb1.2 q o h1 h4 he
    have hdi : ad dom i (i + 1) i := .inr ⟨Nat.le_refl _, Nat.lt_succ_self _⟩
    have e8' := e8 _ hext rfl hdi hMn
    have hcc : ConcH B (ad dom i (i + 1)) M' (ov (some (id, none)) H) w' := by
      refine ⟨⟨e1.trans c1.fr.os, e2.trans c1.fr.tape, e3.trans c1.fr.output, Nat.le_trans c1.fr.size e4, fun b h1 h3 => ?_⟩, fun q o hq hH => ?_, fun q q' o o' g h1 h3 h4 h5 h6 h7 => ?_, fun q o g hq hH he => ?_⟩
      · rw [e5 b (Nat.lt_of_lt_of_le h1 c1.fr.size) (fun he => ?_)]
        · exact c1.fr.block b h1 h3
        · rcases c1.lo id _ b hid hoH he with h4 | h4
          · omega
          · exact h3 h4
      · rcases hobj q o hq hH with ⟨rfl, rfl⟩ | ⟨h1, h3, h4⟩
        · rw [hMn]; exact e8'.1
        · rw [hMo q h1]
          have h5 := c1.obj q o h1 h4
          exact h5.ext hext (fun b hb => e5 b (h5.lt b hb) (fun he => h3 (c1.inj q id o _ b h1 hid h4 hoH hb he)))
      · rcases hobj q o h1 h4 with ⟨rfl, rfl⟩ | ⟨p1, p2, p3⟩ <;> rcases hobj q' o' h3 h5 with ⟨rfl, rfl⟩ | ⟨r1, r2, r3⟩
        · rfl
        · rw [hMn] at h6; rw [hMo q' r1] at h7
          rcases e7 g h6 with t1 | t1
          · exact absurd (c1.inj q' id o' _ g r1 hid r3 hoH h7 t1) r2
          · have := (c1.obj q' o' r1 r3).lt g h7; simp only at this; omega
        · rw [hMn] at h7; rw [hMo q p1] at h6
          rcases e7 g h7 with t1 | t1
          · exact absurd (c1.inj q id o _ g p1 hid p3 hoH h6 t1) p2
          · have := (c1.obj q o p1 p3).lt g h6; simp only at this; omega
        · rw [hMo q p1] at h6; rw [hMo q' r1] at h7
          exact c1.inj q q' o o' g p1 r1 p3 r3 h6 h7
      · rcases hobj q o hq hH with ⟨rfl, rfl⟩ | ⟨h1, h3, h4⟩
        · rw [hMn] at he
          rcases e7 g he with t1 | t1
          · exact c1.lo id _ g hid hoH t1
          · have := c1.fr.size; exact .inl (by omega)
        · rw [hMo q h1] at he; exact c1.lo q o g h1 h4 he
    exact hK' u w' M' hext hcc e8'.2
  unfold Oper.wp
  simp only [Rep] at hrx
  rcases hrx.2 with ⟨q1, q2, q3, q4⟩ | ⟨g, cp, q1, q2, q3, q4, q5⟩ | ⟨_, q2, _⟩
  · subst q1
    obtain rfl : cs = [] := List.eq_nil_of_length_eq_zero (by simpa using hcl)
    obtain ⟨news, n1, n2, n3⟩ := run_appN (P := P) (ty := ty) hsl hi hzv hzs h2 (by simpa using h63) (by rw [hby]; simpa using hb)
    rcases n3 with ⟨r1, hr⟩ | ⟨cap', vs', w', hr, hb', hblk, hlen, hc1, hc2⟩
    · have hys : ys = [] := List.eq_nil_of_length_eq_zero (by
        obtain ⟨_, _, _, _, h4, _⟩ := h2
        rw [h4, r1]; simp)
      rw [exec_append a.eval (w' := w) (v := .slice none 0 0) (by rw [q4]; exact hr)]
      simp only [Oper.upon]
      refine fin w none _ rfl rfl rfl (Nat.le_refl _) (fun _ _ _ => rfl) (fun _ _ h => h) (by simp) (fun C hext hw hdn hMn => ⟨.inl ⟨rfl, by rw [hys]; rfl⟩, hdn, .inl ⟨by omega, rfl, hMn, rfl⟩⟩)
    · rw [exec_append a.eval (w' := w') (v := .slice (some ⟨w.heap.size, 0, none⟩) k cap') (by rw [q4]; exact hr)]
      simp only [Oper.upon]
      refine fin w' (some w.heap.size) _ hb'.os hb'.tape hb'.output hb'.size (fun b hb2 _ => hb'.block b hb2) (fun b s hs => by rw [shape_same (hb'.block b (shape_lt hs))]; exact hs) (fun g hg => by injection hg with hg; exact .inr (by omega)) (fun C hext hw hdn hMn => ⟨.inr ⟨w.heap.size, news, vs', rfl, by rw [hw]; exact hblk, ?_, n2⟩, hdn, .inr (.inl ⟨w.heap.size, cap', hMn, by simp, by omega, hc2, fun _ => ⟨E, ?_⟩⟩)⟩)
      · rw [List.nil_append]
        exact RepCs.mono hext.ok _ _ n1
      · unfold World.shape?
        rw [hw, hblk]
        simp only [List.size_toArray, Nat.zero_add]
        rw [hlen, hszt, hs']
  · obtain ⟨us, vs, hblk0, hus, hon⟩ := obj_row hh c1 ho hid q1
    obtain ⟨e0, hsh⟩ := q5 trivial
    have hcap : (us ++ vs).length = cp * ti.size := by
      have hsh' : w.shape? g = some (E, (us ++ vs).length) := by
        unfold World.shape?
        rw [hblk0]; simp
      skip
      rw [hsh'] at hsh
      injection hsh with hsh
      have := congrArg Prod.snd hsh
      simp only [Nat.zero_add] at this
      rw [this, hszt, hs']
    obtain ⟨news, n1, n2, n3⟩ := run_app (P := P) (ty := ty) hsl hi hzv hzs hblk0 (by rw [hus.length, hcl, hszt, hs']) hcap q3 q4 h2 h63 (by rw [hby]; exact hb)
    rcases n3 with ⟨vs', hr, hlen, hroom⟩ | ⟨cap', vs', w', hr, hb', hblk, hlen, hc1, hc2⟩
    · rw [exec_append a.eval (v := .slice (some ⟨g, 0, none⟩) (m + k) cp) (by rw [q2]; exact hr)]
      simp only [Oper.upon]
      have hnew := setRow_heap w g _ ((us ++ news) ++ vs').toArray E _ hblk0
      have hshp : ∀ b s, w.shape? b = some s → (w.setRow g ((us ++ news) ++ vs').toArray).shape? b = some s := fun b s hs => by
        by_cases hbg : b = g
        · subst hbg
          rw [← hs]
          unfold World.shape?
          rw [hnew, hblk0]
          simp only [List.size_toArray, hlen]
        · rw [shape_same (setRow_other w g b _ hbg)]; exact hs
      refine fin _ (some g) _ rfl rfl rfl (by simp) (fun b _ hb2 => setRow_other w g b _ (fun e => hb2 (by rw [e]; exact q1))) hshp (fun g' hg' => by injection hg' with hg'; subst hg'; exact .inl q1) (fun C hext hw hdn hMn => ⟨.inr ⟨g, us ++ news, vs', rfl, by rw [hw]; exact hnew, RepCs.mono hext.ok _ _ (hus.append n1), fun u hu => (List.mem_append.1 hu).elim (hon u) (n2 u)⟩, hdn, .inr (.inl ⟨g, cp, hMn, rfl, hroom, q4, fun _ => ⟨e0, ?_⟩⟩)⟩)
      rw [hw]
      exact hshp _ _ hsh
    · rw [exec_append a.eval (v := .slice (some ⟨w.heap.size, 0, none⟩) (m + k) cap') (w' := w') (by rw [q2]; exact hr)]
      simp only [Oper.upon]
      refine fin w' (some w.heap.size) _ hb'.os hb'.tape hb'.output hb'.size (fun b hb2 _ => hb'.block b hb2) (fun b s hs => by rw [shape_same (hb'.block b (shape_lt hs))]; exact hs) (fun g hg => by injection hg with hg; exact .inr (by omega)) (fun C hext hw hdn hMn => ⟨.inr ⟨w.heap.size, us ++ news, vs', rfl, by rw [hw]; exact hblk, RepCs.mono hext.ok _ _ (hus.append n1), fun u hu => (List.mem_append.1 hu).elim (hon u) (n2 u)⟩, hdn, .inr (.inl ⟨w.heap.size, cap', hMn, rfl, hc1, hc2, fun _ => ⟨E, ?_⟩⟩)⟩)
      unfold World.shape?
      rw [hw, hblk]
      simp only [List.size_toArray, Nat.zero_add]
      rw [hlen, hszt, hs']
  · cases q2

end
/-- An own object is turned: its cells change, nothing else. -/
theorem ConcH.turnE {B : Bs} {dom : Nat → Prop} {M : Nat → Option Nat} {H : Nat → Option AObj} {w w' : World} (hc : ConcH B dom M H w) {id g : Nat} {o o' : AObj} (hid : dom id) (ho : H id = some o) (hM : M id = some g)
    (hos : w'.os = w.os) (htp : w'.tape = w.tape) (hou : w'.output = w.output) (hsz : w'.heap.size = w.heap.size) (hbl : ∀ k, k ≠ g → w'.heap[k]? = w.heap[k]?) (hsh : w'.shape? g = w.shape? g)
    (hob : Ext ⟨dom, M, okOf B dom M H, w⟩ ⟨dom, M, okOf B dom M (ov (some (id, some o')) H), w'⟩ → ObjRep ⟨dom, M, okOf B dom M (ov (some (id, some o')) H), w'⟩ (some g) o') :
    ConcH B dom M (ov (some (id, some o')) H) w' ∧ Ext ⟨dom, M, okOf B dom M H, w⟩ ⟨dom, M, okOf B dom M (ov (some (id, some o')) H), w'⟩ := by
  have hlk : ∀ k, k ≠ id → ov (some (id, some o')) H k = H k := fun k hk => ov_ne fun x e => hk (congrArg Prod.fst (Option.some.inj e)).symm
  have hlk0 : ov (some (id, some o')) H id = some o' := ov_eq
  have hok : ∀ b, okOf B dom M H b → okOf B dom M (ov (some (id, some o')) H) b ∧ b ≠ g := fun b hb => by
    refine ⟨⟨hb.1, fun k ok hk hH he => ?_⟩, fun e => hb.2 id o hid ho (by rw [hM, e])⟩
    by_cases hki : k = id
    · subst hki; exact hb.2 k o hk ho he
    · rw [hlk k hki] at hH; exact hb.2 k ok hk hH he
  have hext : Ext ⟨dom, M, okOf B dom M H, w⟩ ⟨dom, M, okOf B dom M (ov (some (id, some o')) H), w'⟩ := by
    refine ⟨fun k hk => ⟨hk, rfl⟩, fun b hb hl => ⟨(hok b hb).1, by simp only at hl ⊢; omega, hbl b (hok b hb).2⟩, fun b x hx => ?_⟩
    simp only at hx ⊢
    by_cases hbg : b = g
    · subst hbg; rw [hsh]; exact hx
    · rw [shape_same (hbl b hbg)]; exact hx
  refine ⟨⟨⟨hos.trans hc.fr.os, htp.trans hc.fr.tape, hou.trans hc.fr.output, by rw [hsz]; exact hc.fr.size, fun k h1 h2 => ?_⟩, fun k ok hk hH => ?_, fun k k' ok ok' g' k1 k2 k3 k4 k5 k6 => ?_, fun k ok g' k1 k2 k3 => ?_⟩, hext⟩
  · rw [hbl k (fun e => ?_)]
    · exact hc.fr.block k h1 h2
    · subst e
      rcases hc.lo id o k hid ho hM with h3 | h3
      · omega
      · exact h2 h3
  · by_cases hki : k = id
    · subst hki
      rw [hlk0] at hH
      injection hH with hH
      subst hH
      rw [hM]
      exact hob hext
    · rw [hlk k hki] at hH
      have h3 := hc.obj k ok hk hH
      refine h3.ext hext (fun j hj => hbl j (fun e => ?_))
      subst e
      exact hki (hc.inj k id ok o j hk hid hH ho hj hM)
  · have get : ∀ k ok, ov (some (id, some o')) H k = some ok → ∃ ok', H k = some ok' := fun k ok hk => by
      by_cases hki : k = id
      · subst hki; exact ⟨o, ho⟩
      · rw [hlk k hki] at hk; exact ⟨ok, hk⟩
    obtain ⟨q1, hq1⟩ := get k ok k3
    obtain ⟨q2, hq2⟩ := get k' ok' k4
    exact hc.inj k k' q1 q2 g' k1 k2 hq1 hq2 k5 k6
  · by_cases hki : k = id
    · subst hki; exact hc.lo k o g' hid ho k3
    · rw [hlk k hki] at k2; exact hc.lo k ok g' k1 k2 k3

section
variable {P : Program} {tab : Tab} {ev : Evl} {h : Heap} {T ty : TypeId} {x y : Operand} {pos : String} {aft : Array Edge} {gd : Option (Nat × Bool)} {i : Nat}
theorem e_store1 (tb : TabOk P tab) {e : TyE} (hT : tyLook tab T = some e) (hk : Nat.beq e.size 1 = true) {id off : Nat} {T' : TypeId} {cs : List AV} {v : AV} (hx : ev x = some (.ref id off)) (hy : ev y = some v) (h1 : v.one = true) (ho : lk h id = some (.blk T' cs)) (hfit : off < cs.length) :
    EStep P ⟨none, .store T x y, ty, pos, aft, gd⟩ ev h .junk [] (some (id, some (.blk T' (cs.set off v)))) i i := by
  intro B dom M H w a K' Q hh hn c1 he hK'
  have hp := he x _ hx
  have hv := he y _ hy
  simp only [Rep] at hp
  obtain ⟨hid, g, hM, hp⟩ := hp
  obtain ⟨us, hb, hus⟩ := obj_blk hh c1 ho hid hM
  obtain ⟨o1, o2⟩ := hv.one h1
  have hsz : e.size = 1 := Nat.eq_of_beq_eq_true hk
  have hlen : off + 1 ≤ us.length := by rw [hus.length]; omega
  have hrun := run_storeVar (P := P) (w := w) (tyLook_ok tb hT) (g := g) (off := off) (cur := us) (vs := [a.eval y]) (v := a.eval y) hb (by rw [o2]) (by simp [hsz]) hlen (by simpa using o1)
  have hset : us.take off ++ [a.eval y] ++ us.drop (off + [a.eval y].length) = us.set off (a.eval y) := by
    rw [List.set_eq_take_append_cons_drop]
    rw [if_pos (by omega)]
    simp
  rw [hset] at hrun
  unfold Oper.wp execOp
  simp only [hp, Instr.storeAt, Instr.sureAddr, Sem.run_bind, Sem.run_pure, Result.andThen_ok, hrun]
  obtain ⟨k1, k2⟩ := c1.turnE (o' := .blk T' (cs.set off v)) (w' := w.setRow g (us.set off (a.eval y)).toArray) hid (hh _ _ ho hid) hM rfl rfl rfl (by simp) (fun k hk => setRow_other w g k _ hk) (shape_setRow hb (by simp))
    (fun hext => ⟨g, _, rfl, setRow_heap w g _ _ T' _ hb, RepL.ext hext _ _ (RepL.set hus off hv)⟩)
  simp only [Oper.upon]
  rw [ad_self] at hK'
  exact hK' undef _ M k2 k1 trivial
theorem e_store1r (tb : TabOk P tab) {e : TyE} (hT : tyLook tab T = some e) (hk : Nat.beq e.size 1 = true) {id off : Nat} {T' : TypeId} {cs : List CV} {v : CV} (hx : ev x = some (.ref id off)) (hy : ev y = some (.c v)) (h1 : v.one = true) (ho : lk h id = some (.row T' cs)) (hfit : off < cs.length) :
    EStep P ⟨none, .store T x y, ty, pos, aft, gd⟩ ev h .junk [] (some (id, some (.row T' (cs.set off v)))) i i := by
  intro B dom M H w a K' Q hh hn c1 he hK'
  have hp := he x _ hx
  have hv := he y _ hy
  simp only [Rep] at hp hv
  obtain ⟨hid, g, hM, hp⟩ := hp
  obtain ⟨us, vs, hb, hus, hone⟩ := obj_row hh c1 ho hid hM
  obtain ⟨o1, o2⟩ := hv.one h1
  have hsz : e.size = 1 := Nat.eq_of_beq_eq_true hk
  have hul := hus.length
  have hlen : off + 1 ≤ (us ++ vs).length := by simp; omega
  have hrun := run_storeVar (P := P) (w := w) (tyLook_ok tb hT) (g := g) (off := off) (cur := us ++ vs) (vs := [a.eval y]) (v := a.eval y) hb (by rw [o2]) (by simp [hsz]) hlen (by simpa using o1)
  have hset : (us ++ vs).take off ++ [a.eval y] ++ (us ++ vs).drop (off + [a.eval y].length) = us.set off (a.eval y) ++ vs := by
    rw [← List.set_append_left _ _ (by omega), List.set_eq_take_append_cons_drop]
    rw [if_pos (by simp; omega)]
    simp
  rw [hset] at hrun
  unfold Oper.wp execOp
  simp only [hp, Instr.storeAt, Instr.sureAddr, Sem.run_bind, Sem.run_pure, Result.andThen_ok, hrun]
  obtain ⟨k1, k2⟩ := c1.turnE (o' := .row T' (cs.set off v)) (w' := w.setRow g (us.set off (a.eval y) ++ vs).toArray) hid (hh _ _ ho hid) hM rfl rfl rfl (by simp) (fun k hk => setRow_other w g k _ hk) (shape_setRow hb (by simp))
    (fun hext => .inr ⟨g, _, vs, rfl, setRow_heap w g _ _ T' _ hb, RepCs.mono hext.ok _ _ (RepCs.set hus off hv), fun u hu => (List.mem_or_eq_of_mem_set hu).elim (hone u) (fun e => e ▸ o1)⟩)
  simp only [Oper.upon]
  rw [ad_self] at hK'
  exact hK' undef _ M k2 k1 trivial
theorem e_storeA (tb : TabOk P tab) {e : TyE} (hT : tyLook tab T = some e) {id off : Nat} {T' : TypeId} {cs xs cs' : List AV} {v : AV} (hx : ev x = some (.ref id off)) (hy : ev y = some v) (hp : Parts v xs) (hl : xs.length = e.size) (h1 : xs.all AV.one = true) (ho : lk h id = some (.blk T' cs)) (hfit : off + xs.length ≤ cs.length) (hcs : lay cs off xs = cs') :
    EStep P ⟨none, .store T x y, ty, pos, aft, gd⟩ ev h .junk [] (some (id, some (.blk T' cs'))) i i := by
  subst hcs
  intro B dom M H w a K' Q hh hn c1 he hK'
  have hpt := he x _ hx
  simp only [Rep] at hpt
  obtain ⟨hid, g, hM, hpt⟩ := hpt
  obtain ⟨vs, hv, hvs⟩ := hp.rep (he y _ hy)
  obtain ⟨us, hb, hus⟩ := obj_blk hh c1 ho hid hM
  have hul := hus.length
  have hvl := hvs.length
  have hrun := run_storeVar (P := P) (w := w) (tyLook_ok tb hT) (g := g) (off := off) (cur := us) (vs := vs) (v := a.eval y) hb (by rw [hv]; rfl) (by omega) (by omega) (hvs.one h1)
  unfold Oper.wp execOp
  simp only [hpt, Instr.storeAt, Instr.sureAddr, Sem.run_bind, Sem.run_pure, Result.andThen_ok, hrun]
  obtain ⟨k1, k2⟩ := c1.turnE (o' := .blk T' (lay cs off xs)) (w' := w.setRow g (us.take off ++ vs ++ us.drop (off + vs.length)).toArray) hid (hh _ _ ho hid) hM rfl rfl rfl (by simp) (fun k hk => setRow_other w g k _ hk) (shape_setRow hb (by simp; omega))
    (fun hext => ⟨g, _, rfl, setRow_heap w g _ _ T' _ hb, RepL.ext hext _ _ (by
      unfold lay
      rw [hvl]
      exact ((hus.take off).append hvs).append (hus.drop (off + xs.length)))⟩)
  simp only [Oper.upon]
  rw [ad_self] at hK'
  exact hK' undef _ M k2 k1 trivial
theorem e_storeAr (tb : TabOk P tab) {e : TyE} (hT : tyLook tab T = some e) {id off : Nat} {T' : TypeId} {cs xs cs' : List CV} (hx : ev x = some (.ref id off)) (hy : ev y = some (.c (.agg xs))) (hl : xs.length = e.size) (ho : lk h id = some (.row T' cs)) (hfit : off + xs.length ≤ cs.length) (hcs : lay cs off xs = cs') :
    EStep P ⟨none, .store T x y, ty, pos, aft, gd⟩ ev h .junk [] (some (id, some (.row T' cs'))) i i := by
  subst hcs
  intro B dom M H w a K' Q hh hn c1 he hK'
  have hpt := he x _ hx
  have hvv := he y _ hy
  simp only [Rep, RepC] at hpt hvv
  obtain ⟨hid, g, hM, hpt⟩ := hpt
  obtain ⟨vs, hv, hvs, h1⟩ := hvv
  obtain ⟨us, ws, hb, hus, hone⟩ := obj_row hh c1 ho hid hM
  have hul := hus.length
  have hvl := hvs.length
  have hrun := run_storeVar (P := P) (w := w) (tyLook_ok tb hT) (g := g) (off := off) (cur := us ++ ws) (vs := vs) (v := a.eval y) hb (by rw [hv]; rfl) (by omega) (by simp; omega) h1
  have hset : (us ++ ws).take off ++ vs ++ (us ++ ws).drop (off + vs.length) = (us.take off ++ vs ++ us.drop (off + vs.length)) ++ ws := by
    rw [List.take_append_of_le_length (by omega), List.drop_append_of_le_length (by omega)]
    simp
  rw [hset] at hrun
  unfold Oper.wp execOp
  simp only [hpt, Instr.storeAt, Instr.sureAddr, Sem.run_bind, Sem.run_pure, Result.andThen_ok, hrun]
  obtain ⟨k1, k2⟩ := c1.turnE (o' := .row T' (lay cs off xs)) (w' := w.setRow g ((us.take off ++ vs ++ us.drop (off + vs.length)) ++ ws).toArray) hid (hh _ _ ho hid) hM rfl rfl rfl (by simp) (fun k hk => setRow_other w g k _ hk) (shape_setRow hb (by simp; omega))
    (fun hext => .inr ⟨g, _, ws, rfl, setRow_heap w g _ _ T' _ hb, RepCs.mono hext.ok _ _ (by
      unfold lay
      rw [hvl]
      exact ((hus.take off).append hvs).append (hus.drop (off + xs.length))), fun u hu => by
        rcases List.mem_append.1 hu with hu | hu
        · rcases List.mem_append.1 hu with hu | hu
          · exact hone u (List.mem_of_mem_take hu)
          · exact h1 u hu
        · exact hone u (List.mem_of_mem_drop hu)⟩)
  simp only [Oper.upon]
  rw [ad_self] at hK'
  exact hK' undef _ M k2 k1 trivial
end
theorem ChainE.congrG {P : Program} {ops : Array Oper} {l : List Oper} {env E : Env} {h H : Heap} {n N : Nat} {vs : List AV} {ns : List Nat} {es : List Eat} {G : Nat → Option AObj} (hc : ChainE P ops l env h n vs ns es G E H N) : ∀ G', (∀ id, id < N → G id = G' id) → ChainE P ops l env h n vs ns es G' E H N := by
  induction hc with
  | nil hG => intro G' hh; exact .nil fun id hid => by rw [← hh id hid]; exact hG id hid
  | add hG hG' hg hn hsub hT hc hcT hA hcov hkeys hr ih =>
    intro G' hh
    have hle := hr.le.1
    exact .add (fun id hid => by rw [← hh id (by omega)]; exact hG id hid) (fun id k1 k2 => by rw [← hh id (by omega)]; exact hG' id k1 k2) hg hn hsub hT hc hcT hA hcov hkeys (ih _ fun id hid => ov_congr (hh id hid))
  | skip hG hg hr ih =>
    intro G' hh
    have hle := hr.le.1
    exact .skip (fun id hid => by rw [← hh id (by omega)]; exact hG id hid) hg (ih _ hh)
theorem ChainE.snoc {P : Program} {ops : Array Oper} {l : List Oper} {env E : Env} {h H : Heap} {n N : Nat} {vs : List AV} {ns : List Nat} {es : List Eat} {G : Nat → Option AObj} (hc : ChainE P ops l env h n vs ns es G E H N) {o : Oper} {v : AV} {Δ hr : Heap} {N' : Nat} {T : List Nat} {c : Wr}
    (hs : (guardA ops E o true ∧ N ≤ N' ∧ (∀ id o, lk hr id = some o → lk H id = some o ∧ id ∈ T) ∧ (∀ p ∈ Δ, p.1 ∈ T) ∧ wrOk c ∧ (∀ k x, c = some (k, x) → k ∈ T ∧ k < N) ∧ EStep P o (evT (o.looksAt ops) E) hr v Δ c N N' ∧ (∀ id, N ≤ id → id < N' → (lk Δ id).isSome = true) ∧ (∀ p ∈ Δ, N ≤ p.1 ∧ p.1 < N')) ∨ (guardA ops E o false ∧ v = .junk ∧ Δ = [] ∧ N' = N ∧ T = [] ∧ c = none)) (hΔ : ∀ id, N ≤ id → id < N' → G id = lk Δ id) :
    ∃ vs' ns', ChainE P ops (l ++ [o]) env h n vs' ns' (es ++ [(T, c)]) G (putE E o.dst v) (wrH c (Δ ++ H)) N' := by
  induction hc with
  | @nil env h n G hG =>
    rcases hs with ⟨h1, h2, h3, h4, hw, hcT, h5, h6, h7⟩ | ⟨h1, rfl, rfl, rfl, rfl, rfl⟩
    · refine ⟨_, _, .add hG hΔ h1 h2 h3 h4 hw hcT h5 h6 h7 (.nil fun id hid => ?_)⟩
      rw [wrH_lk hw]
      refine ov_congr ?_
      rcases Nat.lt_or_ge id n with hlt | hge
      · rw [hG id hlt]
        exact (lk_app_none fun p hp e => by have := (h7 p hp).1; omega).symm
      · rw [hΔ id hge hid]
        obtain ⟨q, hq⟩ := Option.isSome_iff_exists.1 (h6 id hge hid)
        rw [lk_app_some hq, hq]
    · exact ⟨_, _, .skip hG h1 (.nil hG)⟩
  | add hG hG' hg hn hsub hT hc hcT hA hcov hkeys hr ih =>
    have hle := hr.le.1
    obtain ⟨vs', ns', hch⟩ := ih hs (fun id k1 k2 => by rw [ov_ne (fun x e => by have := (hcT id x e).2; omega)]; exact hΔ id k1 k2)
    exact ⟨_, _, .add hG hG' hg hn hsub hT hc hcT hA hcov hkeys hch⟩
  | skip hG hg hr ih =>
    obtain ⟨vs', ns', hch⟩ := ih hs hΔ
    exact ⟨_, _, .skip hG hg hch⟩
/-- m operations of the head are still to come. -/
def DrwE (P : Program) (l : List Oper) (sz : Nat) (K : AK) (dfs : Defs) (id n0 : Nat) (env0 : Env) (h0 : Heap) (es : List Eat) (m : Nat) (rest : List Oper) (n : Nat) (env : Env) (h : Heap) : Prop :=
  ∀ pre vs ns G, pre ++ rest = l → ChainE P l.toArray pre env0 h0 n0 vs ns es G env h n → AW P sz (.region id l.toArray true) K n0 env0 h0 dfs
mutual
def AV.addIds : AV → List Nat → Option (List Nat)
  | .c _, r => some r
  | .ip _ _, r => some r
  | .junk, r => some r
  | .ref id _, r => some (id :: r)
  | .own id _ _ _ _, r => some (id :: r)
  | .agg xs, r => AV.addIdsL xs r
  | .tup xs, r => AV.addIdsL xs r
  | .fn _ xs, r => AV.addIdsL xs r
def AV.addIdsL : List AV → List Nat → Option (List Nat)
  | [], r => some r
  | x :: xs, r => match AV.addIdsL xs r with | some r' => AV.addIds x r' | none => none
end
def idsF (env : Env) : List Nat → Option (List Nat)
  | [] => some []
  | t :: ts => match idsF env ts with
    | some r => match lkE env t with | some v => AV.addIds v r | none => some r
    | none => none
def filtF (ids : List Nat) : Heap → Option Heap
  | [] => some []
  | (i, o) :: r => match filtF ids r with
    | some r' => match memB ids i with | true => some ((i, o) :: r') | false => some r'
    | none => none
theorem filtF_lk {ids : List Nat} : ∀ {h hr : Heap}, filtF ids h = some hr → ∀ id, (lk hr id = if id ∈ ids then lk h id else none)
  | [], hr, hf, id => by simp [filtF] at hf; subst hf; simp [lk]
  | (i, o) :: r, hr, hf, id => by
    simp only [filtF] at hf
    split at hf
    · rename_i r' hr'
      have ih := filtF_lk hr' id
      split at hf
      · rename_i hm
        injection hf with hf; subst hf
        rw [lk_cons, lk_cons, ih]
        by_cases hi : i = id
        · subst hi; simp [memB_mem hm]
        · simp [hi]
      · rename_i hm
        injection hf with hf; subst hf
        rw [ih, lk_cons]
        by_cases hi : i = id
        · subst hi
          have : i ∉ ids := fun h => by rw [memB_of h] at hm; cases hm
          simp [this]
        · simp [hi]
    · cases hf
theorem filtF_spec {ids : List Nat} {h hr : Heap} (hf : filtF ids h = some hr) : ∀ id o, lk hr id = some o → lk h id = some o ∧ id ∈ ids := by
  intro id o ho
  rw [filtF_lk hf] at ho
  split at ho
  · rename_i hi; exact ⟨ho, hi⟩
  · cases ho
section
variable {P : Program} {l : List Oper} {sz : Nat} {K : AK} {dfs : Defs} {id n0 n : Nat} {env0 env : Env} {h0 h : Heap} {es : List Eat} {m : Nat} {rest : List Oper} {o : Oper} {v : AV}
theorem drwE_step {Δ hr : Heap} {n' : Nat} {T : List Nat} {c : Wr} (hg : guardA l.toArray env o true) (hn : n ≤ n') (hsub : ∀ id o, lk hr id = some o → lk h id = some o ∧ id ∈ T) (hT : ∀ p ∈ Δ, p.1 ∈ T) (hc : wrOk c) (hcT : ∀ k x, c = some (k, x) → k ∈ T ∧ k < n) (hA : EStep P o (evT (o.looksAt l.toArray) env) hr v Δ c n n') (hcov : ∀ id, n ≤ id → id < n' → (lk Δ id).isSome = true) (hkeys : ∀ p ∈ Δ, n ≤ p.1 ∧ p.1 < n')
    (next : DrwE P l sz K dfs id n0 env0 h0 (es ++ [(T, c)]) m rest n' (putE env o.dst v) (wrH c (Δ ++ h))) : DrwE P l sz K dfs id n0 env0 h0 es (m + 1) (o :: rest) n env h := by
  intro pre vs ns G hl hch
  have hch' := hch.congrG (fun id => if id < n then G id else lk Δ id) (fun id hid => by rw [if_pos hid])
  obtain ⟨vs', ns', hch2⟩ := hch'.snoc (.inl ⟨hg, hn, hsub, hT, hc, hcT, hA, hcov, hkeys⟩) (fun id k1 k2 => by rw [if_neg (by omega)])
  exact next (pre ++ [o]) vs' ns' _ (by simpa using hl) hch2
theorem drwE_skip (hg : guardA l.toArray env o false) (next : DrwE P l sz K dfs id n0 env0 h0 (es ++ [([], none)]) m rest n (putE env o.dst .junk) h) : DrwE P l sz K dfs id n0 env0 h0 es (m + 1) (o :: rest) n env h := by
  intro pre vs ns G hl hc
  obtain ⟨vs', ns', hch⟩ := hc.snoc (hr := []) (.inr ⟨hg, rfl, rfl, rfl, rfl, rfl⟩) (fun id k1 k2 => by omega)
  exact next (pre ++ [o]) vs' ns' _ (by simpa using hl) hch
theorem drwE_end (hm : P.follows .mixedOrders = true) (hB : drawB l (l.length - rest.length) = true) (hE : eatB (l.take (l.length - rest.length)) es = true) (hsz : dstsOk (l.take (l.length - rest.length)) sz = true) (hk0 : keysB h0 n0 = true) (next : AWL P l.toArray sz rest K n env h dfs) : DrwE P l sz K dfs id n0 env0 h0 es 0 rest n env h := by
  intro pre vs ns G hl hc
  have hlen : l.length - rest.length = pre.length := by rw [← hl]; simp
  rw [hlen] at hB hsz hE
  have ht : l.take pre.length = pre := by rw [← hl]; simp
  have hd : l.drop pre.length = rest := by rw [← hl]; simp
  exact aw_drawE pre.length hm hB hE hsz hk0 (by rw [ht]; exact hc) (by rw [hd]; exact next)
theorem all1 {l : List CV} {size : Nat} (h : l.length = size) : [l].all (fun l => Nat.beq l.length size) = true := by subst h; simp [Nat.beq_refl]
/-- The operations ahead of the first one that writes, or is walked into; append is let by. -/
def headLenE (fs : List Nat) (all : List Oper) : List Oper → Nat
  | [] => 0
  | o :: r => match o.op with
    | .assign _ => match o.dst with
      | some t => match readsB all t with | true => 0 | false => headLenE fs all r + 1
      | none => 0
    | .call ⟨.value (.func f), _, _⟩ => match memB fs f with | true => 0 | false => headLenE fs all r + 1
    | .call ⟨.value (.tmp _), _, _⟩ => 0
    | .call ⟨.builtin .append, _, _⟩ => headLenE fs all r + 1
    | .store _ _ _ => headLenE fs all r + 1
    | op => match writesB op with | true => 0 | false => headLenE fs all r + 1
theorem aw_drwE (fs : List Nat) (hx : DrwE P l sz K dfs id n0 env0 h0 [] (headLenE fs l l) l n0 env0 h0) : AW P sz (.region id l.toArray true) K n0 env0 h0 dfs := hx [] [] [n0] _ rfl (.nil (G := lk h0) fun _ _ => rfl)
end
section
variable {P : Program} {sz n n0 i m t : Nat} {K : AK} {env env0 : Env} {h h0 hr : Heap} {es : List Eat} {ids : List Nat} {dfs : Defs} {rest l : List Oper} {d : Option Tmp} {op : Op} {ty : TypeId} {pos : String} {aft : Array Edge} {gd : Option (Nat × Bool)}
theorem isE_move {x : Operand} (hh : DrwE P l sz K dfs i n0 env0 h0 es m (⟨d, .move x, ty, pos, aft, gd⟩ :: rest) n env h) : DrwE P l sz K dfs i n0 env0 h0 es m (⟨d, .move x, ty, pos, aft, gd⟩ :: rest) n env h := hh
theorem isE_assign {x : Operand} (hh : DrwE P l sz K dfs i n0 env0 h0 es m (⟨d, .assign x, ty, pos, aft, gd⟩ :: rest) n env h) : DrwE P l sz K dfs i n0 env0 h0 es m (⟨d, .assign x, ty, pos, aft, gd⟩ :: rest) n env h := hh
theorem isE_pick {x y z : Operand} (hh : DrwE P l sz K dfs i n0 env0 h0 es m (⟨d, .pick x y z, ty, pos, aft, gd⟩ :: rest) n env h) : DrwE P l sz K dfs i n0 env0 h0 es m (⟨d, .pick x y z, ty, pos, aft, gd⟩ :: rest) n env h := hh
theorem isE_alloc {T : TypeId} (hh : DrwE P l sz K dfs i n0 env0 h0 es m (⟨d, .alloc T, ty, pos, aft, gd⟩ :: rest) n env h) : DrwE P l sz K dfs i n0 env0 h0 es m (⟨d, .alloc T, ty, pos, aft, gd⟩ :: rest) n env h := hh
theorem isE_box {T : TypeId} {x : Operand} (hh : DrwE P l sz K dfs i n0 env0 h0 es m (⟨d, .box T x, ty, pos, aft, gd⟩ :: rest) n env h) : DrwE P l sz K dfs i n0 env0 h0 es m (⟨d, .box T x, ty, pos, aft, gd⟩ :: rest) n env h := hh
theorem isE_build {T : TypeId} {ps : Array (Nat × Operand)} (hh : DrwE P l sz K dfs i n0 env0 h0 es m (⟨d, .build T ps, ty, pos, aft, gd⟩ :: rest) n env h) : DrwE P l sz K dfs i n0 env0 h0 es m (⟨d, .build T ps, ty, pos, aft, gd⟩ :: rest) n env h := hh
theorem isE_bslice {T : TypeId} {k : Nat} {ps : Array (Nat × Operand)} (hh : DrwE P l sz K dfs i n0 env0 h0 es m (⟨d, .buildSlice T k ps, ty, pos, aft, gd⟩ :: rest) n env h) : DrwE P l sz K dfs i n0 env0 h0 es m (⟨d, .buildSlice T k ps, ty, pos, aft, gd⟩ :: rest) n env h := hh
theorem isE_load {T : TypeId} {x : Operand} (hh : DrwE P l sz K dfs i n0 env0 h0 es m (⟨d, .load T x, ty, pos, aft, gd⟩ :: rest) n env h) : DrwE P l sz K dfs i n0 env0 h0 es m (⟨d, .load T x, ty, pos, aft, gd⟩ :: rest) n env h := hh
theorem isE_store {T : TypeId} {x y : Operand} (hh : DrwE P l sz K dfs i n0 env0 h0 es m (⟨d, .store T x y, ty, pos, aft, gd⟩ :: rest) n env h) : DrwE P l sz K dfs i n0 env0 h0 es m (⟨d, .store T x y, ty, pos, aft, gd⟩ :: rest) n env h := hh
theorem isE_nil {x : Operand} (hh : DrwE P l sz K dfs i n0 env0 h0 es m (⟨d, .nilCheck x, ty, pos, aft, gd⟩ :: rest) n env h) : DrwE P l sz K dfs i n0 env0 h0 es m (⟨d, .nilCheck x, ty, pos, aft, gd⟩ :: rest) n env h := hh
theorem isE_bin {o : BinOp} {T T' : TypeId} {x y : Operand} (hh : DrwE P l sz K dfs i n0 env0 h0 es m (⟨d, .binOp o T x y T', ty, pos, aft, gd⟩ :: rest) n env h) : DrwE P l sz K dfs i n0 env0 h0 es m (⟨d, .binOp o T x y T', ty, pos, aft, gd⟩ :: rest) n env h := hh
theorem isE_un {o : UnOp} {T : TypeId} {x : Operand} (hh : DrwE P l sz K dfs i n0 env0 h0 es m (⟨d, .unOp o T x, ty, pos, aft, gd⟩ :: rest) n env h) : DrwE P l sz K dfs i n0 env0 h0 es m (⟨d, .unOp o T x, ty, pos, aft, gd⟩ :: rest) n env h := hh
theorem isE_conv {T T' : TypeId} {x : Operand} (hh : DrwE P l sz K dfs i n0 env0 h0 es m (⟨d, .convert T T' x, ty, pos, aft, gd⟩ :: rest) n env h) : DrwE P l sz K dfs i n0 env0 h0 es m (⟨d, .convert T T' x, ty, pos, aft, gd⟩ :: rest) n env h := hh
theorem isE_mkfn {f : Fn} {xs ys : Array Operand} (hh : DrwE P l sz K dfs i n0 env0 h0 es m (⟨d, .makeFunc f xs ys, ty, pos, aft, gd⟩ :: rest) n env h) : DrwE P l sz K dfs i n0 env0 h0 es m (⟨d, .makeFunc f xs ys, ty, pos, aft, gd⟩ :: rest) n env h := hh
theorem isE_mksl {T : TypeId} {x y : Operand} (hh : DrwE P l sz K dfs i n0 env0 h0 es m (⟨d, .makeSlice T x y, ty, pos, aft, gd⟩ :: rest) n env h) : DrwE P l sz K dfs i n0 env0 h0 es m (⟨d, .makeSlice T x y, ty, pos, aft, gd⟩ :: rest) n env h := hh
theorem isE_slice {T : TypeId} {x : Operand} {lo hi mx : Option Operand} (hh : DrwE P l sz K dfs i n0 env0 h0 es m (⟨d, .slice T x lo hi mx, ty, pos, aft, gd⟩ :: rest) n env h) : DrwE P l sz K dfs i n0 env0 h0 es m (⟨d, .slice T x lo hi mx, ty, pos, aft, gd⟩ :: rest) n env h := hh
theorem isE_fldA {T : TypeId} {x : Operand} {k : Nat} (hh : DrwE P l sz K dfs i n0 env0 h0 es m (⟨d, .fieldAddr T x k, ty, pos, aft, gd⟩ :: rest) n env h) : DrwE P l sz K dfs i n0 env0 h0 es m (⟨d, .fieldAddr T x k, ty, pos, aft, gd⟩ :: rest) n env h := hh
theorem isE_fld {T : TypeId} {x : Operand} {k : Nat} (hh : DrwE P l sz K dfs i n0 env0 h0 es m (⟨d, .field T x k, ty, pos, aft, gd⟩ :: rest) n env h) : DrwE P l sz K dfs i n0 env0 h0 es m (⟨d, .field T x k, ty, pos, aft, gd⟩ :: rest) n env h := hh
theorem isE_ixA {T : TypeId} {x y : Operand} (hh : DrwE P l sz K dfs i n0 env0 h0 es m (⟨d, .indexAddr T x y, ty, pos, aft, gd⟩ :: rest) n env h) : DrwE P l sz K dfs i n0 env0 h0 es m (⟨d, .indexAddr T x y, ty, pos, aft, gd⟩ :: rest) n env h := hh
theorem isE_ix {T : TypeId} {x y : Operand} (hh : DrwE P l sz K dfs i n0 env0 h0 es m (⟨d, .index T x y, ty, pos, aft, gd⟩ :: rest) n env h) : DrwE P l sz K dfs i n0 env0 h0 es m (⟨d, .index T x y, ty, pos, aft, gd⟩ :: rest) n env h := hh
theorem isE_ext {x : Operand} {k : Nat} (hh : DrwE P l sz K dfs i n0 env0 h0 es m (⟨d, .extract x k, ty, pos, aft, gd⟩ :: rest) n env h) : DrwE P l sz K dfs i n0 env0 h0 es m (⟨d, .extract x k, ty, pos, aft, gd⟩ :: rest) n env h := hh
theorem isE_bi {b : Builtin} {xs : Array Operand} {ts : Array TypeId} (hh : DrwE P l sz K dfs i n0 env0 h0 es m (⟨d, .call ⟨.builtin b, xs, ts⟩, ty, pos, aft, gd⟩ :: rest) n env h) : DrwE P l sz K dfs i n0 env0 h0 es m (⟨d, .call ⟨.builtin b, xs, ts⟩, ty, pos, aft, gd⟩ :: rest) n env h := hh
theorem isE_call {f : FuncId} {xs : Array Operand} {ts : Array TypeId} (hh : DrwE P l sz K dfs i n0 env0 h0 es m (⟨d, .call ⟨.value (.func f), xs, ts⟩, ty, pos, aft, gd⟩ :: rest) n env h) : DrwE P l sz K dfs i n0 env0 h0 es m (⟨d, .call ⟨.value (.func f), xs, ts⟩, ty, pos, aft, gd⟩ :: rest) n env h := hh
theorem isE_callv {q : Nat} {xs : Array Operand} {ts : Array TypeId} (hh : DrwE P l sz K dfs i n0 env0 h0 es m (⟨d, .call ⟨.value (.tmp q), xs, ts⟩, ty, pos, aft, gd⟩ :: rest) n env h) : DrwE P l sz K dfs i n0 env0 h0 es m (⟨d, .call ⟨.value (.tmp q), xs, ts⟩, ty, pos, aft, gd⟩ :: rest) n env h := hh
theorem isE_defer {c : Call} (hh : DrwE P l sz K dfs i n0 env0 h0 es m (⟨d, .defer c, ty, pos, aft, gd⟩ :: rest) n env h) : DrwE P l sz K dfs i n0 env0 h0 es m (⟨d, .defer c, ty, pos, aft, gd⟩ :: rest) n env h := hh
theorem isE_g {op : Op} {g : Nat × Bool} (hh : DrwE P l sz K dfs i n0 env0 h0 es (m + 1) (⟨d, op, ty, pos, aft, some g⟩ :: rest) n env h) : DrwE P l sz K dfs i n0 env0 h0 es (m + 1) (⟨d, op, ty, pos, aft, some g⟩ :: rest) n env h := hh
theorem isE_any {o : Oper} (hh : DrwE P l sz K dfs i n0 env0 h0 es (m + 1) (o :: rest) n env h) : DrwE P l sz K dfs i n0 env0 h0 es (m + 1) (o :: rest) n env h := hh
theorem isDk_any {k : Nat} {o : Oper} (hh : Drw P l sz K dfs i n0 env0 h0 k (o :: rest) n env h) : Drw P l sz K dfs i n0 env0 h0 k (o :: rest) n env h := hh
theorem isDk_g {k : Nat} {g : Nat × Bool} (hh : Drw P l sz K dfs i n0 env0 h0 k (⟨d, op, ty, pos, aft, some g⟩ :: rest) n env h) : Drw P l sz K dfs i n0 env0 h0 k (⟨d, op, ty, pos, aft, some g⟩ :: rest) n env h := hh
theorem isEk_any {k : Nat} {o : Oper} (hh : DrwE P l sz K dfs i n0 env0 h0 es k (o :: rest) n env h) : DrwE P l sz K dfs i n0 env0 h0 es k (o :: rest) n env h := hh
theorem isEk_g {k : Nat} {g : Nat × Bool} (hh : DrwE P l sz K dfs i n0 env0 h0 es k (⟨d, op, ty, pos, aft, some g⟩ :: rest) n env h) : DrwE P l sz K dfs i n0 env0 h0 es k (⟨d, op, ty, pos, aft, some g⟩ :: rest) n env h := hh
theorem x_e (hg : guardA l.toArray env ⟨some t, op, ty, pos, aft, gd⟩ true) (hi : idsF env (Oper.looksAt l.toArray ⟨some t, op, ty, pos, aft, gd⟩) = some ids) (hf : filtF ids h = some hr) (hh : ∃ v, Still P ⟨some t, op, ty, pos, aft, gd⟩ (evT (Oper.looksAt l.toArray ⟨some t, op, ty, pos, aft, gd⟩) env) hr v ∧ DrwE P l sz K dfs i n0 env0 h0 (es ++ [(ids, none)]) m rest n ((t, v) :: env) h) : DrwE P l sz K dfs i n0 env0 h0 es (m + 1) (⟨some t, op, ty, pos, aft, gd⟩ :: rest) n env h :=
  let ⟨_, h1, h2⟩ := hh; drwE_step hg (Nat.le_refl _) (filtF_spec hf) (by simp) (c := none) trivial (fun k x e => by cases e) h1.adds.est (fun id h1 h2 => by omega) (by simp) h2
theorem w_e (hg : guardA l.toArray env ⟨some t, op, ty, pos, aft, gd⟩ true) (hi : idsF env (Oper.looksAt l.toArray ⟨some t, op, ty, pos, aft, gd⟩) = some ids) (hf : filtF ids h = some hr) (hh : ∃ v, Adds P ⟨some t, op, ty, pos, aft, gd⟩ (evT (Oper.looksAt l.toArray ⟨some t, op, ty, pos, aft, gd⟩) env) hr v [] n n ∧ DrwE P l sz K dfs i n0 env0 h0 (es ++ [(ids, none)]) m rest n ((t, v) :: env) h) : DrwE P l sz K dfs i n0 env0 h0 es (m + 1) (⟨some t, op, ty, pos, aft, gd⟩ :: rest) n env h :=
  let ⟨_, h1, h2⟩ := hh; drwE_step hg (Nat.le_refl _) (filtF_spec hf) (by simp) (c := none) trivial (fun k x e => by cases e) h1.est (fun id h1 h2 => by omega) (by simp) h2
theorem y_e (hg : guardA l.toArray env ⟨some t, op, ty, pos, aft, gd⟩ true) (hi : idsF env (Oper.looksAt l.toArray ⟨some t, op, ty, pos, aft, gd⟩) = some ids) (hf : filtF ids h = some hr) (hh : ∃ v obj, obj.live = some obj ∧ Adds P ⟨some t, op, ty, pos, aft, gd⟩ (evT (Oper.looksAt l.toArray ⟨some t, op, ty, pos, aft, gd⟩) env) hr v [(n, obj)] n (n + 1) ∧ DrwE P l sz K dfs i n0 env0 h0 (es ++ [(n :: ids, none)]) m rest (n + 1) ((t, v) :: env) ((n, obj) :: h)) : DrwE P l sz K dfs i n0 env0 h0 es (m + 1) (⟨some t, op, ty, pos, aft, gd⟩ :: rest) n env h :=
  let ⟨_, _, hlv, h1, h2⟩ := hh; drwE_step hg (Nat.le_succ _) (fun id o ho => let ⟨a, b⟩ := filtF_spec hf id o ho; ⟨a, by simp [b]⟩) (by simp) (c := none) trivial (fun k x e => by cases e) h1.est (fun id h1 h2 => by
    obtain rfl : id = n := by omega
    rw [lk_cons, if_pos rfl, hlv]; rfl) (by simp) h2
theorem e_skip (hg : guardA l.toArray env ⟨some t, op, ty, pos, aft, gd⟩ false) (next : DrwE P l sz K dfs i n0 env0 h0 (es ++ [([], none)]) m rest n ((t, .junk) :: env) h) : DrwE P l sz K dfs i n0 env0 h0 es (m + 1) (⟨some t, op, ty, pos, aft, gd⟩ :: rest) n env h := drwE_skip hg next
variable {f : FuncId} {xs : List Operand} {ats : Array TypeId}
theorem z_e (hg : guardA l.toArray env ⟨some t, .call ⟨.value (.func f), xs.toArray, ats⟩, ty, pos, aft, gd⟩ true)
    (hh : CallsTo P f xs (evT (Oper.looksAt l.toArray ⟨some t, .call ⟨.value (.func f), xs.toArray, ats⟩, ty, pos, aft, gd⟩) env) (fun r => DrwE P l sz K dfs i n0 env0 h0 (es ++ [([], none)]) m rest n ((t, r) :: env) h) (fun k size T rc => DrwE P l sz K dfs i n0 env0 h0 (es ++ [([n], none)]) m rest (n + 1) ((t, .own n 0 k size true) :: env) ((n, .row T rc) :: h))) : DrwE P l sz K dfs i n0 env0 h0 es (m + 1) (⟨some t, .call ⟨.value (.func f), xs.toArray, ats⟩, ty, pos, aft, gd⟩ :: rest) n env h := by
  obtain ⟨cs, cs', h1, h2, h3, ⟨r, h4, h5, h6⟩ | ⟨k, size, T, rc, h4, h5⟩⟩ := hh
  · have hA := adds_call (i := n) (h := []) (d := some t) (ty := ty) (pos := pos) (aft := aft) (gd := gd) (ats := ats) h1 h2 h4 h3 rfl
    rw [AV.sh_noId _ _ h5] at hA
    exact drwE_step hg (Nat.le_refl _) (fun id o ho => by cases ho) (by simp [shH]) (c := none) trivial (fun k x e => by cases e) hA.est (fun id h1 h2 => by omega) (by simp [shH]) h6
  · have hA := adds_call (i := n) (h := []) (d := some t) (ty := ty) (pos := pos) (aft := aft) (gd := gd) (ats := ats) h1 h2 h4 h3 rfl
    exact drwE_step hg (Nat.le_succ _) (fun id o ho => by cases ho) (by simp [shH]) (c := none) trivial (fun k x e => by cases e) hA.est (fun id h1 h2 => by
      obtain rfl : id = n := by omega
      simp [shH, lk_cons, AObj.live, AObj.sh]) (by simp [shH]) h5
variable {tab : Tab} {T : TypeId} {x y : Operand}
theorem d_append (tb : TabOk P tab) {e e' : TyE} {E size m' k id : Nat} {vy : AV} {cs ys : List CV} (hg : guardA l.toArray env ⟨some t, .call ⟨.builtin .append, #[x, y], #[T, T]⟩, ty, pos, aft, gd⟩ true) (hi : idsF env (Oper.looksAt l.toArray ⟨some t, .call ⟨.builtin .append, #[x, y], #[T, T]⟩, ty, pos, aft, gd⟩) = some ids) (hfl : filtF ids h = some hr) (hT : tyLook tab T = some e) (hk : e.kind = .slice E) (hE : tyLook tab E = some e') (hs : Nat.beq e'.size size = true) (hz : Nat.beq e'.zero.length size = true)
    (hx : evT (Oper.looksAt l.toArray ⟨some t, .call ⟨.builtin .append, #[x, y], #[T, T]⟩, ty, pos, aft, gd⟩) env x = some (.own id 0 m' size true)) (ho : lk hr id = some (.row E cs)) (hcl : cs.length = m' * size) (hy : evT (Oper.looksAt l.toArray ⟨some t, .call ⟨.builtin .append, #[x, y], #[T, T]⟩, ty, pos, aft, gd⟩) env y = some vy) (hf : Src hr vy size k ys) (h63 : m' + k ≤ maxLen) (hb : (m' + k) * e'.bytes ≤ 140737488355328)
    (hin : Nat.blt id n = true) (next : DrwE P l sz K dfs i n0 env0 h0 (es ++ [(n :: ids, some (id, none))]) m rest (n + 1) ((t, .own n 0 (m' + k) size true) :: env) ((id, .dead) :: (n, .row E (cs ++ ys)) :: h)) : DrwE P l sz K dfs i n0 env0 h0 es (m + 1) (⟨some t, .call ⟨.builtin .append, #[x, y], #[T, T]⟩, ty, pos, aft, gd⟩ :: rest) n env h :=
  drwE_step hg (Nat.le_succ _) (fun id o ho => let ⟨a, b⟩ := filtF_spec hfl id o ho; ⟨a, by simp [b]⟩) (by simp) (c := some (_, none)) trivial (fun k x e => by
    injection e with e; injection e with e1 e2; subst e1
    exact ⟨by simp [(filtF_spec hfl _ _ ho).2], by simpa [Nat.blt_eq] using hin⟩) (e_append tb hT hk hE hs hz hx ho hcl hy hf h63 hb) (fun id h1 h2 => by
    obtain rfl : id = n := by omega
    rw [lk_cons, if_pos rfl]; rfl) (by simp) next
theorem d_store1 (tb : TabOk P tab) {e : TyE} (hg : guardA l.toArray env ⟨none, .store T x y, ty, pos, aft, gd⟩ true) (hi : idsF env (Oper.looksAt l.toArray ⟨none, .store T x y, ty, pos, aft, gd⟩) = some ids) (hfl : filtF ids h = some hr) (hT : tyLook tab T = some e) (hk : Nat.beq e.size 1 = true) {id off : Nat} {T' : TypeId} {cs cs' : List AV} {v : AV} (hx : evT (Oper.looksAt l.toArray ⟨none, .store T x y, ty, pos, aft, gd⟩) env x = some (.ref id off)) (hy : evT (Oper.looksAt l.toArray ⟨none, .store T x y, ty, pos, aft, gd⟩) env y = some v) (h1 : v.one = true) (ho : lk hr id = some (.blk T' cs)) (hs : setF cs off v = some cs') (hin : Nat.blt id n = true)
    (next : DrwE P l sz K dfs i n0 env0 h0 (es ++ [(ids, some (id, some (.blk T' cs')))]) m rest n env ((id, .blk T' cs') :: h)) : DrwE P l sz K dfs i n0 env0 h0 es (m + 1) (⟨none, .store T x y, ty, pos, aft, gd⟩ :: rest) n env h :=
  drwE_step (v := .junk) (Δ := []) hg (Nat.le_refl _) (filtF_spec hfl) (by simp) (c := some (id, some (.blk T' cs'))) rfl (fun k x e => by
    injection e with e; injection e with e1 e2; subst e1
    exact ⟨(filtF_spec hfl _ _ ho).2, by simpa [Nat.blt_eq] using hin⟩) (by rw [← (setF_eq hs).1]; exact e_store1 tb hT hk hx hy h1 ho (setF_eq hs).2) (fun id h1 h2 => by omega) (by simp) next
theorem d_store1r (tb : TabOk P tab) {e : TyE} (hg : guardA l.toArray env ⟨none, .store T x y, ty, pos, aft, gd⟩ true) (hi : idsF env (Oper.looksAt l.toArray ⟨none, .store T x y, ty, pos, aft, gd⟩) = some ids) (hfl : filtF ids h = some hr) (hT : tyLook tab T = some e) (hk : Nat.beq e.size 1 = true) {id off : Nat} {T' : TypeId} {cs cs' : List CV} {v : CV} (hx : evT (Oper.looksAt l.toArray ⟨none, .store T x y, ty, pos, aft, gd⟩) env x = some (.ref id off)) (hy : evT (Oper.looksAt l.toArray ⟨none, .store T x y, ty, pos, aft, gd⟩) env y = some (.c v)) (h1 : v.one = true) (ho : lk hr id = some (.row T' cs)) (hs : setF cs off v = some cs') (hin : Nat.blt id n = true)
    (next : DrwE P l sz K dfs i n0 env0 h0 (es ++ [(ids, some (id, some (.row T' cs')))]) m rest n env ((id, .row T' cs') :: h)) : DrwE P l sz K dfs i n0 env0 h0 es (m + 1) (⟨none, .store T x y, ty, pos, aft, gd⟩ :: rest) n env h :=
  drwE_step (v := .junk) (Δ := []) hg (Nat.le_refl _) (filtF_spec hfl) (by simp) (c := some (id, some (.row T' cs'))) rfl (fun k x e => by
    injection e with e; injection e with e1 e2; subst e1
    exact ⟨(filtF_spec hfl _ _ ho).2, by simpa [Nat.blt_eq] using hin⟩) (by rw [← (setF_eq hs).1]; exact e_store1r tb hT hk hx hy h1 ho (setF_eq hs).2) (fun id h1 h2 => by omega) (by simp) next
theorem d_store1rL (tb : TabOk P tab) {e : TyE} (hg : guardA l.toArray env ⟨none, .store T x y, ty, pos, aft, gd⟩ true) (hi : idsF env (Oper.looksAt l.toArray ⟨none, .store T x y, ty, pos, aft, gd⟩) = some ids) (hfl : filtF ids h = some hr) (hT : tyLook tab T = some e) (hk : Nat.beq e.size 1 = true) {id off : Nat} {T' : TypeId} {cs : List CV} {v : CV} (hx : evT (Oper.looksAt l.toArray ⟨none, .store T x y, ty, pos, aft, gd⟩) env x = some (.ref id off)) (hy : evT (Oper.looksAt l.toArray ⟨none, .store T x y, ty, pos, aft, gd⟩) env y = some (.c v)) (h1 : v.one = true) (ho : lk hr id = some (.row T' cs)) (hfit : off < cs.length) (hin : Nat.blt id n = true)
    (next : DrwE P l sz K dfs i n0 env0 h0 (es ++ [(ids, some (id, some (.row T' (cs.set off v))))]) m rest n env ((id, .row T' (cs.set off v)) :: h)) : DrwE P l sz K dfs i n0 env0 h0 es (m + 1) (⟨none, .store T x y, ty, pos, aft, gd⟩ :: rest) n env h :=
  drwE_step (v := .junk) (Δ := []) hg (Nat.le_refl _) (filtF_spec hfl) (by simp) (c := some (id, some (.row T' (cs.set off v)))) rfl (fun k x e => by
    injection e with e; injection e with e1 e2; subst e1
    exact ⟨(filtF_spec hfl _ _ ho).2, by simpa [Nat.blt_eq] using hin⟩) (e_store1r tb hT hk hx hy h1 ho hfit) (fun id h1 h2 => by omega) (by simp) next
theorem d_storeA (tb : TabOk P tab) {e : TyE} (hg : guardA l.toArray env ⟨none, .store T x y, ty, pos, aft, gd⟩ true) (hi : idsF env (Oper.looksAt l.toArray ⟨none, .store T x y, ty, pos, aft, gd⟩) = some ids) (hfl : filtF ids h = some hr) (hT : tyLook tab T = some e) {id off : Nat} {T' : TypeId} {cs xs cs' : List AV} {v : AV} (hx : evT (Oper.looksAt l.toArray ⟨none, .store T x y, ty, pos, aft, gd⟩) env x = some (.ref id off)) (hy : evT (Oper.looksAt l.toArray ⟨none, .store T x y, ty, pos, aft, gd⟩) env y = some v) (hp : Parts v xs) (hl : xs.length = e.size) (h1 : xs.all AV.one = true) (ho : lk hr id = some (.blk T' cs)) (hfit : off + xs.length ≤ cs.length) (hcs : lay cs off xs = cs') (hin : Nat.blt id n = true)
    (next : DrwE P l sz K dfs i n0 env0 h0 (es ++ [(ids, some (id, some (.blk T' cs')))]) m rest n env ((id, .blk T' cs') :: h)) : DrwE P l sz K dfs i n0 env0 h0 es (m + 1) (⟨none, .store T x y, ty, pos, aft, gd⟩ :: rest) n env h :=
  drwE_step (v := .junk) (Δ := []) hg (Nat.le_refl _) (filtF_spec hfl) (by simp) (c := some (id, some (.blk T' cs'))) rfl (fun k x e => by
    injection e with e; injection e with e1 e2; subst e1
    exact ⟨(filtF_spec hfl _ _ ho).2, by simpa [Nat.blt_eq] using hin⟩) (e_storeA tb hT hx hy hp hl h1 ho hfit hcs) (fun id h1 h2 => by omega) (by simp) next
theorem d_storeAr (tb : TabOk P tab) {e : TyE} (hg : guardA l.toArray env ⟨none, .store T x y, ty, pos, aft, gd⟩ true) (hi : idsF env (Oper.looksAt l.toArray ⟨none, .store T x y, ty, pos, aft, gd⟩) = some ids) (hfl : filtF ids h = some hr) (hT : tyLook tab T = some e) {id off : Nat} {T' : TypeId} {cs xs cs' : List CV} (hx : evT (Oper.looksAt l.toArray ⟨none, .store T x y, ty, pos, aft, gd⟩) env x = some (.ref id off)) (hy : evT (Oper.looksAt l.toArray ⟨none, .store T x y, ty, pos, aft, gd⟩) env y = some (.c (.agg xs))) (hl : xs.length = e.size) (ho : lk hr id = some (.row T' cs)) (hfit : off + xs.length ≤ cs.length) (hcs : lay cs off xs = cs') (hin : Nat.blt id n = true)
    (next : DrwE P l sz K dfs i n0 env0 h0 (es ++ [(ids, some (id, some (.row T' cs')))]) m rest n env ((id, .row T' cs') :: h)) : DrwE P l sz K dfs i n0 env0 h0 es (m + 1) (⟨none, .store T x y, ty, pos, aft, gd⟩ :: rest) n env h :=
  drwE_step (v := .junk) (Δ := []) hg (Nat.le_refl _) (filtF_spec hfl) (by simp) (c := some (id, some (.row T' cs'))) rfl (fun k x e => by
    injection e with e; injection e with e1 e2; subst e1
    exact ⟨(filtF_spec hfl _ _ ho).2, by simpa [Nat.blt_eq] using hin⟩) (e_storeAr tb hT hx hy hl ho hfit hcs) (fun id h1 h2 => by omega) (by simp) next
end
end Go.Av
