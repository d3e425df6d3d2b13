/-
  The walk over abstract values: single operations in the text's order, stores, weakening, functions and calls. For every program.
-/
import Derived.Test.YtgofigkhdjjlmaaAvC
set_option linter.unusedVariables false
set_option linter.unusedSimpArgs false
namespace Go.Av
open Go Go.RowKit

section steps
variable {P : Program} {sz n : Nat} {env : Env} {h : Heap} {dfs : Defs} {K : AK} {ops : Array Oper} {rest : List Oper} {o : Oper}

def dstOk (d : Option Tmp) (sz : Nat) : Bool := match d with | some t => Nat.blt t sz | none => true
theorem dstOk_spec {d : Option Tmp} (h : dstOk d sz = true) : ∀ t, d = some t → t < sz := by
  intro t ht; subst ht; simpa [dstOk, Nat.blt_eq] using h

/-- One operation that adds. -/
theorem awl_adds {v : AV} {Δ : Heap} {n' : Nat} (hg : guardA ops env o true) (hd : dstOk o.dst sz = true) (hn : n ≤ n') (hA : Adds P o (evA env) h v Δ n n') (hcov : ∀ id, n ≤ id → id < n' → (lk Δ id).isSome = true) (hkeys : ∀ p ∈ Δ, n ≤ p.1)
    (next : AWL P ops sz rest K n' (putE env o.dst v) (Δ ++ h) dfs) : AWL P ops sz (o :: rest) K n env h dfs := by
  intro B a w hc
  obtain ⟨M, h1, h2, h3, h4⟩ := hc
  refine wpList_step fun K' hK' => ?_
  rw [if_pos (hg.wanted h3)]
  have e1 : ∀ id, id < n → lk (Δ ++ h) id = lk h id := fun id hid => lk_app_none fun p hp e => by have := hkeys p hp; omega
  have e2 : ∀ id, n ≤ id → id < n' → lk (Δ ++ h) id = lk Δ id := fun id h5 h6 => by
    obtain ⟨o', ho'⟩ := Option.isSome_iff_exists.1 (hcov id h5 h6)
    rw [lk_app_some ho', ho']
  have eok : okOf B (lt n) M (lk (Δ ++ h)) = okOf B (lt n) M (lk h) := by
    funext b
    unfold okOf
    simp only [eq_iff_iff]
    refine and_congr Iff.rfl ⟨fun hk id o hid hH => hk id o hid (by rw [e1 id hid]; exact hH), fun hk id o hid hH => hk id o hid (by rw [← e1 id hid]; exact hH)⟩
  have h1' : ConcH B (lt n) M (lk (Δ ++ h)) w := by
    refine ⟨h1.fr, fun id o hid hH => ?_, fun id id' o o' g k1 k2 k3 k4 => h1.inj id id' o o' g k1 k2 (by rw [← e1 id k1]; exact k3) (by rw [← e1 id' k2]; exact k4), fun id o g k1 k2 => h1.lo id o g k1 (by rw [← e1 id k1]; exact k2)⟩
    rw [eok]
    exact h1.obj id o hid (by rw [← e1 id hid]; exact hH)
  refine hA B (lt n) M (lk (Δ ++ h)) w a K' (KC B sz K) (fun id o k1 k2 => by rw [e1 id k2]; exact k1) (fun id k1 k2 => ⟨by simp only [lt]; omega, e2 id k1 k2⟩) h1' (by rw [eok]; exact rep_eval h3) ?_
  intro u w' M' hext hcc hv
  rw [lt_ad hn] at hext hcc hv
  rw [eok] at hext
  obtain ⟨p1, p2, p3⟩ := put_env (h' := Δ ++ h) (M' := M') h2 h3 hext (dstOk_spec hd) hv
  exact hK' _ _ (next B _ _ ⟨M', hcc, p1, p2, by rw [p3]; exact h4.ext hext⟩)

theorem awl_still {v : AV} (hg : guardA ops env o true) (hd : dstOk o.dst sz = true) (hA : Still P o (evA env) h v) (next : AWL P ops sz rest K n (putE env o.dst v) h dfs) : AWL P ops sz (o :: rest) K n env h dfs :=
  awl_adds hg hd (Nat.le_refl _) hA.adds (fun id h1 h2 => by omega) (by simp) next
theorem awl_new {v : AV} (hg : guardA ops env o true) (hd : dstOk o.dst sz = true) (hA : Adds P o (evA env) h v [] n n) (next : AWL P ops sz rest K n (putE env o.dst v) h dfs) : AWL P ops sz (o :: rest) K n env h dfs :=
  awl_adds hg hd (Nat.le_refl _) hA (fun id h1 h2 => by omega) (by simp) next
theorem awl_one {v : AV} {obj : AObj} (hlv : obj.live = some obj) (hg : guardA ops env o true) (hd : dstOk o.dst sz = true) (hA : Adds P o (evA env) h v [(n, obj)] n (n + 1)) (next : AWL P ops sz rest K (n + 1) (putE env o.dst v) ((n, obj) :: h) dfs) : AWL P ops sz (o :: rest) K n env h dfs :=
  awl_adds hg hd (Nat.le_succ _) hA (fun id h1 h2 => by
    obtain rfl : id = n := by omega
    rw [lk_cons, if_pos rfl, hlv]; rfl) (by simp) next

theorem Ext.self_put {C : Cx} : Ext C C := Ext.refl C

/-- An operation whose guard is not met. -/
theorem awl_skip (hg : guardA ops env o false) (hd : dstOk o.dst sz = true) (next : AWL P ops sz rest K n (putE env o.dst .junk) h dfs) : AWL P ops sz (o :: rest) K n env h dfs := by
  intro B a w hc
  obtain ⟨M, h1, h2, h3, h4⟩ := hc
  refine wpList_step fun K' hK' => ?_
  rw [if_neg (by rw [hg.wanted h3]; simp)]
  obtain ⟨p1, p2, p3⟩ := put_env (v := .junk) (u := undef) h2 h3 (Ext.refl _) (dstOk_spec hd) (by simp [Rep])
  exact hK' _ _ (next B _ _ ⟨M, h1, p1, p2, by rw [p3]; exact h4⟩)

theorem g_none {ops : Array Oper} {d : Option Tmp} {op : Op} {ty : TypeId} {pos : String} {aft : Array Edge} : guardA ops env ⟨d, op, ty, pos, aft, none⟩ true := rfl
theorem g_some {ops : Array Oper} {d : Option Tmp} {op : Op} {ty : TypeId} {pos : String} {aft : Array Edge} {j : Nat} {want b : Bool} {t : Tmp} {c : Bool} (h1 : (ops[j]?).bind (·.dst) = some t) (h2 : lkE env t = some (.c (.v (.bool c)))) (h3 : (c == want) = b) : guardA ops env ⟨d, op, ty, pos, aft, some (j, want)⟩ b := ⟨t, c, h1, h2, h3⟩

/-- An own block is turned: its cells change, nothing else. -/
theorem ConcH.turn {B : Bs} {M : Nat → Option Nat} {w w' : World} (hc : ConcH B (lt n) M (lk h) w) {id g : Nat} {o o' : AObj} (hlv : o'.live = some o') (hid : id < n) (ho : lk h id = some o) (hM : M id = some g)
    (hos : w'.os = w.os) (htp : w'.tape = w.tape) (hou : w'.output = w.output) (hsz : w'.heap.size = w.heap.size) (hbl : ∀ k, k ≠ g → w'.heap[k]? = w.heap[k]?) (hsh : w'.shape? g = w.shape? g)
    (hob : Ext (cx B n M h w) (cx B n M ((id, o') :: h) w') → ObjRep (cx B n M ((id, o') :: h) w') (some g) o') :
    ConcH B (lt n) M (lk ((id, o') :: h)) w' ∧ Ext (cx B n M h w) (cx B n M ((id, o') :: h) w') := by
  have hlk : ∀ k, k ≠ id → lk ((id, o') :: h) k = lk h k := fun k hk => by rw [lk_cons, if_neg (fun e => hk e.symm)]
  have hlk0 : lk ((id, o') :: h) id = some o' := by rw [lk_cons, if_pos rfl, hlv]
  have hok : ∀ b, okOf B (lt n) M (lk h) b → okOf B (lt n) M (lk ((id, o') :: h)) b ∧ b ≠ g := fun b hb => by
    refine ⟨⟨hb.1, fun k ok hk hH he => ?_⟩, fun e => hb.2 id o hid ho (by rw [hM, e])⟩
    by_cases hki : k = id
    · subst hki; exact hb.2 k o hk ho he
    · rw [hlk k hki] at hH; exact hb.2 k ok hk hH he
  have hext : Ext (cx B n M h w) (cx B n M ((id, o') :: h) w') := by
    refine ⟨fun k hk => ⟨hk, rfl⟩, fun b hb hl => ⟨(hok b hb).1, by simp only [cx] at hl ⊢; omega, hbl b (hok b hb).2⟩, fun b x hx => ?_⟩
    simp only [cx] at hx ⊢
    by_cases hbg : b = g
    · subst hbg; rw [hsh]; exact hx
    · rw [shape_same (hbl b hbg)]; exact hx
  refine ⟨⟨⟨hos.trans hc.fr.os, htp.trans hc.fr.tape, hou.trans hc.fr.output, by rw [hsz]; exact hc.fr.size, fun k h1 h2 => ?_⟩, fun k ok hk hH => ?_, fun k k' ok ok' g' k1 k2 k3 k4 k5 k6 => ?_, fun k ok g' k1 k2 k3 => ?_⟩, hext⟩
  · rw [hbl k (fun e => ?_)]
    · exact hc.fr.block k h1 h2
    · subst e
      rcases hc.lo id o k hid ho hM with h3 | h3
      · omega
      · exact h2 h3
  · by_cases hki : k = id
    · subst hki
      rw [hlk0] at hH
      injection hH with hH
      subst hH
      rw [hM]
      exact hob hext
    · rw [hlk k hki] at hH
      have h3 := hc.obj k ok hk hH
      refine h3.ext hext (fun j hj => hbl j (fun e => ?_))
      subst e
      exact hki (hc.inj k id ok o j hk hid hH ho hj hM)
  · have get : ∀ k ok, lk ((id, o') :: h) k = some ok → ∃ ok', lk h k = some ok' := fun k ok hk => by
      by_cases hki : k = id
      · subst hki; exact ⟨o, ho⟩
      · rw [hlk k hki] at hk; exact ⟨ok, hk⟩
    obtain ⟨q1, hq1⟩ := get k ok k3
    obtain ⟨q2, hq2⟩ := get k' ok' k4
    exact hc.inj k k' q1 q2 g' k1 k2 hq1 hq2 k5 k6
  · by_cases hki : k = id
    · subst hki; exact hc.lo k o g' hid ho k3
    · rw [hlk k hki] at k2; exact hc.lo k ok g' k1 k2 k3

theorem shape_setRow {w : World} {g : Nat} {us vs : List Value} {T : TypeId} {fz : Nat × Nat} (h : w.heap[g]? = some (.cells us.toArray T fz)) (hl : vs.length = us.length) : (w.setRow g vs.toArray).shape? g = w.shape? g := by
  unfold World.shape?
  rw [setRow_heap w g _ _ T _ h, h]
  simp [hl]

theorem run_storeVar {w : World} {T T' : TypeId} {e : TyE} (hT : TyOk P T e) {g off : Nat} {cur vs : List Value} {v : Value} (hg : w.heap[g]? = some (.cells cur.toArray T' (0, 0))) (hv : v.cells.toList = vs) (hk : vs.length = e.size) (hfit : off + vs.length ≤ cur.length) (h1 : ∀ u ∈ vs, u.oneCell' = true) :
    (storeVar T ⟨g, off, none⟩ v).run P w = .ok () (w.setRow g (cur.take off ++ vs ++ cur.drop (off + vs.length)).toArray) := by
  have hst := run_storeCells_at P g off T' vs 0 cur.toArray w hg (by simpa using hfit) h1
  have hs := hT.sizeOf w
  have hsz : v.cells.size = e.size := by rw [← hk, ← hv]; simp
  simp only [storeVar, Sem.run_bind, hs, Result.andThen_ok]
  simp [hsz, hv, hst]

variable {tab : Tab} {T ty : TypeId} {x y : Operand} {pos : String} {aft : Array Edge} {gd : Option (Nat × Bool)}

/-- A store of one cell into an own block. -/
theorem awl_store1 (tb : TabOk P tab) {e : TyE} (hg : guardA ops env ⟨none, .store T x y, ty, pos, aft, gd⟩ true) (hT : tyLook tab T = some e) (hk : Nat.beq e.size 1 = true) {id off : Nat} {T' : TypeId} {cs : List AV} {v : AV} (hx : evA env x = some (.ref id off)) (hy : evA env y = some v) (h1 : v.one = true) (ho : lk h id = some (.blk T' cs)) (hfit : off < cs.length)
    (next : AWL P ops sz rest K n env ((id, .blk T' (cs.set off v)) :: h) dfs) : AWL P ops sz (⟨none, .store T x y, ty, pos, aft, gd⟩ :: rest) K n env h dfs := by
  intro B a w hc
  obtain ⟨M, c1, c2, c3, c4⟩ := hc
  refine wpList_step fun K' hK' => ?_
  rw [if_pos (hg.wanted c3)]
  have hp := rep_eval c3 x _ hx
  have hv := rep_eval c3 y _ hy
  simp only [Rep] at hp
  obtain ⟨hid, g, hM, hp⟩ := hp
  obtain ⟨us, hb, hus⟩ := obj_blk (fun id o h _ => h) c1 ho hid hM
  obtain ⟨o1, o2⟩ := hv.one h1
  have hsz : e.size = 1 := Nat.eq_of_beq_eq_true hk
  have hlen : off + 1 ≤ us.length := by rw [hus.length]; omega
  have hrun := run_storeVar (P := P) (w := w) (tyLook_ok tb hT) (g := g) (off := off) (cur := us) (vs := [a.eval y]) (v := a.eval y) hb (by rw [o2]) (by simp [hsz]) hlen (by simpa using o1)
  have hset : us.take off ++ [a.eval y] ++ us.drop (off + [a.eval y].length) = us.set off (a.eval y) := by
    rw [List.set_eq_take_append_cons_drop]
    rw [if_pos (by omega)]
    simp
  rw [hset] at hrun
  unfold Oper.wp execOp
  simp only [hp, Instr.storeAt, Instr.sureAddr, Sem.run_bind, Sem.run_pure, Result.andThen_ok, hrun]
  obtain ⟨k1, k2⟩ := c1.turn (o' := .blk T' (cs.set off v)) (w' := w.setRow g (us.set off (a.eval y)).toArray) rfl hid ho hM rfl rfl rfl (by simp) (fun k hk => setRow_other w g k _ hk) (shape_setRow hb (by simp))
    (fun hext => ⟨g, _, rfl, setRow_heap w g _ _ T' _ hb, RepL.ext hext _ _ (RepL.set hus off hv)⟩)
  simp only [Oper.upon, Act.put]
  exact hK' _ _ (next B _ _ ⟨M, k1, c2, fun t av ht => Rep.ext k2 _ _ (c3 t av ht), c4.ext k2⟩)

/-- A store of one closed cell into an own row. -/
theorem awl_store1r (tb : TabOk P tab) {e : TyE} (hg : guardA ops env ⟨none, .store T x y, ty, pos, aft, gd⟩ true) (hT : tyLook tab T = some e) (hk : Nat.beq e.size 1 = true) {id off : Nat} {T' : TypeId} {cs : List CV} {v : CV} (hx : evA env x = some (.ref id off)) (hy : evA env y = some (.c v)) (h1 : v.one = true) (ho : lk h id = some (.row T' cs)) (hfit : off < cs.length)
    (next : AWL P ops sz rest K n env ((id, .row T' (cs.set off v)) :: h) dfs) : AWL P ops sz (⟨none, .store T x y, ty, pos, aft, gd⟩ :: rest) K n env h dfs := by
  intro B a w hc
  obtain ⟨M, c1, c2, c3, c4⟩ := hc
  refine wpList_step fun K' hK' => ?_
  rw [if_pos (hg.wanted c3)]
  have hp := rep_eval c3 x _ hx
  have hv := rep_eval c3 y _ hy
  simp only [Rep] at hp hv
  obtain ⟨hid, g, hM, hp⟩ := hp
  obtain ⟨us, vs, hb, hus, hone⟩ := obj_row (fun id o h _ => h) c1 ho hid hM
  obtain ⟨o1, o2⟩ := hv.one h1
  have hsz : e.size = 1 := Nat.eq_of_beq_eq_true hk
  have hul := hus.length
  have hlen : off + 1 ≤ (us ++ vs).length := by simp; omega
  have hrun := run_storeVar (P := P) (w := w) (tyLook_ok tb hT) (g := g) (off := off) (cur := us ++ vs) (vs := [a.eval y]) (v := a.eval y) hb (by rw [o2]) (by simp [hsz]) hlen (by simpa using o1)
  have hset : (us ++ vs).take off ++ [a.eval y] ++ (us ++ vs).drop (off + [a.eval y].length) = us.set off (a.eval y) ++ vs := by
    rw [← List.set_append_left _ _ (by omega), List.set_eq_take_append_cons_drop]
    rw [if_pos (by simp; omega)]
    simp
  rw [hset] at hrun
  unfold Oper.wp execOp
  simp only [hp, Instr.storeAt, Instr.sureAddr, Sem.run_bind, Sem.run_pure, Result.andThen_ok, hrun]
  obtain ⟨k1, k2⟩ := c1.turn (o' := .row T' (cs.set off v)) (w' := w.setRow g (us.set off (a.eval y) ++ vs).toArray) rfl hid ho hM rfl rfl rfl (by simp) (fun k hk => setRow_other w g k _ hk) (shape_setRow hb (by simp))
    (fun hext => .inr ⟨g, _, vs, rfl, setRow_heap w g _ _ T' _ hb, RepCs.mono hext.ok _ _ (RepCs.set hus off hv), fun u hu => (List.mem_or_eq_of_mem_set hu).elim (hone u) (fun e => e ▸ o1)⟩)
  simp only [Oper.upon, Act.put]
  exact hK' _ _ (next B _ _ ⟨M, k1, c2, fun t av ht => Rep.ext k2 _ _ (c3 t av ht), c4.ext k2⟩)

/-- cells vs laid over cs from place off on. -/
def lay {α : Type} (cs : List α) (off : Nat) (vs : List α) : List α := cs.take off ++ vs ++ cs.drop (off + vs.length)
theorem lay_length {α : Type} (cs : List α) (off : Nat) (vs : List α) (h : off + vs.length ≤ cs.length) : (lay cs off vs).length = cs.length := by
  simp [lay]; omega
theorem lay_whole {α : Type} (cs vs : List α) (h : vs.length = cs.length) : lay cs 0 vs = vs := by simp [lay, h]

/-- A store of a whole struct or array into an own block. -/
theorem awl_storeA (tb : TabOk P tab) {e : TyE} (hg : guardA ops env ⟨none, .store T x y, ty, pos, aft, gd⟩ true) (hT : tyLook tab T = some e) {id off : Nat} {T' : TypeId} {cs xs cs' : List AV} {v : AV} (hx : evA env x = some (.ref id off)) (hy : evA env y = some v) (hp : Parts v xs) (hl : xs.length = e.size) (h1 : xs.all AV.one = true) (ho : lk h id = some (.blk T' cs)) (hfit : off + xs.length ≤ cs.length) (hcs : lay cs off xs = cs')
    (next : AWL P ops sz rest K n env ((id, .blk T' cs') :: h) dfs) : AWL P ops sz (⟨none, .store T x y, ty, pos, aft, gd⟩ :: rest) K n env h dfs := by
  intro B a w hc
  subst hcs
  obtain ⟨M, c1, c2, c3, c4⟩ := hc
  refine wpList_step fun K' hK' => ?_
  rw [if_pos (hg.wanted c3)]
  have hpt := rep_eval c3 x _ hx
  simp only [Rep] at hpt
  obtain ⟨hid, g, hM, hpt⟩ := hpt
  obtain ⟨vs, hv, hvs⟩ := hp.rep (rep_eval c3 y _ hy)
  obtain ⟨us, hb, hus⟩ := obj_blk (fun id o h _ => h) c1 ho hid hM
  have hul := hus.length
  have hvl := hvs.length
  have hrun := run_storeVar (P := P) (w := w) (tyLook_ok tb hT) (g := g) (off := off) (cur := us) (vs := vs) (v := a.eval y) hb (by rw [hv]; rfl) (by omega) (by omega) (hvs.one h1)
  unfold Oper.wp execOp
  simp only [hpt, Instr.storeAt, Instr.sureAddr, Sem.run_bind, Sem.run_pure, Result.andThen_ok, hrun]
  obtain ⟨k1, k2⟩ := c1.turn (o' := .blk T' (lay cs off xs)) (w' := w.setRow g (us.take off ++ vs ++ us.drop (off + vs.length)).toArray) rfl hid ho hM rfl rfl rfl (by simp) (fun k hk => setRow_other w g k _ hk) (shape_setRow hb (by simp; omega))
    (fun hext => ⟨g, _, rfl, setRow_heap w g _ _ T' _ hb, RepL.ext hext _ _ (by
      unfold lay
      rw [hvl]
      exact ((hus.take off).append hvs).append (hus.drop (off + xs.length)))⟩)
  simp only [Oper.upon, Act.put]
  exact hK' _ _ (next B _ _ ⟨M, k1, c2, fun t av ht => Rep.ext k2 _ _ (c3 t av ht), c4.ext k2⟩)
/-- A store of a whole closed struct or array into an own row. -/
theorem awl_storeAr (tb : TabOk P tab) {e : TyE} (hg : guardA ops env ⟨none, .store T x y, ty, pos, aft, gd⟩ true) (hT : tyLook tab T = some e) {id off : Nat} {T' : TypeId} {cs xs cs' : List CV} (hx : evA env x = some (.ref id off)) (hy : evA env y = some (.c (.agg xs))) (hl : xs.length = e.size) (ho : lk h id = some (.row T' cs)) (hfit : off + xs.length ≤ cs.length) (hcs : lay cs off xs = cs')
    (next : AWL P ops sz rest K n env ((id, .row T' cs') :: h) dfs) : AWL P ops sz (⟨none, .store T x y, ty, pos, aft, gd⟩ :: rest) K n env h dfs := by
  intro B a w hc
  subst hcs
  obtain ⟨M, c1, c2, c3, c4⟩ := hc
  refine wpList_step fun K' hK' => ?_
  rw [if_pos (hg.wanted c3)]
  have hpt := rep_eval c3 x _ hx
  have hvv := rep_eval c3 y _ hy
  simp only [Rep, RepC] at hpt hvv
  obtain ⟨hid, g, hM, hpt⟩ := hpt
  obtain ⟨vs, hv, hvs, h1⟩ := hvv
  obtain ⟨us, ws, hb, hus, hone⟩ := obj_row (fun id o h _ => h) c1 ho hid hM
  have hul := hus.length
  have hvl := hvs.length
  have hrun := run_storeVar (P := P) (w := w) (tyLook_ok tb hT) (g := g) (off := off) (cur := us ++ ws) (vs := vs) (v := a.eval y) hb (by rw [hv]; rfl) (by omega) (by simp; omega) h1
  have hset : (us ++ ws).take off ++ vs ++ (us ++ ws).drop (off + vs.length) = (us.take off ++ vs ++ us.drop (off + vs.length)) ++ ws := by
    rw [List.take_append_of_le_length (by omega), List.drop_append_of_le_length (by omega)]
    simp
  rw [hset] at hrun
  unfold Oper.wp execOp
  simp only [hpt, Instr.storeAt, Instr.sureAddr, Sem.run_bind, Sem.run_pure, Result.andThen_ok, hrun]
  obtain ⟨k1, k2⟩ := c1.turn (o' := .row T' (lay cs off xs)) (w' := w.setRow g ((us.take off ++ vs ++ us.drop (off + vs.length)) ++ ws).toArray) rfl hid ho hM rfl rfl rfl (by simp) (fun k hk => setRow_other w g k _ hk) (shape_setRow hb (by simp; omega))
    (fun hext => .inr ⟨g, _, ws, rfl, setRow_heap w g _ _ T' _ hb, RepCs.mono hext.ok _ _ (by
      unfold lay
      rw [hvl]
      exact ((hus.take off).append hvs).append (hus.drop (off + xs.length))), fun u hu => by
        rcases List.mem_append.1 hu with hu | hu
        · rcases List.mem_append.1 hu with hu | hu
          · exact hone u (List.mem_of_mem_take hu)
          · exact h1 u hu
        · exact hone u (List.mem_of_mem_drop hu)⟩)
  simp only [Oper.upon, Act.put]
  exact hK' _ _ (next B _ _ ⟨M, k1, c2, fun t av ht => Rep.ext k2 _ _ (c3 t av ht), c4.ext k2⟩)
end steps
end Go.Av
