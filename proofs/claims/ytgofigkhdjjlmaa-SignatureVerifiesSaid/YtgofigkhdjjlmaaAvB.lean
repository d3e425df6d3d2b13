/-
  What single operations yield on abstract values: operations that only read or make new memory. For every program.
-/
import Derived.Test.YtgofigkhdjjlmaaAvA
set_option linter.unusedVariables false
set_option linter.unusedSimpArgs false
namespace Go.Av
open Go Go.RowKit

/-- Kinds of types, as far as the laws need them. -/
inductive TK where
  | bool | int (k : IntKind) | str | ptr | slice (e : TypeId) | array (n : Nat) (e : TypeId) | struct (fs : List (Nat × TypeId)) | map (k e : TypeId) | func | iface | other
def tkOf : TypeDesc → TK
  | .bool => .bool
  | .int k => .int k
  | .string => .str
  | .pointer _ => .ptr
  | .slice e => .slice e
  | .array n e => .array n e
  | .struct fs => .struct (fs.toList.map fun f => (f.offset, f.type))
  | .map k e => .map k e
  | .func .. => .func
  | .interface _ => .iface
  | _ => .other
def TK.agg : TK → Bool
  | .struct _ | .array _ _ => true
  | _ => false

structure TyE where
  size : Nat
  bytes : Nat
  kind : TK
  zero : List Value

def TyOk (P : Program) (t : TypeId) (e : TyE) : Prop :=
  (P.info? t).map (fun i => (i.size, i.bytes, i.zero.map (·.cells.toList))) = some (e.size, e.bytes, some e.zero) ∧ (P.underlying t).map tkOf = some e.kind

abbrev Tab := List (TypeId × TyE)
def TabOk (P : Program) : Tab → Prop
  | [] => True
  | x :: r => TyOk P x.1 x.2 ∧ TabOk P r
def tyLook : Tab → TypeId → Option TyE
  | [], _ => none
  | (i, e) :: r, k => match Nat.beq i k with | true => some e | false => tyLook r k

theorem tyLook_ok {P : Program} {t : TypeId} {e : TyE} : ∀ {tab : Tab}, TabOk P tab → tyLook tab t = some e → TyOk P t e
  | [], _, h => by cases h
  | x :: r, ht, h => by
    unfold tyLook at h
    split at h
    · rename_i he; injection h with h; subst h; rw [← Nat.eq_of_beq_eq_true he]; exact ht.1
    · exact tyLook_ok ht.2 h

section Ty
variable {P : Program} {t : TypeId} {e : TyE}
theorem TyOk.parts (h : TyOk P t e) : ∃ i, P.info? t = some i ∧ i.size = e.size ∧ i.bytes = e.bytes ∧ ∃ z, i.zero = some z ∧ z.cells.toList = e.zero := by
  obtain ⟨h1, _⟩ := h
  obtain ⟨i, hi, he⟩ := Option.map_eq_some_iff.1 h1
  simp only [Prod.mk.injEq] at he
  obtain ⟨z, hz, he2⟩ := Option.map_eq_some_iff.1 he.2.2
  exact ⟨i, hi, he.1, he.2.1, z, hz, he2⟩
theorem TyOk.sizeOf (h : TyOk P t e) (w : World) : (sizeOf t).run P w = .ok e.size w := by
  obtain ⟨i, hi, hs, _⟩ := h.parts
  simp [Go.sizeOf, typeInfo, hi, hs]
theorem TyOk.und (h : TyOk P t e) : ∃ d, P.underlying t = some d ∧ tkOf d = e.kind := by
  obtain ⟨_, h2⟩ := h
  exact Option.map_eq_some_iff.1 h2
theorem TyOk.isAgg (h : TyOk P t e) (w : World) : (isAgg t).run P w = .ok e.kind.agg w := by
  obtain ⟨d, hd, hk⟩ := h.und
  unfold Go.isAgg
  rw [Sem.run_bind, run_underlying hd w, ← hk]
  cases d <;> simp [tkOf, TK.agg]
theorem TyOk.slice (h : TyOk P t e) {x : TypeId} (hk : e.kind = .slice x) : P.underlying t = some (.slice x) := by
  obtain ⟨d, hd, hk'⟩ := h.und
  rw [hk] at hk'
  cases d <;> simp [tkOf] at hk'
  subst hk'; exact hd
theorem TyOk.array (h : TyOk P t e) {n : Nat} {x : TypeId} (hk : e.kind = .array n x) : P.underlying t = some (.array n x) := by
  obtain ⟨d, hd, hk'⟩ := h.und
  rw [hk] at hk'
  cases d <;> simp [tkOf] at hk'
  obtain ⟨rfl, rfl⟩ := hk'; exact hd
theorem TyOk.struct (h : TyOk P t e) {fs : List (Nat × TypeId)} (hk : e.kind = .struct fs) : ∃ fields : Array Field, P.underlying t = some (.struct fields) ∧ fields.toList.map (fun f => (f.offset, f.type)) = fs := by
  obtain ⟨d, hd, hk'⟩ := h.und
  rw [hk] at hk'
  cases d <;> simp [tkOf] at hk'
  exact ⟨_, hd, hk'⟩
theorem TyOk.int (h : TyOk P t e) {k : IntKind} (hk : e.kind = .int k) : P.underlying t = some (.int k) := by
  obtain ⟨d, hd, hk'⟩ := h.und
  rw [hk] at hk'
  cases d <;> simp [tkOf] at hk'
  subst hk'; exact hd
theorem TyOk.str (h : TyOk P t e) (hk : e.kind = .str) : P.underlying t = some .string := by
  obtain ⟨d, hd, hk'⟩ := h.und
  rw [hk] at hk'
  cases d <;> simp [tkOf] at hk'
  exact hd
theorem TyOk.bool (h : TyOk P t e) (hk : e.kind = .bool) : P.underlying t = some .bool := by
  obtain ⟨d, hd, hk'⟩ := h.und
  rw [hk] at hk'
  cases d <;> simp [tkOf] at hk'
  exact hd
theorem TyOk.field (h : TyOk P t e) {fs : List (Nat × TypeId)} (hk : e.kind = .struct fs) {f off : Nat} {ft : TypeId} (hf : fs[f]? = some (off, ft)) : ∃ (fields : Array Field) (fd : Field), P.underlying t = some (.struct fields) ∧ fields[f]? = some fd ∧ fd.offset = off ∧ fd.type = ft := by
  obtain ⟨fields, h1, h2⟩ := h.struct hk
  rw [← h2, List.getElem?_map] at hf
  obtain ⟨fd, h3, h4⟩ := Option.map_eq_some_iff.1 hf
  simp only [Prod.mk.injEq] at h4
  exact ⟨fields, fd, h1, by simpa using h3, h4.1, h4.2⟩
end Ty

theorem add_mk (b o j : Nat) : (⟨b, o, none⟩ : Addr).add j = ⟨b, o + j, none⟩ := by
  unfold Addr.add; split <;> simp_all

abbrev Env := List (Nat × AV)
abbrev Heap := List (Nat × AObj)
abbrev Evl := Operand → Option AV

/-- The operation yields v, and has added the objects Δ with the ids from i on and ahead of j. -/
def Adds (P : Program) (o : Oper) (ev : Evl) (h : Heap) (v : AV) (Δ : Heap) (i j : Nat) : Prop :=
  ∀ (B : Bs) (dom : Nat → Prop) (M : Nat → Option Nat) (H : Nat → Option AObj) (w : World) (a : Act) (K : Act → World → Prop) (Q : Exit → Act → World → Prop),
    (∀ id o, lk h id = some o → dom id → H id = some o) → (∀ id, i ≤ id → id < j → ¬ dom id ∧ H id = lk Δ id) →
    ConcH B dom M H w → (∀ x av, ev x = some av → Rep ⟨dom, M, okOf B dom M H, w⟩ av (a.eval x)) →
    (∀ u w' M', Ext ⟨dom, M, okOf B dom M H, w⟩ ⟨ad dom i j, M', okOf B (ad dom i j) M' H, w'⟩ → ConcH B (ad dom i j) M' H w' → Rep ⟨ad dom i j, M', okOf B (ad dom i j) M' H, w'⟩ v u → K (a.put o.dst u) w') →
    o.wp P a w K Q

/-- The operation only reads, and yields v. -/
def Still (P : Program) (o : Oper) (ev : Evl) (h : Heap) (v : AV) : Prop :=
  ∀ (B : Bs) (dom : Nat → Prop) (M : Nat → Option Nat) (H : Nat → Option AObj) (w : World) (a : Act),
    (∀ id o, lk h id = some o → dom id → H id = some o) → ConcH B dom M H w → (∀ x av, ev x = some av → Rep ⟨dom, M, okOf B dom M H, w⟩ av (a.eval x)) →
    ∃ u, (execOp a.eval o).run P w = .ok (.value u) w ∧ Rep ⟨dom, M, okOf B dom M H, w⟩ v u

theorem ad_self (dom : Nat → Prop) (i : Nat) : ad dom i i = dom := by
  funext id
  simp only [ad, eq_iff_iff]
  exact ⟨fun h => h.elim (fun h => h) (fun h => by omega), .inl⟩

section
variable {P : Program} {o : Oper} {ev : Evl} {h : Heap} {v : AV} {i : Nat}

theorem Still.adds (hs : Still P o ev h v) : Adds P o ev h v [] i i := by
  intro B dom M H w a K Q hh _ hc he hK
  obtain ⟨u, hr, hv⟩ := hs B dom M H w a hh hc he
  unfold Oper.wp
  rw [hr]
  simp only [Oper.upon]
  refine hK u w M ?_ ?_ ?_ <;> rw [ad_self]
  · exact Ext.refl _
  · exact hc
  · exact hv

/-- The operation makes memory of which nothing is kept, or only what is read. -/
theorem adds_new (hrun : ∀ (B : Bs) (dom : Nat → Prop) (M : Nat → Option Nat) (H : Nat → Option AObj) (w : World) (a : Act),
    (∀ id o, lk h id = some o → dom id → H id = some o) → ConcH B dom M H w → (∀ x av, ev x = some av → Rep ⟨dom, M, okOf B dom M H, w⟩ av (a.eval x)) →
    ∃ u w', (execOp a.eval o).run P w = .ok (.value u) w' ∧ Below w.heap.size w w' ∧ (∀ C, Ext ⟨dom, M, okOf B dom M H, w⟩ C → C.w = w' → (∀ b, w.heap.size ≤ b → C.ok b) → Rep C v u)) : Adds P o ev h v [] i i := by
  intro B dom M H w a K Q hh _ hc he hK
  obtain ⟨u, w', hr, hb, hv⟩ := hrun B dom M H w a hh hc he
  unfold Oper.wp
  rw [hr]
  simp only [Oper.upon]
  have hg := hc.grow hb i i (M' := M) (fun _ _ => rfl) (fun id h1 h2 => by omega) (fun id o h1 h2 => by omega) (fun id id' o o' g h1 h2 => by omega) (fun _ id o h1 h2 => by omega)
  refine hK u w' M hg.2 hg.1 (hv _ hg.2 rfl fun b hb => ⟨.inr (.inl (Nat.le_trans hc.fr.size hb)), fun id o hid hH he => ?_⟩)
  rw [ad_self] at hid
  have := (hc.obj id o hid hH).lt b he
  simp only at this
  omega

/-- The operation makes one object. -/
theorem adds_one {obj : AObj} (hlv : obj.live = some obj) (hrun : ∀ (B : Bs) (dom : Nat → Prop) (M : Nat → Option Nat) (H : Nat → Option AObj) (w : World) (a : Act),
    (∀ id o, lk h id = some o → dom id → H id = some o) → ConcH B dom M H w → (∀ x av, ev x = some av → Rep ⟨dom, M, okOf B dom M H, w⟩ av (a.eval x)) →
    ∃ u w' m, (execOp a.eval o).run P w = .ok (.value u) w' ∧ Below w.heap.size w w' ∧ (∀ g, m = some g → w.heap.size ≤ g) ∧
      (∀ C, Ext ⟨dom, M, okOf B dom M H, w⟩ C → C.w = w' → C.dom i → C.M i = m → ObjRep C m obj ∧ Rep C v u)) : Adds P o ev h v [(i, obj)] i (i + 1) := by
  intro B dom M H w a K Q hh hn hc he hK
  obtain ⟨u, w', m, hr, hb, hm, hv⟩ := hrun B dom M H w a hh hc he
  unfold Oper.wp
  rw [hr]
  simp only [Oper.upon]
  have hi := hn i (Nat.le_refl _) (Nat.lt_succ_self _)
  have e1 : H i = some obj := by rw [hi.2, lk_cons, if_pos rfl, hlv]
  let M' : Nat → Option Nat := fun id => if id = i then m else M id
  have hM' : M' i = m := by simp [M']
  have hg := hc.grow hb i (i + 1) (M' := M') (fun id hid => by
      have : id ≠ i := fun e => hi.1 (e ▸ hid)
      simp [M', this]) (fun id h1 h2 => (hn id h1 h2).1)
    (fun id o h1 h2 h3 g hg => by
      obtain rfl : id = i := by omega
      rw [hM'] at hg
      exact hm g hg)
    (fun id id' o o' g h1 h2 h3 h4 => fun _ _ _ _ => by omega)
    (fun hext id o h1 h2 h3 => by
      obtain rfl : id = i := by omega
      rw [e1] at h3
      injection h3 with h3
      subst h3
      rw [hM']
      exact (hv _ hext rfl (.inr ⟨h1, h2⟩) hM').1)
  exact hK u w' M' hg.2 hg.1 (hv _ hg.2 rfl (.inr ⟨Nat.le_refl _, Nat.lt_succ_self _⟩) hM').2
end

section ops
variable {P : Program} {tab : Tab} {ev : Evl} {h : Heap} {d : Option Tmp} {T ty : TypeId} {x y z : Operand} {pos : String} {aft : Array Edge} {gd : Option (Nat × Bool)} {i : Nat}

theorem s_move {v : AV} (hx : ev x = some v) : Still P ⟨d, .move x, ty, pos, aft, gd⟩ ev h v := by
  intro B dom M H w a hh hc he
  exact ⟨a.eval x, by simp [execOp], he x v hx⟩
theorem s_assign {v : AV} (hx : ev x = some v) : Still P ⟨d, .assign x, ty, pos, aft, gd⟩ ev h v := by
  intro B dom M H w a hh hc he
  exact ⟨a.eval x, by simp [execOp], he x v hx⟩
theorem s_pickT {v : AV} (hc0 : ev z = some (.c (.v (.bool true)))) (hx : ev x = some v) : Still P ⟨d, .pick z x y, ty, pos, aft, gd⟩ ev h v := by
  intro B dom M H w a hh hc he
  have h0 := he z _ hc0
  simp only [Rep, RepC] at h0
  exact ⟨a.eval x, by simp [execOp, h0, asBool], he x v hx⟩
theorem s_pickF {v : AV} (hc0 : ev z = some (.c (.v (.bool false)))) (hy : ev y = some v) : Still P ⟨d, .pick z x y, ty, pos, aft, gd⟩ ev h v := by
  intro B dom M H w a hh hc he
  have h0 := he z _ hc0
  simp only [Rep, RepC] at h0
  exact ⟨a.eval y, by simp [execOp, h0, asBool], he y v hy⟩

/-- Reading cells behind an own pointer. -/
theorem obj_blk {B : Bs} {dom : Nat → Prop} {M : Nat → Option Nat} {H : Nat → Option AObj} {w : World} (hh : ∀ id o, lk h id = some o → dom id → H id = some o) (hc : ConcH B dom M H w) {id g : Nat} {T : TypeId} {cs : List AV}
    (ho : lk h id = some (.blk T cs)) (hd : dom id) (hM : M id = some g) : ∃ us, w.heap[g]? = some (.cells us.toArray T (0, 0)) ∧ RepL ⟨dom, M, okOf B dom M H, w⟩ cs us := by
  obtain ⟨k, us, h1, h2, h3⟩ := hc.obj id _ hd (hh id _ ho hd)
  rw [hM] at h1
  injection h1 with h1
  subst h1
  exact ⟨us, h2, h3⟩
theorem obj_row {B : Bs} {dom : Nat → Prop} {M : Nat → Option Nat} {H : Nat → Option AObj} {w : World} (hh : ∀ id o, lk h id = some o → dom id → H id = some o) (hc : ConcH B dom M H w) {id g : Nat} {T : TypeId} {cs : List CV}
    (ho : lk h id = some (.row T cs)) (hd : dom id) (hM : M id = some g) : ∃ us vs, w.heap[g]? = some (.cells (us ++ vs).toArray T (0, 0)) ∧ RepCs (okOf B dom M H) w cs us ∧ ∀ u ∈ us, u.oneCell' = true := by
  rcases hc.obj id _ hd (hh id _ ho hd) with ⟨h1, _⟩ | ⟨k, us, vs, h1, h2, h3, h4⟩
  · rw [hM] at h1; cases h1
  · rw [hM] at h1
    injection h1 with h1
    subst h1
    exact ⟨us, vs, h2, h3, h4⟩

theorem cell_blk {w : World} {g : Nat} {us : List Value} {T : TypeId} {fz : Nat × Nat} (h : w.heap[g]? = some (.cells us.toArray T fz)) (off : Nat) : w.cell? ⟨g, off, none⟩ = us[off]? := by
  simp [World.cell?, h]
theorem cell_row {w : World} {g : Nat} {us vs : List Value} {T : TypeId} {fz : Nat × Nat} (h : w.heap[g]? = some (.cells (us ++ vs).toArray T fz)) {off : Nat} {u : Value} (hu : us[off]? = some u) : w.cell? ⟨g, off, none⟩ = some u := by
  rw [cell_blk h, List.getElem?_append_left (List.getElem?_eq_some_iff.1 hu).1]
  exact hu

theorem run_load1 {w : World} {e : TyE} (hT : TyOk P T e) (hk : e.kind.agg = false) {p : Addr} {u : Value} (hp : w.cell? p = some u) : (loadVar T p).run P w = .ok u w := by
  have ha := hT.isAgg w
  simp [loadVar, Sem.run_bind, ha, hk, hp]
theorem run_loadA {w : World} {e : TyE} (hT : TyOk P T e) (hk : e.kind.agg = true) {g off : Nat} {us : List Value} (hl : us.length = e.size) (hp : ∀ j u, us[j]? = some u → w.cell? ⟨g, off + j, none⟩ = some u) : (loadVar T ⟨g, off, none⟩).run P w = .ok (.agg us.toArray) w := by
  have ha := hT.isAgg w
  have hs := hT.sizeOf w
  have := run_loadCells_list (P := P) w ⟨g, off, none⟩ us (fun j v hj => by rw [add_mk]; exact hp j v hj)
  rw [hl] at this
  simp [loadVar, Sem.run_bind, ha, hk, hs, this]

theorem s_load1 (tb : TabOk P tab) {e : TyE} (hT : tyLook tab T = some e) (hk : e.kind.agg = false) {id off : Nat} {T' : TypeId} {cs : List AV} {v : AV} (hx : ev x = some (.ref id off)) (ho : lk h id = some (.blk T' cs)) (hv : cs[off]? = some v) :
    Still P ⟨d, .load T x, ty, pos, aft, gd⟩ ev h v := by
  intro B dom M H w a hh hc he
  have hp := he x _ hx
  simp only [Rep] at hp
  obtain ⟨hd, g, hM, hp⟩ := hp
  obtain ⟨us, h2, h3⟩ := obj_blk hh hc ho hd hM
  obtain ⟨u, hu, hr⟩ := h3.get hv
  refine ⟨u, ?_, hr⟩
  have := run_load1 (P := P) (w := w) (tyLook_ok tb hT) hk (p := ⟨g, off, none⟩) (by rw [cell_blk h2]; exact hu)
  simp [execOp, hp, Instr.loadAt, Instr.sureAddr, this]
theorem s_load1r (tb : TabOk P tab) {e : TyE} (hT : tyLook tab T = some e) (hk : e.kind.agg = false) {id off : Nat} {T' : TypeId} {cs : List CV} {v : CV} (hx : ev x = some (.ref id off)) (ho : lk h id = some (.row T' cs)) (hv : cs[off]? = some v) :
    Still P ⟨d, .load T x, ty, pos, aft, gd⟩ ev h (.c v) := by
  intro B dom M H w a hh hc he
  have hp := he x _ hx
  simp only [Rep] at hp
  obtain ⟨hd, g, hM, hp⟩ := hp
  obtain ⟨us, vs, h2, h3, h30⟩ := obj_row hh hc ho hd hM
  obtain ⟨u, hu, hr⟩ := h3.get hv
  refine ⟨u, ?_, hr⟩
  have := run_load1 (P := P) (w := w) (tyLook_ok tb hT) hk (p := ⟨g, off, none⟩) (cell_row h2 hu)
  simp [execOp, hp, Instr.loadAt, Instr.sureAddr, this]
theorem s_load1i (tb : TabOk P tab) {e : TyE} (hT : tyLook tab T = some e) (hk : e.kind.agg = false) {off : Nat} {cs : List CV} {v : CV} (hx : ev x = some (.ip cs off)) (hv : cs[off]? = some v) :
    Still P ⟨d, .load T x, ty, pos, aft, gd⟩ ev h (.c v) := by
  intro B dom M H w a hh hc he
  have hp := he x _ hx
  simp only [Rep] at hp
  obtain ⟨b, o, us, hp, h2, h3, h4, h40, h5⟩ := hp
  obtain ⟨u, hu, hr⟩ := h4.get hv
  refine ⟨u, ?_, hr⟩
  have := run_load1 (P := P) (w := w) (tyLook_ok tb hT) hk (p := ⟨b, o + off, none⟩) (h5 off u hu)
  simp [execOp, hp, Instr.loadAt, Instr.sureAddr, this]

def allC : List AV → Option (List CV)
  | [] => some []
  | .c x :: r => match allC r with | some cs => some (x :: cs) | none => none
  | _ :: _ => none
theorem allC_eq : ∀ {xs : List AV} {cs : List CV}, allC xs = some cs → xs = cs.map AV.c
  | [], cs, h => by simp [allC] at h; subst h; rfl
  | .c x :: r, cs, h => by
    simp only [allC] at h
    split at h
    · rename_i cs' h'; injection h with h; subst h; rw [allC_eq h']; rfl
    · cases h
  | .ref .. :: r, cs, h => by simp [allC] at h
  | .own .. :: r, cs, h => by simp [allC] at h
  | .ip .. :: r, cs, h => by simp [allC] at h
  | .agg .. :: r, cs, h => by simp [allC] at h
  | .tup .. :: r, cs, h => by simp [allC] at h
  | .fn .. :: r, cs, h => by simp [allC] at h
  | .junk :: r, cs, h => by simp [allC] at h

/-- A struct of parts, closed where all its parts are. -/
inductive IsAgg : List AV → AV → Prop
  | closed {xs : List AV} {cs : List CV} (h : allC xs = some cs) (h1 : xs.all AV.one = true) : IsAgg xs (.c (.agg cs))
  | mixed (xs : List AV) : IsAgg xs (.agg xs)
theorem IsAgg.rep {C : Cx} {xs : List AV} {v : AV} (h : IsAgg xs v) {us : List Value} (hr : RepL C xs us) : Rep C v (.agg us.toArray) := by
  cases h with
  | closed h h1 =>
    have h2 := hr.one h1
    rw [allC_eq h] at hr; exact ⟨us, rfl, hr.toC, h2⟩
  | mixed => exact ⟨us, rfl, hr⟩
/-- The parts of a struct or array value. -/
inductive Parts : AV → List AV → Prop
  | closed (cs : List CV) : Parts (.c (.agg cs)) (cs.map AV.c)
  | mixed (xs : List AV) : Parts (.agg xs) xs
theorem Parts.rep {C : Cx} {xs : List AV} {v : AV} (h : Parts v xs) {u : Value} (hr : Rep C v u) : ∃ us, u = .agg us.toArray ∧ RepL C xs us := by
  cases h with
  | closed cs => obtain ⟨us, h1, h2, _⟩ := hr; exact ⟨us, h1, RepL.ofC h2⟩
  | mixed => exact hr

/-- A whole struct or array out of an own block. -/
theorem s_loadA (tb : TabOk P tab) {e : TyE} (hT : tyLook tab T = some e) (hk : e.kind.agg = true) {id off : Nat} {T' : TypeId} {cs xs : List AV} {v : AV} (hx : ev x = some (.ref id off)) (ho : lk h id = some (.blk T' cs)) (hxs : (cs.drop off).take e.size = xs) (hl : xs.length = e.size) (hv : IsAgg xs v) :
    Still P ⟨d, .load T x, ty, pos, aft, gd⟩ ev h v := by
  intro B dom M H w a hh hc he
  have hp := he x _ hx
  simp only [Rep] at hp
  obtain ⟨hd, g, hM, hp⟩ := hp
  obtain ⟨us, h2, h3⟩ := obj_blk hh hc ho hd hM
  have h4 := (h3.drop off).take e.size
  rw [hxs] at h4
  refine ⟨.agg ((us.drop off).take e.size).toArray, ?_, hv.rep h4⟩
  have := run_loadA (P := P) (w := w) (tyLook_ok tb hT) hk (g := g) (off := off) (us := (us.drop off).take e.size) (by rw [h4.length, hl]) (fun j u hj => by
    rw [cell_blk h2]
    have hjk : j < e.size := by
      rcases Nat.lt_or_ge j e.size with h1 | h1
      · exact h1
      · rw [List.getElem?_eq_none (by rw [List.length_take]; omega)] at hj; cases hj
    rwa [List.getElem?_take_of_lt hjk, List.getElem?_drop] at hj)
  simp [execOp, hp, Instr.loadAt, Instr.sureAddr, this]
theorem s_loadAr (tb : TabOk P tab) {e : TyE} (hT : tyLook tab T = some e) (hk : e.kind.agg = true) {id off : Nat} {T' : TypeId} {cs xs : List CV} (hx : ev x = some (.ref id off)) (ho : lk h id = some (.row T' cs)) (hxs : (cs.drop off).take e.size = xs) (hl : xs.length = e.size) :
    Still P ⟨d, .load T x, ty, pos, aft, gd⟩ ev h (.c (.agg xs)) := by
  intro B dom M H w a hh hc he
  have hp := he x _ hx
  simp only [Rep] at hp
  obtain ⟨hd, g, hM, hp⟩ := hp
  obtain ⟨us, vs, h2, h3, h30⟩ := obj_row hh hc ho hd hM
  have h4 := (h3.drop off).take e.size
  rw [hxs] at h4
  refine ⟨.agg ((us.drop off).take e.size).toArray, ?_, _, rfl, h4, fun u hu => h30 u (List.mem_of_mem_drop (List.mem_of_mem_take hu))⟩
  have := run_loadA (P := P) (w := w) (tyLook_ok tb hT) hk (g := g) (off := off) (us := (us.drop off).take e.size) (by rw [h4.length, hl]) (fun j u hj => by
    have hjk : j < e.size := by
      rcases Nat.lt_or_ge j e.size with h1 | h1
      · exact h1
      · rw [List.getElem?_eq_none (by rw [List.length_take]; omega)] at hj; cases hj
    rw [List.getElem?_take_of_lt hjk, List.getElem?_drop] at hj
    exact cell_row h2 hj)
  simp [execOp, hp, Instr.loadAt, Instr.sureAddr, this]
theorem s_loadAi (tb : TabOk P tab) {e : TyE} (hT : tyLook tab T = some e) (hk : e.kind.agg = true) {off : Nat} {cs xs : List CV} (hx : ev x = some (.ip cs off)) (hxs : (cs.drop off).take e.size = xs) (hl : xs.length = e.size) :
    Still P ⟨d, .load T x, ty, pos, aft, gd⟩ ev h (.c (.agg xs)) := by
  intro B dom M H w a hh hc he
  have hp := he x _ hx
  simp only [Rep] at hp
  obtain ⟨b, o, us, hp, h2, h3, h4, h40, h5⟩ := hp
  have h6 := (h4.drop off).take e.size
  rw [hxs] at h6
  refine ⟨.agg ((us.drop off).take e.size).toArray, ?_, _, rfl, h6, fun u hu => h40 u (List.mem_of_mem_drop (List.mem_of_mem_take hu))⟩
  have := run_loadA (P := P) (w := w) (tyLook_ok tb hT) hk (g := b) (off := o + off) (us := (us.drop off).take e.size) (by rw [h6.length, hl]) (fun j u hj => by
    have hjk : j < e.size := by
      rcases Nat.lt_or_ge j e.size with h1 | h1
      · exact h1
      · rw [List.getElem?_eq_none (by rw [List.length_take]; omega)] at hj; cases hj
    rw [List.getElem?_take_of_lt hjk, List.getElem?_drop] at hj
    rw [Nat.add_assoc]
    exact h5 _ u hj)
  simp [execOp, hp, Instr.loadAt, Instr.sureAddr, this]

theorem s_fieldAddr (tb : TabOk P tab) {e e' : TyE} {fs : List (Nat × TypeId)} (hT : tyLook tab T = some e) (hk : e.kind = .struct fs) {f fo : Nat} {ft : TypeId} (hf : fs[f]? = some (fo, ft)) (hft : tyLook tab ft = some e') (hpos : Nat.beq e'.size 0 = false) {id off : Nat} (hx : ev x = some (.ref id off)) :
    Still P ⟨d, .fieldAddr T x f, ty, pos, aft, gd⟩ ev h (.ref id (off + fo)) := by
  intro B dom M H w a hh hc he
  have hp := he x _ hx
  simp only [Rep] at hp
  obtain ⟨hd, g, hM, hp⟩ := hp
  obtain ⟨fields, fd, h1, h2, h3, h4⟩ := (tyLook_ok tb hT).field hk hf
  refine ⟨.pointer (some ⟨g, off + fo, none⟩), ?_, hd, g, hM, rfl⟩
  have hsz : ¬ e'.size = 0 := fun h0 => by rw [h0] at hpos; cases hpos
  subst h3 h4
  have hs := (tyLook_ok tb hft).sizeOf w
  simp [execOp, Instr.fieldAt, Sem.run_bind, run_underlying h1, h2, hp, Instr.sureAddr, fieldPlace, hs, hsz, add_mk]
theorem s_fieldAddri (tb : TabOk P tab) {e e' : TyE} {fs : List (Nat × TypeId)} (hT : tyLook tab T = some e) (hk : e.kind = .struct fs) {f fo : Nat} {ft : TypeId} (hf : fs[f]? = some (fo, ft)) (hft : tyLook tab ft = some e') (hpos : Nat.beq e'.size 0 = false) {cs : List CV} {off : Nat} (hx : ev x = some (.ip cs off)) :
    Still P ⟨d, .fieldAddr T x f, ty, pos, aft, gd⟩ ev h (.ip cs (off + fo)) := by
  intro B dom M H w a hh hc he
  have hp := he x _ hx
  simp only [Rep] at hp
  obtain ⟨b, o, us, hp, h2', h3', h4', h6', h5'⟩ := hp
  obtain ⟨fields, fd, h1, h2, h3, h4⟩ := (tyLook_ok tb hT).field hk hf
  refine ⟨.pointer (some ⟨b, o + (off + fo), none⟩), ?_, b, o, us, rfl, h2', h3', h4', h6', h5'⟩
  have hsz : ¬ e'.size = 0 := fun h0 => by rw [h0] at hpos; cases hpos
  subst h3 h4
  have hs := (tyLook_ok tb hft).sizeOf w
  simp [execOp, Instr.fieldAt, Sem.run_bind, run_underlying h1, h2, hp, Instr.sureAddr, fieldPlace, hs, hsz, add_mk, Nat.add_assoc]

theorem run_part1 {w : World} {e : TyE} (hT : TyOk P T e) (hk : e.kind.agg = false) {us : List Value} {off : Nat} {u : Value} (hu : us[off]? = some u) : (part T us.toArray off).run P w = .ok u w := by
  have ha := hT.isAgg w
  simp [part, Sem.run_bind, ha, hk, hu]
theorem run_partA {w : World} {e : TyE} (hT : TyOk P T e) (hk : e.kind.agg = true) {us : List Value} {off : Nat} : (part T us.toArray off).run P w = .ok (.agg ((us.drop off).take e.size).toArray) w := by
  have ha := hT.isAgg w
  have hs := hT.sizeOf w
  simp [part, Sem.run_bind, ha, hk, hs, List.extract_eq_take_drop]

theorem s_field1 (tb : TabOk P tab) {e e' : TyE} {fs : List (Nat × TypeId)} (hT : tyLook tab T = some e) (hk : e.kind = .struct fs) {f fo : Nat} {ft : TypeId} (hf : fs[f]? = some (fo, ft)) (hft : tyLook tab ft = some e') (hk' : e'.kind.agg = false) {v u : AV} {xs : List AV} (hx : ev x = some v) (hp : Parts v xs) (hu : xs[fo]? = some u) :
    Still P ⟨d, .field T x f, ty, pos, aft, gd⟩ ev h u := by
  intro B dom M H w a hh hc he
  obtain ⟨us, h1, h2⟩ := hp.rep (he x _ hx)
  obtain ⟨u', hu', hr⟩ := h2.get hu
  obtain ⟨fields, fd, h3, h4, h5, h6⟩ := (tyLook_ok tb hT).field hk hf
  subst h5 h6
  refine ⟨u', ?_, hr⟩
  have := run_part1 (P := P) (w := w) (tyLook_ok tb hft) hk' hu'
  simp [execOp, Instr.field, Sem.run_bind, run_underlying h3, h4, h1, asAgg, this]
theorem s_fieldA (tb : TabOk P tab) {e e' : TyE} {fs : List (Nat × TypeId)} (hT : tyLook tab T = some e) (hk : e.kind = .struct fs) {f fo : Nat} {ft : TypeId} (hf : fs[f]? = some (fo, ft)) (hft : tyLook tab ft = some e') (hk' : e'.kind.agg = true) {v u : AV} {xs ys : List AV} (hx : ev x = some v) (hp : Parts v xs) (hys : (xs.drop fo).take e'.size = ys) (hu : IsAgg ys u) :
    Still P ⟨d, .field T x f, ty, pos, aft, gd⟩ ev h u := by
  intro B dom M H w a hh hc he
  obtain ⟨us, h1, h2⟩ := hp.rep (he x _ hx)
  have h7 := (h2.drop fo).take e'.size
  rw [hys] at h7
  obtain ⟨fields, fd, h3, h4, h5, h6⟩ := (tyLook_ok tb hT).field hk hf
  subst h5 h6
  refine ⟨_, ?_, hu.rep h7⟩
  have := run_partA (P := P) (w := w) (tyLook_ok tb hft) hk' (us := us) (off := fd.offset)
  simp [execOp, Instr.field, Sem.run_bind, run_underlying h3, h4, h1, asAgg, this]

theorem s_extract {xs : List AV} {k : Nat} {u : AV} (hx : ev x = some (.tup xs)) (hu : xs[k]? = some u) : Still P ⟨d, .extract x k, ty, pos, aft, gd⟩ ev h u := by
  intro B dom M H w a hh hc he
  have hp := he x _ hx
  simp only [Rep] at hp
  obtain ⟨us, h1, h2⟩ := hp
  obtain ⟨u', hu', hr⟩ := h2.get hu
  refine ⟨u', ?_, hr⟩
  simp [execOp, Instr.extract, h1, hu']

theorem evs_rep {C : Cx} {a : Act} (he : ∀ x av, ev x = some av → Rep C av (a.eval x)) : ∀ {xs : List Operand} {vs : List AV}, xs.map ev = vs.map some → RepL C vs (xs.map a.eval)
  | [], vs, h => by cases vs with | nil => simp [RepL] | cons v vs => simp at h
  | x :: xs, vs, h => by
    cases vs with
    | nil => simp at h
    | cons v vs =>
      simp only [List.map_cons, List.cons.injEq] at h
      exact ⟨_, _, rfl, he x v h.1, evs_rep he h.2⟩

def argsA (ev : Evl) : List Operand → Option (List AV)
  | [] => some []
  | x :: r => match ev x with
    | some v => match argsA ev r with | some vs => some (v :: vs) | none => none
    | none => none
theorem argsA_eq : ∀ {xs : List Operand} {vs : List AV}, argsA ev xs = some vs → xs.map ev = vs.map some
  | [], vs, h => by simp [argsA] at h; subst h; rfl
  | x :: r, vs, h => by
    simp only [argsA] at h
    split at h
    · rename_i v hv
      split at h
      · rename_i ws hw
        injection h with h; subst h
        simp [hv, argsA_eq hw]
      · cases h
    · cases h
def argsC (ev : Evl) : List Operand → Option (List CV)
  | [] => some []
  | x :: r => match ev x with
    | some (.c v) => match argsC ev r with | some vs => some (v :: vs) | none => none
    | _ => none
theorem argsC_eq : ∀ {xs : List Operand} {vs : List CV}, argsC ev xs = some vs → xs.map ev = vs.map (fun c => some (AV.c c))
  | [], vs, h => by simp [argsC] at h; subst h; rfl
  | x :: r, vs, h => by
    simp only [argsC] at h
    split at h
    · rename_i v hv
      split at h
      · rename_i ws hw
        injection h with h; subst h
        simp [hv, argsC_eq hw]
      · cases h
    · cases h
theorem s_makeFunc {f : FuncId} {caps : List Operand} {vs : List AV} (hx : argsA ev caps = some vs) : Still P ⟨d, .makeFunc (.func f) #[] caps.toArray, ty, pos, aft, gd⟩ ev h (.fn f vs) := by
  intro B dom M H w a hh hc he
  refine ⟨.func (.func f) #[] (caps.map a.eval).toArray, ?_, _, rfl, evs_rep he (argsA_eq hx)⟩
  simp [execOp, Instr.makeFunc]

theorem s_nilCheck {id off : Nat} (hx : ev x = some (.ref id off)) : Still P ⟨d, .nilCheck x, ty, pos, aft, gd⟩ ev h (.ref id off) := by
  intro B dom M H w a hh hc he
  have hp := he x _ hx
  refine ⟨a.eval x, ?_, hp⟩
  simp only [Rep] at hp
  obtain ⟨hd, g, hM, hp⟩ := hp
  simp [execOp, hp]
theorem s_nilChecki {cs : List CV} {off : Nat} (hx : ev x = some (.ip cs off)) : Still P ⟨d, .nilCheck x, ty, pos, aft, gd⟩ ev h (.ip cs off) := by
  intro B dom M H w a hh hc he
  have hp := he x _ hx
  refine ⟨a.eval x, ?_, hp⟩
  simp only [Rep] at hp
  obtain ⟨b, o, us, hp, _⟩ := hp
  simp [execOp, hp]

/-- Scalars: an operation on plain values that yields a plain value in every world. -/
theorem s_bin {op : BinOp} {T' : TypeId} {p q r : Value} (hx : ev x = some (.c (.v p))) (hy : ev y = some (.c (.v q))) (hg : ∀ w, (eqGuard op T x y p q).run P w = .ok () w) (hrun : ∀ w, (binOp op T p q).run P w = .ok r w) :
    Still P ⟨d, .binOp op T x y T', ty, pos, aft, gd⟩ ev h (.c (.v r)) := by
  intro B dom M H w a hh hc he
  have h1 := he x _ hx
  have h2 := he y _ hy
  simp only [Rep, RepC] at h1 h2
  refine ⟨r, ?_, rfl⟩
  simp [execOp, h1, h2, hg, hrun]
theorem guard_int {op : BinOp} {k k' : IntKind} {m n : Int} (w : World) : (eqGuard op T x y (.int k m) (.int k' n)).run P w = .ok () w := by
  cases op <;> simp [eqGuard]
theorem guard_bool {op : BinOp} {m n : Bool} (w : World) : (eqGuard op T x y (.bool m) (.bool n)).run P w = .ok () w := by
  cases op <;> simp [eqGuard]
theorem guard_str {op : BinOp} {m n : ByteArray} (w : World) : (eqGuard op T x y (.string m) (.string n)).run P w = .ok () w := by
  cases op <;> simp [eqGuard]

section ints
variable {T' : TypeId} {k : IntKind} {m n r : Int} {b : Bool} (hx : ev x = some (.c (.v (.int k m)))) (hy : ev y = some (.c (.v (.int k n))))
include hx hy
theorem s_add (hr : k.wrap (m + n) = r) : Still P ⟨d, .binOp .add T x y T', ty, pos, aft, gd⟩ ev h (.c (.v (.int k r))) := s_bin hx hy guard_int (fun w => by simp [binOp, Op.intArith, hr])
theorem s_sub (hr : k.wrap (m - n) = r) : Still P ⟨d, .binOp .sub T x y T', ty, pos, aft, gd⟩ ev h (.c (.v (.int k r))) := s_bin hx hy guard_int (fun w => by simp [binOp, Op.intArith, hr])
theorem s_mul (hr : k.wrap (m * n) = r) : Still P ⟨d, .binOp .mul T x y T', ty, pos, aft, gd⟩ ev h (.c (.v (.int k r))) := s_bin hx hy guard_int (fun w => by simp [binOp, Op.intArith, hr])
theorem s_quo (h0 : n ≠ 0) (hr : k.wrap (m.tdiv n) = r) : Still P ⟨d, .binOp .quo T x y T', ty, pos, aft, gd⟩ ev h (.c (.v (.int k r))) := s_bin hx hy guard_int (fun w => by simp [binOp, Op.intDiv, hr, h0])
theorem s_rem (h0 : n ≠ 0) (hr : m.tmod n = r) : Still P ⟨d, .binOp .rem T x y T', ty, pos, aft, gd⟩ ev h (.c (.v (.int k r))) := s_bin hx hy guard_int (fun w => by simp [binOp, Op.intDiv, hr, h0])
theorem s_and (hr : k.wrap (BitVec.ofInt k.bits m &&& BitVec.ofInt k.bits n).toNat = r) : Still P ⟨d, .binOp .and T x y T', ty, pos, aft, gd⟩ ev h (.c (.v (.int k r))) := s_bin hx hy guard_int (fun w => by subst hr; simp [binOp, Op.intBits])
theorem s_or (hr : k.wrap (BitVec.ofInt k.bits m ||| BitVec.ofInt k.bits n).toNat = r) : Still P ⟨d, .binOp .or T x y T', ty, pos, aft, gd⟩ ev h (.c (.v (.int k r))) := s_bin hx hy guard_int (fun w => by subst hr; simp [binOp, Op.intBits])
theorem s_xor (hr : k.wrap (BitVec.ofInt k.bits m ^^^ BitVec.ofInt k.bits n).toNat = r) : Still P ⟨d, .binOp .xor T x y T', ty, pos, aft, gd⟩ ev h (.c (.v (.int k r))) := s_bin hx hy guard_int (fun w => by subst hr; simp [binOp, Op.intBits])
theorem s_andNot (hr : k.wrap (BitVec.ofInt k.bits m &&& ~~~BitVec.ofInt k.bits n).toNat = r) : Still P ⟨d, .binOp .andNot T x y T', ty, pos, aft, gd⟩ ev h (.c (.v (.int k r))) := s_bin hx hy guard_int (fun w => by subst hr; simp [binOp, Op.intBits])
theorem s_eql (hr : decide (m = n) = b) : Still P ⟨d, .binOp .eql T x y T', ty, pos, aft, gd⟩ ev h (.c (.v (.bool b))) := s_bin hx hy guard_int (fun w => by subst hr; simp [binOp, Op.intCmp]; rfl)
theorem s_neq (hr : decide (m ≠ n) = b) : Still P ⟨d, .binOp .neq T x y T', ty, pos, aft, gd⟩ ev h (.c (.v (.bool b))) := s_bin hx hy guard_int (fun w => by subst hr; simp [binOp, Op.intCmp, bne]; rfl)
theorem s_lss (hr : decide (m < n) = b) : Still P ⟨d, .binOp .lss T x y T', ty, pos, aft, gd⟩ ev h (.c (.v (.bool b))) := s_bin hx hy guard_int (fun w => by subst hr; simp [binOp, Op.intCmp])
theorem s_leq (hr : decide (m ≤ n) = b) : Still P ⟨d, .binOp .leq T x y T', ty, pos, aft, gd⟩ ev h (.c (.v (.bool b))) := s_bin hx hy guard_int (fun w => by subst hr; simp [binOp, Op.intCmp])
theorem s_gtr (hr : decide (n < m) = b) : Still P ⟨d, .binOp .gtr T x y T', ty, pos, aft, gd⟩ ev h (.c (.v (.bool b))) := s_bin hx hy guard_int (fun w => by subst hr; simp [binOp, Op.intCmp])
theorem s_geq (hr : decide (n ≤ m) = b) : Still P ⟨d, .binOp .geq T x y T', ty, pos, aft, gd⟩ ev h (.c (.v (.bool b))) := s_bin hx hy guard_int (fun w => by subst hr; simp [binOp, Op.intCmp])
end ints
theorem s_shl {T' : TypeId} {k k' : IntKind} {m n r : Int} (hx : ev x = some (.c (.v (.int k m)))) (hy : ev y = some (.c (.v (.int k' n)))) (h0 : 0 ≤ n) (hr : k.wrap (m * 2 ^ (min n.toNat k.bits)) = r) : Still P ⟨d, .binOp .shl T x y T', ty, pos, aft, gd⟩ ev h (.c (.v (.int k r))) :=
  s_bin hx hy guard_int (fun w => by have : ¬ n < 0 := by omega
                                     subst hr; simp [binOp, Op.shift, this])
theorem s_shr {T' : TypeId} {k k' : IntKind} {m n r : Int} (hx : ev x = some (.c (.v (.int k m)))) (hy : ev y = some (.c (.v (.int k' n)))) (h0 : 0 ≤ n) (hr : m.fdiv (2 ^ (min n.toNat k.bits)) = r) : Still P ⟨d, .binOp .shr T x y T', ty, pos, aft, gd⟩ ev h (.c (.v (.int k r))) :=
  s_bin hx hy guard_int (fun w => by have : ¬ n < 0 := by omega
                                     subst hr; simp [binOp, Op.shift, this])

theorem s_un {op : UnOp} {p r : Value} (hx : ev x = some (.c (.v p))) (hrun : ∀ w, (Op.unary op p).run P w = .ok r w) : Still P ⟨d, .unOp op T x, ty, pos, aft, gd⟩ ev h (.c (.v r)) := by
  intro B dom M H w a hh hc he
  have h1 := he x _ hx
  simp only [Rep, RepC] at h1
  exact ⟨r, by simp [execOp, h1, hrun], rfl⟩
theorem s_not {b c : Bool} (hx : ev x = some (.c (.v (.bool b)))) (hr : (!b) = c) : Still P ⟨d, .unOp .not T x, ty, pos, aft, gd⟩ ev h (.c (.v (.bool c))) := s_un hx (fun w => by subst hr; simp [Op.unary])
theorem s_neg {k : IntKind} {m r : Int} (hx : ev x = some (.c (.v (.int k m)))) (hr : k.wrap (0 - m) = r) : Still P ⟨d, .unOp .neg T x, ty, pos, aft, gd⟩ ev h (.c (.v (.int k r))) := s_un hx (fun w => by subst hr; simp [Op.unary, Op.intArith])
theorem s_compl {k : IntKind} {m r : Int} (hx : ev x = some (.c (.v (.int k m)))) (hr : k.wrap (BitVec.ofInt k.bits (if k.signed then -1 else k.max) ^^^ BitVec.ofInt k.bits m).toNat = r) : Still P ⟨d, .unOp .xor T x, ty, pos, aft, gd⟩ ev h (.c (.v (.int k r))) := s_un hx (fun w => by subst hr; simp [Op.unary, Op.intBits])

theorem s_convInt (tb : TabOk P tab) {S : TypeId} {e es : TyE} {k k' : IntKind} {m r : Int} (hS : tyLook tab S = some es) (hT : tyLook tab T = some e) (hk : e.kind = .int k) (hx : ev x = some (.c (.v (.int k' m)))) (hr : k.wrap m = r) : Still P ⟨d, .convert S T x, ty, pos, aft, gd⟩ ev h (.c (.v (.int k r))) := by
  intro B dom M H w a hh hc he
  have h1 := he x _ hx
  simp only [Rep, RepC] at h1
  refine ⟨.int k r, ?_, rfl⟩
  obtain ⟨ds, hds, _⟩ := (tyLook_ok tb hS).und
  simp [execOp, h1, convert, run_underlying hds, run_underlying ((tyLook_ok tb hT).int hk), Conv.intToInt, hr]
theorem s_convStr (tb : TabOk P tab) {S : TypeId} {e es : TyE} {s : ByteArray} (hS : tyLook tab S = some es) (hT : tyLook tab T = some e) (hk : e.kind = .str) (hx : ev x = some (.c (.v (.string s)))) : Still P ⟨d, .convert S T x, ty, pos, aft, gd⟩ ev h (.c (.v (.string s))) := by
  intro B dom M H w a hh hc he
  have h1 := he x _ hx
  simp only [Rep, RepC] at h1
  refine ⟨.string s, ?_, rfl⟩
  obtain ⟨ds, hds, _⟩ := (tyLook_ok tb hS).und
  simp [execOp, h1, convert, run_underlying hds, run_underlying ((tyLook_ok tb hT).str hk)]
end ops
end Go.Av
