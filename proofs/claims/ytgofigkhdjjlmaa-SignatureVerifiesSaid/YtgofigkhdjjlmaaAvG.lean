/-
  What single operations yield on abstract values: indexes, slices, lengths, new memory, strings, equality. For every program.
-/
import Derived.Test.YtgofigkhdjjlmaaAvF
import Derived.Stop.BytesEq
import Derived.Lib.ConvBytes
set_option linter.unusedVariables false
set_option linter.unusedSimpArgs false
namespace Go.Av
open Go Go.RowKit

/-- The size of a type, by the table. -/
def sizeF (tab : Tab) (E : TypeId) : Option Nat := match tyLook tab E with | some ⟨size, _, _, _⟩ => some size | none => none
theorem sizeF_eq {tab : Tab} {E size : Nat} (h : sizeF tab E = some size) : ∃ e, tyLook tab E = some e ∧ e.size = size := by
  unfold sizeF at h
  split at h
  · rename_i s b k z he; injection h with h; exact ⟨_, he, h⟩
  · cases h
section ops
variable {P : Program} {tab : Tab} {ev : Evl} {h : Heap} {d : Option Tmp} {T ty : TypeId} {x y z : Operand} {pos : String} {aft : Array Edge} {gd : Option (Nat × Bool)} {i : Nat}

theorem own_some {C : Cx} {id off n size : Nat} {full : Bool} {u : Value} (h : Rep C (.own id off n size full) u) (hn : 0 < n) : C.dom id ∧ ∃ g cp, C.M id = some g ∧ u = .slice (some ⟨g, off, none⟩) n cp ∧ n ≤ cp ∧ cp ≤ maxLen ∧ (full = true → ∃ e, C.w.shape? g = some (e, off + cp * size)) := by
  simp only [Rep] at h
  obtain ⟨hd, ⟨h1, _⟩ | h2 | ⟨h3, _⟩⟩ := h
  · omega
  · exact ⟨hd, h2⟩
  · omega

section index
variable {e e' : TyE} {k : IntKind} {j : Int} {m : Nat} (tb : TabOk P tab) (hT : tyLook tab T = some e) (hy : ev y = some (.c (.v (.int k j)))) (hj : j = (m : Int))
include tb hT hy hj
theorem s_ixC {E n size : Nat} {cs : List CV} (hk : e.kind = .slice E) (hE : tyLook tab E = some e') (hs : Nat.beq e'.size size = true) (hx : ev x = some (.c (.sl size n cs))) (hm : m < n) : Still P ⟨d, .indexAddr T x y, ty, pos, aft, gd⟩ ev h (.ip cs (m * size)) := by
  intro B dom M H w a hh hc he
  have h1 := he x _ hx
  have h2 := he y _ hy
  simp only [Rep, RepC] at h1 h2
  obtain ⟨A, c, us, h3, h4, h5, h6, h7, h70, h8⟩ := h1
  obtain ⟨b, o, rfl, hb, hl, hcell⟩ := h8 (by omega)
  refine ⟨.pointer (some ⟨b, o + m * size, none⟩), ?_, b, o, us, rfl, hb, hl, h7, h70, hcell⟩
  have hsz := (tyLook_ok tb hE).sizeOf w
  rw [Nat.eq_of_beq_eq_true hs] at hsz
  subst hj
  have q1 : (0 : Int) ≤ (m : Int) ∧ (m : Int) < (n : Int) := by omega
  simp [execOp, Instr.indexAt, h2, h3, asIntOf, Sem.run_bind, run_underlying ((tyLook_ok tb hT).slice hk), hm, hsz, add_mk]
theorem s_ixO {E id off n size : Nat} {full : Bool} (hk : e.kind = .slice E) (hE : tyLook tab E = some e') (hs : Nat.beq e'.size size = true) (hx : ev x = some (.own id off n size full)) (hm : m < n) : Still P ⟨d, .indexAddr T x y, ty, pos, aft, gd⟩ ev h (.ref id (off + m * size)) := by
  intro B dom M H w a hh hc he
  obtain ⟨hd, g, cp, h1, h3, _⟩ := own_some (he x _ hx) (by omega)
  have h2 := he y _ hy
  simp only [Rep, RepC] at h2
  refine ⟨.pointer (some ⟨g, off + m * size, none⟩), ?_, hd, g, h1, rfl⟩
  have hsz := (tyLook_ok tb hE).sizeOf w
  rw [Nat.eq_of_beq_eq_true hs] at hsz
  subst hj
  simp [execOp, Instr.indexAt, h2, h3, asIntOf, Sem.run_bind, run_underlying ((tyLook_ok tb hT).slice hk), hm, hsz, add_mk]
theorem s_ixA {E id off n size : Nat} (hk : e.kind = .array n E) (hs : sizeF tab E = some size) (hx : ev x = some (.ref id off)) (hm : m < n) : Still P ⟨d, .indexAddr T x y, ty, pos, aft, gd⟩ ev h (.ref id (off + m * size)) := by
  obtain ⟨e', hE, hs⟩ := sizeF_eq hs
  subst hs
  intro B dom M H w a hh hc he
  have h1 := he x _ hx
  have h2 := he y _ hy
  simp only [Rep, RepC] at h1 h2
  obtain ⟨hd, g, hM, h3⟩ := h1
  refine ⟨.pointer (some ⟨g, off + m * e'.size, none⟩), ?_, hd, g, hM, rfl⟩
  have hsz := (tyLook_ok tb hE).sizeOf w
  subst hj
  simp [execOp, Instr.indexAt, h2, h3, asIntOf, Sem.run_bind, run_underlying ((tyLook_ok tb hT).array hk), hm, hsz, add_mk, Instr.sureAddr]
theorem s_ixAi {E off n size : Nat} {cs : List CV} (hk : e.kind = .array n E) (hs : sizeF tab E = some size) (hx : ev x = some (.ip cs off)) (hm : m < n) : Still P ⟨d, .indexAddr T x y, ty, pos, aft, gd⟩ ev h (.ip cs (off + m * size)) := by
  obtain ⟨e', hE, hs⟩ := sizeF_eq hs
  subst hs
  intro B dom M H w a hh hc he
  have h1 := he x _ hx
  have h2 := he y _ hy
  simp only [Rep, RepC] at h1 h2
  obtain ⟨b, o, us, h3, h4, h5, h6, h60, h7⟩ := h1
  refine ⟨.pointer (some ⟨b, o + (off + m * e'.size), none⟩), ?_, b, o, us, rfl, h4, h5, h6, h60, h7⟩
  have hsz := (tyLook_ok tb hE).sizeOf w
  subst hj
  simp [execOp, Instr.indexAt, h2, h3, asIntOf, Sem.run_bind, run_underlying ((tyLook_ok tb hT).array hk), hm, hsz, add_mk, Instr.sureAddr, Nat.add_assoc]
theorem s_ixV1 {E n : Nat} {cs : List CV} {v : CV} (hk : e.kind = .array n E) (hE : tyLook tab E = some e') (hs : Nat.beq e'.size 1 = true) (hka : e'.kind.agg = false) (hx : ev x = some (.c (.agg cs))) (hm : m < n) (hv : cs[m]? = some v) : Still P ⟨d, .index T x y, ty, pos, aft, gd⟩ ev h (.c v) := by
  intro B dom M H w a hh hc he
  have h1 := he x _ hx
  have h2 := he y _ hy
  simp only [Rep, RepC] at h1 h2
  obtain ⟨us, h3, h4, _⟩ := h1
  obtain ⟨u, hu, hr⟩ := h4.get hv
  refine ⟨u, ?_, hr⟩
  have hsz := (tyLook_ok tb hE).sizeOf w
  rw [Nat.eq_of_beq_eq_true hs] at hsz
  have hp := run_part1 (P := P) (w := w) (tyLook_ok tb hE) hka hu
  subst hj
  simp [execOp, Instr.index, h2, h3, asIntOf, Sem.run_bind, run_underlying ((tyLook_ok tb hT).array hk), hm, hsz, hp]
theorem s_ixStr {s : ByteArray} {b : UInt8} (hk : e.kind = .str) (hx : ev x = some (.c (.v (.string s)))) (hv : s.data[m]? = some b) : Still P ⟨d, .index T x y, ty, pos, aft, gd⟩ ev h (.c (.v (.int .u8 b.toNat))) := by
  intro B dom M H w a hh hc he
  have h1 := he x _ hx
  have h2 := he y _ hy
  simp only [Rep, RepC] at h1 h2
  refine ⟨.int .u8 b.toNat, ?_, rfl⟩
  subst hj
  have hlt : m < s.size := (Array.getElem?_eq_some_iff.1 hv).1
  have hb : s[m] = b := (Array.getElem?_eq_some_iff.1 hv).2
  have hb' : s[m]? = some b := by rw [getElem?_pos s m hlt, hb]
  simp [execOp, Instr.index, h1, h2, asIntOf, Sem.run_bind, run_underlying ((tyLook_ok tb hT).str hk), hb']
end index

/-- A bound of a slice expression. -/
inductive Bd (ev : Evl) (dflt : Nat) : Option Operand → Nat → Prop
  | no : Bd ev dflt none dflt
  | yes {x : Operand} {k : IntKind} {j : Int} {m : Nat} (hx : ev x = some (.c (.v (.int k j)))) (hj : j = (m : Int)) : Bd ev dflt (some x) m

theorem Bd.run {dflt m y : Nat} {lo : Option Operand} {C : Cx} {a : Act} {w : World} (hb : Bd ev dflt lo m) (he : ∀ x av, ev x = some av → Rep C av (a.eval x)) (code : BoundsCode) (hm : m ≤ y) :
    (match lo.map a.eval with | some v => Instr.sliceBound v y code | none => (pure dflt : Sem Nat)).run P w = .ok m w := by
  cases hb with
  | no => rfl
  | yes hx hj =>
    have h1 := he _ _ hx
    simp only [Rep, RepC] at h1
    subst hj
    have : (0 : Int) ≤ (m : Int) ∧ (m : Int) ≤ (y : Int) := by omega
    simp [h1, Instr.sliceBound, asIntOf, hm]

theorem run_bounds {n c l r : Nat} {lo hi : Option Operand} {C : Cx} {a : Act} {w : World} (b : Bool) (he : ∀ x av, ev x = some av → Rep C av (a.eval x)) (hlo : Bd ev 0 lo l) (hhi : Bd ev n hi r) (hlr : l ≤ r) (hrc : r ≤ c) :
    (Instr.sliceBounds b n c (lo.map a.eval) (hi.map a.eval) none).run P w = .ok (l, r, c) w := by
  have h1 := hlo.run (P := P) (w := w) (y := r) he .sliceB hlr
  have h2 := hhi.run (P := P) (w := w) (y := c) he (if b then .sliceAcap else .sliceAlen) hrc
  unfold Instr.sliceBounds
  simp only [Sem.run_bind, Sem.run_pure, Result.andThen_ok]
  cases hi with
  | none =>
    cases hhi
    cases lo with
    | none => cases hlo; simp
    | some q => simp only [Option.map_some] at h1 ⊢; simp [h1]
  | some p =>
    simp only [Option.map_some] at h2 ⊢
    cases lo with
    | none => cases hlo; simp [h2]
    | some q => simp only [Option.map_some] at h1 ⊢; simp [h1, h2]

section slice
variable {e e' : TyE} {E n l r size : Nat} {lo hi : Option Operand} (tb : TabOk P tab) (hT : tyLook tab T = some e) (hk : e.kind = .slice E) (hE : tyLook tab E = some e') (hs : Nat.beq e'.size size = true) (hlo : Bd ev 0 lo l) (hhi : Bd ev n hi r) (hlr : l ≤ r) (hr : r ≤ n)
include tb hT hk hE hs hlo hhi hlr hr
theorem s_slC {cs ys : List CV} (hx : ev x = some (.c (.sl size n cs))) (hys : (cs.drop (l * size)).take ((r - l) * size) = ys) : Still P ⟨d, .slice T x lo hi none, ty, pos, aft, gd⟩ ev h (.c (.sl size (r - l) ys)) := by
  intro B dom M H w a hh hc he
  have h1 := he x _ hx
  simp only [Rep, RepC] at h1
  obtain ⟨A, c, us, h3, h4, h5, h6, h7, h70, h8⟩ := h1
  have hb := run_bounds (P := P) (w := w) (c := c) true he hlo hhi hlr (by omega)
  have hsz := (tyLook_ok tb hE).sizeOf w
  rw [Nat.eq_of_beq_eq_true hs] at hsz
  have h9 := (h7.drop (l * size)).take ((r - l) * size)
  rw [hys] at h9
  have hmul : (r - l) * size + l * size ≤ n * size := by
    rw [← Nat.add_mul]; exact Nat.mul_le_mul_right _ (by omega)
  refine ⟨.slice (if c = l then A else A.map (·.add (l * size))) (r - l) (c - l), ?_, _, _, (us.drop (l * size)).take ((r - l) * size), rfl, by omega, by omega, ?_, h9, fun u hu => h70 u (List.mem_of_mem_drop (List.mem_of_mem_take hu)), fun hn => ?_⟩
  · have hund := (tyLook_ok tb hT).slice hk
    simp [execOp, Instr.sliceAt, Instr.slice, h3, Sem.run_bind, run_underlying hund, hb, hsz]
  · rw [← hys, List.length_take, List.length_drop, h6]
    omega
  · obtain ⟨b, o, rfl, hb1, hl1, hcell⟩ := h8 (by omega)
    refine ⟨b, o + l * size, by rw [if_neg (by omega)]; simp [add_mk], hb1, hl1, fun j u hj => ?_⟩
    have hjk : j < (r - l) * size := by
      rcases Nat.lt_or_ge j ((r - l) * size) with h1 | h1
      · exact h1
      · rw [List.getElem?_eq_none (by rw [List.length_take]; omega)] at hj; cases hj
    rw [List.getElem?_take_of_lt hjk, List.getElem?_drop] at hj
    rw [Nat.add_assoc]
    exact hcell _ u hj
/-- A slice of an own slice from a place on, with something in it or not. -/
theorem s_slO {id off : Nat} {full : Bool} (hx : ev x = some (.own id off n size full)) : Still P ⟨d, .slice T x lo hi none, ty, pos, aft, gd⟩ ev h (.own id (off + l * size) (r - l) size false) := by
  intro B dom M H w a hh hc he
  have h1 := he x _ hx
  have hsz := (tyLook_ok tb hE).sizeOf w
  rw [Nat.eq_of_beq_eq_true hs] at hsz
  have hund := (tyLook_ok tb hT).slice hk
  simp only [Rep] at h1
  obtain ⟨hd, h1⟩ := h1
  have key : ∀ A c, a.eval x = .slice A n c → n ≤ c → (execOp a.eval ⟨d, .slice T x lo hi none, ty, pos, aft, gd⟩).run P w = .ok (.value (.slice (if c = l then A else A.map (·.add (l * size))) (r - l) (c - l))) w := fun A c h3 h4 => by
    have hb := run_bounds (P := P) (w := w) (c := c) true he hlo hhi hlr (by omega)
    simp [execOp, Instr.sliceAt, Instr.slice, h3, Sem.run_bind, run_underlying hund, hb, hsz]
  rcases h1 with ⟨h1, h2, h3, h4⟩ | ⟨g, cp, h1, h2, h3, h4, h5⟩ | ⟨h1, h2, A, cp, h3, h4⟩
  · subst h1
    obtain rfl : l = 0 := by omega
    obtain rfl : r = 0 := by omega
    refine ⟨_, key none 0 h4 (Nat.le_refl _), hd, .inr (.inr ⟨rfl, rfl, none, 0, ?_, by simp [maxLen]⟩)⟩
    simp
  · by_cases hlr' : l < r
    · refine ⟨_, key _ cp h2 h3, hd, .inr (.inl ⟨g, cp - l, h1, ?_, by omega, by omega, by simp⟩)⟩
      rw [if_neg (by omega)]
      simp [add_mk]
    · refine ⟨_, key _ cp h2 h3, hd, .inr (.inr ?_)⟩
      rw [show r - l = 0 by omega]
      exact ⟨rfl, rfl, _, _, rfl, by omega⟩
  · subst h1
    obtain rfl : l = 0 := by omega
    obtain rfl : r = 0 := by omega
    exact ⟨_, key A cp h3 (Nat.zero_le _), hd, .inr (.inr ⟨rfl, rfl, _, _, rfl, by omega⟩)⟩
end slice
/-- The first elements of an own slice: what lies behind may still be appended to. -/
theorem s_slO0 {e e' : TyE} {E n r size id off : Nat} {hi : Option Operand} (tb : TabOk P tab) (hT : tyLook tab T = some e) (hk : e.kind = .slice E) (hE : tyLook tab E = some e') (hs : Nat.beq e'.size size = true) (hhi : Bd ev n hi r) (hr : r ≤ n) {full : Bool} (hx : ev x = some (.own id off n size full)) (hfull : full = true) : Still P ⟨d, .slice T x none hi none, ty, pos, aft, gd⟩ ev h (.own id off r size true) := by
  intro B dom M H w a hh hc he
  have h1 := he x _ hx
  have hsz := (tyLook_ok tb hE).sizeOf w
  rw [Nat.eq_of_beq_eq_true hs] at hsz
  have hund := (tyLook_ok tb hT).slice hk
  simp only [Rep] at h1
  obtain ⟨hd, h1⟩ := h1
  have key : ∀ A c, a.eval x = .slice A n c → n ≤ c → (execOp a.eval ⟨d, .slice T x none hi none, ty, pos, aft, gd⟩).run P w = .ok (.value (.slice A r c)) w := fun A c h3 h4 => by
    have hb := run_bounds (P := P) (w := w) (c := c) (l := 0) true he Bd.no hhi (Nat.zero_le _) (by omega)
    simp only [Option.map_none] at hb
    simp [execOp, Instr.sliceAt, Instr.slice, h3, Sem.run_bind, run_underlying hund, hb, hsz]
    cases A with
    | none => simp
    | some p => simp [Addr.add]
  rcases h1 with ⟨h1, h2, h3, h4⟩ | ⟨g, cp, h1, h2, h3, h4, h5⟩ | ⟨h1, h2, _⟩
  · subst h1
    obtain rfl : r = 0 := by omega
    exact ⟨_, key none 0 h4 (Nat.le_refl _), hd, .inl ⟨rfl, h2, h3, rfl⟩⟩
  · exact ⟨_, key _ cp h2 h3, hd, .inr (.inl ⟨g, cp, h1, rfl, by omega, h4, fun _ => h5 hfull⟩)⟩
  · rw [hfull] at h2; cases h2
/-- The slice of a whole array of the call's own. -/
theorem s_slArr {e : TyE} {E n id off l r size : Nat} {lo hi : Option Operand} (tb : TabOk P tab) (hT : tyLook tab T = some e) (hk : e.kind = .array n E) (hs : sizeF tab E = some size) (hx : ev x = some (.ref id off)) (hlo : Bd ev 0 lo l) (hhi : Bd ev n hi r) (hlr : l ≤ r) (hr : r ≤ n) (hn : n ≤ maxLen) : Still P ⟨d, .slice T x lo hi none, ty, pos, aft, gd⟩ ev h (.own id (off + l * size) (r - l) size false) := by
  obtain ⟨e', hE, hs⟩ := sizeF_eq hs
  subst hs
  intro B dom M H w a hh hc he
  have h1 := he x _ hx
  have hsz := (tyLook_ok tb hE).sizeOf w
  have hund := (tyLook_ok tb hT).array hk
  simp only [Rep] at h1
  obtain ⟨hd, g, hM, h3⟩ := h1
  have hb := run_bounds (P := P) (w := w) (c := n) false he hlo hhi hlr hr
  have hrun : (execOp a.eval ⟨d, .slice T x lo hi none, ty, pos, aft, gd⟩).run P w = .ok (.value (.slice (some (if n = l then ⟨g, off, none⟩ else (⟨g, off, none⟩ : Addr).add (l * e'.size))) (r - l) (n - l))) w := by
    simp [execOp, Instr.sliceAt, h3, Sem.run_bind, run_underlying hund, hb, hsz, Instr.sureAddr]
  by_cases hlr' : l < r
  · refine ⟨_, hrun, hd, .inr (.inl ⟨g, n - l, hM, ?_, by omega, by omega, by simp⟩)⟩
    rw [if_neg (by omega), add_mk]
  · refine ⟨_, hrun, hd, .inr (.inr ?_)⟩
    rw [show r - l = 0 by omega]
    exact ⟨rfl, rfl, _, _, rfl, by omega⟩
theorem s_slStr {e : TyE} {l r : Nat} {s : ByteArray} {lo hi : Option Operand} (tb : TabOk P tab) (hT : tyLook tab T = some e) (hk : e.kind = .str) (hx : ev x = some (.c (.v (.string s)))) (hlo : Bd ev 0 lo l) (hhi : Bd ev s.size hi r) (hlr : l ≤ r) (hr : r ≤ s.size) : Still P ⟨d, .slice T x lo hi none, ty, pos, aft, gd⟩ ev h (.c (.v (.string (s.extract l r)))) := by
  intro B dom M H w a hh hc he
  have h1 := he x _ hx
  simp only [Rep, RepC] at h1
  have hb := run_bounds (P := P) (w := w) (c := s.size) false he hlo hhi hlr hr
  have hund := (tyLook_ok tb hT).str hk
  refine ⟨_, ?_, rfl⟩
  simp [execOp, Instr.sliceAt, Instr.slice, h1, Sem.run_bind, run_underlying hund, hb]

/-- len. -/
theorem s_lenC {e : TyE} {E n size : Nat} {cs : List CV} (tb : TabOk P tab) (hT : tyLook tab T = some e) (hk : e.kind = .slice E) (hx : ev x = some (.c (.sl size n cs))) : Still P ⟨d, .call ⟨.builtin .len, #[x], #[T]⟩, ty, pos, aft, gd⟩ ev h (.c (.v (.int .i64 n))) := by
  intro B dom M H w a hh hc he
  have h1 := he x _ hx
  simp only [Rep, RepC] at h1
  obtain ⟨A, c, us, h3, _⟩ := h1
  refine ⟨_, ?_, rfl⟩
  simp [execOp, resolve, invoke, builtin, Builtin.len_, h3, run_underlying ((tyLook_ok tb hT).slice hk), goInt]
theorem s_lenN {e : TyE} {E : Nat} (tb : TabOk P tab) (hT : tyLook tab T = some e) (hk : e.kind = .slice E) {A : Option Addr} {n c : Nat} (hx : ev x = some (.c (.v (.slice A n c)))) : Still P ⟨d, .call ⟨.builtin .len, #[x], #[T]⟩, ty, pos, aft, gd⟩ ev h (.c (.v (.int .i64 n))) := by
  intro B dom M H w a hh hc he
  have h1 := he x _ hx
  simp only [Rep, RepC] at h1
  refine ⟨_, ?_, rfl⟩
  simp [execOp, resolve, invoke, builtin, Builtin.len_, h1, run_underlying ((tyLook_ok tb hT).slice hk), goInt]
theorem s_lenO {e : TyE} {E id off n size : Nat} {full : Bool} (tb : TabOk P tab) (hT : tyLook tab T = some e) (hk : e.kind = .slice E) (hx : ev x = some (.own id off n size full)) : Still P ⟨d, .call ⟨.builtin .len, #[x], #[T]⟩, ty, pos, aft, gd⟩ ev h (.c (.v (.int .i64 n))) := by
  intro B dom M H w a hh hc he
  have h1 := he x _ hx
  have : ∃ A c, a.eval x = .slice A n c := by
    simp only [Rep] at h1
    obtain ⟨_, ⟨h1, _, _, h4⟩ | ⟨g, cp, _, h2, _⟩ | ⟨h1, _, A, cp, h3, _⟩⟩ := h1
    · exact ⟨none, 0, by rw [h4, h1]⟩
    · exact ⟨_, _, h2⟩
    · exact ⟨A, cp, by rw [h3, h1]⟩
  obtain ⟨A, c, h3⟩ := this
  refine ⟨_, ?_, rfl⟩
  simp [execOp, resolve, invoke, builtin, Builtin.len_, h3, run_underlying ((tyLook_ok tb hT).slice hk), goInt]
theorem s_lenS {e : TyE} {s : ByteArray} (tb : TabOk P tab) (hT : tyLook tab T = some e) (hk : e.kind = .str) (hx : ev x = some (.c (.v (.string s)))) : Still P ⟨d, .call ⟨.builtin .len, #[x], #[T]⟩, ty, pos, aft, gd⟩ ev h (.c (.v (.int .i64 s.size))) := by
  intro B dom M H w a hh hc he
  have h1 := he x _ hx
  simp only [Rep, RepC] at h1
  refine ⟨_, ?_, rfl⟩
  simp [execOp, resolve, invoke, builtin, Builtin.len_, h1, run_underlying ((tyLook_ok tb hT).str hk), goInt]
theorem s_min {k : IntKind} {p q r : Int} {ts : Array TypeId} (hx : ev x = some (.c (.v (.int k p)))) (hy : ev y = some (.c (.v (.int k q)))) (hr : (if q < p then q else p) = r) : Still P ⟨d, .call ⟨.builtin .min, #[x, y], ts⟩, ty, pos, aft, gd⟩ ev h (.c (.v (.int k r))) := by
  intro B dom M H w a hh hc he
  have h1 := he x _ hx
  have h2 := he y _ hy
  simp only [Rep, RepC] at h1 h2
  refine ⟨_, ?_, rfl⟩
  subst hr
  simp [execOp, resolve, invoke, builtin, Builtin.min_, Builtin.min2, h1, h2]
theorem s_max {k : IntKind} {p q r : Int} {ts : Array TypeId} (hx : ev x = some (.c (.v (.int k p)))) (hy : ev y = some (.c (.v (.int k q)))) (hr : (if p < q then q else p) = r) : Still P ⟨d, .call ⟨.builtin .max, #[x, y], ts⟩, ty, pos, aft, gd⟩ ev h (.c (.v (.int k r))) := by
  intro B dom M H w a hh hc he
  have h1 := he x _ hx
  have h2 := he y _ hy
  simp only [Rep, RepC] at h1 h2
  refine ⟨_, ?_, rfl⟩
  subst hr
  simp [execOp, resolve, invoke, builtin, Builtin.max_, Builtin.max2, h1, h2]

/-- Strings. -/
theorem s_eqlS {T' : TypeId} {s t : ByteArray} {b : Bool} (hx : ev x = some (.c (.v (.string s)))) (hy : ev y = some (.c (.v (.string t)))) (hr : decide (s.toList = t.toList) = b) : Still P ⟨d, .binOp .eql T x y T', ty, pos, aft, gd⟩ ev h (.c (.v (.bool b))) :=
  s_bin hx hy guard_str (fun w => by
    have : (s.toList == t.toList) = decide (s.toList = t.toList) := by rw [Bool.eq_iff_iff]; simp
    subst hr; simp only [binOp, Op.stringOp, this]; rfl)
theorem s_neqS {T' : TypeId} {s t : ByteArray} {b : Bool} (hx : ev x = some (.c (.v (.string s)))) (hy : ev y = some (.c (.v (.string t)))) (hr : (!decide (s.toList = t.toList)) = b) : Still P ⟨d, .binOp .neq T x y T', ty, pos, aft, gd⟩ ev h (.c (.v (.bool b))) :=
  s_bin hx hy guard_str (fun w => by
    have : (s.toList == t.toList) = decide (s.toList = t.toList) := by rw [Bool.eq_iff_iff]; simp
    subst hr; simp only [binOp, Op.stringOp, this]; rfl)
theorem s_cat {T' : TypeId} {s t u : ByteArray} (hx : ev x = some (.c (.v (.string s)))) (hy : ev y = some (.c (.v (.string t)))) (hl : s.size + t.size ≤ 9223372036854775807) (hr : s ++ t = u) : Still P ⟨d, .binOp .add T x y T', ty, pos, aft, gd⟩ ev h (.c (.v (.string u))) :=
  s_bin hx hy guard_str (fun w => by
    subst hr
    have hm : IntKind.i64.max = 9223372036854775807 := by decide
    have : ¬ 9223372036854775807 < ((s.size + t.size : Nat) : Int) := by omega
    simp only [binOp, Op.stringOp]
    rw [if_neg (by rw [hm]; omega)]
    rfl)
theorem s_eqlB {T' : TypeId} {e : TyE} {p q b : Bool} (tb : TabOk P tab) (hT : tyLook tab T = some e) (hk : e.kind = .bool) (hx : ev x = some (.c (.v (.bool p)))) (hy : ev y = some (.c (.v (.bool q)))) (hr : (p == q) = b) : Still P ⟨d, .binOp .eql T x y T', ty, pos, aft, gd⟩ ev h (.c (.v (.bool b))) :=
  s_bin hx hy guard_bool (fun w => by subst hr; exact run_eql_bool w T p q ((tyLook_ok tb hT).bool hk))
theorem s_neqB {T' : TypeId} {e : TyE} {p q b : Bool} (tb : TabOk P tab) (hT : tyLook tab T = some e) (hk : e.kind = .bool) (hx : ev x = some (.c (.v (.bool p)))) (hy : ev y = some (.c (.v (.bool q)))) (hr : (!(p == q)) = b) : Still P ⟨d, .binOp .neq T x y T', ty, pos, aft, gd⟩ ev h (.c (.v (.bool b))) :=
  s_bin hx hy guard_bool (fun w => by subst hr; simp [binOp, run_equal_bool w T p q ((tyLook_ok tb hT).bool hk)])

/-- Bytes, closed. -/
def u8c (l : List UInt8) : List CV := l.map fun b => .v (.int .u8 b.toNat)
theorem u8c_length (l : List UInt8) : (u8c l).length = l.length := by simp [u8c]
theorem u8c_app (a b : List UInt8) : u8c (a ++ b) = u8c a ++ u8c b := by simp [u8c]
theorem u8c_take (a : List UInt8) (k : Nat) : (u8c a).take k = u8c (a.take k) := by simp [u8c]
theorem u8c_drop (a : List UInt8) (k : Nat) : (u8c a).drop k = u8c (a.drop k) := by simp [u8c]
theorem u8c_plain (l : List UInt8) : u8c l = (l.map fun b => Value.int .u8 b.toNat).map CV.v := by simp [u8c]
theorem u8c_get {l : List UInt8} {j : Nat} {b : UInt8} (h : l[j]? = some b) : (u8c l)[j]? = some (.v (.int .u8 b.toNat)) := by simp [u8c, h]
theorem u8c_one (l : List UInt8) : ∀ c ∈ u8c l, c.one = true := by
  intro c hc; simp [u8c] at hc; obtain ⟨b, _, rfl⟩ := hc; rfl
/-- Integers of one kind, closed. -/
def intc (k : IntKind) (l : List Int) : List CV := l.map fun n => .v (.int k n)
theorem intc_length (k : IntKind) (l : List Int) : (intc k l).length = l.length := by simp [intc]
theorem intc_plain (k : IntKind) (l : List Int) : intc k l = (l.map fun n => Value.int k n).map CV.v := by simp [intc]
theorem intc_one (k : IntKind) (l : List Int) : ∀ c ∈ intc k l, c.one = true := by
  intro c hc; simp [intc] at hc; obtain ⟨b, _, rfl⟩ := hc; rfl

theorem run_tostr {w : World} {src E dst : TypeId} (hs : P.underlying src = some (.slice E)) (he : P.underlying E = some (.int .u8)) (hd : P.underlying dst = some .string) {ok : Nat → Prop} {l : List UInt8} {n : Nat} {u : Value} (hu : RepC ok w (.sl 1 n (u8c l)) u) :
    (convert src dst u).run P w = .ok (.string ⟨l.toArray⟩) w := by
  simp only [RepC] at hu
  obtain ⟨A, c, us, rfl, h2, h3, h4, h5, _, h6⟩ := hu
  rw [u8c_plain] at h5
  have h5 := h5.of_plain
  subst h5
  have hlen : l.length = n := by simpa [u8c] using h4
  rcases Nat.eq_zero_or_pos n with h0 | h0
  · subst h0
    obtain rfl : l = [] := List.eq_nil_of_length_eq_zero hlen
    rcases A with _ | ad
    · rw [run_convert_bytes_nil w src E hs he 0 c dst hd]; rfl
    · rw [run_convert_bytes_string w src dst E _ 0 c hs he hd]
      simp [Conv.bytesToString, loadCells, loadCellsFrom]
      rfl
  · obtain ⟨b, o, rfl, _, _, hc⟩ := h6 h0
    have := run_convert_bytes_arg (P := P) w src E hs he b o n c (l.map fun b => (b.toNat : Int)) (by simpa using hlen) (fun i hi => by
      rw [hc i (.int .u8 (l[i]'(by omega)).toNat) (by simp [List.getElem?_eq_getElem (show i < l.length by omega)])]
      simp [List.getD, List.getElem?_eq_getElem (show i < l.length by omega)]) dst hd
    rw [this]
    congr 2
    simp only [strOfNums]
    congr 1
    simp only [List.map_map, Array.mk.injEq]
    have : ((fun n : Int => UInt8.ofNat n.toNat) ∘ fun b : UInt8 => (b.toNat : Int)) = id := by
      funext b
      simp
    rw [this, List.map_id]
theorem s_toStr {S : TypeId} {e e' es : TyE} {E n : Nat} {v : AV} {l : List UInt8} (tb : TabOk P tab) (hS : tyLook tab S = some es) (hks : es.kind = .slice E) (hE : tyLook tab E = some e') (hke : e'.kind = .int .u8) (hT : tyLook tab T = some e) (hk : e.kind = .str) (hx : ev x = some v) (hf : Frz [] h v (.sl 1 n (u8c l))) : Still P ⟨d, .convert S T x, ty, pos, aft, gd⟩ ev h (.c (.v (.string ⟨l.toArray⟩))) := by
  intro B dom M H w a hh hc he
  have h1 := hf B dom M H w _ hh (by simp) hc (he x _ hx)
  refine ⟨_, ?_, rfl⟩
  have := run_tostr (P := P) ((tyLook_ok tb hS).slice hks) ((tyLook_ok tb hE).int hke) ((tyLook_ok tb hT).str hk) h1
  simp [execOp, this]

/-- Equality of arrays of integers. -/
theorem guard_agg {op : BinOp} {xs ys : Array Value} (w : World) (hg : P.eqGuardType P.depth T = false) : (eqGuard op T x y (.agg xs) (.agg ys)).run P w = .ok () w := by
  cases op <;> simp [eqGuard, hg]
theorem run_equalIn_ints (w : World) (dd : Nat) (t E : TypeId) (n : Nat) (k k' : IntKind) (ht : P.underlying t = some (.array n E)) (he : P.underlying E = some (.int k')) (hsz : ∀ w, (sizeOf E).run P w = .ok 1 w) (xs ys : List Int) (hx : xs.length = n) (hy : ys.length = n) :
    (Op.equalIn (dd + 2) t (.agg (xs.map (Value.int k)).toArray) (.agg (ys.map (Value.int k)).toArray)).run P w = .ok (decide (xs = ys)) w := by
  have hall : decide (xs = ys) = (List.range' 0 n 1).all fun i => xs.getD i 0 == ys.getD i 0 := by
    rw [Bool.eq_iff_iff]
    simp only [decide_eq_true_eq, List.all_eq_true, List.mem_range'_1, beq_iff_eq]
    constructor
    · intro h i _; rw [h]
    · intro h
      apply List.ext_getElem (by omega)
      intro i h1 h2
      have := h i (by omega)
      simpa [List.getD, List.getElem?_eq_getElem h1, List.getElem?_eq_getElem h2] using this
  rw [hall, Op.equalIn]
  simp only [Sem.run_bind, run_underlying ht, Result.andThen_ok, hsz, Std.Legacy.Range.forIn_eq_forIn_range', Std.Legacy.Range.size, Nat.sub_zero, Nat.add_sub_cancel, Nat.div_one]
  have hl : ∀ i ∈ List.range' 0 n 1, i < n := fun i hi => by simpa using (List.mem_range'_1.1 hi).2
  generalize List.range' 0 n 1 = l at hl ⊢
  induction l with
  | nil => simp
  | cons i l ih =>
    have hi : i < n := hl i (by simp)
    have px : (part E (xs.map (Value.int k)).toArray (i * 1)).run P w = .ok (.int k (xs.getD i 0)) w := by
      simp [part, isAgg, run_underlying he, List.getD, List.getElem?_eq_getElem (show i < xs.length by omega)]
    have py : (part E (ys.map (Value.int k)).toArray (i * 1)).run P w = .ok (.int k (ys.getD i 0)) w := by
      simp [part, isAgg, run_underlying he, List.getD, List.getElem?_eq_getElem (show i < ys.length by omega)]
    have pe : (Op.equalIn (dd + 1) E (.int k (xs.getD i 0)) (.int k (ys.getD i 0))).run P w = .ok (xs.getD i 0 == ys.getD i 0) w := run_equalIn_int w dd E k k' _ _ he
    simp only [List.forIn_cons, Sem.run_bind, px, py, pe, Result.andThen_ok, List.all_cons]
    cases hb : (xs.getD i 0 == ys.getD i 0)
    · simp
    · simp only [Bool.not_true, Bool.false_eq_true, if_false, Sem.run_pure, Result.andThen_ok, Bool.true_and]
      exact ih fun j hj => hl j (by simp [hj])
theorem run_eqlA (w : World) (t : TypeId) {E : TypeId} {n : Nat} {k k' : IntKind} (ht : P.underlying t = some (.array n E)) (he : P.underlying E = some (.int k')) (hsz : ∀ w, (sizeOf E).run P w = .ok 1 w) (xs ys : List Int) (hx : xs.length = n) (hy : ys.length = n) :
    (binOp .eql t (.agg (xs.map (Value.int k)).toArray) (.agg (ys.map (Value.int k)).toArray)).run P w = .ok (.bool (decide (xs = ys))) w := by
  rw [run_eql_struct, run_equalIn_ints w 9998 t E n k k' ht he hsz xs ys hx hy]; rfl
theorem run_neqA (w : World) (t : TypeId) {E : TypeId} {n : Nat} {k k' : IntKind} (ht : P.underlying t = some (.array n E)) (he : P.underlying E = some (.int k')) (hsz : ∀ w, (sizeOf E).run P w = .ok 1 w) (xs ys : List Int) (hx : xs.length = n) (hy : ys.length = n) :
    (binOp .neq t (.agg (xs.map (Value.int k)).toArray) (.agg (ys.map (Value.int k)).toArray)).run P w = .ok (.bool (!decide (xs = ys))) w := by
  rw [run_neq_struct, run_equalIn_ints w 9998 t E n k k' ht he hsz xs ys hx hy]; rfl
section eqarr
variable {T' E n : Nat} {e e' : TyE} {k : IntKind} {xs ys : List Int} {cs cs' : List CV} {b : Bool} (tb : TabOk P tab) (hg : P.eqGuardType P.depth T = false) (hT : tyLook tab T = some e) (hk : e.kind = .array n E) (hE : tyLook tab E = some e') (hke : e'.kind = .int k) (hs : Nat.beq e'.size 1 = true) (hx : ev x = some (.c (.agg cs))) (hy : ev y = some (.c (.agg cs'))) (hcx : cs = intc k xs) (hcy : cs' = intc k ys) (hlx : xs.length = n) (hly : ys.length = n)
include tb hg hT hk hE hke hs hx hy hcx hcy hlx hly
theorem s_eqlA (hb : decide (xs = ys) = b) : Still P ⟨d, .binOp .eql T x y T', ty, pos, aft, gd⟩ ev h (.c (.v (.bool b))) := by
  intro B dom M H w a hh hc he
  have h1 := he x _ hx
  have h2 := he y _ hy
  subst hcx hcy
  simp only [Rep, RepC, intc_plain] at h1 h2
  obtain ⟨us, h1, h3, _⟩ := h1
  obtain ⟨vs, h2, h4, _⟩ := h2
  have h3 := h3.of_plain
  have h4 := h4.of_plain
  subst h3 h4
  refine ⟨_, ?_, rfl⟩
  have hsz : ∀ w, (sizeOf E).run P w = .ok 1 w := fun w => by rw [(tyLook_ok tb hE).sizeOf w, Nat.eq_of_beq_eq_true hs]
  have := run_eqlA (P := P) w T (k := k) ((tyLook_ok tb hT).array hk) ((tyLook_ok tb hE).int hke) hsz xs ys hlx hly
  rw [hb] at this
  simp only [execOp, h1, h2, Sem.run_bind, guard_agg (P := P) w hg, Result.andThen_ok, this]
  rfl
theorem s_neqA (hb : (!decide (xs = ys)) = b) : Still P ⟨d, .binOp .neq T x y T', ty, pos, aft, gd⟩ ev h (.c (.v (.bool b))) := by
  intro B dom M H w a hh hc he
  have h1 := he x _ hx
  have h2 := he y _ hy
  subst hcx hcy
  simp only [Rep, RepC, intc_plain] at h1 h2
  obtain ⟨us, h1, h3, _⟩ := h1
  obtain ⟨vs, h2, h4, _⟩ := h2
  have h3 := h3.of_plain
  have h4 := h4.of_plain
  subst h3 h4
  refine ⟨_, ?_, rfl⟩
  have hsz : ∀ w, (sizeOf E).run P w = .ok 1 w := fun w => by rw [(tyLook_ok tb hE).sizeOf w, Nat.eq_of_beq_eq_true hs]
  have := run_neqA (P := P) w T (k := k) ((tyLook_ok tb hT).array hk) ((tyLook_ok tb hE).int hke) hsz xs ys hlx hly
  rw [hb] at this
  simp only [execOp, h1, h2, Sem.run_bind, guard_agg (P := P) w hg, Result.andThen_ok, this]
  rfl
end eqarr
end ops
end Go.Av
