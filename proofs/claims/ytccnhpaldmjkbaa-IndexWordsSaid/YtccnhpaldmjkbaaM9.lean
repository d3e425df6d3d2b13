/-
  Joined texts: T1 AvFz AvSk T2 T3 T4 T5 T6 T7. Lemmas; no statement of a law.
-/
import Derived.Laws.StructEq
import Derived.Test.YtccnhpaldmjkbaaM7
set_option linter.unusedSimpArgs false
set_option linter.unusedVariables false
namespace Go.Proofs.Ytccnhpaldmjkbaa
open Go Go.RowKit Go.Av
set_option maxRecDepth 100000
/-- The state of a tape: its numbers, how many, and the place. -/
def tpC (l : List Int) (n : Nat) (a : Int) : List CV := [.sl 1 n (intc .i64 l), iv a]
def shZ (x s : Int) : Int := if 0 < s then IntKind.i64.wrap ((BitVec.ofInt 64 (x.fdiv (2 ^ (min s.toNat 64))) ^^^ BitVec.ofInt 64 s).toNat : Int) else x
def remZ (y m : Int) : Int := (IntKind.i64.wrap (y.tmod m + m)).tmod m
def stopP (n : Nat) (a m : Int) : Prop := m < 2 ∨ n = 0 ∨ IntKind.i64.wrap (4 * (n : Int)) ≤ a
instance (n : Nat) (a m : Int) : Decidable (stopP n a m) := by unfold stopP; infer_instance
def nextX (l : List Int) (n : Nat) (a m : Int) : Int := if stopP n a m then 0 else remZ (shZ (l.getD (a % n).toNat 0) (a / n)) m
def nextA (n : Nat) (a m : Int) : Int := if stopP n a m then a else a + 1
attribute [local irreducible] Still Adds AWL AW Drw DrwE EStep AC AWR Weak Frz Src RetK Out InK ItK AsK RdK RetT OutT ACT
end Go.Proofs.Ytccnhpaldmjkbaa
namespace Go.Av
open Go Go.RowKit
section
variable {n N m size id t : Nat} {full : Bool} {T : TypeId} {cs : List CV} {env : Env} {h : Heap} {dfs : Defs}
end
end Go.Av
namespace Go.Av
open Go Go.RowKit
section
variable {P : Program} {sz n t : Nat} {env : Env} {h : Heap} {dfs : Defs} {K : AK} {ops : Array Oper} {rest : List Oper} {op : Op} {ty : TypeId} {pos : String} {aft : Array Edge} {gd : Option (Nat × Bool)}
end
end Go.Av
namespace Go.Proofs.Ytccnhpaldmjkbaa
open Go Go.RowKit Go.Av
set_option maxRecDepth 100000
section
variable {P : Program} {tab : Tab} {ev : Evl} {h : Heap} {d : Option Tmp} {T T' ty : TypeId} {x y : Operand} {pos : String} {aft : Array Edge} {gd : Option (Nat × Bool)}
theorem s_lssL {s t : List UInt8} {b : Bool} (hx : ev x = some (.c (sv s))) (hy : ev y = some (.c (sv t))) (hr : Op.bytesLess s t = b) : Still P ⟨d, .binOp .lss T x y T', ty, pos, aft, gd⟩ ev h (.c (.v (.bool b))) :=
  s_bin hx hy guard_str (fun w => by
    subst hr; simp only [binOp, Op.stringOp, toList_l]; rfl)
end
theorem flds : Try.prog.fieldsOf 43 = #[{ name := "Kind", type := 3, offset := 0, embedded := false, tag := "", pkgPath := "", byteOffset := 0 },
        { name := "Int", type := 2, offset := 1, embedded := false, tag := "", pkgPath := "", byteOffset := 8 },
        { name := "Text", type := 9, offset := 2, embedded := false, tag := "", pkgPath := "", byteOffset := 16 }] := by unfold Program.fieldsOf; rw [Try.underlying43]
theorem run_eqlV (a b : Vl) (w : World) : (binOp .eql 43 (.agg #[.int .i64 a.k, .int .i64 a.n, .string ⟨a.t.toArray⟩]) (.agg #[.int .i64 b.k, .int .i64 b.n, .string ⟨b.t.toArray⟩])).run Try.prog w = .ok (.bool (decide (a = b))) w := by
  have hu : Try.prog.underlying 43 = some (.struct (Try.prog.fieldsOf 43)) := by rw [flds]; exact Try.underlying43
  have g3 := fun (w : World) => run_equalIn_int (P := Try.prog) w 9998 3 .i64 .i64 a.k b.k Try.underlying3
  have g2 := fun (w : World) => run_equalIn_int (P := Try.prog) w 9998 2 .i64 .i64 a.n b.n Try.underlying2
  have g9 := fun (w : World) => run_equalIn_string (P := Try.prog) w 9998 9 ⟨a.t.toArray⟩ ⟨b.t.toArray⟩ Try.underlying9
  rw [run_eql_struct, run_equalIn_agg w 9999 43 _ _ hu (by kernel_rfl), flds]
  simp only [Op.eqFields, part, isAgg, Sem.run_bind, Sem.run_ite, run_underlying Try.underlying3, run_underlying Try.underlying2, run_underlying Try.underlying9, Result.andThen_ok, Sem.run_pure]
  simp only [ne_eq, String.reduceEq, not_false_eq_true, if_true, Bool.false_eq_true, if_false, List.getElem?_toArray, List.getElem?_cons_zero, List.getElem?_cons_succ, Sem.run_pure, Result.andThen_ok, g3, g2, g9, toList_l]
  obtain ⟨ak, an, at'⟩ := a
  obtain ⟨bk, bn, bt⟩ := b
  by_cases h1 : ak = bk
  · by_cases h2 : an = bn
    · by_cases h3 : at' = bt
      · simp [h1, h2, h3]
      · simp [h1, h2, h3]
    · simp [h1, h2]
  · simp [h1]
attribute [local irreducible] Still Adds AWL AW Drw DrwE EStep AC AWR Weak Frz Src RetK Out InK ItK AsK RdK RetT OutT ACT
end Go.Proofs.Ytccnhpaldmjkbaa
namespace Go.Proofs.Ytccnhpaldmjkbaa
open Go Go.RowKit Go.Av
set_option maxRecDepth 100000
attribute [local irreducible] Still Adds AWL AW Drw DrwE EStep AC AWR Weak Frz Src RetK Out InK ItK AsK RdK RetT OutT ACT
end Go.Proofs.Ytccnhpaldmjkbaa
namespace Go.Proofs.Ytccnhpaldmjkbaa
open Go Go.RowKit Go.Av
set_option maxRecDepth 100000
def mergeE : List En → List En → List En
  | [], bt1 => bt1
  | a :: at1, [] => a :: at1
  | a :: at1, b :: bt1 => if cmpR a.r b.r < 0 then a :: mergeE at1 (b :: bt1) else if 0 < cmpR a.r b.r then b :: mergeE (a :: at1) bt1 else if a.n + b.n ≠ 0 then ⟨a.r, a.n + b.n⟩ :: mergeE at1 bt1 else mergeE at1 bt1
termination_by a b => a.length + b.length
section
variable {a b : List En} {i k n m : Nat} {x y : En}
end
theorem mergeE_length : ∀ (a b : List En), (mergeE a b).length ≤ a.length + b.length := by
  intro a b
  induction a, b using mergeE.induct with
  | case1 bt1 => rw [mergeE]; simp
  | case2 a at1 => rw [mergeE]; simp
  | case3 a at1 b bt1 h ih => rw [mergeE, if_pos h]; simp only [List.length_cons] at ih ⊢; omega
  | case4 a at1 b bt1 h h2 ih => rw [mergeE, if_neg h, if_pos h2]; simp only [List.length_cons] at ih ⊢; omega
  | case5 a at1 b bt1 h h2 h3 ih => rw [mergeE, if_neg h, if_neg h2, if_pos h3]; simp only [List.length_cons] at ih ⊢; omega
  | case6 a at1 b bt1 h h2 h3 ih => rw [mergeE, if_neg h, if_neg h2, if_neg h3]; simp only [List.length_cons] at ih ⊢; omega
theorem ec_app (a b : List En) : ec (a ++ b) = ec a ++ ec b := by simp [ec]
/-- The sum of all counts, without signs. -/
def absS (l : List En) : Nat := (l.map fun e => e.n.natAbs).sum
theorem absS_mem {l : List En} {e : En} (h : e ∈ l) : e.n.natAbs ≤ absS l := by
  induction l with
  | nil => cases h
  | cons x l ih =>
    unfold absS at ih ⊢
    simp only [List.map_cons, List.sum_cons]
    rcases List.mem_cons.1 h with rfl | h
    · omega
    · have := ih h; omega
theorem absS_cons (e : En) (l : List En) : absS (e :: l) = e.n.natAbs + absS l := by simp [absS]
theorem mergeE_abs : ∀ (a b : List En), absS (mergeE a b) ≤ absS a + absS b := by
  intro a b
  induction a, b using mergeE.induct with
  | case1 bt1 => rw [mergeE]; simp [absS]
  | case2 a at1 => rw [mergeE]; simp [absS]
  | case3 a at1 b bt1 h ih => rw [mergeE, if_pos h]; simp only [absS_cons] at ih ⊢; omega
  | case4 a at1 b bt1 h h2 ih => rw [mergeE, if_neg h, if_pos h2]; simp only [absS_cons] at ih ⊢; omega
  | case5 a at1 b bt1 h h2 h3 ih => rw [mergeE, if_neg h, if_neg h2, if_pos h3]; simp only [absS_cons] at ih ⊢; omega
  | case6 a at1 b bt1 h h2 h3 ih => rw [mergeE, if_neg h, if_neg h2, if_neg h3]; simp only [absS_cons] at ih ⊢; omega
theorem mergeE_rows : ∀ (a b : List En) (p : List Vl → Prop), (∀ e ∈ a, p e.r) → (∀ e ∈ b, p e.r) → ∀ e ∈ mergeE a b, p e.r := by
  intro a b p
  induction a, b using mergeE.induct with
  | case1 bt1 => intro _ h; rw [mergeE]; exact h
  | case2 a at1 => intro h _; rw [mergeE]; exact h
  | case3 a at1 b bt1 h ih =>
    intro h1 h2; rw [mergeE, if_pos h]
    intro e he
    rcases List.mem_cons.1 he with rfl | he
    · exact h1 _ (by simp)
    · exact ih (fun e he => h1 e (by simp [he])) h2 e he
  | case4 a at1 b bt1 h h2 ih =>
    intro h1 h3; rw [mergeE, if_neg h, if_pos h2]
    intro e he
    rcases List.mem_cons.1 he with rfl | he
    · exact h3 _ (by simp)
    · exact ih h1 (fun e he => h3 e (by simp [he])) e he
  | case5 a at1 b bt1 h h2 h3 ih =>
    intro h1 h4; rw [mergeE, if_neg h, if_neg h2, if_pos h3]
    intro e he
    rcases List.mem_cons.1 he with rfl | he
    · exact h1 a (by simp)
    · exact ih (fun e he => h1 e (by simp [he])) (fun e he => h4 e (by simp [he])) e he
  | case6 a at1 b bt1 h h2 h3 ih =>
    intro h1 h4; rw [mergeE, if_neg h, if_neg h2, if_neg h3]
    exact ih (fun e he => h1 e (by simp [he])) (fun e he => h4 e (by simp [he]))
end Go.Proofs.Ytccnhpaldmjkbaa
namespace Go.Proofs.Ytccnhpaldmjkbaa
open Go Go.RowKit Go.Av
set_option maxRecDepth 100000
attribute [local irreducible] Still Adds AWL AW Drw DrwE EStep AC AWR Weak Frz Src RetK Out InK ItK AsK RdK RetT OutT ACT
end Go.Proofs.Ytccnhpaldmjkbaa
namespace Go.Proofs.Ytccnhpaldmjkbaa
open Go Go.RowKit Go.Av
set_option maxRecDepth 100000
def sortE (l : List En) : List En :=
  if h : l.length ≤ 1 then l.filter fun e => e.n ≠ 0
  else mergeE (sortE (l.take (l.length / 2))) (sortE (l.drop (l.length / 2)))
termination_by l.length
decreasing_by
  · rw [List.length_take]; omega
  · rw [List.length_drop]; omega
theorem sortE_big {l : List En} {n : Nat} (hn : l.length = n) (h : 1 < n) : sortE l = mergeE (sortE (l.take (n / 2))) (sortE (l.drop (n / 2))) := by
  subst hn
  rw [sortE, dif_neg (by omega)]
theorem ec_take : ∀ (l : List En) (k : Nat), (ec l).take (k * 2) = ec (l.take k)
  | [], k => by simp [ec]
  | e :: l, 0 => by simp [ec]
  | e :: l, k + 1 => by
    have := ec_take l k
    have hl : e.c.length = 2 := rfl
    unfold ec at this ⊢
    rw [List.take_succ_cons, List.flatMap_cons, List.flatMap_cons, show (k + 1) * 2 = e.c.length + k * 2 by rw [hl]; omega, List.take_length_add_append, this]
theorem ec_drop : ∀ (l : List En) (k : Nat), (ec l).drop (k * 2) = ec (l.drop k)
  | [], k => by simp [ec]
  | e :: l, 0 => by simp [ec]
  | e :: l, k + 1 => by
    have := ec_drop l k
    have hl : e.c.length = 2 := rfl
    unfold ec at this ⊢
    rw [List.drop_succ_cons, List.flatMap_cons, show (k + 1) * 2 = e.c.length + k * 2 by rw [hl]; omega, List.drop_length_add_append, this]
theorem absS_app (a b : List En) : absS (a ++ b) = absS a + absS b := by simp [absS]
theorem sortE_facts : ∀ (n : Nat) (l : List En), l.length ≤ n → (sortE l).length ≤ l.length ∧ absS (sortE l) ≤ absS l ∧ ∀ p : List Vl → Prop, (∀ e ∈ l, p e.r) → ∀ e ∈ sortE l, p e.r := by
  intro n
  induction n with
  | zero =>
    intro l h
    have : l = [] := List.eq_nil_of_length_eq_zero (by omega)
    subst this
    rw [sortE]
    simp [absS]
  | succ n ih =>
    intro l h
    by_cases h1 : l.length ≤ 1
    · rw [sortE, dif_pos h1]
      refine ⟨List.length_filter_le .., ?_, fun p hp e he => hp e (List.mem_filter.1 he).1⟩
      match l, h1 with
      | [], _ => simp [absS]
      | [e], _ =>
        by_cases h0 : e.n = 0
        · simp [absS, h0]
        · simp [absS, h0]
    · rw [sortE_big rfl (by omega)]
      obtain ⟨a1, a2, a3⟩ := ih (l.take (l.length / 2)) (by rw [List.length_take]; omega)
      obtain ⟨b1, b2, b3⟩ := ih (l.drop (l.length / 2)) (by rw [List.length_drop]; omega)
      have h3 := mergeE_length (sortE (l.take (l.length / 2))) (sortE (l.drop (l.length / 2)))
      have h4 := mergeE_abs (sortE (l.take (l.length / 2))) (sortE (l.drop (l.length / 2)))
      have h5 := absS_app (l.take (l.length / 2)) (l.drop (l.length / 2))
      rw [List.take_append_drop] at h5
      rw [List.length_take] at a1
      rw [List.length_drop] at b1
      exact ⟨by omega, by omega, fun p hp => mergeE_rows _ _ p (a3 p fun e he => hp e (List.mem_of_mem_take he)) (b3 p fun e he => hp e (List.mem_of_mem_drop he))⟩
attribute [local irreducible] Still Adds AWL AW Drw DrwE EStep AC AWR Weak Frz Src RetK Out InK ItK AsK RdK RetT OutT ACT
attribute [local simp] ec_take ec_drop ec_length
theorem AC.len {P : Program} {f : FuncId} {args : List CV} {N N' : Nat} {cs : List CV} (h : AC P f args (.c (.sl 2 N cs)) [] 0) (e : N = N') : AC P f args (.c (.sl 2 N' cs)) [] 0 := e ▸ h
end Go.Proofs.Ytccnhpaldmjkbaa
namespace Go.Proofs.Ytccnhpaldmjkbaa
open Go Go.RowKit Go.Av
set_option maxRecDepth 100000
/-- A comparison by a total preorder. -/
structure GC {α : Type} (c : α → α → Int) : Prop where
  anti : ∀ x y, c y x = - c x y
  tr : ∀ x y z, c x y ≤ 0 → c y z ≤ 0 → c x z ≤ 0
section
variable {α : Type} {c : α → α → Int}
theorem GC.tr0 (h : GC c) {x y z : α} (h1 : c x y ≤ 0) (h2 : c y z ≤ 0) (h3 : c x z = 0) : c x y = 0 ∧ c y z = 0 := by
  have a1 := h.anti x z
  have a2 := h.anti x y
  have a3 := h.anti y z
  have b1 := h.tr y z x h2 (by omega)
  have b2 := h.tr z x y (by omega) h1
  omega
theorem GC.lt (h : GC c) {x y z : α} (h1 : c x y < 0) (h2 : c y z < 0) : c x z < 0 := by
  have b1 := h.tr x y z (by omega) (by omega)
  by_cases h3 : c x z = 0
  · have := h.tr0 (y := y) (by omega) (by omega) h3; omega
  · omega
theorem GC.eqlt (h : GC c) {x y z : α} (h1 : c x y = 0) (h2 : c y z < 0) : c x z < 0 := by
  have b1 := h.tr x y z (by omega) (by omega)
  by_cases h3 : c x z = 0
  · have := h.tr0 (y := y) (by omega) (by omega) h3; omega
  · omega
end
theorem gc_Z : GC cmpZ := by
  constructor
  · intro x y; unfold cmpZ; split <;> (try split) <;> omega
  · intro x y z; unfold cmpZ; split <;> (try split) <;> (try split) <;> (try split) <;> (try split) <;> (try split) <;> omega
theorem u8_eq {a b : UInt8} (h1 : ¬ a < b) (h2 : ¬ b < a) : a = b := by
  apply UInt8.toNat_inj.1
  have e1 : ¬ a.toNat < b.toNat := h1
  have e2 : ¬ b.toNat < a.toNat := h2
  omega
theorem gc_B : GC Lib.compareBytes := by
  constructor
  · intro x
    induction x with
    | nil => intro y; cases y <;> rfl
    | cons a x ih =>
      intro y
      cases y with
      | nil => rfl
      | cons b y =>
        unfold Lib.compareBytes
        by_cases h1 : a < b
        · have h2 : ¬ b < a := fun h => by have e1 : a.toNat < b.toNat := h1; have e2 : b.toNat < a.toNat := h; omega
          simp [h1, h2]
        · by_cases h2 : b < a
          · simp [h1, h2]
          · simp [h1, h2, ih y]
  · intro x
    induction x with
    | nil =>
      intro y z h1 h2
      cases z with
      | nil => simp [Lib.compareBytes]
      | cons c z => simp [Lib.compareBytes]
    | cons a x ih =>
      intro y z h1 h2
      cases y with
      | nil => simp [Lib.compareBytes] at h1
      | cons b y =>
        cases z with
        | nil => simp [Lib.compareBytes] at h2
        | cons c z =>
          unfold Lib.compareBytes at h1 h2 ⊢
          by_cases p1 : a < b
          · have e1 : a.toNat < b.toNat := p1
            by_cases p2 : b < c
            · have e2 : b.toNat < c.toNat := p2
              have : a < c := by show a.toNat < c.toNat; omega
              simp [this]
            · by_cases p3 : c < b
              · simp [p2, p3] at h2
              · have := u8_eq p2 p3
                subst this
                simp [p1]
          · by_cases p4 : b < a
            · simp [p1, p4] at h1
            · have := u8_eq p1 p4
              subst this
              by_cases p2 : a < c
              · simp [p2]
              · by_cases p3 : c < a
                · simp [p2, p3] at h2
                · simp [p1] at h1
                  simp [p2, p3] at h2 ⊢
                  exact ih y z h1 h2
theorem gc_V : GC cmpV := by
  constructor
  · intro x y
    unfold cmpV
    by_cases h1 : x.k = y.k
    · have e1 : ¬ (y.k ≠ x.k) := fun h => h h1.symm
      have e2 : ¬ (x.k ≠ y.k) := fun h => h h1
      rw [if_neg e1, if_neg e2, h1]
      by_cases h2 : y.k = 1
      · rw [if_pos h2, if_pos h2]; exact gc_Z.anti _ _
      · rw [if_neg h2, if_neg h2]
        by_cases h3 : y.k = 2
        · rw [if_pos h3, if_pos h3]; exact gc_B.anti _ _
        · rw [if_neg h3, if_neg h3]; rfl
    · rw [if_pos (fun h => h1 h.symm), if_pos h1]; exact gc_Z.anti _ _
  · intro x y z h1 h2
    unfold cmpV at h1 h2 ⊢
    by_cases e1 : x.k = y.k
    · by_cases e2 : y.k = z.k
      · have e3 := e1.trans e2
        rw [if_neg (fun h => h e1)] at h1
        rw [if_neg (fun h => h e2), ← e1] at h2
        rw [if_neg (fun h => h e3)]
        by_cases p1 : x.k = 1
        · rw [if_pos p1] at h1 h2 ⊢; exact gc_Z.tr _ _ _ h1 h2
        · rw [if_neg p1] at h1 h2 ⊢
          by_cases p2 : x.k = 2
          · rw [if_pos p2] at h1 h2 ⊢; exact gc_B.tr _ _ _ h1 h2
          · rw [if_neg p2]; omega
      · rw [if_pos e2] at h2
        rw [if_pos (by omega), e1]; exact h2
    · rw [if_pos e1] at h1
      by_cases e2 : y.k = z.k
      · rw [if_pos (by omega), ← e2]; exact h1
      · rw [if_pos e2] at h2
        have := gc_Z.tr _ _ _ h1 h2
        by_cases e3 : x.k = z.k
        · exfalso
          unfold cmpZ at h1 h2
          split at h1 <;> (try split at h1) <;> split at h2 <;> (try split at h2) <;> omega
        · rw [if_pos e3]; exact this
theorem gc_R : GC cmpR := by
  constructor
  · intro x
    induction x with
    | nil => intro y; cases y <;> rfl
    | cons a x ih =>
      intro y
      cases y with
      | nil => rfl
      | cons b y =>
        unfold cmpR
        have h := gc_V.anti (clV a) (clV b)
        by_cases h1 : cmpV (clV a) (clV b) = 0
        · rw [if_neg (by omega), if_neg (by omega)]; exact ih y
        · rw [if_pos (by omega), if_pos (by omega)]; exact h
  · intro x
    induction x with
    | nil =>
      intro y z h1 h2
      cases z with
      | nil => simp [cmpR]
      | cons c z => simp [cmpR]
    | cons a x ih =>
      intro y z h1 h2
      cases y with
      | nil => simp [cmpR] at h1
      | cons b y =>
        cases z with
        | nil => simp [cmpR] at h2
        | cons c z =>
          unfold cmpR at h1 h2 ⊢
          have q1 : cmpV (clV a) (clV b) ≤ 0 := by split at h1 <;> omega
          have q2 : cmpV (clV b) (clV c) ≤ 0 := by split at h2 <;> omega
          have q3 := gc_V.tr _ _ _ q1 q2
          by_cases q4 : cmpV (clV a) (clV c) = 0
          · obtain ⟨q5, q6⟩ := gc_V.tr0 q1 q2 q4
            rw [if_neg (by omega)] at h1 h2 ⊢
            exact ih y z h1 h2
          · rw [if_pos q4]; exact q3
/-- Ascending rows, all different. -/
def srtE (b : List En) : Prop := b.Pairwise fun e f => cmpR e.r f.r < 0
theorem mergeE_all (Q : En → Prop) (hQ : ∀ e f, Q e → Q f → cmpR e.r f.r = 0 → e.n + f.n ≠ 0 → Q ⟨e.r, e.n + f.n⟩) : ∀ (a b : List En), (∀ e ∈ a, Q e) → (∀ e ∈ b, Q e) → ∀ e ∈ mergeE a b, Q e := by
  intro a b
  induction a, b using mergeE.induct with
  | case1 bt1 => intro _ h; rw [mergeE]; exact h
  | case2 a at1 => intro h _; rw [mergeE]; exact h
  | case3 a at1 b bt1 h ih =>
    intro h1 h2; rw [mergeE, if_pos h]
    intro e he
    rcases List.mem_cons.1 he with rfl | he
    · exact h1 _ (by simp)
    · exact ih (fun e he => h1 e (by simp [he])) h2 e he
  | case4 a at1 b bt1 h h2 ih =>
    intro h1 h3; rw [mergeE, if_neg h, if_pos h2]
    intro e he
    rcases List.mem_cons.1 he with rfl | he
    · exact h3 _ (by simp)
    · exact ih h1 (fun e he => h3 e (by simp [he])) e he
  | case5 a at1 b bt1 h h2 h3 ih =>
    intro h1 h4; rw [mergeE, if_neg h, if_neg h2, if_pos h3]
    intro e he
    rcases List.mem_cons.1 he with rfl | he
    · exact hQ a b (h1 a (by simp)) (h4 b (by simp)) (by omega) h3
    · exact ih (fun e he => h1 e (by simp [he])) (fun e he => h4 e (by simp [he])) e he
  | case6 a at1 b bt1 h h2 h3 ih =>
    intro h1 h4; rw [mergeE, if_neg h, if_neg h2, if_neg h3]
    exact ih (fun e he => h1 e (by simp [he])) (fun e he => h4 e (by simp [he]))
theorem mergeE_srt : ∀ (a b : List En), srtE a → srtE b → srtE (mergeE a b) := by
  intro a b
  induction a, b using mergeE.induct with
  | case1 bt1 => intro _ h; rw [mergeE]; exact h
  | case2 a at1 => intro h _; rw [mergeE]; exact h
  | case3 a at1 b bt1 h ih =>
    intro h1 h2; rw [mergeE, if_pos h]
    obtain ⟨h3, h4⟩ := List.pairwise_cons.1 h1
    obtain ⟨h5, h6⟩ := List.pairwise_cons.1 h2
    refine List.pairwise_cons.2 ⟨mergeE_rows _ _ (fun r => cmpR a.r r < 0) h3 fun e he => ?_, ih h4 h2⟩
    rcases List.mem_cons.1 he with rfl | he
    · exact h
    · exact gc_R.lt h (h5 e he)
  | case4 a at1 b bt1 h h2 ih =>
    intro h1 h3; rw [mergeE, if_neg h, if_pos h2]
    obtain ⟨h4, h5⟩ := List.pairwise_cons.1 h1
    obtain ⟨h6, h7⟩ := List.pairwise_cons.1 h3
    have hba : cmpR b.r a.r < 0 := by have := gc_R.anti a.r b.r; omega
    refine List.pairwise_cons.2 ⟨mergeE_rows _ _ (fun r => cmpR b.r r < 0) (fun e he => ?_) h6, ih h1 h7⟩
    rcases List.mem_cons.1 he with rfl | he
    · exact hba
    · exact gc_R.lt hba (h4 e he)
  | case5 a at1 b bt1 h h2 h3 ih =>
    intro h1 h4; rw [mergeE, if_neg h, if_neg h2, if_pos h3]
    obtain ⟨h5, h6⟩ := List.pairwise_cons.1 h1
    obtain ⟨h7, h8⟩ := List.pairwise_cons.1 h4
    exact List.pairwise_cons.2 ⟨mergeE_rows _ _ (fun r => cmpR a.r r < 0) h5 fun e he => gc_R.eqlt (by omega) (h7 e he), ih h6 h8⟩
  | case6 a at1 b bt1 h h2 h3 ih =>
    intro h1 h4; rw [mergeE, if_neg h, if_neg h2, if_neg h3]
    exact ih (List.pairwise_cons.1 h1).2 (List.pairwise_cons.1 h4).2
theorem sortE_ind (C : List En → Prop) (h0 : ∀ l : List En, l.length ≤ 1 → C (l.filter fun e => e.n ≠ 0)) (h1 : ∀ a b : List En, C a → C b → C (mergeE a b)) : ∀ (n : Nat) (l : List En), l.length ≤ n → C (sortE l) := by
  intro n
  induction n with
  | zero => intro l hl; rw [sortE, dif_pos (by omega)]; exact h0 l (by omega)
  | succ n ih =>
    intro l hl
    by_cases hl1 : l.length ≤ 1
    · rw [sortE, dif_pos hl1]; exact h0 l hl1
    · rw [sortE_big rfl (by omega)]
      exact h1 _ _ (ih _ (by rw [List.length_take]; omega)) (ih _ (by rw [List.length_drop]; omega))
theorem sortE_srt (l : List En) : srtE (sortE l) := by
  refine sortE_ind srtE (fun l hl => ?_) (fun a b => mergeE_srt a b) l.length l (Nat.le_refl _)
  match l, hl with
  | [], _ => exact List.Pairwise.nil
  | [e], _ => exact List.Pairwise.sublist (List.filter_sublist) (List.pairwise_singleton _ _)
theorem sortE_all (Q : En → Prop) (hQ : ∀ e f, Q e → Q f → cmpR e.r f.r = 0 → e.n + f.n ≠ 0 → Q ⟨e.r, e.n + f.n⟩) : ∀ (n : Nat) (l : List En), l.length ≤ n → (∀ e ∈ l, e.n ≠ 0 → Q e) → ∀ e ∈ sortE l, Q e := by
  intro n
  induction n with
  | zero =>
    intro l hl h; rw [sortE, dif_pos (by omega)]
    intro e he
    obtain ⟨h1, h2⟩ := List.mem_filter.1 he
    exact h e h1 (by simpa using h2)
  | succ n ih =>
    intro l hl h
    by_cases hl1 : l.length ≤ 1
    · rw [sortE, dif_pos hl1]
      intro e he
      obtain ⟨h1, h2⟩ := List.mem_filter.1 he
      exact h e h1 (by simpa using h2)
    · rw [sortE_big rfl (by omega)]
      exact mergeE_all Q hQ _ _ (ih _ (by rw [List.length_take]; omega) fun e he => h e (List.mem_of_mem_take he)) (ih _ (by rw [List.length_drop]; omega) fun e he => h e (List.mem_of_mem_drop he))
/-- Sums over the rows. -/
def wsum (g : List Vl → Int) (b : List En) : Int := (b.map fun e => e.n * g e.r).sum
def okR (b : List En) : Prop := ∀ e ∈ b, ∀ v ∈ e.r, okP v
/-- A valid bag without negative counts. -/
structure BagF (M : Nat) (b : List En) : Prop where
  srt : srtE b
  pos : ∀ e ∈ b, 0 < e.n
  row : ∀ e ∈ b, rowP e.r
  abs : absS b ≤ M
theorem BagF.len {M : Nat} {b : List En} (h : BagF M b) : b.length ≤ M := by
  have h1 := h.pos
  have h2 := h.abs
  clear h
  induction b generalizing M with
  | nil => simp
  | cons e b ih =>
    rw [absS_cons] at h2
    have := h1 e (by simp)
    have := ih (M := M - e.n.natAbs) (fun e he => h1 e (by simp [he])) (by omega)
    simp only [List.length_cons]; omega
theorem BagF.ok {M : Nat} {b : List En} (h : BagF M b) : okR b := fun e he v hv => (h.row e he).2 v hv
theorem BagF.posP {M : Nat} {b : List En} (h : BagF M b) (hM : M ≤ 4096) : posP b := by
  refine ⟨⟨Nat.le_trans h.len hM, fun i hi e he => ?_⟩, fun e he => by have := h.pos e he; omega⟩
  have hm := List.mem_of_getElem? he
  have h1 := absS_mem hm
  have h2 := h.abs
  have h3 := h.pos e hm
  refine ⟨⟨by omega, by omega, h.row e hm⟩, by omega, fun f hi0 hf => ?_⟩
  obtain ⟨h4, h5⟩ := List.getElem?_eq_some_iff.1 he
  obtain ⟨h6, h7⟩ := List.getElem?_eq_some_iff.1 hf
  have := List.pairwise_iff_getElem.1 h.srt (i - 1) i h6 h4 (by omega)
  rw [h5, h7] at this
  exact this
theorem BagF.sort {M : Nat} {l : List En} (h1 : ∀ e ∈ l, 0 ≤ e.n) (h2 : ∀ e ∈ l, rowP e.r) (h3 : absS l ≤ M) : BagF M (sortE l) := by
  obtain ⟨_, f2, f3⟩ := sortE_facts l.length l (Nat.le_refl _)
  exact ⟨sortE_srt l, sortE_all (fun e => 0 < e.n) (fun e f h1 h2 _ _ => by simp only at h1 h2 ⊢; omega) l.length l (Nat.le_refl _) (fun e he h0 => by have := h1 e he; omega), f3 rowP h2, by omega⟩
end Go.Proofs.Ytccnhpaldmjkbaa
