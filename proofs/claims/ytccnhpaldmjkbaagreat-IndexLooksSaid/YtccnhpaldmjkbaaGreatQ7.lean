/-
  Joined texts: H12 T1 T2 T3. Lemmas; no statement of a law.
-/
import Derived.Laws.StructEq
import Derived.Test.YtccnhpaldmjkbaaGreatQ5
import Derived.Test.YtccnhpaldmjkbaaGreatQ6
set_option maxHeartbeats 16000000
set_option linter.unusedSimpArgs false
set_option linter.unusedVariables false
namespace Go.Proofs.YtccnhpaldmjkbaaGreat
open Go Go.RowKit Go.Av
set_option maxRecDepth 100000
section
variable {P : Program} {ev : Evl} {h : Heap} {d : Option Tmp} {T T' ty : TypeId} {x y : Operand} {pos : String} {aft : Array Edge} {gd : Option (Nat × Bool)}
end
def vA : Vl := ⟨2, 0, [97]⟩
def bA : List En := [⟨[vA], 3⟩]
def cA : List Int := [0, 0, 0, 3, 3, 0, 0, 0]
attribute [local irreducible] Still Adds AWL AW Drw DrwE EStep AC AWR Weak Frz Src RetK Out InK ItK AsK RdK
end Go.Proofs.YtccnhpaldmjkbaaGreat
namespace Go.Proofs.YtccnhpaldmjkbaaGreat
open Go Go.RowKit Go.Av
set_option maxRecDepth 100000
def tpC (l : List Int) (n : Nat) (a : Int) : List CV := [.sl 1 n (intc .i64 l), iv a]
def shZ (x s : Int) : Int := if 0 < s then IntKind.i64.wrap ((BitVec.ofInt 64 (x.fdiv (2 ^ (min s.toNat 64))) ^^^ BitVec.ofInt 64 s).toNat : Int) else x
def remZ (y m : Int) : Int := (IntKind.i64.wrap (y.tmod m + m)).tmod m
def stopP (n : Nat) (a m : Int) : Prop := m < 2 ∨ n = 0 ∨ IntKind.i64.wrap (4 * (n : Int)) ≤ a
instance (n : Nat) (a m : Int) : Decidable (stopP n a m) := by unfold stopP; infer_instance
def nextX (l : List Int) (n : Nat) (a m : Int) : Int := if stopP n a m then 0 else remZ (shZ (l.getD (a % n).toNat 0) (a / n)) m
def nextA (n : Nat) (a m : Int) : Int := if stopP n a m then a else a + 1
theorem wL (y m : Int) (hm : 2 ≤ m) (hm2 : m ≤ 4294967296) : 0 ≤ remZ y m ∧ remZ y m < m := by
  unfold remZ
  have h1 := Int.tmod_lt_of_pos y (b := m) (by omega)
  have h2 : -m < y.tmod m := by
    by_cases hy : 0 ≤ y
    · have := Int.tmod_nonneg m hy
      omega
    · have := Int.tmod_lt_of_pos (-y) (b := m) (by omega)
      rw [Int.neg_tmod] at this
      omega
  rw [w64 (by omega) (by omega)]
  exact ⟨Int.tmod_nonneg _ (by omega), Int.tmod_lt_of_pos _ (by omega)⟩
attribute [local irreducible] Still Adds AWL AW Drw DrwE EStep AC AWR Weak Frz Src RetK Out InK ItK AsK RdK RetT OutT ACT
theorem dZ (l : List Int) (n : Nat) (a m : Int) (hn : l.length = n) (hnn : n ≤ maxLen) (ha0 : 0 ≤ a) (ha : a ≤ 9223372036854775807) (hm : m ≤ 4294967296) : ACT Tryz.prog 27 72 (tpC l n a) [iv m] (tpC l n (nextA n a m)) (iv (nextX l n a m)) := by
  have hml : n ≤ 9223372036854775807 := hnn
  clear hnn
  unfold nextX nextA tpC
  by_cases h1 : m < 2
  · have hs : stopP n a m := .inl h1
    rw [if_pos hs, if_pos hs]
    clear hs
    refine bX tabOk (sz := 78) Tryz.func27 rfl (by rw [Tryz.ntmps27]; rfl) ?_
    repeat' (first | ((with_reducible refine aB ?_); intro K hK hX) | ((with_reducible refine aC ?_); refine aD [0, 1, 4, 5, 6] rfl rfl ?_) | ((with_reducible refine aF ?_); refine aG [0, 1, 4, 5, 6] rfl rfl ?_; refine aI [] ?_) | refine stA ?_ | refine stD ?_ | ((first | refine hK _ _ _ _ ?_ | refine hX _ _ _ _ _ (by simp) ?_); clear hK hX K))
    refine cH zio ztr rfl rfl (ResL.one (ResA.tmp rfl)) (cT zfz rfl rfl)
  · by_cases h2 : n = 0
    · have hs : stopP n a m := .inr (.inl h2)
      rw [if_pos hs, if_pos hs]
      clear hs
      refine bX tabOk (sz := 78) Tryz.func27 rfl (by rw [Tryz.ntmps27]; rfl) ?_
      repeat' (first | ((with_reducible refine aB ?_); intro K hK hX) | ((with_reducible refine aC ?_); refine aD [0, 1, 4, 5, 6] rfl rfl ?_) | ((with_reducible refine aF ?_); refine aG [0, 1, 4, 5, 6] rfl rfl ?_; refine aI [] ?_) | refine stA ?_ | refine stD ?_ | ((first | refine hK _ _ _ _ ?_ | refine hX _ _ _ _ _ (by simp) ?_); clear hK hX K))
      refine cH zio ztr rfl rfl (ResL.one (ResA.tmp rfl)) (cT zfz rfl rfl)
    · by_cases h3 : IntKind.i64.wrap (4 * (n : Int)) ≤ a
      · have hs : stopP n a m := .inr (.inr h3)
        rw [if_pos hs, if_pos hs]
        clear hs
        refine bX tabOk (sz := 78) Tryz.func27 rfl (by rw [Tryz.ntmps27]; rfl) ?_
        repeat' (first | ((with_reducible refine aB ?_); intro K hK hX) | ((with_reducible refine aC ?_); refine aD [0, 1, 4, 5, 6] rfl rfl ?_) | ((with_reducible refine aF ?_); refine aG [0, 1, 4, 5, 6] rfl rfl ?_; refine aI [] ?_) | refine stA ?_ | refine stD ?_ | ((first | refine hK _ _ _ _ ?_ | refine hX _ _ _ _ _ (by simp) ?_); clear hK hX K))
        refine cH zio ztr rfl rfl (ResL.one (ResA.tmp rfl)) (cT zfz rfl rfl)
      · have hs : ¬ stopP n a m := fun h => h.elim h1 fun h => h.elim h2 h3
        have ha4 : a < 9223372036854775807 := by
          have : IntKind.i64.wrap (4 * (n : Int)) ≤ 9223372036854775807 := by rw [IntKind.wrap_i64]; omega
          omega
        rw [if_neg hs, if_neg hs]
        clear hs
        have hil : (intc .i64 l).length = n := by rw [nX, hn]
        obtain ⟨p, hp⟩ : ∃ p, (a % (n : Int)).toNat = p := ⟨_, rfl⟩
        have hm0 := Int.emod_nonneg a (b := (n : Int)) (by omega)
        have hm1 := Int.emod_lt_of_pos a (b := (n : Int)) (by omega)
        have hrem : a.tmod (n : Int) = (p : Int) := by rw [r64 ha0]; omega
        have hpn : p < n := by omega
        obtain ⟨sq, hsq⟩ : ∃ sq, a / (n : Int) = sq := ⟨_, rfl⟩
        have hs0 : 0 ≤ sq := by rw [← hsq]; exact Int.ediv_nonneg ha0 (by omega)
        have hs1 : sq ≤ a := by rw [← hsq]; exact Int.ediv_le_self _ ha0
        have hquo : IntKind.i64.wrap (a.tdiv (n : Int)) = sq := by rw [← hsq]; exact q64 ha0 (by omega) ha
        have hx := intc_at (getD_at (l := l) (i := p) (by omega))
        rw [hp, hsq]
        generalize l.getD p 0 = x at hx ⊢
        clear hm0 hm1 hsq hp
        unfold shZ remZ
        by_cases h4 : 0 < sq
        · rw [if_pos h4]
          refine bX tabOk (sz := 78) Tryz.func27 rfl (by rw [Tryz.ntmps27]; rfl) ?_
          repeat' (first | ((with_reducible refine aB ?_); intro K hK hX) | ((with_reducible refine aC ?_); refine aD [0, 1, 4, 5, 6] rfl rfl ?_) | ((with_reducible refine aF ?_); refine aG [0, 1, 4, 5, 6] rfl rfl ?_; refine aI [] ?_) | ((first | ((with_reducible refine aH ?_); refine xA ?_) | ((with_reducible refine aO ?_); refine xD ?_)); (first | ((with_reducible refine aU ?_); (first | refine aA (oD (k := .i64) rfl rfl (by omega) hrem) ?_ | refine aA (mK (k := .i64) rfl rfl (by omega) hquo) ?_)) | ((with_reducible refine pO ?_); (first | refine aA (iP tabOk rfl rfl rfl rfl (wu64 (by omega) (by omega))) ?_)) | ((with_reducible refine aP ?_); (first | refine aA (aR tabOk rfl rfl rfl rfl (by (rw [Nat.mul_one]; exact hx))) ?_ | refine aA (aN tabOk rfl rfl rfl rfl (by (rw [Nat.mul_one]; exact hx))) ?_ | refine aA (aM tabOk rfl rfl rfl (by (rw [Nat.mul_one]; exact hx))) ?_)) | ((with_reducible refine bR ?_); (first | refine aA (s_ixV1 tabOk rfl rfl zcj rfl rfl rfl rfl rfl zle (by (rw [Nat.mul_one]; exact hx))) ?_ | refine aA (aQ tabOk rfl rfl zcj rfl rfl (by (rw [Nat.mul_one]; exact hx))) ?_)))) | refine stA ?_ | refine stD ?_ | ((first | refine hK _ _ _ _ ?_ | refine hX _ _ _ _ _ (by simp) ?_); clear hK hX K))
          refine cH zio ztr rfl rfl (ResL.one (ResA.tmp rfl)) (cT zfz rfl rfl)
        · rw [if_neg h4]
          refine bX tabOk (sz := 78) Tryz.func27 rfl (by rw [Tryz.ntmps27]; rfl) ?_
          repeat' (first | ((with_reducible refine aB ?_); intro K hK hX) | ((with_reducible refine aC ?_); refine aD [0, 1, 4, 5, 6] rfl rfl ?_) | ((with_reducible refine aF ?_); refine aG [0, 1, 4, 5, 6] rfl rfl ?_; refine aI [] ?_) | ((first | ((with_reducible refine aH ?_); refine xA ?_) | ((with_reducible refine aO ?_); refine xD ?_)); (first | ((with_reducible refine aU ?_); (first | refine aA (oD (k := .i64) rfl rfl (by omega) hrem) ?_ | refine aA (mK (k := .i64) rfl rfl (by omega) hquo) ?_)) | ((with_reducible refine aP ?_); (first | refine aA (aR tabOk rfl rfl rfl rfl (by (rw [Nat.mul_one]; exact hx))) ?_ | refine aA (aN tabOk rfl rfl rfl rfl (by (rw [Nat.mul_one]; exact hx))) ?_ | refine aA (aM tabOk rfl rfl rfl (by (rw [Nat.mul_one]; exact hx))) ?_)) | ((with_reducible refine bR ?_); (first | refine aA (s_ixV1 tabOk rfl rfl zcj rfl rfl rfl rfl rfl zle (by (rw [Nat.mul_one]; exact hx))) ?_ | refine aA (aQ tabOk rfl rfl zcj rfl rfl (by (rw [Nat.mul_one]; exact hx))) ?_)))) | refine stA ?_ | refine stD ?_ | ((first | refine hK _ _ _ _ ?_ | refine hX _ _ _ _ _ (by simp) ?_); clear hK hX K))
          refine cH zio ztr rfl rfl (ResL.one (ResA.tmp rfl)) (cT zfz rfl rfl)
end Go.Proofs.YtccnhpaldmjkbaaGreat
namespace Go.Proofs.YtccnhpaldmjkbaaGreat
open Go Go.RowKit Go.Av
set_option maxRecDepth 100000
section
variable {P : Program} {tab : Tab} {ev : Evl} {h : Heap} {d : Option Tmp} {T T' ty : TypeId} {x y : Operand} {pos : String} {aft : Array Edge} {gd : Option (Nat × Bool)}
theorem fM {s t : List UInt8} {b : Bool} (hx : ev x = some (.c (sv s))) (hy : ev y = some (.c (sv t))) (hr : Op.bytesLess s t = b) : Still P ⟨d, .binOp .lss T x y T', ty, pos, aft, gd⟩ ev h (.c (.v (.bool b))) :=
  fJ hx hy nD (fun w => by
    subst hr; simp only [binOp, Op.stringOp, iQ]; rfl)
theorem mC : ∀ (a b : List UInt8), Op.bytesLess a b = decide (Lib.compareBytes a b < 0)
  | [], [] => rfl
  | [], _ :: _ => rfl
  | _ :: _, [] => rfl
  | a :: x, b :: y => by
    have ih := mC x y
    unfold Op.bytesLess Lib.compareBytes
    by_cases h1 : a < b
    · simp [h1]
    · by_cases h2 : b < a
      · have : ¬ a = b := fun e => by subst e; exact h1 h2
        simp [h1, h2, this]
      · have : a = b := by
          apply UInt8.toNat_inj.1
          have e1 : ¬ a.toNat < b.toNat := h1
          have e2 : ¬ b.toNat < a.toNat := h2
          omega
        subst this
        simp [h1, ih]
theorem kJ : ∀ (a b : List UInt8), Lib.compareBytes a b = 0 ↔ a = b
  | [], [] => by simp [Lib.compareBytes]
  | [], _ :: _ => by simp [Lib.compareBytes]
  | _ :: _, [] => by simp [Lib.compareBytes]
  | a :: x, b :: y => by
    have ih := kJ x y
    unfold Lib.compareBytes
    by_cases h1 : a < b
    · have : ¬ a = b := fun e => by subst e; exact absurd h1 (by show ¬ a.toNat < a.toNat; omega)
      simp [h1, this]
    · by_cases h2 : b < a
      · have : ¬ a = b := fun e => by subst e; exact h1 h2
        simp [h1, h2, this]
      · have : a = b := by
          apply UInt8.toNat_inj.1
          have e1 : ¬ a.toNat < b.toNat := h1
          have e2 : ¬ b.toNat < a.toNat := h2
          omega
        subst this
        simp [h1, ih]
theorem pJ : ∀ (a b : List UInt8), Lib.compareBytes a b = -1 ∨ Lib.compareBytes a b = 0 ∨ Lib.compareBytes a b = 1
  | [], [] => by simp [Lib.compareBytes]
  | [], _ :: _ => by simp [Lib.compareBytes]
  | _ :: _, [] => by simp [Lib.compareBytes]
  | a :: x, b :: y => by
    have ih := pJ x y
    unfold Lib.compareBytes
    split
    · simp
    · split
      · simp
      · exact ih
end
theorem flds : Tryz.prog.fieldsOf 51 = #[{ name := "Kind", type := 3, offset := 0, embedded := false, tag := "", pkgPath := "", byteOffset := 0 },
        { name := "Int", type := 2, offset := 1, embedded := false, tag := "", pkgPath := "", byteOffset := 8 },
        { name := "Text", type := 9, offset := 2, embedded := false, tag := "", pkgPath := "", byteOffset := 16 }] := by unfold Program.fieldsOf; rw [Tryz.underlying51]
theorem wT (a b : Vl) (w : World) : (binOp .eql 51 (.agg #[.int .i64 a.k, .int .i64 a.n, .string ⟨a.t.toArray⟩]) (.agg #[.int .i64 b.k, .int .i64 b.n, .string ⟨b.t.toArray⟩])).run Tryz.prog w = .ok (.bool (decide (a = b))) w := by
  have hu : Tryz.prog.underlying 51 = some (.struct (Tryz.prog.fieldsOf 51)) := by rw [flds]; exact Tryz.underlying51
  have g3 := fun (w : World) => run_equalIn_int (P := Tryz.prog) w 9998 3 .i64 .i64 a.k b.k Tryz.underlying3
  have g2 := fun (w : World) => run_equalIn_int (P := Tryz.prog) w 9998 2 .i64 .i64 a.n b.n Tryz.underlying2
  have g9 := fun (w : World) => run_equalIn_string (P := Tryz.prog) w 9998 9 ⟨a.t.toArray⟩ ⟨b.t.toArray⟩ Tryz.underlying9
  rw [run_eql_struct, run_equalIn_agg w 9999 51 _ _ hu (by kernel_rfl), flds]
  simp only [Op.eqFields, part, isAgg, Sem.run_bind, Sem.run_ite, run_underlying Tryz.underlying3, run_underlying Tryz.underlying2, run_underlying Tryz.underlying9, Result.andThen_ok, Sem.run_pure]
  simp only [ne_eq, String.reduceEq, not_false_eq_true, if_true, Bool.false_eq_true, if_false, List.getElem?_toArray, List.getElem?_cons_zero, List.getElem?_cons_succ, Sem.run_pure, Result.andThen_ok, g3, g2, g9, iQ]
  obtain ⟨ak, an, at'⟩ := a
  obtain ⟨bk, bn, bt⟩ := b
  by_cases h1 : ak = bk
  · by_cases h2 : an = bn
    · by_cases h3 : at' = bt
      · simp [h1, h2, h3]
      · simp [h1, h2, h3]
    · simp [h1, h2]
  · simp [h1]
theorem lN {ev : Evl} {h : Heap} {d : Option Tmp} {T' ty : TypeId} {x y : Operand} {pos : String} {aft : Array Edge} {gd : Option (Nat × Bool)} {a b : Vl} {r : Bool} (hx : ev x = some (.c (.agg a.c))) (hy : ev y = some (.c (.agg b.c))) (hr : decide (a = b) = r) : Still Tryz.prog ⟨d, .binOp .eql 51 x y T', ty, pos, aft, gd⟩ ev h (.c (.v (.bool r))) := by
  intro B dom M H w s hh hc he
  have h1 := he x _ hx
  have h2 := he y _ hy
  simp only [Rep, RepC, Vl.c] at h1 h2
  obtain ⟨us, h1, h3, _⟩ := h1
  obtain ⟨vs, h2, h4, _⟩ := h2
  have h3 := RepCs.of_plain (vs := [.int .i64 a.k, .int .i64 a.n, .string ⟨a.t.toArray⟩]) h3
  have h4 := RepCs.of_plain (vs := [.int .i64 b.k, .int .i64 b.n, .string ⟨b.t.toArray⟩]) h4
  subst h3 h4
  refine ⟨_, ?_, rfl⟩
  have := wT a b w
  rw [hr] at this
  simp only [execOp, h1, h2, Sem.run_bind, rW (P := Tryz.prog) w (by kernel_rfl : Tryz.prog.eqGuardType Tryz.prog.depth 51 = false), Result.andThen_ok]
  rw [this]
  rfl
attribute [local irreducible] Still Adds AWL AW Drw DrwE EStep AC AWR Weak Frz Src RetK Out InK ItK AsK RdK RetT OutT ACT
theorem rvcmp_ok (a b : Vl) : AC Tryz.prog 143 [.agg a.c, .agg b.c] (.c (iv (cmpV (clV a) (clV b)))) [] 0 := by
  have h1 := kO a
  have h2 := kO b
  have o1 := ok_cl a
  have o2 := ok_cl b
  obtain ⟨ak, an, at'⟩ := a
  obtain ⟨bk, bn, bt⟩ := b
  generalize clV ⟨ak, an, at'⟩ = x at h1 o1 ⊢
  generalize clV ⟨bk, bn, bt⟩ = y at h2 o2 ⊢
  obtain ⟨xk, xn, xt⟩ := x
  obtain ⟨yk, yn, yt⟩ := y
  simp only [Vl.c] at *
  unfold okP at o1 o2
  simp only at o1 o2
  obtain ⟨lb, hl⟩ : ∃ lb, Op.bytesLess xt yt = lb := ⟨_, rfl⟩
  have hlc := mC xt yt
  rw [hl] at hlc
  have hc0 := kJ xt yt
  have hcr := pJ xt yt
  unfold cmpV cmpZ
  dsimp only
  by_cases e : (⟨xk, xn, xt⟩ : Vl) = ⟨yk, yn, yt⟩
  · have e' := e
    simp only [Vl.mk.injEq] at e'
    obtain ⟨e1, e2, e3⟩ := e'
    have hz : (if xk ≠ yk then (if xk < yk then (-1 : Int) else if yk < xk then 1 else 0) else if xk = 1 then (if xn < yn then -1 else if yn < xn then 1 else 0) else if xk = 2 then Lib.compareBytes xt yt else 0) = 0 := by
      rw [if_neg (fun h => h e1), e2, hc0.2 e3]
      simp
    rw [hz]
    clear hz hlc hc0 hcr o1 o2
    refine aJ tabOk (sz := 38) Tryz.func143 rfl (by rw [Tryz.ntmps143]; rfl) ?_
    repeat' (first | ((with_reducible refine aB ?_); intro K hK hX) | ((with_reducible refine aC ?_); refine aD [0, 1, 2, 3, 4] rfl rfl ?_) | ((with_reducible refine aF ?_); refine aG [0, 1, 2, 3, 4] rfl rfl ?_; refine cJ [] ?_) | ((with_reducible refine fV ?_); refine iS rfl rfl rfl ?_) | ((with_reducible refine fV ?_); refine iT (bP rfl rfl zgd) rfl ?_) | ((first | with_reducible refine aE ?_ | with_reducible refine bW ?_); (first | refine zA ?_ | refine zN ?_ | refine zE ?_); (first | refine c0 h1 ?_ | refine c0 h2 ?_)) | ((first | ((with_reducible refine aH ?_); refine xA ?_) | ((with_reducible refine cN ?_); refine xE ?_)); (first | ((with_reducible refine aU ?_); (first | refine aA (lN (a := ⟨xk, xn, xt⟩) (b := ⟨yk, yn, yt⟩) rfl rfl (decide_eq_true e)) ?_ | refine aA (fM rfl rfl hl) ?_)))) | refine stA ?_ | refine stE ?_ | ((first | refine hK _ _ _ _ ?_ | refine hX _ _ _ _ _ (by simp) ?_); clear hK hX K))
    refine aK zio ztr rfl (ResL.one (ResA.tmp rfl)) zou
  · have ne : ¬ (xk = yk ∧ xn = yn ∧ xt = yt) := fun h => e (by rw [h.1, h.2.1, h.2.2])
    by_cases k1 : xk = yk
    · rw [if_neg (fun h => h k1)]
      rcases o1 with ⟨p1, p2, p3⟩ | ⟨p1, p2, p2', p3⟩ | ⟨p1, p2, p3⟩
      · rcases o2 with ⟨q1, q2, q3⟩ | ⟨q1, q2, q2', q3⟩ | ⟨q1, q2, q3⟩
        · exact absurd ⟨k1, by omega, by rw [p3, q3]⟩ ne
        · omega
        · omega
      · have q3 : yt = [] := by rcases o2 with ⟨q1, q2, q3⟩ | ⟨q1, q2, q2', q3⟩ | ⟨q1, q2, q3⟩; omega; exact q3; omega
        have hlf : lb = false := by rw [← hl, p3, q3]; rfl
        have nn : xn ≠ yn := fun h => ne ⟨k1, h, by rw [p3, q3]⟩
        rw [hlf] at hl
        rw [if_pos p1]
        clear ne hlc hc0 hcr o2 hlf
        by_cases n1 : xn < yn
        · rw [if_pos n1]
          refine aJ tabOk (sz := 38) Tryz.func143 rfl (by rw [Tryz.ntmps143]; rfl) ?_
          repeat' (first | ((with_reducible refine aB ?_); intro K hK hX) | ((with_reducible refine aC ?_); refine aD [0, 1, 2, 3, 4] rfl rfl ?_) | ((with_reducible refine aF ?_); refine aG [0, 1, 2, 3, 4] rfl rfl ?_; refine cJ [] ?_) | ((with_reducible refine fV ?_); refine iS rfl rfl rfl ?_) | ((with_reducible refine fV ?_); refine iT (bP rfl rfl zgd) rfl ?_) | ((first | with_reducible refine aE ?_ | with_reducible refine bW ?_); (first | refine zA ?_ | refine zN ?_ | refine zE ?_); (first | refine c0 h1 ?_ | refine c0 h2 ?_)) | ((first | ((with_reducible refine aH ?_); refine xA ?_) | ((with_reducible refine cN ?_); refine xE ?_)); (first | ((with_reducible refine aU ?_); (first | refine aA (lN (a := ⟨xk, xn, xt⟩) (b := ⟨yk, yn, yt⟩) rfl rfl (decide_eq_false e)) ?_ | refine aA (fM rfl rfl hl) ?_)))) | refine stA ?_ | refine stE ?_ | ((first | refine hK _ _ _ _ ?_ | refine hX _ _ _ _ _ (by simp) ?_); clear hK hX K))
          refine aK zio ztr rfl (ResL.one (ResA.tmp rfl)) zou
        · rw [if_neg n1, if_pos (by omega)]
          refine aJ tabOk (sz := 38) Tryz.func143 rfl (by rw [Tryz.ntmps143]; rfl) ?_
          repeat' (first | ((with_reducible refine aB ?_); intro K hK hX) | ((with_reducible refine aC ?_); refine aD [0, 1, 2, 3, 4] rfl rfl ?_) | ((with_reducible refine aF ?_); refine aG [0, 1, 2, 3, 4] rfl rfl ?_; refine cJ [] ?_) | ((with_reducible refine fV ?_); refine iS rfl rfl rfl ?_) | ((with_reducible refine fV ?_); refine iT (bP rfl rfl zgd) rfl ?_) | ((first | with_reducible refine aE ?_ | with_reducible refine bW ?_); (first | refine zA ?_ | refine zN ?_ | refine zE ?_); (first | refine c0 h1 ?_ | refine c0 h2 ?_)) | ((first | ((with_reducible refine aH ?_); refine xA ?_) | ((with_reducible refine cN ?_); refine xE ?_)); (first | ((with_reducible refine aU ?_); (first | refine aA (lN (a := ⟨xk, xn, xt⟩) (b := ⟨yk, yn, yt⟩) rfl rfl (decide_eq_false e)) ?_ | refine aA (fM rfl rfl hl) ?_)))) | refine stA ?_ | refine stE ?_ | ((first | refine hK _ _ _ _ ?_ | refine hX _ _ _ _ _ (by simp) ?_); clear hK hX K))
          refine aK zio ztr rfl (ResL.one (ResA.tmp rfl)) zou
      · have q2 : yn = 0 := by rcases o2 with ⟨q1, q2, q3⟩ | ⟨q1, q2, q2', q3⟩ | ⟨q1, q2, q3⟩; omega; omega; exact q2
        have nt : xt ≠ yt := fun h => ne ⟨k1, by omega, h⟩
        rw [if_neg (by omega), if_pos p1]
        by_cases n1 : Lib.compareBytes xt yt < 0
        · have hz : Lib.compareBytes xt yt = -1 := by omega
          rw [hz]
          have hlt : lb = true := by rw [hlc]; exact decide_eq_true n1
          rw [hlt] at hl
          clear ne hlc hc0 hcr o2 hz n1
          refine aJ tabOk (sz := 38) Tryz.func143 rfl (by rw [Tryz.ntmps143]; rfl) ?_
          repeat' (first | ((with_reducible refine aB ?_); intro K hK hX) | ((with_reducible refine aC ?_); refine aD [0, 1, 2, 3, 4] rfl rfl ?_) | ((with_reducible refine aF ?_); refine aG [0, 1, 2, 3, 4] rfl rfl ?_; refine cJ [] ?_) | ((with_reducible refine fV ?_); refine iS rfl rfl rfl ?_) | ((with_reducible refine fV ?_); refine iT (bP rfl rfl zgd) rfl ?_) | ((first | with_reducible refine aE ?_ | with_reducible refine bW ?_); (first | refine zA ?_ | refine zN ?_ | refine zE ?_); (first | refine c0 h1 ?_ | refine c0 h2 ?_)) | ((first | ((with_reducible refine aH ?_); refine xA ?_) | ((with_reducible refine cN ?_); refine xE ?_)); (first | ((with_reducible refine aU ?_); (first | refine aA (lN (a := ⟨xk, xn, xt⟩) (b := ⟨yk, yn, yt⟩) rfl rfl (decide_eq_false e)) ?_ | refine aA (fM rfl rfl hl) ?_)))) | refine stA ?_ | refine stE ?_ | ((first | refine hK _ _ _ _ ?_ | refine hX _ _ _ _ _ (by simp) ?_); clear hK hX K))
          refine aK zio ztr rfl (ResL.one (ResA.tmp rfl)) zou
        · have hz : Lib.compareBytes xt yt = 1 := by
            have : Lib.compareBytes xt yt ≠ 0 := fun h => nt (hc0.1 h)
            omega
          rw [hz]
          have hlt : lb = false := by rw [hlc]; exact decide_eq_false n1
          rw [hlt] at hl
          clear ne hlc hc0 hcr o2 hz n1
          refine aJ tabOk (sz := 38) Tryz.func143 rfl (by rw [Tryz.ntmps143]; rfl) ?_
          repeat' (first | ((with_reducible refine aB ?_); intro K hK hX) | ((with_reducible refine aC ?_); refine aD [0, 1, 2, 3, 4] rfl rfl ?_) | ((with_reducible refine aF ?_); refine aG [0, 1, 2, 3, 4] rfl rfl ?_; refine cJ [] ?_) | ((with_reducible refine fV ?_); refine iS rfl rfl rfl ?_) | ((with_reducible refine fV ?_); refine iT (bP rfl rfl zgd) rfl ?_) | ((first | with_reducible refine aE ?_ | with_reducible refine bW ?_); (first | refine zA ?_ | refine zN ?_ | refine zE ?_); (first | refine c0 h1 ?_ | refine c0 h2 ?_)) | ((first | ((with_reducible refine aH ?_); refine xA ?_) | ((with_reducible refine cN ?_); refine xE ?_)); (first | ((with_reducible refine aU ?_); (first | refine aA (lN (a := ⟨xk, xn, xt⟩) (b := ⟨yk, yn, yt⟩) rfl rfl (decide_eq_false e)) ?_ | refine aA (fM rfl rfl hl) ?_)))) | refine stA ?_ | refine stE ?_ | ((first | refine hK _ _ _ _ ?_ | refine hX _ _ _ _ _ (by simp) ?_); clear hK hX K))
          refine aK zio ztr rfl (ResL.one (ResA.tmp rfl)) zou
    · rw [if_pos k1]
      clear ne hlc hc0 hcr o1 o2
      by_cases n1 : xk < yk
      · rw [if_pos n1]
        refine aJ tabOk (sz := 38) Tryz.func143 rfl (by rw [Tryz.ntmps143]; rfl) ?_
        repeat' (first | ((with_reducible refine aB ?_); intro K hK hX) | ((with_reducible refine aC ?_); refine aD [0, 1, 2, 3, 4] rfl rfl ?_) | ((with_reducible refine aF ?_); refine aG [0, 1, 2, 3, 4] rfl rfl ?_; refine cJ [] ?_) | ((with_reducible refine fV ?_); refine iS rfl rfl rfl ?_) | ((with_reducible refine fV ?_); refine iT (bP rfl rfl zgd) rfl ?_) | ((first | with_reducible refine aE ?_ | with_reducible refine bW ?_); (first | refine zA ?_ | refine zN ?_ | refine zE ?_); (first | refine c0 h1 ?_ | refine c0 h2 ?_)) | ((first | ((with_reducible refine aH ?_); refine xA ?_) | ((with_reducible refine cN ?_); refine xE ?_)); (first | ((with_reducible refine aU ?_); (first | refine aA (lN (a := ⟨xk, xn, xt⟩) (b := ⟨yk, yn, yt⟩) rfl rfl (decide_eq_false e)) ?_ | refine aA (fM rfl rfl hl) ?_)))) | refine stA ?_ | refine stE ?_ | ((first | refine hK _ _ _ _ ?_ | refine hX _ _ _ _ _ (by simp) ?_); clear hK hX K))
        refine aK zio ztr rfl (ResL.one (ResA.tmp rfl)) zou
      · rw [if_neg n1, if_pos (by omega)]
        refine aJ tabOk (sz := 38) Tryz.func143 rfl (by rw [Tryz.ntmps143]; rfl) ?_
        repeat' (first | ((with_reducible refine aB ?_); intro K hK hX) | ((with_reducible refine aC ?_); refine aD [0, 1, 2, 3, 4] rfl rfl ?_) | ((with_reducible refine aF ?_); refine aG [0, 1, 2, 3, 4] rfl rfl ?_; refine cJ [] ?_) | ((with_reducible refine fV ?_); refine iS rfl rfl rfl ?_) | ((with_reducible refine fV ?_); refine iT (bP rfl rfl zgd) rfl ?_) | ((first | with_reducible refine aE ?_ | with_reducible refine bW ?_); (first | refine zA ?_ | refine zN ?_ | refine zE ?_); (first | refine c0 h1 ?_ | refine c0 h2 ?_)) | ((first | ((with_reducible refine aH ?_); refine xA ?_) | ((with_reducible refine cN ?_); refine xE ?_)); (first | ((with_reducible refine aU ?_); (first | refine aA (lN (a := ⟨xk, xn, xt⟩) (b := ⟨yk, yn, yt⟩) rfl rfl (decide_eq_false e)) ?_ | refine aA (fM rfl rfl hl) ?_)))) | refine stA ?_ | refine stE ?_ | ((first | refine hK _ _ _ _ ?_ | refine hX _ _ _ _ _ (by simp) ?_); clear hK hX K))
        refine aK zio ztr rfl (ResL.one (ResA.tmp rfl)) zou
end Go.Proofs.YtccnhpaldmjkbaaGreat
namespace Go.Proofs.YtccnhpaldmjkbaaGreat
open Go Go.RowKit Go.Av
set_option maxRecDepth 100000
attribute [local irreducible] Still Adds AWL AW Drw DrwE EStep AC AWR Weak Frz Src RetK Out InK ItK AsK RdK RetT OutT ACT
open Classical in
theorem kB (r : List Vl) (n : Nat) (hn : r.length = n) (hm : n ≤ maxLen) : AC Tryz.prog 81 [.sl 3 n (rc r)] (.c (bv (decide (rowP r)))) [] 0 := by
  have hrl : (rc r).length = n * 3 := by rw [dT, hn]
  by_cases b1 : n ≤ 16
  · by_cases b2 : ∀ v ∈ r, okP v
    · rw [decide_eq_true (show rowP r from ⟨by omega, b2⟩)]
      refine aJ tabOk (sz := 19) Tryz.func81 rfl (by rw [Tryz.ntmps81]; rfl) ?_
      repeat' (first | ((with_reducible refine aB ?_); intro K hK hX) | ((with_reducible refine aC ?_); refine aD [0, 2, 3] rfl rfl ?_) | refine stA ?_ | ((first | refine hK _ _ _ _ ?_ | refine hX _ _ _ _ _ (by simp) ?_); clear hK hX K))
      refine bC [3] [] rfl rfl (fun i : Nat => [(3, .c (iv i))]) (fun i => []) (fun i => i ≤ n) (fun i => n - i) 0 (by omega) weakA ?_
      intro i hi K hK hX
      by_cases hlt : i < n
      · obtain ⟨v, hv⟩ : ∃ v, r[i]? = some v := ⟨r[i]'(by omega), List.getElem?_eq_getElem _⟩
        have hat := jH hv
        have hva := nK v
        rw [kV (b2 v (List.mem_of_getElem? hv))] at hva
        obtain ⟨a, m, b⟩ := v
        simp only [Vl.c] at hat hva
        repeat' (first | ((with_reducible refine aB ?_); intro K hK hX) | ((with_reducible refine aC ?_); refine aD [0, 2, 3] rfl rfl ?_) | ((with_reducible refine aE ?_); (first | refine zA ?_ | refine zN ?_); (first | refine c0 hva ?_)) | (((with_reducible refine aH ?_); refine xA ?_); (first | ((with_reducible refine aP ?_); (first | refine aA (aW tabOk rfl rfl rfl rfl (by first | exact hat | exact whole0 (by first | rfl | omega) | rfl) zln) ?_ | refine aA (aV tabOk rfl rfl rfl (by first | exact hat | exact whole0 (by first | rfl | omega) | rfl) zln) ?_)) | ((with_reducible refine bE ?_); (first | refine aA (s_slArri tabOk rfl rfl rfl rfl zbd zbd zle zle (by decide) (by first | exact hat | exact whole0 (by first | rfl | omega) | rfl) zln) ?_)))) | refine stA ?_ | ((first | refine hK _ _ _ _ ?_ | refine hX _ _ _ _ _ (by simp) ?_); clear hK hX K))
        exact ⟨i + 1, by omega, by omega, weakA⟩
      · repeat' (first | ((with_reducible refine aB ?_); intro K hK hX) | ((with_reducible refine aC ?_); refine aD [0, 2, 3] rfl rfl ?_) | refine stA ?_ | ((first | refine hK _ _ _ _ ?_ | refine hX _ _ _ _ _ (by simp) ?_); clear hK hX K))
        refine aK zio ztr rfl (ResL.one (ResA.tmp rfl)) zou
    · rw [decide_eq_false (show ¬ rowP r from fun h => b2 h.2)]
      have hex : ∃ j, j < n ∧ (∀ v, r[j]? = some v → ¬ okP v) ∧ ∀ i, i < j → ∀ v, r[i]? = some v → okP v := by
        obtain ⟨v, hv, hnv⟩ : ∃ v ∈ r, ¬ okP v := Classical.byContradiction fun h => b2 fun v hv => Classical.byContradiction fun h2 => h ⟨v, hv, h2⟩
        obtain ⟨j0, hj0⟩ := List.mem_iff_getElem?.1 hv
        obtain ⟨j, h1, h2⟩ := dX (fun j => ∀ v, r[j]? = some v → ¬ okP v) ⟨j0, fun u hu => by rw [hj0] at hu; injection hu with hu; subst hu; exact hnv⟩
        refine ⟨j, ?_, h1, fun i hi v hv => Classical.byContradiction fun hnv => ?_⟩
        · have := h2 j0 (fun u hu => by rw [hj0] at hu; injection hu with hu; subst hu; exact hnv)
          have := (List.getElem?_eq_some_iff.1 hj0).1
          omega
        · have := h2 i (fun u hu => by rw [hv] at hu; injection hu with hu; subst hu; exact hnv)
          omega
      obtain ⟨q, hq, hq1, hq2⟩ := hex
      refine aJ tabOk (sz := 19) Tryz.func81 rfl (by rw [Tryz.ntmps81]; rfl) ?_
      repeat' (first | ((with_reducible refine aB ?_); intro K hK hX) | ((with_reducible refine aC ?_); refine aD [0, 2, 3] rfl rfl ?_) | refine stA ?_ | ((first | refine hK _ _ _ _ ?_ | refine hX _ _ _ _ _ (by simp) ?_); clear hK hX K))
      refine bC [3] [] rfl rfl (fun i : Nat => [(3, .c (iv i))]) (fun i => []) (fun i => i ≤ q) (fun i => q - i) 0 (by omega) weakA ?_
      intro i hi K hK hX
      obtain ⟨v, hv⟩ : ∃ v, r[i]? = some v := ⟨r[i]'(by omega), List.getElem?_eq_getElem _⟩
      have hat := jH hv
      have hva := nK v
      have hin : i < n := by omega
      by_cases hlt : i < q
      · rw [kV (hq2 i hlt v hv)] at hva
        obtain ⟨a, m, b⟩ := v
        simp only [Vl.c] at hat hva
        repeat' (first | ((with_reducible refine aB ?_); intro K hK hX) | ((with_reducible refine aC ?_); refine aD [0, 2, 3] rfl rfl ?_) | ((with_reducible refine aE ?_); (first | refine zA ?_ | refine zN ?_); (first | refine c0 hva ?_)) | (((with_reducible refine aH ?_); refine xA ?_); (first | ((with_reducible refine aP ?_); (first | refine aA (aW tabOk rfl rfl rfl rfl (by first | exact hat | exact whole0 (by first | rfl | omega) | rfl) zln) ?_ | refine aA (aV tabOk rfl rfl rfl (by first | exact hat | exact whole0 (by first | rfl | omega) | rfl) zln) ?_)) | ((with_reducible refine bE ?_); (first | refine aA (s_slArri tabOk rfl rfl rfl rfl zbd zbd zle zle (by decide) (by first | exact hat | exact whole0 (by first | rfl | omega) | rfl) zln) ?_)))) | refine stA ?_ | ((first | refine hK _ _ _ _ ?_ | refine hX _ _ _ _ _ (by simp) ?_); clear hK hX K))
        exact ⟨i + 1, by omega, by omega, weakA⟩
      · have hiq : i = q := by omega
        rw [fH (hq1 v (by rw [← hiq]; exact hv))] at hva
        obtain ⟨a, m, b⟩ := v
        simp only [Vl.c] at hat hva
        repeat' (first | ((with_reducible refine aB ?_); intro K hK hX) | ((with_reducible refine aC ?_); refine aD [0, 2, 3] rfl rfl ?_) | ((with_reducible refine aE ?_); (first | refine zA ?_ | refine zN ?_); (first | refine c0 hva ?_)) | (((with_reducible refine aH ?_); refine xA ?_); (first | ((with_reducible refine aP ?_); (first | refine aA (aW tabOk rfl rfl rfl rfl (by first | exact hat | exact whole0 (by first | rfl | omega) | rfl) zln) ?_ | refine aA (aV tabOk rfl rfl rfl (by first | exact hat | exact whole0 (by first | rfl | omega) | rfl) zln) ?_)) | ((with_reducible refine bE ?_); (first | refine aA (s_slArri tabOk rfl rfl rfl rfl zbd zbd zle zle (by decide) (by first | exact hat | exact whole0 (by first | rfl | omega) | rfl) zln) ?_)))) | refine stA ?_ | ((first | refine hK _ _ _ _ ?_ | refine hX _ _ _ _ _ (by simp) ?_); clear hK hX K))
        refine aK zio ztr rfl (ResL.one (ResA.tmp rfl)) zou
  · rw [decide_eq_false (show ¬ rowP r from fun h => b1 (by have := h.1; omega))]
    refine aJ tabOk (sz := 19) Tryz.func81 rfl (by rw [Tryz.ntmps81]; rfl) ?_
    repeat' (first | ((with_reducible refine aB ?_); intro K hK hX) | ((with_reducible refine aC ?_); refine aD [0, 2, 3] rfl rfl ?_) | refine stA ?_ | ((first | refine hK _ _ _ _ ?_ | refine hX _ _ _ _ _ (by simp) ?_); clear hK hX K))
    refine aK zio ztr rfl (ResL.one (ResA.tmp rfl)) zou
theorem iN (n : Int) : AC Tryz.prog 102 [iv n] (.c (bv (decide (-262144 ≤ n ∧ n ≤ 262144)))) [] 0 := by
  by_cases h1 : -262144 ≤ n
  · by_cases h2 : n ≤ 262144
    · rw [decide_eq_true ⟨h1, h2⟩]
      refine aJ tabOk (sz := 9) Tryz.func102 rfl (by rw [Tryz.ntmps102]; rfl) ?_
      repeat' (first | ((with_reducible refine aB ?_); intro K hK hX) | ((with_reducible refine aC ?_); refine aD [0, 2] rfl rfl ?_) | refine stA ?_ | ((first | refine hK _ _ _ _ ?_ | refine hX _ _ _ _ _ (by simp) ?_); clear hK hX K))
      refine aK zio ztr rfl (ResL.one (ResA.tmp rfl)) zou
    · rw [decide_eq_false (by omega)]
      refine aJ tabOk (sz := 9) Tryz.func102 rfl (by rw [Tryz.ntmps102]; rfl) ?_
      repeat' (first | ((with_reducible refine aB ?_); intro K hK hX) | ((with_reducible refine aC ?_); refine aD [0, 2] rfl rfl ?_) | refine stA ?_ | ((first | refine hK _ _ _ _ ?_ | refine hX _ _ _ _ _ (by simp) ?_); clear hK hX K))
      refine aK zio ztr rfl (ResL.one (ResA.tmp rfl)) zou
  · rw [decide_eq_false (by omega)]
    refine aJ tabOk (sz := 9) Tryz.func102 rfl (by rw [Tryz.ntmps102]; rfl) ?_
    repeat' (first | ((with_reducible refine aB ?_); intro K hK hX) | ((with_reducible refine aC ?_); refine aD [0, 2] rfl rfl ?_) | refine stA ?_ | ((first | refine hK _ _ _ _ ?_ | refine hX _ _ _ _ _ (by simp) ?_); clear hK hX K))
    refine aK zio ztr rfl (ResL.one (ResA.tmp rfl)) zou
theorem fY (r s : List Vl) (n m : Nat) (hn : r.length = n) (hm : s.length = m) (hn2 : n ≤ maxLen) (hm2 : m ≤ maxLen) : AC Tryz.prog 90 [.sl 3 n (rc r), .sl 3 m (rc s)] (.c (iv (cmpR r s))) [] 0 := by
  have hrl : (rc r).length = n * 3 := by rw [dT, hn]
  have hsl : (rc s).length = m * 3 := by rw [dT, hm]
  have hml : n ≤ 9223372036854775807 := hn2
  have hml2 : m ≤ 9223372036854775807 := hm2
  clear hn2 hm2
  obtain ⟨k, hk⟩ : ∃ k, min n m = k := ⟨_, rfl⟩
  have hend := vC hn hm hk.symm
  generalize hz : cmpR r s = z
  refine aJ tabOk (sz := 43) Tryz.func90 rfl (by rw [Tryz.ntmps90]; rfl) ?_
  repeat' (first | ((with_reducible refine aB ?_); intro K hK hX) | ((with_reducible refine aC ?_); refine aD [0, 1, 4, 5, 6] rfl rfl ?_) | ((with_reducible refine aF ?_); refine aG [0, 1, 4, 5, 6] rfl rfl ?_; refine aI [] ?_) | refine stA ?_ | refine stD ?_ | ((first | refine hK _ _ _ _ ?_ | refine hX _ _ _ _ _ (by simp) ?_); clear hK hX K))
  refine bC [5, 6] [] rfl rfl (fun i : Nat => [(5, .c (iv i))]) (fun i => []) (fun i => i ≤ k ∧ cmpR (r.drop i) (s.drop i) = z) (fun i => k - i) 0 ⟨by omega, hz⟩ weakA ?_
  rintro i ⟨hi, hzi⟩ K hK hX
  by_cases hlt : i < k
  · have in1 : i < n := by omega
    have im1 : i < m := by omega
    obtain ⟨a, ha⟩ : ∃ a, r[i]? = some a := ⟨r[i]'(by omega), List.getElem?_eq_getElem _⟩
    obtain ⟨b, hb⟩ : ∃ b, s[i]? = some b := ⟨s[i]'(by omega), List.getElem?_eq_getElem _⟩
    have hat := jH ha
    have hbt := jH hb
    have hv := rvcmp_ok a b
    rw [rN ha hb] at hzi
    obtain ⟨ak, an, at'⟩ := a
    obtain ⟨bk, bn, bt⟩ := b
    simp only [Vl.c] at hat hbt hv
    generalize cmpV (clV ⟨ak, an, at'⟩) (clV ⟨bk, bn, bt⟩) = c at hv hzi
    by_cases z0 : c = 0
    · rw [if_neg (fun h => h z0)] at hzi
      clear hend hz hk
      repeat' (first | ((with_reducible refine aB ?_); intro K hK hX) | ((with_reducible refine aC ?_); refine aD [0, 1, 4, 5, 6] rfl rfl ?_) | ((with_reducible refine aF ?_); refine aG [0, 1, 4, 5, 6] rfl rfl ?_; refine aI [] ?_) | ((first | with_reducible refine aE ?_ | with_reducible refine aT ?_); (first | refine zA ?_ | refine zN ?_ | refine zD ?_); (first | refine c0 hv ?_)) | ((first | ((with_reducible refine aH ?_); refine xA ?_) | ((with_reducible refine aO ?_); refine xD ?_)); (first | ((with_reducible refine aP ?_); (first | refine aA (aW tabOk rfl rfl rfl rfl (by first | first | exact hat | exact hbt | exact whole0 (by first | rfl | omega) | rfl) zln) ?_ | refine aA (aV tabOk rfl rfl rfl (by first | first | exact hat | exact hbt | exact whole0 (by first | rfl | omega) | rfl) zln) ?_)) | ((with_reducible refine bE ?_); (first | refine aA (s_slArri tabOk rfl rfl rfl rfl zbd zbd zle zle (by decide) (by first | first | exact hat | exact hbt | exact whole0 (by first | rfl | omega) | rfl) zln) ?_)))) | refine stA ?_ | refine stD ?_ | ((first | refine hK _ _ _ _ ?_ | refine hX _ _ _ _ _ (by simp) ?_); clear hK hX K))
      exact ⟨i + 1, ⟨by omega, hzi⟩, by omega, weakA⟩
    · rw [if_pos z0] at hzi
      rw [hzi] at hv z0
      clear hend hz hk
      repeat' (first | ((with_reducible refine aB ?_); intro K hK hX) | ((with_reducible refine aC ?_); refine aD [0, 1, 4, 5, 6] rfl rfl ?_) | ((with_reducible refine aF ?_); refine aG [0, 1, 4, 5, 6] rfl rfl ?_; refine aI [] ?_) | ((first | with_reducible refine aE ?_ | with_reducible refine aT ?_); (first | refine zA ?_ | refine zN ?_ | refine zD ?_); (first | refine c0 hv ?_)) | ((first | ((with_reducible refine aH ?_); refine xA ?_) | ((with_reducible refine aO ?_); refine xD ?_)); (first | ((with_reducible refine aP ?_); (first | refine aA (aW tabOk rfl rfl rfl rfl (by first | first | exact hat | exact hbt | exact whole0 (by first | rfl | omega) | rfl) zln) ?_ | refine aA (aV tabOk rfl rfl rfl (by first | first | exact hat | exact hbt | exact whole0 (by first | rfl | omega) | rfl) zln) ?_)) | ((with_reducible refine bE ?_); (first | refine aA (s_slArri tabOk rfl rfl rfl rfl zbd zbd zle zle (by decide) (by first | first | exact hat | exact hbt | exact whole0 (by first | rfl | omega) | rfl) zln) ?_)))) | refine stA ?_ | refine stD ?_ | ((first | refine hK _ _ _ _ ?_ | refine hX _ _ _ _ _ (by simp) ?_); clear hK hX K))
      refine aK zio ztr rfl (ResL.one (ResA.tmp rfl)) zou
  · have hik : i = k := by omega
    rw [hik, hend] at hzi
    unfold cmpZ at hzi
    clear hend hz
    by_cases e1 : n < m
    · rw [if_pos (by omega)] at hzi
      have hin : ¬ i < n := by omega
      repeat' (first | ((with_reducible refine aB ?_); intro K hK hX) | ((with_reducible refine aC ?_); refine aD [0, 1, 4, 5, 6] rfl rfl ?_) | ((with_reducible refine aF ?_); refine aG [0, 1, 4, 5, 6] rfl rfl ?_; refine aI [] ?_) | refine stA ?_ | refine stD ?_ | ((first | refine hK _ _ _ _ ?_ | refine hX _ _ _ _ _ (by simp) ?_); clear hK hX K))
      refine aK zio ztr rfl (ResL.one (ResA.tmp rfl)) zou
    · by_cases e2 : m < n
      · rw [if_neg (by omega), if_pos (by omega)] at hzi
        have hin : i < n := by omega
        have him : ¬ i < m := by omega
        repeat' (first | ((with_reducible refine aB ?_); intro K hK hX) | ((with_reducible refine aC ?_); refine aD [0, 1, 4, 5, 6] rfl rfl ?_) | ((with_reducible refine aF ?_); refine aG [0, 1, 4, 5, 6] rfl rfl ?_; refine aI [] ?_) | refine stA ?_ | refine stD ?_ | ((first | refine hK _ _ _ _ ?_ | refine hX _ _ _ _ _ (by simp) ?_); clear hK hX K))
        refine aK zio ztr rfl (ResL.one (ResA.tmp rfl)) zou
      · rw [if_neg (by omega), if_neg (by omega)] at hzi
        have hin : ¬ i < n := by omega
        repeat' (first | ((with_reducible refine aB ?_); intro K hK hX) | ((with_reducible refine aC ?_); refine aD [0, 1, 4, 5, 6] rfl rfl ?_) | ((with_reducible refine aF ?_); refine aG [0, 1, 4, 5, 6] rfl rfl ?_; refine aI [] ?_) | refine stA ?_ | refine stD ?_ | ((first | refine hK _ _ _ _ ?_ | refine hX _ _ _ _ _ (by simp) ?_); clear hK hX K))
        refine aK zio ztr rfl (ResL.one (ResA.tmp rfl)) zou
end Go.Proofs.YtccnhpaldmjkbaaGreat
