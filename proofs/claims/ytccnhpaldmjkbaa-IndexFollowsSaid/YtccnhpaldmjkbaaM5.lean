/-
  Joined texts: H2 H3 H4 H5 H6. Lemmas; no statement of a law.
-/
import Derived.Lib.Bytealg
import Derived.Laws.Externs
import Derived.Test.YtccnhpaldmjkbaaM4
set_option linter.unusedSimpArgs false
set_option linter.unusedVariables false
namespace Go.Proofs.Ytccnhpaldmjkbaa
open Go Go.RowKit Go.Av
set_option maxRecDepth 100000
section
variable {P : Program} {tab : Tab} {ev : Evl} {h : Heap} {d : Option Tmp} {T T' ty : TypeId} {x y : Operand} {pos : String} {aft : Array Edge} {gd : Option (Nat × Bool)}
end
def encN (r : List Vl) (i : Nat) : Nat := (encR (r.take i)).length
def escs (t : List UInt8) (j : Nat) : List UInt8 := (t.take j).flatMap esc
def escN (t : List UInt8) (j : Nat) : Nat := (escs t j).length
theorem u8c_get {l : List UInt8} {j : Nat} {c : UInt8} (h : l[j]? = some c) : (u8c l)[j]? = some (.v (.int .u8 (c.toNat : Int))) := by simp [u8c, h]
attribute [local irreducible] Still Adds AWL AW Drw DrwE EStep AC AWR Weak Frz Src RetK Out InK ItK AsK RdK
attribute [local simp] u8c_take u8c_drop u8c_app u8c_length
end Go.Proofs.Ytccnhpaldmjkbaa
namespace Go.Proofs.Ytccnhpaldmjkbaa
open Go Go.RowKit Go.Av
set_option maxRecDepth 100000
attribute [local irreducible] Still Adds AWL AW Drw DrwE EStep AC AWR Weak Frz Src RetK Out InK ItK AsK RdK
attribute [local simp] u8c_take u8c_drop u8c_app u8c_length
end Go.Proofs.Ytccnhpaldmjkbaa
namespace Go.Proofs.Ytccnhpaldmjkbaa
open Go Go.RowKit Go.Av
set_option maxRecDepth 100000
section
variable {P : Program} {tab : Tab} {ev : Evl} {h : Heap} {d : Option Tmp} {T T' ty : TypeId} {x y : Operand} {pos : String} {aft : Array Edge} {gd : Option (Nat × Bool)}
end
attribute [local irreducible] Still Adds AWL AW Drw DrwE EStep AC AWR Weak Frz Src RetK Out InK ItK AsK RdK
attribute [local simp] u8c_take u8c_drop u8c_app u8c_length
end Go.Proofs.Ytccnhpaldmjkbaa
namespace Go.Proofs.Ytccnhpaldmjkbaa
open Go Go.RowKit Go.Av
set_option maxRecDepth 100000
structure Sk where
  nm : List UInt8
  sr : List UInt8
  col : Int
  kd : Int
  w : Int
  d : Int
def Sk.c (s : Sk) : List CV := [sv s.nm, sv s.sr, iv s.col, iv s.kd, iv s.w, iv s.d]
def formP (s : Sk) : Prop := 1 ≤ s.w ∧ s.w ≤ 1024 ∧ 1 ≤ s.d ∧ s.d ≤ 8 ∧ s.w * s.d ≤ 1024 ∧ (s.kd = 0 ∨ s.kd = 1 ∨ (s.kd = 2 ∧ s.d = 1))
instance (s : Sk) : Decidable (formP s) := by unfold formP; infer_instance
def formB (s : Sk) : Bool := decide (formP s)
/-- Rows and entries. -/
def rowP (r : List Vl) : Prop := r.length ≤ 16 ∧ ∀ v ∈ r, okP v
structure En where
  r : List Vl
  n : Int
def En.c (e : En) : List CV := [.sl 3 e.r.length (rc e.r), iv e.n]
def entP (e : En) : Prop := -262144 ≤ e.n ∧ e.n ≤ 262144 ∧ rowP e.r
def ec (b : List En) : List CV := b.flatMap En.c
theorem ec_length (b : List En) : (ec b).length = b.length * 2 := by
  induction b with
  | nil => rfl
  | cons v r ih =>
    have : v.c.length = 2 := rfl
    simp only [ec, List.flatMap_cons, List.length_append, List.length_cons] at ih ⊢; omega
theorem ec_at : ∀ {b : List En} {i : Nat} {e : En}, b[i]? = some e → ((ec b).drop (i * 2)).take 2 = e.c
  | [], i, v, h => by simp at h
  | w :: r, 0, v, h => by
    simp at h
    subst h
    rfl
  | w :: r, i + 1, v, h => by
    have := ec_at (b := r) (i := i) (by simpa using h)
    rw [← this]
    have hl : w.c.length = 2 := rfl
    simp only [ec, List.flatMap_cons]
    rw [show (i + 1) * 2 = w.c.length + i * 2 by rw [hl]; omega, List.drop_append, List.drop_eq_nil_of_le (by omega), List.nil_append, Nat.add_sub_cancel_left]
attribute [local irreducible] Still Adds AWL AW Drw DrwE EStep AC AWR Weak Frz Src RetK Out InK ItK AsK RdK
theorem range_ok (n : Int) : AC Try.prog 154 [iv n] (.c (bv (decide (-262144 ≤ n ∧ n ≤ 262144)))) [] 0 := by
  by_cases h1 : -262144 ≤ n
  · by_cases h2 : n ≤ 262144
    · rw [decide_eq_true ⟨h1, h2⟩]
      refine ac_enter tabOk (sz := 9) Try.func154 rfl (by rw [Try.ntmps154]; rfl) ?_
      repeat' (first | ((with_reducible refine aw_seqk ?_); intro K hK hX) | ((with_reducible refine isC_reg ?_); refine aw_prune [0, 2] rfl rfl ?_; with_reducible refine aw_region ?_) | refine stA ?_ | (refine hK _ _ _ _ ?_; clear hK hX K) | (refine hX _ _ _ _ _ (by simp) ?_; clear hK hX K))
      refine retK_mk zio ztr rfl (ResL.one (ResA.tmp rfl)) zou
    · rw [decide_eq_false (by omega)]
      refine ac_enter tabOk (sz := 9) Try.func154 rfl (by rw [Try.ntmps154]; rfl) ?_
      repeat' (first | ((with_reducible refine aw_seqk ?_); intro K hK hX) | ((with_reducible refine isC_reg ?_); refine aw_prune [0, 2] rfl rfl ?_; with_reducible refine aw_region ?_) | refine stA ?_ | (refine hK _ _ _ _ ?_; clear hK hX K) | (refine hX _ _ _ _ _ (by simp) ?_; clear hK hX K))
      refine retK_mk zio ztr rfl (ResL.one (ResA.tmp rfl)) zou
  · rw [decide_eq_false (by omega)]
    refine ac_enter tabOk (sz := 9) Try.func154 rfl (by rw [Try.ntmps154]; rfl) ?_
    repeat' (first | ((with_reducible refine aw_seqk ?_); intro K hK hX) | ((with_reducible refine isC_reg ?_); refine aw_prune [0, 2] rfl rfl ?_; with_reducible refine aw_region ?_) | refine stA ?_ | (refine hK _ _ _ _ ?_; clear hK hX K) | (refine hX _ _ _ _ _ (by simp) ?_; clear hK hX K))
    refine retK_mk zio ztr rfl (ResL.one (ResA.tmp rfl)) zou
open Classical in
set_option maxHeartbeats 4000000 in
theorem vrow_ok (r : List Vl) (n : Nat) (hn : r.length = n) (hm : n ≤ maxLen) : AC Try.prog 76 [.sl 3 n (rc r)] (.c (bv (decide (rowP r)))) [] 0 := by
  have hrl : (rc r).length = n * 3 := by rw [rc_length, hn]
  by_cases b1 : n ≤ 16
  · by_cases b2 : ∀ v ∈ r, okP v
    · rw [decide_eq_true (show rowP r from ⟨by omega, b2⟩)]
      refine ac_enter tabOk (sz := 18) Try.func76 rfl (by rw [Try.ntmps76]; rfl) ?_
      repeat' (first | ((with_reducible refine aw_seqk ?_); intro K hK hX) | ((with_reducible refine isC_reg ?_); refine aw_prune [0, 2, 4, 8, 9, 10] rfl rfl ?_; with_reducible refine aw_region ?_) | refine stA ?_ | (refine hK _ _ _ _ ?_; clear hK hX K) | (refine hX _ _ _ _ _ (by simp) ?_; clear hK hX K))
      refine aw_loopo [4, 8, 9, 10] [] rfl rfl (fun i : Nat => [(8, .c (.sl 3 n (rc r))), (9, .c (iv n)), (10, .c (iv i))]) (fun i => []) (fun i => i ≤ n) (fun i => n - i) 0 (by omega) weakA ?_
      intro i hi K hK hX
      by_cases hlt : i < n
      · obtain ⟨v, hv⟩ : ∃ v, r[i]? = some v := ⟨r[i]'(by omega), List.getElem?_eq_getElem _⟩
        have hat := rc_at hv
        have hva := valid_ok v
        rw [okV_t (b2 v (List.mem_of_getElem? hv))] at hva
        obtain ⟨a, m, b⟩ := v
        simp only [Vl.c] at hat hva
        repeat' (first | ((with_reducible refine aw_seqk ?_); intro K hK hX) | ((with_reducible refine isC_reg ?_); refine aw_prune [0, 2, 4, 8, 9, 10] rfl rfl ?_; with_reducible refine aw_region ?_) | ((with_reducible refine isA_call ?_); (first | refine zA ?_ | refine zN ?_); (first | refine c0 (hva) ?_)) | (((with_reducible refine isA_any ?_); refine xA ?_); (first | ((with_reducible refine e_load ?_); (first | refine ex_i (s_loadAr tabOk rfl rfl rfl rfl (by first | exact hat | exact whole0 (by first | rfl | omega) | rfl) zln) ?_ | refine ex_i (s_loadAi tabOk rfl rfl rfl (by first | exact hat | exact whole0 (by first | rfl | omega) | rfl) zln) ?_)) | ((with_reducible refine e_slice ?_); (first | refine ex_i (s_slArri tabOk rfl rfl rfl rfl zbd zbd zle zle (by decide) (by first | exact hat | exact whole0 (by first | rfl | omega) | rfl) zln) ?_)))) | refine stA ?_ | (refine hK _ _ _ _ ?_; clear hK hX K) | (refine hX _ _ _ _ _ (by simp) ?_; clear hK hX K))
        exact ⟨i + 1, by omega, by omega, weakA⟩
      · repeat' (first | ((with_reducible refine aw_seqk ?_); intro K hK hX) | ((with_reducible refine isC_reg ?_); refine aw_prune [0, 2, 4, 8, 9, 10] rfl rfl ?_; with_reducible refine aw_region ?_) | refine stA ?_ | (refine hK _ _ _ _ ?_; clear hK hX K) | (refine hX _ _ _ _ _ (by simp) ?_; clear hK hX K))
        refine retK_mk zio ztr rfl (ResL.one (ResA.tmp rfl)) zou
    · rw [decide_eq_false (show ¬ rowP r from fun h => b2 h.2)]
      have hex : ∃ j, j < n ∧ (∀ v, r[j]? = some v → ¬ okP v) ∧ ∀ i, i < j → ∀ v, r[i]? = some v → okP v := by
        obtain ⟨v, hv, hnv⟩ : ∃ v ∈ r, ¬ okP v := Classical.byContradiction fun h => b2 fun v hv => Classical.byContradiction fun h2 => h ⟨v, hv, h2⟩
        obtain ⟨j0, hj0⟩ := List.mem_iff_getElem?.1 hv
        obtain ⟨j, h1, h2⟩ := exists_min (fun j => ∀ v, r[j]? = some v → ¬ okP v) ⟨j0, fun u hu => by rw [hj0] at hu; injection hu with hu; subst hu; exact hnv⟩
        refine ⟨j, ?_, h1, fun i hi v hv => Classical.byContradiction fun hnv => ?_⟩
        · have := h2 j0 (fun u hu => by rw [hj0] at hu; injection hu with hu; subst hu; exact hnv)
          have := (List.getElem?_eq_some_iff.1 hj0).1
          omega
        · have := h2 i (fun u hu => by rw [hv] at hu; injection hu with hu; subst hu; exact hnv)
          omega
      obtain ⟨q, hq, hq1, hq2⟩ := hex
      refine ac_enter tabOk (sz := 18) Try.func76 rfl (by rw [Try.ntmps76]; rfl) ?_
      repeat' (first | ((with_reducible refine aw_seqk ?_); intro K hK hX) | ((with_reducible refine isC_reg ?_); refine aw_prune [0, 2, 4, 8, 9, 10] rfl rfl ?_; with_reducible refine aw_region ?_) | refine stA ?_ | (refine hK _ _ _ _ ?_; clear hK hX K) | (refine hX _ _ _ _ _ (by simp) ?_; clear hK hX K))
      refine aw_loopo [4, 8, 9, 10] [] rfl rfl (fun i : Nat => [(8, .c (.sl 3 n (rc r))), (9, .c (iv n)), (10, .c (iv i))]) (fun i => []) (fun i => i ≤ q) (fun i => q - i) 0 (by omega) weakA ?_
      intro i hi K hK hX
      obtain ⟨v, hv⟩ : ∃ v, r[i]? = some v := ⟨r[i]'(by omega), List.getElem?_eq_getElem _⟩
      have hat := rc_at hv
      have hva := valid_ok v
      have hin : i < n := by omega
      by_cases hlt : i < q
      · rw [okV_t (hq2 i hlt v hv)] at hva
        obtain ⟨a, m, b⟩ := v
        simp only [Vl.c] at hat hva
        repeat' (first | ((with_reducible refine aw_seqk ?_); intro K hK hX) | ((with_reducible refine isC_reg ?_); refine aw_prune [0, 2, 4, 8, 9, 10] rfl rfl ?_; with_reducible refine aw_region ?_) | ((with_reducible refine isA_call ?_); (first | refine zA ?_ | refine zN ?_); (first | refine c0 (hva) ?_)) | (((with_reducible refine isA_any ?_); refine xA ?_); (first | ((with_reducible refine e_load ?_); (first | refine ex_i (s_loadAr tabOk rfl rfl rfl rfl (by first | exact hat | exact whole0 (by first | rfl | omega) | rfl) zln) ?_ | refine ex_i (s_loadAi tabOk rfl rfl rfl (by first | exact hat | exact whole0 (by first | rfl | omega) | rfl) zln) ?_)) | ((with_reducible refine e_slice ?_); (first | refine ex_i (s_slArri tabOk rfl rfl rfl rfl zbd zbd zle zle (by decide) (by first | exact hat | exact whole0 (by first | rfl | omega) | rfl) zln) ?_)))) | refine stA ?_ | (refine hK _ _ _ _ ?_; clear hK hX K) | (refine hX _ _ _ _ _ (by simp) ?_; clear hK hX K))
        exact ⟨i + 1, by omega, by omega, weakA⟩
      · have hiq : i = q := by omega
        rw [okV_f (hq1 v (by rw [← hiq]; exact hv))] at hva
        obtain ⟨a, m, b⟩ := v
        simp only [Vl.c] at hat hva
        repeat' (first | ((with_reducible refine aw_seqk ?_); intro K hK hX) | ((with_reducible refine isC_reg ?_); refine aw_prune [0, 2, 4, 8, 9, 10] rfl rfl ?_; with_reducible refine aw_region ?_) | ((with_reducible refine isA_call ?_); (first | refine zA ?_ | refine zN ?_); (first | refine c0 (hva) ?_)) | (((with_reducible refine isA_any ?_); refine xA ?_); (first | ((with_reducible refine e_load ?_); (first | refine ex_i (s_loadAr tabOk rfl rfl rfl rfl (by first | exact hat | exact whole0 (by first | rfl | omega) | rfl) zln) ?_ | refine ex_i (s_loadAi tabOk rfl rfl rfl (by first | exact hat | exact whole0 (by first | rfl | omega) | rfl) zln) ?_)) | ((with_reducible refine e_slice ?_); (first | refine ex_i (s_slArri tabOk rfl rfl rfl rfl zbd zbd zle zle (by decide) (by first | exact hat | exact whole0 (by first | rfl | omega) | rfl) zln) ?_)))) | refine stA ?_ | (refine hK _ _ _ _ ?_; clear hK hX K) | (refine hX _ _ _ _ _ (by simp) ?_; clear hK hX K))
        refine retK_mk zio ztr rfl (ResL.one (ResA.tmp rfl)) zou
  · rw [decide_eq_false (show ¬ rowP r from fun h => b1 (by have := h.1; omega))]
    refine ac_enter tabOk (sz := 18) Try.func76 rfl (by rw [Try.ntmps76]; rfl) ?_
    repeat' (first | ((with_reducible refine aw_seqk ?_); intro K hK hX) | ((with_reducible refine isC_reg ?_); refine aw_prune [0, 2, 4, 8, 9, 10] rfl rfl ?_; with_reducible refine aw_region ?_) | refine stA ?_ | (refine hK _ _ _ _ ?_; clear hK hX K) | (refine hX _ _ _ _ _ (by simp) ?_; clear hK hX K))
    refine retK_mk zio ztr rfl (ResL.one (ResA.tmp rfl)) zou
open Classical in
set_option maxHeartbeats 4000000 in
theorem vent_ok (e : En) (hm : e.r.length ≤ maxLen) : AC Try.prog 120 [.agg e.c] (.c (bv (decide (entP e)))) [] 0 := by
  have h1 := range_ok e.n
  have h2 := vrow_ok e.r e.r.length rfl hm
  obtain ⟨r, c⟩ := e
  simp only [En.c] at *
  generalize hn : r.length = n at h2 hm ⊢
  by_cases b1 : -262144 ≤ c ∧ c ≤ 262144
  · rw [decide_eq_true b1] at h1
    by_cases b2 : rowP r
    · rw [decide_eq_true b2] at h2
      rw [decide_eq_true (show entP ⟨r, c⟩ from ⟨b1.1, b1.2, b2⟩)]
      refine ac_enter tabOk (sz := 11) Try.func120 rfl (by rw [Try.ntmps120]; rfl) ?_
      repeat' (first | ((with_reducible refine aw_seqk ?_); intro K hK hX) | ((with_reducible refine isC_reg ?_); refine aw_prune [0, 1, 2] rfl rfl ?_; with_reducible refine aw_region ?_) | ((with_reducible refine isA_call ?_); (first | refine zA ?_ | refine zN ?_); (first | refine c0 (h1) ?_ | refine c0 (h2) ?_)) | refine stA ?_ | (refine hK _ _ _ _ ?_; clear hK hX K) | (refine hX _ _ _ _ _ (by simp) ?_; clear hK hX K))
      refine retK_mk zio ztr rfl (ResL.one (ResA.tmp rfl)) zou
    · rw [decide_eq_false b2] at h2
      rw [decide_eq_false (show ¬ entP ⟨r, c⟩ from fun h => b2 h.2.2)]
      refine ac_enter tabOk (sz := 11) Try.func120 rfl (by rw [Try.ntmps120]; rfl) ?_
      repeat' (first | ((with_reducible refine aw_seqk ?_); intro K hK hX) | ((with_reducible refine isC_reg ?_); refine aw_prune [0, 1, 2] rfl rfl ?_; with_reducible refine aw_region ?_) | ((with_reducible refine isA_call ?_); (first | refine zA ?_ | refine zN ?_); (first | refine c0 (h1) ?_ | refine c0 (h2) ?_)) | refine stA ?_ | (refine hK _ _ _ _ ?_; clear hK hX K) | (refine hX _ _ _ _ _ (by simp) ?_; clear hK hX K))
      refine retK_mk zio ztr rfl (ResL.one (ResA.tmp rfl)) zou
  · rw [decide_eq_false b1] at h1
    rw [decide_eq_false (show ¬ entP ⟨r, c⟩ from fun h => b1 ⟨h.1, h.2.1⟩)]
    refine ac_enter tabOk (sz := 11) Try.func120 rfl (by rw [Try.ntmps120]; rfl) ?_
    repeat' (first | ((with_reducible refine aw_seqk ?_); intro K hK hX) | ((with_reducible refine isC_reg ?_); refine aw_prune [0, 1, 2] rfl rfl ?_; with_reducible refine aw_region ?_) | ((with_reducible refine isA_call ?_); (first | refine zA ?_ | refine zN ?_); (first | refine c0 (h1) ?_ | refine c0 (h2) ?_)) | refine stA ?_ | (refine hK _ _ _ _ ?_; clear hK hX K) | (refine hX _ _ _ _ _ (by simp) ?_; clear hK hX K))
    refine retK_mk zio ztr rfl (ResL.one (ResA.tmp rfl)) zou
end Go.Proofs.Ytccnhpaldmjkbaa
namespace Go.Proofs.Ytccnhpaldmjkbaa
open Go Go.RowKit Go.Av
set_option maxRecDepth 100000
theorem run_cmp (args : Array Value) (w : World) : (callFunc 176 args).run Try.prog w = ((Extern.BytealgCompare.compare args).run Try.prog w).andThen fun v w' => .ok (.value v) w' :=
  run_callFunc_extern Try.func176 (by kernel_rfl) (by kernel_rfl) (by kernel_rfl) (by kernel_rfl) args w
section
variable {tab : Tab} {ev : Evl} {h : Heap} {d : Option Tmp} {T T' ty : TypeId} {x y : Operand} {pos : String} {aft : Array Edge} {gd : Option (Nat × Bool)} {ats : Array TypeId}
theorem s_cmpstr {a b : List UInt8} (hx : ev x = some (.c (sv a))) (hy : ev y = some (.c (sv b))) : Still Try.prog ⟨d, .call ⟨.value (.func 176), [x, y].toArray, ats⟩, ty, pos, aft, gd⟩ ev h (.c (iv (Lib.compareBytes a b))) := by
  intro B dom M H w s hh hc he
  have h1 := he x _ hx
  have h2 := he y _ hy
  simp only [Rep, RepC] at h1 h2
  refine ⟨_, ?_, rfl⟩
  have := Lib.run_compareString (P := Try.prog) ⟨a.toArray⟩ ⟨b.toArray⟩ w
  simp only [execOp, resolve, Deferred.ofValue, Act.eval, invoke, Sem.run_bind, Sem.run_pure, Result.andThen_ok, List.map_toArray, Array.append_empty, Sem.run_pure]
  rw [show (#[] ++ (List.map s.eval [x, y]).toArray : Array Value) = #[Value.string ⟨a.toArray⟩, Value.string ⟨b.toArray⟩] by simp [h1, h2], run_cmp, this]
  rfl
end
def cmpZ (a b : Int) : Int := if a < b then -1 else if b < a then 1 else 0
def cmpV (a b : Vl) : Int := if a.k ≠ b.k then cmpZ a.k b.k else if a.k = 1 then cmpZ a.n b.n else if a.k = 2 then Lib.compareBytes a.t b.t else 0
def cmpR : List Vl → List Vl → Int
  | [], [] => 0
  | [], _ :: _ => -1
  | _ :: _, [] => 1
  | a :: r, b :: s => if cmpV (clV a) (clV b) ≠ 0 then cmpV (clV a) (clV b) else cmpR r s
attribute [local irreducible] Still Adds AWL AW Drw DrwE EStep AC AWR Weak Frz Src RetK Out InK ItK AsK RdK
theorem bcmp_ok (a b : List UInt8) : AC Try.prog 155 [sv a, sv b] (.c (iv (Lib.compareBytes a b))) [] 0 := by
  refine ac_enter tabOk (sz := 8) Try.func155 rfl (by rw [Try.ntmps155]; rfl) ?_
  repeat' (first | ((with_reducible refine aw_seqk ?_); intro K hK hX) | ((with_reducible refine isC_reg ?_); refine aw_prune [0, 1, 4] rfl rfl ?_; with_reducible refine aw_region ?_) | ((with_reducible refine isA_call ?_); refine awl_still g_none rfl (s_cmpstr rfl rfl) ?_) | refine stA ?_ | (refine hK _ _ _ _ ?_; clear hK hX K) | (refine hX _ _ _ _ _ (by simp) ?_; clear hK hX K))
  refine retK_mk zio ztr rfl (ResL.one (ResA.tmp rfl)) zou
theorem scmp_ok (a b : List UInt8) : AC Try.prog 123 [sv a, sv b] (.c (iv (Lib.compareBytes a b))) [] 0 := by
  have h := bcmp_ok a b
  refine ac_enter tabOk (sz := 8) Try.func123 rfl (by rw [Try.ntmps123]; rfl) ?_
  repeat' (first | ((with_reducible refine aw_seqk ?_); intro K hK hX) | ((with_reducible refine isC_reg ?_); refine aw_prune [0, 1, 4] rfl rfl ?_; with_reducible refine aw_region ?_) | ((with_reducible refine isA_call ?_); (first | refine zA ?_ | refine zN ?_); (first | refine c0 (h) ?_)) | refine stA ?_ | (refine hK _ _ _ _ ?_; clear hK hX K) | (refine hX _ _ _ _ _ (by simp) ?_; clear hK hX K))
  refine retK_mk zio ztr rfl (ResL.one (ResA.tmp rfl)) zou
theorem nan_ok (a : Int) : AC Try.prog 167 [iv a] (.c (bv false)) [] 0 := by
  refine ac_enter tabOk (sz := 6) Try.func167 rfl (by rw [Try.ntmps167]; rfl) ?_
  repeat' (first | ((with_reducible refine aw_seqk ?_); intro K hK hX) | ((with_reducible refine isC_reg ?_); refine aw_prune [0, 2] rfl rfl ?_; with_reducible refine aw_region ?_) | (((with_reducible refine isA_any ?_); refine xA ?_); (first | ((with_reducible refine e_bin ?_); (first | refine ex_i (s_cmp rfl rfl rfl (decide_eq_false (fun h => h rfl))) ?_)))) | refine stA ?_ | (refine hK _ _ _ _ ?_; clear hK hX K) | (refine hX _ _ _ _ _ (by simp) ?_; clear hK hX K))
  refine retK_mk zio ztr rfl (ResL.one (ResA.tmp rfl)) zou
theorem nan64_ok (a : Int) : AC Try.prog 189 [iv a] (.c (bv false)) [] 0 := by
  refine ac_enter tabOk (sz := 6) Try.func189 rfl (by rw [Try.ntmps189]; rfl) ?_
  repeat' (first | ((with_reducible refine aw_seqk ?_); intro K hK hX) | ((with_reducible refine isC_reg ?_); refine aw_prune [0, 2] rfl rfl ?_; with_reducible refine aw_region ?_) | (((with_reducible refine isA_any ?_); refine xA ?_); (first | ((with_reducible refine e_bin ?_); (first | refine ex_i (s_cmp rfl rfl rfl (decide_eq_false (fun h => h rfl))) ?_)))) | refine stA ?_ | (refine hK _ _ _ _ ?_; clear hK hX K) | (refine hX _ _ _ _ _ (by simp) ?_; clear hK hX K))
  refine retK_mk zio ztr rfl (ResL.one (ResA.tmp rfl)) zou
theorem cmpi_ok (a b : Int) : AC Try.prog 135 [iv a, iv b] (.c (iv (cmpZ a b))) [] 0 := by
  have h1 := nan_ok a
  have h2 := nan_ok b
  unfold cmpZ
  by_cases c1 : a < b
  · rw [if_pos c1]
    refine ac_enter tabOk (sz := 20) Try.func135 rfl (by rw [Try.ntmps135]; rfl) ?_
    repeat' (first | ((with_reducible refine aw_seqk ?_); intro K hK hX) | ((with_reducible refine isC_reg ?_); refine aw_prune [0, 1, 4, 5, 6] rfl rfl ?_; with_reducible refine aw_region ?_) | ((with_reducible refine isA_call ?_); (first | refine zA ?_ | refine zN ?_); (first | refine c0 (h1) ?_ | refine c0 (h2) ?_)) | refine stA ?_ | (refine hK _ _ _ _ ?_; clear hK hX K) | (refine hX _ _ _ _ _ (by simp) ?_; clear hK hX K))
    refine retK_mk zio ztr rfl (ResL.one (ResA.tmp rfl)) zou
  · rw [if_neg c1]
    by_cases c2 : b < a
    · rw [if_pos c2]
      refine ac_enter tabOk (sz := 20) Try.func135 rfl (by rw [Try.ntmps135]; rfl) ?_
      repeat' (first | ((with_reducible refine aw_seqk ?_); intro K hK hX) | ((with_reducible refine isC_reg ?_); refine aw_prune [0, 1, 4, 5, 6] rfl rfl ?_; with_reducible refine aw_region ?_) | ((with_reducible refine isA_call ?_); (first | refine zA ?_ | refine zN ?_); (first | refine c0 (h1) ?_ | refine c0 (h2) ?_)) | refine stA ?_ | (refine hK _ _ _ _ ?_; clear hK hX K) | (refine hX _ _ _ _ _ (by simp) ?_; clear hK hX K))
      refine retK_mk zio ztr rfl (ResL.one (ResA.tmp rfl)) zou
    · rw [if_neg c2]
      refine ac_enter tabOk (sz := 20) Try.func135 rfl (by rw [Try.ntmps135]; rfl) ?_
      repeat' (first | ((with_reducible refine aw_seqk ?_); intro K hK hX) | ((with_reducible refine isC_reg ?_); refine aw_prune [0, 1, 4, 5, 6] rfl rfl ?_; with_reducible refine aw_region ?_) | ((with_reducible refine isA_call ?_); (first | refine zA ?_ | refine zN ?_); (first | refine c0 (h1) ?_ | refine c0 (h2) ?_)) | refine stA ?_ | (refine hK _ _ _ _ ?_; clear hK hX K) | (refine hX _ _ _ _ _ (by simp) ?_; clear hK hX K))
      refine retK_mk zio ztr rfl (ResL.one (ResA.tmp rfl)) zou
theorem cmp64_ok (a b : Int) : AC Try.prog 166 [iv a, iv b] (.c (iv (cmpZ a b))) [] 0 := by
  have h1 := nan64_ok a
  have h2 := nan64_ok b
  unfold cmpZ
  by_cases c1 : a < b
  · rw [if_pos c1]
    refine ac_enter tabOk (sz := 20) Try.func166 rfl (by rw [Try.ntmps166]; rfl) ?_
    repeat' (first | ((with_reducible refine aw_seqk ?_); intro K hK hX) | ((with_reducible refine isC_reg ?_); refine aw_prune [0, 1, 4, 5, 6] rfl rfl ?_; with_reducible refine aw_region ?_) | ((with_reducible refine isA_call ?_); (first | refine zA ?_ | refine zN ?_); (first | refine c0 (h1) ?_ | refine c0 (h2) ?_)) | refine stA ?_ | (refine hK _ _ _ _ ?_; clear hK hX K) | (refine hX _ _ _ _ _ (by simp) ?_; clear hK hX K))
    refine retK_mk zio ztr rfl (ResL.one (ResA.tmp rfl)) zou
  · rw [if_neg c1]
    by_cases c2 : b < a
    · rw [if_pos c2]
      refine ac_enter tabOk (sz := 20) Try.func166 rfl (by rw [Try.ntmps166]; rfl) ?_
      repeat' (first | ((with_reducible refine aw_seqk ?_); intro K hK hX) | ((with_reducible refine isC_reg ?_); refine aw_prune [0, 1, 4, 5, 6] rfl rfl ?_; with_reducible refine aw_region ?_) | ((with_reducible refine isA_call ?_); (first | refine zA ?_ | refine zN ?_); (first | refine c0 (h1) ?_ | refine c0 (h2) ?_)) | refine stA ?_ | (refine hK _ _ _ _ ?_; clear hK hX K) | (refine hX _ _ _ _ _ (by simp) ?_; clear hK hX K))
      refine retK_mk zio ztr rfl (ResL.one (ResA.tmp rfl)) zou
    · rw [if_neg c2]
      refine ac_enter tabOk (sz := 20) Try.func166 rfl (by rw [Try.ntmps166]; rfl) ?_
      repeat' (first | ((with_reducible refine aw_seqk ?_); intro K hK hX) | ((with_reducible refine isC_reg ?_); refine aw_prune [0, 1, 4, 5, 6] rfl rfl ?_; with_reducible refine aw_region ?_) | ((with_reducible refine isA_call ?_); (first | refine zA ?_ | refine zN ?_); (first | refine c0 (h1) ?_ | refine c0 (h2) ?_)) | refine stA ?_ | (refine hK _ _ _ _ ?_; clear hK hX K) | (refine hX _ _ _ _ _ (by simp) ?_; clear hK hX K))
      refine retK_mk zio ztr rfl (ResL.one (ResA.tmp rfl)) zou
set_option maxHeartbeats 4000000 in
theorem vcmp_ok (a b : Vl) : AC Try.prog 134 [.agg a.c, .agg b.c] (.c (iv (cmpV (clV a) (clV b)))) [] 0 := by
  have h1 := clean_ok a
  have h2 := clean_ok b
  obtain ⟨ak, an, at'⟩ := a
  obtain ⟨bk, bn, bt⟩ := b
  generalize clV ⟨ak, an, at'⟩ = x at h1 ⊢
  generalize clV ⟨bk, bn, bt⟩ = y at h2 ⊢
  obtain ⟨xk, xn, xt⟩ := x
  obtain ⟨yk, yn, yt⟩ := y
  simp only [Vl.c] at *
  have g1 := cmpi_ok xk yk
  have g2 := cmp64_ok xn yn
  have g3 := scmp_ok xt yt
  unfold cmpV
  dsimp only
  by_cases c1 : xk = yk
  · rw [if_neg (fun h => h c1)]
    by_cases c2 : xk = 1
    · rw [if_pos c2]
      refine ac_enter tabOk (sz := 35) Try.func134 rfl (by rw [Try.ntmps134]; rfl) ?_
      repeat' (first | ((with_reducible refine aw_seqk ?_); intro K hK hX) | ((with_reducible refine isC_reg ?_); refine aw_prune [0, 1, 2, 3, 4, 20] rfl rfl ?_; with_reducible refine aw_region ?_) | ((with_reducible refine isC_draw ?_); refine aw_prune [0, 1, 2, 3, 4, 20] rfl rfl ?_; refine aw_drwE [] ?_) | ((first | with_reducible refine isA_call ?_ | with_reducible refine isE_call ?_); (first | refine zA ?_ | refine zN ?_ | refine zE ?_); (first | refine c0 (h1) ?_ | refine c0 (h2) ?_ | refine c0 (g1) ?_ | refine c0 (g2) ?_ | refine c0 (g3) ?_)) | refine stA ?_ | refine stE ?_ | (refine hK _ _ _ _ ?_; clear hK hX K) | (refine hX _ _ _ _ _ (by simp) ?_; clear hK hX K))
      refine retK_mk zio ztr rfl (ResL.one (ResA.tmp rfl)) zou
    · rw [if_neg c2]
      by_cases c3 : xk = 2
      · rw [if_pos c3]
        refine ac_enter tabOk (sz := 35) Try.func134 rfl (by rw [Try.ntmps134]; rfl) ?_
        repeat' (first | ((with_reducible refine aw_seqk ?_); intro K hK hX) | ((with_reducible refine isC_reg ?_); refine aw_prune [0, 1, 2, 3, 4, 20] rfl rfl ?_; with_reducible refine aw_region ?_) | ((with_reducible refine isC_draw ?_); refine aw_prune [0, 1, 2, 3, 4, 20] rfl rfl ?_; refine aw_drwE [] ?_) | ((first | with_reducible refine isA_call ?_ | with_reducible refine isE_call ?_); (first | refine zA ?_ | refine zN ?_ | refine zE ?_); (first | refine c0 (h1) ?_ | refine c0 (h2) ?_ | refine c0 (g1) ?_ | refine c0 (g2) ?_ | refine c0 (g3) ?_)) | refine stA ?_ | refine stE ?_ | (refine hK _ _ _ _ ?_; clear hK hX K) | (refine hX _ _ _ _ _ (by simp) ?_; clear hK hX K))
        refine retK_mk zio ztr rfl (ResL.one (ResA.tmp rfl)) zou
      · rw [if_neg c3]
        refine ac_enter tabOk (sz := 35) Try.func134 rfl (by rw [Try.ntmps134]; rfl) ?_
        repeat' (first | ((with_reducible refine aw_seqk ?_); intro K hK hX) | ((with_reducible refine isC_reg ?_); refine aw_prune [0, 1, 2, 3, 4, 20] rfl rfl ?_; with_reducible refine aw_region ?_) | ((with_reducible refine isC_draw ?_); refine aw_prune [0, 1, 2, 3, 4, 20] rfl rfl ?_; refine aw_drwE [] ?_) | ((first | with_reducible refine isA_call ?_ | with_reducible refine isE_call ?_); (first | refine zA ?_ | refine zN ?_ | refine zE ?_); (first | refine c0 (h1) ?_ | refine c0 (h2) ?_ | refine c0 (g1) ?_ | refine c0 (g2) ?_ | refine c0 (g3) ?_)) | refine stA ?_ | refine stE ?_ | (refine hK _ _ _ _ ?_; clear hK hX K) | (refine hX _ _ _ _ _ (by simp) ?_; clear hK hX K))
        refine retK_mk zio ztr rfl (ResL.one (ResA.tmp rfl)) zou
  · rw [if_pos c1]
    refine ac_enter tabOk (sz := 35) Try.func134 rfl (by rw [Try.ntmps134]; rfl) ?_
    repeat' (first | ((with_reducible refine aw_seqk ?_); intro K hK hX) | ((with_reducible refine isC_reg ?_); refine aw_prune [0, 1, 2, 3, 4, 20] rfl rfl ?_; with_reducible refine aw_region ?_) | ((with_reducible refine isC_draw ?_); refine aw_prune [0, 1, 2, 3, 4, 20] rfl rfl ?_; refine aw_drwE [] ?_) | ((first | with_reducible refine isA_call ?_ | with_reducible refine isE_call ?_); (first | refine zA ?_ | refine zN ?_ | refine zE ?_); (first | refine c0 (h1) ?_ | refine c0 (h2) ?_ | refine c0 (g1) ?_ | refine c0 (g2) ?_ | refine c0 (g3) ?_)) | refine stA ?_ | refine stE ?_ | (refine hK _ _ _ _ ?_; clear hK hX K) | (refine hX _ _ _ _ _ (by simp) ?_; clear hK hX K))
    refine retK_mk zio ztr rfl (ResL.one (ResA.tmp rfl)) zou
end Go.Proofs.Ytccnhpaldmjkbaa
