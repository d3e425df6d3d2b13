/-
  Joined texts: H6 H7 H8 H9 H10 H11 U1 AvSw AvSo AvFz AvCl U2 LyS AvSr U4. Lemmas; no statement of a law.
-/
import Derived.Lib.Bytealg
import Derived.Laws.Externs
import Derived.Laws.Cover3
import Derived.Lib.SliceRun
import Derived.Laws.CopyRow
import Derived.Shelf.SortM.Plain
import Derived.Shelf.SortM.SortNone
import Derived.Test.YtccnhpaldmjkbaaGreatProg
import Derived.Sort.Grow
import Derived.Test.YtccnhpaldmjkbaaGreatM4
set_option linter.unusedSimpArgs false
set_option linter.unusedVariables false
/-
  The order of values and rows, and bags (walk), as the program has them.
-/
namespace Go.Proofs.YtccnhpaldmjkbaaGreat
open Go Go.RowKit Go.Av
set_option maxRecDepth 100000
theorem run_cmp (args : Array Value) (w : World) : (callFunc 190 args).run Tryz.prog w = ((Extern.BytealgCompare.compare args).run Tryz.prog w).andThen fun v w' => .ok (.value v) w' :=
  run_callFunc_extern Tryz.func190 (by kernel_rfl) (by kernel_rfl) (by kernel_rfl) (by kernel_rfl) args w
section
variable {tab : Tab} {ev : Evl} {h : Heap} {d : Option Tmp} {T T' ty : TypeId} {x y : Operand} {pos : String} {aft : Array Edge} {gd : Option (Nat × Bool)} {ats : Array TypeId}
theorem s_cmpstr {a b : List UInt8} (hx : ev x = some (.c (sv a))) (hy : ev y = some (.c (sv b))) : Still Tryz.prog ⟨d, .call ⟨.value (.func 190), [x, y].toArray, ats⟩, ty, pos, aft, gd⟩ ev h (.c (iv (Lib.compareBytes a b))) := by
  intro B dom M H w s hh hc he
  have h1 := he x _ hx
  have h2 := he y _ hy
  simp only [Rep, RepC] at h1 h2
  refine ⟨_, ?_, rfl⟩
  have := Lib.run_compareString (P := Tryz.prog) ⟨a.toArray⟩ ⟨b.toArray⟩ w
  simp only [execOp, resolve, Deferred.ofValue, Act.eval, invoke, Sem.run_bind, Sem.run_pure, Result.andThen_ok, List.map_toArray, Array.append_empty, Sem.run_pure]
  rw [show (#[] ++ (List.map s.eval [x, y]).toArray : Array Value) = #[Value.string ⟨a.toArray⟩, Value.string ⟨b.toArray⟩] by simp [h1, h2], run_cmp, this]
  rfl
end
def cmpZ (a b : Int) : Int := if a < b then -1 else if b < a then 1 else 0
def cmpV (a b : Vl) : Int := if a.k ≠ b.k then cmpZ a.k b.k else if a.k = 1 then cmpZ a.n b.n else if a.k = 2 then Lib.compareBytes a.t b.t else 0
def cmpR : List Vl → List Vl → Int
  | [], [] => 0
  | [], _ :: _ => -1
  | _ :: _, [] => 1
  | a :: r, b :: s => if cmpV (clV a) (clV b) ≠ 0 then cmpV (clV a) (clV b) else cmpR r s
attribute [local irreducible] Still Adds AWL AW Drw DrwE EStep AC AWR Weak Frz Src RetK Out InK ItK AsK RdK
theorem bcmp_ok (a b : List UInt8) : AC Tryz.prog 162 [sv a, sv b] (.c (iv (Lib.compareBytes a b))) [] 0 := by
  refine ac_enter tabOk (sz := 8) Tryz.func162 rfl (by rw [Tryz.ntmps162]; rfl) ?_
  repeat' (first | ((with_reducible refine aw_seqk ?_); intro K hK hX) | ((with_reducible refine isC_reg ?_); refine aw_prune [0, 1, 4] rfl rfl ?_; with_reducible refine aw_region ?_) | ((with_reducible refine isA_call ?_); refine awl_still g_none rfl (s_cmpstr rfl rfl) ?_) | refine stA ?_ | (refine hK _ _ _ _ ?_; clear hK hX K) | (refine hX _ _ _ _ _ (by simp) ?_; clear hK hX K))
  refine retK_mk zio ztr rfl (ResL.one (ResA.tmp rfl)) zou
theorem scmp_ok (a b : List UInt8) : AC Tryz.prog 136 [sv a, sv b] (.c (iv (Lib.compareBytes a b))) [] 0 := by
  have h := bcmp_ok a b
  refine ac_enter tabOk (sz := 8) Tryz.func136 rfl (by rw [Tryz.ntmps136]; rfl) ?_
  repeat' (first | ((with_reducible refine aw_seqk ?_); intro K hK hX) | ((with_reducible refine isC_reg ?_); refine aw_prune [0, 1, 4] rfl rfl ?_; with_reducible refine aw_region ?_) | ((with_reducible refine isA_call ?_); (first | refine zA ?_ | refine zN ?_); (first | refine c0 (h) ?_)) | refine stA ?_ | (refine hK _ _ _ _ ?_; clear hK hX K) | (refine hX _ _ _ _ _ (by simp) ?_; clear hK hX K))
  refine retK_mk zio ztr rfl (ResL.one (ResA.tmp rfl)) zou
theorem nan_ok (a : Int) : AC Tryz.prog 174 [iv a] (.c (bv false)) [] 0 := by
  refine ac_enter tabOk (sz := 6) Tryz.func174 rfl (by rw [Tryz.ntmps174]; rfl) ?_
  repeat' (first | ((with_reducible refine aw_seqk ?_); intro K hK hX) | ((with_reducible refine isC_reg ?_); refine aw_prune [0, 2] rfl rfl ?_; with_reducible refine aw_region ?_) | (((with_reducible refine isA_any ?_); refine xA ?_); (first | ((with_reducible refine e_bin ?_); (first | refine ex_i (s_cmp rfl rfl rfl (decide_eq_false (fun h => h rfl))) ?_)))) | refine stA ?_ | (refine hK _ _ _ _ ?_; clear hK hX K) | (refine hX _ _ _ _ _ (by simp) ?_; clear hK hX K))
  refine retK_mk zio ztr rfl (ResL.one (ResA.tmp rfl)) zou
theorem nan64_ok (a : Int) : AC Tryz.prog 196 [iv a] (.c (bv false)) [] 0 := by
  refine ac_enter tabOk (sz := 6) Tryz.func196 rfl (by rw [Tryz.ntmps196]; rfl) ?_
  repeat' (first | ((with_reducible refine aw_seqk ?_); intro K hK hX) | ((with_reducible refine isC_reg ?_); refine aw_prune [0, 2] rfl rfl ?_; with_reducible refine aw_region ?_) | (((with_reducible refine isA_any ?_); refine xA ?_); (first | ((with_reducible refine e_bin ?_); (first | refine ex_i (s_cmp rfl rfl rfl (decide_eq_false (fun h => h rfl))) ?_)))) | refine stA ?_ | (refine hK _ _ _ _ ?_; clear hK hX K) | (refine hX _ _ _ _ _ (by simp) ?_; clear hK hX K))
  refine retK_mk zio ztr rfl (ResL.one (ResA.tmp rfl)) zou
theorem cmpi_ok (a b : Int) : AC Tryz.prog 142 [iv a, iv b] (.c (iv (cmpZ a b))) [] 0 := by
  have h1 := nan_ok a
  have h2 := nan_ok b
  unfold cmpZ
  by_cases c1 : a < b
  · rw [if_pos c1]
    refine ac_enter tabOk (sz := 20) Tryz.func142 rfl (by rw [Tryz.ntmps142]; rfl) ?_
    repeat' (first | ((with_reducible refine aw_seqk ?_); intro K hK hX) | ((with_reducible refine isC_reg ?_); refine aw_prune [0, 1, 4, 5, 6] rfl rfl ?_; with_reducible refine aw_region ?_) | ((with_reducible refine isA_call ?_); (first | refine zA ?_ | refine zN ?_); (first | refine c0 (h1) ?_ | refine c0 (h2) ?_)) | refine stA ?_ | (refine hK _ _ _ _ ?_; clear hK hX K) | (refine hX _ _ _ _ _ (by simp) ?_; clear hK hX K))
    refine retK_mk zio ztr rfl (ResL.one (ResA.tmp rfl)) zou
  · rw [if_neg c1]
    by_cases c2 : b < a
    · rw [if_pos c2]
      refine ac_enter tabOk (sz := 20) Tryz.func142 rfl (by rw [Tryz.ntmps142]; rfl) ?_
      repeat' (first | ((with_reducible refine aw_seqk ?_); intro K hK hX) | ((with_reducible refine isC_reg ?_); refine aw_prune [0, 1, 4, 5, 6] rfl rfl ?_; with_reducible refine aw_region ?_) | ((with_reducible refine isA_call ?_); (first | refine zA ?_ | refine zN ?_); (first | refine c0 (h1) ?_ | refine c0 (h2) ?_)) | refine stA ?_ | (refine hK _ _ _ _ ?_; clear hK hX K) | (refine hX _ _ _ _ _ (by simp) ?_; clear hK hX K))
      refine retK_mk zio ztr rfl (ResL.one (ResA.tmp rfl)) zou
    · rw [if_neg c2]
      refine ac_enter tabOk (sz := 20) Tryz.func142 rfl (by rw [Tryz.ntmps142]; rfl) ?_
      repeat' (first | ((with_reducible refine aw_seqk ?_); intro K hK hX) | ((with_reducible refine isC_reg ?_); refine aw_prune [0, 1, 4, 5, 6] rfl rfl ?_; with_reducible refine aw_region ?_) | ((with_reducible refine isA_call ?_); (first | refine zA ?_ | refine zN ?_); (first | refine c0 (h1) ?_ | refine c0 (h2) ?_)) | refine stA ?_ | (refine hK _ _ _ _ ?_; clear hK hX K) | (refine hX _ _ _ _ _ (by simp) ?_; clear hK hX K))
      refine retK_mk zio ztr rfl (ResL.one (ResA.tmp rfl)) zou
theorem cmp64_ok (a b : Int) : AC Tryz.prog 173 [iv a, iv b] (.c (iv (cmpZ a b))) [] 0 := by
  have h1 := nan64_ok a
  have h2 := nan64_ok b
  unfold cmpZ
  by_cases c1 : a < b
  · rw [if_pos c1]
    refine ac_enter tabOk (sz := 20) Tryz.func173 rfl (by rw [Tryz.ntmps173]; rfl) ?_
    repeat' (first | ((with_reducible refine aw_seqk ?_); intro K hK hX) | ((with_reducible refine isC_reg ?_); refine aw_prune [0, 1, 4, 5, 6] rfl rfl ?_; with_reducible refine aw_region ?_) | ((with_reducible refine isA_call ?_); (first | refine zA ?_ | refine zN ?_); (first | refine c0 (h1) ?_ | refine c0 (h2) ?_)) | refine stA ?_ | (refine hK _ _ _ _ ?_; clear hK hX K) | (refine hX _ _ _ _ _ (by simp) ?_; clear hK hX K))
    refine retK_mk zio ztr rfl (ResL.one (ResA.tmp rfl)) zou
  · rw [if_neg c1]
    by_cases c2 : b < a
    · rw [if_pos c2]
      refine ac_enter tabOk (sz := 20) Tryz.func173 rfl (by rw [Tryz.ntmps173]; rfl) ?_
      repeat' (first | ((with_reducible refine aw_seqk ?_); intro K hK hX) | ((with_reducible refine isC_reg ?_); refine aw_prune [0, 1, 4, 5, 6] rfl rfl ?_; with_reducible refine aw_region ?_) | ((with_reducible refine isA_call ?_); (first | refine zA ?_ | refine zN ?_); (first | refine c0 (h1) ?_ | refine c0 (h2) ?_)) | refine stA ?_ | (refine hK _ _ _ _ ?_; clear hK hX K) | (refine hX _ _ _ _ _ (by simp) ?_; clear hK hX K))
      refine retK_mk zio ztr rfl (ResL.one (ResA.tmp rfl)) zou
    · rw [if_neg c2]
      refine ac_enter tabOk (sz := 20) Tryz.func173 rfl (by rw [Tryz.ntmps173]; rfl) ?_
      repeat' (first | ((with_reducible refine aw_seqk ?_); intro K hK hX) | ((with_reducible refine isC_reg ?_); refine aw_prune [0, 1, 4, 5, 6] rfl rfl ?_; with_reducible refine aw_region ?_) | ((with_reducible refine isA_call ?_); (first | refine zA ?_ | refine zN ?_); (first | refine c0 (h1) ?_ | refine c0 (h2) ?_)) | refine stA ?_ | (refine hK _ _ _ _ ?_; clear hK hX K) | (refine hX _ _ _ _ _ (by simp) ?_; clear hK hX K))
      refine retK_mk zio ztr rfl (ResL.one (ResA.tmp rfl)) zou
set_option maxHeartbeats 4000000 in
theorem vcmp_ok (a b : Vl) : AC Tryz.prog 141 [.agg a.c, .agg b.c] (.c (iv (cmpV (clV a) (clV b)))) [] 0 := by
  have h1 := clean_ok a
  have h2 := clean_ok b
  obtain ⟨ak, an, at'⟩ := a
  obtain ⟨bk, bn, bt⟩ := b
  generalize clV ⟨ak, an, at'⟩ = x at h1 ⊢
  generalize clV ⟨bk, bn, bt⟩ = y at h2 ⊢
  obtain ⟨xk, xn, xt⟩ := x
  obtain ⟨yk, yn, yt⟩ := y
  simp only [Vl.c] at *
  have g1 := cmpi_ok xk yk
  have g2 := cmp64_ok xn yn
  have g3 := scmp_ok xt yt
  unfold cmpV
  dsimp only
  by_cases c1 : xk = yk
  · rw [if_neg (fun h => h c1)]
    by_cases c2 : xk = 1
    · rw [if_pos c2]
      refine ac_enter tabOk (sz := 35) Tryz.func141 rfl (by rw [Tryz.ntmps141]; rfl) ?_
      repeat' (first | ((with_reducible refine aw_seqk ?_); intro K hK hX) | ((with_reducible refine isC_reg ?_); refine aw_prune [0, 1, 2, 3, 4, 20] rfl rfl ?_; with_reducible refine aw_region ?_) | ((with_reducible refine isC_draw ?_); refine aw_prune [0, 1, 2, 3, 4, 20] rfl rfl ?_; refine aw_drwE [] ?_) | ((first | with_reducible refine isA_call ?_ | with_reducible refine isE_call ?_); (first | refine zA ?_ | refine zN ?_ | refine zE ?_); (first | refine c0 (h1) ?_ | refine c0 (h2) ?_ | refine c0 (g1) ?_ | refine c0 (g2) ?_ | refine c0 (g3) ?_)) | refine stA ?_ | refine stE ?_ | (refine hK _ _ _ _ ?_; clear hK hX K) | (refine hX _ _ _ _ _ (by simp) ?_; clear hK hX K))
      refine retK_mk zio ztr rfl (ResL.one (ResA.tmp rfl)) zou
    · rw [if_neg c2]
      by_cases c3 : xk = 2
      · rw [if_pos c3]
        refine ac_enter tabOk (sz := 35) Tryz.func141 rfl (by rw [Tryz.ntmps141]; rfl) ?_
        repeat' (first | ((with_reducible refine aw_seqk ?_); intro K hK hX) | ((with_reducible refine isC_reg ?_); refine aw_prune [0, 1, 2, 3, 4, 20] rfl rfl ?_; with_reducible refine aw_region ?_) | ((with_reducible refine isC_draw ?_); refine aw_prune [0, 1, 2, 3, 4, 20] rfl rfl ?_; refine aw_drwE [] ?_) | ((first | with_reducible refine isA_call ?_ | with_reducible refine isE_call ?_); (first | refine zA ?_ | refine zN ?_ | refine zE ?_); (first | refine c0 (h1) ?_ | refine c0 (h2) ?_ | refine c0 (g1) ?_ | refine c0 (g2) ?_ | refine c0 (g3) ?_)) | refine stA ?_ | refine stE ?_ | (refine hK _ _ _ _ ?_; clear hK hX K) | (refine hX _ _ _ _ _ (by simp) ?_; clear hK hX K))
        refine retK_mk zio ztr rfl (ResL.one (ResA.tmp rfl)) zou
      · rw [if_neg c3]
        refine ac_enter tabOk (sz := 35) Tryz.func141 rfl (by rw [Tryz.ntmps141]; rfl) ?_
        repeat' (first | ((with_reducible refine aw_seqk ?_); intro K hK hX) | ((with_reducible refine isC_reg ?_); refine aw_prune [0, 1, 2, 3, 4, 20] rfl rfl ?_; with_reducible refine aw_region ?_) | ((with_reducible refine isC_draw ?_); refine aw_prune [0, 1, 2, 3, 4, 20] rfl rfl ?_; refine aw_drwE [] ?_) | ((first | with_reducible refine isA_call ?_ | with_reducible refine isE_call ?_); (first | refine zA ?_ | refine zN ?_ | refine zE ?_); (first | refine c0 (h1) ?_ | refine c0 (h2) ?_ | refine c0 (g1) ?_ | refine c0 (g2) ?_ | refine c0 (g3) ?_)) | refine stA ?_ | refine stE ?_ | (refine hK _ _ _ _ ?_; clear hK hX K) | (refine hX _ _ _ _ _ (by simp) ?_; clear hK hX K))
        refine retK_mk zio ztr rfl (ResL.one (ResA.tmp rfl)) zou
  · rw [if_pos c1]
    refine ac_enter tabOk (sz := 35) Tryz.func141 rfl (by rw [Tryz.ntmps141]; rfl) ?_
    repeat' (first | ((with_reducible refine aw_seqk ?_); intro K hK hX) | ((with_reducible refine isC_reg ?_); refine aw_prune [0, 1, 2, 3, 4, 20] rfl rfl ?_; with_reducible refine aw_region ?_) | ((with_reducible refine isC_draw ?_); refine aw_prune [0, 1, 2, 3, 4, 20] rfl rfl ?_; refine aw_drwE [] ?_) | ((first | with_reducible refine isA_call ?_ | with_reducible refine isE_call ?_); (first | refine zA ?_ | refine zN ?_ | refine zE ?_); (first | refine c0 (h1) ?_ | refine c0 (h2) ?_ | refine c0 (g1) ?_ | refine c0 (g2) ?_ | refine c0 (g3) ?_)) | refine stA ?_ | refine stE ?_ | (refine hK _ _ _ _ ?_; clear hK hX K) | (refine hX _ _ _ _ _ (by simp) ?_; clear hK hX K))
    refine retK_mk zio ztr rfl (ResL.one (ResA.tmp rfl)) zou
end Go.Proofs.YtccnhpaldmjkbaaGreat
/-
  The order of rows, and valid bags (walk), as the program has them.
-/
namespace Go.Proofs.YtccnhpaldmjkbaaGreat
open Go Go.RowKit Go.Av
set_option maxRecDepth 100000
theorem cmpR_step {r s : List Vl} {i : Nat} {a b : Vl} (ha : r[i]? = some a) (hb : s[i]? = some b) : cmpR (r.drop i) (s.drop i) = if cmpV (clV a) (clV b) ≠ 0 then cmpV (clV a) (clV b) else cmpR (r.drop (i + 1)) (s.drop (i + 1)) := by
  obtain ⟨h1, h2⟩ := List.getElem?_eq_some_iff.1 ha
  obtain ⟨h3, h4⟩ := List.getElem?_eq_some_iff.1 hb
  rw [List.drop_eq_getElem_cons h1, List.drop_eq_getElem_cons h3, h2, h4, cmpR]
theorem cmpR_end {r s : List Vl} {n m i : Nat} (hn : r.length = n) (hm : s.length = m) (hi : i = min n m) : cmpR (r.drop i) (s.drop i) = cmpZ n m := by
  unfold cmpZ
  have e1 : n ≤ i → r.drop i = [] := fun h => List.drop_eq_nil_of_le (by omega)
  have e2 : m ≤ i → s.drop i = [] := fun h => List.drop_eq_nil_of_le (by omega)
  by_cases c1 : n < m
  · rw [e1 (by omega), List.drop_eq_getElem_cons (l := s) (i := i) (by omega), cmpR, if_pos (by omega)]
  · by_cases c2 : m < n
    · rw [e2 (by omega), List.drop_eq_getElem_cons (l := r) (i := i) (by omega), cmpR, if_neg (by omega), if_pos (by omega)]
    · rw [e2 (by omega), e1 (by omega), cmpR, if_neg (by omega), if_neg (by omega)]
def goodAt (b : List En) (i : Nat) : Prop := ∀ e, b[i]? = some e → entP e ∧ e.n ≠ 0 ∧ ∀ f, 0 < i → b[i - 1]? = some f → cmpR f.r e.r < 0
def bagP (b : List En) : Prop := b.length ≤ 4096 ∧ ∀ i, i < b.length → goodAt b i
def posP (b : List En) : Prop := bagP b ∧ ∀ e ∈ b, 0 ≤ e.n
def fitB (b : List En) : Prop := ∀ e ∈ b, e.r.length ≤ maxLen
theorem ec_row {b : List En} {i : Nat} {e : En} (h : b[i]? = some e) : (ec b)[i * 2]? = some (.sl 3 e.r.length (rc e.r)) := by
  have := ec_at h
  have h2 : (((ec b).drop (i * 2)).take 2)[0]? = some (.sl 3 e.r.length (rc e.r)) := by rw [this]; rfl
  rw [List.getElem?_take_of_lt (by omega), List.getElem?_drop] at h2
  exact h2
theorem ec_n {b : List En} {i : Nat} {e : En} (h : b[i]? = some e) : (ec b)[i * 2 + 1]? = some (iv e.n) := by
  have := ec_at h
  have h2 : (((ec b).drop (i * 2)).take 2)[1]? = some (iv e.n) := by rw [this]; rfl
  rw [List.getElem?_take_of_lt (by omega), List.getElem?_drop] at h2
  exact h2
theorem first_bad {p : Nat → Prop} {n : Nat} (h : ¬ ∀ i, i < n → p i) : ∃ q, q < n ∧ ¬ p q ∧ ∀ i, i < q → p i := by
  have h' : ∃ j, j < n ∧ ¬ p j := Classical.byContradiction fun hh => h fun i hi => Classical.byContradiction fun hp => hh ⟨i, hi, hp⟩
  obtain ⟨j, ⟨h1, h2⟩, h3⟩ := exists_min (fun j => j < n ∧ ¬ p j) h'
  exact ⟨j, h1, h2, fun i hi => Classical.byContradiction fun hp => by have := h3 i ⟨by omega, hp⟩; omega⟩
attribute [local irreducible] Still Adds AWL AW Drw DrwE EStep AC AWR Weak Frz Src RetK Out InK ItK AsK RdK
set_option maxHeartbeats 4000000 in
theorem rcmp_ok (r s : List Vl) (n m : Nat) (hn : r.length = n) (hm : s.length = m) (hn2 : n ≤ maxLen) (hm2 : m ≤ maxLen) : AC Tryz.prog 88 [.sl 3 n (rc r), .sl 3 m (rc s)] (.c (iv (cmpR r s))) [] 0 := by
  have hrl : (rc r).length = n * 3 := by rw [rc_length, hn]
  have hsl : (rc s).length = m * 3 := by rw [rc_length, hm]
  have hml : n ≤ 9223372036854775807 := hn2
  have hml2 : m ≤ 9223372036854775807 := hm2
  clear hn2 hm2
  obtain ⟨k, hk⟩ : ∃ k, min n m = k := ⟨_, rfl⟩
  have hc := cmpi_ok n m
  rw [← cmpR_end hn hm hk.symm] at hc
  have hkm : (if (m : Int) < (n : Int) then (m : Int) else (n : Int)) = (k : Int) := by split <;> omega
  generalize hz : cmpR r s = z
  refine ac_enter tabOk (sz := 33) Tryz.func88 rfl (by rw [Tryz.ntmps88]; rfl) ?_
  repeat' (first | ((with_reducible refine aw_seqk ?_); intro K hK hX) | ((with_reducible refine isC_reg ?_); refine aw_prune [0, 1, 4, 5, 6, 11, 12] rfl rfl ?_; with_reducible refine aw_region ?_) | ((with_reducible refine isC_draw ?_); refine aw_prune [0, 1, 4, 5, 6, 11, 12] rfl rfl ?_; refine aw_drwF [] ?_) | ((first | ((with_reducible refine isA_any ?_); refine xA ?_) | ((with_reducible refine isDk_any ?_); refine xD ?_)); (first | ((with_reducible refine e_bi ?_); (first | refine ex_i (s_min rfl rfl hkm) ?_)))) | refine stA ?_ | refine stD ?_ | (refine hK _ _ _ _ ?_; clear hK hX K) | (refine hX _ _ _ _ _ (by simp) ?_; clear hK hX K))
  refine aw_loopo [5, 6, 7, 8, 9, 10, 11, 12] [] rfl rfl (fun i : Nat => [(11, .c (iv k)), (12, .c (iv i))]) (fun i => []) (fun i => i ≤ k ∧ cmpR (r.drop i) (s.drop i) = z) (fun i => k - i) 0 ⟨by omega, hz⟩ weakA ?_
  rintro i ⟨hi, hzi⟩ K hK hX
  by_cases hlt : i < k
  · obtain ⟨a, ha⟩ : ∃ a, r[i]? = some a := ⟨r[i]'(by omega), List.getElem?_eq_getElem _⟩
    obtain ⟨b, hb⟩ : ∃ b, s[i]? = some b := ⟨s[i]'(by omega), List.getElem?_eq_getElem _⟩
    have hat := rc_at ha
    have hbt := rc_at hb
    have hv := vcmp_ok a b
    rw [cmpR_step ha hb] at hzi
    obtain ⟨ak, an, at'⟩ := a
    obtain ⟨bk, bn, bt⟩ := b
    simp only [Vl.c] at hat hbt hv
    generalize cmpV (clV ⟨ak, an, at'⟩) (clV ⟨bk, bn, bt⟩) = c at hv hzi
    by_cases z0 : c = 0
    · rw [if_neg (fun h => h z0)] at hzi
      clear hc hz
      repeat' (first | ((with_reducible refine aw_seqk ?_); intro K hK hX) | ((with_reducible refine isC_reg ?_); refine aw_prune [0, 1, 4, 5, 6, 11, 12] rfl rfl ?_; with_reducible refine aw_region ?_) | ((with_reducible refine isC_draw ?_); refine aw_prune [0, 1, 4, 5, 6, 11, 12] rfl rfl ?_; refine aw_drwF [] ?_) | ((first | with_reducible refine isA_call ?_ | with_reducible refine isD_call ?_); (first | refine zA ?_ | refine zN ?_ | refine zD ?_); (first | refine c0 (hv) ?_)) | ((first | ((with_reducible refine isA_any ?_); refine xA ?_) | ((with_reducible refine isDk_any ?_); refine xD ?_)); (first | ((with_reducible refine e_load ?_); (first | refine ex_i (s_loadAr tabOk rfl rfl rfl rfl (by first | first | exact hat | exact hbt | exact whole0 (by first | rfl | omega) | rfl) zln) ?_ | refine ex_i (s_loadAi tabOk rfl rfl rfl (by first | first | exact hat | exact hbt | exact whole0 (by first | rfl | omega) | rfl) zln) ?_)) | ((with_reducible refine e_slice ?_); (first | refine ex_i (s_slArri tabOk rfl rfl rfl rfl zbd zbd zle zle (by decide) (by first | first | exact hat | exact hbt | exact whole0 (by first | rfl | omega) | rfl) zln) ?_)))) | refine stA ?_ | refine stD ?_ | (refine hK _ _ _ _ ?_; clear hK hX K) | (refine hX _ _ _ _ _ (by simp) ?_; clear hK hX K))
      exact ⟨i + 1, ⟨by omega, hzi⟩, by omega, weakA⟩
    · rw [if_pos z0] at hzi
      rw [hzi] at hv z0
      clear hc hz
      repeat' (first | ((with_reducible refine aw_seqk ?_); intro K hK hX) | ((with_reducible refine isC_reg ?_); refine aw_prune [0, 1, 4, 5, 6, 11, 12] rfl rfl ?_; with_reducible refine aw_region ?_) | ((with_reducible refine isC_draw ?_); refine aw_prune [0, 1, 4, 5, 6, 11, 12] rfl rfl ?_; refine aw_drwF [] ?_) | ((first | with_reducible refine isA_call ?_ | with_reducible refine isD_call ?_); (first | refine zA ?_ | refine zN ?_ | refine zD ?_); (first | refine c0 (hv) ?_)) | ((first | ((with_reducible refine isA_any ?_); refine xA ?_) | ((with_reducible refine isDk_any ?_); refine xD ?_)); (first | ((with_reducible refine e_load ?_); (first | refine ex_i (s_loadAr tabOk rfl rfl rfl rfl (by first | first | exact hat | exact hbt | exact whole0 (by first | rfl | omega) | rfl) zln) ?_ | refine ex_i (s_loadAi tabOk rfl rfl rfl (by first | first | exact hat | exact hbt | exact whole0 (by first | rfl | omega) | rfl) zln) ?_)) | ((with_reducible refine e_slice ?_); (first | refine ex_i (s_slArri tabOk rfl rfl rfl rfl zbd zbd zle zle (by decide) (by first | first | exact hat | exact hbt | exact whole0 (by first | rfl | omega) | rfl) zln) ?_)))) | refine stA ?_ | refine stD ?_ | (refine hK _ _ _ _ ?_; clear hK hX K) | (refine hX _ _ _ _ _ (by simp) ?_; clear hK hX K))
      refine retK_mk zio ztr rfl (ResL.one (ResA.tmp rfl)) zou
  · have hik : i = k := by omega
    subst hik
    rw [hzi] at hc
    repeat' (first | ((with_reducible refine aw_seqk ?_); intro K hK hX) | ((with_reducible refine isC_reg ?_); refine aw_prune [0, 1, 4, 5, 6, 11, 12] rfl rfl ?_; with_reducible refine aw_region ?_) | ((with_reducible refine isC_draw ?_); refine aw_prune [0, 1, 4, 5, 6, 11, 12] rfl rfl ?_; refine aw_drwF [] ?_) | ((first | with_reducible refine isA_call ?_ | with_reducible refine isD_call ?_); (first | refine zA ?_ | refine zN ?_ | refine zD ?_); (first | refine c0 (hc) ?_)) | refine stA ?_ | refine stD ?_ | (refine hK _ _ _ _ ?_; clear hK hX K) | (refine hX _ _ _ _ _ (by simp) ?_; clear hK hX K))
    refine retK_mk zio ztr rfl (ResL.one (ResA.tmp rfl)) zou
theorem bv_idle : Idle Tryz.prog 146 0 := by
  intro us w hl
  obtain ⟨_, rfl⟩ : ∃ _ : Unit, us = [] := by
    match us, hl with | [], _ => exact ⟨(), rfl⟩
  refine callsD_of_wpS Tryz.func146 rfl fun c₀ cs hu => ?_
  apply wpS_region
  simp [wpOpsS, go_sem, recoverD, hu, Tryz.ntmps146, Exit.thenS]
  cases c₀
  simp_all [bodyPostS, results, Tryz.results146]
theorem bv_idle_b : Body Tryz.prog 146 := by unfold Body; kernel_rfl
open Classical in
set_option maxHeartbeats 4000000 in
theorem bag_ok (b : List En) (n : Nat) (hn : b.length = n) (hm : n ≤ maxLen) (hf : fitB b) : AC Tryz.prog 96 [.sl 2 n (ec b)] (.c (bv (decide (bagP b)))) [] 0 := by
  have hbl : (ec b).length = n * 2 := by rw [ec_length, hn]
  have hml : n ≤ 9223372036854775807 := hm
  clear hm
  by_cases b1 : n ≤ 4096
  · by_cases hall : ∀ i, i < n → goodAt b i
    · rw [decide_eq_true (show bagP b from ⟨by omega, by rw [hn]; exact hall⟩)]
      refine ac_enter tabOk (sz := 38) Tryz.func96 rfl (by rw [Tryz.ntmps96]; rfl) ?_
      repeat' (first | ((with_reducible refine aw_seqk ?_); intro K hK hX) | ((with_reducible refine isC_reg ?_); refine aw_prune [0, 2, 3, 4, 8, 9, 10] rfl rfl ?_; with_reducible refine aw_region ?_) | ((with_reducible refine isC_draw ?_); refine aw_prune [0, 2, 3, 4, 8, 9, 10] rfl rfl ?_; refine aw_drwF [] ?_) | refine stA ?_ | refine stD ?_ | (refine hK _ _ _ _ ?_; clear hK hX K) | (refine hX _ _ _ _ _ (by simp) ?_; clear hK hX K))
      refine aw_loopo [3, 4, 5, 6, 7, 10] [] rfl rfl (fun i : Nat => [(10, .c (iv i))]) (fun i => []) (fun i => i ≤ n) (fun i => n - i) 0 (by omega) weakA ?_
      intro i hi K hK hX
      by_cases hlt : i < n
      · have hgi := hall i hlt
        obtain ⟨e, he⟩ : ∃ e, b[i]? = some e := ⟨b[i]'(by omega), List.getElem?_eq_getElem _⟩
        have hat := ec_at he
        have her := hf e (List.mem_of_getElem? he)
        have hv := vent_ok e her
        obtain ⟨g1, g2, g3⟩ := hgi e he
        rw [decide_eq_true g1] at hv
        cases i with
        | zero =>
          clear g3 hgi
          obtain ⟨r, c⟩ := e
          simp only [En.c] at *
          repeat' (first | ((with_reducible refine aw_seqk ?_); intro K hK hX) | ((with_reducible refine isC_reg ?_); refine aw_prune [0, 2, 3, 4, 8, 9, 10] rfl rfl ?_; with_reducible refine aw_region ?_) | ((with_reducible refine isC_draw ?_); refine aw_prune [0, 2, 3, 4, 8, 9, 10] rfl rfl ?_; refine aw_drwF [] ?_) | ((first | with_reducible refine isA_call ?_ | with_reducible refine isD_call ?_); (first | refine zA ?_ | refine zN ?_ | refine zD ?_); (first | refine c0 (hv) ?_)) | ((first | ((with_reducible refine isA_any ?_); refine xA ?_) | ((with_reducible refine isDk_any ?_); refine xD ?_)); (first | ((with_reducible refine e_load ?_); (first | refine ex_i (s_loadAr tabOk rfl rfl rfl rfl (by first | exact hat | exact whole0 (by first | rfl | omega) | rfl) zln) ?_ | refine ex_i (s_loadAi tabOk rfl rfl rfl (by first | exact hat | exact whole0 (by first | rfl | omega) | rfl) zln) ?_)) | ((with_reducible refine e_slice ?_); (first | refine ex_i (s_slArri tabOk rfl rfl rfl rfl zbd zbd zle zle (by decide) (by first | exact hat | exact whole0 (by first | rfl | omega) | rfl) zln) ?_)))) | refine stA ?_ | refine stD ?_ | (refine hK _ _ _ _ ?_; clear hK hX K) | (refine hX _ _ _ _ _ (by simp) ?_; clear hK hX K))
          exact ⟨1, by omega, by omega, weakA⟩
        | succ j =>
          obtain ⟨f, hfj⟩ : ∃ f, b[j]? = some f := ⟨b[j]'(by omega), List.getElem?_eq_getElem _⟩
          have hfr := hf f (List.mem_of_getElem? hfj)
          have hrow := ec_row hfj
          have hc := rcmp_ok f.r e.r f.r.length e.r.length rfl rfl hfr her
          have g4 := g3 f (by omega) (by rw [Nat.add_sub_cancel]; exact hfj)
          clear g3 hgi
          obtain ⟨r, c⟩ := e
          simp only [En.c] at *
          generalize cmpR f.r r = z at hc g4
          have hjj : (((j + 1 : Nat) : Int) - 1).toNat * 2 + 0 = j * 2 := by omega
          repeat' (first | ((with_reducible refine aw_seqk ?_); intro K hK hX) | ((with_reducible refine isC_reg ?_); refine aw_prune [0, 2, 3, 4, 8, 9, 10] rfl rfl ?_; with_reducible refine aw_region ?_) | ((with_reducible refine isC_draw ?_); refine aw_prune [0, 2, 3, 4, 8, 9, 10] rfl rfl ?_; refine aw_drwF [] ?_) | ((first | with_reducible refine isA_call ?_ | with_reducible refine isD_call ?_); (first | refine zA ?_ | refine zN ?_ | refine zD ?_); (first | refine c0 (hv) ?_ | refine c0 (hc) ?_)) | ((first | ((with_reducible refine isA_any ?_); refine xA ?_) | ((with_reducible refine isDk_any ?_); refine xD ?_)); (first | ((with_reducible refine e_load ?_); (first | refine ex_i (s_load1 tabOk rfl rfl rfl rfl (by (rw [hjj]; exact hrow))) ?_ | refine ex_i (s_load1r tabOk rfl rfl rfl rfl (by (rw [hjj]; exact hrow))) ?_ | refine ex_i (s_load1i tabOk rfl rfl rfl (by (rw [hjj]; exact hrow))) ?_ | refine ex_i (s_loadAr tabOk rfl rfl rfl rfl (by first | exact hat | exact whole0 (by first | rfl | omega) | rfl) zln) ?_ | refine ex_i (s_loadAi tabOk rfl rfl rfl (by first | exact hat | exact whole0 (by first | rfl | omega) | rfl) zln) ?_)) | ((with_reducible refine e_ix ?_); (first | refine ex_i (s_ixV1 tabOk rfl rfl zcj rfl rfl rfl rfl rfl zle (by (rw [hjj]; exact hrow))) ?_ | refine ex_i (s_ixStr tabOk rfl rfl zcj rfl rfl (by (rw [hjj]; exact hrow))) ?_)) | ((with_reducible refine e_slice ?_); (first | refine ex_i (s_slArri tabOk rfl rfl rfl rfl zbd zbd zle zle (by decide) (by first | exact hat | exact whole0 (by first | rfl | omega) | rfl) zln) ?_)))) | refine stA ?_ | refine stD ?_ | (refine hK _ _ _ _ ?_; clear hK hX K) | (refine hX _ _ _ _ _ (by simp) ?_; clear hK hX K))
          exact ⟨j + 1 + 1, by omega, by omega, weakA⟩
      · repeat' (first | ((with_reducible refine aw_seqk ?_); intro K hK hX) | ((with_reducible refine isC_reg ?_); refine aw_prune [0, 2, 3, 4, 8, 9, 10] rfl rfl ?_; with_reducible refine aw_region ?_) | ((with_reducible refine isC_draw ?_); refine aw_prune [0, 2, 3, 4, 8, 9, 10] rfl rfl ?_; refine aw_drwF [] ?_) | refine stA ?_ | refine stD ?_ | (refine hK _ _ _ _ ?_; clear hK hX K) | (refine hX _ _ _ _ _ (by simp) ?_; clear hK hX K))
        refine retK_mk zio (by exact ⟨bv_idle, bv_idle_b, trivial⟩) rfl (ResL.one (ResA.tmp rfl)) zou
    · rw [decide_eq_false (show ¬ bagP b from fun h => hall (by rw [← hn]; exact h.2))]
      obtain ⟨q, hq, hbad, hgood⟩ := first_bad hall
      refine ac_enter tabOk (sz := 38) Tryz.func96 rfl (by rw [Tryz.ntmps96]; rfl) ?_
      repeat' (first | ((with_reducible refine aw_seqk ?_); intro K hK hX) | ((with_reducible refine isC_reg ?_); refine aw_prune [0, 2, 3, 4, 8, 9, 10] rfl rfl ?_; with_reducible refine aw_region ?_) | ((with_reducible refine isC_draw ?_); refine aw_prune [0, 2, 3, 4, 8, 9, 10] rfl rfl ?_; refine aw_drwF [] ?_) | refine stA ?_ | refine stD ?_ | (refine hK _ _ _ _ ?_; clear hK hX K) | (refine hX _ _ _ _ _ (by simp) ?_; clear hK hX K))
      refine aw_loopo [3, 4, 5, 6, 7, 10] [] rfl rfl (fun i : Nat => [(10, .c (iv i))]) (fun i => []) (fun i => i ≤ q) (fun i => q - i) 0 (by omega) weakA ?_
      intro i hi K hK hX
      by_cases hlt : i < q
      · have hgi := hgood i hlt
        obtain ⟨e, he⟩ : ∃ e, b[i]? = some e := ⟨b[i]'(by omega), List.getElem?_eq_getElem _⟩
        have hat := ec_at he
        have her := hf e (List.mem_of_getElem? he)
        have hv := vent_ok e her
        obtain ⟨g1, g2, g3⟩ := hgi e he
        rw [decide_eq_true g1] at hv
        cases i with
        | zero =>
          clear g3 hgi
          obtain ⟨r, c⟩ := e
          simp only [En.c] at *
          repeat' (first | ((with_reducible refine aw_seqk ?_); intro K hK hX) | ((with_reducible refine isC_reg ?_); refine aw_prune [0, 2, 3, 4, 8, 9, 10] rfl rfl ?_; with_reducible refine aw_region ?_) | ((with_reducible refine isC_draw ?_); refine aw_prune [0, 2, 3, 4, 8, 9, 10] rfl rfl ?_; refine aw_drwF [] ?_) | ((first | with_reducible refine isA_call ?_ | with_reducible refine isD_call ?_); (first | refine zA ?_ | refine zN ?_ | refine zD ?_); (first | refine c0 (hv) ?_)) | ((first | ((with_reducible refine isA_any ?_); refine xA ?_) | ((with_reducible refine isDk_any ?_); refine xD ?_)); (first | ((with_reducible refine e_load ?_); (first | refine ex_i (s_loadAr tabOk rfl rfl rfl rfl (by first | exact hat | exact whole0 (by first | rfl | omega) | rfl) zln) ?_ | refine ex_i (s_loadAi tabOk rfl rfl rfl (by first | exact hat | exact whole0 (by first | rfl | omega) | rfl) zln) ?_)) | ((with_reducible refine e_slice ?_); (first | refine ex_i (s_slArri tabOk rfl rfl rfl rfl zbd zbd zle zle (by decide) (by first | exact hat | exact whole0 (by first | rfl | omega) | rfl) zln) ?_)))) | refine stA ?_ | refine stD ?_ | (refine hK _ _ _ _ ?_; clear hK hX K) | (refine hX _ _ _ _ _ (by simp) ?_; clear hK hX K))
          exact ⟨1, by omega, by omega, weakA⟩
        | succ j =>
          obtain ⟨f, hfj⟩ : ∃ f, b[j]? = some f := ⟨b[j]'(by omega), List.getElem?_eq_getElem _⟩
          have hfr := hf f (List.mem_of_getElem? hfj)
          have hrow := ec_row hfj
          have hc := rcmp_ok f.r e.r f.r.length e.r.length rfl rfl hfr her
          have g4 := g3 f (by omega) (by rw [Nat.add_sub_cancel]; exact hfj)
          clear g3 hgi
          obtain ⟨r, c⟩ := e
          simp only [En.c] at *
          generalize cmpR f.r r = z at hc g4
          have hjj : (((j + 1 : Nat) : Int) - 1).toNat * 2 + 0 = j * 2 := by omega
          repeat' (first | ((with_reducible refine aw_seqk ?_); intro K hK hX) | ((with_reducible refine isC_reg ?_); refine aw_prune [0, 2, 3, 4, 8, 9, 10] rfl rfl ?_; with_reducible refine aw_region ?_) | ((with_reducible refine isC_draw ?_); refine aw_prune [0, 2, 3, 4, 8, 9, 10] rfl rfl ?_; refine aw_drwF [] ?_) | ((first | with_reducible refine isA_call ?_ | with_reducible refine isD_call ?_); (first | refine zA ?_ | refine zN ?_ | refine zD ?_); (first | refine c0 (hv) ?_ | refine c0 (hc) ?_)) | ((first | ((with_reducible refine isA_any ?_); refine xA ?_) | ((with_reducible refine isDk_any ?_); refine xD ?_)); (first | ((with_reducible refine e_load ?_); (first | refine ex_i (s_load1 tabOk rfl rfl rfl rfl (by (rw [hjj]; exact hrow))) ?_ | refine ex_i (s_load1r tabOk rfl rfl rfl rfl (by (rw [hjj]; exact hrow))) ?_ | refine ex_i (s_load1i tabOk rfl rfl rfl (by (rw [hjj]; exact hrow))) ?_ | refine ex_i (s_loadAr tabOk rfl rfl rfl rfl (by first | exact hat | exact whole0 (by first | rfl | omega) | rfl) zln) ?_ | refine ex_i (s_loadAi tabOk rfl rfl rfl (by first | exact hat | exact whole0 (by first | rfl | omega) | rfl) zln) ?_)) | ((with_reducible refine e_ix ?_); (first | refine ex_i (s_ixV1 tabOk rfl rfl zcj rfl rfl rfl rfl rfl zle (by (rw [hjj]; exact hrow))) ?_ | refine ex_i (s_ixStr tabOk rfl rfl zcj rfl rfl (by (rw [hjj]; exact hrow))) ?_)) | ((with_reducible refine e_slice ?_); (first | refine ex_i (s_slArri tabOk rfl rfl rfl rfl zbd zbd zle zle (by decide) (by first | exact hat | exact whole0 (by first | rfl | omega) | rfl) zln) ?_)))) | refine stA ?_ | refine stD ?_ | (refine hK _ _ _ _ ?_; clear hK hX K) | (refine hX _ _ _ _ _ (by simp) ?_; clear hK hX K))
          exact ⟨j + 1 + 1, by omega, by omega, weakA⟩
      · have hiq : i = q := by omega
        have hin : i < n := by omega
        rw [← hiq] at hbad
        obtain ⟨e, he⟩ : ∃ e, b[i]? = some e := ⟨b[i]'(by omega), List.getElem?_eq_getElem _⟩
        have hat := ec_at he
        have her := hf e (List.mem_of_getElem? he)
        have hv := vent_ok e her
        by_cases g1 : entP e
        · rw [decide_eq_true g1] at hv
          by_cases g2 : e.n = 0
          · clear hbad hgood
            obtain ⟨r, c⟩ := e
            simp only [En.c] at *
            repeat' (first | ((with_reducible refine aw_seqk ?_); intro K hK hX) | ((with_reducible refine isC_reg ?_); refine aw_prune [0, 2, 3, 4, 8, 9, 10] rfl rfl ?_; with_reducible refine aw_region ?_) | ((with_reducible refine isC_draw ?_); refine aw_prune [0, 2, 3, 4, 8, 9, 10] rfl rfl ?_; refine aw_drwF [] ?_) | ((first | with_reducible refine isA_call ?_ | with_reducible refine isD_call ?_); (first | refine zA ?_ | refine zN ?_ | refine zD ?_); (first | refine c0 (hv) ?_)) | ((first | ((with_reducible refine isA_any ?_); refine xA ?_) | ((with_reducible refine isDk_any ?_); refine xD ?_)); (first | ((with_reducible refine e_load ?_); (first | refine ex_i (s_loadAr tabOk rfl rfl rfl rfl (by first | exact hat | exact whole0 (by first | rfl | omega) | rfl) zln) ?_ | refine ex_i (s_loadAi tabOk rfl rfl rfl (by first | exact hat | exact whole0 (by first | rfl | omega) | rfl) zln) ?_)) | ((with_reducible refine e_slice ?_); (first | refine ex_i (s_slArri tabOk rfl rfl rfl rfl zbd zbd zle zle (by decide) (by first | exact hat | exact whole0 (by first | rfl | omega) | rfl) zln) ?_)))) | refine stA ?_ | refine stD ?_ | (refine hK _ _ _ _ ?_; clear hK hX K) | (refine hX _ _ _ _ _ (by simp) ?_; clear hK hX K))
            refine retK_mk zio (by exact ⟨bv_idle, bv_idle_b, trivial⟩) rfl (ResL.one (ResA.tmp rfl)) zou
          · cases i with
            | zero => exact absurd (fun e' he' => by rw [he] at he'; injection he' with he'; subst he'; exact ⟨g1, g2, fun f h => absurd h (by omega)⟩) hbad
            | succ j =>
              obtain ⟨f, hfj⟩ : ∃ f, b[j]? = some f := ⟨b[j]'(by omega), List.getElem?_eq_getElem _⟩
              have hfr := hf f (List.mem_of_getElem? hfj)
              have hrow := ec_row hfj
              have hc := rcmp_ok f.r e.r f.r.length e.r.length rfl rfl hfr her
              have g4 : ¬ cmpR f.r e.r < 0 := fun h => hbad fun e' he' => by
                rw [he] at he'; injection he' with he'; subst he'
                exact ⟨g1, g2, fun f' _ hf' => by rw [Nat.add_sub_cancel, hfj] at hf'; injection hf' with hf'; subst hf'; exact h⟩
              clear hbad hgood
              obtain ⟨r, c⟩ := e
              simp only [En.c] at *
              generalize cmpR f.r r = z at hc g4
              have hjj : (((j + 1 : Nat) : Int) - 1).toNat * 2 + 0 = j * 2 := by omega
              repeat' (first | ((with_reducible refine aw_seqk ?_); intro K hK hX) | ((with_reducible refine isC_reg ?_); refine aw_prune [0, 2, 3, 4, 8, 9, 10] rfl rfl ?_; with_reducible refine aw_region ?_) | ((with_reducible refine isC_draw ?_); refine aw_prune [0, 2, 3, 4, 8, 9, 10] rfl rfl ?_; refine aw_drwF [] ?_) | ((first | with_reducible refine isA_call ?_ | with_reducible refine isD_call ?_); (first | refine zA ?_ | refine zN ?_ | refine zD ?_); (first | refine c0 (hv) ?_ | refine c0 (hc) ?_)) | ((first | ((with_reducible refine isA_any ?_); refine xA ?_) | ((with_reducible refine isDk_any ?_); refine xD ?_)); (first | ((with_reducible refine e_load ?_); (first | refine ex_i (s_load1 tabOk rfl rfl rfl rfl (by (rw [hjj]; exact hrow))) ?_ | refine ex_i (s_load1r tabOk rfl rfl rfl rfl (by (rw [hjj]; exact hrow))) ?_ | refine ex_i (s_load1i tabOk rfl rfl rfl (by (rw [hjj]; exact hrow))) ?_ | refine ex_i (s_loadAr tabOk rfl rfl rfl rfl (by first | exact hat | exact whole0 (by first | rfl | omega) | rfl) zln) ?_ | refine ex_i (s_loadAi tabOk rfl rfl rfl (by first | exact hat | exact whole0 (by first | rfl | omega) | rfl) zln) ?_)) | ((with_reducible refine e_ix ?_); (first | refine ex_i (s_ixV1 tabOk rfl rfl zcj rfl rfl rfl rfl rfl zle (by (rw [hjj]; exact hrow))) ?_ | refine ex_i (s_ixStr tabOk rfl rfl zcj rfl rfl (by (rw [hjj]; exact hrow))) ?_)) | ((with_reducible refine e_slice ?_); (first | refine ex_i (s_slArri tabOk rfl rfl rfl rfl zbd zbd zle zle (by decide) (by first | exact hat | exact whole0 (by first | rfl | omega) | rfl) zln) ?_)))) | refine stA ?_ | refine stD ?_ | (refine hK _ _ _ _ ?_; clear hK hX K) | (refine hX _ _ _ _ _ (by simp) ?_; clear hK hX K))
              refine retK_mk zio (by exact ⟨bv_idle, bv_idle_b, trivial⟩) rfl (ResL.one (ResA.tmp rfl)) zou
        · rw [decide_eq_false g1] at hv
          clear hbad hgood
          obtain ⟨r, c⟩ := e
          simp only [En.c] at *
          repeat' (first | ((with_reducible refine aw_seqk ?_); intro K hK hX) | ((with_reducible refine isC_reg ?_); refine aw_prune [0, 2, 3, 4, 8, 9, 10] rfl rfl ?_; with_reducible refine aw_region ?_) | ((with_reducible refine isC_draw ?_); refine aw_prune [0, 2, 3, 4, 8, 9, 10] rfl rfl ?_; refine aw_drwF [] ?_) | ((first | with_reducible refine isA_call ?_ | with_reducible refine isD_call ?_); (first | refine zA ?_ | refine zN ?_ | refine zD ?_); (first | refine c0 (hv) ?_)) | ((first | ((with_reducible refine isA_any ?_); refine xA ?_) | ((with_reducible refine isDk_any ?_); refine xD ?_)); (first | ((with_reducible refine e_load ?_); (first | refine ex_i (s_loadAr tabOk rfl rfl rfl rfl (by first | exact hat | exact whole0 (by first | rfl | omega) | rfl) zln) ?_ | refine ex_i (s_loadAi tabOk rfl rfl rfl (by first | exact hat | exact whole0 (by first | rfl | omega) | rfl) zln) ?_)) | ((with_reducible refine e_slice ?_); (first | refine ex_i (s_slArri tabOk rfl rfl rfl rfl zbd zbd zle zle (by decide) (by first | exact hat | exact whole0 (by first | rfl | omega) | rfl) zln) ?_)))) | refine stA ?_ | refine stD ?_ | (refine hK _ _ _ _ ?_; clear hK hX K) | (refine hX _ _ _ _ _ (by simp) ?_; clear hK hX K))
          refine retK_mk zio (by exact ⟨bv_idle, bv_idle_b, trivial⟩) rfl (ResL.one (ResA.tmp rfl)) zou
  · rw [decide_eq_false (show ¬ bagP b from fun h => b1 (by have := h.1; omega))]
    refine ac_enter tabOk (sz := 38) Tryz.func96 rfl (by rw [Tryz.ntmps96]; rfl) ?_
    repeat' (first | ((with_reducible refine aw_seqk ?_); intro K hK hX) | ((with_reducible refine isC_reg ?_); refine aw_prune [0, 2, 3, 4, 8, 9, 10] rfl rfl ?_; with_reducible refine aw_region ?_) | ((with_reducible refine isC_draw ?_); refine aw_prune [0, 2, 3, 4, 8, 9, 10] rfl rfl ?_; refine aw_drwF [] ?_) | refine stA ?_ | refine stD ?_ | (refine hK _ _ _ _ ?_; clear hK hX K) | (refine hX _ _ _ _ _ (by simp) ?_; clear hK hX K))
    refine retK_mk zio (by exact ⟨bv_idle, bv_idle_b, trivial⟩) rfl (ResL.one (ResA.tmp rfl)) zou
end Go.Proofs.YtccnhpaldmjkbaaGreat
/-
  Positive bags; places of values in sketches (walk), as the program has them.
-/
namespace Go.Proofs.YtccnhpaldmjkbaaGreat
open Go Go.RowKit Go.Av
set_option maxRecDepth 100000
/-- The value of a column in a row. -/
def cellV (r : List Vl) (col : Nat) : Vl := r.getD col Vl.nul
/-- The place of a value in a row of a sketch. -/
def placeV (w : Nat) (v : Vl) (row : Nat) : Nat := row * w + (hashV v (UInt8.ofNat row)).toNat % w
theorem placeV_lt {w d : Nat} (v : Vl) {row : Nat} (hw : 0 < w) (hr : row < d) : placeV w v row < w * d := by
  unfold placeV
  have h1 := Nat.mod_lt (hashV v (UInt8.ofNat row)).toNat hw
  have h2 : (row + 1) * w ≤ d * w := Nat.mul_le_mul_right _ hr
  rw [Nat.add_mul, Nat.one_mul] at h2
  rw [Nat.mul_comm w d]
  omega
theorem row_byte {row : Nat} (h : row < 256) : IntKind.u8.wrap (row : Int) = ((UInt8.ofNat row).toNat : Int) := by
  rw [IntKind.wrap_u8, UInt8.toNat_ofNat']
  omega
attribute [local irreducible] Still Adds AWL AW Drw DrwE EStep AC AWR Weak Frz Src RetK Out InK ItK AsK RdK
open Classical in
set_option maxHeartbeats 4000000 in
theorem pos_ok (b : List En) (n : Nat) (hn : b.length = n) (hm : n ≤ maxLen) (hf : fitB b) : AC Tryz.prog 93 [.sl 2 n (ec b)] (.c (bv (decide (posP b)))) [] 0 := by
  have hbl : (ec b).length = n * 2 := by rw [ec_length, hn]
  have hb := bag_ok b n hn hm hf
  have hml : n ≤ 9223372036854775807 := hm
  clear hm
  by_cases b1 : bagP b
  · rw [decide_eq_true b1] at hb
    by_cases hall : ∀ i, i < n → ∀ e, b[i]? = some e → 0 ≤ e.n
    · rw [decide_eq_true (show posP b from ⟨b1, fun e he => by
        obtain ⟨i, hi⟩ := List.mem_iff_getElem?.1 he
        have := (List.getElem?_eq_some_iff.1 hi).1
        exact hall i (by omega) e hi⟩)]
      refine ac_enter tabOk (sz := 18) Tryz.func93 rfl (by rw [Tryz.ntmps93]; rfl) ?_
      repeat' (first | ((with_reducible refine aw_seqk ?_); intro K hK hX) | ((with_reducible refine isC_reg ?_); refine aw_prune [0, 2, 4, 8, 9, 10] rfl rfl ?_; with_reducible refine aw_region ?_) | ((with_reducible refine isA_call ?_); (first | refine zA ?_ | refine zN ?_); (first | refine c0 (hb) ?_)) | refine stA ?_ | (refine hK _ _ _ _ ?_; clear hK hX K) | (refine hX _ _ _ _ _ (by simp) ?_; clear hK hX K))
      refine aw_loopo [4, 5, 6, 7, 10] [] rfl rfl (fun i : Nat => [(10, .c (iv i))]) (fun i => []) (fun i => i ≤ n) (fun i => n - i) 0 (by omega) weakA ?_
      intro i hi K hK hX
      by_cases hlt : i < n
      · obtain ⟨e, he⟩ : ∃ e, b[i]? = some e := ⟨b[i]'(by omega), List.getElem?_eq_getElem _⟩
        have hat := ec_at he
        have hge := hall i hlt e he
        clear hb
        obtain ⟨r, c⟩ := e
        simp only [En.c] at *
        repeat' (first | ((with_reducible refine aw_seqk ?_); intro K hK hX) | ((with_reducible refine isC_reg ?_); refine aw_prune [0, 2, 4, 8, 9, 10] rfl rfl ?_; with_reducible refine aw_region ?_) | (((with_reducible refine isA_any ?_); refine xA ?_); (first | ((with_reducible refine e_load ?_); (first | refine ex_i (s_loadAr tabOk rfl rfl rfl rfl (by first | exact hat | exact whole0 (by first | rfl | omega) | rfl) zln) ?_ | refine ex_i (s_loadAi tabOk rfl rfl rfl (by first | exact hat | exact whole0 (by first | rfl | omega) | rfl) zln) ?_)) | ((with_reducible refine e_slice ?_); (first | refine ex_i (s_slArri tabOk rfl rfl rfl rfl zbd zbd zle zle (by decide) (by first | exact hat | exact whole0 (by first | rfl | omega) | rfl) zln) ?_)))) | refine stA ?_ | (refine hK _ _ _ _ ?_; clear hK hX K) | (refine hX _ _ _ _ _ (by simp) ?_; clear hK hX K))
        exact ⟨i + 1, by omega, by omega, weakA⟩
      · repeat' (first | ((with_reducible refine aw_seqk ?_); intro K hK hX) | ((with_reducible refine isC_reg ?_); refine aw_prune [0, 2, 4, 8, 9, 10] rfl rfl ?_; with_reducible refine aw_region ?_) | refine stA ?_ | (refine hK _ _ _ _ ?_; clear hK hX K) | (refine hX _ _ _ _ _ (by simp) ?_; clear hK hX K))
        refine retK_mk zio ztr rfl (ResL.one (ResA.tmp rfl)) zou
    · obtain ⟨q, hq, hbad, hgood⟩ := first_bad hall
      rw [decide_eq_false (show ¬ posP b from fun h => hbad fun e he => h.2 e (List.mem_of_getElem? he))]
      refine ac_enter tabOk (sz := 18) Tryz.func93 rfl (by rw [Tryz.ntmps93]; rfl) ?_
      repeat' (first | ((with_reducible refine aw_seqk ?_); intro K hK hX) | ((with_reducible refine isC_reg ?_); refine aw_prune [0, 2, 4, 8, 9, 10] rfl rfl ?_; with_reducible refine aw_region ?_) | ((with_reducible refine isA_call ?_); (first | refine zA ?_ | refine zN ?_); (first | refine c0 (hb) ?_)) | refine stA ?_ | (refine hK _ _ _ _ ?_; clear hK hX K) | (refine hX _ _ _ _ _ (by simp) ?_; clear hK hX K))
      refine aw_loopo [4, 5, 6, 7, 10] [] rfl rfl (fun i : Nat => [(10, .c (iv i))]) (fun i => []) (fun i => i ≤ q) (fun i => q - i) 0 (by omega) weakA ?_
      intro i hi K hK hX
      have hin : i < n := by omega
      obtain ⟨e, he⟩ : ∃ e, b[i]? = some e := ⟨b[i]'(by omega), List.getElem?_eq_getElem _⟩
      have hat := ec_at he
      clear hb
      by_cases hlt : i < q
      · have hge := hgood i hlt e he
        clear hbad hgood
        obtain ⟨r, c⟩ := e
        simp only [En.c] at *
        repeat' (first | ((with_reducible refine aw_seqk ?_); intro K hK hX) | ((with_reducible refine isC_reg ?_); refine aw_prune [0, 2, 4, 8, 9, 10] rfl rfl ?_; with_reducible refine aw_region ?_) | (((with_reducible refine isA_any ?_); refine xA ?_); (first | ((with_reducible refine e_load ?_); (first | refine ex_i (s_loadAr tabOk rfl rfl rfl rfl (by first | exact hat | exact whole0 (by first | rfl | omega) | rfl) zln) ?_ | refine ex_i (s_loadAi tabOk rfl rfl rfl (by first | exact hat | exact whole0 (by first | rfl | omega) | rfl) zln) ?_)) | ((with_reducible refine e_slice ?_); (first | refine ex_i (s_slArri tabOk rfl rfl rfl rfl zbd zbd zle zle (by decide) (by first | exact hat | exact whole0 (by first | rfl | omega) | rfl) zln) ?_)))) | refine stA ?_ | (refine hK _ _ _ _ ?_; clear hK hX K) | (refine hX _ _ _ _ _ (by simp) ?_; clear hK hX K))
        exact ⟨i + 1, by omega, by omega, weakA⟩
      · have hiq : i = q := by omega
        have hge : ¬ 0 ≤ e.n := fun h => hbad fun e' he' => by
          rw [← hiq, he] at he'; injection he' with he'; subst he'; exact h
        clear hbad hgood
        obtain ⟨r, c⟩ := e
        simp only [En.c] at *
        repeat' (first | ((with_reducible refine aw_seqk ?_); intro K hK hX) | ((with_reducible refine isC_reg ?_); refine aw_prune [0, 2, 4, 8, 9, 10] rfl rfl ?_; with_reducible refine aw_region ?_) | (((with_reducible refine isA_any ?_); refine xA ?_); (first | ((with_reducible refine e_load ?_); (first | refine ex_i (s_loadAr tabOk rfl rfl rfl rfl (by first | exact hat | exact whole0 (by first | rfl | omega) | rfl) zln) ?_ | refine ex_i (s_loadAi tabOk rfl rfl rfl (by first | exact hat | exact whole0 (by first | rfl | omega) | rfl) zln) ?_)) | ((with_reducible refine e_slice ?_); (first | refine ex_i (s_slArri tabOk rfl rfl rfl rfl zbd zbd zle zle (by decide) (by first | exact hat | exact whole0 (by first | rfl | omega) | rfl) zln) ?_)))) | refine stA ?_ | (refine hK _ _ _ _ ?_; clear hK hX K) | (refine hX _ _ _ _ _ (by simp) ?_; clear hK hX K))
        refine retK_mk zio ztr rfl (ResL.one (ResA.tmp rfl)) zou
  · rw [decide_eq_false b1] at hb
    rw [decide_eq_false (show ¬ posP b from fun h => b1 h.1)]
    refine ac_enter tabOk (sz := 18) Tryz.func93 rfl (by rw [Tryz.ntmps93]; rfl) ?_
    repeat' (first | ((with_reducible refine aw_seqk ?_); intro K hK hX) | ((with_reducible refine isC_reg ?_); refine aw_prune [0, 2, 4, 8, 9, 10] rfl rfl ?_; with_reducible refine aw_region ?_) | ((with_reducible refine isA_call ?_); (first | refine zA ?_ | refine zN ?_); (first | refine c0 (hb) ?_)) | refine stA ?_ | (refine hK _ _ _ _ ?_; clear hK hX K) | (refine hX _ _ _ _ _ (by simp) ?_; clear hK hX K))
    refine retK_mk zio ztr rfl (ResL.one (ResA.tmp rfl)) zou
theorem cellOf_ok (r : List Vl) (n : Nat) (hn : r.length = n) (hm : n ≤ maxLen) (col : Nat) (hc : (col : Int) ≤ 9223372036854775807) : AC Tryz.prog 120 [.sl 3 n (rc r), iv col] (.c (.agg (cellV r col).c)) [] 0 := by
  have hrl : (rc r).length = n * 3 := by rw [rc_length, hn]
  have hml : n ≤ 9223372036854775807 := hm
  clear hm
  by_cases h : col < n
  · obtain ⟨v, hv⟩ : ∃ v, r[col]? = some v := ⟨r[col]'(by omega), List.getElem?_eq_getElem _⟩
    have hat := rc_at hv
    have : cellV r col = v := by unfold cellV; rw [List.getD_eq_getElem?_getD, hv]; rfl
    rw [this]
    obtain ⟨a, m, b⟩ := v
    simp only [Vl.c] at *
    refine ac_enter tabOk (sz := 14) Tryz.func120 rfl (by rw [Tryz.ntmps120]; rfl) ?_
    repeat' (first | ((with_reducible refine aw_seqk ?_); intro K hK hX) | ((with_reducible refine isC_reg ?_); refine aw_prune [0, 1, 4] rfl rfl ?_; with_reducible refine aw_region ?_) | (((with_reducible refine isA_any ?_); refine xA ?_); (first | ((with_reducible refine e_load ?_); (first | refine ex_i (s_loadAr tabOk rfl rfl rfl rfl (by first | exact hat | exact whole0 (by first | rfl | omega) | rfl) zln) ?_ | refine ex_i (s_loadAi tabOk rfl rfl rfl (by first | exact hat | exact whole0 (by first | rfl | omega) | rfl) zln) ?_)) | ((with_reducible refine e_slice ?_); (first | refine ex_i (s_slArri tabOk rfl rfl rfl rfl zbd zbd zle zle (by decide) (by first | exact hat | exact whole0 (by first | rfl | omega) | rfl) zln) ?_)))) | refine stA ?_ | (refine hK _ _ _ _ ?_; clear hK hX K) | (refine hX _ _ _ _ _ (by simp) ?_; clear hK hX K))
    refine retK_mk zio ztr rfl (ResL.one zrs) zou
  · have : cellV r col = Vl.nul := by unfold cellV; rw [List.getD_eq_getElem?_getD, List.getElem?_eq_none (by omega)]; rfl
    rw [this]
    refine ac_enter tabOk (sz := 14) Tryz.func120 rfl (by rw [Tryz.ntmps120]; rfl) ?_
    repeat' (first | ((with_reducible refine aw_seqk ?_); intro K hK hX) | ((with_reducible refine isC_reg ?_); refine aw_prune [0, 1, 4] rfl rfl ?_; with_reducible refine aw_region ?_) | refine stA ?_ | (refine hK _ _ _ _ ?_; clear hK hX K) | (refine hX _ _ _ _ _ (by simp) ?_; clear hK hX K))
    refine retK_mk zio ztr rfl (ResL.one zrs) zou
set_option maxHeartbeats 4000000 in
theorem place_ok (nm sr : List UInt8) (col kd : Int) (w : Nat) (d : Int) (v : Vl) (row : Nat) (hw : 0 < w) (hw2 : w ≤ 1024) (hr : row < 256) : AC Tryz.prog 155 [.agg [sv nm, sv sr, iv col, iv kd, iv w, iv d], .agg v.c, iv row] (.c (iv (placeV w v row))) [] 0 := by
  have hh := hash_ok v row (UInt8.ofNat row) (row_byte hr)
  unfold placeV
  have hlt := Nat.mod_lt (hashV v (UInt8.ofNat row)).toNat hw
  generalize hashV v (UInt8.ofNat row) = x at hh hlt ⊢
  have hrem : ((x.toNat : Int)).tmod (w : Int) = ((x.toNat % w : Nat) : Int) := by
    rw [r64 (by omega), Int.natCast_emod]
  have hmul : row * w ≤ 256 * 1024 := Nat.mul_le_mul (by omega) hw2
  have hmz : (row : Int) * (w : Int) = ((row * w : Nat) : Int) := by simp
  have hm64 : IntKind.i64.wrap ((row : Int) * (w : Int)) = ((row * w : Nat) : Int) := by rw [hmz]; exact w64 (by omega) (by omega)
  generalize x.toNat % w = p at hlt hrem ⊢
  generalize row * w = q at hmul hm64 ⊢
  obtain ⟨a, m, b⟩ := v
  simp only [Vl.c] at *
  have hadd : ((q : Int) + (p : Int)) = ((q + p : Nat) : Int) := by simp
  refine ac_enter tabOk (sz := 20) Tryz.func155 rfl (by rw [Tryz.ntmps155]; rfl) ?_
  repeat' (first | ((with_reducible refine aw_seqk ?_); intro K hK hX) | ((with_reducible refine isC_reg ?_); refine aw_prune [0, 1, 2, 3, 4, 6] rfl rfl ?_; with_reducible refine aw_region ?_) | ((with_reducible refine isC_draw ?_); refine aw_prune [0, 1, 2, 3, 4, 6] rfl rfl ?_; refine aw_drwF [] ?_) | ((first | with_reducible refine isA_call ?_ | with_reducible refine isD_call ?_); (first | refine zA ?_ | refine zN ?_ | refine zD ?_); (first | refine c0 (hh) ?_)) | ((first | ((with_reducible refine isA_any ?_); refine xA ?_) | ((with_reducible refine isDk_any ?_); refine xD ?_)); (first | ((with_reducible refine e_bin ?_); (first | refine ex_i (s_arit64 rfl rfl rfl hm64) ?_ | refine ex_i (s_rem (k := .u64) rfl rfl (by omega) hrem) ?_)) | ((with_reducible refine e_conv ?_); (first | refine ex_i (s_convInt tabOk rfl rfl rfl rfl (wu64 (by omega) (by omega))) ?_)))) | refine stA ?_ | refine stD ?_ | (refine hK _ _ _ _ ?_; clear hK hX K) | (refine hX _ _ _ _ _ (by simp) ?_; clear hK hX K))
  refine retK_mk zio ztr rfl (ResL.one (ResA.tmp rfl)) zou
end Go.Proofs.YtccnhpaldmjkbaaGreat
/-
  Valid cells of sketches (walk), as the program has them.
-/
namespace Go.Proofs.YtccnhpaldmjkbaaGreat
open Go Go.RowKit Go.Av
set_option maxRecDepth 100000
def limZ (kd : Int) : Int := if kd = 0 then 1073741824 else 1
def okX (lim x : Int) : Prop := 0 ≤ x ∧ x ≤ lim
def valC (s : Sk) (l : List Int) : Prop := formP s ∧ s.kd ≠ 2 ∧ (l.length : Int) = s.w * s.d ∧ ∀ x ∈ l, okX (limZ s.kd) x
theorem intc_at {l : List Int} {i : Nat} {x : Int} (h : l[i]? = some x) : (intc .i64 l)[i]? = some (iv x) := by simp [intc, h]
attribute [local irreducible] Still Adds AWL AW Drw DrwE EStep AC AWR Weak Frz Src RetK Out InK ItK AsK RdK
theorem va_idle : Idle Tryz.prog 57 0 := by
  intro us w hl
  obtain ⟨_, rfl⟩ : ∃ _ : Unit, us = [] := by
    match us, hl with | [], _ => exact ⟨(), rfl⟩
  refine callsD_of_wpS Tryz.func57 rfl fun c₀ cs hu => ?_
  apply wpS_region
  simp [wpOpsS, go_sem, recoverD, hu, Tryz.ntmps57, Exit.thenS]
  cases c₀
  simp_all [bodyPostS, results, Tryz.results57]
theorem va_idle_b : Body Tryz.prog 57 := by unfold Body; kernel_rfl
theorem lim_ok (s : Sk) : AC Tryz.prog 60 [.agg s.c] (.c (iv (limZ s.kd))) [] 0 := by
  unfold limZ
  obtain ⟨nm, sr, col, kd, w, d⟩ := s
  simp only [Sk.c]
  by_cases h : kd = 0
  · rw [if_pos h]
    refine ac_enter tabOk (sz := 6) Tryz.func60 rfl (by rw [Tryz.ntmps60]; rfl) ?_
    repeat' (first | ((with_reducible refine aw_seqk ?_); intro K hK hX) | ((with_reducible refine isC_reg ?_); refine aw_prune [0, 1, 2] rfl rfl ?_; with_reducible refine aw_region ?_) | refine stA ?_ | (refine hK _ _ _ _ ?_; clear hK hX K) | (refine hX _ _ _ _ _ (by simp) ?_; clear hK hX K))
    refine retK_mk zio ztr rfl (ResL.one (ResA.tmp rfl)) zou
  · rw [if_neg h]
    refine ac_enter tabOk (sz := 6) Tryz.func60 rfl (by rw [Tryz.ntmps60]; rfl) ?_
    repeat' (first | ((with_reducible refine aw_seqk ?_); intro K hK hX) | ((with_reducible refine isC_reg ?_); refine aw_prune [0, 1, 2] rfl rfl ?_; with_reducible refine aw_region ?_) | refine stA ?_ | (refine hK _ _ _ _ ?_; clear hK hX K) | (refine hX _ _ _ _ _ (by simp) ?_; clear hK hX K))
    refine retK_mk zio ztr rfl (ResL.one (ResA.tmp rfl)) zou
open Classical in
set_option maxHeartbeats 4000000 in
theorem valc_ok (s : Sk) (l : List Int) (n : Nat) (hn : l.length = n) (hk : s.kd ≠ 2) (hm : n ≤ maxLen) : AC Tryz.prog 22 [.agg s.c, .sl 1 n (intc .i64 l)] (.c (bv (decide (valC s l)))) [] 0 := by
  have hml : n ≤ 9223372036854775807 := hm
  clear hm
  have hil : (intc .i64 l).length = n := by rw [intc_length, hn]
  have hf := form_ok s
  have hl := lim_ok s
  by_cases f1 : formP s
  · rw [form_t f1] at hf
    have f0 := f1
    obtain ⟨w1, w2, d1, d2, p1, p2⟩ := f0
    have p0 : 0 ≤ s.w * s.d := Int.mul_nonneg (by omega) (by omega)
    by_cases f2 : (n : Int) = s.w * s.d
    · by_cases hall : ∀ i, i < n → ∀ x, l[i]? = some x → okX (limZ s.kd) x
      · rw [decide_eq_true (show valC s l from ⟨f1, hk, by rw [hn]; exact f2, fun x hx => by
          obtain ⟨i, hi⟩ := List.mem_iff_getElem?.1 hx
          have := (List.getElem?_eq_some_iff.1 hi).1
          exact hall i (by omega) x hi⟩)]
        generalize limZ s.kd = lim at hl hall
        obtain ⟨nm, sr, col, kd, w, d⟩ := s
        simp only [Sk.c] at *
        refine ac_enter tabOk (sz := 31) Tryz.func22 rfl (by rw [Tryz.ntmps22]; rfl) ?_
        repeat' (first | ((with_reducible refine aw_seqk ?_); intro K hK hX) | ((with_reducible refine isC_reg ?_); refine aw_prune [0, 1, 2, 3, 4, 5, 7, 8] rfl rfl ?_; with_reducible refine aw_region ?_) | ((with_reducible refine isA_call ?_); (first | refine zA ?_ | refine zN ?_); (first | refine c0 (hf) ?_ | refine c0 (hl) ?_)) | ((first | with_reducible refine isA_call ?_ | with_reducible refine isA_callv ?_); refine awl_inl tabOk [0, 1, 2, 3, 4, 5, 6, 7, 8, 9, 10, 11, 12, 13, 14, 15, 16, 17, 18, 19, 20, 21, 22, 23, 24, 25, 26, 27, 28, 29, 30] (by first | exact g_none | exact (g_some rfl rfl zgb)) rfl rfl zby Tryz.func61 rfl rfl rfl (szf := 9) (by rw [Tryz.ntmps61]; rfl) rfl ?_) | ((first | with_reducible refine isA_call ?_ | with_reducible refine isA_callv ?_); refine awl_inl tabOk [0, 1, 2, 3, 4, 5, 6, 7, 8, 9, 10, 11, 12, 13, 14, 15, 16, 17, 18, 19, 20, 21, 22, 23, 24, 25, 26, 27, 28, 29, 30] (by first | exact g_none | exact (g_some rfl rfl zgb)) rfl rfl zby Tryz.func117 rfl rfl rfl (szf := 19) (by rw [Tryz.ntmps117]; rfl) rfl ?_) | ((first | with_reducible refine isA_call ?_ | with_reducible refine isA_callv ?_); refine awl_inl tabOk [0, 1, 2, 3, 4, 5, 6, 7, 8, 9, 10, 11, 12, 13, 14, 15, 16, 17, 18, 19, 20, 21, 22, 23, 24, 25, 26, 27, 28, 29, 30] (by first | exact g_none | exact (g_some rfl rfl zgb)) rfl rfl zby Tryz.func62 rfl rfl rfl (szf := 11) (by rw [Tryz.ntmps62]; rfl) rfl ?_) | refine stA ?_ | (refine hK _ _ _ _ ?_; clear hK hX K) | (refine hX _ _ _ _ _ (by simp) ?_; clear hK hX K) | (first | refine inK_some zio ztr rfl rfl (ResL.one (ResA.tmp rfl)) ?_ | refine inK_none zio ztr rfl rfl (ResL.one (ResA.tmp rfl)) ?_))
        refine aw_loopo [5, 6, 8] [] rfl rfl (fun i : Nat => [(8, .c (iv i))]) (fun i => []) (fun i => i ≤ n) (fun i => n - i) 0 (by omega) weakA ?_
        intro i hi K hK hX
        by_cases hlt : i < n
        · obtain ⟨x, hx⟩ : ∃ x, l[i]? = some x := ⟨l[i]'(by omega), List.getElem?_eq_getElem _⟩
          obtain ⟨x1, x2⟩ := hall i hlt x hx
          have hxa := intc_at hx
          clear hf hl
          repeat' (first | ((with_reducible refine aw_seqk ?_); intro K hK hX) | ((with_reducible refine isC_reg ?_); refine aw_prune [0, 1, 2, 3, 4, 5, 7, 8] rfl rfl ?_; with_reducible refine aw_region ?_) | ((first | with_reducible refine isA_call ?_ | with_reducible refine isA_callv ?_); refine awl_inl tabOk [0, 1, 2, 3, 4, 5, 6, 7, 8, 9, 10, 11, 12, 13, 14, 15, 16, 17, 18, 19, 20, 21, 22, 23, 24, 25, 26, 27, 28, 29, 30] g_none rfl rfl zby Tryz.func61 rfl rfl rfl (szf := 9) (by rw [Tryz.ntmps61]; rfl) rfl ?_) | ((first | with_reducible refine isA_call ?_ | with_reducible refine isA_callv ?_); refine awl_inl tabOk [0, 1, 2, 3, 4, 5, 6, 7, 8, 9, 10, 11, 12, 13, 14, 15, 16, 17, 18, 19, 20, 21, 22, 23, 24, 25, 26, 27, 28, 29, 30] g_none rfl rfl zby Tryz.func117 rfl rfl rfl (szf := 19) (by rw [Tryz.ntmps117]; rfl) rfl ?_) | ((first | with_reducible refine isA_call ?_ | with_reducible refine isA_callv ?_); refine awl_inl tabOk [0, 1, 2, 3, 4, 5, 6, 7, 8, 9, 10, 11, 12, 13, 14, 15, 16, 17, 18, 19, 20, 21, 22, 23, 24, 25, 26, 27, 28, 29, 30] g_none rfl rfl zby Tryz.func62 rfl rfl rfl (szf := 11) (by rw [Tryz.ntmps62]; rfl) rfl ?_) | (((with_reducible refine isA_any ?_); refine xA ?_); (first | ((with_reducible refine e_load ?_); (first | refine ex_i (s_load1 tabOk rfl rfl rfl rfl (by (rw [Nat.mul_one]; exact hxa))) ?_ | refine ex_i (s_load1r tabOk rfl rfl rfl rfl (by (rw [Nat.mul_one]; exact hxa))) ?_ | refine ex_i (s_load1i tabOk rfl rfl rfl (by (rw [Nat.mul_one]; exact hxa))) ?_)) | ((with_reducible refine e_ix ?_); (first | refine ex_i (s_ixV1 tabOk rfl rfl zcj rfl rfl rfl rfl rfl zle (by (rw [Nat.mul_one]; exact hxa))) ?_ | refine ex_i (s_ixStr tabOk rfl rfl zcj rfl rfl (by (rw [Nat.mul_one]; exact hxa))) ?_)))) | refine stA ?_ | (refine hK _ _ _ _ ?_; clear hK hX K) | (refine hX _ _ _ _ _ (by simp) ?_; clear hK hX K) | (first | refine inK_some zio ztr rfl rfl (ResL.one (ResA.tmp rfl)) ?_ | refine inK_none zio ztr rfl rfl (ResL.one (ResA.tmp rfl)) ?_))
          exact ⟨i + 1, by omega, by omega, weakA⟩
        · clear hf hl
          repeat' (first | ((with_reducible refine aw_seqk ?_); intro K hK hX) | ((with_reducible refine isC_reg ?_); refine aw_prune [0, 1, 2, 3, 4, 5, 7, 8] rfl rfl ?_; with_reducible refine aw_region ?_) | ((first | with_reducible refine isA_call ?_ | with_reducible refine isA_callv ?_); refine awl_inl tabOk [0, 1, 2, 3, 4, 5, 6, 7, 8, 9, 10, 11, 12, 13, 14, 15, 16, 17, 18, 19, 20, 21, 22, 23, 24, 25, 26, 27, 28, 29, 30] g_none rfl rfl zby Tryz.func61 rfl rfl rfl (szf := 9) (by rw [Tryz.ntmps61]; rfl) rfl ?_) | ((first | with_reducible refine isA_call ?_ | with_reducible refine isA_callv ?_); refine awl_inl tabOk [0, 1, 2, 3, 4, 5, 6, 7, 8, 9, 10, 11, 12, 13, 14, 15, 16, 17, 18, 19, 20, 21, 22, 23, 24, 25, 26, 27, 28, 29, 30] g_none rfl rfl zby Tryz.func117 rfl rfl rfl (szf := 19) (by rw [Tryz.ntmps117]; rfl) rfl ?_) | ((first | with_reducible refine isA_call ?_ | with_reducible refine isA_callv ?_); refine awl_inl tabOk [0, 1, 2, 3, 4, 5, 6, 7, 8, 9, 10, 11, 12, 13, 14, 15, 16, 17, 18, 19, 20, 21, 22, 23, 24, 25, 26, 27, 28, 29, 30] g_none rfl rfl zby Tryz.func62 rfl rfl rfl (szf := 11) (by rw [Tryz.ntmps62]; rfl) rfl ?_) | refine stA ?_ | (refine hK _ _ _ _ ?_; clear hK hX K) | (refine hX _ _ _ _ _ (by simp) ?_; clear hK hX K) | (first | refine inK_some zio ztr rfl rfl (ResL.one (ResA.tmp rfl)) ?_ | refine inK_none zio ztr rfl rfl (ResL.one (ResA.tmp rfl)) ?_))
          refine retK_mk zio (by exact ⟨va_idle, va_idle_b, trivial⟩) rfl (ResL.one (ResA.tmp rfl)) zou
      · obtain ⟨q, hq, hbad, hgood⟩ := first_bad hall
        rw [decide_eq_false (show ¬ valC s l from fun h => hbad fun x hx => h.2.2.2 x (List.mem_of_getElem? hx))]
        generalize limZ s.kd = lim at hl hbad hgood
        obtain ⟨nm, sr, col, kd, w, d⟩ := s
        simp only [Sk.c] at *
        refine ac_enter tabOk (sz := 31) Tryz.func22 rfl (by rw [Tryz.ntmps22]; rfl) ?_
        repeat' (first | ((with_reducible refine aw_seqk ?_); intro K hK hX) | ((with_reducible refine isC_reg ?_); refine aw_prune [0, 1, 2, 3, 4, 5, 7, 8] rfl rfl ?_; with_reducible refine aw_region ?_) | ((with_reducible refine isA_call ?_); (first | refine zA ?_ | refine zN ?_); (first | refine c0 (hf) ?_ | refine c0 (hl) ?_)) | ((first | with_reducible refine isA_call ?_ | with_reducible refine isA_callv ?_); refine awl_inl tabOk [0, 1, 2, 3, 4, 5, 6, 7, 8, 9, 10, 11, 12, 13, 14, 15, 16, 17, 18, 19, 20, 21, 22, 23, 24, 25, 26, 27, 28, 29, 30] (by first | exact g_none | exact (g_some rfl rfl zgb)) rfl rfl zby Tryz.func61 rfl rfl rfl (szf := 9) (by rw [Tryz.ntmps61]; rfl) rfl ?_) | ((first | with_reducible refine isA_call ?_ | with_reducible refine isA_callv ?_); refine awl_inl tabOk [0, 1, 2, 3, 4, 5, 6, 7, 8, 9, 10, 11, 12, 13, 14, 15, 16, 17, 18, 19, 20, 21, 22, 23, 24, 25, 26, 27, 28, 29, 30] (by first | exact g_none | exact (g_some rfl rfl zgb)) rfl rfl zby Tryz.func117 rfl rfl rfl (szf := 19) (by rw [Tryz.ntmps117]; rfl) rfl ?_) | ((first | with_reducible refine isA_call ?_ | with_reducible refine isA_callv ?_); refine awl_inl tabOk [0, 1, 2, 3, 4, 5, 6, 7, 8, 9, 10, 11, 12, 13, 14, 15, 16, 17, 18, 19, 20, 21, 22, 23, 24, 25, 26, 27, 28, 29, 30] (by first | exact g_none | exact (g_some rfl rfl zgb)) rfl rfl zby Tryz.func62 rfl rfl rfl (szf := 11) (by rw [Tryz.ntmps62]; rfl) rfl ?_) | refine stA ?_ | (refine hK _ _ _ _ ?_; clear hK hX K) | (refine hX _ _ _ _ _ (by simp) ?_; clear hK hX K) | (first | refine inK_some zio ztr rfl rfl (ResL.one (ResA.tmp rfl)) ?_ | refine inK_none zio ztr rfl rfl (ResL.one (ResA.tmp rfl)) ?_))
        refine aw_loopo [5, 6, 8] [] rfl rfl (fun i : Nat => [(8, .c (iv i))]) (fun i => []) (fun i => i ≤ q) (fun i => q - i) 0 (by omega) weakA ?_
        intro i hi K hK hX
        have hin : i < n := by omega
        obtain ⟨x, hx⟩ : ∃ x, l[i]? = some x := ⟨l[i]'(by omega), List.getElem?_eq_getElem _⟩
        have hxa := intc_at hx
        by_cases hlt : i < q
        · obtain ⟨x1, x2⟩ := hgood i hlt x hx
          clear hf hl hbad hgood
          repeat' (first | ((with_reducible refine aw_seqk ?_); intro K hK hX) | ((with_reducible refine isC_reg ?_); refine aw_prune [0, 1, 2, 3, 4, 5, 7, 8] rfl rfl ?_; with_reducible refine aw_region ?_) | ((first | with_reducible refine isA_call ?_ | with_reducible refine isA_callv ?_); refine awl_inl tabOk [0, 1, 2, 3, 4, 5, 6, 7, 8, 9, 10, 11, 12, 13, 14, 15, 16, 17, 18, 19, 20, 21, 22, 23, 24, 25, 26, 27, 28, 29, 30] g_none rfl rfl zby Tryz.func61 rfl rfl rfl (szf := 9) (by rw [Tryz.ntmps61]; rfl) rfl ?_) | ((first | with_reducible refine isA_call ?_ | with_reducible refine isA_callv ?_); refine awl_inl tabOk [0, 1, 2, 3, 4, 5, 6, 7, 8, 9, 10, 11, 12, 13, 14, 15, 16, 17, 18, 19, 20, 21, 22, 23, 24, 25, 26, 27, 28, 29, 30] g_none rfl rfl zby Tryz.func117 rfl rfl rfl (szf := 19) (by rw [Tryz.ntmps117]; rfl) rfl ?_) | ((first | with_reducible refine isA_call ?_ | with_reducible refine isA_callv ?_); refine awl_inl tabOk [0, 1, 2, 3, 4, 5, 6, 7, 8, 9, 10, 11, 12, 13, 14, 15, 16, 17, 18, 19, 20, 21, 22, 23, 24, 25, 26, 27, 28, 29, 30] g_none rfl rfl zby Tryz.func62 rfl rfl rfl (szf := 11) (by rw [Tryz.ntmps62]; rfl) rfl ?_) | (((with_reducible refine isA_any ?_); refine xA ?_); (first | ((with_reducible refine e_load ?_); (first | refine ex_i (s_load1 tabOk rfl rfl rfl rfl (by (rw [Nat.mul_one]; exact hxa))) ?_ | refine ex_i (s_load1r tabOk rfl rfl rfl rfl (by (rw [Nat.mul_one]; exact hxa))) ?_ | refine ex_i (s_load1i tabOk rfl rfl rfl (by (rw [Nat.mul_one]; exact hxa))) ?_)) | ((with_reducible refine e_ix ?_); (first | refine ex_i (s_ixV1 tabOk rfl rfl zcj rfl rfl rfl rfl rfl zle (by (rw [Nat.mul_one]; exact hxa))) ?_ | refine ex_i (s_ixStr tabOk rfl rfl zcj rfl rfl (by (rw [Nat.mul_one]; exact hxa))) ?_)))) | refine stA ?_ | (refine hK _ _ _ _ ?_; clear hK hX K) | (refine hX _ _ _ _ _ (by simp) ?_; clear hK hX K) | (first | refine inK_some zio ztr rfl rfl (ResL.one (ResA.tmp rfl)) ?_ | refine inK_none zio ztr rfl rfl (ResL.one (ResA.tmp rfl)) ?_))
          exact ⟨i + 1, by omega, by omega, weakA⟩
        · have hiq : i = q := by omega
          have hnx : ¬ okX lim x := fun h => hbad fun y hy => by
            rw [← hiq, hx] at hy; injection hy with hy; subst hy; exact h
          clear hf hl hbad hgood
          by_cases x1 : x < 0
          · repeat' (first | ((with_reducible refine aw_seqk ?_); intro K hK hX) | ((with_reducible refine isC_reg ?_); refine aw_prune [0, 1, 2, 3, 4, 5, 7, 8] rfl rfl ?_; with_reducible refine aw_region ?_) | ((first | with_reducible refine isA_call ?_ | with_reducible refine isA_callv ?_); refine awl_inl tabOk [0, 1, 2, 3, 4, 5, 6, 7, 8, 9, 10, 11, 12, 13, 14, 15, 16, 17, 18, 19, 20, 21, 22, 23, 24, 25, 26, 27, 28, 29, 30] g_none rfl rfl zby Tryz.func61 rfl rfl rfl (szf := 9) (by rw [Tryz.ntmps61]; rfl) rfl ?_) | ((first | with_reducible refine isA_call ?_ | with_reducible refine isA_callv ?_); refine awl_inl tabOk [0, 1, 2, 3, 4, 5, 6, 7, 8, 9, 10, 11, 12, 13, 14, 15, 16, 17, 18, 19, 20, 21, 22, 23, 24, 25, 26, 27, 28, 29, 30] g_none rfl rfl zby Tryz.func117 rfl rfl rfl (szf := 19) (by rw [Tryz.ntmps117]; rfl) rfl ?_) | ((first | with_reducible refine isA_call ?_ | with_reducible refine isA_callv ?_); refine awl_inl tabOk [0, 1, 2, 3, 4, 5, 6, 7, 8, 9, 10, 11, 12, 13, 14, 15, 16, 17, 18, 19, 20, 21, 22, 23, 24, 25, 26, 27, 28, 29, 30] g_none rfl rfl zby Tryz.func62 rfl rfl rfl (szf := 11) (by rw [Tryz.ntmps62]; rfl) rfl ?_) | (((with_reducible refine isA_any ?_); refine xA ?_); (first | ((with_reducible refine e_load ?_); (first | refine ex_i (s_load1 tabOk rfl rfl rfl rfl (by (rw [Nat.mul_one]; exact hxa))) ?_ | refine ex_i (s_load1r tabOk rfl rfl rfl rfl (by (rw [Nat.mul_one]; exact hxa))) ?_ | refine ex_i (s_load1i tabOk rfl rfl rfl (by (rw [Nat.mul_one]; exact hxa))) ?_)) | ((with_reducible refine e_ix ?_); (first | refine ex_i (s_ixV1 tabOk rfl rfl zcj rfl rfl rfl rfl rfl zle (by (rw [Nat.mul_one]; exact hxa))) ?_ | refine ex_i (s_ixStr tabOk rfl rfl zcj rfl rfl (by (rw [Nat.mul_one]; exact hxa))) ?_)))) | refine stA ?_ | (refine hK _ _ _ _ ?_; clear hK hX K) | (refine hX _ _ _ _ _ (by simp) ?_; clear hK hX K) | (first | refine inK_some zio ztr rfl rfl (ResL.one (ResA.tmp rfl)) ?_ | refine inK_none zio ztr rfl rfl (ResL.one (ResA.tmp rfl)) ?_))
            refine retK_mk zio (by exact ⟨va_idle, va_idle_b, trivial⟩) rfl (ResL.one (ResA.tmp rfl)) zou
          · have x2 : lim < x := Classical.byContradiction fun h => hnx ⟨by omega, by omega⟩
            repeat' (first | ((with_reducible refine aw_seqk ?_); intro K hK hX) | ((with_reducible refine isC_reg ?_); refine aw_prune [0, 1, 2, 3, 4, 5, 7, 8] rfl rfl ?_; with_reducible refine aw_region ?_) | ((first | with_reducible refine isA_call ?_ | with_reducible refine isA_callv ?_); refine awl_inl tabOk [0, 1, 2, 3, 4, 5, 6, 7, 8, 9, 10, 11, 12, 13, 14, 15, 16, 17, 18, 19, 20, 21, 22, 23, 24, 25, 26, 27, 28, 29, 30] g_none rfl rfl zby Tryz.func61 rfl rfl rfl (szf := 9) (by rw [Tryz.ntmps61]; rfl) rfl ?_) | ((first | with_reducible refine isA_call ?_ | with_reducible refine isA_callv ?_); refine awl_inl tabOk [0, 1, 2, 3, 4, 5, 6, 7, 8, 9, 10, 11, 12, 13, 14, 15, 16, 17, 18, 19, 20, 21, 22, 23, 24, 25, 26, 27, 28, 29, 30] g_none rfl rfl zby Tryz.func117 rfl rfl rfl (szf := 19) (by rw [Tryz.ntmps117]; rfl) rfl ?_) | ((first | with_reducible refine isA_call ?_ | with_reducible refine isA_callv ?_); refine awl_inl tabOk [0, 1, 2, 3, 4, 5, 6, 7, 8, 9, 10, 11, 12, 13, 14, 15, 16, 17, 18, 19, 20, 21, 22, 23, 24, 25, 26, 27, 28, 29, 30] g_none rfl rfl zby Tryz.func62 rfl rfl rfl (szf := 11) (by rw [Tryz.ntmps62]; rfl) rfl ?_) | (((with_reducible refine isA_any ?_); refine xA ?_); (first | ((with_reducible refine e_load ?_); (first | refine ex_i (s_load1 tabOk rfl rfl rfl rfl (by (rw [Nat.mul_one]; exact hxa))) ?_ | refine ex_i (s_load1r tabOk rfl rfl rfl rfl (by (rw [Nat.mul_one]; exact hxa))) ?_ | refine ex_i (s_load1i tabOk rfl rfl rfl (by (rw [Nat.mul_one]; exact hxa))) ?_)) | ((with_reducible refine e_ix ?_); (first | refine ex_i (s_ixV1 tabOk rfl rfl zcj rfl rfl rfl rfl rfl zle (by (rw [Nat.mul_one]; exact hxa))) ?_ | refine ex_i (s_ixStr tabOk rfl rfl zcj rfl rfl (by (rw [Nat.mul_one]; exact hxa))) ?_)))) | refine stA ?_ | (refine hK _ _ _ _ ?_; clear hK hX K) | (refine hX _ _ _ _ _ (by simp) ?_; clear hK hX K) | (first | refine inK_some zio ztr rfl rfl (ResL.one (ResA.tmp rfl)) ?_ | refine inK_none zio ztr rfl rfl (ResL.one (ResA.tmp rfl)) ?_))
            refine retK_mk zio (by exact ⟨va_idle, va_idle_b, trivial⟩) rfl (ResL.one (ResA.tmp rfl)) zou
    · rw [decide_eq_false (show ¬ valC s l from fun h => f2 (by rw [← hn]; exact h.2.2.1))]
      obtain ⟨nm, sr, col, kd, w, d⟩ := s
      simp only [Sk.c] at *
      refine ac_enter tabOk (sz := 31) Tryz.func22 rfl (by rw [Tryz.ntmps22]; rfl) ?_
      repeat' (first | ((with_reducible refine aw_seqk ?_); intro K hK hX) | ((with_reducible refine isC_reg ?_); refine aw_prune [0, 1, 2, 4, 5] rfl rfl ?_; with_reducible refine aw_region ?_) | ((with_reducible refine isA_call ?_); (first | refine zA ?_ | refine zN ?_); (first | refine c0 (hf) ?_ | refine c0 (hl) ?_)) | refine stA ?_ | (refine hK _ _ _ _ ?_; clear hK hX K) | (refine hX _ _ _ _ _ (by simp) ?_; clear hK hX K))
      refine retK_mk zio (by exact ⟨va_idle, va_idle_b, trivial⟩) rfl (ResL.one (ResA.tmp rfl)) zou
  · rw [form_f f1] at hf
    rw [decide_eq_false (show ¬ valC s l from fun h => f1 h.1)]
    obtain ⟨nm, sr, col, kd, w, d⟩ := s
    simp only [Sk.c] at *
    refine ac_enter tabOk (sz := 31) Tryz.func22 rfl (by rw [Tryz.ntmps22]; rfl) ?_
    repeat' (first | ((with_reducible refine aw_seqk ?_); intro K hK hX) | ((with_reducible refine isC_reg ?_); refine aw_prune [0, 1, 2, 4, 5] rfl rfl ?_; with_reducible refine aw_region ?_) | ((with_reducible refine isA_call ?_); (first | refine zA ?_ | refine zN ?_); (first | refine c0 (hf) ?_)) | refine stA ?_ | (refine hK _ _ _ _ ?_; clear hK hX K) | (refine hX _ _ _ _ _ (by simp) ?_; clear hK hX K))
    refine retK_mk zio (by exact ⟨va_idle, va_idle_b, trivial⟩) rfl (ResL.one (ResA.tmp rfl)) zou
end Go.Proofs.YtccnhpaldmjkbaaGreat
/-
  Clone, estimates, and sketches that are built (walk), as the program has them.
-/
namespace Go.Proofs.YtccnhpaldmjkbaaGreat
open Go Go.RowKit Go.Av
set_option maxRecDepth 100000
section
variable {P : Program} {tab : Tab} {ev : Evl} {h : Heap} {d : Option Tmp} {T T' ty : TypeId} {x y : Operand} {pos : String} {aft : Array Edge} {gd : Option (Nat × Bool)}
theorem s_eqnilC (tb : TabOk P tab) {e : TyE} {E size n : Nat} {cs : List CV} (hn : 0 < n) (hT : tyLook tab T = some e) (hk : e.kind = .slice E) (hx : ev x = some (.c (.sl size n cs))) (hy : ev y = some (.c (.v (.slice none 0 0)))) : Still P ⟨d, .binOp .eql T x y T', ty, pos, aft, gd⟩ ev h (.c (bv false)) := by
  intro B dom M H w a hh hc he
  have h1 := he x _ hx
  have h2 := he y _ hy
  simp only [Rep, RepC] at h1 h2
  obtain ⟨A, c, us, e1, e2, e3, e4, e5, e7, e6⟩ := h1
  obtain ⟨b, o, rfl, _⟩ := e6 hn
  refine ⟨.bool false, ?_, rfl⟩
  have hr := run_equal_slice_nil (P := P) w T E (some ⟨b, o, none⟩) n c ((tyLook_ok tb hT).slice hk)
  simp [execOp, e1, h2, eqGuard, binOp, hr]
end
def leastN (l : List Int) (w : Nat) (v : Vl) : Nat → Int
  | 0 => l.getD (placeV w v 0) 0
  | i + 1 => if l.getD (placeV w v i) 0 < leastN l w v i then l.getD (placeV w v i) 0 else leastN l w v i
attribute [local irreducible] Still Adds AWL AW Drw DrwE EStep AC AWR Weak Frz Src RetK Out InK ItK AsK RdK
set_option maxHeartbeats 4000000 in
theorem clone64_ok (l : List Int) (n : Nat) (hn : l.length = n) (hp : 0 < n) (hb : n ≤ 1000000) : AC Tryz.prog 124 [.sl 1 n (intc .i64 l)] (.own 0 0 n 1 true) [(0, .row 2 (intc .i64 l))] 1 := by
  have hil : (intc .i64 l).length = n := by rw [intc_length, hn]
  refine ac_enter tabOk (sz := 8) Tryz.func124 rfl (by rw [Tryz.ntmps124]; rfl) ?_
  repeat' (first | ((with_reducible refine aw_seqk ?_); intro K hK hX) | ((with_reducible refine isC_reg ?_); refine aw_prune [0, 2] rfl rfl ?_; with_reducible refine aw_region ?_) | (((with_reducible refine isA_any ?_); refine xA ?_); (first | ((with_reducible refine e_bin ?_); (first | refine ex_i (s_eqnilC tabOk hp rfl rfl rfl rfl) ?_)))) | refine stA ?_ | (refine hK _ _ _ _ ?_; clear hK hX K) | (refine hX _ _ _ _ _ (by simp) ?_; clear hK hX K))
  rw [Nat.zero_add n, List.nil_append]
  refine retK_mk zio ztr rfl (ResL.one (ResA.tmp rfl)) zou
theorem getD_at {l : List Int} {i : Nat} (h : i < l.length) : l[i]? = some (l.getD i 0) := by
  rw [List.getD_eq_getElem?_getD, List.getElem?_eq_getElem h]; rfl
set_option maxHeartbeats 4000000 in
theorem least_ok (nm sr : List UInt8) (col kd : Int) (w d : Nat) (v : Vl) (l : List Int) (n : Nat) (hn : l.length = n) (hw : 0 < w) (hw2 : w ≤ 1024) (hd : 0 < d) (hd2 : d ≤ 8) (hwd : n = w * d) : AC Tryz.prog 125 [.agg [sv nm, sv sr, iv col, iv kd, iv w, iv d], .sl 1 n (intc .i64 l), .agg v.c] (.c (iv (leastN l w v d))) [] 0 := by
  have hil : (intc .i64 l).length = n := by rw [intc_length, hn]
  obtain ⟨g, hg⟩ : ∃ g : Nat → Int, ∀ i, g i = l.getD (placeV w v i) 0 := ⟨_, fun _ => rfl⟩
  have hat : ∀ i, i < d → (intc .i64 l)[placeV w v i]? = some (iv (g i)) := fun i h => by
    rw [hg]
    have := placeV_lt (d := d) v hw h
    exact intc_at (getD_at (by omega))
  have hpl := fun (row : Nat) (h : row < 256) => place_ok nm sr col kd w d v row hw hw2 h
  have hlt : ∀ i, i < d → placeV w v i < n := fun i h => by rw [hwd]; exact placeV_lt v hw h
  have e0 : leastN l w v 0 = g 0 := (hg 0).symm
  have es : ∀ i, (if g i < leastN l w v i then g i else leastN l w v i) = leastN l w v (i + 1) := fun i => by rw [hg]; rfl
  generalize placeV w v = pl at *
  generalize leastN l w v = le at *
  obtain ⟨a, m, b⟩ := v
  simp only [Vl.c] at *
  have h0 := hpl 0 (by decide)
  have a0 := hat 0 hd
  have p0 := hlt 0 hd
  rw [← e0] at a0
  refine ac_enter tabOk (sz := 31) Tryz.func125 rfl (by rw [Tryz.ntmps125]; rfl) ?_
  repeat' (first | ((with_reducible refine aw_seqk ?_); intro K hK hX) | ((with_reducible refine isC_reg ?_); refine aw_prune [0, 1, 2, 3, 5, 6, 7, 8, 16, 17] rfl rfl ?_; with_reducible refine aw_region ?_) | ((with_reducible refine isA_call ?_); (first | refine zA ?_ | refine zN ?_); (first | refine c0 (h0) ?_)) | (((with_reducible refine isA_any ?_); refine xA ?_); (first | ((with_reducible refine e_load ?_); (first | refine ex_i (s_load1 tabOk rfl rfl rfl rfl (by (rw [Nat.mul_one]; exact a0))) ?_ | refine ex_i (s_load1r tabOk rfl rfl rfl rfl (by (rw [Nat.mul_one]; exact a0))) ?_ | refine ex_i (s_load1i tabOk rfl rfl rfl (by (rw [Nat.mul_one]; exact a0))) ?_)) | ((with_reducible refine e_ix ?_); (first | refine ex_i (s_ixV1 tabOk rfl rfl zcj rfl rfl rfl rfl rfl zle (by (rw [Nat.mul_one]; exact a0))) ?_ | refine ex_i (s_ixStr tabOk rfl rfl zcj rfl rfl (by (rw [Nat.mul_one]; exact a0))) ?_)))) | refine stA ?_ | (refine hK _ _ _ _ ?_; clear hK hX K) | (refine hX _ _ _ _ _ (by simp) ?_; clear hK hX K))
  refine aw_loopo [7, 8, 15, 17] [] rfl rfl (fun i : Nat => [(7, .c (iv (le i))), (17, .c (iv i))]) (fun i => []) (fun i => i ≤ d) (fun i => d - i) 0 (by omega) weakA ?_
  intro i hi K hK hX
  by_cases hld : i < d
  · have hi0 := hpl i (by omega)
    have ai := hat i hld
    have pi := hlt i hld
    have ei := es i
    generalize g i = gi at ai ei
    clear hpl hat hlt es e0 hg
    repeat' (first | ((with_reducible refine aw_seqk ?_); intro K hK hX) | ((with_reducible refine isC_reg ?_); refine aw_prune [0, 1, 2, 3, 5, 6, 7, 8, 16, 17] rfl rfl ?_; with_reducible refine aw_region ?_) | ((with_reducible refine isA_call ?_); (first | refine zA ?_ | refine zN ?_); (first | refine c0 (hi0) ?_)) | (((with_reducible refine isA_any ?_); refine xA ?_); (first | ((with_reducible refine e_bi ?_); (first | refine ex_i (s_min rfl rfl ei) ?_)) | ((with_reducible refine e_load ?_); (first | refine ex_i (s_load1 tabOk rfl rfl rfl rfl (by (rw [Nat.mul_one]; exact ai))) ?_ | refine ex_i (s_load1r tabOk rfl rfl rfl rfl (by (rw [Nat.mul_one]; exact ai))) ?_ | refine ex_i (s_load1i tabOk rfl rfl rfl (by (rw [Nat.mul_one]; exact ai))) ?_)) | ((with_reducible refine e_ix ?_); (first | refine ex_i (s_ixV1 tabOk rfl rfl zcj rfl rfl rfl rfl rfl zle (by (rw [Nat.mul_one]; exact ai))) ?_ | refine ex_i (s_ixStr tabOk rfl rfl zcj rfl rfl (by (rw [Nat.mul_one]; exact ai))) ?_)))) | refine stA ?_ | (refine hK _ _ _ _ ?_; clear hK hX K) | (refine hX _ _ _ _ _ (by simp) ?_; clear hK hX K))
    exact ⟨i + 1, by omega, by omega, weakA⟩
  · have hid : i = d := by omega
    rw [hid]
    repeat' (first | ((with_reducible refine aw_seqk ?_); intro K hK hX) | ((with_reducible refine isC_reg ?_); refine aw_prune [0, 1, 2, 3, 5, 6, 7, 8, 16, 17] rfl rfl ?_; with_reducible refine aw_region ?_) | refine stA ?_ | (refine hK _ _ _ _ ?_; clear hK hX K) | (refine hX _ _ _ _ _ (by simp) ?_; clear hK hX K))
    refine retK_mk zio ztr rfl (ResL.one (ResA.tmp rfl)) zou
end Go.Proofs.YtccnhpaldmjkbaaGreat
/-
  Estimates, and sketches that are built (walk), as the program has them.
-/
namespace Go.Proofs.YtccnhpaldmjkbaaGreat
open Go Go.RowKit Go.Av
set_option maxRecDepth 100000
def putP (kd : Int) (l : List Int) (p : Nat) (n : Int) : List Int := l.set p (if kd = 0 then l.getD p 0 + n else 1)
def addN (kd : Int) (w : Nat) (v : Vl) (n : Int) (l : List Int) : Nat → List Int
  | 0 => l
  | i + 1 => putP kd (addN kd w v n l i) (placeV w v i) n
def stepE (kd : Int) (w d col : Nat) (l : List Int) (e : En) : List Int := if (cellV e.r col).k = 0 then l else addN kd w (cellV e.r col) e.n l d
def buildN (kd : Int) (w d col : Nat) (b : List En) (i : Nat) : List Int := (b.take i).foldl (stepE kd w d col) (List.replicate (w * d) 0)
theorem buildN_step {kd : Int} {w d col : Nat} {b : List En} {i : Nat} {e : En} (h : b[i]? = some e) : buildN kd w d col b (i + 1) = stepE kd w d col (buildN kd w d col b i) e := by
  unfold buildN
  rw [List.take_add_one, h]
  simp
theorem putP_length (kd : Int) (l : List Int) (p : Nat) (n : Int) : (putP kd l p n).length = l.length := by simp [putP]
theorem addN_length (kd : Int) (w : Nat) (v : Vl) (n : Int) (l : List Int) (i : Nat) : (addN kd w v n l i).length = l.length := by
  induction i with
  | zero => rfl
  | succ i ih => rw [addN, putP_length, ih]
theorem stepE_length (kd : Int) (w d col : Nat) (l : List Int) (e : En) : (stepE kd w d col l e).length = l.length := by
  unfold stepE
  split
  · rfl
  · exact addN_length ..
theorem foldl_length {kd : Int} {w d col : Nat} (b : List En) (l : List Int) : (b.foldl (stepE kd w d col) l).length = l.length := by
  induction b generalizing l with
  | nil => rfl
  | cons e b ih => rw [List.foldl_cons, ih, stepE_length]
theorem buildN_length (kd : Int) (w d col : Nat) (b : List En) (i : Nat) : (buildN kd w d col b i).length = w * d := by
  unfold buildN
  rw [foldl_length, List.length_replicate]
/-- All cells within bounds. -/
def inB (l : List Int) (M : Int) : Prop := ∀ x ∈ l, 0 ≤ x ∧ x ≤ M
theorem getD_inB {l : List Int} {M : Int} (h : inB l M) (hM : 0 ≤ M) (p : Nat) : 0 ≤ l.getD p 0 ∧ l.getD p 0 ≤ M := by
  rw [List.getD_eq_getElem?_getD]
  cases hp : l[p]? with
  | none => exact ⟨Int.le_refl _, hM⟩
  | some x => exact h x (List.mem_of_getElem? hp)
theorem putP_inB {kd : Int} {l : List Int} {M n : Int} {p : Nat} (h : inB l M) (hM : 0 ≤ M) (hn : 0 ≤ n) : inB (putP kd l p n) (M + n + 1) := by
  intro x hx
  rcases List.mem_or_eq_of_mem_set hx with hx | rfl
  · have := h x hx; omega
  · have := getD_inB h hM p
    split <;> omega
theorem addN_inB {kd : Int} {w : Nat} {v : Vl} {l : List Int} {M n : Int} (h : inB l M) (hM : 0 ≤ M) (hn : 0 ≤ n) : ∀ i : Nat, inB (addN kd w v n l i) (M + i * (n + 1))
  | 0 => by simpa [addN] using h
  | i + 1 => by
    have h1 := addN_inB (kd := kd) (w := w) (v := v) h hM hn i
    have h0 : 0 ≤ (i : Int) * (n + 1) := Int.mul_nonneg (by omega) (by omega)
    have := putP_inB (kd := kd) (p := placeV w v i) h1 (by omega) hn
    rw [show M + (i : Int) * (n + 1) + n + 1 = M + ((i + 1 : Nat) : Int) * (n + 1) by push_cast; rw [Int.add_mul]; omega] at this
    exact this
theorem inB_mono {l : List Int} {M M' : Int} (h : inB l M) (hm : M ≤ M') : inB l M' := fun x hx => ⟨(h x hx).1, Int.le_trans (h x hx).2 hm⟩
theorem buildN_inB {kd : Int} {w d col : Nat} {b : List En} (hd : d ≤ 8) (hb : ∀ e ∈ b, 0 ≤ e.n ∧ e.n ≤ 262144) : ∀ i : Nat, i ≤ b.length → inB (buildN kd w d col b i) (i * 2097160)
  | 0, _ => fun x hx => by
    unfold buildN at hx
    simp at hx
    omega
  | i + 1, hi => by
    obtain ⟨e, he⟩ : ∃ e, b[i]? = some e := ⟨b[i]'(by omega), List.getElem?_eq_getElem _⟩
    have hbe := hb e (List.mem_of_getElem? he)
    have ih := buildN_inB (kd := kd) (w := w) (col := col) hd hb i (by omega)
    rw [buildN_step he]
    unfold stepE
    split
    · exact inB_mono ih (by omega)
    · have h1 := addN_inB (kd := kd) (w := w) (v := cellV e.r col) ih (by omega) hbe.1 d
      refine inB_mono h1 ?_
      have : (d : Int) * (e.n + 1) ≤ 8 * 262145 := Int.mul_le_mul (by omega) (by omega) (by omega) (by omega)
      omega
attribute [local irreducible] Still Adds AWL AW Drw DrwE EStep AC AWR Weak Frz Src RetK Out InK ItK AsK RdK
theorem es_idle : Idle Tryz.prog 126 0 := by
  intro us w hl
  obtain ⟨_, rfl⟩ : ∃ _ : Unit, us = [] := by
    match us, hl with | [], _ => exact ⟨(), rfl⟩
  refine callsD_of_wpS Tryz.func126 rfl fun c₀ cs hu => ?_
  apply wpS_region
  simp [wpOpsS, go_sem, recoverD, hu, Tryz.ntmps126, Exit.thenS]
  cases c₀
  simp_all [bodyPostS, results, Tryz.results126]
theorem es_idle_b : Body Tryz.prog 126 := by unfold Body; kernel_rfl
theorem rm_idle : Idle Tryz.prog 122 0 := by
  intro us w hl
  obtain ⟨_, rfl⟩ : ∃ _ : Unit, us = [] := by
    match us, hl with | [], _ => exact ⟨(), rfl⟩
  refine callsD_of_wpS Tryz.func122 rfl fun c₀ cs hu => ?_
  apply wpS_region
  simp [wpOpsS, go_sem, recoverD, hu, Tryz.ntmps122, Exit.thenS]
  cases c₀
  simp_all [bodyPostS, results, Tryz.results122]
theorem rm_idle_b : Body Tryz.prog 122 := by unfold Body; kernel_rfl
theorem bu_idle : Idle Tryz.prog 118 0 := by
  intro us w hl
  obtain ⟨_, rfl⟩ : ∃ _ : Unit, us = [] := by
    match us, hl with | [], _ => exact ⟨(), rfl⟩
  refine callsD_of_wpS Tryz.func118 rfl fun c₀ cs hu => ?_
  apply wpS_region
  simp [wpOpsS, go_sem, recoverD, hu, Tryz.ntmps118, Exit.thenS]
  cases c₀
  simp_all [bodyPostS, results, Tryz.results118]
theorem bu_idle_b : Body Tryz.prog 118 := by unfold Body; kernel_rfl
set_option maxHeartbeats 4000000 in
theorem est_ok (nm sr : List UInt8) (col kd : Int) (w d : Nat) (v : Vl) (l : List Int) (n : Nat) (hn : l.length = n) (hnn : n ≤ maxLen) (hk : kd ≠ 2) (hv : valC ⟨nm, sr, col, kd, w, d⟩ l) (ho : okP v) (hz : v.k ≠ 0) : AC Tryz.prog 65 [.agg [sv nm, sv sr, iv col, iv kd, iv w, iv d], .sl 1 n (intc .i64 l), .agg v.c] (.c (iv (leastN l w v d))) [] 0 := by
  have hil : (intc .i64 l).length = n := by rw [intc_length, hn]
  obtain ⟨⟨f1, f2, f3, f4, f5, f6⟩, f7, f8, f9⟩ := id hv
  simp only at f1 f2 f3 f4 f5 f6 f7 f8
  have h1 := valc_ok ⟨nm, sr, col, kd, w, d⟩ l n hn hk hnn
  have : ∀ i : Decidable (valC ⟨nm, sr, col, kd, w, d⟩ l), @decide _ i = true := fun i => @decide_eq_true _ i hv
  rw [this] at h1
  have h2 := valid_ok v
  rw [okV_t ho] at h2
  have h3 := least_ok nm sr col kd w d v l n hn (by omega) (by omega) (by omega) (by omega) (by rw [hn] at f8; exact_mod_cast f8)
  generalize leastN l w v d = z at h3 ⊢
  obtain ⟨a, m, b⟩ := v
  simp only [Vl.c, Sk.c] at *
  have hz' : a ≠ 0 := hz
  clear hz
  refine ac_enter tabOk (sz := 32) Tryz.func65 rfl (by rw [Tryz.ntmps65]; rfl) ?_
  repeat' (first | ((with_reducible refine aw_seqk ?_); intro K hK hX) | ((with_reducible refine isC_reg ?_); refine aw_prune [0, 1, 2, 3, 5, 6] rfl rfl ?_; with_reducible refine aw_region ?_) | ((with_reducible refine isA_call ?_); (first | refine zA ?_ | refine zN ?_); (first | refine c0 (h1) ?_ | refine c0 (h2) ?_ | refine c0 (h3) ?_)) | refine stA ?_ | (refine hK _ _ _ _ ?_; clear hK hX K) | (refine hX _ _ _ _ _ (by simp) ?_; clear hK hX K))
  refine retK_mk zio (by exact ⟨es_idle, es_idle_b, trivial⟩) rfl (ResL.one (ResA.tmp rfl)) zou
set_option maxHeartbeats 4000000 in
theorem rem_state (nm sr : List UInt8) (col : Int) (w d : Nat) (v : Vl) (l : List Int) (n : Nat) (c : Int) (hn : l.length = n) (hp : 0 < n) (hnn : n ≤ 1000000) (hv : valC ⟨nm, sr, col, 1, w, d⟩ l) (ho : okP v) (hz : v.k ≠ 0) (hc1 : 0 < c) (hc2 : c ≤ 262144) : AC Tryz.prog 64 [.agg [sv nm, sv sr, iv col, iv 1, iv w, iv d], .sl 1 n (intc .i64 l), .agg v.c, iv c] (.tup [.c (.v (.slice none 0 0)), .c (iv 11)]) [] 0 := by
  have hil : (intc .i64 l).length = n := by rw [intc_length, hn]
  have h1 := valc_ok ⟨nm, sr, col, 1, w, d⟩ l n hn (by simp) (by simp only [maxLen]; omega)
  have : ∀ i : Decidable (valC ⟨nm, sr, col, 1, w, d⟩ l), @decide _ i = true := fun i => @decide_eq_true _ i hv
  rw [this] at h1
  have h2 := valid_ok v
  rw [okV_t ho] at h2
  have h3 := clone64_ok l n hn hp hnn
  obtain ⟨a, m, b⟩ := v
  simp only [Vl.c, Sk.c] at *
  have hz' : a ≠ 0 := hz
  clear hz
  refine ac_enter tabOk (sz := 56) Tryz.func64 rfl (by rw [Tryz.ntmps64]; rfl) ?_
  repeat' (first | ((with_reducible refine aw_seqk ?_); intro K hK hX) | ((with_reducible refine isC_reg ?_); refine aw_prune [0, 1, 2, 3, 4, 6, 8, 9, 10] rfl rfl ?_; with_reducible refine aw_region ?_) | ((with_reducible refine isA_call ?_); (first | refine zA ?_ | refine zN ?_); (first | refine c0 (h1) ?_ | refine c0 (h2) ?_ | refine c1 (h3) ?_)) | refine stA ?_ | (refine hK _ _ _ _ ?_; clear hK hX K) | (refine hX _ _ _ _ _ (by simp) ?_; clear hK hX K))
  refine retK_mk zio (by exact ⟨rm_idle, rm_idle_b, trivial⟩) rfl (ResL.two (ResA.tmp rfl) (ResA.tmp rfl)) (out_t (frzl_cons zfz (frzl_cons zfz frzl_nil)))
theorem zc_int (n : Nat) : zc [Value.int .i64 0] n = intc .i64 (List.replicate n 0) := by
  induction n with
  | zero => rfl
  | succ n ih =>
    unfold zc at ih ⊢
    rw [List.replicate_succ, List.flatten_cons, ih, List.replicate_succ]
    rfl
theorem intc_set (l : List Int) (p : Nat) (x : Int) : intc .i64 (l.set p x) = (intc .i64 l).set p (iv x) := by simp [intc, List.map_set]
set_option maxHeartbeats 8000000 in
theorem build_ok (nm sr : List UInt8) (col : Nat) (kd : Int) (w d N : Nat) (b : List En) (n : Nat) (hn : b.length = n) (hm : n ≤ maxLen) (hfb : fitB b) (hk : kd ≠ 2) (hf : formP ⟨nm, sr, col, kd, w, d⟩) (hp : posP b) (hcol : (col : Int) ≤ 9223372036854775807) (hN : w * d = N) : AC Tryz.prog 63 [.agg [sv nm, sv sr, iv col, iv kd, iv w, iv d], .sl 2 n (ec b)] (.tup [.c (.sl 1 N (intc .i64 (buildN kd w d col b n))), .c (iv 0)]) [] 0 := by
  have hbl : (ec b).length = n * 2 := by rw [ec_length, hn]
  obtain ⟨f1, f2, f3, f4, f5, f6⟩ := id hf
  simp only at f1 f2 f3 f4 f5 f6
  have h1 := form_ok ⟨nm, sr, col, kd, w, d⟩
  rw [form_t hf] at h1
  have h2 := pos_ok b n hn hm hfb
  have : ∀ i : Decidable (posP b), @decide _ i = true := fun i => @decide_eq_true _ i hp
  rw [this] at h2
  have hn4 : n ≤ 4096 := by have := hp.1.1; omega
  simp only [Sk.c] at h1
  have hNl : N ≤ 1024 := by rw [← hN]; exact_mod_cast f5
  have hmul : IntKind.i64.wrap ((w : Int) * (d : Int)) = (N : Int) := by rw [← hN, Int.natCast_mul]; exact w64 (by omega) (by omega)
  refine ac_enter tabOk (sz := 57) Tryz.func63 rfl (by rw [Tryz.ntmps63]; rfl) ?_
  repeat' (first | ((with_reducible refine aw_seqk ?_); intro K hK hX) | ((with_reducible refine isC_reg ?_); refine aw_prune [0, 1, 2, 4, 5, 6, 8, 9, 35, 36, 37] rfl rfl ?_; with_reducible refine aw_region ?_) | ((with_reducible refine isA_call ?_); (first | refine zA ?_ | refine zN ?_); (first | refine c0 (h1) ?_ | refine c0 (h2) ?_)) | (((with_reducible refine isA_any ?_); refine xA ?_); (first | ((with_reducible refine e_bin ?_); (first | refine ex_i (s_arit64 rfl rfl rfl hmul) ?_)))) | refine stA ?_ | (refine hK _ _ _ _ ?_; clear hK hX K) | (refine hX _ _ _ _ _ (by simp) ?_; clear hK hX K))
  have hbe : ∀ e ∈ b, 0 ≤ e.n ∧ e.n ≤ 262144 := fun e he => by
    obtain ⟨j, hj⟩ := List.mem_iff_getElem?.1 he
    have := (hp.1.2 j (List.getElem?_eq_some_iff.1 hj).1 e hj).1
    exact ⟨hp.2 e he, this.2.1⟩
  clear h1 h2 hmul hp hf
  refine aw_loopo [8, 9, 37] [1] rfl rfl (fun i : Nat => [(37, .c (iv i))]) (fun i => [(1, .row 2 (intc .i64 (buildN kd w d col b i)))]) (fun i => i ≤ n) (fun i => n - i) 0 (by omega) (by refine weak_mk rfl ?_ ?_ rfl <;> (repeat' (first | exact weakE_nil | exact weakH_nil | refine weakE_cons rfl (by first | rfl | (exact congrArg (AObj.row 2) (by rw [← hN]; exact zc_int _)) | exact zeq) rfl ?_ | refine weakH_cons rfl (by first | rfl | (exact congrArg (AObj.row 2) (by rw [← hN]; exact zc_int _)) | exact zeq) rfl ?_))) ?_
  intro i hi K hK hX
  have hBl := buildN_length kd w d col b i
  rw [hN] at hBl
  have hBi : (intc .i64 (buildN kd w d col b i)).length = N := by rw [intc_length, hBl]
  by_cases hlt : i < n
  · obtain ⟨e, he⟩ : ∃ e, b[i]? = some e := ⟨b[i]'(by omega), List.getElem?_eq_getElem _⟩
    have hat := ec_at he
    have her := hfb e (List.mem_of_getElem? he)
    have hce := cellOf_ok e.r e.r.length rfl her col (by omega)
    have hst := buildN_step (kd := kd) (w := w) (d := d) (col := col) he
    unfold stepE at hst
    have hin := buildN_inB (kd := kd) (w := w) (col := col) (by omega : d ≤ 8) hbe i (by omega)
    obtain ⟨ce0, ce1⟩ := hbe e (List.mem_of_getElem? he)
    obtain ⟨r, c⟩ := e
    simp only [En.c] at *
    generalize cellV r col = v at hce hst
    generalize hL : buildN kd w d col b i = L at hst hBl hBi hin ⊢
    by_cases ha : v.k = 0
    · rw [if_pos ha] at hst
      obtain ⟨a, m, t⟩ := v
      simp only [Vl.c] at *
      repeat' (first | ((with_reducible refine aw_seqk ?_); intro K hK hX) | ((with_reducible refine isC_reg ?_); refine aw_prune [0, 1, 2, 4, 5, 6, 8, 9, 35, 36, 37] rfl rfl ?_; with_reducible refine aw_region ?_) | ((with_reducible refine isA_call ?_); (first | refine zA ?_ | refine zN ?_); (first | refine c0 (hce) ?_)) | (((with_reducible refine isA_any ?_); refine xA ?_); (first | ((with_reducible refine e_load ?_); (first | refine ex_i (s_loadAr tabOk rfl rfl rfl rfl (by first | exact hat | exact whole0 (by first | rfl | omega) | rfl) zln) ?_ | refine ex_i (s_loadAi tabOk rfl rfl rfl (by first | exact hat | exact whole0 (by first | rfl | omega) | rfl) zln) ?_)) | ((with_reducible refine e_slice ?_); (first | refine ex_i (s_slArri tabOk rfl rfl rfl rfl zbd zbd zle zle (by decide) (by first | exact hat | exact whole0 (by first | rfl | omega) | rfl) zln) ?_)))) | refine stA ?_ | (refine hK _ _ _ _ ?_; clear hK hX K) | (refine hX _ _ _ _ _ (by simp) ?_; clear hK hX K))
      exact ⟨i + 1, by omega, by omega, (by refine weak_mk rfl ?_ ?_ rfl <;> (repeat' (first | exact weakE_nil | exact weakH_nil | refine weakE_cons rfl (by first | rfl | (exact congrArg (fun x => AObj.row 2 (intc .i64 x)) hst.symm) | exact zeq) rfl ?_ | refine weakH_cons rfl (by first | rfl | (exact congrArg (fun x => AObj.row 2 (intc .i64 x)) hst.symm) | exact zeq) rfl ?_)))⟩
    · rw [if_neg ha] at hst
      have hpl := fun (row : Nat) (h : row < 256) => place_ok nm sr col kd w d v row (by omega) (by omega) h
      have hlt2 : ∀ j, j < d → placeV w v j < N := fun j h => by rw [← hN]; exact placeV_lt v (by omega) h
      have hap : ∀ j, addN kd w v c L (j + 1) = putP kd (addN kd w v c L j) (placeV w v j) c := fun j => rfl
      have had : ∀ j, (addN kd w v c L j).length = N := fun j => by rw [addN_length, hBl]
      have hai : ∀ j, j ≤ d → inB (addN kd w v c L j) 10000000000000 := fun j hj => by
        have h1 := addN_inB (kd := kd) (w := w) (v := v) hin (by omega) ce0 j
        refine inB_mono h1 ?_
        have : (j : Int) * (c + 1) ≤ 8 * 262145 := Int.mul_le_mul (by omega) (by omega) (by omega) (by omega)
        omega
      have ha0 : L = addN kd w v c L 0 := rfl
      generalize placeV w v = pl at hpl hlt2 hap
      generalize addN kd w v c L = ad at hst hap had hai ha0
      obtain ⟨a, m, t⟩ := v
      simp only [Vl.c] at *
      clear hL hBi hin hBl
      repeat' (first | ((with_reducible refine aw_seqk ?_); intro K hK hX) | ((with_reducible refine isC_reg ?_); refine aw_prune [0, 1, 2, 3, 4, 5, 6, 8, 9, 10, 11, 35, 36, 37] rfl rfl ?_; with_reducible refine aw_region ?_) | ((with_reducible refine isA_call ?_); (first | refine zA ?_ | refine zN ?_); (first | refine c0 (hce) ?_)) | ((first | with_reducible refine isA_call ?_ | with_reducible refine isA_callv ?_); refine awl_inl tabOk [0, 1, 2, 3, 4, 5, 6, 7, 8, 9, 10, 11, 12, 13, 14, 15, 16, 17, 18, 19, 20, 21, 22, 23, 24, 25, 26, 27, 28, 29, 30, 31, 32, 33, 34, 35, 36, 37, 38, 39, 40, 41, 42, 43, 44, 45, 46, 47, 48, 49, 50, 51, 52, 53, 54, 55, 56] g_none rfl rfl zby Tryz.func121 rfl rfl rfl (szf := 34) (by rw [Tryz.ntmps121]; rfl) rfl ?_) | (((with_reducible refine isA_any ?_); refine xA ?_); (first | ((with_reducible refine e_load ?_); (first | refine ex_i (s_loadAr tabOk rfl rfl rfl rfl (by first | exact hat | exact whole0 (by first | rfl | omega) | rfl) zln) ?_ | refine ex_i (s_loadAi tabOk rfl rfl rfl (by first | exact hat | exact whole0 (by first | rfl | omega) | rfl) zln) ?_)) | ((with_reducible refine e_slice ?_); (first | refine ex_i (s_slArri tabOk rfl rfl rfl rfl zbd zbd zle zle (by decide) (by first | exact hat | exact whole0 (by first | rfl | omega) | rfl) zln) ?_)))) | refine stA ?_ | (refine hK _ _ _ _ ?_; clear hK hX K) | (refine hX _ _ _ _ _ (by simp) ?_; clear hK hX K) | (first | refine inK_some zio ztr rfl rfl ResL.none ?_ | refine inK_none zio ztr rfl rfl ResL.none ?_))
      refine aw_loopo [8, 9, 11] [1] rfl rfl (fun j : Nat => [(11, .c (iv j))]) (fun j => [(1, .row 2 (intc .i64 (ad j)))]) (fun j => j ≤ d) (fun j => d - j) 0 (by omega) (by refine weak_mk rfl ?_ ?_ rfl <;> (repeat' (first | exact weakE_nil | exact weakH_nil | refine weakE_cons rfl (by first | rfl | (exact congrArg (fun x => AObj.row 2 (intc .i64 x)) ha0) | exact zeq) rfl ?_ | refine weakH_cons rfl (by first | rfl | (exact congrArg (fun x => AObj.row 2 (intc .i64 x)) ha0) | exact zeq) rfl ?_))) ?_
      intro j hj K hK hX
      have hjl := had j
      have hji : (intc .i64 (ad j)).length = N := by rw [intc_length, hjl]
      by_cases hjd : j < d
      · have hplj := hpl j (by omega)
        have hpj := hlt2 j hjd
        have hput := hap j
        have hbj := getD_inB (hai j hj) (by decide) (pl j)
        have hgt := intc_at (getD_at (l := ad j) (i := pl j) (by omega))
        unfold putP at hput
        generalize pl j = p at hplj hpj hput hbj hgt
        clear hpl hlt2 hap had hai ha0 hce hst
        by_cases k0 : kd = 0
        · rw [if_pos k0] at hput
          generalize (ad j).getD p 0 = g at hput hbj hgt
          have hset : (intc .i64 (ad j)).set (0 + p * 1) (iv (g + c)) = intc .i64 (ad (j + 1)) := by rw [Nat.zero_add, Nat.mul_one, hput, intc_set]
          repeat' (first | ((with_reducible refine aw_seqk ?_); intro K hK hX) | ((with_reducible refine isC_reg ?_); refine aw_prune [0, 1, 2, 3, 4, 5, 6, 8, 9, 10, 11, 35, 36, 37] rfl rfl ?_; with_reducible refine aw_region ?_) | ((with_reducible refine isA_call ?_); (first | refine zA ?_ | refine zN ?_); (first | refine c0 (hplj) ?_)) | ((first | with_reducible refine isA_call ?_ | with_reducible refine isA_callv ?_); refine awl_inl tabOk [0, 1, 2, 3, 4, 5, 6, 7, 8, 9, 10, 11, 12, 13, 14, 15, 16, 17, 18, 19, 20, 21, 22, 23, 24, 25, 26, 27, 28, 29, 30, 31, 32, 33, 34, 35, 36, 37, 38, 39, 40, 41, 42, 43, 44, 45, 46, 47, 48, 49, 50, 51, 52, 53, 54, 55, 56] g_none rfl rfl zby Tryz.func121 rfl rfl rfl (szf := 34) (by rw [Tryz.ntmps121]; rfl) rfl ?_) | (((with_reducible refine isA_any ?_); refine xA ?_); (first | ((with_reducible refine e_load ?_); (first | refine ex_i (s_load1 tabOk rfl rfl rfl rfl (by (rw [Nat.zero_add, Nat.mul_one]; exact hgt))) ?_ | refine ex_i (s_load1r tabOk rfl rfl rfl rfl (by (rw [Nat.zero_add, Nat.mul_one]; exact hgt))) ?_ | refine ex_i (s_load1i tabOk rfl rfl rfl (by (rw [Nat.zero_add, Nat.mul_one]; exact hgt))) ?_)) | ((with_reducible refine e_ix ?_); (first | refine ex_i (s_ixV1 tabOk rfl rfl zcj rfl rfl rfl rfl rfl zle (by (rw [Nat.zero_add, Nat.mul_one]; exact hgt))) ?_ | refine ex_i (s_ixStr tabOk rfl rfl zcj rfl rfl (by (rw [Nat.zero_add, Nat.mul_one]; exact hgt))) ?_)))) | ((with_reducible refine isA_store ?_); (refine awl_store1r tabOk g_none rfl rfl rfl rfl rfl rfl (by first | omega | exact Nat.le_of_ble_eq_true rfl | omega | (simp <;> omega)) ?_)) | refine stA ?_ | (refine hK _ _ _ _ ?_; clear hK hX K) | (refine hX _ _ _ _ _ (by simp) ?_; clear hK hX K) | (first | refine inK_some zio ztr rfl rfl ResL.none ?_ | refine inK_none zio ztr rfl rfl ResL.none ?_))
          exact ⟨j + 1, by omega, by omega, (by refine weak_mk rfl ?_ ?_ rfl <;> (repeat' (first | exact weakE_nil | exact weakH_nil | refine weakE_cons rfl (by first | rfl | (exact congrArg (AObj.row 2) hset) | exact zeq) rfl ?_ | refine weakH_cons rfl (by first | rfl | (exact congrArg (AObj.row 2) hset) | exact zeq) rfl ?_)))⟩
        · rw [if_neg k0] at hput
          have hset : (intc .i64 (ad j)).set (0 + p * 1) (iv 1) = intc .i64 (ad (j + 1)) := by rw [Nat.zero_add, Nat.mul_one, hput, intc_set]
          repeat' (first | ((with_reducible refine aw_seqk ?_); intro K hK hX) | ((with_reducible refine isC_reg ?_); refine aw_prune [0, 1, 2, 3, 4, 5, 6, 8, 9, 10, 11, 35, 36, 37] rfl rfl ?_; with_reducible refine aw_region ?_) | ((with_reducible refine isA_call ?_); (first | refine zA ?_ | refine zN ?_); (first | refine c0 (hplj) ?_)) | ((first | with_reducible refine isA_call ?_ | with_reducible refine isA_callv ?_); refine awl_inl tabOk [0, 1, 2, 3, 4, 5, 6, 7, 8, 9, 10, 11, 12, 13, 14, 15, 16, 17, 18, 19, 20, 21, 22, 23, 24, 25, 26, 27, 28, 29, 30, 31, 32, 33, 34, 35, 36, 37, 38, 39, 40, 41, 42, 43, 44, 45, 46, 47, 48, 49, 50, 51, 52, 53, 54, 55, 56] g_none rfl rfl zby Tryz.func121 rfl rfl rfl (szf := 34) (by rw [Tryz.ntmps121]; rfl) rfl ?_) | ((with_reducible refine isA_store ?_); (refine awl_store1r tabOk g_none rfl rfl rfl rfl rfl rfl (by first | omega | exact Nat.le_of_ble_eq_true rfl | omega | (simp <;> omega)) ?_)) | refine stA ?_ | (refine hK _ _ _ _ ?_; clear hK hX K) | (refine hX _ _ _ _ _ (by simp) ?_; clear hK hX K) | (first | refine inK_some zio ztr rfl rfl ResL.none ?_ | refine inK_none zio ztr rfl rfl ResL.none ?_))
          exact ⟨j + 1, by omega, by omega, (by refine weak_mk rfl ?_ ?_ rfl <;> (repeat' (first | exact weakE_nil | exact weakH_nil | refine weakE_cons rfl (by first | rfl | (exact congrArg (AObj.row 2) hset) | exact zeq) rfl ?_ | refine weakH_cons rfl (by first | rfl | (exact congrArg (AObj.row 2) hset) | exact zeq) rfl ?_)))⟩
      · have hjd2 : j = d := by omega
        rw [hjd2]
        repeat' (first | ((with_reducible refine aw_seqk ?_); intro K hK hX) | ((with_reducible refine isC_reg ?_); refine aw_prune [0, 1, 2, 3, 4, 5, 6, 8, 9, 10, 11, 35, 36, 37] rfl rfl ?_; with_reducible refine aw_region ?_) | ((first | with_reducible refine isA_call ?_ | with_reducible refine isA_callv ?_); refine awl_inl tabOk [0, 1, 2, 3, 4, 5, 6, 7, 8, 9, 10, 11, 12, 13, 14, 15, 16, 17, 18, 19, 20, 21, 22, 23, 24, 25, 26, 27, 28, 29, 30, 31, 32, 33, 34, 35, 36, 37, 38, 39, 40, 41, 42, 43, 44, 45, 46, 47, 48, 49, 50, 51, 52, 53, 54, 55, 56] g_none rfl rfl zby Tryz.func121 rfl rfl rfl (szf := 34) (by rw [Tryz.ntmps121]; rfl) rfl ?_) | refine stA ?_ | (refine hK _ _ _ _ ?_; clear hK hX K) | (refine hX _ _ _ _ _ (by simp) ?_; clear hK hX K) | (first | refine inK_some zio ztr rfl rfl ResL.none ?_ | refine inK_none zio ztr rfl rfl ResL.none ?_))
        exact ⟨i + 1, by omega, by omega, (by refine weak_mk rfl ?_ ?_ rfl <;> (repeat' (first | exact weakE_nil | exact weakH_nil | refine weakE_cons rfl (by first | rfl | (exact congrArg (fun x => AObj.row 2 (intc .i64 x)) hst.symm) | exact zeq) rfl ?_ | refine weakH_cons rfl (by first | rfl | (exact congrArg (fun x => AObj.row 2 (intc .i64 x)) hst.symm) | exact zeq) rfl ?_)))⟩
  · have hie : i = n := by omega
    rw [hie] at hBi ⊢
    repeat' (first | ((with_reducible refine aw_seqk ?_); intro K hK hX) | ((with_reducible refine isC_reg ?_); refine aw_prune [0, 1, 2, 4, 5, 6, 8, 9, 35, 36, 37] rfl rfl ?_; with_reducible refine aw_region ?_) | refine stA ?_ | (refine hK _ _ _ _ ?_; clear hK hX K) | (refine hX _ _ _ _ _ (by simp) ?_; clear hK hX K))
    refine retK_mk zio (by exact ⟨bu_idle, bu_idle_b, trivial⟩) rfl (ResL.two (ResA.tmp rfl) (ResA.tmp rfl)) (out_t (frzl_cons zfz (frzl_cons zfz frzl_nil)))
end Go.Proofs.YtccnhpaldmjkbaaGreat
/-
  Ascending lists of different numbers: the cells of bottom-k sketches. Plain.
-/
namespace Go.Proofs.YtccnhpaldmjkbaaGreat
open Go Go.RowKit Go.Av
set_option maxRecDepth 100000
theorem at_eq {α : Type} {l : List α} {i j : Nat} {x : α} (h : l[i]? = some x) (e : j = i) : l[j]? = some x := e ▸ h
theorem gD_at {l : List Int} {i : Nat} (h : i < l.length) : l[i]? = some (l.getD i 0) := by
  rw [List.getD_eq_getElem?_getD, List.getElem?_eq_getElem h]; rfl
/-- Ascending, all different. -/
def ascI (l : List Int) : Prop := l.Pairwise (· < ·)
theorem ascI_ext : ∀ {l m : List Int}, ascI l → ascI m → (∀ x, x ∈ l ↔ x ∈ m) → l = m
  | [], [], _, _, _ => rfl
  | [], y :: m, _, _, h => absurd ((h y).2 (by simp)) (by simp)
  | x :: l, [], _, _, h => absurd ((h x).1 (by simp)) (by simp)
  | x :: l, y :: m, hl, hm, h => by
    obtain ⟨h1, h2⟩ := List.pairwise_cons.1 hl
    obtain ⟨h3, h4⟩ := List.pairwise_cons.1 hm
    have e : x = y := by
      have a := (h x).1 (by simp)
      have b := (h y).2 (by simp)
      rcases List.mem_cons.1 a with a | a
      · exact a
      · rcases List.mem_cons.1 b with b | b
        · exact b.symm
        · have := h1 y b
          have := h3 x a
          omega
    subst e
    rw [ascI_ext h2 h4 fun z => ⟨fun hz => ?_, fun hz => ?_⟩]
    · have := h1 z hz
      rcases List.mem_cons.1 ((h z).1 (by simp [hz])) with e | e
      · omega
      · exact e
    · have := h3 z hz
      rcases List.mem_cons.1 ((h z).2 (by simp [hz])) with e | e
      · omega
      · exact e
/-- What stands in front of place m, each number that follows itself once. -/
def compN (l : List Int) : Nat → List Int
  | 0 => []
  | m + 1 => if 0 < m ∧ l.getD m 0 = l.getD (m - 1) 0 then compN l m else compN l m ++ [l.getD m 0]
theorem compN_length (l : List Int) : ∀ m, (compN l m).length ≤ m
  | 0 => Nat.le_refl _
  | m + 1 => by
    have := compN_length l m
    rw [compN]
    split
    · omega
    · rw [List.length_append, List.length_singleton]; omega
theorem take_getD {l : List Int} {m : Nat} (h : m < l.length) : l.take (m + 1) = l.take m ++ [l.getD m 0] := by
  rw [List.take_add_one, gD_at h, Option.toList_some]
theorem getD_mem_take {l : List Int} {j m : Nat} (h : j < m) (hm : m ≤ l.length) : l.getD j 0 ∈ l.take m := by
  have h1 : l[j]? = some (l.getD j 0) := gD_at (by omega)
  exact List.mem_of_getElem? (i := j) (by rw [List.getElem?_take_of_lt h]; exact h1)
theorem mem_take_getD {l : List Int} {x : Int} {m : Nat} (h : x ∈ l.take m) : ∃ j, j < m ∧ j < l.length ∧ l.getD j 0 = x := by
  obtain ⟨j, hj⟩ := List.mem_iff_getElem?.1 h
  have h1 := (List.getElem?_eq_some_iff.1 hj).1
  rw [List.length_take] at h1
  rw [List.getElem?_take_of_lt (by omega)] at hj
  exact ⟨j, by omega, by omega, by rw [List.getD_eq_getElem?_getD, hj]; rfl⟩
theorem srt_getD {l : List Int} (hs : l.Pairwise (· ≤ ·)) {i j : Nat} (hij : i ≤ j) (hj : j < l.length) : l.getD i 0 ≤ l.getD j 0 := by
  by_cases e : i = j
  · rw [e]; exact Int.le_refl _
  · have := List.pairwise_iff_getElem.1 hs i j (by omega) hj (by omega)
    have h1 : l[i]? = some (l.getD i 0) := gD_at (by omega)
    have h2 : l[j]? = some (l.getD j 0) := gD_at hj
    rw [List.getElem?_eq_getElem (by omega)] at h1 h2
    injection h1 with h1
    injection h2 with h2
    omega
theorem compN_facts {l : List Int} (hs : l.Pairwise (· ≤ ·)) : ∀ m, m ≤ l.length → ascI (compN l m) ∧ ∀ x, x ∈ compN l m ↔ x ∈ l.take m
  | 0, _ => ⟨List.Pairwise.nil, fun x => by simp [compN]⟩
  | m + 1, hm => by
    obtain ⟨h1, h2⟩ := compN_facts hs m (by omega)
    have ht := take_getD (l := l) (m := m) (by omega)
    rw [compN]
    split
    · rename_i h3
      refine ⟨h1, fun x => ?_⟩
      rw [h2, ht, List.mem_append, List.mem_singleton]
      refine ⟨fun h => .inl h, fun h => h.elim id fun e => ?_⟩
      rw [e, h3.2]
      exact getD_mem_take (by omega) (by omega)
    · rename_i h3
      refine ⟨List.pairwise_append.2 ⟨h1, List.pairwise_singleton _ _, fun x hx y hy => ?_⟩, fun x => by rw [List.mem_append, h2, ht, List.mem_append]⟩
      have hy : y = l.getD m 0 := by simpa using hy
      subst hy
      obtain ⟨j, hj, hjl, rfl⟩ := mem_take_getD ((h2 x).1 hx)
      have a1 := srt_getD hs (i := j) (j := m - 1) (by omega) (by omega)
      have a2 := srt_getD hs (i := m - 1) (j := m) (by omega) (by omega)
      have : l.getD m 0 ≠ l.getD (m - 1) 0 := fun e => h3 ⟨by omega, e⟩
      omega
def sortI (l : List Int) : List Int := l.mergeSort fun x y => decide (x ≤ y)
theorem sortI_perm (l : List Int) : (sortI l).Perm l := List.mergeSort_perm l _
theorem sortI_length (l : List Int) : (sortI l).length = l.length := (sortI_perm l).length_eq
theorem sortI_mem {l : List Int} {x : Int} : x ∈ sortI l ↔ x ∈ l := (sortI_perm l).mem_iff
theorem sortI_srt (l : List Int) : (sortI l).Pairwise (· ≤ ·) := by
  have := List.pairwise_mergeSort (le := fun x y : Int => decide (x ≤ y)) (fun a b c h1 h2 => by simp only [decide_eq_true_eq] at *; omega) (fun a b => by simp only [Bool.or_eq_true, decide_eq_true_eq]; omega) l
  exact this.imp fun h => of_decide_eq_true h
/-- The different numbers of a list, ascending. -/
def ascL (l : List Int) : List Int := compN (sortI l) l.length
theorem ascL_facts (l : List Int) : ascI (ascL l) ∧ ∀ x, x ∈ ascL l ↔ x ∈ l := by
  obtain ⟨h1, h2⟩ := compN_facts (sortI_srt l) l.length (by rw [sortI_length]; exact Nat.le_refl _)
  refine ⟨h1, fun x => ?_⟩
  unfold ascL
  rw [h2, List.take_of_length_le (by rw [sortI_length]; exact Nat.le_refl _), sortI_mem]
theorem ascL_asc {l : List Int} (h : ascI l) : ascL l = l := ascI_ext (ascL_facts l).1 h (ascL_facts l).2
theorem ascL_length (l : List Int) : (ascL l).length ≤ l.length := compN_length _ _
/-- The smallest w different numbers of a list, ascending. -/
def smallI (w : Nat) (l : List Int) : List Int := (ascL l).take w
theorem smallI_asc (w : Nat) (l : List Int) : ascI (smallI w l) := (ascL_facts l).1.sublist (List.take_sublist _ _)
theorem smallI_sub {w : Nat} {l : List Int} {x : Int} (h : x ∈ smallI w l) : x ∈ l := ((ascL_facts l).2 x).1 (List.mem_of_mem_take h)
theorem smallI_length (w : Nat) (l : List Int) : (smallI w l).length ≤ w := by unfold smallI; rw [List.length_take]; omega
/-- The first ones of a greater list are the first ones of a smaller list. -/
theorem asc_take : ∀ (w : Nat) {A L : List Int}, ascI A → ascI L → (∀ x ∈ L, x ∈ A) → ∀ x, x ∈ L → x ∈ A.take w → x ∈ L.take w
  | 0, A, L, _, _, _, x, _, h => by simp at h
  | w + 1, [], L, _, _, _, x, _, h => by simp at h
  | w + 1, a :: A, [], _, _, _, x, h, _ => by cases h
  | w + 1, a :: A, y :: L, hA, hL, hs, x, hx, hw => by
    obtain ⟨h1, h2⟩ := List.pairwise_cons.1 hA
    obtain ⟨h3, h4⟩ := List.pairwise_cons.1 hL
    have hay : a ≤ y := by
      rcases List.mem_cons.1 (hs y (by simp)) with e | e
      · omega
      · have := h1 y e; omega
    rw [List.take_succ_cons] at hw ⊢
    rcases List.mem_cons.1 hx with e | hx
    · rw [e]; simp
    · have hyx := h3 x hx
      refine List.mem_cons_of_mem _ (asc_take w h2 h4 (fun z hz => ?_) x hx ?_)
      · have := h3 z hz
        rcases List.mem_cons.1 (hs z (by simp [hz])) with e | e
        · omega
        · exact e
      · rcases List.mem_cons.1 hw with e | e
        · omega
        · exact e
theorem asc_take_eq : ∀ (w : Nat) {A B : List Int}, ascI A → ascI B → (∀ x ∈ B, x ∈ A) → (∀ x ∈ A.take w, x ∈ B) → A.take w = B.take w
  | 0, A, B, _, _, _, _ => by simp
  | w + 1, [], [], _, _, _, _ => rfl
  | w + 1, [], b :: B, _, _, h, _ => absurd (h b (by simp)) (by simp)
  | w + 1, a :: A, [], _, _, _, h => absurd (h a (by simp)) (by simp)
  | w + 1, a :: A, b :: B, hA, hB, hs, ht => by
    obtain ⟨h1, h2⟩ := List.pairwise_cons.1 hA
    obtain ⟨h3, h4⟩ := List.pairwise_cons.1 hB
    have e : a = b := by
      have p := hs b (by simp)
      have q := ht a (by simp)
      rcases List.mem_cons.1 p with p | p
      · exact p.symm
      · rcases List.mem_cons.1 q with q | q
        · exact q
        · have := h1 b p
          have := h3 a q
          omega
    subst e
    rw [List.take_succ_cons, List.take_succ_cons, asc_take_eq w h2 h4 (fun x hx => ?_) (fun x hx => ?_)]
    · have := h3 x hx
      rcases List.mem_cons.1 (hs x (by simp [hx])) with e | e
      · omega
      · exact e
    · have := h1 x (List.mem_of_mem_take hx)
      rcases List.mem_cons.1 (ht x (by rw [List.take_succ_cons]; simp [hx])) with e | e
      · omega
      · exact e
theorem small_app (w : Nat) (l m : List Int) : smallI w (smallI w l ++ m) = smallI w (l ++ m) := by
  symm
  refine asc_take_eq w (ascL_facts _).1 (ascL_facts _).1 (fun x hx => ?_) (fun x hx => ?_)
  · have h1 := ((ascL_facts _).2 x).1 hx
    refine ((ascL_facts _).2 x).2 ?_
    rcases List.mem_append.1 h1 with h | h
    · exact List.mem_append.2 (.inl (smallI_sub h))
    · exact List.mem_append.2 (.inr h)
  · have h1 := ((ascL_facts _).2 x).1 (List.mem_of_mem_take hx)
    refine ((ascL_facts _).2 x).2 ?_
    rcases List.mem_append.1 h1 with h | h
    · refine List.mem_append.2 (.inl ?_)
      refine asc_take w (ascL_facts (l ++ m)).1 (ascL_facts l).1 (fun z hz => ?_) x (((ascL_facts l).2 x).2 h) hx
      exact ((ascL_facts _).2 z).2 (List.mem_append.2 (.inl (((ascL_facts l).2 z).1 hz)))
    · exact List.mem_append.2 (.inr h)
/-- Cells of a bottom-k sketch. -/
def hashP (w : Nat) (l : List Int) : Prop := l.length ≤ w ∧ ascI l ∧ ∀ x ∈ l, 0 ≤ x ∧ x < 4611686018427387904
theorem smallI_P {w : Nat} {l : List Int} (h : ∀ x ∈ l, 0 ≤ x ∧ x < 4611686018427387904) : hashP w (smallI w l) := ⟨smallI_length w l, smallI_asc w l, fun x hx => h x (smallI_sub hx)⟩
/-- The row while equal numbers are taken away: what is kept, and what stood behind. -/
def rowN (l : List Int) (m : Nat) : List Int := compN l m ++ l.drop (compN l m).length
theorem rowN_length {l : List Int} {m : Nat} (h : m ≤ l.length) : (rowN l m).length = l.length := by
  have := compN_length l m
  unfold rowN
  rw [List.length_append, List.length_drop]; omega
theorem rowN_at {l : List Int} {m j : Nat} (h : m ≤ j + 1) (hj : j < l.length) (hk : (compN l m).length ≤ j) : (rowN l m).getD j 0 = l.getD j 0 := by
  have := compN_length l m
  unfold rowN
  rw [List.getD_eq_getElem?_getD, List.getElem?_append_right hk, List.getElem?_drop, List.getD_eq_getElem?_getD]
  congr 2
  omega
theorem rowN_skip {l : List Int} {m : Nat} (h0 : 0 < m) (h : l.getD m 0 = l.getD (m - 1) 0) : compN l (m + 1) = compN l m ∧ rowN l (m + 1) = rowN l m := by
  have : compN l (m + 1) = compN l m := by rw [compN, if_pos ⟨h0, h⟩]
  exact ⟨this, by unfold rowN; rw [this]⟩
theorem rowN_keep {l : List Int} {m : Nat} (hm : m < l.length) (h : ¬ (0 < m ∧ l.getD m 0 = l.getD (m - 1) 0)) : (compN l (m + 1)).length = (compN l m).length + 1 ∧ rowN l (m + 1) = (rowN l m).set (compN l m).length (l.getD m 0) := by
  have e : compN l (m + 1) = compN l m ++ [l.getD m 0] := by rw [compN, if_neg h]
  have hl := compN_length l m
  refine ⟨by rw [e, List.length_append]; rfl, ?_⟩
  unfold rowN
  rw [e, List.length_append, List.length_singleton, List.set_append_right _ _ (Nat.le_refl _), Nat.sub_self, List.drop_eq_getElem_cons (i := (compN l m).length) (by omega), List.set_cons_zero, List.append_assoc]
  rfl
theorem rowN_full {l : List Int} {m : Nat} (hm : m < l.length) (hk : (compN l m).length = m) (h : ¬ (0 < m ∧ l.getD m 0 = l.getD (m - 1) 0)) (hr : rowN l m = l) : (compN l (m + 1)).length = m + 1 ∧ rowN l (m + 1) = l := by
  obtain ⟨h1, h2⟩ := rowN_keep hm h
  refine ⟨by omega, ?_⟩
  rw [h2, hr, hk]
  refine List.ext_getElem? fun j => ?_
  rw [List.getElem?_set]
  split
  · rename_i e; subst e; first | exact (gD_at hm).symm | (rw [if_pos hm]; exact (gD_at hm).symm)
  · rfl
theorem rowN_take {l : List Int} {m : Nat} : (rowN l m).take (compN l m).length = compN l m := by
  unfold rowN
  rw [List.take_append_of_le_length (Nat.le_refl _), List.take_length]
end Go.Proofs.YtccnhpaldmjkbaaGreat
/-
  Contracts of functions that write into a slice of the caller's. For every program.
-/
namespace Go.Av
open Go Go.RowKit

/-- A value that holds no address. -/
def plB : AV → Bool
  | .c (.v _) => true
  | .tup xs => xs.all fun x => match x with | .c (.v _) => true | _ => false
  | _ => false
/-- The row that a slice of the caller's shows (n elements, closed cells c0) is c1 after the call; the other arguments are closed, the result holds no address. -/
def ACS (P : Program) (f : FuncId) (E : TypeId) (size n : Nat) (c0 args c1 : List CV) (r : AV) : Prop :=
  ∀ (ok : Nat → Prop) (w : World) (g cap : Nat) (us0 vs0 vs : List Value), ¬ ok g → w.heap[g]? = some (.cells (us0 ++ vs0).toArray E (0, 0)) → RepCs ok w c0 us0 → (∀ u ∈ us0, u.oneCell' = true) → n ≤ cap → cap ≤ maxLen → us0.length + vs0.length = cap * size → RepCs ok w args vs →
    Calls P f (Value.slice (some ⟨g, 0, none⟩) n cap :: vs).toArray w fun e w' => ∃ v us1 vs1, e = .returned v ∧ FrB w [g] w' ∧ w'.heap[g]? = some (.cells (us1 ++ vs1).toArray E (0, 0)) ∧ us1.length + vs1.length = cap * size ∧ RepCs (okg ok w g) w' c1 us1 ∧ (∀ u ∈ us1, u.oneCell' = true) ∧ ∀ C : Cx, Rep C r v
section call
variable {P : Program} {ev : Evl} {h : Heap} {d : Option Tmp} {ty : TypeId} {pos : String} {aft : Array Edge} {gd : Option (Nat × Bool)} {i : Nat} {f : FuncId} {x0 : Operand} {xs : List Operand} {ats : Array TypeId} {E : TypeId} {c0 c1 cs cs' : List CV} {r : AV} {id size m : Nat}
theorem e_callS (hac : ACS P f E size m c0 cs' c1 r) (hb : Body P f) (hm : 0 < m) (hx0 : ev x0 = some (.own id 0 m size true)) (ho : lk h id = some (.row E c0)) (hx : argsC ev xs = some cs) (hcv : CvL cs cs') :
    EStep P ⟨d, .call ⟨.value (.func f), (x0 :: xs).toArray, ats⟩, ty, pos, aft, gd⟩ ev h r [] (some (id, some (.row E c1))) i i := by
  intro B dom M H w a K Q hh hn hc he hK
  have hargs : RepCs (okOf B dom M H) w cs (xs.map a.eval) := RepL.toC (C := ⟨dom, M, okOf B dom M H, w⟩) (evs_rep he (by rw [argsC_eq hx, List.map_map]; rfl))
  have hp := he x0 _ hx0
  simp only [Rep] at hp
  obtain ⟨hid, hp⟩ := hp
  rcases hp with ⟨h1, _⟩ | ⟨g, cap, hM, hp, hncap, hcap, hfull⟩ | ⟨h1, _⟩
  · omega
  · obtain ⟨us0, vs0, hb0, hus0, hone0⟩ := obj_row hh hc ho hid hM
    have hng : ¬ okOf B dom M H g := fun hk => hk.2 id _ hid (hh id _ ho hid) hM
    have hlen0 : us0.length + vs0.length = cap * size := by
      obtain ⟨e, hsh⟩ := hfull trivial
      unfold World.shape? at hsh
      rw [hb0] at hsh
      simp only [Option.some.injEq, Prod.mk.injEq, List.size_toArray, List.length_append] at hsh
      omega
    unfold Oper.wp execOp
    simp only [resolve, Deferred.ofValue, Act.eval, invoke, Sem.run_bind, Sem.run_pure, Result.andThen_ok, List.map_toArray, Array.append_empty, Body.run hb, Oper.upon]
    rw [show (#[] ++ (List.map a.eval (x0 :: xs)).toArray : Array Value) = (Value.slice (some ⟨g, 0, none⟩) m cap :: List.map a.eval xs).toArray by simp [hp]]
    refine (hac _ w g cap us0 vs0 _ hng hb0 hus0 hone0 hncap hcap hlen0 (hcv _ _ _ hargs)).mono ?_
    rintro e w' ⟨v, us1, vs1, rfl, hfr, hb1, hlen1, hus1, hone1, hv⟩
    simp only
    have hgs := lt_of_block hb0
    have hg1 : (w'.putObj g (.cells (us0 ++ vs0).toArray E (0, 0))).heap[g]? = some (.cells (us0 ++ vs0).toArray E (0, 0)) := World.putObj_heap_same (lt_of_block hb1)
    have ho1 : ∀ k, k ≠ g → (w'.putObj g (.cells (us0 ++ vs0).toArray E (0, 0))).heap[k]? = w'.heap[k]? := fun k hk => World.putObj_heap_other (fun e => hk e)
    generalize hw1 : w'.putObj g (.cells (us0 ++ vs0).toArray E (0, 0)) = w1 at hg1 ho1
    have hs1 : w1.heap.size = w'.heap.size := by rw [← hw1]; simp [World.putObj]
    have hbl : Below w.heap.size w w1 := ⟨by rw [← hw1]; exact hfr.os, by rw [← hw1]; exact hfr.tape, by rw [← hw1]; exact hfr.output, by rw [hs1]; exact hfr.size, fun k hk => by
      by_cases e : k = g
      · subst e; rw [hg1, hb0]
      · rw [ho1 k e]; exact hfr.block k hk (by simp [e])⟩
    have hgr := hc.grow hbl i i (M' := M) (fun id _ => rfl) (fun id h1 h2 => by omega) (fun id o h1 h2 => by omega) (fun id id' o o' g h1 h2 => by omega) (fun hext id o h1 h2 => by omega)
    rw [ad_self] at hgr
    obtain ⟨g1, g2⟩ := hgr
    have hmon : Keeps (okg (okOf B dom M H) w g) (okOf B dom M (ov (some (id, some (.row E c1))) H)) w' w' := fun b hb hl => by
      refine ⟨⟨?_, fun k o hk hH he => ?_⟩, hl, rfl⟩
      · rcases hb.1 with h1 | h1
        · exact h1.1
        · exact .inr (.inl (Nat.le_trans hc.fr.size h1))
      · by_cases e : k = id
        · subst e
          rw [hM] at he
          injection he with he
          exact hb.2 he.symm
        · rw [ov_ne (fun x hx => e (congrArg Prod.fst (Option.some.inj hx)).symm)] at hH
          rcases hb.1 with h1 | h1
          · exact h1.2 k o hk hH he
          · have := (hc.obj k o hk hH).lt b he
            simp only at this
            omega
    obtain ⟨k1, k2⟩ := g1.turnE (o' := .row E c1) (w' := w') hid (hh id _ ho hid) hM (by rw [← hw1]; rfl) (by rw [← hw1]; rfl) (by rw [← hw1]; rfl) hs1.symm (fun k hk => (ho1 k hk).symm)
      (by
        unfold World.shape?
        rw [hb1, hg1]
        simp only [List.size_toArray, List.length_append]
        rw [hlen1, hlen0])
      (fun hext => .inr ⟨g, us1, vs1, rfl, hb1, RepCs.mono hmon _ _ hus1, hone1⟩)
    rw [ad_self] at hK
    exact hK v w' M (g2.trans k2) k1 (hv _)
  · omega
end call
section
variable {P : Program} {sz n : Nat} {env : Env} {h : Heap} {dfs : Defs} {K : AK} {ops : Array Oper} {rest : List Oper} {d : Option Tmp} {ty : TypeId} {pos : String} {aft : Array Edge} {gd : Option (Nat × Bool)} {f : FuncId} {x0 : Operand} {xs : List Operand} {ats : Array TypeId} {E : TypeId} {c0 c0' c1 cs cs' : List CV} {r : AV} {id size m : Nat}
theorem awl_callS (hac : ACS P f E size m c0 cs' c1 r) (hg : guardA ops env ⟨d, .call ⟨.value (.func f), (x0 :: xs).toArray, ats⟩, ty, pos, aft, gd⟩ true) (hd : dstOk d sz = true) (hb : Body P f) (hm : 0 < m) (hx0 : evA env x0 = some (.own id 0 m size true)) (ho : lk h id = some (.row E c0')) (h0 : c0' = c0) (hx : argsC (evA env) xs = some cs) (hcv : CvL cs cs')
    (next : AWL P ops sz rest K n (putE env d r) ((id, .row E c1) :: h) dfs) : AWL P ops sz (⟨d, .call ⟨.value (.func f), (x0 :: xs).toArray, ats⟩, ty, pos, aft, gd⟩ :: rest) K n env h dfs := by
  subst h0
  exact awl_est (c := some (id, some (.row E c1))) (Δ := []) hg hd (Nat.le_refl _) rfl (e_callS hac hb hm hx0 ho hx hcv) (fun id h1 h2 => by omega) (by simp) next
end
section enter
def RetS (P : Program) (tab : Tab) (rs : List ResultVar) (E : TypeId) (size n : Nat) (c1 : List CV) (r : AV) : AK :=
  fun e k env h dfs => (e = .normal ∨ e = .ret) ∧ IdleD P h dfs ∧ framM dfs = some [.own 0 0 n size true] ∧ 0 < k ∧ lk (endD h dfs) 0 = some (.row E c1) ∧ ∃ v, ResL tab env (endD h dfs) rs v ∧ plB v = true ∧ v = r
end enter
end Go.Av
/-
  Contracts of functions that write into a slice of the caller's and hand back a beginning of it; the slice may stand second. For every program.
-/
namespace Go.Av
open Go Go.RowKit

/-- Behind pre a slice of the caller's (n elements, closed cells c0) is handed in; a beginning of it, m elements, is handed back; its cells are c1 then. -/
def ACP (P : Program) (f : FuncId) (E : TypeId) (size n : Nat) (pre c0 args c1 : List CV) (m : Nat) : Prop :=
  ∀ (ok : Nat → Prop) (w : World) (g cap : Nat) (us0 vs0 ps vs : List Value), ¬ ok g → w.heap[g]? = some (.cells (us0 ++ vs0).toArray E (0, 0)) → RepCs ok w c0 us0 → (∀ u ∈ us0, u.oneCell' = true) → n ≤ cap → cap ≤ maxLen → us0.length + vs0.length = cap * size → RepCs ok w pre ps → RepCs ok w args vs →
    Calls P f (ps ++ Value.slice (some ⟨g, 0, none⟩) n cap :: vs).toArray w fun e w' => ∃ v us1 vs1, e = .returned v ∧ FrB w [g] w' ∧ w'.heap[g]? = some (.cells (us1 ++ vs1).toArray E (0, 0)) ∧ us1.length + vs1.length = cap * size ∧ RepCs (okg ok w g) w' c1 us1 ∧ (∀ u ∈ us1, u.oneCell' = true) ∧ ∀ (C : Cx) (id : Nat), C.dom id → C.M id = some g → Rep C (.own id 0 m size false) v
section call
variable {P : Program} {ev : Evl} {h : Heap} {d : Option Tmp} {ty : TypeId} {pos : String} {aft : Array Edge} {gd : Option (Nat × Bool)} {i : Nat} {f : FuncId} {x0 : Operand} {xs : List Operand} {ats : Array TypeId} {E : TypeId} {c0 c1 cs cs' ps ps' : List CV} {id size m k : Nat} {ys : List Operand}
theorem e_callP (hac : ACP P f E size m ps' c0 cs' c1 k) (hb : Body P f) (hm : 0 < m) (hx0 : ev x0 = some (.own id 0 m size true)) (ho : lk h id = some (.row E c0)) (hy : argsC ev ys = some ps) (hcp : CvL ps ps') (hx : argsC ev xs = some cs) (hcv : CvL cs cs') :
    EStep P ⟨d, .call ⟨.value (.func f), (ys ++ x0 :: xs).toArray, ats⟩, ty, pos, aft, gd⟩ ev h (.own id 0 k size false) [] (some (id, some (.row E c1))) i i := by
  intro B dom M H w a K Q hh hn hc he hK
  have hargs : RepCs (okOf B dom M H) w cs (xs.map a.eval) := RepL.toC (C := ⟨dom, M, okOf B dom M H, w⟩) (evs_rep he (by rw [argsC_eq hx, List.map_map]; rfl))
  have hargp : RepCs (okOf B dom M H) w ps (ys.map a.eval) := RepL.toC (C := ⟨dom, M, okOf B dom M H, w⟩) (evs_rep he (by rw [argsC_eq hy, List.map_map]; rfl))
  have hp := he x0 _ hx0
  simp only [Rep] at hp
  obtain ⟨hid, hp⟩ := hp
  rcases hp with ⟨h1, _⟩ | ⟨g, cap, hM, hp, hncap, hcap, hfull⟩ | ⟨h1, _⟩
  · omega
  · obtain ⟨us0, vs0, hb0, hus0, hone0⟩ := obj_row hh hc ho hid hM
    have hng : ¬ okOf B dom M H g := fun hk => hk.2 id _ hid (hh id _ ho hid) hM
    have hlen0 : us0.length + vs0.length = cap * size := by
      obtain ⟨e, hsh⟩ := hfull trivial
      unfold World.shape? at hsh
      rw [hb0] at hsh
      simp only [Option.some.injEq, Prod.mk.injEq, List.size_toArray, List.length_append] at hsh
      omega
    unfold Oper.wp execOp
    simp only [resolve, Deferred.ofValue, Act.eval, invoke, Sem.run_bind, Sem.run_pure, Result.andThen_ok, List.map_toArray, Array.append_empty, Body.run hb, Oper.upon]
    rw [show (#[] ++ (List.map a.eval (ys ++ x0 :: xs)).toArray : Array Value) = (List.map a.eval ys ++ Value.slice (some ⟨g, 0, none⟩) m cap :: List.map a.eval xs).toArray by simp [hp]]
    refine (hac _ w g cap us0 vs0 _ _ hng hb0 hus0 hone0 hncap hcap hlen0 (hcp _ _ _ hargp) (hcv _ _ _ hargs)).mono ?_
    rintro e w' ⟨v, us1, vs1, rfl, hfr, hb1, hlen1, hus1, hone1, hv⟩
    simp only
    have hgs := lt_of_block hb0
    have hg1 : (w'.putObj g (.cells (us0 ++ vs0).toArray E (0, 0))).heap[g]? = some (.cells (us0 ++ vs0).toArray E (0, 0)) := World.putObj_heap_same (lt_of_block hb1)
    have ho1 : ∀ k, k ≠ g → (w'.putObj g (.cells (us0 ++ vs0).toArray E (0, 0))).heap[k]? = w'.heap[k]? := fun k hk => World.putObj_heap_other (fun e => hk e)
    generalize hw1 : w'.putObj g (.cells (us0 ++ vs0).toArray E (0, 0)) = w1 at hg1 ho1
    have hs1 : w1.heap.size = w'.heap.size := by rw [← hw1]; simp [World.putObj]
    have hbl : Below w.heap.size w w1 := ⟨by rw [← hw1]; exact hfr.os, by rw [← hw1]; exact hfr.tape, by rw [← hw1]; exact hfr.output, by rw [hs1]; exact hfr.size, fun k hk => by
      by_cases e : k = g
      · subst e; rw [hg1, hb0]
      · rw [ho1 k e]; exact hfr.block k hk (by simp [e])⟩
    have hgr := hc.grow hbl i i (M' := M) (fun id _ => rfl) (fun id h1 h2 => by omega) (fun id o h1 h2 => by omega) (fun id id' o o' g h1 h2 => by omega) (fun hext id o h1 h2 => by omega)
    rw [ad_self] at hgr
    obtain ⟨g1, g2⟩ := hgr
    have hmon : Keeps (okg (okOf B dom M H) w g) (okOf B dom M (ov (some (id, some (.row E c1))) H)) w' w' := fun b hb hl => by
      refine ⟨⟨?_, fun k o hk hH he => ?_⟩, hl, rfl⟩
      · rcases hb.1 with h1 | h1
        · exact h1.1
        · exact .inr (.inl (Nat.le_trans hc.fr.size h1))
      · by_cases e : k = id
        · subst e
          rw [hM] at he
          injection he with he
          exact hb.2 he.symm
        · rw [ov_ne (fun x hx => e (congrArg Prod.fst (Option.some.inj hx)).symm)] at hH
          rcases hb.1 with h1 | h1
          · exact h1.2 k o hk hH he
          · have := (hc.obj k o hk hH).lt b he
            simp only at this
            omega
    obtain ⟨k1, k2⟩ := g1.turnE (o' := .row E c1) (w' := w') hid (hh id _ ho hid) hM (by rw [← hw1]; rfl) (by rw [← hw1]; rfl) (by rw [← hw1]; rfl) hs1.symm (fun k hk => (ho1 k hk).symm)
      (by
        unfold World.shape?
        rw [hb1, hg1]
        simp only [List.size_toArray, List.length_append]
        rw [hlen1, hlen0])
      (fun hext => .inr ⟨g, us1, vs1, rfl, hb1, RepCs.mono hmon _ _ hus1, hone1⟩)
    rw [ad_self] at hK
    exact hK v w' M (g2.trans k2) k1 (hv _ id hid hM)
  · omega
end call
section
variable {P : Program} {sz n : Nat} {env : Env} {h : Heap} {dfs : Defs} {K : AK} {ops : Array Oper} {rest : List Oper} {d : Option Tmp} {ty : TypeId} {pos : String} {aft : Array Edge} {gd : Option (Nat × Bool)} {f : FuncId} {x0 : Operand} {xs : List Operand} {ats : Array TypeId} {E : TypeId} {c0 c0' c1 cs cs' ps ps' : List CV} {id size m k : Nat} {y0 : Operand}
theorem awl_callP (hac : ACP P f E size m [] c0 cs' c1 k) (hg : guardA ops env ⟨d, .call ⟨.value (.func f), (x0 :: xs).toArray, ats⟩, ty, pos, aft, gd⟩ true) (hd : dstOk d sz = true) (hb : Body P f) (hm : 0 < m) (hx0 : evA env x0 = some (.own id 0 m size true)) (ho : lk h id = some (.row E c0')) (h0 : c0' = c0) (hx : argsC (evA env) xs = some cs) (hcv : CvL cs cs')
    (next : AWL P ops sz rest K n (putE env d (.own id 0 k size false)) ((id, .row E c1) :: h) dfs) : AWL P ops sz (⟨d, .call ⟨.value (.func f), (x0 :: xs).toArray, ats⟩, ty, pos, aft, gd⟩ :: rest) K n env h dfs := by
  subst h0
  exact awl_est (c := some (id, some (.row E c1))) (Δ := []) hg hd (Nat.le_refl _) rfl (e_callP (ys := []) hac hb hm hx0 ho rfl cvl_nil hx hcv) (fun id h1 h2 => by omega) (by simp) next
end
section drawn
variable {P : Program} {l rest : List Oper} {sz i n n0 m : Nat} {K : AK} {dfs : Defs} {env env0 : Env} {h h0 hr : Heap} {es : List Eat} {ids : List Nat} {t : Tmp} {ty : TypeId} {pos : String} {aft : Array Edge} {gd : Option (Nat × Bool)} {f : FuncId} {y0 x0 : Operand} {xs : List Operand} {ats : Array TypeId} {E : TypeId} {c0 c0' c1 cs cs' ps ps' : List CV} {id size q k : Nat}
/-- The same in a region that draws its order. -/
theorem d_callP1 (hac : ACP P f E size q ps' c0 cs' c1 k) (hg : guardA l.toArray env ⟨some t, .call ⟨.value (.func f), (y0 :: x0 :: xs).toArray, ats⟩, ty, pos, aft, gd⟩ true) (hi : idsF env (Oper.looksAt l.toArray ⟨some t, .call ⟨.value (.func f), (y0 :: x0 :: xs).toArray, ats⟩, ty, pos, aft, gd⟩) = some ids) (hfl : filtF ids h = some hr) (hb : Body P f) (hm : 0 < q)
    (hx0 : evT (Oper.looksAt l.toArray ⟨some t, .call ⟨.value (.func f), (y0 :: x0 :: xs).toArray, ats⟩, ty, pos, aft, gd⟩) env x0 = some (.own id 0 q size true)) (ho : lk hr id = some (.row E c0')) (hc0 : c0' = c0) (hy : argsC (evT (Oper.looksAt l.toArray ⟨some t, .call ⟨.value (.func f), (y0 :: x0 :: xs).toArray, ats⟩, ty, pos, aft, gd⟩) env) [y0] = some ps) (hcp : CvL ps ps')
    (hx : argsC (evT (Oper.looksAt l.toArray ⟨some t, .call ⟨.value (.func f), (y0 :: x0 :: xs).toArray, ats⟩, ty, pos, aft, gd⟩) env) xs = some cs) (hcv : CvL cs cs') (hin : Nat.blt id n = true)
    (next : DrwE P l sz K dfs i n0 env0 h0 (es ++ [(ids, some (id, some (.row E c1)))]) m rest n ((t, .own id 0 k size false) :: env) ((id, .row E c1) :: h)) : DrwE P l sz K dfs i n0 env0 h0 es (m + 1) (⟨some t, .call ⟨.value (.func f), (y0 :: x0 :: xs).toArray, ats⟩, ty, pos, aft, gd⟩ :: rest) n env h := by
  subst hc0
  exact drwE_step (v := .own id 0 k size false) (Δ := []) hg (Nat.le_refl _) (filtF_spec hfl) (by simp) (c := some (id, some (.row E c1))) rfl (fun k x e => by
    injection e with e; injection e with e1 e2; subst e1
    exact ⟨(filtF_spec hfl _ _ ho).2, by simpa [Nat.blt_eq] using hin⟩) (e_callP (ys := [y0]) hac hb hm hx0 ho hy hcp hx hcv) (fun id h1 h2 => by omega) (by simp) next
end drawn
section enter
def RetP (P : Program) (tab : Tab) (rs : List ResultVar) (E : TypeId) (size n : Nat) (pre : List CV) (c1 : List CV) (m : Nat) : AK :=
  fun e k env h dfs => (e = .normal ∨ e = .ret) ∧ IdleD P h dfs ∧ framM dfs = some [.own 0 0 n size true] ∧ 0 < k ∧ ∃ c' fl, lk (endD h dfs) 0 = some (.row E c') ∧ c'.take (m * size) = c1 ∧ ResL tab env (endD h dfs) rs (.own 0 0 m size fl)
theorem retP_mk {P : Program} {tab : Tab} {rs : List ResultVar} {E : TypeId} {size n m : Nat} {pre c1 c' : List CV} {h h' : Heap} {k : Nat} {e : Exit} {env : Env} {dfs : Defs} {fl : Bool} (he : e = .normal ∨ e = .ret) (hd : IdleD P h dfs) (hm : framM dfs = some [.own 0 0 n size true]) (hh : endD h dfs = h') (hk : Nat.blt 0 k = true) (ho : lk h' 0 = some (.row E c')) (hc : c'.take (m * size) = c1) (hv : ResL tab env h' rs (.own 0 0 m size fl)) : RetP P tab rs E size n pre c1 m e k env h dfs :=
  ⟨he, hd, hm, by simpa [Nat.blt_eq] using hk, c', fl, by rw [hh, ho], hc, hh ▸ hv⟩
theorem acp_enter {P : Program} {tab : Tab} (tb : TabOk P tab) {f : FuncId} {fn : Func} {c : Code} {E : TypeId} {size n : Nat} {pre c0 args c1 : List CV} {m : Nat} {sz : Nat} (hf : P.funcs[f]? = some fn) (hb : fn.body = some c) (hsz : max fn.ntmps (pre.length + (args.length + 1)) = sz) (hn0 : 0 < n)
    (hx : AW P sz c (RetP P tab fn.results.toList E size n pre c1 m) 1 (enumA 0 (pre.map AV.c ++ .own 0 0 n size true :: args.map AV.c)) [(0, .row E c0)] [(none, [.own 0 0 n size true])]) : ACP P f E size n pre c0 args c1 m := by
  intro ok w g cap us0 vs0 ps vs hng hb0 hc0 hone0 hncap hcap hlen0 hps hvs
  have hlen := hvs.length
  have hlenp := hps.length
  have hok : ∀ b, ok b → okOf ⟨w, [g], ok, [.slice (some ⟨g, 0, none⟩) n cap]⟩ (lt 1) (fun _ => some g) (lk [(0, .row E c0)]) b := fun b hk => ⟨.inl hk, fun id o hid hH he => by
    injection he with he; subst he; exact hng hk⟩
  have hshape : w.shape? g = some (E, 0 + cap * size) := by
    unfold World.shape?
    rw [hb0]
    simp [hlen0]
  have hall : RepL (cx ⟨w, [g], ok, [.slice (some ⟨g, 0, none⟩) n cap]⟩ 1 (fun _ => some g) [(0, .row E c0)] w) (pre.map AV.c ++ .own 0 0 n size true :: args.map AV.c) (ps ++ .slice (some ⟨g, 0, none⟩) n cap :: vs) :=
    RepL.append (RepL.ofC (RepCs.mono (fun b hb hl => ⟨hok b hb, hl, rfl⟩) _ _ hps)) ⟨_, _, rfl, ⟨Nat.zero_lt_one, .inr (.inl ⟨g, cap, rfl, rfl, hncap, hcap, fun _ => ⟨E, hshape⟩⟩)⟩, RepL.ofC (RepCs.mono (fun b hb hl => ⟨hok b hb, hl, rfl⟩) _ _ hvs)⟩
  have hcc : ConcH ⟨w, [g], ok, [.slice (some ⟨g, 0, none⟩) n cap]⟩ (lt 1) (fun _ => some g) (lk [(0, .row E c0)]) w := by
    refine ⟨FrB.refl _ _, fun id o hid hH => ?_, fun id id' o o' g' h1 h2 _ _ _ _ => by simp only [lt] at h1 h2; omega, fun id o g' _ _ he => .inr (by injection he with he; simp [he])⟩
    have hid : id < 1 := hid
    obtain rfl : id = 0 := by omega
    have : some (AObj.row E c0) = some o := hH
    injection this with this
    subst this
    exact .inr ⟨g, us0, vs0, rfl, hb0, RepCs.mono (fun b hb hl => ⟨hok b hb, hl, rfl⟩) _ _ hc0, hone0⟩
  refine calls_of_wpM hf hb (wp_mono (wpg_plain (hx ⟨w, [g], ok, [.slice (some ⟨g, 0, none⟩) n cap]⟩ _ w ⟨fun _ => some g, hcc, ?_, ?_, ?_⟩)) ?_)
  · simp; omega
  · intro t av ht
    obtain ⟨h1, h2⟩ := enumA_get ht
    rw [Nat.sub_zero] at h2
    obtain ⟨u, hu, hru⟩ := hall.get h2
    have : ((ps ++ Value.slice (some ⟨g, 0, none⟩) n cap :: vs).toArray ++ Array.replicate (fn.ntmps - (ps ++ Value.slice (some ⟨g, 0, none⟩) n cap :: vs).toArray.size) undef).getD t undef = u := by
      have hlt := (List.getElem?_eq_some_iff.1 hu).1
      rw [Array.getD_eq_getD_getElem?, Array.getElem?_append_left (by simpa using hlt)]
      rw [List.getElem?_toArray, hu]
      rfl
    rw [this]
    exact hru
  · exact ⟨⟨_, _, rfl, ⟨Nat.zero_lt_one, .inr (.inl ⟨g, cap, rfl, rfl, hncap, hcap, fun _ => ⟨E, hshape⟩⟩)⟩, rfl⟩, rfl⟩
  · intro e a w' hq
    obtain ⟨k, env, h, dfs, ⟨h1, h2, h3, h4, c', fl, h5, h7, h6⟩, M, d1, d2, d3, d4⟩ := hq
    have : LeavesM P fn a.tmps (fun e w' => ∃ v us1 vs1, e = .returned v ∧ FrB w [g] w' ∧ w'.heap[g]? = some (.cells (us1 ++ vs1).toArray E (0, 0)) ∧ us1.length + vs1.length = cap * size ∧ RepCs (okg ok w g) w' c1 us1 ∧ (∀ u ∈ us1, u.oneCell' = true) ∧ ∀ (C : Cx) (id : Nat), C.dom id → C.M id = some g → Rep C (.own id 0 m size false) v) a.defers w' := by
      refine leaves_idle h2 d1 d4 fun w2 g1 g2 => ?_
      obtain ⟨u, k1, k2⟩ := h6.run tb g1 (fun t av ht => Rep.ext g2 _ _ (d3 t av ht))
      have hfr := RepL.ext g2 _ _ (framM_rep h3 d4)
      simp only [RepL, Rep] at hfr
      obtain ⟨u0, us', e1, ⟨hn, hfr⟩, _⟩ := hfr
      injection e1 with e1 e3
      rw [← e1] at hfr
      rcases hfr with ⟨q1, _⟩ | ⟨g', cap', hM, e2, _, _, hfull⟩ | ⟨q1, _⟩
      · omega
      · injection e2 with e2 e5 e6
        injection e2 with e2
        injection e2 with e2 e4
        subst e2 e6
        obtain ⟨us1, vs1, hb1, hr1, hone1⟩ := obj_row (fun id o h _ => h) g1 h5 (show lt k 0 from h4) hM
        have hl1 : us1.length + vs1.length = cap * size := by
          obtain ⟨e, hsh⟩ := hfull trivial
          unfold World.shape? at hsh
          simp only [cx] at hsh
          rw [hb1] at hsh
          simp only [Option.some.injEq, Prod.mk.injEq, List.size_toArray, List.length_append] at hsh
          omega
        refine ⟨u, k2, u, us1.take (m * size), us1.drop (m * size) ++ vs1, rfl, g1.fr, by rw [← List.append_assoc, List.take_append_drop]; exact hb1, by rw [List.length_append, List.length_take, List.length_drop]; omega, ?_, fun x hx => hone1 x (List.mem_of_mem_take hx), fun C id hd hM' => ?_⟩
        · rw [← h7]
          refine RepCs.take _ (RepCs.mono (fun b hb hl => ⟨⟨?_, fun e => ?_⟩, hl, rfl⟩) _ _ hr1)
          · rcases hb.1 with k1 | k1 | k1
            · exact .inl k1
            · exact .inr k1
            · obtain rfl : b = g := by simpa using k1
              exact absurd hM (hb.2 0 _ h4 h5)
          · subst e; exact absurd hM (hb.2 0 _ h4 h5)
        · simp only [Rep, cx] at k1 ⊢
          refine ⟨hd, ?_⟩
          obtain ⟨_, ⟨p1, p2, p3, p4⟩ | ⟨g2', cp, p1, p2, p3, p4, p5⟩ | ⟨p1, p2, A, cp, p3, p4⟩⟩ := k1
          · have hM2 : M 0 = some g := hM
            rw [hM2] at p3; cases p3
          · have hM2 : M 0 = some g := hM
            rw [hM2] at p1
            injection p1 with p1
            subst p1
            exact .inr (.inl ⟨g, cp, hM', p2, p3, p4, fun h => by cases h⟩)
          · exact .inr (.inr ⟨p1, trivial, A, cp, p3, p4⟩)
      · omega
    rcases h1 with rfl | rfl <;> exact this
end enter
end Go.Av
/-
  One own row is only read from here on. For every program.
-/
namespace Go.Av
open Go Go.RowKit
section
variable {n N m size id t : Nat} {full : Bool} {T : TypeId} {cs : List CV} {env : Env} {h : Heap} {dfs : Defs}
theorem weak_fz1 (hx : lkE env t = some (.own id 0 m size full)) (ho : lk h id = some (.row T cs)) (hl : cs.length = m * size) : Weak n env h dfs n ((t, .c (.sl size m cs)) :: env) ((id, .dead) :: h) dfs := by
  have hnone : lk ((id, AObj.dead) :: h) id = none := by rw [lk_cons, if_pos rfl]; rfl
  have hs : ∀ k o, lk ((id, AObj.dead) :: h) k = some o → lk h k = some o := fun k o hk => by
    rw [lk_cons] at hk
    split at hk
    · cases hk
    · exact hk
  intro B sz a w hc
  obtain ⟨M, c1, c2, c3, c4⟩ := hc
  have hext := fz_ext (B := B) (n := n) (M := M) (w := w) hs
  refine ⟨M, ⟨c1.fr, fun id o hid ho => (c1.obj id o hid (hs id o ho)).ext hext (fun _ _ => rfl), fun id id' o o' g k1 k2 k3 k4 => c1.inj id id' o o' g k1 k2 (hs id o k3) (hs id' o' k4), fun id o g k1 k2 => c1.lo id o g k1 (hs id o k2)⟩, c2, fun k av hk => ?_, c4.ext hext⟩
  rw [lkE_cons] at hk
  split at hk
  · rename_i e
    subst e
    injection hk with hk
    subst hk
    exact fz_ownW (Hp := (id, .dead) :: h) ho hnone hl B n M w _ hs c1 (c3 _ _ hx)
  · exact Rep.ext hext _ _ (c3 k av hk)
theorem aw_fz {P : Program} {sz : Nat} {c : Code} {K : AK} (t : Nat) (hx : lkE env t = some (.own id 0 m size full)) (ho : lk h id = some (.row T cs)) (hl : cs.length = m * size) (next : AW P sz c K n ((t, .c (.sl size m cs)) :: env) ((id, .dead) :: h) dfs) : AW P sz c K n env h dfs := aw_weak (weak_fz1 hx ho hl) next
theorem awl_fz {P : Program} {ops : Array Oper} {sz : Nat} {l : List Oper} {K : AK} (t : Nat) (hx : lkE env t = some (.own id 0 m size full)) (ho : lk h id = some (.row T cs)) (hl : cs.length = m * size) (next : AWL P ops sz l K n ((t, .c (.sl size m cs)) :: env) ((id, .dead) :: h) dfs) : AWL P ops sz l K n env h dfs := awl_weak (weak_fz1 hx ho hl) next
theorem awl_fzE {P : Program} {ops : Array Oper} {sz m' : Nat} {cs' : List CV} {l : List Oper} {K : AK} (t : Nat) (hx : lkE env t = some (.own id 0 m size full)) (ho : lk h id = some (.row T cs)) (hl : cs.length = m * size) (hm : m = m') (hc : cs = cs') (next : AWL P ops sz l K n ((t, .c (.sl size m' cs')) :: env) ((id, .dead) :: h) dfs) : AWL P ops sz l K n env h dfs := by
  subst hm hc
  exact awl_weak (weak_fz1 hx ho hl) next
end
end Go.Av
/-
  clear on a slice of an own row: what stands in front of it stays known. Comparing a slice of no element with nil. For every program.
-/
namespace Go.Av
open Go Go.RowKit
theorem setCells_row (g : Nat) (T : TypeId) : ∀ (vs : List Value) (o : Nat) (w : World) (cur : List Value), w.heap[g]? = some (.cells cur.toArray T (0, 0)) →
    ∃ cur' : List Value, cur'.length = cur.length ∧ cur'.take o = cur.take o ∧ w.setCells g o vs = w.setRow g cur'.toArray
  | [], o, w, cur, h => ⟨cur, rfl, rfl, (setRow_self w g _ T _ h).symm⟩
  | v :: vs, o, w, cur, h => by
    have h1 := setCell_eq_setRow w g o cur.toArray T (0, 0) v h
    rw [List.setIfInBounds_toArray] at h1
    have h2 := setRow_heap w g cur.toArray (cur.set o v).toArray T (0, 0) h
    obtain ⟨c, c1, c2, c3⟩ := setCells_row g T vs (o + 1) (w.setRow g (cur.set o v).toArray) (cur.set o v) h2
    refine ⟨c, by rw [c1, List.length_set], ?_, ?_⟩
    · have := congrArg (List.take o) c2
      rw [List.take_take, List.take_take, Nat.min_eq_left (by omega), List.take_set_of_le (Nat.le_refl _)] at this
      exact this
    · show (w.setCell ⟨g, o, none⟩ v).setCells g (o + 1) vs = _
      rw [h1, c3, setRow_setRow]
theorem exec_clear {P : Program} {T ty : TypeId} {pos : String} {aft : Array Edge} {gd : Option (Nat × Bool)} {x : Operand} {w w' : World} (ρ : Operand → Value) {v : Value} (hr : (Builtin.clear_ #[T] ty #[ρ x]).run P w = .ok v w') : (execOp ρ ⟨none, .call ⟨.builtin .clear, #[x], #[T]⟩, ty, pos, aft, gd⟩).run P w = .ok (.value v) w' := by
  simp only [execOp, resolve, invoke, builtin, Sem.run_bind, Sem.run_pure, Result.andThen_ok, List.map_toArray, List.map_cons, List.map_nil, hr]
theorem run_clear_cells {P : Program} (w : World) (t e ty : TypeId) (z zv : Value) (ht : P.underlying t = some (.slice e)) (hv : ∀ w, (zeroValue e).run P w = .ok zv w) (hz : zv.cells = #[z]) (h1 : z.oneCell' = true) (b o n c : Nat) (hn : 0 < n)
    (hc : ∀ j, j < n → (w.cell? ⟨b, o + j, none⟩).isSome = true) (hf : ∀ j, j < n → w.frozen? ⟨b, o + j, none⟩ = false) :
    (Builtin.clear_ #[t] ty #[.slice (some ⟨b, o, none⟩) n c]).run P w = .ok (.tuple #[]) (w.setCells b o (List.replicate n z)) := by
  have hzc : (Builtin.zeroCells zv.cells n).toList = List.replicate n z := by
    rw [hz]
    simp [Builtin.zeroCells]
    apply List.ext_getElem
    · simp
    · intro i h1 h2
      simp [Nat.mod_one]
  have hst := run_storeCells_cells (P := P) b o (List.replicate n z) 0 w (by simpa using hc) (by simpa using hf) (by intro v hv'; rw [List.eq_of_mem_replicate hv']; exact h1)
  simp only [Nat.add_zero] at hst
  obtain ⟨m, rfl⟩ : ∃ m, n = m + 1 := ⟨n - 1, by omega⟩
  simp [Builtin.clear_, run_underlying ht, hv, hzc, hst]
section
variable {P : Program} {tab : Tab} {sz n : Nat} {env : Env} {h : Heap} {dfs : Defs} {K : AK} {ops : Array Oper} {rest : List Oper} {ty T : TypeId} {pos : String} {aft : Array Edge} {gd : Option (Nat × Bool)} {x : Operand}
theorem awl_clear (tb : TabOk P tab) {e e' : TyE} {E T' : TypeId} {z : Value} (hg : guardA ops env ⟨none, .call ⟨.builtin .clear, #[x], #[T]⟩, ty, pos, aft, gd⟩ true) (hT : tyLook tab T = some e) (hk : e.kind = .slice E) (hE : tyLook tab E = some e') (hz : e'.zero = [z]) (h1 : z.oneCell' = true)
    {id off m : Nat} {full : Bool} {cs : List CV} (hx : evA env x = some (.own id off m 1 full)) (ho : lk h id = some (.row T' cs)) (hm : 0 < m) (hfit : off + m ≤ cs.length)
    (next : AWL P ops sz rest K n env ((id, .row T' (cs.take off)) :: h) dfs) : AWL P ops sz (⟨none, .call ⟨.builtin .clear, #[x], #[T]⟩, ty, pos, aft, gd⟩ :: rest) K n env h dfs := by
  intro B a w hc
  obtain ⟨M, c1, c2, c3, c4⟩ := hc
  refine wplg_step fun K' hK' => ?_
  rw [if_pos (hg.wanted c3)]
  have hp := rep_eval c3 x _ hx
  simp only [Rep] at hp
  obtain ⟨hid, ⟨q1, _⟩ | ⟨g, cp, hM, hp, hmc, hcp, _⟩ | ⟨q1, _⟩⟩ := hp
  · omega
  · obtain ⟨us, vs, hb, hus, hone⟩ := obj_row (fun id o h _ => h) c1 ho hid hM
    have hul := hus.length
    obtain ⟨i, hi, _, _, zv, hzv, hzz⟩ := (tyLook_ok tb hE).parts
    have hzeq : zv.cells = #[z] := by
      rw [hz] at hzz
      exact Array.toList_inj.1 hzz
    have hv : ∀ w, (zeroValue E).run P w = .ok zv w := fun w => by
      simp only [zeroValue, typeInfo, Sem.run_bind, run_program, Result.andThen_ok, hi, Sem.run_pure, hzv]
    have hcell : ∀ j, j < m → (w.cell? ⟨g, off + j, none⟩).isSome = true := fun j hj => by
      rw [cell_blk hb, List.getElem?_append_left (by omega), List.getElem?_eq_getElem (by omega)]; rfl
    have hfr : ∀ j, j < m → w.frozen? ⟨g, off + j, none⟩ = false := fun j hj => by
      unfold World.frozen?
      rw [hb]
      simp
    have hrun := run_clear_cells (P := P) w T E ty z zv ((tyLook_ok tb hT).slice hk) hv hzeq h1 g off m cp hm hcell hfr
    obtain ⟨cur, l1, l2, l3⟩ := setCells_row g T' (List.replicate m z) off w (us ++ vs) hb
    rw [l3] at hrun
    rw [List.take_append_of_le_length (by omega)] at l2
    have hcur : cur = us.take off ++ cur.drop off := by rw [← l2, List.take_append_drop]
    unfold Oper.wp
    have hx' := exec_clear (P := P) (T := T) (ty := ty) (pos := pos) (aft := aft) (gd := gd) (x := x) (w := w) a.eval (v := .tuple #[]) (by rw [hp]; exact hrun)
    simp only [hx']
    obtain ⟨k1, k2⟩ := c1.turn (o' := .row T' (cs.take off)) (w' := w.setRow g cur.toArray) rfl hid ho hM rfl rfl rfl (by simp) (fun k hk => setRow_other w g k _ hk) (shape_setRow hb (by simp [l1]))
      (fun hext => .inr ⟨g, us.take off, cur.drop off, rfl, by rw [← hcur]; exact setRow_heap w g _ _ T' _ hb, RepCs.mono hext.ok _ _ (RepCs.take off hus), fun u hu => hone u (List.mem_of_mem_take hu)⟩)
    simp only [Oper.upon, Act.put]
    exact hK' _ _ (next B _ _ ⟨M, k1, c2, fun t av ht => Rep.ext k2 _ _ (c3 t av ht), c4.ext k2⟩)
  · omega
end
section
variable {P : Program} {tab : Tab} {ev : Evl} {h : Heap} {d : Option Tmp} {T T' ty : TypeId} {x y : Operand} {pos : String} {aft : Array Edge} {gd : Option (Nat × Bool)}
theorem s_eqnilV (tb : TabOk P tab) {e : TyE} {E n c : Nat} {A : Option Addr} (hT : tyLook tab T = some e) (hk : e.kind = .slice E) (hx : ev x = some (.c (.v (.slice A n c)))) (hy : ev y = some (.c (.v (.slice none 0 0)))) : Still P ⟨d, .binOp .eql T x y T', ty, pos, aft, gd⟩ ev h (.c (.v (.bool A.isNone))) := by
  intro B dom M H w a hh hc he
  have h1 := he x _ hx
  have h2 := he y _ hy
  simp only [Rep, RepC] at h1 h2
  refine ⟨.bool A.isNone, ?_, rfl⟩
  have hr := run_equal_slice_nil (P := P) w T E A n c ((tyLook_ok tb hT).slice hk)
  simp [execOp, h1, h2, eqGuard, binOp, hr]
end
end Go.Av
/-
  Equal neighbours taken away (walk).
-/
namespace Go.Proofs.YtccnhpaldmjkbaaGreat
open Go Go.RowKit Go.Av
set_option maxRecDepth 100000
theorem ic_at {l : List Int} {i : Nat} {x : Int} (h : l[i]? = some x) : (intc .i64 l)[i]? = some (iv x) := by simp [intc, h]
theorem ic_set (l : List Int) (p : Nat) (x : Int) : intc .i64 (l.set p x) = (intc .i64 l).set p (iv x) := by simp [intc, List.map_set]
theorem ic_take (l : List Int) (p : Nat) : intc .i64 (l.take p) = (intc .i64 l).take p := by simp [intc, List.map_take]
theorem ic_len (l : List Int) : (intc .i64 l).length = l.length := by simp [intc]
attribute [local irreducible] Still Adds AWL AW Drw DrwE EStep AC AWR Weak Frz Src RetK Out InK ItK AsK RdK RetT OutT ACT ACS RetS ACP RetP
set_option maxHeartbeats 4000000 in
theorem compact_ok (l : List Int) (n : Nat) (hn : l.length = n) (h0 : 0 < n) (hnn : n ≤ 1000000) : ACP Tryz.prog 159 2 1 n [] (intc .i64 l) [] (intc .i64 (compN l n)) (compN l n).length := by
  have hil : (intc .i64 l).length = n := by rw [ic_len, hn]
  by_cases n1 : n = 1
  · have hc : compN l n = l := by
      subst n1
      have e : compN l 1 = [l.getD 0 0] := by rw [compN, if_neg (by omega)]; rfl
      rw [e]
      match l, hn with
      | [x], _ => rfl
    rw [hc, hn]
    subst n1
    refine acp_enter tabOk (sz := 61) Tryz.func159 rfl (by rw [Tryz.ntmps159]; rfl) (h0) ?_
    repeat' (first | ((with_reducible refine aw_seqk ?_); intro K hK hX) | ((with_reducible refine isC_reg ?_); refine aw_prune [0, 2, 3, 4, 5] rfl rfl ?_; with_reducible refine aw_region ?_) | ((with_reducible refine isC_draw ?_); refine aw_prune [0, 2, 3, 4, 5] rfl rfl ?_; refine aw_drwF [] ?_) | refine stA ?_ | refine stD ?_ | (refine hK _ _ _ _ ?_; clear hK hX K) | (refine hX _ _ _ _ _ (by simp) ?_; clear hK hX K))
    refine retP_mk zio ztr rfl rfl rfl rfl (List.take_of_length_le (by omega)) (ResL.one (ResA.tmp rfl))
  · refine acp_enter tabOk (sz := 61) Tryz.func159 rfl (by rw [Tryz.ntmps159]; rfl) (h0) ?_
    repeat' (first | ((with_reducible refine aw_seqk ?_); intro K hK hX) | ((with_reducible refine isC_reg ?_); refine aw_prune [0, 2, 3, 4, 5] rfl rfl ?_; with_reducible refine aw_region ?_) | ((with_reducible refine isC_draw ?_); refine aw_prune [0, 2, 3, 4, 5] rfl rfl ?_; refine aw_drwF [] ?_) | refine stA ?_ | refine stD ?_ | (refine hK _ _ _ _ ?_; clear hK hX K) | (refine hX _ _ _ _ _ (by simp) ?_; clear hK hX K))
    have e1 : compN l 1 = [l.getD 0 0] := by rw [compN, if_neg (by omega)]; rfl
    have r1 : rowN l 1 = l := (rowN_full (m := 0) (by omega) rfl (by omega) rfl).2
    refine aw_loopo [3, 4, 5] [0] rfl rfl (fun k : Nat => [(3, .c (iv k))]) (fun k => [(0, .row 2 (intc .i64 l))]) (fun k => 1 ≤ k ∧ k ≤ n ∧ (compN l k).length = k ∧ rowN l k = l) (fun k => n - k) 1 ⟨Nat.le_refl _, by omega, by rw [e1]; rfl, r1⟩ weakA ?_
    rintro k ⟨hk1, hk, hkl, hkr⟩ K hK hX
    (try dsimp only at *)
    by_cases hlt : k < n
    · have a1 := ic_at (gD_at (l := l) (i := k) (by omega))
      have a0 := ic_at (gD_at (l := l) (i := k - 1) (by omega))
      by_cases heq : l.getD k 0 = l.getD (k - 1) 0
      · obtain ⟨s1, s2⟩ := rowN_skip (l := l) (m := k) (by omega) heq
        generalize l.getD k 0 = x1 at *
        generalize l.getD (k - 1) 0 = x0 at *
        repeat' (first | ((with_reducible refine aw_seqk ?_); intro K hK hX) | ((with_reducible refine isC_reg ?_); refine aw_prune [0, 2, 3, 4, 5] rfl rfl ?_; with_reducible refine aw_region ?_) | ((with_reducible refine isC_draw ?_); refine aw_prune [0, 2, 3, 4, 5] rfl rfl ?_; refine aw_drwF [] ?_) | ((first | ((with_reducible refine isA_any ?_); refine xA ?_) | ((with_reducible refine isDk_any ?_); refine xD ?_)); (first | ((with_reducible refine e_load ?_); (first | refine ex_i (s_load1 tabOk rfl rfl rfl rfl (by first | (rw [Nat.zero_add, Nat.mul_one]; exact a1) | (rw [Nat.zero_add, Nat.mul_one]; exact a0))) ?_ | refine ex_i (s_load1r tabOk rfl rfl rfl rfl (by first | (rw [Nat.zero_add, Nat.mul_one]; exact a1) | (rw [Nat.zero_add, Nat.mul_one]; exact a0))) ?_ | refine ex_i (s_load1i tabOk rfl rfl rfl (by first | (rw [Nat.zero_add, Nat.mul_one]; exact a1) | (rw [Nat.zero_add, Nat.mul_one]; exact a0))) ?_)) | ((with_reducible refine e_ix ?_); (first | refine ex_i (s_ixV1 tabOk rfl rfl zcj rfl rfl rfl rfl rfl zle (by first | (rw [Nat.zero_add, Nat.mul_one]; exact a1) | (rw [Nat.zero_add, Nat.mul_one]; exact a0))) ?_ | refine ex_i (s_ixStr tabOk rfl rfl zcj rfl rfl (by first | (rw [Nat.zero_add, Nat.mul_one]; exact a1) | (rw [Nat.zero_add, Nat.mul_one]; exact a0))) ?_)))) | refine stA ?_ | refine stD ?_ | (refine hK _ _ _ _ ?_; clear hK hX K) | (refine hX _ _ _ _ _ (by simp) ?_; clear hK hX K))
        refine aw_loopo [3, 5] [0] rfl rfl (fun m : Nat => [(3, .c (iv (compN l m).length)), (5, .c (iv (m - k : Nat)))]) (fun m => [(0, .row 2 (intc .i64 (rowN l m)))]) (fun m => k + 1 ≤ m ∧ m ≤ n ∧ (compN l m).length < m) (fun m => n - m) (k + 1) ⟨Nat.le_refl _, by omega, by rw [s1, hkl]; omega⟩ (by refine weak_mk rfl ?_ ?_ rfl <;> (repeat' (first | exact weakE_nil | exact weakH_nil | refine weakE_cons rfl (by first | rfl | (first | rw [s1, hkl] | rw [s2, hkr]) | exact zeq) rfl ?_ | refine weakH_cons rfl (by first | rfl | (first | rw [s1, hkl] | rw [s2, hkr]) | exact zeq) rfl ?_))) ?_
        rintro m ⟨hm1, hm, hml⟩ K hK hX
        (try dsimp only at *)
        clear a1 a0 s1 s2 hkl hkr heq e1 r1
        have hrl := rowN_length (l := l) (m := m) (by omega)
        have hri : (intc .i64 (rowN l m)).length = n := by rw [ic_len, hrl, hn]
        by_cases hlt2 : m < n
        · have b1 := ic_at (gD_at (l := rowN l m) (i := m) (by omega))
          have b0 := ic_at (gD_at (l := rowN l m) (i := m - 1) (by omega))
          rw [rowN_at (by omega) (by omega) (by omega)] at b1 b0
          by_cases heq2 : l.getD m 0 = l.getD (m - 1) 0
          · obtain ⟨t1, t2⟩ := rowN_skip (l := l) (m := m) (by omega) heq2
            rw [← t2] at b1 b0 hri
            generalize l.getD m 0 = y1 at *
            generalize l.getD (m - 1) 0 = y0 at *
            rw [← t1] at hml
            rw [← t1, ← t2]
            repeat' (first | ((with_reducible refine aw_seqk ?_); intro K hK hX) | ((with_reducible refine isC_reg ?_); refine aw_prune [0, 2, 3, 4, 5] rfl rfl ?_; with_reducible refine aw_region ?_) | ((with_reducible refine isC_draw ?_); refine aw_prune [0, 2, 3, 4, 5] rfl rfl ?_; refine aw_drwF [] ?_) | ((first | ((with_reducible refine isA_any ?_); refine xA ?_) | ((with_reducible refine isDk_any ?_); refine xD ?_)); (first | ((with_reducible refine e_load ?_); (first | refine ex_i (s_load1 tabOk rfl rfl rfl rfl (by first | (refine at_eq b1 ?_; omega) | (refine at_eq b0 ?_; omega))) ?_ | refine ex_i (s_load1r tabOk rfl rfl rfl rfl (by first | (refine at_eq b1 ?_; omega) | (refine at_eq b0 ?_; omega))) ?_ | refine ex_i (s_load1i tabOk rfl rfl rfl (by first | (refine at_eq b1 ?_; omega) | (refine at_eq b0 ?_; omega))) ?_)) | ((with_reducible refine e_ix ?_); (first | refine ex_i (s_ixV1 tabOk rfl rfl zcj rfl rfl rfl rfl rfl zle (by first | (refine at_eq b1 ?_; omega) | (refine at_eq b0 ?_; omega))) ?_ | refine ex_i (s_ixStr tabOk rfl rfl zcj rfl rfl (by first | (refine at_eq b1 ?_; omega) | (refine at_eq b0 ?_; omega))) ?_)))) | refine stA ?_ | refine stD ?_ | (refine hK _ _ _ _ ?_; clear hK hX K) | (refine hX _ _ _ _ _ (by simp) ?_; clear hK hX K))
            exact ⟨m + 1, ⟨by omega, by omega, by omega⟩, by omega, weakA⟩
          · obtain ⟨t1, t2⟩ := rowN_keep (l := l) (m := m) (by omega) (fun h => heq2 h.2)
            generalize l.getD m 0 = y1 at *
            generalize l.getD (m - 1) 0 = y0 at *
            obtain ⟨c, hc⟩ : ∃ c, (compN l m).length = c := ⟨_, rfl⟩
            rw [hc] at t1 t2 hml ⊢
            have hset : (intc .i64 (rowN l m)).set (0 + c * 1) (iv y1) = intc .i64 (rowN l (m + 1)) := by rw [Nat.zero_add, Nat.mul_one, t2, ic_set]
            repeat' (first | ((with_reducible refine aw_seqk ?_); intro K hK hX) | ((with_reducible refine isC_reg ?_); refine aw_prune [0, 2, 3, 4, 5] rfl rfl ?_; with_reducible refine aw_region ?_) | ((with_reducible refine isC_draw ?_); refine aw_prune [0, 2, 3, 4, 5] rfl rfl ?_; refine aw_drwF [] ?_) | ((first | ((with_reducible refine isA_any ?_); refine xA ?_) | ((with_reducible refine isDk_any ?_); refine xD ?_)); (first | ((with_reducible refine e_load ?_); (first | refine ex_i (s_load1 tabOk rfl rfl rfl rfl (by first | (refine at_eq b1 ?_; omega) | (refine at_eq b0 ?_; omega))) ?_ | refine ex_i (s_load1r tabOk rfl rfl rfl rfl (by first | (refine at_eq b1 ?_; omega) | (refine at_eq b0 ?_; omega))) ?_ | refine ex_i (s_load1i tabOk rfl rfl rfl (by first | (refine at_eq b1 ?_; omega) | (refine at_eq b0 ?_; omega))) ?_)) | ((with_reducible refine e_ix ?_); (first | refine ex_i (s_ixV1 tabOk rfl rfl zcj rfl rfl rfl rfl rfl zle (by first | (refine at_eq b1 ?_; omega) | (refine at_eq b0 ?_; omega))) ?_ | refine ex_i (s_ixStr tabOk rfl rfl zcj rfl rfl (by first | (refine at_eq b1 ?_; omega) | (refine at_eq b0 ?_; omega))) ?_)))) | ((with_reducible refine isA_store ?_); (refine awl_store1r tabOk g_none rfl rfl rfl rfl rfl rfl (by first | omega | exact Nat.le_of_ble_eq_true rfl | omega | (simp <;> omega)) ?_)) | refine stA ?_ | refine stD ?_ | (refine hK _ _ _ _ ?_; clear hK hX K) | (refine hX _ _ _ _ _ (by simp) ?_; clear hK hX K))
            exact ⟨m + 1, ⟨by omega, by omega, by omega⟩, by omega, (by refine weak_mk rfl ?_ ?_ rfl <;> (repeat' (first | exact weakE_nil | exact weakH_nil | refine weakE_cons rfl (by first | rfl | (exact congrArg (AObj.row 2) hset) | exact zeq) rfl ?_ | refine weakH_cons rfl (by first | rfl | (exact congrArg (AObj.row 2) hset) | exact zeq) rfl ?_)))⟩
        · have hmn : m = n := by omega
          rw [hmn] at hri hml ⊢
          have htk := rowN_take (l := l) (m := n)
          repeat' (first | ((with_reducible refine aw_seqk ?_); intro K hK hX) | ((with_reducible refine isC_reg ?_); refine aw_prune [0, 2, 3, 4, 5] rfl rfl ?_; with_reducible refine aw_region ?_) | ((with_reducible refine isC_draw ?_); refine aw_prune [0, 2, 3, 4, 5] rfl rfl ?_; refine aw_drwF [] ?_) | ((with_reducible refine isA_bi ?_); refine awl_clear tabOk g_none rfl rfl rfl rfl rfl rfl rfl (by omega) (by first | omega | (simp only [ic_len]; omega)) ?_) | refine stA ?_ | refine stD ?_ | (refine hK _ _ _ _ ?_; clear hK hX K) | (refine hX _ _ _ _ _ (by simp) ?_; clear hK hX K))
          refine retP_mk zio ztr rfl rfl rfl rfl (by rw [Nat.zero_add, List.take_take, Nat.min_self, Nat.mul_one, ← ic_take, htk]) (ResL.one (ResA.tmp rfl))
      · obtain ⟨s1, s2⟩ := rowN_full (l := l) (m := k) (by omega) hkl (fun h => heq h.2) hkr
        clear hkl hkr e1 r1
        generalize l.getD k 0 = x1 at *
        generalize l.getD (k - 1) 0 = x0 at *
        repeat' (first | ((with_reducible refine aw_seqk ?_); intro K hK hX) | ((with_reducible refine isC_reg ?_); refine aw_prune [0, 2, 3, 4, 5] rfl rfl ?_; with_reducible refine aw_region ?_) | ((with_reducible refine isC_draw ?_); refine aw_prune [0, 2, 3, 4, 5] rfl rfl ?_; refine aw_drwF [] ?_) | ((first | ((with_reducible refine isA_any ?_); refine xA ?_) | ((with_reducible refine isDk_any ?_); refine xD ?_)); (first | ((with_reducible refine e_load ?_); (first | refine ex_i (s_load1 tabOk rfl rfl rfl rfl (by first | (rw [Nat.zero_add, Nat.mul_one]; exact a1) | (rw [Nat.zero_add, Nat.mul_one]; exact a0))) ?_ | refine ex_i (s_load1r tabOk rfl rfl rfl rfl (by first | (rw [Nat.zero_add, Nat.mul_one]; exact a1) | (rw [Nat.zero_add, Nat.mul_one]; exact a0))) ?_ | refine ex_i (s_load1i tabOk rfl rfl rfl (by first | (rw [Nat.zero_add, Nat.mul_one]; exact a1) | (rw [Nat.zero_add, Nat.mul_one]; exact a0))) ?_)) | ((with_reducible refine e_ix ?_); (first | refine ex_i (s_ixV1 tabOk rfl rfl zcj rfl rfl rfl rfl rfl zle (by first | (rw [Nat.zero_add, Nat.mul_one]; exact a1) | (rw [Nat.zero_add, Nat.mul_one]; exact a0))) ?_ | refine ex_i (s_ixStr tabOk rfl rfl zcj rfl rfl (by first | (rw [Nat.zero_add, Nat.mul_one]; exact a1) | (rw [Nat.zero_add, Nat.mul_one]; exact a0))) ?_)))) | refine stA ?_ | refine stD ?_ | (refine hK _ _ _ _ ?_; clear hK hX K) | (refine hX _ _ _ _ _ (by simp) ?_; clear hK hX K))
        exact ⟨k + 1, ⟨by omega, by omega, s1, s2⟩, by omega, weakA⟩
    · have hkn : k = n := by omega
      rw [hkn] at hkl hkr
      have hcl : compN l n = l := by
        unfold rowN at hkr
        rw [List.drop_eq_nil_of_le (by omega), List.append_nil] at hkr
        exact hkr
      clear hkl hkr e1 r1
      repeat' (first | ((with_reducible refine aw_seqk ?_); intro K hK hX) | ((with_reducible refine isC_reg ?_); refine aw_prune [0, 2, 3, 4, 5] rfl rfl ?_; with_reducible refine aw_region ?_) | ((with_reducible refine isC_draw ?_); refine aw_prune [0, 2, 3, 4, 5] rfl rfl ?_; refine aw_drwF [] ?_) | refine stA ?_ | refine stD ?_ | (refine hK _ _ _ _ ?_; clear hK hX K) | (refine hX _ _ _ _ _ (by simp) ?_; clear hK hX K))
      rw [hcl, hn]
      refine retP_mk zio ztr rfl rfl rfl rfl (List.take_of_length_le (by omega)) (ResL.one (ResA.tmp rfl))
end Go.Proofs.YtccnhpaldmjkbaaGreat
namespace Go.Proofs.YtccnhpaldmjkbaaGreat
open Go.Shelf Go.Proofs
def Tryz.srtI_ren : Go.Shelf.Ren := ⟨fun | 5 => 158 | 8 => 140 | 7 => 188 | 19 => 171 | 20 => 172 | 10 => 202 | 11 => 203 | 12 => 204 | 13 => 205 | 14 => 206 | 15 => 207 | 16 => 208 | 17 => 209 | 18 => 210 | 30 => 213 | 31 => 192 | 32 => 193 | 33 => 214 | 34 => 215 | 35 => 196 | 40 => 216 | n => n, fun | 23 => 40 | 25 => 2 | 3 => 3 | 32 => 94 | 22 => 40 | 0 => 0 | 44 => 171 | 46 => 124 | 4 => 4 | 36 => 165 | 35 => 164 | 41 => 104 | 5 => 5 | 9 => 9 | 53 => 185 | 57 => 189 | 63 => 200 | 64 => 201 | n => n, fun | n => n⟩
theorem Tryz.srtI : Go.Proofs.SlLaysM.n5 Tryz.prog Tryz.srtI_ren := {
  mixed := by kernel_rfl
  f5 := ⟨Tryz.f158.name, by decide, Tryz.func158.trans (congrArg some (by kernel_rfl))⟩
  f7 := ⟨Tryz.f188.name, by decide, Tryz.func188.trans (congrArg some (by kernel_rfl))⟩
  f8 := Tryz.func140.trans (congrArg some (by kernel_rfl))
  f10 := ⟨Tryz.f202.name, by decide, Tryz.func202.trans (congrArg some (by kernel_rfl))⟩
  f11 := ⟨Tryz.f203.name, by decide, Tryz.func203.trans (congrArg some (by kernel_rfl))⟩
  f12 := ⟨Tryz.f204.name, by decide, Tryz.func204.trans (congrArg some (by kernel_rfl))⟩
  f13 := ⟨Tryz.f205.name, by decide, Tryz.func205.trans (congrArg some (by kernel_rfl))⟩
  f14 := ⟨Tryz.f206.name, by decide, Tryz.func206.trans (congrArg some (by kernel_rfl))⟩
  f15 := ⟨Tryz.f207.name, by decide, Tryz.func207.trans (congrArg some (by kernel_rfl))⟩
  f16 := ⟨Tryz.f208.name, by decide, Tryz.func208.trans (congrArg some (by kernel_rfl))⟩
  f17 := ⟨Tryz.f209.name, by decide, Tryz.func209.trans (congrArg some (by kernel_rfl))⟩
  f18 := ⟨Tryz.f210.name, by decide, Tryz.func210.trans (congrArg some (by kernel_rfl))⟩
  f19 := Tryz.func171.trans (congrArg some (by kernel_rfl))
  f20 := Tryz.func172.trans (congrArg some (by kernel_rfl))
  f30 := ⟨Tryz.f213.name, by decide, Tryz.func213.trans (congrArg some (by kernel_rfl))⟩
  f31 := Tryz.func192.trans (congrArg some (by kernel_rfl))
  f32 := Tryz.func193.trans (congrArg some (by kernel_rfl))
  f33 := ⟨Tryz.f214.name, by decide, Tryz.func214.trans (congrArg some (by kernel_rfl))⟩
  f34 := ⟨Tryz.f215.name, by decide, Tryz.func215.trans (congrArg some (by kernel_rfl))⟩
  f35 := ⟨Tryz.f196.name, by decide, Tryz.func196.trans (congrArg some (by kernel_rfl))⟩
  f40 := ⟨Tryz.f216.name, by decide, Tryz.func216.trans (congrArg some (by kernel_rfl))⟩
  t0 := Tryz.underlying0
  a0 := Tryz.isAgg0
  z0 := Tryz.sizeOf0
  v0 := Tryz.zeroValue0
  t3 := Tryz.underlying3
  a3 := Tryz.isAgg3
  z3 := Tryz.sizeOf3
  v3 := Tryz.zeroValue3
  t4 := Tryz.underlying4
  a4 := Tryz.isAgg4
  z4 := Tryz.sizeOf4
  v4 := Tryz.zeroValue4
  t5 := Tryz.underlying5
  a5 := Tryz.isAgg5
  z5 := Tryz.sizeOf5
  v5 := Tryz.zeroValue5
  t9 := Tryz.underlying9
  a9 := Tryz.isAgg9
  z9 := Tryz.sizeOf9
  v9 := Tryz.zeroValue9
  t22 := Tryz.underlying40
  a22 := Tryz.isAgg40
  z22 := Tryz.sizeOf40
  v22 := Tryz.zeroValue40
  t23 := Tryz.underlying40
  a23 := Tryz.isAgg40
  z23 := Tryz.sizeOf40
  v23 := Tryz.zeroValue40
  t25 := Tryz.underlying2
  a25 := Tryz.isAgg2
  z25 := Tryz.sizeOf2
  v25 := Tryz.zeroValue2
  t32 := Tryz.underlying94
  a32 := Tryz.isAgg94
  z32 := Tryz.sizeOf94
  v32 := Tryz.zeroValue94
  t35 := Tryz.underlying164
  a35 := Tryz.isAgg164
  z35 := Tryz.sizeOf164
  v35 := Tryz.zeroValue164
  t36 := Tryz.underlying165
  a36 := Tryz.isAgg165
  z36 := Tryz.sizeOf165
  v36 := Tryz.zeroValue165
  t41 := Tryz.underlying104
  a41 := Tryz.isAgg104
  z41 := Tryz.sizeOf104
  v41 := Tryz.zeroValue104
  t44 := Tryz.underlying171
  a44 := Tryz.isAgg171
  z44 := Tryz.sizeOf171
  v44 := Tryz.zeroValue171
  t46 := Tryz.underlying124
  a46 := Tryz.isAgg124
  z46 := Tryz.sizeOf124
  v46 := Tryz.zeroValue124
  t53 := Tryz.underlying185
  a53 := Tryz.isAgg185
  z53 := Tryz.sizeOf185
  v53 := Tryz.zeroValue185
  t57 := Tryz.underlying189
  a57 := Tryz.isAgg189
  z57 := Tryz.sizeOf189
  v57 := Tryz.zeroValue189
  t63 := Tryz.underlying200
  a63 := Tryz.isAgg200
  z63 := Tryz.sizeOf200
  v63 := Tryz.zeroValue200
  t64 := Tryz.underlying201
  a64 := Tryz.isAgg201
  z64 := Tryz.sizeOf201
  v64 := Tryz.zeroValue201 }
end Go.Proofs.YtccnhpaldmjkbaaGreat
/-
  A sort of the shelf as a contract over a slice of the caller's. For every program.
-/
namespace Go.Av
open Go Go.RowKit Go.Sort
theorem acs_sort {P : Program} {f : FuncId} {E : TypeId} {α : Type} [Inhabited α] (enc : α → Value) (h1 : ∀ x, (enc x).oneCell' = true) (l l' : List α) (n : Nat) (hn : l.length = n) (hn' : l'.length = n)
    (hc : ∀ (blk cap : Nat) (w : World), Holds enc w blk 0 l.toArray → blk < w.heap.size → Calls P f #[.slice (some ⟨blk, 0, none⟩) n cap] w fun e w' => e = .returned (.tuple #[]) ∧ ∃ k os, w' = grow (putRow enc (Sort.ahead w k) blk 0 l'.toArray) os) :
    ACS P f E 1 n (l.map fun x => CV.v (enc x)) [] (l'.map fun x => CV.v (enc x)) (.tup []) := by
  intro ok w g cap us0 vs0 vs hng hb0 hc0 hone hncap hcap hlen hvs
  have hvs' : vs = [] := by simpa [RepCs] using hvs
  subst hvs'
  have hus : us0 = l.map enc := RepCs.of_plain (vs := l.map enc) (by rw [List.map_map]; exact hc0)
  subst hus
  have hgs := lt_of_block hb0
  have hH : Holds enc w g 0 l.toArray := fun j hj => by
    have hj' : j < l.length := by simpa using hj
    have e1 : (l.toArray)[j]! = l[j] := by
      rw [getElem!_pos _ j hj]; simp
    have e2 : (l.map enc ++ vs0)[0 + j]? = some (enc l[j]) := by
      rw [Nat.zero_add, List.getElem?_append_left (by simpa using hj')]
      simp [hj']
    constructor
    · unfold World.cell?
      rw [hb0]
      simp only [e1]
      simpa using e2
    · unfold World.frozen?
      rw [hb0]
      simp
  refine (hc g cap w hH hgs).mono ?_
  rintro e w' ⟨rfl, k, os, rfl⟩
  refine ⟨_, l'.map enc, vs0, rfl, ⟨rfl, rfl, rfl, ?_, fun b hb hbg => ?_⟩, ?_, ?_, ?_, ?_, fun C => ?_⟩
  · rw [size_grow]
    show w.heap.size ≤ (w.heap.modify g _).size + os.size
    rw [Array.size_modify]; omega
  · have hbg' : g ≠ b := fun e => hbg (by simp [e])
    rw [heap_grow_old _ _ (by show b < (w.heap.modify g _).size; rw [Array.size_modify]; exact hb)]
    show (w.heap.modify g _)[b]? = _
    rw [Array.getElem?_modify, if_neg hbg']
  · rw [heap_grow_old _ _ (by show g < (w.heap.modify g _).size; rw [Array.size_modify]; exact hgs)]
    show (w.heap.modify g _)[g]? = _
    rw [Array.getElem?_modify, if_pos rfl, hb0]
    simp only [Option.map_some, onCells]
    congr 2
    refine Array.ext_getElem? fun j => ?_
    simp only [putCells, Array.getElem?_mapIdx, List.getElem?_toArray, List.size_toArray, Nat.zero_le, true_and, Nat.zero_add, Nat.sub_zero]
    by_cases hj : j < n
    · rw [List.getElem?_append_left (by simp; omega), List.getElem?_append_left (by simp; omega)]
      have e1 : (l'.toArray)[j]! = l'[j]'(by omega) := by
        rw [getElem!_pos _ j (by simp; omega)]; simp
      have e2 : l[j]? = some (l[j]'(by omega)) := List.getElem?_eq_getElem _
      have e3 : l'[j]? = some (l'[j]'(by omega)) := List.getElem?_eq_getElem _
      rw [List.getElem?_map, List.getElem?_map, e2, e3]
      simp only [Option.map_some]
      rw [if_pos (by omega), e1]
    · rw [List.getElem?_append_right (by simp; omega), List.getElem?_append_right (by simp; omega)]
      simp only [List.length_map, hn, hn']
      cases vs0[j - n]? with
      | none => rfl
      | some x => simp only [Option.map_some]; rw [if_neg (by omega)]
  · simp only [List.length_map] at hlen ⊢
    omega
  · have := RepCs.plain (ok := okg ok w g) (w := grow (putRow enc (Sort.ahead w k) g 0 l'.toArray) os) (l'.map enc)
    rw [List.map_map] at this
    exact this
  · intro u hu
    obtain ⟨x, _, rfl⟩ := List.mem_map.1 hu
    exact h1 x
  · exact ⟨[], rfl, rfl⟩
end Go.Av
/-
  Sorting rows of ints and of strings: the shelf's contracts at this program.
-/
namespace Go.Proofs.YtccnhpaldmjkbaaGreat
open Go Go.RowKit Go.Av Go.Sort
theorem sort64_ok (l : List Int) (n : Nat) (hn : l.length = n) (hb : n ≤ 1000000) : ACS Tryz.prog 158 2 1 n (intc .i64 l) [] (intc .i64 (sortI l)) (.tup []) :=
  acs_sort (Value.int .i64) (fun _ => rfl) l (sortI l) n hn (by rw [sortI_length, hn]) fun blk cap w hH hb' => by
    have h := Go.Proofs.AnyM.slices_Sort_int Tryz.srtI blk 0 cap l w hH hb' (by omega)
    rw [hn] at h
    exact h
theorem sort64_none : AC Tryz.prog 158 [.sl 1 0 []] (.tup []) [] 0 := by
  intro ok w vs hvs
  simp only [RepCs, RepC] at hvs
  obtain ⟨u, us', rfl, ⟨A, c, us, rfl, _⟩, rfl⟩ := hvs
  have h := Go.Proofs.AnyM.slices_Sort_int_none Tryz.srtI A c w
  refine h.mono ?_
  rintro e w' ⟨rfl, rfl⟩
  exact ⟨_, fun _ => none, rfl, ⟨FrB.refl _ _, fun id o hid _ => absurd hid (by simp [lt]), fun id id' o o' g h1 => absurd h1 (by simp [lt]), fun id o g hid => absurd hid (by simp [lt])⟩, [], rfl, rfl⟩
end Go.Proofs.YtccnhpaldmjkbaaGreat
