/-
  Joined texts: H6 H7 H8 H9 H10 H11 U1 AvSw AvSo AvFz AvCl LyS AvSr U4. Lemmas; no statement of a law.
-/
import Derived.Lib.Bytealg
import Derived.Laws.Externs
import Derived.Laws.Cover3
import Derived.Lib.SliceRun
import Derived.Laws.CopyRow
import Derived.Shelf.SortM.Plain
import Derived.Shelf.SortM.SortNone
import Derived.Test.YtccnhpaldmjkbaaGreatProg
import Derived.Sort.Grow
import Derived.Test.YtccnhpaldmjkbaaGreatQ4
set_option maxHeartbeats 16000000
set_option linter.unusedSimpArgs false
set_option linter.unusedVariables false
namespace Go.Proofs.YtccnhpaldmjkbaaGreat
open Go Go.RowKit Go.Av
set_option maxRecDepth 100000
theorem run_cmp (args : Array Value) (w : World) : (callFunc 190 args).run Tryz.prog w = ((Extern.BytealgCompare.compare args).run Tryz.prog w).andThen fun v w' => .ok (.value v) w' :=
  run_callFunc_extern Tryz.func190 (by kernel_rfl) (by kernel_rfl) (by kernel_rfl) (by kernel_rfl) args w
section
variable {tab : Tab} {ev : Evl} {h : Heap} {d : Option Tmp} {T T' ty : TypeId} {x y : Operand} {pos : String} {aft : Array Edge} {gd : Option (Nat × Bool)} {ats : Array TypeId}
theorem s_cmpstr {a b : List UInt8} (hx : ev x = some (.c (sv a))) (hy : ev y = some (.c (sv b))) : Still Tryz.prog ⟨d, .call ⟨.value (.func 190), [x, y].toArray, ats⟩, ty, pos, aft, gd⟩ ev h (.c (iv (Lib.compareBytes a b))) := by
  intro B dom M H w s hh hc he
  have h1 := he x _ hx
  have h2 := he y _ hy
  simp only [Rep, RepC] at h1 h2
  refine ⟨_, ?_, rfl⟩
  have := Lib.run_compareString (P := Tryz.prog) ⟨a.toArray⟩ ⟨b.toArray⟩ w
  simp only [execOp, resolve, Deferred.ofValue, Act.eval, invoke, Sem.run_bind, Sem.run_pure, Result.andThen_ok, List.map_toArray, Array.append_empty, Sem.run_pure]
  rw [show (#[] ++ (List.map s.eval [x, y]).toArray : Array Value) = #[Value.string ⟨a.toArray⟩, Value.string ⟨b.toArray⟩] by simp [h1, h2], run_cmp, this]
  rfl
end
def cmpZ (a b : Int) : Int := if a < b then -1 else if b < a then 1 else 0
def cmpV (a b : Vl) : Int := if a.k ≠ b.k then cmpZ a.k b.k else if a.k = 1 then cmpZ a.n b.n else if a.k = 2 then Lib.compareBytes a.t b.t else 0
def cmpR : List Vl → List Vl → Int
  | [], [] => 0
  | [], _ :: _ => -1
  | _ :: _, [] => 1
  | a :: r, b :: s => if cmpV (clV a) (clV b) ≠ 0 then cmpV (clV a) (clV b) else cmpR r s
attribute [local irreducible] Still Adds AWL AW Drw DrwE EStep AC AWR Weak Frz Src RetK Out InK ItK AsK RdK
theorem bcmp_ok (a b : List UInt8) : AC Tryz.prog 162 [sv a, sv b] (.c (iv (Lib.compareBytes a b))) [] 0 := by
  refine aJ tabOk (sz := 8) Tryz.func162 rfl (by rw [Tryz.ntmps162]; rfl) ?_
  repeat' (first | ((with_reducible refine aB ?_); intro K hK hX) | ((with_reducible refine aC ?_); refine aD [0, 1, 4] rfl rfl ?_) | ((with_reducible refine aE ?_); refine rK aL rfl (s_cmpstr rfl rfl) ?_) | refine stA ?_ | ((first | refine hK _ _ _ _ ?_ | refine hX _ _ _ _ _ (by simp) ?_); clear hK hX K))
  refine aK zio ztr rfl (ResL.one (ResA.tmp rfl)) zou
theorem scmp_ok (a b : List UInt8) : AC Tryz.prog 136 [sv a, sv b] (.c (iv (Lib.compareBytes a b))) [] 0 := by
  have h := bcmp_ok a b
  refine aJ tabOk (sz := 8) Tryz.func136 rfl (by rw [Tryz.ntmps136]; rfl) ?_
  repeat' (first | ((with_reducible refine aB ?_); intro K hK hX) | ((with_reducible refine aC ?_); refine aD [0, 1, 4] rfl rfl ?_) | ((with_reducible refine aE ?_); (first | refine zA ?_ | refine zN ?_); (first | refine c0 h ?_)) | refine stA ?_ | ((first | refine hK _ _ _ _ ?_ | refine hX _ _ _ _ _ (by simp) ?_); clear hK hX K))
  refine aK zio ztr rfl (ResL.one (ResA.tmp rfl)) zou
theorem nan_ok (a : Int) : AC Tryz.prog 174 [iv a] (.c (bv false)) [] 0 := by
  refine aJ tabOk (sz := 6) Tryz.func174 rfl (by rw [Tryz.ntmps174]; rfl) ?_
  repeat' (first | ((with_reducible refine aB ?_); intro K hK hX) | ((with_reducible refine aC ?_); refine aD [0, 2] rfl rfl ?_) | (((with_reducible refine aH ?_); refine xA ?_); (first | ((with_reducible refine aU ?_); (first | refine aA (dV rfl rfl rfl (decide_eq_false (fun h => h rfl))) ?_)))) | refine stA ?_ | ((first | refine hK _ _ _ _ ?_ | refine hX _ _ _ _ _ (by simp) ?_); clear hK hX K))
  refine aK zio ztr rfl (ResL.one (ResA.tmp rfl)) zou
theorem wG (a : Int) : AC Tryz.prog 196 [iv a] (.c (bv false)) [] 0 := by
  refine aJ tabOk (sz := 6) Tryz.func196 rfl (by rw [Tryz.ntmps196]; rfl) ?_
  repeat' (first | ((with_reducible refine aB ?_); intro K hK hX) | ((with_reducible refine aC ?_); refine aD [0, 2] rfl rfl ?_) | (((with_reducible refine aH ?_); refine xA ?_); (first | ((with_reducible refine aU ?_); (first | refine aA (dV rfl rfl rfl (decide_eq_false (fun h => h rfl))) ?_)))) | refine stA ?_ | ((first | refine hK _ _ _ _ ?_ | refine hX _ _ _ _ _ (by simp) ?_); clear hK hX K))
  refine aK zio ztr rfl (ResL.one (ResA.tmp rfl)) zou
theorem cmpi_ok (a b : Int) : AC Tryz.prog 142 [iv a, iv b] (.c (iv (cmpZ a b))) [] 0 := by
  have h1 := nan_ok a
  have h2 := nan_ok b
  unfold cmpZ
  by_cases c1 : a < b
  · rw [if_pos c1]
    refine aJ tabOk (sz := 20) Tryz.func142 rfl (by rw [Tryz.ntmps142]; rfl) ?_
    repeat' (first | ((with_reducible refine aB ?_); intro K hK hX) | ((with_reducible refine aC ?_); refine aD [0, 1, 4, 5, 6] rfl rfl ?_) | ((with_reducible refine aE ?_); (first | refine zA ?_ | refine zN ?_); (first | refine c0 h1 ?_ | refine c0 h2 ?_)) | refine stA ?_ | ((first | refine hK _ _ _ _ ?_ | refine hX _ _ _ _ _ (by simp) ?_); clear hK hX K))
    refine aK zio ztr rfl (ResL.one (ResA.tmp rfl)) zou
  · rw [if_neg c1]
    by_cases c2 : b < a
    · rw [if_pos c2]
      refine aJ tabOk (sz := 20) Tryz.func142 rfl (by rw [Tryz.ntmps142]; rfl) ?_
      repeat' (first | ((with_reducible refine aB ?_); intro K hK hX) | ((with_reducible refine aC ?_); refine aD [0, 1, 4, 5, 6] rfl rfl ?_) | ((with_reducible refine aE ?_); (first | refine zA ?_ | refine zN ?_); (first | refine c0 h1 ?_ | refine c0 h2 ?_)) | refine stA ?_ | ((first | refine hK _ _ _ _ ?_ | refine hX _ _ _ _ _ (by simp) ?_); clear hK hX K))
      refine aK zio ztr rfl (ResL.one (ResA.tmp rfl)) zou
    · rw [if_neg c2]
      refine aJ tabOk (sz := 20) Tryz.func142 rfl (by rw [Tryz.ntmps142]; rfl) ?_
      repeat' (first | ((with_reducible refine aB ?_); intro K hK hX) | ((with_reducible refine aC ?_); refine aD [0, 1, 4, 5, 6] rfl rfl ?_) | ((with_reducible refine aE ?_); (first | refine zA ?_ | refine zN ?_); (first | refine c0 h1 ?_ | refine c0 h2 ?_)) | refine stA ?_ | ((first | refine hK _ _ _ _ ?_ | refine hX _ _ _ _ _ (by simp) ?_); clear hK hX K))
      refine aK zio ztr rfl (ResL.one (ResA.tmp rfl)) zou
theorem cmp64_ok (a b : Int) : AC Tryz.prog 173 [iv a, iv b] (.c (iv (cmpZ a b))) [] 0 := by
  have h1 := wG a
  have h2 := wG b
  unfold cmpZ
  by_cases c1 : a < b
  · rw [if_pos c1]
    refine aJ tabOk (sz := 20) Tryz.func173 rfl (by rw [Tryz.ntmps173]; rfl) ?_
    repeat' (first | ((with_reducible refine aB ?_); intro K hK hX) | ((with_reducible refine aC ?_); refine aD [0, 1, 4, 5, 6] rfl rfl ?_) | ((with_reducible refine aE ?_); (first | refine zA ?_ | refine zN ?_); (first | refine c0 h1 ?_ | refine c0 h2 ?_)) | refine stA ?_ | ((first | refine hK _ _ _ _ ?_ | refine hX _ _ _ _ _ (by simp) ?_); clear hK hX K))
    refine aK zio ztr rfl (ResL.one (ResA.tmp rfl)) zou
  · rw [if_neg c1]
    by_cases c2 : b < a
    · rw [if_pos c2]
      refine aJ tabOk (sz := 20) Tryz.func173 rfl (by rw [Tryz.ntmps173]; rfl) ?_
      repeat' (first | ((with_reducible refine aB ?_); intro K hK hX) | ((with_reducible refine aC ?_); refine aD [0, 1, 4, 5, 6] rfl rfl ?_) | ((with_reducible refine aE ?_); (first | refine zA ?_ | refine zN ?_); (first | refine c0 h1 ?_ | refine c0 h2 ?_)) | refine stA ?_ | ((first | refine hK _ _ _ _ ?_ | refine hX _ _ _ _ _ (by simp) ?_); clear hK hX K))
      refine aK zio ztr rfl (ResL.one (ResA.tmp rfl)) zou
    · rw [if_neg c2]
      refine aJ tabOk (sz := 20) Tryz.func173 rfl (by rw [Tryz.ntmps173]; rfl) ?_
      repeat' (first | ((with_reducible refine aB ?_); intro K hK hX) | ((with_reducible refine aC ?_); refine aD [0, 1, 4, 5, 6] rfl rfl ?_) | ((with_reducible refine aE ?_); (first | refine zA ?_ | refine zN ?_); (first | refine c0 h1 ?_ | refine c0 h2 ?_)) | refine stA ?_ | ((first | refine hK _ _ _ _ ?_ | refine hX _ _ _ _ _ (by simp) ?_); clear hK hX K))
      refine aK zio ztr rfl (ResL.one (ResA.tmp rfl)) zou
theorem vcmp_ok (a b : Vl) : AC Tryz.prog 141 [.agg a.c, .agg b.c] (.c (iv (cmpV (clV a) (clV b)))) [] 0 := by
  have h1 := pI a
  have h2 := pI b
  obtain ⟨ak, an, at'⟩ := a
  obtain ⟨bk, bn, bt⟩ := b
  generalize clV ⟨ak, an, at'⟩ = x at h1 ⊢
  generalize clV ⟨bk, bn, bt⟩ = y at h2 ⊢
  obtain ⟨xk, xn, xt⟩ := x
  obtain ⟨yk, yn, yt⟩ := y
  simp only [Vl.c] at *
  have g1 := cmpi_ok xk yk
  have g2 := cmp64_ok xn yn
  have g3 := scmp_ok xt yt
  unfold cmpV
  dsimp only
  by_cases c1 : xk = yk
  · rw [if_neg (fun h => h c1)]
    by_cases c2 : xk = 1
    · rw [if_pos c2]
      refine aJ tabOk (sz := 35) Tryz.func141 rfl (by rw [Tryz.ntmps141]; rfl) ?_
      repeat' (first | ((with_reducible refine aB ?_); intro K hK hX) | ((with_reducible refine aC ?_); refine aD [0, 1, 2, 3, 4, 20] rfl rfl ?_) | ((with_reducible refine aF ?_); refine aG [0, 1, 2, 3, 4, 20] rfl rfl ?_; refine cJ [] ?_) | ((first | with_reducible refine aE ?_ | with_reducible refine bW ?_); (first | refine zA ?_ | refine zN ?_ | refine zE ?_); (first | refine c0 h1 ?_ | refine c0 h2 ?_ | refine c0 g1 ?_ | refine c0 g2 ?_ | refine c0 g3 ?_)) | refine stA ?_ | refine stE ?_ | ((first | refine hK _ _ _ _ ?_ | refine hX _ _ _ _ _ (by simp) ?_); clear hK hX K))
      refine aK zio ztr rfl (ResL.one (ResA.tmp rfl)) zou
    · rw [if_neg c2]
      by_cases c3 : xk = 2
      · rw [if_pos c3]
        refine aJ tabOk (sz := 35) Tryz.func141 rfl (by rw [Tryz.ntmps141]; rfl) ?_
        repeat' (first | ((with_reducible refine aB ?_); intro K hK hX) | ((with_reducible refine aC ?_); refine aD [0, 1, 2, 3, 4, 20] rfl rfl ?_) | ((with_reducible refine aF ?_); refine aG [0, 1, 2, 3, 4, 20] rfl rfl ?_; refine cJ [] ?_) | ((first | with_reducible refine aE ?_ | with_reducible refine bW ?_); (first | refine zA ?_ | refine zN ?_ | refine zE ?_); (first | refine c0 h1 ?_ | refine c0 h2 ?_ | refine c0 g1 ?_ | refine c0 g2 ?_ | refine c0 g3 ?_)) | refine stA ?_ | refine stE ?_ | ((first | refine hK _ _ _ _ ?_ | refine hX _ _ _ _ _ (by simp) ?_); clear hK hX K))
        refine aK zio ztr rfl (ResL.one (ResA.tmp rfl)) zou
      · rw [if_neg c3]
        refine aJ tabOk (sz := 35) Tryz.func141 rfl (by rw [Tryz.ntmps141]; rfl) ?_
        repeat' (first | ((with_reducible refine aB ?_); intro K hK hX) | ((with_reducible refine aC ?_); refine aD [0, 1, 2, 3, 4, 20] rfl rfl ?_) | ((with_reducible refine aF ?_); refine aG [0, 1, 2, 3, 4, 20] rfl rfl ?_; refine cJ [] ?_) | ((first | with_reducible refine aE ?_ | with_reducible refine bW ?_); (first | refine zA ?_ | refine zN ?_ | refine zE ?_); (first | refine c0 h1 ?_ | refine c0 h2 ?_ | refine c0 g1 ?_ | refine c0 g2 ?_ | refine c0 g3 ?_)) | refine stA ?_ | refine stE ?_ | ((first | refine hK _ _ _ _ ?_ | refine hX _ _ _ _ _ (by simp) ?_); clear hK hX K))
        refine aK zio ztr rfl (ResL.one (ResA.tmp rfl)) zou
  · rw [if_pos c1]
    refine aJ tabOk (sz := 35) Tryz.func141 rfl (by rw [Tryz.ntmps141]; rfl) ?_
    repeat' (first | ((with_reducible refine aB ?_); intro K hK hX) | ((with_reducible refine aC ?_); refine aD [0, 1, 2, 3, 4, 20] rfl rfl ?_) | ((with_reducible refine aF ?_); refine aG [0, 1, 2, 3, 4, 20] rfl rfl ?_; refine cJ [] ?_) | ((first | with_reducible refine aE ?_ | with_reducible refine bW ?_); (first | refine zA ?_ | refine zN ?_ | refine zE ?_); (first | refine c0 h1 ?_ | refine c0 h2 ?_ | refine c0 g1 ?_ | refine c0 g2 ?_ | refine c0 g3 ?_)) | refine stA ?_ | refine stE ?_ | ((first | refine hK _ _ _ _ ?_ | refine hX _ _ _ _ _ (by simp) ?_); clear hK hX K))
    refine aK zio ztr rfl (ResL.one (ResA.tmp rfl)) zou
end Go.Proofs.YtccnhpaldmjkbaaGreat
namespace Go.Proofs.YtccnhpaldmjkbaaGreat
open Go Go.RowKit Go.Av
set_option maxRecDepth 100000
theorem rN {r s : List Vl} {i : Nat} {a b : Vl} (ha : r[i]? = some a) (hb : s[i]? = some b) : cmpR (r.drop i) (s.drop i) = if cmpV (clV a) (clV b) ≠ 0 then cmpV (clV a) (clV b) else cmpR (r.drop (i + 1)) (s.drop (i + 1)) := by
  obtain ⟨h1, h2⟩ := List.getElem?_eq_some_iff.1 ha
  obtain ⟨h3, h4⟩ := List.getElem?_eq_some_iff.1 hb
  rw [List.drop_eq_getElem_cons h1, List.drop_eq_getElem_cons h3, h2, h4, cmpR]
theorem vC {r s : List Vl} {n m i : Nat} (hn : r.length = n) (hm : s.length = m) (hi : i = min n m) : cmpR (r.drop i) (s.drop i) = cmpZ n m := by
  unfold cmpZ
  have e1 : n ≤ i → r.drop i = [] := fun h => List.drop_eq_nil_of_le (by omega)
  have e2 : m ≤ i → s.drop i = [] := fun h => List.drop_eq_nil_of_le (by omega)
  by_cases c1 : n < m
  · rw [e1 (by omega), List.drop_eq_getElem_cons (l := s) (i := i) (by omega), cmpR, if_pos (by omega)]
  · by_cases c2 : m < n
    · rw [e2 (by omega), List.drop_eq_getElem_cons (l := r) (i := i) (by omega), cmpR, if_neg (by omega), if_pos (by omega)]
    · rw [e2 (by omega), e1 (by omega), cmpR, if_neg (by omega), if_neg (by omega)]
def goodAt (b : List En) (i : Nat) : Prop := ∀ e, b[i]? = some e → entP e ∧ e.n ≠ 0 ∧ ∀ f, 0 < i → b[i - 1]? = some f → cmpR f.r e.r < 0
def bagP (b : List En) : Prop := b.length ≤ 4096 ∧ ∀ i, i < b.length → goodAt b i
def posP (b : List En) : Prop := bagP b ∧ ∀ e ∈ b, 0 ≤ e.n
def fitB (b : List En) : Prop := ∀ e ∈ b, e.r.length ≤ maxLen
theorem dW {b : List En} {i : Nat} {e : En} (h : b[i]? = some e) : (ec b)[i * 2]? = some (.sl 3 e.r.length (rc e.r)) := by
  have := iF h
  have h2 : (((ec b).drop (i * 2)).take 2)[0]? = some (.sl 3 e.r.length (rc e.r)) := by rw [this]; rfl
  rw [List.getElem?_take_of_lt (by omega), List.getElem?_drop] at h2
  exact h2
theorem lB {b : List En} {i : Nat} {e : En} (h : b[i]? = some e) : (ec b)[i * 2 + 1]? = some (iv e.n) := by
  have := iF h
  have h2 : (((ec b).drop (i * 2)).take 2)[1]? = some (iv e.n) := by rw [this]; rfl
  rw [List.getElem?_take_of_lt (by omega), List.getElem?_drop] at h2
  exact h2
theorem kL {p : Nat → Prop} {n : Nat} (h : ¬ ∀ i, i < n → p i) : ∃ q, q < n ∧ ¬ p q ∧ ∀ i, i < q → p i := by
  have h' : ∃ j, j < n ∧ ¬ p j := Classical.byContradiction fun hh => h fun i hi => Classical.byContradiction fun hp => hh ⟨i, hi, hp⟩
  obtain ⟨j, ⟨h1, h2⟩, h3⟩ := dX (fun j => j < n ∧ ¬ p j) h'
  exact ⟨j, h1, h2, fun i hi => Classical.byContradiction fun hp => by have := h3 i ⟨by omega, hp⟩; omega⟩
attribute [local irreducible] Still Adds AWL AW Drw DrwE EStep AC AWR Weak Frz Src RetK Out InK ItK AsK RdK
theorem mF (r s : List Vl) (n m : Nat) (hn : r.length = n) (hm : s.length = m) (hn2 : n ≤ maxLen) (hm2 : m ≤ maxLen) : AC Tryz.prog 88 [.sl 3 n (rc r), .sl 3 m (rc s)] (.c (iv (cmpR r s))) [] 0 := by
  have hrl : (rc r).length = n * 3 := by rw [dT, hn]
  have hsl : (rc s).length = m * 3 := by rw [dT, hm]
  have hml : n ≤ 9223372036854775807 := hn2
  have hml2 : m ≤ 9223372036854775807 := hm2
  clear hn2 hm2
  obtain ⟨k, hk⟩ : ∃ k, min n m = k := ⟨_, rfl⟩
  have hc := cmpi_ok n m
  rw [← vC hn hm hk.symm] at hc
  have hkm : (if (m : Int) < (n : Int) then (m : Int) else (n : Int)) = (k : Int) := by split <;> omega
  generalize hz : cmpR r s = z
  refine aJ tabOk (sz := 33) Tryz.func88 rfl (by rw [Tryz.ntmps88]; rfl) ?_
  repeat' (first | ((with_reducible refine aB ?_); intro K hK hX) | ((with_reducible refine aC ?_); refine aD [0, 1, 4, 5, 6, 11, 12] rfl rfl ?_) | ((with_reducible refine aF ?_); refine aG [0, 1, 4, 5, 6, 11, 12] rfl rfl ?_; refine aI [] ?_) | ((first | ((with_reducible refine aH ?_); refine xA ?_) | ((with_reducible refine aO ?_); refine xD ?_)); (first | ((with_reducible refine rD ?_); (first | refine aA (kW rfl rfl hkm) ?_)))) | refine stA ?_ | refine stD ?_ | ((first | refine hK _ _ _ _ ?_ | refine hX _ _ _ _ _ (by simp) ?_); clear hK hX K))
  refine bC [5, 6, 7, 8, 9, 10, 11, 12] [] rfl rfl (fun i : Nat => [(11, .c (iv k)), (12, .c (iv i))]) (fun i => []) (fun i => i ≤ k ∧ cmpR (r.drop i) (s.drop i) = z) (fun i => k - i) 0 ⟨by omega, hz⟩ weakA ?_
  rintro i ⟨hi, hzi⟩ K hK hX
  by_cases hlt : i < k
  · obtain ⟨a, ha⟩ : ∃ a, r[i]? = some a := ⟨r[i]'(by omega), List.getElem?_eq_getElem _⟩
    obtain ⟨b, hb⟩ : ∃ b, s[i]? = some b := ⟨s[i]'(by omega), List.getElem?_eq_getElem _⟩
    have hat := jH ha
    have hbt := jH hb
    have hv := vcmp_ok a b
    rw [rN ha hb] at hzi
    obtain ⟨ak, an, at'⟩ := a
    obtain ⟨bk, bn, bt⟩ := b
    simp only [Vl.c] at hat hbt hv
    generalize cmpV (clV ⟨ak, an, at'⟩) (clV ⟨bk, bn, bt⟩) = c at hv hzi
    by_cases z0 : c = 0
    · rw [if_neg (fun h => h z0)] at hzi
      clear hc hz
      repeat' (first | ((with_reducible refine aB ?_); intro K hK hX) | ((with_reducible refine aC ?_); refine aD [0, 1, 4, 5, 6, 11, 12] rfl rfl ?_) | ((with_reducible refine aF ?_); refine aG [0, 1, 4, 5, 6, 11, 12] rfl rfl ?_; refine aI [] ?_) | ((first | with_reducible refine aE ?_ | with_reducible refine aT ?_); (first | refine zA ?_ | refine zN ?_ | refine zD ?_); (first | refine c0 hv ?_)) | ((first | ((with_reducible refine aH ?_); refine xA ?_) | ((with_reducible refine aO ?_); refine xD ?_)); (first | ((with_reducible refine aP ?_); (first | refine aA (aW tabOk rfl rfl rfl rfl (by first | first | exact hat | exact hbt | exact whole0 (by first | rfl | omega) | rfl) zln) ?_ | refine aA (aV tabOk rfl rfl rfl (by first | first | exact hat | exact hbt | exact whole0 (by first | rfl | omega) | rfl) zln) ?_)) | ((with_reducible refine bE ?_); (first | refine aA (s_slArri tabOk rfl rfl rfl rfl zbd zbd zle zle (by decide) (by first | first | exact hat | exact hbt | exact whole0 (by first | rfl | omega) | rfl) zln) ?_)))) | refine stA ?_ | refine stD ?_ | ((first | refine hK _ _ _ _ ?_ | refine hX _ _ _ _ _ (by simp) ?_); clear hK hX K))
      exact ⟨i + 1, ⟨by omega, hzi⟩, by omega, weakA⟩
    · rw [if_pos z0] at hzi
      rw [hzi] at hv z0
      clear hc hz
      repeat' (first | ((with_reducible refine aB ?_); intro K hK hX) | ((with_reducible refine aC ?_); refine aD [0, 1, 4, 5, 6, 11, 12] rfl rfl ?_) | ((with_reducible refine aF ?_); refine aG [0, 1, 4, 5, 6, 11, 12] rfl rfl ?_; refine aI [] ?_) | ((first | with_reducible refine aE ?_ | with_reducible refine aT ?_); (first | refine zA ?_ | refine zN ?_ | refine zD ?_); (first | refine c0 hv ?_)) | ((first | ((with_reducible refine aH ?_); refine xA ?_) | ((with_reducible refine aO ?_); refine xD ?_)); (first | ((with_reducible refine aP ?_); (first | refine aA (aW tabOk rfl rfl rfl rfl (by first | first | exact hat | exact hbt | exact whole0 (by first | rfl | omega) | rfl) zln) ?_ | refine aA (aV tabOk rfl rfl rfl (by first | first | exact hat | exact hbt | exact whole0 (by first | rfl | omega) | rfl) zln) ?_)) | ((with_reducible refine bE ?_); (first | refine aA (s_slArri tabOk rfl rfl rfl rfl zbd zbd zle zle (by decide) (by first | first | exact hat | exact hbt | exact whole0 (by first | rfl | omega) | rfl) zln) ?_)))) | refine stA ?_ | refine stD ?_ | ((first | refine hK _ _ _ _ ?_ | refine hX _ _ _ _ _ (by simp) ?_); clear hK hX K))
      refine aK zio ztr rfl (ResL.one (ResA.tmp rfl)) zou
  · have hik : i = k := by omega
    subst hik
    rw [hzi] at hc
    repeat' (first | ((with_reducible refine aB ?_); intro K hK hX) | ((with_reducible refine aC ?_); refine aD [0, 1, 4, 5, 6, 11, 12] rfl rfl ?_) | ((with_reducible refine aF ?_); refine aG [0, 1, 4, 5, 6, 11, 12] rfl rfl ?_; refine aI [] ?_) | ((first | with_reducible refine aE ?_ | with_reducible refine aT ?_); (first | refine zA ?_ | refine zN ?_ | refine zD ?_); (first | refine c0 hc ?_)) | refine stA ?_ | refine stD ?_ | ((first | refine hK _ _ _ _ ?_ | refine hX _ _ _ _ _ (by simp) ?_); clear hK hX K))
    refine aK zio ztr rfl (ResL.one (ResA.tmp rfl)) zou
theorem lW : Idle Tryz.prog 146 0 := by
  intro us w hl
  obtain ⟨_, rfl⟩ : ∃ _ : Unit, us = [] := by
    match us, hl with | [], _ => exact ⟨(), rfl⟩
  refine callsD_of_wpS Tryz.func146 rfl fun c₀ cs hu => ?_
  apply wpS_region
  simp [wpOpsS, go_sem, recoverD, hu, Tryz.ntmps146, Exit.thenS]
  cases c₀
  simp_all [bodyPostS, results, Tryz.results146]
theorem iC : Body Tryz.prog 146 := by unfold Body; kernel_rfl
open Classical in
theorem bag_ok (b : List En) (n : Nat) (hn : b.length = n) (hm : n ≤ maxLen) (hf : fitB b) : AC Tryz.prog 96 [.sl 2 n (ec b)] (.c (bv (decide (bagP b)))) [] 0 := by
  have hbl : (ec b).length = n * 2 := by rw [bH, hn]
  have hml : n ≤ 9223372036854775807 := hm
  clear hm
  by_cases b1 : n ≤ 4096
  · by_cases hall : ∀ i, i < n → goodAt b i
    · rw [decide_eq_true (show bagP b from ⟨by omega, by rw [hn]; exact hall⟩)]
      refine aJ tabOk (sz := 38) Tryz.func96 rfl (by rw [Tryz.ntmps96]; rfl) ?_
      repeat' (first | ((with_reducible refine aB ?_); intro K hK hX) | ((with_reducible refine aC ?_); refine aD [0, 2, 3, 4, 8, 9, 10] rfl rfl ?_) | ((with_reducible refine aF ?_); refine aG [0, 2, 3, 4, 8, 9, 10] rfl rfl ?_; refine aI [] ?_) | refine stA ?_ | refine stD ?_ | ((first | refine hK _ _ _ _ ?_ | refine hX _ _ _ _ _ (by simp) ?_); clear hK hX K))
      refine bC [3, 4, 5, 6, 7, 10] [] rfl rfl (fun i : Nat => [(10, .c (iv i))]) (fun i => []) (fun i => i ≤ n) (fun i => n - i) 0 (by omega) weakA ?_
      intro i hi K hK hX
      by_cases hlt : i < n
      · have hgi := hall i hlt
        obtain ⟨e, he⟩ : ∃ e, b[i]? = some e := ⟨b[i]'(by omega), List.getElem?_eq_getElem _⟩
        have hat := iF he
        have her := hf e (List.mem_of_getElem? he)
        have hv := uI e her
        obtain ⟨g1, g2, g3⟩ := hgi e he
        rw [decide_eq_true g1] at hv
        cases i with
        | zero =>
          clear g3 hgi
          obtain ⟨r, c⟩ := e
          simp only [En.c] at *
          repeat' (first | ((with_reducible refine aB ?_); intro K hK hX) | ((with_reducible refine aC ?_); refine aD [0, 2, 3, 4, 8, 9, 10] rfl rfl ?_) | ((with_reducible refine aF ?_); refine aG [0, 2, 3, 4, 8, 9, 10] rfl rfl ?_; refine aI [] ?_) | ((first | with_reducible refine aE ?_ | with_reducible refine aT ?_); (first | refine zA ?_ | refine zN ?_ | refine zD ?_); (first | refine c0 hv ?_)) | ((first | ((with_reducible refine aH ?_); refine xA ?_) | ((with_reducible refine aO ?_); refine xD ?_)); (first | ((with_reducible refine aP ?_); (first | refine aA (aW tabOk rfl rfl rfl rfl (by first | exact hat | exact whole0 (by first | rfl | omega) | rfl) zln) ?_ | refine aA (aV tabOk rfl rfl rfl (by first | exact hat | exact whole0 (by first | rfl | omega) | rfl) zln) ?_)) | ((with_reducible refine bE ?_); (first | refine aA (s_slArri tabOk rfl rfl rfl rfl zbd zbd zle zle (by decide) (by first | exact hat | exact whole0 (by first | rfl | omega) | rfl) zln) ?_)))) | refine stA ?_ | refine stD ?_ | ((first | refine hK _ _ _ _ ?_ | refine hX _ _ _ _ _ (by simp) ?_); clear hK hX K))
          exact ⟨1, by omega, by omega, weakA⟩
        | succ j =>
          obtain ⟨f, hfj⟩ : ∃ f, b[j]? = some f := ⟨b[j]'(by omega), List.getElem?_eq_getElem _⟩
          have hfr := hf f (List.mem_of_getElem? hfj)
          have hrow := dW hfj
          have hc := mF f.r e.r f.r.length e.r.length rfl rfl hfr her
          have g4 := g3 f (by omega) (by rw [Nat.add_sub_cancel]; exact hfj)
          clear g3 hgi
          obtain ⟨r, c⟩ := e
          simp only [En.c] at *
          generalize cmpR f.r r = z at hc g4
          have hjj : (((j + 1 : Nat) : Int) - 1).toNat * 2 + 0 = j * 2 := by omega
          repeat' (first | ((with_reducible refine aB ?_); intro K hK hX) | ((with_reducible refine aC ?_); refine aD [0, 2, 3, 4, 8, 9, 10] rfl rfl ?_) | ((with_reducible refine aF ?_); refine aG [0, 2, 3, 4, 8, 9, 10] rfl rfl ?_; refine aI [] ?_) | ((first | with_reducible refine aE ?_ | with_reducible refine aT ?_); (first | refine zA ?_ | refine zN ?_ | refine zD ?_); (first | refine c0 hv ?_ | refine c0 hc ?_)) | ((first | ((with_reducible refine aH ?_); refine xA ?_) | ((with_reducible refine aO ?_); refine xD ?_)); (first | ((with_reducible refine aP ?_); (first | refine aA (aR tabOk rfl rfl rfl rfl (by (rw [hjj]; exact hrow))) ?_ | refine aA (aN tabOk rfl rfl rfl rfl (by (rw [hjj]; exact hrow))) ?_ | refine aA (aM tabOk rfl rfl rfl (by (rw [hjj]; exact hrow))) ?_ | refine aA (aW tabOk rfl rfl rfl rfl (by first | exact hat | exact whole0 (by first | rfl | omega) | rfl) zln) ?_ | refine aA (aV tabOk rfl rfl rfl (by first | exact hat | exact whole0 (by first | rfl | omega) | rfl) zln) ?_)) | ((with_reducible refine bR ?_); (first | refine aA (s_ixV1 tabOk rfl rfl zcj rfl rfl rfl rfl rfl zle (by (rw [hjj]; exact hrow))) ?_ | refine aA (aQ tabOk rfl rfl zcj rfl rfl (by (rw [hjj]; exact hrow))) ?_)) | ((with_reducible refine bE ?_); (first | refine aA (s_slArri tabOk rfl rfl rfl rfl zbd zbd zle zle (by decide) (by first | exact hat | exact whole0 (by first | rfl | omega) | rfl) zln) ?_)))) | refine stA ?_ | refine stD ?_ | ((first | refine hK _ _ _ _ ?_ | refine hX _ _ _ _ _ (by simp) ?_); clear hK hX K))
          exact ⟨j + 1 + 1, by omega, by omega, weakA⟩
      · repeat' (first | ((with_reducible refine aB ?_); intro K hK hX) | ((with_reducible refine aC ?_); refine aD [0, 2, 3, 4, 8, 9, 10] rfl rfl ?_) | ((with_reducible refine aF ?_); refine aG [0, 2, 3, 4, 8, 9, 10] rfl rfl ?_; refine aI [] ?_) | refine stA ?_ | refine stD ?_ | ((first | refine hK _ _ _ _ ?_ | refine hX _ _ _ _ _ (by simp) ?_); clear hK hX K))
        refine aK zio (by exact ⟨lW, iC, trivial⟩) rfl (ResL.one (ResA.tmp rfl)) zou
    · rw [decide_eq_false (show ¬ bagP b from fun h => hall (by rw [← hn]; exact h.2))]
      obtain ⟨q, hq, hbad, hgood⟩ := kL hall
      refine aJ tabOk (sz := 38) Tryz.func96 rfl (by rw [Tryz.ntmps96]; rfl) ?_
      repeat' (first | ((with_reducible refine aB ?_); intro K hK hX) | ((with_reducible refine aC ?_); refine aD [0, 2, 3, 4, 8, 9, 10] rfl rfl ?_) | ((with_reducible refine aF ?_); refine aG [0, 2, 3, 4, 8, 9, 10] rfl rfl ?_; refine aI [] ?_) | refine stA ?_ | refine stD ?_ | ((first | refine hK _ _ _ _ ?_ | refine hX _ _ _ _ _ (by simp) ?_); clear hK hX K))
      refine bC [3, 4, 5, 6, 7, 10] [] rfl rfl (fun i : Nat => [(10, .c (iv i))]) (fun i => []) (fun i => i ≤ q) (fun i => q - i) 0 (by omega) weakA ?_
      intro i hi K hK hX
      by_cases hlt : i < q
      · have hgi := hgood i hlt
        obtain ⟨e, he⟩ : ∃ e, b[i]? = some e := ⟨b[i]'(by omega), List.getElem?_eq_getElem _⟩
        have hat := iF he
        have her := hf e (List.mem_of_getElem? he)
        have hv := uI e her
        obtain ⟨g1, g2, g3⟩ := hgi e he
        rw [decide_eq_true g1] at hv
        cases i with
        | zero =>
          clear g3 hgi
          obtain ⟨r, c⟩ := e
          simp only [En.c] at *
          repeat' (first | ((with_reducible refine aB ?_); intro K hK hX) | ((with_reducible refine aC ?_); refine aD [0, 2, 3, 4, 8, 9, 10] rfl rfl ?_) | ((with_reducible refine aF ?_); refine aG [0, 2, 3, 4, 8, 9, 10] rfl rfl ?_; refine aI [] ?_) | ((first | with_reducible refine aE ?_ | with_reducible refine aT ?_); (first | refine zA ?_ | refine zN ?_ | refine zD ?_); (first | refine c0 hv ?_)) | ((first | ((with_reducible refine aH ?_); refine xA ?_) | ((with_reducible refine aO ?_); refine xD ?_)); (first | ((with_reducible refine aP ?_); (first | refine aA (aW tabOk rfl rfl rfl rfl (by first | exact hat | exact whole0 (by first | rfl | omega) | rfl) zln) ?_ | refine aA (aV tabOk rfl rfl rfl (by first | exact hat | exact whole0 (by first | rfl | omega) | rfl) zln) ?_)) | ((with_reducible refine bE ?_); (first | refine aA (s_slArri tabOk rfl rfl rfl rfl zbd zbd zle zle (by decide) (by first | exact hat | exact whole0 (by first | rfl | omega) | rfl) zln) ?_)))) | refine stA ?_ | refine stD ?_ | ((first | refine hK _ _ _ _ ?_ | refine hX _ _ _ _ _ (by simp) ?_); clear hK hX K))
          exact ⟨1, by omega, by omega, weakA⟩
        | succ j =>
          obtain ⟨f, hfj⟩ : ∃ f, b[j]? = some f := ⟨b[j]'(by omega), List.getElem?_eq_getElem _⟩
          have hfr := hf f (List.mem_of_getElem? hfj)
          have hrow := dW hfj
          have hc := mF f.r e.r f.r.length e.r.length rfl rfl hfr her
          have g4 := g3 f (by omega) (by rw [Nat.add_sub_cancel]; exact hfj)
          clear g3 hgi
          obtain ⟨r, c⟩ := e
          simp only [En.c] at *
          generalize cmpR f.r r = z at hc g4
          have hjj : (((j + 1 : Nat) : Int) - 1).toNat * 2 + 0 = j * 2 := by omega
          repeat' (first | ((with_reducible refine aB ?_); intro K hK hX) | ((with_reducible refine aC ?_); refine aD [0, 2, 3, 4, 8, 9, 10] rfl rfl ?_) | ((with_reducible refine aF ?_); refine aG [0, 2, 3, 4, 8, 9, 10] rfl rfl ?_; refine aI [] ?_) | ((first | with_reducible refine aE ?_ | with_reducible refine aT ?_); (first | refine zA ?_ | refine zN ?_ | refine zD ?_); (first | refine c0 hv ?_ | refine c0 hc ?_)) | ((first | ((with_reducible refine aH ?_); refine xA ?_) | ((with_reducible refine aO ?_); refine xD ?_)); (first | ((with_reducible refine aP ?_); (first | refine aA (aR tabOk rfl rfl rfl rfl (by (rw [hjj]; exact hrow))) ?_ | refine aA (aN tabOk rfl rfl rfl rfl (by (rw [hjj]; exact hrow))) ?_ | refine aA (aM tabOk rfl rfl rfl (by (rw [hjj]; exact hrow))) ?_ | refine aA (aW tabOk rfl rfl rfl rfl (by first | exact hat | exact whole0 (by first | rfl | omega) | rfl) zln) ?_ | refine aA (aV tabOk rfl rfl rfl (by first | exact hat | exact whole0 (by first | rfl | omega) | rfl) zln) ?_)) | ((with_reducible refine bR ?_); (first | refine aA (s_ixV1 tabOk rfl rfl zcj rfl rfl rfl rfl rfl zle (by (rw [hjj]; exact hrow))) ?_ | refine aA (aQ tabOk rfl rfl zcj rfl rfl (by (rw [hjj]; exact hrow))) ?_)) | ((with_reducible refine bE ?_); (first | refine aA (s_slArri tabOk rfl rfl rfl rfl zbd zbd zle zle (by decide) (by first | exact hat | exact whole0 (by first | rfl | omega) | rfl) zln) ?_)))) | refine stA ?_ | refine stD ?_ | ((first | refine hK _ _ _ _ ?_ | refine hX _ _ _ _ _ (by simp) ?_); clear hK hX K))
          exact ⟨j + 1 + 1, by omega, by omega, weakA⟩
      · have hiq : i = q := by omega
        have hin : i < n := by omega
        rw [← hiq] at hbad
        obtain ⟨e, he⟩ : ∃ e, b[i]? = some e := ⟨b[i]'(by omega), List.getElem?_eq_getElem _⟩
        have hat := iF he
        have her := hf e (List.mem_of_getElem? he)
        have hv := uI e her
        by_cases g1 : entP e
        · rw [decide_eq_true g1] at hv
          by_cases g2 : e.n = 0
          · clear hbad hgood
            obtain ⟨r, c⟩ := e
            simp only [En.c] at *
            repeat' (first | ((with_reducible refine aB ?_); intro K hK hX) | ((with_reducible refine aC ?_); refine aD [0, 2, 3, 4, 8, 9, 10] rfl rfl ?_) | ((with_reducible refine aF ?_); refine aG [0, 2, 3, 4, 8, 9, 10] rfl rfl ?_; refine aI [] ?_) | ((first | with_reducible refine aE ?_ | with_reducible refine aT ?_); (first | refine zA ?_ | refine zN ?_ | refine zD ?_); (first | refine c0 hv ?_)) | ((first | ((with_reducible refine aH ?_); refine xA ?_) | ((with_reducible refine aO ?_); refine xD ?_)); (first | ((with_reducible refine aP ?_); (first | refine aA (aW tabOk rfl rfl rfl rfl (by first | exact hat | exact whole0 (by first | rfl | omega) | rfl) zln) ?_ | refine aA (aV tabOk rfl rfl rfl (by first | exact hat | exact whole0 (by first | rfl | omega) | rfl) zln) ?_)) | ((with_reducible refine bE ?_); (first | refine aA (s_slArri tabOk rfl rfl rfl rfl zbd zbd zle zle (by decide) (by first | exact hat | exact whole0 (by first | rfl | omega) | rfl) zln) ?_)))) | refine stA ?_ | refine stD ?_ | ((first | refine hK _ _ _ _ ?_ | refine hX _ _ _ _ _ (by simp) ?_); clear hK hX K))
            refine aK zio (by exact ⟨lW, iC, trivial⟩) rfl (ResL.one (ResA.tmp rfl)) zou
          · cases i with
            | zero => exact absurd (fun e' he' => by rw [he] at he'; injection he' with he'; subst he'; exact ⟨g1, g2, fun f h => absurd h (by omega)⟩) hbad
            | succ j =>
              obtain ⟨f, hfj⟩ : ∃ f, b[j]? = some f := ⟨b[j]'(by omega), List.getElem?_eq_getElem _⟩
              have hfr := hf f (List.mem_of_getElem? hfj)
              have hrow := dW hfj
              have hc := mF f.r e.r f.r.length e.r.length rfl rfl hfr her
              have g4 : ¬ cmpR f.r e.r < 0 := fun h => hbad fun e' he' => by
                rw [he] at he'; injection he' with he'; subst he'
                exact ⟨g1, g2, fun f' _ hf' => by rw [Nat.add_sub_cancel, hfj] at hf'; injection hf' with hf'; subst hf'; exact h⟩
              clear hbad hgood
              obtain ⟨r, c⟩ := e
              simp only [En.c] at *
              generalize cmpR f.r r = z at hc g4
              have hjj : (((j + 1 : Nat) : Int) - 1).toNat * 2 + 0 = j * 2 := by omega
              repeat' (first | ((with_reducible refine aB ?_); intro K hK hX) | ((with_reducible refine aC ?_); refine aD [0, 2, 3, 4, 8, 9, 10] rfl rfl ?_) | ((with_reducible refine aF ?_); refine aG [0, 2, 3, 4, 8, 9, 10] rfl rfl ?_; refine aI [] ?_) | ((first | with_reducible refine aE ?_ | with_reducible refine aT ?_); (first | refine zA ?_ | refine zN ?_ | refine zD ?_); (first | refine c0 hv ?_ | refine c0 hc ?_)) | ((first | ((with_reducible refine aH ?_); refine xA ?_) | ((with_reducible refine aO ?_); refine xD ?_)); (first | ((with_reducible refine aP ?_); (first | refine aA (aR tabOk rfl rfl rfl rfl (by (rw [hjj]; exact hrow))) ?_ | refine aA (aN tabOk rfl rfl rfl rfl (by (rw [hjj]; exact hrow))) ?_ | refine aA (aM tabOk rfl rfl rfl (by (rw [hjj]; exact hrow))) ?_ | refine aA (aW tabOk rfl rfl rfl rfl (by first | exact hat | exact whole0 (by first | rfl | omega) | rfl) zln) ?_ | refine aA (aV tabOk rfl rfl rfl (by first | exact hat | exact whole0 (by first | rfl | omega) | rfl) zln) ?_)) | ((with_reducible refine bR ?_); (first | refine aA (s_ixV1 tabOk rfl rfl zcj rfl rfl rfl rfl rfl zle (by (rw [hjj]; exact hrow))) ?_ | refine aA (aQ tabOk rfl rfl zcj rfl rfl (by (rw [hjj]; exact hrow))) ?_)) | ((with_reducible refine bE ?_); (first | refine aA (s_slArri tabOk rfl rfl rfl rfl zbd zbd zle zle (by decide) (by first | exact hat | exact whole0 (by first | rfl | omega) | rfl) zln) ?_)))) | refine stA ?_ | refine stD ?_ | ((first | refine hK _ _ _ _ ?_ | refine hX _ _ _ _ _ (by simp) ?_); clear hK hX K))
              refine aK zio (by exact ⟨lW, iC, trivial⟩) rfl (ResL.one (ResA.tmp rfl)) zou
        · rw [decide_eq_false g1] at hv
          clear hbad hgood
          obtain ⟨r, c⟩ := e
          simp only [En.c] at *
          repeat' (first | ((with_reducible refine aB ?_); intro K hK hX) | ((with_reducible refine aC ?_); refine aD [0, 2, 3, 4, 8, 9, 10] rfl rfl ?_) | ((with_reducible refine aF ?_); refine aG [0, 2, 3, 4, 8, 9, 10] rfl rfl ?_; refine aI [] ?_) | ((first | with_reducible refine aE ?_ | with_reducible refine aT ?_); (first | refine zA ?_ | refine zN ?_ | refine zD ?_); (first | refine c0 hv ?_)) | ((first | ((with_reducible refine aH ?_); refine xA ?_) | ((with_reducible refine aO ?_); refine xD ?_)); (first | ((with_reducible refine aP ?_); (first | refine aA (aW tabOk rfl rfl rfl rfl (by first | exact hat | exact whole0 (by first | rfl | omega) | rfl) zln) ?_ | refine aA (aV tabOk rfl rfl rfl (by first | exact hat | exact whole0 (by first | rfl | omega) | rfl) zln) ?_)) | ((with_reducible refine bE ?_); (first | refine aA (s_slArri tabOk rfl rfl rfl rfl zbd zbd zle zle (by decide) (by first | exact hat | exact whole0 (by first | rfl | omega) | rfl) zln) ?_)))) | refine stA ?_ | refine stD ?_ | ((first | refine hK _ _ _ _ ?_ | refine hX _ _ _ _ _ (by simp) ?_); clear hK hX K))
          refine aK zio (by exact ⟨lW, iC, trivial⟩) rfl (ResL.one (ResA.tmp rfl)) zou
  · rw [decide_eq_false (show ¬ bagP b from fun h => b1 (by have := h.1; omega))]
    refine aJ tabOk (sz := 38) Tryz.func96 rfl (by rw [Tryz.ntmps96]; rfl) ?_
    repeat' (first | ((with_reducible refine aB ?_); intro K hK hX) | ((with_reducible refine aC ?_); refine aD [0, 2, 3, 4, 8, 9, 10] rfl rfl ?_) | ((with_reducible refine aF ?_); refine aG [0, 2, 3, 4, 8, 9, 10] rfl rfl ?_; refine aI [] ?_) | refine stA ?_ | refine stD ?_ | ((first | refine hK _ _ _ _ ?_ | refine hX _ _ _ _ _ (by simp) ?_); clear hK hX K))
    refine aK zio (by exact ⟨lW, iC, trivial⟩) rfl (ResL.one (ResA.tmp rfl)) zou
end Go.Proofs.YtccnhpaldmjkbaaGreat
namespace Go.Proofs.YtccnhpaldmjkbaaGreat
open Go Go.RowKit Go.Av
set_option maxRecDepth 100000
def cellV (r : List Vl) (col : Nat) : Vl := r.getD col Vl.nul
def placeV (w : Nat) (v : Vl) (row : Nat) : Nat := row * w + (hashV v (UInt8.ofNat row)).toNat % w
attribute [local irreducible] Still Adds AWL AW Drw DrwE EStep AC AWR Weak Frz Src RetK Out InK ItK AsK RdK
open Classical in
theorem pos_ok (b : List En) (n : Nat) (hn : b.length = n) (hm : n ≤ maxLen) (hf : fitB b) : AC Tryz.prog 93 [.sl 2 n (ec b)] (.c (bv (decide (posP b)))) [] 0 := by
  have hbl : (ec b).length = n * 2 := by rw [bH, hn]
  have hb := bag_ok b n hn hm hf
  have hml : n ≤ 9223372036854775807 := hm
  clear hm
  by_cases b1 : bagP b
  · rw [decide_eq_true b1] at hb
    by_cases hall : ∀ i, i < n → ∀ e, b[i]? = some e → 0 ≤ e.n
    · rw [decide_eq_true (show posP b from ⟨b1, fun e he => by
        obtain ⟨i, hi⟩ := List.mem_iff_getElem?.1 he
        have := (List.getElem?_eq_some_iff.1 hi).1
        exact hall i (by omega) e hi⟩)]
      refine aJ tabOk (sz := 18) Tryz.func93 rfl (by rw [Tryz.ntmps93]; rfl) ?_
      repeat' (first | ((with_reducible refine aB ?_); intro K hK hX) | ((with_reducible refine aC ?_); refine aD [0, 2, 4, 8, 9, 10] rfl rfl ?_) | ((with_reducible refine aE ?_); (first | refine zA ?_ | refine zN ?_); (first | refine c0 hb ?_)) | refine stA ?_ | ((first | refine hK _ _ _ _ ?_ | refine hX _ _ _ _ _ (by simp) ?_); clear hK hX K))
      refine bC [4, 5, 6, 7, 10] [] rfl rfl (fun i : Nat => [(10, .c (iv i))]) (fun i => []) (fun i => i ≤ n) (fun i => n - i) 0 (by omega) weakA ?_
      intro i hi K hK hX
      by_cases hlt : i < n
      · obtain ⟨e, he⟩ : ∃ e, b[i]? = some e := ⟨b[i]'(by omega), List.getElem?_eq_getElem _⟩
        have hat := iF he
        have hge := hall i hlt e he
        clear hb
        obtain ⟨r, c⟩ := e
        simp only [En.c] at *
        repeat' (first | ((with_reducible refine aB ?_); intro K hK hX) | ((with_reducible refine aC ?_); refine aD [0, 2, 4, 8, 9, 10] rfl rfl ?_) | (((with_reducible refine aH ?_); refine xA ?_); (first | ((with_reducible refine aP ?_); (first | refine aA (aW tabOk rfl rfl rfl rfl (by first | exact hat | exact whole0 (by first | rfl | omega) | rfl) zln) ?_ | refine aA (aV tabOk rfl rfl rfl (by first | exact hat | exact whole0 (by first | rfl | omega) | rfl) zln) ?_)) | ((with_reducible refine bE ?_); (first | refine aA (s_slArri tabOk rfl rfl rfl rfl zbd zbd zle zle (by decide) (by first | exact hat | exact whole0 (by first | rfl | omega) | rfl) zln) ?_)))) | refine stA ?_ | ((first | refine hK _ _ _ _ ?_ | refine hX _ _ _ _ _ (by simp) ?_); clear hK hX K))
        exact ⟨i + 1, by omega, by omega, weakA⟩
      · repeat' (first | ((with_reducible refine aB ?_); intro K hK hX) | ((with_reducible refine aC ?_); refine aD [0, 2, 4, 8, 9, 10] rfl rfl ?_) | refine stA ?_ | ((first | refine hK _ _ _ _ ?_ | refine hX _ _ _ _ _ (by simp) ?_); clear hK hX K))
        refine aK zio ztr rfl (ResL.one (ResA.tmp rfl)) zou
    · obtain ⟨q, hq, hbad, hgood⟩ := kL hall
      rw [decide_eq_false (show ¬ posP b from fun h => hbad fun e he => h.2 e (List.mem_of_getElem? he))]
      refine aJ tabOk (sz := 18) Tryz.func93 rfl (by rw [Tryz.ntmps93]; rfl) ?_
      repeat' (first | ((with_reducible refine aB ?_); intro K hK hX) | ((with_reducible refine aC ?_); refine aD [0, 2, 4, 8, 9, 10] rfl rfl ?_) | ((with_reducible refine aE ?_); (first | refine zA ?_ | refine zN ?_); (first | refine c0 hb ?_)) | refine stA ?_ | ((first | refine hK _ _ _ _ ?_ | refine hX _ _ _ _ _ (by simp) ?_); clear hK hX K))
      refine bC [4, 5, 6, 7, 10] [] rfl rfl (fun i : Nat => [(10, .c (iv i))]) (fun i => []) (fun i => i ≤ q) (fun i => q - i) 0 (by omega) weakA ?_
      intro i hi K hK hX
      have hin : i < n := by omega
      obtain ⟨e, he⟩ : ∃ e, b[i]? = some e := ⟨b[i]'(by omega), List.getElem?_eq_getElem _⟩
      have hat := iF he
      clear hb
      by_cases hlt : i < q
      · have hge := hgood i hlt e he
        clear hbad hgood
        obtain ⟨r, c⟩ := e
        simp only [En.c] at *
        repeat' (first | ((with_reducible refine aB ?_); intro K hK hX) | ((with_reducible refine aC ?_); refine aD [0, 2, 4, 8, 9, 10] rfl rfl ?_) | (((with_reducible refine aH ?_); refine xA ?_); (first | ((with_reducible refine aP ?_); (first | refine aA (aW tabOk rfl rfl rfl rfl (by first | exact hat | exact whole0 (by first | rfl | omega) | rfl) zln) ?_ | refine aA (aV tabOk rfl rfl rfl (by first | exact hat | exact whole0 (by first | rfl | omega) | rfl) zln) ?_)) | ((with_reducible refine bE ?_); (first | refine aA (s_slArri tabOk rfl rfl rfl rfl zbd zbd zle zle (by decide) (by first | exact hat | exact whole0 (by first | rfl | omega) | rfl) zln) ?_)))) | refine stA ?_ | ((first | refine hK _ _ _ _ ?_ | refine hX _ _ _ _ _ (by simp) ?_); clear hK hX K))
        exact ⟨i + 1, by omega, by omega, weakA⟩
      · have hiq : i = q := by omega
        have hge : ¬ 0 ≤ e.n := fun h => hbad fun e' he' => by
          rw [← hiq, he] at he'; injection he' with he'; subst he'; exact h
        clear hbad hgood
        obtain ⟨r, c⟩ := e
        simp only [En.c] at *
        repeat' (first | ((with_reducible refine aB ?_); intro K hK hX) | ((with_reducible refine aC ?_); refine aD [0, 2, 4, 8, 9, 10] rfl rfl ?_) | (((with_reducible refine aH ?_); refine xA ?_); (first | ((with_reducible refine aP ?_); (first | refine aA (aW tabOk rfl rfl rfl rfl (by first | exact hat | exact whole0 (by first | rfl | omega) | rfl) zln) ?_ | refine aA (aV tabOk rfl rfl rfl (by first | exact hat | exact whole0 (by first | rfl | omega) | rfl) zln) ?_)) | ((with_reducible refine bE ?_); (first | refine aA (s_slArri tabOk rfl rfl rfl rfl zbd zbd zle zle (by decide) (by first | exact hat | exact whole0 (by first | rfl | omega) | rfl) zln) ?_)))) | refine stA ?_ | ((first | refine hK _ _ _ _ ?_ | refine hX _ _ _ _ _ (by simp) ?_); clear hK hX K))
        refine aK zio ztr rfl (ResL.one (ResA.tmp rfl)) zou
  · rw [decide_eq_false b1] at hb
    rw [decide_eq_false (show ¬ posP b from fun h => b1 h.1)]
    refine aJ tabOk (sz := 18) Tryz.func93 rfl (by rw [Tryz.ntmps93]; rfl) ?_
    repeat' (first | ((with_reducible refine aB ?_); intro K hK hX) | ((with_reducible refine aC ?_); refine aD [0, 2, 4, 8, 9, 10] rfl rfl ?_) | ((with_reducible refine aE ?_); (first | refine zA ?_ | refine zN ?_); (first | refine c0 hb ?_)) | refine stA ?_ | ((first | refine hK _ _ _ _ ?_ | refine hX _ _ _ _ _ (by simp) ?_); clear hK hX K))
    refine aK zio ztr rfl (ResL.one (ResA.tmp rfl)) zou
end Go.Proofs.YtccnhpaldmjkbaaGreat
namespace Go.Proofs.YtccnhpaldmjkbaaGreat
open Go Go.RowKit Go.Av
set_option maxRecDepth 100000
def limZ (kd : Int) : Int := if kd = 0 then 1073741824 else 1
def okX (lim x : Int) : Prop := 0 ≤ x ∧ x ≤ lim
def valC (s : Sk) (l : List Int) : Prop := formP s ∧ s.kd ≠ 2 ∧ (l.length : Int) = s.w * s.d ∧ ∀ x ∈ l, okX (limZ s.kd) x
theorem intc_at {l : List Int} {i : Nat} {x : Int} (h : l[i]? = some x) : (intc .i64 l)[i]? = some (iv x) := by simp [intc, h]
attribute [local irreducible] Still Adds AWL AW Drw DrwE EStep AC AWR Weak Frz Src RetK Out InK ItK AsK RdK
end Go.Proofs.YtccnhpaldmjkbaaGreat
namespace Go.Proofs.YtccnhpaldmjkbaaGreat
open Go Go.RowKit Go.Av
set_option maxRecDepth 100000
section
variable {P : Program} {tab : Tab} {ev : Evl} {h : Heap} {d : Option Tmp} {T T' ty : TypeId} {x y : Operand} {pos : String} {aft : Array Edge} {gd : Option (Nat × Bool)}
theorem s_eqnilC (tb : TabOk P tab) {e : TyE} {E size n : Nat} {cs : List CV} (hn : 0 < n) (hT : tyLook tab T = some e) (hk : e.kind = .slice E) (hx : ev x = some (.c (.sl size n cs))) (hy : ev y = some (.c (.v (.slice none 0 0)))) : Still P ⟨d, .binOp .eql T x y T', ty, pos, aft, gd⟩ ev h (.c (bv false)) := by
  intro B dom M H w a hh hc he
  have h1 := he x _ hx
  have h2 := he y _ hy
  simp only [Rep, RepC] at h1 h2
  obtain ⟨A, c, us, e1, e2, e3, e4, e5, e7, e6⟩ := h1
  obtain ⟨b, o, rfl, _⟩ := e6 hn
  refine ⟨.bool false, ?_, rfl⟩
  have hr := run_equal_slice_nil (P := P) w T E (some ⟨b, o, none⟩) n c ((aS tb hT).slice hk)
  simp [execOp, e1, h2, eqGuard, binOp, hr]
end
def leastN (l : List Int) (w : Nat) (v : Vl) : Nat → Int
  | 0 => l.getD (placeV w v 0) 0
  | i + 1 => if l.getD (placeV w v i) 0 < leastN l w v i then l.getD (placeV w v i) 0 else leastN l w v i
attribute [local irreducible] Still Adds AWL AW Drw DrwE EStep AC AWR Weak Frz Src RetK Out InK ItK AsK RdK
theorem getD_at {l : List Int} {i : Nat} (h : i < l.length) : l[i]? = some (l.getD i 0) := by
  rw [List.getD_eq_getElem?_getD, List.getElem?_eq_getElem h]; rfl
end Go.Proofs.YtccnhpaldmjkbaaGreat
namespace Go.Proofs.YtccnhpaldmjkbaaGreat
open Go Go.RowKit Go.Av
set_option maxRecDepth 100000
def putP (kd : Int) (l : List Int) (p : Nat) (n : Int) : List Int := l.set p (if kd = 0 then l.getD p 0 + n else 1)
def addN (kd : Int) (w : Nat) (v : Vl) (n : Int) (l : List Int) : Nat → List Int
  | 0 => l
  | i + 1 => putP kd (addN kd w v n l i) (placeV w v i) n
def stepE (kd : Int) (w d col : Nat) (l : List Int) (e : En) : List Int := if (cellV e.r col).k = 0 then l else addN kd w (cellV e.r col) e.n l d
def buildN (kd : Int) (w d col : Nat) (b : List En) (i : Nat) : List Int := (b.take i).foldl (stepE kd w d col) (List.replicate (w * d) 0)
def inB (l : List Int) (M : Int) : Prop := ∀ x ∈ l, 0 ≤ x ∧ x ≤ M
attribute [local irreducible] Still Adds AWL AW Drw DrwE EStep AC AWR Weak Frz Src RetK Out InK ItK AsK RdK
end Go.Proofs.YtccnhpaldmjkbaaGreat
namespace Go.Proofs.YtccnhpaldmjkbaaGreat
open Go Go.RowKit Go.Av
set_option maxRecDepth 100000
theorem eS {α : Type} {l : List α} {i j : Nat} {x : α} (h : l[i]? = some x) (e : j = i) : l[j]? = some x := e ▸ h
def ascI (l : List Int) : Prop := l.Pairwise (· < ·)
def compN (l : List Int) : Nat → List Int
  | 0 => []
  | m + 1 => if 0 < m ∧ l.getD m 0 = l.getD (m - 1) 0 then compN l m else compN l m ++ [l.getD m 0]
def sortI (l : List Int) : List Int := l.mergeSort fun x y => decide (x ≤ y)
def ascL (l : List Int) : List Int := compN (sortI l) l.length
def smallI (w : Nat) (l : List Int) : List Int := (ascL l).take w
def hashP (w : Nat) (l : List Int) : Prop := l.length ≤ w ∧ ascI l ∧ ∀ x ∈ l, 0 ≤ x ∧ x < 4611686018427387904
def rowN (l : List Int) (m : Nat) : List Int := compN l m ++ l.drop (compN l m).length
end Go.Proofs.YtccnhpaldmjkbaaGreat
namespace Go.Av
open Go Go.RowKit

def plB : AV → Bool
  | .c (.v _) => true
  | .tup xs => xs.all fun x => match x with | .c (.v _) => true | _ => false
  | _ => false
def ACS (P : Program) (f : FuncId) (E : TypeId) (size n : Nat) (c0 args c1 : List CV) (r : AV) : Prop :=
  ∀ (ok : Nat → Prop) (w : World) (g cap : Nat) (us0 vs0 vs : List Value), ¬ ok g → w.heap[g]? = some (.cells (us0 ++ vs0).toArray E (0, 0)) → RepCs ok w c0 us0 → (∀ u ∈ us0, u.oneCell' = true) → n ≤ cap → cap ≤ maxLen → us0.length + vs0.length = cap * size → RepCs ok w args vs →
    Calls P f (Value.slice (some ⟨g, 0, none⟩) n cap :: vs).toArray w fun e w' => ∃ v us1 vs1, e = .returned v ∧ FrB w [g] w' ∧ w'.heap[g]? = some (.cells (us1 ++ vs1).toArray E (0, 0)) ∧ us1.length + vs1.length = cap * size ∧ RepCs (okg ok w g) w' c1 us1 ∧ (∀ u ∈ us1, u.oneCell' = true) ∧ ∀ C : Cx, Rep C r v
section call
variable {P : Program} {ev : Evl} {h : Heap} {d : Option Tmp} {ty : TypeId} {pos : String} {aft : Array Edge} {gd : Option (Nat × Bool)} {i : Nat} {f : FuncId} {x0 : Operand} {xs : List Operand} {ats : Array TypeId} {E : TypeId} {c0 c1 cs cs' : List CV} {r : AV} {id size m : Nat}
theorem e_callS (hac : ACS P f E size m c0 cs' c1 r) (hb : Body P f) (hm : 0 < m) (hx0 : ev x0 = some (.own id 0 m size true)) (ho : lk h id = some (.row E c0)) (hx : argsC ev xs = some cs) (hcv : CvL cs cs') :
    EStep P ⟨d, .call ⟨.value (.func f), (x0 :: xs).toArray, ats⟩, ty, pos, aft, gd⟩ ev h r [] (some (id, some (.row E c1))) i i := by
  intro B dom M H w a K Q hh hn hc he hK
  have hargs : RepCs (okOf B dom M H) w cs (xs.map a.eval) := RepL.toC (C := ⟨dom, M, okOf B dom M H, w⟩) (eI he (by rw [fU hx, List.map_map]; rfl))
  have hp := he x0 _ hx0
  simp only [Rep] at hp
  obtain ⟨hid, hp⟩ := hp
  rcases hp with ⟨h1, _⟩ | ⟨g, cap, hM, hp, hncap, hcap, hfull⟩ | ⟨h1, _⟩
  · omega
  · obtain ⟨us0, vs0, hb0, hus0, hone0⟩ := eE hh hc ho hid hM
    have hng : ¬ okOf B dom M H g := fun hk => hk.2 id _ hid (hh id _ ho hid) hM
    have hlen0 : us0.length + vs0.length = cap * size := by
      obtain ⟨e, hsh⟩ := hfull trivial
      unfold World.shape? at hsh
      rw [hb0] at hsh
      simp only [Option.some.injEq, Prod.mk.injEq, List.size_toArray, List.length_append] at hsh
      omega
    unfold Oper.wp execOp
    simp only [resolve, Deferred.ofValue, Act.eval, invoke, Sem.run_bind, Sem.run_pure, Result.andThen_ok, List.map_toArray, Array.append_empty, Body.run hb, Oper.upon]
    rw [show (#[] ++ (List.map a.eval (x0 :: xs)).toArray : Array Value) = (Value.slice (some ⟨g, 0, none⟩) m cap :: List.map a.eval xs).toArray by simp [hp]]
    refine (hac _ w g cap us0 vs0 _ hng hb0 hus0 hone0 hncap hcap hlen0 (hcv _ _ _ hargs)).mono ?_
    rintro e w' ⟨v, us1, vs1, rfl, hfr, hb1, hlen1, hus1, hone1, hv⟩
    simp only
    have hgs := bN hb0
    have hg1 : (w'.putObj g (.cells (us0 ++ vs0).toArray E (0, 0))).heap[g]? = some (.cells (us0 ++ vs0).toArray E (0, 0)) := World.putObj_heap_same (bN hb1)
    have ho1 : ∀ k, k ≠ g → (w'.putObj g (.cells (us0 ++ vs0).toArray E (0, 0))).heap[k]? = w'.heap[k]? := fun k hk => World.putObj_heap_other (fun e => hk e)
    generalize hw1 : w'.putObj g (.cells (us0 ++ vs0).toArray E (0, 0)) = w1 at hg1 ho1
    have hs1 : w1.heap.size = w'.heap.size := by rw [← hw1]; simp [World.putObj]
    have hbl : Below w.heap.size w w1 := ⟨by rw [← hw1]; exact hfr.os, by rw [← hw1]; exact hfr.tape, by rw [← hw1]; exact hfr.output, by rw [hs1]; exact hfr.size, fun k hk => by
      by_cases e : k = g
      · subst e; rw [hg1, hb0]
      · rw [ho1 k e]; exact hfr.block k hk (by simp [e])⟩
    have hgr := hc.grow hbl i i (M' := M) (fun id _ => rfl) (fun id h1 h2 => by omega) (fun id o h1 h2 => by omega) (fun id id' o o' g h1 h2 => by omega) (fun hext id o h1 h2 => by omega)
    rw [cQ] at hgr
    obtain ⟨g1, g2⟩ := hgr
    have hmon : Keeps (okg (okOf B dom M H) w g) (okOf B dom M (ov (some (id, some (.row E c1))) H)) w' w' := fun b hb hl => by
      refine ⟨⟨?_, fun k o hk hH he => ?_⟩, hl, rfl⟩
      · rcases hb.1 with h1 | h1
        · exact h1.1
        · exact .inr (.inl (Nat.le_trans hc.fr.size h1))
      · by_cases e : k = id
        · subst e
          rw [hM] at he
          injection he with he
          exact hb.2 he.symm
        · rw [gT (fun x hx => e (congrArg Prod.fst (Option.some.inj hx)).symm)] at hH
          rcases hb.1 with h1 | h1
          · exact h1.2 k o hk hH he
          · have := (hc.obj k o hk hH).lt b he
            simp only at this
            omega
    obtain ⟨k1, k2⟩ := g1.turnE (o' := .row E c1) (w' := w') hid (hh id _ ho hid) hM (by rw [← hw1]; rfl) (by rw [← hw1]; rfl) (by rw [← hw1]; rfl) hs1.symm (fun k hk => (ho1 k hk).symm)
      (by
        unfold World.shape?
        rw [hb1, hg1]
        simp only [List.size_toArray, List.length_append]
        rw [hlen1, hlen0])
      (fun hext => .inr ⟨g, us1, vs1, rfl, hb1, RepCs.mono hmon _ _ hus1, hone1⟩)
    rw [cQ] at hK
    exact hK v w' M (g2.trans k2) k1 (hv _)
  · omega
end call
section
variable {P : Program} {sz n : Nat} {env : Env} {h : Heap} {dfs : Defs} {K : AK} {ops : Array Oper} {rest : List Oper} {d : Option Tmp} {ty : TypeId} {pos : String} {aft : Array Edge} {gd : Option (Nat × Bool)} {f : FuncId} {x0 : Operand} {xs : List Operand} {ats : Array TypeId} {E : TypeId} {c0 c0' c1 cs cs' : List CV} {r : AV} {id size m : Nat}
theorem rJ (hac : ACS P f E size m c0 cs' c1 r) (hg : guardA ops env ⟨d, .call ⟨.value (.func f), (x0 :: xs).toArray, ats⟩, ty, pos, aft, gd⟩ true) (hd : dstOk d sz = true) (hb : Body P f) (hm : 0 < m) (hx0 : evA env x0 = some (.own id 0 m size true)) (ho : lk h id = some (.row E c0')) (h0 : c0' = c0) (hx : argsC (evA env) xs = some cs) (hcv : CvL cs cs')
    (next : AWL P ops sz rest K n (putE env d r) ((id, .row E c1) :: h) dfs) : AWL P ops sz (⟨d, .call ⟨.value (.func f), (x0 :: xs).toArray, ats⟩, ty, pos, aft, gd⟩ :: rest) K n env h dfs := by
  subst h0
  exact gN (c := some (id, some (.row E c1))) (Δ := []) hg hd (Nat.le_refl _) rfl (e_callS hac hb hm hx0 ho hx hcv) (fun id h1 h2 => by omega) (by simp) next
end
section enter
def RetS (P : Program) (tab : Tab) (rs : List ResultVar) (E : TypeId) (size n : Nat) (c1 : List CV) (r : AV) : AK :=
  fun e k env h dfs => (e = .normal ∨ e = .ret) ∧ IdleD P h dfs ∧ framM dfs = some [.own 0 0 n size true] ∧ 0 < k ∧ lk (endD h dfs) 0 = some (.row E c1) ∧ ∃ v, ResL tab env (endD h dfs) rs v ∧ plB v = true ∧ v = r
end enter
end Go.Av
namespace Go.Av
open Go Go.RowKit

def ACP (P : Program) (f : FuncId) (E : TypeId) (size n : Nat) (pre c0 args c1 : List CV) (m : Nat) : Prop :=
  ∀ (ok : Nat → Prop) (w : World) (g cap : Nat) (us0 vs0 ps vs : List Value), ¬ ok g → w.heap[g]? = some (.cells (us0 ++ vs0).toArray E (0, 0)) → RepCs ok w c0 us0 → (∀ u ∈ us0, u.oneCell' = true) → n ≤ cap → cap ≤ maxLen → us0.length + vs0.length = cap * size → RepCs ok w pre ps → RepCs ok w args vs →
    Calls P f (ps ++ Value.slice (some ⟨g, 0, none⟩) n cap :: vs).toArray w fun e w' => ∃ v us1 vs1, e = .returned v ∧ FrB w [g] w' ∧ w'.heap[g]? = some (.cells (us1 ++ vs1).toArray E (0, 0)) ∧ us1.length + vs1.length = cap * size ∧ RepCs (okg ok w g) w' c1 us1 ∧ (∀ u ∈ us1, u.oneCell' = true) ∧ ∀ (C : Cx) (id : Nat), C.dom id → C.M id = some g → Rep C (.own id 0 m size false) v
section call
variable {P : Program} {ev : Evl} {h : Heap} {d : Option Tmp} {ty : TypeId} {pos : String} {aft : Array Edge} {gd : Option (Nat × Bool)} {i : Nat} {f : FuncId} {x0 : Operand} {xs : List Operand} {ats : Array TypeId} {E : TypeId} {c0 c1 cs cs' ps ps' : List CV} {id size m k : Nat} {ys : List Operand}
theorem e_callP (hac : ACP P f E size m ps' c0 cs' c1 k) (hb : Body P f) (hm : 0 < m) (hx0 : ev x0 = some (.own id 0 m size true)) (ho : lk h id = some (.row E c0)) (hy : argsC ev ys = some ps) (hcp : CvL ps ps') (hx : argsC ev xs = some cs) (hcv : CvL cs cs') :
    EStep P ⟨d, .call ⟨.value (.func f), (ys ++ x0 :: xs).toArray, ats⟩, ty, pos, aft, gd⟩ ev h (.own id 0 k size false) [] (some (id, some (.row E c1))) i i := by
  intro B dom M H w a K Q hh hn hc he hK
  have hargs : RepCs (okOf B dom M H) w cs (xs.map a.eval) := RepL.toC (C := ⟨dom, M, okOf B dom M H, w⟩) (eI he (by rw [fU hx, List.map_map]; rfl))
  have hargp : RepCs (okOf B dom M H) w ps (ys.map a.eval) := RepL.toC (C := ⟨dom, M, okOf B dom M H, w⟩) (eI he (by rw [fU hy, List.map_map]; rfl))
  have hp := he x0 _ hx0
  simp only [Rep] at hp
  obtain ⟨hid, hp⟩ := hp
  rcases hp with ⟨h1, _⟩ | ⟨g, cap, hM, hp, hncap, hcap, hfull⟩ | ⟨h1, _⟩
  · omega
  · obtain ⟨us0, vs0, hb0, hus0, hone0⟩ := eE hh hc ho hid hM
    have hng : ¬ okOf B dom M H g := fun hk => hk.2 id _ hid (hh id _ ho hid) hM
    have hlen0 : us0.length + vs0.length = cap * size := by
      obtain ⟨e, hsh⟩ := hfull trivial
      unfold World.shape? at hsh
      rw [hb0] at hsh
      simp only [Option.some.injEq, Prod.mk.injEq, List.size_toArray, List.length_append] at hsh
      omega
    unfold Oper.wp execOp
    simp only [resolve, Deferred.ofValue, Act.eval, invoke, Sem.run_bind, Sem.run_pure, Result.andThen_ok, List.map_toArray, Array.append_empty, Body.run hb, Oper.upon]
    rw [show (#[] ++ (List.map a.eval (ys ++ x0 :: xs)).toArray : Array Value) = (List.map a.eval ys ++ Value.slice (some ⟨g, 0, none⟩) m cap :: List.map a.eval xs).toArray by simp [hp]]
    refine (hac _ w g cap us0 vs0 _ _ hng hb0 hus0 hone0 hncap hcap hlen0 (hcp _ _ _ hargp) (hcv _ _ _ hargs)).mono ?_
    rintro e w' ⟨v, us1, vs1, rfl, hfr, hb1, hlen1, hus1, hone1, hv⟩
    simp only
    have hgs := bN hb0
    have hg1 : (w'.putObj g (.cells (us0 ++ vs0).toArray E (0, 0))).heap[g]? = some (.cells (us0 ++ vs0).toArray E (0, 0)) := World.putObj_heap_same (bN hb1)
    have ho1 : ∀ k, k ≠ g → (w'.putObj g (.cells (us0 ++ vs0).toArray E (0, 0))).heap[k]? = w'.heap[k]? := fun k hk => World.putObj_heap_other (fun e => hk e)
    generalize hw1 : w'.putObj g (.cells (us0 ++ vs0).toArray E (0, 0)) = w1 at hg1 ho1
    have hs1 : w1.heap.size = w'.heap.size := by rw [← hw1]; simp [World.putObj]
    have hbl : Below w.heap.size w w1 := ⟨by rw [← hw1]; exact hfr.os, by rw [← hw1]; exact hfr.tape, by rw [← hw1]; exact hfr.output, by rw [hs1]; exact hfr.size, fun k hk => by
      by_cases e : k = g
      · subst e; rw [hg1, hb0]
      · rw [ho1 k e]; exact hfr.block k hk (by simp [e])⟩
    have hgr := hc.grow hbl i i (M' := M) (fun id _ => rfl) (fun id h1 h2 => by omega) (fun id o h1 h2 => by omega) (fun id id' o o' g h1 h2 => by omega) (fun hext id o h1 h2 => by omega)
    rw [cQ] at hgr
    obtain ⟨g1, g2⟩ := hgr
    have hmon : Keeps (okg (okOf B dom M H) w g) (okOf B dom M (ov (some (id, some (.row E c1))) H)) w' w' := fun b hb hl => by
      refine ⟨⟨?_, fun k o hk hH he => ?_⟩, hl, rfl⟩
      · rcases hb.1 with h1 | h1
        · exact h1.1
        · exact .inr (.inl (Nat.le_trans hc.fr.size h1))
      · by_cases e : k = id
        · subst e
          rw [hM] at he
          injection he with he
          exact hb.2 he.symm
        · rw [gT (fun x hx => e (congrArg Prod.fst (Option.some.inj hx)).symm)] at hH
          rcases hb.1 with h1 | h1
          · exact h1.2 k o hk hH he
          · have := (hc.obj k o hk hH).lt b he
            simp only at this
            omega
    obtain ⟨k1, k2⟩ := g1.turnE (o' := .row E c1) (w' := w') hid (hh id _ ho hid) hM (by rw [← hw1]; rfl) (by rw [← hw1]; rfl) (by rw [← hw1]; rfl) hs1.symm (fun k hk => (ho1 k hk).symm)
      (by
        unfold World.shape?
        rw [hb1, hg1]
        simp only [List.size_toArray, List.length_append]
        rw [hlen1, hlen0])
      (fun hext => .inr ⟨g, us1, vs1, rfl, hb1, RepCs.mono hmon _ _ hus1, hone1⟩)
    rw [cQ] at hK
    exact hK v w' M (g2.trans k2) k1 (hv _ id hid hM)
  · omega
end call
section
variable {P : Program} {sz n : Nat} {env : Env} {h : Heap} {dfs : Defs} {K : AK} {ops : Array Oper} {rest : List Oper} {d : Option Tmp} {ty : TypeId} {pos : String} {aft : Array Edge} {gd : Option (Nat × Bool)} {f : FuncId} {x0 : Operand} {xs : List Operand} {ats : Array TypeId} {E : TypeId} {c0 c0' c1 cs cs' ps ps' : List CV} {id size m k : Nat} {y0 : Operand}
theorem rI (hac : ACP P f E size m [] c0 cs' c1 k) (hg : guardA ops env ⟨d, .call ⟨.value (.func f), (x0 :: xs).toArray, ats⟩, ty, pos, aft, gd⟩ true) (hd : dstOk d sz = true) (hb : Body P f) (hm : 0 < m) (hx0 : evA env x0 = some (.own id 0 m size true)) (ho : lk h id = some (.row E c0')) (h0 : c0' = c0) (hx : argsC (evA env) xs = some cs) (hcv : CvL cs cs')
    (next : AWL P ops sz rest K n (putE env d (.own id 0 k size false)) ((id, .row E c1) :: h) dfs) : AWL P ops sz (⟨d, .call ⟨.value (.func f), (x0 :: xs).toArray, ats⟩, ty, pos, aft, gd⟩ :: rest) K n env h dfs := by
  subst h0
  exact gN (c := some (id, some (.row E c1))) (Δ := []) hg hd (Nat.le_refl _) rfl (e_callP (ys := []) hac hb hm hx0 ho rfl gO hx hcv) (fun id h1 h2 => by omega) (by simp) next
end
section drawn
variable {P : Program} {l rest : List Oper} {sz i n n0 m : Nat} {K : AK} {dfs : Defs} {env env0 : Env} {h h0 hr : Heap} {es : List Eat} {ids : List Nat} {t : Tmp} {ty : TypeId} {pos : String} {aft : Array Edge} {gd : Option (Nat × Bool)} {f : FuncId} {y0 x0 : Operand} {xs : List Operand} {ats : Array TypeId} {E : TypeId} {c0 c0' c1 cs cs' ps ps' : List CV} {id size q k : Nat}
end drawn
section enter
def RetP (P : Program) (tab : Tab) (rs : List ResultVar) (E : TypeId) (size n : Nat) (pre : List CV) (c1 : List CV) (m : Nat) : AK :=
  fun e k env h dfs => (e = .normal ∨ e = .ret) ∧ IdleD P h dfs ∧ framM dfs = some [.own 0 0 n size true] ∧ 0 < k ∧ ∃ c' fl, lk (endD h dfs) 0 = some (.row E c') ∧ c'.take (m * size) = c1 ∧ ResL tab env (endD h dfs) rs (.own 0 0 m size fl)
theorem tP {P : Program} {tab : Tab} {rs : List ResultVar} {E : TypeId} {size n m : Nat} {pre c1 c' : List CV} {h h' : Heap} {k : Nat} {e : Exit} {env : Env} {dfs : Defs} {fl : Bool} (he : e = .normal ∨ e = .ret) (hd : IdleD P h dfs) (hm : framM dfs = some [.own 0 0 n size true]) (hh : endD h dfs = h') (hk : Nat.blt 0 k = true) (ho : lk h' 0 = some (.row E c')) (hc : c'.take (m * size) = c1) (hv : ResL tab env h' rs (.own 0 0 m size fl)) : RetP P tab rs E size n pre c1 m e k env h dfs :=
  ⟨he, hd, hm, by simpa [Nat.blt_eq] using hk, c', fl, by rw [hh, ho], hc, hh ▸ hv⟩
theorem rF {P : Program} {tab : Tab} (tb : TabOk P tab) {f : FuncId} {fn : Func} {c : Code} {E : TypeId} {size n : Nat} {pre c0 args c1 : List CV} {m : Nat} {sz : Nat} (hf : P.funcs[f]? = some fn) (hb : fn.body = some c) (hsz : max fn.ntmps (pre.length + (args.length + 1)) = sz) (hn0 : 0 < n)
    (hx : AW P sz c (RetP P tab fn.results.toList E size n pre c1 m) 1 (enumA 0 (pre.map AV.c ++ .own 0 0 n size true :: args.map AV.c)) [(0, .row E c0)] [(none, [.own 0 0 n size true])]) : ACP P f E size n pre c0 args c1 m := by
  intro ok w g cap us0 vs0 ps vs hng hb0 hc0 hone0 hncap hcap hlen0 hps hvs
  have hlen := hvs.length
  have hlenp := hps.length
  have hok : ∀ b, ok b → okOf ⟨w, [g], ok, [.slice (some ⟨g, 0, none⟩) n cap]⟩ (lt 1) (fun _ => some g) (lk [(0, .row E c0)]) b := fun b hk => ⟨.inl hk, fun id o hid hH he => by
    injection he with he; subst he; exact hng hk⟩
  have hshape : w.shape? g = some (E, 0 + cap * size) := by
    unfold World.shape?
    rw [hb0]
    simp [hlen0]
  have hall : RepL (cx ⟨w, [g], ok, [.slice (some ⟨g, 0, none⟩) n cap]⟩ 1 (fun _ => some g) [(0, .row E c0)] w) (pre.map AV.c ++ .own 0 0 n size true :: args.map AV.c) (ps ++ .slice (some ⟨g, 0, none⟩) n cap :: vs) :=
    RepL.append (RepL.ofC (RepCs.mono (fun b hb hl => ⟨hok b hb, hl, rfl⟩) _ _ hps)) ⟨_, _, rfl, ⟨Nat.zero_lt_one, .inr (.inl ⟨g, cap, rfl, rfl, hncap, hcap, fun _ => ⟨E, hshape⟩⟩)⟩, RepL.ofC (RepCs.mono (fun b hb hl => ⟨hok b hb, hl, rfl⟩) _ _ hvs)⟩
  have hcc : ConcH ⟨w, [g], ok, [.slice (some ⟨g, 0, none⟩) n cap]⟩ (lt 1) (fun _ => some g) (lk [(0, .row E c0)]) w := by
    refine ⟨FrB.refl _ _, fun id o hid hH => ?_, fun id id' o o' g' h1 h2 _ _ _ _ => by simp only [lt] at h1 h2; omega, fun id o g' _ _ he => .inr (by injection he with he; simp [he])⟩
    have hid : id < 1 := hid
    obtain rfl : id = 0 := by omega
    have : some (AObj.row E c0) = some o := hH
    injection this with this
    subst this
    exact .inr ⟨g, us0, vs0, rfl, hb0, RepCs.mono (fun b hb hl => ⟨hok b hb, hl, rfl⟩) _ _ hc0, hone0⟩
  refine eX hf hb (wp_mono (iR (hx ⟨w, [g], ok, [.slice (some ⟨g, 0, none⟩) n cap]⟩ _ w ⟨fun _ => some g, hcc, ?_, ?_, ?_⟩)) ?_)
  · simp; omega
  · intro t av ht
    obtain ⟨h1, h2⟩ := iG ht
    rw [Nat.sub_zero] at h2
    obtain ⟨u, hu, hru⟩ := hall.get h2
    have : ((ps ++ Value.slice (some ⟨g, 0, none⟩) n cap :: vs).toArray ++ Array.replicate (fn.ntmps - (ps ++ Value.slice (some ⟨g, 0, none⟩) n cap :: vs).toArray.size) undef).getD t undef = u := by
      have hlt := (List.getElem?_eq_some_iff.1 hu).1
      rw [Array.getD_eq_getD_getElem?, Array.getElem?_append_left (by simpa using hlt)]
      rw [List.getElem?_toArray, hu]
      rfl
    rw [this]
    exact hru
  · exact ⟨⟨_, _, rfl, ⟨Nat.zero_lt_one, .inr (.inl ⟨g, cap, rfl, rfl, hncap, hcap, fun _ => ⟨E, hshape⟩⟩)⟩, rfl⟩, rfl⟩
  · intro e a w' hq
    obtain ⟨k, env, h, dfs, ⟨h1, h2, h3, h4, c', fl, h5, h7, h6⟩, M, d1, d2, d3, d4⟩ := hq
    have : LeavesM P fn a.tmps (fun e w' => ∃ v us1 vs1, e = .returned v ∧ FrB w [g] w' ∧ w'.heap[g]? = some (.cells (us1 ++ vs1).toArray E (0, 0)) ∧ us1.length + vs1.length = cap * size ∧ RepCs (okg ok w g) w' c1 us1 ∧ (∀ u ∈ us1, u.oneCell' = true) ∧ ∀ (C : Cx) (id : Nat), C.dom id → C.M id = some g → Rep C (.own id 0 m size false) v) a.defers w' := by
      refine dU h2 d1 d4 fun w2 g1 g2 => ?_
      obtain ⟨u, k1, k2⟩ := h6.run tb g1 (fun t av ht => Rep.ext g2 _ _ (d3 t av ht))
      have hfr := RepL.ext g2 _ _ (iI h3 d4)
      simp only [RepL, Rep] at hfr
      obtain ⟨u0, us', e1, ⟨hn, hfr⟩, _⟩ := hfr
      injection e1 with e1 e3
      rw [← e1] at hfr
      rcases hfr with ⟨q1, _⟩ | ⟨g', cap', hM, e2, _, _, hfull⟩ | ⟨q1, _⟩
      · omega
      · injection e2 with e2 e5 e6
        injection e2 with e2
        injection e2 with e2 e4
        subst e2 e6
        obtain ⟨us1, vs1, hb1, hr1, hone1⟩ := eE (fun id o h _ => h) g1 h5 (show lt k 0 from h4) hM
        have hl1 : us1.length + vs1.length = cap * size := by
          obtain ⟨e, hsh⟩ := hfull trivial
          unfold World.shape? at hsh
          simp only [cx] at hsh
          rw [hb1] at hsh
          simp only [Option.some.injEq, Prod.mk.injEq, List.size_toArray, List.length_append] at hsh
          omega
        refine ⟨u, k2, u, us1.take (m * size), us1.drop (m * size) ++ vs1, rfl, g1.fr, by rw [← List.append_assoc, List.take_append_drop]; exact hb1, by rw [List.length_append, List.length_take, List.length_drop]; omega, ?_, fun x hx => hone1 x (List.mem_of_mem_take hx), fun C id hd hM' => ?_⟩
        · rw [← h7]
          refine RepCs.take _ (RepCs.mono (fun b hb hl => ⟨⟨?_, fun e => ?_⟩, hl, rfl⟩) _ _ hr1)
          · rcases hb.1 with k1 | k1 | k1
            · exact .inl k1
            · exact .inr k1
            · obtain rfl : b = g := by simpa using k1
              exact absurd hM (hb.2 0 _ h4 h5)
          · subst e; exact absurd hM (hb.2 0 _ h4 h5)
        · simp only [Rep, cx] at k1 ⊢
          refine ⟨hd, ?_⟩
          obtain ⟨_, ⟨p1, p2, p3, p4⟩ | ⟨g2', cp, p1, p2, p3, p4, p5⟩ | ⟨p1, p2, A, cp, p3, p4⟩⟩ := k1
          · have hM2 : M 0 = some g := hM
            rw [hM2] at p3; cases p3
          · have hM2 : M 0 = some g := hM
            rw [hM2] at p1
            injection p1 with p1
            subst p1
            exact .inr (.inl ⟨g, cp, hM', p2, p3, p4, fun h => by cases h⟩)
          · exact .inr (.inr ⟨p1, trivial, A, cp, p3, p4⟩)
      · omega
    rcases h1 with rfl | rfl <;> exact this
end enter
end Go.Av
namespace Go.Av
open Go Go.RowKit
section
variable {n N m size id t : Nat} {full : Bool} {T : TypeId} {cs : List CV} {env : Env} {h : Heap} {dfs : Defs}
theorem xR (hx : lkE env t = some (.own id 0 m size full)) (ho : lk h id = some (.row T cs)) (hl : cs.length = m * size) : Weak n env h dfs n ((t, .c (.sl size m cs)) :: env) ((id, .dead) :: h) dfs := by
  have hnone : lk ((id, AObj.dead) :: h) id = none := by rw [bD, if_pos rfl]; rfl
  have hs : ∀ k o, lk ((id, AObj.dead) :: h) k = some o → lk h k = some o := fun k o hk => by
    rw [bD] at hk
    split at hk
    · cases hk
    · exact hk
  intro B sz a w hc
  obtain ⟨M, c1, c2, c3, c4⟩ := hc
  have hext := lE (B := B) (n := n) (M := M) (w := w) hs
  refine ⟨M, ⟨c1.fr, fun id o hid ho => (c1.obj id o hid (hs id o ho)).ext hext (fun _ _ => rfl), fun id id' o o' g k1 k2 k3 k4 => c1.inj id id' o o' g k1 k2 (hs id o k3) (hs id' o' k4), fun id o g k1 k2 => c1.lo id o g k1 (hs id o k2)⟩, c2, fun k av hk => ?_, c4.ext hext⟩
  rw [cW] at hk
  split at hk
  · rename_i e
    subst e
    injection hk with hk
    subst hk
    exact lZ (Hp := (id, .dead) :: h) ho hnone hl B n M w _ hs c1 (c3 _ _ hx)
  · exact Rep.ext hext _ _ (c3 k av hk)
theorem awl_fz {P : Program} {ops : Array Oper} {sz : Nat} {l : List Oper} {K : AK} (t : Nat) (hx : lkE env t = some (.own id 0 m size full)) (ho : lk h id = some (.row T cs)) (hl : cs.length = m * size) (next : AWL P ops sz l K n ((t, .c (.sl size m cs)) :: env) ((id, .dead) :: h) dfs) : AWL P ops sz l K n env h dfs := uZ (xR hx ho hl) next
theorem tB {P : Program} {ops : Array Oper} {sz m' : Nat} {cs' : List CV} {l : List Oper} {K : AK} (t : Nat) (hx : lkE env t = some (.own id 0 m size full)) (ho : lk h id = some (.row T cs)) (hl : cs.length = m * size) (hm : m = m') (hc : cs = cs') (next : AWL P ops sz l K n ((t, .c (.sl size m' cs')) :: env) ((id, .dead) :: h) dfs) : AWL P ops sz l K n env h dfs := by
  subst hm hc
  exact uZ (xR hx ho hl) next
end
end Go.Av
namespace Go.Av
open Go Go.RowKit
theorem mL (g : Nat) (T : TypeId) : ∀ (vs : List Value) (o : Nat) (w : World) (cur : List Value), w.heap[g]? = some (.cells cur.toArray T (0, 0)) →
    ∃ cur' : List Value, cur'.length = cur.length ∧ cur'.take o = cur.take o ∧ w.setCells g o vs = w.setRow g cur'.toArray
  | [], o, w, cur, h => ⟨cur, rfl, rfl, (setRow_self w g _ T _ h).symm⟩
  | v :: vs, o, w, cur, h => by
    have h1 := setCell_eq_setRow w g o cur.toArray T (0, 0) v h
    rw [List.setIfInBounds_toArray] at h1
    have h2 := setRow_heap w g cur.toArray (cur.set o v).toArray T (0, 0) h
    obtain ⟨c, c1, c2, c3⟩ := mL g T vs (o + 1) (w.setRow g (cur.set o v).toArray) (cur.set o v) h2
    refine ⟨c, by rw [c1, List.length_set], ?_, ?_⟩
    · have := congrArg (List.take o) c2
      rw [List.take_take, List.take_take, Nat.min_eq_left (by omega), List.take_set_of_le (Nat.le_refl _)] at this
      exact this
    · show (w.setCell ⟨g, o, none⟩ v).setCells g (o + 1) vs = _
      rw [h1, c3, setRow_setRow]
theorem yY {P : Program} {T ty : TypeId} {pos : String} {aft : Array Edge} {gd : Option (Nat × Bool)} {x : Operand} {w w' : World} (ρ : Operand → Value) {v : Value} (hr : (Builtin.clear_ #[T] ty #[ρ x]).run P w = .ok v w') : (execOp ρ ⟨none, .call ⟨.builtin .clear, #[x], #[T]⟩, ty, pos, aft, gd⟩).run P w = .ok (.value v) w' := by
  simp only [execOp, resolve, invoke, builtin, Sem.run_bind, Sem.run_pure, Result.andThen_ok, List.map_toArray, List.map_cons, List.map_nil, hr]
theorem oG {P : Program} (w : World) (t e ty : TypeId) (z zv : Value) (ht : P.underlying t = some (.slice e)) (hv : ∀ w, (zeroValue e).run P w = .ok zv w) (hz : zv.cells = #[z]) (h1 : z.oneCell' = true) (b o n c : Nat) (hn : 0 < n)
    (hc : ∀ j, j < n → (w.cell? ⟨b, o + j, none⟩).isSome = true) (hf : ∀ j, j < n → w.frozen? ⟨b, o + j, none⟩ = false) :
    (Builtin.clear_ #[t] ty #[.slice (some ⟨b, o, none⟩) n c]).run P w = .ok (.tuple #[]) (w.setCells b o (List.replicate n z)) := by
  have hzc : (Builtin.zeroCells zv.cells n).toList = List.replicate n z := by
    rw [hz]
    simp [Builtin.zeroCells]
    apply List.ext_getElem
    · simp
    · intro i h1 h2
      simp [Nat.mod_one]
  have hst := run_storeCells_cells (P := P) b o (List.replicate n z) 0 w (by simpa using hc) (by simpa using hf) (by intro v hv'; rw [List.eq_of_mem_replicate hv']; exact h1)
  simp only [Nat.add_zero] at hst
  obtain ⟨m, rfl⟩ : ∃ m, n = m + 1 := ⟨n - 1, by omega⟩
  simp [Builtin.clear_, run_underlying ht, hv, hzc, hst]
section
variable {P : Program} {tab : Tab} {sz n : Nat} {env : Env} {h : Heap} {dfs : Defs} {K : AK} {ops : Array Oper} {rest : List Oper} {ty T : TypeId} {pos : String} {aft : Array Edge} {gd : Option (Nat × Bool)} {x : Operand}
theorem awl_clear (tb : TabOk P tab) {e e' : TyE} {E T' : TypeId} {z : Value} (hg : guardA ops env ⟨none, .call ⟨.builtin .clear, #[x], #[T]⟩, ty, pos, aft, gd⟩ true) (hT : tyLook tab T = some e) (hk : e.kind = .slice E) (hE : tyLook tab E = some e') (hz : e'.zero = [z]) (h1 : z.oneCell' = true)
    {id off m : Nat} {full : Bool} {cs : List CV} (hx : evA env x = some (.own id off m 1 full)) (ho : lk h id = some (.row T' cs)) (hm : 0 < m) (hfit : off + m ≤ cs.length)
    (next : AWL P ops sz rest K n env ((id, .row T' (cs.take off)) :: h) dfs) : AWL P ops sz (⟨none, .call ⟨.builtin .clear, #[x], #[T]⟩, ty, pos, aft, gd⟩ :: rest) K n env h dfs := by
  intro B a w hc
  obtain ⟨M, c1, c2, c3, c4⟩ := hc
  refine dM fun K' hK' => ?_
  rw [if_pos (hg.wanted c3)]
  have hp := dH c3 x _ hx
  simp only [Rep] at hp
  obtain ⟨hid, ⟨q1, _⟩ | ⟨g, cp, hM, hp, hmc, hcp, _⟩ | ⟨q1, _⟩⟩ := hp
  · omega
  · obtain ⟨us, vs, hb, hus, hone⟩ := eE (fun id o h _ => h) c1 ho hid hM
    have hul := hus.length
    obtain ⟨i, hi, _, _, zv, hzv, hzz⟩ := (aS tb hE).parts
    have hzeq : zv.cells = #[z] := by
      rw [hz] at hzz
      exact Array.toList_inj.1 hzz
    have hv : ∀ w, (zeroValue E).run P w = .ok zv w := fun w => by
      simp only [zeroValue, typeInfo, Sem.run_bind, run_program, Result.andThen_ok, hi, Sem.run_pure, hzv]
    have hcell : ∀ j, j < m → (w.cell? ⟨g, off + j, none⟩).isSome = true := fun j hj => by
      rw [iD hb, List.getElem?_append_left (by omega), List.getElem?_eq_getElem (by omega)]; rfl
    have hfr : ∀ j, j < m → w.frozen? ⟨g, off + j, none⟩ = false := fun j hj => by
      unfold World.frozen?
      rw [hb]
      simp
    have hrun := oG (P := P) w T E ty z zv ((aS tb hT).slice hk) hv hzeq h1 g off m cp hm hcell hfr
    obtain ⟨cur, l1, l2, l3⟩ := mL g T' (List.replicate m z) off w (us ++ vs) hb
    rw [l3] at hrun
    rw [List.take_append_of_le_length (by omega)] at l2
    have hcur : cur = us.take off ++ cur.drop off := by rw [← l2, List.take_append_drop]
    unfold Oper.wp
    have hx' := yY (P := P) (T := T) (ty := ty) (pos := pos) (aft := aft) (gd := gd) (x := x) (w := w) a.eval (v := .tuple #[]) (by rw [hp]; exact hrun)
    simp only [hx']
    obtain ⟨k1, k2⟩ := c1.turn (o' := .row T' (cs.take off)) (w' := w.setRow g cur.toArray) rfl hid ho hM rfl rfl rfl (by simp) (fun k hk => setRow_other w g k _ hk) (eJ hb (by simp [l1]))
      (fun hext => .inr ⟨g, us.take off, cur.drop off, rfl, by rw [← hcur]; exact setRow_heap w g _ _ T' _ hb, RepCs.mono hext.ok _ _ (RepCs.take off hus), fun u hu => hone u (List.mem_of_mem_take hu)⟩)
    simp only [Oper.upon, Act.put]
    exact hK' _ _ (next B _ _ ⟨M, k1, c2, fun t av ht => Rep.ext k2 _ _ (c3 t av ht), c4.ext k2⟩)
  · omega
end
section
variable {P : Program} {tab : Tab} {ev : Evl} {h : Heap} {d : Option Tmp} {T T' ty : TypeId} {x y : Operand} {pos : String} {aft : Array Edge} {gd : Option (Nat × Bool)}
theorem wU (tb : TabOk P tab) {e : TyE} {E n c : Nat} {A : Option Addr} (hT : tyLook tab T = some e) (hk : e.kind = .slice E) (hx : ev x = some (.c (.v (.slice A n c)))) (hy : ev y = some (.c (.v (.slice none 0 0)))) : Still P ⟨d, .binOp .eql T x y T', ty, pos, aft, gd⟩ ev h (.c (.v (.bool A.isNone))) := by
  intro B dom M H w a hh hc he
  have h1 := he x _ hx
  have h2 := he y _ hy
  simp only [Rep, RepC] at h1 h2
  refine ⟨.bool A.isNone, ?_, rfl⟩
  have hr := run_equal_slice_nil (P := P) w T E A n c ((aS tb hT).slice hk)
  simp [execOp, h1, h2, eqGuard, binOp, hr]
end
end Go.Av
namespace Go.Proofs.YtccnhpaldmjkbaaGreat
open Go.Shelf Go.Proofs
def Tryz.srtI_ren : Go.Shelf.Ren := ⟨fun | 5 => 158 | 8 => 140 | 7 => 188 | 19 => 171 | 20 => 172 | 10 => 202 | 11 => 203 | 12 => 204 | 13 => 205 | 14 => 206 | 15 => 207 | 16 => 208 | 17 => 209 | 18 => 210 | 30 => 213 | 31 => 192 | 32 => 193 | 33 => 214 | 34 => 215 | 35 => 196 | 40 => 216 | n => n, fun | 23 => 40 | 25 => 2 | 3 => 3 | 32 => 94 | 22 => 40 | 0 => 0 | 44 => 171 | 46 => 124 | 4 => 4 | 36 => 165 | 35 => 164 | 41 => 104 | 5 => 5 | 9 => 9 | 53 => 185 | 57 => 189 | 63 => 200 | 64 => 201 | n => n, fun | n => n⟩
end Go.Proofs.YtccnhpaldmjkbaaGreat
namespace Go.Av
open Go Go.RowKit Go.Sort
theorem acs_sort {P : Program} {f : FuncId} {E : TypeId} {α : Type} [Inhabited α] (enc : α → Value) (h1 : ∀ x, (enc x).oneCell' = true) (l l' : List α) (n : Nat) (hn : l.length = n) (hn' : l'.length = n)
    (hc : ∀ (blk cap : Nat) (w : World), Holds enc w blk 0 l.toArray → blk < w.heap.size → Calls P f #[.slice (some ⟨blk, 0, none⟩) n cap] w fun e w' => e = .returned (.tuple #[]) ∧ ∃ k os, w' = grow (putRow enc (Sort.ahead w k) blk 0 l'.toArray) os) :
    ACS P f E 1 n (l.map fun x => CV.v (enc x)) [] (l'.map fun x => CV.v (enc x)) (.tup []) := by
  intro ok w g cap us0 vs0 vs hng hb0 hc0 hone hncap hcap hlen hvs
  have hvs' : vs = [] := by simpa [RepCs] using hvs
  subst hvs'
  have hus : us0 = l.map enc := RepCs.of_plain (vs := l.map enc) (by rw [List.map_map]; exact hc0)
  subst hus
  have hgs := bN hb0
  have hH : Holds enc w g 0 l.toArray := fun j hj => by
    have hj' : j < l.length := by simpa using hj
    have e1 : (l.toArray)[j]! = l[j] := by
      rw [getElem!_pos _ j hj]; simp
    have e2 : (l.map enc ++ vs0)[0 + j]? = some (enc l[j]) := by
      rw [Nat.zero_add, List.getElem?_append_left (by simpa using hj')]
      simp [hj']
    constructor
    · unfold World.cell?
      rw [hb0]
      simp only [e1]
      simpa using e2
    · unfold World.frozen?
      rw [hb0]
      simp
  refine (hc g cap w hH hgs).mono ?_
  rintro e w' ⟨rfl, k, os, rfl⟩
  refine ⟨_, l'.map enc, vs0, rfl, ⟨rfl, rfl, rfl, ?_, fun b hb hbg => ?_⟩, ?_, ?_, ?_, ?_, fun C => ?_⟩
  · rw [size_grow]
    show w.heap.size ≤ (w.heap.modify g _).size + os.size
    rw [Array.size_modify]; omega
  · have hbg' : g ≠ b := fun e => hbg (by simp [e])
    rw [heap_grow_old _ _ (by show b < (w.heap.modify g _).size; rw [Array.size_modify]; exact hb)]
    show (w.heap.modify g _)[b]? = _
    rw [Array.getElem?_modify, if_neg hbg']
  · rw [heap_grow_old _ _ (by show g < (w.heap.modify g _).size; rw [Array.size_modify]; exact hgs)]
    show (w.heap.modify g _)[g]? = _
    rw [Array.getElem?_modify, if_pos rfl, hb0]
    simp only [Option.map_some, onCells]
    congr 2
    refine Array.ext_getElem? fun j => ?_
    simp only [putCells, Array.getElem?_mapIdx, List.getElem?_toArray, List.size_toArray, Nat.zero_le, true_and, Nat.zero_add, Nat.sub_zero]
    by_cases hj : j < n
    · rw [List.getElem?_append_left (by simp; omega), List.getElem?_append_left (by simp; omega)]
      have e1 : (l'.toArray)[j]! = l'[j]'(by omega) := by
        rw [getElem!_pos _ j (by simp; omega)]; simp
      have e2 : l[j]? = some (l[j]'(by omega)) := List.getElem?_eq_getElem _
      have e3 : l'[j]? = some (l'[j]'(by omega)) := List.getElem?_eq_getElem _
      rw [List.getElem?_map, List.getElem?_map, e2, e3]
      simp only [Option.map_some]
      rw [if_pos (by omega), e1]
    · rw [List.getElem?_append_right (by simp; omega), List.getElem?_append_right (by simp; omega)]
      simp only [List.length_map, hn, hn']
      cases vs0[j - n]? with
      | none => rfl
      | some x => simp only [Option.map_some]; rw [if_neg (by omega)]
  · simp only [List.length_map] at hlen ⊢
    omega
  · have := RepCs.plain (ok := okg ok w g) (w := grow (putRow enc (Sort.ahead w k) g 0 l'.toArray) os) (l'.map enc)
    rw [List.map_map] at this
    exact this
  · intro u hu
    obtain ⟨x, _, rfl⟩ := List.mem_map.1 hu
    exact h1 x
  · exact ⟨[], rfl, rfl⟩
end Go.Av
namespace Go.Proofs.YtccnhpaldmjkbaaGreat
open Go Go.RowKit Go.Av Go.Sort
end Go.Proofs.YtccnhpaldmjkbaaGreat
