/-
  The permutation of the digest (walk), as the reference has it.
-/
import Derived.Test.YtgofigkhdjjlmaaD2
import Derived.Test.YtgofigkhdjjlmaaWK
import Derived.Test.YtgofigkhdjjlmaaAvV
import Derived.Test.YtgofigkhdjjlmaaAvY
import Derived.Test.YtgofigkhdjjlmaaAvT
set_option linter.unusedVariables false
set_option linter.unusedSimpArgs false
namespace Go.Proofs.Ytgofigkhdjjlmaa
open Go Go.RowKit Go.Av
set_option maxRecDepth 100000

def S5.get (s : S5) : Nat → BitVec 64
  | 0 => s.a
  | 1 => s.b
  | 2 => s.c
  | 3 => s.d
  | _ => s.e
def S5.put (s : S5) (i : Nat) (x : BitVec 64) : S5 :=
  match i with
  | 0 => { s with a := x }
  | 1 => { s with b := x }
  | 2 => { s with c := x }
  | 3 => { s with d := x }
  | _ => { s with e := x }
theorem cs_get (s : S5) (i : Nat) (h : i < 5) : s.cs[0 + i * 1]? = some (wv (s.get i)) := by
  match i, h with
  | 0, _ => rfl
  | 1, _ => rfl
  | 2, _ => rfl
  | 3, _ => rfl
  | 4, _ => rfl
theorem cs_len (s : S5) (i : Nat) (h : i < 5) : 0 + i * 1 < s.cs.length := by show 0 + i * 1 < 5; omega
theorem cs_put (s : S5) (i : Nat) (x : BitVec 64) (h : i < 5) : s.cs.set (0 + i * 1) (wv x) = (s.put i x).cs := by
  match i, h with
  | 0, _ => rfl
  | 1, _ => rfl
  | 2, _ => rfl
  | 3, _ => rfl
  | 4, _ => rfl
def nx (i : Nat) : Nat := (i + 1) % 5
def lin (k : BitVec 64) (s : S5) : S5 := ⟨s.a ^^^ s.e, s.b, s.c ^^^ k ^^^ s.b, s.d, s.e ^^^ s.d⟩
def tk (s : S5) : Nat → S5
  | 0 => ⟨0, 0, 0, 0, 0⟩
  | i + 1 => (tk s i).put i (~~~(s.get i) &&& s.get (nx i))
def uk (s t : S5) : Nat → S5
  | 0 => s
  | i + 1 => (uk s t i).put i ((uk s t i).get i ^^^ t.get (nx i))
def lin2 (s : S5) : S5 := ⟨s.a ^^^ s.e, s.b ^^^ s.a, ~~~s.c, s.d ^^^ s.c, s.e⟩
def ra : Nat → Nat
  | 0 => 19
  | 1 => 61
  | 2 => 1
  | 3 => 10
  | _ => 7
def rb : Nat → Nat
  | 0 => 28
  | 1 => 39
  | 2 => 6
  | 3 => 17
  | _ => 41
theorem ra_ok (i : Nat) : 0 < ra i ∧ ra i < 64 := by unfold ra; split <;> decide
theorem rb_ok (i : Nat) : 0 < rb i ∧ rb i < 64 := by unfold rb; split <;> decide
theorem ra_get (i : Nat) (h : i < 5) : [iv 19, iv 61, iv 1, iv 10, iv 7][0 + i * 1]? = some (iv (ra i)) := by
  match i, h with
  | 0, _ => rfl
  | 1, _ => rfl
  | 2, _ => rfl
  | 3, _ => rfl
  | 4, _ => rfl
theorem rb_get (i : Nat) (h : i < 5) : [iv 28, iv 39, iv 6, iv 17, iv 41][0 + i * 1]? = some (iv (rb i)) := by
  match i, h with
  | 0, _ => rfl
  | 1, _ => rfl
  | 2, _ => rfl
  | 3, _ => rfl
  | 4, _ => rfl
def mk (s : S5) : Nat → S5
  | 0 => s
  | i + 1 => (mk s i).put i ((mk s i).get i ^^^ rotr ((mk s i).get i) (ra i) ^^^ rotr ((mk s i).get i) (rb i))
theorem rnd_eq (k : BitVec 64) (s : S5) : mk (lin2 (uk (lin k s) (tk (lin k s) 5) 5)) 5 = rnd k s := by
  cases s
  rfl

attribute [local irreducible] Still Adds AWL AW Drw AC AWR Weak Frz Src RetK Out
abbrev ri : List CV := [iv 19, iv 61, iv 1, iv 10, iv 7]
abbrev rj : List CV := [iv 28, iv 39, iv 6, iv 17, iv 41]
set_option maxHeartbeats 4000000 in
theorem rpermute_ok (s : S5) : AC Try.prog 31 [.agg s.cs] (.c (.agg (permute s).cs)) [] 0 := by
  refine ac_enter tabOk (sz := 121) Try.func31 rfl (by rw [Try.ntmps31]; rfl) ?_
  repeat' (first
    | ((with_reducible refine aw_seqk ?_); intro K hK hX)
    | ((with_reducible refine isC_reg ?_); refine aw_prune [0, 1, 2, 3, 4, 5, 6, 7, 8, 9] rfl rfl ?_; with_reducible refine aw_region ?_)
    | ((with_reducible refine isC_draw ?_); refine aw_prune [0, 1, 2, 3, 4, 5, 6, 7, 8, 9] rfl rfl ?_; refine aw_drwF [] ?_)
    | refine stA ?_
    | refine stD ?_
    | (refine hK _ _ _ _ ?_; clear hK hX K)
    | (refine hX _ _ _ _ _ (by simp) ?_; clear hK hX K))
  refine aw_loopk 2 (fun r : Nat => [(1, .ref 0 0), (2, .ref 1 0), (3, .c (iv r))]) (fun r => [(0, .row 30 (perm r s).cs), (1, .row 30 z5)]) [] (fun r => r ≤ 12) (fun r => 12 - r) 0 (by omega) weakA ?_
  intro r hr K hK hX
  by_cases hlt : r < 12
  · repeat' (first
    | ((with_reducible refine aw_seqk ?_); intro K hK hX)
    | ((with_reducible refine isC_reg ?_); refine aw_prune [0, 1, 2, 3, 4, 5, 6, 7, 8, 9] rfl rfl ?_; with_reducible refine aw_region ?_)
    | ((with_reducible refine isC_draw ?_); refine aw_prune [0, 1, 2, 3, 4, 5, 6, 7, 8, 9] rfl rfl ?_; refine aw_drwF [] ?_)
    | refine stA ?_
    | refine stD ?_
    | (refine hK _ _ _ _ ?_; clear hK hX K)
    | (refine hX _ _ _ _ _ (by simp) ?_; clear hK hX K))
    refine aw_loopk 3 (fun i : Nat => [(1, .ref 0 0), (2, .ref 1 0), (3, .c (iv r)), (4, .ref 2 0), (5, .c (iv i))]) (fun i => [(0, .row 30 (lin (rk r) (perm r s)).cs), (1, .row 30 z5), (2, .row 30 (tk (lin (rk r) (perm r s)) i).cs)]) [] (fun i => i ≤ 5) (fun i => 5 - i) 0 (by omega) weakA ?_
    intro i hi K hK hX
    by_cases hlt : i < 5
    · repeat' (first
    | ((with_reducible refine aw_seqk ?_); intro K hK hX)
    | ((with_reducible refine isC_reg ?_); refine aw_prune [0, 1, 2, 3, 4, 5, 6, 7, 8, 9] rfl rfl ?_; with_reducible refine aw_region ?_)
    | ((with_reducible refine isC_draw ?_); refine aw_prune [0, 1, 2, 3, 4, 5, 6, 7, 8, 9] rfl rfl ?_; refine aw_drwF [] ?_)
    | ((first | ((with_reducible refine isA_any ?_); refine xA ?_) | ((with_reducible refine isDk_any ?_); refine xD ?_)); (first | ((with_reducible refine e_load ?_); (first | refine ex_i (s_load1 tabOk rfl rfl rfl rfl (by first | exact cs_get _ _ (by omega) | exact cs_get _ _ (Nat.mod_lt _ (by decide)))) ?_ | refine ex_i (s_load1r tabOk rfl rfl rfl rfl (by first | exact cs_get _ _ (by omega) | exact cs_get _ _ (Nat.mod_lt _ (by decide)))) ?_ | refine ex_i (s_load1i tabOk rfl rfl rfl (by first | exact cs_get _ _ (by omega) | exact cs_get _ _ (Nat.mod_lt _ (by decide)))) ?_)) | ((with_reducible refine e_ix ?_); (first | refine ex_i (s_ixV1 tabOk rfl rfl (by first | with_reducible exact cast_self _ | with_reducible exact cast_lit _ | exact nt (by omega) | rfl) rfl rfl rfl rfl rfl (by first | exact Nat.le_of_ble_eq_true rfl | omega | (simp; omega)) (by first | exact cs_get _ _ (by omega) | exact cs_get _ _ (Nat.mod_lt _ (by decide)))) ?_ | refine ex_i (s_ixStr tabOk rfl rfl (by first | with_reducible exact cast_self _ | with_reducible exact cast_lit _ | exact nt (by omega) | rfl) rfl rfl (by first | exact cs_get _ _ (by omega) | exact cs_get _ _ (Nat.mod_lt _ (by decide)))) ?_))))
    | ((with_reducible refine isA_store ?_); (refine awl_store1r tabOk g_none rfl rfl rfl rfl rfl rfl (by first | exact cs_len _ _ (by omega) | exact Nat.le_of_ble_eq_true rfl | omega | (simp; omega)) ?_))
    | refine stA ?_
    | refine stD ?_
    | (refine hK _ _ _ _ ?_; clear hK hX K)
    | (refine hX _ _ _ _ _ (by simp) ?_; clear hK hX K))
      exact ⟨i + 1, by omega, by omega, (by refine weak_mk rfl ?_ ?_ rfl <;> (repeat' (first | exact weakE_nil | exact weakH_nil | refine weakE_cons rfl (by first | rfl | (rw [cs_put _ _ _ hlt]; rfl) | exact own_eq rfl rfl (by omega) | exact int_eq (by omega) | (simp <;> fail) | (congr 4; omega) | (congr 3; omega) | (congr 2; omega)) rfl ?_ | refine weakH_cons rfl (by first | rfl | (rw [cs_put _ _ _ hlt]; rfl) | exact own_eq rfl rfl (by omega) | exact int_eq (by omega) | (simp <;> fail) | (congr 4; omega) | (congr 3; omega) | (congr 2; omega)) rfl ?_)))⟩
    · obtain rfl : i = 5 := by omega
      repeat' (first
    | ((with_reducible refine aw_seqk ?_); intro K hK hX)
    | ((with_reducible refine isC_reg ?_); refine aw_prune [0, 1, 2, 3, 4, 5, 6, 7, 8, 9] rfl rfl ?_; with_reducible refine aw_region ?_)
    | ((with_reducible refine isC_draw ?_); refine aw_prune [0, 1, 2, 3, 4, 5, 6, 7, 8, 9] rfl rfl ?_; refine aw_drwF [] ?_)
    | refine stA ?_
    | refine stD ?_
    | (refine hK _ _ _ _ ?_; clear hK hX K)
    | (refine hX _ _ _ _ _ (by simp) ?_; clear hK hX K))
      generalize hA0 : lin (rk r) (perm r s) = A
      generalize hT : tk A 5 = T
      refine aw_loopk 3 (fun i : Nat => [(1, .ref 0 0), (2, .ref 1 0), (3, .c (iv r)), (4, .ref 2 0), (6, .c (iv i))]) (fun i => [(0, .row 30 (uk A T i).cs), (1, .row 30 z5), (2, .row 30 T.cs)]) [] (fun i => i ≤ 5) (fun i => 5 - i) 0 (by omega) weakA ?_
      intro i hi K hK hX
      by_cases hlt : i < 5
      · repeat' (first
    | ((with_reducible refine aw_seqk ?_); intro K hK hX)
    | ((with_reducible refine isC_reg ?_); refine aw_prune [0, 1, 2, 3, 4, 5, 6, 7, 8, 9] rfl rfl ?_; with_reducible refine aw_region ?_)
    | ((with_reducible refine isC_draw ?_); refine aw_prune [0, 1, 2, 3, 4, 5, 6, 7, 8, 9] rfl rfl ?_; refine aw_drwF [] ?_)
    | ((first | ((with_reducible refine isA_any ?_); refine xA ?_) | ((with_reducible refine isDk_any ?_); refine xD ?_)); (first | ((with_reducible refine e_load ?_); (first | refine ex_i (s_load1 tabOk rfl rfl rfl rfl (by first | exact cs_get _ _ (by omega) | exact cs_get _ _ (Nat.mod_lt _ (by decide)))) ?_ | refine ex_i (s_load1r tabOk rfl rfl rfl rfl (by first | exact cs_get _ _ (by omega) | exact cs_get _ _ (Nat.mod_lt _ (by decide)))) ?_ | refine ex_i (s_load1i tabOk rfl rfl rfl (by first | exact cs_get _ _ (by omega) | exact cs_get _ _ (Nat.mod_lt _ (by decide)))) ?_)) | ((with_reducible refine e_ix ?_); (first | refine ex_i (s_ixV1 tabOk rfl rfl (by first | with_reducible exact cast_self _ | with_reducible exact cast_lit _ | exact nt (by omega) | rfl) rfl rfl rfl rfl rfl (by first | exact Nat.le_of_ble_eq_true rfl | omega | (simp; omega)) (by first | exact cs_get _ _ (by omega) | exact cs_get _ _ (Nat.mod_lt _ (by decide)))) ?_ | refine ex_i (s_ixStr tabOk rfl rfl (by first | with_reducible exact cast_self _ | with_reducible exact cast_lit _ | exact nt (by omega) | rfl) rfl rfl (by first | exact cs_get _ _ (by omega) | exact cs_get _ _ (Nat.mod_lt _ (by decide)))) ?_))))
    | ((with_reducible refine isA_store ?_); (refine awl_store1r tabOk g_none rfl rfl rfl rfl rfl rfl (by first | exact cs_len _ _ (by omega) | exact Nat.le_of_ble_eq_true rfl | omega | (simp; omega)) ?_))
    | refine stA ?_
    | refine stD ?_
    | (refine hK _ _ _ _ ?_; clear hK hX K)
    | (refine hX _ _ _ _ _ (by simp) ?_; clear hK hX K))
        exact ⟨i + 1, by omega, by omega, (by refine weak_mk rfl ?_ ?_ rfl <;> (repeat' (first | exact weakE_nil | exact weakH_nil | refine weakE_cons rfl (by first | rfl | (rw [cs_put _ _ _ hlt]; rfl) | exact own_eq rfl rfl (by omega) | exact int_eq (by omega) | (simp <;> fail) | (congr 4; omega) | (congr 3; omega) | (congr 2; omega)) rfl ?_ | refine weakH_cons rfl (by first | rfl | (rw [cs_put _ _ _ hlt]; rfl) | exact own_eq rfl rfl (by omega) | exact int_eq (by omega) | (simp <;> fail) | (congr 4; omega) | (congr 3; omega) | (congr 2; omega)) rfl ?_)))⟩
      · obtain rfl : i = 5 := by omega
        repeat' (first
    | ((with_reducible refine aw_seqk ?_); intro K hK hX)
    | ((with_reducible refine isC_reg ?_); refine aw_prune [0, 1, 2, 3, 4, 5, 6, 7, 8, 9] rfl rfl ?_; with_reducible refine aw_region ?_)
    | ((with_reducible refine isC_draw ?_); refine aw_prune [0, 1, 2, 3, 4, 5, 6, 7, 8, 9] rfl rfl ?_; refine aw_drwF [] ?_)
    | refine stA ?_
    | refine stD ?_
    | (refine hK _ _ _ _ ?_; clear hK hX K)
    | (refine hX _ _ _ _ _ (by simp) ?_; clear hK hX K))
        generalize hA : uk A T 5 = A2
        refine aw_loopk 5 (fun i : Nat => [(1, .ref 0 0), (2, .ref 1 0), (3, .c (iv r)), (7, .ref 3 0), (8, .ref 4 0), (9, .c (iv i))]) (fun i => [(0, .row 30 (mk (lin2 A2) i).cs), (1, .row 30 z5), (3, .row 79 ri), (4, .row 79 rj)]) [] (fun i => i ≤ 5) (fun i => 5 - i) 0 (by omega) weakA ?_
        intro i hi K hK hX
        by_cases hlt : i < 5
        · repeat' (first
    | ((with_reducible refine aw_seqk ?_); intro K hK hX)
    | ((with_reducible refine isC_reg ?_); refine aw_prune [0, 1, 2, 3, 4, 5, 6, 7, 8, 9] rfl rfl ?_; with_reducible refine aw_region ?_)
    | ((with_reducible refine isC_draw ?_); refine aw_prune [0, 1, 2, 3, 4, 5, 6, 7, 8, 9] rfl rfl ?_; refine aw_drwF [] ?_)
    | ((first | with_reducible refine isA_call ?_ | with_reducible refine isD_call ?_); (first | refine zA ?_ | refine zN ?_ | refine zD ?_); (first | refine c0 (rotate_ok _ (ra i) (ra_ok i).1 (ra_ok i).2) ?_ | refine c0 (rotate_ok _ (rb i) (rb_ok i).1 (rb_ok i).2) ?_))
    | ((first | ((with_reducible refine isA_any ?_); refine xA ?_) | ((with_reducible refine isDk_any ?_); refine xD ?_)); (first | ((with_reducible refine e_load ?_); (first | refine ex_i (s_load1 tabOk rfl rfl rfl rfl (by first | exact cs_get _ _ (by omega) | exact ra_get _ (by omega) | exact rb_get _ (by omega))) ?_ | refine ex_i (s_load1r tabOk rfl rfl rfl rfl (by first | exact cs_get _ _ (by omega) | exact ra_get _ (by omega) | exact rb_get _ (by omega))) ?_ | refine ex_i (s_load1i tabOk rfl rfl rfl (by first | exact cs_get _ _ (by omega) | exact ra_get _ (by omega) | exact rb_get _ (by omega))) ?_)) | ((with_reducible refine e_ix ?_); (first | refine ex_i (s_ixV1 tabOk rfl rfl (by first | with_reducible exact cast_self _ | with_reducible exact cast_lit _ | exact nt (by omega) | rfl) rfl rfl rfl rfl rfl (by first | exact Nat.le_of_ble_eq_true rfl | omega | (simp; omega)) (by first | exact cs_get _ _ (by omega) | exact ra_get _ (by omega) | exact rb_get _ (by omega))) ?_ | refine ex_i (s_ixStr tabOk rfl rfl (by first | with_reducible exact cast_self _ | with_reducible exact cast_lit _ | exact nt (by omega) | rfl) rfl rfl (by first | exact cs_get _ _ (by omega) | exact ra_get _ (by omega) | exact rb_get _ (by omega))) ?_))))
    | ((with_reducible refine isA_store ?_); (refine awl_store1r tabOk g_none rfl rfl rfl rfl rfl rfl (by first | exact cs_len _ _ (by omega) | exact Nat.le_of_ble_eq_true rfl | omega | (simp; omega)) ?_))
    | refine stA ?_
    | refine stD ?_
    | (refine hK _ _ _ _ ?_; clear hK hX K)
    | (refine hX _ _ _ _ _ (by simp) ?_; clear hK hX K))
          exact ⟨i + 1, by omega, by omega, (by refine weak_mk rfl ?_ ?_ rfl <;> (repeat' (first | exact weakE_nil | exact weakH_nil | refine weakE_cons rfl (by first | rfl | (rw [cs_put _ _ _ hlt]; rfl) | exact own_eq rfl rfl (by omega) | exact int_eq (by omega) | (simp <;> fail) | (congr 4; omega) | (congr 3; omega) | (congr 2; omega)) rfl ?_ | refine weakH_cons rfl (by first | rfl | (rw [cs_put _ _ _ hlt]; rfl) | exact own_eq rfl rfl (by omega) | exact int_eq (by omega) | (simp <;> fail) | (congr 4; omega) | (congr 3; omega) | (congr 2; omega)) rfl ?_)))⟩
        · obtain rfl : i = 5 := by omega
          repeat' (first
    | ((with_reducible refine aw_seqk ?_); intro K hK hX)
    | ((with_reducible refine isC_reg ?_); refine aw_prune [0, 1, 2, 3, 4, 5, 6, 7, 8, 9] rfl rfl ?_; with_reducible refine aw_region ?_)
    | ((with_reducible refine isC_draw ?_); refine aw_prune [0, 1, 2, 3, 4, 5, 6, 7, 8, 9] rfl rfl ?_; refine aw_drwF [] ?_)
    | refine stA ?_
    | refine stD ?_
    | (refine hK _ _ _ _ ?_; clear hK hX K)
    | (refine hX _ _ _ _ _ (by simp) ?_; clear hK hX K))
          subst hA hT hA0
          exact ⟨r + 1, by omega, by omega, (by refine weak_mk rfl ?_ ?_ rfl <;> (repeat' (first | exact weakE_nil | exact weakH_nil | refine weakE_cons rfl (by first | rfl | (rw [rnd_eq]; rfl) | exact own_eq rfl rfl (by omega) | exact int_eq (by omega) | (simp <;> fail) | (congr 4; omega) | (congr 3; omega) | (congr 2; omega)) rfl ?_ | refine weakH_cons rfl (by first | rfl | (rw [rnd_eq]; rfl) | exact own_eq rfl rfl (by omega) | exact int_eq (by omega) | (simp <;> fail) | (congr 4; omega) | (congr 3; omega) | (congr 2; omega)) rfl ?_)))⟩
  · repeat' (first
    | ((with_reducible refine aw_seqk ?_); intro K hK hX)
    | ((with_reducible refine isC_reg ?_); refine aw_prune [0, 1, 2, 3, 4, 5, 6, 7, 8, 9] rfl rfl ?_; with_reducible refine aw_region ?_)
    | ((with_reducible refine isC_draw ?_); refine aw_prune [0, 1, 2, 3, 4, 5, 6, 7, 8, 9] rfl rfl ?_; refine aw_drwF [] ?_)
    | refine stA ?_
    | refine stD ?_
    | (refine hK _ _ _ _ ?_; clear hK hX K)
    | (refine hX _ _ _ _ _ (by simp) ?_; clear hK hX K))
    obtain rfl : r = 12 := by omega
    refine retK_mk (by first | exact .inl rfl | exact .inr rfl) (by exact trivial) (ResL.one (by first | exact ResA.one rfl rfl rfl rfl rfl | exact ResA.agg rfl rfl rfl rfl rfl (by first | exact IsAgg.closed rfl rfl | exact IsAgg.mixed _) | exact ResA.aggr rfl rfl rfl rfl (by first | rfl | with_reducible assumption | (simp <;> fail) | omega | (simp; omega) | assumption))) (by first | exact out_c (by first | exact frz_c cv_rfl | exact frz_c cv_nil | exact frz_ownW rfl rfl (by first | rfl | with_reducible assumption | (simp <;> fail) | omega | (simp; omega) | assumption) | exact frz_eq (frz_c cv_rfl) (by first | rfl | (simp <;> fail) | fail)) | exact out_own rfl rfl)
end Go.Proofs.Ytgofigkhdjjlmaa
