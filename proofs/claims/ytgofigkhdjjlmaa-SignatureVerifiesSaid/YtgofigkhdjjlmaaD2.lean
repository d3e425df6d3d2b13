/-
  The permutation of the digest (walk), as the program and as the reference have it.
-/
import Derived.Test.YtgofigkhdjjlmaaD1
import Derived.Test.YtgofigkhdjjlmaaWK
import Derived.Test.YtgofigkhdjjlmaaAvV
import Derived.Test.YtgofigkhdjjlmaaAvT
set_option linter.unusedVariables false
set_option linter.unusedSimpArgs false
namespace Go.Proofs.Ytgofigkhdjjlmaa
open Go Go.RowKit Go.Av
set_option maxRecDepth 100000
attribute [local irreducible] Still Adds AWL AW Drw AC AWR Weak Frz Src RetK Out

/-- The five words. -/
structure S5 where
  a : BitVec 64
  b : BitVec 64
  c : BitVec 64
  d : BitVec 64
  e : BitVec 64
deriving DecidableEq
def S5.cs (s : S5) : List CV := [wv s.a, wv s.b, wv s.c, wv s.d, wv s.e]
/-- One round, with its constant. -/
def rnd (k : BitVec 64) (s : S5) : S5 :=
  let c := s.c ^^^ k
  let a := s.a ^^^ s.e
  let e := s.e ^^^ s.d
  let c := c ^^^ s.b
  let t0 := ~~~a &&& s.b
  let t1 := ~~~s.b &&& c
  let t2 := ~~~c &&& s.d
  let t3 := ~~~s.d &&& e
  let t4 := ~~~e &&& a
  let a := a ^^^ t1
  let b := s.b ^^^ t2
  let c := c ^^^ t3
  let d := s.d ^^^ t4
  let e := e ^^^ t0
  let b := b ^^^ a
  let a := a ^^^ e
  let d := d ^^^ c
  let c := ~~~c
  ⟨mix a 19 28, mix b 61 39, mix c 1 6, mix d 10 17, mix e 7 41⟩
def rk (r : Nat) : BitVec 64 := BitVec.ofInt 64 (240 - 15 * (r : Int))
def perm : Nat → S5 → S5
  | 0, s => s
  | r + 1, s => rnd (rk r) (perm r s)
def permute (s : S5) : S5 := perm 12 s

theorem rk_lt (r : Nat) : True := trivial
abbrev z5 : List CV := [.v (.int .u64 0), .v (.int .u64 0), .v (.int .u64 0), .v (.int .u64 0), .v (.int .u64 0)]
set_option maxHeartbeats 4000000 in
theorem permute_ok (s : S5) : AC Try.prog 30 [.agg s.cs] (.c (.agg (permute s).cs)) [] 0 := by
  refine ac_enter tabOk (sz := 139) Try.func30 rfl (by rw [Try.ntmps30]; rfl) ?_
  repeat' (first
    | ((with_reducible refine aw_seqk ?_); intro K hK hX)
    | ((with_reducible refine isC_reg ?_); refine aw_prune [0, 1, 2, 3, 4, 5] rfl rfl ?_; with_reducible refine aw_region ?_)
    | refine stA ?_
    | (refine hK _ _ _ _ ?_; clear hK hX K)
    | (refine hX _ _ _ _ _ (by simp) ?_; clear hK hX K))
  refine aw_loopk 2 (fun r : Nat => [(1, .ref 0 0), (2, .ref 1 0), (5, .c (iv r))]) (fun r => [(0, .row 30 (perm r s).cs), (1, .row 30 z5)]) [] (fun r => r ≤ 12) (fun r => 12 - r) 0 (by omega) weakA ?_
  intro r hr K hK hX
  by_cases hlt : r < 12
  · repeat' (first
    | ((with_reducible refine aw_seqk ?_); intro K hK hX)
    | ((with_reducible refine isC_reg ?_); refine aw_prune [0, 1, 2, 3, 4, 5] rfl rfl ?_; with_reducible refine aw_region ?_)
    | ((with_reducible refine isA_call ?_); (first | refine zA ?_ | refine zN ?_); (first | refine c0 (mixed_ok _ 19 28 (by decide) (by decide) (by decide) (by decide)) ?_ | refine c0 (mixed_ok _ 61 39 (by decide) (by decide) (by decide) (by decide)) ?_ | refine c0 (mixed_ok _ 1 6 (by decide) (by decide) (by decide) (by decide)) ?_ | refine c0 (mixed_ok _ 10 17 (by decide) (by decide) (by decide) (by decide)) ?_ | refine c0 (mixed_ok _ 7 41 (by decide) (by decide) (by decide) (by decide)) ?_))
    | refine stA ?_
    | (refine hK _ _ _ _ ?_; clear hK hX K)
    | (refine hX _ _ _ _ _ (by simp) ?_; clear hK hX K))
    exact ⟨r + 1, by omega, by omega, weakA⟩
  · repeat' (first
    | ((with_reducible refine aw_seqk ?_); intro K hK hX)
    | ((with_reducible refine isC_reg ?_); refine aw_prune [0, 1, 2, 3, 4, 5] rfl rfl ?_; with_reducible refine aw_region ?_)
    | refine stA ?_
    | (refine hK _ _ _ _ ?_; clear hK hX K)
    | (refine hX _ _ _ _ _ (by simp) ?_; clear hK hX K))
    obtain rfl : r = 12 := by omega
    refine retK_mk (by first | exact .inl rfl | exact .inr rfl) (by exact trivial) (ResL.one (by first | exact ResA.one rfl rfl rfl rfl rfl | exact ResA.agg rfl rfl rfl rfl rfl (by first | exact IsAgg.closed rfl rfl | exact IsAgg.mixed _) | exact ResA.aggr rfl rfl rfl rfl (by first | rfl | with_reducible assumption | (simp <;> fail) | omega | (simp; omega) | assumption))) (by first | exact out_c (by first | exact frz_c cv_rfl | exact frz_c cv_nil | exact frz_ownW rfl rfl (by first | rfl | with_reducible assumption | (simp <;> fail) | omega | (simp; omega) | assumption) | exact frz_eq (frz_c cv_rfl) (by first | rfl | (simp <;> fail) | fail)) | exact out_own rfl rfl)
end Go.Proofs.Ytgofigkhdjjlmaa
