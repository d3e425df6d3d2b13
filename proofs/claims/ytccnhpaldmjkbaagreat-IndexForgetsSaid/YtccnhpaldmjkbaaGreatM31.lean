/-
  Joined texts: T15 IY T16. Lemmas; no statement of a law.
-/
import Derived.Test.YtccnhpaldmjkbaaGreatM11
import Derived.Test.YtccnhpaldmjkbaaGreatM12
import Derived.Test.YtccnhpaldmjkbaaGreatM23
set_option linter.unusedSimpArgs false
set_option linter.unusedVariables false
/-
  Sorting and adding up entries, with a row of the call's own (walk).
-/
namespace Go.Proofs.YtccnhpaldmjkbaaGreat
open Go Go.RowKit Go.Av
set_option maxRecDepth 100000
attribute [local irreducible] Still Adds AWL AW Drw DrwE EStep AC AWR Weak Frz Src RetK Out InK ItK AsK RdK RetT OutT ACT
end Go.Proofs.YtccnhpaldmjkbaaGreat
/-
  An index follows its bag (plain): the postings of a sum of bags are the sum of the postings.
-/
namespace Go.Proofs.YtccnhpaldmjkbaaGreat
open Go Go.RowKit Go.Av
set_option maxRecDepth 100000
/-- What all postings of a row add up to. -/
def wdG (g : List Vl → Int) (col : Nat) (r : List Vl) : Int := ((wdsE col r).map fun w => g (⟨2, 0, w⟩ :: r)).sum
theorem map_sum_mul (n : Int) (f : Wd → Int) : ∀ l : List Wd, (l.map fun w => n * f w).sum = n * (l.map f).sum
  | [] => by simp
  | x :: l => by rw [List.map_cons, List.sum_cons, map_sum_mul n f l, List.map_cons, List.sum_cons, Int.mul_add]
theorem prs_wsum (g : List Vl → Int) (col : Nat) : ∀ b : List En, wsum g (((prs col b).map mkPo).map Po.e) = wsum (wdG g col) b
  | [] => rfl
  | e :: b => by
    rw [prs_cons, List.map_append, List.map_append, wsum_app, prs_wsum g col b, wsum_cons]
    congr 1
    unfold wsum wdG
    rw [List.map_map, List.map_map, List.map_map, ← map_sum_mul]
    rfl
/-- The postings of a sum. -/
theorem post_merge {col : Nat} {b d : List En} (hb : GoodE b) (hd : GoodE d) : mergeP (postP (prs col b)) (postP (prs col d)) = postP (prs col (mergeE b d)) := by
  have h1 := postP_good (col := col) hb
  have h2 := postP_good (col := col) hd
  have h3 := postP_good (col := col) (hb.merge hd)
  refine map_e_inj (GoodE.uniq ?_ h3 fun g => ?_)
  · rw [mergeP_e _ _ (postP_words hb.ok) (postP_words hd.ok)]; exact h1.merge h2
  · rw [mergeP_e _ _ (postP_words hb.ok) (postP_words hd.ok), mergeE_wsum g _ _ h1.ok h2.ok, postP_wsum, postP_wsum, postP_wsum, prs_wsum, prs_wsum, prs_wsum, mergeE_wsum _ _ _ hb.ok hd.ok]
/-- A bag of small counts of any sign. -/
structure BagS (M : Nat) (b : List En) : Prop where
  srt : srtE b
  nz : ∀ e ∈ b, e.n ≠ 0
  row : ∀ e ∈ b, rowP e.r
  abs : absS b ≤ M
  len : b.length ≤ M
theorem BagS.good {M : Nat} {b : List En} (h : BagS M b) : GoodE b := ⟨h.srt, fun e he v hv => (h.row e he).2 v hv, h.nz⟩
theorem BagS.fit {M : Nat} {b : List En} (h : BagS M b) : fitB b := fun e he => by have := (h.row e he).1; simp only [maxLen]; omega
theorem BagS.bagP {M : Nat} {b : List En} (h : BagS M b) (hM : M ≤ 4096) : bagP b := by
  refine ⟨Nat.le_trans h.len hM, fun i hi e he => ?_⟩
  have hm := List.mem_of_getElem? he
  have h1 := absS_mem hm
  have h2 := h.abs
  refine ⟨⟨by omega, by omega, h.row e hm⟩, h.nz e hm, fun f hi0 hf => ?_⟩
  obtain ⟨h4, h5⟩ := List.getElem?_eq_some_iff.1 he
  obtain ⟨h6, h7⟩ := List.getElem?_eq_some_iff.1 hf
  have := List.pairwise_iff_getElem.1 h.srt (i - 1) i h6 h4 (by omega)
  rw [h5, h7] at this
  exact this
theorem abs_len : ∀ {b : List En}, (∀ e ∈ b, e.n ≠ 0) → b.length ≤ absS b
  | [], _ => Nat.zero_le _
  | e :: b, h => by
    have h1 := abs_len (b := b) fun f hf => h f (by simp [hf])
    have h2 := h e (by simp)
    rw [absS_cons, List.length_cons]; omega
theorem BagS.sort {M : Nat} {l : List En} (h2 : ∀ e ∈ l, rowP e.r) (h3 : absS l ≤ M) : BagS M (sortE l) := by
  obtain ⟨_, f2, f3⟩ := sortE_facts l.length l (Nat.le_refl _)
  have hz := sortE_all (fun e => e.n ≠ 0) (fun e f h1 h2 _ h => h) l.length l (Nat.le_refl _) (fun e he h0 => h0)
  exact ⟨sortE_srt l, hz, f3 rowP h2, by omega, Nat.le_trans (abs_len hz) (by omega)⟩
theorem BagF.toS {M : Nat} {b : List En} (h : BagF M b) : BagS M b := ⟨h.srt, fun e he => by have := h.pos e he; omega, h.row, h.abs, h.len⟩
/-- A change that takes no more than there is: nothing negative is left. -/
theorem fit_pos {M N : Nat} {b d : List En} (hb : BagF M b) (hd : BagS N d) (h : ∀ e ∈ mergeE b d, 0 ≤ wsum (ind e.r) b + wsum (ind e.r) d) : BagF (M + N) (mergeE b d) := by
  have hg := hb.toS.good.merge hd.good
  have h1 := mergeE_abs b d
  have h2 := hb.abs
  have h3 := hd.abs
  refine ⟨hg.srt, fun e he => ?_, mergeE_rows _ _ rowP hb.row hd.row, by omega⟩
  have h4 := wsum_ind hg.srt he
  rw [mergeE_wsum _ _ _ hb.ok hd.good.ok] at h4
  have := h e he
  have := hg.nz e he
  omega
section tape
/-- The removals of a change: of some entries of the bag, some of their count. -/
def fitStep (l : List Int) (n : Nat) (s : List En × Int) (e : En) : List En × Int :=
  if nextX l n s.2 3 = 0 then (s.1 ++ [⟨e.r, -(1 + nextX l n (nextA n s.2 3) e.n)⟩], nextA n (nextA n s.2 3) e.n) else (s.1, nextA n s.2 3)
def fitS (l : List Int) (n : Nat) (s : List En × Int) (b : List En) (i : Nat) : List En × Int := (b.take i).foldl (fitStep l n) s
theorem nextX_one (l : List Int) (n : Nat) (a m : Int) (hm : 1 ≤ m) (hm2 : m ≤ 4294967296) : 0 ≤ nextX l n a m ∧ nextX l n a m < m := by
  by_cases h : m = 1
  · subst h
    unfold nextX
    rw [if_pos (.inl (by decide))]
    decide
  · exact nextX_bd l n a m (by omega) hm2
theorem ind_nn (r s : List Vl) : 0 ≤ ind r s ∧ ind r s ≤ (1 : Nat) := by unfold ind; split <;> decide
end tape
end Go.Proofs.YtccnhpaldmjkbaaGreat
/-
  Tape.Fitting (walk).
-/
namespace Go.Proofs.YtccnhpaldmjkbaaGreat
open Go Go.RowKit Go.Av
set_option maxRecDepth 100000
attribute [local irreducible] Still Adds AWL AW Drw DrwE EStep AC AWR Weak Frz Src RetK Out InK ItK AsK RdK RetT OutT ACT
end Go.Proofs.YtccnhpaldmjkbaaGreat
