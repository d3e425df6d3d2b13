/-
  Joined texts: JN. Lemmas; no statement of a law.
-/
import Derived.Test.YtccnhpaldmjkbaaGreatM37
import Derived.Test.YtccnhpaldmjkbaaGreatM38
set_option linter.unusedSimpArgs false
set_option linter.unusedVariables false
/-
  Changes of both compared, for any postings, change and column (walk).
-/
namespace Go.Proofs.YtccnhpaldmjkbaaGreat
open Go Go.RowKit Go.Av
set_option maxRecDepth 100000
theorem mergeP_mem (a b : List Po) : ∀ z ∈ mergeP a b, (∃ x ∈ a, x.n = z.n ∧ x.r = z.r) ∨ (∃ y ∈ b, y.n = z.n ∧ y.r = z.r) ∨ ∃ x ∈ a, ∃ y ∈ b, x.n + y.n = z.n ∧ x.r = z.r := by
  induction a, b using mergeP.induct with
  | case1 b => rw [hY]; exact fun z hz => .inr (.inl ⟨z, hz, rfl, rfl⟩)
  | case2 a at1 => rw [iL]; exact fun z hz => .inl ⟨z, hz, rfl, rfl⟩
  | case3 a at1 b bt1 h ih =>
    rw [mergeP, if_pos h]
    intro z hz
    rcases List.mem_cons.1 hz with rfl | hz
    · exact .inl ⟨z, by simp, rfl, rfl⟩
    · rcases ih z hz with ⟨x, h1, h2⟩ | h1 | ⟨x, h1, h2⟩
      · exact .inl ⟨x, by simp [h1], h2⟩
      · exact .inr (.inl h1)
      · exact .inr (.inr ⟨x, by simp [h1], h2⟩)
  | case4 a at1 b bt1 h h2 ih =>
    rw [mergeP, if_neg h, if_pos h2]
    intro z hz
    rcases List.mem_cons.1 hz with rfl | hz
    · exact .inr (.inl ⟨z, by simp, rfl, rfl⟩)
    · rcases ih z hz with h1 | ⟨y, h1, h2⟩ | ⟨x, h1, y, h2, h3⟩
      · exact .inl h1
      · exact .inr (.inl ⟨y, by simp [h1], h2⟩)
      · exact .inr (.inr ⟨x, h1, y, by simp [h2], h3⟩)
  | case5 a at1 b bt1 h h2 h3 ih =>
    rw [mergeP, if_neg h, if_neg h2, if_pos h3]
    intro z hz
    rcases List.mem_cons.1 hz with rfl | hz
    · exact .inr (.inr ⟨a, by simp, b, by simp, rfl, rfl⟩)
    · rcases ih z hz with ⟨x, h1, h2⟩ | ⟨y, h1, h2⟩ | ⟨x, h1, y, h2, h3⟩
      · exact .inl ⟨x, by simp [h1], h2⟩
      · exact .inr (.inl ⟨y, by simp [h1], h2⟩)
      · exact .inr (.inr ⟨x, by simp [h1], y, by simp [h2], h3⟩)
  | case6 a at1 b bt1 h h2 h3 ih =>
    rw [mergeP, if_neg h, if_neg h2, if_neg h3]
    intro z hz
    rcases ih z hz with ⟨x, h1, h2⟩ | ⟨y, h1, h2⟩ | ⟨x, h1, y, h2, h3⟩
    · exact .inl ⟨x, by simp [h1], h2⟩
    · exact .inr (.inl ⟨y, by simp [h1], h2⟩)
    · exact .inr (.inr ⟨x, by simp [h1], y, by simp [h2], h3⟩)
theorem chg_bd {p : List Po} {d : List En} {col : Nat} (hv : valP p) (hd : bagP d) : ∀ z ∈ mergeP p (postP (prs col d)), (-4000000000000000000 ≤ z.n ∧ z.n ≤ 4000000000000000000) ∧ z.r.length ≤ 1000000 := fun z hz => by
  have h1 := jT hv
  have h2 := jO hd col
  rcases mergeP_mem p _ z hz with ⟨x, a, b, c⟩ | ⟨x, a, b, c⟩ | ⟨x, a, y, a', b, c⟩
  · have := h1 x a
    rw [← c]; omega
  · have := h2 x a
    rw [← c]; omega
  · have := h1 x a
    have := h2 y a'
    rw [← c]; omega
attribute [local irreducible] Still Adds AWL AW Drw DrwE EStep AC AWR Weak Frz Src RetK Out InK ItK AsK RdK RetT OutT ACT
set_option maxHeartbeats 8000000 in
theorem jJ (Q E R : List CV) (n m M : Nat) (col e : Int) (hR : R.length = M * 3) (h1 : AC Tryz.prog 41 [.sl 3 n Q, .sl 2 m E, iv col] (.tup [.c (.sl 3 M R), .c (iv e)]) [] 0) (h2 : AC Tryz.prog 47 [.sl 3 n Q, .sl 2 m E, iv col] (.tup [.c (.sl 3 M R), .c (iv e)]) [] 0)
    (h3 : AC Tryz.prog 48 [.sl 3 M R, .sl 3 M R] (.c (bv true)) [] 0) : AC Tryz.prog 13 [.sl 3 n Q, .sl 2 m E, iv col] (.c (bv true)) [] 0 := by
  refine aJ tabOk (sz := 33) Tryz.func13 rfl (by rw [Tryz.ntmps13]; rfl) ?_
  repeat' (first | ((with_reducible refine aD ?_); intro K hK hX) | ((with_reducible refine aE ?_); refine aA [0, 1, 2, 6, 7, 8, 9, 10] rfl rfl ?_; with_reducible refine aB ?_) | ((with_reducible refine aF ?_); (first | refine zA ?_ | refine zN ?_); (first | refine c0 (h1) ?_ | refine c0 (h2) ?_ | refine c0 (h3) ?_)) | refine stA ?_ | ((first | refine hK _ _ _ _ ?_ | refine hX _ _ _ _ _ (by simp) ?_); clear hK hX K))
  refine aK zio ztr rfl (ResL.one (ResA.tmp rfl)) zou
open Classical in
theorem gV (p : List Po) (d : List En) (n m : Nat) (col : Int) (hn : p.length = n) (hm : d.length = m) (hn2 : n ≤ 200000) (hm2 : m ≤ 200000) (hfp : fitP p) (hfd : fitB d) (hc : col ≤ 9223372036854775807) : AC Tryz.prog 13 [.sl 3 n (pc p), .sl 2 m (ec d), iv col] (.c (bv true)) [] 0 := by
  have hp1 : ∀ x ∈ p, x.r.length ≤ maxLen ∧ x.w.length ≤ maxLen := fun x hx => by have := hfp x hx; simp only [maxLen]; omega
  have hp2 : ∀ x ∈ p, x.r.length ≤ maxLen ∧ x.w.length ≤ 1000000 := fun x hx => by have := hfp x hx; simp only [maxLen]; omega
  have h0 := qG [] 0 rfl (by omega) (fun x hx => by cases hx)
  have hpc : pc [] = [] := rfl
  rw [hpc] at h0
  by_cases hbad : ¬ (valP p ∧ bagP d) ∨ col < 0
  · have h2 := rchange_bad p d n m col hn hm (by simp only [maxLen]; omega) (by simp only [maxLen]; omega) hp2 hfd hbad
    refine jJ _ _ _ n m 0 col 1 rfl ?_ h2 h0
    by_cases h0 : col < 0
    · exact ichange_col p d n m col hn hm h0
    · obtain ⟨k, rfl⟩ : ∃ k : Nat, col = k := ⟨col.toNat, by omega⟩
      exact ichange_bad p d n m k hn hm (by simp only [maxLen]; omega) (by simp only [maxLen]; omega) hp1 hfd hc (hbad.elim id fun h => absurd h h0)
  · have hcol : ¬ col < 0 := fun h => hbad (.inr h)
    have hvd : valP p ∧ bagP d := Classical.byContradiction fun h => hbad (.inl h)
    obtain ⟨hv, hd⟩ := hvd
    obtain ⟨k, rfl⟩ : ∃ k : Nat, col = k := ⟨col.toNat, by omega⟩
    have hbd := chg_bd (col := k) hv hd
    by_cases hneg : ∃ x ∈ mergeP p (postP (prs k d)), x.n < 0
    · exact jJ _ _ _ n m 0 k 11 rfl (ichange_neg p d n m k hn hm (by omega) hv hd hfd hc (fun x hx => (hbd x hx).1) hneg) (rchange_neg p d n m k hn hm (by omega) hv hd hfd hc hneg) h0
    · have hnn : ∀ x ∈ mergeP p (postP (prs k d)), 0 ≤ x.n := fun x hx => Classical.byContradiction fun h => hneg ⟨x, hx, by omega⟩
      by_cases hover : ∃ x ∈ mergeP p (postP (prs k d)), 262144 < x.n
      · exact jJ _ _ _ n m 0 k 9 rfl (ichange_over p d n m k hn hm (by omega) hv hd hfd hc (fun x hx => (hbd x hx).1) hnn hover) (rchange_over p d n m k hn hm (by omega) hv hd hfd hc hnn hover) h0
      · have hpos : ∀ x ∈ mergeP p (postP (prs k d)), 0 ≤ x.n ∧ x.n ≤ 262144 := fun x hx => ⟨hnn x hx, Classical.byContradiction fun h => hover ⟨x, hx, by omega⟩⟩
        have hMl := dH p (postP (prs k d))
        have hKl := cR (col := k) (b := d) (fun e he v hv => (eE hd e he).2 v hv)
        have hd1 := hd.1
        rw [← dD] at hKl
        exact jJ _ _ _ n m _ k 0 (by rw [bF]) (ichange_ok p d n m k _ hn hm (by omega) hv hd hfd hc rfl hpos) (rchange_good p d n m k _ hn hm (by omega) hv hd hfd hc rfl hpos) (qG _ _ rfl (by omega) fun x hx => (hbd x hx).2)
end Go.Proofs.YtccnhpaldmjkbaaGreat
