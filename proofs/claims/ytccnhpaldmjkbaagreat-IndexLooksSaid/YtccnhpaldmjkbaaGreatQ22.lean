/-
  Joined texts: IP IC I5. Lemmas; no statement of a law.
-/
import Derived.Test.YtccnhpaldmjkbaaGreatQ10
import Derived.Test.YtccnhpaldmjkbaaGreatQ17
import Derived.Test.YtccnhpaldmjkbaaGreatQ20
set_option maxHeartbeats 16000000
set_option linter.unusedSimpArgs false
set_option linter.unusedVariables false
namespace Go.Proofs.YtccnhpaldmjkbaaGreat
open Go Go.RowKit Go.Av
set_option maxRecDepth 100000
structure Po where
  w : Wd
  r : List Vl
  n : Int
def Po.c (x : Po) : List CV := [sv x.w, .sl 3 x.r.length (rc x.r), iv x.n]
def pc (l : List Po) : List CV := l.flatMap Po.c
theorem bQ (l : List Po) : (pc l).length = l.length * 3 := by
  induction l with
  | nil => rfl
  | cons v r ih =>
    have : v.c.length = 3 := rfl
    simp only [pc, List.flatMap_cons, List.length_append, List.length_cons] at ih ⊢; omega
theorem qJ (a b : List Po) : pc (a ++ b) = pc a ++ pc b := by simp [pc]
theorem pc_cons (x : Po) (b : List Po) : pc (x :: b) = x.c ++ pc b := rfl
theorem iM : ∀ {b : List Po} {i : Nat} {e : Po}, b[i]? = some e → ((pc b).drop (i * 3)).take 3 = e.c
  | [], i, v, h => by simp at h
  | w :: r, 0, v, h => by
    simp at h
    subst h
    rfl
  | w :: r, i + 1, v, h => by
    have := iM (b := r) (i := i) (by simpa using h)
    rw [← this]
    have hl : w.c.length = 3 := rfl
    simp only [pc, List.flatMap_cons]
    rw [show (i + 1) * 3 = w.c.length + i * 3 by rw [hl]; omega, List.drop_append, List.drop_eq_nil_of_le (by omega), List.nil_append, Nat.add_sub_cancel_left]
theorem zQ {b : List Po} {i k : Nat} {e : Po} (h : b[i]? = some e) (hk : k < 3) : (pc b)[i * 3 + k]? = e.c[k]? := by
  have := iM h
  rw [← this, List.getElem?_take_of_lt hk, List.getElem?_drop]
theorem pc_w {b : List Po} {i : Nat} {e : Po} (h : b[i]? = some e) : (pc b)[i * 3]? = some (sv e.w) := zQ (k := 0) h (by omega)
theorem pc_r {b : List Po} {i : Nat} {e : Po} (h : b[i]? = some e) : (pc b)[i * 3 + 1]? = some (.sl 3 e.r.length (rc e.r)) := zQ (k := 1) h (by omega)
theorem pc_n {b : List Po} {i : Nat} {e : Po} (h : b[i]? = some e) : (pc b)[i * 3 + 2]? = some (iv e.n) := zQ (k := 2) h (by omega)
def Po.e (x : Po) : En := ⟨⟨2, 0, x.w⟩ :: x.r, x.n⟩
theorem Po.e_inj {x y : Po} (h : x.e = y.e) : x = y := by
  cases x; cases y
  simp only [Po.e, En.mk.injEq, List.cons.injEq, Vl.mk.injEq, true_and] at h
  simp [h]
theorem map_e_inj {a b : List Po} (h : a.map Po.e = b.map Po.e) : a = b := (List.map_inj_right fun x y h => Po.e_inj h).1 h
def cmpP (a b : Po) : Int := if Lib.compareBytes a.w b.w ≠ 0 then Lib.compareBytes a.w b.w else cmpR a.r b.r
theorem gH {a b : Po} (ha : a.w.length ≤ 32) (hb : b.w.length ≤ 32) : cmpP a b = cmpR a.e.r b.e.r := by
  have e1 : clV ⟨2, 0, a.w⟩ = ⟨2, 0, a.w⟩ := eZ (.inr (.inr ⟨rfl, rfl, ha⟩))
  have e2 : clV ⟨2, 0, b.w⟩ = ⟨2, 0, b.w⟩ := eZ (.inr (.inr ⟨rfl, rfl, hb⟩))
  have e3 : cmpV ⟨2, 0, a.w⟩ ⟨2, 0, b.w⟩ = Lib.compareBytes a.w b.w := by simp [cmpV]
  simp only [Po.e, cmpR]
  rw [e1, e2, e3]
  rfl
theorem gc_P : GC cmpP := by
  constructor
  · intro x y
    have h1 := gc_B.anti x.w y.w
    have h2 := gc_R.anti x.r y.r
    unfold cmpP
    rw [h1]
    by_cases h : Lib.compareBytes x.w y.w = 0
    · rw [if_neg (by omega), if_neg (by omega)]; exact h2
    · rw [if_pos (by omega), if_pos (by omega)]
  · intro x y z h1 h2
    unfold cmpP at h1 h2 ⊢
    have a1 : Lib.compareBytes x.w y.w ≤ 0 := by
      by_cases h : Lib.compareBytes x.w y.w = 0
      · omega
      · rw [if_pos h] at h1; exact h1
    have a2 : Lib.compareBytes y.w z.w ≤ 0 := by
      by_cases h : Lib.compareBytes y.w z.w = 0
      · omega
      · rw [if_pos h] at h2; exact h2
    have a3 := gc_B.tr _ _ _ a1 a2
    by_cases h : Lib.compareBytes x.w z.w = 0
    · obtain ⟨b1, b2⟩ := gc_B.tr0 a1 a2 h
      rw [if_neg (by omega)] at h1 h2
      rw [if_neg (by omega)]
      exact gc_R.tr _ _ _ h1 h2
    · rw [if_pos h]; exact a3
def addR : List Po → Po → List Po
  | [], x => [x]
  | y :: l, x => if cmpP y x < 0 then y :: addR l x else if 0 < cmpP y x then x :: y :: l else if y.n + x.n ≠ 0 then ⟨y.w, y.r, y.n + x.n⟩ :: l else l
theorem addR_e : ∀ {l : List Po} {x : Po}, (∀ y ∈ l, y.w.length ≤ 32) → x.w.length ≤ 32 → (addR l x).map Po.e = mergeE (l.map Po.e) [x.e]
  | [], x, _, _ => by rw [List.map_nil, gJ]; rfl
  | y :: l, x, hl, hx => by
    have hy := hl y (by simp)
    have ih := addR_e (l := l) (x := x) (fun z hz => hl z (by simp [hz])) hx
    rw [addR, List.map_cons, mergeE, ← gH hy hx]
    split
    · rw [List.map_cons, ih]
    · split
      · rw [fX]; rfl
      · rw [fX]
        show List.map Po.e (if y.n + x.n ≠ 0 then _ else _) = if y.n + x.n ≠ 0 then _ else _
        split <;> rfl
theorem oZ : ∀ {l : List Po} {x : Po} (p : Wd → Prop), (∀ y ∈ l, p y.w) → p x.w → ∀ y ∈ addR l x, p y.w
  | [], x, p, _, hx => fun y hy => by
    have : y = x := by simpa [addR] using hy
    rw [this]; exact hx
  | z :: l, x, p, hl, hx => fun y hy => by
    have hz := hl z (by simp)
    have ih := oZ (l := l) (x := x) p (fun y hy => hl y (by simp [hy])) hx
    rw [addR] at hy
    split at hy
    · rcases List.mem_cons.1 hy with e | hy
      · rw [e]; exact hz
      · exact ih y hy
    · split at hy
      · rcases List.mem_cons.1 hy with e | hy
        · rw [e]; exact hx
        · exact hl y hy
      · split at hy
        · rcases List.mem_cons.1 hy with e | hy
          · rw [e]; exact hz
          · exact hl y (by simp [hy])
        · exact hl y (by simp [hy])
theorem uV (l : List Po) (x : Po) : (addR l x).length ≤ l.length + 1 := by
  induction l with
  | nil => exact Nat.le_refl _
  | cons y l ih =>
    rw [addR]
    split
    · rw [List.length_cons, List.length_cons]; omega
    · split
      · exact Nat.le_refl _
      · split
        · rw [List.length_cons, List.length_cons]; omega
        · rw [List.length_cons]; omega
def mergeP : List Po → List Po → List Po
  | [], b => b
  | a :: at1, [] => a :: at1
  | a :: at1, b :: bt1 => if cmpP a b < 0 then a :: mergeP at1 (b :: bt1) else if 0 < cmpP a b then b :: mergeP (a :: at1) bt1 else if a.n + b.n ≠ 0 then ⟨a.w, a.r, a.n + b.n⟩ :: mergeP at1 bt1 else mergeP at1 bt1
termination_by a b => a.length + b.length
theorem qG (b : List Po) : mergeP [] b = b := by rw [mergeP]
theorem wF (a : List Po) : mergeP a [] = a := by cases a <;> rw [mergeP]
theorem wC (a b : List Po) (ha : ∀ y ∈ a, y.w.length ≤ 32) (hb : ∀ y ∈ b, y.w.length ≤ 32) : (mergeP a b).map Po.e = mergeE (a.map Po.e) (b.map Po.e) := by
  induction a, b using mergeP.induct with
  | case1 b => rw [qG, List.map_nil, gJ]
  | case2 a at1 => rw [wF, List.map_nil, fX]
  | case3 a at1 b bt1 h ih =>
    rw [mergeP, if_pos h, List.map_cons, List.map_cons, List.map_cons, mergeE, if_pos (by rw [← gH (ha a (by simp)) (hb b (by simp))]; exact h), ih (fun y hy => ha y (by simp [hy])) hb]; rfl
  | case4 a at1 b bt1 h h2 ih =>
    rw [mergeP, if_neg h, if_pos h2, List.map_cons, List.map_cons, List.map_cons, mergeE, if_neg (by rw [← gH (ha a (by simp)) (hb b (by simp))]; exact h), if_pos (by rw [← gH (ha a (by simp)) (hb b (by simp))]; exact h2), ih ha (fun y hy => hb y (by simp [hy]))]; rfl
  | case5 a at1 b bt1 h h2 h3 ih =>
    rw [mergeP, if_neg h, if_neg h2, if_pos h3, List.map_cons, List.map_cons, List.map_cons, mergeE, if_neg (by rw [← gH (ha a (by simp)) (hb b (by simp))]; exact h), if_neg (by rw [← gH (ha a (by simp)) (hb b (by simp))]; exact h2), if_pos (show a.e.n + b.e.n ≠ 0 from h3), ih (fun y hy => ha y (by simp [hy])) (fun y hy => hb y (by simp [hy]))]; rfl
  | case6 a at1 b bt1 h h2 h3 ih =>
    rw [mergeP, if_neg h, if_neg h2, if_neg h3, List.map_cons, List.map_cons, mergeE, if_neg (by rw [← gH (ha a (by simp)) (hb b (by simp))]; exact h), if_neg (by rw [← gH (ha a (by simp)) (hb b (by simp))]; exact h2), if_neg (show ¬ a.e.n + b.e.n ≠ 0 from h3), ih (fun y hy => ha y (by simp [hy])) (fun y hy => hb y (by simp [hy]))]
structure GoodE (l : List En) : Prop where
  srt : srtE l
  ok : okR l
  nz : ∀ e ∈ l, e.n ≠ 0
theorem GoodE.merge {a b : List En} (ha : GoodE a) (hb : GoodE b) : GoodE (mergeE a b) :=
  ⟨lI a b ha.srt hb.srt, eW a b (fun r => ∀ v ∈ r, okP v) ha.ok hb.ok, lH (fun e => e.n ≠ 0) (fun e f _ _ _ h => h) a b ha.nz hb.nz⟩
theorem GoodE.nil : GoodE [] := ⟨List.Pairwise.nil, fun e he => (by cases he), fun e he => (by cases he)⟩
theorem GoodE.one {e : En} (h1 : ∀ v ∈ e.r, okP v) (h2 : e.n ≠ 0) : GoodE [e] := by
  refine ⟨List.pairwise_singleton _ _, fun f hf => ?_, fun f hf => ?_⟩
  · have : f = e := by simpa using hf
    subst this; exact h1
  · have : f = e := by simpa using hf
    subst this; exact h2
def ind (r0 r : List Vl) : Int := if r = r0 then 1 else 0
theorem nP {r0 : List Vl} : ∀ {l : List En}, (∀ e ∈ l, e.r ≠ r0) → wsum (ind r0) l = 0
  | [], _ => rfl
  | e :: l, h => by
    rw [cP, nP (l := l) fun f hf => h f (by simp [hf])]
    unfold ind
    rw [if_neg (h e (by simp))]; omega
theorem mP : ∀ {l : List En} {e : En}, srtE l → e ∈ l → wsum (ind e.r) l = e.n
  | f :: l, e, hs, he => by
    obtain ⟨h1, h2⟩ := List.pairwise_cons.1 hs
    rw [cP]
    rcases List.mem_cons.1 he with rfl | he
    · rw [nP fun g hg hr => by
        have := h1 g hg
        rw [hr, dE] at this
        omega]
      unfold ind
      rw [if_pos rfl]; omega
    · rw [mP h2 he]
      have hne : f.r ≠ e.r := fun hr => by
        have := h1 e he
        rw [hr, dE] at this
        omega
      unfold ind
      rw [if_neg hne]; omega
theorem mQ {l : List En} {e : En} (hs : srtE l) (h0 : e.n ≠ 0) (h : wsum (ind e.r) l = e.n) : e ∈ l := by
  by_cases hx : ∃ f ∈ l, f.r = e.r
  · obtain ⟨f, hf, hr⟩ := hx
    have := mP hs hf
    rw [hr, h] at this
    have : f = e := by
      cases f; cases e
      simp_all
    rw [← this]; exact hf
  · have : wsum (ind e.r) l = 0 := nP fun f hf hr => hx ⟨f, hf, hr⟩
    omega
theorem uF : ∀ {l m : List En}, srtE l → srtE m → (∀ x, x ∈ l ↔ x ∈ m) → l = m
  | [], [], _, _, _ => rfl
  | [], y :: m, _, _, h => absurd ((h y).2 (by simp)) (by simp)
  | x :: l, [], _, _, h => absurd ((h x).1 (by simp)) (by simp)
  | x :: l, y :: m, hl, hm, h => by
    obtain ⟨h1, h2⟩ := List.pairwise_cons.1 hl
    obtain ⟨h3, h4⟩ := List.pairwise_cons.1 hm
    have e : x = y := by
      rcases List.mem_cons.1 ((h x).1 (by simp)) with a | a
      · exact a
      · rcases List.mem_cons.1 ((h y).2 (by simp)) with b | b
        · exact b.symm
        · have c1 := gc_R.lt (h1 y b) (h3 x a)
          rw [dE] at c1; omega
    subst e
    rw [uF h2 h4 fun z => ⟨fun hz => ?_, fun hz => ?_⟩]
    · rcases List.mem_cons.1 ((h z).1 (by simp [hz])) with e | e
      · subst e; have := h1 z hz; rw [dE] at this; omega
      · exact e
    · rcases List.mem_cons.1 ((h z).2 (by simp [hz])) with e | e
      · subst e; have := h3 z hz; rw [dE] at this; omega
      · exact e
theorem GoodE.uniq {a b : List En} (ha : GoodE a) (hb : GoodE b) (h : ∀ g, wsum g a = wsum g b) : a = b :=
  uF ha.srt hb.srt fun x => ⟨fun hx => mQ hb.srt (ha.nz x hx) (by rw [← h, mP ha.srt hx]), fun hx => mQ ha.srt (hb.nz x hx) (by rw [h, mP hb.srt hx])⟩
def wdsE (col : Nat) (r : List Vl) : List Wd := match r[col]? with
  | some v => if v.k = 2 then wordsP v.t else []
  | none => []
def prs (col : Nat) (b : List En) : List (Wd × En) := b.flatMap fun e => (wdsE col e.r).map fun w => (w, e)
def mkPo (p : Wd × En) : Po := ⟨p.1, p.2.r, p.2.n⟩
def ofW (ps : List (Wd × En)) (w : Wd) : List (Wd × En) := ps.filter fun p => decide (p.1 = w)
def postP (ps : List (Wd × En)) : List Po := (setW (ps.map (·.1))).flatMap fun w => (ofW ps w).map mkPo
theorem kX {l : List Wd} (h : ascW l) : l.Nodup := h.imp fun {a b} h e => absurd (e ▸ h) (List.lt_irrefl _)
theorem xP (col : Nat) (r : List Vl) : ascW (wdsE col r) := by
  unfold wdsE
  split
  · split
    · exact (cL _).1
    · exact List.Pairwise.nil
  · exact List.Pairwise.nil
theorem fF {col : Nat} {r : List Vl} (h : ∀ v ∈ r, okP v) : (wdsE col r).length ≤ 32 ∧ ∀ w ∈ wdsE col r, w.length ≤ 32 ∧ w ≠ [] := by
  unfold wdsE
  split
  · rename_i v hv
    have hv := h v (List.mem_of_getElem? hv)
    split
    · rename_i hk
      have ht : v.t.length ≤ 32 := by
        rcases hv with ⟨h1, _, h3⟩ | ⟨h1, _, _, h3⟩ | ⟨_, _, h3⟩
        · rw [h3]; simp
        · rw [h3]; simp
        · exact h3
      obtain ⟨h1, h2⟩ := eK v.t
      exact ⟨by omega, fun w hw => ⟨by have := (h2 w hw).1; omega, (h2 w hw).2⟩⟩
    · exact ⟨by simp, fun w hw => by cases hw⟩
  · exact ⟨by simp, fun w hw => by cases hw⟩
theorem wI (col : Nat) (e : En) (b : List En) : prs col (e :: b) = ((wdsE col e.r).map fun w => (w, e)) ++ prs col b := rfl
theorem prs_app (col : Nat) (a b : List En) : prs col (a ++ b) = prs col a ++ prs col b := by simp [prs]
theorem gC {col : Nat} {b : List En} {p : Wd × En} (h : p ∈ prs col b) : p.2 ∈ b ∧ p.1 ∈ wdsE col p.2.r := by
  obtain ⟨e, he, hp⟩ := List.mem_flatMap.1 h
  obtain ⟨w, hw, rfl⟩ := List.mem_map.1 hp
  exact ⟨he, hw⟩
theorem eP {col : Nat} {b : List En} (h : okR b) : (prs col b).length ≤ b.length * 32 := by
  induction b with
  | nil => exact Nat.le_refl _
  | cons e b ih =>
    have h1 := (fF (col := col) (h e (by simp))).1
    have h2 := ih fun f hf => h f (by simp [hf])
    rw [wI, List.length_append, List.length_map, List.length_cons]; omega
theorem ofW_map {w : Wd} {e : En} : ∀ {l : List Wd}, l.Nodup → ofW (l.map fun w => (w, e)) w = if w ∈ l then [(w, e)] else []
  | [], _ => rfl
  | x :: l, h => by
    obtain ⟨h1, h2⟩ := List.nodup_cons.1 h
    have ih := ofW_map (w := w) (e := e) h2
    unfold ofW at ih ⊢
    rw [List.map_cons, List.filter_cons, ih]
    by_cases hx : x = w
    · subst hx
      rw [if_neg h1]
      simp
    · have : (w ∈ x :: l) ↔ w ∈ l := by
        rw [List.mem_cons]
        exact ⟨fun h => h.elim (fun e => absurd e.symm hx) id, .inr⟩
      simp [hx, this]
theorem ofW_prs (col : Nat) (w : Wd) (b : List En) : ofW (prs col b) w = (b.filter fun e => decide (w ∈ wdsE col e.r)).map fun e => (w, e) := by
  induction b with
  | nil => rfl
  | cons e b ih =>
    have h1 := ofW_map (w := w) (e := e) (kX (xP col e.r))
    have e1 : ofW (prs col (e :: b)) w = ofW ((wdsE col e.r).map fun w => (w, e)) w ++ ofW (prs col b) w := by
      unfold ofW
      rw [wI, List.filter_append]
    rw [e1, h1, ih, List.filter_cons]
    by_cases h : w ∈ wdsE col e.r
    · simp [h]
    · simp [h]
theorem rU {ps : List (Wd × En)} : ∀ {l : List Wd}, l.Nodup → (l.flatMap fun w => ofW ps w).Perm (ps.filter fun p => decide (p.1 ∈ l))
  | [], _ => by
    rw [List.flatMap_nil, List.filter_eq_nil_iff.2 fun p _ => by simp]
  | x :: l, h => by
    obtain ⟨h1, h2⟩ := List.nodup_cons.1 h
    rw [List.flatMap_cons]
    refine ((rU h2).append_left _).trans ?_
    clear h2 h
    unfold ofW
    induction ps with
    | nil => exact List.Perm.refl _
    | cons p ps ih =>
      rw [List.filter_cons, List.filter_cons, List.filter_cons]
      by_cases e : p.1 = x
      · have h3 : ¬ p.1 ∈ l := by rw [e]; exact h1
        rw [if_pos (decide_eq_true e), if_neg (by simp [h3]), if_pos (decide_eq_true (by rw [e]; simp)), List.cons_append]
        exact ih.cons _
      · by_cases h3 : p.1 ∈ l
        · rw [if_neg (by simp [e]), if_pos (decide_eq_true h3), if_pos (decide_eq_true (by simp [h3]))]
          exact List.perm_middle.trans (ih.cons _)
        · rw [if_neg (by simp [e]), if_neg (by simp [h3]), if_neg (by simp [e, h3])]
          exact ih
theorem lK (ps : List (Wd × En)) : (postP ps).Perm (ps.map mkPo) := by
  obtain ⟨h1, h2⟩ := cL (ps.map (·.1))
  have h3 := rU (ps := ps) (kX h1)
  have h4 : (ps.filter fun p => decide (p.1 ∈ setW (ps.map (·.1)))) = ps := List.filter_eq_self.2 fun p hp => decide_eq_true ((h2 p.1).2 (List.mem_map_of_mem hp))
  rw [h4] at h3
  have h5 := h3.map mkPo
  rw [List.map_flatMap] at h5
  exact h5
theorem wsum_permI (g : List Vl → Int) {a b : List En} (h : a.Perm b) : wsum g a = wsum g b := by
  induction h with
  | nil => rfl
  | cons x _ ih => rw [cP, cP, ih]
  | swap x y l => simp only [cP]; omega
  | trans _ _ h1 h2 => rw [h1, h2]
theorem zS (g : List Vl → Int) (ps : List (Wd × En)) : wsum g ((postP ps).map Po.e) = wsum g ((ps.map mkPo).map Po.e) := wsum_permI g ((lK ps).map Po.e)
theorem mE (ps : List (Wd × En)) : (postP ps).length = ps.length := by rw [(lK ps).length_eq, List.length_map]
theorem nJ {ps : List (Wd × En)} {x : Po} (h : x ∈ postP ps) : ∃ p ∈ ps, mkPo p = x := List.mem_map.1 ((lK ps).mem_iff.1 h)
theorem cmpB_lt {x y : Wd} (h : x < y) : Lib.compareBytes x y < 0 := by
  have h1 := mC x y
  rw [Go.Proofs.bytesLess_eq x y, decide_eq_true h] at h1
  exact of_decide_eq_true h1.symm
theorem qK {col : Nat} {b : List En} (hb : GoodE b) : GoodE ((postP (prs col b)).map Po.e) := by
  have hmem : ∀ x ∈ postP (prs col b), (x.w.length ≤ 32 ∧ x.w ≠ []) ∧ (⟨x.r, x.n⟩ : En) ∈ b := fun x hx => by
    obtain ⟨p, hp, rfl⟩ := nJ hx
    obtain ⟨h1, h2⟩ := gC hp
    exact ⟨(fF (hb.ok p.2 h1)).2 _ h2, h1⟩
  refine ⟨?_, fun e he v hv => ?_, fun e he => ?_⟩
  · unfold srtE
    rw [List.pairwise_map]
    unfold postP
    rw [List.pairwise_flatMap]
    have hw : ∀ w, ∀ x ∈ (ofW (prs col b) w).map mkPo, x.w = w ∧ x.w.length ≤ 32 := fun w x hx => by
      obtain ⟨p, hp, rfl⟩ := List.mem_map.1 hx
      obtain ⟨hp1, hp2⟩ := List.mem_filter.1 hp
      obtain ⟨h1, h2⟩ := gC hp1
      exact ⟨of_decide_eq_true hp2, ((fF (hb.ok p.2 h1)).2 _ h2).1⟩
    refine ⟨fun w _ => ?_, (cL _).1.imp fun {w w'} hlt x hx y hy => ?_⟩
    · rw [ofW_prs, List.map_map, List.pairwise_map]
      refine (hb.srt.sublist List.filter_sublist).imp_of_mem fun {e f} he hf h => ?_
      have k1 : w.length ≤ 32 := ((fF (hb.ok e (List.mem_filter.1 he).1)).2 w (of_decide_eq_true (List.mem_filter.1 he).2)).1
      show cmpR (mkPo (w, e)).e.r (mkPo (w, f)).e.r < 0
      rw [← gH (a := mkPo (w, e)) (b := mkPo (w, f)) k1 k1]
      unfold cmpP mkPo
      have := gc_B.anti w w
      rw [if_neg (by simp only; omega)]
      exact h
    · obtain ⟨a1, a2⟩ := hw w x hx
      obtain ⟨b1, b2⟩ := hw w' y hy
      rw [← gH a2 b2]
      unfold cmpP
      rw [a1, b1]
      have := cmpB_lt hlt
      rw [if_pos (by omega)]
      exact this
  · obtain ⟨x, hx, rfl⟩ := List.mem_map.1 he
    obtain ⟨⟨h1, h2⟩, h3⟩ := hmem x hx
    rcases List.mem_cons.1 hv with rfl | hv
    · exact .inr (.inr ⟨rfl, rfl, h1⟩)
    · exact hb.ok _ h3 v hv
  · obtain ⟨x, hx, rfl⟩ := List.mem_map.1 he
    exact (hb.nz ⟨x.r, x.n⟩ (hmem x hx).2 : x.n ≠ 0)
theorem jY {col : Nat} {b : List En} (hb : okR b) : ∀ x ∈ postP (prs col b), x.w.length ≤ 32 := fun x hx => by
  obtain ⟨p, hp, rfl⟩ := nJ hx
  obtain ⟨h1, h2⟩ := gC hp
  exact ((fF (hb p.2 h1)).2 _ h2).1
theorem nV : ∀ (xs p : List Po), (∀ y ∈ p, y.w.length ≤ 32) → (∀ y ∈ xs, y.w.length ≤ 32 ∧ y.n ≠ 0 ∧ ∀ v ∈ y.r, okP v) → GoodE (p.map Po.e) →
    (∀ y ∈ xs.foldl addR p, y.w.length ≤ 32) ∧ GoodE ((xs.foldl addR p).map Po.e) ∧ ∀ g, wsum g ((xs.foldl addR p).map Po.e) = wsum g (p.map Po.e) + wsum g (xs.map Po.e)
  | [], p, hp, _, hg => ⟨hp, hg, fun g => by rw [List.foldl_nil, List.map_nil, mR]; omega⟩
  | x :: xs, p, hp, hx, hg => by
    obtain ⟨h1, h2, h3⟩ := hx x (by simp)
    have h4 : GoodE [x.e] := GoodE.one (fun v hv => by
      rcases List.mem_cons.1 hv with rfl | hv
      · exact .inr (.inr ⟨rfl, rfl, h1⟩)
      · exact h3 v hv) h2
    have h5 := addR_e hp h1
    obtain ⟨k1, k2, k3⟩ := nV xs (addR p x) (oZ (fun w => w.length ≤ 32) hp h1) (fun y hy => hx y (by simp [hy])) (by rw [h5]; exact hg.merge h4)
    refine ⟨k1, k2, fun g => ?_⟩
    rw [List.foldl_cons, k3, h5, oB g _ _ hg.ok h4.ok, List.map_cons, cP, cP, mR]; omega
theorem post_ref {col : Nat} {p : List Po} {b : List En} (hp : ∀ y ∈ p, y.w.length ≤ 32) (hg : GoodE (p.map Po.e)) (hb : GoodE b) : ((prs col b).map mkPo).foldl addR p = mergeP p (postP (prs col b)) := by
  have hx : ∀ y ∈ (prs col b).map mkPo, y.w.length ≤ 32 ∧ y.n ≠ 0 ∧ ∀ v ∈ y.r, okP v := fun y hy => by
    obtain ⟨q, hq, rfl⟩ := List.mem_map.1 hy
    obtain ⟨h1, h2⟩ := gC hq
    exact ⟨((fF (hb.ok q.2 h1)).2 _ h2).1, hb.nz _ h1, hb.ok _ h1⟩
  obtain ⟨k1, k2, k3⟩ := nV _ p hp hx hg
  have hq := qK (col := col) hb
  refine map_e_inj (k2.uniq ?_ fun g => ?_)
  · rw [wC _ _ hp (jY hb.ok)]; exact hg.merge hq
  · rw [k3, wC _ _ hp (jY hb.ok), oB g _ _ hg.ok hq.ok, zS]
theorem sE {b : List En} (h : bagP b) : GoodE b := by
  obtain ⟨h1, h2⟩ := h
  have hall : ∀ e ∈ b, entP e ∧ e.n ≠ 0 := fun e he => by
    obtain ⟨i, hi⟩ := List.mem_iff_getElem?.1 he
    obtain ⟨a1, a2, _⟩ := h2 i (List.getElem?_eq_some_iff.1 hi).1 e hi
    exact ⟨a1, a2⟩
  refine ⟨?_, fun e he => (hall e he).1.2.2.2, fun e he => (hall e he).2⟩
  clear h1 hall
  induction b with
  | nil => exact List.Pairwise.nil
  | cons e b ih =>
    have ih := ih fun i hi f hf => by
      obtain ⟨a1, a2, a3⟩ := h2 (i + 1) (by simpa using hi) f (by simpa using hf)
      exact ⟨a1, a2, fun g h0 hg => a3 g (by omega) (by obtain ⟨j, rfl⟩ : ∃ j, i = j + 1 := ⟨i - 1, by omega⟩
                                                        simpa using hg)⟩
    refine List.pairwise_cons.2 ⟨?_, ih⟩
    match b, ih with
    | [], _ => exact fun f hf => by cases hf
    | f :: b, ih =>
      have h3 : cmpR e.r f.r < 0 := (h2 1 (by simp) f rfl).2.2 e (by omega) rfl
      intro g hg
      rcases List.mem_cons.1 hg with rfl | hg
      · exact h3
      · exact gc_R.lt h3 ((List.pairwise_cons.1 ih).1 g hg)
def addT : List (Wd × List En) → Wd → En → List (Wd × List En)
  | [], w, e => [(w, [e])]
  | x :: r, w, e => if x.1 = w then (x.1, x.2 ++ [e]) :: r else x :: addT r w e
def tabP (ps : List (Wd × En)) : List (Wd × List En) := ps.foldl (fun t p => addT t p.1 p.2) []
theorem nN (ps : List (Wd × En)) (w : Wd) (e : En) : tabP (ps ++ [(w, e)]) = addT (tabP ps) w e := by unfold tabP; rw [List.foldl_append]; rfl
theorem findT : ∀ (t : List (Wd × List En)) (w : Wd), (∃ (k : Nat) (l : List En), t[k]? = some (w, l) ∧ ∀ (q : Nat) (s : Wd × List En), q < k → t[q]? = some s → s.1 ≠ w) ∨ ∀ x ∈ t, x.1 ≠ w
  | [], w => .inr fun x hx => by cases hx
  | x :: t, w => by
    by_cases h : x.1 = w
    · exact .inl ⟨0, x.2, by rw [← h]; rfl, fun q s hq => by omega⟩
    · rcases findT t w with ⟨k, l, h1, h2⟩ | h1
      · refine .inl ⟨k + 1, l, by simpa using h1, fun q s hq hs => ?_⟩
        cases q with
        | zero => simp at hs; rw [← hs]; exact h
        | succ q => exact h2 q s (by omega) (by simpa using hs)
      · exact .inr fun y hy => by
          rcases List.mem_cons.1 hy with rfl | hy
          · exact h
          · exact h1 y hy
theorem sY : ∀ {t : List (Wd × List En)} {w : Wd} {k : Nat} {l : List En} (e : En), t[k]? = some (w, l) → (∀ (q : Nat) (s : Wd × List En), q < k → t[q]? = some s → s.1 ≠ w) → addT t w e = t.set k (w, l ++ [e])
  | [], w, k, l, e, h, _ => by simp at h
  | x :: t, w, 0, l, e, h, _ => by
    simp at h
    subst h
    simp [addT]
  | x :: t, w, k + 1, l, e, h, hn => by
    rw [addT, if_neg (hn 0 x (by omega) rfl), sY (t := t) e (by simpa using h) fun q s hq hs => hn (q + 1) s (by omega) (by simpa using hs)]
    rfl
theorem sZ : ∀ {t : List (Wd × List En)} {w : Wd} (e : En), (∀ x ∈ t, x.1 ≠ w) → addT t w e = t ++ [(w, [e])]
  | [], w, e, _ => rfl
  | x :: t, w, e, h => by
    rw [addT, if_neg (h x (by simp)), sZ e fun y hy => h y (by simp [hy])]
    rfl
theorem rG : ∀ (t : List (Wd × List En)) (w : Wd) (e : En), (addT t w e).map (·.1) = if w ∈ t.map (·.1) then t.map (·.1) else t.map (·.1) ++ [w] := fun t w e => by
  rcases findT t w with ⟨k, l, h1, h2⟩ | h
  · rw [sY e h1 h2, if_pos (List.mem_map.2 ⟨_, List.mem_of_getElem? h1, rfl⟩), List.map_set]
    refine List.ext_getElem? fun j => ?_
    rw [List.getElem?_set]
    split
    · rename_i hj
      subst hj
      have hk := (List.getElem?_eq_some_iff.1 h1).1
      rw [if_pos (by rw [List.length_map]; exact hk), List.getElem?_map, h1]
      rfl
    · rfl
  · rw [sZ e h, if_neg (fun hm => by
      obtain ⟨x, hx, he⟩ := List.mem_map.1 hm
      exact h x hx he), List.map_append]
    rfl
theorem uW : ∀ {t : List (Wd × List En)} {w : Wd} {e : En} {x : Wd × List En}, (t.map (·.1)).Nodup → x ∈ addT t w e → (x.1 ≠ w ∧ x ∈ t) ∨ (x.1 = w ∧ ((x.2 = [e] ∧ w ∉ t.map (·.1)) ∨ ∃ l, (w, l) ∈ t ∧ x.2 = l ++ [e]))
  | [], w, e, x, _, h => by
    have : x = (w, [e]) := by simpa [addT] using h
    subst this
    exact .inr ⟨rfl, .inl ⟨rfl, by simp⟩⟩
  | y :: t, w, e, x, hd, h => by
    rw [List.map_cons] at hd
    obtain ⟨d1, d2⟩ := List.nodup_cons.1 hd
    rw [addT] at h
    by_cases hy : y.1 = w
    · rw [if_pos hy] at h
      rcases List.mem_cons.1 h with rfl | h
      · exact .inr ⟨hy, .inr ⟨y.2, by rw [← hy]; simp, rfl⟩⟩
      · refine .inl ⟨fun hx => d1 (List.mem_map.2 ⟨x, h, hx.trans hy.symm⟩), by simp [h]⟩
    · rw [if_neg hy] at h
      rcases List.mem_cons.1 h with rfl | h
      · exact .inl ⟨hy, by simp⟩
      · rcases uW d2 h with ⟨a1, a2⟩ | ⟨a1, ⟨a2, a3⟩ | ⟨l, a2, a3⟩⟩
        · exact .inl ⟨a1, by simp [a2]⟩
        · exact .inr ⟨a1, .inl ⟨a2, by rw [List.map_cons, List.mem_cons]; exact fun h => h.elim (fun h => hy h.symm) a3⟩⟩
        · exact .inr ⟨a1, .inr ⟨l, by simp [a2], a3⟩⟩
theorem ofW_snoc (ps : List (Wd × En)) (w : Wd) (e : En) (k : Wd) : ofW (ps ++ [(w, e)]) k = if w = k then ofW ps k ++ [(w, e)] else ofW ps k := by
  unfold ofW
  rw [List.filter_append]
  by_cases h : w = k
  · rw [if_pos h, List.filter_cons, if_pos (decide_eq_true h)]; rfl
  · rw [if_neg h, List.filter_cons, if_neg (by simp [h])]; simp
theorem ofW_none {ps : List (Wd × En)} {w : Wd} (h : w ∉ ps.map (·.1)) : ofW ps w = [] := List.filter_eq_nil_iff.2 fun p hp e => h (List.mem_map.2 ⟨p, hp, of_decide_eq_true e⟩)
theorem jD (ps : List (Wd × En)) : ((tabP ps).map (·.1)).Nodup ∧ (∀ w, w ∈ (tabP ps).map (·.1) ↔ w ∈ ps.map (·.1)) ∧ ∀ x ∈ tabP ps, x.2 = (ofW ps x.1).map (·.2) := by
  refine snocI (p := fun ps => ((tabP ps).map (·.1)).Nodup ∧ (∀ w, w ∈ (tabP ps).map (·.1) ↔ w ∈ ps.map (·.1)) ∧ ∀ x ∈ tabP ps, x.2 = (ofW ps x.1).map (·.2)) ?_ ?_ ps
  · exact ⟨List.Pairwise.nil, fun w => Iff.rfl, fun x hx => by cases hx⟩
  · rintro ps ⟨w, e⟩ ⟨h1, h2, h3⟩
    rw [nN, rG]
    refine ⟨?_, fun k => ?_, fun x hx => ?_⟩
    · split
      · exact h1
      · rename_i hn
        refine List.nodup_append.2 ⟨h1, by simp, fun a ha b hb => ?_⟩
        have : b = w := by simpa using hb
        subst this
        exact fun e => hn (e ▸ ha)
    · rw [List.map_append, List.mem_append, ← h2 k]
      split
      · rename_i hm
        refine ⟨.inl, fun h => h.elim id fun h => ?_⟩
        have : k = w := by simpa using h
        rw [this]; exact hm
      · rw [List.mem_append]; rfl
    · rw [ofW_snoc]
      rcases uW h1 hx with ⟨a1, a2⟩ | ⟨a1, ⟨a2, a3⟩ | ⟨l, a2, a3⟩⟩
      · rw [if_neg fun e => a1 e.symm]; exact h3 x a2
      · rw [if_pos a1.symm, a2, a1, ofW_none fun h => a3 ((h2 w).2 h)]; rfl
      · have := h3 _ a2
        rw [if_pos a1.symm, a3, a1, List.map_append, ← this]; rfl
theorem tabP_keys (ps : List (Wd × En)) : sortW ((tabP ps).map (·.1)) = setW (ps.map (·.1)) := by
  obtain ⟨h1, h2, _⟩ := jD ps
  have h3 : (sortW ((tabP ps).map (·.1))).Nodup := (lR _).nodup_iff.2 h1
  refine jL (((sP _).and h3).imp fun {a b} h => ?_) (cL _).1 fun x => by rw [nM, h2, (cL _).2]
  rcases List.le_iff_lt_or_eq.1 h.1 with a | a
  · exact a
  · exact absurd a h.2
theorem qW (ps : List (Wd × En)) : (tabP ps).length ≤ ps.length := by
  refine snocI (p := fun ps => (tabP ps).length ≤ ps.length) (Nat.le_refl _) ?_ ps
  rintro ps ⟨w, e⟩ ih
  have h := congrArg List.length (rG (tabP ps) w e)
  rw [List.length_map] at h
  rw [nN, h, List.length_append]
  split
  · rw [List.length_map]; omega
  · rw [List.length_append, List.length_map]
    simp only [List.length_singleton]; omega
theorem tabP_get {ps : List (Wd × En)} {w : Wd} (h : w ∈ setW (ps.map (·.1))) : ∃ (k : Nat) (l : List En), (tabP ps)[k]? = some (w, l) ∧ (∀ (q : Nat) (s : Wd × List En), q < k → (tabP ps)[q]? = some s → s.1 ≠ w) ∧ l.map (fun e => (⟨w, e.r, e.n⟩ : Po)) = (ofW ps w).map mkPo := by
  obtain ⟨h1, h2, h3⟩ := jD ps
  rcases findT (tabP ps) w with ⟨k, l, a1, a2⟩ | a
  · refine ⟨k, l, a1, a2, ?_⟩
    have h4 : l = (ofW ps w).map (·.2) := h3 (w, l) (List.mem_of_getElem? a1)
    rw [h4, List.map_map]
    refine List.map_congr_left fun p hp => ?_
    have := of_decide_eq_true (List.mem_filter.1 hp).2
    unfold mkPo
    rw [← this]; rfl
  · obtain ⟨x, hx, he⟩ := List.mem_map.1 ((h2 w).2 (((cL _).2 w).1 h))
    exact absurd he (a x hx)
theorem flat_take {α β : Type} (l : List α) (f : α → List β) (i : Nat) : ((l.take i).flatMap f).length ≤ (l.flatMap f).length := by
  conv => rhs; rw [← List.take_append_drop i l]
  rw [List.flatMap_append, List.length_append]; omega
theorem flat_step {α β : Type} {l : List α} (f : α → List β) {i : Nat} {x : α} (h : l[i]? = some x) : (l.take (i + 1)).flatMap f = (l.take i).flatMap f ++ f x := by
  rw [List.take_add_one, h, List.flatMap_append]
  simp
end Go.Proofs.YtccnhpaldmjkbaaGreat
namespace Go.Proofs.YtccnhpaldmjkbaaGreat
open Go Go.RowKit Go.Av
set_option maxRecDepth 100000
attribute [local irreducible] Still Adds AWL AW Drw DrwE EStep AC AWR Weak Frz Src RetK Out InK ItK AsK RdK
theorem mX (r : List Vl) (n : Nat) (hn : r.length = n) (hb : n ≤ 1000000) : AC Tryz.prog 85 [.sl 3 n (rc r)] (.c (.sl 3 n (rc r))) [] 0 := by
  by_cases h0 : n = 0
  · have hr : r = [] := List.eq_nil_of_length_eq_zero (by omega)
    rw [h0, hr]
    show AC Tryz.prog _ ([] ++ .sl 3 0 [] :: []) _ [] 0
    refine AC.split0 fun A c hc => ?_
    rw [List.nil_append]
    have hrc : ([] : List CV) = rc [] := rfl
    rw [← hrc]
    cases A with
    | none =>
      refine aJ tabOk (sz := 8) Tryz.func85 rfl (by rw [Tryz.ntmps85]; rfl) ?_
      repeat' (first | ((with_reducible refine aB ?_); intro K hK hX) | ((with_reducible refine aC ?_); refine aD [0, 2] rfl rfl ?_) | (((with_reducible refine aH ?_); refine xA ?_); (first | ((with_reducible refine aU ?_); (first | refine aA (wU tabOk rfl rfl rfl rfl) ?_)))) | refine stA ?_ | ((first | refine hK _ _ _ _ ?_ | refine hX _ _ _ _ _ (by simp) ?_); clear hK hX K))
      refine aK zio ztr rfl (ResL.one (ResA.tmp rfl)) zou
    | some a =>
      refine aJ tabOk (sz := 8) Tryz.func85 rfl (by rw [Tryz.ntmps85]; rfl) ?_
      repeat' (first | ((with_reducible refine aB ?_); intro K hK hX) | ((with_reducible refine aC ?_); refine aD [0, 2] rfl rfl ?_) | ((with_reducible refine gZ ?_); (refine oY tabOk aL rfl rfl rfl rfl rfl rfl rfl rfl (by first | rfl | simp) rfl src_v0 (by simp only [maxLen]; omega) (by omega) ?_)) | (((with_reducible refine aH ?_); refine xA ?_); (first | ((with_reducible refine aU ?_); (first | refine aA (wU tabOk rfl rfl rfl rfl) ?_)))) | refine stA ?_ | ((first | refine hK _ _ _ _ ?_ | refine hX _ _ _ _ _ (by simp) ?_); clear hK hX K))
      refine aK zio ztr rfl (ResL.one (ResA.tmp rfl)) zou
  · have hil : (rc r).length = n * 3 := by rw [dT, hn]
    have hp : 0 < n := by omega
    refine aJ tabOk (sz := 8) Tryz.func85 rfl (by rw [Tryz.ntmps85]; rfl) ?_
    repeat' (first | ((with_reducible refine aB ?_); intro K hK hX) | ((with_reducible refine aC ?_); refine aD [0, 2] rfl rfl ?_) | (((with_reducible refine aH ?_); refine xA ?_); (first | ((with_reducible refine aU ?_); (first | refine aA (s_eqnilC tabOk hp rfl rfl rfl rfl) ?_)))) | refine stA ?_ | ((first | refine hK _ _ _ _ ?_ | refine hX _ _ _ _ _ (by simp) ?_); clear hK hX K))
    rw [Nat.zero_add n, List.nil_append]
    refine aK zio ztr rfl (ResL.one (ResA.tmp rfl)) zou
theorem sameS_ok (l : List (List UInt8)) (n : Nat) (hn : l.length = n) (hm : n ≤ 1000000) : AC Tryz.prog 52 [.sl 1 n (strc l), .sl 1 n (strc l)] (.c (bv true)) [] 0 := by
  have hcl : (strc l).length = n := by rw [bU, hn]
  refine aJ tabOk (sz := 26) Tryz.func52 rfl (by rw [Tryz.ntmps52]; rfl) ?_
  repeat' (first | ((with_reducible refine aB ?_); intro K hK hX) | ((with_reducible refine aC ?_); refine aD [0, 1, 4, 5] rfl rfl ?_) | ((with_reducible refine aF ?_); refine aG [0, 1, 4, 5] rfl rfl ?_; refine aI [] ?_) | ((first | ((with_reducible refine aH ?_); refine xA ?_) | ((with_reducible refine aO ?_); refine xD ?_)); (first | ((with_reducible refine aU ?_); (first | refine aA (dV rfl rfl rfl (decide_eq_false (by omega))) ?_)))) | refine stA ?_ | refine stD ?_ | ((first | refine hK _ _ _ _ ?_ | refine hX _ _ _ _ _ (by simp) ?_); clear hK hX K))
  refine bC [5] [] rfl rfl (fun i : Nat => [(5, .c (iv i))]) (fun i => []) (fun i => i ≤ n) (fun i => n - i) 0 (Nat.zero_le _) weakA ?_
  intro i hi K hK hX
  by_cases hik : i < n
  · obtain ⟨x, hx⟩ : ∃ x, l[i]? = some x := ⟨_, List.getElem?_eq_getElem (by omega)⟩
    have hat := eF hx
    repeat' (first | ((with_reducible refine aB ?_); intro K hK hX) | ((with_reducible refine aC ?_); refine aD [0, 1, 4, 5] rfl rfl ?_) | ((with_reducible refine aF ?_); refine aG [0, 1, 4, 5] rfl rfl ?_; refine aI [] ?_) | ((first | ((with_reducible refine aH ?_); refine xA ?_) | ((with_reducible refine aO ?_); refine xD ?_)); (first | ((with_reducible refine aU ?_); (first | refine aA (tV rfl rfl (show (!decide (x = x)) = false by simp)) ?_)) | ((with_reducible refine aP ?_); (first | refine aA (aR tabOk rfl rfl rfl rfl (by (rw [Nat.mul_one]; exact hat))) ?_ | refine aA (aN tabOk rfl rfl rfl rfl (by (rw [Nat.mul_one]; exact hat))) ?_ | refine aA (aM tabOk rfl rfl rfl (by (rw [Nat.mul_one]; exact hat))) ?_)) | ((with_reducible refine bR ?_); (first | refine aA (s_ixV1 tabOk rfl rfl zcj rfl rfl rfl rfl rfl zle (by (rw [Nat.mul_one]; exact hat))) ?_ | refine aA (aQ tabOk rfl rfl zcj rfl rfl (by (rw [Nat.mul_one]; exact hat))) ?_)))) | refine stA ?_ | refine stD ?_ | ((first | refine hK _ _ _ _ ?_ | refine hX _ _ _ _ _ (by simp) ?_); clear hK hX K))
    exact ⟨i + 1, by omega, by omega, weakA⟩
  · have hie : i = n := by omega
    rw [hie]
    repeat' (first | ((with_reducible refine aB ?_); intro K hK hX) | ((with_reducible refine aC ?_); refine aD [0, 1, 4, 5] rfl rfl ?_) | ((with_reducible refine aF ?_); refine aG [0, 1, 4, 5] rfl rfl ?_; refine aI [] ?_) | refine stA ?_ | refine stD ?_ | ((first | refine hK _ _ _ _ ?_ | refine hX _ _ _ _ _ (by simp) ?_); clear hK hX K))
    refine aK zio ztr rfl (ResL.one (ResA.tmp rfl)) zou
end Go.Proofs.YtccnhpaldmjkbaaGreat
namespace Go.Proofs.YtccnhpaldmjkbaaGreat
open Go Go.RowKit Go.Av
set_option maxRecDepth 100000
theorem bls {x y : Wd} {b : Bool} (h : decide (x < y) = b) : Op.bytesLess x y = b := (Go.Proofs.bytesLess_eq x y).trans h
attribute [local irreducible] Still Adds AWL AW Drw DrwE EStep AC AWR Weak Frz Src RetK Out InK ItK AsK RdK
theorem rY (l : List Wd) (s : Wd) (n k : Nat) (hn : l.length = n) (hk : k ≤ n) {R : List Wd} (h : R = l.take k ++ s :: l.drop k) : 0 + (k - 0) + 1 + (n - k) = R.length ∧ ([] ++ List.take ((k - 0) * 1) (List.drop (0 * 1) (strc l)) ++ [[sv s]].flatten) ++ List.take ((n - k) * 1) (List.drop (k * 1) (strc l)) = strc R := by
  subst h
  have hd : ((strc l).drop k).length = n - k := by rw [List.length_drop, bU, hn]
  refine ⟨by rw [List.length_append, List.length_cons, List.length_take, List.length_drop]; omega, ?_⟩
  simp only [Nat.mul_one, Nat.zero_mul, List.drop_zero, Nat.sub_zero]
  rw [List.take_of_length_le (Nat.le_of_eq hd), ← strc_take, ← strc_drop]; simp [strc]
theorem rins_ok (l : List Wd) (s : Wd) (n : Nat) (hn : l.length = n) (hm : n ≤ 2000000) (hs : s.length ≤ maxLen) : AC Tryz.prog 152 [.sl 1 n (strc l), sv s] (.c (.sl 1 (insW l s).length (strc (insW l s)))) [] 0 := by
  obtain ⟨k, hk⟩ : ∃ k, idxW l s = k := ⟨_, rfl⟩
  have hkn : k ≤ n := by rw [← hk, ← hn]; exact idxW_le l s
  have hlt : ∀ j, j < k → decide (l.getD j [] < s) = true := fun j hj => decide_eq_true (idxW_lt (by rw [hk]; exact hj))
  obtain ⟨e1, e2⟩ := insW_eq l s
  rw [hk] at e1 e2
  have hge : k < n → decide (l.getD k [] < s) = false := fun h => decide_eq_false (by rw [← hk]; exact idxW_at (by rw [hk, hn]; exact h))
  have hcl : (strc l).length = n := by rw [bU, hn]
  obtain ⟨R, hR⟩ : ∃ R, insW l s = R := ⟨_, rfl⟩
  rw [hR] at e1 e2 ⊢
  refine aJ tabOk (sz := 45) Tryz.func152 rfl (by rw [Tryz.ntmps152]; rfl) ?_
  repeat' (first | ((with_reducible refine aB ?_); intro K hK hX) | ((with_reducible refine aC ?_); refine aD [0, 1, 4, 5] rfl rfl ?_) | ((with_reducible refine aF ?_); refine aG [0, 1, 4, 5] rfl rfl ?_; refine aI [] ?_) | refine stA ?_ | refine stD ?_ | ((first | refine hK _ _ _ _ ?_ | refine hX _ _ _ _ _ (by simp) ?_); clear hK hX K))
  refine bC [5] [] rfl rfl (fun i : Nat => [(5, .c (iv i))]) (fun i => []) (fun i => i ≤ k) (fun i => k - i) 0 (Nat.zero_le _) weakA ?_
  intro i hi K hK hX
  by_cases hik : i < k
  · have hat := eF (jI (l := l) (i := i) (by omega))
    have hl2 := bls (hlt i hik)
    clear e1 e2 hge hlt
    generalize l.getD i [] = x at *
    have hin : i < n := by omega
    repeat' (first | ((with_reducible refine aB ?_); intro K hK hX) | ((with_reducible refine aC ?_); refine aD [0, 1, 4, 5] rfl rfl ?_) | ((with_reducible refine aF ?_); refine aG [0, 1, 4, 5] rfl rfl ?_; refine aI [] ?_) | ((first | ((with_reducible refine aH ?_); refine xA ?_) | ((with_reducible refine aO ?_); refine xD ?_)); (first | ((with_reducible refine aU ?_); (first | refine aA (fM rfl rfl hl2) ?_)) | ((with_reducible refine aP ?_); (first | refine aA (aR tabOk rfl rfl rfl rfl (by (rw [Nat.mul_one]; exact hat))) ?_ | refine aA (aN tabOk rfl rfl rfl rfl (by (rw [Nat.mul_one]; exact hat))) ?_ | refine aA (aM tabOk rfl rfl rfl (by (rw [Nat.mul_one]; exact hat))) ?_)) | ((with_reducible refine bR ?_); (first | refine aA (s_ixV1 tabOk rfl rfl zcj rfl rfl rfl rfl rfl zle (by (rw [Nat.mul_one]; exact hat))) ?_ | refine aA (aQ tabOk rfl rfl zcj rfl rfl (by (rw [Nat.mul_one]; exact hat))) ?_)))) | refine stA ?_ | refine stD ?_ | ((first | refine hK _ _ _ _ ?_ | refine hX _ _ _ _ _ (by simp) ?_); clear hK hX K))
    exact ⟨i + 1, by omega, by omega, weakA⟩
  · have hie : i = k := by omega
    rw [hie]
    clear hlt hik hi
    have ht : ((strc l).take k).length = k := by rw [List.length_take]; omega
    have hd : ((strc l).drop k).length = n - k := by rw [List.length_drop]; omega
    by_cases hkl : k < n
    · have hat := eF (jI (l := l) (i := k) (by omega))
      have hl2 := bls (hge hkl)
      by_cases heq : l.getD k [] = s
      · have hr := e1 (by omega) heq
        have w1 : n = R.length := by rw [hr, hn]
        have w2 : strc l = strc R := by rw [hr]
        clear e1 e2 hge hr
        generalize l.getD k [] = x at *
        repeat' (first | ((with_reducible refine aB ?_); intro K hK hX) | ((with_reducible refine aC ?_); refine aD [0, 1, 4, 5] rfl rfl ?_) | ((with_reducible refine aF ?_); refine aG [0, 1, 4, 5] rfl rfl ?_; refine aI [] ?_) | ((first | ((with_reducible refine aH ?_); refine xA ?_) | ((with_reducible refine aO ?_); refine xD ?_)); (first | ((with_reducible refine aU ?_); (first | refine aA (fM rfl rfl hl2) ?_ | refine aA (cC rfl rfl (decide_eq_true heq)) ?_)) | ((with_reducible refine aP ?_); (first | refine aA (aR tabOk rfl rfl rfl rfl (by (rw [Nat.mul_one]; exact hat))) ?_ | refine aA (aN tabOk rfl rfl rfl rfl (by (rw [Nat.mul_one]; exact hat))) ?_ | refine aA (aM tabOk rfl rfl rfl (by (rw [Nat.mul_one]; exact hat))) ?_)) | ((with_reducible refine bR ?_); (first | refine aA (s_ixV1 tabOk rfl rfl zcj rfl rfl rfl rfl rfl zle (by (rw [Nat.mul_one]; exact hat))) ?_ | refine aA (aQ tabOk rfl rfl zcj rfl rfl (by (rw [Nat.mul_one]; exact hat))) ?_)))) | refine stA ?_ | refine stD ?_ | ((first | refine hK _ _ _ _ ?_ | refine hX _ _ _ _ _ (by simp) ?_); clear hK hX K))
        refine aK zio ztr rfl (ResL.one (ResA.tmp rfl)) (cE (bO (bY bL) (dA w1 w2)))
      · obtain ⟨w1, w2⟩ := rY l s n k hn hkn (e2 fun _ => heq)
        clear e1 e2 hge hk
        generalize l.getD k [] = x at *
        repeat' (first | ((with_reducible refine aB ?_); intro K hK hX) | ((with_reducible refine aC ?_); refine aD [0, 1, 4, 5] rfl rfl ?_) | ((with_reducible refine aF ?_); refine aG [0, 1, 4, 5] rfl rfl ?_; refine cJ [] ?_) | ((first | ((with_reducible refine aH ?_); refine xA ?_) | ((with_reducible refine cN ?_); refine xE ?_)); (first | ((with_reducible refine aU ?_); (first | refine aA (fM rfl rfl hl2) ?_ | refine aA (cC rfl rfl (decide_eq_false heq)) ?_)) | ((with_reducible refine aP ?_); (first | refine aA (aR tabOk rfl rfl rfl rfl (by (rw [Nat.mul_one]; exact hat))) ?_ | refine aA (aN tabOk rfl rfl rfl rfl (by (rw [Nat.mul_one]; exact hat))) ?_ | refine aA (aM tabOk rfl rfl rfl (by (rw [Nat.mul_one]; exact hat))) ?_)) | ((with_reducible refine bR ?_); (first | refine aA (s_ixV1 tabOk rfl rfl zcj rfl rfl rfl rfl rfl zle (by (rw [Nat.mul_one]; exact hat))) ?_ | refine aA (aQ tabOk rfl rfl zcj rfl rfl (by (rw [Nat.mul_one]; exact hat))) ?_)))) | refine stA ?_ | refine stE ?_ | ((first | refine hK _ _ _ _ ?_ | refine hX _ _ _ _ _ (by simp) ?_); clear hK hX K))
        refine aK zio ztr rfl (ResL.one (ResA.tmp rfl)) (cE (bO (cD rfl rfl (by rw [w2, bU, ← w1, Nat.mul_one])) (dA w1 w2)))
    · obtain ⟨w1, w2⟩ := rY l s n k hn hkn (e2 fun h => absurd (by omega) hkl)
      clear e1 e2 hge hk
      repeat' (first | ((with_reducible refine aB ?_); intro K hK hX) | ((with_reducible refine aC ?_); refine aD [0, 1, 4, 5] rfl rfl ?_) | ((with_reducible refine aF ?_); refine aG [0, 1, 4, 5] rfl rfl ?_; refine cJ [] ?_) | refine stA ?_ | refine stE ?_ | ((first | refine hK _ _ _ _ ?_ | refine hX _ _ _ _ _ (by simp) ?_); clear hK hX K))
      refine aK zio ztr rfl (ResL.one (ResA.tmp rfl)) (cE (bO (cD rfl rfl (by rw [w2, bU, ← w1, Nat.mul_one])) (dA w1 w2)))
end Go.Proofs.YtccnhpaldmjkbaaGreat
