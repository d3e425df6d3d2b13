/-
  Joined texts: U1 AvSw AvSo AvCl U2 LyS AvSr U4 U5 U3 U6 U7. Lemmas; no statement of a law.
-/
import Derived.Lib.SliceRun
import Derived.Laws.Cover3
import Derived.Laws.CopyRow
import Derived.Shelf.SortM.Plain
import Derived.Shelf.SortM.SortNone
import Derived.Test.YtccnhpaldmjkbaaProg
import Derived.Sort.Grow
import Derived.Test.YtccnhpaldmjkbaaM1
import Derived.Test.YtccnhpaldmjkbaaM2
import Derived.Test.YtccnhpaldmjkbaaM3
import Derived.Test.YtccnhpaldmjkbaaM4
import Derived.Test.YtccnhpaldmjkbaaM5
import Derived.Test.YtccnhpaldmjkbaaM6
import Derived.Test.YtccnhpaldmjkbaaM7
import Derived.Test.YtccnhpaldmjkbaaM9
import Derived.Test.YtccnhpaldmjkbaaM10
/-
  Ascending lists of different numbers: the cells of bottom-k sketches. Plain.
-/
set_option linter.unusedVariables false
set_option linter.unusedSimpArgs false
namespace Go.Proofs.Ytccnhpaldmjkbaa
open Go Go.RowKit Go.Av
set_option maxRecDepth 100000
theorem at_eq {α : Type} {l : List α} {i j : Nat} {x : α} (h : l[i]? = some x) (e : j = i) : l[j]? = some x := e ▸ h
theorem gD_at {l : List Int} {i : Nat} (h : i < l.length) : l[i]? = some (l.getD i 0) := by
  rw [List.getD_eq_getElem?_getD, List.getElem?_eq_getElem h]; rfl
/-- Ascending, all different. -/
def ascI (l : List Int) : Prop := l.Pairwise (· < ·)
theorem ascI_ext : ∀ {l m : List Int}, ascI l → ascI m → (∀ x, x ∈ l ↔ x ∈ m) → l = m
  | [], [], _, _, _ => rfl
  | [], y :: m, _, _, h => absurd ((h y).2 (by simp)) (by simp)
  | x :: l, [], _, _, h => absurd ((h x).1 (by simp)) (by simp)
  | x :: l, y :: m, hl, hm, h => by
    obtain ⟨h1, h2⟩ := List.pairwise_cons.1 hl
    obtain ⟨h3, h4⟩ := List.pairwise_cons.1 hm
    have e : x = y := by
      have a := (h x).1 (by simp)
      have b := (h y).2 (by simp)
      rcases List.mem_cons.1 a with a | a
      · exact a
      · rcases List.mem_cons.1 b with b | b
        · exact b.symm
        · have := h1 y b
          have := h3 x a
          omega
    subst e
    rw [ascI_ext h2 h4 fun z => ⟨fun hz => ?_, fun hz => ?_⟩]
    · have := h1 z hz
      rcases List.mem_cons.1 ((h z).1 (by simp [hz])) with e | e
      · omega
      · exact e
    · have := h3 z hz
      rcases List.mem_cons.1 ((h z).2 (by simp [hz])) with e | e
      · omega
      · exact e
/-- What stands in front of place m, each number that follows itself once. -/
def compN (l : List Int) : Nat → List Int
  | 0 => []
  | m + 1 => if 0 < m ∧ l.getD m 0 = l.getD (m - 1) 0 then compN l m else compN l m ++ [l.getD m 0]
theorem compN_length (l : List Int) : ∀ m, (compN l m).length ≤ m
  | 0 => Nat.le_refl _
  | m + 1 => by
    have := compN_length l m
    rw [compN]
    split
    · omega
    · rw [List.length_append, List.length_singleton]; omega
theorem take_getD {l : List Int} {m : Nat} (h : m < l.length) : l.take (m + 1) = l.take m ++ [l.getD m 0] := by
  rw [List.take_add_one, gD_at h, Option.toList_some]
theorem getD_mem_take {l : List Int} {j m : Nat} (h : j < m) (hm : m ≤ l.length) : l.getD j 0 ∈ l.take m := by
  have h1 : l[j]? = some (l.getD j 0) := gD_at (by omega)
  exact List.mem_of_getElem? (i := j) (by rw [List.getElem?_take_of_lt h]; exact h1)
theorem mem_take_getD {l : List Int} {x : Int} {m : Nat} (h : x ∈ l.take m) : ∃ j, j < m ∧ j < l.length ∧ l.getD j 0 = x := by
  obtain ⟨j, hj⟩ := List.mem_iff_getElem?.1 h
  have h1 := (List.getElem?_eq_some_iff.1 hj).1
  rw [List.length_take] at h1
  rw [List.getElem?_take_of_lt (by omega)] at hj
  exact ⟨j, by omega, by omega, by rw [List.getD_eq_getElem?_getD, hj]; rfl⟩
theorem srt_getD {l : List Int} (hs : l.Pairwise (· ≤ ·)) {i j : Nat} (hij : i ≤ j) (hj : j < l.length) : l.getD i 0 ≤ l.getD j 0 := by
  by_cases e : i = j
  · rw [e]; exact Int.le_refl _
  · have := List.pairwise_iff_getElem.1 hs i j (by omega) hj (by omega)
    have h1 : l[i]? = some (l.getD i 0) := gD_at (by omega)
    have h2 : l[j]? = some (l.getD j 0) := gD_at hj
    rw [List.getElem?_eq_getElem (by omega)] at h1 h2
    injection h1 with h1
    injection h2 with h2
    omega
theorem compN_facts {l : List Int} (hs : l.Pairwise (· ≤ ·)) : ∀ m, m ≤ l.length → ascI (compN l m) ∧ ∀ x, x ∈ compN l m ↔ x ∈ l.take m
  | 0, _ => ⟨List.Pairwise.nil, fun x => by simp [compN]⟩
  | m + 1, hm => by
    obtain ⟨h1, h2⟩ := compN_facts hs m (by omega)
    have ht := take_getD (l := l) (m := m) (by omega)
    rw [compN]
    split
    · rename_i h3
      refine ⟨h1, fun x => ?_⟩
      rw [h2, ht, List.mem_append, List.mem_singleton]
      refine ⟨fun h => .inl h, fun h => h.elim id fun e => ?_⟩
      rw [e, h3.2]
      exact getD_mem_take (by omega) (by omega)
    · rename_i h3
      refine ⟨List.pairwise_append.2 ⟨h1, List.pairwise_singleton _ _, fun x hx y hy => ?_⟩, fun x => by rw [List.mem_append, h2, ht, List.mem_append]⟩
      have hy : y = l.getD m 0 := by simpa using hy
      subst hy
      obtain ⟨j, hj, hjl, rfl⟩ := mem_take_getD ((h2 x).1 hx)
      have a1 := srt_getD hs (i := j) (j := m - 1) (by omega) (by omega)
      have a2 := srt_getD hs (i := m - 1) (j := m) (by omega) (by omega)
      have : l.getD m 0 ≠ l.getD (m - 1) 0 := fun e => h3 ⟨by omega, e⟩
      omega
def sortI (l : List Int) : List Int := l.mergeSort fun x y => decide (x ≤ y)
theorem sortI_perm (l : List Int) : (sortI l).Perm l := List.mergeSort_perm l _
theorem sortI_length (l : List Int) : (sortI l).length = l.length := (sortI_perm l).length_eq
theorem sortI_mem {l : List Int} {x : Int} : x ∈ sortI l ↔ x ∈ l := (sortI_perm l).mem_iff
theorem sortI_srt (l : List Int) : (sortI l).Pairwise (· ≤ ·) := by
  have := List.pairwise_mergeSort (le := fun x y : Int => decide (x ≤ y)) (fun a b c h1 h2 => by simp only [decide_eq_true_eq] at *; omega) (fun a b => by simp only [Bool.or_eq_true, decide_eq_true_eq]; omega) l
  exact this.imp fun h => of_decide_eq_true h
/-- The different numbers of a list, ascending. -/
def ascL (l : List Int) : List Int := compN (sortI l) l.length
theorem ascL_facts (l : List Int) : ascI (ascL l) ∧ ∀ x, x ∈ ascL l ↔ x ∈ l := by
  obtain ⟨h1, h2⟩ := compN_facts (sortI_srt l) l.length (by rw [sortI_length]; exact Nat.le_refl _)
  refine ⟨h1, fun x => ?_⟩
  unfold ascL
  rw [h2, List.take_of_length_le (by rw [sortI_length]; exact Nat.le_refl _), sortI_mem]
theorem ascL_congr {l m : List Int} (h : ∀ x, x ∈ l ↔ x ∈ m) : ascL l = ascL m :=
  ascI_ext (ascL_facts l).1 (ascL_facts m).1 fun x => by rw [(ascL_facts l).2, (ascL_facts m).2, h]
theorem ascL_asc {l : List Int} (h : ascI l) : ascL l = l := ascI_ext (ascL_facts l).1 h (ascL_facts l).2
theorem ascL_length (l : List Int) : (ascL l).length ≤ l.length := compN_length _ _
/-- The smallest w different numbers of a list, ascending. -/
def smallI (w : Nat) (l : List Int) : List Int := (ascL l).take w
theorem smallI_congr {w : Nat} {l m : List Int} (h : ∀ x, x ∈ l ↔ x ∈ m) : smallI w l = smallI w m := by unfold smallI; rw [ascL_congr h]
theorem smallI_asc (w : Nat) (l : List Int) : ascI (smallI w l) := (ascL_facts l).1.sublist (List.take_sublist _ _)
theorem smallI_sub {w : Nat} {l : List Int} {x : Int} (h : x ∈ smallI w l) : x ∈ l := ((ascL_facts l).2 x).1 (List.mem_of_mem_take h)
theorem smallI_length (w : Nat) (l : List Int) : (smallI w l).length ≤ w := by unfold smallI; rw [List.length_take]; omega
/-- The first ones of a greater list are the first ones of a smaller list. -/
theorem asc_take : ∀ (w : Nat) {A L : List Int}, ascI A → ascI L → (∀ x ∈ L, x ∈ A) → ∀ x, x ∈ L → x ∈ A.take w → x ∈ L.take w
  | 0, A, L, _, _, _, x, _, h => by simp at h
  | w + 1, [], L, _, _, _, x, _, h => by simp at h
  | w + 1, a :: A, [], _, _, _, x, h, _ => by cases h
  | w + 1, a :: A, y :: L, hA, hL, hs, x, hx, hw => by
    obtain ⟨h1, h2⟩ := List.pairwise_cons.1 hA
    obtain ⟨h3, h4⟩ := List.pairwise_cons.1 hL
    have hay : a ≤ y := by
      rcases List.mem_cons.1 (hs y (by simp)) with e | e
      · omega
      · have := h1 y e; omega
    rw [List.take_succ_cons] at hw ⊢
    rcases List.mem_cons.1 hx with e | hx
    · rw [e]; simp
    · have hyx := h3 x hx
      refine List.mem_cons_of_mem _ (asc_take w h2 h4 (fun z hz => ?_) x hx ?_)
      · have := h3 z hz
        rcases List.mem_cons.1 (hs z (by simp [hz])) with e | e
        · omega
        · exact e
      · rcases List.mem_cons.1 hw with e | e
        · omega
        · exact e
theorem asc_take_eq : ∀ (w : Nat) {A B : List Int}, ascI A → ascI B → (∀ x ∈ B, x ∈ A) → (∀ x ∈ A.take w, x ∈ B) → A.take w = B.take w
  | 0, A, B, _, _, _, _ => by simp
  | w + 1, [], [], _, _, _, _ => rfl
  | w + 1, [], b :: B, _, _, h, _ => absurd (h b (by simp)) (by simp)
  | w + 1, a :: A, [], _, _, _, h => absurd (h a (by simp)) (by simp)
  | w + 1, a :: A, b :: B, hA, hB, hs, ht => by
    obtain ⟨h1, h2⟩ := List.pairwise_cons.1 hA
    obtain ⟨h3, h4⟩ := List.pairwise_cons.1 hB
    have e : a = b := by
      have p := hs b (by simp)
      have q := ht a (by simp)
      rcases List.mem_cons.1 p with p | p
      · exact p.symm
      · rcases List.mem_cons.1 q with q | q
        · exact q
        · have := h1 b p
          have := h3 a q
          omega
    subst e
    rw [List.take_succ_cons, List.take_succ_cons, asc_take_eq w h2 h4 (fun x hx => ?_) (fun x hx => ?_)]
    · have := h3 x hx
      rcases List.mem_cons.1 (hs x (by simp [hx])) with e | e
      · omega
      · exact e
    · have := h1 x (List.mem_of_mem_take hx)
      rcases List.mem_cons.1 (ht x (by rw [List.take_succ_cons]; simp [hx])) with e | e
      · omega
      · exact e
theorem small_app (w : Nat) (l m : List Int) : smallI w (smallI w l ++ m) = smallI w (l ++ m) := by
  symm
  refine asc_take_eq w (ascL_facts _).1 (ascL_facts _).1 (fun x hx => ?_) (fun x hx => ?_)
  · have h1 := ((ascL_facts _).2 x).1 hx
    refine ((ascL_facts _).2 x).2 ?_
    rcases List.mem_append.1 h1 with h | h
    · exact List.mem_append.2 (.inl (smallI_sub h))
    · exact List.mem_append.2 (.inr h)
  · have h1 := ((ascL_facts _).2 x).1 (List.mem_of_mem_take hx)
    refine ((ascL_facts _).2 x).2 ?_
    rcases List.mem_append.1 h1 with h | h
    · refine List.mem_append.2 (.inl ?_)
      refine asc_take w (ascL_facts (l ++ m)).1 (ascL_facts l).1 (fun z hz => ?_) x (((ascL_facts l).2 x).2 h) hx
      exact ((ascL_facts _).2 z).2 (List.mem_append.2 (.inl (((ascL_facts l).2 z).1 hz)))
    · exact List.mem_append.2 (.inr h)
theorem app_mem (l m : List Int) (x : Int) : x ∈ l ++ m ↔ x ∈ m ++ l := by rw [List.mem_append, List.mem_append]; exact Or.comm
theorem small_app2 (w : Nat) (l m : List Int) : smallI w (smallI w l ++ smallI w m) = smallI w (l ++ m) := by
  rw [small_app, smallI_congr (app_mem l (smallI w m)), small_app, smallI_congr (app_mem m l)]
/-- Cells of a bottom-k sketch. -/
def hashP (w : Nat) (l : List Int) : Prop := l.length ≤ w ∧ ascI l ∧ ∀ x ∈ l, 0 ≤ x ∧ x < 4611686018427387904
theorem smallI_P {w : Nat} {l : List Int} (h : ∀ x ∈ l, 0 ≤ x ∧ x < 4611686018427387904) : hashP w (smallI w l) := ⟨smallI_length w l, smallI_asc w l, fun x hx => h x (smallI_sub hx)⟩
/-- The row while equal numbers are taken away: what is kept, and what stood behind. -/
def rowN (l : List Int) (m : Nat) : List Int := compN l m ++ l.drop (compN l m).length
theorem rowN_length {l : List Int} {m : Nat} (h : m ≤ l.length) : (rowN l m).length = l.length := by
  have := compN_length l m
  unfold rowN
  rw [List.length_append, List.length_drop]; omega
theorem rowN_zero (l : List Int) : rowN l 0 = l := rfl
theorem rowN_at {l : List Int} {m j : Nat} (h : m ≤ j + 1) (hj : j < l.length) (hk : (compN l m).length ≤ j) : (rowN l m).getD j 0 = l.getD j 0 := by
  have := compN_length l m
  unfold rowN
  rw [List.getD_eq_getElem?_getD, List.getElem?_append_right hk, List.getElem?_drop, List.getD_eq_getElem?_getD]
  congr 2
  omega
theorem rowN_skip {l : List Int} {m : Nat} (h0 : 0 < m) (h : l.getD m 0 = l.getD (m - 1) 0) : compN l (m + 1) = compN l m ∧ rowN l (m + 1) = rowN l m := by
  have : compN l (m + 1) = compN l m := by rw [compN, if_pos ⟨h0, h⟩]
  exact ⟨this, by unfold rowN; rw [this]⟩
theorem rowN_keep {l : List Int} {m : Nat} (hm : m < l.length) (h : ¬ (0 < m ∧ l.getD m 0 = l.getD (m - 1) 0)) : (compN l (m + 1)).length = (compN l m).length + 1 ∧ rowN l (m + 1) = (rowN l m).set (compN l m).length (l.getD m 0) := by
  have e : compN l (m + 1) = compN l m ++ [l.getD m 0] := by rw [compN, if_neg h]
  have hl := compN_length l m
  refine ⟨by rw [e, List.length_append]; rfl, ?_⟩
  unfold rowN
  rw [e, List.length_append, List.length_singleton, List.set_append_right _ _ (Nat.le_refl _), Nat.sub_self, List.drop_eq_getElem_cons (i := (compN l m).length) (by omega), List.set_cons_zero, List.append_assoc]
  rfl
theorem rowN_full {l : List Int} {m : Nat} (hm : m < l.length) (hk : (compN l m).length = m) (h : ¬ (0 < m ∧ l.getD m 0 = l.getD (m - 1) 0)) (hr : rowN l m = l) : (compN l (m + 1)).length = m + 1 ∧ rowN l (m + 1) = l := by
  obtain ⟨h1, h2⟩ := rowN_keep hm h
  refine ⟨by omega, ?_⟩
  rw [h2, hr, hk]
  refine List.ext_getElem? fun j => ?_
  rw [List.getElem?_set]
  split
  · rename_i e; subst e; first | exact (gD_at hm).symm | (rw [if_pos hm]; exact (gD_at hm).symm)
  · rfl
theorem rowN_take {l : List Int} {m : Nat} : (rowN l m).take (compN l m).length = compN l m := by
  unfold rowN
  rw [List.take_append_of_le_length (Nat.le_refl _), List.take_length]
end Go.Proofs.Ytccnhpaldmjkbaa
/-
  Contracts of functions that write into a slice of the caller's. For every program.
-/
set_option linter.unusedVariables false
set_option linter.unusedSimpArgs false
namespace Go.Av
open Go Go.RowKit

/-- A value that holds no address. -/
def plB : AV → Bool
  | .c (.v _) => true
  | .tup xs => xs.all fun x => match x with | .c (.v _) => true | _ => false
  | _ => false
theorem plL_rep {C C' : Cx} : ∀ {xs : List AV} {us : List Value}, (xs.all fun x => match x with | .c (.v _) => true | _ => false) = true → RepL C xs us → RepL C' xs us
  | [], us, _, h => by simpa [RepL] using h
  | x :: xs, us, hp, h => by
    simp only [List.all_cons, Bool.and_eq_true] at hp
    simp only [RepL] at h ⊢
    obtain ⟨u, us', rfl, h2, h3⟩ := h
    refine ⟨u, us', rfl, ?_, plL_rep hp.2 h3⟩
    match x, hp.1, h2 with
    | .c (.v y), _, h2 => simpa [Rep, RepC] using h2
theorem plB_rep {C C' : Cx} {v : AV} {u : Value} (hp : plB v = true) (h : Rep C v u) : Rep C' v u := by
  match v, hp, h with
  | .c (.v y), _, h => simpa [Rep, RepC] using h
  | .tup xs, hp, h =>
    simp only [Rep] at h ⊢
    obtain ⟨us, h1, h2⟩ := h
    exact ⟨us, h1, plL_rep hp h2⟩
/-- The row that a slice of the caller's shows (n elements, closed cells c0) is c1 after the call; the other arguments are closed, the result holds no address. -/
def ACS (P : Program) (f : FuncId) (E : TypeId) (size n : Nat) (c0 args c1 : List CV) (r : AV) : Prop :=
  ∀ (ok : Nat → Prop) (w : World) (g cap : Nat) (us0 vs0 vs : List Value), ¬ ok g → w.heap[g]? = some (.cells (us0 ++ vs0).toArray E (0, 0)) → RepCs ok w c0 us0 → (∀ u ∈ us0, u.oneCell' = true) → n ≤ cap → cap ≤ maxLen → us0.length + vs0.length = cap * size → RepCs ok w args vs →
    Calls P f (Value.slice (some ⟨g, 0, none⟩) n cap :: vs).toArray w fun e w' => ∃ v us1 vs1, e = .returned v ∧ FrB w [g] w' ∧ w'.heap[g]? = some (.cells (us1 ++ vs1).toArray E (0, 0)) ∧ us1.length + vs1.length = cap * size ∧ RepCs (okg ok w g) w' c1 us1 ∧ (∀ u ∈ us1, u.oneCell' = true) ∧ ∀ C : Cx, Rep C r v
theorem ACS.eq {P : Program} {f : FuncId} {E : TypeId} {size n : Nat} {c0 args c1 c1' : List CV} {r r' : AV} (h : ACS P f E size n c0 args c1 r) (h1 : c1 = c1') (h2 : r = r') : ACS P f E size n c0 args c1' r' := h1 ▸ h2 ▸ h

section call
variable {P : Program} {ev : Evl} {h : Heap} {d : Option Tmp} {ty : TypeId} {pos : String} {aft : Array Edge} {gd : Option (Nat × Bool)} {i : Nat} {f : FuncId} {x0 : Operand} {xs : List Operand} {ats : Array TypeId} {E : TypeId} {c0 c1 cs cs' : List CV} {r : AV} {id size m : Nat}
theorem e_callS (hac : ACS P f E size m c0 cs' c1 r) (hb : Body P f) (hm : 0 < m) (hx0 : ev x0 = some (.own id 0 m size true)) (ho : lk h id = some (.row E c0)) (hx : argsC ev xs = some cs) (hcv : CvL cs cs') :
    EStep P ⟨d, .call ⟨.value (.func f), (x0 :: xs).toArray, ats⟩, ty, pos, aft, gd⟩ ev h r [] (some (id, some (.row E c1))) i i := by
  intro B dom M H w a K Q hh hn hc he hK
  have hargs : RepCs (okOf B dom M H) w cs (xs.map a.eval) := RepL.toC (C := ⟨dom, M, okOf B dom M H, w⟩) (evs_rep he (by rw [argsC_eq hx, List.map_map]; rfl))
  have hp := he x0 _ hx0
  simp only [Rep] at hp
  obtain ⟨hid, hp⟩ := hp
  rcases hp with ⟨h1, _⟩ | ⟨g, cap, hM, hp, hncap, hcap, hfull⟩ | ⟨h1, _⟩
  · omega
  · obtain ⟨us0, vs0, hb0, hus0, hone0⟩ := obj_row hh hc ho hid hM
    have hng : ¬ okOf B dom M H g := fun hk => hk.2 id _ hid (hh id _ ho hid) hM
    have hlen0 : us0.length + vs0.length = cap * size := by
      obtain ⟨e, hsh⟩ := hfull trivial
      unfold World.shape? at hsh
      rw [hb0] at hsh
      simp only [Option.some.injEq, Prod.mk.injEq, List.size_toArray, List.length_append] at hsh
      omega
    unfold Oper.wp execOp
    simp only [resolve, Deferred.ofValue, Act.eval, invoke, Sem.run_bind, Sem.run_pure, Result.andThen_ok, List.map_toArray, Array.append_empty, Body.run hb, Oper.upon]
    rw [show (#[] ++ (List.map a.eval (x0 :: xs)).toArray : Array Value) = (Value.slice (some ⟨g, 0, none⟩) m cap :: List.map a.eval xs).toArray by simp [hp]]
    refine (hac _ w g cap us0 vs0 _ hng hb0 hus0 hone0 hncap hcap hlen0 (hcv _ _ _ hargs)).mono ?_
    rintro e w' ⟨v, us1, vs1, rfl, hfr, hb1, hlen1, hus1, hone1, hv⟩
    simp only
    have hgs := lt_of_block hb0
    have hg1 : (w'.putObj g (.cells (us0 ++ vs0).toArray E (0, 0))).heap[g]? = some (.cells (us0 ++ vs0).toArray E (0, 0)) := World.putObj_heap_same (lt_of_block hb1)
    have ho1 : ∀ k, k ≠ g → (w'.putObj g (.cells (us0 ++ vs0).toArray E (0, 0))).heap[k]? = w'.heap[k]? := fun k hk => World.putObj_heap_other (fun e => hk e)
    generalize hw1 : w'.putObj g (.cells (us0 ++ vs0).toArray E (0, 0)) = w1 at hg1 ho1
    have hs1 : w1.heap.size = w'.heap.size := by rw [← hw1]; simp [World.putObj]
    have hbl : Below w.heap.size w w1 := ⟨by rw [← hw1]; exact hfr.os, by rw [← hw1]; exact hfr.tape, by rw [← hw1]; exact hfr.output, by rw [hs1]; exact hfr.size, fun k hk => by
      by_cases e : k = g
      · subst e; rw [hg1, hb0]
      · rw [ho1 k e]; exact hfr.block k hk (by simp [e])⟩
    have hgr := hc.grow hbl i i (M' := M) (fun id _ => rfl) (fun id h1 h2 => by omega) (fun id o h1 h2 => by omega) (fun id id' o o' g h1 h2 => by omega) (fun hext id o h1 h2 => by omega)
    rw [ad_self] at hgr
    obtain ⟨g1, g2⟩ := hgr
    have hmon : Keeps (okg (okOf B dom M H) w g) (okOf B dom M (ov (some (id, some (.row E c1))) H)) w' w' := fun b hb hl => by
      refine ⟨⟨?_, fun k o hk hH he => ?_⟩, hl, rfl⟩
      · rcases hb.1 with h1 | h1
        · exact h1.1
        · exact .inr (.inl (Nat.le_trans hc.fr.size h1))
      · by_cases e : k = id
        · subst e
          rw [hM] at he
          injection he with he
          exact hb.2 he.symm
        · rw [ov_ne (fun x hx => e (congrArg Prod.fst (Option.some.inj hx)).symm)] at hH
          rcases hb.1 with h1 | h1
          · exact h1.2 k o hk hH he
          · have := (hc.obj k o hk hH).lt b he
            simp only at this
            omega
    obtain ⟨k1, k2⟩ := g1.turnE (o' := .row E c1) (w' := w') hid (hh id _ ho hid) hM (by rw [← hw1]; rfl) (by rw [← hw1]; rfl) (by rw [← hw1]; rfl) hs1.symm (fun k hk => (ho1 k hk).symm)
      (by
        unfold World.shape?
        rw [hb1, hg1]
        simp only [List.size_toArray, List.length_append]
        rw [hlen1, hlen0])
      (fun hext => .inr ⟨g, us1, vs1, rfl, hb1, RepCs.mono hmon _ _ hus1, hone1⟩)
    rw [ad_self] at hK
    exact hK v w' M (g2.trans k2) k1 (hv _)
  · omega
end call
section
variable {P : Program} {sz n : Nat} {env : Env} {h : Heap} {dfs : Defs} {K : AK} {ops : Array Oper} {rest : List Oper} {d : Option Tmp} {ty : TypeId} {pos : String} {aft : Array Edge} {gd : Option (Nat × Bool)} {f : FuncId} {x0 : Operand} {xs : List Operand} {ats : Array TypeId} {E : TypeId} {c0 c0' c1 cs cs' : List CV} {r : AV} {id size m : Nat}
theorem awl_callS (hac : ACS P f E size m c0 cs' c1 r) (hg : guardA ops env ⟨d, .call ⟨.value (.func f), (x0 :: xs).toArray, ats⟩, ty, pos, aft, gd⟩ true) (hd : dstOk d sz = true) (hb : Body P f) (hm : 0 < m) (hx0 : evA env x0 = some (.own id 0 m size true)) (ho : lk h id = some (.row E c0')) (h0 : c0' = c0) (hx : argsC (evA env) xs = some cs) (hcv : CvL cs cs')
    (next : AWL P ops sz rest K n (putE env d r) ((id, .row E c1) :: h) dfs) : AWL P ops sz (⟨d, .call ⟨.value (.func f), (x0 :: xs).toArray, ats⟩, ty, pos, aft, gd⟩ :: rest) K n env h dfs := by
  subst h0
  exact awl_est (c := some (id, some (.row E c1))) (Δ := []) hg hd (Nat.le_refl _) rfl (e_callS hac hb hm hx0 ho hx hcv) (fun id h1 h2 => by omega) (by simp) next
end
section enter
def RetS (P : Program) (tab : Tab) (rs : List ResultVar) (E : TypeId) (size n : Nat) (c1 : List CV) (r : AV) : AK :=
  fun e k env h dfs => (e = .normal ∨ e = .ret) ∧ IdleD P h dfs ∧ framM dfs = some [.own 0 0 n size true] ∧ 0 < k ∧ lk (endD h dfs) 0 = some (.row E c1) ∧ ∃ v, ResL tab env (endD h dfs) rs v ∧ plB v = true ∧ v = r
theorem retS_mk {P : Program} {tab : Tab} {rs : List ResultVar} {E : TypeId} {size n : Nat} {c1 c1' : List CV} {r : AV} {v : AV} {h h' : Heap} {k : Nat} {e : Exit} {env : Env} {dfs : Defs} (he : e = .normal ∨ e = .ret) (hd : IdleD P h dfs) (hm : framM dfs = some [.own 0 0 n size true]) (hh : endD h dfs = h') (hk : Nat.blt 0 k = true) (ho : lk h' 0 = some (.row E c1')) (hc : c1' = c1) (hv : ResL tab env h' rs v) (hp : plB v = true) (hr : v = r) : RetS P tab rs E size n c1 r e k env h dfs :=
  ⟨he, hd, hm, by simpa [Nat.blt_eq] using hk, by rw [hh, ho, hc], v, hh ▸ hv, hp, hr⟩
theorem acs_enter {P : Program} {tab : Tab} (tb : TabOk P tab) {f : FuncId} {fn : Func} {c : Code} {E : TypeId} {size n : Nat} {c0 args c1 : List CV} {r : AV} {sz : Nat} (hf : P.funcs[f]? = some fn) (hb : fn.body = some c) (hsz : max fn.ntmps (args.length + 1) = sz) (hn0 : 0 < n)
    (hx : AW P sz c (RetS P tab fn.results.toList E size n c1 r) 1 (enumA 0 (.own 0 0 n size true :: args.map AV.c)) [(0, .row E c0)] [(none, [.own 0 0 n size true])]) : ACS P f E size n c0 args c1 r := by
  intro ok w g cap us0 vs0 vs hng hb0 hc0 hone0 hncap hcap hlen0 hvs
  have hlen := hvs.length
  have hok : ∀ b, ok b → okOf ⟨w, [g], ok, [.slice (some ⟨g, 0, none⟩) n cap]⟩ (lt 1) (fun _ => some g) (lk [(0, .row E c0)]) b := fun b hk => ⟨.inl hk, fun id o hid hH he => by
    injection he with he; subst he; exact hng hk⟩
  have hshape : w.shape? g = some (E, 0 + cap * size) := by
    unfold World.shape?
    rw [hb0]
    simp [hlen0]
  have hall : RepL (cx ⟨w, [g], ok, [.slice (some ⟨g, 0, none⟩) n cap]⟩ 1 (fun _ => some g) [(0, .row E c0)] w) (.own 0 0 n size true :: args.map AV.c) (.slice (some ⟨g, 0, none⟩) n cap :: vs) :=
    ⟨_, _, rfl, ⟨Nat.zero_lt_one, .inr (.inl ⟨g, cap, rfl, rfl, hncap, hcap, fun _ => ⟨E, hshape⟩⟩)⟩, RepL.ofC (RepCs.mono (fun b hb hl => ⟨hok b hb, hl, rfl⟩) _ _ hvs)⟩
  have hcc : ConcH ⟨w, [g], ok, [.slice (some ⟨g, 0, none⟩) n cap]⟩ (lt 1) (fun _ => some g) (lk [(0, .row E c0)]) w := by
    refine ⟨FrB.refl _ _, fun id o hid hH => ?_, fun id id' o o' g' h1 h2 _ _ _ _ => by simp only [lt] at h1 h2; omega, fun id o g' _ _ he => .inr (by injection he with he; simp [he])⟩
    have hid : id < 1 := hid
    obtain rfl : id = 0 := by omega
    have : some (AObj.row E c0) = some o := hH
    injection this with this
    subst this
    exact .inr ⟨g, us0, vs0, rfl, hb0, RepCs.mono (fun b hb hl => ⟨hok b hb, hl, rfl⟩) _ _ hc0, hone0⟩
  refine calls_of_wpM hf hb (wp_mono (wpg_plain (hx ⟨w, [g], ok, [.slice (some ⟨g, 0, none⟩) n cap]⟩ _ w ⟨fun _ => some g, hcc, ?_, ?_, ?_⟩)) ?_)
  · simp; omega
  · intro t av ht
    obtain ⟨h1, h2⟩ := enumA_get ht
    rw [Nat.sub_zero] at h2
    obtain ⟨u, hu, hru⟩ := hall.get h2
    have : ((Value.slice (some ⟨g, 0, none⟩) n cap :: vs).toArray ++ Array.replicate (fn.ntmps - (Value.slice (some ⟨g, 0, none⟩) n cap :: vs).toArray.size) undef).getD t undef = u := by
      have hlt := (List.getElem?_eq_some_iff.1 hu).1
      rw [Array.getD_eq_getD_getElem?, Array.getElem?_append_left (by simpa using hlt)]
      rw [List.getElem?_toArray, hu]
      rfl
    rw [this]
    exact hru
  · exact ⟨⟨_, _, rfl, ⟨Nat.zero_lt_one, .inr (.inl ⟨g, cap, rfl, rfl, hncap, hcap, fun _ => ⟨E, hshape⟩⟩)⟩, rfl⟩, rfl⟩
  · intro e a w' hq
    obtain ⟨k, env, h, dfs, ⟨h1, h2, h3, h4, h5, v, h6, h7, h8⟩, M, d1, d2, d3, d4⟩ := hq
    have : LeavesM P fn a.tmps (fun e w' => ∃ v us1 vs1, e = .returned v ∧ FrB w [g] w' ∧ w'.heap[g]? = some (.cells (us1 ++ vs1).toArray E (0, 0)) ∧ us1.length + vs1.length = cap * size ∧ RepCs (okg ok w g) w' c1 us1 ∧ (∀ u ∈ us1, u.oneCell' = true) ∧ ∀ C : Cx, Rep C r v) a.defers w' := by
      refine leaves_idle h2 d1 d4 fun w2 g1 g2 => ?_
      obtain ⟨u, k1, k2⟩ := h6.run tb g1 (fun t av ht => Rep.ext g2 _ _ (d3 t av ht))
      have hfr := RepL.ext g2 _ _ (framM_rep h3 d4)
      simp only [RepL, Rep] at hfr
      obtain ⟨u0, us', e1, ⟨hn, hfr⟩, _⟩ := hfr
      injection e1 with e1 e3
      rw [← e1] at hfr
      rcases hfr with ⟨q1, _⟩ | ⟨g', cap', hM, e2, _, _, hfull⟩ | ⟨q1, _⟩
      · omega
      · injection e2 with e2 e5 e6
        injection e2 with e2
        injection e2 with e2 e4
        subst e2 e6
        obtain ⟨us1, vs1, hb1, hr1, hone1⟩ := obj_row (fun id o h _ => h) g1 h5 (show lt k 0 from h4) hM
        have hl1 : us1.length + vs1.length = cap * size := by
          obtain ⟨e, hsh⟩ := hfull trivial
          unfold World.shape? at hsh
          simp only [cx] at hsh
          rw [hb1] at hsh
          simp only [Option.some.injEq, Prod.mk.injEq, List.size_toArray, List.length_append] at hsh
          omega
        refine ⟨u, k2, u, us1, vs1, rfl, g1.fr, hb1, hl1, RepCs.mono (fun b hb hl => ⟨⟨?_, fun e => ?_⟩, hl, rfl⟩) _ _ hr1, hone1, fun C => h8 ▸ plB_rep h7 k1⟩
        · rcases hb.1 with k1 | k1 | k1
          · exact .inl k1
          · exact .inr k1
          · obtain rfl : b = g := by simpa using k1
            exact absurd hM (hb.2 0 _ h4 h5)
        · subst e; exact absurd hM (hb.2 0 _ h4 h5)
      · omega
    rcases h1 with rfl | rfl <;> exact this
end enter
end Go.Av
/-
  Contracts of functions that write into a slice of the caller's and hand back a beginning of it; the slice may stand second. For every program.
-/
set_option linter.unusedVariables false
set_option linter.unusedSimpArgs false
namespace Go.Av
open Go Go.RowKit

/-- Behind pre a slice of the caller's (n elements, closed cells c0) is handed in; a beginning of it, m elements, is handed back; its cells are c1 then. -/
def ACP (P : Program) (f : FuncId) (E : TypeId) (size n : Nat) (pre c0 args c1 : List CV) (m : Nat) : Prop :=
  ∀ (ok : Nat → Prop) (w : World) (g cap : Nat) (us0 vs0 ps vs : List Value), ¬ ok g → w.heap[g]? = some (.cells (us0 ++ vs0).toArray E (0, 0)) → RepCs ok w c0 us0 → (∀ u ∈ us0, u.oneCell' = true) → n ≤ cap → cap ≤ maxLen → us0.length + vs0.length = cap * size → RepCs ok w pre ps → RepCs ok w args vs →
    Calls P f (ps ++ Value.slice (some ⟨g, 0, none⟩) n cap :: vs).toArray w fun e w' => ∃ v us1 vs1, e = .returned v ∧ FrB w [g] w' ∧ w'.heap[g]? = some (.cells (us1 ++ vs1).toArray E (0, 0)) ∧ us1.length + vs1.length = cap * size ∧ RepCs (okg ok w g) w' c1 us1 ∧ (∀ u ∈ us1, u.oneCell' = true) ∧ ∀ (C : Cx) (id : Nat), C.dom id → C.M id = some g → Rep C (.own id 0 m size false) v
theorem ACP.eq {P : Program} {f : FuncId} {E : TypeId} {size n m m' : Nat} {pre c0 args c1 c1' : List CV} (h : ACP P f E size n pre c0 args c1 m) (h1 : c1 = c1') (h2 : m = m') : ACP P f E size n pre c0 args c1' m' := h1 ▸ h2 ▸ h

section call
variable {P : Program} {ev : Evl} {h : Heap} {d : Option Tmp} {ty : TypeId} {pos : String} {aft : Array Edge} {gd : Option (Nat × Bool)} {i : Nat} {f : FuncId} {x0 : Operand} {xs : List Operand} {ats : Array TypeId} {E : TypeId} {c0 c1 cs cs' ps ps' : List CV} {id size m k : Nat} {ys : List Operand}
theorem e_callP (hac : ACP P f E size m ps' c0 cs' c1 k) (hb : Body P f) (hm : 0 < m) (hx0 : ev x0 = some (.own id 0 m size true)) (ho : lk h id = some (.row E c0)) (hy : argsC ev ys = some ps) (hcp : CvL ps ps') (hx : argsC ev xs = some cs) (hcv : CvL cs cs') :
    EStep P ⟨d, .call ⟨.value (.func f), (ys ++ x0 :: xs).toArray, ats⟩, ty, pos, aft, gd⟩ ev h (.own id 0 k size false) [] (some (id, some (.row E c1))) i i := by
  intro B dom M H w a K Q hh hn hc he hK
  have hargs : RepCs (okOf B dom M H) w cs (xs.map a.eval) := RepL.toC (C := ⟨dom, M, okOf B dom M H, w⟩) (evs_rep he (by rw [argsC_eq hx, List.map_map]; rfl))
  have hargp : RepCs (okOf B dom M H) w ps (ys.map a.eval) := RepL.toC (C := ⟨dom, M, okOf B dom M H, w⟩) (evs_rep he (by rw [argsC_eq hy, List.map_map]; rfl))
  have hp := he x0 _ hx0
  simp only [Rep] at hp
  obtain ⟨hid, hp⟩ := hp
  rcases hp with ⟨h1, _⟩ | ⟨g, cap, hM, hp, hncap, hcap, hfull⟩ | ⟨h1, _⟩
  · omega
  · obtain ⟨us0, vs0, hb0, hus0, hone0⟩ := obj_row hh hc ho hid hM
    have hng : ¬ okOf B dom M H g := fun hk => hk.2 id _ hid (hh id _ ho hid) hM
    have hlen0 : us0.length + vs0.length = cap * size := by
      obtain ⟨e, hsh⟩ := hfull trivial
      unfold World.shape? at hsh
      rw [hb0] at hsh
      simp only [Option.some.injEq, Prod.mk.injEq, List.size_toArray, List.length_append] at hsh
      omega
    unfold Oper.wp execOp
    simp only [resolve, Deferred.ofValue, Act.eval, invoke, Sem.run_bind, Sem.run_pure, Result.andThen_ok, List.map_toArray, Array.append_empty, Body.run hb, Oper.upon]
    rw [show (#[] ++ (List.map a.eval (ys ++ x0 :: xs)).toArray : Array Value) = (List.map a.eval ys ++ Value.slice (some ⟨g, 0, none⟩) m cap :: List.map a.eval xs).toArray by simp [hp]]
    refine (hac _ w g cap us0 vs0 _ _ hng hb0 hus0 hone0 hncap hcap hlen0 (hcp _ _ _ hargp) (hcv _ _ _ hargs)).mono ?_
    rintro e w' ⟨v, us1, vs1, rfl, hfr, hb1, hlen1, hus1, hone1, hv⟩
    simp only
    have hgs := lt_of_block hb0
    have hg1 : (w'.putObj g (.cells (us0 ++ vs0).toArray E (0, 0))).heap[g]? = some (.cells (us0 ++ vs0).toArray E (0, 0)) := World.putObj_heap_same (lt_of_block hb1)
    have ho1 : ∀ k, k ≠ g → (w'.putObj g (.cells (us0 ++ vs0).toArray E (0, 0))).heap[k]? = w'.heap[k]? := fun k hk => World.putObj_heap_other (fun e => hk e)
    generalize hw1 : w'.putObj g (.cells (us0 ++ vs0).toArray E (0, 0)) = w1 at hg1 ho1
    have hs1 : w1.heap.size = w'.heap.size := by rw [← hw1]; simp [World.putObj]
    have hbl : Below w.heap.size w w1 := ⟨by rw [← hw1]; exact hfr.os, by rw [← hw1]; exact hfr.tape, by rw [← hw1]; exact hfr.output, by rw [hs1]; exact hfr.size, fun k hk => by
      by_cases e : k = g
      · subst e; rw [hg1, hb0]
      · rw [ho1 k e]; exact hfr.block k hk (by simp [e])⟩
    have hgr := hc.grow hbl i i (M' := M) (fun id _ => rfl) (fun id h1 h2 => by omega) (fun id o h1 h2 => by omega) (fun id id' o o' g h1 h2 => by omega) (fun hext id o h1 h2 => by omega)
    rw [ad_self] at hgr
    obtain ⟨g1, g2⟩ := hgr
    have hmon : Keeps (okg (okOf B dom M H) w g) (okOf B dom M (ov (some (id, some (.row E c1))) H)) w' w' := fun b hb hl => by
      refine ⟨⟨?_, fun k o hk hH he => ?_⟩, hl, rfl⟩
      · rcases hb.1 with h1 | h1
        · exact h1.1
        · exact .inr (.inl (Nat.le_trans hc.fr.size h1))
      · by_cases e : k = id
        · subst e
          rw [hM] at he
          injection he with he
          exact hb.2 he.symm
        · rw [ov_ne (fun x hx => e (congrArg Prod.fst (Option.some.inj hx)).symm)] at hH
          rcases hb.1 with h1 | h1
          · exact h1.2 k o hk hH he
          · have := (hc.obj k o hk hH).lt b he
            simp only at this
            omega
    obtain ⟨k1, k2⟩ := g1.turnE (o' := .row E c1) (w' := w') hid (hh id _ ho hid) hM (by rw [← hw1]; rfl) (by rw [← hw1]; rfl) (by rw [← hw1]; rfl) hs1.symm (fun k hk => (ho1 k hk).symm)
      (by
        unfold World.shape?
        rw [hb1, hg1]
        simp only [List.size_toArray, List.length_append]
        rw [hlen1, hlen0])
      (fun hext => .inr ⟨g, us1, vs1, rfl, hb1, RepCs.mono hmon _ _ hus1, hone1⟩)
    rw [ad_self] at hK
    exact hK v w' M (g2.trans k2) k1 (hv _ id hid hM)
  · omega
end call
section
variable {P : Program} {sz n : Nat} {env : Env} {h : Heap} {dfs : Defs} {K : AK} {ops : Array Oper} {rest : List Oper} {d : Option Tmp} {ty : TypeId} {pos : String} {aft : Array Edge} {gd : Option (Nat × Bool)} {f : FuncId} {x0 : Operand} {xs : List Operand} {ats : Array TypeId} {E : TypeId} {c0 c0' c1 cs cs' ps ps' : List CV} {id size m k : Nat} {y0 : Operand}
theorem awl_callP (hac : ACP P f E size m [] c0 cs' c1 k) (hg : guardA ops env ⟨d, .call ⟨.value (.func f), (x0 :: xs).toArray, ats⟩, ty, pos, aft, gd⟩ true) (hd : dstOk d sz = true) (hb : Body P f) (hm : 0 < m) (hx0 : evA env x0 = some (.own id 0 m size true)) (ho : lk h id = some (.row E c0')) (h0 : c0' = c0) (hx : argsC (evA env) xs = some cs) (hcv : CvL cs cs')
    (next : AWL P ops sz rest K n (putE env d (.own id 0 k size false)) ((id, .row E c1) :: h) dfs) : AWL P ops sz (⟨d, .call ⟨.value (.func f), (x0 :: xs).toArray, ats⟩, ty, pos, aft, gd⟩ :: rest) K n env h dfs := by
  subst h0
  exact awl_est (c := some (id, some (.row E c1))) (Δ := []) hg hd (Nat.le_refl _) rfl (e_callP (ys := []) hac hb hm hx0 ho rfl cvl_nil hx hcv) (fun id h1 h2 => by omega) (by simp) next
theorem awl_callP1 (hac : ACP P f E size m ps' c0 cs' c1 k) (hg : guardA ops env ⟨d, .call ⟨.value (.func f), (y0 :: x0 :: xs).toArray, ats⟩, ty, pos, aft, gd⟩ true) (hd : dstOk d sz = true) (hb : Body P f) (hm : 0 < m) (hx0 : evA env x0 = some (.own id 0 m size true)) (ho : lk h id = some (.row E c0')) (h0 : c0' = c0) (hy : argsC (evA env) [y0] = some ps) (hcp : CvL ps ps') (hx : argsC (evA env) xs = some cs) (hcv : CvL cs cs')
    (next : AWL P ops sz rest K n (putE env d (.own id 0 k size false)) ((id, .row E c1) :: h) dfs) : AWL P ops sz (⟨d, .call ⟨.value (.func f), (y0 :: x0 :: xs).toArray, ats⟩, ty, pos, aft, gd⟩ :: rest) K n env h dfs := by
  subst h0
  exact awl_est (c := some (id, some (.row E c1))) (Δ := []) hg hd (Nat.le_refl _) rfl (e_callP (ys := [y0]) hac hb hm hx0 ho hy hcp hx hcv) (fun id h1 h2 => by omega) (by simp) next
end
section drawn
variable {P : Program} {l rest : List Oper} {sz i n n0 m : Nat} {K : AK} {dfs : Defs} {env env0 : Env} {h h0 hr : Heap} {es : List Eat} {ids : List Nat} {t : Tmp} {ty : TypeId} {pos : String} {aft : Array Edge} {gd : Option (Nat × Bool)} {f : FuncId} {y0 x0 : Operand} {xs : List Operand} {ats : Array TypeId} {E : TypeId} {c0 c0' c1 cs cs' ps ps' : List CV} {id size q k : Nat}
/-- The same in a region that draws its order. -/
theorem d_callP1 (hac : ACP P f E size q ps' c0 cs' c1 k) (hg : guardA l.toArray env ⟨some t, .call ⟨.value (.func f), (y0 :: x0 :: xs).toArray, ats⟩, ty, pos, aft, gd⟩ true) (hi : idsF env (Oper.looksAt l.toArray ⟨some t, .call ⟨.value (.func f), (y0 :: x0 :: xs).toArray, ats⟩, ty, pos, aft, gd⟩) = some ids) (hfl : filtF ids h = some hr) (hb : Body P f) (hm : 0 < q)
    (hx0 : evT (Oper.looksAt l.toArray ⟨some t, .call ⟨.value (.func f), (y0 :: x0 :: xs).toArray, ats⟩, ty, pos, aft, gd⟩) env x0 = some (.own id 0 q size true)) (ho : lk hr id = some (.row E c0')) (hc0 : c0' = c0) (hy : argsC (evT (Oper.looksAt l.toArray ⟨some t, .call ⟨.value (.func f), (y0 :: x0 :: xs).toArray, ats⟩, ty, pos, aft, gd⟩) env) [y0] = some ps) (hcp : CvL ps ps')
    (hx : argsC (evT (Oper.looksAt l.toArray ⟨some t, .call ⟨.value (.func f), (y0 :: x0 :: xs).toArray, ats⟩, ty, pos, aft, gd⟩) env) xs = some cs) (hcv : CvL cs cs') (hin : Nat.blt id n = true)
    (next : DrwE P l sz K dfs i n0 env0 h0 (es ++ [(ids, some (id, some (.row E c1)))]) m rest n ((t, .own id 0 k size false) :: env) ((id, .row E c1) :: h)) : DrwE P l sz K dfs i n0 env0 h0 es (m + 1) (⟨some t, .call ⟨.value (.func f), (y0 :: x0 :: xs).toArray, ats⟩, ty, pos, aft, gd⟩ :: rest) n env h := by
  subst hc0
  exact drwE_step (v := .own id 0 k size false) (Δ := []) hg (Nat.le_refl _) (filtF_spec hfl) (by simp) (c := some (id, some (.row E c1))) rfl (fun k x e => by
    injection e with e; injection e with e1 e2; subst e1
    exact ⟨(filtF_spec hfl _ _ ho).2, by simpa [Nat.blt_eq] using hin⟩) (e_callP (ys := [y0]) hac hb hm hx0 ho hy hcp hx hcv) (fun id h1 h2 => by omega) (by simp) next
end drawn
section enter
def RetP (P : Program) (tab : Tab) (rs : List ResultVar) (E : TypeId) (size n : Nat) (pre : List CV) (c1 : List CV) (m : Nat) : AK :=
  fun e k env h dfs => (e = .normal ∨ e = .ret) ∧ IdleD P h dfs ∧ framM dfs = some [.own 0 0 n size true] ∧ 0 < k ∧ ∃ c' fl, lk (endD h dfs) 0 = some (.row E c') ∧ c'.take (m * size) = c1 ∧ ResL tab env (endD h dfs) rs (.own 0 0 m size fl)
theorem retP_mk {P : Program} {tab : Tab} {rs : List ResultVar} {E : TypeId} {size n m : Nat} {pre c1 c' : List CV} {h h' : Heap} {k : Nat} {e : Exit} {env : Env} {dfs : Defs} {fl : Bool} (he : e = .normal ∨ e = .ret) (hd : IdleD P h dfs) (hm : framM dfs = some [.own 0 0 n size true]) (hh : endD h dfs = h') (hk : Nat.blt 0 k = true) (ho : lk h' 0 = some (.row E c')) (hc : c'.take (m * size) = c1) (hv : ResL tab env h' rs (.own 0 0 m size fl)) : RetP P tab rs E size n pre c1 m e k env h dfs :=
  ⟨he, hd, hm, by simpa [Nat.blt_eq] using hk, c', fl, by rw [hh, ho], hc, hh ▸ hv⟩
theorem acp_enter {P : Program} {tab : Tab} (tb : TabOk P tab) {f : FuncId} {fn : Func} {c : Code} {E : TypeId} {size n : Nat} {pre c0 args c1 : List CV} {m : Nat} {sz : Nat} (hf : P.funcs[f]? = some fn) (hb : fn.body = some c) (hsz : max fn.ntmps (pre.length + (args.length + 1)) = sz) (hn0 : 0 < n)
    (hx : AW P sz c (RetP P tab fn.results.toList E size n pre c1 m) 1 (enumA 0 (pre.map AV.c ++ .own 0 0 n size true :: args.map AV.c)) [(0, .row E c0)] [(none, [.own 0 0 n size true])]) : ACP P f E size n pre c0 args c1 m := by
  intro ok w g cap us0 vs0 ps vs hng hb0 hc0 hone0 hncap hcap hlen0 hps hvs
  have hlen := hvs.length
  have hlenp := hps.length
  have hok : ∀ b, ok b → okOf ⟨w, [g], ok, [.slice (some ⟨g, 0, none⟩) n cap]⟩ (lt 1) (fun _ => some g) (lk [(0, .row E c0)]) b := fun b hk => ⟨.inl hk, fun id o hid hH he => by
    injection he with he; subst he; exact hng hk⟩
  have hshape : w.shape? g = some (E, 0 + cap * size) := by
    unfold World.shape?
    rw [hb0]
    simp [hlen0]
  have hall : RepL (cx ⟨w, [g], ok, [.slice (some ⟨g, 0, none⟩) n cap]⟩ 1 (fun _ => some g) [(0, .row E c0)] w) (pre.map AV.c ++ .own 0 0 n size true :: args.map AV.c) (ps ++ .slice (some ⟨g, 0, none⟩) n cap :: vs) :=
    RepL.append (RepL.ofC (RepCs.mono (fun b hb hl => ⟨hok b hb, hl, rfl⟩) _ _ hps)) ⟨_, _, rfl, ⟨Nat.zero_lt_one, .inr (.inl ⟨g, cap, rfl, rfl, hncap, hcap, fun _ => ⟨E, hshape⟩⟩)⟩, RepL.ofC (RepCs.mono (fun b hb hl => ⟨hok b hb, hl, rfl⟩) _ _ hvs)⟩
  have hcc : ConcH ⟨w, [g], ok, [.slice (some ⟨g, 0, none⟩) n cap]⟩ (lt 1) (fun _ => some g) (lk [(0, .row E c0)]) w := by
    refine ⟨FrB.refl _ _, fun id o hid hH => ?_, fun id id' o o' g' h1 h2 _ _ _ _ => by simp only [lt] at h1 h2; omega, fun id o g' _ _ he => .inr (by injection he with he; simp [he])⟩
    have hid : id < 1 := hid
    obtain rfl : id = 0 := by omega
    have : some (AObj.row E c0) = some o := hH
    injection this with this
    subst this
    exact .inr ⟨g, us0, vs0, rfl, hb0, RepCs.mono (fun b hb hl => ⟨hok b hb, hl, rfl⟩) _ _ hc0, hone0⟩
  refine calls_of_wpM hf hb (wp_mono (wpg_plain (hx ⟨w, [g], ok, [.slice (some ⟨g, 0, none⟩) n cap]⟩ _ w ⟨fun _ => some g, hcc, ?_, ?_, ?_⟩)) ?_)
  · simp; omega
  · intro t av ht
    obtain ⟨h1, h2⟩ := enumA_get ht
    rw [Nat.sub_zero] at h2
    obtain ⟨u, hu, hru⟩ := hall.get h2
    have : ((ps ++ Value.slice (some ⟨g, 0, none⟩) n cap :: vs).toArray ++ Array.replicate (fn.ntmps - (ps ++ Value.slice (some ⟨g, 0, none⟩) n cap :: vs).toArray.size) undef).getD t undef = u := by
      have hlt := (List.getElem?_eq_some_iff.1 hu).1
      rw [Array.getD_eq_getD_getElem?, Array.getElem?_append_left (by simpa using hlt)]
      rw [List.getElem?_toArray, hu]
      rfl
    rw [this]
    exact hru
  · exact ⟨⟨_, _, rfl, ⟨Nat.zero_lt_one, .inr (.inl ⟨g, cap, rfl, rfl, hncap, hcap, fun _ => ⟨E, hshape⟩⟩)⟩, rfl⟩, rfl⟩
  · intro e a w' hq
    obtain ⟨k, env, h, dfs, ⟨h1, h2, h3, h4, c', fl, h5, h7, h6⟩, M, d1, d2, d3, d4⟩ := hq
    have : LeavesM P fn a.tmps (fun e w' => ∃ v us1 vs1, e = .returned v ∧ FrB w [g] w' ∧ w'.heap[g]? = some (.cells (us1 ++ vs1).toArray E (0, 0)) ∧ us1.length + vs1.length = cap * size ∧ RepCs (okg ok w g) w' c1 us1 ∧ (∀ u ∈ us1, u.oneCell' = true) ∧ ∀ (C : Cx) (id : Nat), C.dom id → C.M id = some g → Rep C (.own id 0 m size false) v) a.defers w' := by
      refine leaves_idle h2 d1 d4 fun w2 g1 g2 => ?_
      obtain ⟨u, k1, k2⟩ := h6.run tb g1 (fun t av ht => Rep.ext g2 _ _ (d3 t av ht))
      have hfr := RepL.ext g2 _ _ (framM_rep h3 d4)
      simp only [RepL, Rep] at hfr
      obtain ⟨u0, us', e1, ⟨hn, hfr⟩, _⟩ := hfr
      injection e1 with e1 e3
      rw [← e1] at hfr
      rcases hfr with ⟨q1, _⟩ | ⟨g', cap', hM, e2, _, _, hfull⟩ | ⟨q1, _⟩
      · omega
      · injection e2 with e2 e5 e6
        injection e2 with e2
        injection e2 with e2 e4
        subst e2 e6
        obtain ⟨us1, vs1, hb1, hr1, hone1⟩ := obj_row (fun id o h _ => h) g1 h5 (show lt k 0 from h4) hM
        have hl1 : us1.length + vs1.length = cap * size := by
          obtain ⟨e, hsh⟩ := hfull trivial
          unfold World.shape? at hsh
          simp only [cx] at hsh
          rw [hb1] at hsh
          simp only [Option.some.injEq, Prod.mk.injEq, List.size_toArray, List.length_append] at hsh
          omega
        refine ⟨u, k2, u, us1.take (m * size), us1.drop (m * size) ++ vs1, rfl, g1.fr, by rw [← List.append_assoc, List.take_append_drop]; exact hb1, by rw [List.length_append, List.length_take, List.length_drop]; omega, ?_, fun x hx => hone1 x (List.mem_of_mem_take hx), fun C id hd hM' => ?_⟩
        · rw [← h7]
          refine RepCs.take _ (RepCs.mono (fun b hb hl => ⟨⟨?_, fun e => ?_⟩, hl, rfl⟩) _ _ hr1)
          · rcases hb.1 with k1 | k1 | k1
            · exact .inl k1
            · exact .inr k1
            · obtain rfl : b = g := by simpa using k1
              exact absurd hM (hb.2 0 _ h4 h5)
          · subst e; exact absurd hM (hb.2 0 _ h4 h5)
        · simp only [Rep, cx] at k1 ⊢
          refine ⟨hd, ?_⟩
          obtain ⟨_, ⟨p1, p2, p3, p4⟩ | ⟨g2', cp, p1, p2, p3, p4, p5⟩ | ⟨p1, p2, A, cp, p3, p4⟩⟩ := k1
          · have hM2 : M 0 = some g := hM
            rw [hM2] at p3; cases p3
          · have hM2 : M 0 = some g := hM
            rw [hM2] at p1
            injection p1 with p1
            subst p1
            exact .inr (.inl ⟨g, cp, hM', p2, p3, p4, fun h => by cases h⟩)
          · exact .inr (.inr ⟨p1, trivial, A, cp, p3, p4⟩)
      · omega
    rcases h1 with rfl | rfl <;> exact this
end enter
end Go.Av
/-
  clear on a slice of an own row: what stands in front of it stays known. Comparing a slice of no element with nil. For every program.
-/
set_option linter.unusedVariables false
set_option linter.unusedSimpArgs false
namespace Go.Av
open Go Go.RowKit
theorem setCells_row (g : Nat) (T : TypeId) : ∀ (vs : List Value) (o : Nat) (w : World) (cur : List Value), w.heap[g]? = some (.cells cur.toArray T (0, 0)) →
    ∃ cur' : List Value, cur'.length = cur.length ∧ cur'.take o = cur.take o ∧ w.setCells g o vs = w.setRow g cur'.toArray
  | [], o, w, cur, h => ⟨cur, rfl, rfl, (setRow_self w g _ T _ h).symm⟩
  | v :: vs, o, w, cur, h => by
    have h1 := setCell_eq_setRow w g o cur.toArray T (0, 0) v h
    rw [List.setIfInBounds_toArray] at h1
    have h2 := setRow_heap w g cur.toArray (cur.set o v).toArray T (0, 0) h
    obtain ⟨c, c1, c2, c3⟩ := setCells_row g T vs (o + 1) (w.setRow g (cur.set o v).toArray) (cur.set o v) h2
    refine ⟨c, by rw [c1, List.length_set], ?_, ?_⟩
    · have := congrArg (List.take o) c2
      rw [List.take_take, List.take_take, Nat.min_eq_left (by omega), List.take_set_of_le (Nat.le_refl _)] at this
      exact this
    · show (w.setCell ⟨g, o, none⟩ v).setCells g (o + 1) vs = _
      rw [h1, c3, setRow_setRow]
theorem exec_clear {P : Program} {T ty : TypeId} {pos : String} {aft : Array Edge} {gd : Option (Nat × Bool)} {x : Operand} {w w' : World} (ρ : Operand → Value) {v : Value} (hr : (Builtin.clear_ #[T] ty #[ρ x]).run P w = .ok v w') : (execOp ρ ⟨none, .call ⟨.builtin .clear, #[x], #[T]⟩, ty, pos, aft, gd⟩).run P w = .ok (.value v) w' := by
  simp only [execOp, resolve, invoke, builtin, Sem.run_bind, Sem.run_pure, Result.andThen_ok, List.map_toArray, List.map_cons, List.map_nil, hr]
theorem run_clear_cells {P : Program} (w : World) (t e ty : TypeId) (z zv : Value) (ht : P.underlying t = some (.slice e)) (hv : ∀ w, (zeroValue e).run P w = .ok zv w) (hz : zv.cells = #[z]) (h1 : z.oneCell' = true) (b o n c : Nat) (hn : 0 < n)
    (hc : ∀ j, j < n → (w.cell? ⟨b, o + j, none⟩).isSome = true) (hf : ∀ j, j < n → w.frozen? ⟨b, o + j, none⟩ = false) :
    (Builtin.clear_ #[t] ty #[.slice (some ⟨b, o, none⟩) n c]).run P w = .ok (.tuple #[]) (w.setCells b o (List.replicate n z)) := by
  have hzc : (Builtin.zeroCells zv.cells n).toList = List.replicate n z := by
    rw [hz]
    simp [Builtin.zeroCells]
    apply List.ext_getElem
    · simp
    · intro i h1 h2
      simp [Nat.mod_one]
  have hst := run_storeCells_cells (P := P) b o (List.replicate n z) 0 w (by simpa using hc) (by simpa using hf) (by intro v hv'; rw [List.eq_of_mem_replicate hv']; exact h1)
  simp only [Nat.add_zero] at hst
  obtain ⟨m, rfl⟩ : ∃ m, n = m + 1 := ⟨n - 1, by omega⟩
  simp [Builtin.clear_, run_underlying ht, hv, hzc, hst]
section
variable {P : Program} {tab : Tab} {sz n : Nat} {env : Env} {h : Heap} {dfs : Defs} {K : AK} {ops : Array Oper} {rest : List Oper} {ty T : TypeId} {pos : String} {aft : Array Edge} {gd : Option (Nat × Bool)} {x : Operand}
theorem awl_clear (tb : TabOk P tab) {e e' : TyE} {E T' : TypeId} {z : Value} (hg : guardA ops env ⟨none, .call ⟨.builtin .clear, #[x], #[T]⟩, ty, pos, aft, gd⟩ true) (hT : tyLook tab T = some e) (hk : e.kind = .slice E) (hE : tyLook tab E = some e') (hz : e'.zero = [z]) (h1 : z.oneCell' = true)
    {id off m : Nat} {full : Bool} {cs : List CV} (hx : evA env x = some (.own id off m 1 full)) (ho : lk h id = some (.row T' cs)) (hm : 0 < m) (hfit : off + m ≤ cs.length)
    (next : AWL P ops sz rest K n env ((id, .row T' (cs.take off)) :: h) dfs) : AWL P ops sz (⟨none, .call ⟨.builtin .clear, #[x], #[T]⟩, ty, pos, aft, gd⟩ :: rest) K n env h dfs := by
  intro B a w hc
  obtain ⟨M, c1, c2, c3, c4⟩ := hc
  refine wplg_step fun K' hK' => ?_
  rw [if_pos (hg.wanted c3)]
  have hp := rep_eval c3 x _ hx
  simp only [Rep] at hp
  obtain ⟨hid, ⟨q1, _⟩ | ⟨g, cp, hM, hp, hmc, hcp, _⟩ | ⟨q1, _⟩⟩ := hp
  · omega
  · obtain ⟨us, vs, hb, hus, hone⟩ := obj_row (fun id o h _ => h) c1 ho hid hM
    have hul := hus.length
    obtain ⟨i, hi, _, _, zv, hzv, hzz⟩ := (tyLook_ok tb hE).parts
    have hzeq : zv.cells = #[z] := by
      rw [hz] at hzz
      exact Array.toList_inj.1 hzz
    have hv : ∀ w, (zeroValue E).run P w = .ok zv w := fun w => by
      simp only [zeroValue, typeInfo, Sem.run_bind, run_program, Result.andThen_ok, hi, Sem.run_pure, hzv]
    have hcell : ∀ j, j < m → (w.cell? ⟨g, off + j, none⟩).isSome = true := fun j hj => by
      rw [cell_blk hb, List.getElem?_append_left (by omega), List.getElem?_eq_getElem (by omega)]; rfl
    have hfr : ∀ j, j < m → w.frozen? ⟨g, off + j, none⟩ = false := fun j hj => by
      unfold World.frozen?
      rw [hb]
      simp
    have hrun := run_clear_cells (P := P) w T E ty z zv ((tyLook_ok tb hT).slice hk) hv hzeq h1 g off m cp hm hcell hfr
    obtain ⟨cur, l1, l2, l3⟩ := setCells_row g T' (List.replicate m z) off w (us ++ vs) hb
    rw [l3] at hrun
    rw [List.take_append_of_le_length (by omega)] at l2
    have hcur : cur = us.take off ++ cur.drop off := by rw [← l2, List.take_append_drop]
    unfold Oper.wp
    have hx' := exec_clear (P := P) (T := T) (ty := ty) (pos := pos) (aft := aft) (gd := gd) (x := x) (w := w) a.eval (v := .tuple #[]) (by rw [hp]; exact hrun)
    simp only [hx']
    obtain ⟨k1, k2⟩ := c1.turn (o' := .row T' (cs.take off)) (w' := w.setRow g cur.toArray) rfl hid ho hM rfl rfl rfl (by simp) (fun k hk => setRow_other w g k _ hk) (shape_setRow hb (by simp [l1]))
      (fun hext => .inr ⟨g, us.take off, cur.drop off, rfl, by rw [← hcur]; exact setRow_heap w g _ _ T' _ hb, RepCs.mono hext.ok _ _ (RepCs.take off hus), fun u hu => hone u (List.mem_of_mem_take hu)⟩)
    simp only [Oper.upon, Act.put]
    exact hK' _ _ (next B _ _ ⟨M, k1, c2, fun t av ht => Rep.ext k2 _ _ (c3 t av ht), c4.ext k2⟩)
  · omega
/-- Nothing to clear. -/
theorem awl_clear0 (tb : TabOk P tab) {e : TyE} {E : TypeId} (hg : guardA ops env ⟨none, .call ⟨.builtin .clear, #[x], #[T]⟩, ty, pos, aft, gd⟩ true) (hT : tyLook tab T = some e) (hk : e.kind = .slice E)
    {id off size : Nat} {full : Bool} (hx : evA env x = some (.own id off 0 size full))
    (next : AWL P ops sz rest K n env h dfs) : AWL P ops sz (⟨none, .call ⟨.builtin .clear, #[x], #[T]⟩, ty, pos, aft, gd⟩ :: rest) K n env h dfs := by
  intro B a w hc
  have hc' := hc
  obtain ⟨M, c1, c2, c3, c4⟩ := hc
  refine wplg_step fun K' hK' => ?_
  rw [if_pos (hg.wanted c3)]
  have hp := rep_eval c3 x _ hx
  simp only [Rep] at hp
  have : ∃ A cp, a.eval x = .slice A 0 cp := by
    obtain ⟨_, ⟨_, _, _, q⟩ | ⟨g, cp, _, q, _⟩ | ⟨_, _, A, cp, q, _⟩⟩ := hp
    · exact ⟨_, _, q⟩
    · exact ⟨_, _, q⟩
    · exact ⟨_, _, q⟩
  obtain ⟨A, cp, hp⟩ := this
  have hrun : (Builtin.clear_ #[T] ty #[.slice A 0 cp]).run P w = .ok (.tuple #[]) w := by
    cases A <;> simp [Builtin.clear_, run_underlying ((tyLook_ok tb hT).slice hk)]
  unfold Oper.wp
  have hx' := exec_clear (P := P) (T := T) (ty := ty) (pos := pos) (aft := aft) (gd := gd) (x := x) (w := w) a.eval (v := .tuple #[]) (by rw [hp]; exact hrun)
  simp only [hx']
  simp only [Oper.upon, Act.put]
  exact hK' _ _ (next B _ _ hc')
/-- A slice of no element may be nil or not. -/
theorem awl_eqnil0 (tb : TabOk P tab) {T' : TypeId} {y : Operand} {t size : Nat} {e : TyE} {E : TypeId} (hg : guardA ops env ⟨some t, .binOp .eql T x y T', ty, pos, aft, gd⟩ true) (hd : Nat.blt t sz = true) (hT : tyLook tab T = some e) (hk : e.kind = .slice E)
    (hx : evA env x = some (.c (.sl size 0 []))) (hy : evA env y = some (.c (.v (.slice none 0 0))))
    (next : ∀ b, AWL P ops sz rest K n ((t, .c (.v (.bool b))) :: env) h dfs) : AWL P ops sz (⟨some t, .binOp .eql T x y T', ty, pos, aft, gd⟩ :: rest) K n env h dfs := by
  intro B a w hc
  obtain ⟨M, c1, c2, c3, c4⟩ := hc
  have hx1 := rep_eval c3 x _ hx
  have hy1 := rep_eval c3 y _ hy
  simp only [Rep, RepC] at hx1 hy1
  obtain ⟨A, c, us, e1, _⟩ := hx1
  refine wplg_step fun K' hK' => ?_
  rw [if_pos (hg.wanted c3)]
  have hr := run_equal_slice_nil (P := P) w T E A 0 c ((tyLook_ok tb hT).slice hk)
  unfold Oper.wp
  have hex : (execOp a.eval ⟨some t, .binOp .eql T x y T', ty, pos, aft, gd⟩).run P w = .ok (.value (.bool A.isNone)) w := by simp [execOp, e1, hy1, eqGuard, binOp, hr]
  simp only [hex, Oper.upon]
  obtain ⟨p1, p2, p3⟩ := put_env (d := some t) (u := .bool A.isNone) (v := .c (.v (.bool A.isNone))) c2 c3 (Ext.refl _) (fun t' h' => by injection h' with h'; subst h'; simpa [Nat.blt_eq] using hd) (by simp [Rep, RepC])
  exact hK' _ _ (next A.isNone B _ _ ⟨M, c1, p1, p2, by rw [p3]; exact c4⟩)
end
section
variable {P : Program} {tab : Tab} {ev : Evl} {h : Heap} {d : Option Tmp} {T T' ty : TypeId} {x y : Operand} {pos : String} {aft : Array Edge} {gd : Option (Nat × Bool)}
theorem s_eqnilV (tb : TabOk P tab) {e : TyE} {E n c : Nat} {A : Option Addr} (hT : tyLook tab T = some e) (hk : e.kind = .slice E) (hx : ev x = some (.c (.v (.slice A n c)))) (hy : ev y = some (.c (.v (.slice none 0 0)))) : Still P ⟨d, .binOp .eql T x y T', ty, pos, aft, gd⟩ ev h (.c (.v (.bool A.isNone))) := by
  intro B dom M H w a hh hc he
  have h1 := he x _ hx
  have h2 := he y _ hy
  simp only [Rep, RepC] at h1 h2
  refine ⟨.bool A.isNone, ?_, rfl⟩
  have hr := run_equal_slice_nil (P := P) w T E A n c ((tyLook_ok tb hT).slice hk)
  simp [execOp, h1, h2, eqGuard, binOp, hr]
end
end Go.Av
/-
  Equal neighbours taken away (walk).
-/
set_option linter.unusedVariables false
set_option linter.unusedSimpArgs false
namespace Go.Proofs.Ytccnhpaldmjkbaa
open Go Go.RowKit Go.Av
set_option maxRecDepth 100000
theorem ic_at {l : List Int} {i : Nat} {x : Int} (h : l[i]? = some x) : (intc .i64 l)[i]? = some (iv x) := by simp [intc, h]
theorem ic_set (l : List Int) (p : Nat) (x : Int) : intc .i64 (l.set p x) = (intc .i64 l).set p (iv x) := by simp [intc, List.map_set]
theorem ic_take (l : List Int) (p : Nat) : intc .i64 (l.take p) = (intc .i64 l).take p := by simp [intc, List.map_take]
theorem ic_len (l : List Int) : (intc .i64 l).length = l.length := by simp [intc]
attribute [local irreducible] Still Adds AWL AW Drw DrwE EStep AC AWR Weak Frz Src RetK Out InK ItK AsK RdK RetT OutT ACT ACS RetS ACP RetP
set_option maxHeartbeats 4000000 in
theorem compact_ok (l : List Int) (n : Nat) (hn : l.length = n) (h0 : 0 < n) (hnn : n ≤ 1000000) : ACP Try.prog 131 2 1 n [] (intc .i64 l) [] (intc .i64 (compN l n)) (compN l n).length := by
  have hil : (intc .i64 l).length = n := by rw [ic_len, hn]
  by_cases n1 : n = 1
  · have hc : compN l n = l := by
      subst n1
      have e : compN l 1 = [l.getD 0 0] := by rw [compN, if_neg (by omega)]; rfl
      rw [e]
      match l, hn with
      | [x], _ => rfl
    rw [hc, hn]
    subst n1
    refine acp_enter tabOk (sz := 61) Try.func131 rfl (by rw [Try.ntmps131]; rfl) (h0) ?_
    repeat' (first
    | ((with_reducible refine aw_seqk ?_); intro K hK hX)
    | ((with_reducible refine isC_reg ?_); refine aw_prune [0, 2, 3, 4, 5] rfl rfl ?_; with_reducible refine aw_region ?_)
    | ((with_reducible refine isC_draw ?_); refine aw_prune [0, 2, 3, 4, 5] rfl rfl ?_; refine aw_drwF [] ?_)
    | refine stA ?_
    | refine stD ?_
    | (refine hK _ _ _ _ ?_; clear hK hX K)
    | (refine hX _ _ _ _ _ (by simp) ?_; clear hK hX K))
    refine retP_mk (by first | exact .inl rfl | exact .inr rfl) (by exact trivial) rfl rfl rfl rfl (List.take_of_length_le (by omega)) (ResL.one (ResA.tmp rfl))
  · refine acp_enter tabOk (sz := 61) Try.func131 rfl (by rw [Try.ntmps131]; rfl) (h0) ?_
    repeat' (first
    | ((with_reducible refine aw_seqk ?_); intro K hK hX)
    | ((with_reducible refine isC_reg ?_); refine aw_prune [0, 2, 3, 4, 5] rfl rfl ?_; with_reducible refine aw_region ?_)
    | ((with_reducible refine isC_draw ?_); refine aw_prune [0, 2, 3, 4, 5] rfl rfl ?_; refine aw_drwF [] ?_)
    | refine stA ?_
    | refine stD ?_
    | (refine hK _ _ _ _ ?_; clear hK hX K)
    | (refine hX _ _ _ _ _ (by simp) ?_; clear hK hX K))
    have e1 : compN l 1 = [l.getD 0 0] := by rw [compN, if_neg (by omega)]; rfl
    have r1 : rowN l 1 = l := (rowN_full (m := 0) (by omega) rfl (by omega) rfl).2
    refine aw_loopo [3, 4, 5] [0] rfl rfl (fun k : Nat => [(3, .c (iv k))]) (fun k => [(0, .row 2 (intc .i64 l))]) (fun k => 1 ≤ k ∧ k ≤ n ∧ (compN l k).length = k ∧ rowN l k = l) (fun k => n - k) 1 ⟨Nat.le_refl _, by omega, by rw [e1]; rfl, r1⟩ weakA ?_
    rintro k ⟨hk1, hk, hkl, hkr⟩ K hK hX
    (try dsimp only at *)
    by_cases hlt : k < n
    · have a1 := ic_at (gD_at (l := l) (i := k) (by omega))
      have a0 := ic_at (gD_at (l := l) (i := k - 1) (by omega))
      by_cases heq : l.getD k 0 = l.getD (k - 1) 0
      · obtain ⟨s1, s2⟩ := rowN_skip (l := l) (m := k) (by omega) heq
        generalize l.getD k 0 = x1 at *
        generalize l.getD (k - 1) 0 = x0 at *
        repeat' (first
    | ((with_reducible refine aw_seqk ?_); intro K hK hX)
    | ((with_reducible refine isC_reg ?_); refine aw_prune [0, 2, 3, 4, 5] rfl rfl ?_; with_reducible refine aw_region ?_)
    | ((with_reducible refine isC_draw ?_); refine aw_prune [0, 2, 3, 4, 5] rfl rfl ?_; refine aw_drwF [] ?_)
    | ((first | ((with_reducible refine isA_any ?_); refine xA ?_) | ((with_reducible refine isDk_any ?_); refine xD ?_)); (first | ((with_reducible refine e_load ?_); (first | refine ex_i (s_load1 tabOk rfl rfl rfl rfl (by first | (rw [Nat.zero_add, Nat.mul_one]; exact a1) | (rw [Nat.zero_add, Nat.mul_one]; exact a0))) ?_ | refine ex_i (s_load1r tabOk rfl rfl rfl rfl (by first | (rw [Nat.zero_add, Nat.mul_one]; exact a1) | (rw [Nat.zero_add, Nat.mul_one]; exact a0))) ?_ | refine ex_i (s_load1i tabOk rfl rfl rfl (by first | (rw [Nat.zero_add, Nat.mul_one]; exact a1) | (rw [Nat.zero_add, Nat.mul_one]; exact a0))) ?_)) | ((with_reducible refine e_ix ?_); (first | refine ex_i (s_ixV1 tabOk rfl rfl zcj rfl rfl rfl rfl rfl zle (by first | (rw [Nat.zero_add, Nat.mul_one]; exact a1) | (rw [Nat.zero_add, Nat.mul_one]; exact a0))) ?_ | refine ex_i (s_ixStr tabOk rfl rfl zcj rfl rfl (by first | (rw [Nat.zero_add, Nat.mul_one]; exact a1) | (rw [Nat.zero_add, Nat.mul_one]; exact a0))) ?_))))
    | refine stA ?_
    | refine stD ?_
    | (refine hK _ _ _ _ ?_; clear hK hX K)
    | (refine hX _ _ _ _ _ (by simp) ?_; clear hK hX K))
        refine aw_loopo [3, 5] [0] rfl rfl (fun m : Nat => [(3, .c (iv (compN l m).length)), (5, .c (iv (m - k : Nat)))]) (fun m => [(0, .row 2 (intc .i64 (rowN l m)))]) (fun m => k + 1 ≤ m ∧ m ≤ n ∧ (compN l m).length < m) (fun m => n - m) (k + 1) ⟨Nat.le_refl _, by omega, by rw [s1, hkl]; omega⟩ (by refine weak_mk rfl ?_ ?_ rfl <;> (repeat' (first | exact weakE_nil | exact weakH_nil | refine weakE_cons rfl (by first | rfl | (first | rw [s1, hkl] | rw [s2, hkr]) | exact own_eq rfl rfl (by omega) | exact int_eq (by omega) | (simp <;> fail) | (congr 4; omega) | (congr 3; omega) | (congr 2; omega)) rfl ?_ | refine weakH_cons rfl (by first | rfl | (first | rw [s1, hkl] | rw [s2, hkr]) | exact own_eq rfl rfl (by omega) | exact int_eq (by omega) | (simp <;> fail) | (congr 4; omega) | (congr 3; omega) | (congr 2; omega)) rfl ?_))) ?_
        rintro m ⟨hm1, hm, hml⟩ K hK hX
        (try dsimp only at *)
        clear a1 a0 s1 s2 hkl hkr heq e1 r1
        have hrl := rowN_length (l := l) (m := m) (by omega)
        have hri : (intc .i64 (rowN l m)).length = n := by rw [ic_len, hrl, hn]
        by_cases hlt2 : m < n
        · have b1 := ic_at (gD_at (l := rowN l m) (i := m) (by omega))
          have b0 := ic_at (gD_at (l := rowN l m) (i := m - 1) (by omega))
          rw [rowN_at (by omega) (by omega) (by omega)] at b1 b0
          by_cases heq2 : l.getD m 0 = l.getD (m - 1) 0
          · obtain ⟨t1, t2⟩ := rowN_skip (l := l) (m := m) (by omega) heq2
            rw [← t2] at b1 b0 hri
            generalize l.getD m 0 = y1 at *
            generalize l.getD (m - 1) 0 = y0 at *
            rw [← t1] at hml
            rw [← t1, ← t2]
            repeat' (first
    | ((with_reducible refine aw_seqk ?_); intro K hK hX)
    | ((with_reducible refine isC_reg ?_); refine aw_prune [0, 2, 3, 4, 5] rfl rfl ?_; with_reducible refine aw_region ?_)
    | ((with_reducible refine isC_draw ?_); refine aw_prune [0, 2, 3, 4, 5] rfl rfl ?_; refine aw_drwF [] ?_)
    | ((first | ((with_reducible refine isA_any ?_); refine xA ?_) | ((with_reducible refine isDk_any ?_); refine xD ?_)); (first | ((with_reducible refine e_load ?_); (first | refine ex_i (s_load1 tabOk rfl rfl rfl rfl (by first | (refine at_eq b1 ?_; omega) | (refine at_eq b0 ?_; omega))) ?_ | refine ex_i (s_load1r tabOk rfl rfl rfl rfl (by first | (refine at_eq b1 ?_; omega) | (refine at_eq b0 ?_; omega))) ?_ | refine ex_i (s_load1i tabOk rfl rfl rfl (by first | (refine at_eq b1 ?_; omega) | (refine at_eq b0 ?_; omega))) ?_)) | ((with_reducible refine e_ix ?_); (first | refine ex_i (s_ixV1 tabOk rfl rfl zcj rfl rfl rfl rfl rfl zle (by first | (refine at_eq b1 ?_; omega) | (refine at_eq b0 ?_; omega))) ?_ | refine ex_i (s_ixStr tabOk rfl rfl zcj rfl rfl (by first | (refine at_eq b1 ?_; omega) | (refine at_eq b0 ?_; omega))) ?_))))
    | refine stA ?_
    | refine stD ?_
    | (refine hK _ _ _ _ ?_; clear hK hX K)
    | (refine hX _ _ _ _ _ (by simp) ?_; clear hK hX K))
            exact ⟨m + 1, ⟨by omega, by omega, by omega⟩, by omega, weakA⟩
          · obtain ⟨t1, t2⟩ := rowN_keep (l := l) (m := m) (by omega) (fun h => heq2 h.2)
            generalize l.getD m 0 = y1 at *
            generalize l.getD (m - 1) 0 = y0 at *
            obtain ⟨c, hc⟩ : ∃ c, (compN l m).length = c := ⟨_, rfl⟩
            rw [hc] at t1 t2 hml ⊢
            have hset : (intc .i64 (rowN l m)).set (0 + c * 1) (iv y1) = intc .i64 (rowN l (m + 1)) := by rw [Nat.zero_add, Nat.mul_one, t2, ic_set]
            repeat' (first
    | ((with_reducible refine aw_seqk ?_); intro K hK hX)
    | ((with_reducible refine isC_reg ?_); refine aw_prune [0, 2, 3, 4, 5] rfl rfl ?_; with_reducible refine aw_region ?_)
    | ((with_reducible refine isC_draw ?_); refine aw_prune [0, 2, 3, 4, 5] rfl rfl ?_; refine aw_drwF [] ?_)
    | ((first | ((with_reducible refine isA_any ?_); refine xA ?_) | ((with_reducible refine isDk_any ?_); refine xD ?_)); (first | ((with_reducible refine e_load ?_); (first | refine ex_i (s_load1 tabOk rfl rfl rfl rfl (by first | (refine at_eq b1 ?_; omega) | (refine at_eq b0 ?_; omega))) ?_ | refine ex_i (s_load1r tabOk rfl rfl rfl rfl (by first | (refine at_eq b1 ?_; omega) | (refine at_eq b0 ?_; omega))) ?_ | refine ex_i (s_load1i tabOk rfl rfl rfl (by first | (refine at_eq b1 ?_; omega) | (refine at_eq b0 ?_; omega))) ?_)) | ((with_reducible refine e_ix ?_); (first | refine ex_i (s_ixV1 tabOk rfl rfl zcj rfl rfl rfl rfl rfl zle (by first | (refine at_eq b1 ?_; omega) | (refine at_eq b0 ?_; omega))) ?_ | refine ex_i (s_ixStr tabOk rfl rfl zcj rfl rfl (by first | (refine at_eq b1 ?_; omega) | (refine at_eq b0 ?_; omega))) ?_))))
    | ((with_reducible refine isA_store ?_); (refine awl_store1r tabOk g_none rfl rfl rfl rfl rfl rfl (by first | omega | exact Nat.le_of_ble_eq_true rfl | omega | (simp <;> omega)) ?_))
    | refine stA ?_
    | refine stD ?_
    | (refine hK _ _ _ _ ?_; clear hK hX K)
    | (refine hX _ _ _ _ _ (by simp) ?_; clear hK hX K))
            exact ⟨m + 1, ⟨by omega, by omega, by omega⟩, by omega, (by refine weak_mk rfl ?_ ?_ rfl <;> (repeat' (first | exact weakE_nil | exact weakH_nil | refine weakE_cons rfl (by first | rfl | (exact congrArg (AObj.row 2) hset) | exact own_eq rfl rfl (by omega) | exact int_eq (by omega) | (simp <;> fail) | (congr 4; omega) | (congr 3; omega) | (congr 2; omega)) rfl ?_ | refine weakH_cons rfl (by first | rfl | (exact congrArg (AObj.row 2) hset) | exact own_eq rfl rfl (by omega) | exact int_eq (by omega) | (simp <;> fail) | (congr 4; omega) | (congr 3; omega) | (congr 2; omega)) rfl ?_)))⟩
        · have hmn : m = n := by omega
          rw [hmn] at hri hml ⊢
          have htk := rowN_take (l := l) (m := n)
          repeat' (first
    | ((with_reducible refine aw_seqk ?_); intro K hK hX)
    | ((with_reducible refine isC_reg ?_); refine aw_prune [0, 2, 3, 4, 5] rfl rfl ?_; with_reducible refine aw_region ?_)
    | ((with_reducible refine isC_draw ?_); refine aw_prune [0, 2, 3, 4, 5] rfl rfl ?_; refine aw_drwF [] ?_)
    | ((with_reducible refine isA_bi ?_); refine awl_clear tabOk g_none rfl rfl rfl rfl rfl rfl rfl (by omega) (by first | omega | (simp only [ic_len]; omega)) ?_)
    | refine stA ?_
    | refine stD ?_
    | (refine hK _ _ _ _ ?_; clear hK hX K)
    | (refine hX _ _ _ _ _ (by simp) ?_; clear hK hX K))
          refine retP_mk (by first | exact .inl rfl | exact .inr rfl) (by exact trivial) rfl rfl rfl rfl (by rw [Nat.zero_add, List.take_take, Nat.min_self, Nat.mul_one, ← ic_take, htk]) (ResL.one (ResA.tmp rfl))
      · obtain ⟨s1, s2⟩ := rowN_full (l := l) (m := k) (by omega) hkl (fun h => heq h.2) hkr
        clear hkl hkr e1 r1
        generalize l.getD k 0 = x1 at *
        generalize l.getD (k - 1) 0 = x0 at *
        repeat' (first
    | ((with_reducible refine aw_seqk ?_); intro K hK hX)
    | ((with_reducible refine isC_reg ?_); refine aw_prune [0, 2, 3, 4, 5] rfl rfl ?_; with_reducible refine aw_region ?_)
    | ((with_reducible refine isC_draw ?_); refine aw_prune [0, 2, 3, 4, 5] rfl rfl ?_; refine aw_drwF [] ?_)
    | ((first | ((with_reducible refine isA_any ?_); refine xA ?_) | ((with_reducible refine isDk_any ?_); refine xD ?_)); (first | ((with_reducible refine e_load ?_); (first | refine ex_i (s_load1 tabOk rfl rfl rfl rfl (by first | (rw [Nat.zero_add, Nat.mul_one]; exact a1) | (rw [Nat.zero_add, Nat.mul_one]; exact a0))) ?_ | refine ex_i (s_load1r tabOk rfl rfl rfl rfl (by first | (rw [Nat.zero_add, Nat.mul_one]; exact a1) | (rw [Nat.zero_add, Nat.mul_one]; exact a0))) ?_ | refine ex_i (s_load1i tabOk rfl rfl rfl (by first | (rw [Nat.zero_add, Nat.mul_one]; exact a1) | (rw [Nat.zero_add, Nat.mul_one]; exact a0))) ?_)) | ((with_reducible refine e_ix ?_); (first | refine ex_i (s_ixV1 tabOk rfl rfl zcj rfl rfl rfl rfl rfl zle (by first | (rw [Nat.zero_add, Nat.mul_one]; exact a1) | (rw [Nat.zero_add, Nat.mul_one]; exact a0))) ?_ | refine ex_i (s_ixStr tabOk rfl rfl zcj rfl rfl (by first | (rw [Nat.zero_add, Nat.mul_one]; exact a1) | (rw [Nat.zero_add, Nat.mul_one]; exact a0))) ?_))))
    | refine stA ?_
    | refine stD ?_
    | (refine hK _ _ _ _ ?_; clear hK hX K)
    | (refine hX _ _ _ _ _ (by simp) ?_; clear hK hX K))
        exact ⟨k + 1, ⟨by omega, by omega, s1, s2⟩, by omega, weakA⟩
    · have hkn : k = n := by omega
      rw [hkn] at hkl hkr
      have hcl : compN l n = l := by
        unfold rowN at hkr
        rw [List.drop_eq_nil_of_le (by omega), List.append_nil] at hkr
        exact hkr
      clear hkl hkr e1 r1
      repeat' (first
    | ((with_reducible refine aw_seqk ?_); intro K hK hX)
    | ((with_reducible refine isC_reg ?_); refine aw_prune [0, 2, 3, 4, 5] rfl rfl ?_; with_reducible refine aw_region ?_)
    | ((with_reducible refine isC_draw ?_); refine aw_prune [0, 2, 3, 4, 5] rfl rfl ?_; refine aw_drwF [] ?_)
    | refine stA ?_
    | refine stD ?_
    | (refine hK _ _ _ _ ?_; clear hK hX K)
    | (refine hX _ _ _ _ _ (by simp) ?_; clear hK hX K))
      rw [hcl, hn]
      refine retP_mk (by first | exact .inl rfl | exact .inr rfl) (by exact trivial) rfl rfl rfl rfl (List.take_of_length_le (by omega)) (ResL.one (ResA.tmp rfl))
end Go.Proofs.Ytccnhpaldmjkbaa
/-
  Contracts of the library laid at this program, in plain words.
-/
namespace Go.Proofs.Ytccnhpaldmjkbaa
open Go.Shelf Go.Proofs
def Try.srtI_ren : Go.Shelf.Ren := ⟨fun | 5 => 130 | 8 => 108 | 7 => 157 | 19 => 146 | 20 => 147 | 10 => 177 | 11 => 178 | 12 => 179 | 13 => 180 | 14 => 181 | 15 => 182 | 16 => 183 | 17 => 184 | 18 => 185 | 30 => 191 | 31 => 169 | 32 => 170 | 33 => 192 | 34 => 193 | 35 => 189 | 40 => 195 | n => n, fun | 23 => 62 | 25 => 2 | 3 => 3 | 32 => 86 | 22 => 62 | 0 => 0 | 44 => 157 | 46 => 56 | 4 => 4 | 36 => 150 | 35 => 149 | 41 => 116 | 5 => 5 | 9 => 9 | 53 => 170 | 57 => 174 | 63 => 186 | 64 => 187 | n => n, fun | n => n⟩
theorem Try.srtI : Go.Proofs.SlLaysM.n5 Try.prog Try.srtI_ren := {
  mixed := by kernel_rfl
  f5 := ⟨Try.f130.name, by decide, Try.func130.trans (congrArg some (by kernel_rfl))⟩
  f7 := ⟨Try.f157.name, by decide, Try.func157.trans (congrArg some (by kernel_rfl))⟩
  f8 := Try.func108.trans (congrArg some (by kernel_rfl))
  f10 := ⟨Try.f177.name, by decide, Try.func177.trans (congrArg some (by kernel_rfl))⟩
  f11 := ⟨Try.f178.name, by decide, Try.func178.trans (congrArg some (by kernel_rfl))⟩
  f12 := ⟨Try.f179.name, by decide, Try.func179.trans (congrArg some (by kernel_rfl))⟩
  f13 := ⟨Try.f180.name, by decide, Try.func180.trans (congrArg some (by kernel_rfl))⟩
  f14 := ⟨Try.f181.name, by decide, Try.func181.trans (congrArg some (by kernel_rfl))⟩
  f15 := ⟨Try.f182.name, by decide, Try.func182.trans (congrArg some (by kernel_rfl))⟩
  f16 := ⟨Try.f183.name, by decide, Try.func183.trans (congrArg some (by kernel_rfl))⟩
  f17 := ⟨Try.f184.name, by decide, Try.func184.trans (congrArg some (by kernel_rfl))⟩
  f18 := ⟨Try.f185.name, by decide, Try.func185.trans (congrArg some (by kernel_rfl))⟩
  f19 := Try.func146.trans (congrArg some (by kernel_rfl))
  f20 := Try.func147.trans (congrArg some (by kernel_rfl))
  f30 := ⟨Try.f191.name, by decide, Try.func191.trans (congrArg some (by kernel_rfl))⟩
  f31 := Try.func169.trans (congrArg some (by kernel_rfl))
  f32 := Try.func170.trans (congrArg some (by kernel_rfl))
  f33 := ⟨Try.f192.name, by decide, Try.func192.trans (congrArg some (by kernel_rfl))⟩
  f34 := ⟨Try.f193.name, by decide, Try.func193.trans (congrArg some (by kernel_rfl))⟩
  f35 := ⟨Try.f189.name, by decide, Try.func189.trans (congrArg some (by kernel_rfl))⟩
  f40 := ⟨Try.f195.name, by decide, Try.func195.trans (congrArg some (by kernel_rfl))⟩
  t0 := Try.underlying0
  a0 := Try.isAgg0
  z0 := Try.sizeOf0
  v0 := Try.zeroValue0
  t3 := Try.underlying3
  a3 := Try.isAgg3
  z3 := Try.sizeOf3
  v3 := Try.zeroValue3
  t4 := Try.underlying4
  a4 := Try.isAgg4
  z4 := Try.sizeOf4
  v4 := Try.zeroValue4
  t5 := Try.underlying5
  a5 := Try.isAgg5
  z5 := Try.sizeOf5
  v5 := Try.zeroValue5
  t9 := Try.underlying9
  a9 := Try.isAgg9
  z9 := Try.sizeOf9
  v9 := Try.zeroValue9
  t22 := Try.underlying62
  a22 := Try.isAgg62
  z22 := Try.sizeOf62
  v22 := Try.zeroValue62
  t23 := Try.underlying62
  a23 := Try.isAgg62
  z23 := Try.sizeOf62
  v23 := Try.zeroValue62
  t25 := Try.underlying2
  a25 := Try.isAgg2
  z25 := Try.sizeOf2
  v25 := Try.zeroValue2
  t32 := Try.underlying86
  a32 := Try.isAgg86
  z32 := Try.sizeOf86
  v32 := Try.zeroValue86
  t35 := Try.underlying149
  a35 := Try.isAgg149
  z35 := Try.sizeOf149
  v35 := Try.zeroValue149
  t36 := Try.underlying150
  a36 := Try.isAgg150
  z36 := Try.sizeOf150
  v36 := Try.zeroValue150
  t41 := Try.underlying116
  a41 := Try.isAgg116
  z41 := Try.sizeOf116
  v41 := Try.zeroValue116
  t44 := Try.underlying157
  a44 := Try.isAgg157
  z44 := Try.sizeOf157
  v44 := Try.zeroValue157
  t46 := Try.underlying56
  a46 := Try.isAgg56
  z46 := Try.sizeOf56
  v46 := Try.zeroValue56
  t53 := Try.underlying170
  a53 := Try.isAgg170
  z53 := Try.sizeOf170
  v53 := Try.zeroValue170
  t57 := Try.underlying174
  a57 := Try.isAgg174
  z57 := Try.sizeOf174
  v57 := Try.zeroValue174
  t63 := Try.underlying186
  a63 := Try.isAgg186
  z63 := Try.sizeOf186
  v63 := Try.zeroValue186
  t64 := Try.underlying187
  a64 := Try.isAgg187
  z64 := Try.sizeOf187
  v64 := Try.zeroValue187 }
def Try.srtS_ren : Go.Shelf.Ren := ⟨fun | 6 => 51 | 8 => 108 | 9 => 107 | 19 => 146 | 20 => 147 | 21 => 137 | 22 => 138 | 23 => 139 | 24 => 140 | 25 => 141 | 26 => 142 | 27 => 143 | 28 => 144 | 29 => 145 | 36 => 168 | 31 => 169 | 32 => 170 | 37 => 171 | 38 => 172 | 39 => 173 | 41 => 190 | n => n, fun | 27 => 24 | 29 => 9 | 3 => 3 | 32 => 86 | 26 => 24 | 0 => 0 | 44 => 157 | 46 => 56 | 4 => 4 | 36 => 150 | 35 => 149 | 41 => 116 | 5 => 5 | 9 => 9 | 53 => 170 | 57 => 174 | 63 => 186 | 64 => 187 | n => n, fun | n => n⟩
theorem Try.srtS : Go.Proofs.SlLaysM.n6 Try.prog Try.srtS_ren := {
  mixed := by kernel_rfl
  f6 := ⟨Try.f51.name, by decide, Try.func51.trans (congrArg some (by kernel_rfl))⟩
  f8 := Try.func108.trans (congrArg some (by kernel_rfl))
  f9 := ⟨Try.f107.name, by decide, Try.func107.trans (congrArg some (by kernel_rfl))⟩
  f19 := Try.func146.trans (congrArg some (by kernel_rfl))
  f20 := Try.func147.trans (congrArg some (by kernel_rfl))
  f21 := ⟨Try.f137.name, by decide, Try.func137.trans (congrArg some (by kernel_rfl))⟩
  f22 := ⟨Try.f138.name, by decide, Try.func138.trans (congrArg some (by kernel_rfl))⟩
  f23 := ⟨Try.f139.name, by decide, Try.func139.trans (congrArg some (by kernel_rfl))⟩
  f24 := ⟨Try.f140.name, by decide, Try.func140.trans (congrArg some (by kernel_rfl))⟩
  f25 := ⟨Try.f141.name, by decide, Try.func141.trans (congrArg some (by kernel_rfl))⟩
  f26 := ⟨Try.f142.name, by decide, Try.func142.trans (congrArg some (by kernel_rfl))⟩
  f27 := ⟨Try.f143.name, by decide, Try.func143.trans (congrArg some (by kernel_rfl))⟩
  f28 := ⟨Try.f144.name, by decide, Try.func144.trans (congrArg some (by kernel_rfl))⟩
  f29 := ⟨Try.f145.name, by decide, Try.func145.trans (congrArg some (by kernel_rfl))⟩
  f31 := Try.func169.trans (congrArg some (by kernel_rfl))
  f32 := Try.func170.trans (congrArg some (by kernel_rfl))
  f36 := ⟨Try.f168.name, by decide, Try.func168.trans (congrArg some (by kernel_rfl))⟩
  f37 := ⟨Try.f171.name, by decide, Try.func171.trans (congrArg some (by kernel_rfl))⟩
  f38 := ⟨Try.f172.name, by decide, Try.func172.trans (congrArg some (by kernel_rfl))⟩
  f39 := ⟨Try.f173.name, by decide, Try.func173.trans (congrArg some (by kernel_rfl))⟩
  f41 := ⟨Try.f190.name, by decide, Try.func190.trans (congrArg some (by kernel_rfl))⟩
  t0 := Try.underlying0
  a0 := Try.isAgg0
  z0 := Try.sizeOf0
  v0 := Try.zeroValue0
  t3 := Try.underlying3
  a3 := Try.isAgg3
  z3 := Try.sizeOf3
  v3 := Try.zeroValue3
  t4 := Try.underlying4
  a4 := Try.isAgg4
  z4 := Try.sizeOf4
  v4 := Try.zeroValue4
  t5 := Try.underlying5
  a5 := Try.isAgg5
  z5 := Try.sizeOf5
  v5 := Try.zeroValue5
  t9 := Try.underlying9
  a9 := Try.isAgg9
  z9 := Try.sizeOf9
  v9 := Try.zeroValue9
  t26 := Try.underlying24
  a26 := Try.isAgg24
  z26 := Try.sizeOf24
  v26 := Try.zeroValue24
  t27 := Try.underlying24
  a27 := Try.isAgg24
  z27 := Try.sizeOf24
  v27 := Try.zeroValue24
  t29 := Try.underlying9
  a29 := Try.isAgg9
  z29 := Try.sizeOf9
  v29 := Try.zeroValue9
  t32 := Try.underlying86
  a32 := Try.isAgg86
  z32 := Try.sizeOf86
  v32 := Try.zeroValue86
  t35 := Try.underlying149
  a35 := Try.isAgg149
  z35 := Try.sizeOf149
  v35 := Try.zeroValue149
  t36 := Try.underlying150
  a36 := Try.isAgg150
  z36 := Try.sizeOf150
  v36 := Try.zeroValue150
  t41 := Try.underlying116
  a41 := Try.isAgg116
  z41 := Try.sizeOf116
  v41 := Try.zeroValue116
  t44 := Try.underlying157
  a44 := Try.isAgg157
  z44 := Try.sizeOf157
  v44 := Try.zeroValue157
  t46 := Try.underlying56
  a46 := Try.isAgg56
  z46 := Try.sizeOf56
  v46 := Try.zeroValue56
  t53 := Try.underlying170
  a53 := Try.isAgg170
  z53 := Try.sizeOf170
  v53 := Try.zeroValue170
  t57 := Try.underlying174
  a57 := Try.isAgg174
  z57 := Try.sizeOf174
  v57 := Try.zeroValue174
  t63 := Try.underlying186
  a63 := Try.isAgg186
  z63 := Try.sizeOf186
  v63 := Try.zeroValue186
  t64 := Try.underlying187
  a64 := Try.isAgg187
  z64 := Try.sizeOf187
  v64 := Try.zeroValue187 }
end Go.Proofs.Ytccnhpaldmjkbaa
/-
  A sort of the shelf as a contract over a slice of the caller's. For every program.
-/
set_option linter.unusedVariables false
set_option linter.unusedSimpArgs false
namespace Go.Av
open Go Go.RowKit Go.Sort
theorem acs_sort {P : Program} {f : FuncId} {E : TypeId} {α : Type} [Inhabited α] (enc : α → Value) (h1 : ∀ x, (enc x).oneCell' = true) (l l' : List α) (n : Nat) (hn : l.length = n) (hn' : l'.length = n)
    (hc : ∀ (blk cap : Nat) (w : World), Holds enc w blk 0 l.toArray → blk < w.heap.size → Calls P f #[.slice (some ⟨blk, 0, none⟩) n cap] w fun e w' => e = .returned (.tuple #[]) ∧ ∃ k os, w' = grow (putRow enc (Sort.ahead w k) blk 0 l'.toArray) os) :
    ACS P f E 1 n (l.map fun x => CV.v (enc x)) [] (l'.map fun x => CV.v (enc x)) (.tup []) := by
  intro ok w g cap us0 vs0 vs hng hb0 hc0 hone hncap hcap hlen hvs
  have hvs' : vs = [] := by simpa [RepCs] using hvs
  subst hvs'
  have hus : us0 = l.map enc := RepCs.of_plain (vs := l.map enc) (by rw [List.map_map]; exact hc0)
  subst hus
  have hgs := lt_of_block hb0
  have hH : Holds enc w g 0 l.toArray := fun j hj => by
    have hj' : j < l.length := by simpa using hj
    have e1 : (l.toArray)[j]! = l[j] := by
      rw [getElem!_pos _ j hj]; simp
    have e2 : (l.map enc ++ vs0)[0 + j]? = some (enc l[j]) := by
      rw [Nat.zero_add, List.getElem?_append_left (by simpa using hj')]
      simp [hj']
    constructor
    · unfold World.cell?
      rw [hb0]
      simp only [e1]
      simpa using e2
    · unfold World.frozen?
      rw [hb0]
      simp
  refine (hc g cap w hH hgs).mono ?_
  rintro e w' ⟨rfl, k, os, rfl⟩
  refine ⟨_, l'.map enc, vs0, rfl, ⟨rfl, rfl, rfl, ?_, fun b hb hbg => ?_⟩, ?_, ?_, ?_, ?_, fun C => ?_⟩
  · rw [size_grow]
    show w.heap.size ≤ (w.heap.modify g _).size + os.size
    rw [Array.size_modify]; omega
  · have hbg' : g ≠ b := fun e => hbg (by simp [e])
    rw [heap_grow_old _ _ (by show b < (w.heap.modify g _).size; rw [Array.size_modify]; exact hb)]
    show (w.heap.modify g _)[b]? = _
    rw [Array.getElem?_modify, if_neg hbg']
  · rw [heap_grow_old _ _ (by show g < (w.heap.modify g _).size; rw [Array.size_modify]; exact hgs)]
    show (w.heap.modify g _)[g]? = _
    rw [Array.getElem?_modify, if_pos rfl, hb0]
    simp only [Option.map_some, onCells]
    congr 2
    refine Array.ext_getElem? fun j => ?_
    simp only [putCells, Array.getElem?_mapIdx, List.getElem?_toArray, List.size_toArray, Nat.zero_le, true_and, Nat.zero_add, Nat.sub_zero]
    by_cases hj : j < n
    · rw [List.getElem?_append_left (by simp; omega), List.getElem?_append_left (by simp; omega)]
      have e1 : (l'.toArray)[j]! = l'[j]'(by omega) := by
        rw [getElem!_pos _ j (by simp; omega)]; simp
      have e2 : l[j]? = some (l[j]'(by omega)) := List.getElem?_eq_getElem _
      have e3 : l'[j]? = some (l'[j]'(by omega)) := List.getElem?_eq_getElem _
      rw [List.getElem?_map, List.getElem?_map, e2, e3]
      simp only [Option.map_some]
      rw [if_pos (by omega), e1]
    · rw [List.getElem?_append_right (by simp; omega), List.getElem?_append_right (by simp; omega)]
      simp only [List.length_map, hn, hn']
      cases vs0[j - n]? with
      | none => rfl
      | some x => simp only [Option.map_some]; rw [if_neg (by omega)]
  · simp only [List.length_map] at hlen ⊢
    omega
  · have := RepCs.plain (ok := okg ok w g) (w := grow (putRow enc (Sort.ahead w k) g 0 l'.toArray) os) (l'.map enc)
    rw [List.map_map] at this
    exact this
  · intro u hu
    obtain ⟨x, _, rfl⟩ := List.mem_map.1 hu
    exact h1 x
  · exact ⟨[], rfl, rfl⟩
end Go.Av
/-
  Sorting rows of ints and of strings: the shelf's contracts at this program.
-/
set_option linter.unusedVariables false
set_option linter.unusedSimpArgs false
namespace Go.Proofs.Ytccnhpaldmjkbaa
open Go Go.RowKit Go.Av Go.Sort
theorem sort64_ok (l : List Int) (n : Nat) (hn : l.length = n) (hb : n ≤ 1000000) : ACS Try.prog 130 2 1 n (intc .i64 l) [] (intc .i64 (sortI l)) (.tup []) :=
  acs_sort (Value.int .i64) (fun _ => rfl) l (sortI l) n hn (by rw [sortI_length, hn]) fun blk cap w hH hb' => by
    have h := Go.Proofs.AnyM.slices_Sort_int Try.srtI blk 0 cap l w hH hb' (by omega)
    rw [hn] at h
    exact h
theorem sort64_none : AC Try.prog 130 [.sl 1 0 []] (.tup []) [] 0 := by
  intro ok w vs hvs
  simp only [RepCs, RepC] at hvs
  obtain ⟨u, us', rfl, ⟨A, c, us, rfl, _⟩, rfl⟩ := hvs
  have h := Go.Proofs.AnyM.slices_Sort_int_none Try.srtI A c w
  refine h.mono ?_
  rintro e w' ⟨rfl, rfl⟩
  exact ⟨_, fun _ => none, rfl, ⟨FrB.refl _ _, fun id o hid _ => absurd hid (by simp [lt]), fun id id' o o' g h1 => absurd h1 (by simp [lt]), fun id o g hid => absurd hid (by simp [lt])⟩, [], rfl, rfl⟩
end Go.Proofs.Ytccnhpaldmjkbaa
/-
  Bottom-k sketches (walk): the smallest numbers, valid cells, sketches of bags.
-/
set_option linter.unusedVariables false
set_option linter.unusedSimpArgs false
namespace Go.Proofs.Ytccnhpaldmjkbaa
open Go Go.RowKit Go.Av
set_option maxRecDepth 100000
def prevI (l : List Int) (i : Nat) : Int := if i = 0 then -1 else l.getD (i - 1) 0
theorem prevI_succ (l : List Int) (i : Nat) : prevI l (i + 1) = l.getD i 0 := rfl
theorem hashP_iff {w : Nat} {l : List Int} : hashP w l ↔ l.length ≤ w ∧ ∀ i, i < l.length → ∀ x, l[i]? = some x → prevI l i < x ∧ x < 4611686018427387904 := by
  constructor
  · rintro ⟨h1, h2, h3⟩
    refine ⟨h1, fun i hi x hx => ⟨?_, (h3 x (List.mem_of_getElem? hx)).2⟩⟩
    unfold prevI
    by_cases h : i = 0
    · rw [if_pos h]
      have := (h3 x (List.mem_of_getElem? hx)).1
      omega
    · rw [if_neg h]
      have e1 := gD_at (l := l) (i := i - 1) (by omega)
      obtain ⟨h4, h5⟩ := List.getElem?_eq_some_iff.1 e1
      obtain ⟨h6, h7⟩ := List.getElem?_eq_some_iff.1 hx
      have := List.pairwise_iff_getElem.1 h2 (i - 1) i h4 h6 (by omega)
      omega
  · rintro ⟨h1, h2⟩
    have key : ∀ j, j < l.length → ∀ i, i < j → l.getD i 0 < l.getD j 0 := by
      intro j
      induction j with
      | zero => intro _ i hi; omega
      | succ j ih =>
        intro hj i hi
        have h3 := (h2 (j + 1) hj _ (gD_at hj)).1
        rw [prevI_succ] at h3
        by_cases h : i = j
        · rw [h]; exact h3
        · have := ih (by omega) i (by omega)
          omega
    refine ⟨h1, List.pairwise_iff_getElem.2 fun i j hi hj hij => ?_, fun x hx => ?_⟩
    · have := key j hj i hij
      have e1 := gD_at (l := l) (i := i) hi
      have e2 := gD_at (l := l) (i := j) hj
      rw [List.getElem?_eq_getElem hi] at e1
      rw [List.getElem?_eq_getElem hj] at e2
      injection e1 with e1
      injection e2 with e2
      omega
    · obtain ⟨i, hi⟩ := List.mem_iff_getElem?.1 hx
      obtain ⟨h6, h7⟩ := List.getElem?_eq_some_iff.1 hi
      refine ⟨?_, (h2 i h6 x hi).2⟩
      have h0 := (h2 0 (by omega) _ (gD_at (by omega))).1
      have : prevI l 0 = -1 := rfl
      rw [this] at h0
      have e1 := gD_at (l := l) (i := i) h6
      rw [hi] at e1
      injection e1 with e1
      by_cases h : i = 0
      · subst h; omega
      · have := key i h6 0 (by omega)
        omega
theorem qu64 {a b : Nat} (h : a < 18446744073709551616) (hb : 0 < b) : IntKind.u64.wrap ((a : Int).tdiv (b : Int)) = ((a / b : Nat) : Int) := by
  have : (a : Int).tdiv (b : Int) = ((a / b : Nat) : Int) := by simp
  rw [this]
  have h2 := Nat.div_le_self a b
  generalize a / b = c at h2 ⊢
  exact wu64 (by omega) (by omega)
attribute [local irreducible] Still Adds AWL AW Drw DrwE EStep AC AWR Weak Frz Src RetK Out InK ItK AsK RdK RetT OutT ACT ACS RetS ACP RetP
open Classical in
set_option maxHeartbeats 4000000 in
theorem vhash_ok (nm sr : List UInt8) (col kd d : Int) (w : Nat) (l : List Int) (n : Nat) (hn : l.length = n) (hm : n ≤ maxLen) (hw : (w : Int) ≤ 9223372036854775807) : AC Try.prog 93 [.agg [sv nm, sv sr, iv col, iv kd, iv w, iv d], .sl 1 n (intc .i64 l)] (.c (bv (decide (hashP w l)))) [] 0 := by
  have hml : n ≤ 9223372036854775807 := hm
  clear hm
  have hil : (intc .i64 l).length = n := by rw [ic_len, hn]
  by_cases f1 : n ≤ w
  · by_cases hall : ∀ i, i < n → ∀ x, l[i]? = some x → prevI l i < x ∧ x < 4611686018427387904
    · rw [decide_eq_true (hashP_iff.2 ⟨by omega, by rw [hn]; exact hall⟩)]
      refine ac_enter tabOk (sz := 28) Try.func93 rfl (by rw [Try.ntmps93]; rfl) ?_
      repeat' (first
    | ((with_reducible refine aw_seqk ?_); intro K hK hX)
    | ((with_reducible refine isC_reg ?_); refine aw_prune [0, 1, 2, 4, 5, 7, 13, 14, 15] rfl rfl ?_; with_reducible refine aw_region ?_)
    | refine stA ?_
    | (refine hK _ _ _ _ ?_; clear hK hX K)
    | (refine hX _ _ _ _ _ (by simp) ?_; clear hK hX K))
      refine aw_loopo [5, 7, 15] [] rfl rfl (fun i : Nat => [(5, .c (iv (prevI l i))), (15, .c (iv i))]) (fun i => []) (fun i => i ≤ n) (fun i => n - i) 0 (by omega) weakA ?_
      intro i hi K hK hX
      by_cases hlt : i < n
      · obtain ⟨x, hx⟩ : ∃ x, l[i]? = some x := ⟨l[i]'(by omega), List.getElem?_eq_getElem _⟩
        obtain ⟨x1, x2⟩ := hall i hlt x hx
        have hxa := ic_at hx
        have hp : prevI l (i + 1) = x := by rw [prevI_succ, List.getD_eq_getElem?_getD, hx]; rfl
        generalize prevI l i = p at x1 ⊢
        clear hall
        repeat' (first
    | ((with_reducible refine aw_seqk ?_); intro K hK hX)
    | ((with_reducible refine isC_reg ?_); refine aw_prune [0, 1, 2, 4, 5, 7, 13, 14, 15] rfl rfl ?_; with_reducible refine aw_region ?_)
    | (((with_reducible refine isA_any ?_); refine xA ?_); (first | ((with_reducible refine e_load ?_); (first | refine ex_i (s_load1 tabOk rfl rfl rfl rfl (by (rw [Nat.mul_one]; exact hxa))) ?_ | refine ex_i (s_load1r tabOk rfl rfl rfl rfl (by (rw [Nat.mul_one]; exact hxa))) ?_ | refine ex_i (s_load1i tabOk rfl rfl rfl (by (rw [Nat.mul_one]; exact hxa))) ?_)) | ((with_reducible refine e_ix ?_); (first | refine ex_i (s_ixV1 tabOk rfl rfl zcj rfl rfl rfl rfl rfl zle (by (rw [Nat.mul_one]; exact hxa))) ?_ | refine ex_i (s_ixStr tabOk rfl rfl zcj rfl rfl (by (rw [Nat.mul_one]; exact hxa))) ?_))))
    | refine stA ?_
    | (refine hK _ _ _ _ ?_; clear hK hX K)
    | (refine hX _ _ _ _ _ (by simp) ?_; clear hK hX K))
        exact ⟨i + 1, by omega, by omega, (by refine weak_mk rfl ?_ ?_ rfl <;> (repeat' (first | exact weakE_nil | exact weakH_nil | refine weakE_cons rfl (by first | rfl | (rw [hp]) | exact own_eq rfl rfl (by omega) | exact int_eq (by omega) | (simp <;> fail) | (congr 4; omega) | (congr 3; omega) | (congr 2; omega)) rfl ?_ | refine weakH_cons rfl (by first | rfl | (rw [hp]) | exact own_eq rfl rfl (by omega) | exact int_eq (by omega) | (simp <;> fail) | (congr 4; omega) | (congr 3; omega) | (congr 2; omega)) rfl ?_)))⟩
      · clear hall
        repeat' (first
    | ((with_reducible refine aw_seqk ?_); intro K hK hX)
    | ((with_reducible refine isC_reg ?_); refine aw_prune [0, 1, 2, 4, 5, 7, 13, 14, 15] rfl rfl ?_; with_reducible refine aw_region ?_)
    | refine stA ?_
    | (refine hK _ _ _ _ ?_; clear hK hX K)
    | (refine hX _ _ _ _ _ (by simp) ?_; clear hK hX K))
        refine retK_mk (by first | exact .inl rfl | exact .inr rfl) (by exact trivial) rfl (ResL.one (ResA.tmp rfl)) (by first | exact out_c zfz | exact out_own rfl rfl)
    · obtain ⟨q, hq, hbad, hgood⟩ := first_bad hall
      rw [decide_eq_false (fun h => hbad ((hashP_iff.1 h).2 q (by omega)))]
      refine ac_enter tabOk (sz := 28) Try.func93 rfl (by rw [Try.ntmps93]; rfl) ?_
      repeat' (first
    | ((with_reducible refine aw_seqk ?_); intro K hK hX)
    | ((with_reducible refine isC_reg ?_); refine aw_prune [0, 1, 2, 4, 5, 7, 13, 14, 15] rfl rfl ?_; with_reducible refine aw_region ?_)
    | refine stA ?_
    | (refine hK _ _ _ _ ?_; clear hK hX K)
    | (refine hX _ _ _ _ _ (by simp) ?_; clear hK hX K))
      refine aw_loopo [5, 7, 15] [] rfl rfl (fun i : Nat => [(5, .c (iv (prevI l i))), (15, .c (iv i))]) (fun i => []) (fun i => i ≤ q) (fun i => q - i) 0 (by omega) weakA ?_
      intro i hi K hK hX
      have hin : i < n := by omega
      obtain ⟨x, hx⟩ : ∃ x, l[i]? = some x := ⟨l[i]'(by omega), List.getElem?_eq_getElem _⟩
      have hxa := ic_at hx
      have hp : prevI l (i + 1) = x := by rw [prevI_succ, List.getD_eq_getElem?_getD, hx]; rfl
      by_cases hlt : i < q
      · obtain ⟨x1, x2⟩ := hgood i hlt x hx
        generalize prevI l i = p at x1 ⊢
        clear hbad hgood hall
        repeat' (first
    | ((with_reducible refine aw_seqk ?_); intro K hK hX)
    | ((with_reducible refine isC_reg ?_); refine aw_prune [0, 1, 2, 4, 5, 7, 13, 14, 15] rfl rfl ?_; with_reducible refine aw_region ?_)
    | (((with_reducible refine isA_any ?_); refine xA ?_); (first | ((with_reducible refine e_load ?_); (first | refine ex_i (s_load1 tabOk rfl rfl rfl rfl (by (rw [Nat.mul_one]; exact hxa))) ?_ | refine ex_i (s_load1r tabOk rfl rfl rfl rfl (by (rw [Nat.mul_one]; exact hxa))) ?_ | refine ex_i (s_load1i tabOk rfl rfl rfl (by (rw [Nat.mul_one]; exact hxa))) ?_)) | ((with_reducible refine e_ix ?_); (first | refine ex_i (s_ixV1 tabOk rfl rfl zcj rfl rfl rfl rfl rfl zle (by (rw [Nat.mul_one]; exact hxa))) ?_ | refine ex_i (s_ixStr tabOk rfl rfl zcj rfl rfl (by (rw [Nat.mul_one]; exact hxa))) ?_))))
    | refine stA ?_
    | (refine hK _ _ _ _ ?_; clear hK hX K)
    | (refine hX _ _ _ _ _ (by simp) ?_; clear hK hX K))
        exact ⟨i + 1, by omega, by omega, (by refine weak_mk rfl ?_ ?_ rfl <;> (repeat' (first | exact weakE_nil | exact weakH_nil | refine weakE_cons rfl (by first | rfl | (rw [hp]) | exact own_eq rfl rfl (by omega) | exact int_eq (by omega) | (simp <;> fail) | (congr 4; omega) | (congr 3; omega) | (congr 2; omega)) rfl ?_ | refine weakH_cons rfl (by first | rfl | (rw [hp]) | exact own_eq rfl rfl (by omega) | exact int_eq (by omega) | (simp <;> fail) | (congr 4; omega) | (congr 3; omega) | (congr 2; omega)) rfl ?_)))⟩
      · have hiq : i = q := by omega
        have hnx : ¬ (prevI l i < x ∧ x < 4611686018427387904) := fun h => hbad fun y hy => by
          rw [← hiq, hx] at hy; injection hy with hy; subst hy; rw [← hiq]; exact h
        generalize prevI l i = p at hnx ⊢
        clear hbad hgood hall
        by_cases x1 : x ≤ p
        · repeat' (first
    | ((with_reducible refine aw_seqk ?_); intro K hK hX)
    | ((with_reducible refine isC_reg ?_); refine aw_prune [0, 1, 2, 4, 5, 7, 13, 14, 15] rfl rfl ?_; with_reducible refine aw_region ?_)
    | (((with_reducible refine isA_any ?_); refine xA ?_); (first | ((with_reducible refine e_load ?_); (first | refine ex_i (s_load1 tabOk rfl rfl rfl rfl (by (rw [Nat.mul_one]; exact hxa))) ?_ | refine ex_i (s_load1r tabOk rfl rfl rfl rfl (by (rw [Nat.mul_one]; exact hxa))) ?_ | refine ex_i (s_load1i tabOk rfl rfl rfl (by (rw [Nat.mul_one]; exact hxa))) ?_)) | ((with_reducible refine e_ix ?_); (first | refine ex_i (s_ixV1 tabOk rfl rfl zcj rfl rfl rfl rfl rfl zle (by (rw [Nat.mul_one]; exact hxa))) ?_ | refine ex_i (s_ixStr tabOk rfl rfl zcj rfl rfl (by (rw [Nat.mul_one]; exact hxa))) ?_))))
    | refine stA ?_
    | (refine hK _ _ _ _ ?_; clear hK hX K)
    | (refine hX _ _ _ _ _ (by simp) ?_; clear hK hX K))
          refine retK_mk (by first | exact .inl rfl | exact .inr rfl) (by exact trivial) rfl (ResL.one (ResA.tmp rfl)) (by first | exact out_c zfz | exact out_own rfl rfl)
        · have x2 : 4611686018427387904 ≤ x := by omega
          repeat' (first
    | ((with_reducible refine aw_seqk ?_); intro K hK hX)
    | ((with_reducible refine isC_reg ?_); refine aw_prune [0, 1, 2, 4, 5, 7, 13, 14, 15] rfl rfl ?_; with_reducible refine aw_region ?_)
    | (((with_reducible refine isA_any ?_); refine xA ?_); (first | ((with_reducible refine e_load ?_); (first | refine ex_i (s_load1 tabOk rfl rfl rfl rfl (by (rw [Nat.mul_one]; exact hxa))) ?_ | refine ex_i (s_load1r tabOk rfl rfl rfl rfl (by (rw [Nat.mul_one]; exact hxa))) ?_ | refine ex_i (s_load1i tabOk rfl rfl rfl (by (rw [Nat.mul_one]; exact hxa))) ?_)) | ((with_reducible refine e_ix ?_); (first | refine ex_i (s_ixV1 tabOk rfl rfl zcj rfl rfl rfl rfl rfl zle (by (rw [Nat.mul_one]; exact hxa))) ?_ | refine ex_i (s_ixStr tabOk rfl rfl zcj rfl rfl (by (rw [Nat.mul_one]; exact hxa))) ?_))))
    | refine stA ?_
    | (refine hK _ _ _ _ ?_; clear hK hX K)
    | (refine hX _ _ _ _ _ (by simp) ?_; clear hK hX K))
          refine retK_mk (by first | exact .inl rfl | exact .inr rfl) (by exact trivial) rfl (ResL.one (ResA.tmp rfl)) (by first | exact out_c zfz | exact out_own rfl rfl)
  · rw [decide_eq_false (fun h => f1 (by have := h.1; omega))]
    refine ac_enter tabOk (sz := 28) Try.func93 rfl (by rw [Try.ntmps93]; rfl) ?_
    repeat' (first
    | ((with_reducible refine aw_seqk ?_); intro K hK hX)
    | ((with_reducible refine isC_reg ?_); refine aw_prune [0, 1, 2, 4, 5, 7, 13, 14, 15] rfl rfl ?_; with_reducible refine aw_region ?_)
    | refine stA ?_
    | (refine hK _ _ _ _ ?_; clear hK hX K)
    | (refine hX _ _ _ _ _ (by simp) ?_; clear hK hX K))
    refine retK_mk (by first | exact .inl rfl | exact .inr rfl) (by exact trivial) rfl (ResL.one (ResA.tmp rfl)) (by first | exact out_c zfz | exact out_own rfl rfl)
open Classical in
set_option maxHeartbeats 4000000 in
theorem valb_ok (nm sr : List UInt8) (col d : Int) (w : Nat) (l : List Int) (n : Nat) (hn : l.length = n) (hm : n ≤ maxLen) (hw : (w : Int) ≤ 9223372036854775807) : AC Try.prog 42 [.agg [sv nm, sv sr, iv col, iv 2, iv w, iv d], .sl 1 n (intc .i64 l)] (.c (bv (decide (formP ⟨nm, sr, col, 2, w, d⟩ ∧ hashP w l)))) [] 0 := by
  have hf := form_ok ⟨nm, sr, col, 2, w, d⟩
  have h1 := vhash_ok nm sr col 2 d w l n hn hm hw
  simp only [Sk.c] at hf
  by_cases f1 : formP ⟨nm, sr, col, 2, w, d⟩
  · rw [form_t f1] at hf
    have e : ∀ i j, @decide (formP ⟨nm, sr, col, 2, w, d⟩ ∧ hashP w l) i = @decide (hashP w l) j := fun i j => by
      by_cases h : hashP w l <;> simp [f1, h]
    rw [e _ (Classical.propDecidable _)]
    generalize @decide (hashP w l) _ = b at h1 ⊢
    refine ac_enter tabOk (sz := 31) Try.func42 rfl (by rw [Try.ntmps42]; rfl) ?_
    repeat' (first
    | ((with_reducible refine aw_seqk ?_); intro K hK hX)
    | ((with_reducible refine isC_reg ?_); refine aw_prune [0, 1, 2, 4, 5] rfl rfl ?_; with_reducible refine aw_region ?_)
    | ((with_reducible refine isA_call ?_); (first | refine zA ?_ | refine zN ?_); (first | refine c0 (hf) ?_ | refine c0 (h1) ?_))
    | refine stA ?_
    | (refine hK _ _ _ _ ?_; clear hK hX K)
    | (refine hX _ _ _ _ _ (by simp) ?_; clear hK hX K))
    refine retK_mk (by first | exact .inl rfl | exact .inr rfl) (by exact ⟨va_idle, va_idle_b, trivial⟩) rfl (ResL.one (ResA.tmp rfl)) (by first | exact out_c zfz | exact out_own rfl rfl)
  · rw [form_f f1] at hf
    rw [decide_eq_false (fun h => f1 h.1)]
    refine ac_enter tabOk (sz := 31) Try.func42 rfl (by rw [Try.ntmps42]; rfl) ?_
    repeat' (first
    | ((with_reducible refine aw_seqk ?_); intro K hK hX)
    | ((with_reducible refine isC_reg ?_); refine aw_prune [0, 1, 2, 4, 5] rfl rfl ?_; with_reducible refine aw_region ?_)
    | ((with_reducible refine isA_call ?_); (first | refine zA ?_ | refine zN ?_); (first | refine c0 (hf) ?_))
    | refine stA ?_
    | (refine hK _ _ _ _ ?_; clear hK hX K)
    | (refine hX _ _ _ _ _ (by simp) ?_; clear hK hX K))
    refine retK_mk (by first | exact .inl rfl | exact .inr rfl) (by exact ⟨va_idle, va_idle_b, trivial⟩) rfl (ResL.one (ResA.tmp rfl)) (by first | exact out_c zfz | exact out_own rfl rfl)
set_option maxHeartbeats 4000000 in
theorem smallest_ok (nm sr : List UInt8) (col kd d : Int) (w : Nat) (l : List Int) (n : Nat) (hn : l.length = n) (h0 : 0 < n) (hnn : n ≤ 1000000) (hw : w ≤ 100000) : ACP Try.prog 98 2 1 n [.agg [sv nm, sv sr, iv col, iv kd, iv w, iv d]] (intc .i64 l) [] (intc .i64 (smallI w l)) (smallI w l).length := by
  have h1 := sort64_ok l n hn hnn
  have hsl := sortI_length l
  have h2 := compact_ok (sortI l) n (by rw [hsl, hn]) h0 hnn
  have hS : smallI w l = (compN (sortI l) n).take w := by unfold smallI ascL; rw [hn]
  have hcl := compN_length (sortI l) n
  have hsi : (intc .i64 (sortI l)).length = n := by rw [ic_len, hsl, hn]
  have hil : (intc .i64 l).length = n := by rw [ic_len, hn]
  rw [hS]
  generalize compN (sortI l) n = C at *
  obtain ⟨m, hm⟩ : ∃ m, C.length = m := ⟨_, rfl⟩
  have hci : (intc .i64 C).length = m := by rw [ic_len, hm]
  obtain ⟨q, hq⟩ : ∃ q, min w m = q := ⟨_, rfl⟩
  have hql : (C.take w).length = q := by rw [List.length_take, hm, hq]
  have hct : C.take w = C.take q := by
    rw [← hq]
    by_cases h : w ≤ m
    · rw [Nat.min_eq_left h]
    · rw [Nat.min_eq_right (by omega), List.take_of_length_le (by omega), List.take_of_length_le (by omega)]
  rw [hm] at h2 hcl
  rw [hql, hct]
  have hmin : (if (m : Int) < (w : Int) then (m : Int) else (w : Int)) = (q : Int) := by split <;> omega
  have hqm : q ≤ m := by omega
  clear hS hsl hql hct hq
  refine acp_enter tabOk (sz := 16) Try.func98 rfl (by rw [Try.ntmps98]; rfl) (h0) ?_
  repeat' (first
    | ((with_reducible refine aw_seqk ?_); intro K hK hX)
    | ((with_reducible refine isC_reg ?_); refine aw_prune [0, 1, 2, 4] rfl rfl ?_; with_reducible refine aw_region ?_)
    | ((with_reducible refine isA_call ?_); refine awl_callS (h1) g_none rfl (by unfold Body; kernel_rfl) (h0) rfl rfl (rfl) rfl zcv ?_)
    | ((with_reducible refine isA_call ?_); refine awl_callP (h2) g_none rfl (by unfold Body; kernel_rfl) (h0) rfl rfl (rfl) rfl zcv ?_)
    | (((with_reducible refine isA_any ?_); refine xA ?_); (first | ((with_reducible refine e_bi ?_); (first | refine ex_i (s_min rfl rfl hmin) ?_))))
    | refine stA ?_
    | (refine hK _ _ _ _ ?_; clear hK hX K)
    | (refine hX _ _ _ _ _ (by simp) ?_; clear hK hX K))
  refine retP_mk (by first | exact .inl rfl | exact .inr rfl) (by exact trivial) rfl rfl rfl rfl (by rw [Nat.mul_one, ← ic_take]) (ResL.one (ResA.tmp rfl))
set_option maxHeartbeats 4000000 in
theorem compact_nil : AC Try.prog 131 [.v (.slice none 0 0)] (.c (.v (.slice none 0 0))) [] 0 := by
  refine ac_enter tabOk (sz := 61) Try.func131 rfl (by rw [Try.ntmps131]; rfl) ?_
  repeat' (first
    | ((with_reducible refine aw_seqk ?_); intro K hK hX)
    | ((with_reducible refine isC_reg ?_); refine aw_prune [0, 2, 3, 4, 5] rfl rfl ?_; with_reducible refine aw_region ?_)
    | ((with_reducible refine isC_draw ?_); refine aw_prune [0, 2, 3, 4, 5] rfl rfl ?_; refine aw_drwF [] ?_)
    | refine stA ?_
    | refine stD ?_
    | (refine hK _ _ _ _ ?_; clear hK hX K)
    | (refine hX _ _ _ _ _ (by simp) ?_; clear hK hX K))
  refine retK_mk (by first | exact .inl rfl | exact .inr rfl) (by exact trivial) rfl (ResL.one (ResA.tmp rfl)) (by first | exact out_c zfz | exact out_own rfl rfl)
set_option maxHeartbeats 4000000 in
theorem smallest_nil (nm sr : List UInt8) (col kd d : Int) (w : Nat) (hw : w ≤ 100000) : AC Try.prog 98 [.agg [sv nm, sv sr, iv col, iv kd, iv w, iv d], .v (.slice none 0 0)] (.c (.v (.slice none 0 0))) [] 0 := by
  have h1 := sort64_none
  have h2 := compact_nil
  have hmin : (if (0 : Int) < (w : Int) then (0 : Int) else (w : Int)) = ((0 : Nat) : Int) := by split <;> omega
  refine ac_enter tabOk (sz := 16) Try.func98 rfl (by rw [Try.ntmps98]; rfl) ?_
  repeat' (first
    | ((with_reducible refine aw_seqk ?_); intro K hK hX)
    | ((with_reducible refine isC_reg ?_); refine aw_prune [0, 1, 2, 4] rfl rfl ?_; with_reducible refine aw_region ?_)
    | ((with_reducible refine isA_call ?_); (first | refine zA ?_ | refine zN ?_); (first | refine c0 (h1) ?_ | refine c0 (h2) ?_))
    | (((with_reducible refine isA_any ?_); refine xA ?_); (first | ((with_reducible refine e_bi ?_); (first | refine ex_i (s_min rfl rfl hmin) ?_))))
    | refine stA ?_
    | (refine hK _ _ _ _ ?_; clear hK hX K)
    | (refine hX _ _ _ _ _ (by simp) ?_; clear hK hX K))
  refine retK_mk (by first | exact .inl rfl | exact .inr rfl) (by exact trivial) rfl (ResL.one (ResA.tmp rfl)) (by first | exact out_c zfz | exact out_own rfl rfl)
end Go.Proofs.Ytccnhpaldmjkbaa
/-
  The numbers of a bag's values in a bottom-k sketch. Plain.
-/
set_option linter.unusedVariables false
set_option linter.unusedSimpArgs false
namespace Go.Proofs.Ytccnhpaldmjkbaa
open Go Go.RowKit Go.Av
set_option maxRecDepth 100000
/-- The number of a value in a bottom-k sketch. -/
def botN (v : Vl) : Int := (((hashV v (UInt8.ofNat 0)).toNat / 4 : Nat) : Int)
theorem botN_bd (v : Vl) : 0 ≤ botN v ∧ botN v < 4611686018427387904 := by
  unfold botN
  have := (hashV v (UInt8.ofNat 0)).isLt
  omega
def hashE (col : Nat) (b : List En) : List Int := b.flatMap fun e => if (cellV e.r col).k = 0 then [] else [botN (cellV e.r col)]
theorem hashE_step {col : Nat} {b : List En} {i : Nat} {e : En} (h : b[i]? = some e) : hashE col (b.take (i + 1)) = hashE col (b.take i) ++ if (cellV e.r col).k = 0 then [] else [botN (cellV e.r col)] := by
  unfold hashE
  rw [List.take_add_one, h]
  simp
theorem hashE_app (col : Nat) (a b : List En) : hashE col (a ++ b) = hashE col a ++ hashE col b := by simp [hashE]
theorem hashE_mem {col : Nat} {b : List En} {x : Int} : x ∈ hashE col b ↔ ∃ e ∈ b, (cellV e.r col).k ≠ 0 ∧ botN (cellV e.r col) = x := by
  unfold hashE
  rw [List.mem_flatMap]
  constructor
  · rintro ⟨e, he, hx⟩
    by_cases h : (cellV e.r col).k = 0
    · rw [if_pos h] at hx; cases hx
    · rw [if_neg h] at hx
      exact ⟨e, he, h, by simpa using (List.mem_singleton.1 hx).symm⟩
  · rintro ⟨e, he, h, hx⟩
    exact ⟨e, he, by rw [if_neg h]; simp [hx]⟩
theorem hashE_length (col : Nat) : ∀ b : List En, (hashE col b).length ≤ b.length
  | [] => Nat.le_refl _
  | e :: b => by
    have := hashE_length col b
    unfold hashE at this ⊢
    rw [List.flatMap_cons, List.length_append, List.length_cons]
    split
    · rw [List.length_nil]; omega
    · rw [List.length_singleton]; omega
theorem hashE_bd {col : Nat} {b : List En} {x : Int} (h : x ∈ hashE col b) : 0 ≤ x ∧ x < 4611686018427387904 := by
  obtain ⟨e, _, _, rfl⟩ := hashE_mem.1 h
  exact botN_bd _
end Go.Proofs.Ytccnhpaldmjkbaa
/-
  Bottom-k sketches of bags (walk).
-/
set_option linter.unusedVariables false
set_option linter.unusedSimpArgs false
namespace Go.Proofs.Ytccnhpaldmjkbaa
open Go Go.RowKit Go.Av
set_option maxRecDepth 100000
attribute [local irreducible] Still Adds AWL AW Drw DrwE EStep AC AWR Weak Frz Src RetK Out InK ItK AsK RdK RetT OutT ACT ACS RetS ACP RetP
set_option maxHeartbeats 4000000 in
theorem both_ok (v : Vl) : AC Try.prog 99 [.agg v.c] (.c (iv (botN v))) [] 0 := by
  have hh := hash_ok v ((0 : Nat) : Int) (UInt8.ofNat 0) (row_byte (by decide))
  unfold botN
  generalize hashV v (UInt8.ofNat 0) = x at hh ⊢
  have hx := x.isLt
  have hq := qu64 (a := x.toNat) (b := 4) hx (by decide)
  have hc : IntKind.i64.wrap ((x.toNat / 4 : Nat) : Int) = ((x.toNat / 4 : Nat) : Int) := w64 (by omega) (by omega)
  generalize x.toNat / 4 = y at hq hc ⊢
  obtain ⟨a, m, b⟩ := v
  simp only [Vl.c] at *
  refine ac_enter tabOk (sz := 7) Try.func99 rfl (by rw [Try.ntmps99]; rfl) ?_
  repeat' (first
    | ((with_reducible refine aw_seqk ?_); intro K hK hX)
    | ((with_reducible refine isC_reg ?_); refine aw_prune [0, 1, 2] rfl rfl ?_; with_reducible refine aw_region ?_)
    | ((with_reducible refine isA_call ?_); (first | refine zA ?_ | refine zN ?_); (first | refine c0 (hh) ?_))
    | (((with_reducible refine isA_any ?_); refine xA ?_); (first | ((with_reducible refine e_bin ?_); (first | refine ex_i (s_quo (k := .u64) rfl rfl (by decide) hq) ?_)) | ((with_reducible refine e_conv ?_); (first | refine ex_i (s_convInt tabOk rfl rfl rfl rfl hc) ?_))))
    | refine stA ?_
    | (refine hK _ _ _ _ ?_; clear hK hX K)
    | (refine hX _ _ _ _ _ (by simp) ?_; clear hK hX K))
  refine retK_mk (by first | exact .inl rfl | exact .inr rfl) (by exact trivial) rfl (ResL.one (ResA.tmp rfl)) (by first | exact out_c zfz | exact out_own rfl rfl)
/-- No value at all: nothing is built. -/
theorem bh_nil (nm sr : List UInt8) (col : Nat) (kd d : Int) (w : Nat) (b : List En) (n : Nat) (hn : b.length = n) (hm : n ≤ maxLen) (hfb : fitB b) (hcol : (col : Int) ≤ 9223372036854775807) (hw : w ≤ 100000) (he0 : hashE col b = []) : AC Try.prog 83 [.agg [sv nm, sv sr, iv col, iv kd, iv w, iv d], .sl 2 n (ec b)] (.c (.v (.slice none 0 0))) [] 0 := by
  have hml : n ≤ 9223372036854775807 := hm
  clear hm
  have hbl : (ec b).length = n * 2 := by rw [ec_length, hn]
  have h1 := smallest_nil nm sr col kd d w hw
  have hz : ∀ e ∈ b, (cellV e.r col).k = 0 := fun e he => Classical.byContradiction fun h => by
    have := hashE_mem.2 ⟨e, he, h, rfl⟩
    rw [he0] at this
    cases this
  refine ac_enter tabOk (sz := 32) Try.func83 rfl (by rw [Try.ntmps83]; rfl) ?_
  repeat' (first
    | ((with_reducible refine aw_seqk ?_); intro K hK hX)
    | ((with_reducible refine isC_reg ?_); refine aw_prune [0, 1, 2, 4, 5, 7, 8, 9, 10, 11] rfl rfl ?_; with_reducible refine aw_region ?_)
    | refine stA ?_
    | (refine hK _ _ _ _ ?_; clear hK hX K)
    | (refine hX _ _ _ _ _ (by simp) ?_; clear hK hX K))
  refine aw_loopo [7, 8, 11] [] rfl rfl (fun i : Nat => [(11, .c (iv i))]) (fun i => []) (fun i => i ≤ n) (fun i => n - i) 0 (by omega) weakA ?_
  intro i hi K hK hX
  by_cases hlt : i < n
  · have htr : True := trivial
    obtain ⟨e, he⟩ : ∃ e, b[i]? = some e := ⟨b[i]'(by omega), List.getElem?_eq_getElem _⟩
    have hat := ec_at he
    have her := hfb e (List.mem_of_getElem? he)
    have hce := cellOf_ok e.r e.r.length rfl her col (by omega)
    have hst := hashE_step (col := col) he
    obtain ⟨r, c⟩ := e
    simp only [En.c] at *
    have hk := hz _ (List.mem_of_getElem? he)
    simp only at hk
    clear hz he0 hst
    generalize cellV r col = v at hce hk
    obtain ⟨a, m, t⟩ := v
    simp only [Vl.c] at *
    repeat' (first
    | ((with_reducible refine aw_seqk ?_); intro K hK hX)
    | ((with_reducible refine isC_reg ?_); refine aw_prune [0, 1, 2, 4, 5, 7, 8, 9, 10, 11] rfl rfl ?_; with_reducible refine aw_region ?_)
    | ((with_reducible refine isA_call ?_); (first | refine zA ?_ | refine zN ?_); (first | refine c0 (hce) ?_))
    | (((with_reducible refine isA_any ?_); refine xA ?_); (first | ((with_reducible refine e_load ?_); (first | refine ex_i (s_loadAr tabOk rfl rfl rfl rfl (by first | exact hat | exact whole0 (by first | rfl | omega) | rfl) zln) ?_ | refine ex_i (s_loadAi tabOk rfl rfl rfl (by first | exact hat | exact whole0 (by first | rfl | omega) | rfl) zln) ?_)) | ((with_reducible refine e_slice ?_); (first | refine ex_i (s_slArri tabOk rfl rfl rfl rfl zbd zbd zle zle (by decide) (by first | exact hat | exact whole0 (by first | rfl | omega) | rfl) zln) ?_))))
    | refine stA ?_
    | (refine hK _ _ _ _ ?_; clear hK hX K)
    | (refine hX _ _ _ _ _ (by simp) ?_; clear hK hX K))
    exact ⟨i + 1, by omega, by omega, weakA⟩
  · clear hz
    repeat' (first
    | ((with_reducible refine aw_seqk ?_); intro K hK hX)
    | ((with_reducible refine isC_reg ?_); refine aw_prune [0, 1, 2, 4, 5, 7, 8, 9, 10, 11] rfl rfl ?_; with_reducible refine aw_region ?_)
    | ((with_reducible refine isA_call ?_); (first | refine zA ?_ | refine zN ?_); (first | refine c0 (h1) ?_))
    | refine stA ?_
    | (refine hK _ _ _ _ ?_; clear hK hX K)
    | (refine hX _ _ _ _ _ (by simp) ?_; clear hK hX K))
    refine retK_mk (by first | exact .inl rfl | exact .inr rfl) (by exact trivial) rfl (ResL.one (ResA.tmp rfl)) (by first | exact out_c zfz | exact out_own rfl rfl)
set_option maxHeartbeats 8000000 in
theorem bh_some (nm sr : List UInt8) (col : Nat) (kd d : Int) (w : Nat) (b : List En) (n : Nat) (hn : b.length = n) (hm : n ≤ 1000000) (hfb : fitB b) (hcol : (col : Int) ≤ 9223372036854775807) (hw : w ≤ 100000) (he0 : hashE col b ≠ []) : AC Try.prog 83 [.agg [sv nm, sv sr, iv col, iv kd, iv w, iv d], .sl 2 n (ec b)] (.c (.sl 1 (smallI w (hashE col b)).length (intc .i64 (smallI w (hashE col b))))) [] 0 := by
  have hbl : (ec b).length = n * 2 := by rw [ec_length, hn]
  have hlen := hashE_length col b
  have hpos : 0 < (hashE col b).length := List.length_pos_iff.2 he0
  have h1 := smallest_ok nm sr col kd d w (hashE col b) (hashE col b).length rfl hpos (by omega) hw
  obtain ⟨H, hH⟩ : ∃ H : Nat → List Int, ∀ i, H i = hashE col (b.take i) := ⟨_, fun _ => rfl⟩
  obtain ⟨q, hq⟩ : ∃ q : Nat → Nat, ∀ i, (H i).length = q i := ⟨_, fun _ => rfl⟩
  have hqb : ∀ i, q i ≤ n := fun i => by
    rw [← hq, hH]
    have := hashE_length col (b.take i)
    rw [List.length_take] at this
    omega
  have hHn : H n = hashE col b := by rw [hH, List.take_of_length_le (by omega)]
  have hH0 : [] = H 0 := (hH 0).symm
  have hq0 : 0 = q 0 := by rw [← hq, hH]; rfl
  rw [← hHn] at h1 hpos ⊢
  rw [hq] at h1 hpos
  obtain ⟨Q, hQ⟩ : ∃ Q, (smallI w (H n)).length = Q := ⟨_, rfl⟩
  rw [hQ] at h1 ⊢
  have hSl : (intc .i64 (smallI w (H n))).length = Q := by rw [ic_len, hQ]
  generalize smallI w (H n) = S at *
  clear hlen he0 hHn
  refine ac_enter tabOk (sz := 32) Try.func83 rfl (by rw [Try.ntmps83]; rfl) ?_
  repeat' (first
    | ((with_reducible refine aw_seqk ?_); intro K hK hX)
    | ((with_reducible refine isC_reg ?_); refine aw_prune [0, 1, 2, 4, 5, 7, 8, 9, 10, 11] rfl rfl ?_; with_reducible refine aw_region ?_)
    | refine stA ?_
    | (refine hK _ _ _ _ ?_; clear hK hX K)
    | (refine hX _ _ _ _ _ (by simp) ?_; clear hK hX K))
  refine aw_nilown 5 2 1 rfl ?_
  refine aw_loopo [5, 7, 8, 11] [1] rfl rfl (fun i : Nat => [(5, .own 1 0 (q i) 1 true), (11, .c (iv i))]) (fun i => [(1, .row 2 (intc .i64 (H i)))]) (fun i => i ≤ n) (fun i => n - i) 0 (Nat.zero_le _) (by refine weak_mk rfl ?_ ?_ rfl <;> (repeat' (first | exact weakE_nil | exact weakH_nil | refine weakE_cons rfl (by first | rfl | (first | exact own_eq rfl rfl hq0 | exact congrArg (fun x => AObj.row 2 (intc .i64 x)) hH0) | exact own_eq rfl rfl (by omega) | exact int_eq (by omega) | (simp <;> fail) | (congr 4; omega) | (congr 3; omega) | (congr 2; omega)) rfl ?_ | refine weakH_cons rfl (by first | rfl | (first | exact own_eq rfl rfl hq0 | exact congrArg (fun x => AObj.row 2 (intc .i64 x)) hH0) | exact own_eq rfl rfl (by omega) | exact int_eq (by omega) | (simp <;> fail) | (congr 4; omega) | (congr 3; omega) | (congr 2; omega)) rfl ?_))) ?_
  intro i hi K hK hX
  have hli : (intc .i64 (H i)).length = q i := by rw [ic_len, hq]
  by_cases hlt : i < n
  · have htr : True := trivial
    obtain ⟨e, he⟩ : ∃ e, b[i]? = some e := ⟨b[i]'(by omega), List.getElem?_eq_getElem _⟩
    have hat := ec_at he
    have her := hfb e (List.mem_of_getElem? he)
    have hce := cellOf_ok e.r e.r.length rfl her col (by omega)
    have hst := hashE_step (col := col) he
    obtain ⟨r, c⟩ := e
    simp only [En.c] at *
    have hqi := hq i
    have hqs := hq (i + 1)
    have hqn := hqb i
    rw [← hH, ← hH] at hst
    clear hq hH hqb hH0 hq0
    generalize cellV r col = v at hce hst
    by_cases hk : v.k = 0
    · rw [if_pos hk, List.append_nil] at hst
      have hqe : q i = q (i + 1) := by rw [← hqi, ← hqs, hst]
      obtain ⟨a, m, t⟩ := v
      simp only [Vl.c] at *
      repeat' (first
    | ((with_reducible refine aw_seqk ?_); intro K hK hX)
    | ((with_reducible refine isC_reg ?_); refine aw_prune [0, 1, 2, 4, 5, 7, 8, 9, 10, 11] rfl rfl ?_; with_reducible refine aw_region ?_)
    | ((with_reducible refine isA_call ?_); (first | refine zA ?_ | refine zN ?_); (first | refine c0 (hce) ?_))
    | (((with_reducible refine isA_any ?_); refine xA ?_); (first | ((with_reducible refine e_load ?_); (first | refine ex_i (s_loadAr tabOk rfl rfl rfl rfl (by first | exact hat | exact whole0 (by first | rfl | omega) | rfl) zln) ?_ | refine ex_i (s_loadAi tabOk rfl rfl rfl (by first | exact hat | exact whole0 (by first | rfl | omega) | rfl) zln) ?_)) | ((with_reducible refine e_slice ?_); (first | refine ex_i (s_slArri tabOk rfl rfl rfl rfl zbd zbd zle zle (by decide) (by first | exact hat | exact whole0 (by first | rfl | omega) | rfl) zln) ?_))))
    | refine stA ?_
    | (refine hK _ _ _ _ ?_; clear hK hX K)
    | (refine hX _ _ _ _ _ (by simp) ?_; clear hK hX K))
      exact ⟨i + 1, by omega, by omega, (by refine weak_mk rfl ?_ ?_ rfl <;> (repeat' (first | exact weakE_nil | exact weakH_nil | refine weakE_cons rfl (by first | rfl | (first | exact own_eq rfl rfl hqe | exact congrArg (fun x => AObj.row 2 (intc .i64 x)) hst.symm) | exact own_eq rfl rfl (by omega) | exact int_eq (by omega) | (simp <;> fail) | (congr 4; omega) | (congr 3; omega) | (congr 2; omega)) rfl ?_ | refine weakH_cons rfl (by first | rfl | (first | exact own_eq rfl rfl hqe | exact congrArg (fun x => AObj.row 2 (intc .i64 x)) hst.symm) | exact own_eq rfl rfl (by omega) | exact int_eq (by omega) | (simp <;> fail) | (congr 4; omega) | (congr 3; omega) | (congr 2; omega)) rfl ?_)))⟩
    · rw [if_neg hk] at hst
      have hqe : q i + 1 = q (i + 1) := by rw [← hqi, ← hqs, hst, List.length_append]; rfl
      have hrow : intc .i64 (H i) ++ [iv (botN v)] = intc .i64 (H (i + 1)) := by rw [hst]; simp [intc]
      have hb := both_ok v
      generalize botN v = y at hb hrow
      obtain ⟨a, m, t⟩ := v
      simp only [Vl.c] at *
      repeat' (first
    | ((with_reducible refine aw_seqk ?_); intro K hK hX)
    | ((with_reducible refine isC_reg ?_); refine aw_prune [0, 1, 2, 4, 5, 7, 8, 9, 10, 11] rfl rfl ?_; with_reducible refine aw_region ?_)
    | ((with_reducible refine isA_call ?_); (first | refine zA ?_ | refine zN ?_); (first | refine c0 (hce) ?_ | refine c0 (hb) ?_))
    | (((with_reducible refine isA_any ?_); refine xA ?_); (first | ((with_reducible refine e_load ?_); (first | refine ex_i (s_loadAr tabOk rfl rfl rfl rfl (by first | exact hat | exact whole0 (by first | rfl | omega) | rfl) zln) ?_ | refine ex_i (s_loadAi tabOk rfl rfl rfl (by first | exact hat | exact whole0 (by first | rfl | omega) | rfl) zln) ?_)) | ((with_reducible refine e_slice ?_); (first | refine ex_i (s_slArri tabOk rfl rfl rfl rfl zbd zbd zle zle (by decide) (by first | exact hat | exact whole0 (by first | rfl | omega) | rfl) zln) ?_))))
    | refine stA ?_
    | (refine hK _ _ _ _ ?_; clear hK hX K)
    | (refine hX _ _ _ _ _ (by simp) ?_; clear hK hX K))
      exact ⟨i + 1, by omega, by omega, (by refine weak_ren [0, 5] rfl rfl ?_ ?_ rfl rfl <;> (repeat' (first | exact weakER_nil | exact weakHR_nil | refine weakER_cons rfl (by first | rfl | (first | exact own_eq rfl rfl hqe | exact congrArg (AObj.row 2) hrow) | exact own_eq rfl rfl (by omega) | exact int_eq (by omega) | (simp <;> fail) | (congr 4; omega) | (congr 3; omega) | (congr 2; omega)) rfl ?_ | refine weakHR_cons rfl (by first | rfl | (first | exact own_eq rfl rfl hqe | exact congrArg (AObj.row 2) hrow) | exact own_eq rfl rfl (by omega) | exact int_eq (by omega) | (simp <;> fail) | (congr 4; omega) | (congr 3; omega) | (congr 2; omega)) rfl ?_)))⟩
  · have hin : i = n := by omega
    rw [hin] at hli ⊢
    clear hq hH hqb hH0 hq0
    repeat' (first
    | ((with_reducible refine aw_seqk ?_); intro K hK hX)
    | ((with_reducible refine isC_reg ?_); refine aw_prune [0, 1, 2, 4, 5, 7, 8, 9, 10, 11] rfl rfl ?_; with_reducible refine aw_region ?_)
    | ((with_reducible refine isA_call ?_); refine awl_callP1 (h1) g_none rfl (by unfold Body; kernel_rfl) (hpos) rfl rfl (rfl) rfl zcv rfl zcv ?_)
    | refine stA ?_
    | (refine hK _ _ _ _ ?_; clear hK hX K)
    | (refine hX _ _ _ _ _ (by simp) ?_; clear hK hX K))
    refine retK_mk (by first | exact .inl rfl | exact .inr rfl) (by exact trivial) rfl (ResL.one (ResA.tmp rfl)) (by first | exact out_c zfz | exact out_own rfl rfl)
end Go.Proofs.Ytccnhpaldmjkbaa
/-
  Bottom-k sketches of bags, and the law SketchSupport (walk).
-/
set_option linter.unusedVariables false
set_option linter.unusedSimpArgs false
namespace Go.Proofs.Ytccnhpaldmjkbaa
open Go Go.RowKit Go.Av
set_option maxRecDepth 100000
theorem BagF.up {M N : Nat} {b : List En} (h : BagF M b) (hN : M ≤ N) : BagF N b := ⟨h.srt, h.pos, h.row, Nat.le_trans h.abs hN⟩
theorem supp_length (b : List En) : (suppE b).length = b.length := by simp [suppE]
theorem supp_abs : ∀ b : List En, absS (suppE b) = b.length
  | [] => rfl
  | e :: b => by
    have := supp_abs b
    unfold suppE at this ⊢
    rw [List.map_cons, absS_cons, this, List.length_cons]
    simp only [Int.natAbs_one]
    omega
theorem BagF.supp {M : Nat} {b : List En} (h : BagF M b) : BagF M (suppE b) := by
  refine ⟨?_, fun e he => ?_, fun e he => ?_, by rw [supp_abs]; exact h.len⟩
  · unfold srtE suppE
    rw [List.pairwise_map]
    exact h.srt
  · obtain ⟨f, hf, rfl⟩ := List.mem_map.1 he
    simp only; omega
  · obtain ⟨f, hf, rfl⟩ := List.mem_map.1 he
    exact h.row f hf
theorem hashE_supp (col : Nat) (b : List En) : hashE col (suppE b) = hashE col b := by
  unfold hashE suppE
  induction b with
  | nil => rfl
  | cons e b ih => rw [List.map_cons, List.flatMap_cons, List.flatMap_cons, ih]
theorem putP_one (l : List Int) (p : Nat) (n m : Int) : putP 1 l p n = putP 1 l p m := rfl
theorem addN_one (w : Nat) (v : Vl) (n m : Int) (l : List Int) : ∀ i, addN 1 w v n l i = addN 1 w v m l i
  | 0 => rfl
  | i + 1 => by rw [addN, addN, addN_one w v n m l i]; rfl
theorem stepE_one (w d col : Nat) (l : List Int) (r : List Vl) (n m : Int) : stepE 1 w d col l ⟨r, n⟩ = stepE 1 w d col l ⟨r, m⟩ := by
  unfold stepE
  simp only
  split
  · rfl
  · exact addN_one ..
theorem foldE_supp (w d col : Nat) : ∀ (b : List En) (l : List Int), (suppE b).foldl (stepE 1 w d col) l = b.foldl (stepE 1 w d col) l
  | [], _ => rfl
  | e :: b, l => by
    have := foldE_supp w d col b (stepE 1 w d col l e)
    obtain ⟨r, n⟩ := e
    unfold suppE at this ⊢
    rw [List.map_cons, List.foldl_cons, List.foldl_cons, stepE_one w d col l r 1 n, this]
theorem buildN_supp (w d col : Nat) (b : List En) (n : Nat) : buildN 1 w d col (suppE b) n = buildN 1 w d col b n := by
  unfold buildN
  have : (suppE b).take n = suppE (b.take n) := by unfold suppE; rw [List.map_take]
  rw [this, foldE_supp]
/-- Cells of a Bloom filter. -/
def in01 (l : List Int) : Prop := ∀ x ∈ l, x = 0 ∨ x = 1
theorem addN_01 {w : Nat} {v : Vl} {n : Int} {l : List Int} (h : in01 l) : ∀ i, in01 (addN 1 w v n l i)
  | 0 => h
  | i + 1 => fun x hx => by
    rw [addN, putP, if_neg (by decide)] at hx
    rcases List.mem_or_eq_of_mem_set hx with hx | hx
    · exact addN_01 h i x hx
    · exact .inr hx
theorem stepE_01 {w d col : Nat} {l : List Int} {e : En} (h : in01 l) : in01 (stepE 1 w d col l e) := by
  unfold stepE
  split
  · exact h
  · exact addN_01 h d
theorem foldE_01 {w d col : Nat} : ∀ (b : List En) {l : List Int}, in01 l → in01 (b.foldl (stepE 1 w d col) l)
  | [], _, h => h
  | e :: b, _, h => by rw [List.foldl_cons]; exact foldE_01 b (stepE_01 h)
theorem buildN_01 (w d col : Nat) (b : List En) (n : Nat) : in01 (buildN 1 w d col b n) := by
  unfold buildN
  exact foldE_01 _ fun x hx => .inl (List.eq_of_mem_replicate hx)
attribute [local irreducible] Still Adds AWL AW Drw DrwE EStep AC AWR Weak Frz Src RetK Out InK ItK AsK RdK RetT OutT ACT ACS RetS ACP RetP
set_option maxHeartbeats 4000000 in
theorem build2_nil (nm sr : List UInt8) (col : Nat) (d : Int) (w : Nat) (b : List En) (n : Nat) (hn : b.length = n) (hfb : fitB b) (hf : formP ⟨nm, sr, col, 2, w, d⟩) (hp : posP b) (hcol : (col : Int) ≤ 9223372036854775807) (he0 : hashE col b = []) : AC Try.prog 37 [.agg [sv nm, sv sr, iv col, iv 2, iv w, iv d], .sl 2 n (ec b)] (.tup [.c (.v (.slice none 0 0)), .c (iv 0)]) [] 0 := by
  have hn4 : n ≤ 4096 := by have := hp.1.1; omega
  have hm : n ≤ maxLen := by simp only [maxLen]; omega
  obtain ⟨f1, f2, f3, f4, f5, f6⟩ := id hf
  simp only at f1 f2 f3 f4 f5 f6
  have h1 := form_ok ⟨nm, sr, col, 2, w, d⟩
  rw [form_t hf] at h1
  have h2 := pos_ok b n hn hm hfb
  have : ∀ i : Decidable (posP b), @decide _ i = true := fun i => @decide_eq_true _ i hp
  rw [this] at h2
  have h3 := bh_nil nm sr col 2 d w b n hn hm hfb hcol (by omega) he0
  simp only [Sk.c] at h1
  refine ac_enter tabOk (sz := 57) Try.func37 rfl (by rw [Try.ntmps37]; rfl) ?_
  repeat' (first
    | ((with_reducible refine aw_seqk ?_); intro K hK hX)
    | ((with_reducible refine isC_reg ?_); refine aw_prune [0, 1, 2, 4, 5, 6, 8, 9, 35, 36, 37] rfl rfl ?_; with_reducible refine aw_region ?_)
    | ((with_reducible refine isA_call ?_); (first | refine zA ?_ | refine zN ?_); (first | refine c0 (h1) ?_ | refine c0 (h2) ?_ | refine c0 (h3) ?_))
    | refine stA ?_
    | (refine hK _ _ _ _ ?_; clear hK hX K)
    | (refine hX _ _ _ _ _ (by simp) ?_; clear hK hX K))
  refine retK_mk (by first | exact .inl rfl | exact .inr rfl) (by exact ⟨bu_idle, bu_idle_b, trivial⟩) rfl (ResL.two (ResA.tmp rfl) (ResA.tmp rfl)) (out_t (frzl_cons zfz (frzl_cons zfz frzl_nil)))
set_option maxHeartbeats 4000000 in
theorem build2_some (nm sr : List UInt8) (col : Nat) (d : Int) (w Q : Nat) (b : List En) (n : Nat) (hn : b.length = n) (hfb : fitB b) (hf : formP ⟨nm, sr, col, 2, w, d⟩) (hp : posP b) (hcol : (col : Int) ≤ 9223372036854775807) (he0 : hashE col b ≠ []) (hQ : (smallI w (hashE col b)).length = Q) : AC Try.prog 37 [.agg [sv nm, sv sr, iv col, iv 2, iv w, iv d], .sl 2 n (ec b)] (.tup [.c (.sl 1 Q (intc .i64 (smallI w (hashE col b)))), .c (iv 0)]) [] 0 := by
  have hn4 : n ≤ 4096 := by have := hp.1.1; omega
  have hm : n ≤ maxLen := by simp only [maxLen]; omega
  obtain ⟨f1, f2, f3, f4, f5, f6⟩ := id hf
  simp only at f1 f2 f3 f4 f5 f6
  have h1 := form_ok ⟨nm, sr, col, 2, w, d⟩
  rw [form_t hf] at h1
  have h2 := pos_ok b n hn hm hfb
  have : ∀ i : Decidable (posP b), @decide _ i = true := fun i => @decide_eq_true _ i hp
  rw [this] at h2
  have h3 := bh_some nm sr col 2 d w b n hn (by omega) hfb hcol (by omega) he0
  rw [hQ] at h3
  generalize smallI w (hashE col b) = S at *
  simp only [Sk.c] at h1
  refine ac_enter tabOk (sz := 57) Try.func37 rfl (by rw [Try.ntmps37]; rfl) ?_
  repeat' (first
    | ((with_reducible refine aw_seqk ?_); intro K hK hX)
    | ((with_reducible refine isC_reg ?_); refine aw_prune [0, 1, 2, 4, 5, 6, 8, 9, 35, 36, 37] rfl rfl ?_; with_reducible refine aw_region ?_)
    | ((with_reducible refine isA_call ?_); (first | refine zA ?_ | refine zN ?_); (first | refine c0 (h1) ?_ | refine c0 (h2) ?_ | refine c0 (h3) ?_))
    | refine stA ?_
    | (refine hK _ _ _ _ ?_; clear hK hX K)
    | (refine hX _ _ _ _ _ (by simp) ?_; clear hK hX K))
  refine retK_mk (by first | exact .inl rfl | exact .inr rfl) (by exact ⟨bu_idle, bu_idle_b, trivial⟩) rfl (ResL.two (ResA.tmp rfl) (ResA.tmp rfl)) (out_t (frzl_cons zfz (frzl_cons zfz frzl_nil)))
end Go.Proofs.Ytccnhpaldmjkbaa
