/-
  Joined texts: IB. Lemmas; no statement of a law.
-/
import Derived.Test.YtccnhpaldmjkbaaGreatQ21
import Derived.Test.YtccnhpaldmjkbaaGreatQ22
set_option linter.unusedSimpArgs false
set_option linter.unusedVariables false
namespace Go.Proofs.YtccnhpaldmjkbaaGreat
open Go Go.RowKit Go.Av
set_option maxRecDepth 100000
def subT (x : Wd × List En) : Sub := (.string ⟨x.1.toArray⟩, x.2.length, ec x.2)
def subsT (t : List (Wd × List En)) : List Sub := t.map subT
theorem xH {t : List (Wd × List En)} {k : Nat} {w : Wd} {l : List En} (h : t[k]? = some (w, l)) : (subsT t)[k]? = some (.string ⟨w.toArray⟩, l.length, ec l) := by simp [subsT, h, subT]
theorem str_ne {v w : Wd} (h : v ≠ w) : (Value.string ⟨v.toArray⟩) ≠ .string ⟨w.toArray⟩ := fun e => by
  injection e with e
  injection e with e
  exact h (by simpa using e)
theorem xI {t : List (Wd × List En)} {k : Nat} {w : Wd} (h : ∀ (q : Nat) (s : Wd × List En), q < k → t[q]? = some s → s.1 ≠ w) : ∀ (q : Nat) (s' : Sub), q < k → (subsT t)[q]? = some s' → s'.1 ≠ .string ⟨w.toArray⟩ := fun q s' hq hs => by
  unfold subsT at hs
  rw [List.getElem?_map] at hs
  cases ht : t[q]? with
  | none => rw [ht] at hs; cases hs
  | some s =>
    rw [ht] at hs
    injection hs with hs
    subst hs
    exact str_ne (h q s hq ht)
theorem subsT_no {t : List (Wd × List En)} {w : Wd} (h : ∀ x ∈ t, x.1 ≠ w) : ∀ s ∈ subsT t, s.1 ≠ .string ⟨w.toArray⟩ := fun s hs => by
  obtain ⟨x, hx, rfl⟩ := List.mem_map.1 hs
  exact str_ne (h x hx)
theorem sU (t : List (Wd × List En)) : ∀ s ∈ subsT t, isKeyT .str s.1 := fun s hs => by
  obtain ⟨x, hx, rfl⟩ := List.mem_map.1 hs
  exact trivial
theorem subsT_size (t : List (Wd × List En)) : ∀ s ∈ subsT t, s.2.2.length = s.2.1 * 2 := fun s hs => by
  obtain ⟨x, hx, rfl⟩ := List.mem_map.1 hs
  exact bH x.2
theorem mN (t : List (Wd × List En)) : (subsT t).length = t.length := List.length_map _
theorem subsT_set (t : List (Wd × List En)) (k : Nat) (w : Wd) (l : List En) : subsT (t.set k (w, l)) = (subsT t).set k (.string ⟨w.toArray⟩, l.length, ec l) := by simp [subsT, List.map_set, subT]
theorem subsT_app (t : List (Wd × List En)) (w : Wd) (l : List En) : subsT (t ++ [(w, l)]) = subsT t ++ [(.string ⟨w.toArray⟩, l.length, ec l)] := by simp [subsT, subT]
theorem tabC_tabS (t : List (Wd × List En)) : tabC 2 (subsT t) = tabS (t.map fun x => (x.1, AV.c (.sl 2 x.2.length (ec x.2)))) := by simp [tabC, subsT, tabS, subT]
theorem rc_getI {r : List Vl} {i k : Nat} {v : Vl} (h : r[i]? = some v) (hk : k < 3) : (rc r)[i * 3 + k]? = v.c[k]? := by
  rw [← jH h, List.getElem?_take_of_lt hk, List.getElem?_drop]
theorem rc_kI {r : List Vl} {i : Nat} {v : Vl} (h : r[i]? = some v) : (rc r)[i * 3]? = some (iv v.k) := rc_getI (k := 0) h (by omega)
theorem rc_tI {r : List Vl} {i : Nat} {v : Vl} (h : r[i]? = some v) : (rc r)[i * 3 + 2]? = some (sv v.t) := rc_getI (k := 2) h (by omega)
theorem zeroE (w : World) : (zeroValue 25).run Tryz.prog w = .ok (.slice none 0 0) w := by kernel_rfl
attribute [local irreducible] Still Adds AWL AW Drw DrwE EStep AC AWR Weak Frz Src RetK Out InK ItK AsK RdK
set_option maxHeartbeats 16000000 in
theorem wH (b : List En) (n : Nat) (hn : b.length = n) (hn2 : n ≤ 4096) (hb : ∀ e ∈ b, rowP e.r) (col : Nat) (hc : (col : Int) ≤ 9223372036854775807) (M : Nat) (hM : (postP (prs col b)).length = M) : AC Tryz.prog 94 [.sl 2 n (ec b), iv col] (.c (.sl 3 M (pc (postP (prs col b))))) [] 0 := by
  have hbl : (ec b).length = n * 2 := by rw [bH, hn]
  have hokR : okR b := fun e he => (hb e he).2
  obtain ⟨T, hT⟩ : ∃ T : Nat → List (Wd × List En), ∀ i, T i = tabP (prs col (b.take i)) := ⟨_, fun _ => rfl⟩
  have hT0 : T 0 = [] := by rw [hT]; rfl
  have hTl : ∀ i, (T i).length ≤ 131072 := fun i => by
    rw [hT]
    have h1 := qW (prs col (b.take i))
    have h2 := eP (col := col) (b := b.take i) (fun e he => hokR e (List.mem_of_mem_take he))
    rw [List.length_take] at h2
    omega
  have hTn : T n = tabP (prs col b) := by rw [hT, List.take_of_length_le (by omega)]
  refine aJ tabOk (sz := 87) Tryz.func94 rfl (by rw [Tryz.ntmps94]; rfl) ?_
  repeat' (first | ((with_reducible refine aB ?_); intro K hK hX) | ((with_reducible refine aC ?_); refine aD [0, 1, 4, 5, 7, 9, 10, 12, 14, 16, 17, 18, 42, 43, 44, 60, 61, 62, 68, 69, 70] rfl rfl ?_) | ((with_reducible refine aF ?_); refine aG [0, 1, 4, 5, 7, 9, 10, 12, 14, 16, 17, 18, 42, 43, 44, 60, 61, 62, 68, 69, 70] rfl rfl ?_; refine aI [] ?_) | (refine yA ?_; refine eG (mS rfl) rfl ?_) | refine stA ?_ | refine stD ?_ | ((first | refine hK _ _ _ _ ?_ | refine hX _ _ _ _ _ (by simp) ?_); clear hK hX K))
  refine fQ (weak_raise (N := 1000000000000) (by decide) fun id hid => by (simp only [bD]; rw [if_neg (by omega)]; rfl)) ?_
  refine pE 1000000000000 (fun i : Nat => [(18, .c (iv i)), (0, .c (.sl 2 n (ec b))), (1, .c (iv col)), (4, .c (.v (.slice none 0 0))), (5, .mh 0), (16, .c (.sl 2 n (ec b))), (17, .c (iv n))]) (fun i => tabH 68 2 1000 0 (subsT (T i))) [] (fun i => i ≤ n) (fun i => n - i) 0 (Nat.zero_le _) (gM (by decide) (by rw [hT0]; decide) rfl (by repeat' (first | exact bG | refine aZ rfl (by first | rfl | exact zeq) rfl ?_)) (fun id hid => by rw [hT0]; rfl) rfl) ?_
  intro i hi K hK hX
  by_cases hlt : i < n
  · obtain ⟨e, he⟩ : ∃ e, b[i]? = some e := ⟨b[i]'(by omega), List.getElem?_eq_getElem _⟩
    have hat := iF he
    have hrw := hb e (List.mem_of_getElem? he)
    have hstep : prs col (b.take (i + 1)) = prs col (b.take i) ++ (wdsE col e.r).map fun w => (w, e) := by
      rw [List.take_add_one, he, Option.toList_some, prs_app]; simp [prs]
    have hTi := hTl i
    have hsl : (subsT (T i)).length = (T i).length := mN _
    by_cases hcl : col < e.r.length
    · obtain ⟨v, hv⟩ : ∃ v, e.r[col]? = some v := ⟨_, List.getElem?_eq_getElem hcl⟩
      have hvk := rc_kI hv
      have hvt := rc_tI hv
      by_cases hk : v.k = 2
      · have hvok : okP v := hrw.2 v (List.mem_of_getElem? hv)
        have hvl : v.t.length ≤ 32 := by
          rcases hvok with ⟨_, _, h3⟩ | ⟨_, _, _, h3⟩ | ⟨_, _, h3⟩
          · rw [h3]; decide
          · rw [h3]; decide
          · exact h3
        have hwd : wdsE col e.r = wordsP v.t := by unfold wdsE; rw [hv]; simp only [hk, if_true]
        have hwk := xW v.t (by omega)
        obtain ⟨hwl, hwm⟩ := eK v.t
        rw [hwd] at hstep
        generalize wordsP v.t = W at hwk hwl hwm hstep
        obtain ⟨m, hm⟩ : ∃ m, W.length = m := ⟨_, rfl⟩
        rw [hm] at hwk hwl
        have hWl : (strc W).length = m := by rw [bU, hm]
        obtain ⟨U, hU⟩ : ∃ U : Nat → List (Wd × List En), ∀ j, U j = tabP (prs col (b.take i) ++ (W.take j).map fun w => (w, e)) := ⟨_, fun _ => rfl⟩
        have hU0 : U 0 = T i := by rw [hU, hT]; simp
        have hUm : U m = T (i + 1) := by rw [hU, hT, hstep, List.take_of_length_le (l := W) (by omega)]
        have hpl := eP (col := col) (b := b.take i) (fun e he => hokR e (List.mem_of_mem_take he))
        rw [List.length_take] at hpl
        have hUl : ∀ j, (U j).length ≤ 131104 ∧ ∀ x ∈ U j, x.2.length ≤ 131104 := fun j => by
          rw [hU]
          have h1 := qW (prs col (b.take i) ++ (W.take j).map fun w => (w, e))
          have h2 : (prs col (b.take i) ++ (W.take j).map fun w => (w, e)).length ≤ 131104 := by rw [List.length_append, List.length_map, List.length_take]; omega
          refine ⟨by omega, fun x hx => ?_⟩
          rw [(jD _).2.2 x hx, List.length_map]
          exact Nat.le_trans (List.length_filter_le _ _) h2
        have hUs : ∀ j w, W[j]? = some w → U (j + 1) = addT (U j) w e := fun j w hw => by
          rw [hU, hU, List.take_add_one, hw, Option.toList_some, List.map_append, ← List.append_assoc]; exact nN _ _ _
        clear hpl hwm hstep hT hokR hTl hT0 hTn hU hM hb hn hwd hvok
        obtain ⟨vk, vn, vt⟩ := v
        obtain ⟨r, c⟩ := e
        simp only [En.c] at *
        subst hk
        repeat' (first | ((with_reducible refine aB ?_); intro K hK hX) | ((with_reducible refine aC ?_); refine dL [0, 1, 4, 5, 7, 9, 10, 12, 14, 16, 17, 18, 42, 43, 44, 60, 61, 62, 68, 69, 70] rfl ?_; with_reducible refine fL ?_) | ((with_reducible refine aF ?_); refine dL [0, 1, 4, 5, 7, 9, 10, 12, 14, 16, 17, 18, 42, 43, 44, 60, 61, 62, 68, 69, 70] rfl ?_; refine aI [] ?_) | ((first | with_reducible refine aE ?_ | with_reducible refine aT ?_); (first | refine zA ?_ | refine zN ?_ | refine zD ?_); (first | refine c0 hwk ?_)) | ((first | ((with_reducible refine aH ?_); refine xA ?_) | ((with_reducible refine aO ?_); refine xD ?_)); (first | ((with_reducible refine aP ?_); (first | refine aA (aR tabOk rfl rfl rfl rfl (by first | exact hvk | exact hvt)) ?_ | refine aA (aN tabOk rfl rfl rfl rfl (by first | exact hvk | exact hvt)) ?_ | refine aA (aM tabOk rfl rfl rfl (by first | exact hvk | exact hvt)) ?_ | refine aA (aW tabOk rfl rfl rfl rfl (by first | exact hat | exact whole0 (by first | rfl | omega) | rfl) zln) ?_ | refine aA (aV tabOk rfl rfl rfl (by first | exact hat | exact whole0 (by first | rfl | omega) | rfl) zln) ?_)) | ((with_reducible refine bR ?_); (first | refine aA (s_ixV1 tabOk rfl rfl zcj rfl rfl rfl rfl rfl zle (by first | exact hvk | exact hvt)) ?_ | refine aA (aQ tabOk rfl rfl zcj rfl rfl (by first | exact hvk | exact hvt)) ?_)) | ((with_reducible refine bE ?_); (first | refine aA (s_slArri tabOk rfl rfl rfl rfl zbd zbd zle zle (by decide) (by first | exact hat | exact whole0 (by first | rfl | omega) | rfl) zln) ?_)))) | refine stA ?_ | refine stD ?_ | ((first | refine hK _ _ _ _ ?_ | refine hX _ _ _ _ _ (by simp) ?_); clear hK hX K))
        have hnone : lk (tabH 68 2 1000 0 (subsT (T i))) 1000000000000 = none := tN (by decide) (by omega)
        refine fQ (weak_fzG (E := [(44, .c (iv 0)), (42, .c (.sl 1 m (strc W))), (43, .c (iv m)), (7, .ip [.sl 3 r.length (rc r), iv c] 0), (18, .c (iv i)), (0, .c (.sl 2 n (ec b))), (1, .c (iv col)), (4, .c (.v (.slice none 0 0))), (5, .mh 0), (16, .c (.sl 2 n (ec b))), (17, .c (iv n))]) (Hp := tabH 68 2 1000 0 (subsT (T i))) (by repeat' (first | exact FzE.nil | refine FzE.cons rfl ?_ ?_ | exact iX | exact fz_refB rfl hnone rfl rfl)) (nZ (N := 1000000000000) (by decide) (by omega) (fun id hid => by (try simp only [bD]); (repeat (rw [if_neg (by omega)]))))) ?_
        refine pE 1000000000000 (fun j : Nat => [(44, .c (iv j)), (42, .c (.sl 1 m (strc W))), (43, .c (iv m)), (7, .ip [.sl 3 r.length (rc r), iv c] 0), (18, .c (iv i)), (0, .c (.sl 2 n (ec b))), (1, .c (iv col)), (4, .c (.v (.slice none 0 0))), (5, .mh 0), (16, .c (.sl 2 n (ec b))), (17, .c (iv n))]) (fun j => tabH 68 2 1000 0 (subsT (U j))) [] (fun j => j ≤ m) (fun j => m - j) 0 (Nat.zero_le _) (by (try dsimp only); rw [hU0]; exact gM (by decide) (by omega) rfl (by repeat' (first | exact bG | refine aZ rfl (by first | rfl | exact zeq) rfl ?_)) (fun id hid => by (try simp only [bD]); (repeat (rw [if_neg (by omega)]))) rfl) ?_
        intro j hj K hK hX
        obtain ⟨hUj, hUx⟩ := hUl j
        have hsl2 : (subsT (U j)).length = (U j).length := mN _
        by_cases hjm : j < m
        · obtain ⟨w, hw⟩ : ∃ w, W[j]? = some w := ⟨_, List.getElem?_eq_getElem (by omega)⟩
          have hws := eF hw
          have hUn := hUs j w hw
          have hkeys := nQ (size := 2) (b := 1000) (subsT (U j)) 0 (sU (U j))
          rcases findT (U j) w with ⟨k, l, a1, a2⟩ | a1
          · have hs := xH a1
            have hmat := uP (size := 2) (b := 1000) (subsT (U j)) 0 k _ (xI a2) hs rfl
            rw [Nat.zero_add] at hmat
            have hsub := nY (T := 68) (size := 2) (b := 1000) (m := 0) (by decide) hs
            have hec : (ec l).length = l.length * 2 := bH l
            have hll := hUx _ (List.mem_of_getElem? a1)
            have hkl : k < (subsT (U j)).length := by rw [hsl2]; exact (List.getElem?_eq_some_iff.1 a1).1
            have hset : subsT (U (j + 1)) = (subsT (U j)).set k (.string ⟨w.toArray⟩, l.length + 1, ec l ++ [.sl 3 r.length (rc r), iv c]) := by
              rw [hUn, sY _ a1 a2, subsT_set, List.length_append, iW]; rfl
            clear hUs hUn hUl hU0 hUm a2 a1 hUx hs
            simp only at hll hmat hsub
            generalize l.length = q at *
            generalize ec l = cl at *
            repeat' (first | ((with_reducible refine aB ?_); intro K hK hX) | ((with_reducible refine aC ?_); refine dL [0, 1, 4, 5, 7, 9, 10, 12, 14, 16, 17, 18, 42, 43, 44, 60, 61, 62, 68, 69, 70] rfl ?_; with_reducible refine fL ?_) | ((with_reducible refine aF ?_); refine dL [0, 1, 4, 5, 7, 9, 10, 12, 14, 16, 17, 18, 42, 43, 44, 60, 61, 62, 68, 69, 70] rfl ?_; refine aI [] ?_) | ((first | with_reducible refine cK ?_ | with_reducible refine dQ ?_); (first | refine wA ?_ | refine wD ?_); (first | refine eL (bK (cM tabOk rfl rfl rfl rfl rfl) zln) ?_ | refine eL (bK (cU tabOk rfl rfl rfl rfl rfl rfl rfl rfl rfl rfl rfl rfl (cI rfl) (by first | rfl | exact all1 (by assumption) | (simp <;> fail) | fail) (by rfl)) zln) ?_)) | (refine xA ?_; refine aA (mJ tabOk rfl rfl rfl rfl iK rfl trivial hkeys hmat) ?_) | (refine oY tabOk aL rfl rfl rfl rfl rfl rfl rfl hsub hec rfl mM (by (simp only [maxLen]; omega)) (by first | omega | (simp <;> omega)) ?_) | (refine pG tabOk aL rfl rfl rfl rfl (by (try simp only [bD]); (repeat (rw [if_neg (by omega)])); exact iK) rfl rfl trivial hkeys hmat rfl ?_) | ((first | ((with_reducible refine aH ?_); refine xA ?_) | ((with_reducible refine aO ?_); refine xD ?_)); (first | ((with_reducible refine aP ?_); (first | refine aA (aR tabOk rfl rfl rfl rfl (by (rw [Nat.mul_one]; exact hws))) ?_ | refine aA (aN tabOk rfl rfl rfl rfl (by (rw [Nat.mul_one]; exact hws))) ?_ | refine aA (aM tabOk rfl rfl rfl (by (rw [Nat.mul_one]; exact hws))) ?_)) | ((with_reducible refine bR ?_); (first | refine aA (s_ixV1 tabOk rfl rfl zcj rfl rfl rfl rfl rfl zle (by (rw [Nat.mul_one]; exact hws))) ?_ | refine aA (aQ tabOk rfl rfl zcj rfl rfl (by (rw [Nat.mul_one]; exact hws))) ?_)))) | refine stA ?_ | refine stD ?_ | ((first | refine hK _ _ _ _ ?_ | refine hX _ _ _ _ _ (by simp) ?_); clear hK hX K))
            exact ⟨j + 1, by omega, by omega, by (try dsimp only); rw [hset]; exact uL (n0 := 1000000000000) hkl (by omega) rfl rfl (by decide) rfl rfl rfl (fun id hid hi1 hi2 => by (try simp only [bD]); (repeat (rw [if_neg (by omega)]))) (by repeat' (first | exact bG | refine aZ rfl (by first | rfl | exact zeq) rfl ?_)) rfl⟩
          · have hmno := uQ (size := 2) (b := 1000) (subsT (U j)) 0 (subsT_no a1)
            have hset : subsT (U (j + 1)) = subsT (U j) ++ [(.string ⟨w.toArray⟩, 1, [.sl 3 r.length (rc r), iv c])] := by
              rw [hUn, sZ _ a1, subsT_app]; rfl
            clear hUs hUn hUl hU0 hUm a1 hUx
            repeat' (first | ((with_reducible refine aB ?_); intro K hK hX) | ((with_reducible refine aC ?_); refine dL [0, 1, 4, 5, 7, 9, 10, 12, 14, 16, 17, 18, 42, 43, 44, 60, 61, 62, 68, 69, 70] rfl ?_; with_reducible refine fL ?_) | ((with_reducible refine aF ?_); refine dL [0, 1, 4, 5, 7, 9, 10, 12, 14, 16, 17, 18, 42, 43, 44, 60, 61, 62, 68, 69, 70] rfl ?_; refine aI [] ?_) | ((first | with_reducible refine cK ?_ | with_reducible refine dQ ?_); (first | refine wA ?_ | refine wD ?_); (first | refine eL (bK (cM tabOk rfl rfl rfl rfl rfl) zln) ?_ | refine eL (bK (cU tabOk rfl rfl rfl rfl rfl rfl rfl rfl rfl rfl rfl rfl (cI rfl) (by first | rfl | exact all1 (by assumption) | (simp <;> fail) | fail) (by rfl)) zln) ?_)) | (refine xA ?_; refine aA (sN tabOk rfl rfl rfl zeroE rfl iK rfl trivial hkeys hmno) ?_) | (refine iU tabOk aL rfl rfl rfl rfl (by (try simp only [bD]); (repeat (rw [if_neg (by omega)])); exact iK) rfl rfl trivial hkeys hmno rfl ?_) | ((first | ((with_reducible refine aH ?_); refine xA ?_) | ((with_reducible refine aO ?_); refine xD ?_)); (first | ((with_reducible refine aP ?_); (first | refine aA (aR tabOk rfl rfl rfl rfl (by (rw [Nat.mul_one]; exact hws))) ?_ | refine aA (aN tabOk rfl rfl rfl rfl (by (rw [Nat.mul_one]; exact hws))) ?_ | refine aA (aM tabOk rfl rfl rfl (by (rw [Nat.mul_one]; exact hws))) ?_)) | ((with_reducible refine bR ?_); (first | refine aA (s_ixV1 tabOk rfl rfl zcj rfl rfl rfl rfl rfl zle (by (rw [Nat.mul_one]; exact hws))) ?_ | refine aA (aQ tabOk rfl rfl zcj rfl rfl (by (rw [Nat.mul_one]; exact hws))) ?_)))) | refine stA ?_ | refine stD ?_ | ((first | refine hK _ _ _ _ ?_ | refine hX _ _ _ _ _ (by simp) ?_); clear hK hX K))
            exact ⟨j + 1, by omega, by omega, by (try dsimp only); rw [hset]; exact uK (n0 := 1000000000000) (by omega) rfl rfl (by decide) rfl rfl rfl (fun id hid hi1 => by (try simp only [bD]); (repeat (rw [if_neg (by omega)]))) (by repeat' (first | exact bG | refine aZ rfl (by first | rfl | exact zeq) rfl ?_)) rfl⟩
        · have hje : j = m := by omega
          rw [hje] at hsl2 hUj ⊢
          rw [hUm] at hsl2 hUj ⊢
          repeat' (first | ((with_reducible refine aB ?_); intro K hK hX) | ((with_reducible refine aC ?_); refine dL [0, 1, 4, 5, 7, 9, 10, 12, 14, 16, 17, 18, 42, 43, 44, 60, 61, 62, 68, 69, 70] rfl ?_; with_reducible refine fL ?_) | ((with_reducible refine aF ?_); refine dL [0, 1, 4, 5, 7, 9, 10, 12, 14, 16, 17, 18, 42, 43, 44, 60, 61, 62, 68, 69, 70] rfl ?_; refine aI [] ?_) | refine stA ?_ | refine stD ?_ | ((first | refine hK _ _ _ _ ?_ | refine hX _ _ _ _ _ (by simp) ?_); clear hK hX K))
          exact ⟨i + 1, by omega, by omega, gM (by decide) (by omega) rfl (by repeat' (first | exact bG | refine aZ rfl (by first | rfl | exact zeq) rfl ?_)) (fun id hid => by (try simp only [bD]); (repeat (rw [if_neg (by omega)]))) rfl⟩
      · have hwd : wdsE col e.r = [] := by unfold wdsE; rw [hv]; simp only [hk, if_false]
        have hTe : T (i + 1) = T i := by rw [hT, hT, hstep, hwd, List.map_nil, List.append_nil]
        clear hstep hwd hTl hokR hT hT0 hTn hM hb hn hrw
        obtain ⟨vk, vn, vt⟩ := v
        obtain ⟨r, c⟩ := e
        simp only [En.c] at *
        repeat' (first | ((with_reducible refine aB ?_); intro K hK hX) | ((with_reducible refine aC ?_); refine dL [0, 1, 4, 5, 7, 9, 10, 12, 14, 16, 17, 18, 42, 43, 44, 60, 61, 62, 68, 69, 70] rfl ?_; with_reducible refine fL ?_) | ((with_reducible refine aF ?_); refine dL [0, 1, 4, 5, 7, 9, 10, 12, 14, 16, 17, 18, 42, 43, 44, 60, 61, 62, 68, 69, 70] rfl ?_; refine aI [] ?_) | ((first | ((with_reducible refine aH ?_); refine xA ?_) | ((with_reducible refine aO ?_); refine xD ?_)); (first | ((with_reducible refine aP ?_); (first | refine aA (aR tabOk rfl rfl rfl rfl (by first | exact hvk | exact hvt)) ?_ | refine aA (aN tabOk rfl rfl rfl rfl (by first | exact hvk | exact hvt)) ?_ | refine aA (aM tabOk rfl rfl rfl (by first | exact hvk | exact hvt)) ?_ | refine aA (aW tabOk rfl rfl rfl rfl (by first | exact hat | exact whole0 (by first | rfl | omega) | rfl) zln) ?_ | refine aA (aV tabOk rfl rfl rfl (by first | exact hat | exact whole0 (by first | rfl | omega) | rfl) zln) ?_)) | ((with_reducible refine bR ?_); (first | refine aA (s_ixV1 tabOk rfl rfl zcj rfl rfl rfl rfl rfl zle (by first | exact hvk | exact hvt)) ?_ | refine aA (aQ tabOk rfl rfl zcj rfl rfl (by first | exact hvk | exact hvt)) ?_)) | ((with_reducible refine bE ?_); (first | refine aA (s_slArri tabOk rfl rfl rfl rfl zbd zbd zle zle (by decide) (by first | exact hat | exact whole0 (by first | rfl | omega) | rfl) zln) ?_)))) | refine stA ?_ | refine stD ?_ | ((first | refine hK _ _ _ _ ?_ | refine hX _ _ _ _ _ (by simp) ?_); clear hK hX K))
        exact ⟨i + 1, by omega, by omega, by (try dsimp only); rw [hTe]; exact gM (by decide) (by omega) rfl (by repeat' (first | exact bG | refine aZ rfl (by first | rfl | exact zeq) rfl ?_)) (fun id hid => by (try simp only [bD]); (repeat (rw [if_neg (by omega)]))) rfl⟩
    · have hwd : wdsE col e.r = [] := by unfold wdsE; rw [List.getElem?_eq_none (by omega)]
      have hTe : T (i + 1) = T i := by rw [hT, hT, hstep, hwd, List.map_nil, List.append_nil]
      clear hstep hwd hTl hokR hT hT0 hTn hM hb hn hrw
      obtain ⟨r, c⟩ := e
      simp only [En.c] at *
      repeat' (first | ((with_reducible refine aB ?_); intro K hK hX) | ((with_reducible refine aC ?_); refine dL [0, 1, 4, 5, 7, 9, 10, 12, 14, 16, 17, 18, 42, 43, 44, 60, 61, 62, 68, 69, 70] rfl ?_; with_reducible refine fL ?_) | ((with_reducible refine aF ?_); refine dL [0, 1, 4, 5, 7, 9, 10, 12, 14, 16, 17, 18, 42, 43, 44, 60, 61, 62, 68, 69, 70] rfl ?_; refine aI [] ?_) | ((first | ((with_reducible refine aH ?_); refine xA ?_) | ((with_reducible refine aO ?_); refine xD ?_)); (first | ((with_reducible refine aP ?_); (first | refine aA (aW tabOk rfl rfl rfl rfl (by first | exact hat | exact whole0 (by first | rfl | omega) | rfl) zln) ?_ | refine aA (aV tabOk rfl rfl rfl (by first | exact hat | exact whole0 (by first | rfl | omega) | rfl) zln) ?_)) | ((with_reducible refine bE ?_); (first | refine aA (s_slArri tabOk rfl rfl rfl rfl zbd zbd zle zle (by decide) (by first | exact hat | exact whole0 (by first | rfl | omega) | rfl) zln) ?_)))) | refine stA ?_ | refine stD ?_ | ((first | refine hK _ _ _ _ ?_ | refine hX _ _ _ _ _ (by simp) ?_); clear hK hX K))
      exact ⟨i + 1, by omega, by omega, by (try dsimp only); rw [hTe]; exact gM (by decide) (by omega) rfl (by repeat' (first | exact bG | refine aZ rfl (by first | rfl | exact zeq) rfl ?_)) (fun id hid => by (try simp only [bD]); (repeat (rw [if_neg (by omega)]))) rfl⟩
  · have hin : i = n := by omega
    rw [hin, hTn]
    clear hT hT0 hTl hTn hin hlt hi
    obtain ⟨ps, hps⟩ : ∃ ps, prs col b = ps := ⟨_, rfl⟩
    have hpl := eP (col := col) (b := b) hokR
    rw [hps] at hM hpl ⊢
    obtain ⟨t, ht⟩ : ∃ t, tabP ps = t := ⟨_, rfl⟩
    have htl := qW ps
    have hget := fun w hw => tabP_get (ps := ps) (w := w) hw
    have hsrt := tabP_keys ps
    have hkl : ∀ w ∈ setW (ps.map (·.1)), w.length ≤ 32 := fun w hw => by
      obtain ⟨p, hp, rfl⟩ := List.mem_map.1 (((cL _).2 w).1 hw)
      rw [← hps] at hp
      obtain ⟨h1, h2⟩ := gC hp
      exact ((fF (hokR p.2 h1)).2 _ h2).1
    obtain ⟨Wk, hWk⟩ : ∃ Wk, setW (ps.map (·.1)) = Wk := ⟨_, rfl⟩
    obtain ⟨kn, hkn⟩ : ∃ kn, Wk.length = kn := ⟨_, rfl⟩
    have hfac := jD ps
    rw [ht] at htl hget hsrt hfac ⊢
    rw [hWk] at hget hsrt hkl
    have hkeyl : ∀ p ∈ t.map (fun x => (x.1, AV.c (.sl 2 x.2.length (ec x.2)))), p.1.length ≤ maxLen := fun p hp => by
      obtain ⟨x, hx, rfl⟩ := List.mem_map.1 hp
      have h1 : x.1 ∈ Wk := by rw [← hsrt, nM]; exact List.mem_map_of_mem hx
      have := hkl _ h1
      simp only [maxLen]; omega
    have hsrt2 : ((t.map fun x => (x.1, AV.c (.sl 2 x.2.length (ec x.2)))).map (·.1)).mergeSort (fun x y => decide (x ≤ y)) = Wk := by rw [List.map_map]; exact hsrt
    have htk : t.length = kn := by rw [← hkn, ← hsrt, dN, List.length_map]
    have htn : (t.map fun x => (x.1, AV.c (.sl 2 x.2.length (ec x.2)))).length = kn := by rw [List.length_map, htk]
    have hknl : kn ≤ 1000000 := by omega
    have hll : ∀ x ∈ t, x.2.length ≤ 131072 := fun x hx => by
      rw [hfac.2.2 x hx, List.length_map]
      have := List.length_filter_le (fun p : Wd × En => decide (p.1 = x.1)) ps
      unfold ofW
      omega
    have hkeys := uN (size := 2) (sU t)
    have hWl : (strc Wk).length = kn := by rw [bU, hkn]
    obtain ⟨F, hF⟩ : ∃ F : Wd → List Po, ∀ w, F w = (ofW ps w).map mkPo := ⟨_, fun _ => rfl⟩
    have hpost : postP ps = Wk.flatMap F := by
      unfold postP
      rw [hWk]
      exact congrArg (fun f => List.flatMap f Wk) (funext fun w => (hF w).symm)
    obtain ⟨q, hq⟩ : ∃ q : Nat → Nat, ∀ i, ((Wk.take i).flatMap F).length = q i := ⟨_, fun _ => rfl⟩
    have hql : ∀ i, q i ≤ 131072 := fun i => by
      have h1 := flat_take Wk F i
      rw [hq, ← hpost, mE] at h1
      omega
    have hq0 : 0 = q 0 := by rw [← hq]; rfl
    have hr0 : ([] : List CV) = pc ((Wk.take 0).flatMap F) := rfl
    have hqn : q kn = M := by rw [← hq, List.take_of_length_le (by omega), ← hpost, hM]
    have hrn : pc ((Wk.take kn).flatMap F) = pc (postP (prs col b)) := by rw [List.take_of_length_le (by omega), ← hpost, hps]
    have hgetF : ∀ w ∈ Wk, ∃ (k : Nat) (l : List En), t[k]? = some (w, l) ∧ (∀ (q : Nat) (s : Wd × List En), q < k → t[q]? = some s → s.1 ≠ w) ∧ l.map (fun e => (⟨w, e.r, e.n⟩ : Po)) = F w := fun w hw => by
      obtain ⟨k, l, h1, h2, h3⟩ := hget w hw
      exact ⟨k, l, h1, h2, by rw [hF]; exact h3⟩
    have hrow : ∀ x ∈ t, ∀ e ∈ x.2, rowP e.r := fun x hx e he => by
      rw [hfac.2.2 x hx] at he
      obtain ⟨p, hp, rfl⟩ := List.mem_map.1 he
      have hp := (List.mem_filter.1 hp).1
      rw [← hps] at hp
      exact hb _ (gC hp).1
    clear hb hokR hget hsrt hfac hps hpl ht hkl
    refine fQ (xT (N := 1) (E := [(18, .c (iv n)), (0, .c (.sl 2 n (ec b))), (1, .c (iv col)), (4, .c (.v (.slice none 0 0))), (5, .mh 0), (16, .c (.sl 2 n (ec b))), (17, .c (iv n))]) rfl rfl (by decide) (subsT_size t) (by repeat' (first | exact bG | refine aZ rfl (by first | rfl | exact zeq) rfl ?_)) rfl) ?_
    repeat' (first | ((with_reducible refine aB ?_); intro K hK hX) | ((with_reducible refine aC ?_); refine aD [0, 1, 4, 5, 7, 9, 10, 12, 14, 16, 17, 18, 42, 43, 44, 60, 61, 62, 68, 69, 70] rfl rfl ?_) | ((with_reducible refine aF ?_); refine aG [0, 1, 4, 5, 7, 9, 10, 12, 14, 16, 17, 18, 42, 43, 44, 60, 61, 62, 68, 69, 70] rfl rfl ?_; refine aI [] ?_) | (refine yA ?_; refine eG (a_keys keysC zby rfl) rfl ?_) | (refine yA ?_; refine eG (a_sorted sortedC zby rfl rfl rfl (tabC_tabS t) hsrt2 htn hknl hkeyl) rfl ?_) | refine stA ?_ | refine stD ?_ | ((first | refine hK _ _ _ _ ?_ | refine hX _ _ _ _ _ (by simp) ?_); clear hK hX K))
    refine dK 10 80 3 rfl ?_
    refine bC [62, 10, 58, 59] [3] rfl rfl (fun i : Nat => [(62, .c (iv i)), (10, .own 3 0 (q i) 3 true)]) (fun i => [(3, .row 80 (pc ((Wk.take i).flatMap F)))]) (fun i => i ≤ kn) (fun i => kn - i) 0 (Nat.zero_le _) (by refine bZ rfl ?_ ?_ rfl <;> (repeat' (first | exact bG | exact bM | refine aZ rfl (by first | rfl | (first | exact congrArg (fun x => AV.own 3 0 x 3 true) hq0 | exact congrArg (AObj.row 80) hr0) | exact zeq) rfl ?_ | refine aY rfl rfl kG ?_ | refine aY rfl (by first | rfl | (first | exact congrArg (fun x => AV.own 3 0 x 3 true) hq0 | exact congrArg (AObj.row 80) hr0) | exact zeq) rfl ?_))) ?_
    intro i hi K hK hX
    have hqi := hql i
    have hpl : (pc ((Wk.take i).flatMap F)).length = q i * 3 := by rw [bQ, hq]
    by_cases hik : i < kn
    · obtain ⟨w, hw⟩ : ∃ w, Wk[i]? = some w := ⟨_, List.getElem?_eq_getElem (by omega)⟩
      have hws := eF hw
      obtain ⟨k, l, a1, a2, a3⟩ := hgetF w (List.mem_of_getElem? hw)
      have hs := xH a1
      have hmat := uO (size := 2) (subsT t) k _ (xI a2) hs rfl
      have hll1 := hll _ (List.mem_of_getElem? a1)
      have hlr := hrow _ (List.mem_of_getElem? a1)
      have hst := flat_step F hw
      rw [← a3] at hst
      have hq1 : q (i + 1) = q i + l.length := by rw [← hq, hst, List.length_append, hq, List.length_map]
      have hq1l := hql (i + 1)
      have hel : (ec l).length = l.length * 2 := bH l
      obtain ⟨m, hm⟩ : ∃ m, l.length = m := ⟨_, rfl⟩
      simp only at hmat hll1 hlr
      rw [hm] at hmat hll1 hq1 hel
      generalize (Wk.take i).flatMap F = PL at hpl hst ⊢
      clear hgetF hrow hll hs a1 a2 a3 hr0 hrn hqn hq0 hpost hF hsrt2 hkeyl
      have hp0 : pc PL = pc (PL ++ (l.take 0).map fun e => (⟨w, e.r, e.n⟩ : Po)) := by simp
      repeat' (first | ((with_reducible refine aB ?_); intro K hK hX) | ((with_reducible refine aC ?_); refine aD [0, 1, 4, 5, 7, 9, 10, 12, 14, 16, 17, 18, 42, 43, 44, 60, 61, 62, 68, 69, 70] rfl rfl ?_) | ((with_reducible refine aF ?_); refine aG [0, 1, 4, 5, 7, 9, 10, 12, 14, 16, 17, 18, 42, 43, 44, 60, 61, 62, 68, 69, 70] rfl rfl ?_; refine aI [] ?_) | (refine xA ?_; refine aA (mJ tabOk rfl rfl rfl rfl rfl rfl trivial hkeys hmat) ?_) | ((first | ((with_reducible refine aH ?_); refine xA ?_) | ((with_reducible refine aO ?_); refine xD ?_)); (first | ((with_reducible refine aP ?_); (first | refine aA (aR tabOk rfl rfl rfl rfl (by (rw [Nat.zero_add, Nat.mul_one]; exact hws))) ?_ | refine aA (aN tabOk rfl rfl rfl rfl (by (rw [Nat.zero_add, Nat.mul_one]; exact hws))) ?_ | refine aA (aM tabOk rfl rfl rfl (by (rw [Nat.zero_add, Nat.mul_one]; exact hws))) ?_)) | ((with_reducible refine bR ?_); (first | refine aA (s_ixV1 tabOk rfl rfl zcj rfl rfl rfl rfl rfl zle (by (rw [Nat.zero_add, Nat.mul_one]; exact hws))) ?_ | refine aA (aQ tabOk rfl rfl zcj rfl rfl (by (rw [Nat.zero_add, Nat.mul_one]; exact hws))) ?_)))) | refine stA ?_ | refine stD ?_ | ((first | refine hK _ _ _ _ ?_ | refine hX _ _ _ _ _ (by simp) ?_); clear hK hX K))
      refine bC [70, 10, 66, 67] [3] rfl rfl (fun j : Nat => [(70, .c (iv j)), (10, .own 3 0 (q i + j) 3 true)]) (fun j => [(3, .row 80 (pc (PL ++ (l.take j).map fun e => (⟨w, e.r, e.n⟩ : Po))))]) (fun j => j ≤ m) (fun j => m - j) 0 (Nat.zero_le _) (by refine bZ rfl ?_ ?_ rfl <;> (repeat' (first | exact bG | exact bM | refine aZ rfl (by first | rfl | (first | exact congrArg (AObj.row 80) hp0) | exact zeq) rfl ?_ | refine aY rfl rfl kG ?_ | refine aY rfl (by first | rfl | (first | exact congrArg (AObj.row 80) hp0) | exact zeq) rfl ?_))) ?_
      intro j hj K hK hX
      have hjl : (pc (PL ++ (l.take j).map fun e => (⟨w, e.r, e.n⟩ : Po))).length = (q i + j) * 3 := by
        rw [bQ] at hpl
        rw [bQ, List.length_append, List.length_map, List.length_take]; omega
      by_cases hjm : j < m
      · obtain ⟨e, he⟩ : ∃ e, l[j]? = some e := ⟨_, List.getElem?_eq_getElem (by omega)⟩
        have hat := iF he
        have hcl := mX e.r e.r.length rfl (by have := (hlr e (List.mem_of_getElem? he)).1; omega)
        have hnx : pc (PL ++ (l.take (j + 1)).map fun e => (⟨w, e.r, e.n⟩ : Po)) = pc (PL ++ (l.take j).map fun e => (⟨w, e.r, e.n⟩ : Po)) ++ [sv w, .sl 3 e.r.length (rc e.r), iv e.n] := by
          rw [List.take_add_one, he, Option.toList_some, List.map_append, ← List.append_assoc, qJ]; rfl
        generalize pc (PL ++ (l.take j).map fun e => (⟨w, e.r, e.n⟩ : Po)) = PJ at hjl hnx ⊢
        obtain ⟨r, c⟩ := e
        simp only [En.c] at *
        clear hlr hst hp0 hmat hql hq
        repeat' (first | ((with_reducible refine aB ?_); intro K hK hX) | ((with_reducible refine aC ?_); refine aD [0, 1, 4, 5, 7, 9, 10, 12, 14, 16, 17, 18, 42, 43, 44, 60, 61, 62, 68, 69, 70] rfl rfl ?_) | ((with_reducible refine aF ?_); refine aG [0, 1, 4, 5, 7, 9, 10, 12, 14, 16, 17, 18, 42, 43, 44, 60, 61, 62, 68, 69, 70] rfl rfl ?_; refine aI [] ?_) | ((first | with_reducible refine aE ?_ | with_reducible refine aT ?_); (first | refine zA ?_ | refine zN ?_ | refine zD ?_); (first | refine c0 hcl ?_)) | ((first | ((with_reducible refine aH ?_); refine xA ?_) | ((with_reducible refine aO ?_); refine xD ?_)); (first | ((with_reducible refine aP ?_); (first | refine aA (aW tabOk rfl rfl rfl rfl (by first | exact hat | exact whole0 (by first | rfl | omega) | rfl) zln) ?_ | refine aA (aV tabOk rfl rfl rfl (by first | exact hat | exact whole0 (by first | rfl | omega) | rfl) zln) ?_)) | ((with_reducible refine bE ?_); (first | refine aA (s_slArri tabOk rfl rfl rfl rfl zbd zbd zle zle (by decide) (by first | exact hat | exact whole0 (by first | rfl | omega) | rfl) zln) ?_)))) | refine stA ?_ | refine stD ?_ | ((first | refine hK _ _ _ _ ?_ | refine hX _ _ _ _ _ (by simp) ?_); clear hK hX K))
        exact ⟨j + 1, by omega, by omega, (by refine bS [0, 1, 2, 6] rfl rfl ?_ ?_ rfl rfl <;> (repeat' (first | exact bI | exact bJ | refine bF rfl (by first | rfl | (exact congrArg (AObj.row 80) hnx.symm) | exact zeq) rfl ?_ | refine bB rfl tabC_mp kG ?_ | refine bB rfl (by first | rfl | (exact congrArg (AObj.row 80) hnx.symm) | exact zeq) (by first | rfl | exact kG) ?_)))⟩
      · have hje : j = m := by omega
        rw [hje, List.take_of_length_le (by omega), ← hst]
        repeat' (first | ((with_reducible refine aB ?_); intro K hK hX) | ((with_reducible refine aC ?_); refine aD [0, 1, 4, 5, 7, 9, 10, 12, 14, 16, 17, 18, 42, 43, 44, 60, 61, 62, 68, 69, 70] rfl rfl ?_) | ((with_reducible refine aF ?_); refine aG [0, 1, 4, 5, 7, 9, 10, 12, 14, 16, 17, 18, 42, 43, 44, 60, 61, 62, 68, 69, 70] rfl rfl ?_; refine aI [] ?_) | refine stA ?_ | refine stD ?_ | ((first | refine hK _ _ _ _ ?_ | refine hX _ _ _ _ _ (by simp) ?_); clear hK hX K))
        exact ⟨i + 1, by omega, by omega, (by refine bZ rfl ?_ ?_ rfl <;> (repeat' (first | exact bG | exact bM | refine aZ rfl (by first | rfl | (exact congrArg (fun x => AV.own 3 0 x 3 true) hq1.symm) | exact zeq) rfl ?_ | refine aY rfl rfl kG ?_ | refine aY rfl (by first | rfl | (exact congrArg (fun x => AV.own 3 0 x 3 true) hq1.symm) | exact zeq) rfl ?_)))⟩
    · have hie : i = kn := by omega
      rw [hie] at hpl hqi ⊢
      clear hgetF hrow hll hr0 hq0 hpost hF hsrt2 hkeyl hql hq
      repeat' (first | ((with_reducible refine aB ?_); intro K hK hX) | ((with_reducible refine aC ?_); refine aD [0, 1, 4, 5, 7, 9, 10, 12, 14, 16, 17, 18, 42, 43, 44, 60, 61, 62, 68, 69, 70] rfl rfl ?_) | ((with_reducible refine aF ?_); refine aG [0, 1, 4, 5, 7, 9, 10, 12, 14, 16, 17, 18, 42, 43, 44, 60, 61, 62, 68, 69, 70] rfl rfl ?_; refine aI [] ?_) | refine stA ?_ | refine stD ?_ | ((first | refine hK _ _ _ _ ?_ | refine hX _ _ _ _ _ (by simp) ?_); clear hK hX K))
      refine aK zio ztr rfl (ResL.one (ResA.tmp rfl)) (cE (bO (cD rfl rfl hpl) (dA hqn hrn)))
end Go.Proofs.YtccnhpaldmjkbaaGreat
