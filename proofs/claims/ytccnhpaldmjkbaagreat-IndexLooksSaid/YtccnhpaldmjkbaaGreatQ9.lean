/-
  Joined texts: T5. Lemmas; no statement of a law.
-/
import Derived.Test.YtccnhpaldmjkbaaGreatQ8
set_option linter.unusedSimpArgs false
set_option linter.unusedVariables false
namespace Go.Proofs.YtccnhpaldmjkbaaGreat
open Go Go.RowKit Go.Av
set_option maxRecDepth 100000
theorem jC {o Z rest : List En} {x : En} (h : o ++ x :: rest = Z) : (o ++ [x]) ++ rest = Z := by rw [List.append_assoc]; exact h
theorem eD (o : List En) (x : En) : ec o ++ [x.c].flatten = ec (o ++ [x]) := by rw [iW]; simp [ec]
theorem AC.outT {P : Program} {f : FuncId} {args : List CV} {v r : AV} {h hr : Heap} {n nr : Nat} (hac : AC P f args v h n) (ho : Out n h v r hr nr) : AC P f args r hr nr := fun ok w vs hvs => (hac ok w vs hvs).mono (by
  rintro e w' ⟨u, M, rfl, hc, hu⟩
  obtain ⟨M', h1, h2⟩ := ho w ok M w' u hc hu
  exact ⟨u, M', rfl, h1, h2⟩)
attribute [local irreducible] Still Adds AWL AW Drw DrwE EStep AC AWR Weak Frz Src RetK Out InK ItK AsK RdK RetT OutT ACT
set_option maxHeartbeats 8000000 in
theorem merge_own (a b : List En) (n m N : Nat) (hn : a.length = n) (hm : b.length = m) (hnn : n ≤ 100000) (hmm : m ≤ 100000) (hfa : fitB a) (hfb : fitB b) (hba : absS a ≤ 1000000000000) (hbb : absS b ≤ 1000000000000) (hN : (mergeE a b).length = N) : AC Tryz.prog 150 [.sl 2 n (ec a), .sl 2 m (ec b)] (.own 0 0 N 2 true) [(0, .row 68 (ec (mergeE a b)))] 1 := by
  have hla : (ec a).length = n * 2 := by rw [bH, hn]
  have hlb : (ec b).length = m * 2 := by rw [bH, hm]
  have hNle := kU a b
  rw [hN, hn, hm] at hNle
  have hZl : (ec (mergeE a b)).length = N * 2 := by rw [bH, hN]
  generalize hZ : mergeE a b = Z at hN hZl ⊢
  refine aJ tabOk (sz := 93) Tryz.func150 rfl (by rw [Tryz.ntmps150]; rfl) ?_
  repeat' (first | ((with_reducible refine aB ?_); intro K hK hX) | ((with_reducible refine aC ?_); refine aD [0, 1, 4, 5, 6, 7, 8, 9] rfl rfl ?_) | ((with_reducible refine aF ?_); refine aG [0, 1, 4, 5, 6, 7, 8, 9] rfl rfl ?_; refine aI [] ?_) | refine stA ?_ | refine stD ?_ | ((first | refine hK _ _ _ _ ?_ | refine hX _ _ _ _ _ (by simp) ?_); clear hK hX K))
  refine dK 5 68 2 rfl ?_
  refine bC [5, 6, 7, 8, 9] [0] rfl rfl (fun p : Nat × Nat × List En × Nat => [(5, .own 0 0 p.2.2.2 2 true), (6, .c (iv p.1)), (7, .c (iv p.2.1))]) (fun p => [(0, .row 68 (ec p.2.2.1))]) (fun p => p.1 ≤ n ∧ p.2.1 ≤ m ∧ p.2.2.1.length = p.2.2.2 ∧ p.2.2.1 ++ mergeE (a.drop p.1) (b.drop p.2.1) = Z) (fun p => (n - p.1) + (m - p.2.1)) (0, 0, [], 0) ⟨Nat.zero_le _, Nat.zero_le _, rfl, hZ⟩ weakA ?_
  rintro ⟨i, k, o, q⟩ ⟨hi, hk, hq, hst⟩ K hK hX
  dsimp only at hi hk hq hst ⊢
  have hlo : (ec o).length = q * 2 := by rw [bH, hq]
  have hqN : q ≤ N := by rw [← hN, ← hst, List.length_append, hq]; omega
  by_cases hin : i < n
  · obtain ⟨x, hx⟩ : ∃ x, a[i]? = some x := ⟨a[i]'(by omega), List.getElem?_eq_getElem _⟩
    have hax := iF hx
    have hxr := dW hx
    have hxn := lB hx
    have hxf := hfa x (List.mem_of_getElem? hx)
    have hxb := jK (List.mem_of_getElem? hx)
    by_cases hkm : k < m
    · obtain ⟨y, hy⟩ : ∃ y, b[k]? = some y := ⟨b[k]'(by omega), List.getElem?_eq_getElem _⟩
      have hay := iF hy
      have hyr := dW hy
      have hyn := lB hy
      have hyf := hfb y (List.mem_of_getElem? hy)
      have hyb := jK (List.mem_of_getElem? hy)
      have hc := fY x.r y.r x.r.length y.r.length rfl rfl hxf hyf
      by_cases c1' : cmpR x.r y.r < 0
      · rw [mg_lt hx hy c1'] at hst
        generalize cmpR x.r y.r = c at hc c1'
        obtain ⟨xr, xn⟩ := x
        obtain ⟨yr, yn⟩ := y
        simp only [En.c] at *
        clear hxf hyf hx hy hfa hfb
        repeat' (first | ((with_reducible refine aB ?_); intro K hK hX) | ((with_reducible refine aC ?_); refine aD [0, 1, 4, 5, 6, 7, 8, 9] rfl rfl ?_) | ((with_reducible refine aF ?_); refine aG [0, 1, 4, 5, 6, 7, 8, 9] rfl rfl ?_; refine aI [] ?_) | ((first | with_reducible refine aE ?_ | with_reducible refine aT ?_); (first | refine zA ?_ | refine zN ?_ | refine zD ?_); (first | refine c0 hc ?_)) | ((first | ((with_reducible refine aH ?_); refine xA ?_) | ((with_reducible refine aO ?_); refine xD ?_)); (first | ((with_reducible refine aP ?_); (first | refine aA (aR tabOk rfl rfl rfl rfl (by first | exact hxr | exact hyr | exact hxn | exact hyn)) ?_ | refine aA (aN tabOk rfl rfl rfl rfl (by first | exact hxr | exact hyr | exact hxn | exact hyn)) ?_ | refine aA (aM tabOk rfl rfl rfl (by first | exact hxr | exact hyr | exact hxn | exact hyn)) ?_ | refine aA (aW tabOk rfl rfl rfl rfl (by first | first | exact hax | exact hay | exact whole0 (by first | rfl | omega) | rfl) zln) ?_ | refine aA (aV tabOk rfl rfl rfl (by first | first | exact hax | exact hay | exact whole0 (by first | rfl | omega) | rfl) zln) ?_)) | ((with_reducible refine bR ?_); (first | refine aA (s_ixV1 tabOk rfl rfl zcj rfl rfl rfl rfl rfl zle (by first | exact hxr | exact hyr | exact hxn | exact hyn)) ?_ | refine aA (aQ tabOk rfl rfl zcj rfl rfl (by first | exact hxr | exact hyr | exact hxn | exact hyn)) ?_)) | ((with_reducible refine bE ?_); (first | refine aA (s_slArri tabOk rfl rfl rfl rfl zbd zbd zle zle (by decide) (by first | first | exact hax | exact hay | exact whole0 (by first | rfl | omega) | rfl) zln) ?_)))) | refine stA ?_ | refine stD ?_ | ((first | refine hK _ _ _ _ ?_ | refine hX _ _ _ _ _ (by simp) ?_); clear hK hX K))
        exact ⟨(i + 1, k, o ++ [⟨xr, xn⟩], q + 1), ⟨by first | omega | (simp only; omega), by first | omega | (simp only; omega), by rw [List.length_append, hq]; rfl, jC hst⟩, by simp only; omega, (by refine bS [2] rfl rfl ?_ ?_ rfl rfl <;> (repeat' (first | exact bI | exact bJ | refine bF rfl (by first | rfl | (exact congrArg (AObj.row 68) (eD o ⟨xr, xn⟩)) | exact zeq) rfl ?_ | refine bB rfl (by first | rfl | (exact congrArg (AObj.row 68) (eD o ⟨xr, xn⟩)) | exact zeq) rfl ?_)))⟩
      · by_cases c2' : 0 < cmpR x.r y.r
        · rw [mg_gt hx hy c2'] at hst
          generalize cmpR x.r y.r = c at hc c1' c2'
          obtain ⟨xr, xn⟩ := x
          obtain ⟨yr, yn⟩ := y
          simp only [En.c] at *
          clear hxf hyf hx hy hfa hfb
          repeat' (first | ((with_reducible refine aB ?_); intro K hK hX) | ((with_reducible refine aC ?_); refine aD [0, 1, 4, 5, 6, 7, 8, 9] rfl rfl ?_) | ((with_reducible refine aF ?_); refine aG [0, 1, 4, 5, 6, 7, 8, 9] rfl rfl ?_; refine aI [] ?_) | ((first | with_reducible refine aE ?_ | with_reducible refine aT ?_); (first | refine zA ?_ | refine zN ?_ | refine zD ?_); (first | refine c0 hc ?_)) | ((first | ((with_reducible refine aH ?_); refine xA ?_) | ((with_reducible refine aO ?_); refine xD ?_)); (first | ((with_reducible refine aP ?_); (first | refine aA (aR tabOk rfl rfl rfl rfl (by first | exact hxr | exact hyr | exact hxn | exact hyn)) ?_ | refine aA (aN tabOk rfl rfl rfl rfl (by first | exact hxr | exact hyr | exact hxn | exact hyn)) ?_ | refine aA (aM tabOk rfl rfl rfl (by first | exact hxr | exact hyr | exact hxn | exact hyn)) ?_ | refine aA (aW tabOk rfl rfl rfl rfl (by first | first | exact hax | exact hay | exact whole0 (by first | rfl | omega) | rfl) zln) ?_ | refine aA (aV tabOk rfl rfl rfl (by first | first | exact hax | exact hay | exact whole0 (by first | rfl | omega) | rfl) zln) ?_)) | ((with_reducible refine bR ?_); (first | refine aA (s_ixV1 tabOk rfl rfl zcj rfl rfl rfl rfl rfl zle (by first | exact hxr | exact hyr | exact hxn | exact hyn)) ?_ | refine aA (aQ tabOk rfl rfl zcj rfl rfl (by first | exact hxr | exact hyr | exact hxn | exact hyn)) ?_)) | ((with_reducible refine bE ?_); (first | refine aA (s_slArri tabOk rfl rfl rfl rfl zbd zbd zle zle (by decide) (by first | first | exact hax | exact hay | exact whole0 (by first | rfl | omega) | rfl) zln) ?_)))) | refine stA ?_ | refine stD ?_ | ((first | refine hK _ _ _ _ ?_ | refine hX _ _ _ _ _ (by simp) ?_); clear hK hX K))
          exact ⟨(i, k + 1, o ++ [⟨yr, yn⟩], q + 1), ⟨by first | omega | (simp only; omega), by first | omega | (simp only; omega), by rw [List.length_append, hq]; rfl, jC hst⟩, by simp only; omega, (by refine bS [2] rfl rfl ?_ ?_ rfl rfl <;> (repeat' (first | exact bI | exact bJ | refine bF rfl (by first | rfl | (exact congrArg (AObj.row 68) (eD o ⟨yr, yn⟩)) | exact zeq) rfl ?_ | refine bB rfl (by first | rfl | (exact congrArg (AObj.row 68) (eD o ⟨yr, yn⟩)) | exact zeq) rfl ?_)))⟩
        · have c0' : cmpR x.r y.r = 0 := by omega
          by_cases hs : x.n + y.n = 0
          · rw [mg_no hx hy c0' hs] at hst
            generalize cmpR x.r y.r = c at hc c1' c2' c0'
            obtain ⟨xr, xn⟩ := x
            obtain ⟨yr, yn⟩ := y
            simp only [En.c] at *
            clear hxf hyf hx hy hfa hfb
            repeat' (first | ((with_reducible refine aB ?_); intro K hK hX) | ((with_reducible refine aC ?_); refine aD [0, 1, 4, 5, 6, 7, 8, 9] rfl rfl ?_) | ((with_reducible refine aF ?_); refine aG [0, 1, 4, 5, 6, 7, 8, 9] rfl rfl ?_; refine aI [] ?_) | ((first | with_reducible refine aE ?_ | with_reducible refine aT ?_); (first | refine zA ?_ | refine zN ?_ | refine zD ?_); (first | refine c0 hc ?_)) | ((first | ((with_reducible refine aH ?_); refine xA ?_) | ((with_reducible refine aO ?_); refine xD ?_)); (first | ((with_reducible refine aP ?_); (first | refine aA (aR tabOk rfl rfl rfl rfl (by first | exact hxr | exact hyr | exact hxn | exact hyn)) ?_ | refine aA (aN tabOk rfl rfl rfl rfl (by first | exact hxr | exact hyr | exact hxn | exact hyn)) ?_ | refine aA (aM tabOk rfl rfl rfl (by first | exact hxr | exact hyr | exact hxn | exact hyn)) ?_ | refine aA (aW tabOk rfl rfl rfl rfl (by first | first | exact hax | exact hay | exact whole0 (by first | rfl | omega) | rfl) zln) ?_ | refine aA (aV tabOk rfl rfl rfl (by first | first | exact hax | exact hay | exact whole0 (by first | rfl | omega) | rfl) zln) ?_)) | ((with_reducible refine bR ?_); (first | refine aA (s_ixV1 tabOk rfl rfl zcj rfl rfl rfl rfl rfl zle (by first | exact hxr | exact hyr | exact hxn | exact hyn)) ?_ | refine aA (aQ tabOk rfl rfl zcj rfl rfl (by first | exact hxr | exact hyr | exact hxn | exact hyn)) ?_)) | ((with_reducible refine bE ?_); (first | refine aA (s_slArri tabOk rfl rfl rfl rfl zbd zbd zle zle (by decide) (by first | first | exact hax | exact hay | exact whole0 (by first | rfl | omega) | rfl) zln) ?_)))) | refine stA ?_ | refine stD ?_ | ((first | refine hK _ _ _ _ ?_ | refine hX _ _ _ _ _ (by simp) ?_); clear hK hX K))
            exact ⟨(i + 1, k + 1, o, q), ⟨by first | omega | (simp only; omega), by first | omega | (simp only; omega), hq, hst⟩, by simp only; omega, weakA⟩
          · rw [mg_eq hx hy c0' hs] at hst
            generalize cmpR x.r y.r = c at hc c1' c2' c0'
            obtain ⟨xr, xn⟩ := x
            obtain ⟨yr, yn⟩ := y
            simp only [En.c] at *
            clear hxf hyf hx hy hfa hfb
            repeat' (first | ((with_reducible refine aB ?_); intro K hK hX) | ((with_reducible refine aC ?_); refine aD [0, 1, 4, 5, 6, 7, 8, 9] rfl rfl ?_) | ((with_reducible refine aF ?_); refine aG [0, 1, 4, 5, 6, 7, 8, 9] rfl rfl ?_; refine aI [] ?_) | ((first | with_reducible refine aE ?_ | with_reducible refine aT ?_); (first | refine zA ?_ | refine zN ?_ | refine zD ?_); (first | refine c0 hc ?_)) | ((first | ((with_reducible refine aH ?_); refine xA ?_) | ((with_reducible refine aO ?_); refine xD ?_)); (first | ((with_reducible refine aP ?_); (first | refine aA (aR tabOk rfl rfl rfl rfl (by first | exact hxr | exact hyr | exact hxn | exact hyn)) ?_ | refine aA (aN tabOk rfl rfl rfl rfl (by first | exact hxr | exact hyr | exact hxn | exact hyn)) ?_ | refine aA (aM tabOk rfl rfl rfl (by first | exact hxr | exact hyr | exact hxn | exact hyn)) ?_ | refine aA (aW tabOk rfl rfl rfl rfl (by first | first | exact hax | exact hay | exact whole0 (by first | rfl | omega) | rfl) zln) ?_ | refine aA (aV tabOk rfl rfl rfl (by first | first | exact hax | exact hay | exact whole0 (by first | rfl | omega) | rfl) zln) ?_)) | ((with_reducible refine bR ?_); (first | refine aA (s_ixV1 tabOk rfl rfl zcj rfl rfl rfl rfl rfl zle (by first | exact hxr | exact hyr | exact hxn | exact hyn)) ?_ | refine aA (aQ tabOk rfl rfl zcj rfl rfl (by first | exact hxr | exact hyr | exact hxn | exact hyn)) ?_)) | ((with_reducible refine bE ?_); (first | refine aA (s_slArri tabOk rfl rfl rfl rfl zbd zbd zle zle (by decide) (by first | first | exact hax | exact hay | exact whole0 (by first | rfl | omega) | rfl) zln) ?_)))) | refine stA ?_ | refine stD ?_ | ((first | refine hK _ _ _ _ ?_ | refine hX _ _ _ _ _ (by simp) ?_); clear hK hX K))
            exact ⟨(i + 1, k + 1, o ++ [⟨xr, xn + yn⟩], q + 1), ⟨by first | omega | (simp only; omega), by first | omega | (simp only; omega), by rw [List.length_append, hq]; rfl, jC hst⟩, by simp only; omega, (by refine bS [2] rfl rfl ?_ ?_ rfl rfl <;> (repeat' (first | exact bI | exact bJ | refine bF rfl (by first | rfl | (exact congrArg (AObj.row 68) (eD o ⟨xr, xn + yn⟩)) | exact zeq) rfl ?_ | refine bB rfl (by first | rfl | (exact congrArg (AObj.row 68) (eD o ⟨xr, xn + yn⟩)) | exact zeq) rfl ?_)))⟩
    · have hkm2 : m ≤ k := by omega
      have hay : True := trivial
      have hyr : True := trivial
      have hyn : True := trivial
      rw [mg_left hm hkm2 hx] at hst
      obtain ⟨xr, xn⟩ := x
      simp only [En.c] at *
      clear hxf hx hfa hfb
      repeat' (first | ((with_reducible refine aB ?_); intro K hK hX) | ((with_reducible refine aC ?_); refine aD [0, 1, 4, 5, 6, 7, 8, 9] rfl rfl ?_) | ((with_reducible refine aF ?_); refine aG [0, 1, 4, 5, 6, 7, 8, 9] rfl rfl ?_; refine aI [] ?_) | ((first | ((with_reducible refine aH ?_); refine xA ?_) | ((with_reducible refine aO ?_); refine xD ?_)); (first | ((with_reducible refine aP ?_); (first | refine aA (aR tabOk rfl rfl rfl rfl (by first | exact hxr | exact hyr | exact hxn | exact hyn)) ?_ | refine aA (aN tabOk rfl rfl rfl rfl (by first | exact hxr | exact hyr | exact hxn | exact hyn)) ?_ | refine aA (aM tabOk rfl rfl rfl (by first | exact hxr | exact hyr | exact hxn | exact hyn)) ?_ | refine aA (aW tabOk rfl rfl rfl rfl (by first | first | exact hax | exact hay | exact whole0 (by first | rfl | omega) | rfl) zln) ?_ | refine aA (aV tabOk rfl rfl rfl (by first | first | exact hax | exact hay | exact whole0 (by first | rfl | omega) | rfl) zln) ?_)) | ((with_reducible refine bR ?_); (first | refine aA (s_ixV1 tabOk rfl rfl zcj rfl rfl rfl rfl rfl zle (by first | exact hxr | exact hyr | exact hxn | exact hyn)) ?_ | refine aA (aQ tabOk rfl rfl zcj rfl rfl (by first | exact hxr | exact hyr | exact hxn | exact hyn)) ?_)) | ((with_reducible refine bE ?_); (first | refine aA (s_slArri tabOk rfl rfl rfl rfl zbd zbd zle zle (by decide) (by first | first | exact hax | exact hay | exact whole0 (by first | rfl | omega) | rfl) zln) ?_)))) | refine stA ?_ | refine stD ?_ | ((first | refine hK _ _ _ _ ?_ | refine hX _ _ _ _ _ (by simp) ?_); clear hK hX K))
      exact ⟨(i + 1, k, o ++ [⟨xr, xn⟩], q + 1), ⟨by first | omega | (simp only; omega), by first | omega | (simp only; omega), by rw [List.length_append, hq]; rfl, jC hst⟩, by simp only; omega, (by refine bS [2] rfl rfl ?_ ?_ rfl rfl <;> (repeat' (first | exact bI | exact bJ | refine bF rfl (by first | rfl | (exact congrArg (AObj.row 68) (eD o ⟨xr, xn⟩)) | exact zeq) rfl ?_ | refine bB rfl (by first | rfl | (exact congrArg (AObj.row 68) (eD o ⟨xr, xn⟩)) | exact zeq) rfl ?_)))⟩
  · by_cases hkm : k < m
    · obtain ⟨y, hy⟩ : ∃ y, b[k]? = some y := ⟨b[k]'(by omega), List.getElem?_eq_getElem _⟩
      have hay := iF hy
      have hyr := dW hy
      have hyn := lB hy
      have hax : True := trivial
      have hxr : True := trivial
      have hxn : True := trivial
      rw [mg_right hn (by omega) hy] at hst
      obtain ⟨yr, yn⟩ := y
      simp only [En.c] at *
      clear hy hfa hfb
      repeat' (first | ((with_reducible refine aB ?_); intro K hK hX) | ((with_reducible refine aC ?_); refine aD [0, 1, 4, 5, 6, 7, 8, 9] rfl rfl ?_) | ((with_reducible refine aF ?_); refine aG [0, 1, 4, 5, 6, 7, 8, 9] rfl rfl ?_; refine aI [] ?_) | ((first | ((with_reducible refine aH ?_); refine xA ?_) | ((with_reducible refine aO ?_); refine xD ?_)); (first | ((with_reducible refine aP ?_); (first | refine aA (aR tabOk rfl rfl rfl rfl (by first | exact hxr | exact hyr | exact hxn | exact hyn)) ?_ | refine aA (aN tabOk rfl rfl rfl rfl (by first | exact hxr | exact hyr | exact hxn | exact hyn)) ?_ | refine aA (aM tabOk rfl rfl rfl (by first | exact hxr | exact hyr | exact hxn | exact hyn)) ?_ | refine aA (aW tabOk rfl rfl rfl rfl (by first | first | exact hax | exact hay | exact whole0 (by first | rfl | omega) | rfl) zln) ?_ | refine aA (aV tabOk rfl rfl rfl (by first | first | exact hax | exact hay | exact whole0 (by first | rfl | omega) | rfl) zln) ?_)) | ((with_reducible refine bR ?_); (first | refine aA (s_ixV1 tabOk rfl rfl zcj rfl rfl rfl rfl rfl zle (by first | exact hxr | exact hyr | exact hxn | exact hyn)) ?_ | refine aA (aQ tabOk rfl rfl zcj rfl rfl (by first | exact hxr | exact hyr | exact hxn | exact hyn)) ?_)) | ((with_reducible refine bE ?_); (first | refine aA (s_slArri tabOk rfl rfl rfl rfl zbd zbd zle zle (by decide) (by first | first | exact hax | exact hay | exact whole0 (by first | rfl | omega) | rfl) zln) ?_)))) | refine stA ?_ | refine stD ?_ | ((first | refine hK _ _ _ _ ?_ | refine hX _ _ _ _ _ (by simp) ?_); clear hK hX K))
      exact ⟨(i, k + 1, o ++ [⟨yr, yn⟩], q + 1), ⟨by first | omega | (simp only; omega), by first | omega | (simp only; omega), by rw [List.length_append, hq]; rfl, jC hst⟩, by simp only; omega, (by refine bS [2] rfl rfl ?_ ?_ rfl rfl <;> (repeat' (first | exact bI | exact bJ | refine bF rfl (by first | rfl | (exact congrArg (AObj.row 68) (eD o ⟨yr, yn⟩)) | exact zeq) rfl ?_ | refine bB rfl (by first | rfl | (exact congrArg (AObj.row 68) (eD o ⟨yr, yn⟩)) | exact zeq) rfl ?_)))⟩
    · rw [lX hn (by omega), lX hm (by omega), gJ, List.append_nil] at hst
      rw [hst] at hlo hq ⊢
      have hqN2 : q = N := by omega
      rw [hqN2] at hlo ⊢
      repeat' (first | ((with_reducible refine aB ?_); intro K hK hX) | ((with_reducible refine aC ?_); refine aD [0, 1, 4, 5, 6, 7, 8, 9] rfl rfl ?_) | ((with_reducible refine aF ?_); refine aG [0, 1, 4, 5, 6, 7, 8, 9] rfl rfl ?_; refine aI [] ?_) | refine stA ?_ | refine stD ?_ | ((first | refine hK _ _ _ _ ?_ | refine hX _ _ _ _ _ (by simp) ?_); clear hK hX K))
      refine aK zio ztr rfl (ResL.one (ResA.tmp rfl)) (oP rfl rfl)
theorem merge_ok (a b : List En) (n m N : Nat) (hn : a.length = n) (hm : b.length = m) (hnn : n ≤ 100000) (hmm : m ≤ 100000) (hfa : fitB a) (hfb : fitB b) (hba : absS a ≤ 1000000000000) (hbb : absS b ≤ 1000000000000) (hN : (mergeE a b).length = N) : AC Tryz.prog 150 [.sl 2 n (ec a), .sl 2 m (ec b)] (.c (.sl 2 N (ec (mergeE a b)))) [] 0 := by
  have hZl : (ec (mergeE a b)).length = N * 2 := by rw [bH, hN]
  exact AC.outT (merge_own a b n m N hn hm hnn hmm hfa hfb hba hbb hN) (cE (cD rfl rfl hZl))
end Go.Proofs.YtccnhpaldmjkbaaGreat
