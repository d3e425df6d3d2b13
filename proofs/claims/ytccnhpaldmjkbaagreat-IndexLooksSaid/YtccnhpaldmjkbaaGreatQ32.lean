/-
  Joined texts: J2. Lemmas; no statement of a law.
-/
import Derived.Test.YtccnhpaldmjkbaaGreatQ31
set_option linter.unusedSimpArgs false
set_option linter.unusedVariables false
namespace Go.Proofs.YtccnhpaldmjkbaaGreat
open Go Go.RowKit Go.Av
set_option maxRecDepth 100000
theorem zeroB (w : World) : (zeroValue 4).run Tryz.prog w = .ok (.bool false) w := by kernel_rfl
theorem zeroN (w : World) : (zeroValue 3).run Tryz.prog w = .ok (.int .i64 0) w := by kernel_rfl
attribute [local irreducible] Still Adds AWL AW Drw DrwE EStep AC AWR Weak Frz Src RetK Out InK ItK AsK RdK
open Classical in
set_option maxHeartbeats 16000000 in
theorem vY (p : List Po) (n : Nat) (ws : List Wd) (k : Nat) (hn : p.length = n) (hm : n ≤ 100000) (hk : ws.length = k) (hk2 : k ≤ 100000) (hv : valP p) (N : Nat) (hN : (srchP p ws).length = N) : AC Tryz.prog 36 [.sl 3 n (pc p), .sl 1 k (strc ws)] (.own 0 0 N 2 true) [(0, .row 68 (ec (srchP p ws)))] 1 := by
  obtain ⟨hp, hall⟩ := gL hv
  have h1 := mB p n hn (by simp only [maxLen]; omega) (fun x hx => by obtain ⟨a, b, _⟩ := hall x hx; have := a.2.1; have := b.1; simp only [maxLen]; omega)
  rw [decide_eq_true hv] at h1
  have hrow : ∀ x ∈ p, rowP x.r := fun x hx => (hall x hx).2.1
  have hcnt : ∀ x ∈ p, 1 ≤ x.n ∧ x.n ≤ 262144 := fun x hx => (hall x hx).2.2
  have hcl : (pc p).length = n * 3 := by rw [bQ, hn]
  have hwl : (strc ws).length = k := by rw [bU, hk]
  obtain ⟨D, hD⟩ : ∃ D : Nat → List Wd, ∀ i, D i = dedW (ws.take i) := ⟨_, fun _ => rfl⟩
  have hD0 : D 0 = [] := by rw [hD]; rfl
  clear hv hall
  refine aJ tabOk (sz := 117) Tryz.func36 rfl (by rw [Tryz.ntmps36]; rfl) ?_
  repeat' (first | ((with_reducible refine aB ?_); intro K hK hX) | ((with_reducible refine aC ?_); refine aD [0, 1, 4, 5, 7, 8, 9, 11, 12, 13, 14, 15, 17, 22, 23, 24, 32, 33, 34, 93, 94, 95] rfl rfl ?_) | ((with_reducible refine aF ?_); refine aG [0, 1, 4, 5, 7, 8, 9, 11, 12, 13, 14, 15, 17, 22, 23, 24, 32, 33, 34, 93, 94, 95] rfl rfl ?_; refine aI [] ?_) | ((with_reducible refine isA_mm ?_); refine yA ?_; refine eG (mS rfl) rfl ?_) | ((first | with_reducible refine aE ?_ | with_reducible refine aT ?_); (first | refine zA ?_ | refine zN ?_ | refine zD ?_); (first | refine c0 h1 ?_)) | refine stA ?_ | refine stD ?_ | ((first | refine hK _ _ _ _ ?_ | refine hX _ _ _ _ _ (by simp) ?_); clear hK hX K))
  refine bC [24, 7] [0] rfl rfl (fun i : Nat => [(24, .c (iv i))]) (fun i => [(0, .tab (tabG (wtab (D i))))]) (fun i => i ≤ k) (fun i => k - i) 0 (Nat.zero_le _) (by (try dsimp only); rw [hD0]; exact (by refine bZ rfl ?_ ?_ rfl <;> (repeat' (first | exact bG | exact bM | refine aZ rfl (by first | rfl | (fail) | exact zeq) rfl ?_ | refine aY rfl (by first | rfl | (fail) | exact zeq) rfl ?_ | refine aY rfl (by first | rfl | (fail)) dI ?_)))) ?_
  intro i hi K hK hX
  by_cases hlt : i < k
  · obtain ⟨w, hw⟩ : ∃ w, ws[i]? = some w := ⟨_, List.getElem?_eq_getElem (by omega)⟩
    have hws := eF hw
    have hDs : D (i + 1) = addW (D i) w := by rw [hD, hD]; exact dedW_step hw
    have hkeys0 : KeysOk .str (tabG (wtab (D i))) := jJ (xZ (D i))
    unfold addW at hDs
    by_cases hmem : w ∈ D i
    · rw [if_pos hmem] at hDs
      obtain ⟨j, hmat0, hset⟩ := wtab_at hmem
      have hset : (tabG (wtab (D i))).set j (.v (.string ⟨w.toArray⟩), .c (bv true)) = tabG (wtab (D (i + 1))) := by rw [hDs]; exact hset
      clear hD hD0 hmem hDs
      repeat' (first | ((with_reducible refine aB ?_); intro K hK hX) | ((with_reducible refine aC ?_); refine aD [0, 1, 4, 5, 7, 8, 9, 11, 12, 13, 14, 15, 17, 22, 23, 24, 32, 33, 34, 93, 94, 95] rfl rfl ?_) | ((with_reducible refine aF ?_); refine aG [0, 1, 4, 5, 7, 8, 9, 11, 12, 13, 14, 15, 17, 22, 23, 24, 32, 33, 34, 93, 94, 95] rfl rfl ?_; refine aI [] ?_) | ((with_reducible refine tL ?_); refine pG tabOk aL rfl rfl rfl rfl rfl rfl rfl trivial hkeys0 hmat0 hset ?_) | ((first | ((with_reducible refine aH ?_); refine xA ?_) | ((with_reducible refine aO ?_); refine xD ?_)); (first | ((with_reducible refine aP ?_); (first | refine aA (aR tabOk rfl rfl rfl rfl (by (rw [Nat.mul_one]; exact hws))) ?_ | refine aA (aN tabOk rfl rfl rfl rfl (by (rw [Nat.mul_one]; exact hws))) ?_ | refine aA (aM tabOk rfl rfl rfl (by (rw [Nat.mul_one]; exact hws))) ?_)) | ((with_reducible refine bR ?_); (first | refine aA (s_ixV1 tabOk rfl rfl zcj rfl rfl rfl rfl rfl zle (by (rw [Nat.mul_one]; exact hws))) ?_ | refine aA (aQ tabOk rfl rfl zcj rfl rfl (by (rw [Nat.mul_one]; exact hws))) ?_)))) | refine stA ?_ | refine stD ?_ | ((first | refine hK _ _ _ _ ?_ | refine hX _ _ _ _ _ (by simp) ?_); clear hK hX K))
      exact ⟨i + 1, by omega, by omega, (by refine bZ rfl ?_ ?_ rfl <;> (repeat' (first | exact bG | exact bM | refine aZ rfl (by first | rfl | (fail) | exact zeq) rfl ?_ | refine aY rfl (by first | rfl | (fail) | exact zeq) rfl ?_ | refine aY rfl (by first | rfl | (fail)) dI ?_)))⟩
    · rw [if_neg hmem] at hDs
      have hmno0 := wtab_no hmem
      have happ := wtab_app (D i) w
      rw [← hDs] at happ
      clear hD hD0 hmem hDs
      repeat' (first | ((with_reducible refine aB ?_); intro K hK hX) | ((with_reducible refine aC ?_); refine aD [0, 1, 4, 5, 7, 8, 9, 11, 12, 13, 14, 15, 17, 22, 23, 24, 32, 33, 34, 93, 94, 95] rfl rfl ?_) | ((with_reducible refine aF ?_); refine aG [0, 1, 4, 5, 7, 8, 9, 11, 12, 13, 14, 15, 17, 22, 23, 24, 32, 33, 34, 93, 94, 95] rfl rfl ?_; refine aI [] ?_) | ((with_reducible refine tL ?_); refine iU tabOk aL rfl rfl rfl rfl rfl rfl rfl trivial hkeys0 hmno0 happ ?_) | ((first | ((with_reducible refine aH ?_); refine xA ?_) | ((with_reducible refine aO ?_); refine xD ?_)); (first | ((with_reducible refine aP ?_); (first | refine aA (aR tabOk rfl rfl rfl rfl (by (rw [Nat.mul_one]; exact hws))) ?_ | refine aA (aN tabOk rfl rfl rfl rfl (by (rw [Nat.mul_one]; exact hws))) ?_ | refine aA (aM tabOk rfl rfl rfl (by (rw [Nat.mul_one]; exact hws))) ?_)) | ((with_reducible refine bR ?_); (first | refine aA (s_ixV1 tabOk rfl rfl zcj rfl rfl rfl rfl rfl zle (by (rw [Nat.mul_one]; exact hws))) ?_ | refine aA (aQ tabOk rfl rfl zcj rfl rfl (by (rw [Nat.mul_one]; exact hws))) ?_)))) | refine stA ?_ | refine stD ?_ | ((first | refine hK _ _ _ _ ?_ | refine hX _ _ _ _ _ (by simp) ?_); clear hK hX K))
      exact ⟨i + 1, by omega, by omega, (by refine bZ rfl ?_ ?_ rfl <;> (repeat' (first | exact bG | exact bM | refine aZ rfl (by first | rfl | (fail) | exact zeq) rfl ?_ | refine aY rfl (by first | rfl | (fail) | exact zeq) rfl ?_ | refine aY rfl (by first | rfl | (fail)) dI ?_)))⟩
  · have hie : i = k := by omega
    rw [hie]
    have hDk : D k = dedW ws := by rw [hD, List.take_of_length_le (by omega)]
    rw [hDk]
    have hkeys0 : KeysOk .str (tabG (wtab (dedW ws))) := jJ (xZ (dedW ws))
    obtain ⟨dk, hdk⟩ : ∃ dk, (dedW ws).length = dk := ⟨_, rfl⟩
    have hlen0 : (tabG (wtab (dedW ws))).length = dk := by rw [xN, ← hdk]; simp [wtab]
    have hdk2 : dk ≤ 100000 := by have := (gI ws).2.2; omega
    clear hD hD0 hDk hlt hie hi
    repeat' (first | ((with_reducible refine aB ?_); intro K hK hX) | ((with_reducible refine aC ?_); refine aD [0, 1, 4, 5, 7, 8, 9, 11, 12, 13, 14, 15, 17, 22, 23, 24, 32, 33, 34, 93, 94, 95] rfl rfl ?_) | ((with_reducible refine aF ?_); refine aG [0, 1, 4, 5, 7, 8, 9, 11, 12, 13, 14, 15, 17, 22, 23, 24, 32, 33, 34, 93, 94, 95] rfl rfl ?_; refine aI [] ?_) | ((with_reducible refine isA_mm ?_); refine yA ?_; refine eG (mS rfl) rfl ?_) | refine stA ?_ | refine stD ?_ | ((first | refine hK _ _ _ _ ?_ | refine hX _ _ _ _ _ (by simp) ?_); clear hK hX K))
    refine dK 8 106 3 rfl ?_
    obtain ⟨F, hF⟩ : ∃ F : Nat → List Mt, ∀ i, F i = fnd ws (p.take i) := ⟨_, fun _ => rfl⟩
    have hF0 : F 0 = [] := by rw [hF]; rfl
    have hFn : F n = fnd ws p := by rw [hF, List.take_of_length_le (by omega)]
    obtain ⟨q, hq⟩ : ∃ q : Nat → Nat, ∀ i, (F i).length = q i := ⟨_, fun _ => rfl⟩
    have hq0 : q 0 = 0 := by rw [← hq, hF0]; rfl
    have hql : ∀ i, i ≤ n → q i ≤ 100000 := fun i hi => by
      have := fnd_len ws (p.take i)
      rw [← hF, hq, List.length_take] at this
      omega
    have hFr : ∀ i, ∀ m ∈ F i, rowP m.r ∧ m.c ≤ 100000 ∧ 1 ≤ m.n ∧ m.n ≤ 262144 := fun i m hm => by
      rw [hF] at hm
      obtain ⟨_, f2, _⟩ := iH ws (p.take i)
      obtain ⟨c1, ⟨x, hx, hxn⟩, _⟩ := f2 m hm
      obtain ⟨x1, _, x3⟩ := mine_mem.1 hx
      have x4 := List.mem_of_mem_take x1
      have := hcnt x x4
      have h5 : (mine ws (p.take i) m.r).length ≤ (p.take i).length := List.length_filter_le _ _
      rw [List.length_take] at h5
      exact ⟨x3 ▸ hrow x x4, by omega, by omega, by omega⟩
    clear hk hwl
    refine bC [34, 8, 11, 12, 13, 14] [1, 2] rfl rfl (fun i : Nat => [(34, .c (iv i)), (8, .own 2 0 (q i) 3 true)]) (fun i => [(1, .tab (tabG (ptab (F i)))), (2, .row 106 (fc (F i)))]) (fun i => i ≤ n) (fun i => n - i) 0 (Nat.zero_le _) (by (try dsimp only); rw [hF0, hq0]; exact (by refine bZ rfl ?_ ?_ rfl <;> (repeat' (first | exact bG | exact bM | refine aZ rfl (by first | rfl | (fail) | exact zeq) rfl ?_ | refine aY rfl (by first | rfl | (fail) | exact zeq) rfl ?_ | refine aY rfl (by first | rfl | (fail)) dI ?_)))) ?_
    clear i
    intro i hi K hK hX
    have hqi := hql i hi
    have hLl : (fc (F i)).length = q i * 3 := by rw [fc_length, hq]
    by_cases hlt : i < n
    · obtain ⟨x, hx⟩ : ∃ x, p[i]? = some x := ⟨_, List.getElem?_eq_getElem (by omega)⟩
      have hxm := List.mem_of_getElem? hx
      have hat := iM hx
      have hst : F (i + 1) = fndF ws (F i) x := by rw [hF, hF]; exact fnd_step hx
      unfold fndF at hst
      have hqs := hq (i + 1)
      by_cases hok : okW ws x.w
      · rw [if_pos hok] at hst
        have hxr := hrow x hxm
        have hen := enc_ok x.r x.r.length rfl (by have := hxr.1; omega)
        have hkeys2 : KeysOk .str (tabG (ptab (F i))) := jJ (ptab_key (F i))
        have hokF : ∀ m ∈ F i, ∀ v ∈ m.r, okP v := fun m hm => ((hFr i m hm).1).2
        -- whether all words are looked for
        have hwant : dk = 0 ∨ (0 < dk ∧ ∃ j, MAt (.string ⟨x.w.toArray⟩) (.c (bv true)) (tabG (wtab (dedW ws))) j) := by
          rcases hok with h0 | h0
          · left; rw [← hdk, h0]; rfl
          · right
            have hm := ((gI ws).2.1 x.w).2 h0
            exact ⟨by rw [← hdk]; exact List.length_pos_of_mem hm, (wtab_at hm).imp fun j h => h.1⟩
        rcases oN (F i) x.r with ⟨j, m, e1, e2, e3⟩ | e1
        · have hj := (List.getElem?_eq_some_iff.1 e1).1
          rw [hq] at hj
          obtain ⟨_, hmc, hmn1, hmn2⟩ := hFr i m (List.mem_of_getElem? e1)
          have hxn := hcnt x hxm
          have hmat2 := ptab_at hokF e1 (fun q k hqj hk => by rw [e2]; exact e3 q k hqj hk)
          rw [oQ e1 e2 e3] at hst
          have hc1 := fc_c e1
          have hn1 := fc_n e1
          have hfs := fc_set (m.c + 1) (min m.n x.n) e1
          have hmin : (if x.n < m.n then x.n else m.n) = min m.n x.n := by rw [Int.min_def]; split <;> split <;> omega
          have hc2 : ((fc (F i)).set (0 + j * 3 + 1) (iv ((m.c : Int) + 1)))[0 + j * 3 + 2]? = some (iv m.n) := by rw [List.getElem?_set_ne (by omega), Nat.zero_add]; exact hn1
          have hnx : ((fc (F i)).set (0 + j * 3 + 1) (iv ((m.c : Int) + 1))).set (0 + j * 3 + 2) (iv (min m.n x.n)) = fc (F (i + 1)) := by rw [hst, Nat.zero_add]; exact hfs
          have hpt : tabG (ptab (F i)) = tabG (ptab (F (i + 1))) := by rw [hst, ptab_set e1]
          rw [hst, List.length_set, hq] at hqs
          rw [e2] at hmat2
          rcases hwant with h0 | ⟨h0, jw, hmat0⟩
          · clear hst hfs hF hF0 hFn hFr hql hrow hcnt hx hokF e1 e3 hq hok hp hN hxm hkeys0 hdk
            obtain ⟨xw, xr, xn⟩ := x
            simp only [Po.c] at *
            repeat' (first | ((with_reducible refine aB ?_); intro K hK hX) | ((with_reducible refine aC ?_); refine aD [0, 1, 4, 5, 7, 8, 9, 11, 12, 13, 14, 15, 17, 22, 23, 24, 32, 33, 34, 93, 94, 95] rfl rfl ?_) | ((with_reducible refine aF ?_); refine aG [0, 1, 4, 5, 7, 8, 9, 11, 12, 13, 14, 15, 17, 22, 23, 24, 32, 33, 34, 93, 94, 95] rfl rfl ?_; refine aI [] ?_) | ((with_reducible refine gZ ?_); refine xA ?_; refine aA (lO tabOk rfl rfl rfl rfl hlen0) ?_) | ((with_reducible refine lF ?_); refine xA ?_; refine aA (sM tabOk rfl rfl rfl rfl rfl rfl trivial hkeys2 hmat2) ?_) | ((first | with_reducible refine aE ?_ | with_reducible refine aT ?_); (first | refine zA ?_ | refine zN ?_ | refine zD ?_); (first | refine c0 hen ?_)) | ((first | ((with_reducible refine aH ?_); refine xA ?_) | ((with_reducible refine aO ?_); refine xD ?_)); (first | ((with_reducible refine rD ?_); (first | refine aA (kW rfl rfl hmin) ?_)) | ((with_reducible refine aP ?_); (first | refine aA (aR tabOk rfl rfl rfl rfl (by first | exact hc2 | (rw [Nat.zero_add]; exact hc1))) ?_ | refine aA (aN tabOk rfl rfl rfl rfl (by first | exact hc2 | (rw [Nat.zero_add]; exact hc1))) ?_ | refine aA (aM tabOk rfl rfl rfl (by first | exact hc2 | (rw [Nat.zero_add]; exact hc1))) ?_ | refine aA (aW tabOk rfl rfl rfl rfl (by first | exact hat | exact whole0 (by first | rfl | omega) | rfl) zln) ?_ | refine aA (aV tabOk rfl rfl rfl (by first | exact hat | exact whole0 (by first | rfl | omega) | rfl) zln) ?_)) | ((with_reducible refine bR ?_); (first | refine aA (s_ixV1 tabOk rfl rfl zcj rfl rfl rfl rfl rfl zle (by first | exact hc2 | (rw [Nat.zero_add]; exact hc1))) ?_ | refine aA (aQ tabOk rfl rfl zcj rfl rfl (by first | exact hc2 | (rw [Nat.zero_add]; exact hc1))) ?_)) | ((with_reducible refine bE ?_); (first | refine aA (s_slArri tabOk rfl rfl rfl rfl zbd zbd zle zle (by decide) (by first | exact hat | exact whole0 (by first | rfl | omega) | rfl) zln) ?_)))) | ((with_reducible refine cS ?_); (refine eT tabOk aL rfl rfl rfl rfl rfl rfl (by first | omega | exact Nat.le_of_ble_eq_true rfl | omega | (simp <;> omega)) ?_)) | refine stA ?_ | refine stD ?_ | ((first | refine hK _ _ _ _ ?_ | refine hX _ _ _ _ _ (by simp) ?_); clear hK hX K))
            exact ⟨i + 1, by omega, by omega, (by refine bZ rfl ?_ ?_ rfl <;> (repeat' (first | exact bG | exact bM | refine aZ rfl (by first | rfl | (first | exact congrArg (fun x => AV.own 2 0 x 3 true) hqs | exact congrArg (AObj.row 106) hnx | exact congrArg AObj.tab hpt) | exact zeq) rfl ?_ | refine aY rfl (by first | rfl | (first | exact congrArg (fun x => AV.own 2 0 x 3 true) hqs | exact congrArg (AObj.row 106) hnx | exact congrArg AObj.tab hpt) | exact zeq) rfl ?_ | refine aY rfl (by first | rfl | (first | exact congrArg (fun x => AV.own 2 0 x 3 true) hqs | exact congrArg (AObj.row 106) hnx | exact congrArg AObj.tab hpt)) dI ?_)))⟩
          · clear hst hfs hF hF0 hFn hFr hql hrow hcnt hx hokF e1 e3 hq hok hp hN hxm hdk
            obtain ⟨xw, xr, xn⟩ := x
            simp only [Po.c] at *
            repeat' (first | ((with_reducible refine aB ?_); intro K hK hX) | ((with_reducible refine aC ?_); refine aD [0, 1, 4, 5, 7, 8, 9, 11, 12, 13, 14, 15, 17, 22, 23, 24, 32, 33, 34, 93, 94, 95] rfl rfl ?_) | ((with_reducible refine aF ?_); refine aG [0, 1, 4, 5, 7, 8, 9, 11, 12, 13, 14, 15, 17, 22, 23, 24, 32, 33, 34, 93, 94, 95] rfl rfl ?_; refine aI [] ?_) | ((with_reducible refine gZ ?_); refine xA ?_; refine aA (lO tabOk rfl rfl rfl rfl hlen0) ?_) | ((with_reducible refine lF ?_); refine xA ?_; refine aA (mJ tabOk rfl rfl rfl rfl rfl rfl trivial hkeys0 hmat0) ?_) | ((with_reducible refine lF ?_); refine xA ?_; refine aA (sM tabOk rfl rfl rfl rfl rfl rfl trivial hkeys2 hmat2) ?_) | ((first | with_reducible refine aE ?_ | with_reducible refine aT ?_); (first | refine zA ?_ | refine zN ?_ | refine zD ?_); (first | refine c0 hen ?_)) | ((first | ((with_reducible refine aH ?_); refine xA ?_) | ((with_reducible refine aO ?_); refine xD ?_)); (first | ((with_reducible refine rD ?_); (first | refine aA (kW rfl rfl hmin) ?_)) | ((with_reducible refine aP ?_); (first | refine aA (aR tabOk rfl rfl rfl rfl (by first | exact hc2 | (rw [Nat.zero_add]; exact hc1))) ?_ | refine aA (aN tabOk rfl rfl rfl rfl (by first | exact hc2 | (rw [Nat.zero_add]; exact hc1))) ?_ | refine aA (aM tabOk rfl rfl rfl (by first | exact hc2 | (rw [Nat.zero_add]; exact hc1))) ?_ | refine aA (aW tabOk rfl rfl rfl rfl (by first | exact hat | exact whole0 (by first | rfl | omega) | rfl) zln) ?_ | refine aA (aV tabOk rfl rfl rfl (by first | exact hat | exact whole0 (by first | rfl | omega) | rfl) zln) ?_)) | ((with_reducible refine bR ?_); (first | refine aA (s_ixV1 tabOk rfl rfl zcj rfl rfl rfl rfl rfl zle (by first | exact hc2 | (rw [Nat.zero_add]; exact hc1))) ?_ | refine aA (aQ tabOk rfl rfl zcj rfl rfl (by first | exact hc2 | (rw [Nat.zero_add]; exact hc1))) ?_)) | ((with_reducible refine bE ?_); (first | refine aA (s_slArri tabOk rfl rfl rfl rfl zbd zbd zle zle (by decide) (by first | exact hat | exact whole0 (by first | rfl | omega) | rfl) zln) ?_)))) | ((with_reducible refine cS ?_); (refine eT tabOk aL rfl rfl rfl rfl rfl rfl (by first | omega | exact Nat.le_of_ble_eq_true rfl | omega | (simp <;> omega)) ?_)) | refine stA ?_ | refine stD ?_ | ((first | refine hK _ _ _ _ ?_ | refine hX _ _ _ _ _ (by simp) ?_); clear hK hX K))
            exact ⟨i + 1, by omega, by omega, (by refine bZ rfl ?_ ?_ rfl <;> (repeat' (first | exact bG | exact bM | refine aZ rfl (by first | rfl | (first | exact congrArg (fun x => AV.own 2 0 x 3 true) hqs | exact congrArg (AObj.row 106) hnx | exact congrArg AObj.tab hpt) | exact zeq) rfl ?_ | refine aY rfl (by first | rfl | (first | exact congrArg (fun x => AV.own 2 0 x 3 true) hqs | exact congrArg (AObj.row 106) hnx | exact congrArg AObj.tab hpt) | exact zeq) rfl ?_ | refine aY rfl (by first | rfl | (first | exact congrArg (fun x => AV.own 2 0 x 3 true) hqs | exact congrArg (AObj.row 106) hnx | exact congrArg AObj.tab hpt)) dI ?_)))⟩
        · have hxn := hcnt x hxm
          have hmno2 := ptab_no hokF hxr.2 e1
          rw [oR e1] at hst
          have hpt2 : tabG (ptab (F i)) ++ [(.v (.string ⟨(encR x.r).toArray⟩), .c (iv (q i)))] = tabG (ptab (F (i + 1))) := by rw [hst, ← hq]; exact ptab_app (F i) ⟨x.r, 1, x.n⟩
          have hmin : (if x.n < x.n then x.n else x.n) = x.n := if_neg (by omega)
          have hfx : fc (F (i + 1)) = fc (F i) ++ [.sl 3 x.r.length (rc x.r), iv 1, iv x.n] := by rw [hst, fc_app]; rfl
          rw [hst, List.length_append, hq] at hqs
          have hqe : q i + 1 = q (i + 1) := hqs
          generalize fc (F i) = L at *
          have hA1 : (L ++ [[.sl 3 x.r.length (rc x.r), iv 0, iv x.n]].flatten)[0 + q i * 3 + 1]? = some (iv 0) := by
            rw [Nat.zero_add, List.getElem?_append_right (by omega), hLl, Nat.add_sub_cancel_left]; rfl
          have hA2 : ((L ++ [[.sl 3 x.r.length (rc x.r), iv 0, iv x.n]].flatten).set (0 + q i * 3 + 1) (iv 1))[0 + q i * 3 + 2]? = some (iv x.n) := by
            rw [List.getElem?_set_ne (by omega), Nat.zero_add, List.getElem?_append_right (by omega), hLl, Nat.add_sub_cancel_left]; rfl
          have hnx : ((L ++ [[.sl 3 x.r.length (rc x.r), iv 0, iv x.n]].flatten).set (0 + q i * 3 + 1) (iv 1)).set (0 + q i * 3 + 2) (iv x.n) = fc (F (i + 1)) := by
            rw [hfx, Nat.zero_add, List.set_append_right _ _ (by omega), List.set_append_right _ _ (by omega), hLl, Nat.add_sub_cancel_left, Nat.add_sub_cancel_left]; rfl
          rcases hwant with h0 | ⟨h0, jw, hmat0⟩
          · clear hst hfx hF hF0 hFn hFr hql hrow hcnt hx hokF e1 hq hok hp hN hxm hkeys0 hdk
            obtain ⟨xw, xr, xn⟩ := x
            simp only [Po.c] at *
            repeat' (first | ((with_reducible refine aB ?_); intro K hK hX) | ((with_reducible refine aC ?_); refine aD [0, 1, 4, 5, 7, 8, 9, 11, 12, 13, 14, 15, 17, 22, 23, 24, 32, 33, 34, 93, 94, 95] rfl rfl ?_) | ((with_reducible refine aF ?_); refine aG [0, 1, 4, 5, 7, 8, 9, 11, 12, 13, 14, 15, 17, 22, 23, 24, 32, 33, 34, 93, 94, 95] rfl rfl ?_; refine aI [] ?_) | ((with_reducible refine gZ ?_); refine xA ?_; refine aA (lO tabOk rfl rfl rfl rfl hlen0) ?_) | ((with_reducible refine lF ?_); refine xA ?_; refine aA (qP tabOk rfl rfl rfl zeroN rfl rfl rfl trivial hkeys2 hmno2) ?_) | ((with_reducible refine tL ?_); refine iU tabOk aL rfl rfl rfl rfl rfl rfl rfl trivial hkeys2 hmno2 hpt2 ?_) | ((first | with_reducible refine aE ?_ | with_reducible refine aT ?_); (first | refine zA ?_ | refine zN ?_ | refine zD ?_); (first | refine c0 hen ?_)) | ((first | ((with_reducible refine aH ?_); refine xA ?_) | ((with_reducible refine aO ?_); refine xD ?_)); (first | ((with_reducible refine rD ?_); (first | refine aA (kW rfl rfl hmin) ?_)) | ((with_reducible refine aP ?_); (first | refine aA (aR tabOk rfl rfl rfl rfl (by first | exact hA1 | exact hA2)) ?_ | refine aA (aN tabOk rfl rfl rfl rfl (by first | exact hA1 | exact hA2)) ?_ | refine aA (aM tabOk rfl rfl rfl (by first | exact hA1 | exact hA2)) ?_ | refine aA (aW tabOk rfl rfl rfl rfl (by first | exact hat | exact whole0 (by first | rfl | omega) | rfl) zln) ?_ | refine aA (aV tabOk rfl rfl rfl (by first | exact hat | exact whole0 (by first | rfl | omega) | rfl) zln) ?_)) | ((with_reducible refine bR ?_); (first | refine aA (s_ixV1 tabOk rfl rfl zcj rfl rfl rfl rfl rfl zle (by first | exact hA1 | exact hA2)) ?_ | refine aA (aQ tabOk rfl rfl zcj rfl rfl (by first | exact hA1 | exact hA2)) ?_)) | ((with_reducible refine bE ?_); (first | refine aA (s_slArri tabOk rfl rfl rfl rfl zbd zbd zle zle (by decide) (by first | exact hat | exact whole0 (by first | rfl | omega) | rfl) zln) ?_)))) | ((with_reducible refine cS ?_); (refine eT tabOk aL rfl rfl rfl rfl rfl rfl (by first | omega | exact Nat.le_of_ble_eq_true rfl | omega | (simp <;> omega)) ?_)) | refine stA ?_ | refine stD ?_ | ((first | refine hK _ _ _ _ ?_ | refine hX _ _ _ _ _ (by simp) ?_); clear hK hX K))
            exact ⟨i + 1, by omega, by omega, (by refine bS [0, 1, 5] rfl rfl ?_ ?_ rfl rfl <;> (repeat' (first | exact bI | exact bJ | refine bF rfl (by first | rfl | (first | exact congrArg (fun x => AV.own 2 0 x 3 true) hqe | exact congrArg (AObj.row 106) hnx) | exact zeq) rfl ?_ | refine bB rfl uH dI ?_ | refine bB rfl (by first | rfl | (first | exact congrArg (fun x => AV.own 2 0 x 3 true) hqe | exact congrArg (AObj.row 106) hnx) | exact zeq) (by first | rfl | exact dI) ?_)))⟩
          · clear hst hfx hF hF0 hFn hFr hql hrow hcnt hx hokF e1 hq hok hp hN hxm hdk
            obtain ⟨xw, xr, xn⟩ := x
            simp only [Po.c] at *
            repeat' (first | ((with_reducible refine aB ?_); intro K hK hX) | ((with_reducible refine aC ?_); refine aD [0, 1, 4, 5, 7, 8, 9, 11, 12, 13, 14, 15, 17, 22, 23, 24, 32, 33, 34, 93, 94, 95] rfl rfl ?_) | ((with_reducible refine aF ?_); refine aG [0, 1, 4, 5, 7, 8, 9, 11, 12, 13, 14, 15, 17, 22, 23, 24, 32, 33, 34, 93, 94, 95] rfl rfl ?_; refine aI [] ?_) | ((with_reducible refine gZ ?_); refine xA ?_; refine aA (lO tabOk rfl rfl rfl rfl hlen0) ?_) | ((with_reducible refine lF ?_); refine xA ?_; refine aA (mJ tabOk rfl rfl rfl rfl rfl rfl trivial hkeys0 hmat0) ?_) | ((with_reducible refine lF ?_); refine xA ?_; refine aA (qP tabOk rfl rfl rfl zeroN rfl rfl rfl trivial hkeys2 hmno2) ?_) | ((with_reducible refine tL ?_); refine iU tabOk aL rfl rfl rfl rfl rfl rfl rfl trivial hkeys2 hmno2 hpt2 ?_) | ((first | with_reducible refine aE ?_ | with_reducible refine aT ?_); (first | refine zA ?_ | refine zN ?_ | refine zD ?_); (first | refine c0 hen ?_)) | ((first | ((with_reducible refine aH ?_); refine xA ?_) | ((with_reducible refine aO ?_); refine xD ?_)); (first | ((with_reducible refine rD ?_); (first | refine aA (kW rfl rfl hmin) ?_)) | ((with_reducible refine aP ?_); (first | refine aA (aR tabOk rfl rfl rfl rfl (by first | exact hA1 | exact hA2)) ?_ | refine aA (aN tabOk rfl rfl rfl rfl (by first | exact hA1 | exact hA2)) ?_ | refine aA (aM tabOk rfl rfl rfl (by first | exact hA1 | exact hA2)) ?_ | refine aA (aW tabOk rfl rfl rfl rfl (by first | exact hat | exact whole0 (by first | rfl | omega) | rfl) zln) ?_ | refine aA (aV tabOk rfl rfl rfl (by first | exact hat | exact whole0 (by first | rfl | omega) | rfl) zln) ?_)) | ((with_reducible refine bR ?_); (first | refine aA (s_ixV1 tabOk rfl rfl zcj rfl rfl rfl rfl rfl zle (by first | exact hA1 | exact hA2)) ?_ | refine aA (aQ tabOk rfl rfl zcj rfl rfl (by first | exact hA1 | exact hA2)) ?_)) | ((with_reducible refine bE ?_); (first | refine aA (s_slArri tabOk rfl rfl rfl rfl zbd zbd zle zle (by decide) (by first | exact hat | exact whole0 (by first | rfl | omega) | rfl) zln) ?_)))) | ((with_reducible refine cS ?_); (refine eT tabOk aL rfl rfl rfl rfl rfl rfl (by first | omega | exact Nat.le_of_ble_eq_true rfl | omega | (simp <;> omega)) ?_)) | refine stA ?_ | refine stD ?_ | ((first | refine hK _ _ _ _ ?_ | refine hX _ _ _ _ _ (by simp) ?_); clear hK hX K))
            exact ⟨i + 1, by omega, by omega, (by refine bS [0, 1, 5] rfl rfl ?_ ?_ rfl rfl <;> (repeat' (first | exact bI | exact bJ | refine bF rfl (by first | rfl | (first | exact congrArg (fun x => AV.own 2 0 x 3 true) hqe | exact congrArg (AObj.row 106) hnx) | exact zeq) rfl ?_ | refine bB rfl uH dI ?_ | refine bB rfl (by first | rfl | (first | exact congrArg (fun x => AV.own 2 0 x 3 true) hqe | exact congrArg (AObj.row 106) hnx) | exact zeq) (by first | rfl | exact dI) ?_)))⟩
      · rw [if_neg hok] at hst
        have h0 : 0 < dk := by
          rw [← hdk]
          refine Nat.pos_of_ne_zero fun e => hok (.inl ?_)
          refine List.eq_nil_iff_forall_not_mem.2 fun w hw => ?_
          have := ((gI ws).2.1 w).2 hw
          rw [List.eq_nil_of_length_eq_zero e] at this
          cases this
        have hmno0 : MNo (.string ⟨x.w.toArray⟩) (tabG (wtab (dedW ws))) := wtab_no fun h => hok (.inr (((gI ws).2.1 x.w).1 h))
        rw [hst, hq] at hqs
        have hfe : fc (F i) = fc (F (i + 1)) := by rw [hst]
        have hpt : tabG (ptab (F i)) = tabG (ptab (F (i + 1))) := by rw [hst]
        clear hst hF hF0 hFn hFr hql hrow hcnt hx hq hok hp hN hxm hdk
        obtain ⟨xw, xr, xn⟩ := x
        simp only [Po.c] at *
        repeat' (first | ((with_reducible refine aB ?_); intro K hK hX) | ((with_reducible refine aC ?_); refine aD [0, 1, 4, 5, 7, 8, 9, 11, 12, 13, 14, 15, 17, 22, 23, 24, 32, 33, 34, 93, 94, 95] rfl rfl ?_) | ((with_reducible refine aF ?_); refine aG [0, 1, 4, 5, 7, 8, 9, 11, 12, 13, 14, 15, 17, 22, 23, 24, 32, 33, 34, 93, 94, 95] rfl rfl ?_; refine aI [] ?_) | ((with_reducible refine gZ ?_); refine xA ?_; refine aA (lO tabOk rfl rfl rfl rfl hlen0) ?_) | ((with_reducible refine lF ?_); refine xA ?_; refine aA (sN tabOk rfl rfl rfl zeroB rfl rfl rfl trivial hkeys0 hmno0) ?_) | ((first | ((with_reducible refine aH ?_); refine xA ?_) | ((with_reducible refine aO ?_); refine xD ?_)); (first | ((with_reducible refine aP ?_); (first | refine aA (aW tabOk rfl rfl rfl rfl (by first | exact hat | exact whole0 (by first | rfl | omega) | rfl) zln) ?_ | refine aA (aV tabOk rfl rfl rfl (by first | exact hat | exact whole0 (by first | rfl | omega) | rfl) zln) ?_)) | ((with_reducible refine bE ?_); (first | refine aA (s_slArri tabOk rfl rfl rfl rfl zbd zbd zle zle (by decide) (by first | exact hat | exact whole0 (by first | rfl | omega) | rfl) zln) ?_)))) | refine stA ?_ | refine stD ?_ | ((first | refine hK _ _ _ _ ?_ | refine hX _ _ _ _ _ (by simp) ?_); clear hK hX K))
        exact ⟨i + 1, by omega, by omega, (by refine bZ rfl ?_ ?_ rfl <;> (repeat' (first | exact bG | exact bM | refine aZ rfl (by first | rfl | (first | exact congrArg (fun x => AV.own 2 0 x 3 true) hqs | exact congrArg (AObj.row 106) hfe | exact congrArg AObj.tab hpt) | exact zeq) rfl ?_ | refine aY rfl (by first | rfl | (first | exact congrArg (fun x => AV.own 2 0 x 3 true) hqs | exact congrArg (AObj.row 106) hfe | exact congrArg AObj.tab hpt) | exact zeq) rfl ?_ | refine aY rfl (by first | rfl | (first | exact congrArg (fun x => AV.own 2 0 x 3 true) hqs | exact congrArg (AObj.row 106) hfe | exact congrArg AObj.tab hpt)) dI ?_)))⟩
    · have hie : i = n := by omega
      have hqn : (fnd ws p).length = q n := by rw [← hFn, hq]
      have hGr : ∀ m ∈ fnd ws p, rowP m.r ∧ m.c ≤ 100000 ∧ 1 ≤ m.n ∧ m.n ≤ 262144 := by rw [← hFn]; exact hFr n
      have hqn2 := hql n (Nat.le_refl _)
      have hsel : srchL p ws = selE dk (fnd ws p) := by rw [← hdk]; rfl
      rw [hie] at hLl ⊢
      rw [hFn] at hLl ⊢
      clear hF hF0 hFn hFr hql hq hq0 hcnt hlt hie hi hqi h1
      obtain ⟨Q, hQ⟩ : ∃ Q, q n = Q := ⟨_, rfl⟩
      rw [hQ] at hqn hqn2 hLl ⊢
      clear hQ
      obtain ⟨G, hG⟩ : ∃ G, fnd ws p = G := ⟨_, rfl⟩
      rw [hG] at hqn hGr hsel hLl ⊢
      obtain ⟨g, hg⟩ : ∃ g : Nat → Nat, ∀ i, (selE dk (G.take i)).length = g i := ⟨_, fun _ => rfl⟩
      have hg0 : g 0 = 0 := by rw [← hg]; rfl
      have hgl : ∀ i, g i ≤ 100000 := fun i => by
        have := wW dk (G.take i)
        rw [hg, List.length_take] at this
        omega
      have hgQ : selE dk (G.take Q) = srchL p ws := by rw [hsel, List.take_of_length_le (by omega)]
      have hNL : (srchL p ws).length = N := by rw [← hN]; exact ((fO p ws).length_eq).symm
      have hgN : g Q = N := by rw [← hg, hgQ, hNL]
      have hN6 : N ≤ 1000000 := by rw [← hgN]; have := hgl Q; omega
      repeat' (first | ((with_reducible refine aB ?_); intro K hK hX) | ((with_reducible refine aC ?_); refine aD [0, 1, 4, 5, 7, 8, 9, 11, 12, 13, 14, 15, 17, 22, 23, 24, 32, 33, 34, 93, 94, 95] rfl rfl ?_) | ((with_reducible refine aF ?_); refine aG [0, 1, 4, 5, 7, 8, 9, 11, 12, 13, 14, 15, 17, 22, 23, 24, 32, 33, 34, 93, 94, 95] rfl rfl ?_; refine aI [] ?_) | refine stA ?_ | refine stD ?_ | ((first | refine hK _ _ _ _ ?_ | refine hX _ _ _ _ _ (by simp) ?_); clear hK hX K))
      refine dK 15 68 2 rfl ?_
      refine bC [95, 15, 17] [3] rfl rfl (fun i : Nat => [(95, .c (iv i)), (15, .own 3 0 (g i) 2 true)]) (fun i => [(3, .row 68 (ec (selE dk (G.take i))))]) (fun i => i ≤ Q) (fun i => Q - i) 0 (Nat.zero_le _) (by (try dsimp only); rw [hg0]; exact (by refine bZ rfl ?_ ?_ rfl <;> (repeat' (first | exact bG | exact bM | refine aZ rfl (by first | rfl | (fail) | exact zeq) rfl ?_ | refine aY rfl (by first | rfl | (fail) | exact zeq) rfl ?_ | refine aY rfl (by first | rfl | (fail)) dI ?_)))) ?_
      clear i
      intro i hi K hK hX
      have hgi := hgl i
      have hEl : (ec (selE dk (G.take i))).length = g i * 2 := by rw [bH, hg]
      by_cases hlt : i < Q
      · obtain ⟨m, hm⟩ : ∃ m, G[i]? = some m := ⟨_, List.getElem?_eq_getElem (by omega)⟩
        have hat3 := fc_at hm
        rw [← Nat.zero_add (i * 3)] at hat3
        obtain ⟨hmr, hmc, hmn1, hmn2⟩ := hGr m (List.mem_of_getElem? hm)
        have hst := selE_step (k := dk) hm
        have hgs := hg (i + 1)
        have hcl2 := mX m.r m.r.length rfl (by have := hmr.1; omega)
        by_cases hge : dk ≤ m.c
        · rw [if_pos hge] at hst
          rw [hst, List.length_append, hg] at hgs
          have hge2 : g i + 1 = g (i + 1) := hgs
          have hnx : ec (selE dk (G.take i)) ++ [[.sl 3 m.r.length (rc m.r), iv m.n]].flatten = ec (selE dk (G.take (i + 1))) := by rw [hst, iW]; rfl
          clear hst hg hg0 hgl hgQ hNL hgN hGr hsel hG hN hp hrow hm hgs
          generalize ec (selE dk (G.take i)) = L at *
          obtain ⟨mr, mc, mn⟩ := m
          simp only [Mt.cc] at *
          repeat' (first | ((with_reducible refine aB ?_); intro K hK hX) | ((with_reducible refine aC ?_); refine aD [0, 1, 4, 5, 7, 8, 9, 11, 12, 13, 14, 15, 17, 22, 23, 24, 32, 33, 34, 93, 94, 95] rfl rfl ?_) | ((with_reducible refine aF (i := 30) ?_); refine aG [0, 1, 4, 5, 7, 8, 9, 11, 12, 13, 14, 15, 17, 22, 23, 24, 32, 33, 34, 93, 94, 95] rfl rfl ?_; refine cJ [] ?_) | ((with_reducible refine aF ?_); refine aG [0, 1, 4, 5, 7, 8, 9, 11, 12, 13, 14, 15, 17, 22, 23, 24, 32, 33, 34, 93, 94, 95] rfl rfl ?_; refine aI [] ?_) | ((with_reducible refine gZ ?_); refine xA ?_; refine aA (lO tabOk rfl rfl rfl rfl hlen0) ?_) | ((first | with_reducible refine aE ?_ | with_reducible refine aT ?_ | with_reducible refine bW ?_); (first | refine zA ?_ | refine zN ?_ | refine zD ?_ | refine zE ?_); (first | refine c0 hcl2 ?_)) | ((first | ((with_reducible refine aH ?_); refine xA ?_) | ((with_reducible refine aO ?_); refine xD ?_) | ((with_reducible refine cN ?_); refine xE ?_)); (first | ((with_reducible refine aP ?_); (first | refine aA (aW tabOk rfl rfl rfl rfl (by first | exact hat3 | exact whole0 (by first | rfl | omega) | rfl) zln) ?_ | refine aA (aV tabOk rfl rfl rfl (by first | exact hat3 | exact whole0 (by first | rfl | omega) | rfl) zln) ?_)) | ((with_reducible refine bE ?_); (first | refine aA (s_slArri tabOk rfl rfl rfl rfl zbd zbd zle zle (by decide) (by first | exact hat3 | exact whole0 (by first | rfl | omega) | rfl) zln) ?_)))) | refine stA ?_ | refine stD ?_ | refine stE ?_ | ((first | refine hK _ _ _ _ ?_ | refine hX _ _ _ _ _ (by simp) ?_); clear hK hX K))
          exact ⟨i + 1, by omega, by omega, (by refine bS [0, 1, 2, 6] rfl rfl ?_ ?_ rfl rfl <;> (repeat' (first | exact bI | exact bJ | refine bF rfl (by first | rfl | (first | exact congrArg (fun x => AV.own 3 0 x 2 true) hge2 | exact congrArg (AObj.row 68) hnx) | exact zeq) rfl ?_ | refine bB rfl uH dI ?_ | refine bB rfl (by first | rfl | (first | exact congrArg (fun x => AV.own 3 0 x 2 true) hge2 | exact congrArg (AObj.row 68) hnx) | exact zeq) (by first | rfl | exact dI) ?_)))⟩
        · rw [if_neg hge] at hst
          rw [hst, hg] at hgs
          have hnx : ec (selE dk (G.take i)) = ec (selE dk (G.take (i + 1))) := by rw [hst]
          clear hst hg hg0 hgl hgQ hNL hgN hGr hsel hG hN hp hrow hm
          generalize ec (selE dk (G.take i)) = L at *
          obtain ⟨mr, mc, mn⟩ := m
          simp only [Mt.cc] at *
          repeat' (first | ((with_reducible refine aB ?_); intro K hK hX) | ((with_reducible refine aC ?_); refine aD [0, 1, 4, 5, 7, 8, 9, 11, 12, 13, 14, 15, 17, 22, 23, 24, 32, 33, 34, 93, 94, 95] rfl rfl ?_) | ((with_reducible refine aF ?_); refine aG [0, 1, 4, 5, 7, 8, 9, 11, 12, 13, 14, 15, 17, 22, 23, 24, 32, 33, 34, 93, 94, 95] rfl rfl ?_; refine aI [] ?_) | ((with_reducible refine gZ ?_); refine xA ?_; refine aA (lO tabOk rfl rfl rfl rfl hlen0) ?_) | ((first | ((with_reducible refine aH ?_); refine xA ?_) | ((with_reducible refine aO ?_); refine xD ?_)); (first | ((with_reducible refine aP ?_); (first | refine aA (aW tabOk rfl rfl rfl rfl (by first | exact hat3 | exact whole0 (by first | rfl | omega) | rfl) zln) ?_ | refine aA (aV tabOk rfl rfl rfl (by first | exact hat3 | exact whole0 (by first | rfl | omega) | rfl) zln) ?_)) | ((with_reducible refine bE ?_); (first | refine aA (s_slArri tabOk rfl rfl rfl rfl zbd zbd zle zle (by decide) (by first | exact hat3 | exact whole0 (by first | rfl | omega) | rfl) zln) ?_)))) | refine stA ?_ | refine stD ?_ | ((first | refine hK _ _ _ _ ?_ | refine hX _ _ _ _ _ (by simp) ?_); clear hK hX K))
          exact ⟨i + 1, by omega, by omega, (by refine bZ rfl ?_ ?_ rfl <;> (repeat' (first | exact bG | exact bM | refine aZ rfl (by first | rfl | (first | exact congrArg (fun x => AV.own 3 0 x 2 true) hgs | exact congrArg (AObj.row 68) hnx) | exact zeq) rfl ?_ | refine aY rfl (by first | rfl | (first | exact congrArg (fun x => AV.own 3 0 x 2 true) hgs | exact congrArg (AObj.row 68) hnx) | exact zeq) rfl ?_ | refine aY rfl (by first | rfl | (first | exact congrArg (fun x => AV.own 3 0 x 2 true) hgs | exact congrArg (AObj.row 68) hnx)) dI ?_)))⟩
      · have hie : i = Q := by omega
        rw [hie] at hEl ⊢
        rw [hgQ, hgN] at hEl ⊢
        have hPl : (ec (srchP p ws)).length = N * 2 := by rw [bH, hN]
        clear hg hg0 hgl hgQ hgN hGr hsel hgi
        by_cases h0 : N = 0
        · have hL0 : srchL p ws = [] := List.eq_nil_of_length_eq_zero (hNL.trans h0)
          have hP0 : srchP p ws = [] := List.eq_nil_of_length_eq_zero (hN.trans h0)
          have hee : ec (srchL p ws) = ec (srchP p ws) := by rw [hL0, hP0]
          rw [hee]
          clear hL0 hP0 hee hEl hNL hN hp hrow hG
          repeat' (first | ((with_reducible refine aB ?_); intro K hK hX) | ((with_reducible refine aC ?_); refine aD [0, 1, 4, 5, 7, 8, 9, 11, 12, 13, 14, 15, 17, 22, 23, 24, 32, 33, 34, 93, 94, 95] rfl rfl ?_) | ((with_reducible refine aF ?_); refine aG [0, 1, 4, 5, 7, 8, 9, 11, 12, 13, 14, 15, 17, 22, 23, 24, 32, 33, 34, 93, 94, 95] rfl rfl ?_; refine aI [] ?_) | (refine tC zZ aL rfl zby h0 rfl rfl ?_) | refine stA ?_ | refine stD ?_ | ((first | refine hK _ _ _ _ ?_ | refine hX _ _ _ _ _ (by simp) ?_); clear hK hX K))
          refine aK zio (by exact ⟨tM, nF, trivial⟩) rfl (ResL.one (ResA.tmp rfl)) (oP rfl rfl)
        · have hac := sort_srch (ws := ws) hrow hNL (by omega) hN6
          clear hNL hN hp hrow hG
          repeat' (first | ((with_reducible refine aB ?_); intro K hK hX) | ((with_reducible refine aC ?_); refine aD [0, 1, 4, 5, 7, 8, 9, 11, 12, 13, 14, 15, 17, 22, 23, 24, 32, 33, 34, 93, 94, 95] rfl rfl ?_) | ((with_reducible refine aF ?_); refine aG [0, 1, 4, 5, 7, 8, 9, 11, 12, 13, 14, 15, 17, 22, 23, 24, 32, 33, 34, 93, 94, 95] rfl rfl ?_; refine aI [] ?_) | (refine yJ hac aL rfl zby (by omega) rfl rfl rfl rfl ?_) | refine stA ?_ | refine stD ?_ | ((first | refine hK _ _ _ _ ?_ | refine hX _ _ _ _ _ (by simp) ?_); clear hK hX K))
          refine aK zio (by exact ⟨tM, nF, trivial⟩) rfl (ResL.one (ResA.tmp rfl)) (oP rfl rfl)
theorem zJ (p : List Po) (n : Nat) (ws : List Wd) (k : Nat) (hn : p.length = n) (hm : n ≤ 100000) (hk : ws.length = k) (hk2 : k ≤ 100000) (hv : valP p) (N : Nat) (hN : (srchP p ws).length = N) : AC Tryz.prog 36 [.sl 3 n (pc p), .sl 1 k (strc ws)] (.c (.sl 2 N (ec (srchP p ws)))) [] 0 := by
  have hPl : (ec (srchP p ws)).length = N * 2 := by rw [bH, hN]
  exact AC.outT (vY p n ws k hn hm hk hk2 hv N hN) (cE (cD rfl rfl hPl))
end Go.Proofs.YtccnhpaldmjkbaaGreat
