/-
  Joined texts: JA. Lemmas; no statement of a law.
-/
import Derived.Test.YtccnhpaldmjkbaaGreatM12
import Derived.Test.YtccnhpaldmjkbaaGreatM26
set_option linter.unusedSimpArgs false
set_option linter.unusedVariables false
/-
  The reference's list of postings, a posting that is there already added to (walk).
-/
namespace Go.Proofs.YtccnhpaldmjkbaaGreat
open Go Go.RowKit Go.Av
set_option maxRecDepth 100000
theorem pc_set : ∀ {l : List Po} {k : Nat} {y : Po} (s : Int), l[k]? = some y → (pc l).set (k * 3 + 2) (iv s) = pc (l.set k ⟨y.w, y.r, s⟩)
  | [], k, y, s, h => by simp at h
  | z :: l, 0, y, s, h => by
    simp at h
    subst h
    rfl
  | z :: l, k + 1, y, s, h => by
    have ih := pc_set (l := l) (k := k) s (by simpa using h)
    have e : pc (z :: l) = [sv z.w, .sl 3 z.r.length (rc z.r), iv z.n] ++ pc l := rfl
    rw [e, show (k + 1) * 3 + 2 = (k * 3 + 2) + 3 by omega]
    simp only [List.cons_append, List.nil_append, List.set_cons_succ, ih]
    rfl
theorem pc_take (l : List Po) (k : Nat) : (pc l).take (k * 3) = pc (l.take k) := by
  by_cases hk : k ≤ l.length
  · have e : pc l = pc (l.take k) ++ pc (l.drop k) := by rw [← iS, List.take_append_drop]
    have h1 : (pc (l.take k)).length = k * 3 := by rw [bF, List.length_take]; omega
    rw [e, ← h1, List.take_left]
  · rw [List.take_of_length_le (by rw [bF]; omega), List.take_of_length_le (by omega)]
theorem pc_drop (l : List Po) (k : Nat) : (pc l).drop (k * 3) = pc (l.drop k) := by
  by_cases hk : k ≤ l.length
  · have e : pc l = pc (l.take k) ++ pc (l.drop k) := by rw [← iS, List.take_append_drop]
    have h1 : (pc (l.take k)).length = k * 3 := by rw [bF, List.length_take]; omega
    rw [e, ← h1, List.drop_left]
  · rw [List.drop_eq_nil_of_le (by rw [bF]; omega), List.drop_eq_nil_of_le (by omega)]; rfl
attribute [local irreducible] Still Adds AWL AW Drw DrwE EStep AC AWR Weak Frz Src RetK Out InK ItK AsK RdK
set_option maxHeartbeats 8000000 in
theorem raddM_ok (l : List Po) (x : Po) (n : Nat) (hn : l.length = n) (hm : n ≤ 2000000) (hfl : ∀ y ∈ l, y.r.length ≤ maxLen) (hfx : x.r.length ≤ maxLen) (hb : ∀ y ∈ l, -4000000000000000000 ≤ y.n ∧ y.n ≤ 4000000000000000000) (hbx : -4000000000000000000 ≤ x.n ∧ x.n ≤ 4000000000000000000) (y0 : Po) (hy0 : l[idxP l x]? = some y0) (hmeet : cmpP y0 x = 0) : AC Tryz.prog 107 [.sl 3 n (pc l), .agg x.c] (.c (.sl 3 (addR l x).length (pc (addR l x)))) [] 0 := by
  have hset := fun h => addR_set hy0 hmeet h
  have hcut := fun h => addR_cut hy0 hmeet h
  have hlt0 : ∀ j y, j < idxP l x → l[j]? = some y → cmpP y x < 0 := fun j y hj hy => idxP_lt hj hy
  obtain ⟨k, hk⟩ : ∃ k, idxP l x = k := ⟨_, rfl⟩
  rw [hk] at hy0 hset hcut hlt0
  have hkn : k < n := by rw [← hn]; exact (List.getElem?_eq_some_iff.1 hy0).1
  have hcl : (pc l).length = n * 3 := by rw [bF, hn]
  obtain ⟨R, hR0⟩ : ∃ R, addR l x = R := ⟨_, rfl⟩
  rw [hR0] at hset hcut ⊢
  clear hk hR0
  refine aJ tabOk (sz := 73) Tryz.func107 rfl (by rw [Tryz.ntmps107]; rfl) ?_
  repeat' (first | ((with_reducible refine aD ?_); intro K hK hX) | ((with_reducible refine aE ?_); refine aA [0, 1, 3, 4, 5, 6] rfl rfl ?_; with_reducible refine aB ?_) | ((with_reducible refine aG ?_); refine aA [0, 1, 3, 4, 5, 6] rfl rfl ?_; refine aL [] ?_) | refine stA ?_ | refine stD ?_ | ((first | refine hK _ _ _ _ ?_ | refine hX _ _ _ _ _ (by simp) ?_); clear hK hX K))
  refine bD [5] [] rfl rfl (fun i : Nat => [(5, .c (iv i))]) (fun i => []) (fun i => i ≤ k) (fun i => k - i) 0 (Nat.zero_le _) weakA ?_
  intro i hi K hK hX
  by_cases hik : i < k
  · obtain ⟨y, hy⟩ : ∃ y, l[i]? = some y := ⟨_, List.getElem?_eq_getElem (by omega)⟩
    have hat := fF hy
    have hls := iA y x (hfl y (List.mem_of_getElem? hy)) hfx
    rw [decide_eq_true (hlt0 i y hik hy)] at hls
    clear hy hset hcut hlt0 hb hbx hmeet hy0
    obtain ⟨yw, yr, yn⟩ := y
    obtain ⟨xw, xr, xn⟩ := x
    simp only [Po.c] at *
    have hin : i < n := by omega
    repeat' (first | ((with_reducible refine aD ?_); intro K hK hX) | ((with_reducible refine aE ?_); refine aA [0, 1, 3, 4, 5, 6] rfl rfl ?_; with_reducible refine aB ?_) | ((with_reducible refine aG ?_); refine aA [0, 1, 3, 4, 5, 6] rfl rfl ?_; refine aL [] ?_) | ((first | with_reducible refine aF ?_ | with_reducible refine bC ?_); (first | refine zA ?_ | refine zN ?_ | refine zD ?_); (first | refine c0 (hls) ?_)) | ((first | ((with_reducible refine aI ?_); refine xA ?_) | ((with_reducible refine aP ?_); refine xD ?_)); (first | ((with_reducible refine aO ?_); (first | refine aC (aW tabOk rfl rfl rfl rfl (by first | exact hat | exact whole0 (by first | rfl | omega) | rfl) zln) ?_ | refine aC (aV tabOk rfl rfl rfl (by first | exact hat | exact whole0 (by first | rfl | omega) | rfl) zln) ?_)) | ((with_reducible refine bB ?_); (first | refine aC (s_slArri tabOk rfl rfl rfl rfl zbd zbd zle zle (by decide) (by first | exact hat | exact whole0 (by first | rfl | omega) | rfl) zln) ?_)))) | refine stA ?_ | refine stD ?_ | ((first | refine hK _ _ _ _ ?_ | refine hX _ _ _ _ _ (by simp) ?_); clear hK hX K))
    exact ⟨i + 1, by omega, by omega, weakA⟩
  · have hie : i = k := by omega
    rw [hie]
    have hat := fF hy0
    have hn0 := pc_n hy0
    rw [← Nat.zero_add (k * 3)] at hn0
    have h2 := gc_P.anti x y0
    have hls := iA y0 x (hfl y0 (List.mem_of_getElem? hy0)) hfx
    rw [decide_eq_false (by omega)] at hls
    have hgr := iA x y0 hfx (hfl y0 (List.mem_of_getElem? hy0))
    rw [decide_eq_false (by omega)] at hgr
    obtain ⟨b1, b2⟩ := hb y0 (List.mem_of_getElem? hy0)
    obtain ⟨b3, b4⟩ := hbx
    have hps := pc_set (y0.n + x.n) hy0
    rw [← Nat.zero_add (k * 3)] at hps
    by_cases hs : y0.n + x.n = 0
    · have hR := hcut hs
      have hL0 : ((pc l).set (0 + k * 3 + 2) (iv (y0.n + x.n)))[0 + k * 3 + 2]? = some (iv 0) := by rw [hs, List.getElem?_set_self (by omega)]
      have hLl : ((pc l).set (0 + k * 3 + 2) (iv (y0.n + x.n))).length = n * 3 := by rw [List.length_set, hcl]
      have hshift : ((pc l).set (0 + k * 3 + 2) (iv (y0.n + x.n))).take (k * 3) ++ (((pc l).set (0 + k * 3 + 2) (iv (y0.n + x.n))).drop (0 + (k + 1) * 3)).take ((0 + n - (k + 1)) * 3) = pc R := by
        rw [hps, Nat.zero_add n, Nat.zero_add ((k + 1) * 3), pc_take, pc_drop, hR, iS, List.take_of_length_le (l := pc _) (by rw [bF, List.length_drop, List.length_set]; omega)]
        congr 2
        · rw [List.take_set_of_le (by omega)]
        · rw [List.drop_set_of_lt (by omega)]
      have hRl : R.length = k + (0 + n - (k + 1)) := by rw [hR, List.length_append, List.length_take, List.length_drop]; omega
      have hposx : 0 < ((pc l).set (0 + k * 3 + 2) (iv (y0.n + x.n))).length := by omega
      have hoffx : 0 + (k + 1) * 3 + (0 + n - (k + 1)) * 3 ≤ ((pc l).set (0 + k * 3 + 2) (iv (y0.n + x.n))).length := by omega
      have hikx : (k + (0 + n - (k + 1))) * 3 ≤ ((pc l).set (0 + k * 3 + 2) (iv (y0.n + x.n))).length := by omega
      have hRp : (pc R).length = (k + (0 + n - (k + 1))) * 3 := by rw [bF, hRl]
      clear hset hcut hlt0 hb hmeet hy0 hfl hfx hik hi hps hR h2
      obtain ⟨yw, yr, yn⟩ := y0
      obtain ⟨xw, xr, xn⟩ := x
      simp only [Po.c] at *
      repeat' (first | ((with_reducible refine aD ?_); intro K hK hX) | ((with_reducible refine aE ?_); refine aA [0, 1, 3, 4, 5, 6] rfl rfl ?_; with_reducible refine aB ?_) | ((with_reducible refine gZ ?_); refine gX aH (iU rfl) ?_) | ((with_reducible refine aG (i := 9) ?_); refine aA [0, 1, 3, 4, 5, 6] rfl rfl ?_; refine cK [] ?_) | ((with_reducible refine aG ?_); refine aA [0, 1, 3, 4, 5, 6] rfl rfl ?_; refine aL [] ?_) | ((with_reducible refine isE_bi ?_); refine d_shift tabOk aH rfl rfl rfl rfl rfl rfl rfl rfl rfl rfl (by exact hposx) (by exact hoffx) (by exact hikx) hshift rfl ?_) | ((first | with_reducible refine aF ?_ | with_reducible refine bC ?_ | with_reducible refine bU ?_); (first | refine zA ?_ | refine zN ?_ | refine zD ?_ | refine zE ?_); (first | refine c0 (hls) ?_ | refine c0 (hgr) ?_)) | ((first | ((with_reducible refine aI ?_); refine xA ?_) | ((with_reducible refine aP ?_); refine xD ?_) | ((with_reducible refine cP ?_); refine xE ?_)); (first | ((with_reducible refine aO ?_); (first | refine aC (aT tabOk rfl rfl rfl rfl (by first | exact hn0 | exact hL0)) ?_ | refine aC (aN tabOk rfl rfl rfl rfl (by first | exact hn0 | exact hL0)) ?_ | refine aC (aM tabOk rfl rfl rfl (by first | exact hn0 | exact hL0)) ?_ | refine aC (aW tabOk rfl rfl rfl rfl (by first | exact hat | exact whole0 (by first | rfl | omega) | rfl) zln) ?_ | refine aC (aV tabOk rfl rfl rfl (by first | exact hat | exact whole0 (by first | rfl | omega) | rfl) zln) ?_)) | ((with_reducible refine bX ?_); (first | refine aC (s_ixV1 tabOk rfl rfl zcj rfl rfl rfl rfl rfl zle (by first | exact hn0 | exact hL0)) ?_ | refine aC (aS tabOk rfl rfl zcj rfl rfl (by first | exact hn0 | exact hL0)) ?_)) | ((with_reducible refine bB ?_); (first | refine aC (s_slArri tabOk rfl rfl rfl rfl zbd zbd zle zle (by decide) (by first | exact hat | exact whole0 (by first | rfl | omega) | rfl) zln) ?_)))) | ((with_reducible refine dB ?_); (refine fP tabOk aH rfl rfl rfl rfl rfl rfl (by first | omega | exact Nat.le_of_ble_eq_true rfl | omega | (simp <;> omega)) ?_)) | (refine fX (by kernel_rfl) (by kernel_rfl) (by kernel_rfl) (by kernel_rfl) rfl ?_) | refine stA ?_ | refine stD ?_ | refine stE ?_ | ((first | refine hK _ _ _ _ ?_ | refine hX _ _ _ _ _ (by simp) ?_); clear hK hX K))
      refine aK zio ztr rfl (ResL.one (ResA.tmp rfl)) (cX (bS (cB rfl rfl hRp) (cV hRl.symm rfl)))
    · have hR := hset hs
      have hLs : ((pc l).set (0 + k * 3 + 2) (iv (y0.n + x.n)))[0 + k * 3 + 2]? = some (iv (y0.n + x.n)) := by rw [List.getElem?_set_self (by omega)]
      have hRl : 0 + n = R.length := by rw [hR, List.length_set, hn, Nat.zero_add]
      have hRc : (pc l).set (0 + k * 3 + 2) (iv (y0.n + x.n)) = pc R := by rw [hR]; exact hps
      have hLl : ((pc l).set (0 + k * 3 + 2) (iv (y0.n + x.n))).length = (0 + n) * 3 := by rw [List.length_set, hcl, Nat.zero_add]
      clear hset hcut hlt0 hb hmeet hy0 hfl hfx hik hi hps hR h2
      obtain ⟨yw, yr, yn⟩ := y0
      obtain ⟨xw, xr, xn⟩ := x
      simp only [Po.c] at *
      repeat' (first | ((with_reducible refine aD ?_); intro K hK hX) | ((with_reducible refine aE ?_); refine aA [0, 1, 3, 4, 5, 6] rfl rfl ?_; with_reducible refine aB ?_) | ((with_reducible refine aG ?_); refine aA [0, 1, 3, 4, 5, 6] rfl rfl ?_; refine aL [] ?_) | ((first | with_reducible refine aF ?_ | with_reducible refine bC ?_); (first | refine zA ?_ | refine zN ?_ | refine zD ?_); (first | refine c0 (hls) ?_ | refine c0 (hgr) ?_)) | ((first | ((with_reducible refine aI ?_); refine xA ?_) | ((with_reducible refine aP ?_); refine xD ?_)); (first | ((with_reducible refine aO ?_); (first | refine aC (aT tabOk rfl rfl rfl rfl (by first | exact hn0 | exact hLs)) ?_ | refine aC (aN tabOk rfl rfl rfl rfl (by first | exact hn0 | exact hLs)) ?_ | refine aC (aM tabOk rfl rfl rfl (by first | exact hn0 | exact hLs)) ?_ | refine aC (aW tabOk rfl rfl rfl rfl (by first | exact hat | exact whole0 (by first | rfl | omega) | rfl) zln) ?_ | refine aC (aV tabOk rfl rfl rfl (by first | exact hat | exact whole0 (by first | rfl | omega) | rfl) zln) ?_)) | ((with_reducible refine bX ?_); (first | refine aC (s_ixV1 tabOk rfl rfl zcj rfl rfl rfl rfl rfl zle (by first | exact hn0 | exact hLs)) ?_ | refine aC (aS tabOk rfl rfl zcj rfl rfl (by first | exact hn0 | exact hLs)) ?_)) | ((with_reducible refine bB ?_); (first | refine aC (s_slArri tabOk rfl rfl rfl rfl zbd zbd zle zle (by decide) (by first | exact hat | exact whole0 (by first | rfl | omega) | rfl) zln) ?_)))) | ((with_reducible refine dB ?_); (refine fP tabOk aH rfl rfl rfl rfl rfl rfl (by first | omega | exact Nat.le_of_ble_eq_true rfl | omega | (simp <;> omega)) ?_)) | refine stA ?_ | refine stD ?_ | ((first | refine hK _ _ _ _ ?_ | refine hX _ _ _ _ _ (by simp) ?_); clear hK hX K))
      refine aK zio ztr rfl (ResL.one (ResA.tmp rfl)) (cX (bS (cB rfl rfl hLl) (cV hRl hRc)))
theorem padd_ok (l : List Po) (x : Po) (n : Nat) (hn : l.length = n) (hm : n ≤ 2000000) (hfl : ∀ y ∈ l, y.r.length ≤ maxLen) (hfx : x.r.length ≤ maxLen) (hb : ∀ y ∈ l, -4000000000000000000 ≤ y.n ∧ y.n ≤ 4000000000000000000) (hbx : -4000000000000000000 ≤ x.n ∧ x.n ≤ 4000000000000000000) : AC Tryz.prog 107 [.sl 3 n (pc l), .agg x.c] (.c (.sl 3 (addR l x).length (pc (addR l x)))) [] 0 := by
  by_cases h : ∃ y0, l[idxP l x]? = some y0 ∧ cmpP y0 x = 0
  · obtain ⟨y0, h1, h2⟩ := h
    exact raddM_ok l x n hn hm hfl hfx hb hbx y0 h1 h2
  · exact raddP_ok l x n hn hm hfl hfx fun y hy h0 => h ⟨y, hy, h0⟩
end Go.Proofs.YtccnhpaldmjkbaaGreat
