/-
  Joined texts: JT. Lemmas; no statement of a law.
-/
import Derived.Test.YtccnhpaldmjkbaaGreatQ38
set_option maxHeartbeats 16000000
set_option linter.unusedSimpArgs false
set_option linter.unusedVariables false
namespace Go.Proofs.YtccnhpaldmjkbaaGreat
open Go Go.RowKit Go.Av
set_option maxRecDepth 100000
theorem slE {a b : Nat} {l m : List En} (h : l = m) (ha : l.length = a) (hb : m.length = b) : AV.c (.sl 2 a (ec l)) = AV.c (.sl 2 b (ec m)) := by subst h; rw [← ha, ← hb]
attribute [local irreducible] Still Adds AWL AW Drw DrwE EStep AC AWR Weak Frz Src RetK Out InK ItK AsK RdK
open Classical in
theorem wS (p : List Po) (n : Nat) (ws : List Wd) (k : Nat) (hn : p.length = n) (hm : n ≤ maxLen) (hk : ws.length = k) (hf : ∀ x ∈ p, x.r.length ≤ maxLen ∧ x.w.length ≤ 1000000) (hv : ¬ valP p) : AC Tryz.prog 37 [.sl 3 n (pc p), .sl 1 k (strc ws)] (.c (.sl 2 0 [])) [] 0 := by
  have h1 := kA p n hn hm hf
  rw [decide_eq_false hv] at h1
  refine aJ tabOk (sz := 82) Tryz.func37 rfl (by rw [Tryz.ntmps37]; rfl) ?_
  repeat' (first | ((with_reducible refine aB ?_); intro K hK hX) | ((with_reducible refine aC ?_); refine aD [0, 1, 4, 5, 6, 7, 8, 9, 10] rfl rfl ?_) | ((with_reducible refine aF ?_); refine aG [0, 1, 4, 5, 6, 7, 8, 9, 10] rfl rfl ?_; refine aI [] ?_) | ((first | with_reducible refine aE ?_ | with_reducible refine aT ?_); (first | refine zA ?_ | refine zN ?_ | refine zD ?_); (first | refine c0 h1 ?_)) | refine stA ?_ | refine stD ?_ | ((first | refine hK _ _ _ _ ?_ | refine hX _ _ _ _ _ (by simp) ?_); clear hK hX K))
  refine aK zio ztr rfl (ResL.one (ResA.tmp rfl)) zou
open Classical in
theorem zU (p : List Po) (n : Nat) (ws : List Wd) (k : Nat) (hn : p.length = n) (hm : n ≤ 100000) (hk : ws.length = k) (hk2 : k ≤ 100000) (hv : valP p) (N : Nat) (hN : (srchP p ws).length = N) : AC Tryz.prog 37 [.sl 3 n (pc p), .sl 1 k (strc ws)] (.c (.sl 2 N (ec (srchP p ws)))) [] 0 := by
  obtain ⟨hp, hall⟩ := gL hv
  have ho : ∀ x ∈ p, ∀ v ∈ x.r, okP v := fun x hx => (hall x hx).2.1.2
  have hr16 : ∀ x ∈ p, x.r.length ≤ maxLen := fun x hx => by have := (hall x hx).2.1.1; simp only [maxLen]; omega
  have h1 := kA p n hn (by simp only [maxLen]; omega) (fun x hx => by obtain ⟨a, b, _⟩ := hall x hx; have := a.2.1; have := b.1; simp only [maxLen]; omega)
  rw [decide_eq_true hv] at h1
  have hl := fun w => wO p n w hn (by omega) hv _ rfl
  have hlen : ∀ w, (lkP p w).length ≤ 100000 := fun w => by have := oK p w; omega
  have hwl : (strc ws).length = k := by rw [bU, hk]
  have hcl : (pc p).length = n * 3 := by rw [bQ, hn]
  by_cases h0 : k = 0
  · have hw0 : ws = [] := List.eq_nil_of_length_eq_zero (hk.trans h0)
    subst hw0
    have h2 := rrows_ok p n hn hm hr16 N (by rw [wQ hp ho]; exact hN)
    rw [wQ hp ho] at h2
    have hPl : (ec (srchP p [])).length = N * 2 := by rw [bH, hN]
    generalize ec (srchP p []) = R at *
    clear hl hlen hp hall ho hr16 hN hv
    refine aJ tabOk (sz := 82) Tryz.func37 rfl (by rw [Tryz.ntmps37]; rfl) ?_
    repeat' (first | ((with_reducible refine aB ?_); intro K hK hX) | ((with_reducible refine aC ?_); refine aD [0, 1, 4, 5, 6, 7, 8, 9, 10] rfl rfl ?_) | ((with_reducible refine aF ?_); refine aG [0, 1, 4, 5, 6, 7, 8, 9, 10] rfl rfl ?_; refine aI [] ?_) | ((first | with_reducible refine aE ?_ | with_reducible refine aT ?_); (first | refine zA ?_ | refine zN ?_ | refine zD ?_); (first | refine c0 h1 ?_ | refine c0 h2 ?_)) | refine stA ?_ | refine stD ?_ | ((first | refine hK _ _ _ _ ?_ | refine hX _ _ _ _ _ (by simp) ?_); clear hK hX K))
    refine aK zio ztr rfl (ResL.one (ResA.tmp rfl)) zou
  · obtain ⟨O, hO⟩ : ∃ O : Nat → List En, ∀ i, srchP p (ws.take i) = O i := ⟨_, fun _ => rfl⟩
    obtain ⟨q, hq⟩ : ∃ q : Nat → Nat, ∀ i, (O i).length = q i := ⟨_, fun _ => rfl⟩
    obtain ⟨w0, hw0⟩ : ∃ w0, ws[0]? = some w0 := ⟨_, List.getElem?_eq_getElem (by omega)⟩
    have hO1 : lkP p w0 = O 1 := by
      rw [← hO, lk_srch hp ho]
      congr 1
      rw [List.take_add_one, hw0]; rfl
    have hstep : ∀ i w, 1 ≤ i → ws[i]? = some w → bothM (O i) (lkP p w) = O (i + 1) := fun i w hi hw => by
      rw [← hO, ← hO, List.take_add_one, hw, Option.toList_some]
      refine srch_more hp ho (fun e => ?_) w
      have h2 := congrArg List.length e
      have h3 := (List.getElem?_eq_some_iff.1 hw).1
      rw [List.length_take, List.length_nil] at h2
      omega
    have hOo : ∀ i, ∀ e ∈ O i, ∀ v ∈ e.r, okP v := fun i => by rw [← hO]; exact uE hp ho
    have hOr : ∀ i, ∀ e ∈ O i, e.r.length ≤ maxLen := fun i e he => by
      rw [← hO] at he
      obtain ⟨x, hx, _⟩ := ((fN hp e).1 he).some
      obtain ⟨x1, _, x3⟩ := mine_mem.1 hx
      rw [← x3]; exact hr16 x x1
    have hBr : ∀ w, ∀ e ∈ lkP p w, e.r.length ≤ maxLen := fun w e he => by
      obtain ⟨x, x1, _, x3, _⟩ := lk_mem.1 he
      rw [← x3]; exact hr16 x x1
    have hBo := fun w => lk_ok ho w
    have hBs := fun w => zK hp w
    have hql : ∀ i, 1 ≤ i → i ≤ k → q i ≤ 100000 := fun i => by
      induction i with
      | zero => intro h; omega
      | succ i ih =>
        intro _ hik
        by_cases h1 : i = 0
        · rw [h1, ← hq, ← hO1]; exact hlen _
        · obtain ⟨w, hw⟩ : ∃ w, ws[i]? = some w := ⟨_, List.getElem?_eq_getElem (by omega)⟩
          rw [← hq, ← hstep i w (by omega) hw]
          exact Nat.le_trans (rM (hBs w) (hOo i) (hBo w)) (by rw [hq]; exact ih (by omega) (by omega))
    have hOk : O k = srchP p ws := by rw [← hO, List.take_of_length_le (by omega)]
    have hqk : q k = N := by rw [← hq, hOk, hN]
    have hrk : ec (O k) = ec (srchP p ws) := by rw [hOk]
    have hA1 := slE hO1 rfl (hq 1)
    have hl0 := hl w0
    have hws0 := eF hw0
    have hl00 := hlen w0
    have hcl0 : (ec (lkP p w0)).length = (lkP p w0).length * 2 := bH _
    generalize ec (srchP p ws) = R at hrk ⊢
    clear hOk hN hO hO1 hw0 hv hall hr16
    generalize (lkP p w0).length = l0 at *
    generalize ec (lkP p w0) = e0 at *
    refine aJ tabOk (sz := 82) Tryz.func37 rfl (by rw [Tryz.ntmps37]; rfl) ?_
    repeat' (first | ((with_reducible refine aB ?_); intro K hK hX) | ((with_reducible refine aC ?_); refine aD [0, 1, 4, 5, 6, 7, 8, 9, 10] rfl rfl ?_) | ((with_reducible refine aF ?_); refine aG [0, 1, 4, 5, 6, 7, 8, 9, 10] rfl rfl ?_; refine aI [] ?_) | ((first | with_reducible refine aE ?_ | with_reducible refine aT ?_); (first | refine zA ?_ | refine zN ?_ | refine zD ?_); (first | refine c0 h1 ?_ | refine c0 hl0 ?_)) | ((first | ((with_reducible refine aH ?_); refine xA ?_) | ((with_reducible refine aO ?_); refine xD ?_)); (first | ((with_reducible refine aP ?_); (first | refine aA (aR tabOk rfl rfl rfl rfl (by first | exact hws0 | (rw [Nat.mul_one]; exact hws0))) ?_ | refine aA (aN tabOk rfl rfl rfl rfl (by first | exact hws0 | (rw [Nat.mul_one]; exact hws0))) ?_ | refine aA (aM tabOk rfl rfl rfl (by first | exact hws0 | (rw [Nat.mul_one]; exact hws0))) ?_)) | ((with_reducible refine bR ?_); (first | refine aA (s_ixV1 tabOk rfl rfl zcj rfl rfl rfl rfl rfl zle (by first | exact hws0 | (rw [Nat.mul_one]; exact hws0))) ?_ | refine aA (aQ tabOk rfl rfl zcj rfl rfl (by first | exact hws0 | (rw [Nat.mul_one]; exact hws0))) ?_)))) | refine stA ?_ | refine stD ?_ | ((first | refine hK _ _ _ _ ?_ | refine hX _ _ _ _ _ (by simp) ?_); clear hK hX K))
    refine bC [5, 6, 7, 8, 9, 10] [] rfl rfl (fun i : Nat => [(5, .c (.sl 2 (q i) (ec (O i)))), (6, .c (iv i))]) (fun i => []) (fun i => 1 ≤ i ∧ i ≤ k) (fun i => k - i) 1 ⟨Nat.le_refl _, by omega⟩ (by refine bZ rfl ?_ ?_ rfl <;> (repeat' (first | exact bG | exact bM | refine aZ rfl (by first | rfl | (exact hA1) | exact zeq) rfl ?_ | refine aY rfl (by first | rfl | (exact hA1) | exact zeq) rfl ?_))) ?_
    rintro i ⟨hi1, hi⟩ K hK hX
    have hqi := hql i hi1 hi
    have hLl : (ec (O i)).length = q i * 2 := by rw [bH, hq]
    by_cases hlt : i < k
    · obtain ⟨w, hw⟩ : ∃ w, ws[i]? = some w := ⟨_, List.getElem?_eq_getElem (by omega)⟩
      have hws := eF hw
      have hlw := hl w
      have hst := hstep i w hi1 hw
      have hlb := hlen w
      have hbl : (ec (lkP p w)).length = (lkP p w).length * 2 := bH _
      have hBr := hBr w
      have hBo := hBo w
      have hBs := hBs w
      have hAo := hOo i
      have hAr := hOr i
      have hAq := hq i
      have hq1 := hq (i + 1)
      obtain ⟨B, hB⟩ : ∃ B, lkP p w = B := ⟨_, rfl⟩
      rw [hB] at hlw hst hlb hbl hBr hBo hBs
      obtain ⟨b, hb⟩ : ∃ b, B.length = b := ⟨_, rfl⟩
      rw [hb] at hlw hlb hbl
      clear hstep hl hlen hOo hOr hw hA1 hl0 hws0 h1 hB hq hql hqk hrk
      generalize O i = A at *
      generalize q i = a at *
      repeat' (first | ((with_reducible refine aB ?_); intro K hK hX) | ((with_reducible refine aC ?_); refine aD [0, 1, 4, 5, 6, 7, 8, 9, 10] rfl rfl ?_) | ((with_reducible refine aF ?_); refine aG [0, 1, 4, 5, 6, 7, 8, 9, 10] rfl rfl ?_; refine aI [] ?_) | ((first | with_reducible refine aE ?_ | with_reducible refine aT ?_); (first | refine zA ?_ | refine zN ?_ | refine zD ?_); (first | refine c0 hlw ?_)) | ((first | ((with_reducible refine aH ?_); refine xA ?_) | ((with_reducible refine aO ?_); refine xD ?_)); (first | ((with_reducible refine aP ?_); (first | refine aA (aR tabOk rfl rfl rfl rfl (by first | exact hws | (rw [Nat.mul_one]; exact hws))) ?_ | refine aA (aN tabOk rfl rfl rfl rfl (by first | exact hws | (rw [Nat.mul_one]; exact hws))) ?_ | refine aA (aM tabOk rfl rfl rfl (by first | exact hws | (rw [Nat.mul_one]; exact hws))) ?_)) | ((with_reducible refine bR ?_); (first | refine aA (s_ixV1 tabOk rfl rfl zcj rfl rfl rfl rfl rfl zle (by first | exact hws | (rw [Nat.mul_one]; exact hws))) ?_ | refine aA (aQ tabOk rfl rfl zcj rfl rfl (by first | exact hws | (rw [Nat.mul_one]; exact hws))) ?_)))) | refine stA ?_ | refine stD ?_ | ((first | refine hK _ _ _ _ ?_ | refine hX _ _ _ _ _ (by simp) ?_); clear hK hX K))
      refine dK 8 68 2 rfl ?_
      obtain ⟨g, hg⟩ : ∃ g : Nat → Nat, ∀ j, (bothM (A.take j) B).length = g j := ⟨_, fun _ => rfl⟩
      have hg0 : g 0 = 0 := by rw [← hg]; rfl
      have hgl : ∀ j, g j ≤ 100000 := fun j => by
        have := rM (a := A.take j) hBs (fun f hf => hAo f (List.mem_of_mem_take hf)) hBo
        rw [hg, List.length_take] at this
        omega
      have hfin := slE (show bothM (A.take a) B = O (i + 1) by rw [List.take_of_length_le (by omega)]; exact hst) (hg a) hq1
      clear hst hq1 hBs hlw hBo
      refine bC [8, 9, 10] [0] rfl rfl (fun j : Nat => [(8, .own 0 0 (g j) 2 true), (9, .c (iv j))]) (fun j => [(0, .row 68 (ec (bothM (A.take j) B)))]) (fun j => j ≤ a) (fun j => a - j) 0 (Nat.zero_le _) (by (try dsimp only); rw [hg0]; exact weakA) ?_
      intro j hj K hK hX
      have hgj := hgl j
      have hDl : (ec (bothM (A.take j) B)).length = g j * 2 := by rw [bH, hg]
      by_cases hja : j < a
      · obtain ⟨e, he⟩ : ∃ e, A[j]? = some e := ⟨_, List.getElem?_eq_getElem (by omega)⟩
        have hae := dW he
        have han := lB he
        have her := hAr e (List.mem_of_getElem? he)
        obtain ⟨D, hD⟩ : ∃ D : Nat → List En, ∀ t, bothM (A.take j) B ++ bothK e (B.take t) = D t := ⟨_, fun _ => rfl⟩
        obtain ⟨d, hd⟩ : ∃ d : Nat → Nat, ∀ t, (D t).length = d t := ⟨_, fun _ => rfl⟩
        have hD0 : bothM (A.take j) B = D 0 := by rw [← hD]; simp [bothK]
        have hd0 : g j = d 0 := by rw [← hd, ← hD0, hg]
        have hBt : B.take b = B := List.take_of_length_le (by omega)
        have hDb : D b = bothM (A.take (j + 1)) B := by rw [← hD, hBt, ← yN he]
        have hdb : d b = g (j + 1) := by rw [← hd, hDb, hg]
        have hdl : ∀ t, d t ≤ 200000 := fun t => by
          have h1 : (bothK e (B.take t)).length ≤ b := by
            unfold bothK
            rw [List.length_map]
            refine Nat.le_trans (List.length_filter_le _ _) ?_
            rw [List.length_take]; omega
          rw [← hd, ← hD, List.length_append, hg]
          omega
        have hr0 : AObj.row 68 (ec (bothM (A.take j) B)) = AObj.row 68 (ec (D 0)) := by rw [← hD0]
        have hrb : AObj.row 68 (ec (D b)) = AObj.row 68 (ec (bothM (A.take (j + 1)) B)) := by rw [hDb]
        have hDs : ∀ t f, B[t]? = some f → D (t + 1) = if cmpR e.r f.r = 0 then D t ++ [⟨e.r, min e.n f.n⟩] else D t := fun t f hf => by
          rw [← hD, ← hD, yM hf]
          split
          · rw [List.append_assoc]
          · rfl
        clear hD hD0 hDb he hfin hAo hAr hgl hg
        repeat' (first | ((with_reducible refine aB ?_); intro K hK hX) | ((with_reducible refine aC ?_); refine aD [0, 1, 4, 5, 6, 7, 8, 9, 10] rfl rfl ?_) | ((with_reducible refine aF ?_); refine aG [0, 1, 4, 5, 6, 7, 8, 9, 10] rfl rfl ?_; refine aI [] ?_) | refine stA ?_ | refine stD ?_ | ((first | refine hK _ _ _ _ ?_ | refine hX _ _ _ _ _ (by simp) ?_); clear hK hX K))
        refine bC [8, 10] [0] rfl rfl (fun t : Nat => [(8, .own 0 0 (d t) 2 true), (10, .c (iv t))]) (fun t => [(0, .row 68 (ec (D t)))]) (fun t => t ≤ b) (fun t => b - t) 0 (Nat.zero_le _) (by refine bZ rfl ?_ ?_ rfl <;> (repeat' (first | exact bG | exact bM | refine aZ rfl (by first | rfl | (first | exact congrArg (fun x => AV.own 0 0 x 2 true) hd0 | exact hr0) | exact zeq) rfl ?_ | refine aY rfl (by first | rfl | (first | exact congrArg (fun x => AV.own 0 0 x 2 true) hd0 | exact hr0) | exact zeq) rfl ?_))) ?_
        intro t ht K hK hX
        have hdt := hdl t
        have hDl2 : (ec (D t)).length = d t * 2 := by rw [bH, hd]
        by_cases htb : t < b
        · obtain ⟨f, hf⟩ : ∃ f, B[t]? = some f := ⟨_, List.getElem?_eq_getElem (by omega)⟩
          have hbf := dW hf
          have hbn := lB hf
          have hfr := hBr f (List.mem_of_getElem? hf)
          have hc := fY e.r f.r e.r.length f.r.length rfl rfl her hfr
          have hDn := hDs t f hf
          have hdn := hd (t + 1)
          by_cases h0 : cmpR e.r f.r = 0
          · rw [if_pos h0] at hDn
            rw [hDn, List.length_append, hd] at hdn
            have hde : d t + 1 = d (t + 1) := hdn
            have hmin : (if f.n < e.n then f.n else e.n) = min e.n f.n := by rw [Int.min_def]; split <;> split <;> omega
            have hnx : ec (D t) ++ [.sl 3 e.r.length (rc e.r), iv (min e.n f.n)] = ec (D (t + 1)) := by rw [hDn, iW]; rfl
            clear hDn hdn hDs hd hdl hf hr0 hrb hd0 hdb
            generalize min e.n f.n = mn at *
            generalize cmpR e.r f.r = c at *
            generalize ec (D t) = L at *
            obtain ⟨er, en⟩ := e
            obtain ⟨fr, fn⟩ := f
            simp only at *
            repeat' (first | ((with_reducible refine aB ?_); intro K hK hX) | ((with_reducible refine aC ?_); refine aD [0, 1, 4, 5, 6, 7, 8, 9, 10] rfl rfl ?_) | ((with_reducible refine aF (i := 18) ?_); refine aG [0, 1, 4, 5, 6, 7, 8, 9, 10] rfl rfl ?_; refine cJ [] ?_) | ((with_reducible refine aF ?_); refine aG [0, 1, 4, 5, 6, 7, 8, 9, 10] rfl rfl ?_; refine aI [] ?_) | ((first | with_reducible refine aE ?_ | with_reducible refine aT ?_ | with_reducible refine bW ?_); (first | refine zA ?_ | refine zN ?_ | refine zD ?_ | refine zE ?_); (first | refine c0 hc ?_)) | ((first | ((with_reducible refine aH ?_); refine xA ?_) | ((with_reducible refine aO ?_); refine xD ?_) | ((with_reducible refine cN ?_); refine xE ?_)); (first | ((with_reducible refine rD ?_); (first | refine aA (kW rfl rfl hmin) ?_)) | ((with_reducible refine aP ?_); (first | refine aA (aR tabOk rfl rfl rfl rfl (by first | exact hae | exact han | exact hbf | exact hbn)) ?_ | refine aA (aN tabOk rfl rfl rfl rfl (by first | exact hae | exact han | exact hbf | exact hbn)) ?_ | refine aA (aM tabOk rfl rfl rfl (by first | exact hae | exact han | exact hbf | exact hbn)) ?_)) | ((with_reducible refine bR ?_); (first | refine aA (s_ixV1 tabOk rfl rfl zcj rfl rfl rfl rfl rfl zle (by first | exact hae | exact han | exact hbf | exact hbn)) ?_ | refine aA (aQ tabOk rfl rfl zcj rfl rfl (by first | exact hae | exact han | exact hbf | exact hbn)) ?_)))) | refine stA ?_ | refine stD ?_ | refine stE ?_ | ((first | refine hK _ _ _ _ ?_ | refine hX _ _ _ _ _ (by simp) ?_); clear hK hX K))
            exact ⟨t + 1, by omega, by omega, (by refine bS [2] rfl rfl ?_ ?_ rfl rfl <;> (repeat' (first | exact bI | exact bJ | refine bF rfl (by first | rfl | (first | exact congrArg (fun x => AV.own 0 0 x 2 true) hde | exact congrArg (AObj.row 68) hnx) | exact zeq) rfl ?_ | refine bB rfl (by first | rfl | (first | exact congrArg (fun x => AV.own 0 0 x 2 true) hde | exact congrArg (AObj.row 68) hnx) | exact zeq) rfl ?_)))⟩
          · rw [if_neg h0] at hDn
            rw [hDn, hd] at hdn
            have hnx : AObj.row 68 (ec (D t)) = AObj.row 68 (ec (D (t + 1))) := by rw [hDn]
            clear hDn hDs hd hdl hf hr0 hrb hd0 hdb
            generalize cmpR e.r f.r = c at *
            generalize ec (D t) = L at *
            obtain ⟨er, en⟩ := e
            obtain ⟨fr, fn⟩ := f
            simp only at *
            repeat' (first | ((with_reducible refine aB ?_); intro K hK hX) | ((with_reducible refine aC ?_); refine aD [0, 1, 4, 5, 6, 7, 8, 9, 10] rfl rfl ?_) | ((with_reducible refine aF ?_); refine aG [0, 1, 4, 5, 6, 7, 8, 9, 10] rfl rfl ?_; refine aI [] ?_) | ((first | with_reducible refine aE ?_ | with_reducible refine aT ?_); (first | refine zA ?_ | refine zN ?_ | refine zD ?_); (first | refine c0 hc ?_)) | ((first | ((with_reducible refine aH ?_); refine xA ?_) | ((with_reducible refine aO ?_); refine xD ?_)); (first | ((with_reducible refine aP ?_); (first | refine aA (aR tabOk rfl rfl rfl rfl (by first | exact hae | exact han | exact hbf | exact hbn)) ?_ | refine aA (aN tabOk rfl rfl rfl rfl (by first | exact hae | exact han | exact hbf | exact hbn)) ?_ | refine aA (aM tabOk rfl rfl rfl (by first | exact hae | exact han | exact hbf | exact hbn)) ?_)) | ((with_reducible refine bR ?_); (first | refine aA (s_ixV1 tabOk rfl rfl zcj rfl rfl rfl rfl rfl zle (by first | exact hae | exact han | exact hbf | exact hbn)) ?_ | refine aA (aQ tabOk rfl rfl zcj rfl rfl (by first | exact hae | exact han | exact hbf | exact hbn)) ?_)))) | refine stA ?_ | refine stD ?_ | ((first | refine hK _ _ _ _ ?_ | refine hX _ _ _ _ _ (by simp) ?_); clear hK hX K))
            exact ⟨t + 1, by omega, by omega, (by refine bZ rfl ?_ ?_ rfl <;> (repeat' (first | exact bG | exact bM | refine aZ rfl (by first | rfl | (first | exact congrArg (fun x => AV.own 0 0 x 2 true) hdn | exact hnx) | exact zeq) rfl ?_ | refine aY rfl (by first | rfl | (first | exact congrArg (fun x => AV.own 0 0 x 2 true) hdn | exact hnx) | exact zeq) rfl ?_)))⟩
        · have hte : t = b := by omega
          rw [hte]
          clear hDs hd hdl hr0 hd0
          repeat' (first | ((with_reducible refine aB ?_); intro K hK hX) | ((with_reducible refine aC ?_); refine aD [0, 1, 4, 5, 6, 7, 8, 9, 10] rfl rfl ?_) | ((with_reducible refine aF ?_); refine aG [0, 1, 4, 5, 6, 7, 8, 9, 10] rfl rfl ?_; refine aI [] ?_) | refine stA ?_ | refine stD ?_ | ((first | refine hK _ _ _ _ ?_ | refine hX _ _ _ _ _ (by simp) ?_); clear hK hX K))
          exact ⟨j + 1, by omega, by omega, (by refine bZ rfl ?_ ?_ rfl <;> (repeat' (first | exact bG | exact bM | refine aZ rfl (by first | rfl | (first | exact congrArg (fun x => AV.own 0 0 x 2 true) hdb | exact hrb) | exact zeq) rfl ?_ | refine aY rfl (by first | rfl | (first | exact congrArg (fun x => AV.own 0 0 x 2 true) hdb | exact hrb) | exact zeq) rfl ?_)))⟩
      · have hje : j = a := by omega
        rw [hje] at hDl ⊢
        clear hg hgl hAo hAr
        refine fQ (mO (E := [(9, .c (iv a)), (0, .c (.sl 3 n (pc p))), (1, .c (.sl 1 k (strc ws))), (4, .c (.v (.slice none 0 0))), (5, .c (.sl 2 a (ec A))), (6, .c (iv i)), (7, .c (.sl 2 b (ec B))), (8, .c (.sl 2 (g a) (ec (bothM (A.take a) B))))]) (Hp := []) (by repeat' (first | exact FzE.nil | refine FzE.cons rfl ?_ ?_ | exact iX | exact fz_ref rfl rfl | exact lZ rfl rfl zln | exact tI rfl rfl (by first | exact whole0 (by first | rfl | omega) | rfl) zln)) (by repeat' (first | exact trivial | refine ⟨rfl, ?_⟩))) ?_
        repeat' (first | ((with_reducible refine aB ?_); intro K hK hX) | ((with_reducible refine aC ?_); refine aD [0, 1, 4, 5, 6, 7, 8, 9, 10] rfl rfl ?_) | ((with_reducible refine aF ?_); refine aG [0, 1, 4, 5, 6, 7, 8, 9, 10] rfl rfl ?_; refine aI [] ?_) | refine stA ?_ | refine stD ?_ | ((first | refine hK _ _ _ _ ?_ | refine hX _ _ _ _ _ (by simp) ?_); clear hK hX K))
        exact ⟨i + 1, ⟨by omega, by omega⟩, by omega, (by refine bZ rfl ?_ ?_ rfl <;> (repeat' (first | exact bG | exact bM | refine aZ rfl (by first | rfl | (exact hfin) | exact zeq) rfl ?_ | refine aY rfl (by first | rfl | (exact hfin) | exact zeq) rfl ?_)))⟩
    · have hie : i = k := by omega
      rw [hie]
      clear hstep hl hlen hOo hOr hA1 hl0 hws0 h1 hq hql
      repeat' (first | ((with_reducible refine aB ?_); intro K hK hX) | ((with_reducible refine aC ?_); refine aD [0, 1, 4, 5, 6, 7, 8, 9, 10] rfl rfl ?_) | ((with_reducible refine aF ?_); refine aG [0, 1, 4, 5, 6, 7, 8, 9, 10] rfl rfl ?_; refine aI [] ?_) | refine stA ?_ | refine stD ?_ | ((first | refine hK _ _ _ _ ?_ | refine hX _ _ _ _ _ (by simp) ?_); clear hK hX K))
      refine aK zio ztr rfl (ResL.one (ResA.tmp rfl)) (cE (bO (bY bL) (dA hqk hrk)))
end Go.Proofs.YtccnhpaldmjkbaaGreat
