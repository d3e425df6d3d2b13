/-
  Joined texts: T9 T10 T11. Lemmas; no statement of a law.
-/
import Derived.Test.YtccnhpaldmjkbaaGreatM10
set_option linter.unusedSimpArgs false
set_option linter.unusedVariables false
/-
  Short values off a tape (walk).
-/
namespace Go.Proofs.YtccnhpaldmjkbaaGreat
open Go Go.RowKit Go.Av
set_option maxRecDepth 100000
theorem cJ (l : List Int) (n : Nat) (a m : Int) (hm : 2 ≤ m) (hm2 : m ≤ 4294967296) : 0 ≤ nextX l n a m ∧ nextX l n a m < m := by
  unfold nextX
  split
  · omega
  · exact remZ_bounds _ _ hm hm2
theorem bK (n : Nat) (a m : Int) (ha : 0 ≤ a) (ha2 : a ≤ 9223372036854775807) : 0 ≤ nextA n a m ∧ nextA n a m ≤ 9223372036854775807 := by
  unfold nextA
  split
  · omega
  · rename_i h
    have : ¬ IntKind.i64.wrap (4 * (n : Int)) ≤ a := fun h2 => h (.inr (.inr h2))
    have : IntKind.i64.wrap (4 * (n : Int)) ≤ 9223372036854775807 := by rw [IntKind.wrap_i64]; omega
    omega
def vI (n : Int) : Vl := ⟨1, n, []⟩
def vT (b : UInt8) : Vl := ⟨2, 0, [b]⟩
def shortV (x : Int) : Vl := [Vl.nul, vI 1, vI 2, vI 3, vT 97, vT 98].getD x.toNat Vl.nul
theorem okI (n : Int) (h1 : -4294967296 ≤ n) (h2 : n ≤ 4294967296) : okP (vI n) := .inr (.inl ⟨rfl, h1, h2, rfl⟩)
theorem okT (b : UInt8) : okP (vT b) := .inr (.inr ⟨rfl, rfl, by simp [vT]⟩)
theorem lD (x : Int) : okP (shortV x) := by
  unfold shortV
  rw [List.getD_eq_getElem?_getD]
  generalize x.toNat = k
  match k with
  | 0 => exact ok_nul
  | 1 => exact okI 1 (by decide) (by decide)
  | 2 => exact okI 2 (by decide) (by decide)
  | 3 => exact okI 3 (by decide) (by decide)
  | 4 => exact okT 97
  | 5 => exact okT 98
  | k + 6 => exact ok_nul
attribute [local irreducible] Still Adds AWL AW Drw DrwE EStep AC AWR Weak Frz Src RetK Out InK ItK AsK RdK RetT OutT ACT
set_option maxHeartbeats 4000000 in
theorem iB (l : List Int) (n : Nat) (a : Int) (hn : l.length = n) (hnn : n ≤ maxLen) (ha0 : 0 ≤ a) (ha : a ≤ 9223372036854775807) : ACT Tryz.prog 43 72 (tpC l n a) [] (tpC l n (nextA n a 6)) (.agg (shortV (nextX l n a 6)).c) := by
  have h1 := oW 1
  rw [gH (v := ⟨1, 1, []⟩) (okI 1 (by decide) (by decide))] at h1
  have h2 := oW 2
  rw [gH (v := ⟨1, 2, []⟩) (okI 2 (by decide) (by decide))] at h2
  have h3 := oW 3
  rw [gH (v := ⟨1, 3, []⟩) (okI 3 (by decide) (by decide))] at h3
  have h4 := mW [97]
  rw [gH (v := ⟨2, 0, [97]⟩) (okT 97)] at h4
  have h5 := mW [98]
  rw [gH (v := ⟨2, 0, [98]⟩) (okT 98)] at h5
  have hx := cU l n a 6 hn hnn ha0 ha (by decide)
  obtain ⟨b1, b2⟩ := cJ l n a 6 (by decide) (by decide)
  generalize nextX l n a 6 = x at hx b1 b2 ⊢
  generalize nextA n a 6 = a1 at hx ⊢
  simp only [Vl.c] at h1 h2 h3 h4 h5
  rcases (show x = 0 ∨ x = 1 ∨ x = 2 ∨ x = 3 ∨ x = 4 ∨ x = 5 by omega) with e | e | e | e | e | e
  ·
    subst e
    refine bN tabOk (sz := 14) Tryz.func43 rfl (by rw [Tryz.ntmps43]; rfl) ?_
    repeat' (first | ((with_reducible refine aD ?_); intro K hK hX) | ((with_reducible refine aE ?_); refine aA [0, 2] rfl rfl ?_; with_reducible refine aB ?_) | ((with_reducible refine aF ?_); refine aQ (hx) aH rfl zby rfl rfl rfl rfl zcv rfl ztp ?_) | ((with_reducible refine aF ?_); (first | refine zA ?_ | refine zN ?_); (first | refine c0 (h1) ?_ | refine c0 (h2) ?_ | refine c0 (h3) ?_ | refine c0 (h4) ?_ | refine c0 (h5) ?_)) | refine stA ?_ | ((first | refine hK _ _ _ _ ?_ | refine hX _ _ _ _ _ (by simp) ?_); clear hK hX K))
    refine cC zio ztr rfl rfl (ResL.one zrs) (cM zfz rfl rfl)
  ·
    subst e
    refine bN tabOk (sz := 14) Tryz.func43 rfl (by rw [Tryz.ntmps43]; rfl) ?_
    repeat' (first | ((with_reducible refine aD ?_); intro K hK hX) | ((with_reducible refine aE ?_); refine aA [0, 2] rfl rfl ?_; with_reducible refine aB ?_) | ((with_reducible refine aF ?_); refine aQ (hx) aH rfl zby rfl rfl rfl rfl zcv rfl ztp ?_) | ((with_reducible refine aF ?_); (first | refine zA ?_ | refine zN ?_); (first | refine c0 (h1) ?_ | refine c0 (h2) ?_ | refine c0 (h3) ?_ | refine c0 (h4) ?_ | refine c0 (h5) ?_)) | refine stA ?_ | ((first | refine hK _ _ _ _ ?_ | refine hX _ _ _ _ _ (by simp) ?_); clear hK hX K))
    refine cC zio ztr rfl rfl (ResL.one zrs) (cM zfz rfl rfl)
  ·
    subst e
    refine bN tabOk (sz := 14) Tryz.func43 rfl (by rw [Tryz.ntmps43]; rfl) ?_
    repeat' (first | ((with_reducible refine aD ?_); intro K hK hX) | ((with_reducible refine aE ?_); refine aA [0, 2] rfl rfl ?_; with_reducible refine aB ?_) | ((with_reducible refine aF ?_); refine aQ (hx) aH rfl zby rfl rfl rfl rfl zcv rfl ztp ?_) | ((with_reducible refine aF ?_); (first | refine zA ?_ | refine zN ?_); (first | refine c0 (h1) ?_ | refine c0 (h2) ?_ | refine c0 (h3) ?_ | refine c0 (h4) ?_ | refine c0 (h5) ?_)) | refine stA ?_ | ((first | refine hK _ _ _ _ ?_ | refine hX _ _ _ _ _ (by simp) ?_); clear hK hX K))
    refine cC zio ztr rfl rfl (ResL.one zrs) (cM zfz rfl rfl)
  ·
    subst e
    refine bN tabOk (sz := 14) Tryz.func43 rfl (by rw [Tryz.ntmps43]; rfl) ?_
    repeat' (first | ((with_reducible refine aD ?_); intro K hK hX) | ((with_reducible refine aE ?_); refine aA [0, 2] rfl rfl ?_; with_reducible refine aB ?_) | ((with_reducible refine aF ?_); refine aQ (hx) aH rfl zby rfl rfl rfl rfl zcv rfl ztp ?_) | ((with_reducible refine aF ?_); (first | refine zA ?_ | refine zN ?_); (first | refine c0 (h1) ?_ | refine c0 (h2) ?_ | refine c0 (h3) ?_ | refine c0 (h4) ?_ | refine c0 (h5) ?_)) | refine stA ?_ | ((first | refine hK _ _ _ _ ?_ | refine hX _ _ _ _ _ (by simp) ?_); clear hK hX K))
    refine cC zio ztr rfl rfl (ResL.one zrs) (cM zfz rfl rfl)
  ·
    subst e
    refine bN tabOk (sz := 14) Tryz.func43 rfl (by rw [Tryz.ntmps43]; rfl) ?_
    repeat' (first | ((with_reducible refine aD ?_); intro K hK hX) | ((with_reducible refine aE ?_); refine aA [0, 2] rfl rfl ?_; with_reducible refine aB ?_) | ((with_reducible refine aF ?_); refine aQ (hx) aH rfl zby rfl rfl rfl rfl zcv rfl ztp ?_) | ((with_reducible refine aF ?_); (first | refine zA ?_ | refine zN ?_); (first | refine c0 (h1) ?_ | refine c0 (h2) ?_ | refine c0 (h3) ?_ | refine c0 (h4) ?_ | refine c0 (h5) ?_)) | refine stA ?_ | ((first | refine hK _ _ _ _ ?_ | refine hX _ _ _ _ _ (by simp) ?_); clear hK hX K))
    refine cC zio ztr rfl rfl (ResL.one zrs) (cM zfz rfl rfl)
  ·
    subst e
    refine bN tabOk (sz := 14) Tryz.func43 rfl (by rw [Tryz.ntmps43]; rfl) ?_
    repeat' (first | ((with_reducible refine aD ?_); intro K hK hX) | ((with_reducible refine aE ?_); refine aA [0, 2] rfl rfl ?_; with_reducible refine aB ?_) | ((with_reducible refine aF ?_); refine aQ (hx) aH rfl zby rfl rfl rfl rfl zcv rfl ztp ?_) | ((with_reducible refine aF ?_); (first | refine zA ?_ | refine zN ?_); (first | refine c0 (h1) ?_ | refine c0 (h2) ?_ | refine c0 (h3) ?_ | refine c0 (h4) ?_ | refine c0 (h5) ?_)) | refine stA ?_ | ((first | refine hK _ _ _ _ ?_ | refine hX _ _ _ _ _ (by simp) ?_); clear hK hX K))
    refine cC zio ztr rfl rfl (ResL.one zrs) (cM zfz rfl rfl)
end Go.Proofs.YtccnhpaldmjkbaaGreat
/-
  Valid bags, sums and supports of bags (walk), as the reference has them; equal lists.
-/
namespace Go.Proofs.YtccnhpaldmjkbaaGreat
open Go Go.RowKit Go.Av
set_option maxRecDepth 100000
def suppE (b : List En) : List En := b.map fun e => ⟨e.r, 1⟩
attribute [local irreducible] Still Adds AWL AW Drw DrwE EStep AC AWR Weak Frz Src RetK Out InK ItK AsK RdK RetT OutT ACT
set_option maxHeartbeats 4000000 in
theorem fits_ok (b : List En) (n : Nat) (hn : b.length = n) (hm : n ≤ 4096) (hb : ∀ e ∈ b, -262144 ≤ e.n ∧ e.n ≤ 262144) : AC Tryz.prog 103 [.sl 2 n (ec b)] (.tup [.c (.sl 2 n (ec b)), .c (iv 0)]) [] 0 := by
  have hbl : (ec b).length = n * 2 := by rw [bM, hn]
  refine aJ tabOk (sz := 22) Tryz.func103 rfl (by rw [Tryz.ntmps103]; rfl) ?_
  repeat' (first | ((with_reducible refine aD ?_); intro K hK hX) | ((with_reducible refine aE ?_); refine aA [0, 2, 3, 4] rfl rfl ?_; with_reducible refine aB ?_) | refine stA ?_ | ((first | refine hK _ _ _ _ ?_ | refine hX _ _ _ _ _ (by simp) ?_); clear hK hX K))
  refine bD [4] [] rfl rfl (fun i : Nat => [(4, .c (iv i))]) (fun i => []) (fun i => i ≤ n) (fun i => n - i) 0 (by omega) weakA ?_
  intro i hi K hK hX
  by_cases hlt : i < n
  · obtain ⟨e, he⟩ : ∃ e, b[i]? = some e := ⟨b[i]'(by omega), List.getElem?_eq_getElem _⟩
    have hen := lF he
    have h1 := fZ e.n
    rw [decide_eq_true (hb e (List.mem_of_getElem? he))] at h1
    clear hb
    obtain ⟨r, c⟩ := e
    simp only at *
    repeat' (first | ((with_reducible refine aD ?_); intro K hK hX) | ((with_reducible refine aE ?_); refine aA [0, 2, 3, 4] rfl rfl ?_; with_reducible refine aB ?_) | ((with_reducible refine aF ?_); (first | refine zA ?_ | refine zN ?_); (first | refine c0 (h1) ?_)) | (((with_reducible refine aI ?_); refine xA ?_); (first | ((with_reducible refine aO ?_); (first | refine aC (aT tabOk rfl rfl rfl rfl (by exact hen)) ?_ | refine aC (aN tabOk rfl rfl rfl rfl (by exact hen)) ?_ | refine aC (aM tabOk rfl rfl rfl (by exact hen)) ?_)) | ((with_reducible refine bX ?_); (first | refine aC (s_ixV1 tabOk rfl rfl zcj rfl rfl rfl rfl rfl zle (by exact hen)) ?_ | refine aC (aS tabOk rfl rfl zcj rfl rfl (by exact hen)) ?_)))) | refine stA ?_ | ((first | refine hK _ _ _ _ ?_ | refine hX _ _ _ _ _ (by simp) ?_); clear hK hX K))
    exact ⟨i + 1, by omega, by omega, weakA⟩
  · clear hb
    repeat' (first | ((with_reducible refine aD ?_); intro K hK hX) | ((with_reducible refine aE ?_); refine aA [0, 2, 3, 4] rfl rfl ?_; with_reducible refine aB ?_) | refine stA ?_ | ((first | refine hK _ _ _ _ ?_ | refine hX _ _ _ _ _ (by simp) ?_); clear hK hX K))
    refine aK zio ztr rfl (ResL.two (ResA.tmp rfl) (ResA.tmp rfl)) (eG (aZ zfz (aZ zfz cH)))
open Classical in
set_option maxHeartbeats 4000000 in
theorem norm_ok (b : List En) (n N : Nat) (hn : b.length = n) (hm : n ≤ 1000) (hr : ∀ e ∈ b, rowP e.r) (hb : absS b ≤ 1000) (hN : (sortE b).length = N) : AC Tryz.prog 44 [.sl 2 n (ec b)] (.tup [.c (.sl 2 N (ec (sortE b))), .c (iv 0)]) [] 0 := by
  have hbl : (ec b).length = n * 2 := by rw [bM, hn]
  have hfit : fitB b := fun e he => by have := (hr e he).1; simp only [maxLen]; omega
  have hs := sort_ok n b N hn (by omega) hfit (by omega) hN
  obtain ⟨f1, f2, f3⟩ := cT n b (by omega)
  have hf := fits_ok (sortE b) N hN (by omega) fun e he => by have := eI he; omega
  generalize sortE b = S at hs hf hN f1 f2 f3 ⊢
  clear f1 f2 f3
  refine aJ tabOk (sz := 32) Tryz.func44 rfl (by rw [Tryz.ntmps44]; rfl) ?_
  repeat' (first | ((with_reducible refine aD ?_); intro K hK hX) | ((with_reducible refine aE ?_); refine aA [0, 2, 3, 4] rfl rfl ?_; with_reducible refine aB ?_) | refine stA ?_ | ((first | refine hK _ _ _ _ ?_ | refine hX _ _ _ _ _ (by simp) ?_); clear hK hX K))
  refine bD [4] [] rfl rfl (fun i : Nat => [(4, .c (iv i))]) (fun i => []) (fun i => i ≤ n) (fun i => n - i) 0 (by omega) weakA ?_
  intro i hi K hK hX
  by_cases hlt : i < n
  · obtain ⟨e, he⟩ : ∃ e, b[i]? = some e := ⟨b[i]'(by omega), List.getElem?_eq_getElem _⟩
    have hmem := List.mem_of_getElem? he
    have hen := lF he
    have her := eV he
    have hab := eI hmem
    have h1 := fZ e.n
    rw [decide_eq_true (show -262144 ≤ e.n ∧ e.n ≤ 262144 by omega)] at h1
    have h2 := jD e.r e.r.length rfl (hfit e hmem)
    rw [decide_eq_true (hr e hmem)] at h2
    clear hr hfit hs hf hab
    obtain ⟨r, c⟩ := e
    simp only at *
    repeat' (first | ((with_reducible refine aD ?_); intro K hK hX) | ((with_reducible refine aE ?_); refine aA [0, 2, 3, 4] rfl rfl ?_; with_reducible refine aB ?_) | ((with_reducible refine aF ?_); (first | refine zA ?_ | refine zN ?_); (first | refine c0 (h1) ?_ | refine c0 (h2) ?_)) | (((with_reducible refine aI ?_); refine xA ?_); (first | ((with_reducible refine aO ?_); (first | refine aC (aT tabOk rfl rfl rfl rfl (by first | exact hen | exact her)) ?_ | refine aC (aN tabOk rfl rfl rfl rfl (by first | exact hen | exact her)) ?_ | refine aC (aM tabOk rfl rfl rfl (by first | exact hen | exact her)) ?_)) | ((with_reducible refine bX ?_); (first | refine aC (s_ixV1 tabOk rfl rfl zcj rfl rfl rfl rfl rfl zle (by first | exact hen | exact her)) ?_ | refine aC (aS tabOk rfl rfl zcj rfl rfl (by first | exact hen | exact her)) ?_)))) | refine stA ?_ | ((first | refine hK _ _ _ _ ?_ | refine hX _ _ _ _ _ (by simp) ?_); clear hK hX K))
    exact ⟨i + 1, by omega, by omega, weakA⟩
  · clear hr hfit
    repeat' (first | ((with_reducible refine aD ?_); intro K hK hX) | ((with_reducible refine aE ?_); refine aA [0, 2, 3, 4] rfl rfl ?_; with_reducible refine aB ?_) | ((with_reducible refine aF ?_); (first | refine zA ?_ | refine zN ?_); (first | refine c0 (hs) ?_ | refine c0 (hf) ?_)) | refine stA ?_ | ((first | refine hK _ _ _ _ ?_ | refine hX _ _ _ _ _ (by simp) ?_); clear hK hX K))
    refine aK zio ztr rfl (ResL.two (ResA.tmp rfl) (ResA.tmp rfl)) (eG (aZ zfz (aZ zfz cH)))
end Go.Proofs.YtccnhpaldmjkbaaGreat
/-
  Bags off a tape (walk).
-/
namespace Go.Proofs.YtccnhpaldmjkbaaGreat
open Go Go.RowKit Go.Av
set_option maxRecDepth 100000
def rowR (l : List Int) (n : Nat) (a : Int) : List Vl := [shortV (nextX l n a 6), shortV (nextX l n (nextA n a 6) 6)]
def rowA (n : Nat) (a : Int) : Int := nextA n (nextA n a 6) 6
def cntV (x : Int) : Int := [1, 1, 1, 2, -1, 3, -2, 0].getD x.toNat 0
def entR (l : List Int) (n : Nat) (a : Int) : En := ⟨rowR l n a, cntV (nextX l n (rowA n a) 8)⟩
def entA (n : Nat) (a : Int) : Int := nextA n (rowA n a) 8
def entsF (l : List Int) (n : Nat) : Nat → Int → List En
  | 0, _ => []
  | i + 1, a => entR l n a :: entsF l n i (entA n a)
def entsA (n : Nat) : Nat → Int → Int
  | 0, a => a
  | i + 1, a => entsA n i (entA n a)
def fixE (sg : Bool) (e : En) : En := if sg = false ∧ e.n < 0 then ⟨e.r, -e.n⟩ else e
def rawF (l : List Int) (n : Nat) (a m : Int) : List En := entsF l n (nextX l n a m).toNat (nextA n a m)
def bagF (l : List Int) (n : Nat) (a m : Int) (sg : Bool) : List En := sortE ((rawF l n a m).map (fixE sg))
def bagA (l : List Int) (n : Nat) (a m : Int) : Int := entsA n (nextX l n a m).toNat (nextA n a m)
theorem rowA_bd (n : Nat) (a : Int) (ha : 0 ≤ a) (ha2 : a ≤ 9223372036854775807) : 0 ≤ rowA n a ∧ rowA n a ≤ 9223372036854775807 := by
  obtain ⟨h1, h2⟩ := bK n a 6 ha ha2
  exact bK n _ 6 h1 h2
theorem entA_bd (n : Nat) (a : Int) (ha : 0 ≤ a) (ha2 : a ≤ 9223372036854775807) : 0 ≤ entA n a ∧ entA n a ≤ 9223372036854775807 := by
  obtain ⟨h1, h2⟩ := rowA_bd n a ha ha2
  exact bK n _ 8 h1 h2
theorem entsA_bd (n : Nat) : ∀ (i : Nat) (a : Int), 0 ≤ a → a ≤ 9223372036854775807 → 0 ≤ entsA n i a ∧ entsA n i a ≤ 9223372036854775807
  | 0, a, h1, h2 => ⟨h1, h2⟩
  | i + 1, a, h1, h2 => by
    obtain ⟨h3, h4⟩ := entA_bd n a h1 h2
    exact entsA_bd n i _ h3 h4
theorem bagA_bd (l : List Int) (n : Nat) (a m : Int) (ha : 0 ≤ a) (ha2 : a ≤ 9223372036854775807) : 0 ≤ bagA l n a m ∧ bagA l n a m ≤ 9223372036854775807 := by
  obtain ⟨h1, h2⟩ := bK n a m ha ha2
  exact entsA_bd n _ _ h1 h2
theorem cntV_bd (x : Int) : -3 ≤ cntV x ∧ cntV x ≤ 3 := by
  unfold cntV
  rw [List.getD_eq_getElem?_getD]
  generalize x.toNat = k
  match k with
  | 0 => decide
  | 1 => decide
  | 2 => decide
  | 3 => decide
  | 4 => decide
  | 5 => decide
  | 6 => decide
  | 7 => decide
  | k + 8 => simp
theorem eQ (l : List Int) (n : Nat) : ∀ (i : Nat) (a : Int), (entsF l n i a).length = i
  | 0, _ => rfl
  | i + 1, a => by rw [entsF, List.length_cons, eQ]
theorem entsF_all (l : List Int) (n : Nat) : ∀ (i : Nat) (a : Int), ∀ e ∈ entsF l n i a, rowP e.r ∧ e.r.length = 2 ∧ -3 ≤ e.n ∧ e.n ≤ 3
  | 0, _, e, he => by cases he
  | i + 1, a, e, he => by
    rw [entsF] at he
    rcases List.mem_cons.1 he with rfl | he
    · refine ⟨⟨by simp [entR, rowR], fun v hv => ?_⟩, rfl, (cntV_bd _).1, (cntV_bd _).2⟩
      simp only [entR, rowR, List.mem_cons, List.not_mem_nil, or_false] at hv
      rcases hv with rfl | rfl
      · exact lD _
      · exact lD _
    · exact entsF_all l n i _ e he
theorem kX (l : List Int) (n : Nat) (a m : Int) (hm : 2 ≤ m) (hm2 : m ≤ 4294967296) : ((rawF l n a m).length : Int) < m ∧ ∀ e ∈ rawF l n a m, rowP e.r ∧ e.r.length = 2 ∧ -3 ≤ e.n ∧ e.n ≤ 3 := by
  obtain ⟨h1, h2⟩ := cJ l n a m hm hm2
  unfold rawF
  exact ⟨by rw [eQ]; omega, entsF_all l n _ _⟩
theorem mI {l : List En} {D : Nat} (h : ∀ e ∈ l, e.n.natAbs ≤ D) : absS l ≤ D * l.length := by
  induction l with
  | nil => simp [absS]
  | cons e l ih =>
    have h1 := h e (by simp)
    have h2 := ih fun e he => h e (by simp [he])
    rw [dN, List.length_cons, Nat.mul_add]
    omega
theorem kQ (sg : Bool) (l : List En) (h : ∀ e ∈ l, rowP e.r ∧ e.r.length = 2 ∧ -3 ≤ e.n ∧ e.n ≤ 3) : ∀ e ∈ l.map (fixE sg), rowP e.r ∧ e.r.length = 2 ∧ -3 ≤ e.n ∧ e.n ≤ 3 ∧ (sg = false → 0 ≤ e.n) := by
  intro e he
  obtain ⟨f, hf, rfl⟩ := List.mem_map.1 he
  obtain ⟨h1, h2, h3, h4⟩ := h f hf
  unfold fixE
  split
  · exact ⟨h1, h2, by simp only; omega, by simp only; omega, fun _ => by simp only; omega⟩
  · rename_i h5
    exact ⟨h1, h2, h3, h4, fun h => by have : ¬ f.n < 0 := fun h6 => h5 ⟨h, h6⟩; omega⟩
theorem bagF_F (l : List Int) (n : Nat) (a m : Int) (hm : 2 ≤ m) (hm2 : m ≤ 20) : BagF (3 * (m - 1).toNat) (bagF l n a m false) ∧ (∀ e ∈ bagF l n a m false, e.r.length = 2) ∧ (bagF l n a m false).length ≤ (m - 1).toNat := by
  obtain ⟨h1, h2⟩ := kX l n a m hm (by omega)
  have h3 := kQ false _ h2
  have h4 : absS ((rawF l n a m).map (fixE false)) ≤ 3 * (rawF l n a m).length := by
    have := mI (l := (rawF l n a m).map (fixE false)) (D := 3) fun e he => by obtain ⟨_, _, q1, q2, _⟩ := h3 e he; omega
    rwa [List.length_map] at this
  have h5 := cT ((rawF l n a m).map (fixE false)).length _ (Nat.le_refl _)
  refine ⟨BagF.sort (fun e he => (h3 e he).2.2.2.2 rfl) (fun e he => (h3 e he).1) (by omega), fun e he => h5.2.2 (fun r => r.length = 2) (fun e he => (h3 e he).2.1) e he, ?_⟩
  have := h5.1
  rw [List.length_map] at this
  unfold bagF
  omega
theorem fx_length {α : Type} (f : α → α) (Z : List α) (i : Nat) : ((Z.take i).map f ++ Z.drop i).length = Z.length := by simp; omega
theorem fx_at {α : Type} (f : α → α) {Z : List α} {i : Nat} {e : α} (h : Z[i]? = some e) : ((Z.take i).map f ++ Z.drop i)[i]? = some e := by
  obtain ⟨h1, h2⟩ := List.getElem?_eq_some_iff.1 h
  rw [List.getElem?_append_right (by simp; omega)]
  simp [h1, h2]
  rw [Nat.min_eq_left (by omega)]
  simp [h1, h2]
theorem fx_succ {α : Type} (f : α → α) {Z : List α} {i : Nat} {e : α} (h : Z[i]? = some e) : (Z.take (i + 1)).map f ++ Z.drop (i + 1) = ((Z.take i).map f ++ Z.drop i).set i (f e) := by
  obtain ⟨h1, h2⟩ := List.getElem?_eq_some_iff.1 h
  rw [List.take_add_one, h, dC h, Option.toList_some, List.map_append, List.append_assoc, List.set_append_right _ _ (by simp <;> omega)]
  have : i - ((Z.take i).map f).length = 0 := by simp <;> omega
  rw [this, List.set_cons_zero]
  rfl
theorem fx_same {α : Type} {L : List α} {i : Nat} {e : α} (h : L[i]? = some e) : L.set i e = L := by
  refine List.ext_getElem? fun j => ?_
  rw [List.getElem?_set]
  split
  · rename_i e1; subst e1
    rw [h, if_pos (List.getElem?_eq_some_iff.1 h).1]
  · rfl
theorem pM : ∀ {L : List En} {i : Nat} {r : List Vl} {c m : Int}, L[i]? = some ⟨r, c⟩ → (ec L).set (i * 2 + 1) (iv m) = ec (L.set i ⟨r, m⟩)
  | [], i, r, c, m, h => by simp at h
  | e :: L, 0, r, c, m, h => by
    simp at h
    subst h
    simp [ec, En.c]
  | e :: L, i + 1, r, c, m, h => by
    have := pM (L := L) (i := i) (r := r) (c := c) (m := m) (by simpa using h)
    have hl : e.c = [.sl 3 e.r.length (rc e.r), iv e.n] := rfl
    unfold ec at this ⊢
    rw [List.set_cons_succ, List.flatMap_cons, List.flatMap_cons, ← this, hl, show (i + 1) * 2 + 1 = (i * 2 + 1) + 1 + 1 by omega]
    rfl
theorem cntc (x : Int) (h1 : 0 ≤ x) (h2 : x < 8) : ([iv 1, iv 1, iv 1, iv 2, iv (-1), iv 3, iv (-2), iv 0] : List CV)[x.toNat]? = some (iv (cntV x)) := by
  rcases (show x = 0 ∨ x = 1 ∨ x = 2 ∨ x = 3 ∨ x = 4 ∨ x = 5 ∨ x = 6 ∨ x = 7 by omega) with e | e | e | e | e | e | e | e <;> subst e <;> rfl
attribute [local irreducible] Still Adds AWL AW Drw DrwE EStep AC AWR Weak Frz Src RetK Out InK ItK AsK RdK RetT OutT ACT
set_option maxHeartbeats 8000000 in
theorem tbag_ok (l : List Int) (n : Nat) (a m1 m : Int) (sg : Bool) (N : Nat) (hn : l.length = n) (hnn : n ≤ maxLen) (ha0 : 0 ≤ a) (ha : a ≤ 9223372036854775807) (hm : 2 ≤ m) (hm2 : m ≤ 20) (hmi : m1 + 1 = m) (hN : (bagF l n a m sg).length = N) :
    ACT Tryz.prog 14 72 (tpC l n a) [iv 2, iv m1, bv sg] (tpC l n (bagA l n a m)) (.sl 2 N (ec (bagF l n a m sg))) := by
  obtain ⟨hr1, hr2⟩ := kX l n a m hm (by omega)
  have hfx := kQ sg _ hr2
  have hx0 := cU l n a m hn hnn ha0 ha (by omega)
  obtain ⟨b1, b2⟩ := cJ l n a m hm (by omega)
  obtain ⟨b3, b4⟩ := bK n a m ha0 ha
  unfold bagF bagA at *
  obtain ⟨Q, hQ⟩ : ∃ Q, (rawF l n a m).length = Q := ⟨_, rfl⟩
  have hQ2 : (nextX l n a m).toNat = Q := by rw [← hQ, rawF, eQ]
  have hQ3 : nextX l n a m = (Q : Int) := by omega
  have hnm := norm_ok ((rawF l n a m).map (fixE sg)) Q N (by rw [List.length_map, hQ]) (by omega) (fun e he => (hfx e he).1)
    (by have := mI (l := (rawF l n a m).map (fixE sg)) (D := 3) fun e he => by obtain ⟨_, _, q1, q2, _⟩ := hfx e he; omega
        rw [List.length_map] at this; omega) hN
  rw [hQ3] at hx0
  rw [hQ2]
  have hZ : rawF l n a m = entsF l n Q (nextA n a m) := by rw [← hQ2]; rfl
  generalize rawF l n a m = Z at *
  generalize nextA n a m = a0 at *
  obtain ⟨A', hA⟩ : ∃ A', entsA n Q a0 = A' := ⟨_, rfl⟩
  rw [hA]
  generalize hS : sortE (Z.map (fixE sg)) = S at hnm hN ⊢
  have hQ20 : Q ≤ 20 := by omega
  rw [← hmi] at hx0
  clear hfx hr1 hQ2 hQ3 b1 b2 hS hN
  refine bN tabOk (sz := 49) Tryz.func14 rfl (by rw [Tryz.ntmps14]; rfl) ?_
  repeat' (first | ((with_reducible refine aD ?_); intro K hK hX) | ((with_reducible refine aE ?_); refine aA [0, 1, 2, 3, 6, 7, 8, 9, 10, 11] rfl rfl ?_; with_reducible refine aB ?_) | ((with_reducible refine aF ?_); refine aQ (hx0) aH rfl zby rfl rfl rfl rfl zcv rfl ztp ?_) | ((first | with_reducible refine aF ?_ | with_reducible refine aR ?_); refine aY tabOk [0, 1, 2, 3, 4, 5, 6, 7, 8, 9, 10, 11, 12, 13, 14, 15, 16, 17, 18, 19, 20, 21, 22, 23, 24, 25, 26, 27, 28, 29, 30, 31, 32, 33, 34, 35, 36, 37, 38, 39, 40, 41, 42, 43, 44, 45, 46, 47, 48] aH rfl rfl zby Tryz.func49 rfl rfl rfl (szf := 40) (by rw [Tryz.ntmps49]; rfl) rfl ?_) | (((with_reducible refine aI ?_); refine xA ?_); (first | ((with_reducible refine aX ?_); (first | refine aC (bV rfl rfl rfl (by rw [hmi]; exact w64 (by omega) (by omega))) ?_)))) | refine stA ?_ | ((first | refine hK _ _ _ _ ?_ | refine hX _ _ _ _ _ (by simp) ?_); clear hK hX K) | (first | refine bJ zio ztr rfl rfl (ResL.one (ResA.tmp rfl)) ?_ | refine bI zio ztr rfl rfl (ResL.one (ResA.tmp rfl)) ?_))
  refine fW 7 68 2 rfl ?_
  refine bD [7, 8, 9, 10, 11, 12, 13, 14] [0, 1] rfl rfl (fun p : Nat × Int × List En × Nat => [(7, .own 1 0 p.2.2.2 2 true), (8, .c (iv p.1))]) (fun p => [(0, .blk 72 [.c (.sl 1 n (intc .i64 l)), .c (iv p.2.1)]), (1, .row 68 (ec p.2.2.1))]) (fun p => p.2.2.1.length = p.2.2.2 ∧ 0 ≤ p.2.1 ∧ p.2.1 ≤ 9223372036854775807 ∧ p.2.2.1 ++ entsF l n p.1 p.2.1 = Z ∧ entsA n p.1 p.2.1 = A') (fun p => p.1) (Q, a0, [], 0) ⟨rfl, b3, b4, hZ.symm, hA⟩ weakA ?_
  rintro ⟨i, a1, o, q⟩ ⟨hq, i1, i2, hst, hse⟩ K hK hX
  dsimp only at hq i1 i2 hst hse ⊢
  have hlo : (ec o).length = q * 2 := by rw [bM, hq]
  have hqi : q + i = Q := by rw [← hQ, ← hst, List.length_append, eQ, hq]
  cases i with
  | succ i =>
    rw [entsF] at hst
    rw [entsA] at hse
    have e1 : entR l n a1 = ⟨[shortV (nextX l n a1 6), shortV (nextX l n (nextA n a1 6) 6)], cntV (nextX l n (nextA n (nextA n a1 6) 6) 8)⟩ := rfl
    have e2 : entA n a1 = nextA n (nextA n (nextA n a1 6) 6) 8 := rfl
    rw [e1, e2] at hst
    rw [e2] at hse
    clear e1 e2
    have h1 := iB l n a1 hn hnn i1 i2
    obtain ⟨p1, p2⟩ := bK n a1 6 i1 i2
    generalize shortV (nextX l n a1 6) = v1 at *
    generalize nextA n a1 6 = a2 at *
    have h2 := iB l n a2 hn hnn p1 p2
    obtain ⟨p3, p4⟩ := bK n a2 6 p1 p2
    generalize shortV (nextX l n a2 6) = v2 at *
    generalize nextA n a2 6 = a3 at *
    have h3 := cU l n a3 8 hn hnn p3 p4 (by decide)
    obtain ⟨x1, x2⟩ := cJ l n a3 8 (by decide) (by decide)
    obtain ⟨p5, p6⟩ := bK n a3 8 p3 p4
    generalize nextX l n a3 8 = x at *
    generalize nextA n a3 8 = a4 at *
    have hcx := cntc x x1 x2
    generalize cntV x = c at hcx hst
    have hst' := gN hst
    clear hx0 hnm hZ hA hr2 hst
    obtain ⟨k1, m1', t1⟩ := v1
    obtain ⟨k2, m2', t2⟩ := v2
    simp only [Vl.c] at h1 h2
    repeat' (first | ((with_reducible refine aD ?_); intro K hK hX) | ((with_reducible refine aE ?_); refine aA [0, 1, 2, 3, 6, 7, 8, 9, 10, 11] rfl rfl ?_; with_reducible refine aB ?_) | ((with_reducible refine isC_loop ?_); refine qV 3 ?_) | (refine awr_k ?_; intro K hK hX) | ((with_reducible refine aF ?_); refine aQ (h1) aH rfl zby rfl rfl rfl rfl zcv rfl ztp ?_) | ((with_reducible refine aF ?_); refine aQ (h2) aH rfl zby rfl rfl rfl rfl zcv rfl ztp ?_) | ((with_reducible refine aF ?_); refine aQ (h3) aH rfl zby rfl rfl rfl rfl zcv rfl ztp ?_) | ((with_reducible refine nO ?_); refine lN 30 rfl rfl zln ?_) | ((first | with_reducible refine aF ?_ | with_reducible refine aR ?_); refine aY tabOk [0, 1, 2, 3, 4, 5, 6, 7, 8, 9, 10, 11, 12, 13, 14, 15, 16, 17, 18, 19, 20, 21, 22, 23, 24, 25, 26, 27, 28, 29, 30, 31, 32, 33, 34, 35, 36, 37, 38, 39, 40, 41, 42, 43, 44, 45, 46, 47, 48] aH rfl rfl zby Tryz.func49 rfl rfl rfl (szf := 40) (by rw [Tryz.ntmps49]; rfl) rfl ?_) | (((with_reducible refine aI ?_); refine xA ?_); (first | ((with_reducible refine aO ?_); (first | refine aC (aT tabOk rfl rfl rfl rfl (by (rw [Nat.zero_add, Nat.mul_one]; exact hcx))) ?_ | refine aC (aN tabOk rfl rfl rfl rfl (by (rw [Nat.zero_add, Nat.mul_one]; exact hcx))) ?_ | refine aC (aM tabOk rfl rfl rfl (by (rw [Nat.zero_add, Nat.mul_one]; exact hcx))) ?_)) | ((with_reducible refine bX ?_); (first | refine aC (s_ixV1 tabOk rfl rfl zcj rfl rfl rfl rfl rfl zle (by (rw [Nat.zero_add, Nat.mul_one]; exact hcx))) ?_ | refine aC (aS tabOk rfl rfl zcj rfl rfl (by (rw [Nat.zero_add, Nat.mul_one]; exact hcx))) ?_)))) | refine stA ?_ | ((first | refine hK _ _ _ _ ?_ | refine hX _ _ _ _ _ (by simp) ?_); clear hK hX K) | (first | refine bJ zio ztr rfl rfl (ResL.one (ResA.tmp rfl)) ?_ | refine bI zio ztr rfl rfl (ResL.one (ResA.tmp rfl)) ?_))
    exact ⟨(i, a4, o ++ [⟨[⟨k1, m1', t1⟩, ⟨k2, m2', t2⟩], c⟩], q + 1), ⟨by rw [List.length_append, hq]; rfl, p5, p6, hst', hse⟩, by simp only; omega, (by refine cE [0, 8] rfl rfl ?_ ?_ rfl rfl <;> (repeat' (first | exact bQ | exact bR | refine bL rfl (by first | rfl | (exact congrArg (AObj.row 68) (dM o ⟨[⟨k1, m1', t1⟩, ⟨k2, m2', t2⟩], c⟩)) | exact zeq) rfl ?_ | refine bH rfl (by first | rfl | (exact congrArg (AObj.row 68) (dM o ⟨[⟨k1, m1', t1⟩, ⟨k2, m2', t2⟩], c⟩)) | exact zeq) rfl ?_)))⟩
  | zero =>
    rw [entsF, List.append_nil] at hst
    rw [entsA] at hse
    rw [hst] at hlo ⊢
    rw [hse]
    have hqQ : q = Q := by omega
    rw [hqQ] at hlo ⊢
    clear hZ hA b3 b4 hx0 hst hse hq hqi hqQ i1 i2
    have fx0 : Z = (Z.take 0).map (fixE sg) ++ Z.drop 0 := by simp
    have fxN : (Z.take Q).map (fixE sg) ++ Z.drop Q = Z.map (fixE sg) := by rw [List.take_of_length_le (by omega), List.drop_eq_nil_of_le (by omega), List.append_nil]
    repeat' (first | ((with_reducible refine aD ?_); intro K hK hX) | ((with_reducible refine aE ?_); refine aA [0, 1, 2, 3, 6, 7, 8, 9, 10, 11] rfl rfl ?_; with_reducible refine aB ?_) | ((first | with_reducible refine aF ?_ | with_reducible refine aR ?_); refine aY tabOk [0, 1, 2, 3, 4, 5, 6, 7, 8, 9, 10, 11, 12, 13, 14, 15, 16, 17, 18, 19, 20, 21, 22, 23, 24, 25, 26, 27, 28, 29, 30, 31, 32, 33, 34, 35, 36, 37, 38, 39, 40, 41, 42, 43, 44, 45, 46, 47, 48] aH rfl rfl zby Tryz.func49 rfl rfl rfl (szf := 40) (by rw [Tryz.ntmps49]; rfl) rfl ?_) | refine stA ?_ | ((first | refine hK _ _ _ _ ?_ | refine hX _ _ _ _ _ (by simp) ?_); clear hK hX K) | (first | refine bJ zio ztr rfl rfl (ResL.one (ResA.tmp rfl)) ?_ | refine bI zio ztr rfl rfl (ResL.one (ResA.tmp rfl)) ?_))
    refine bD [10] [1] rfl rfl (fun i : Nat => [(10, .c (iv i))]) (fun i => [(1, .row 68 (ec ((Z.take i).map (fixE sg) ++ Z.drop i)))]) (fun i => i ≤ Q) (fun i => Q - i) 0 (Nat.zero_le _) (by refine cL rfl ?_ ?_ rfl <;> (repeat' (first | exact bO | exact bZ | refine bG rfl (by first | rfl | (exact congrArg (fun x => AObj.row 68 (ec x)) fx0) | exact zeq) rfl ?_ | refine bP rfl (by first | rfl | (exact congrArg (fun x => AObj.row 68 (ec x)) fx0) | exact zeq) rfl ?_))) ?_
    intro i hi K hK hX
    have hLl : (ec ((Z.take i).map (fixE sg) ++ Z.drop i)).length = Q * 2 := by rw [bM, fx_length, hQ]
    by_cases hlt : i < Q
    · obtain ⟨e, he⟩ : ∃ e, Z[i]? = some e := ⟨Z[i]'(by omega), List.getElem?_eq_getElem _⟩
      have hat := fx_at (fixE sg) he
      have hsu := fx_succ (fixE sg) he
      have hen := lF hat
      have hbd := hr2 e (List.mem_of_getElem? he)
      generalize (Z.take i).map (fixE sg) ++ Z.drop i = L at *
      obtain ⟨r, c⟩ := e
      obtain ⟨_, _, hc1, hc2⟩ := hbd
      simp only at hen hc1 hc2
      clear hr2 hnm fx0 fxN he
      cases sg with
      | true =>
        have hf : fixE true ⟨r, c⟩ = ⟨r, c⟩ := by unfold fixE; rw [if_neg (fun h => by simp at h)]
        rw [hf, fx_same hat] at hsu
        repeat' (first | ((with_reducible refine aD ?_); intro K hK hX) | ((with_reducible refine aE ?_); refine aA [0, 1, 2, 3, 6, 7, 8, 9, 10, 11] rfl rfl ?_; with_reducible refine aB ?_) | ((first | with_reducible refine aF ?_ | with_reducible refine aR ?_); refine aY tabOk [0, 1, 2, 3, 4, 5, 6, 7, 8, 9, 10, 11, 12, 13, 14, 15, 16, 17, 18, 19, 20, 21, 22, 23, 24, 25, 26, 27, 28, 29, 30, 31, 32, 33, 34, 35, 36, 37, 38, 39, 40, 41, 42, 43, 44, 45, 46, 47, 48] aH rfl rfl zby Tryz.func49 rfl rfl rfl (szf := 40) (by rw [Tryz.ntmps49]; rfl) rfl ?_) | refine stA ?_ | ((first | refine hK _ _ _ _ ?_ | refine hX _ _ _ _ _ (by simp) ?_); clear hK hX K) | (first | refine bJ zio ztr rfl rfl (ResL.one (ResA.tmp rfl)) ?_ | refine bI zio ztr rfl rfl (ResL.one (ResA.tmp rfl)) ?_))
        exact ⟨i + 1, by omega, by omega, (by refine cL rfl ?_ ?_ rfl <;> (repeat' (first | exact bO | exact bZ | refine bG rfl (by first | rfl | (exact congrArg (fun x => AObj.row 68 (ec x)) hsu.symm) | exact zeq) rfl ?_ | refine bP rfl (by first | rfl | (exact congrArg (fun x => AObj.row 68 (ec x)) hsu.symm) | exact zeq) rfl ?_)))⟩
      | false =>
        by_cases hneg : c < 0
        · have hf : fixE false ⟨r, c⟩ = ⟨r, -c⟩ := by unfold fixE; rw [if_pos ⟨rfl, hneg⟩]
          have hz : 0 - c = -c := by omega
          rw [hf, ← hz] at hsu
          have hset : (ec L).set (0 + i * 2 + 1) (iv (0 - c)) = ec ((Z.take (i + 1)).map (fixE false) ++ Z.drop (i + 1)) := by rw [Nat.zero_add, hsu]; exact pM (m := 0 - c) hat
          repeat' (first | ((with_reducible refine aD ?_); intro K hK hX) | ((with_reducible refine aE ?_); refine aA [0, 1, 2, 3, 6, 7, 8, 9, 10, 11] rfl rfl ?_; with_reducible refine aB ?_) | ((first | with_reducible refine aF ?_ | with_reducible refine aR ?_); refine aY tabOk [0, 1, 2, 3, 4, 5, 6, 7, 8, 9, 10, 11, 12, 13, 14, 15, 16, 17, 18, 19, 20, 21, 22, 23, 24, 25, 26, 27, 28, 29, 30, 31, 32, 33, 34, 35, 36, 37, 38, 39, 40, 41, 42, 43, 44, 45, 46, 47, 48] aH rfl rfl zby Tryz.func49 rfl rfl rfl (szf := 40) (by rw [Tryz.ntmps49]; rfl) rfl ?_) | (((with_reducible refine aI ?_); refine xA ?_); (first | ((with_reducible refine aO ?_); (first | refine aC (aT tabOk rfl rfl rfl rfl (by (rw [Nat.zero_add]; exact hen))) ?_ | refine aC (aN tabOk rfl rfl rfl rfl (by (rw [Nat.zero_add]; exact hen))) ?_ | refine aC (aM tabOk rfl rfl rfl (by (rw [Nat.zero_add]; exact hen))) ?_)) | ((with_reducible refine bX ?_); (first | refine aC (s_ixV1 tabOk rfl rfl zcj rfl rfl rfl rfl rfl zle (by (rw [Nat.zero_add]; exact hen))) ?_ | refine aC (aS tabOk rfl rfl zcj rfl rfl (by (rw [Nat.zero_add]; exact hen))) ?_)))) | ((with_reducible refine dB ?_); (refine fP tabOk aH rfl rfl rfl rfl rfl rfl (by first | omega | exact Nat.le_of_ble_eq_true rfl | omega | (simp <;> omega)) ?_)) | refine stA ?_ | ((first | refine hK _ _ _ _ ?_ | refine hX _ _ _ _ _ (by simp) ?_); clear hK hX K) | (first | refine bJ zio ztr rfl rfl (ResL.one (ResA.tmp rfl)) ?_ | refine bI zio ztr rfl rfl (ResL.one (ResA.tmp rfl)) ?_))
          exact ⟨i + 1, by omega, by omega, (by refine cL rfl ?_ ?_ rfl <;> (repeat' (first | exact bO | exact bZ | refine bG rfl (by first | rfl | (exact congrArg (AObj.row 68) hset) | exact zeq) rfl ?_ | refine bP rfl (by first | rfl | (exact congrArg (AObj.row 68) hset) | exact zeq) rfl ?_)))⟩
        · have hf : fixE false ⟨r, c⟩ = ⟨r, c⟩ := by unfold fixE; rw [if_neg (fun h => hneg h.2)]
          rw [hf, fx_same hat] at hsu
          repeat' (first | ((with_reducible refine aD ?_); intro K hK hX) | ((with_reducible refine aE ?_); refine aA [0, 1, 2, 3, 6, 7, 8, 9, 10, 11] rfl rfl ?_; with_reducible refine aB ?_) | ((first | with_reducible refine aF ?_ | with_reducible refine aR ?_); refine aY tabOk [0, 1, 2, 3, 4, 5, 6, 7, 8, 9, 10, 11, 12, 13, 14, 15, 16, 17, 18, 19, 20, 21, 22, 23, 24, 25, 26, 27, 28, 29, 30, 31, 32, 33, 34, 35, 36, 37, 38, 39, 40, 41, 42, 43, 44, 45, 46, 47, 48] aH rfl rfl zby Tryz.func49 rfl rfl rfl (szf := 40) (by rw [Tryz.ntmps49]; rfl) rfl ?_) | (((with_reducible refine aI ?_); refine xA ?_); (first | ((with_reducible refine aO ?_); (first | refine aC (aT tabOk rfl rfl rfl rfl (by (rw [Nat.zero_add]; exact hen))) ?_ | refine aC (aN tabOk rfl rfl rfl rfl (by (rw [Nat.zero_add]; exact hen))) ?_ | refine aC (aM tabOk rfl rfl rfl (by (rw [Nat.zero_add]; exact hen))) ?_)) | ((with_reducible refine bX ?_); (first | refine aC (s_ixV1 tabOk rfl rfl zcj rfl rfl rfl rfl rfl zle (by (rw [Nat.zero_add]; exact hen))) ?_ | refine aC (aS tabOk rfl rfl zcj rfl rfl (by (rw [Nat.zero_add]; exact hen))) ?_)))) | refine stA ?_ | ((first | refine hK _ _ _ _ ?_ | refine hX _ _ _ _ _ (by simp) ?_); clear hK hX K) | (first | refine bJ zio ztr rfl rfl (ResL.one (ResA.tmp rfl)) ?_ | refine bI zio ztr rfl rfl (ResL.one (ResA.tmp rfl)) ?_))
          exact ⟨i + 1, by omega, by omega, (by refine cL rfl ?_ ?_ rfl <;> (repeat' (first | exact bO | exact bZ | refine bG rfl (by first | rfl | (exact congrArg (fun x => AObj.row 68 (ec x)) hsu.symm) | exact zeq) rfl ?_ | refine bP rfl (by first | rfl | (exact congrArg (fun x => AObj.row 68 (ec x)) hsu.symm) | exact zeq) rfl ?_)))⟩
    · have hiQ : i = Q := by omega
      rw [hiQ] at hLl ⊢
      rw [fxN] at hLl ⊢
      clear hr2 fx0 fxN
      repeat' (first | ((with_reducible refine aD ?_); intro K hK hX) | ((with_reducible refine aE ?_); refine aA [0, 1, 2, 3, 6, 7, 8, 9, 10, 11] rfl rfl ?_; with_reducible refine aB ?_) | ((with_reducible refine aF ?_); refine lN 44 rfl rfl zln ?_) | ((with_reducible refine aF ?_); (first | refine zA ?_ | refine zN ?_); (first | refine c0 (hnm) ?_)) | ((first | with_reducible refine aF ?_ | with_reducible refine aR ?_); refine aY tabOk [0, 1, 2, 3, 4, 5, 6, 7, 8, 9, 10, 11, 12, 13, 14, 15, 16, 17, 18, 19, 20, 21, 22, 23, 24, 25, 26, 27, 28, 29, 30, 31, 32, 33, 34, 35, 36, 37, 38, 39, 40, 41, 42, 43, 44, 45, 46, 47, 48] aH rfl rfl zby Tryz.func49 rfl rfl rfl (szf := 40) (by rw [Tryz.ntmps49]; rfl) rfl ?_) | refine stA ?_ | ((first | refine hK _ _ _ _ ?_ | refine hX _ _ _ _ _ (by simp) ?_); clear hK hX K) | (first | refine bJ zio ztr rfl rfl (ResL.one (ResA.tmp rfl)) ?_ | refine bI zio ztr rfl rfl (ResL.one (ResA.tmp rfl)) ?_))
      refine cC zio ztr rfl rfl (ResL.one (ResA.tmp rfl)) (cM zfz rfl rfl)
end Go.Proofs.YtccnhpaldmjkbaaGreat
