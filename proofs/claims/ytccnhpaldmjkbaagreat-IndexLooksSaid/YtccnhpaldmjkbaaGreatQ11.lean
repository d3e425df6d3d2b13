/-
  Joined texts: T9 T10 T11. Lemmas; no statement of a law.
-/
import Derived.Test.YtccnhpaldmjkbaaGreatQ10
set_option maxHeartbeats 16000000
set_option linter.unusedSimpArgs false
set_option linter.unusedVariables false
namespace Go.Proofs.YtccnhpaldmjkbaaGreat
open Go Go.RowKit Go.Av
set_option maxRecDepth 100000
theorem cX (l : List Int) (n : Nat) (a m : Int) (hm : 2 ≤ m) (hm2 : m ≤ 4294967296) : 0 ≤ nextX l n a m ∧ nextX l n a m < m := by
  unfold nextX
  split
  · omega
  · exact wL _ _ hm hm2
theorem cB (n : Nat) (a m : Int) (ha : 0 ≤ a) (ha2 : a ≤ 9223372036854775807) : 0 ≤ nextA n a m ∧ nextA n a m ≤ 9223372036854775807 := by
  unfold nextA
  split
  · omega
  · rename_i h
    have : ¬ IntKind.i64.wrap (4 * (n : Int)) ≤ a := fun h2 => h (.inr (.inr h2))
    have : IntKind.i64.wrap (4 * (n : Int)) ≤ 9223372036854775807 := by rw [IntKind.wrap_i64]; omega
    omega
def vI (n : Int) : Vl := ⟨1, n, []⟩
def vT (b : UInt8) : Vl := ⟨2, 0, [b]⟩
def shortV (x : Int) : Vl := [Vl.nul, vI 1, vI 2, vI 3, vT 97, vT 98].getD x.toNat Vl.nul
theorem okI (n : Int) (h1 : -4294967296 ≤ n) (h2 : n ≤ 4294967296) : okP (vI n) := .inr (.inl ⟨rfl, h1, h2, rfl⟩)
theorem okT (b : UInt8) : okP (vT b) := .inr (.inr ⟨rfl, rfl, by simp [vT]⟩)
theorem sO (x : Int) : okP (shortV x) := by
  unfold shortV
  rw [List.getD_eq_getElem?_getD]
  generalize x.toNat = k
  match k with
  | 0 => exact tO
  | 1 => exact okI 1 (by decide) (by decide)
  | 2 => exact okI 2 (by decide) (by decide)
  | 3 => exact okI 3 (by decide) (by decide)
  | 4 => exact okT 97
  | 5 => exact okT 98
  | k + 6 => exact tO
attribute [local irreducible] Still Adds AWL AW Drw DrwE EStep AC AWR Weak Frz Src RetK Out InK ItK AsK RdK RetT OutT ACT
theorem qT (l : List Int) (n : Nat) (a : Int) (hn : l.length = n) (hnn : n ≤ maxLen) (ha0 : 0 ≤ a) (ha : a ≤ 9223372036854775807) : ACT Tryz.prog 43 72 (tpC l n a) [] (tpC l n (nextA n a 6)) (.agg (shortV (nextX l n a 6)).c) := by
  have h1 := oS 1
  rw [eZ (v := ⟨1, 1, []⟩) (okI 1 (by decide) (by decide))] at h1
  have h2 := oS 2
  rw [eZ (v := ⟨1, 2, []⟩) (okI 2 (by decide) (by decide))] at h2
  have h3 := oS 3
  rw [eZ (v := ⟨1, 3, []⟩) (okI 3 (by decide) (by decide))] at h3
  have h4 := mI [97]
  rw [eZ (v := ⟨2, 0, [97]⟩) (okT 97)] at h4
  have h5 := mI [98]
  rw [eZ (v := ⟨2, 0, [98]⟩) (okT 98)] at h5
  have hx := dZ l n a 6 hn hnn ha0 ha (by decide)
  obtain ⟨b1, b2⟩ := cX l n a 6 (by decide) (by decide)
  generalize nextX l n a 6 = x at hx b1 b2 ⊢
  generalize nextA n a 6 = a1 at hx ⊢
  simp only [Vl.c] at h1 h2 h3 h4 h5
  rcases (show x = 0 ∨ x = 1 ∨ x = 2 ∨ x = 3 ∨ x = 4 ∨ x = 5 by omega) with e | e | e | e | e | e
  ·
    subst e
    refine bX tabOk (sz := 14) Tryz.func43 rfl (by rw [Tryz.ntmps43]; rfl) ?_
    repeat' (first | ((with_reducible refine aB ?_); intro K hK hX) | ((with_reducible refine aC ?_); refine aD [0, 2] rfl rfl ?_) | ((with_reducible refine aE ?_); refine aX (hx) aL rfl zby rfl rfl rfl rfl zcv rfl ztp ?_) | ((with_reducible refine aE ?_); (first | refine zA ?_ | refine zN ?_); (first | refine c0 h1 ?_ | refine c0 h2 ?_ | refine c0 h3 ?_ | refine c0 h4 ?_ | refine c0 h5 ?_)) | refine stA ?_ | ((first | refine hK _ _ _ _ ?_ | refine hX _ _ _ _ _ (by simp) ?_); clear hK hX K))
    refine cH zio ztr rfl rfl (ResL.one zrs) (cT zfz rfl rfl)
  ·
    subst e
    refine bX tabOk (sz := 14) Tryz.func43 rfl (by rw [Tryz.ntmps43]; rfl) ?_
    repeat' (first | ((with_reducible refine aB ?_); intro K hK hX) | ((with_reducible refine aC ?_); refine aD [0, 2] rfl rfl ?_) | ((with_reducible refine aE ?_); refine aX (hx) aL rfl zby rfl rfl rfl rfl zcv rfl ztp ?_) | ((with_reducible refine aE ?_); (first | refine zA ?_ | refine zN ?_); (first | refine c0 h1 ?_ | refine c0 h2 ?_ | refine c0 h3 ?_ | refine c0 h4 ?_ | refine c0 h5 ?_)) | refine stA ?_ | ((first | refine hK _ _ _ _ ?_ | refine hX _ _ _ _ _ (by simp) ?_); clear hK hX K))
    refine cH zio ztr rfl rfl (ResL.one zrs) (cT zfz rfl rfl)
  ·
    subst e
    refine bX tabOk (sz := 14) Tryz.func43 rfl (by rw [Tryz.ntmps43]; rfl) ?_
    repeat' (first | ((with_reducible refine aB ?_); intro K hK hX) | ((with_reducible refine aC ?_); refine aD [0, 2] rfl rfl ?_) | ((with_reducible refine aE ?_); refine aX (hx) aL rfl zby rfl rfl rfl rfl zcv rfl ztp ?_) | ((with_reducible refine aE ?_); (first | refine zA ?_ | refine zN ?_); (first | refine c0 h1 ?_ | refine c0 h2 ?_ | refine c0 h3 ?_ | refine c0 h4 ?_ | refine c0 h5 ?_)) | refine stA ?_ | ((first | refine hK _ _ _ _ ?_ | refine hX _ _ _ _ _ (by simp) ?_); clear hK hX K))
    refine cH zio ztr rfl rfl (ResL.one zrs) (cT zfz rfl rfl)
  ·
    subst e
    refine bX tabOk (sz := 14) Tryz.func43 rfl (by rw [Tryz.ntmps43]; rfl) ?_
    repeat' (first | ((with_reducible refine aB ?_); intro K hK hX) | ((with_reducible refine aC ?_); refine aD [0, 2] rfl rfl ?_) | ((with_reducible refine aE ?_); refine aX (hx) aL rfl zby rfl rfl rfl rfl zcv rfl ztp ?_) | ((with_reducible refine aE ?_); (first | refine zA ?_ | refine zN ?_); (first | refine c0 h1 ?_ | refine c0 h2 ?_ | refine c0 h3 ?_ | refine c0 h4 ?_ | refine c0 h5 ?_)) | refine stA ?_ | ((first | refine hK _ _ _ _ ?_ | refine hX _ _ _ _ _ (by simp) ?_); clear hK hX K))
    refine cH zio ztr rfl rfl (ResL.one zrs) (cT zfz rfl rfl)
  ·
    subst e
    refine bX tabOk (sz := 14) Tryz.func43 rfl (by rw [Tryz.ntmps43]; rfl) ?_
    repeat' (first | ((with_reducible refine aB ?_); intro K hK hX) | ((with_reducible refine aC ?_); refine aD [0, 2] rfl rfl ?_) | ((with_reducible refine aE ?_); refine aX (hx) aL rfl zby rfl rfl rfl rfl zcv rfl ztp ?_) | ((with_reducible refine aE ?_); (first | refine zA ?_ | refine zN ?_); (first | refine c0 h1 ?_ | refine c0 h2 ?_ | refine c0 h3 ?_ | refine c0 h4 ?_ | refine c0 h5 ?_)) | refine stA ?_ | ((first | refine hK _ _ _ _ ?_ | refine hX _ _ _ _ _ (by simp) ?_); clear hK hX K))
    refine cH zio ztr rfl rfl (ResL.one zrs) (cT zfz rfl rfl)
  ·
    subst e
    refine bX tabOk (sz := 14) Tryz.func43 rfl (by rw [Tryz.ntmps43]; rfl) ?_
    repeat' (first | ((with_reducible refine aB ?_); intro K hK hX) | ((with_reducible refine aC ?_); refine aD [0, 2] rfl rfl ?_) | ((with_reducible refine aE ?_); refine aX (hx) aL rfl zby rfl rfl rfl rfl zcv rfl ztp ?_) | ((with_reducible refine aE ?_); (first | refine zA ?_ | refine zN ?_); (first | refine c0 h1 ?_ | refine c0 h2 ?_ | refine c0 h3 ?_ | refine c0 h4 ?_ | refine c0 h5 ?_)) | refine stA ?_ | ((first | refine hK _ _ _ _ ?_ | refine hX _ _ _ _ _ (by simp) ?_); clear hK hX K))
    refine cH zio ztr rfl rfl (ResL.one zrs) (cT zfz rfl rfl)
end Go.Proofs.YtccnhpaldmjkbaaGreat
namespace Go.Proofs.YtccnhpaldmjkbaaGreat
open Go Go.RowKit Go.Av
set_option maxRecDepth 100000
def suppE (b : List En) : List En := b.map fun e => ⟨e.r, 1⟩
attribute [local irreducible] Still Adds AWL AW Drw DrwE EStep AC AWR Weak Frz Src RetK Out InK ItK AsK RdK RetT OutT ACT
theorem fits_ok (b : List En) (n : Nat) (hn : b.length = n) (hm : n ≤ 4096) (hb : ∀ e ∈ b, -262144 ≤ e.n ∧ e.n ≤ 262144) : AC Tryz.prog 103 [.sl 2 n (ec b)] (.tup [.c (.sl 2 n (ec b)), .c (iv 0)]) [] 0 := by
  have hbl : (ec b).length = n * 2 := by rw [bH, hn]
  refine aJ tabOk (sz := 22) Tryz.func103 rfl (by rw [Tryz.ntmps103]; rfl) ?_
  repeat' (first | ((with_reducible refine aB ?_); intro K hK hX) | ((with_reducible refine aC ?_); refine aD [0, 2, 3, 4] rfl rfl ?_) | refine stA ?_ | ((first | refine hK _ _ _ _ ?_ | refine hX _ _ _ _ _ (by simp) ?_); clear hK hX K))
  refine bC [4] [] rfl rfl (fun i : Nat => [(4, .c (iv i))]) (fun i => []) (fun i => i ≤ n) (fun i => n - i) 0 (by omega) weakA ?_
  intro i hi K hK hX
  by_cases hlt : i < n
  · obtain ⟨e, he⟩ : ∃ e, b[i]? = some e := ⟨b[i]'(by omega), List.getElem?_eq_getElem _⟩
    have hen := lB he
    have h1 := iN e.n
    rw [decide_eq_true (hb e (List.mem_of_getElem? he))] at h1
    clear hb
    obtain ⟨r, c⟩ := e
    simp only at *
    repeat' (first | ((with_reducible refine aB ?_); intro K hK hX) | ((with_reducible refine aC ?_); refine aD [0, 2, 3, 4] rfl rfl ?_) | ((with_reducible refine aE ?_); (first | refine zA ?_ | refine zN ?_); (first | refine c0 h1 ?_)) | (((with_reducible refine aH ?_); refine xA ?_); (first | ((with_reducible refine aP ?_); (first | refine aA (aR tabOk rfl rfl rfl rfl (by exact hen)) ?_ | refine aA (aN tabOk rfl rfl rfl rfl (by exact hen)) ?_ | refine aA (aM tabOk rfl rfl rfl (by exact hen)) ?_)) | ((with_reducible refine bR ?_); (first | refine aA (s_ixV1 tabOk rfl rfl zcj rfl rfl rfl rfl rfl zle (by exact hen)) ?_ | refine aA (aQ tabOk rfl rfl zcj rfl rfl (by exact hen)) ?_)))) | refine stA ?_ | ((first | refine hK _ _ _ _ ?_ | refine hX _ _ _ _ _ (by simp) ?_); clear hK hX K))
    exact ⟨i + 1, by omega, by omega, weakA⟩
  · clear hb
    repeat' (first | ((with_reducible refine aB ?_); intro K hK hX) | ((with_reducible refine aC ?_); refine aD [0, 2, 3, 4] rfl rfl ?_) | refine stA ?_ | ((first | refine hK _ _ _ _ ?_ | refine hX _ _ _ _ _ (by simp) ?_); clear hK hX K))
    refine aK zio ztr rfl (ResL.two (ResA.tmp rfl) (ResA.tmp rfl)) (jG (bV zfz (bV zfz dG)))
open Classical in
theorem norm_ok (b : List En) (n N : Nat) (hn : b.length = n) (hm : n ≤ 1000) (hr : ∀ e ∈ b, rowP e.r) (hb : absS b ≤ 1000) (hN : (sortE b).length = N) : AC Tryz.prog 44 [.sl 2 n (ec b)] (.tup [.c (.sl 2 N (ec (sortE b))), .c (iv 0)]) [] 0 := by
  have hbl : (ec b).length = n * 2 := by rw [bH, hn]
  have hfit : fitB b := fun e he => by have := (hr e he).1; simp only [maxLen]; omega
  have hs := sort_ok n b N hn (by omega) hfit (by omega) hN
  obtain ⟨f1, f2, f3⟩ := fZ n b (by omega)
  have hf := fits_ok (sortE b) N hN (by omega) fun e he => by have := jK he; omega
  generalize sortE b = S at hs hf hN f1 f2 f3 ⊢
  clear f1 f2 f3
  refine aJ tabOk (sz := 32) Tryz.func44 rfl (by rw [Tryz.ntmps44]; rfl) ?_
  repeat' (first | ((with_reducible refine aB ?_); intro K hK hX) | ((with_reducible refine aC ?_); refine aD [0, 2, 3, 4] rfl rfl ?_) | refine stA ?_ | ((first | refine hK _ _ _ _ ?_ | refine hX _ _ _ _ _ (by simp) ?_); clear hK hX K))
  refine bC [4] [] rfl rfl (fun i : Nat => [(4, .c (iv i))]) (fun i => []) (fun i => i ≤ n) (fun i => n - i) 0 (by omega) weakA ?_
  intro i hi K hK hX
  by_cases hlt : i < n
  · obtain ⟨e, he⟩ : ∃ e, b[i]? = some e := ⟨b[i]'(by omega), List.getElem?_eq_getElem _⟩
    have hmem := List.mem_of_getElem? he
    have hen := lB he
    have her := dW he
    have hab := jK hmem
    have h1 := iN e.n
    rw [decide_eq_true (show -262144 ≤ e.n ∧ e.n ≤ 262144 by omega)] at h1
    have h2 := kB e.r e.r.length rfl (hfit e hmem)
    rw [decide_eq_true (hr e hmem)] at h2
    clear hr hfit hs hf hab
    obtain ⟨r, c⟩ := e
    simp only at *
    repeat' (first | ((with_reducible refine aB ?_); intro K hK hX) | ((with_reducible refine aC ?_); refine aD [0, 2, 3, 4] rfl rfl ?_) | ((with_reducible refine aE ?_); (first | refine zA ?_ | refine zN ?_); (first | refine c0 h1 ?_ | refine c0 h2 ?_)) | (((with_reducible refine aH ?_); refine xA ?_); (first | ((with_reducible refine aP ?_); (first | refine aA (aR tabOk rfl rfl rfl rfl (by first | exact hen | exact her)) ?_ | refine aA (aN tabOk rfl rfl rfl rfl (by first | exact hen | exact her)) ?_ | refine aA (aM tabOk rfl rfl rfl (by first | exact hen | exact her)) ?_)) | ((with_reducible refine bR ?_); (first | refine aA (s_ixV1 tabOk rfl rfl zcj rfl rfl rfl rfl rfl zle (by first | exact hen | exact her)) ?_ | refine aA (aQ tabOk rfl rfl zcj rfl rfl (by first | exact hen | exact her)) ?_)))) | refine stA ?_ | ((first | refine hK _ _ _ _ ?_ | refine hX _ _ _ _ _ (by simp) ?_); clear hK hX K))
    exact ⟨i + 1, by omega, by omega, weakA⟩
  · clear hr hfit
    repeat' (first | ((with_reducible refine aB ?_); intro K hK hX) | ((with_reducible refine aC ?_); refine aD [0, 2, 3, 4] rfl rfl ?_) | ((with_reducible refine aE ?_); (first | refine zA ?_ | refine zN ?_); (first | refine c0 hs ?_ | refine c0 hf ?_)) | refine stA ?_ | ((first | refine hK _ _ _ _ ?_ | refine hX _ _ _ _ _ (by simp) ?_); clear hK hX K))
    refine aK zio ztr rfl (ResL.two (ResA.tmp rfl) (ResA.tmp rfl)) (jG (bV zfz (bV zfz dG)))
end Go.Proofs.YtccnhpaldmjkbaaGreat
namespace Go.Proofs.YtccnhpaldmjkbaaGreat
open Go Go.RowKit Go.Av
set_option maxRecDepth 100000
def rowR (l : List Int) (n : Nat) (a : Int) : List Vl := [shortV (nextX l n a 6), shortV (nextX l n (nextA n a 6) 6)]
def rowA (n : Nat) (a : Int) : Int := nextA n (nextA n a 6) 6
def cntV (x : Int) : Int := [1, 1, 1, 2, -1, 3, -2, 0].getD x.toNat 0
def entR (l : List Int) (n : Nat) (a : Int) : En := ⟨rowR l n a, cntV (nextX l n (rowA n a) 8)⟩
def entA (n : Nat) (a : Int) : Int := nextA n (rowA n a) 8
def entsF (l : List Int) (n : Nat) : Nat → Int → List En
  | 0, _ => []
  | i + 1, a => entR l n a :: entsF l n i (entA n a)
def entsA (n : Nat) : Nat → Int → Int
  | 0, a => a
  | i + 1, a => entsA n i (entA n a)
def fixE (sg : Bool) (e : En) : En := if sg = false ∧ e.n < 0 then ⟨e.r, -e.n⟩ else e
def rawF (l : List Int) (n : Nat) (a m : Int) : List En := entsF l n (nextX l n a m).toNat (nextA n a m)
def bagF (l : List Int) (n : Nat) (a m : Int) (sg : Bool) : List En := sortE ((rawF l n a m).map (fixE sg))
def bagA (l : List Int) (n : Nat) (a m : Int) : Int := entsA n (nextX l n a m).toNat (nextA n a m)
theorem absS_le {l : List En} {D : Nat} (h : ∀ e ∈ l, e.n.natAbs ≤ D) : absS l ≤ D * l.length := by
  induction l with
  | nil => simp [absS]
  | cons e l ih =>
    have h1 := h e (by simp)
    have h2 := ih fun e he => h e (by simp [he])
    rw [gE, List.length_cons, Nat.mul_add]
    omega
attribute [local irreducible] Still Adds AWL AW Drw DrwE EStep AC AWR Weak Frz Src RetK Out InK ItK AsK RdK RetT OutT ACT
end Go.Proofs.YtccnhpaldmjkbaaGreat
