/-
  Joined texts: I8. Lemmas; no statement of a law.
-/
import Derived.Test.YtccnhpaldmjkbaaGreatQ24
set_option linter.unusedSimpArgs false
set_option linter.unusedVariables false
namespace Go.Proofs.YtccnhpaldmjkbaaGreat
open Go Go.RowKit Go.Av
set_option maxRecDepth 100000
def vAB : Vl := ⟨2, 0, [97, 32, 98]⟩
def bAB : List En := [⟨[vAB], 2⟩]
def pAB : List Po := [⟨[97], [vAB], 2⟩, ⟨[98], [vAB], 2⟩]
def wOld : Wd := [79, 108, 100, 45, 83, 116, 114, 101, 101, 116, 32, 53, 44, 32, 111, 108, 100]
def lOld : List Wd := [[53], [111, 108, 100], [115, 116, 114, 101, 101, 116]]
theorem okAB : okP vAB := .inr (.inr ⟨rfl, rfl, by decide⟩)
theorem wordsAB : wordsP [97, 32, 98] = [[97], [98]] := by
  unfold wordsP
  rw [show rawW [97, 32, 98] = [[97], [98]] by decide +kernel]
  exact qS (by unfold ascW; decide)
theorem wordsOld : wordsP wOld = lOld := by
  unfold wordsP
  rw [show rawW wOld = [[111, 108, 100], [115, 116, 114, 101, 101, 116], [53], [111, 108, 100]] by decide +kernel]
  refine jL (cL _).1 (by unfold ascW lOld; decide) fun x => ?_
  rw [(cL _).2]
  unfold lOld
  simp only [List.mem_cons, List.not_mem_nil, or_false]
  exact ⟨fun h => by rcases h with h | h | h | h <;> simp [h], fun h => by rcases h with h | h | h <;> simp [h]⟩
theorem postAB : postP (prs 0 bAB) = pAB := by
  have h1 : prs 0 bAB = [([97], ⟨[vAB], 2⟩), ([98], ⟨[vAB], 2⟩)] := by
    show (wdsE 0 [vAB]).map _ ++ [] = _
    have : wdsE 0 [vAB] = [[97], [98]] := wordsAB
    rw [this]; rfl
  rw [h1]
  unfold postP
  rw [show ([([97], (⟨[vAB], 2⟩ : En)), ([98], ⟨[vAB], 2⟩)] : List (Wd × En)).map (·.1) = [[97], [98]] from rfl, qS (by unfold ascW; decide)]
  simp [ofW, mkPo, pAB]
theorem fitAB : fitB bAB := fun e he => by
  have : e = ⟨[vAB], 2⟩ := by simpa [bAB] using he
  subst this
  simp [maxLen]
theorem posAB : posP bAB := by
  refine ⟨⟨by decide, fun i hi e he => ?_⟩, fun e he => ?_⟩
  · obtain rfl : i = 0 := by simpa [bAB] using hi
    have : e = ⟨[vAB], 2⟩ := by simpa [bAB] using he.symm
    subst this
    exact ⟨⟨by decide, by decide, by decide, fun v hv => by
      have : v = vAB := by simpa using hv
      subst this; exact okAB⟩, by decide, fun f h => absurd h (by decide)⟩
  · have : e = ⟨[vAB], 2⟩ := by simpa [bAB] using he
    subst this
    decide
attribute [local irreducible] Still Adds AWL AW Drw DrwE EStep AC AWR Weak Frz Src RetK Out InK ItK AsK RdK
set_option maxHeartbeats 4000000 in
theorem yH : AC Tryz.prog 17 [] (.c (bv true)) [] 0 := by
  have h1 := mI [97, 32, 98]
  rw [eZ (v := ⟨2, 0, [97, 32, 98]⟩) okAB] at h1
  have h2 := ibuild_ok bAB 1 rfl fitAB posAB 0 (by decide) 2 (by rw [postAB]; rfl)
  rw [postAB] at h2
  have h3 := sameP_ok pAB 2 rfl (by decide) (fun x hx => by
    rcases List.mem_cons.1 hx with rfl | hx
    · decide
    · have : x = ⟨[98], [vAB], 2⟩ := by simpa using hx
      subst this; decide)
  have h4 := xW wOld (by decide)
  rw [wordsOld] at h4
  have h5 := sameS_ok lOld 3 rfl (by decide)
  simp only [Vl.c] at h1
  refine aJ tabOk (sz := 29) Tryz.func17 rfl (by rw [Tryz.ntmps17]; rfl) ?_
  repeat' (first | ((with_reducible refine aB ?_); intro K hK hX) | ((with_reducible refine aC ?_); refine aD [0, 1, 2, 3] rfl rfl ?_) | ((with_reducible refine cK ?_); (refine wA ?_); (first | refine eL (bK (cM tabOk rfl rfl rfl rfl rfl) zln) ?_ | refine eL (bK (cU tabOk rfl rfl rfl rfl rfl rfl rfl rfl rfl rfl rfl rfl (cI rfl) (by first | rfl | exact all1 (by assumption) | (simp <;> fail) | fail) (by rfl)) zln) ?_)) | ((with_reducible refine aE ?_); (first | refine zA ?_ | refine zN ?_); (first | refine c0 h1 ?_ | refine c0 h2 ?_ | refine c0 h3 ?_ | refine c0 h4 ?_ | refine c0 h5 ?_)) | refine stA ?_ | ((first | refine hK _ _ _ _ ?_ | refine hX _ _ _ _ _ (by simp) ?_); clear hK hX K))
  refine aK zio ztr rfl (ResL.one (ResA.tmp rfl)) zou
end Go.Proofs.YtccnhpaldmjkbaaGreat
