/-
  Joined texts: F9. Lemmas; no statement of a law.
-/
import Derived.Test.YtgofigkhdjjlmaaM1
import Derived.Test.YtgofigkhdjjlmaaM2
import Derived.Test.YtgofigkhdjjlmaaM3
import Derived.Test.YtgofigkhdjjlmaaM4
import Derived.Test.YtgofigkhdjjlmaaM5
import Derived.Test.YtgofigkhdjjlmaaM6
import Derived.Test.YtgofigkhdjjlmaaM7
import Derived.Test.YtgofigkhdjjlmaaM10
import Derived.Test.YtgofigkhdjjlmaaM12
import Derived.Test.YtgofigkhdjjlmaaM13
import Derived.Test.YtgofigkhdjjlmaaM14
import Derived.Test.YtgofigkhdjjlmaaM15
import Derived.Test.YtgofigkhdjjlmaaM16
/-
  The law SignatureDamage. Joined.
-/
set_option linter.unusedVariables false
set_option linter.unusedSimpArgs false
namespace Go.Proofs.Ytgofigkhdjjlmaa
open Go Go.RowKit Go.Av
set_option maxRecDepth 100000
theorem dam_long (seed msg : List UInt8) (n : Nat) (d0 d1 d2 : Int) (hs : seed.length = 32) (hn : msg.length = n) (hnn : 100 < n) : AC Try.prog 15 [.agg (u8c seed), .sl 1 n (u8c msg), .agg [iv d0, iv d1, iv d2]] (.c (.v (.bool true))) [] 0 := dam_big seed msg n d0 d1 d2 hs hn hnn
theorem law_sdamage (seed msg : List UInt8) (n : Nat) (d0 d1 d2 : Int) (hs : seed.length = 32) (hn : msg.length = n) : AC Try.prog 15 [.agg (u8c seed), .sl 1 n (u8c msg), .agg [iv d0, iv d1, iv d2]] (.c (.v (.bool true))) [] 0 := by
  by_cases hnn : n ≤ 100
  · have hr4 : ((BitVec.ofInt 64 d0).toNat : Int).tmod 4 = (((BitVec.ofInt 64 d0).toNat % 4 : Nat) : Int) := by rw [r64 (by omega)]; omega
    have hr35 : ((BitVec.ofInt 64 d2).toNat : Int).tmod 35 = (((BitVec.ofInt 64 d2).toNat % 35 : Nat) : Int) := by rw [r64 (by omega)]; omega
    have hI : (BitVec.ofInt 64 d0).toNat % 4 < 4 := Nat.mod_lt _ (by decide)
    have hN : (BitVec.ofInt 64 d2).toNat % 35 < 35 := Nat.mod_lt _ (by decide)
    generalize (BitVec.ofInt 64 d0).toNat % 4 = I at hr4 hI
    generalize (BitVec.ofInt 64 d2).toNat % 35 = N at hr35 hN
    have hJ := andN_le d2 31 (by decide)
    have hC := andN_le d1 7 (by decide)
    obtain ⟨J, hJe⟩ : ∃ J, (BitVec.ofInt 64 d2 &&& BitVec.ofNat 64 31).toNat = J := ⟨_, rfl⟩
    obtain ⟨C, hCe⟩ : ∃ C, (BitVec.ofInt 64 d1 &&& BitVec.ofNat 64 7).toNat = C := ⟨_, rfl⟩
    rw [hJe] at hJ
    rw [hCe] at hC
    have hown := rsign_own seed msg I n hs hI hn (by omega)
    rw [pathD_two seed I hI] at hown
    have hpub := rpublic_ok seed hs
    have hP := partsD_all (sum 390#64 msg) seed I
    have hP35 := partsD_length (sum 390#64 msg) seed I
    have hS := pathD_all (seed := seed) hI
    have hS2 := pathD_two seed I hI
    have hR := publicD_length seed
    have hgood := verS_sign seed msg I hI
    have hc : C = 0 ∨ C = 1 ∨ C = 2 ∨ C = 3 ∨ C = 4 ∨ C = 5 ∨ C = 6 ∨ C = 7 := by omega
    rcases hc with h | h | h | h | h | h | h | h <;> subst h
    · exact dam_0 seed msg n I N J d0 d1 d2 _ _ _ hs hn hnn hI hN hJ hr4 hr35 hJe hCe hP hP35 hS hS2 hR hown hpub hgood
    · exact dam_1 seed msg n I N J d0 d1 d2 _ _ _ hs hn hnn hI hN hJ hr4 hr35 hJe hCe hP hP35 hS hS2 hR hown hpub hgood
    · exact dam_2 seed msg n I N J d0 d1 d2 _ _ _ hs hn hnn hI hN hJ hr4 hr35 hJe hCe hP hP35 hS hS2 hR hown hpub hgood
    · exact dam_3 seed msg n I N J d0 d1 d2 _ _ _ hs hn hnn hI hN hJ hr4 hr35 hJe hCe hP hP35 hS hS2 hR hown hpub hgood
    · exact dam_4 seed msg n I N J d0 d1 d2 _ _ _ hs hn hnn hI hN hJ hr4 hr35 hJe hCe hP hP35 hS hS2 hR hown hpub hgood
    · exact dam_5 seed msg n I N J d0 d1 d2 _ _ _ hs hn hnn hI hN hJ hr4 hr35 hJe hCe hP hP35 hS hS2 hR hown hpub hgood
    · exact dam_6 seed msg n I N J d0 d1 d2 _ _ _ hs hn hnn hI hN hJ hr4 hr35 hJe hCe hP hP35 hS hS2 hR hown hpub hgood
    · exact dam_7 seed msg n I N J d0 d1 d2 _ _ _ hs hn hnn hI hN hJ hr4 hr35 hJe hCe hP hP35 hS hS2 hR hown hpub hgood
  · exact dam_long seed msg n d0 d1 d2 hs hn (by omega)
end Go.Proofs.Ytgofigkhdjjlmaa
