/- Plain laws of reading hexadecimal digits: the program's and the reference's reader come to the same. Conditions: the bounds that each theorem names. -/
import Derived.Test.YtlbahilobbdpjaaWMore
import Derived.Test.YtlbahilobbdpjaaQf36
import Derived.Test.YtlbahilobbdpjaaQf59
namespace Go.Proofs.Ytlbahilobbdpjaa.Pure
open Go.RowKit Go.Proofs.Ytlbahilobbdpjaa.Q Go.Proofs.YtlbahilobbdpjaaW.PrintWords Go.Proofs.YtlbahilobbdpjaaW.PrintLast Go.Proofs.YtlbahilobbdpjaaW.PrintMore

/-- the number of a digit; -1 of what is none -/
def digitOf (c : Int) : Int := Lib.indexByte (⟨#[48, 49, 50, 51, 52, 53, 54, 55, 56, 57, 97, 98, 99, 100, 101, 102]⟩ : ByteArray).data.toList c.toNat.toUInt8
theorem digit_all : ∀ c : Fin 256, spec_l01Digit.f 18 (c.val : Int) = some (digitOf (c.val : Int)) := by decide +kernel
theorem spec_Digit_is (c : Int) (h0 : 0 ≤ c) (h1 : c ≤ 255) (k : Nat) (hk : 18 ≤ k) : spec_l01Digit.f k c = some (digitOf c) := by
  have h := digit_all ⟨c.toNat, by omega⟩
  have e : ((⟨c.toNat, by omega⟩ : Fin 256).val : Int) = c := by show ((c.toNat : Nat) : Int) = c; omega
  rw [e] at h
  exact at_rounds (fun k => spec_l01Digit.mono c k) hk h
theorem impl_Digit_is (c : Int) : strings_IndexByte.f (⟨#[48, 49, 50, 51, 52, 53, 54, 55, 56, 57, 97, 98, 99, 100, 101, 102]⟩ : ByteArray) c = some (digitOf c) := rfl
theorem hex_both (s : ByteArray) (hs : s.size ≤ 1048576) : ∀ (d i : Nat) (acc : List Int), s.size - i = 2 * d → i ≤ s.size → acc.length ≤ i →
    ∃ r, ∀ k, d + 20 < k → impl_GetHex.l0 k s acc i = some r ∧ spec_l01Unhex.l0 k s acc i = some r
  | 0, i, acc, hd, hi, ha => by
    refine ⟨(strOfNums acc, true), fun k hk => ?_⟩
    obtain ⟨k, rfl⟩ : ∃ m, k = m + 1 := ⟨k - 1, by omega⟩
    simp only [impl_GetHex.l0, spec_l01Unhex.l0]
    rw [if_neg (by omega), if_neg (by omega)]
    exact ⟨rfl, rfl⟩
  | d + 1, i, acc, hd, hi, ha => by
    have b0 := bt_range s i
    have b1 := bt_range s ((i : Int) + 1)
    have e1 : wrap64 ((i : Int) + 1) = (i : Int) + 1 := by unfold wrap64; omega
    have e2 : wrap64 ((i : Int) + 2) = ((i + 2 : Nat) : Int) := by unfold wrap64; omega
    obtain ⟨r, hr⟩ := hex_both s hs d (i + 2) (acc ++ [(wrap64 ((wrap64 (16 * digitOf (bt s i))) + digitOf (bt s ((i : Int) + 1)))) % 256]) (by omega) (by omega) (by simp; omega)
    refine ⟨if digitOf (bt s i) < 0 then ((⟨#[]⟩ : ByteArray), false) else if digitOf (bt s ((i : Int) + 1)) < 0 then ((⟨#[]⟩ : ByteArray), false) else r, fun k hk => ?_⟩
    obtain ⟨k, rfl⟩ : ∃ m, k = m + 1 := ⟨k - 1, by omega⟩
    obtain ⟨r1, r2⟩ := hr k (by omega)
    simp only [impl_GetHex.l0, spec_l01Unhex.l0]
    have g1 : (i : Int) < (s.size : Int) := by omega
    have g2 : (0 : Int) ≤ (i : Int) := by omega
    rw [if_pos (by omega), if_pos (by omega), e1, e2, impl_Digit_is, impl_Digit_is, spec_Digit_is _ b0.1 b0.2 k (by omega), spec_Digit_is _ b1.1 b1.2 k (by omega)]
    simp only [Option.bind_some]
    rw [if_pos (by omega), if_pos (by omega)]
    by_cases c1 : digitOf (bt s i) < 0
    · simp only [c1, if_true]
      have d1 : (0 : Int) ≤ (i : Int) + 1 := by omega
      have d2 : (i : Int) + 1 < (s.size : Int) := by omega
      simp only [d1, d2, g1, g2, if_true]
      exact ⟨trivial, trivial⟩
    · have d1 : (0 : Int) ≤ (i : Int) + 1 := by omega
      have d2 : (i : Int) + 1 < (s.size : Int) := by omega
      have d3 : acc.length < 140737488355328 := by omega
      simp only [d1, d2, d3, g1, g2, c1, if_true, if_false]
      by_cases c2 : digitOf (bt s ((i : Int) + 1)) < 0
      · simp only [c2, if_true]
        exact ⟨trivial, trivial⟩
      · simp only [c2, if_false]
        exact ⟨r1, r2⟩

end Go.Proofs.Ytlbahilobbdpjaa.Pure
