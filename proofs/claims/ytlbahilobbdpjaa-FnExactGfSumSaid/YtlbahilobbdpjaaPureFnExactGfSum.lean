/- The pure statement of FnExactGfSum: for every two strings the program's sum is the reference's. -/
import Derived.Test.YtlbahilobbdpjaaQf3
import Derived.Test.YtlbahilobbdpjaaOSl
namespace Go.Proofs.Ytlbahilobbdpjaa.Pure
open Go.RowKit Go.Proofs.Ytlbahilobbdpjaa.Q Go.Proofs.YtlbahilobbdpjaaW.PrintWords Go.Proofs.YtlbahilobbdpjaaW.PrintLast

/-- the sums of the first bytes -/
def sums (s t : ByteArray) : Nat → List Int
  | 0 => []
  | n + 1 => sums s t n ++ [Go.bits .xor .u8 (bt s n) (bt t n)]
theorem sums_length (s t : ByteArray) : ∀ n, (sums s t n).length = n
  | 0 => rfl
  | n + 1 => by simp [sums, sums_length s t n]
theorem spec_sum (s t : ByteArray) (hs : s.size ≤ 1048576) (ht : s.size = t.size) (d : Nat) : ∀ (k n : Nat), n ≤ s.size → s.size - n = d → d < k → spec_l02Sum.l0 k s t (sums s t n) n = some (strOfNums (sums s t s.size)) := by
  induction d with
  | zero =>
    intro k n h1 hd hk
    obtain ⟨k, rfl⟩ : ∃ m, k = m + 1 := ⟨k - 1, by omega⟩
    have e : n = s.size := by omega
    simp only [spec_l02Sum.l0]
    rw [if_neg (by omega), e]
  | succ d ih =>
    intro k n h1 hd hk
    obtain ⟨k, rfl⟩ : ∃ m, k = m + 1 := ⟨k - 1, by omega⟩
    simp only [spec_l02Sum.l0]
    rw [if_pos (by omega), if_pos (by omega), if_pos (by omega), if_pos (by rw [sums_length]; omega), wrap_up n s.size (by omega) (by omega) (by omega)]
    exact ih k (n + 1) (by omega) (by omega) (by omega)
theorem impl_sum (s t : ByteArray) (hs : s.size ≤ 1048576) (ht : s.size = t.size) (d : Nat) : ∀ (k n : Nat), n ≤ s.size → s.size - n = d → d < k → impl_summed.l0 k s t (sums s t n ++ List.replicate (s.size - n) 0) s.size n = some (strOfNums (sums s t s.size)) := by
  induction d with
  | zero =>
    intro k n h1 hd hk
    obtain ⟨k, rfl⟩ : ∃ m, k = m + 1 := ⟨k - 1, by omega⟩
    have e : n = s.size := by omega
    simp only [impl_summed.l0]
    rw [if_neg (by omega), e]
    simp
  | succ d ih =>
    intro k n h1 hd hk
    obtain ⟨k, rfl⟩ : ∃ m, k = m + 1 := ⟨k - 1, by omega⟩
    simp only [impl_summed.l0]
    rw [if_pos (by omega), if_pos (by omega), if_pos (by omega), if_pos (by omega), if_pos (by rw [List.length_append, sums_length, List.length_replicate]; omega), wrap_up n s.size (by omega) (by omega) (by omega)]
    have e : s.size - n = (s.size - (n + 1)) + 1 := by omega
    have e2 : (sums s t n ++ List.replicate (s.size - n) (0 : Int)).set (n : Int).toNat (Go.bits .xor .u8 (bt s n) (bt t n)) = sums s t (n + 1) ++ List.replicate (s.size - (n + 1)) 0 := by
      rw [e, List.replicate_succ, Int.toNat_natCast, List.set_append_right _ _ (by rw [sums_length]; omega), sums_length]
      simp [sums]
    rw [e2]
    exact ih k (n + 1) (by omega) (by omega) (by omega)

theorem FnExactGfSum : laws_FnExactGfSum.Pure := by
  intro s t _ _
  unfold laws_FnExactGfSum.f spec_GfSum.f impl_GfSum.f spec_l02Sum.f impl_summed.f
  by_cases h : (s.size : Int) > 1048576
  · exact ⟨0, by rw [if_pos h]⟩
  · by_cases h2 : (t.size : Int) > 1048576
    · exact ⟨0, by rw [if_neg h, if_pos h2]⟩
    · by_cases he : (s.size : Int) = (t.size : Int)
      · refine ⟨s.size + 1, ?_⟩
        have h3 := spec_sum s t (by omega) (by omega) s.size (s.size + 1) 0 (by omega) (by omega) (by omega)
        have h4 := impl_sum s t (by omega) (by omega) s.size (s.size + 1) 0 (by omega) (by omega) (by omega)
        have e3 : spec_l02Sum.l0 (s.size + 1) s t [] 0 = some (strOfNums (sums s t s.size)) := h3
        have e4 : impl_summed.l0 (s.size + 1) s t (List.replicate s.size 0) s.size 0 = some (strOfNums (sums s t s.size)) := by simpa [sums] using h4
        rw [if_neg h, if_neg h2, if_pos he, if_pos he, if_pos (by omega), if_pos (by omega), e3]
        simp only [Option.bind_some, Int.toNat_natCast, List.length_replicate]
        rw [e4]
        simp
      · refine ⟨0, ?_⟩
        rw [if_neg h, if_neg h2, if_neg he, if_neg he]
        simp

end Go.Proofs.Ytlbahilobbdpjaa.Pure
