/- The pure statement of FnExactGetHex: for every string the program's reader of digits returns what the reference's returns. -/
import Derived.Test.YtlbahilobbdpjaaQf11
import Derived.Test.YtlbahilobbdpjaaOHex
namespace Go.Proofs.Ytlbahilobbdpjaa.Pure
open Go.RowKit Go.Proofs.Ytlbahilobbdpjaa.Q Go.Proofs.YtlbahilobbdpjaaW.PrintWords Go.Proofs.YtlbahilobbdpjaaW.PrintLast

theorem GetHex_both (s : ByteArray) (hs : s.size ≤ 1048576) : ∃ r, ∀ k, s.size + 20 < k → impl_GetHex.f k s = some r ∧ spec_GetHex.f k s = some r := by
  by_cases he : s.size % 2 = 0
  · obtain ⟨r, hr⟩ := hex_both s hs (s.size / 2) 0 [] (by omega) (by omega) (by simp)
    refine ⟨r, fun k hk => ?_⟩
    obtain ⟨r1, r2⟩ := hr k (by omega)
    unfold impl_GetHex.f spec_GetHex.f spec_l01Unhex.f
    rw [if_neg (by omega), if_pos (by omega)]
    refine ⟨r1, ?_⟩
    have r2' : spec_l01Unhex.l0 k s [] 0 = some r := r2
    rw [r2']
    simp
  · refine ⟨((⟨#[]⟩ : ByteArray), false), fun k hk => ?_⟩
    unfold impl_GetHex.f spec_GetHex.f spec_l01Unhex.f
    rw [if_pos (by omega), if_neg (by omega)]
    exact ⟨rfl, rfl⟩
theorem FnExactGetHex : laws_FnExactGetHex.Pure := by
  intro s _
  by_cases h : (s.size : Int) > 1048576
  · exact ⟨0, by unfold laws_FnExactGetHex.f; rw [if_pos h]⟩
  · obtain ⟨r, hr⟩ := GetHex_both s (by omega)
    refine ⟨s.size + 21, ?_⟩
    obtain ⟨r1, r2⟩ := hr (s.size + 21) (by omega)
    unfold laws_FnExactGetHex.f
    rw [if_neg h, r1, r2]
    simp

end Go.Proofs.Ytlbahilobbdpjaa.Pure
