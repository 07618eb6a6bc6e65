/- The pure statement of FnExactGetText: for every string the program's reader of a text returns what the reference's returns. -/
import Derived.Test.YtlbahilobbdpjaaQf12
import Derived.Test.YtlbahilobbdpjaaOGet
namespace Go.Proofs.Ytlbahilobbdpjaa.Pure
open Go.RowKit Go.Proofs.Ytlbahilobbdpjaa.Q Go.Proofs.YtlbahilobbdpjaaW.PrintWords Go.Proofs.YtlbahilobbdpjaaW.PrintLast

/-- what a text's reader makes of the number's reader -/
def textOf (s : ByteArray) (v : Int × Int × Bool) : ByteArray × Int × Bool :=
  if v.2.2 = true then (if v.1 > wrap64 ((s.size : Int) - v.2.1) then (⟨#[]⟩, 0, false) else (s.extract v.2.1.toNat (wrap64 (v.2.1 + v.1)).toNat, wrap64 (v.2.1 + v.1), true)) else (⟨#[]⟩, 0, false)
theorem text_step (s : ByteArray) (hs : s.size ≤ 1048576) (v : Int × Int × Bool) (hv : v.2.2 = true → 0 ≤ v.1 ∧ v.1 ≤ 4611686018427387904 ∧ 1 ≤ v.2.1 ∧ v.2.1 ≤ s.size) :
    (if v.2.2 = true then (if v.1 > (wrap64 ((s.size : Int) - v.2.1)) then (some ((⟨#[]⟩ : ByteArray), (0 : Int), false)) else (if 0 ≤ v.2.1 then (if v.2.1 ≤ (wrap64 (v.2.1 + v.1)) then (if (wrap64 (v.2.1 + v.1)) ≤ (s.size : Int) then (some (s.extract (v.2.1 : Int).toNat ((wrap64 (v.2.1 + v.1)) : Int).toNat, wrap64 (v.2.1 + v.1), true)) else (none)) else (none)) else (none))) else (some ((⟨#[]⟩ : ByteArray), 0, false))) = some (textOf s v) := by
  unfold textOf
  by_cases h : v.2.2 = true
  · obtain ⟨h1, h2, h3, h4⟩ := hv h
    rw [if_pos h, if_pos h]
    have e : wrap64 ((s.size : Int) - v.2.1) = (s.size : Int) - v.2.1 := by unfold wrap64; omega
    rw [e]
    by_cases h5 : v.1 > (s.size : Int) - v.2.1
    · rw [if_pos h5, if_pos h5]
    · have e2 : wrap64 (v.2.1 + v.1) = v.2.1 + v.1 := by unfold wrap64; omega
      rw [if_neg h5, if_neg h5, e2, if_pos (by omega), if_pos (by omega), if_pos (by omega)]
  · rw [if_neg h, if_neg h]
theorem FnExactGetText : laws_FnExactGetText.Pure := by
  intro s _
  by_cases h : (s.size : Int) > 1048576
  · exact ⟨0, by unfold laws_FnExactGetText.f; rw [if_pos h]⟩
  · refine ⟨41, ?_⟩
    have h3 := getV_ok s 9 0 0
    unfold laws_FnExactGetText.f spec_GetText.f spec_l01GetText.f impl_GetText.f
    rw [if_neg h, spec_Get_is s (by omega) 41 (by omega), impl_GetVar_is s (by omega) 41 (by omega)]
    generalize getV s 9 0 0 = v at h3
    rw [Option.bind_some, text_step s (by omega) v h3]
    simp

end Go.Proofs.Ytlbahilobbdpjaa.Pure
