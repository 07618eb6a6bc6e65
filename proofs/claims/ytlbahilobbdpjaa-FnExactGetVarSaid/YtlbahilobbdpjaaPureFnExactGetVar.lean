/- The pure statement of FnExactGetVar: for every string the program's reader returns what the reference's returns. -/
import Derived.Test.YtlbahilobbdpjaaQf9
import Derived.Test.YtlbahilobbdpjaaOGet
namespace Go.Proofs.Ytlbahilobbdpjaa.Pure
open Go.RowKit Go.Proofs.Ytlbahilobbdpjaa.Q Go.Proofs.YtlbahilobbdpjaaW.PrintWords Go.Proofs.YtlbahilobbdpjaaW.PrintLast

theorem FnExactGetVar : laws_FnExactGetVar.Pure := by
  intro s _
  by_cases h : (s.size : Int) > 1048576
  · exact ⟨0, by unfold laws_FnExactGetVar.f; rw [if_pos h]⟩
  · refine ⟨41, ?_⟩
    unfold laws_FnExactGetVar.f spec_GetVar.f
    rw [if_neg h, spec_Get_is s (by omega) 41 (by omega), impl_GetVar_is s (by omega) 41 (by omega)]
    simp

end Go.Proofs.Ytlbahilobbdpjaa.Pure
