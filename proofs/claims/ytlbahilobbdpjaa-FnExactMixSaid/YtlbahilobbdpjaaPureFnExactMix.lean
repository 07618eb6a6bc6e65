/- The pure statement of FnExactMix: for every list of words the program's hash is the reference's, and the words stay. -/
import Derived.Test.YtlbahilobbdpjaaQf10
import Derived.Test.YtlbahilobbdpjaaOMix
import Derived.Test.YtlbahilobbdpjaaOSl
namespace Go.Proofs.Ytlbahilobbdpjaa.Pure
open Go.RowKit Go.Proofs.Ytlbahilobbdpjaa.Q Go.Proofs.YtlbahilobbdpjaaW.PrintWords Go.Proofs.YtlbahilobbdpjaaW.PrintLast

theorem FnExactMix : laws_FnExactMix.Pure := by
  intro l _ _ _
  unfold laws_FnExactMix.f spec_Mix.f
  by_cases h : (l.length : Int) > 1048576
  · exact ⟨0, by rw [if_pos h]⟩
  · refine ⟨l.length + 1, ?_⟩
    rw [if_neg h, toInt64S_id l (by omega) _ (by omega)]
    simp only [Option.bind_some]
    rw [spec_Mix_hash l (by omega) _ (by omega), impl_Mix_hash l (by omega) _ (by omega)]
    simp only [Option.bind_some, if_true]
    rw [eqInt64S_id l (by omega) _ (by omega)]
    rfl

end Go.Proofs.Ytlbahilobbdpjaa.Pure
