/- Plain laws of pools: the program and the reference say the same of a pool. No conditions. -/
import Derived.Test.YtlbahilobbdpjaaWMore
import Derived.Test.YtlbahilobbdpjaaQf28
import Derived.Test.YtlbahilobbdpjaaQf53
namespace Go.Proofs.Ytlbahilobbdpjaa.Pure
open Go.RowKit Go.Proofs.Ytlbahilobbdpjaa.Q Go.Proofs.YtlbahilobbdpjaaW.PrintWords Go.Proofs.YtlbahilobbdpjaaW.PrintLast Go.Proofs.YtlbahilobbdpjaaW.PrintMore
theorem between_in (a b c : Int) : impl_between.f a b c = spec_l00In.f a b c := rfl
theorem in_some (a b c : Int) : spec_l00In.f a b c = some (decide (b ≤ a) && decide (a ≤ c)) := by
  unfold spec_l00In.f
  by_cases h : a ≥ b
  · rw [if_pos h, decide_eq_true h]; simp
  · rw [if_neg h, decide_eq_false h]; simp
/-- is a pool valid? -/
def poolB (a0_0 a0_1 a0_2 a0_3 a0_4 a0_5 : Int) : Bool :=
  (decide (1 ≤ a0_0) && decide (a0_0 ≤ 4)) && ((decide (1 ≤ a0_1) && decide (a0_1 ≤ 4)) && (decide (0 ≤ a0_2) && decide (a0_2 ≤ 3))) && (decide (a0_1 ≤ a0_3) && decide (a0_3 ≤ wrap64 (a0_1 + a0_2))) && (decide (1 ≤ a0_4) && decide (a0_4 ≤ 16)) && (decide (1 ≤ a0_5) && decide (a0_5 ≤ 4))
theorem code_some (a b : Int) : spec_l04Code.f a b = some ((decide (1 ≤ a) && decide (a ≤ 4)) && (decide (0 ≤ b) && decide (b ≤ 3))) := by
  unfold spec_l04Code.f
  simp only [in_some, Option.bind_some]
  generalize (decide (1 ≤ a) && decide (a ≤ 4)) = x
  cases x <;> simp
theorem codeOk_some (a b : Int) : impl_CodeOk.f a b = some ((decide (1 ≤ a) && decide (a ≤ 4)) && (decide (0 ≤ b) && decide (b ≤ 3))) := code_some a b
theorem spec_pool (a0_0 a0_1 a0_2 a0_3 a0_4 a0_5 : Int) : spec_l09OK.f a0_0 a0_1 a0_2 a0_3 a0_4 a0_5 = some (poolB a0_0 a0_1 a0_2 a0_3 a0_4 a0_5) := by
  unfold spec_l09OK.f poolB
  simp only [in_some, code_some, Option.bind_some]
  generalize (decide (1 ≤ a0_0) && decide (a0_0 ≤ 4)) = x0
  generalize ((decide (1 ≤ a0_1) && decide (a0_1 ≤ 4)) && (decide (0 ≤ a0_2) && decide (a0_2 ≤ 3))) = x1
  generalize (decide (a0_1 ≤ a0_3) && decide (a0_3 ≤ wrap64 (a0_1 + a0_2))) = x2
  generalize (decide (1 ≤ a0_4) && decide (a0_4 ≤ 16)) = x3
  generalize (decide (1 ≤ a0_5) && decide (a0_5 ≤ 4)) = x4
  cases x0 <;> cases x1 <;> cases x2 <;> cases x3 <;> simp
theorem impl_pool (a0_0 a0_1 a0_2 a0_3 a0_4 a0_5 : Int) : impl_PoolOk.f a0_0 a0_1 a0_2 a0_3 a0_4 a0_5 = some (poolB a0_0 a0_1 a0_2 a0_3 a0_4 a0_5) := by
  rw [← spec_pool]
  unfold impl_PoolOk.f impl_Code_size.f spec_l09OK.f
  simp only [between_in, code_some, codeOk_some, Option.bind_some]
end Go.Proofs.Ytlbahilobbdpjaa.Pure
