/- The pure statement of FnExactSplit: for every pool the program's split is the reference's. -/
import Derived.Test.YtlbahilobbdpjaaQf14
import Derived.Test.YtlbahilobbdpjaaOPool
namespace Go.Proofs.Ytlbahilobbdpjaa.Pure
open Go.RowKit Go.Proofs.Ytlbahilobbdpjaa.Q Go.Proofs.YtlbahilobbdpjaaW.PrintWords Go.Proofs.YtlbahilobbdpjaaW.PrintLast

theorem eqPool_id (a0_0 a0_1 a0_2 a0_3 a0_4 a0_5 : Int) : laws_eqPool.f a0_0 a0_1 a0_2 a0_3 a0_4 a0_5 a0_0 a0_1 a0_2 a0_3 a0_4 a0_5 = some true := by
  unfold laws_eqPool.f laws_eqCode.f
  simp
theorem split_same (a0_0 a0_1 a0_2 a0_3 a0_4 a0_5 : Int) : ∃ r, spec_Split.f a0_0 a0_1 a0_2 a0_3 a0_4 a0_5 = some r ∧ impl_Split.f a0_0 a0_1 a0_2 a0_3 a0_4 a0_5 = some r := by
  unfold spec_Split.f impl_Split.f
  simp only [spec_pool, impl_pool, Option.bind_some]
  by_cases h : poolB a0_0 a0_1 a0_2 a0_3 a0_4 a0_5 = true
  · rw [if_pos h]
    by_cases h2 : wrap64 (2 * a0_4) > 16
    · rw [if_pos h2]; exact ⟨_, rfl, rfl⟩
    · rw [if_neg h2]; exact ⟨_, rfl, rfl⟩
  · rw [if_neg h]; exact ⟨_, rfl, rfl⟩
theorem FnExactSplit (a0_0 : Int) (a0_1 : Int) (a0_2 : Int) (a0_3 : Int) (a0_4 : Int) (a0_5 : Int) (_ : (Lit.int .i64 a0_0).wf = true) (_ : (Lit.int .i64 a0_1).wf = true) (_ : (Lit.int .i64 a0_2).wf = true) (_ : (Lit.int .i64 a0_3).wf = true) (_ : (Lit.int .i64 a0_4).wf = true) (_ : (Lit.int .i64 a0_5).wf = true) : laws_FnExactSplit.f a0_0 a0_1 a0_2 a0_3 a0_4 a0_5 = some true := by
  obtain ⟨r, h1, h2⟩ := split_same a0_0 a0_1 a0_2 a0_3 a0_4 a0_5
  unfold laws_FnExactSplit.f laws_toPool.f laws_toCode.f
  simp only [Option.bind_some, h1, h2, eqPool_id]
  simp

end Go.Proofs.Ytlbahilobbdpjaa.Pure
