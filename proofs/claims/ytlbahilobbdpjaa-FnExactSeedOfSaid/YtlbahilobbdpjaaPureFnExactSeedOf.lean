/- The pure statement of FnExactSeedOf: for every placement group the program's seed is the reference's. -/
import Derived.Test.YtlbahilobbdpjaaQf7
import Derived.Test.YtlbahilobbdpjaaOMix
namespace Go.Proofs.Ytlbahilobbdpjaa.Pure
open Go.RowKit Go.Proofs.Ytlbahilobbdpjaa.Q Go.Proofs.YtlbahilobbdpjaaW.PrintWords Go.Proofs.YtlbahilobbdpjaaW.PrintLast
set_option linter.unusedVariables false
set_option linter.unusedSimpArgs false

theorem two_short (a b : Int) : (([a, b] : List Int).length : Int) ≤ 9223372036854775807 := by
  simp only [List.length_cons, List.length_nil]; omega
theorem seed_spec (k : Nat) (hk : 2 < k) (a b : Int) : spec_SeedOf.f k a b = some (hash [a, b]) := by
  unfold spec_SeedOf.f spec_l09Seed.f
  rw [spec_Mix_hash _ (two_short a b) k hk, Option.bind_some, Option.bind_some]
theorem seed_impl (k : Nat) (hk : 2 < k) (a b : Int) : impl_SeedOf.f k a b = some (hash [a, b]) := by
  unfold impl_SeedOf.f
  rw [impl_Mix_hash _ (two_short a b) k hk, Option.bind_some]
theorem seed_law (k : Nat) (hk : 2 < k) (a b : Int) : laws_FnExactSeedOf.f k a b = some true := by
  unfold laws_FnExactSeedOf.f laws_toPg.f
  simp only [Option.bind_some]
  exact eq_then _ _ _ (seed_spec k hk a b) (seed_impl k hk a b)
theorem FnExactSeedOf (a0_0 : Int) (a0_1 : Int) (_ : (Lit.int .i64 a0_0).wf = true) (_ : (Lit.int .i64 a0_1).wf = true) : ∃ k, laws_FnExactSeedOf.f k a0_0 a0_1 = some true := ⟨3, seed_law 3 (by decide) a0_0 a0_1⟩

end Go.Proofs.Ytlbahilobbdpjaa.Pure
