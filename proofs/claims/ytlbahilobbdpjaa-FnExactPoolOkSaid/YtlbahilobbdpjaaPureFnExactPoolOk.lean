/- The pure statement of FnExactPoolOk: for every pool the program says what the reference says. -/
import Derived.Test.YtlbahilobbdpjaaQf8
import Derived.Test.YtlbahilobbdpjaaOPool
namespace Go.Proofs.Ytlbahilobbdpjaa.Pure
open Go.RowKit Go.Proofs.Ytlbahilobbdpjaa.Q Go.Proofs.YtlbahilobbdpjaaW.PrintWords Go.Proofs.YtlbahilobbdpjaaW.PrintLast

theorem FnExactPoolOk (a0_0 : Int) (a0_1 : Int) (a0_2 : Int) (a0_3 : Int) (a0_4 : Int) (a0_5 : Int) (_ : (Lit.int .i64 a0_0).wf = true) (_ : (Lit.int .i64 a0_1).wf = true) (_ : (Lit.int .i64 a0_2).wf = true) (_ : (Lit.int .i64 a0_3).wf = true) (_ : (Lit.int .i64 a0_4).wf = true) (_ : (Lit.int .i64 a0_5).wf = true) : laws_FnExactPoolOk.f a0_0 a0_1 a0_2 a0_3 a0_4 a0_5 = some true := by
  unfold laws_FnExactPoolOk.f laws_toPool.f laws_toCode.f spec_PoolOk.f
  simp only [Option.bind_some, spec_pool, impl_pool]
  simp

end Go.Proofs.Ytlbahilobbdpjaa.Pure
