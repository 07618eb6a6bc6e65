/- The pure statement of FnExactMatrixOk: for every matrix the program says what the reference says. -/
import Derived.Test.YtlocignlkigojaaOTypes
import Derived.Test.YtlocignlkigojaaQf5
import Derived.Test.YtlocignlkigojaaOMat
namespace Go.Proofs.Ytlocignlkigojaa.Pure
open Go.RowKit Go.Proofs.Ytlocignlkigojaa.Q Go.Proofs.Ytlocignlkigojaa.Opens Go.Proofs.YtlocignlkigojaaW.PrintWords Go.Proofs.YtlocignlkigojaaW.PrintLast Go.Proofs.YtlocignlkigojaaW.PrintMore
set_option linter.unusedVariables false
set_option linter.unusedSimpArgs false

theorem FnExactMatrixOk (a0_0 : Int) (a0_1 : Int) (l0_2 : List Int) (_ : (Lit.int .i64 a0_0).wf = true) (_ : (Lit.int .i64 a0_1).wf = true) (hg : good_t36 l0_2) : ∃ k, laws_FnExactMatrixOk.f k a0_0 a0_1 l0_2 = some true := by
  have hs := szMatrix_is a0_0 a0_1 l0_2 1048576 hg.1 (by decide) (by decide)
  by_cases h : (l0_2.length : Int) ≤ 1048576
  · have hto := toMatrix_ev a0_0 a0_1 l0_2 (by omega)
    have heq := eqMatrix_ev a0_0 a0_1 l0_2 (by omega)
    refine Ev.rounds (r := true) ?_
    unfold laws_FnExactMatrixOk.f spec_MatrixOk.f impl_MatrixOk.f
    simp only [hs, if_pos h, Option.bind_some]
    simp only [show ¬ ((1048576 : Int) - (l0_2.length : Int) < 0) by omega, if_false]
    refine Ev.bind hto (Ev.bind (ev_then1 (spec_mat_ev a0_0 a0_1 l0_2 hg.1)) (Ev.bind hto ?_))
    simp only [bne_self_eq_false, Bool.false_eq_true, if_false]
    exact Ev.bind hto (Ev.bind heq (ev_some fun k => if_pos rfl))
  · refine ⟨0, ?_⟩
    unfold laws_FnExactMatrixOk.f
    rw [hs, if_neg h, Option.bind_some, if_pos (by decide)]

end Go.Proofs.Ytlocignlkigojaa.Pure
