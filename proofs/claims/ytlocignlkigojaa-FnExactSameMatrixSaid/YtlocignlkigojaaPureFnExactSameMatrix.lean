/- The pure statement of FnExactSameMatrix: for every two matrices the program says what the reference says. -/
import Derived.Test.YtlocignlkigojaaOTypes
import Derived.Test.YtlocignlkigojaaQf8
import Derived.Test.YtlocignlkigojaaOMat
namespace Go.Proofs.Ytlocignlkigojaa.Pure
open Go.RowKit Go.Proofs.Ytlocignlkigojaa.Q Go.Proofs.Ytlocignlkigojaa.Opens Go.Proofs.YtlocignlkigojaaW.PrintWords Go.Proofs.YtlocignlkigojaaW.PrintLast Go.Proofs.YtlocignlkigojaaW.PrintMore
set_option linter.unusedVariables false
set_option linter.unusedSimpArgs false

theorem spec_same_ev (a b : List Int) (hl : a.length ≤ 9223372036854775807) : Ev (fun k => spec_l00Same.f k a b) (decide (a = b)) := by
  unfold spec_l00Same.f
  by_cases h : a.length = b.length
  · simp only [show (a.length : Int) = (b.length : Int) by omega, if_true]
    exact same_loop a b h (fun k i => spec_l00Same.l0 k a b i) (fun k i h1 h2 => by
      simp only [spec_l00Same.l0]
      rw [if_pos (by omega), if_pos (by omega), if_pos (by omega), rd_get a i h1, rd_get b i h2, up64 i a.length h1 hl]) (fun k => by simp only [spec_l00Same.l0]; rw [if_neg (by omega)])
  · rw [decide_eq_false (fun e => h (by rw [e]))]
    simp only [show ¬ ((a.length : Int) = (b.length : Int)) by omega, if_false]
    exact Ev.now _
theorem impl_equal_ev (a b : List Int) (hl : a.length ≤ 9223372036854775807) : Ev (fun k => slices_Equal_int64_int64.f k a b) (decide (a = b)) := by
  unfold slices_Equal_int64_int64.f
  by_cases h : a.length = b.length
  · simp only [show (a.length : Int) = (b.length : Int) by omega, if_true]
    exact same_loop a b h (fun k i => slices_Equal_int64_int64.l0 k a b b.length i) (fun k i h1 h2 => by
      simp only [slices_Equal_int64_int64.l0]
      rw [if_pos (by omega), if_pos (by omega), if_pos (by omega), if_pos (by omega), rd_get a i h1, rd_get b i h2, up64 i a.length h1 hl]) (fun k => by simp only [slices_Equal_int64_int64.l0]; rw [if_neg (by omega)])
  · rw [decide_eq_false (fun e => h (by rw [e]))]
    simp only [show ¬ ((a.length : Int) = (b.length : Int)) by omega, if_false]
    exact Ev.now _
/-- two valid matrices that are equal -/
def sameMatB (a b : Int) (l : List Int) (c d : Int) (m : List Int) : Bool := matOkB a b l && matOkB c d m && decide (a = c) && decide (b = d) && decide (l = m)
theorem same_both (a b : Int) (l : List Int) (c d : Int) (m : List Int) (hl : l.length ≤ 1048576) (hm : m.length ≤ 1048576) : Ev (fun k => spec_SameMatrix.f k a b l c d m) (sameMatB a b l c d m) ∧ Ev (fun k => impl_SameMatrix.f k a b l c d m) (sameMatB a b l c d m) := by
  have s1 := spec_mat_ev a b l (by omega)
  have s2 := spec_mat_ev c d m (by omega)
  unfold sameMatB spec_SameMatrix.f impl_SameMatrix.f impl_MatrixOk.f spec_l03Same.f
  simp only [Option.bind_some]
  constructor
  · refine Ev.bind s1 ?_
    cases matOkB a b l with
    | false => simp only [Bool.false_and, Bool.false_eq_true, if_false]; exact Ev.now _
    | true =>
      simp only [if_true, Bool.true_and]
      refine Ev.bind s2 ?_
      cases matOkB c d m with
      | false => simp only [Bool.false_and, Bool.false_eq_true, if_false]; exact Ev.now _
      | true =>
        simp only [if_true, Bool.true_and]
        by_cases h1 : a = c
        · simp only [if_pos h1, decide_eq_true h1, Bool.true_and]
          by_cases h2 : b = d
          · simp only [if_pos h2, decide_eq_true h2, Bool.true_and]
            exact Ev.bind (ev_then1 (spec_same_ev l m (by omega))) (Ev.now _)
          · simp only [if_neg h2, decide_eq_false h2, Bool.false_and]; exact Ev.now _
        · simp only [if_neg h1, decide_eq_false h1, Bool.false_and]; exact Ev.now _
  · cases matOkB a b l with
    | false => simp only [Bool.false_and, Bool.false_eq_true, if_false]; exact Ev.now _
    | true =>
      simp only [if_true, Bool.true_and]
      cases matOkB c d m with
      | false => simp only [Bool.false_and, Bool.false_eq_true, if_false]; exact Ev.now _
      | true =>
        simp only [if_true, Bool.true_and]
        by_cases h1 : a = c
        · simp only [if_pos h1, decide_eq_true h1, Bool.true_and]
          by_cases h2 : b = d
          · simp only [if_pos h2, decide_eq_true h2, Bool.true_and]
            exact Ev.bind (impl_equal_ev l m (by omega)) (Ev.now _)
          · simp only [if_neg h2, decide_eq_false h2, Bool.false_and]; exact Ev.now _
        · simp only [if_neg h1, decide_eq_false h1, Bool.false_and]; exact Ev.now _
theorem FnExactSameMatrix (a0_0 : Int) (a0_1 : Int) (l0_2 : List Int) (a1_0 : Int) (a1_1 : Int) (l1_2 : List Int) (_ : (Lit.int .i64 a0_0).wf = true) (_ : (Lit.int .i64 a0_1).wf = true) (hg : good_t36 l0_2) (_ : (Lit.int .i64 a1_0).wf = true) (_ : (Lit.int .i64 a1_1).wf = true) (hg1 : good_t36 l1_2) : ∃ k, laws_FnExactSameMatrix.f k a0_0 a0_1 l0_2 a1_0 a1_1 l1_2 = some true := by
  have hs := szMatrix_is a0_0 a0_1 l0_2 1048576 hg.1 (by decide) (by decide)
  by_cases h : (l0_2.length : Int) ≤ 1048576
  · have hs1 := szMatrix_is a1_0 a1_1 l1_2 (1048576 - (l0_2.length : Int)) hg1.1 (by omega) (by omega)
    by_cases h1 : (l1_2.length : Int) ≤ 1048576 - (l0_2.length : Int)
    · have t0 := toMatrix_ev a0_0 a0_1 l0_2 (by omega)
      have t1 := toMatrix_ev a1_0 a1_1 l1_2 (by omega)
      have e0 := eqMatrix_ev a0_0 a0_1 l0_2 (by omega)
      have e1 := eqMatrix_ev a1_0 a1_1 l1_2 (by omega)
      obtain ⟨g1, g2⟩ := same_both a0_0 a0_1 l0_2 a1_0 a1_1 l1_2 (by omega) (by omega)
      refine Ev.rounds (r := true) ?_
      unfold laws_FnExactSameMatrix.f
      simp only [hs, if_pos h, Option.bind_some]
      simp only [show ¬ ((1048576 : Int) - (l0_2.length : Int) < 0) by omega, if_false]
      simp only [hs1, if_pos h1, Option.bind_some]
      simp only [show ¬ ((1048576 : Int) - (l0_2.length : Int) - (l1_2.length : Int) < 0) by omega, if_false]
      refine Ev.bind t0 (Ev.bind t1 (Ev.bind g1 (Ev.bind t0 (Ev.bind t1 (Ev.bind g2 ?_)))))
      simp only [bne_self_eq_false, Bool.false_eq_true, if_false]
      refine Ev.bind t0 (Ev.bind e0 ?_)
      simp only [if_true]
      exact Ev.bind t1 (Ev.bind e1 (ev_some fun k => if_pos rfl))
    · refine ⟨0, ?_⟩
      unfold laws_FnExactSameMatrix.f
      rw [hs, if_pos h, Option.bind_some, if_neg (by omega), hs1, if_neg h1, Option.bind_some, if_pos (by decide)]
  · refine ⟨0, ?_⟩
    unfold laws_FnExactSameMatrix.f
    rw [hs, if_neg h, Option.bind_some, if_pos (by decide)]

end Go.Proofs.Ytlocignlkigojaa.Pure
