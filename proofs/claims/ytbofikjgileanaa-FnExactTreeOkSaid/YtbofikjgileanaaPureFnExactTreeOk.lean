/- The pure statement of FnExactTreeOk: for every topology the program says what the reference says. -/
import Derived.Test.YtbofikjgileanaaOTypes
import Derived.Test.YtbofikjgileanaaQf3
import Derived.Test.YtbofikjgileanaaOTreeOk
namespace Go.Proofs.Ytbofikjgileanaa.Pure
open Go.RowKit Go.Proofs.Ytbofikjgileanaa.Q Go.Proofs.Ytbofikjgileanaa.Opens Go.Proofs.YtbofikjgileanaaW.PrintWords Go.Proofs.YtbofikjgileanaaW.PrintLast Go.Proofs.YtbofikjgileanaaW.PrintMore
set_option linter.unusedVariables false
set_option linter.unusedSimpArgs false

theorem FnExactTreeOk (l0_0 : List S116) (l0_1 : List S113) (hd : good_t22 l0_0) (hb : good_t23 l0_1) : ∃ k, laws_FnExactTreeOk.f k l0_0 l0_1 = some true := by
  obtain ⟨g1, g2, g3⟩ := small_of_good l0_0 l0_1 hd hb
  obtain ⟨t, ht, hsz⟩ := szTree_ev l0_0 l0_1 1048576 g1 g2 g3 (by omega) (by omega)
  have hwf := wf_of_good l0_0 l0_1 hd hb
  refine Ev.rounds (r := true) ?_
  unfold laws_FnExactTreeOk.f
  refine Ev.bind hsz ?_
  by_cases c : t < 0
  · exact ev_some fun k => if_pos c
  · simp only [if_neg c]
    have hs := (ht (by omega)).2
    have hto := toTree_ev l0_0 l0_1 hs
    have heq := eqTree_ev l0_0 l0_1 hs
    have hD : (l0_0.map devOf).length ≤ 9223372036854775807 := by rw [List.length_map]; exact g1
    have hsp : Ev (fun k => spec_TreeOk.f k (l0_0.map devOf) (l0_1.map bktOf)) (treeOkB (l0_0.map devOf) (l0_1.map bktOf)) := by
      unfold spec_TreeOk.f
      exact ev_then1 (spec_ok_ev _ _)
    have him := impl_ok_ev (l0_0.map devOf) (l0_1.map bktOf) hD hwf
    refine Ev.bind hto (Ev.bind hsp (Ev.bind hto (Ev.bind him ?_)))
    simp only [bne_self_eq_false, Bool.false_eq_true, if_false]
    exact Ev.bind hto (Ev.bind heq (ev_some fun k => if_pos rfl))

end Go.Proofs.Ytbofikjgileanaa.Pure
