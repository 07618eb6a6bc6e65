/- Plain laws of matrices: the program and the reference say the same of one; the law's own helpers. Conditions: the bounds that each theorem names. -/
import Derived.Test.YtgpakhlnjgehhaaOIn
import Derived.Test.YtgpakhlnjgehhaaOLInt
import Derived.Test.YtgpakhlnjgehhaaQf15
import Derived.Test.YtgpakhlnjgehhaaQf4
import Derived.Test.YtgpakhlnjgehhaaQf6
import Derived.Test.YtgpakhlnjgehhaaQf9
namespace Go.Proofs.Ytgpakhlnjgehhaa.Pure
open Go.RowKit Go.Proofs.Ytgpakhlnjgehhaa.Q Go.Proofs.YtgpakhlnjgehhaaW.PrintWords Go.Proofs.YtgpakhlnjgehhaaW.PrintLast Go.Proofs.YtgpakhlnjgehhaaW.PrintMore
set_option linter.unusedVariables false
set_option linter.unusedSimpArgs false

theorem byte_inB (a : Int) : spec_l02Byte.f a = some (inB a 0 255) := by
  unfold spec_l02Byte.f
  rw [in_inB]; rfl
theorem spec_cells_ev (a b : Int) (l : List Int) (hl : l.length ≤ 9223372036854775807) : Ev (fun k => spec_l03OK.l0 k 0 a b l) (!(l.any fun c => !(inB c 0 255))) := by
  refine loop_is l.length (fun k (_ : Unit) i => spec_l03OK.l0 k i a b l) (fun i _ => (l.take i).any (fun c => !(inB c 0 255)) = false) _ ?_ ?_ () (by simp)
  · intro i _ hi hI
    by_cases c : inB l[i] 0 255 = true
    · refine .inr ⟨(), ?_, ev_next (fun k => ?_)⟩
      · rw [List.take_succ_eq_append_getElem hi, List.any_append, hI]
        simp [c]
      · simp only [spec_l03OK.l0]
        rw [if_pos (by omega), if_pos (by omega), rd_get l i hi, byte_inB, c, Option.bind_some, if_pos rfl, up64 i l.length hi hl]
    · left
      have e : l.any (fun c => !(inB c 0 255)) = true := by
        rw [List.any_eq_true]
        exact ⟨l[i], List.getElem_mem hi, by simpa using c⟩
      rw [e]
      refine ev_end (fun k => ?_)
      simp only [spec_l03OK.l0]
      rw [if_pos (by omega), if_pos (by omega), rd_get l i hi, byte_inB, Option.bind_some, if_neg c]
      rfl
  · intro _ hI
    rw [List.take_length] at hI
    rw [hI]
    refine ev_end (fun k => ?_)
    simp only [spec_l03OK.l0]
    rw [if_neg (by omega)]
    rfl
theorem spec_mat_ev (a b : Int) (l : List Int) (hl : l.length ≤ 9223372036854775807) : Ev (fun k => spec_l03OK.f k a b l) (matOkB a b l) := by
  have hj : Ev (fun k => spec_l03OK.j0 k true a b l) false := ev_end (fun k => by simp only [spec_l03OK.j0, if_true])
  unfold spec_l03OK.f matOkB
  simp only [in_inB, Option.bind_some]
  cases h1 : inB a 1 8 with
  | false => simpa [h1] using hj
  | true =>
    cases h2 : inB b 1 8 with
    | false => simpa [h1, h2] using hj
    | true =>
      by_cases h3 : (l.length : Int) = wrap64 (a * b)
      · have e : ((l.length : Int) != wrap64 (a * b)) = false := by simp [h3]
        simp only [if_true, e, Bool.true_and, decide_eq_true h3]
        refine Ev.step (f := fun k => spec_l03OK.l0 k 0 a b l) (fun k => ?_) (spec_cells_ev a b l hl)
        simp only [spec_l03OK.j0, Bool.false_eq_true, if_false]
      · have e : ((l.length : Int) != wrap64 (a * b)) = true := by simp [h3]
        simp only [if_true, e, Bool.true_and, decide_eq_false h3, Bool.false_and]
        exact hj
theorem szInt64S_is (l : List Int) (left : Int) (hl : l.length ≤ 9223372036854775807) (h0 : 0 ≤ left) (h1 : left ≤ 1048576) : laws_szInt64S.f l left = some (if (l.length : Int) ≤ left then left - (l.length : Int) else -1) := by
  have e : wrap64 (left - (l.length : Int)) = left - (l.length : Int) := by unfold wrap64; omega
  unfold laws_szInt64S.f
  rw [e]
  by_cases h : (l.length : Int) ≤ left
  · rw [if_neg (by omega), if_pos h]
  · rw [if_pos (by omega), if_neg h]
theorem szMatrix_is (a b : Int) (l : List Int) (left : Int) (hl : l.length ≤ 9223372036854775807) (h0 : 0 ≤ left) (h1 : left ≤ 1048576) : laws_szMatrix.f a b l left = some (if (l.length : Int) ≤ left then left - (l.length : Int) else -1) := by
  unfold laws_szMatrix.f
  rw [szInt64S_is l left hl h0 h1, Option.bind_some]
  by_cases h : (l.length : Int) ≤ left
  · rw [if_pos h, if_neg (by omega)]
  · rw [if_neg h, if_pos (by decide)]
theorem toMatrix_ev (a b : Int) (l : List Int) (hl : l.length ≤ 1048576) : Ev (fun k => laws_toMatrix.f k a b l) (a, b, l) := by
  unfold laws_toMatrix.f
  exact Ev.bind (toInt64S_ev l hl) (Ev.now _)
theorem eqMatrix_ev (a b : Int) (l : List Int) (hl : l.length ≤ 1048576) : Ev (fun k => laws_eqMatrix.f k a b l a b l) true := by
  unfold laws_eqMatrix.f
  simp only [if_true]
  exact Ev.bind (eqInt64S_ev l (by omega)) (ev_some fun k => if_pos rfl)

end Go.Proofs.Ytgpakhlnjgehhaa.Pure
