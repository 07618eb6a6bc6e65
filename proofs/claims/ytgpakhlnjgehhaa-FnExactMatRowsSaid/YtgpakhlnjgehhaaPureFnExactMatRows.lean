/- The pure statement of FnExactMatRows: the program's rows are the reference's, and each call makes its own. -/
import Derived.Test.YtgpakhlnjgehhaaOTypes
import Derived.Test.YtgpakhlnjgehhaaQf3
import Derived.Test.YtgpakhlnjgehhaaOMat
import Derived.Test.YtgpakhlnjgehhaaOLMark
namespace Go.Proofs.Ytgpakhlnjgehhaa.Pure
open Go.RowKit Go.Proofs.Ytgpakhlnjgehhaa.Q Go.Proofs.Ytgpakhlnjgehhaa.Opens Go.Proofs.YtgpakhlnjgehhaaW.PrintWords Go.Proofs.YtgpakhlnjgehhaaW.PrintLast Go.Proofs.YtgpakhlnjgehhaaW.PrintMore
set_option linter.unusedVariables false
set_option linter.unusedSimpArgs false

theorem spec_rows3_ev (a b : Int) (l l1 : List Int) (hok : rowsOkB b l l1 = true) : Ev (fun k => spec_l03Rows.f k a b l l1) ((l1.length : Int), b, rowsN b l l1 l1.length) := by
  have hb : 1 ≤ b ∧ b ≤ 8 ∧ l1.length ≤ 8 := by
    have := hok
    unfold rowsOkB inB at this
    simp only [Bool.and_eq_true, decide_eq_true_eq] at this
    exact ⟨this.1.1.1, this.1.1.2, this.1.2⟩
  obtain ⟨hb1, hb8, hl8⟩ := hb
  refine loop_is l1.length (fun k s i => spec_l03Rows.l0 k l1 i a b l (l1.length : Int) b s) (fun i s => s = rowsN b l l1 i) _ ?_ ?_ [] rfl
  · rintro i s hi rfl
    obtain ⟨g0, g1, g2⟩ := rowsOk_at hok (i : Int) (by omega) (by omega)
    have hlen := rowsN_length hok (by omega) i (by omega)
    have hlen2 : i * b.toNat ≤ 64 := Nat.mul_le_mul (show i ≤ 8 by omega) (show b.toNat ≤ 8 by omega)
    refine .inr ⟨rowsN b l l1 (i + 1), rfl, ev_next (fun k => ?_)⟩
    have hn : rowsN b l l1 (i + 1) = rowsN b l l1 i ++ rowCut b l (rd l1 i) := rfl
    have hc := rowCut_length (Int.mul_nonneg g0 (by omega)) (by omega) g2
    rw [hn]
    unfold rowCut at hc ⊢
    obtain ⟨x, hx⟩ : ∃ x, rd l1 (i : Int) = x := ⟨_, rfl⟩
    rw [hx] at g0 g1 g2 hc ⊢
    have hp0 : 0 ≤ x * b := Int.mul_nonneg g0 (by omega)
    have hp1 : x * b ≤ 56 := by
      have := Int.mul_le_mul (show x ≤ 7 by omega) hb8 (by omega) (by omega : (0 : Int) ≤ 7)
      omega
    have e1 : wrap64 (x * b) = x * b := by
      generalize x * b = p at hp0 hp1
      unfold wrap64; omega
    have e2 : wrap64 (x + 1) = x + 1 := by unfold wrap64; omega
    have e3 : wrap64 ((x + 1) * b) = x * b + b := by
      rw [Int.add_mul, Int.one_mul]
      generalize x * b = p at hp0 hp1
      unfold wrap64; omega
    simp only [spec_l03Rows.l0, hx, e1, e2, e3]
    rw [if_pos (by omega), if_pos (by omega), if_pos hp0, if_pos (by omega), if_pos g2, up64 i l1.length hi (by omega), if_pos (by rw [hc, hlen]; omega)]
  · rintro s rfl
    exact ev_end (fun k => by simp only [spec_l03Rows.l0]; rw [if_neg (by omega)])
theorem spec_matRows_ev (a b : Int) (l l1 : List Int) (hl : l.length ≤ 9223372036854775807) (hl1 : l1.length ≤ 1048576) : Ev (fun k => spec_MatRows.f k a b l l1) (matRowsAns a b l l1) := by
  unfold spec_MatRows.f matRowsAns
  refine Ev.bind (spec_mat_ev a b l hl) ?_
  cases h1 : matOkB a b l with
  | false =>
    simp only [Bool.false_eq_true, if_false]
    exact Ev.now _
  | true =>
    simp only [if_true]
    have hj : ∀ r, r = ((0 : Int), (0 : Int), ([] : List Int), (4 : Int)) → Ev (fun k => spec_MatRows.j0 k l1 true a b l) r := fun r hr => by
      subst hr
      exact ev_end fun k => by simp only [spec_MatRows.j0]; rw [if_pos trivial]
    by_cases c1 : (l1.length : Int) < 1
    · have e : inB (l1.length : Int) 1 8 = false := by unfold inB; simp; omega
      simp only [if_pos c1, e, Bool.false_eq_true, if_false]
      exact hj _ rfl
    · simp only [if_neg c1]
      by_cases c8 : (l1.length : Int) > 8
      · have e : inB (l1.length : Int) 1 8 = false := by unfold inB; simp; omega
        simp only [decide_eq_true c8, e, Bool.false_eq_true, if_false]
        exact hj _ rfl
      · have e : inB (l1.length : Int) 1 8 = true := by unfold inB; simp; omega
        simp only [decide_eq_false c8, e, if_true]
        refine Ev.step (f := fun k => spec_MatRows.l0 k l1 0 a b l) (fun k => ?_) ?_
        · simp only [spec_MatRows.j0, Bool.false_eq_true, if_false]
        · refine loop_is l1.length (fun k (_ : Unit) i => spec_MatRows.l0 k l1 i a b l) (fun i _ => (l1.take i).any (fun x => !(inB x 0 (wrap64 (a - 1)))) = false) _ ?_ ?_ () (by simp)
          · intro i _ hi hI
            have hu : ∀ k, spec_MatRows.l0 (k + 1) l1 i a b l = if inB l1[i] 0 (wrap64 (a - 1)) = true then spec_MatRows.l0 k l1 ((i + 1 : Nat) : Int) a b l else some (0, 0, [], 2) := fun k => by
              simp only [spec_MatRows.l0]
              rw [if_pos (by omega), if_pos (by omega), rd_get l1 i hi, in_inB, up64 i l1.length hi (by omega)]
              rfl
            cases c : inB l1[i] 0 (wrap64 (a - 1)) with
            | true =>
              refine .inr ⟨(), ?_, ev_next (fun k => by rw [hu k, if_pos c])⟩
              rw [List.take_succ_eq_append_getElem hi, List.any_append, hI]
              simp [c]
            | false =>
              left
              have e2 : l1.any (fun x => !(inB x 0 (wrap64 (a - 1)))) = true := List.any_eq_true.2 ⟨l1[i], List.getElem_mem hi, by rw [c]; rfl⟩
              simp only [e2, if_true]
              exact ev_end (fun k => by rw [hu k, if_neg (by rw [c]; decide)])
          · intro _ hI
            rw [List.take_length] at hI
            simp only [hI, Bool.false_eq_true, if_false]
            refine Ev.step (f := ?f) (fun k => ?_) ?_
            rotate_left
            · simp only [spec_MatRows.l0]
              rw [if_neg (by omega)]
              all_goals exact rfl
            · exact Ev.bind (spec_rows3_ev a b l l1 (rowsOk_of h1 e hI)) (Ev.now _)
theorem matRows_len (a b : Int) (l l1 : List Int) : (matRowsAns a b l l1).2.2.1.length ≤ 64 := by
  unfold matRowsAns
  split
  · rename_i h1
    split
    · rename_i h2
      split
      · simp
      · rename_i h3
        have hok := rowsOk_of h1 h2 (by simpa using h3)
        have hb : 1 ≤ b ∧ b ≤ 8 ∧ l1.length ≤ 8 := by
          have := hok
          unfold rowsOkB inB at this
          simp only [Bool.and_eq_true, decide_eq_true_eq] at this
          exact ⟨this.1.1.1, this.1.1.2, this.1.2⟩
        show (rowsN b l l1 l1.length).length ≤ 64
        rw [rowsN_length hok (by omega) l1.length (by omega)]
        exact Nat.mul_le_mul (show l1.length ≤ 8 by omega) (show b.toNat ≤ 8 by omega)
    · simp
  · simp
theorem markMatrix_ev (a b : Int) (l : List Int) (hl : l.length ≤ 1048576) : Ev (fun k => laws_markMatrix.f k a b l 1) (((1 + l.length : Nat) : Int), cnt 1 l.length) := by
  unfold laws_markMatrix.f
  exact Ev.bind (markInt64S_ev l 1 hl (by omega)) (Ev.now _)
theorem heldMatrix2_ev (a b : Int) (n : Nat) (hn : n ≤ 1048576) : Ev (fun k => laws_heldMatrix.f k a b (cnt 1 n) 1) ((1 + n : Nat) : Int) := by
  unfold laws_heldMatrix.f
  refine Ev.bind (heldInt64S_ev 1 n hn (by omega)) (ev_some fun k => ?_)
  rw [if_neg (by omega)]
theorem FnExactMatRows (a0_0 : Int) (a0_1 : Int) (l0_2 : List Int) (l1 : List Int) (_ : (Lit.int .i64 a0_0).wf = true) (_ : (Lit.int .i64 a0_1).wf = true) (g2 : good_t22 l0_2) (g1 : good_t22 l1) : ∃ k, laws_FnExactMatRows.f k a0_0 a0_1 l0_2 l1 = some true := by
  refine Ev.rounds (r := true) ?_
  unfold laws_FnExactMatRows.f
  by_cases c : (l1.length : Int) > 1048576
  · simp only [if_pos c]
    exact Ev.now _
  · simp only [if_neg c, szMatrix_is a0_0 a0_1 l0_2 1048576 g2.1 (by omega) (by omega), Option.bind_some]
    by_cases c2 : (l0_2.length : Int) ≤ 1048576
    · simp only [if_pos c2, show ¬ ((1048576 : Int) - (l0_2.length : Int) < 0) by omega, if_false]
      have hto := toMatrix_ev a0_0 a0_1 l0_2 (by omega)
      have hti := toInt64S_ev l1 (by omega)
      have hlen := matRows_len a0_0 a0_1 l0_2 l1
      have him : ∀ k : Nat, impl_MatRows.f a0_0 a0_1 l0_2 l1 = some (matRowsAns a0_0 a0_1 l0_2 l1) := fun _ => rfl
      refine Ev.bind hto (Ev.bind hti (Ev.bind (spec_matRows_ev a0_0 a0_1 l0_2 l1 (by omega) (by omega)) (Ev.bind hto (Ev.bind hti ?_))))
      simp only [him 0, Option.bind_some]
      generalize hU : matRowsAns a0_0 a0_1 l0_2 l1 = U at hlen him
      obtain ⟨a, b, r, e⟩ := U
      simp only at hlen ⊢
      have heq := eqMatrix_ev a b r (by omega)
      refine Ev.bind heq ?_
      simp only [if_true, bne_self_eq_false]
      refine Ev.step (f := ?f) (fun k => ?_) ?_
      rotate_left
      · simp only [laws_FnExactMatRows.j0, Bool.false_eq_true, if_false]
        exact rfl
      · refine Ev.bind hto (Ev.bind (eqMatrix_ev a0_0 a0_1 l0_2 (by omega)) ?_)
        simp only [if_true]
        refine Ev.bind hti (Ev.bind (eqInt64S_ev l1 (by omega)) ?_)
        simp only [if_true]
        refine Ev.bind (markMatrix_ev a0_0 a0_1 l0_2 (by omega)) ?_
        refine Ev.bind (markInt64S_ev l1 (1 + l0_2.length) (by omega) (by omega)) ?_
        simp only [if_neg (show ¬ (((1 + l0_2.length + l1.length : Nat) : Int) < 0) by omega)]
        refine Ev.bind heq ?_
        simp only [if_true, bne_self_eq_false]
        refine Ev.step (f := ?g) (fun k => ?_) ?_
        rotate_left
        · simp only [laws_FnExactMatRows.j1, Bool.false_eq_true, if_false]
          exact rfl
        · refine Ev.bind (markMatrix_ev a b r (by omega)) (Ev.bind (heldMatrix2_ev a b r.length (by omega)) ?_)
          simp only [if_neg (show ¬ (((1 + r.length : Nat) : Int) < 0) by omega), if_true]
          refine Ev.bind hto (Ev.bind hti ?_)
          simp only [him 0, Option.bind_some]
          refine Ev.bind heq ?_
          simp only [if_true, bne_self_eq_false]
          refine Ev.step (f := ?g2) (fun k => ?_) ?_
          rotate_left
          · simp only [laws_FnExactMatRows.j2, Bool.false_eq_true, if_false]
            exact rfl
          · refine Ev.bind (heldMatrix2_ev a b r.length (by omega)) (ev_some fun k => ?_)
            rw [if_neg (by omega), if_pos rfl]
    · simp only [if_neg c2]
      exact ev_some fun k => by simp

end Go.Proofs.Ytgpakhlnjgehhaa.Pure
