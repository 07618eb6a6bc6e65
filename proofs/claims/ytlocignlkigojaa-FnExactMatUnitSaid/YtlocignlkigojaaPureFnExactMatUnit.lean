/- The pure statement of FnExactMatUnit: the program's unit matrix is the reference's, and each call makes its own. -/
import Derived.Test.YtlocignlkigojaaQf6
import Derived.Test.YtlocignlkigojaaOMat
import Derived.Test.YtlocignlkigojaaOLMark
namespace Go.Proofs.Ytlocignlkigojaa.Pure
open Go.RowKit Go.Proofs.Ytlocignlkigojaa.Q Go.Proofs.YtlocignlkigojaaW.PrintWords Go.Proofs.YtlocignlkigojaaW.PrintLast Go.Proofs.YtlocignlkigojaaW.PrintMore
set_option linter.unusedVariables false
set_option linter.unusedSimpArgs false

/-- the unit matrix's rows as the reference writes them -/
def unitS (n m : Nat) : List Int := (List.range m).map fun x => if x % (n + 1) = 0 then 1 else 0
theorem unit_same (n : Nat) (h1 : 1 ≤ n) (h8 : n ≤ 8) : unitGo n n = unitS n (n * n) := by
  have : ∀ n : Fin 9, 1 ≤ n.val → unitGo n.val n.val = unitS n.val (n.val * n.val) := by decide +kernel
  exact this ⟨n, by omega⟩ h1
theorem sq_le (n : Nat) (h8 : n ≤ 8) : n * n ≤ 64 := Nat.mul_le_mul h8 h8
theorem spec_unit_ev (n : Nat) (h1 : 1 ≤ n) (h8 : n ≤ 8) : Ev (fun k => spec_l03Unit.f k n) ((n : Int), (n : Int), unitS n (n * n)) := by
  have hs := sq_le n h8
  have hw : wrap64 ((n : Int) * (n : Int)) = ((n * n : Nat) : Int) := by
    rw [← Int.natCast_mul]
    generalize n * n = m at hs ⊢
    unfold wrap64; omega
  have hw1 : wrap64 ((n : Int) + 1) = ((n + 1 : Nat) : Int) := by unfold wrap64; omega
  unfold spec_l03Unit.f
  generalize hm : n * n = m at hs hw ⊢
  refine loop_is m (fun k s i => spec_l03Unit.l0 k n i n n s) (fun i s => s = unitS n i) _ ?_ ?_ [] rfl
  · rintro i s hi rfl
    refine .inr ⟨unitS n (i + 1), rfl, ev_next (fun k => ?_)⟩
    have hl : (unitS n i).length = i := by simp [unitS]
    have hnext : unitS n (i + 1) = unitS n i ++ [if i % (n + 1) = 0 then 1 else 0] := by simp [unitS, List.range_succ]
    simp only [spec_l03Unit.l0]
    rw [hw, hw1, if_pos (by omega), if_neg (by omega), ← Int.ofNat_tmod, hl, up64 i m hi (by omega), hnext]
    by_cases c : i % (n + 1) = 0
    · rw [if_pos (by omega), if_pos (by omega), if_pos c]
    · rw [if_neg (by omega), if_pos (by omega), if_neg c]
  · rintro s rfl
    refine ev_end (fun k => ?_)
    simp only [spec_l03Unit.l0]
    rw [hw, if_neg (by omega)]
/-- the answer -/
def unitAns (a : Int) : Int × Int × List Int × Int := if 1 ≤ a ∧ a ≤ 8 then (a, a, unitS a.toNat (a.toNat * a.toNat), 0) else (0, 0, [], 2)
theorem unit_inB (a : Int) : inB a 1 8 = decide (1 ≤ a ∧ a ≤ 8) := by
  unfold inB
  by_cases h1 : 1 ≤ a <;> by_cases h2 : a ≤ 8 <;> simp [h1, h2]
theorem spec_matUnit (a : Int) : Ev (fun k => spec_MatUnit.f k a) (unitAns a) := by
  unfold spec_MatUnit.f unitAns
  simp only [in_inB, Option.bind_some, unit_inB]
  by_cases c : 1 ≤ a ∧ a ≤ 8
  · simp only [decide_eq_true c, if_true, if_pos c]
    obtain ⟨n, rfl⟩ := Int.eq_ofNat_of_zero_le (show 0 ≤ a by omega)
    rw [Int.toNat_natCast]
    exact Ev.bind (spec_unit_ev n (by omega) (by omega)) (Ev.now _)
  · simp only [decide_eq_false c, Bool.false_eq_true, if_false, if_neg c]
    exact Ev.now _
theorem impl_matUnit (a : Int) : impl_MatUnit.f a = some (unitAns a) := by
  unfold impl_MatUnit.f impl_unit.f unitAns
  simp only [between_inB, Option.bind_some, unit_inB]
  by_cases c : 1 ≤ a ∧ a ≤ 8
  · simp only [decide_eq_true c, if_true, if_pos c, Option.bind_some]
    rw [unit_same a.toNat (by omega) (by omega)]
  · simp only [decide_eq_false c, Bool.false_eq_true, if_false, if_neg c]
theorem unitAns_len (a : Int) : (unitAns a).2.2.1.length ≤ 64 := by
  unfold unitAns
  by_cases c : 1 ≤ a ∧ a ≤ 8
  · rw [if_pos c]
    have := sq_le a.toNat (by omega)
    simpa [unitS] using this
  · rw [if_neg c]; simp
theorem heldMatrix_ev (a b : Int) (c n : Nat) (hn : n ≤ 1048576) (hc : c ≤ 1000000000) : Ev (fun k => laws_heldMatrix.f k a b (cnt c n) c) ((c + n : Nat) : Int) := by
  unfold laws_heldMatrix.f
  refine Ev.bind (heldInt64S_ev c n hn hc) (ev_some fun k => ?_)
  rw [if_neg (by omega)]
theorem FnExactMatUnit : laws_FnExactMatUnit.Pure := by
  intro a0 _
  refine Ev.rounds (r := true) ?_
  unfold laws_FnExactMatUnit.f
  refine Ev.bind (spec_matUnit a0) ?_
  simp only [impl_matUnit, Option.bind_some]
  have hl := unitAns_len a0
  generalize hU : unitAns a0 = U at hl
  obtain ⟨a, b, l, e⟩ := U
  simp only at hl ⊢
  have heq := eqMatrix_ev a b l (by omega)
  have hmark : Ev (fun k => laws_markMatrix.f k a b l 1) (((1 + l.length : Nat) : Int), cnt 1 l.length) := by
    unfold laws_markMatrix.f
    exact Ev.bind (markInt64S_ev l 1 (by omega) (by omega)) (Ev.now _)
  have hheld := heldMatrix_ev a b 1 l.length (by omega) (by omega)
  refine Ev.bind heq ?_
  simp only [if_true, bne_self_eq_false]
  refine Ev.step (f := ?f) (fun k => ?_) ?_
  rotate_left
  · simp only [laws_FnExactMatUnit.j0, Bool.false_eq_true, if_false]
    exact rfl
  · refine Ev.bind hmark (Ev.bind hheld ?_)
    simp only [if_neg (show ¬ (((1 + l.length : Nat) : Int) < 0) by omega), if_true, impl_matUnit, Option.bind_some, hU]
    refine Ev.bind heq ?_
    simp only [if_true, bne_self_eq_false]
    refine Ev.step (f := ?g) (fun k => ?_) ?_
    rotate_left
    · simp only [laws_FnExactMatUnit.j1, Bool.false_eq_true, if_false]
      exact rfl
    · refine Ev.bind hheld (ev_some fun k => ?_)
      rw [if_neg (by omega), if_pos rfl]

end Go.Proofs.Ytlocignlkigojaa.Pure
