/- Walks and plain laws of one claim, several texts in one. -/
import Derived.Test.YtlocignlkigojaaOIn
import Derived.Test.YtlocignlkigojaaOLRows
import Derived.Test.YtlocignlkigojaaQf57
import Derived.Test.YtlocignlkigojaaQf59
import Derived.Test.YtlocignlkigojaaOTypes
import Derived.Test.YtlocignlkigojaaQf11
-- text OMoves
namespace Go.Proofs.Ytlocignlkigojaa.Pure
open Go.RowKit Go.Proofs.Ytlocignlkigojaa.Q Go.Proofs.YtlocignlkigojaaW.PrintWords Go.Proofs.YtlocignlkigojaaW.PrintLast Go.Proofs.YtlocignlkigojaaW.PrintMore
set_option linter.unusedVariables false
set_option linter.unusedSimpArgs false

theorem spec_rows_ev (l : List (List Int)) (hb : ∀ x ∈ l, x.length ≤ 1048576) : Ev (fun k => spec_l10Rows.f k l) (tableB l) := by
  unfold spec_l10Rows.f tableB
  by_cases h : (l.length : Int) > 16
  · simp only [if_pos h, decide_eq_false (show ¬ ((l.length : Int) ≤ 16) by omega), Bool.false_and]
    exact Ev.now _
  · simp only [if_neg h, decide_eq_true (show (l.length : Int) ≤ 16 by omega), Bool.true_and]
    have hrow : ∀ (i : Nat) (hi : i < l.length) (r : Bool), ((rowBad l l[i] = false) → Ev (fun k => spec_l10Rows.l0 k l ((i + 1 : Nat) : Int)) r) → (rowBad l l[i] = true → r = false) → Ev (fun k => spec_l10Rows.l0 k l i) r := by
      intro i hi r hgood hbad
      have hb0 : rowBad l l[i] = (((l[i].length : Int) != ((rd_L5 l 0).length : Int)) || decide (7 < (l[i].length : Int)) || !(l[i].all fun x => inB x (-1) 15)) := rfl
      have hlen := hb _ (List.getElem_mem hi)
      have hin : (l[i].all (fun x => inB x (-1) 15) = true → Ev (fun k => spec_l10Rows.l0 k l ((i + 1 : Nat) : Int)) r) → (l[i].all (fun x => inB x (-1) 15) = false → r = false) → Ev (fun k => spec_l10Rows.l1 k l i 0) r := by
        intro hg hbd
        refine loop_is l[i].length (fun k (_ : Unit) j => spec_l10Rows.l1 k l i j) (fun j _ => (l[i].take j).all (fun x => inB x (-1) 15) = true) r ?_ ?_ () (by simp)
        · intro j _ hj hJ
          have hu : ∀ k, spec_l10Rows.l1 (k + 1) l i j = if inB l[i][j] (-1) 15 = true then spec_l10Rows.l1 k l i ((j + 1 : Nat) : Int) else some false := fun k => by
            simp only [spec_l10Rows.l1]
            rw [if_pos (by omega), if_pos (by omega), rd_rowL l i hi, if_pos (by omega), if_pos (by omega), rd_get _ j hj, in_inB, up64 j l[i].length hj (by omega)]
            rfl
          by_cases c : inB l[i][j] (-1) 15 = true
          · refine .inr ⟨(), ?_, ev_next (fun k => by rw [hu k, if_pos c])⟩
            rw [List.take_succ_eq_append_getElem hj, List.all_append, hJ]
            simpa using c
          · left
            have e : l[i].all (fun x => inB x (-1) 15) = false := by
              rw [List.all_eq_false]
              exact ⟨l[i][j], List.getElem_mem hj, by simpa using c⟩
            rw [hbd e]
            exact ev_end (fun k => by rw [hu k, if_neg c])
        · intro _ hJ
          rw [List.take_length] at hJ
          refine Ev.step (fun k => ?_) (hg hJ)
          simp only [spec_l10Rows.l1]
          rw [if_pos (by omega), if_pos (by omega), rd_rowL l i hi, if_neg (by omega), up64 i l.length hi (by omega)]
      by_cases c7 : (l[i].length : Int) > 7
      · have e := hbad (by rw [hb0, decide_eq_true (show 7 < (l[i].length : Int) by omega)]; simp)
        subst e
        refine Ev.step (f := fun k => spec_l10Rows.j1 k l i true) (fun k => ?_) (ev_end fun k => ?_)
        · simp only [spec_l10Rows.l0]
          rw [if_pos (by omega), if_pos (by omega), rd_rowL l i hi, if_pos c7]
        · simp only [spec_l10Rows.j1]
          rw [if_pos trivial]
      · refine Ev.step (f := fun k => spec_l10Rows.j1 k l i ((l[i].length : Int) != ((rd_L5 l 0).length : Int))) (fun k => ?_) ?_
        · simp only [spec_l10Rows.l0]
          rw [if_pos (by omega), if_pos (by omega), rd_rowL l i hi, if_neg c7, if_pos (by omega)]
        · cases c : ((l[i].length : Int) != ((rd_L5 l 0).length : Int)) with
          | true =>
            have e := hbad (by rw [hb0, c]; simp)
            subst e
            exact ev_end fun k => by simp only [spec_l10Rows.j1]; rw [if_pos trivial]
          | false =>
            have hb1 : rowBad l l[i] = !(l[i].all fun x => inB x (-1) 15) := by rw [hb0, c, decide_eq_false (show ¬ 7 < (l[i].length : Int) by omega)]; simp
            refine Ev.step (f := fun k => spec_l10Rows.l1 k l i 0) (fun k => ?_) (hin (fun h => hgood (by rw [hb1, h]; rfl)) (fun h => hbad (by rw [hb1, h]; rfl)))
            simp only [spec_l10Rows.j1, Bool.false_eq_true, if_false]
    refine loop_is l.length (fun k (_ : Unit) i => spec_l10Rows.l0 k l i) (fun i _ => (l.take i).any (rowBad l) = false) _ ?_ ?_ () (by simp)
    · intro i _ hi hI
      cases hc : rowBad l l[i] with
      | false =>
        refine .inr ⟨(), ?_, fun r hr => hrow i hi r (fun _ => hr) (fun h => by rw [hc] at h; cases h)⟩
        rw [List.take_succ_eq_append_getElem hi, List.any_append, hI]
        simp [hc]
      | true =>
        left
        have e : l.any (rowBad l) = true := List.any_eq_true.2 ⟨l[i], List.getElem_mem hi, hc⟩
        rw [e]
        exact hrow i hi _ (fun h => by rw [hc] at h; cases h) (fun _ => rfl)
    · intro _ hI
      rw [List.take_length] at hI
      rw [hI]
      exact ev_end (fun k => by simp only [spec_l10Rows.l0]; rw [if_neg (by omega)]; rfl)
/-! counting -/
def cellD (a b : List (List Int)) (i j : Nat) : Int := if rd (rd_L5 a i) j = rd (rd_L5 b i) j then 0 else 1
def rowCnt (a b : List (List Int)) (i : Nat) : Nat → Int
  | 0 => 0
  | j + 1 => rowCnt a b i j + cellD a b i j
def totCnt (a b : List (List Int)) : Nat → Int
  | 0 => 0
  | i + 1 => totCnt a b i + rowCnt a b i (rd_L5 a i).length
theorem cellD_range (a b : List (List Int)) (i j : Nat) : 0 ≤ cellD a b i j ∧ cellD a b i j ≤ 1 := by
  unfold cellD; split <;> omega
theorem rowCnt_range (a b : List (List Int)) (i : Nat) : ∀ j, 0 ≤ rowCnt a b i j ∧ rowCnt a b i j ≤ j
  | 0 => by simp [rowCnt]
  | j + 1 => by
    have h1 := rowCnt_range a b i j
    have h2 := cellD_range a b i j
    simp only [rowCnt]
    omega
/-- two tables that may be compared -/
structure Pair (a b : List (List Int)) : Prop where
  la : a.length ≤ 16
  lb : b.length = a.length
  ra : ∀ i (h : i < a.length), a[i].length ≤ 7
  rb : ∀ i (h : i < a.length) (h' : i < b.length), b[i].length = a[i].length
theorem totCnt_range {a b : List (List Int)} (P : Pair a b) : ∀ i, i ≤ a.length → 0 ≤ totCnt a b i ∧ totCnt a b i ≤ 7 * i
  | 0, _ => by simp [totCnt]
  | i + 1, h => by
    have h1 := totCnt_range P i (by omega)
    have h2 := rowCnt_range a b i (rd_L5 a i).length
    have h3 := P.ra i (by omega)
    rw [← rd_rowL a i (by omega)] at h3
    simp only [totCnt]
    omega
theorem wrap_small (x : Int) (h0 : 0 ≤ x) (h1 : x ≤ 1000000) : wrap64 (x + 1) = x + 1 := by unfold wrap64; omega
theorem spec_count_ev {a b : List (List Int)} (P : Pair a b) : Ev (fun k => spec_Moves.l0 k a b 0 0) (totCnt a b a.length, 0) := by
  have hla := P.la
  have hlb := P.lb
  refine loop_is a.length (fun k (s : Int) i => spec_Moves.l0 k a b s i) (fun i s => s = totCnt a b i) _ ?_ ?_ 0 rfl
  · rintro i s hi rfl
    have hra := P.ra i hi
    have hrb := P.rb i hi (by omega)
    have hrd := rd_rowL a i hi
    have hrd2 := rd_rowL b i (by omega)
    have ht := totCnt_range P i (by omega)
    refine .inr ⟨totCnt a b (i + 1), rfl, fun r hr => Ev.step (f := fun k => spec_Moves.l1 k a b (totCnt a b i) i 0) (fun k => ?_) ?_⟩
    · simp only [spec_Moves.l0]
      rw [if_pos (by omega)]
    · refine loop_is a[i].length (fun k (s : Int) j => spec_Moves.l1 k a b s i j) (fun j s => s = totCnt a b i + rowCnt a b i j) r ?_ ?_ (totCnt a b i) (by simp [rowCnt])
      · rintro j s hj rfl
        have hc := rowCnt_range a b i j
        refine .inr ⟨totCnt a b i + rowCnt a b i (j + 1), rfl, ev_next (fun k => ?_)⟩
        have hstep : rowCnt a b i (j + 1) = rowCnt a b i j + cellD a b i j := rfl
        rw [hstep]
        unfold cellD
        simp only [spec_Moves.l1]
        rw [if_pos (by omega), if_pos (by omega), hrd, hrd2, if_pos (by omega), if_pos (by omega), if_pos (by omega), if_pos (by omega), up64 j a[i].length hj (by omega), wrap_small _ (by omega) (by omega)]
        by_cases c : rd a[i] j = rd b[i] j
        · rw [if_pos c, if_pos c, Int.add_zero]
        · rw [if_neg c, if_neg c, Int.add_assoc]
      · rintro s rfl
        have e : totCnt a b (i + 1) = totCnt a b i + rowCnt a b i a[i].length := by
          show totCnt a b i + rowCnt a b i (rd_L5 a i).length = _
          rw [hrd]
        rw [e] at hr
        refine Ev.step (fun k => ?_) hr
        simp only [spec_Moves.l1]
        rw [if_pos (by omega), if_pos (by omega), hrd, if_neg (by omega), up64 i a.length hi (by omega)]
  · rintro s rfl
    exact ev_end (fun k => by simp only [spec_Moves.l0]; rw [if_neg (by omega)])
theorem impl_count_ev {a b : List (List Int)} (P : Pair a b) : Ev (fun k => impl_Moves.l0 k b 0 a a.length 0) (totCnt a b a.length, 0) := by
  have hla := P.la
  have hlb := P.lb
  refine loop_is a.length (fun k (s : Int) i => impl_Moves.l0 k b s a a.length i) (fun i s => s = totCnt a b i) _ ?_ ?_ 0 rfl
  · rintro i s hi rfl
    have hra := P.ra i hi
    have hrb := P.rb i hi (by omega)
    have hrd := rd_rowL a i hi
    have hrd2 := rd_rowL b i (by omega)
    have ht := totCnt_range P i (by omega)
    refine .inr ⟨totCnt a b (i + 1), rfl, fun r hr => Ev.step (f := fun k => impl_Moves.l1 k b (totCnt a b i) i a a.length i a[i] a[i].length 0) (fun k => ?_) ?_⟩
    · simp only [impl_Moves.l0]
      rw [if_pos (by omega), if_pos (by omega), if_pos (by omega), hrd]
    · refine loop_is a[i].length (fun k (s : Int) j => impl_Moves.l1 k b s i a a.length i a[i] a[i].length j) (fun j s => s = totCnt a b i + rowCnt a b i j) r ?_ ?_ (totCnt a b i) (by simp [rowCnt])
      · rintro j s hj rfl
        have hc := rowCnt_range a b i j
        refine .inr ⟨totCnt a b i + rowCnt a b i (j + 1), rfl, ev_next (fun k => ?_)⟩
        have hstep : rowCnt a b i (j + 1) = rowCnt a b i j + cellD a b i j := rfl
        rw [hstep]
        unfold cellD
        simp only [impl_Moves.l1]
        rw [if_pos (by omega), if_pos (by omega), if_pos (by omega), if_pos (by omega), if_pos (by omega), hrd, hrd2, if_pos (by omega), up64 j a[i].length hj (by omega), wrap_small _ (by omega) (by omega)]
        by_cases c : rd a[i] j = rd b[i] j
        · rw [if_pos c.symm, if_pos c, Int.add_zero]
        · rw [if_neg (fun h => c h.symm), if_neg c, Int.add_assoc]
      · rintro s rfl
        have e : totCnt a b (i + 1) = totCnt a b i + rowCnt a b i a[i].length := by
          show totCnt a b i + rowCnt a b i (rd_L5 a i).length = _
          rw [hrd]
        rw [e] at hr
        refine Ev.step (fun k => ?_) hr
        simp only [impl_Moves.l1]
        rw [if_neg (by omega), up64 i a.length hi (by omega)]
  · rintro s rfl
    exact ev_end (fun k => by simp only [impl_Moves.l0]; rw [if_neg (by omega)])
/-! the whole -/
def pairB (a b : List (List Int)) : Bool := decide ((a.length : Int) = (b.length : Int)) && (!(decide (0 < a.length)) || decide ((rd_L5 a 0).length = (rd_L5 b 0).length))
def movesAns (a b : List (List Int)) : Int × Int := if tableB a = true ∧ tableB b = true then (if pairB a b = true then (totCnt a b a.length, 0) else (0, 2)) else (0, 1)
theorem table_row (l : List (List Int)) (h : tableB l = true) : l.length ≤ 16 ∧ ∀ i (hi : i < l.length), l[i].length ≤ 7 ∧ l[i].length = (rd_L5 l 0).length := by
  unfold tableB at h
  rw [Bool.and_eq_true, Bool.not_eq_true', List.any_eq_false] at h
  have h16 := of_decide_eq_true h.1
  refine ⟨by omega, fun i hi => ?_⟩
  have := h.2 l[i] (List.getElem_mem hi)
  unfold rowBad at this
  simp only [Bool.or_eq_true, not_or, bne_iff_ne, ne_eq, Decidable.not_not, decide_eq_true_eq] at this
  omega
theorem pair_of (a b : List (List Int)) (ha : tableB a = true) (hb : tableB b = true) (hp : pairB a b = true) : Pair a b := by
  obtain ⟨h1, h2⟩ := table_row a ha
  obtain ⟨h3, h4⟩ := table_row b hb
  unfold pairB at hp
  simp only [Bool.and_eq_true, Bool.or_eq_true, Bool.not_eq_true', decide_eq_true_eq, decide_eq_false_iff_not] at hp
  refine ⟨h1, by omega, fun i hi => (h2 i hi).1, fun i hi hi' => ?_⟩
  have e1 := (h2 i hi).2
  have e2 := (h4 i hi').2
  rcases hp.2 with h | h <;> omega
theorem spec_moves_ev (a b : List (List Int)) (sa : SmallR a) (sb : SmallR b) : Ev (fun k => spec_Moves.f k a b) (movesAns a b) := by
  unfold spec_Moves.f movesAns
  have hj : ∀ r, r = ((0 : Int), (1 : Int)) → Ev (fun k => spec_Moves.j0 k a b true) r := fun r hr => by
    subst hr
    exact ev_end fun k => by simp only [spec_Moves.j0]; rw [if_pos trivial]
  refine Ev.bind (spec_rows_ev a sa.2) ?_
  cases ha : tableB a with
  | false =>
    simp only [Bool.false_eq_true, if_false, false_and]
    exact hj _ rfl
  | true =>
    simp only [if_true, true_and]
    refine Ev.bind (spec_rows_ev b sb.2) ?_
    cases hb : tableB b with
    | false =>
      simp only [Bool.not_false, Bool.false_eq_true, if_false]
      exact hj _ rfl
    | true =>
      simp only [Bool.not_true, if_true]
      have hj1 : ∀ r, r = ((0 : Int), (2 : Int)) → Ev (fun k => spec_Moves.j1 k a b true) r := fun r hr => by
        subst hr
        exact ev_end fun k => by simp only [spec_Moves.j1]; rw [if_pos trivial]
      by_cases c : (a.length : Int) = (b.length : Int)
      · by_cases c0 : (a.length : Int) > 0
        · refine Ev.step (f := fun k => spec_Moves.j1 k a b (((rd_L5 a 0).length : Int) != ((rd_L5 b 0).length : Int))) (fun k => ?_) ?_
          · simp only [spec_Moves.j0, Bool.false_eq_true, if_false]
            rw [if_pos c, if_pos c0, if_pos (by omega), if_pos (by omega)]
          · by_cases c2 : (rd_L5 a 0).length = (rd_L5 b 0).length
            · have hp : pairB a b = true := by unfold pairB; simp [c, c2]
              rw [if_pos hp, show (((rd_L5 a 0).length : Int) != ((rd_L5 b 0).length : Int)) = false from by simp [c2]]
              refine Ev.step (f := fun k => spec_Moves.l0 k a b 0 0) (fun k => ?_) (spec_count_ev (pair_of a b ha hb hp))
              simp only [spec_Moves.j1, Bool.false_eq_true, if_false]
            · have hp : ¬ pairB a b = true := by
                unfold pairB
                simp only [Bool.and_eq_true, Bool.or_eq_true, Bool.not_eq_true', decide_eq_true_eq, decide_eq_false_iff_not]
                omega
              rw [if_neg hp, show (((rd_L5 a 0).length : Int) != ((rd_L5 b 0).length : Int)) = true from by simp; omega]
              exact hj1 _ rfl
        · have hp : pairB a b = true := by
            unfold pairB
            simp only [Bool.and_eq_true, Bool.or_eq_true, Bool.not_eq_true', decide_eq_true_eq, decide_eq_false_iff_not]
            omega
          rw [if_pos hp]
          refine Ev.step (f := fun k => spec_Moves.j1 k a b false) (fun k => ?_) (Ev.step (f := fun k => spec_Moves.l0 k a b 0 0) (fun k => ?_) (spec_count_ev (pair_of a b ha hb hp)))
          · simp only [spec_Moves.j0, Bool.false_eq_true, if_false]
            rw [if_pos c, if_neg c0]
          · simp only [spec_Moves.j1, Bool.false_eq_true, if_false]
      · have hp : ¬ pairB a b = true := by
          unfold pairB
          simp only [Bool.and_eq_true, decide_eq_true_eq]
          omega
        rw [if_neg hp]
        refine Ev.step (f := fun k => spec_Moves.j1 k a b true) (fun k => ?_) (hj1 _ rfl)
        simp only [spec_Moves.j0, Bool.false_eq_true, if_false]
        rw [if_neg c]
theorem impl_moves_ev (a b : List (List Int)) : Ev (fun k => impl_Moves.f k a b) (movesAns a b) := by
  unfold impl_Moves.f impl_tableOk.f movesAns
  have hj : ∀ r, r = ((0 : Int), (1 : Int)) → Ev (fun k => impl_Moves.j0 k a b true) r := fun r hr => by
    subst hr
    exact ev_end fun k => by simp only [impl_Moves.j0]; rw [if_pos trivial]
  simp only [Option.bind_some]
  cases ha : tableB a with
  | false =>
    simp only [Bool.false_eq_true, if_false, false_and]
    exact hj _ rfl
  | true =>
    simp only [if_true, true_and]
    cases hb : tableB b with
    | false =>
      simp only [Bool.not_false, Bool.false_eq_true, if_false]
      exact hj _ rfl
    | true =>
      simp only [Bool.not_true, if_true]
      by_cases c : (a.length : Int) = (b.length : Int)
      · by_cases c0 : (a.length : Int) > 0
        · by_cases c2 : (rd_L5 a 0).length = (rd_L5 b 0).length
          · have hp : pairB a b = true := by unfold pairB; simp [c, c2]
            rw [if_pos hp]
            refine Ev.step (f := fun k => impl_Moves.j1 k a b) (fun k => ?_) (Ev.step (f := fun k => impl_Moves.l0 k b 0 a a.length 0) (fun k => rfl) (impl_count_ev (pair_of a b ha hb hp)))
            simp only [impl_Moves.j0, Bool.false_eq_true, if_false]
            rw [if_pos c, if_pos c0, if_pos (by omega), if_pos (by omega), if_pos (by omega)]
          · have hp : ¬ pairB a b = true := by
              unfold pairB
              simp only [Bool.and_eq_true, Bool.or_eq_true, Bool.not_eq_true', decide_eq_true_eq, decide_eq_false_iff_not]
              omega
            rw [if_neg hp]
            refine ev_end (fun k => ?_)
            simp only [impl_Moves.j0, Bool.false_eq_true, if_false]
            rw [if_pos c, if_pos c0, if_pos (by omega), if_pos (by omega), if_neg (by omega)]
        · have hp : pairB a b = true := by
            unfold pairB
            simp only [Bool.and_eq_true, Bool.or_eq_true, Bool.not_eq_true', decide_eq_true_eq, decide_eq_false_iff_not]
            omega
          rw [if_pos hp]
          refine Ev.step (f := fun k => impl_Moves.j1 k a b) (fun k => ?_) (Ev.step (f := fun k => impl_Moves.l0 k b 0 a a.length 0) (fun k => rfl) (impl_count_ev (pair_of a b ha hb hp)))
          simp only [impl_Moves.j0, Bool.false_eq_true, if_false]
          rw [if_pos c, if_neg c0]
      · have hp : ¬ pairB a b = true := by
          unfold pairB
          simp only [Bool.and_eq_true, decide_eq_true_eq]
          omega
        rw [if_neg hp]
        refine ev_end (fun k => ?_)
        simp only [impl_Moves.j0, Bool.false_eq_true, if_false]
        rw [if_neg c]

end Go.Proofs.Ytlocignlkigojaa.Pure

-- text PureFnExactMoves
namespace Go.Proofs.Ytlocignlkigojaa.Pure
open Go.RowKit Go.Proofs.Ytlocignlkigojaa.Q Go.Proofs.Ytlocignlkigojaa.Opens Go.Proofs.YtlocignlkigojaaW.PrintWords Go.Proofs.YtlocignlkigojaaW.PrintLast Go.Proofs.YtlocignlkigojaaW.PrintMore
set_option linter.unusedVariables false
set_option linter.unusedSimpArgs false

theorem FnExactMoves (l0 : List (List Int)) (l1 : List (List Int)) (h0 : good_t87 l0) (h1 : good_t87 l1) : ∃ k, laws_FnExactMoves.f k l0 l1 = some true := by
  obtain ⟨t, ht, hsz⟩ := szInt64SS_ev l0 1048576 h0.1 (fun x hx => (h0.2 x hx).1) (by omega) (by omega)
  refine Ev.rounds (r := true) ?_
  unfold laws_FnExactMoves.f
  refine Ev.bind hsz ?_
  by_cases c : t < 0
  · exact ev_some fun k => if_pos c
  · simp only [if_neg c]
    obtain ⟨ht1, s0⟩ := ht (by omega)
    obtain ⟨t2, ht2, hsz2⟩ := szInt64SS_ev l1 t h1.1 (fun x hx => (h1.2 x hx).1) (by omega) ht1
    refine Ev.bind hsz2 ?_
    by_cases c2 : t2 < 0
    · exact ev_some fun k => if_pos c2
    · simp only [if_neg c2]
      obtain ⟨_, s1⟩ := ht2 (by omega)
      have e0 := toInt64SS_ev l0 s0
      have e1 := toInt64SS_ev l1 s1
      refine Ev.bind e0 (Ev.bind e1 (Ev.bind (spec_moves_ev l0 l1 s0 s1) (Ev.bind e0 (Ev.bind e1 (Ev.bind (impl_moves_ev l0 l1) ?_)))))
      simp only [if_true, bne_self_eq_false]
      refine Ev.step (f := ?f) (fun k => ?_) ?_
      rotate_left
      · simp only [laws_FnExactMoves.j0, Bool.false_eq_true, if_false]
        exact rfl
      · refine Ev.bind e0 (Ev.bind (eqInt64SS_ev l0 s0) ?_)
        simp only [if_true]
        exact Ev.bind e1 (Ev.bind (eqInt64SS_ev l1 s1) (ev_some fun k => if_pos rfl))

end Go.Proofs.Ytlocignlkigojaa.Pure
