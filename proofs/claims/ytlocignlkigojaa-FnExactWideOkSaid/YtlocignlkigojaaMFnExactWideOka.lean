/- Walks and plain laws of one claim, several texts in one. -/
import Derived.Test.YtlocignlkigojaaOLoop
import Derived.Test.YtlocignlkigojaaQf92
import Derived.Test.YtlocignlkigojaaQf96
import Derived.Test.YtlocignlkigojaaQf30
import Derived.Test.YtlocignlkigojaaQf54
import Derived.Test.YtlocignlkigojaaQf113
import Derived.Test.YtlocignlkigojaaQf51
import Derived.Test.YtlocignlkigojaaQf53
import Derived.Test.YtlocignlkigojaaQf55
import Derived.Test.YtlocignlkigojaaOTypes
import Derived.Test.YtlocignlkigojaaQf10
-- text OIn
namespace Go.Proofs.Ytlocignlkigojaa.Pure
open Go.RowKit Go.Proofs.Ytlocignlkigojaa.Q Go.Proofs.YtlocignlkigojaaW.PrintWords Go.Proofs.YtlocignlkigojaaW.PrintLast Go.Proofs.YtlocignlkigojaaW.PrintMore
set_option linter.unusedVariables false
set_option linter.unusedSimpArgs false
theorem in_inB (a b c : Int) : spec_l00In.f a b c = some (inB a b c) := between_inB a b c
end Go.Proofs.Ytlocignlkigojaa.Pure

-- text OWide
namespace Go.Proofs.Ytlocignlkigojaa.Pure
open Go.RowKit Go.Proofs.Ytlocignlkigojaa.Q Go.Proofs.YtlocignlkigojaaW.PrintWords Go.Proofs.YtlocignlkigojaaW.PrintLast Go.Proofs.YtlocignlkigojaaW.PrintMore
set_option linter.unusedVariables false
set_option linter.unusedSimpArgs false

theorem rd_str (l : List ByteArray) (i : Nat) (h : i < l.length) : rdOf ByteArray.empty l (i : Int) = l[i] := by
  unfold rdOf
  rw [Int.toNat_natCast, getD_get l i _ h]
theorem code_codeB (k m : Int) : spec_l04Code.f k m = some (codeB k m) := codeOk_codeB k m
theorem tall_is (k m u s : Int) (l : List ByteArray) : spec_l05Tall.f k m u s = impl_Wide_length.f k m u s l := by
  unfold spec_l05Tall.f impl_Wide_length.f impl_Wide_stripe.f
  simp only [Option.bind_some]
theorem head_facts (k m u s : Int) (l : List ByteArray) (h : wideHead k m u s l = true) : 1 ≤ k ∧ k ≤ 4 ∧ 0 ≤ m ∧ m ≤ 3 ∧ 1 ≤ u ∧ u ≤ 8 ∧ 0 ≤ s ∧ s ≤ 256 := by
  unfold wideHead codeB inB at h
  simp only [Bool.and_eq_true, decide_eq_true_eq] at h
  omega
theorem mul_in (k u : Int) (h1 : 1 ≤ k) (h2 : k ≤ 4) (h3 : 1 ≤ u) (h4 : u ≤ 8) : wrap64 (k * u) = k * u ∧ 1 ≤ k * u ∧ k * u ≤ 32 := by
  have a : 1 * 1 ≤ k * u := Int.mul_le_mul h1 h3 (by omega) (by omega)
  have b : k * u ≤ 4 * 8 := Int.mul_le_mul h2 h4 (by omega) (by omega)
  refine ⟨?_, by omega, by omega⟩
  generalize k * u = x at a b
  unfold wrap64
  omega
theorem length_some (k m u s : Int) (l : List ByteArray) (h : wideHead k m u s l = true) : ∃ t, impl_Wide_length.f k m u s l = some t := by
  obtain ⟨h1, h2, _, _, h3, h4, _, _⟩ := head_facts k m u s l h
  have hm := mul_in k u h1 h2 h3 h4
  unfold impl_Wide_length.f impl_Wide_stripe.f
  simp only [Option.bind_some]
  rw [if_neg (by omega)]
  exact ⟨_, rfl⟩
/-- is a striped object valid? -/
def wideB (k m u s : Int) (l : List ByteArray) : Bool := wideHead k m u s l && (match impl_Wide_length.f k m u s l with | some t => !(l.any fun c => (c.size : Int) != t) | none => false)
theorem impl_wide_is (k m u s : Int) (l : List ByteArray) : impl_WideOk.f k m u s l = some (wideB k m u s l) := by
  unfold impl_WideOk.f wideB
  by_cases h : wideHead k m u s l = true
  · obtain ⟨t, ht⟩ := length_some k m u s l h
    rw [if_pos h, ht, h]
    rfl
  · rw [if_neg h]
    have e : wideHead k m u s l = false := by simpa using h
    rw [e]
    rfl
theorem spec_cols_ev (k m u s : Int) (l : List ByteArray) (hl : l.length ≤ 9223372036854775807) (t : Int) (ht : impl_Wide_length.f k m u s l = some t) : Ev (fun r => spec_l05OK.l0 r 0 k m u s l) (!(l.any fun c => (c.size : Int) != t)) := by
  refine loop_is l.length (fun r (_ : Unit) i => spec_l05OK.l0 r i k m u s l) (fun i _ => (l.take i).any (fun c => (c.size : Int) != t) = false) _ ?_ ?_ () (by simp)
  · intro i _ hi hI
    have hu : ∀ r, spec_l05OK.l0 (r + 1) i k m u s l = if ((l[i].size : Int) = t) then spec_l05OK.l0 r ((i + 1 : Nat) : Int) k m u s l else some false := fun r => by
      simp only [spec_l05OK.l0]
      rw [if_pos (by omega), if_pos (by omega), tall_is k m u s l, ht, Option.bind_some, rd_str l i hi, up64 i l.length hi hl]
    by_cases c : (l[i].size : Int) = t
    · refine .inr ⟨(), ?_, ev_next (fun r => by rw [hu r, if_pos c])⟩
      rw [List.take_succ_eq_append_getElem hi, List.any_append, hI]
      simp [c]
    · left
      have e : l.any (fun c => (c.size : Int) != t) = true := by
        rw [List.any_eq_true]
        exact ⟨l[i], List.getElem_mem hi, by simpa using c⟩
      rw [e]
      exact ev_end (fun r => by rw [hu r, if_neg c]; rfl)
  · intro _ hI
    rw [List.take_length] at hI
    rw [hI]
    refine ev_end (fun r => ?_)
    simp only [spec_l05OK.l0]
    rw [if_neg (by omega)]
    rfl
theorem spec_wide_ev (k m u s : Int) (l : List ByteArray) (hl : l.length ≤ 9223372036854775807) : Ev (fun r => spec_l05OK.f r k m u s l) (wideB k m u s l) := by
  have hj : Ev (fun r => spec_l05OK.j0 r true k m u s l) false := ev_end (fun r => by simp only [spec_l05OK.j0, if_true])
  have hw : wideHead k m u s l = (codeB k m && inB u 1 8 && inB s 0 256 && decide ((l.length : Int) = wrap64 (k + m))) := rfl
  unfold spec_l05OK.f wideB
  simp only [in_inB, code_codeB, Option.bind_some]
  by_cases h : wideHead k m u s l = true
  · obtain ⟨t, ht⟩ := length_some k m u s l h
    rw [ht, h]
    rw [hw] at h
    simp only [Bool.and_eq_true, decide_eq_true_eq] at h
    obtain ⟨⟨⟨h1, h2⟩, h3⟩, h4⟩ := h
    have e : ((l.length : Int) != wrap64 (k + m)) = false := by simp [h4]
    simp only [h1, h2, h3, if_true, e, Bool.true_and]
    refine Ev.step (f := fun r => spec_l05OK.l0 r 0 k m u s l) (fun r => by simp only [spec_l05OK.j0, Bool.false_eq_true, if_false]) ?_
    exact spec_cols_ev k m u s l hl t ht
  · have e : wideHead k m u s l = false := by simpa using h
    rw [e, Bool.false_and]
    rw [hw] at e
    cases h1 : codeB k m with
    | false => simpa [h1] using hj
    | true =>
      cases h2 : inB u 1 8 with
      | false => simpa [h1, h2] using hj
      | true =>
        cases h3 : inB s 0 256 with
        | false => simpa [h1, h2, h3] using hj
        | true =>
          rw [h1, h2, h3] at e
          simp only [Bool.true_and] at e
          have e4 : ((l.length : Int) != wrap64 (k + m)) = true := by
            have := of_decide_eq_false e
            simp [this]
          simp only [if_true, e4]
          exact hj
theorem szStringS_ev (l : List ByteArray) (hl : l.length ≤ 9223372036854775807) (hb : ∀ x ∈ l, x.size ≤ 9223372036854775807) : ∃ t, (0 ≤ t → l.length ≤ 1048576) ∧ Ev (fun k => laws_szStringS.f k l 1048576) t := by
  have e : wrap64 (1048576 - (l.length : Int)) = 1048576 - (l.length : Int) := by unfold wrap64; omega
  unfold laws_szStringS.f
  simp only [e]
  by_cases h : (1048576 - (l.length : Int)) < 0
  · simp only [if_pos h]
    exact ⟨-1, by omega, Ev.now _⟩
  · simp only [if_neg h]
    refine loop_up l.length (fun k s i => laws_szStringS.l0 k l s i) (fun _ s => 0 ≤ s ∧ s ≤ 1048576) _ ?_ ?_ _ ⟨by omega, by omega⟩
    · intro i s hi ⟨h0, h1⟩
      have hsz := hb l[i] (List.getElem_mem hi)
      have ew : wrap64 (s - (l[i].size : Int)) = s - (l[i].size : Int) := by unfold wrap64; omega
      by_cases c : s - (l[i].size : Int) < 0
      · refine .inl ⟨-1, by omega, ev_end (fun k => ?_)⟩
        simp only [laws_szStringS.l0]
        rw [if_pos (by omega), if_pos (by omega), rd_str l i hi, ew, if_pos c]
      · refine .inr ⟨s - (l[i].size : Int), ⟨by omega, by omega⟩, ev_next (fun k => ?_)⟩
        simp only [laws_szStringS.l0]
        rw [if_pos (by omega), if_pos (by omega), rd_str l i hi, ew, if_neg c, up64 i l.length hi hl]
    · intro s _
      refine ⟨s, fun _ => by omega, ev_end (fun k => ?_)⟩
      simp only [laws_szStringS.l0]
      rw [if_neg (by omega)]
theorem szWide_ev (k m u s : Int) (l : List ByteArray) (hl : l.length ≤ 9223372036854775807) (hb : ∀ x ∈ l, x.size ≤ 9223372036854775807) : ∃ t, (0 ≤ t → l.length ≤ 1048576) ∧ Ev (fun r => laws_szWide.f r k m u s l 1048576) t := by
  obtain ⟨t, h1, h2⟩ := szStringS_ev l hl hb
  unfold laws_szWide.f
  by_cases c : t < 0
  · exact ⟨-1, by omega, Ev.bind h2 (ev_some fun r => if_pos c)⟩
  · exact ⟨t, h1, Ev.bind h2 (ev_some fun r => if_neg c)⟩
theorem toStringS_ev (l : List ByteArray) (hl : l.length ≤ 1048576) : Ev (fun k => laws_toStringS.f k l) l := by
  have h := map_loop (fun k y i => laws_toStringS.l0 k l y i) l id (fun i hi y hy => ev_next (fun k => by
    simp only [laws_toStringS.l0]
    rw [if_pos (by omega), if_pos (by omega), if_pos (by omega), up64 i l.length hi (by omega), Int.toNat_natCast, rd_str l i hi]
    rfl)) (fun k y => by simp only [laws_toStringS.l0]; rw [if_neg (by omega)]) (List.replicate ((l.length : Int) : Int).toNat (⟨#[]⟩ : ByteArray)) (by simp)
  rw [List.map_id] at h
  refine Ev.congr (fun k => ?_) h
  unfold laws_toStringS.f
  rw [if_pos (by omega), if_pos (by omega)]
theorem eqStringS_ev (l : List ByteArray) (hl : l.length ≤ 9223372036854775807) : Ev (fun k => laws_eqStringS.f k l l) true := by
  refine Ev.congr (fun k => ?_) (eq_loop l.length (fun k i => laws_eqStringS.l0 k l l i) (fun i hi => ev_next (fun k => by
    simp only [laws_eqStringS.l0, if_true]
    rw [if_pos (by omega), if_pos (by omega), if_pos (by omega), up64 i l.length hi hl])) (fun k => by simp only [laws_eqStringS.l0]; rw [if_neg (by omega)]))
  unfold laws_eqStringS.f
  rw [if_pos rfl]
theorem toWide_ev (k m u s : Int) (l : List ByteArray) (hl : l.length ≤ 1048576) : Ev (fun r => laws_toWide.f r k m u s l) (k, m, u, s, l) := by
  unfold laws_toWide.f laws_toCode.f
  simp only [Option.bind_some]
  exact Ev.bind (toStringS_ev l hl) (Ev.now _)
theorem eqWide_ev (k m u s : Int) (l : List ByteArray) (hl : l.length ≤ 1048576) : Ev (fun r => laws_eqWide.f r k m u s l k m u s l) true := by
  unfold laws_eqWide.f laws_eqCode.f
  simp only [if_true, Option.bind_some]
  exact Ev.bind (eqStringS_ev l (by omega)) (ev_some fun k => if_pos rfl)

end Go.Proofs.Ytlocignlkigojaa.Pure

-- text PureFnExactWideOk
namespace Go.Proofs.Ytlocignlkigojaa.Pure
open Go.RowKit Go.Proofs.Ytlocignlkigojaa.Q Go.Proofs.Ytlocignlkigojaa.Opens Go.Proofs.YtlocignlkigojaaW.PrintWords Go.Proofs.YtlocignlkigojaaW.PrintLast Go.Proofs.YtlocignlkigojaaW.PrintMore
set_option linter.unusedVariables false
set_option linter.unusedSimpArgs false

theorem FnExactWideOk (a0_0 : Int) (a0_1 : Int) (a0_2 : Int) (a0_3 : Int) (l0_4 : List ByteArray) (_ : (Lit.int .i64 a0_0).wf = true) (_ : (Lit.int .i64 a0_1).wf = true) (_ : (Lit.int .i64 a0_2).wf = true) (_ : (Lit.int .i64 a0_3).wf = true) (hg : good_t77 l0_4) : ∃ k, laws_FnExactWideOk.f k a0_0 a0_1 a0_2 a0_3 l0_4 = some true := by
  obtain ⟨t, h1, h2⟩ := szWide_ev a0_0 a0_1 a0_2 a0_3 l0_4 hg.1 hg.2
  refine Ev.rounds (r := true) ?_
  unfold laws_FnExactWideOk.f spec_WideOk.f
  refine Ev.bind h2 ?_
  by_cases c : t < 0
  · simp only [if_pos c]
    exact Ev.now _
  · have hl := h1 (by omega)
    have hto := toWide_ev a0_0 a0_1 a0_2 a0_3 l0_4 hl
    have heq := eqWide_ev a0_0 a0_1 a0_2 a0_3 l0_4 hl
    simp only [if_neg c]
    refine Ev.bind hto (Ev.bind (ev_then1 (spec_wide_ev a0_0 a0_1 a0_2 a0_3 l0_4 hg.1)) (Ev.bind hto ?_))
    simp only [impl_wide_is, Option.bind_some, bne_self_eq_false, Bool.false_eq_true, if_false]
    exact Ev.bind hto (Ev.bind heq (ev_some fun k => if_pos rfl))

end Go.Proofs.Ytlocignlkigojaa.Pure
