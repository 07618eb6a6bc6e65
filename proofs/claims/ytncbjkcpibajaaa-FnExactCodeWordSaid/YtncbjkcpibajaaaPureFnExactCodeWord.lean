/- The pure statement of FnExactCodeWord: for every number the two printed functions agree. -/
import Derived.Test.YtncbjkcpibajaaaPFnExactCodeWordx1
namespace Go.Proofs.Ytncbjkcpibajaaa.Pure
open Go.RowKit Go.Proofs.Ytncbjkcpibajaaa.PFnExactCodeWord Go.Proofs.YtncbjkcpibajaaaW.PrintWords Go.Proofs.YtncbjkcpibajaaaW.PrintLast

theorem word_eq (a : Int) : impl_CodeWord.f a = spec_CodeWord.f a := by
  have hw : wrap64 (10 - 1) = 9 := by unfold wrap64; omega
  unfold impl_CodeWord.f spec_CodeWord.f impl_isIndex.f impl_between.f spec_l00In.f
  simp only [Option.bind_some, List.length_cons, List.length_nil]
  show ((if a ≥ 0 then some (decide (a ≤ wrap64 (10 - 1))) else some false).bind _).bind _ = _
  rw [hw]
  by_cases h0 : a ≥ 0
  · rw [if_pos h0]; rfl
  · rw [if_neg h0]; rfl

theorem word_total (a : Int) : ∃ r, spec_CodeWord.f a = some r := by
  unfold spec_CodeWord.f spec_l00In.f
  simp only [Option.bind_some]
  by_cases h0 : a ≥ 0
  · rw [if_pos h0]
    by_cases h9 : a ≤ 9
    · simp only [Option.bind_some, decide_eq_true h9, if_true]
      rw [if_pos h0, if_pos (by simp; omega)]
      exact ⟨_, rfl⟩
    · simp only [Option.bind_some, decide_eq_false h9]
      exact ⟨_, rfl⟩
  · rw [if_neg h0]
    exact ⟨_, rfl⟩

theorem FnExactCodeWord : laws_FnExactCodeWord.Pure := by
  intro a _
  obtain ⟨r, hr⟩ := word_total a
  unfold laws_FnExactCodeWord.f
  rw [word_eq, hr]
  simp

end Go.Proofs.Ytncbjkcpibajaaa.Pure
