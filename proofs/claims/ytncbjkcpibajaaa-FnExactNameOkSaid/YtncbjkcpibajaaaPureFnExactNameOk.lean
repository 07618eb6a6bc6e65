/- The pure statement of FnExactNameOk: for every string the two printed functions agree. -/
import Derived.Test.YtncbjkcpibajaaaPFnExactNameOkx1
namespace Go.Proofs.Ytncbjkcpibajaaa.Pure
open Go.RowKit Go.Proofs.Ytncbjkcpibajaaa.PFnExactNameOk Go.Proofs.YtncbjkcpibajaaaW.PrintWords Go.Proofs.YtncbjkcpibajaaaW.PrintLast

/-- what one byte of a name says -/
def good (c : Int) : Bool := decide ((97 ≤ c ∧ c ≤ 122) ∨ (48 ≤ c ∧ c ≤ 57))

theorem name_step (c : Int) (y : Option Bool) : (if c < 97 then (if c < 48 then (some false) else (if c > 57 then (some false) else y)) else (if c > 122 then (if c < 48 then (some false) else (if c > 57 then (some false) else y)) else y)) = if good c = true then y else some false := by
  unfold good
  repeat' split
  all_goals first | rfl | (exfalso; simp at *; omega)

theorem name_total (s : ByteArray) (hs : s.size ≤ 140737488351232) (d : Nat) : ∀ (k : Nat) (i : Int), 0 ≤ i → i ≤ s.size → (s.size : Int) - i = d → d < k →
    ∃ r : Bool, spec_l09Name.l0 k s i = some r ∧ impl_NameOk.l0 k s (s.size : Int) i = some (r && (decide (1 ≤ (s.size : Int)) && decide ((s.size : Int) ≤ 8))) := by
  induction d with
  | zero =>
    intro k i h0 h1 hd hk
    obtain ⟨k, rfl⟩ : ∃ m, k = m + 1 := ⟨k - 1, by omega⟩
    refine ⟨true, ?_, ?_⟩
    · simp only [spec_l09Name.l0]; rw [if_neg (by omega)]
    · simp only [impl_NameOk.l0]; rw [if_neg (by omega)]
      unfold impl_between.f
      by_cases h : (s.size : Int) ≥ 1
      · rw [if_pos h]; simp [decide_eq_true h]
      · rw [if_neg h]; simp; omega
  | succ d ih =>
    intro k i h0 h1 hd hk
    obtain ⟨k, rfl⟩ : ∃ m, k = m + 1 := ⟨k - 1, by omega⟩
    have hlt : i < (s.size : Int) := by omega
    have hw : wrap64 (i + 1) = i + 1 := by unfold wrap64; omega
    simp only [spec_l09Name.l0, impl_NameOk.l0]
    rw [if_pos hlt, if_pos h0, if_pos hlt, if_pos h0, if_pos hlt, name_step, name_step, hw]
    by_cases hg : good (bt s i) = true
    · rw [if_pos hg, if_pos hg]
      exact ih k (i + 1) (by omega) (by omega) (by omega) (by omega)
    · rw [if_neg hg, if_neg hg]
      exact ⟨false, rfl, rfl⟩

theorem FnExactNameOk : laws_FnExactNameOk.Pure := by
  intro s hs
  unfold laws_FnExactNameOk.f spec_NameOk.f spec_l09Name.f impl_NameOk.f
  by_cases h : (s.size : Int) > 1048576
  · exact ⟨0, by rw [if_pos h]⟩
  · refine ⟨s.size + 2, ?_⟩
    obtain ⟨r, h1, h2⟩ := name_total s hs s.size (s.size + 1) 0 (by omega) (by omega) (by omega) (by omega)
    obtain ⟨r', h1', h2'⟩ := name_total s hs s.size (s.size + 2) 0 (by omega) (by omega) (by omega) (by omega)
    have e : r' = r := by
      have := spec_l09Name.mono_l (s.size + 1)
      have h3 := this.2 s 0 r h1
      rw [h1'] at h3
      exact Option.some.inj h3
    subst e
    rw [if_neg h, h2']
    by_cases hl : (s.size : Int) < 1
    · rw [if_pos hl]
      simp only [spec_l09Name.j0, if_true, Option.bind_some]
      have : decide (1 ≤ (s.size : Int)) = false := decide_eq_false (by omega)
      rw [this]; simp
    · rw [if_neg hl]
      have h1d : decide (1 ≤ (s.size : Int)) = true := decide_eq_true (by omega)
      by_cases h8 : (s.size : Int) > 8
      · have : decide ((s.size : Int) ≤ 8) = false := decide_eq_false (by omega)
        rw [decide_eq_true h8, h1d, this]
        simp [spec_l09Name.j0]
      · have : decide ((s.size : Int) ≤ 8) = true := decide_eq_true (by omega)
        rw [decide_eq_false h8, h1d, this]
        simp only [spec_l09Name.j0]
        rw [if_neg (by simp), h1]
        simp

end Go.Proofs.Ytncbjkcpibajaaa.Pure
