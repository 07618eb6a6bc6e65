/- Plain laws of the law's own words: they are drawn at all, and are short. Conditions: the bounds that each theorem names. -/
import Derived.Test.YtlocignlkigojaaOSrc
import Derived.Test.YtlocignlkigojaaOBytes
import Derived.Test.YtlocignlkigojaaQf43
namespace Go.Proofs.Ytlocignlkigojaa.Pure
open Go.RowKit Go.Proofs.Ytlocignlkigojaa.Q Go.Proofs.YtlocignlkigojaaW.PrintWords Go.Proofs.YtlocignlkigojaaW.PrintLast Go.Proofs.YtlocignlkigojaaW.PrintMore
set_option linter.unusedVariables false
set_option linter.unusedSimpArgs false

theorem word_loop (l : List Int) (hb : IsBytes l) : ∀ (c : Nat) (xs : List Int) (p sd : Int), c ≤ 100 → xs.length + c ≤ 1000 → 0 ≤ p → p + c ≤ 4611686018427380000 →
    ∃ w p' sd', (∀ k, c < k → spec_l00Src_word.l0 k xs c l p sd = some (w, p', sd')) ∧ w.size = xs.length + c
  | 0, xs, p, sd, _, _, _, _ => by
    refine ⟨strOfNums xs, p, sd, fun k hk => ?_, by rw [nums_size]; omega⟩
    obtain ⟨k, rfl⟩ : ∃ m, k = m + 1 := ⟨k - 1, by omega⟩
    simp only [spec_l00Src_word.l0]
    rw [if_neg (by omega)]
  | c + 1, xs, p, sd, hc, hx, h0, h1 => by
    obtain ⟨v, sd1, e1, _, _⟩ := next_is l hb p sd h0 (by omega)
    obtain ⟨w, p', sd', hk, hw⟩ := word_loop l hb c (xs ++ [v % 256]) (p + 1) sd1 (by omega) (by simp; omega) (by omega) (by omega)
    refine ⟨w, p', sd', fun k hk' => ?_, by rw [hw]; simp; omega⟩
    obtain ⟨k, rfl⟩ : ∃ m, k = m + 1 := ⟨k - 1, by omega⟩
    simp only [spec_l00Src_word.l0]
    have ec : wrap64 (((c + 1 : Nat) : Int) - 1) = (c : Int) := by unfold wrap64; omega
    rw [if_pos (by omega), e1, Option.bind_some]
    simp only
    rw [if_pos (by omega), ec, hk k (by omega)]
theorem A8Word_is (l : List Int) (hb : IsBytes l) : ∃ w : ByteArray, (∀ k, 60 ≤ k → spec_A8Word.f k l = some w) ∧ w.size < 40 := by
  obtain ⟨c, p1, sd1, e1, a1, b1, c0, c1⟩ := pick_pos l hb 0 0 40 (by omega) (by omega) (by omega)
  obtain ⟨n, rfl⟩ := Int.eq_ofNat_of_zero_le c0
  obtain ⟨w, p', sd', hk, hw⟩ := word_loop l hb n [] p1 sd1 (by omega) (by simp; omega) (by omega) (by omega)
  refine ⟨w, fun k hk' => ?_, by rw [hw]; simp; omega⟩
  unfold spec_A8Word.f spec_l00From.f spec_l00Src_word.f
  simp only [Option.bind_some]
  rw [e1, Option.bind_some]
  simp only
  rw [hk k (by omega), Option.bind_some]

end Go.Proofs.Ytlocignlkigojaa.Pure
