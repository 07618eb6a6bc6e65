/- Plain laws of the variable-length number: the program's and the reference's writer come to the same bytes. Conditions: the bounds that each theorem names. -/
import Derived.Test.YtlocignlkigojaaOBits
import Derived.Test.YtlocignlkigojaaQf45
namespace Go.Proofs.Ytlocignlkigojaa.Pure
open Go.RowKit Go.Proofs.Ytlocignlkigojaa.Q Go.Proofs.YtlocignlkigojaaW.PrintWords Go.Proofs.YtlocignlkigojaaW.PrintLast
set_option linter.unusedVariables false
set_option linter.unusedSimpArgs false

/-- the bytes of a number: seven bits each, the lowest first (with a bound on how many) -/
def varN : Nat → Nat → List Int
  | 0, _ => []
  | f + 1, n => if n ≥ 128 then ((n % 128 + 128 : Nat) : Int) :: varN f (n / 128) else [(n : Int)]
theorem varN_length : ∀ (f n : Nat), n < 128 ^ f → (varN f n).length ≤ f
  | 0, n, _ => by simp [varN]
  | f + 1, n, h => by
    unfold varN
    split
    · have : n / 128 < 128 ^ f := by rw [Nat.div_lt_iff_lt_mul (by omega)]; rw [Nat.pow_succ] at h; exact h
      simp only [List.length_cons]
      have := varN_length f (n / 128) this
      omega
    · simp
theorem impl_var : ∀ (f k n : Nat) (x : List Int), 0 < f → n < 128 ^ f → n ≤ 9223372036854775807 → f < k → x.length + f ≤ 1000 → impl_PutVar.l0 k n x = some (strOfNums (x ++ varN f n))
  | 0, _, _, _, hf, _, _, _, _ => absurd hf (Nat.lt_irrefl 0)
  | f + 1, k, n, x, _, h, hm, hk, hx => by
    obtain ⟨k, rfl⟩ : ∃ m, k = m + 1 := ⟨k - 1, by omega⟩
    unfold varN
    simp only [impl_PutVar.l0]
    by_cases hn : n ≥ 128
    · have h' : n / 128 < 128 ^ f := by rw [Nat.div_lt_iff_lt_mul (by omega)]; rw [Nat.pow_succ] at h; exact h
      have hf' : 0 < f := by
        rcases Nat.eq_zero_or_pos f with h0 | h0
        · subst h0
          simp at h'
          omega
        · exact h0
      rw [if_pos (by omega), if_pos (by omega), if_pos hn]
      have e1 : wrap64 (Int.tdiv (n : Int) 128) = ((n / 128 : Nat) : Int) := by
        rw [Int.tdiv_eq_ediv_of_nonneg (by omega)]; unfold wrap64; omega
      have e2 : wrap64 (Int.tmod (n : Int) 128 + 128) % 256 = ((n % 128 + 128 : Nat) : Int) := by
        rw [Int.tmod_eq_emod_of_nonneg (by omega)]; unfold wrap64; omega
      rw [e1, e2, impl_var f k (n / 128) _ hf' h' (by omega) (by omega) (by simp; omega), List.append_assoc]
      rfl
    · rw [if_neg (by omega), if_pos (by omega), if_neg hn, show (n : Int) % 256 = n from by omega]
theorem pow_ten (n : Nat) (hn : n ≤ 9223372036854775807) : n < 128 ^ 10 := by
  have : (128 : Nat) ^ 10 = 1180591620717411303424 := by decide
  omega
/-- the bytes of a number of at most ten bytes -/
def varOf (n : Nat) : ByteArray := strOfNums (varN 10 n)
theorem impl_Var_is (n : Nat) (hn : n ≤ 9223372036854775807) (k : Nat) (hk : 10 < k) : impl_PutVar.l0 k n [] = some (varOf n) :=
  impl_var 10 k n [] (by decide) (pow_ten n hn) hn hk (by simp)
theorem in_is (a b c : Int) : impl_between.f a b c = some (decide (b ≤ a) && decide (a ≤ c)) := by
  unfold impl_between.f
  by_cases h : a ≥ b
  · rw [if_pos h, decide_eq_true h]; simp
  · rw [if_neg h, decide_eq_false h]; simp
theorem impl_PutVar_in (n : Nat) (hn : n ≤ 4611686018427387904) (k : Nat) (hk : 10 < k) : impl_PutVar.f k n = some (varOf n) := by
  unfold impl_PutVar.f
  have h1 : decide ((0 : Int) ≤ (n : Int)) = true := decide_eq_true (by omega)
  have h2 : decide ((n : Int) ≤ 4611686018427387904) = true := decide_eq_true (by omega)
  rw [in_is, h1, h2, Option.bind_some, if_pos (by decide)]
  exact impl_Var_is n (by omega) k hk
theorem impl_PutVar_out (a : Int) (h : a < 0 ∨ 4611686018427387904 < a) (k : Nat) : impl_PutVar.f k a = some ⟨#[]⟩ := by
  unfold impl_PutVar.f
  have h1 : (decide ((0 : Int) ≤ a) && decide (a ≤ 4611686018427387904)) = false := by
    rw [Bool.and_eq_false_iff]
    rcases h with h | h
    · exact .inl (decide_eq_false (by omega))
    · exact .inr (decide_eq_false (by omega))
  rw [in_is, h1, Option.bind_some, if_neg (by decide)]

end Go.Proofs.Ytlocignlkigojaa.Pure
