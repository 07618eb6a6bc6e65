/- The pure statement of FnExactPutVar: for every number the program's bytes are the reference's. -/
import Derived.Test.YtlbahilobbdpjaaQf6
import Derived.Test.YtlbahilobbdpjaaOVar
namespace Go.Proofs.Ytlbahilobbdpjaa.Pure
open Go.RowKit Go.Proofs.Ytlbahilobbdpjaa.Q Go.Proofs.YtlbahilobbdpjaaW.PrintWords Go.Proofs.YtlbahilobbdpjaaW.PrintLast

theorem specin_is (a b c : Int) : spec_l00In.f a b c = some (decide (b ≤ a) && decide (a ≤ c)) := by
  unfold spec_l00In.f
  by_cases h : a ≥ b
  · rw [if_pos h, decide_eq_true h]; simp
  · rw [if_neg h, decide_eq_false h]; simp
theorem eq_thenS (x y : Option ByteArray) (h : ByteArray) (hx : x = some h) (hy : y = some h) : (x.bind fun t1 => (y.bind fun t2 => (if t2.toList = t1.toList then (some true) else (some false)))) = some true := by
  subst hx hy
  simp
theorem spec_PutVar_in (n : Nat) (hn : n ≤ 4611686018427387904) (k : Nat) (hk : 10 < k) : spec_PutVar.f k n = some (varOf n) := by
  unfold spec_PutVar.f
  have h1 : decide ((0 : Int) ≤ (n : Int)) = true := decide_eq_true (by omega)
  have h2 : decide ((n : Int) ≤ 4611686018427387904) = true := decide_eq_true (by omega)
  rw [specin_is, h1, h2, Option.bind_some, if_pos (by decide), spec_Var_is n (by omega) k hk, Option.bind_some]
theorem spec_PutVar_out (a : Int) (h : a < 0 ∨ 4611686018427387904 < a) (k : Nat) : spec_PutVar.f k a = some ⟨#[]⟩ := by
  unfold spec_PutVar.f
  have h1 : (decide ((0 : Int) ≤ a) && decide (a ≤ 4611686018427387904)) = false := by
    rw [Bool.and_eq_false_iff]
    rcases h with h | h
    · exact .inl (decide_eq_false (by omega))
    · exact .inr (decide_eq_false (by omega))
  rw [specin_is, h1, Option.bind_some, if_neg (by decide)]
theorem FnExactPutVar : laws_FnExactPutVar.Pure := by
  intro a _
  by_cases h : a < 0 ∨ 4611686018427387904 < a
  · exact ⟨11, eq_thenS _ _ _ (spec_PutVar_out a h 11) (impl_PutVar_out a h 11)⟩
  · obtain ⟨n, rfl⟩ := Int.eq_ofNat_of_zero_le (show 0 ≤ a by omega)
    exact ⟨11, eq_thenS _ _ _ (spec_PutVar_in n (by omega) 11 (by omega)) (impl_PutVar_in n (by omega) 11 (by omega))⟩

end Go.Proofs.Ytlbahilobbdpjaa.Pure
