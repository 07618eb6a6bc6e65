/- The pure statement of FnExactPutText: for every string the program's bytes are the reference's. -/
import Derived.Test.YtlbahilobbdpjaaQf5
import Derived.Test.YtlbahilobbdpjaaOVar
namespace Go.Proofs.Ytlbahilobbdpjaa.Pure
open Go.RowKit Go.Proofs.Ytlbahilobbdpjaa.Q Go.Proofs.YtlbahilobbdpjaaW.PrintWords Go.Proofs.YtlbahilobbdpjaaW.PrintLast

theorem eq_thenT (x y : Option ByteArray) (h : ByteArray) (hx : x = some h) (hy : y = some h) : (x.bind fun t1 => (y.bind fun t2 => (if t2.toList = t1.toList then (some true) else (some false)))) = some true := by
  subst hx hy
  simp
theorem strOfNums_size (l : List Int) : (strOfNums l).size = l.length := by
  simp [strOfNums, ByteArray.size]
theorem varOf_size (n : Nat) (hn : n ≤ 9223372036854775807) : (varOf n).size ≤ 10 := by
  unfold varOf
  rw [strOfNums_size]
  exact varN_length 10 n (pow_ten n hn)
theorem spec_PutText_is (s : ByteArray) (hs : s.size ≤ 1048576) (k : Nat) (hk : 10 < k) : spec_PutText.f k s = some (varOf s.size ++ s) := by
  unfold spec_PutText.f spec_l01Text.f
  have := varOf_size s.size (by omega)
  rw [spec_Var_is s.size (by omega) k hk, Option.bind_some, if_pos (by omega), Option.bind_some]
theorem impl_PutText_is (s : ByteArray) (hs : s.size ≤ 1048576) (k : Nat) (hk : 10 < k) : impl_PutText.f k s = some (varOf s.size ++ s) := by
  unfold impl_PutText.f
  have := varOf_size s.size (by omega)
  rw [impl_PutVar_in s.size (by omega) k hk, Option.bind_some, if_pos (by omega)]
theorem FnExactPutText : laws_FnExactPutText.Pure := by
  intro s _
  by_cases h : (s.size : Int) > 1048576
  · exact ⟨0, by unfold laws_FnExactPutText.f; rw [if_pos h]⟩
  · refine ⟨11, ?_⟩
    unfold laws_FnExactPutText.f
    rw [if_neg h]
    exact eq_thenT _ _ _ (spec_PutText_is s (by omega) 11 (by omega)) (impl_PutText_is s (by omega) 11 (by omega))

end Go.Proofs.Ytlbahilobbdpjaa.Pure
