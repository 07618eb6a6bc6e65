/- The pure law of numerals: the reference's digits are the library's. Conditions: the bounds that each theorem names. -/
import Derived.Test.YtohjpgcmhihdhaaGreatDoorOLoop
import Derived.Test.YtohjpgcmhihdhaaGreatDoorQ0
import Derived.Test.YtohjpgcmhihdhaaGreatDoorOText
import Derived.Test.YtohjpgcmhihdhaaGreatDoorQf48
namespace Go.Proofs.YtohjpgcmhihdhaaGreatDoor.Pure
open Go.RowKit Go.Proofs.YtohjpgcmhihdhaaGreatDoor.Q Go.Proofs.YtohjpgcmhihdhaaGreatDoorW.PrintWords Go.Proofs.YtohjpgcmhihdhaaGreatDoorW.PrintLast Go.Proofs.YtohjpgcmhihdhaaGreatDoorW.PrintMore
set_option linter.unusedVariables false
set_option linter.unusedSimpArgs false

/-- digits as a text -/
def digB (u : Nat) : ByteArray := ⟨(Lib.decDigits u).toArray⟩
theorem digB_small (u : Nat) (h : u < 10) : digB u = ⟨#[UInt8.ofNat (48 + u)]⟩ := by
  unfold digB
  rw [Lib.decDigits, dif_pos h]
theorem digB_more (u : Nat) (h : ¬ u < 10) : digB u = digB (u / 10) ++ (⟨#[UInt8.ofNat (48 + u % 10)]⟩ : ByteArray) := by
  unfold digB
  rw [Lib.decDigits, dif_neg h]
  apply ByteArray.ext
  simp
theorem one_byte (n : Nat) (h : n < 256) : strOfNums [(n : Int)] = ⟨#[UInt8.ofNat n]⟩ := by
  unfold strOfNums
  simp
theorem digB_size (u : Nat) (h : u ≤ 1000000) : (digB u).size ≤ 21 := by
  have := decB_size (u : Int) (by omega) (by omega)
  unfold decB at this
  rw [Lib.itoa_nonneg] at this
  exact this
theorem num_pos : ∀ (d u : Nat), u < 10 ^ d → u ≤ 1000000 → Ev (fun k => spec_l06Num.f k (u : Int)) (digB u)
  | 0, u, h, hu => by
    have : u = 0 := by simpa using h
    subst this
    refine ev_end (fun k => ?_)
    simp only [spec_l06Num.f]
    rw [if_neg (by omega), if_pos (by omega), digB_small 0 (by omega), show (wrap64 (48 + ((0 : Nat) : Int))) % 256 = ((48 + 0 : Nat) : Int) from by unfold wrap64; omega]
    exact congrArg some (one_byte (48 + 0) (by omega))
  | d + 1, u, h, hu => by
    by_cases c : u < 10
    · refine ev_end (fun k => ?_)
      simp only [spec_l06Num.f]
      rw [if_neg (by omega), if_pos (by omega), digB_small u c, show (wrap64 (48 + (u : Int))) % 256 = ((48 + u : Nat) : Int) from by unfold wrap64; omega]
      exact congrArg some (one_byte (48 + u) (by omega))
    · refine Ev.step (f := ?zf1) (fun k => ?_) ?_
      rotate_left
      · simp only [spec_l06Num.f]
        rw [if_neg (by omega), if_neg (by omega), show wrap64 (Int.tdiv (u : Int) 10) = ((u / 10 : Nat) : Int) from by rw [Int.tdiv_eq_ediv_of_nonneg (by omega)]; unfold wrap64; omega, show (wrap64 (48 + (Int.tmod (u : Int) 10))) % 256 = ((48 + u % 10 : Nat) : Int) from by rw [Int.tmod_eq_emod_of_nonneg (by omega)]; unfold wrap64; omega]
      · have ih := num_pos d (u / 10) (by rw [Nat.pow_succ] at h; omega) (by omega)
        have hs := digB_size (u / 10) (by omega)
        refine Ev.bind ih ?_
        simp only [Option.bind_some, one_byte (48 + u % 10) (by omega)]
        have h1 : (⟨#[UInt8.ofNat (48 + u % 10)]⟩ : ByteArray).size = 1 := rfl
        simp only [h1, if_pos (show (digB (u / 10)).size + 1 ≤ 9223372036854775807 by omega), ← digB_more u c]
        exact Ev.now _
theorem num_ev (n : Int) (h0 : -1000000 ≤ n) (h1 : n ≤ 1000000) : Ev (fun k => spec_l06Num.f k n) (decB n) := by
  by_cases c : n < 0
  · obtain ⟨u, rfl⟩ : ∃ u : Nat, n = -(u : Int) := ⟨n.natAbs, by omega⟩
    have e : decB (-(u : Int)) = (⟨#[45]⟩ : ByteArray) ++ digB u := by
      unfold decB digB
      rw [Lib.itoa_neg u (by omega)]
      apply ByteArray.ext
      simp
    rw [e]
    refine Ev.step (f := ?zf1) (fun k => ?_) ?_
    rotate_left
    · simp only [spec_l06Num.f]
      rw [if_pos c, show wrap64 (-(-(u : Int))) = (u : Int) from by unfold wrap64; omega]
    · have hs := digB_size u (by omega)
      refine Ev.bind (num_pos 7 u (by omega) (by omega)) ?_
      simp only [if_pos (show 1 + (digB u).size ≤ 9223372036854775807 by omega)]
      exact Ev.now _
  · obtain ⟨u, rfl⟩ := Int.eq_ofNat_of_zero_le (show 0 ≤ n by omega)
    have e : decB (u : Int) = digB u := by
      unfold decB digB
      rw [Lib.itoa_nonneg]
    rw [e]
    exact num_pos 7 u (by omega) (by omega)
end Go.Proofs.YtohjpgcmhihdhaaGreatDoor.Pure
