/- Walks of the Go functions that the laws call: each returns what a plain Lean function says. Written by a program for these claims. -/
import Derived.Test.YtohjpgcmhihdhaaGreatDoorQ0
namespace Go.Proofs.YtohjpgcmhihdhaaGreatDoor.Q
open Go.RowKit Go.Proofs.YtohjpgcmhihdhaaGreatDoorW.PrintWords Go.Proofs.YtohjpgcmhihdhaaGreatDoorW.PrintLast Go.Proofs.YtohjpgcmhihdhaaGreatDoorW.PrintMore
attribute [local go_sem] max2_int min2_int max_two min_two max_three min_three max_four min_four   -- for this text's walks alone
set_option linter.unusedVariables false
set_option linter.unusedSimpArgs false

/-! ### laws_eqDevice: function 39 -/
def laws_eqDevice.f (a0_0 : Int) (a0_1 : Int) (a1_0 : Int) (a1_1 : Int) : Option (Bool) := if a0_0 = a1_0 then (if a0_1 = a1_1 then (some true) else (some false)) else (some false)
set_option maxHeartbeats 8000000 in
set_option maxRecDepth 100000 in
theorem laws_eqDevice.calls (a0_0 : Int) (a0_1 : Int) (a1_0 : Int) (a1_1 : Int) (r : Bool) (w : World) (h : laws_eqDevice.f a0_0 a0_1 a1_0 a1_1 = some r) :
    Calls Tryz.prog 39 #[.agg #[.int .i64 a0_0, .int .i64 a0_1], .agg #[.int .i64 a1_0, .int .i64 a1_1]] w fun e w' => e = .returned (.bool r) ∧ Below w.heap.size w w' := by
  unfold laws_eqDevice.f at h
  by_cases c : a0_0 = a1_0
  case neg =>
    rw [if_neg c] at h
    obtain rfl := Option.some.inj h
    have eb : (a0_0 != a1_0) = true := by simpa using c
    have ec : (a0_0 == a1_0) = false := by simpa using c
    clear c h
    go_enter Tryz.func39, Tryz.ntmps39
    go_wp2_with fail
    go_ret
    exact ⟨rfl, below_alloc (below_alloc (Below.refl _ _) _) _⟩
  rw [if_pos c] at h
  have eb0 : (a0_0 != a1_0) = false := by simpa using c
  have ec0 : (a0_0 == a1_0) = true := by simpa using c
  clear c
  by_cases c : a0_1 = a1_1
  case neg =>
    rw [if_neg c] at h
    obtain rfl := Option.some.inj h
    have eb : (a0_1 != a1_1) = true := by simpa using c
    have ec : (a0_1 == a1_1) = false := by simpa using c
    clear c h
    go_enter Tryz.func39, Tryz.ntmps39
    go_wp2_with fail
    go_ret
    exact ⟨rfl, below_alloc (below_alloc (Below.refl _ _) _) _⟩
  rw [if_pos c] at h
  have eb1 : (a0_1 != a1_1) = false := by simpa using c
  have ec1 : (a0_1 == a1_1) = true := by simpa using c
  clear c
  obtain rfl := Option.some.inj h
  clear h
  go_enter Tryz.func39, Tryz.ntmps39
  go_wp2_with fail
  go_ret
  exact ⟨rfl, below_alloc (below_alloc (Below.refl _ _) _) _⟩
end Go.Proofs.YtohjpgcmhihdhaaGreatDoor.Q
