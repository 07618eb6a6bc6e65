/- Walks of the Go functions that the laws call: each returns what a plain Lean function says. Written by a program for these claims. -/
import Derived.Test.YtlocignlkigojaaQ0
import Derived.Test.YtlocignlkigojaaQf46
namespace Go.Proofs.Ytlocignlkigojaa.Q
open Go.RowKit Go.Proofs.YtlocignlkigojaaW.PrintWords Go.Proofs.YtlocignlkigojaaW.PrintLast Go.Proofs.YtlocignlkigojaaW.PrintMore
attribute [local go_sem] max2_int min2_int max_two min_two max_three min_three max_four min_four   -- for this text's walks alone
set_option linter.unusedVariables false
set_option linter.unusedSimpArgs false

/-! ### impl_GetText: function 48 -/
def impl_GetText.f (k : Nat) (a0 : ByteArray) : Option (ByteArray × Int × Bool) := (impl_GetVar.f k a0).bind fun bt470 => (if bt470.2.2 = true then (if bt470.1 > (wrap64 ((a0.size : Int) - bt470.2.1)) then (some ((⟨#[]⟩ : ByteArray), 0, false)) else (if 0 ≤ bt470.2.1 then (if bt470.2.1 ≤ (wrap64 (bt470.2.1 + bt470.1)) then (if (wrap64 (bt470.2.1 + bt470.1)) ≤ (a0.size : Int) then (some (a0.extract (bt470.2.1 : Int).toNat ((wrap64 (bt470.2.1 + bt470.1)) : Int).toNat, wrap64 (bt470.2.1 + bt470.1), true)) else (none)) else (none)) else (none))) else (some ((⟨#[]⟩ : ByteArray), 0, false)))
theorem impl_GetText.mono : ∀ a0 k, LeO (impl_GetText.f k a0) (impl_GetText.f (k + 1) a0) := by
  intro a0 k
  unfold impl_GetText.f
  repeat' first
      | (with_reducible exact impl_GetVar.mono _ _)
      | (with_reducible exact LeO.refl _)
      | (with_reducible exact LeO.none _)
      | (with_reducible refine LeO.ite ?_ ?_)
      | (with_reducible refine LeO.bind ?_ (fun _ => ?_))
      | exact impl_GetVar.mono _ _
      | exact LeO.none _
      | refine LeO.ite ?_ ?_
      | refine LeO.bind ?_ (fun _ => ?_)
set_option maxHeartbeats 8000000 in
set_option maxRecDepth 100000 in
theorem impl_GetText.calls (k : Nat) (a0 : ByteArray) (r1 : ByteArray) (r2 : Int) (r3 : Bool) (w : World) (h : impl_GetText.f k a0 = some (r1, r2, r3)) :
    Calls Try.prog 48 #[.string a0] w fun e w' => e = .returned (.tuple #[.string r1, .int .i64 r2, .bool r3]) ∧ Drawn0 w w' := by
  have H : ((impl_GetVar.f k a0).bind fun bt470 => (if bt470.2.2 = true then (if bt470.1 > (wrap64 ((a0.size : Int) - bt470.2.1)) then (some ((⟨#[]⟩ : ByteArray), 0, false)) else (if 0 ≤ bt470.2.1 then (if bt470.2.1 ≤ (wrap64 (bt470.2.1 + bt470.1)) then (if (wrap64 (bt470.2.1 + bt470.1)) ≤ (a0.size : Int) then (some (a0.extract (bt470.2.1 : Int).toNat ((wrap64 (bt470.2.1 + bt470.1)) : Int).toNat, wrap64 (bt470.2.1 + bt470.1), true)) else (none)) else (none)) else (none))) else (some ((⟨#[]⟩ : ByteArray), 0, false)))) = some (r1, r2, r3) := h
  clear h
  replace H := Option.bind_eq_some_iff.mp H
  obtain ⟨⟨t470, t471, t472⟩, A20, H⟩ := H
  replace H : (if t472 = true then (if t470 > (wrap64 ((a0.size : Int) - t471)) then (some ((⟨#[]⟩ : ByteArray), 0, false)) else (if 0 ≤ t471 then (if t471 ≤ (wrap64 (t471 + t470)) then (if (wrap64 (t471 + t470)) ≤ (a0.size : Int) then (some (a0.extract (t471 : Int).toNat ((wrap64 (t471 + t470)) : Int).toNat, wrap64 (t471 + t470), true)) else (none)) else (none)) else (none))) else (some ((⟨#[]⟩ : ByteArray), 0, false))) = some (r1, r2, r3) := H
  have A2 := Aside0.mk A20
  clear A20
  by_cases c3 : t472 = true
  · subst c3
    have H1 : (if t470 > (wrap64 ((a0.size : Int) - t471)) then (some ((⟨#[]⟩ : ByteArray), 0, false)) else (if 0 ≤ t471 then (if t471 ≤ (wrap64 (t471 + t470)) then (if (wrap64 (t471 + t470)) ≤ (a0.size : Int) then (some (a0.extract (t471 : Int).toNat ((wrap64 (t471 + t470)) : Int).toNat, wrap64 (t471 + t470), true)) else (none)) else (none)) else (none))) = some (r1, r2, r3) := by rw [if_pos rfl] at H; exact H
    clear H
    have H := H1
    clear H1
    by_cases c4 : t470 > (wrap64 ((a0.size : Int) - t471))
    · rw [if_pos c4] at H
      have c4b0 : decide ((wrap64 ((a0.size : Int) - t471)) < t470) = true := decide_eq_true c4
      clear c4
      simp only [Option.some.injEq, Prod.mk.injEq] at H
      obtain ⟨rfl, rfl, rfl⟩ := H
      go_enter Try.func48, Try.ntmps48
      go_wp2_with (first | ((with_reducible refine gate_callee (f := 46) rfl ?_); refine goesL_ (some 10) rfl rfl Try.func46 (by kernel_rfl) rfl #[.string a0] rfl (by (try simp only [List.map_toArray, List.map_cons, List.map_nil]); first | done | rfl | (simp only [List.length_drop, List.length_take]; rfl)) ?_; (with_reducible refine (impl_GetVar.calls k a0 t470 t471 true _ A2.out).mono ?_); rintro e w' ⟨rfl, ⟨nd, rfl⟩⟩; refine ⟨_, rfl, ?_⟩))
      go_ret3
      exact ⟨by first | rfl | (simp; done) | (simp [*]; done), by repeat (first | exact Drawn0.refl _ | apply Drawn0.step)⟩
    · rw [if_neg c4] at H
      have c4b0 : decide ((wrap64 ((a0.size : Int) - t471)) < t470) = false := decide_eq_false c4
      clear c4
      by_cases c5 : 0 ≤ t471
      · rw [if_pos c5] at H
        have c5b0 := eq_true c5
        have c5b1 : decide (0 ≤ t471) = true := decide_eq_true c5
        clear c5
        by_cases c6 : t471 ≤ (wrap64 (t471 + t470))
        · rw [if_pos c6] at H
          have c6b0 := eq_true c6
          have c6b1 : decide (t471 ≤ (wrap64 (t471 + t470))) = true := decide_eq_true c6
          by_cases c7 : (wrap64 (t471 + t470)) ≤ (a0.size : Int)
          · rw [if_pos c7] at H
            have c7b0 := eq_true c7
            have c7b1 : decide ((wrap64 (t471 + t470)) ≤ (a0.size : Int)) = true := decide_eq_true c7
            simp only [Option.some.injEq, Prod.mk.injEq] at H
            obtain ⟨rfl, rfl, rfl⟩ := H
            go_enter Try.func48, Try.ntmps48
            go_wp2_with (first | ((with_reducible refine gate_callee (f := 46) rfl ?_); refine goesL_ (some 10) rfl rfl Try.func46 (by kernel_rfl) rfl #[.string a0] rfl (by (try simp only [List.map_toArray, List.map_cons, List.map_nil]); first | done | rfl | (simp only [List.length_drop, List.length_take]; rfl)) ?_; (with_reducible refine (impl_GetVar.calls k a0 t470 t471 true _ A2.out).mono ?_); rintro e w' ⟨rfl, ⟨nd, rfl⟩⟩; refine ⟨_, rfl, ?_⟩))
            go_ret3
            exact ⟨by first | rfl | (simp; done) | (simp [*]; done), by repeat (first | exact Drawn0.refl _ | apply Drawn0.step)⟩
          · rw [if_neg c7] at H
            exact absurd H (by simp)
        · rw [if_neg c6] at H
          exact absurd H (by simp)
      · rw [if_neg c5] at H
        exact absurd H (by simp)
  · replace c3 := Bool.eq_false_iff.mpr c3
    subst c3
    have H1 : (some ((⟨#[]⟩ : ByteArray), 0, false)) = some (r1, r2, r3) := by rw [if_neg (show ¬ (false = true) by decide)] at H; exact H
    clear H
    have H := H1
    clear H1
    simp only [Option.some.injEq, Prod.mk.injEq] at H
    obtain ⟨rfl, rfl, rfl⟩ := H
    go_enter Try.func48, Try.ntmps48
    go_wp2_with (first | ((with_reducible refine gate_callee (f := 46) rfl ?_); refine goesL_ (some 10) rfl rfl Try.func46 (by kernel_rfl) rfl #[.string a0] rfl (by (try simp only [List.map_toArray, List.map_cons, List.map_nil]); first | done | rfl | (simp only [List.length_drop, List.length_take]; rfl)) ?_; (with_reducible refine (impl_GetVar.calls k a0 t470 t471 false _ A2.out).mono ?_); rintro e w' ⟨rfl, ⟨nd, rfl⟩⟩; refine ⟨_, rfl, ?_⟩))
    go_ret3
    exact ⟨by first | rfl | (simp; done) | (simp [*]; done), by repeat (first | exact Drawn0.refl _ | apply Drawn0.step)⟩

end Go.Proofs.Ytlocignlkigojaa.Q
