/- Walks of the Go functions that the laws call: each returns what a plain Lean function says. Written by a program for these claims. -/
import Derived.Test.YtlbahilobbdpjaaQ0
import Derived.Test.YtlbahilobbdpjaaQf57
namespace Go.Proofs.Ytlbahilobbdpjaa.Q
open Go.RowKit Go.Proofs.YtlbahilobbdpjaaW.PrintWords Go.Proofs.YtlbahilobbdpjaaW.PrintLast Go.Proofs.YtlbahilobbdpjaaW.PrintMore
attribute [local go_sem] max2_int min2_int max_two min_two max_three min_three max_four min_four   -- for this text's walks alone
set_option linter.unusedVariables false
set_option linter.unusedSimpArgs false

/-! ### spec_l01GetText: function 61 -/
def spec_l01GetText.f (k : Nat) (a0 : ByteArray) (a1 : Int) : Option (ByteArray × Int × Bool) := (spec_l01Get.f k a0 a1).bind fun bt201 => (if bt201.2.2 = true then (if bt201.1 > (wrap64 ((a0.size : Int) - bt201.2.1)) then (some ((⟨#[]⟩ : ByteArray), 0, false)) else (if 0 ≤ bt201.2.1 then (if bt201.2.1 ≤ (wrap64 (bt201.2.1 + bt201.1)) then (if (wrap64 (bt201.2.1 + bt201.1)) ≤ (a0.size : Int) then (some (a0.extract (bt201.2.1 : Int).toNat ((wrap64 (bt201.2.1 + bt201.1)) : Int).toNat, wrap64 (bt201.2.1 + bt201.1), true)) else (none)) else (none)) else (none))) else (some ((⟨#[]⟩ : ByteArray), 0, false)))
theorem spec_l01GetText.mono : ∀ a0 a1 k, LeO (spec_l01GetText.f k a0 a1) (spec_l01GetText.f (k + 1) a0 a1) := by
  intro a0 a1 k
  unfold spec_l01GetText.f
  repeat' first
      | (with_reducible exact spec_l01Get.mono _ _ _)
      | (with_reducible exact LeO.refl _)
      | (with_reducible exact LeO.none _)
      | (with_reducible refine LeO.ite ?_ ?_)
      | (with_reducible refine LeO.bind ?_ (fun _ => ?_))
      | exact spec_l01Get.mono _ _ _
      | exact LeO.none _
      | refine LeO.ite ?_ ?_
      | refine LeO.bind ?_ (fun _ => ?_)
set_option maxHeartbeats 8000000 in
set_option maxRecDepth 100000 in
theorem spec_l01GetText.calls (k : Nat) (a0 : ByteArray) (a1 : Int) (r1 : ByteArray) (r2 : Int) (r3 : Bool) (w : World) (h : spec_l01GetText.f k a0 a1 = some (r1, r2, r3)) :
    Calls Try.prog 61 #[.string a0, .int .i64 a1] w fun e w' => e = .returned (.tuple #[.string r1, .int .i64 r2, .bool r3]) ∧ Drawn0 w w' := by
  have H : ((spec_l01Get.f k a0 a1).bind fun bt201 => (if bt201.2.2 = true then (if bt201.1 > (wrap64 ((a0.size : Int) - bt201.2.1)) then (some ((⟨#[]⟩ : ByteArray), 0, false)) else (if 0 ≤ bt201.2.1 then (if bt201.2.1 ≤ (wrap64 (bt201.2.1 + bt201.1)) then (if (wrap64 (bt201.2.1 + bt201.1)) ≤ (a0.size : Int) then (some (a0.extract (bt201.2.1 : Int).toNat ((wrap64 (bt201.2.1 + bt201.1)) : Int).toNat, wrap64 (bt201.2.1 + bt201.1), true)) else (none)) else (none)) else (none))) else (some ((⟨#[]⟩ : ByteArray), 0, false)))) = some (r1, r2, r3) := h
  clear h
  replace H := Option.bind_eq_some_iff.mp H
  obtain ⟨⟨t201, t202, t203⟩, A30, H⟩ := H
  replace H : (if t203 = true then (if t201 > (wrap64 ((a0.size : Int) - t202)) then (some ((⟨#[]⟩ : ByteArray), 0, false)) else (if 0 ≤ t202 then (if t202 ≤ (wrap64 (t202 + t201)) then (if (wrap64 (t202 + t201)) ≤ (a0.size : Int) then (some (a0.extract (t202 : Int).toNat ((wrap64 (t202 + t201)) : Int).toNat, wrap64 (t202 + t201), true)) else (none)) else (none)) else (none))) else (some ((⟨#[]⟩ : ByteArray), 0, false))) = some (r1, r2, r3) := H
  have A3 := Aside0.mk A30
  clear A30
  by_cases c4 : t203 = true
  · subst c4
    have H1 : (if t201 > (wrap64 ((a0.size : Int) - t202)) then (some ((⟨#[]⟩ : ByteArray), 0, false)) else (if 0 ≤ t202 then (if t202 ≤ (wrap64 (t202 + t201)) then (if (wrap64 (t202 + t201)) ≤ (a0.size : Int) then (some (a0.extract (t202 : Int).toNat ((wrap64 (t202 + t201)) : Int).toNat, wrap64 (t202 + t201), true)) else (none)) else (none)) else (none))) = some (r1, r2, r3) := by rw [if_pos rfl] at H; exact H
    clear H
    have H := H1
    clear H1
    by_cases c5 : t201 > (wrap64 ((a0.size : Int) - t202))
    · rw [if_pos c5] at H
      have c5b0 : decide ((wrap64 ((a0.size : Int) - t202)) < t201) = true := decide_eq_true c5
      clear c5
      simp only [Option.some.injEq, Prod.mk.injEq] at H
      obtain ⟨rfl, rfl, rfl⟩ := H
      go_enter Try.func61, Try.ntmps61
      go_wp2_with (first | ((with_reducible refine gate_callee (f := 57) rfl ?_); refine goesL_ (some 13) rfl rfl Try.func57 (by kernel_rfl) rfl #[.string a0, .int .i64 a1] rfl (by (try simp only [List.map_toArray, List.map_cons, List.map_nil]); first | done | rfl | (simp only [List.length_drop, List.length_take]; rfl)) ?_; (with_reducible refine (spec_l01Get.calls k a0 a1 t201 t202 true _ A3.out).mono ?_); rintro e w' ⟨rfl, ⟨nd, rfl⟩⟩; refine ⟨_, rfl, ?_⟩))
      go_ret3
      exact ⟨by first | rfl | (simp; done) | (simp [*]; done), by repeat (first | exact Drawn0.refl _ | apply Drawn0.step)⟩
    · rw [if_neg c5] at H
      have c5b0 : decide ((wrap64 ((a0.size : Int) - t202)) < t201) = false := decide_eq_false c5
      clear c5
      by_cases c6 : 0 ≤ t202
      · rw [if_pos c6] at H
        have c6b0 := eq_true c6
        have c6b1 : decide (0 ≤ t202) = true := decide_eq_true c6
        clear c6
        by_cases c7 : t202 ≤ (wrap64 (t202 + t201))
        · rw [if_pos c7] at H
          have c7b0 := eq_true c7
          have c7b1 : decide (t202 ≤ (wrap64 (t202 + t201))) = true := decide_eq_true c7
          by_cases c8 : (wrap64 (t202 + t201)) ≤ (a0.size : Int)
          · rw [if_pos c8] at H
            have c8b0 := eq_true c8
            have c8b1 : decide ((wrap64 (t202 + t201)) ≤ (a0.size : Int)) = true := decide_eq_true c8
            simp only [Option.some.injEq, Prod.mk.injEq] at H
            obtain ⟨rfl, rfl, rfl⟩ := H
            go_enter Try.func61, Try.ntmps61
            go_wp2_with (first | ((with_reducible refine gate_callee (f := 57) rfl ?_); refine goesL_ (some 13) rfl rfl Try.func57 (by kernel_rfl) rfl #[.string a0, .int .i64 a1] rfl (by (try simp only [List.map_toArray, List.map_cons, List.map_nil]); first | done | rfl | (simp only [List.length_drop, List.length_take]; rfl)) ?_; (with_reducible refine (spec_l01Get.calls k a0 a1 t201 t202 true _ A3.out).mono ?_); rintro e w' ⟨rfl, ⟨nd, rfl⟩⟩; refine ⟨_, rfl, ?_⟩))
            go_ret3
            exact ⟨by first | rfl | (simp; done) | (simp [*]; done), by repeat (first | exact Drawn0.refl _ | apply Drawn0.step)⟩
          · rw [if_neg c8] at H
            exact absurd H (by simp)
        · rw [if_neg c7] at H
          exact absurd H (by simp)
      · rw [if_neg c6] at H
        exact absurd H (by simp)
  · replace c4 := Bool.eq_false_iff.mpr c4
    subst c4
    have H1 : (some ((⟨#[]⟩ : ByteArray), 0, false)) = some (r1, r2, r3) := by rw [if_neg (show ¬ (false = true) by decide)] at H; exact H
    clear H
    have H := H1
    clear H1
    simp only [Option.some.injEq, Prod.mk.injEq] at H
    obtain ⟨rfl, rfl, rfl⟩ := H
    go_enter Try.func61, Try.ntmps61
    go_wp2_with (first | ((with_reducible refine gate_callee (f := 57) rfl ?_); refine goesL_ (some 13) rfl rfl Try.func57 (by kernel_rfl) rfl #[.string a0, .int .i64 a1] rfl (by (try simp only [List.map_toArray, List.map_cons, List.map_nil]); first | done | rfl | (simp only [List.length_drop, List.length_take]; rfl)) ?_; (with_reducible refine (spec_l01Get.calls k a0 a1 t201 t202 false _ A3.out).mono ?_); rintro e w' ⟨rfl, ⟨nd, rfl⟩⟩; refine ⟨_, rfl, ?_⟩))
    go_ret3
    exact ⟨by first | rfl | (simp; done) | (simp [*]; done), by repeat (first | exact Drawn0.refl _ | apply Drawn0.step)⟩

end Go.Proofs.Ytlbahilobbdpjaa.Q
