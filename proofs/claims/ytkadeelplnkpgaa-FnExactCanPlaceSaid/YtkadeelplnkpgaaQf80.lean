/- Walks of the Go functions that the laws call: each returns what a plain Lean function says. Written by a program for these claims. -/
import Derived.Test.YtkadeelplnkpgaaQ0
import Derived.Test.YtkadeelplnkpgaaQf58
namespace Go.Proofs.Ytkadeelplnkpgaa.Q
open Go.RowKit Go.Proofs.YtkadeelplnkpgaaW.PrintWords Go.Proofs.YtkadeelplnkpgaaW.PrintLast Go.Proofs.YtkadeelplnkpgaaW.PrintMore
attribute [local go_sem] max2_int min2_int max_two min_two max_three min_three max_four min_four   -- for this text's walks alone
set_option linter.unusedVariables false
set_option linter.unusedSimpArgs false

/-! ### spec_l00Rises: function 80 -/
def spec_l00Rises.l0 : Nat → List Int → Int → Int → Int → Option (Bool)
  | 0, _, _, _, _ => none
  | k + 1, x0, x1, x2, x7 => if x7 < (x0.length : Int) then (if 0 ≤ x7 then ((spec_l00In.f (rd x0 x7) x1 x2).bind fun t819 => (if t819 = true then (if x7 > 0 then (if 0 ≤ (wrap64 (x7 - 1)) then (if (wrap64 (x7 - 1)) < (x0.length : Int) then (if (rd x0 (wrap64 (x7 - 1))) ≥ (rd x0 x7) then (some false) else (spec_l00Rises.l0 k x0 x1 x2 (wrap64 (x7 + 1)))) else (none)) else (none)) else (spec_l00Rises.l0 k x0 x1 x2 (wrap64 (x7 + 1)))) else (some false))) else (none)) else (some true)
def spec_l00Rises.f (k : Nat) (l0 : List Int) (a1 : Int) (a2 : Int) : Option (Bool) := spec_l00Rises.l0 k l0 a1 a2 0
set_option maxHeartbeats 8000000 in
set_option maxRecDepth 100000 in
theorem spec_l00Rises.calls (k : Nat) (A0 : Option Addr) (c0 : Nat) (l0 : List Int) (a1 : Int) (a2 : Int) (r : Bool) (w : World) (hr0 : Kd.C (Kd.int .i64) w A0 l0.length l0) (hc0 : l0.length ≤ c0) (h : spec_l00Rises.f k l0 a1 a2 = some r) :
    Calls Try.prog 80 #[.slice A0 l0.length c0, .int .i64 a1, .int .i64 a2] w fun e w' => e = .returned (.bool r) ∧ Drawn0 w w' := by
  have HR0 := Aside0.mk hr0
  have HC0 := Aside0.mk hc0
  clear hr0 hc0
  have H : (spec_l00Rises.l0 k l0 a1 a2 0) = some r := h
  clear h
  have H' := Aside0.mk H
  clear H
  go_enter Try.func80, Try.ntmps80
  go_wp2
  repeat (go_quiet (fail); try go_wp2)
  go_loopg [7] k (fun kq v7 w' => ∃ (x7_1 : Int), v7 = .int .i64 x7_1 ∧ Aside0 (spec_l00Rises.l0 kq l0 a1 a2 x7_1 = some r) ∧ Aside0 (kq ≤ k) ∧ Drawn0 w w')
  case atStart => exact ⟨(0), (by first | rfl | (simp; done) | (simp [*]; done)), H', ⟨Nat.le_refl _⟩, by repeat (first | exact Drawn0.refl _ | apply Drawn0.step)⟩
  case round =>
    clear H'
    try clear p2
    obtain ⟨x7_1, rfl, HA, HK1, ⟨m1, rfl⟩⟩ := hrel
    cases gk with
    | zero => exact absurd HA.out (by simp [spec_l00Rises.l0])
    | succ k1 =>
      have H := HA.out
      clear HA
      simp only [spec_l00Rises.l0] at H
      by_cases c4 : x7_1 < (l0.length : Int)
      · rw [if_pos c4] at H
        have c4b0 : decide (x7_1 < (l0.length : Int)) = true := decide_eq_true c4
        clear c4
        by_cases c5 : 0 ≤ x7_1
        · rw [if_pos c5] at H
          have c5b0 : decide (0 ≤ x7_1) = true := decide_eq_true c5
          clear c5
          replace H := Option.bind_eq_some_iff.mp H
          obtain ⟨t819, A60, H⟩ := H
          replace H : (if t819 = true then (if x7_1 > 0 then (if 0 ≤ (wrap64 (x7_1 - 1)) then (if (wrap64 (x7_1 - 1)) < (l0.length : Int) then (if (rd l0 (wrap64 (x7_1 - 1))) ≥ (rd l0 x7_1) then (some false) else (spec_l00Rises.l0 k1 l0 a1 a2 (wrap64 (x7_1 + 1)))) else (none)) else (none)) else (spec_l00Rises.l0 k1 l0 a1 a2 (wrap64 (x7_1 + 1)))) else (some false)) = some r := H
          have A6 := Aside0.mk A60
          clear A60
          by_cases c7 : t819 = true
          · subst c7
            have H1 : (if x7_1 > 0 then (if 0 ≤ (wrap64 (x7_1 - 1)) then (if (wrap64 (x7_1 - 1)) < (l0.length : Int) then (if (rd l0 (wrap64 (x7_1 - 1))) ≥ (rd l0 x7_1) then (some false) else (spec_l00Rises.l0 k1 l0 a1 a2 (wrap64 (x7_1 + 1)))) else (none)) else (none)) else (spec_l00Rises.l0 k1 l0 a1 a2 (wrap64 (x7_1 + 1)))) = some r := by rw [if_pos rfl] at H; exact H
            clear H
            have H := H1
            clear H1
            by_cases c8 : x7_1 > 0
            · rw [if_pos c8] at H
              have c8b0 : decide (0 < x7_1) = true := decide_eq_true c8
              clear c8
              obtain ⟨ji9, hji9⟩ : ∃ j_ : Int, (wrap64 (x7_1 - 1)) = j_ := ⟨_, rfl⟩
              replace H : (if 0 ≤ (ji9) then (if (ji9) < (l0.length : Int) then (if (rd l0 (ji9)) ≥ (rd l0 x7_1) then (some false) else (spec_l00Rises.l0 k1 l0 a1 a2 (wrap64 (x7_1 + 1)))) else (none)) else (none)) = some r := by first | (rw [hji9] at H; exact H) | (simp only [hji9] at H ⊢; exact H)
              (try rw [hji9] at A6)
              have hji9w : (IntKind.i64.wrap (x7_1 - 1)) = ji9 := (i64_w _).trans hji9
              by_cases c10 : 0 ≤ (ji9)
              · rw [if_pos c10] at H
                have c10b0 : decide (0 ≤ (ji9)) = true := decide_eq_true c10
                clear c10
                by_cases c11 : (ji9) < (l0.length : Int)
                · rw [if_pos c11] at H
                  have c11b0 : decide ((ji9) < (l0.length : Int)) = true := decide_eq_true c11
                  clear c11
                  by_cases c12 : (rd l0 (ji9)) ≥ (rd l0 x7_1)
                  · rw [if_pos c12] at H
                    have c12b0 : decide ((rd l0 x7_1) ≤ (rd l0 (ji9))) = true := decide_eq_true c12
                    clear c12
                    obtain rfl := Option.some.inj H
                    have p818 : 0 ≤ (x7_1 : Int) := of_decide_eq_true (by assumption)
                    have q818 : x7_1 < (l0.length : Int) := of_decide_eq_true (by assumption)
                    obtain ⟨ad818, e818, hx818_0⟩ := Kd.at_int HR0.out x7_1 p818 q818
                    cases e818
                    replace p818 := eq_true p818
                    replace q818 := eq_true q818
                    go_wp2_with (first | (go_at_call 58; (with_reducible refine (spec_l00In.calls (rd l0 x7_1) a1 a2 true _ A6.out).mono ?_); rintro e w' ⟨rfl, ⟨nd, rfl⟩⟩; (try first | exact ⟨rfl, _, World.drewN_drewN _ _ _⟩ | exact ⟨rfl, _, Eq.trans (World.drewN_drewN _ _ _) (congrArg (World.drewN _) (Nat.add_assoc _ _ _))⟩); have p820 : 0 ≤ ((ji9) : Int) := of_decide_eq_true (by assumption); have q820 : (ji9) < (l0.length : Int) := of_decide_eq_true (by assumption); obtain ⟨ad820, e820, hx820_0⟩ := Kd.at_int HR0.out (ji9) p820 q820; obtain rfl : ad818 = ad820 := (by injection e820); replace p820 := eq_true p820; replace q820 := eq_true q820; have p821 : 0 ≤ (x7_1 : Int) := of_decide_eq_true (by assumption); have q821 : x7_1 < (l0.length : Int) := of_decide_eq_true (by assumption); obtain ⟨ad821, e821, hx821_0⟩ := Kd.at_int HR0.out x7_1 p821 q821; obtain rfl : ad818 = ad821 := (by injection e821); replace p821 := eq_true p821; replace q821 := eq_true q821))
                    repeat (go_quiet (first | (go_at_call 58; (with_reducible refine (spec_l00In.calls (rd l0 x7_1) a1 a2 true _ A6.out).mono ?_); rintro e w' ⟨rfl, ⟨nd, rfl⟩⟩; (try first | exact ⟨rfl, _, World.drewN_drewN _ _ _⟩ | exact ⟨rfl, _, Eq.trans (World.drewN_drewN _ _ _) (congrArg (World.drewN _) (Nat.add_assoc _ _ _))⟩); have p820 : 0 ≤ ((ji9) : Int) := of_decide_eq_true (by assumption); have q820 : (ji9) < (l0.length : Int) := of_decide_eq_true (by assumption); obtain ⟨ad820, e820, hx820_0⟩ := Kd.at_int HR0.out (ji9) p820 q820; obtain rfl : ad818 = ad820 := (by injection e820); replace p820 := eq_true p820; replace q820 := eq_true q820; have p821 : 0 ≤ (x7_1 : Int) := of_decide_eq_true (by assumption); have q821 : x7_1 < (l0.length : Int) := of_decide_eq_true (by assumption); obtain ⟨ad821, e821, hx821_0⟩ := Kd.at_int HR0.out x7_1 p821 q821; obtain rfl : ad818 = ad821 := (by injection e821); replace p821 := eq_true p821; replace q821 := eq_true q821)); try go_wp2_with (first | (go_at_call 58; (with_reducible refine (spec_l00In.calls (rd l0 x7_1) a1 a2 true _ A6.out).mono ?_); rintro e w' ⟨rfl, ⟨nd, rfl⟩⟩; (try first | exact ⟨rfl, _, World.drewN_drewN _ _ _⟩ | exact ⟨rfl, _, Eq.trans (World.drewN_drewN _ _ _) (congrArg (World.drewN _) (Nat.add_assoc _ _ _))⟩); have p820 : 0 ≤ ((ji9) : Int) := of_decide_eq_true (by assumption); have q820 : (ji9) < (l0.length : Int) := of_decide_eq_true (by assumption); obtain ⟨ad820, e820, hx820_0⟩ := Kd.at_int HR0.out (ji9) p820 q820; obtain rfl : ad818 = ad820 := (by injection e820); replace p820 := eq_true p820; replace q820 := eq_true q820; have p821 : 0 ≤ (x7_1 : Int) := of_decide_eq_true (by assumption); have q821 : x7_1 < (l0.length : Int) := of_decide_eq_true (by assumption); obtain ⟨ad821, e821, hx821_0⟩ := Kd.at_int HR0.out x7_1 p821 q821; obtain rfl : ad818 = ad821 := (by injection e821); replace p821 := eq_true p821; replace q821 := eq_true q821)))
                    go_ret
                    exact ⟨by first | rfl | (simp; done) | (simp only [← hji9] <;> (first | rfl | simp)) | (simp [*]; done), by repeat (first | exact Drawn0.refl _ | apply Drawn0.step)⟩
                  · rw [if_neg c12] at H
                    have c12b0 : decide ((rd l0 x7_1) ≤ (rd l0 (ji9))) = false := decide_eq_false c12
                    clear c12
                    have H' := Aside0.mk H
                    clear H
                    have p818 : 0 ≤ (x7_1 : Int) := of_decide_eq_true (by assumption)
                    have q818 : x7_1 < (l0.length : Int) := of_decide_eq_true (by assumption)
                    obtain ⟨ad818, e818, hx818_0⟩ := Kd.at_int HR0.out x7_1 p818 q818
                    cases e818
                    replace p818 := eq_true p818
                    replace q818 := eq_true q818
                    go_wp2_with (first | (go_at_call 58; (with_reducible refine (spec_l00In.calls (rd l0 x7_1) a1 a2 true _ A6.out).mono ?_); rintro e w' ⟨rfl, ⟨nd, rfl⟩⟩; (try first | exact ⟨rfl, _, World.drewN_drewN _ _ _⟩ | exact ⟨rfl, _, Eq.trans (World.drewN_drewN _ _ _) (congrArg (World.drewN _) (Nat.add_assoc _ _ _))⟩); have p820 : 0 ≤ ((ji9) : Int) := of_decide_eq_true (by assumption); have q820 : (ji9) < (l0.length : Int) := of_decide_eq_true (by assumption); obtain ⟨ad820, e820, hx820_0⟩ := Kd.at_int HR0.out (ji9) p820 q820; obtain rfl : ad818 = ad820 := (by injection e820); replace p820 := eq_true p820; replace q820 := eq_true q820; have p821 : 0 ≤ (x7_1 : Int) := of_decide_eq_true (by assumption); have q821 : x7_1 < (l0.length : Int) := of_decide_eq_true (by assumption); obtain ⟨ad821, e821, hx821_0⟩ := Kd.at_int HR0.out x7_1 p821 q821; obtain rfl : ad818 = ad821 := (by injection e821); replace p821 := eq_true p821; replace q821 := eq_true q821))
                    repeat (go_quiet (first | (go_at_call 58; (with_reducible refine (spec_l00In.calls (rd l0 x7_1) a1 a2 true _ A6.out).mono ?_); rintro e w' ⟨rfl, ⟨nd, rfl⟩⟩; (try first | exact ⟨rfl, _, World.drewN_drewN _ _ _⟩ | exact ⟨rfl, _, Eq.trans (World.drewN_drewN _ _ _) (congrArg (World.drewN _) (Nat.add_assoc _ _ _))⟩); have p820 : 0 ≤ ((ji9) : Int) := of_decide_eq_true (by assumption); have q820 : (ji9) < (l0.length : Int) := of_decide_eq_true (by assumption); obtain ⟨ad820, e820, hx820_0⟩ := Kd.at_int HR0.out (ji9) p820 q820; obtain rfl : ad818 = ad820 := (by injection e820); replace p820 := eq_true p820; replace q820 := eq_true q820; have p821 : 0 ≤ (x7_1 : Int) := of_decide_eq_true (by assumption); have q821 : x7_1 < (l0.length : Int) := of_decide_eq_true (by assumption); obtain ⟨ad821, e821, hx821_0⟩ := Kd.at_int HR0.out x7_1 p821 q821; obtain rfl : ad818 = ad821 := (by injection e821); replace p821 := eq_true p821; replace q821 := eq_true q821)); try go_wp2_with (first | (go_at_call 58; (with_reducible refine (spec_l00In.calls (rd l0 x7_1) a1 a2 true _ A6.out).mono ?_); rintro e w' ⟨rfl, ⟨nd, rfl⟩⟩; (try first | exact ⟨rfl, _, World.drewN_drewN _ _ _⟩ | exact ⟨rfl, _, Eq.trans (World.drewN_drewN _ _ _) (congrArg (World.drewN _) (Nat.add_assoc _ _ _))⟩); have p820 : 0 ≤ ((ji9) : Int) := of_decide_eq_true (by assumption); have q820 : (ji9) < (l0.length : Int) := of_decide_eq_true (by assumption); obtain ⟨ad820, e820, hx820_0⟩ := Kd.at_int HR0.out (ji9) p820 q820; obtain rfl : ad818 = ad820 := (by injection e820); replace p820 := eq_true p820; replace q820 := eq_true q820; have p821 : 0 ≤ (x7_1 : Int) := of_decide_eq_true (by assumption); have q821 : x7_1 < (l0.length : Int) := of_decide_eq_true (by assumption); obtain ⟨ad821, e821, hx821_0⟩ := Kd.at_int HR0.out x7_1 p821 q821; obtain rfl : ad818 = ad821 := (by injection e821); replace p821 := eq_true p821; replace q821 := eq_true q821)))
                    go_roundg k1
                    case measure => have := HK1.out; omega
                    case rel => exact ⟨(wrap64 (x7_1 + 1)), (by first | rfl | (simp; done) | (simp [*]; done)), H', ⟨by have := HK1.out; omega⟩, by repeat (first | exact Drawn0.refl _ | apply Drawn0.step)⟩
                · rw [if_neg c11] at H
                  exact absurd H (by simp)
              · rw [if_neg c10] at H
                exact absurd H (by simp)
            · rw [if_neg c8] at H
              have c8b0 : decide (0 < x7_1) = false := decide_eq_false c8
              clear c8
              have H' := Aside0.mk H
              clear H
              have p818 : 0 ≤ (x7_1 : Int) := of_decide_eq_true (by assumption)
              have q818 : x7_1 < (l0.length : Int) := of_decide_eq_true (by assumption)
              obtain ⟨ad818, e818, hx818_0⟩ := Kd.at_int HR0.out x7_1 p818 q818
              cases e818
              replace p818 := eq_true p818
              replace q818 := eq_true q818
              go_wp2_with (first | (go_at_call 58; (with_reducible refine (spec_l00In.calls (rd l0 x7_1) a1 a2 true _ A6.out).mono ?_); rintro e w' ⟨rfl, ⟨nd, rfl⟩⟩; (try first | exact ⟨rfl, _, World.drewN_drewN _ _ _⟩ | exact ⟨rfl, _, Eq.trans (World.drewN_drewN _ _ _) (congrArg (World.drewN _) (Nat.add_assoc _ _ _))⟩)))
              repeat (go_quiet (first | (go_at_call 58; (with_reducible refine (spec_l00In.calls (rd l0 x7_1) a1 a2 true _ A6.out).mono ?_); rintro e w' ⟨rfl, ⟨nd, rfl⟩⟩; (try first | exact ⟨rfl, _, World.drewN_drewN _ _ _⟩ | exact ⟨rfl, _, Eq.trans (World.drewN_drewN _ _ _) (congrArg (World.drewN _) (Nat.add_assoc _ _ _))⟩))); try go_wp2_with (first | (go_at_call 58; (with_reducible refine (spec_l00In.calls (rd l0 x7_1) a1 a2 true _ A6.out).mono ?_); rintro e w' ⟨rfl, ⟨nd, rfl⟩⟩; (try first | exact ⟨rfl, _, World.drewN_drewN _ _ _⟩ | exact ⟨rfl, _, Eq.trans (World.drewN_drewN _ _ _) (congrArg (World.drewN _) (Nat.add_assoc _ _ _))⟩))))
              go_roundg k1
              case measure => have := HK1.out; omega
              case rel => exact ⟨(wrap64 (x7_1 + 1)), (by first | rfl | (simp; done) | (simp [*]; done)), H', ⟨by have := HK1.out; omega⟩, by repeat (first | exact Drawn0.refl _ | apply Drawn0.step)⟩
          · replace c7 := Bool.eq_false_iff.mpr c7
            subst c7
            have H1 : (some false) = some r := by rw [if_neg (show ¬ (false = true) by decide)] at H; exact H
            clear H
            have H := H1
            clear H1
            obtain rfl := Option.some.inj H
            have p818 : 0 ≤ (x7_1 : Int) := of_decide_eq_true (by assumption)
            have q818 : x7_1 < (l0.length : Int) := of_decide_eq_true (by assumption)
            obtain ⟨ad818, e818, hx818_0⟩ := Kd.at_int HR0.out x7_1 p818 q818
            cases e818
            replace p818 := eq_true p818
            replace q818 := eq_true q818
            go_wp2_with (first | (go_at_call 58; (with_reducible refine (spec_l00In.calls (rd l0 x7_1) a1 a2 false _ A6.out).mono ?_); rintro e w' ⟨rfl, ⟨nd, rfl⟩⟩; (try first | exact ⟨rfl, _, World.drewN_drewN _ _ _⟩ | exact ⟨rfl, _, Eq.trans (World.drewN_drewN _ _ _) (congrArg (World.drewN _) (Nat.add_assoc _ _ _))⟩)))
            repeat (go_quiet (first | (go_at_call 58; (with_reducible refine (spec_l00In.calls (rd l0 x7_1) a1 a2 false _ A6.out).mono ?_); rintro e w' ⟨rfl, ⟨nd, rfl⟩⟩; (try first | exact ⟨rfl, _, World.drewN_drewN _ _ _⟩ | exact ⟨rfl, _, Eq.trans (World.drewN_drewN _ _ _) (congrArg (World.drewN _) (Nat.add_assoc _ _ _))⟩))); try go_wp2_with (first | (go_at_call 58; (with_reducible refine (spec_l00In.calls (rd l0 x7_1) a1 a2 false _ A6.out).mono ?_); rintro e w' ⟨rfl, ⟨nd, rfl⟩⟩; (try first | exact ⟨rfl, _, World.drewN_drewN _ _ _⟩ | exact ⟨rfl, _, Eq.trans (World.drewN_drewN _ _ _) (congrArg (World.drewN _) (Nat.add_assoc _ _ _))⟩))))
            go_ret
            exact ⟨by first | rfl | (simp; done) | (simp [*]; done), by repeat (first | exact Drawn0.refl _ | apply Drawn0.step)⟩
        · rw [if_neg c5] at H
          exact absurd H (by simp)
      · rw [if_neg c4] at H
        have c4b0 : decide (x7_1 < (l0.length : Int)) = false := decide_eq_false c4
        clear c4
        obtain rfl := Option.some.inj H
        go_wp2
        repeat (go_quiet (fail); try go_wp2)
        go_ret
        exact ⟨by first | rfl | (simp; done) | (simp [*]; done), by repeat (first | exact Drawn0.refl _ | apply Drawn0.step)⟩

end Go.Proofs.Ytkadeelplnkpgaa.Q
