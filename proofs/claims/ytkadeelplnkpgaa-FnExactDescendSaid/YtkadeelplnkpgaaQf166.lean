/- Walks of the Go functions that the laws call: each returns what a plain Lean function says. Written by a program for these claims. -/
import Derived.Test.YtkadeelplnkpgaaQ0
import Derived.Test.YtkadeelplnkpgaaQf169
namespace Go.Proofs.Ytkadeelplnkpgaa.Q
open Go.RowKit Go.Proofs.YtkadeelplnkpgaaW.PrintWords Go.Proofs.YtkadeelplnkpgaaW.PrintLast Go.Proofs.YtkadeelplnkpgaaW.PrintMore
attribute [local go_sem] max2_int min2_int max_two min_two max_three min_three max_four min_four   -- for this text's walks alone
set_option linter.unusedVariables false
set_option linter.unusedSimpArgs false

/-! ### spec_l01Mix: function 166 -/
def spec_l01Mix.l0 : Nat → List Int → Int → Int → Option (Int)
  | 0, _, _, _ => none
  | k + 1, x0, x3, x4 => if x4 < (x0.length : Int) then (if 0 ≤ x4 then ((spec_l01Low.f (rd x0 x4)).bind fun t786 => ((spec_l01Low.f (wrap64 ((Go.bits .xor .i64 x3 t786) * 16777619))).bind fun t787 => ((spec_l01Low.f (wrap64 ((Go.bits .xor .i64 t787 (t787 / 32768)) * 1540483477))).bind fun t788 => (spec_l01Mix.l0 k x0 (Go.bits .xor .i64 t788 (t788 / 8192)) (wrap64 (x4 + 1)))))) else (none)) else (some x3)
def spec_l01Mix.f (k : Nat) (l0 : List Int) : Option (Int) := spec_l01Mix.l0 k l0 2166136261 0
set_option maxHeartbeats 8000000 in
set_option maxRecDepth 100000 in
theorem spec_l01Mix.calls (k : Nat) (A0 : Option Addr) (c0 : Nat) (l0 : List Int) (r : Int) (w : World) (hr0 : Kd.C (Kd.int .i64) w A0 l0.length l0) (hc0 : l0.length ≤ c0) (h : spec_l01Mix.f k l0 = some r) :
    Calls Try.prog 166 #[.slice A0 l0.length c0] w fun e w' => e = .returned (.int .i64 r) ∧ Drawn0 w w' := by
  have HR0 := Aside0.mk hr0
  have HC0 := Aside0.mk hc0
  clear hr0 hc0
  have H : (spec_l01Mix.l0 k l0 2166136261 0) = some r := h
  clear h
  have H' := Aside0.mk H
  clear H
  go_enter Try.func166, Try.ntmps166
  go_wp2
  go_loopg [3, 4] k (fun kq v3 v4 w' => ∃ (x3_1 : Int) (x4_1 : Int), v3 = .int .i64 x3_1 ∧ v4 = .int .i64 x4_1 ∧ Aside0 (spec_l01Mix.l0 kq l0 x3_1 x4_1 = some r) ∧ Aside0 (kq ≤ k) ∧ Drawn0 w w')
  case atStart => exact ⟨(2166136261), (0), (by first | rfl | (simp; done) | (simp [*]; done)), (by first | rfl | (simp; done) | (simp [*]; done)), H', ⟨Nat.le_refl _⟩, by repeat (first | exact Drawn0.refl _ | apply Drawn0.step)⟩
  case round =>
    clear H'
    try clear c1
    obtain ⟨x3_1, x4_1, rfl, rfl, HA, HK1, ⟨m1, rfl⟩⟩ := hrel
    cases gk with
    | zero => exact absurd HA.out (by simp [spec_l01Mix.l0])
    | succ k1 =>
      have H := HA.out
      clear HA
      simp only [spec_l01Mix.l0] at H
      by_cases c2 : x4_1 < (l0.length : Int)
      · rw [if_pos c2] at H
        have c2b0 : decide (x4_1 < (l0.length : Int)) = true := decide_eq_true c2
        clear c2
        by_cases c3 : 0 ≤ x4_1
        · rw [if_pos c3] at H
          have c3b0 : decide (0 ≤ x4_1) = true := decide_eq_true c3
          clear c3
          replace H := Option.bind_eq_some_iff.mp H
          obtain ⟨t786, A40, H⟩ := H
          replace H : ((spec_l01Low.f (wrap64 ((Go.bits .xor .i64 x3_1 t786) * 16777619))).bind fun t787 => ((spec_l01Low.f (wrap64 ((Go.bits .xor .i64 t787 (t787 / 32768)) * 1540483477))).bind fun t788 => (spec_l01Mix.l0 k1 l0 (Go.bits .xor .i64 t788 (t788 / 8192)) (wrap64 (x4_1 + 1))))) = some r := H
          have A4 := Aside0.mk A40
          clear A40
          replace H := Option.bind_eq_some_iff.mp H
          obtain ⟨t787, A50, H⟩ := H
          replace H : ((spec_l01Low.f (wrap64 ((Go.bits .xor .i64 t787 (t787 / 32768)) * 1540483477))).bind fun t788 => (spec_l01Mix.l0 k1 l0 (Go.bits .xor .i64 t788 (t788 / 8192)) (wrap64 (x4_1 + 1)))) = some r := H
          have A5 := Aside0.mk A50
          clear A50
          replace H := Option.bind_eq_some_iff.mp H
          obtain ⟨t788, A60, H⟩ := H
          replace H : (spec_l01Mix.l0 k1 l0 (Go.bits .xor .i64 t788 (t788 / 8192)) (wrap64 (x4_1 + 1))) = some r := H
          have A6 := Aside0.mk A60
          clear A60
          have H' := Aside0.mk H
          clear H
          have p785 : 0 ≤ (x4_1 : Int) := of_decide_eq_true (by assumption)
          have q785 : x4_1 < (l0.length : Int) := of_decide_eq_true (by assumption)
          obtain ⟨ad785, e785, hx785_0⟩ := Kd.at_int HR0.out x4_1 p785 q785
          cases e785
          replace p785 := eq_true p785
          replace q785 := eq_true q785
          go_wp2_with (first | ((with_reducible refine gate_callee (f := 169) rfl ?_); refine goesL_ (some 16) rfl rfl Try.func169 (by kernel_rfl) rfl #[.int .i64 (rd l0 x4_1)] rfl (by (try simp only [List.map_toArray, List.map_cons, List.map_nil]); first | done | rfl | (simp only [List.length_drop, List.length_take]; rfl)) ?_; (with_reducible refine (spec_l01Low.calls (rd l0 x4_1) t786 _ A4.out).mono ?_); rintro e w' ⟨rfl, ⟨nd, rfl⟩⟩; refine ⟨_, rfl, ?_⟩) | ((with_reducible refine gate_callee (f := 169) rfl ?_); refine goesL_ (some 19) rfl rfl Try.func169 (by kernel_rfl) rfl #[.int .i64 (wrap64 ((Go.bits .xor .i64 x3_1 t786) * 16777619))] rfl (by (try simp only [List.map_toArray, List.map_cons, List.map_nil]); first | done | rfl | (simp only [List.length_drop, List.length_take]; rfl)) ?_; (with_reducible refine (spec_l01Low.calls (wrap64 ((Go.bits .xor .i64 x3_1 t786) * 16777619)) t787 _ A5.out).mono ?_); rintro e w' ⟨rfl, ⟨nd, rfl⟩⟩; refine ⟨_, rfl, ?_⟩) | ((with_reducible refine gate_callee (f := 169) rfl ?_); refine goesL_ (some 26) rfl rfl Try.func169 (by kernel_rfl) rfl #[.int .i64 (wrap64 ((Go.bits .xor .i64 t787 (t787 / 32768)) * 1540483477))] rfl (by (try simp only [List.map_toArray, List.map_cons, List.map_nil]); first | done | rfl | (simp only [List.length_drop, List.length_take]; rfl)) ?_; (with_reducible refine (spec_l01Low.calls (wrap64 ((Go.bits .xor .i64 t787 (t787 / 32768)) * 1540483477)) t788 _ A6.out).mono ?_); rintro e w' ⟨rfl, ⟨nd, rfl⟩⟩; refine ⟨_, rfl, ?_⟩))
          go_roundg k1
          case measure => have := HK1.out; omega
          case rel => exact ⟨(Go.bits .xor .i64 t788 (t788 / 8192)), (wrap64 (x4_1 + 1)), (by first | rfl | (simp; done) | (simp [*]; done)), (by first | rfl | (simp; done) | (simp [*]; done)), H', ⟨by have := HK1.out; omega⟩, by repeat (first | exact Drawn0.refl _ | apply Drawn0.step)⟩
        · rw [if_neg c3] at H
          exact absurd H (by simp)
      · rw [if_neg c2] at H
        have c2b0 : decide (x4_1 < (l0.length : Int)) = false := decide_eq_false c2
        clear c2
        obtain rfl := Option.some.inj H
        go_wp2
        go_ret
        exact ⟨by first | rfl | (simp; done) | (simp [*]; done), by repeat (first | exact Drawn0.refl _ | apply Drawn0.step)⟩

end Go.Proofs.Ytkadeelplnkpgaa.Q
