/- Walks of the Go functions that the laws call: each returns what a plain Lean function says. Written by a program for these claims. -/
import Derived.Test.YtkadeelplnkpgaaQ0
import Derived.Test.YtkadeelplnkpgaaQf141
namespace Go.Proofs.Ytkadeelplnkpgaa.Q
open Go.RowKit Go.Proofs.YtkadeelplnkpgaaW.PrintWords Go.Proofs.YtkadeelplnkpgaaW.PrintLast Go.Proofs.YtkadeelplnkpgaaW.PrintMore
attribute [local go_sem] max2_int min2_int max_two min_two max_three min_three max_four min_four   -- for this text's walks alone
set_option linter.unusedVariables false
set_option linter.unusedSimpArgs false

/-! ### spec_l07Choose: function 123 -/
def spec_l07Choose.l0 : Nat → List (S134) → Int → Int → Int → Int → Int → Option (Int × Bool)
  | 0, _, _, _, _, _, _ => none
  | k + 1, x0, x1, x2, x8, x9, x10 => if x10 < (x0.length : Int) then (if 0 ≤ x10 then ((spec_l07Best.f k ((rd_T134 x0 x10).f0) ((rd_T134 x0 x10).f1) x1 x2).bind fun t797 => (if t797 > x8 then (spec_l07Choose.l0 k x0 x1 x2 t797 ((rd_T134 x0 x10).f0) (wrap64 (x10 + 1))) else (spec_l07Choose.l0 k x0 x1 x2 x8 x9 (wrap64 (x10 + 1))))) else (none)) else (some (x9, decide (x8 ≥ 0)))
def spec_l07Choose.f (k : Nat) (l0 : List (S134)) (a1 : Int) (a2 : Int) : Option (Int × Bool) := spec_l07Choose.l0 k l0 a1 a2 (-1) 0 0
set_option maxHeartbeats 8000000 in
set_option maxRecDepth 100000 in
theorem spec_l07Choose.calls (k : Nat) (A0 : Option Addr) (c0 : Nat) (l0 : List (S134)) (a1 : Int) (a2 : Int) (r1 : Int) (r2 : Bool) (w : World) (hr0 : Kd.C k134 w A0 l0.length l0) (hc0 : l0.length ≤ c0) (h : spec_l07Choose.f k l0 a1 a2 = some (r1, r2)) :
    Calls Try.prog 123 #[.slice A0 l0.length c0, .int .i64 a1, .int .i64 a2] w fun e w' => e = .returned (.tuple #[.int .i64 r1, .bool r2]) ∧ Below w.heap.size w w' := by
  have hu134 := Try.underlying134
  have HR0 := Aside0.mk hr0
  have HC0 := Aside0.mk hc0
  clear hr0 hc0
  have HB := Aside0.mk (Below.refl w.heap.size w)
  have H : (spec_l07Choose.l0 k l0 a1 a2 (-1) 0 0) = some (r1, r2) := h
  clear h
  have H' := Aside0.mk H
  clear H
  go_enter Try.func123, Try.ntmps123
  go_wp2
  go_loopg [8, 9, 10] k (fun kq v8 v9 v10 w' => ∃ (x8_1 : Int) (x9_1 : Int) (x10_1 : Int), v8 = .int .i64 x8_1 ∧ v9 = .int .i64 x9_1 ∧ v10 = .int .i64 x10_1 ∧ Aside0 (spec_l07Choose.l0 kq l0 a1 a2 x8_1 x9_1 x10_1 = some (r1, r2)) ∧ Aside0 (kq ≤ k) ∧ Aside0 (Below w.heap.size w w'))
  case atStart => exact ⟨((-1)), (0), (0), (by first | rfl | (simp; done) | (simp [*]; done)), (by first | rfl | (simp; done) | (simp [*]; done)), (by first | rfl | (simp; done) | (simp [*]; done)), H', ⟨Nat.le_refl _⟩, ⟨by repeat first | exact HB.out | apply below_alloc | apply pw_below_drewN | apply below_drew1⟩⟩
  case round =>
    clear H'
    try clear c1
    try clear p2
    obtain ⟨x8_1, x9_1, x10_1, rfl, rfl, rfl, HA, HK1, HB⟩ := hrel
    cases gk with
    | zero => exact absurd HA.out (by simp [spec_l07Choose.l0])
    | succ k1 =>
      have H := HA.out
      clear HA
      simp only [spec_l07Choose.l0] at H
      by_cases c4 : x10_1 < (l0.length : Int)
      · rw [if_pos c4] at H
        have c4b0 : decide (x10_1 < (l0.length : Int)) = true := decide_eq_true c4
        clear c4
        by_cases c5 : 0 ≤ x10_1
        · rw [if_pos c5] at H
          have c5b0 : decide (0 ≤ x10_1) = true := decide_eq_true c5
          clear c5
          replace H := Option.bind_eq_some_iff.mp H
          obtain ⟨t797, A60, H⟩ := H
          replace H : (if t797 > x8_1 then (spec_l07Choose.l0 k1 l0 a1 a2 t797 ((rd_T134 l0 x10_1).f0) (wrap64 (x10_1 + 1))) else (spec_l07Choose.l0 k1 l0 a1 a2 x8_1 x9_1 (wrap64 (x10_1 + 1)))) = some (r1, r2) := H
          have A6 := Aside0.mk A60
          clear A60
          by_cases c7 : t797 > x8_1
          · rw [if_pos c7] at H
            have c7b0 : decide (x8_1 < t797) = true := decide_eq_true c7
            clear c7
            have H' := Aside0.mk H
            clear H
            have p796 : 0 ≤ (x10_1 : Int) := of_decide_eq_true (by assumption)
            have q796 : x10_1 < (l0.length : Int) := of_decide_eq_true (by assumption)
            obtain ⟨ad796, e796, hx796_0, hx796_1⟩ := at_T134 HR0.out x10_1 p796 q796
            cases e796
            replace hx796_0 := (HB.out.cell (World.block_lt_of_cell? w _ hx796_0)).trans hx796_0
            replace hx796_1 := (HB.out.cell (World.block_lt_of_cell? w _ hx796_1)).trans hx796_1
            replace p796 := eq_true p796
            replace q796 := eq_true q796
            go_wp2_with (first | ((with_reducible refine gate_callee (f := 141) rfl ?_); refine goesL_ (some 24) rfl rfl Try.func141 (by kernel_rfl) rfl #[.agg #[.int .i64 ((rd_T134 l0 x10_1).f0), .int .i64 ((rd_T134 l0 x10_1).f1)], .int .i64 a1, .int .i64 a2] rfl (by (try simp only [List.map_toArray, List.map_cons, List.map_nil]); first | done | rfl | (simp only [List.length_drop, List.length_take]; rfl)) ?_; (with_reducible refine (spec_l07Best.calls k1 ((rd_T134 l0 x10_1).f0) ((rd_T134 l0 x10_1).f1) a1 a2 t797 _ A6.out).mono ?_); rintro e w8 ⟨rfl, hb⟩; refine ⟨_, rfl, ?_⟩; have n0_ := Aside0.mk (below_step (by repeat first | exact HB.out | apply below_alloc | apply pw_below_drewN | apply below_drew1) hb); clear HB; have HB := n0_; clear n0_; (try clear hb); (try clear hb2); (try clear hk); (try clear hi); have p798 : 0 ≤ (x10_1 : Int) := of_decide_eq_true (by assumption); have q798 : x10_1 < (l0.length : Int) := of_decide_eq_true (by assumption); obtain ⟨ad798, e798, hx798_0, hx798_1⟩ := at_T134 HR0.out x10_1 p798 q798; obtain rfl : ad796 = ad798 := (by injection e798); replace hx798_0 := (HB.out.cell (World.block_lt_of_cell? w _ hx798_0)).trans hx798_0; replace hx798_1 := (HB.out.cell (World.block_lt_of_cell? w _ hx798_1)).trans hx798_1; replace p798 := eq_true p798; replace q798 := eq_true q798))
            go_roundg k1
            case measure => have := HK1.out; omega
            case rel => exact ⟨(t797), ((rd_T134 l0 x10_1).f0), (wrap64 (x10_1 + 1)), (by first | rfl | (simp; done) | (simp [*]; done)), (by first | rfl | (simp; done) | (simp [*]; done)), (by first | rfl | (simp; done) | (simp [*]; done)), H', ⟨by have := HK1.out; omega⟩, ⟨by repeat first | exact HB.out | apply below_alloc | apply pw_below_drewN | apply below_drew1⟩⟩
          · rw [if_neg c7] at H
            have c7b0 : decide (x8_1 < t797) = false := decide_eq_false c7
            clear c7
            have H' := Aside0.mk H
            clear H
            have p796 : 0 ≤ (x10_1 : Int) := of_decide_eq_true (by assumption)
            have q796 : x10_1 < (l0.length : Int) := of_decide_eq_true (by assumption)
            obtain ⟨ad796, e796, hx796_0, hx796_1⟩ := at_T134 HR0.out x10_1 p796 q796
            cases e796
            replace hx796_0 := (HB.out.cell (World.block_lt_of_cell? w _ hx796_0)).trans hx796_0
            replace hx796_1 := (HB.out.cell (World.block_lt_of_cell? w _ hx796_1)).trans hx796_1
            replace p796 := eq_true p796
            replace q796 := eq_true q796
            go_wp2_with (first | ((with_reducible refine gate_callee (f := 141) rfl ?_); refine goesL_ (some 24) rfl rfl Try.func141 (by kernel_rfl) rfl #[.agg #[.int .i64 ((rd_T134 l0 x10_1).f0), .int .i64 ((rd_T134 l0 x10_1).f1)], .int .i64 a1, .int .i64 a2] rfl (by (try simp only [List.map_toArray, List.map_cons, List.map_nil]); first | done | rfl | (simp only [List.length_drop, List.length_take]; rfl)) ?_; (with_reducible refine (spec_l07Best.calls k1 ((rd_T134 l0 x10_1).f0) ((rd_T134 l0 x10_1).f1) a1 a2 t797 _ A6.out).mono ?_); rintro e w9 ⟨rfl, hb⟩; refine ⟨_, rfl, ?_⟩; have n0_ := Aside0.mk (below_step (by repeat first | exact HB.out | apply below_alloc | apply pw_below_drewN | apply below_drew1) hb); clear HB; have HB := n0_; clear n0_; (try clear hb); (try clear hb2); (try clear hk); (try clear hi)))
            go_roundg k1
            case measure => have := HK1.out; omega
            case rel => exact ⟨(x8_1), (x9_1), (wrap64 (x10_1 + 1)), (by first | rfl | (simp; done) | (simp [*]; done)), (by first | rfl | (simp; done) | (simp [*]; done)), (by first | rfl | (simp; done) | (simp [*]; done)), H', ⟨by have := HK1.out; omega⟩, ⟨by repeat first | exact HB.out | apply below_alloc | apply pw_below_drewN | apply below_drew1⟩⟩
        · rw [if_neg c5] at H
          exact absurd H (by simp)
      · rw [if_neg c4] at H
        have c4b0 : decide (x10_1 < (l0.length : Int)) = false := decide_eq_false c4
        clear c4
        simp only [Option.some.injEq, Prod.mk.injEq] at H
        obtain ⟨rfl, rfl⟩ := H
        go_wp2
        go_ret2
        exact ⟨by first | rfl | (simp [*, errW_none, errW_some] <;> rfl), by repeat first | exact HB.out | apply below_alloc | apply pw_below_drewN | apply below_drew1⟩

end Go.Proofs.Ytkadeelplnkpgaa.Q
