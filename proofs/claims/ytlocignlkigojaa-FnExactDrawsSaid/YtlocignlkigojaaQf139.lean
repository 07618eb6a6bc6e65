/- Walks of the Go functions that the laws call: each returns what a plain Lean function says. Written by a program for these claims. -/
import Derived.Test.YtlocignlkigojaaQ0
import Derived.Test.YtlocignlkigojaaQf83
namespace Go.Proofs.Ytlocignlkigojaa.Q
open Go.RowKit Go.Proofs.YtlocignlkigojaaW.PrintWords Go.Proofs.YtlocignlkigojaaW.PrintLast Go.Proofs.YtlocignlkigojaaW.PrintMore
attribute [local go_sem] max2_int min2_int max_two min_two max_three min_three max_four min_four   -- for this text's walks alone
set_option linter.unusedVariables false
set_option linter.unusedSimpArgs false

/-! ### spec_l07Choose: function 139 -/
def spec_l07Choose.l0 : Nat → List (S26) → Int → Int → Int → Int → Int → Option (Int × Bool)
  | 0, _, _, _, _, _, _ => none
  | k + 1, x0, x1, x2, x8, x9, x10 => if x10 < (x0.length : Int) then (if 0 ≤ x10 then ((spec_l07Best.f k ((rd_T26 x0 x10).f0) ((rd_T26 x0 x10).f1) x1 x2).bind fun t859 => (if t859 > x8 then (spec_l07Choose.l0 k x0 x1 x2 t859 ((rd_T26 x0 x10).f0) (wrap64 (x10 + 1))) else (spec_l07Choose.l0 k x0 x1 x2 x8 x9 (wrap64 (x10 + 1))))) else (none)) else (some (x9, decide (x8 ≥ 0)))
def spec_l07Choose.f (k : Nat) (l0 : List (S26)) (a1 : Int) (a2 : Int) : Option (Int × Bool) := spec_l07Choose.l0 k l0 a1 a2 (-1) 0 0
theorem spec_l07Choose.mono_l : ∀ k, (∀ y0 y1 y2 y3 y4 y5, LeO (spec_l07Choose.l0 k y0 y1 y2 y3 y4 y5) (spec_l07Choose.l0 (k + 1) y0 y1 y2 y3 y4 y5))
  | 0 => fun _ _ _ _ _ _ r h => by simp [spec_l07Choose.l0] at h
  | k + 1 => by
    have ih0 := spec_l07Choose.mono_l k
    · intro y0 y1 y2 y3 y4 y5
      unfold spec_l07Choose.l0
      repeat' first
      | (with_reducible exact ih0 _ _ _ _ _ _)
      | (with_reducible exact spec_l07Best.mono _ _ _ _ _)
      | (with_reducible exact LeO.refl _)
      | (with_reducible exact LeO.none _)
      | (with_reducible refine LeO.ite ?_ ?_)
      | (with_reducible refine LeO.bind ?_ (fun _ => ?_))
      | exact ih0 _ _ _ _ _ _
      | exact spec_l07Best.mono _ _ _ _ _
      | exact LeO.none _
      | refine LeO.ite ?_ ?_
      | refine LeO.bind ?_ (fun _ => ?_)
theorem spec_l07Choose.mono : ∀ a0 a1 a2 k, LeO (spec_l07Choose.f k a0 a1 a2) (spec_l07Choose.f (k + 1) a0 a1 a2) := by
  intro a0 a1 a2 k
  have ih0 := spec_l07Choose.mono_l k
  unfold spec_l07Choose.f
  repeat' first
      | (with_reducible exact ih0 _ _ _ _ _ _)
      | (with_reducible exact spec_l07Best.mono _ _ _ _ _)
      | (with_reducible exact LeO.refl _)
      | (with_reducible exact LeO.none _)
      | (with_reducible refine LeO.ite ?_ ?_)
      | (with_reducible refine LeO.bind ?_ (fun _ => ?_))
      | exact ih0 _ _ _ _ _ _
      | exact spec_l07Best.mono _ _ _ _ _
      | exact LeO.none _
      | refine LeO.ite ?_ ?_
      | refine LeO.bind ?_ (fun _ => ?_)
set_option maxHeartbeats 8000000 in
set_option maxRecDepth 100000 in
theorem spec_l07Choose.calls (k : Nat) (A0 : Option Addr) (c0 : Nat) (l0 : List (S26)) (a1 : Int) (a2 : Int) (r1 : Int) (r2 : Bool) (w : World) (hr0 : Kd.C k26 w A0 l0.length l0) (hc0 : l0.length ≤ c0) (h : spec_l07Choose.f k l0 a1 a2 = some (r1, r2)) :
    Calls Try.prog 139 #[.slice A0 l0.length c0, .int .i64 a1, .int .i64 a2] w fun e w' => e = .returned (.tuple #[.int .i64 r1, .bool r2]) ∧ Below w.heap.size w w' := by
  have hu26 := Try.underlying26
  have HR0 := Aside0.mk hr0
  have HC0 := Aside0.mk hc0
  clear hr0 hc0
  have HB := Aside0.mk (Below.refl w.heap.size w)
  have H : (spec_l07Choose.l0 k l0 a1 a2 (-1) 0 0) = some (r1, r2) := h
  clear h
  have H' := Aside0.mk H
  clear H
  go_enter Try.func139, Try.ntmps139
  go_wp2
  go_loopg [8, 9, 10] k (fun kq v8 v9 v10 w' => ∃ (x8_1 : Int) (x9_1 : Int) (x10_1 : Int), v8 = .int .i64 x8_1 ∧ v9 = .int .i64 x9_1 ∧ v10 = .int .i64 x10_1 ∧ Aside0 (spec_l07Choose.l0 kq l0 a1 a2 x8_1 x9_1 x10_1 = some (r1, r2)) ∧ Aside0 (kq ≤ k) ∧ Aside0 (Below w.heap.size w w'))
  case atStart => exact ⟨((-1)), (0), (0), (by first | rfl | (simp; done) | (simp [*]; done)), (by first | rfl | (simp; done) | (simp [*]; done)), (by first | rfl | (simp; done) | (simp [*]; done)), H', ⟨Nat.le_refl _⟩, ⟨by repeat (first | (with_reducible first | exact HB.out | apply below_alloc | apply pw_below_drewN | apply below_drew1) | exact HB.out)⟩⟩
  case round =>
    clear H'
    try clear c1
    try clear p2
    obtain ⟨x8_1, x9_1, x10_1, rfl, rfl, rfl, HA, HK1, HB⟩ := hrel
    cases gk with
    | zero => exact absurd HA.out (by simp [spec_l07Choose.l0])
    | succ k1 =>
      have H := HA.out
      clear HA
      simp only [spec_l07Choose.l0] at H
      by_cases c4 : x10_1 < (l0.length : Int)
      · rw [if_pos c4] at H
        have c4b0 : decide (x10_1 < (l0.length : Int)) = true := decide_eq_true c4
        clear c4
        by_cases c5 : 0 ≤ x10_1
        · rw [if_pos c5] at H
          have c5b0 : decide (0 ≤ x10_1) = true := decide_eq_true c5
          clear c5
          replace H := Option.bind_eq_some_iff.mp H
          obtain ⟨t859, A60, H⟩ := H
          replace H : (if t859 > x8_1 then (spec_l07Choose.l0 k1 l0 a1 a2 t859 ((rd_T26 l0 x10_1).f0) (wrap64 (x10_1 + 1))) else (spec_l07Choose.l0 k1 l0 a1 a2 x8_1 x9_1 (wrap64 (x10_1 + 1)))) = some (r1, r2) := H
          have A6 := Aside0.mk A60
          clear A60
          by_cases c7 : t859 > x8_1
          · rw [if_pos c7] at H
            have c7b0 : decide (x8_1 < t859) = true := decide_eq_true c7
            clear c7
            have H' := Aside0.mk H
            clear H
            have p858 : 0 ≤ (x10_1 : Int) := of_decide_eq_true (by first | (with_reducible assumption) | assumption)
            have q858 : x10_1 < (l0.length : Int) := of_decide_eq_true (by first | (with_reducible assumption) | assumption)
            obtain ⟨ad858, e858, hx858_0, hx858_1⟩ := at_T26 HR0.out x10_1 p858 q858
            cases e858
            replace hx858_0 := (HB.out.cell (World.block_lt_of_cell? w _ hx858_0)).trans hx858_0
            replace hx858_1 := (HB.out.cell (World.block_lt_of_cell? w _ hx858_1)).trans hx858_1
            replace p858 := eq_true p858
            replace q858 := eq_true q858
            go_wp2_with (first | ((with_reducible refine gate_callee (f := 83) rfl ?_); refine goesL_ (some 24) rfl rfl Try.func83 (by kernel_rfl) rfl #[.agg #[.int .i64 ((rd_T26 l0 x10_1).f0), .int .i64 ((rd_T26 l0 x10_1).f1)], .int .i64 a1, .int .i64 a2] rfl (by (try simp only [List.map_toArray, List.map_cons, List.map_nil]); first | done | rfl | (simp only [List.length_drop, List.length_take]; rfl)) ?_; (with_reducible refine (spec_l07Best.calls k1 ((rd_T26 l0 x10_1).f0) ((rd_T26 l0 x10_1).f1) a1 a2 t859 _ A6.out).mono ?_); rintro e w8 ⟨rfl, hb⟩; refine ⟨_, rfl, ?_⟩; have n0_ := Aside0.mk (below_step (by repeat (first | (with_reducible first | exact HB.out | apply below_alloc | apply pw_below_drewN | apply below_drew1) | exact HB.out)) hb); clear HB; have HB := n0_; clear n0_; (try clear hb); (try clear hb2); (try clear hk); (try clear hi); have p860 : 0 ≤ (x10_1 : Int) := of_decide_eq_true (by first | (with_reducible assumption) | assumption); have q860 : x10_1 < (l0.length : Int) := of_decide_eq_true (by first | (with_reducible assumption) | assumption); obtain ⟨ad860, e860, hx860_0, hx860_1⟩ := at_T26 HR0.out x10_1 p860 q860; obtain rfl : ad858 = ad860 := (by injection e860); replace hx860_0 := (HB.out.cell (World.block_lt_of_cell? w _ hx860_0)).trans hx860_0; replace hx860_1 := (HB.out.cell (World.block_lt_of_cell? w _ hx860_1)).trans hx860_1; replace p860 := eq_true p860; replace q860 := eq_true q860))
            go_roundg k1
            case measure => have := HK1.out; omega
            case rel => exact ⟨(t859), ((rd_T26 l0 x10_1).f0), (wrap64 (x10_1 + 1)), (by first | rfl | (simp; done) | (simp [*]; done)), (by first | rfl | (simp; done) | (simp [*]; done)), (by first | rfl | (simp; done) | (simp [*]; done)), H', ⟨by have := HK1.out; omega⟩, ⟨by repeat (first | (with_reducible first | exact HB.out | apply below_alloc | apply pw_below_drewN | apply below_drew1) | exact HB.out)⟩⟩
          · rw [if_neg c7] at H
            have c7b0 : decide (x8_1 < t859) = false := decide_eq_false c7
            clear c7
            have H' := Aside0.mk H
            clear H
            have p858 : 0 ≤ (x10_1 : Int) := of_decide_eq_true (by first | (with_reducible assumption) | assumption)
            have q858 : x10_1 < (l0.length : Int) := of_decide_eq_true (by first | (with_reducible assumption) | assumption)
            obtain ⟨ad858, e858, hx858_0, hx858_1⟩ := at_T26 HR0.out x10_1 p858 q858
            cases e858
            replace hx858_0 := (HB.out.cell (World.block_lt_of_cell? w _ hx858_0)).trans hx858_0
            replace hx858_1 := (HB.out.cell (World.block_lt_of_cell? w _ hx858_1)).trans hx858_1
            replace p858 := eq_true p858
            replace q858 := eq_true q858
            go_wp2_with (first | ((with_reducible refine gate_callee (f := 83) rfl ?_); refine goesL_ (some 24) rfl rfl Try.func83 (by kernel_rfl) rfl #[.agg #[.int .i64 ((rd_T26 l0 x10_1).f0), .int .i64 ((rd_T26 l0 x10_1).f1)], .int .i64 a1, .int .i64 a2] rfl (by (try simp only [List.map_toArray, List.map_cons, List.map_nil]); first | done | rfl | (simp only [List.length_drop, List.length_take]; rfl)) ?_; (with_reducible refine (spec_l07Best.calls k1 ((rd_T26 l0 x10_1).f0) ((rd_T26 l0 x10_1).f1) a1 a2 t859 _ A6.out).mono ?_); rintro e w9 ⟨rfl, hb⟩; refine ⟨_, rfl, ?_⟩; have n0_ := Aside0.mk (below_step (by repeat (first | (with_reducible first | exact HB.out | apply below_alloc | apply pw_below_drewN | apply below_drew1) | exact HB.out)) hb); clear HB; have HB := n0_; clear n0_; (try clear hb); (try clear hb2); (try clear hk); (try clear hi)))
            go_roundg k1
            case measure => have := HK1.out; omega
            case rel => exact ⟨(x8_1), (x9_1), (wrap64 (x10_1 + 1)), (by first | rfl | (simp; done) | (simp [*]; done)), (by first | rfl | (simp; done) | (simp [*]; done)), (by first | rfl | (simp; done) | (simp [*]; done)), H', ⟨by have := HK1.out; omega⟩, ⟨by repeat (first | (with_reducible first | exact HB.out | apply below_alloc | apply pw_below_drewN | apply below_drew1) | exact HB.out)⟩⟩
        · rw [if_neg c5] at H
          exact absurd H (by simp)
      · rw [if_neg c4] at H
        have c4b0 : decide (x10_1 < (l0.length : Int)) = false := decide_eq_false c4
        clear c4
        simp only [Option.some.injEq, Prod.mk.injEq] at H
        obtain ⟨rfl, rfl⟩ := H
        go_wp2
        go_ret2
        exact ⟨by first | rfl | (simp [errW_none, errW_some] <;> rfl) | (simp [*, errW_none, errW_some] <;> rfl), by repeat (first | (with_reducible first | exact HB.out | apply below_alloc | apply pw_below_drewN | apply below_drew1) | exact HB.out)⟩

end Go.Proofs.Ytlocignlkigojaa.Q
