/- Walks of the Go functions that the laws call: each returns what a plain Lean function says. Written by a program for these claims. -/
import Derived.Test.YtlocignlkigojaaQ0
import Derived.Test.YtlocignlkigojaaQe0
namespace Go.Proofs.Ytlocignlkigojaa.Q
open Go.RowKit Go.Proofs.YtlocignlkigojaaW.PrintWords Go.Proofs.YtlocignlkigojaaW.PrintLast Go.Proofs.YtlocignlkigojaaW.PrintMore
attribute [local go_sem] max2_int min2_int max_two min_two max_three min_three max_four min_four   -- for this text's walks alone
set_option linter.unusedVariables false
set_option linter.unusedSimpArgs false

attribute [local go_sem high] eqA54
/-! ### spec_l10Known: function 160 -/
def spec_l10Known.l0 : Nat → List (S144) → Int → Int → Int → Int → Option (Bool)
  | 0, _, _, _, _, _ => none
  | k + 1, x0, x2, x7, x666000, x666001 => if x7 < (x0.length : Int) then (if 0 ≤ x7 then (if (((rd_T144 x0 x7).f0.f0) == x666000 && (((rd_T144 x0 x7).f0.f1) == x666001)) = true then (if ((rd_T144 x0 x7).f1) = x2 then (some true) else (spec_l10Known.l0 k x0 x2 (wrap64 (x7 + 1)) x666000 x666001)) else (spec_l10Known.l0 k x0 x2 (wrap64 (x7 + 1)) x666000 x666001)) else (none)) else (some false)
def spec_l10Known.f (k : Nat) (l0 : List (S144)) (a1_0 : Int) (a1_1 : Int) (a2 : Int) : Option (Bool) := spec_l10Known.l0 k l0 a2 0 a1_0 a1_1
theorem spec_l10Known.mono_l : ∀ k, (∀ y0 y1 y2 y3 y4, LeO (spec_l10Known.l0 k y0 y1 y2 y3 y4) (spec_l10Known.l0 (k + 1) y0 y1 y2 y3 y4))
  | 0 => fun _ _ _ _ _ r h => by simp [spec_l10Known.l0] at h
  | k + 1 => by
    have ih0 := spec_l10Known.mono_l k
    · intro y0 y1 y2 y3 y4
      unfold spec_l10Known.l0
      repeat' first
      | (with_reducible exact ih0 _ _ _ _ _)
      | (with_reducible exact LeO.refl _)
      | (with_reducible exact LeO.none _)
      | (with_reducible refine LeO.ite ?_ ?_)
      | (with_reducible refine LeO.bind ?_ (fun _ => ?_))
      | exact ih0 _ _ _ _ _
      | exact LeO.none _
      | refine LeO.ite ?_ ?_
      | refine LeO.bind ?_ (fun _ => ?_)
theorem spec_l10Known.mono : ∀ a0 a1 a2 a3 k, LeO (spec_l10Known.f k a0 a1 a2 a3) (spec_l10Known.f (k + 1) a0 a1 a2 a3) := by
  intro a0 a1 a2 a3 k
  have ih0 := spec_l10Known.mono_l k
  unfold spec_l10Known.f
  repeat' first
      | (with_reducible exact ih0 _ _ _ _ _)
      | (with_reducible exact LeO.refl _)
      | (with_reducible exact LeO.none _)
      | (with_reducible refine LeO.ite ?_ ?_)
      | (with_reducible refine LeO.bind ?_ (fun _ => ?_))
      | exact ih0 _ _ _ _ _
      | exact LeO.none _
      | refine LeO.ite ?_ ?_
      | refine LeO.bind ?_ (fun _ => ?_)
set_option maxHeartbeats 8000000 in
set_option maxRecDepth 100000 in
theorem spec_l10Known.calls (k : Nat) (A0 : Option Addr) (c0 : Nat) (l0 : List (S144)) (a1_0 : Int) (a1_1 : Int) (a2 : Int) (r : Bool) (w : World) (hr0 : Kd.C k144 w A0 l0.length l0) (hc0 : l0.length ≤ c0) (h : spec_l10Known.f k l0 a1_0 a1_1 a2 = some r) :
    Calls Try.prog 160 #[.slice A0 l0.length c0, .agg #[.int .i64 a1_0, .int .i64 a1_1], .int .i64 a2] w fun e w' => e = .returned (.bool r) ∧ Below w.heap.size w w' := by
  have hu54 := Try.underlying54
  have HR0 := Aside0.mk hr0
  have HC0 := Aside0.mk hc0
  clear hr0 hc0
  have HB := Aside0.mk (Below.refl w.heap.size w)
  have H : (spec_l10Known.l0 k l0 a2 0 a1_0 a1_1) = some r := h
  clear h
  have H' := Aside0.mk H
  clear H
  go_enter Try.func160, Try.ntmps160
  go_wp2_with (first | ((with_reducible refine gate_dst (N := 4) rfl ?_); refine box_event ?hg (N := 4) ?hd (cs := #[.int .i64 a1_0, .int .i64 a1_1]) (t := 54) ?hr ?_; (case hd => rfl); (case hg => rfl); (case hr => first | (go_simp; done) | (go_simp; rfl)); intro gb665 hg w4 hbox hb; have n0_ := Aside0.mk (below_step (by repeat (first | (with_reducible first | exact HB.out | apply below_alloc | apply pw_below_drewN | apply below_drew1) | exact HB.out)) hb); have n1_ := Aside0.mk (hbox); have n2_ := Aside0.mk ((by rw [hg]; exact (below_size (by repeat (first | (with_reducible first | exact HB.out | apply below_alloc | apply pw_below_drewN | apply below_drew1) | exact HB.out))) : w.heap.size ≤ gb665)); have n3_ := Aside0.mk ((by rw [hg]; exact (below_size (by repeat (first | (with_reducible first | exact HB.out | apply below_alloc | apply pw_below_drewN | apply below_drew1) | exact HB.out))) : w.heap.size ≤ gb665)); clear HB; have HB := n0_; have BK665 := n1_; have GW665 := n2_; have GE665 := n3_; clear n0_ n1_ n2_ n3_; clear hb hbox hg))
  repeat (go_quiet (first | ((with_reducible refine gate_dst (N := 4) rfl ?_); refine box_event ?hg (N := 4) ?hd (cs := #[.int .i64 a1_0, .int .i64 a1_1]) (t := 54) ?hr ?_; (case hd => rfl); (case hg => rfl); (case hr => first | (go_simp; done) | (go_simp; rfl)); intro gb665 hg w4 hbox hb; have n0_ := Aside0.mk (below_step (by repeat (first | (with_reducible first | exact HB.out | apply below_alloc | apply pw_below_drewN | apply below_drew1) | exact HB.out)) hb); have n1_ := Aside0.mk (hbox); have n2_ := Aside0.mk ((by rw [hg]; exact (below_size (by repeat (first | (with_reducible first | exact HB.out | apply below_alloc | apply pw_below_drewN | apply below_drew1) | exact HB.out))) : w.heap.size ≤ gb665)); have n3_ := Aside0.mk ((by rw [hg]; exact (below_size (by repeat (first | (with_reducible first | exact HB.out | apply below_alloc | apply pw_below_drewN | apply below_drew1) | exact HB.out))) : w.heap.size ≤ gb665)); clear HB; have HB := n0_; have BK665 := n1_; have GW665 := n2_; have GE665 := n3_; clear n0_ n1_ n2_ n3_; clear hb hbox hg)); try go_wp2_with (first | ((with_reducible refine gate_dst (N := 4) rfl ?_); refine box_event ?hg (N := 4) ?hd (cs := #[.int .i64 a1_0, .int .i64 a1_1]) (t := 54) ?hr ?_; (case hd => rfl); (case hg => rfl); (case hr => first | (go_simp; done) | (go_simp; rfl)); intro gb665 hg w4 hbox hb; have n0_ := Aside0.mk (below_step (by repeat (first | (with_reducible first | exact HB.out | apply below_alloc | apply pw_below_drewN | apply below_drew1) | exact HB.out)) hb); have n1_ := Aside0.mk (hbox); have n2_ := Aside0.mk ((by rw [hg]; exact (below_size (by repeat (first | (with_reducible first | exact HB.out | apply below_alloc | apply pw_below_drewN | apply below_drew1) | exact HB.out))) : w.heap.size ≤ gb665)); have n3_ := Aside0.mk ((by rw [hg]; exact (below_size (by repeat (first | (with_reducible first | exact HB.out | apply below_alloc | apply pw_below_drewN | apply below_drew1) | exact HB.out))) : w.heap.size ≤ gb665)); clear HB; have HB := n0_; have BK665 := n1_; have GW665 := n2_; have GE665 := n3_; clear n0_ n1_ n2_ n3_; clear hb hbox hg)))
  go_loopg [7] k (fun kq v7 w' => ∃ (x7_1 : Int), v7 = .int .i64 x7_1 ∧ Aside0 (spec_l10Known.l0 kq l0 a2 x7_1 a1_0 a1_1 = some r) ∧ Aside0 (kq ≤ k) ∧ Aside0 (w'.heap[gb665]? = some (.cells #[.int .i64 a1_0, .int .i64 a1_1] 54 (0, 0))) ∧ Aside0 (Below w.heap.size w w'))
  case atStart => exact ⟨(0), (by first | rfl | (simp; done) | (simp [*]; done)), H', ⟨Nat.le_refl _⟩, ⟨by (with_reducible repeat (first | refine blk_drewN ?_ _ | refine blk_drew ?_ | refine blk_alloc ?_ _)); exact BK665.out⟩, ⟨by repeat (first | (with_reducible first | exact HB.out | apply below_alloc | apply pw_below_drewN | apply below_drew1 | refine below_set ?_ GE665.out) | exact HB.out)⟩⟩
  case round =>
    clear H'
    try clear c1
    try clear p2
    obtain ⟨x7_1, rfl, HA, HK1, BK665, HB⟩ := hrel
    cases gk with
    | zero => exact absurd HA.out (by simp [spec_l10Known.l0])
    | succ k1 =>
      have H := HA.out
      clear HA
      simp only [spec_l10Known.l0] at H
      by_cases c5 : x7_1 < (l0.length : Int)
      · rw [if_pos c5] at H
        have c5b0 : decide (x7_1 < (l0.length : Int)) = true := decide_eq_true c5
        clear c5
        by_cases c6 : 0 ≤ x7_1
        · rw [if_pos c6] at H
          have c6b0 : decide (0 ≤ x7_1) = true := decide_eq_true c6
          clear c6
          by_cases c7 : (((rd_T144 l0 x7_1).f0.f0) == a1_0 && (((rd_T144 l0 x7_1).f0.f1) == a1_1)) = true
          · rw [if_pos c7] at H
            have c7b0 : (((rd_T144 l0 x7_1).f0.f0) == a1_0 && (((rd_T144 l0 x7_1).f0.f1) == a1_1)) = true := c7
            (try (have c7b1 : decide (((rd_T144 l0 x7_1).f0.f0) = a1_0 && (((rd_T144 l0 x7_1).f0.f1) == a1_1)) = true := by simpa using c7))
            (try (have c7b2 : (((rd_T144 l0 x7_1).f0.f0) == a1_0 && (((rd_T144 l0 x7_1).f0.f1) == a1_1)) = true := by simpa using c7))
            clear c7
            by_cases c8 : ((rd_T144 l0 x7_1).f1) = a2
            · rw [if_pos c8] at H
              have c8b0 : (((rd_T144 l0 x7_1).f1) == a2) = true := beq_iff_eq.mpr c8
              have c8b1 : (((rd_T144 l0 x7_1).f1) != a2) = false := bne_eq_false_iff_eq.mpr c8
              clear c8
              obtain rfl := Option.some.inj H
              have p666 : 0 ≤ (x7_1 : Int) := of_decide_eq_true (by first | (with_reducible assumption) | assumption)
              have q666 : x7_1 < (l0.length : Int) := of_decide_eq_true (by first | (with_reducible assumption) | assumption)
              obtain ⟨ad666, e666, hx666_0, hx666_1, hx666_2, hx666_3⟩ := at_T144 HR0.out x7_1 p666 q666
              cases e666
              replace hx666_0 := (HB.out.cell (World.block_lt_of_cell? w _ hx666_0)).trans hx666_0
              replace hx666_1 := (HB.out.cell (World.block_lt_of_cell? w _ hx666_1)).trans hx666_1
              replace hx666_2 := (HB.out.cell (World.block_lt_of_cell? w _ hx666_2)).trans hx666_2
              replace hx666_3 := (HB.out.cell (World.block_lt_of_cell? w _ hx666_3)).trans hx666_3
              replace p666 := eq_true p666
              replace q666 := eq_true q666
              have hcz9_0 : wr.cell? ⟨gb665, 0, none⟩ = some (.int .i64 a1_0) := (blk_cell BK665.out 0).trans rfl
              have hcz9_1 : wr.cell? ⟨gb665, 1, none⟩ = some (.int .i64 a1_1) := (blk_cell BK665.out 1).trans rfl
              have hfz9_0 := blk_frozen BK665.out 0
              have hfz9_1 := blk_frozen BK665.out 1
              have p667 : 0 ≤ (x7_1 : Int) := of_decide_eq_true (by first | (with_reducible assumption) | assumption)
              have q667 : x7_1 < (l0.length : Int) := of_decide_eq_true (by first | (with_reducible assumption) | assumption)
              obtain ⟨ad667, e667, hx667_0, hx667_1, hx667_2, hx667_3⟩ := at_T144 HR0.out x7_1 p667 q667
              obtain rfl : ad666 = ad667 := (by injection e667)
              replace hx667_0 := (HB.out.cell (World.block_lt_of_cell? w _ hx667_0)).trans hx667_0
              replace hx667_1 := (HB.out.cell (World.block_lt_of_cell? w _ hx667_1)).trans hx667_1
              replace hx667_2 := (HB.out.cell (World.block_lt_of_cell? w _ hx667_2)).trans hx667_2
              replace hx667_3 := (HB.out.cell (World.block_lt_of_cell? w _ hx667_3)).trans hx667_3
              replace p667 := eq_true p667
              replace q667 := eq_true q667
              go_wp2
              repeat (go_quiet (fail); try go_wp2)
              go_ret
              exact ⟨by first | rfl | (simp [errW_none, errW_some] <;> rfl) | (simp [*, errW_none, errW_some] <;> rfl), by repeat (first | (with_reducible first | exact HB.out | apply below_alloc | apply pw_below_drewN | apply below_drew1 | refine below_set ?_ GE665.out) | exact HB.out)⟩
            · rw [if_neg c8] at H
              have c8b0 : (((rd_T144 l0 x7_1).f1) == a2) = false := beq_eq_false_iff_ne.mpr c8
              have c8b1 : (((rd_T144 l0 x7_1).f1) != a2) = true := bne_iff_ne.mpr c8
              have H' := Aside0.mk H
              clear H
              have p666 : 0 ≤ (x7_1 : Int) := of_decide_eq_true (by first | (with_reducible assumption) | assumption)
              have q666 : x7_1 < (l0.length : Int) := of_decide_eq_true (by first | (with_reducible assumption) | assumption)
              obtain ⟨ad666, e666, hx666_0, hx666_1, hx666_2, hx666_3⟩ := at_T144 HR0.out x7_1 p666 q666
              cases e666
              replace hx666_0 := (HB.out.cell (World.block_lt_of_cell? w _ hx666_0)).trans hx666_0
              replace hx666_1 := (HB.out.cell (World.block_lt_of_cell? w _ hx666_1)).trans hx666_1
              replace hx666_2 := (HB.out.cell (World.block_lt_of_cell? w _ hx666_2)).trans hx666_2
              replace hx666_3 := (HB.out.cell (World.block_lt_of_cell? w _ hx666_3)).trans hx666_3
              replace p666 := eq_true p666
              replace q666 := eq_true q666
              have hcz10_0 : wr.cell? ⟨gb665, 0, none⟩ = some (.int .i64 a1_0) := (blk_cell BK665.out 0).trans rfl
              have hcz10_1 : wr.cell? ⟨gb665, 1, none⟩ = some (.int .i64 a1_1) := (blk_cell BK665.out 1).trans rfl
              have hfz10_0 := blk_frozen BK665.out 0
              have hfz10_1 := blk_frozen BK665.out 1
              have p667 : 0 ≤ (x7_1 : Int) := of_decide_eq_true (by first | (with_reducible assumption) | assumption)
              have q667 : x7_1 < (l0.length : Int) := of_decide_eq_true (by first | (with_reducible assumption) | assumption)
              obtain ⟨ad667, e667, hx667_0, hx667_1, hx667_2, hx667_3⟩ := at_T144 HR0.out x7_1 p667 q667
              obtain rfl : ad666 = ad667 := (by injection e667)
              replace hx667_0 := (HB.out.cell (World.block_lt_of_cell? w _ hx667_0)).trans hx667_0
              replace hx667_1 := (HB.out.cell (World.block_lt_of_cell? w _ hx667_1)).trans hx667_1
              replace hx667_2 := (HB.out.cell (World.block_lt_of_cell? w _ hx667_2)).trans hx667_2
              replace hx667_3 := (HB.out.cell (World.block_lt_of_cell? w _ hx667_3)).trans hx667_3
              replace p667 := eq_true p667
              replace q667 := eq_true q667
              go_wp2
              repeat (go_quiet (fail); try go_wp2)
              go_roundg k1
              case measure => have := HK1.out; omega
              case rel => exact ⟨(wrap64 (x7_1 + 1)), (by first | rfl | (simp; done) | (simp [*]; done)), H', ⟨by have := HK1.out; omega⟩, ⟨by (with_reducible repeat (first | refine blk_drewN ?_ _ | refine blk_drew ?_ | refine blk_alloc ?_ _)); exact BK665.out⟩, ⟨by repeat (first | (with_reducible first | exact HB.out | apply below_alloc | apply pw_below_drewN | apply below_drew1 | refine below_set ?_ GE665.out) | exact HB.out)⟩⟩
          · rw [if_neg c7] at H
            have c7b0 : (((rd_T144 l0 x7_1).f0.f0) == a1_0 && (((rd_T144 l0 x7_1).f0.f1) == a1_1)) = false := by simpa using c7
            (try (have c7b1 : decide (((rd_T144 l0 x7_1).f0.f0) = a1_0 && (((rd_T144 l0 x7_1).f0.f1) == a1_1)) = false := by simpa using c7))
            (try (have c7b2 : (((rd_T144 l0 x7_1).f0.f0) == a1_0 && (((rd_T144 l0 x7_1).f0.f1) == a1_1)) = false := by simpa using c7))
            (try (have c7b3 : ¬ (((rd_T144 l0 x7_1).f0.f0) = a1_0 && (((rd_T144 l0 x7_1).f0.f1) == a1_1)) := by simpa using c7))
            clear c7
            have H' := Aside0.mk H
            clear H
            have p666 : 0 ≤ (x7_1 : Int) := of_decide_eq_true (by first | (with_reducible assumption) | assumption)
            have q666 : x7_1 < (l0.length : Int) := of_decide_eq_true (by first | (with_reducible assumption) | assumption)
            obtain ⟨ad666, e666, hx666_0, hx666_1, hx666_2, hx666_3⟩ := at_T144 HR0.out x7_1 p666 q666
            cases e666
            replace hx666_0 := (HB.out.cell (World.block_lt_of_cell? w _ hx666_0)).trans hx666_0
            replace hx666_1 := (HB.out.cell (World.block_lt_of_cell? w _ hx666_1)).trans hx666_1
            replace hx666_2 := (HB.out.cell (World.block_lt_of_cell? w _ hx666_2)).trans hx666_2
            replace hx666_3 := (HB.out.cell (World.block_lt_of_cell? w _ hx666_3)).trans hx666_3
            replace p666 := eq_true p666
            replace q666 := eq_true q666
            have hcz11_0 : wr.cell? ⟨gb665, 0, none⟩ = some (.int .i64 a1_0) := (blk_cell BK665.out 0).trans rfl
            have hcz11_1 : wr.cell? ⟨gb665, 1, none⟩ = some (.int .i64 a1_1) := (blk_cell BK665.out 1).trans rfl
            have hfz11_0 := blk_frozen BK665.out 0
            have hfz11_1 := blk_frozen BK665.out 1
            go_wp2
            repeat (go_quiet (fail); try go_wp2)
            go_roundg k1
            case measure => have := HK1.out; omega
            case rel => exact ⟨(wrap64 (x7_1 + 1)), (by first | rfl | (simp; done) | (simp [*]; done)), H', ⟨by have := HK1.out; omega⟩, ⟨by (with_reducible repeat (first | refine blk_drewN ?_ _ | refine blk_drew ?_ | refine blk_alloc ?_ _)); exact BK665.out⟩, ⟨by repeat (first | (with_reducible first | exact HB.out | apply below_alloc | apply pw_below_drewN | apply below_drew1 | refine below_set ?_ GE665.out) | exact HB.out)⟩⟩
        · rw [if_neg c6] at H
          exact absurd H (by simp)
      · rw [if_neg c5] at H
        have c5b0 : decide (x7_1 < (l0.length : Int)) = false := decide_eq_false c5
        clear c5
        obtain rfl := Option.some.inj H
        go_wp2
        repeat (go_quiet (fail); try go_wp2)
        go_ret
        exact ⟨by first | rfl | (simp [errW_none, errW_some] <;> rfl) | (simp [*, errW_none, errW_some] <;> rfl), by repeat (first | (with_reducible first | exact HB.out | apply below_alloc | apply pw_below_drewN | apply below_drew1 | refine below_set ?_ GE665.out) | exact HB.out)⟩

end Go.Proofs.Ytlocignlkigojaa.Q
