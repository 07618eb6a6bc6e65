/- Walks of the Go functions that the laws call: each returns what a plain Lean function says. Written by a program for these claims. -/
import Derived.Test.YtlocignlkigojaaQ0
import Derived.Test.YtlocignlkigojaaQf85
namespace Go.Proofs.Ytlocignlkigojaa.Q
open Go.RowKit Go.Proofs.YtlocignlkigojaaW.PrintWords Go.Proofs.YtlocignlkigojaaW.PrintLast Go.Proofs.YtlocignlkigojaaW.PrintMore
attribute [local go_sem] max2_int min2_int max_two min_two max_three min_three max_four min_four   -- for this text's walks alone
set_option linter.unusedVariables false
set_option linter.unusedSimpArgs false

/-! ### impl_choose: function 125 -/
def impl_choose.l0 : Nat → Int → Int → Int → Int → List (S26) → Int → Int → Option (Int × Bool)
  | 0, _, _, _, _, _, _, _ => none
  | k + 1, x1, x2, x8, x9, x13, x14, x15 => if x15 < x14 then (if 0 ≤ x15 then (if x15 < (x13.length : Int) then ((impl_Item_best.f k ((rd_T26 x13 x15).f0) ((rd_T26 x13 x15).f1) x1 x2).bind fun t635 => (if t635 > x8 then (impl_choose.l0 k x1 x2 t635 ((rd_T26 x13 x15).f0) x13 x14 (wrap64 (x15 + 1))) else (impl_choose.l0 k x1 x2 x8 x9 x13 x14 (wrap64 (x15 + 1))))) else (none)) else (none)) else (some (x9, decide (x8 ≥ 0)))
def impl_choose.f (k : Nat) (l0 : List (S26)) (a1 : Int) (a2 : Int) : Option (Int × Bool) := impl_choose.l0 k a1 a2 (-1) 0 l0 (l0.length : Int) 0
theorem impl_choose.mono_l : ∀ k, (∀ y0 y1 y2 y3 y4 y5 y6, LeO (impl_choose.l0 k y0 y1 y2 y3 y4 y5 y6) (impl_choose.l0 (k + 1) y0 y1 y2 y3 y4 y5 y6))
  | 0 => fun _ _ _ _ _ _ _ r h => by simp [impl_choose.l0] at h
  | k + 1 => by
    have ih0 := impl_choose.mono_l k
    · intro y0 y1 y2 y3 y4 y5 y6
      unfold impl_choose.l0
      repeat' first
      | (with_reducible exact ih0 _ _ _ _ _ _ _)
      | (with_reducible exact impl_Item_best.mono _ _ _ _ _)
      | (with_reducible exact LeO.refl _)
      | (with_reducible exact LeO.none _)
      | (with_reducible refine LeO.ite ?_ ?_)
      | (with_reducible refine LeO.bind ?_ (fun _ => ?_))
      | exact ih0 _ _ _ _ _ _ _
      | exact impl_Item_best.mono _ _ _ _ _
      | exact LeO.none _
      | refine LeO.ite ?_ ?_
      | refine LeO.bind ?_ (fun _ => ?_)
theorem impl_choose.mono : ∀ a0 a1 a2 k, LeO (impl_choose.f k a0 a1 a2) (impl_choose.f (k + 1) a0 a1 a2) := by
  intro a0 a1 a2 k
  have ih0 := impl_choose.mono_l k
  unfold impl_choose.f
  repeat' first
      | (with_reducible exact ih0 _ _ _ _ _ _ _)
      | (with_reducible exact impl_Item_best.mono _ _ _ _ _)
      | (with_reducible exact LeO.refl _)
      | (with_reducible exact LeO.none _)
      | (with_reducible refine LeO.ite ?_ ?_)
      | (with_reducible refine LeO.bind ?_ (fun _ => ?_))
      | exact ih0 _ _ _ _ _ _ _
      | exact impl_Item_best.mono _ _ _ _ _
      | exact LeO.none _
      | refine LeO.ite ?_ ?_
      | refine LeO.bind ?_ (fun _ => ?_)
set_option maxHeartbeats 8000000 in
set_option maxRecDepth 100000 in
theorem impl_choose.calls (k : Nat) (A0 : Option Addr) (c0 : Nat) (l0 : List (S26)) (a1 : Int) (a2 : Int) (r1 : Int) (r2 : Bool) (w : World) (hr0 : Kd.C k26 w A0 l0.length l0) (hc0 : l0.length ≤ c0) (h : impl_choose.f k l0 a1 a2 = some (r1, r2)) :
    Calls Try.prog 125 #[.slice A0 l0.length c0, .int .i64 a1, .int .i64 a2] w fun e w' => e = .returned (.tuple #[.int .i64 r1, .bool r2]) ∧ Below w.heap.size w w' := by
  have hu26 := Try.underlying26
  have HR0 := Aside0.mk hr0
  have HC0 := Aside0.mk hc0
  clear hr0 hc0
  have HB := Aside0.mk (Below.refl w.heap.size w)
  have H : (impl_choose.l0 k a1 a2 (-1) 0 l0 (l0.length : Int) 0) = some (r1, r2) := h
  clear h
  have H' := Aside0.mk H
  clear H
  go_enter Try.func125, Try.ntmps125
  go_wp2
  repeat (go_quiet (fail); try go_wp2)
  go_loopg [8, 9, 15] k (fun kq v8 v9 v15 w' => ∃ (x8_1 : Int) (x9_1 : Int) (x15_1 : Int), v8 = .int .i64 x8_1 ∧ v9 = .int .i64 x9_1 ∧ v15 = .int .i64 x15_1 ∧ Aside0 (impl_choose.l0 kq a1 a2 x8_1 x9_1 l0 (l0.length : Int) x15_1 = some (r1, r2)) ∧ Aside0 (kq ≤ k) ∧ Aside0 (Below w.heap.size w w'))
  case atStart => exact ⟨((-1)), (0), (0), (by first | rfl | (simp; done) | (simp [*]; done)), (by first | rfl | (simp; done) | (simp [*]; done)), (by first | rfl | (simp; done) | (simp [*]; done)), H', ⟨Nat.le_refl _⟩, ⟨by repeat (first | (with_reducible first | exact HB.out | apply below_alloc | apply pw_below_drewN | apply below_drew1) | exact HB.out)⟩⟩
  case round =>
    clear H'
    try clear c1
    try clear p2
    obtain ⟨x8_1, x9_1, x15_1, rfl, rfl, rfl, HA, HK1, HB⟩ := hrel
    cases gk with
    | zero => exact absurd HA.out (by simp [impl_choose.l0])
    | succ k1 =>
      have H := HA.out
      clear HA
      simp only [impl_choose.l0] at H
      by_cases c4 : x15_1 < (l0.length : Int)
      · rw [if_pos c4] at H
        have c4b0 : decide (x15_1 < (l0.length : Int)) = true := decide_eq_true c4
        clear c4
        by_cases c5 : 0 ≤ x15_1
        · rw [if_pos c5] at H
          have c5b0 : decide (0 ≤ x15_1) = true := decide_eq_true c5
          clear c5
          by_cases c6 : x15_1 < (l0.length : Int)
          · rw [if_pos c6] at H
            have c6b0 : decide (x15_1 < (l0.length : Int)) = true := decide_eq_true c6
            clear c6
            replace H := Option.bind_eq_some_iff.mp H
            obtain ⟨t635, A70, H⟩ := H
            replace H : (if t635 > x8_1 then (impl_choose.l0 k1 a1 a2 t635 ((rd_T26 l0 x15_1).f0) l0 (l0.length : Int) (wrap64 (x15_1 + 1))) else (impl_choose.l0 k1 a1 a2 x8_1 x9_1 l0 (l0.length : Int) (wrap64 (x15_1 + 1)))) = some (r1, r2) := H
            have A7 := Aside0.mk A70
            clear A70
            by_cases c8 : t635 > x8_1
            · rw [if_pos c8] at H
              have c8b0 : decide (x8_1 < t635) = true := decide_eq_true c8
              clear c8
              have H' := Aside0.mk H
              clear H
              have p633 : 0 ≤ (x15_1 : Int) := of_decide_eq_true (by first | (with_reducible assumption) | assumption)
              have q633 : x15_1 < (l0.length : Int) := of_decide_eq_true (by first | (with_reducible assumption) | assumption)
              obtain ⟨ad633, e633, hx633_0, hx633_1⟩ := at_T26 HR0.out x15_1 p633 q633
              cases e633
              replace hx633_0 := (HB.out.cell (World.block_lt_of_cell? w _ hx633_0)).trans hx633_0
              replace hx633_1 := (HB.out.cell (World.block_lt_of_cell? w _ hx633_1)).trans hx633_1
              replace p633 := eq_true p633
              replace q633 := eq_true q633
              go_wp2_with (first | ((with_reducible refine gate_dst (N := 11) rfl ?_); refine box_event ?hg (N := 11) ?hd (cs := #[.int .i64 0, .int .i64 0]) (t := 26) ?hr ?_; (case hd => rfl); (case hg => rfl); (case hr => first | (go_simp; done) | (go_simp; rfl)); intro gb634 hg w9 hbox hb; have n0_ := Aside0.mk (below_step (by repeat (first | (with_reducible first | exact HB.out | apply below_alloc | apply pw_below_drewN | apply below_drew1) | exact HB.out)) hb); have n1_ := Aside0.mk (hbox); have n2_ := Aside0.mk ((by rw [hg]; exact (below_size (by repeat (first | (with_reducible first | exact HB.out | apply below_alloc | apply pw_below_drewN | apply below_drew1) | exact HB.out))) : w.heap.size ≤ gb634)); have n3_ := Aside0.mk ((by rw [hg]; exact (below_size (by repeat (first | (with_reducible first | exact HB.out | apply below_alloc | apply pw_below_drewN | apply below_drew1) | exact HB.out))) : w.heap.size ≤ gb634)); clear HB; have HB := n0_; have BK634 := n1_; have GW634 := n2_; have GE634 := n3_; clear n0_ n1_ n2_ n3_; clear hb hbox hg; have hcz10_0 : w9.cell? ⟨gb634, 0, none⟩ = some (.int .i64 0) := (blk_cell BK634.out 0).trans rfl; have hcz10_1 : w9.cell? ⟨gb634, 1, none⟩ = some (.int .i64 0) := (blk_cell BK634.out 1).trans rfl; have hfz10_0 := blk_frozen BK634.out 0; have hfz10_1 := blk_frozen BK634.out 1) | (go_at_call 85; (with_reducible refine (impl_Item_best.calls k1 ((rd_T26 l0 x15_1).f0) ((rd_T26 l0 x15_1).f1) a1 a2 t635 _ A7.out).mono ?_); rintro e w11 ⟨rfl, hb⟩; have n0_ := Aside0.mk (blk_below (g := gb634) (o := .cells #[.int .i64 ((rd_T26 l0 x15_1).f0), .int .i64 ((rd_T26 l0 x15_1).f1)] 26 (0, 0)) (by (with_reducible repeat (first | refine blk_drewN ?_ _ | refine blk_drew ?_ | refine blk_alloc ?_ _)); refine blk_put (cs := #[.int .i64 ((rd_T26 l0 x15_1).f0), .int .i64 0]) ?_ 1 _ rfl; (with_reducible repeat (first | refine blk_drewN ?_ _ | refine blk_drew ?_ | refine blk_alloc ?_ _)); refine blk_put (cs := #[.int .i64 0, .int .i64 0]) ?_ 0 _ rfl; (with_reducible repeat (first | refine blk_drewN ?_ _ | refine blk_drew ?_ | refine blk_alloc ?_ _)); exact BK634.out) hb); have n1_ := Aside0.mk (below_step (by repeat (first | (with_reducible first | exact HB.out | apply below_alloc | apply pw_below_drewN | apply below_drew1 | refine below_set ?_ GE634.out) | exact HB.out)) hb); clear BK634; clear HB; have BK634 := n0_; have HB := n1_; clear n0_ n1_; (try clear hb); (try clear hb2); (try clear hk); (try clear hi); have hcz12_0 : w11.cell? ⟨gb634, 0, none⟩ = some (.int .i64 ((rd_T26 l0 x15_1).f0)) := (blk_cell BK634.out 0).trans rfl; have hcz12_1 : w11.cell? ⟨gb634, 1, none⟩ = some (.int .i64 ((rd_T26 l0 x15_1).f1)) := (blk_cell BK634.out 1).trans rfl; have hfz12_0 := blk_frozen BK634.out 0; have hfz12_1 := blk_frozen BK634.out 1))
              repeat (go_quiet (first | ((with_reducible refine gate_dst (N := 11) rfl ?_); refine box_event ?hg (N := 11) ?hd (cs := #[.int .i64 0, .int .i64 0]) (t := 26) ?hr ?_; (case hd => rfl); (case hg => rfl); (case hr => first | (go_simp; done) | (go_simp; rfl)); intro gb634 hg w9 hbox hb; have n0_ := Aside0.mk (below_step (by repeat (first | (with_reducible first | exact HB.out | apply below_alloc | apply pw_below_drewN | apply below_drew1) | exact HB.out)) hb); have n1_ := Aside0.mk (hbox); have n2_ := Aside0.mk ((by rw [hg]; exact (below_size (by repeat (first | (with_reducible first | exact HB.out | apply below_alloc | apply pw_below_drewN | apply below_drew1) | exact HB.out))) : w.heap.size ≤ gb634)); have n3_ := Aside0.mk ((by rw [hg]; exact (below_size (by repeat (first | (with_reducible first | exact HB.out | apply below_alloc | apply pw_below_drewN | apply below_drew1) | exact HB.out))) : w.heap.size ≤ gb634)); clear HB; have HB := n0_; have BK634 := n1_; have GW634 := n2_; have GE634 := n3_; clear n0_ n1_ n2_ n3_; clear hb hbox hg; have hcz10_0 : w9.cell? ⟨gb634, 0, none⟩ = some (.int .i64 0) := (blk_cell BK634.out 0).trans rfl; have hcz10_1 : w9.cell? ⟨gb634, 1, none⟩ = some (.int .i64 0) := (blk_cell BK634.out 1).trans rfl; have hfz10_0 := blk_frozen BK634.out 0; have hfz10_1 := blk_frozen BK634.out 1) | (go_at_call 85; (with_reducible refine (impl_Item_best.calls k1 ((rd_T26 l0 x15_1).f0) ((rd_T26 l0 x15_1).f1) a1 a2 t635 _ A7.out).mono ?_); rintro e w11 ⟨rfl, hb⟩; have n0_ := Aside0.mk (blk_below (g := gb634) (o := .cells #[.int .i64 ((rd_T26 l0 x15_1).f0), .int .i64 ((rd_T26 l0 x15_1).f1)] 26 (0, 0)) (by (with_reducible repeat (first | refine blk_drewN ?_ _ | refine blk_drew ?_ | refine blk_alloc ?_ _)); refine blk_put (cs := #[.int .i64 ((rd_T26 l0 x15_1).f0), .int .i64 0]) ?_ 1 _ rfl; (with_reducible repeat (first | refine blk_drewN ?_ _ | refine blk_drew ?_ | refine blk_alloc ?_ _)); refine blk_put (cs := #[.int .i64 0, .int .i64 0]) ?_ 0 _ rfl; (with_reducible repeat (first | refine blk_drewN ?_ _ | refine blk_drew ?_ | refine blk_alloc ?_ _)); exact BK634.out) hb); have n1_ := Aside0.mk (below_step (by repeat (first | (with_reducible first | exact HB.out | apply below_alloc | apply pw_below_drewN | apply below_drew1 | refine below_set ?_ GE634.out) | exact HB.out)) hb); clear BK634; clear HB; have BK634 := n0_; have HB := n1_; clear n0_ n1_; (try clear hb); (try clear hb2); (try clear hk); (try clear hi); have hcz12_0 : w11.cell? ⟨gb634, 0, none⟩ = some (.int .i64 ((rd_T26 l0 x15_1).f0)) := (blk_cell BK634.out 0).trans rfl; have hcz12_1 : w11.cell? ⟨gb634, 1, none⟩ = some (.int .i64 ((rd_T26 l0 x15_1).f1)) := (blk_cell BK634.out 1).trans rfl; have hfz12_0 := blk_frozen BK634.out 0; have hfz12_1 := blk_frozen BK634.out 1)); try go_wp2_with (first | ((with_reducible refine gate_dst (N := 11) rfl ?_); refine box_event ?hg (N := 11) ?hd (cs := #[.int .i64 0, .int .i64 0]) (t := 26) ?hr ?_; (case hd => rfl); (case hg => rfl); (case hr => first | (go_simp; done) | (go_simp; rfl)); intro gb634 hg w9 hbox hb; have n0_ := Aside0.mk (below_step (by repeat (first | (with_reducible first | exact HB.out | apply below_alloc | apply pw_below_drewN | apply below_drew1) | exact HB.out)) hb); have n1_ := Aside0.mk (hbox); have n2_ := Aside0.mk ((by rw [hg]; exact (below_size (by repeat (first | (with_reducible first | exact HB.out | apply below_alloc | apply pw_below_drewN | apply below_drew1) | exact HB.out))) : w.heap.size ≤ gb634)); have n3_ := Aside0.mk ((by rw [hg]; exact (below_size (by repeat (first | (with_reducible first | exact HB.out | apply below_alloc | apply pw_below_drewN | apply below_drew1) | exact HB.out))) : w.heap.size ≤ gb634)); clear HB; have HB := n0_; have BK634 := n1_; have GW634 := n2_; have GE634 := n3_; clear n0_ n1_ n2_ n3_; clear hb hbox hg; have hcz10_0 : w9.cell? ⟨gb634, 0, none⟩ = some (.int .i64 0) := (blk_cell BK634.out 0).trans rfl; have hcz10_1 : w9.cell? ⟨gb634, 1, none⟩ = some (.int .i64 0) := (blk_cell BK634.out 1).trans rfl; have hfz10_0 := blk_frozen BK634.out 0; have hfz10_1 := blk_frozen BK634.out 1) | (go_at_call 85; (with_reducible refine (impl_Item_best.calls k1 ((rd_T26 l0 x15_1).f0) ((rd_T26 l0 x15_1).f1) a1 a2 t635 _ A7.out).mono ?_); rintro e w11 ⟨rfl, hb⟩; have n0_ := Aside0.mk (blk_below (g := gb634) (o := .cells #[.int .i64 ((rd_T26 l0 x15_1).f0), .int .i64 ((rd_T26 l0 x15_1).f1)] 26 (0, 0)) (by (with_reducible repeat (first | refine blk_drewN ?_ _ | refine blk_drew ?_ | refine blk_alloc ?_ _)); refine blk_put (cs := #[.int .i64 ((rd_T26 l0 x15_1).f0), .int .i64 0]) ?_ 1 _ rfl; (with_reducible repeat (first | refine blk_drewN ?_ _ | refine blk_drew ?_ | refine blk_alloc ?_ _)); refine blk_put (cs := #[.int .i64 0, .int .i64 0]) ?_ 0 _ rfl; (with_reducible repeat (first | refine blk_drewN ?_ _ | refine blk_drew ?_ | refine blk_alloc ?_ _)); exact BK634.out) hb); have n1_ := Aside0.mk (below_step (by repeat (first | (with_reducible first | exact HB.out | apply below_alloc | apply pw_below_drewN | apply below_drew1 | refine below_set ?_ GE634.out) | exact HB.out)) hb); clear BK634; clear HB; have BK634 := n0_; have HB := n1_; clear n0_ n1_; (try clear hb); (try clear hb2); (try clear hk); (try clear hi); have hcz12_0 : w11.cell? ⟨gb634, 0, none⟩ = some (.int .i64 ((rd_T26 l0 x15_1).f0)) := (blk_cell BK634.out 0).trans rfl; have hcz12_1 : w11.cell? ⟨gb634, 1, none⟩ = some (.int .i64 ((rd_T26 l0 x15_1).f1)) := (blk_cell BK634.out 1).trans rfl; have hfz12_0 := blk_frozen BK634.out 0; have hfz12_1 := blk_frozen BK634.out 1)))
              go_roundg k1
              case measure => have := HK1.out; omega
              case rel => exact ⟨(t635), ((rd_T26 l0 x15_1).f0), (wrap64 (x15_1 + 1)), (by first | rfl | (simp; done) | (simp [*]; done)), (by first | rfl | (simp; done) | (simp [*]; done)), (by first | rfl | (simp; done) | (simp [*]; done)), H', ⟨by have := HK1.out; omega⟩, ⟨by repeat (first | (with_reducible first | exact HB.out | apply below_alloc | apply pw_below_drewN | apply below_drew1 | refine below_set ?_ GE634.out) | exact HB.out)⟩⟩
            · rw [if_neg c8] at H
              have c8b0 : decide (x8_1 < t635) = false := decide_eq_false c8
              clear c8
              have H' := Aside0.mk H
              clear H
              have p633 : 0 ≤ (x15_1 : Int) := of_decide_eq_true (by first | (with_reducible assumption) | assumption)
              have q633 : x15_1 < (l0.length : Int) := of_decide_eq_true (by first | (with_reducible assumption) | assumption)
              obtain ⟨ad633, e633, hx633_0, hx633_1⟩ := at_T26 HR0.out x15_1 p633 q633
              cases e633
              replace hx633_0 := (HB.out.cell (World.block_lt_of_cell? w _ hx633_0)).trans hx633_0
              replace hx633_1 := (HB.out.cell (World.block_lt_of_cell? w _ hx633_1)).trans hx633_1
              replace p633 := eq_true p633
              replace q633 := eq_true q633
              go_wp2_with (first | ((with_reducible refine gate_dst (N := 11) rfl ?_); refine box_event ?hg (N := 11) ?hd (cs := #[.int .i64 0, .int .i64 0]) (t := 26) ?hr ?_; (case hd => rfl); (case hg => rfl); (case hr => first | (go_simp; done) | (go_simp; rfl)); intro gb634 hg w13 hbox hb; have n0_ := Aside0.mk (below_step (by repeat (first | (with_reducible first | exact HB.out | apply below_alloc | apply pw_below_drewN | apply below_drew1) | exact HB.out)) hb); have n1_ := Aside0.mk (hbox); have n2_ := Aside0.mk ((by rw [hg]; exact (below_size (by repeat (first | (with_reducible first | exact HB.out | apply below_alloc | apply pw_below_drewN | apply below_drew1) | exact HB.out))) : w.heap.size ≤ gb634)); have n3_ := Aside0.mk ((by rw [hg]; exact (below_size (by repeat (first | (with_reducible first | exact HB.out | apply below_alloc | apply pw_below_drewN | apply below_drew1) | exact HB.out))) : w.heap.size ≤ gb634)); clear HB; have HB := n0_; have BK634 := n1_; have GW634 := n2_; have GE634 := n3_; clear n0_ n1_ n2_ n3_; clear hb hbox hg; have hcz14_0 : w13.cell? ⟨gb634, 0, none⟩ = some (.int .i64 0) := (blk_cell BK634.out 0).trans rfl; have hcz14_1 : w13.cell? ⟨gb634, 1, none⟩ = some (.int .i64 0) := (blk_cell BK634.out 1).trans rfl; have hfz14_0 := blk_frozen BK634.out 0; have hfz14_1 := blk_frozen BK634.out 1) | (go_at_call 85; (with_reducible refine (impl_Item_best.calls k1 ((rd_T26 l0 x15_1).f0) ((rd_T26 l0 x15_1).f1) a1 a2 t635 _ A7.out).mono ?_); rintro e w15 ⟨rfl, hb⟩; have n0_ := Aside0.mk (blk_below (g := gb634) (o := .cells #[.int .i64 ((rd_T26 l0 x15_1).f0), .int .i64 ((rd_T26 l0 x15_1).f1)] 26 (0, 0)) (by (with_reducible repeat (first | refine blk_drewN ?_ _ | refine blk_drew ?_ | refine blk_alloc ?_ _)); refine blk_put (cs := #[.int .i64 ((rd_T26 l0 x15_1).f0), .int .i64 0]) ?_ 1 _ rfl; (with_reducible repeat (first | refine blk_drewN ?_ _ | refine blk_drew ?_ | refine blk_alloc ?_ _)); refine blk_put (cs := #[.int .i64 0, .int .i64 0]) ?_ 0 _ rfl; (with_reducible repeat (first | refine blk_drewN ?_ _ | refine blk_drew ?_ | refine blk_alloc ?_ _)); exact BK634.out) hb); have n1_ := Aside0.mk (below_step (by repeat (first | (with_reducible first | exact HB.out | apply below_alloc | apply pw_below_drewN | apply below_drew1 | refine below_set ?_ GE634.out) | exact HB.out)) hb); clear BK634; clear HB; have BK634 := n0_; have HB := n1_; clear n0_ n1_; (try clear hb); (try clear hb2); (try clear hk); (try clear hi)))
              repeat (go_quiet (first | ((with_reducible refine gate_dst (N := 11) rfl ?_); refine box_event ?hg (N := 11) ?hd (cs := #[.int .i64 0, .int .i64 0]) (t := 26) ?hr ?_; (case hd => rfl); (case hg => rfl); (case hr => first | (go_simp; done) | (go_simp; rfl)); intro gb634 hg w13 hbox hb; have n0_ := Aside0.mk (below_step (by repeat (first | (with_reducible first | exact HB.out | apply below_alloc | apply pw_below_drewN | apply below_drew1) | exact HB.out)) hb); have n1_ := Aside0.mk (hbox); have n2_ := Aside0.mk ((by rw [hg]; exact (below_size (by repeat (first | (with_reducible first | exact HB.out | apply below_alloc | apply pw_below_drewN | apply below_drew1) | exact HB.out))) : w.heap.size ≤ gb634)); have n3_ := Aside0.mk ((by rw [hg]; exact (below_size (by repeat (first | (with_reducible first | exact HB.out | apply below_alloc | apply pw_below_drewN | apply below_drew1) | exact HB.out))) : w.heap.size ≤ gb634)); clear HB; have HB := n0_; have BK634 := n1_; have GW634 := n2_; have GE634 := n3_; clear n0_ n1_ n2_ n3_; clear hb hbox hg; have hcz14_0 : w13.cell? ⟨gb634, 0, none⟩ = some (.int .i64 0) := (blk_cell BK634.out 0).trans rfl; have hcz14_1 : w13.cell? ⟨gb634, 1, none⟩ = some (.int .i64 0) := (blk_cell BK634.out 1).trans rfl; have hfz14_0 := blk_frozen BK634.out 0; have hfz14_1 := blk_frozen BK634.out 1) | (go_at_call 85; (with_reducible refine (impl_Item_best.calls k1 ((rd_T26 l0 x15_1).f0) ((rd_T26 l0 x15_1).f1) a1 a2 t635 _ A7.out).mono ?_); rintro e w15 ⟨rfl, hb⟩; have n0_ := Aside0.mk (blk_below (g := gb634) (o := .cells #[.int .i64 ((rd_T26 l0 x15_1).f0), .int .i64 ((rd_T26 l0 x15_1).f1)] 26 (0, 0)) (by (with_reducible repeat (first | refine blk_drewN ?_ _ | refine blk_drew ?_ | refine blk_alloc ?_ _)); refine blk_put (cs := #[.int .i64 ((rd_T26 l0 x15_1).f0), .int .i64 0]) ?_ 1 _ rfl; (with_reducible repeat (first | refine blk_drewN ?_ _ | refine blk_drew ?_ | refine blk_alloc ?_ _)); refine blk_put (cs := #[.int .i64 0, .int .i64 0]) ?_ 0 _ rfl; (with_reducible repeat (first | refine blk_drewN ?_ _ | refine blk_drew ?_ | refine blk_alloc ?_ _)); exact BK634.out) hb); have n1_ := Aside0.mk (below_step (by repeat (first | (with_reducible first | exact HB.out | apply below_alloc | apply pw_below_drewN | apply below_drew1 | refine below_set ?_ GE634.out) | exact HB.out)) hb); clear BK634; clear HB; have BK634 := n0_; have HB := n1_; clear n0_ n1_; (try clear hb); (try clear hb2); (try clear hk); (try clear hi))); try go_wp2_with (first | ((with_reducible refine gate_dst (N := 11) rfl ?_); refine box_event ?hg (N := 11) ?hd (cs := #[.int .i64 0, .int .i64 0]) (t := 26) ?hr ?_; (case hd => rfl); (case hg => rfl); (case hr => first | (go_simp; done) | (go_simp; rfl)); intro gb634 hg w13 hbox hb; have n0_ := Aside0.mk (below_step (by repeat (first | (with_reducible first | exact HB.out | apply below_alloc | apply pw_below_drewN | apply below_drew1) | exact HB.out)) hb); have n1_ := Aside0.mk (hbox); have n2_ := Aside0.mk ((by rw [hg]; exact (below_size (by repeat (first | (with_reducible first | exact HB.out | apply below_alloc | apply pw_below_drewN | apply below_drew1) | exact HB.out))) : w.heap.size ≤ gb634)); have n3_ := Aside0.mk ((by rw [hg]; exact (below_size (by repeat (first | (with_reducible first | exact HB.out | apply below_alloc | apply pw_below_drewN | apply below_drew1) | exact HB.out))) : w.heap.size ≤ gb634)); clear HB; have HB := n0_; have BK634 := n1_; have GW634 := n2_; have GE634 := n3_; clear n0_ n1_ n2_ n3_; clear hb hbox hg; have hcz14_0 : w13.cell? ⟨gb634, 0, none⟩ = some (.int .i64 0) := (blk_cell BK634.out 0).trans rfl; have hcz14_1 : w13.cell? ⟨gb634, 1, none⟩ = some (.int .i64 0) := (blk_cell BK634.out 1).trans rfl; have hfz14_0 := blk_frozen BK634.out 0; have hfz14_1 := blk_frozen BK634.out 1) | (go_at_call 85; (with_reducible refine (impl_Item_best.calls k1 ((rd_T26 l0 x15_1).f0) ((rd_T26 l0 x15_1).f1) a1 a2 t635 _ A7.out).mono ?_); rintro e w15 ⟨rfl, hb⟩; have n0_ := Aside0.mk (blk_below (g := gb634) (o := .cells #[.int .i64 ((rd_T26 l0 x15_1).f0), .int .i64 ((rd_T26 l0 x15_1).f1)] 26 (0, 0)) (by (with_reducible repeat (first | refine blk_drewN ?_ _ | refine blk_drew ?_ | refine blk_alloc ?_ _)); refine blk_put (cs := #[.int .i64 ((rd_T26 l0 x15_1).f0), .int .i64 0]) ?_ 1 _ rfl; (with_reducible repeat (first | refine blk_drewN ?_ _ | refine blk_drew ?_ | refine blk_alloc ?_ _)); refine blk_put (cs := #[.int .i64 0, .int .i64 0]) ?_ 0 _ rfl; (with_reducible repeat (first | refine blk_drewN ?_ _ | refine blk_drew ?_ | refine blk_alloc ?_ _)); exact BK634.out) hb); have n1_ := Aside0.mk (below_step (by repeat (first | (with_reducible first | exact HB.out | apply below_alloc | apply pw_below_drewN | apply below_drew1 | refine below_set ?_ GE634.out) | exact HB.out)) hb); clear BK634; clear HB; have BK634 := n0_; have HB := n1_; clear n0_ n1_; (try clear hb); (try clear hb2); (try clear hk); (try clear hi))))
              go_roundg k1
              case measure => have := HK1.out; omega
              case rel => exact ⟨(x8_1), (x9_1), (wrap64 (x15_1 + 1)), (by first | rfl | (simp; done) | (simp [*]; done)), (by first | rfl | (simp; done) | (simp [*]; done)), (by first | rfl | (simp; done) | (simp [*]; done)), H', ⟨by have := HK1.out; omega⟩, ⟨by repeat (first | (with_reducible first | exact HB.out | apply below_alloc | apply pw_below_drewN | apply below_drew1 | refine below_set ?_ GE634.out) | exact HB.out)⟩⟩
          · rw [if_neg c6] at H
            exact absurd H (by simp)
        · rw [if_neg c5] at H
          exact absurd H (by simp)
      · rw [if_neg c4] at H
        have c4b0 : decide (x15_1 < (l0.length : Int)) = false := decide_eq_false c4
        clear c4
        simp only [Option.some.injEq, Prod.mk.injEq] at H
        obtain ⟨rfl, rfl⟩ := H
        go_wp2
        repeat (go_quiet (fail); try go_wp2)
        go_ret2
        exact ⟨by first | rfl | (simp [errW_none, errW_some] <;> rfl) | (simp [*, errW_none, errW_some] <;> rfl), by repeat (first | (with_reducible first | exact HB.out | apply below_alloc | apply pw_below_drewN | apply below_drew1) | exact HB.out)⟩

end Go.Proofs.Ytlocignlkigojaa.Q
