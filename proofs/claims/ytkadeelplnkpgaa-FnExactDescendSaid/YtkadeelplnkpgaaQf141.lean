/- Walks of the Go functions that the laws call: each returns what a plain Lean function says. Written by a program for these claims. -/
import Derived.Test.YtkadeelplnkpgaaQ0
import Derived.Test.YtkadeelplnkpgaaQf155
import Derived.Test.YtkadeelplnkpgaaQf156
namespace Go.Proofs.Ytkadeelplnkpgaa.Q
open Go.RowKit Go.Proofs.YtkadeelplnkpgaaW.PrintWords Go.Proofs.YtkadeelplnkpgaaW.PrintLast Go.Proofs.YtkadeelplnkpgaaW.PrintMore
attribute [local go_sem] max2_int min2_int max_two min_two max_three min_three max_four min_four   -- for this text's walks alone
set_option linter.unusedVariables false
set_option linter.unusedSimpArgs false

/-! ### spec_l07Best: function 141 -/
def spec_l07Best.l0 : Nat → Int → Int → Int → Int → Int → Int → Option (Int)
  | 0, _, _, _, _, _, _ => none
  | k + 1, x1, x2, x7, x8, x794000, x794001 => if x8 < x794001 then ((spec_l07Ticket.f k x794000 x8 x1 x2).bind fun t794 => ((spec_l00Max.f x7 t794).bind fun t795 => (spec_l07Best.l0 k x1 x2 t795 (wrap64 (x8 + 1)) x794000 x794001))) else (some x7)
def spec_l07Best.f (k : Nat) (a0_0 : Int) (a0_1 : Int) (a1 : Int) (a2 : Int) : Option (Int) := spec_l07Best.l0 k a1 a2 (-1) 0 a0_0 a0_1
set_option maxHeartbeats 8000000 in
set_option maxRecDepth 100000 in
theorem spec_l07Best.calls (k : Nat) (a0_0 : Int) (a0_1 : Int) (a1 : Int) (a2 : Int) (r : Int) (w : World) (h : spec_l07Best.f k a0_0 a0_1 a1 a2 = some r) :
    Calls Try.prog 141 #[.agg #[.int .i64 a0_0, .int .i64 a0_1], .int .i64 a1, .int .i64 a2] w fun e w' => e = .returned (.int .i64 r) ∧ Below w.heap.size w w' := by
  have hu134 := Try.underlying134
  have HB := Aside0.mk (Below.refl w.heap.size w)
  have H : (spec_l07Best.l0 k a1 a2 (-1) 0 a0_0 a0_1) = some r := h
  clear h
  have H' := Aside0.mk H
  clear H
  go_enter Try.func141, Try.ntmps141
  go_wp2_with (first | ((with_reducible refine gate_dst (N := 3) rfl ?_); refine box_event ?hg (N := 3) ?hd (cs := #[.int .i64 a0_0, .int .i64 a0_1]) (t := 134) ?hr ?_; (case hd => rfl); (case hg => rfl); (case hr => first | (go_simp; done) | (go_simp; rfl)); intro gb793 hg w4 hbox hb; have n0_ := Aside0.mk (below_step (by repeat first | exact HB.out | apply below_alloc | apply pw_below_drewN | apply below_drew1) hb); have n1_ := Aside0.mk (hbox); have n2_ := Aside0.mk ((by rw [hg]; exact (below_size (by repeat first | exact HB.out | apply below_alloc | apply pw_below_drewN | apply below_drew1)) : w.heap.size ≤ gb793)); have n3_ := Aside0.mk ((by rw [hg]; exact (below_size (by repeat first | exact HB.out | apply below_alloc | apply pw_below_drewN | apply below_drew1)) : w.heap.size ≤ gb793)); clear HB; have HB := n0_; have BK793 := n1_; have GW793 := n2_; have GE793 := n3_; clear n0_ n1_ n2_ n3_; clear hb hbox hg))
  go_loopg [7, 8] k (fun kq v7 v8 w' => ∃ (x7_1 : Int) (x8_1 : Int), v7 = .int .i64 x7_1 ∧ v8 = .int .i64 x8_1 ∧ Aside0 (spec_l07Best.l0 kq a1 a2 x7_1 x8_1 a0_0 a0_1 = some r) ∧ Aside0 (kq ≤ k) ∧ Aside0 (w'.heap[gb793]? = some (.cells #[.int .i64 a0_0, .int .i64 a0_1] 134 (0, 0))) ∧ Aside0 (Below w.heap.size w w'))
  case atStart => exact ⟨((-1)), (0), (by first | rfl | (simp; done) | (simp [*]; done)), (by first | rfl | (simp; done) | (simp [*]; done)), H', ⟨Nat.le_refl _⟩, ⟨by (with_reducible repeat first | apply blk_drewN | apply blk_drew | apply blk_alloc); exact BK793.out⟩, ⟨by repeat (first | (with_reducible first | exact HB.out | apply below_alloc | apply pw_below_drewN | apply below_drew1 | refine below_set ?_ GE793.out) | exact HB.out)⟩⟩
  case round =>
    clear H'
    try clear c1
    try clear p2
    obtain ⟨x7_1, x8_1, rfl, rfl, HA, HK1, BK793, HB⟩ := hrel
    cases gk with
    | zero => exact absurd HA.out (by simp [spec_l07Best.l0])
    | succ k1 =>
      have H := HA.out
      clear HA
      simp only [spec_l07Best.l0] at H
      by_cases c5 : x8_1 < a0_1
      · rw [if_pos c5] at H
        have c5b0 : decide (x8_1 < a0_1) = true := decide_eq_true c5
        clear c5
        replace H := Option.bind_eq_some_iff.mp H
        obtain ⟨t794, A60, H⟩ := H
        replace H : ((spec_l00Max.f x7_1 t794).bind fun t795 => (spec_l07Best.l0 k1 a1 a2 t795 (wrap64 (x8_1 + 1)) a0_0 a0_1)) = some r := H
        have A6 := Aside0.mk A60
        clear A60
        replace H := Option.bind_eq_some_iff.mp H
        obtain ⟨t795, A70, H⟩ := H
        replace H : (spec_l07Best.l0 k1 a1 a2 t795 (wrap64 (x8_1 + 1)) a0_0 a0_1) = some r := H
        have A7 := Aside0.mk A70
        clear A70
        have H' := Aside0.mk H
        clear H
        have hcz8_0 : wr.cell? ⟨gb793, 0, none⟩ = some (.int .i64 a0_0) := (blk_cell BK793.out 0).trans rfl
        have hcz8_1 : wr.cell? ⟨gb793, 1, none⟩ = some (.int .i64 a0_1) := (blk_cell BK793.out 1).trans rfl
        have hfz8_0 := blk_frozen BK793.out 0
        have hfz8_1 := blk_frozen BK793.out 1
        go_wp2_with (first | ((with_reducible refine gate_callee (f := 156) rfl ?_); refine goesL_ (some 21) rfl rfl Try.func156 (by kernel_rfl) rfl #[.int .i64 a0_0, .int .i64 x8_1, .int .i64 a1, .int .i64 a2] rfl (by (try simp only [List.map_toArray, List.map_cons, List.map_nil]); first | done | rfl | (simp only [List.length_drop, List.length_take]; rfl)) ?_; (with_reducible refine (spec_l07Ticket.calls k1 a0_0 x8_1 a1 a2 t794 _ A6.out).mono ?_); rintro e w9 ⟨rfl, hb⟩; refine ⟨_, rfl, ?_⟩; have n0_ := Aside0.mk (blk_below (g := gb793) (o := .cells #[.int .i64 a0_0, .int .i64 a0_1] 134 (0, 0)) (by (with_reducible repeat first | apply blk_drewN | apply blk_drew | apply blk_alloc); exact BK793.out) hb); have n1_ := Aside0.mk (below_step (by repeat (first | (with_reducible first | exact HB.out | apply below_alloc | apply pw_below_drewN | apply below_drew1 | refine below_set ?_ GE793.out) | exact HB.out)) hb); clear BK793; clear HB; have BK793 := n0_; have HB := n1_; clear n0_ n1_; (try clear hb); (try clear hb2); (try clear hk); (try clear hi)) | ((with_reducible refine gate_callee (f := 155) rfl ?_); refine goesL_ (some 22) rfl rfl Try.func155 (by kernel_rfl) rfl #[.int .i64 x7_1, .int .i64 t794] rfl (by (try simp only [List.map_toArray, List.map_cons, List.map_nil]); first | done | rfl | (simp only [List.length_drop, List.length_take]; rfl)) ?_; (with_reducible refine (spec_l00Max.calls x7_1 t794 t795 _ A7.out).mono ?_); rintro e w' ⟨rfl, ⟨nd, rfl⟩⟩; refine ⟨_, rfl, ?_⟩))
        go_roundg k1
        case measure => have := HK1.out; omega
        case rel => exact ⟨(t795), (wrap64 (x8_1 + 1)), (by first | rfl | (simp; done) | (simp [*]; done)), (by first | rfl | (simp; done) | (simp [*]; done)), H', ⟨by have := HK1.out; omega⟩, ⟨by (with_reducible repeat first | apply blk_drewN | apply blk_drew | apply blk_alloc); exact BK793.out⟩, ⟨by repeat (first | (with_reducible first | exact HB.out | apply below_alloc | apply pw_below_drewN | apply below_drew1 | refine below_set ?_ GE793.out) | exact HB.out)⟩⟩
      · rw [if_neg c5] at H
        have c5b0 : decide (x8_1 < a0_1) = false := decide_eq_false c5
        clear c5
        obtain rfl := Option.some.inj H
        have hcz10_0 : wr.cell? ⟨gb793, 0, none⟩ = some (.int .i64 a0_0) := (blk_cell BK793.out 0).trans rfl
        have hcz10_1 : wr.cell? ⟨gb793, 1, none⟩ = some (.int .i64 a0_1) := (blk_cell BK793.out 1).trans rfl
        have hfz10_0 := blk_frozen BK793.out 0
        have hfz10_1 := blk_frozen BK793.out 1
        go_wp2
        go_ret
        exact ⟨by first | rfl | (simp [*, errW_none, errW_some] <;> rfl), by repeat (first | (with_reducible first | exact HB.out | apply below_alloc | apply pw_below_drewN | apply below_drew1 | refine below_set ?_ GE793.out) | exact HB.out)⟩

end Go.Proofs.Ytkadeelplnkpgaa.Q
