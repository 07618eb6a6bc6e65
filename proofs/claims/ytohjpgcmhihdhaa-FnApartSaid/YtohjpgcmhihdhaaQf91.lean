/- Walks of the Go functions that the laws call: each returns what a plain Lean function says. Written by a program for these claims. -/
import Derived.Test.YtohjpgcmhihdhaaQ0
import Derived.Test.YtohjpgcmhihdhaaQf93
namespace Go.Proofs.Ytohjpgcmhihdhaa.Q
open Go.RowKit Go.Proofs.YtohjpgcmhihdhaaW.PrintWords Go.Proofs.YtohjpgcmhihdhaaW.PrintLast Go.Proofs.YtohjpgcmhihdhaaW.PrintMore
attribute [local go_sem] max2_int min2_int max_two min_two max_three min_three max_four min_four   -- for this text's walks alone
set_option linter.unusedVariables false
set_option linter.unusedSimpArgs false

/-! ### impl_Item_best: function 91 -/
def impl_Item_best.l0 : Nat → Int → Int → Int → Int → Int → Int → Int → Option (Int)
  | 0, _, _, _, _, _, _, _ => none
  | k + 1, x1, x2, x7, x10, x11, x311000, x311001 => if x11 < x10 then ((impl_TicketOf.f k x311000 x11 x1 x2).bind fun t311 => (impl_Item_best.l0 k x1 x2 (mx x7 t311) x10 (wrap64 (x11 + 1)) x311000 x311001)) else (some x7)
def impl_Item_best.f (k : Nat) (a0_0 : Int) (a0_1 : Int) (a1 : Int) (a2 : Int) : Option (Int) := impl_Item_best.l0 k a1 a2 (-1) a0_1 0 a0_0 a0_1
set_option maxHeartbeats 8000000 in
set_option maxRecDepth 100000 in
theorem impl_Item_best.calls (k : Nat) (a0_0 : Int) (a0_1 : Int) (a1 : Int) (a2 : Int) (r : Int) (w : World) (h : impl_Item_best.f k a0_0 a0_1 a1 a2 = some r) :
    Calls Try.prog 91 #[.agg #[.int .i64 a0_0, .int .i64 a0_1], .int .i64 a1, .int .i64 a2] w fun e w' => e = .returned (.int .i64 r) ∧ Below w.heap.size w w' := by
  have hu113 := Try.underlying113
  have HB := Aside0.mk (Below.refl w.heap.size w)
  have H : (impl_Item_best.l0 k a1 a2 (-1) a0_1 0 a0_0 a0_1) = some r := h
  clear h
  have H' := Aside0.mk H
  clear H
  go_enter Try.func91, Try.ntmps91
  go_wp2_with (first | ((with_reducible refine gate_dst (N := 3) rfl ?_); refine box_event ?hg (N := 3) ?hd (cs := #[.int .i64 a0_0, .int .i64 a0_1]) (t := 113) ?hr ?_; (case hd => rfl); (case hg => rfl); (case hr => first | (go_simp; done) | (go_simp; rfl)); intro gb310 hg w4 hbox hb; have n0_ := Aside0.mk (below_step (by repeat first | exact HB.out | apply pw_below_drewN) hb); have n1_ := Aside0.mk (hbox); clear HB; have HB := n0_; have BK310 := n1_; clear n0_ n1_; clear hb hbox hg; have hcz5_0 := (blk_cell BK310.out 0).trans rfl; have hcz5_1 := (blk_cell BK310.out 1).trans rfl))
  go_loopg [7, 11] k (fun kq v7 v11 w' => ∃ (x7_1 : Int) (x11_1 : Int), v7 = .int .i64 x7_1 ∧ v11 = .int .i64 x11_1 ∧ Aside0 (impl_Item_best.l0 kq a1 a2 x7_1 a0_1 x11_1 a0_0 a0_1 = some r) ∧ Aside0 (kq ≤ k) ∧ Aside0 (w'.heap[gb310]? = some (.cells #[.int .i64 a0_0, .int .i64 a0_1] 113 (0, 0))) ∧ Aside0 (Below w.heap.size w w'))
  case atStart => exact ⟨((-1)), (0), (by first | rfl | (simp; done) | (simp [*]; done)), (by first | rfl | (simp; done) | (simp [*]; done)), H', ⟨Nat.le_refl _⟩, ⟨by exact BK310.out⟩, ⟨by repeat first | exact HB.out | apply pw_below_drewN⟩⟩
  case round =>
    clear H'
    try clear p2
    try clear hcz5_0
    try clear hcz5_1
    obtain ⟨x7_1, x11_1, rfl, rfl, HA, HK1, BK310, HB⟩ := hrel
    cases gk with
    | zero => exact absurd HA.out (by simp [impl_Item_best.l0])
    | succ k1 =>
      have H := HA.out
      clear HA
      simp only [impl_Item_best.l0] at H
      by_cases c6 : x11_1 < a0_1
      · rw [if_pos c6] at H
        have c6b0 : decide (x11_1 < a0_1) = true := decide_eq_true c6
        clear c6
        replace H := Option.bind_eq_some_iff.mp H
        obtain ⟨t311, A70, H⟩ := H
        set_option simprocs false in try dsimp only at H
        have A7 := Aside0.mk A70
        clear A70
        obtain ⟨ji8, hji8⟩ : ∃ j_ : Int, (mx x7_1 t311) = j_ := ⟨_, rfl⟩
        replace H : (impl_Item_best.l0 k1 a1 a2 ji8 a0_1 (wrap64 (x11_1 + 1)) a0_0 a0_1) = some r := by first | (rw [hji8] at H; exact H) | (simp only [hji8] at H ⊢; exact H)
        (try rw [hji8] at A7)
        have hji8_ : (if x7_1 < t311 then t311 else x7_1) = ji8 := hji8
        have H' := Aside0.mk H
        clear H
        have hcz9_0 := (blk_cell BK310.out 0).trans rfl
        have hcz9_1 := (blk_cell BK310.out 1).trans rfl
        go_wp2_with (first | ((with_reducible refine gate_callee (f := 93) rfl ?_); refine goesL_ (some 20) rfl rfl Try.func93 (by kernel_rfl) rfl #[.int .i64 a0_0, .int .i64 x11_1, .int .i64 a1, .int .i64 a2] rfl (by (try simp only [List.map_toArray, List.map_cons, List.map_nil]); first | done | rfl) ?_; (with_reducible refine (impl_TicketOf.calls k1 a0_0 x11_1 a1 a2 t311 _ A7.out).mono ?_); rintro e w10 ⟨rfl, hb⟩; refine ⟨_, rfl, ?_⟩; have n0_ := Aside0.mk (blk_below (by exact BK310.out) hb); have n1_ := Aside0.mk (below_step (by repeat first | exact HB.out | apply pw_below_drewN) hb); clear BK310; clear HB; have BK310 := n0_; have HB := n1_; clear n0_ n1_; (try clear hb); (try clear hb2); (try clear hk); (try clear hi)))
        go_roundg k1
        case measure => have := HK1.out; omega
        case rel => exact ⟨(ji8), (wrap64 (x11_1 + 1)), (by first | rfl | (simp; done) | (simp only [← hji8] <;> (first | rfl | simp)) | (simp [*]; done)), (by first | rfl | (simp; done) | (simp [*]; done)), H', ⟨by have := HK1.out; omega⟩, ⟨by exact BK310.out⟩, ⟨by repeat first | exact HB.out | apply pw_below_drewN⟩⟩
      · rw [if_neg c6] at H
        have c6b0 : decide (x11_1 < a0_1) = false := decide_eq_false c6
        clear c6
        obtain rfl := Option.some.inj H
        go_wp2
        go_ret
        exact ⟨by first | rfl | (simp [*, errW_none, errW_some] <;> rfl), by repeat first | exact HB.out | apply pw_below_drewN⟩

end Go.Proofs.Ytohjpgcmhihdhaa.Q
