/- Walks of the Go functions that the laws call: each returns what a plain Lean function says. Written by a program for these claims. -/
import Derived.Test.YtohjpgcmhihdhaaQ0
import Derived.Test.YtohjpgcmhihdhaaQf31
namespace Go.Proofs.Ytohjpgcmhihdhaa.Q
open Go.RowKit Go.Proofs.YtohjpgcmhihdhaaW.PrintWords Go.Proofs.YtohjpgcmhihdhaaW.PrintLast Go.Proofs.YtohjpgcmhihdhaaW.PrintMore
attribute [local go_sem] max2_int min2_int max_two min_two max_three min_three max_four min_four   -- for this text's walks alone
set_option linter.unusedVariables false
set_option linter.unusedSimpArgs false

/-! ### impl_Tree_above: function 51 -/
mutual
def impl_Tree_above.l0 : Nat → Int → Int → List (S70) → Int → Int → List (S34) → List (S70) → Option (Int)
  | 0, _, _, _, _, _, _, _ => none
  | k + 1, x1, x2, x10, x11, x12, x321000, x321001 => if x12 < x11 then (if 0 ≤ x12 then (if x12 < (x10.length : Int) then ((slices_Contains_int64_int64.f k ((rd_T70 x10 x12).f2) x1).bind fun t323 => (if t323 = true then (if ((rd_T70 x10 x12).f1) = x2 then (some ((rd_T70 x10 x12).f0)) else ((impl_Tree_above.f k x321000 x321001 ((rd_T70 x10 x12).f0) x2).bind fun t324 => (some t324))) else (impl_Tree_above.l0 k x1 x2 x10 x11 (wrap64 (x12 + 1)) x321000 x321001))) else (none)) else (none)) else (some 0)
def impl_Tree_above.f : Nat → List (S34) → List (S70) → Int → Int → Option (Int)
  | 0, _, _, _, _ => none
  | k + 1, l0_0, l0_1, a1, a2 => impl_Tree_above.l0 k a1 a2 l0_1 (l0_1.length : Int) 0 l0_0 l0_1
end
set_option maxHeartbeats 8000000 in
set_option maxRecDepth 100000 in
theorem impl_Tree_above.calls (k : Nat) : ∀ (A0_0 : Option Addr) (c0_0 : Nat) (l0_0 : List (S34)) (A0_1 : Option Addr) (c0_1 : Nat) (l0_1 : List (S70)) (a1 : Int) (a2 : Int) (r : Int) (w : World) (hr0_0 : Kd.C k34 w A0_0 l0_0.length l0_0) (hc0_0 : l0_0.length ≤ c0_0) (hr0_1 : Kd.C k70 w A0_1 l0_1.length l0_1) (hc0_1 : l0_1.length ≤ c0_1) (h : impl_Tree_above.f k l0_0 l0_1 a1 a2 = some r),
    Calls Try.prog 51 #[.agg #[.slice A0_0 l0_0.length c0_0, .slice A0_1 l0_1.length c0_1], .int .i64 a1, .int .i64 a2] w fun e w' => e = .returned (.int .i64 r) ∧ Below w.heap.size w w' := by
  induction k using Nat.strongRecOn with
  | _ k ih =>
  intro A0_0 c0_0 l0_0 A0_1 c0_1 l0_1 a1 a2 r w hr0_0 hc0_0 hr0_1 hc0_1 h
  cases k with
  | zero => exact absurd h (by simp [impl_Tree_above.f])
  | succ k =>
  simp only [impl_Tree_above.f] at h
  have hu26 := Try.underlying26
  have hu70 := Try.underlying70
  have HR0_0 := Aside0.mk hr0_0
  have HC0_0 := Aside0.mk hc0_0
  clear hr0_0 hc0_0
  have HR0_1 := Aside0.mk hr0_1
  have HC0_1 := Aside0.mk hc0_1
  clear hr0_1 hc0_1
  have HB := Aside0.mk (Below.refl w.heap.size w)
  have H : (impl_Tree_above.l0 k a1 a2 l0_1 (l0_1.length : Int) 0 l0_0 l0_1) = some r := h
  clear h
  have H' := Aside0.mk H
  clear H
  go_enter Try.func51, Try.ntmps51
  go_wp2_with (first | ((with_reducible refine gate_dst (N := 3) rfl ?_); refine box_event ?hg (N := 3) ?hd (cs := #[.slice A0_0 l0_0.length c0_0, .slice A0_1 l0_1.length c0_1]) (t := 26) ?hr ?_; (case hd => rfl); (case hg => rfl); (case hr => first | (go_simp; done) | (go_simp; rfl)); intro gb320 hg w4 hbox hb; have n0_ := Aside0.mk (below_step (by repeat first | exact HB.out | apply below_alloc | apply pw_below_drewN | apply below_drew1) hb); have n1_ := Aside0.mk (hbox); have n2_ := Aside0.mk ((by rw [hg]; exact (below_size (by repeat first | exact HB.out | apply below_alloc | apply pw_below_drewN | apply below_drew1)) : w.heap.size ≤ gb320)); have n3_ := Aside0.mk ((by rw [hg]; exact (below_size (by repeat first | exact HB.out | apply below_alloc | apply pw_below_drewN | apply below_drew1)) : w.heap.size ≤ gb320)); clear HB; have HB := n0_; have BK320 := n1_; have GW320 := n2_; have GE320 := n3_; clear n0_ n1_ n2_ n3_; clear hb hbox hg; have hcz5_0 := (blk_cell BK320.out 0).trans rfl; have hcz5_1 := (blk_cell BK320.out 1).trans rfl; have hfz5_0 := blk_frozen BK320.out 0; have hfz5_1 := blk_frozen BK320.out 1))
  go_loopg [12] k (fun kq v12 w' => ∃ (x12_1 : Int), v12 = .int .i64 x12_1 ∧ Aside0 (impl_Tree_above.l0 kq a1 a2 l0_1 (l0_1.length : Int) x12_1 l0_0 l0_1 = some r) ∧ Aside0 (kq ≤ k) ∧ Aside0 (w'.heap[gb320]? = some (.cells #[(.slice A0_0 l0_0.length c0_0), (.slice A0_1 l0_1.length c0_1)] 26 (0, 0))) ∧ Aside0 (Below w.heap.size w w'))
  case atStart => exact ⟨(0), (by first | rfl | (simp; done) | (simp [*]; done)), H', ⟨Nat.le_refl _⟩, ⟨by (with_reducible repeat first | apply blk_drewN | apply blk_drew | apply blk_alloc); exact BK320.out⟩, ⟨by repeat (first | (with_reducible first | exact HB.out | apply below_alloc | apply pw_below_drewN | apply below_drew1 | refine below_set ?_ GE320.out) | exact HB.out)⟩⟩
  case round =>
    clear H'
    try clear p2
    try clear c5
    try clear hcz5_0
    try clear hcz5_1
    try clear hfz5_0
    try clear hfz5_1
    obtain ⟨x12_1, rfl, HA, HK1, BK320, HB⟩ := hrel
    cases gk with
    | zero => exact absurd HA.out (by simp [impl_Tree_above.l0])
    | succ k1 =>
      have H := HA.out
      clear HA
      simp only [impl_Tree_above.l0] at H
      by_cases c6 : x12_1 < (l0_1.length : Int)
      · rw [if_pos c6] at H
        have c6b0 : decide (x12_1 < (l0_1.length : Int)) = true := decide_eq_true c6
        clear c6
        by_cases c7 : 0 ≤ x12_1
        · rw [if_pos c7] at H
          have c7b0 : decide (0 ≤ x12_1) = true := decide_eq_true c7
          clear c7
          by_cases c8 : x12_1 < (l0_1.length : Int)
          · rw [if_pos c8] at H
            have c8b0 : decide (x12_1 < (l0_1.length : Int)) = true := decide_eq_true c8
            clear c8
            replace H := Option.bind_eq_some_iff.mp H
            obtain ⟨t323, A90, H⟩ := H
            replace H : (if t323 = true then (if ((rd_T70 l0_1 x12_1).f1) = a2 then (some ((rd_T70 l0_1 x12_1).f0)) else ((impl_Tree_above.f k1 l0_0 l0_1 ((rd_T70 l0_1 x12_1).f0) a2).bind fun t324 => (some t324))) else (impl_Tree_above.l0 k1 a1 a2 l0_1 (l0_1.length : Int) (wrap64 (x12_1 + 1)) l0_0 l0_1)) = some r := H
            have A9 := Aside0.mk A90
            clear A90
            by_cases c10 : t323 = true
            · subst c10
              rw [if_pos rfl] at H
              by_cases c11 : ((rd_T70 l0_1 x12_1).f1) = a2
              · rw [if_pos c11] at H
                have c11b0 : (((rd_T70 l0_1 x12_1).f1) == a2) = true := beq_iff_eq.mpr c11
                have c11b1 : (((rd_T70 l0_1 x12_1).f1) != a2) = false := bne_eq_false_iff_eq.mpr c11
                clear c11
                obtain rfl := Option.some.inj H
                have p321 : 0 ≤ (x12_1 : Int) := of_decide_eq_true (by assumption)
                have q321 : x12_1 < (l0_1.length : Int) := of_decide_eq_true (by assumption)
                obtain ⟨ad321, A321_2, c321_2, e321, hx321_0, hx321_1, hx321_2, hl321_2, hi321_2⟩ := at_T70 HR0_1.out x12_1 p321 q321
                cases e321
                replace hx321_0 := (HB.out.cell (World.block_lt_of_cell? w _ hx321_0)).trans hx321_0
                replace hx321_1 := (HB.out.cell (World.block_lt_of_cell? w _ hx321_1)).trans hx321_1
                replace hx321_2 := (HB.out.cell (World.block_lt_of_cell? w _ hx321_2)).trans hx321_2
                have HR321_2 := Aside0.mk hi321_2
                have HC321_2 := Aside0.mk hl321_2
                clear hi321_2 hl321_2
                replace p321 := eq_true p321
                replace q321 := eq_true q321
                go_wp2_with (first | ((with_reducible refine gate_dst (N := 8) rfl ?_); refine box_event ?hg (N := 8) ?hd (cs := #[.int .i64 0, .int .i64 0, .slice none 0 0]) (t := 70) ?hr ?_; (case hd => rfl); (case hg => rfl); (case hr => first | (go_simp; done) | (go_simp; rfl)); intro gb322 hg w12 hbox hb; have n0_ := Aside0.mk (blk_below (g := gb320) (o := .cells #[.slice A0_0 l0_0.length c0_0, .slice (some ad321) l0_1.length c0_1] 26 (0, 0)) (by (with_reducible repeat first | apply blk_drewN | apply blk_drew | apply blk_alloc); exact BK320.out) hb); have n1_ := Aside0.mk (below_step (by repeat (first | (with_reducible first | exact HB.out | apply below_alloc | apply pw_below_drewN | apply below_drew1 | refine below_set ?_ GE320.out) | exact HB.out)) hb); have n2_ := Aside0.mk (hbox); have n3_ := Aside0.mk ((by rw [hg]; exact (below_size (by repeat (first | (with_reducible first | exact HB.out | apply below_alloc | apply pw_below_drewN | apply below_drew1 | refine below_set ?_ GE320.out) | exact HB.out))) : w.heap.size ≤ gb322)); have n4_ := Aside0.mk ((by rw [hg]; exact (below_size (by repeat (first | (with_reducible first | exact HB.out | apply below_alloc | apply pw_below_drewN | apply below_drew1 | refine below_set ?_ GE320.out) | exact HB.out))) : w.heap.size ≤ gb322)); have n5_ := Aside0.mk ((by rw [hg]; exact Nat.ne_of_lt (blk_lt (g := gb320) (o := .cells #[.slice A0_0 l0_0.length c0_0, .slice (some ad321) l0_1.length c0_1] 26 (0, 0)) (by (with_reducible repeat first | apply blk_drewN | apply blk_drew | apply blk_alloc); exact BK320.out)) : gb320 ≠ gb322)); have n6_ := Aside0.mk ((by rw [hg]; exact Nat.ne_of_gt (blk_lt (g := gb320) (o := .cells #[.slice A0_0 l0_0.length c0_0, .slice (some ad321) l0_1.length c0_1] 26 (0, 0)) (by (with_reducible repeat first | apply blk_drewN | apply blk_drew | apply blk_alloc); exact BK320.out)) : gb322 ≠ gb320)); clear BK320; clear HB; have BK320 := n0_; have HB := n1_; have BK322 := n2_; have GW322 := n3_; have GE322 := n4_; have NB320_322 := n5_; have NB322_320 := n6_; clear n0_ n1_ n2_ n3_ n4_ n5_ n6_; clear hb hbox hg; have hnb13 := NB322_320.out; have hnc13 := NB320_322.out; have hcz14_0 := (blk_cell BK322.out 0).trans rfl; have hcz14_1 := (blk_cell BK322.out 1).trans rfl; have hcz14_2 := (blk_cell BK322.out 2).trans rfl; have hfz14_0 := blk_frozen BK322.out 0; have hfz14_1 := blk_frozen BK322.out 1; have hfz14_2 := blk_frozen BK322.out 2) | ((with_reducible refine gate_callee (f := 31) rfl ?_); refine goesL_ (some 19) rfl rfl Try.func31 (by kernel_rfl) rfl #[.slice A321_2 ((rd_T70 l0_1 x12_1).f2).length c321_2, .int .i64 a1] rfl (by (try simp only [List.map_toArray, List.map_cons, List.map_nil]); first | done | rfl | (simp only [List.length_drop, List.length_take]; rfl)) ?_; (with_reducible refine (slices_Contains_int64_int64.calls k1 _ _ ((rd_T70 l0_1 x12_1).f2) a1 true _ ?side1 ?side2 A9.out).mono ?_); (case side1 => exact Kd.C_below HR321_2.out (by repeat (first | (with_reducible first | exact HB.out | apply below_alloc | apply pw_below_drewN | apply below_drew1 | refine below_set ?_ GE320.out | refine below_set ?_ GE322.out) | exact HB.out))); (case side2 => exact HC321_2.out); rintro e w' ⟨rfl, ⟨nd, rfl⟩⟩; refine ⟨_, rfl, ?_⟩))
                go_ret
                exact ⟨by first | rfl | (simp [*, errW_none, errW_some] <;> rfl), by repeat (first | (with_reducible first | exact HB.out | apply below_alloc | apply pw_below_drewN | apply below_drew1 | refine below_set ?_ GE320.out | refine below_set ?_ GE322.out) | exact HB.out)⟩
              · rw [if_neg c11] at H
                have c11b0 : (((rd_T70 l0_1 x12_1).f1) == a2) = false := beq_eq_false_iff_ne.mpr c11
                have c11b1 : (((rd_T70 l0_1 x12_1).f1) != a2) = true := bne_iff_ne.mpr c11
                replace H := Option.bind_eq_some_iff.mp H
                obtain ⟨t324, A150, H⟩ := H
                replace H : (some t324) = some r := H
                have A15 := Aside0.mk A150
                clear A150
                obtain rfl := Option.some.inj H
                have p321 : 0 ≤ (x12_1 : Int) := of_decide_eq_true (by assumption)
                have q321 : x12_1 < (l0_1.length : Int) := of_decide_eq_true (by assumption)
                obtain ⟨ad321, A321_2, c321_2, e321, hx321_0, hx321_1, hx321_2, hl321_2, hi321_2⟩ := at_T70 HR0_1.out x12_1 p321 q321
                cases e321
                replace hx321_0 := (HB.out.cell (World.block_lt_of_cell? w _ hx321_0)).trans hx321_0
                replace hx321_1 := (HB.out.cell (World.block_lt_of_cell? w _ hx321_1)).trans hx321_1
                replace hx321_2 := (HB.out.cell (World.block_lt_of_cell? w _ hx321_2)).trans hx321_2
                have HR321_2 := Aside0.mk hi321_2
                have HC321_2 := Aside0.mk hl321_2
                clear hi321_2 hl321_2
                replace p321 := eq_true p321
                replace q321 := eq_true q321
                go_wp2_with (first | ((with_reducible refine gate_dst (N := 8) rfl ?_); refine box_event ?hg (N := 8) ?hd (cs := #[.int .i64 0, .int .i64 0, .slice none 0 0]) (t := 70) ?hr ?_; (case hd => rfl); (case hg => rfl); (case hr => first | (go_simp; done) | (go_simp; rfl)); intro gb322 hg w16 hbox hb; have n0_ := Aside0.mk (blk_below (g := gb320) (o := .cells #[.slice A0_0 l0_0.length c0_0, .slice (some ad321) l0_1.length c0_1] 26 (0, 0)) (by (with_reducible repeat first | apply blk_drewN | apply blk_drew | apply blk_alloc); exact BK320.out) hb); have n1_ := Aside0.mk (below_step (by repeat (first | (with_reducible first | exact HB.out | apply below_alloc | apply pw_below_drewN | apply below_drew1 | refine below_set ?_ GE320.out) | exact HB.out)) hb); have n2_ := Aside0.mk (hbox); have n3_ := Aside0.mk ((by rw [hg]; exact (below_size (by repeat (first | (with_reducible first | exact HB.out | apply below_alloc | apply pw_below_drewN | apply below_drew1 | refine below_set ?_ GE320.out) | exact HB.out))) : w.heap.size ≤ gb322)); have n4_ := Aside0.mk ((by rw [hg]; exact (below_size (by repeat (first | (with_reducible first | exact HB.out | apply below_alloc | apply pw_below_drewN | apply below_drew1 | refine below_set ?_ GE320.out) | exact HB.out))) : w.heap.size ≤ gb322)); have n5_ := Aside0.mk ((by rw [hg]; exact Nat.ne_of_lt (blk_lt (g := gb320) (o := .cells #[.slice A0_0 l0_0.length c0_0, .slice (some ad321) l0_1.length c0_1] 26 (0, 0)) (by (with_reducible repeat first | apply blk_drewN | apply blk_drew | apply blk_alloc); exact BK320.out)) : gb320 ≠ gb322)); have n6_ := Aside0.mk ((by rw [hg]; exact Nat.ne_of_gt (blk_lt (g := gb320) (o := .cells #[.slice A0_0 l0_0.length c0_0, .slice (some ad321) l0_1.length c0_1] 26 (0, 0)) (by (with_reducible repeat first | apply blk_drewN | apply blk_drew | apply blk_alloc); exact BK320.out)) : gb322 ≠ gb320)); clear BK320; clear HB; have BK320 := n0_; have HB := n1_; have BK322 := n2_; have GW322 := n3_; have GE322 := n4_; have NB320_322 := n5_; have NB322_320 := n6_; clear n0_ n1_ n2_ n3_ n4_ n5_ n6_; clear hb hbox hg; have hnb17 := NB322_320.out; have hnc17 := NB320_322.out; have hcz18_0 := (blk_cell BK322.out 0).trans rfl; have hcz18_1 := (blk_cell BK322.out 1).trans rfl; have hcz18_2 := (blk_cell BK322.out 2).trans rfl; have hfz18_0 := blk_frozen BK322.out 0; have hfz18_1 := blk_frozen BK322.out 1; have hfz18_2 := blk_frozen BK322.out 2) | ((with_reducible refine gate_callee (f := 31) rfl ?_); refine goesL_ (some 19) rfl rfl Try.func31 (by kernel_rfl) rfl #[.slice A321_2 ((rd_T70 l0_1 x12_1).f2).length c321_2, .int .i64 a1] rfl (by (try simp only [List.map_toArray, List.map_cons, List.map_nil]); first | done | rfl | (simp only [List.length_drop, List.length_take]; rfl)) ?_; (with_reducible refine (slices_Contains_int64_int64.calls k1 _ _ ((rd_T70 l0_1 x12_1).f2) a1 true _ ?side1 ?side2 A9.out).mono ?_); (case side1 => exact Kd.C_below HR321_2.out (by repeat (first | (with_reducible first | exact HB.out | apply below_alloc | apply pw_below_drewN | apply below_drew1 | refine below_set ?_ GE320.out | refine below_set ?_ GE322.out) | exact HB.out))); (case side2 => exact HC321_2.out); rintro e w' ⟨rfl, ⟨nd, rfl⟩⟩; refine ⟨_, rfl, ?_⟩; have hcz19_0 := (blk_cell BK320.out 0).trans rfl; have hcz19_1 := (blk_cell BK320.out 1).trans rfl; have hfz19_0 := blk_frozen BK320.out 0; have hfz19_1 := blk_frozen BK320.out 1) | ((with_reducible refine gate_callee (f := 51) rfl ?_); refine goesL_ (some 31) rfl rfl Try.func51 (by kernel_rfl) rfl #[.agg #[.slice A0_0 l0_0.length c0_0, .slice (some ad321) l0_1.length c0_1], .int .i64 ((rd_T70 l0_1 x12_1).f0), .int .i64 a2] rfl (by (try simp only [List.map_toArray, List.map_cons, List.map_nil]); first | done | rfl | (simp only [List.length_drop, List.length_take]; rfl)) ?_; (with_reducible refine (ih k1 (by have := HK1.out; omega) _ _ l0_0 _ _ l0_1 ((rd_T70 l0_1 x12_1).f0) a2 t324 _ ?side1 ?side2 ?side3 ?side4 A15.out).mono ?_); (case side1 => exact Kd.C_below HR0_0.out (by repeat (first | (with_reducible first | exact HB.out | apply below_alloc | apply pw_below_drewN | apply below_drew1 | refine below_set ?_ GE320.out | refine below_set ?_ GE322.out) | exact HB.out))); (case side2 => exact HC0_0.out); (case side3 => exact Kd.C_below HR0_1.out (by repeat (first | (with_reducible first | exact HB.out | apply below_alloc | apply pw_below_drewN | apply below_drew1 | refine below_set ?_ GE320.out | refine below_set ?_ GE322.out) | exact HB.out))); (case side4 => exact HC0_1.out); rintro e w20 ⟨rfl, hb⟩; refine ⟨_, rfl, ?_⟩; have n0_ := Aside0.mk (blk_below (g := gb320) (o := .cells #[.slice A0_0 l0_0.length c0_0, .slice (some ad321) l0_1.length c0_1] 26 (0, 0)) (by (with_reducible repeat first | apply blk_drewN | apply blk_drew | apply blk_alloc); refine blk_far ?_ NB320_322.out _; (with_reducible repeat first | apply blk_drewN | apply blk_drew | apply blk_alloc); refine blk_far ?_ NB320_322.out _; (with_reducible repeat first | apply blk_drewN | apply blk_drew | apply blk_alloc); refine blk_far ?_ NB320_322.out _; (with_reducible repeat first | apply blk_drewN | apply blk_drew | apply blk_alloc); exact BK320.out) hb); have n1_ := Aside0.mk (blk_below (g := gb322) (o := .cells #[.int .i64 ((rd_T70 l0_1 x12_1).f0), .int .i64 ((rd_T70 l0_1 x12_1).f1), .slice A321_2 ((rd_T70 l0_1 x12_1).f2).length c321_2] 70 (0, 0)) (by (with_reducible repeat first | apply blk_drewN | apply blk_drew | apply blk_alloc); refine blk_put (cs := #[.int .i64 ((rd_T70 l0_1 x12_1).f0), .int .i64 ((rd_T70 l0_1 x12_1).f1), .slice none 0 0]) ?_ 2 _ rfl; (with_reducible repeat first | apply blk_drewN | apply blk_drew | apply blk_alloc); refine blk_put (cs := #[.int .i64 ((rd_T70 l0_1 x12_1).f0), .int .i64 0, .slice none 0 0]) ?_ 1 _ rfl; (with_reducible repeat first | apply blk_drewN | apply blk_drew | apply blk_alloc); refine blk_put (cs := #[.int .i64 0, .int .i64 0, .slice none 0 0]) ?_ 0 _ rfl; (with_reducible repeat first | apply blk_drewN | apply blk_drew | apply blk_alloc); exact BK322.out) hb); have n2_ := Aside0.mk (below_step (by repeat (first | (with_reducible first | exact HB.out | apply below_alloc | apply pw_below_drewN | apply below_drew1 | refine below_set ?_ GE320.out | refine below_set ?_ GE322.out) | exact HB.out)) hb); clear BK320; clear BK322; clear HB; have BK320 := n0_; have BK322 := n1_; have HB := n2_; clear n0_ n1_ n2_; (try clear hb); (try clear hb2); (try clear hk); (try clear hi)))
                go_ret
                exact ⟨by first | rfl | (simp [*, errW_none, errW_some] <;> rfl), by repeat (first | (with_reducible first | exact HB.out | apply below_alloc | apply pw_below_drewN | apply below_drew1 | refine below_set ?_ GE320.out | refine below_set ?_ GE322.out) | exact HB.out)⟩
            · replace c10 := Bool.eq_false_iff.mpr c10
              subst c10
              rw [if_neg (show ¬ (false = true) by decide)] at H
              have H' := Aside0.mk H
              clear H
              have p321 : 0 ≤ (x12_1 : Int) := of_decide_eq_true (by assumption)
              have q321 : x12_1 < (l0_1.length : Int) := of_decide_eq_true (by assumption)
              obtain ⟨ad321, A321_2, c321_2, e321, hx321_0, hx321_1, hx321_2, hl321_2, hi321_2⟩ := at_T70 HR0_1.out x12_1 p321 q321
              cases e321
              replace hx321_0 := (HB.out.cell (World.block_lt_of_cell? w _ hx321_0)).trans hx321_0
              replace hx321_1 := (HB.out.cell (World.block_lt_of_cell? w _ hx321_1)).trans hx321_1
              replace hx321_2 := (HB.out.cell (World.block_lt_of_cell? w _ hx321_2)).trans hx321_2
              have HR321_2 := Aside0.mk hi321_2
              have HC321_2 := Aside0.mk hl321_2
              clear hi321_2 hl321_2
              replace p321 := eq_true p321
              replace q321 := eq_true q321
              go_wp2_with (first | ((with_reducible refine gate_dst (N := 8) rfl ?_); refine box_event ?hg (N := 8) ?hd (cs := #[.int .i64 0, .int .i64 0, .slice none 0 0]) (t := 70) ?hr ?_; (case hd => rfl); (case hg => rfl); (case hr => first | (go_simp; done) | (go_simp; rfl)); intro gb322 hg w21 hbox hb; have n0_ := Aside0.mk (blk_below (g := gb320) (o := .cells #[.slice A0_0 l0_0.length c0_0, .slice (some ad321) l0_1.length c0_1] 26 (0, 0)) (by (with_reducible repeat first | apply blk_drewN | apply blk_drew | apply blk_alloc); exact BK320.out) hb); have n1_ := Aside0.mk (below_step (by repeat (first | (with_reducible first | exact HB.out | apply below_alloc | apply pw_below_drewN | apply below_drew1 | refine below_set ?_ GE320.out) | exact HB.out)) hb); have n2_ := Aside0.mk (hbox); have n3_ := Aside0.mk ((by rw [hg]; exact (below_size (by repeat (first | (with_reducible first | exact HB.out | apply below_alloc | apply pw_below_drewN | apply below_drew1 | refine below_set ?_ GE320.out) | exact HB.out))) : w.heap.size ≤ gb322)); have n4_ := Aside0.mk ((by rw [hg]; exact (below_size (by repeat (first | (with_reducible first | exact HB.out | apply below_alloc | apply pw_below_drewN | apply below_drew1 | refine below_set ?_ GE320.out) | exact HB.out))) : w.heap.size ≤ gb322)); have n5_ := Aside0.mk ((by rw [hg]; exact Nat.ne_of_lt (blk_lt (g := gb320) (o := .cells #[.slice A0_0 l0_0.length c0_0, .slice (some ad321) l0_1.length c0_1] 26 (0, 0)) (by (with_reducible repeat first | apply blk_drewN | apply blk_drew | apply blk_alloc); exact BK320.out)) : gb320 ≠ gb322)); have n6_ := Aside0.mk ((by rw [hg]; exact Nat.ne_of_gt (blk_lt (g := gb320) (o := .cells #[.slice A0_0 l0_0.length c0_0, .slice (some ad321) l0_1.length c0_1] 26 (0, 0)) (by (with_reducible repeat first | apply blk_drewN | apply blk_drew | apply blk_alloc); exact BK320.out)) : gb322 ≠ gb320)); clear BK320; clear HB; have BK320 := n0_; have HB := n1_; have BK322 := n2_; have GW322 := n3_; have GE322 := n4_; have NB320_322 := n5_; have NB322_320 := n6_; clear n0_ n1_ n2_ n3_ n4_ n5_ n6_; clear hb hbox hg; have hnb22 := NB322_320.out; have hnc22 := NB320_322.out; have hcz23_0 := (blk_cell BK322.out 0).trans rfl; have hcz23_1 := (blk_cell BK322.out 1).trans rfl; have hcz23_2 := (blk_cell BK322.out 2).trans rfl; have hfz23_0 := blk_frozen BK322.out 0; have hfz23_1 := blk_frozen BK322.out 1; have hfz23_2 := blk_frozen BK322.out 2) | ((with_reducible refine gate_callee (f := 31) rfl ?_); refine goesL_ (some 19) rfl rfl Try.func31 (by kernel_rfl) rfl #[.slice A321_2 ((rd_T70 l0_1 x12_1).f2).length c321_2, .int .i64 a1] rfl (by (try simp only [List.map_toArray, List.map_cons, List.map_nil]); first | done | rfl | (simp only [List.length_drop, List.length_take]; rfl)) ?_; (with_reducible refine (slices_Contains_int64_int64.calls k1 _ _ ((rd_T70 l0_1 x12_1).f2) a1 false _ ?side1 ?side2 A9.out).mono ?_); (case side1 => exact Kd.C_below HR321_2.out (by repeat (first | (with_reducible first | exact HB.out | apply below_alloc | apply pw_below_drewN | apply below_drew1 | refine below_set ?_ GE320.out | refine below_set ?_ GE322.out) | exact HB.out))); (case side2 => exact HC321_2.out); rintro e w' ⟨rfl, ⟨nd, rfl⟩⟩; refine ⟨_, rfl, ?_⟩))
              go_roundg k1
              case measure => have := HK1.out; omega
              case rel => exact ⟨(wrap64 (x12_1 + 1)), (by first | rfl | (simp; done) | (simp [*]; done)), H', ⟨by have := HK1.out; omega⟩, ⟨by (with_reducible repeat first | apply blk_drewN | apply blk_drew | apply blk_alloc); refine blk_far ?_ NB320_322.out _; (with_reducible repeat first | apply blk_drewN | apply blk_drew | apply blk_alloc); refine blk_far ?_ NB320_322.out _; (with_reducible repeat first | apply blk_drewN | apply blk_drew | apply blk_alloc); refine blk_far ?_ NB320_322.out _; (with_reducible repeat first | apply blk_drewN | apply blk_drew | apply blk_alloc); exact BK320.out⟩, ⟨by repeat (first | (with_reducible first | exact HB.out | apply below_alloc | apply pw_below_drewN | apply below_drew1 | refine below_set ?_ GE320.out | refine below_set ?_ GE322.out) | exact HB.out)⟩⟩
          · rw [if_neg c8] at H
            exact absurd H (by simp)
        · rw [if_neg c7] at H
          exact absurd H (by simp)
      · rw [if_neg c6] at H
        have c6b0 : decide (x12_1 < (l0_1.length : Int)) = false := decide_eq_false c6
        clear c6
        obtain rfl := Option.some.inj H
        go_wp2
        go_ret
        exact ⟨by first | rfl | (simp [*, errW_none, errW_some] <;> rfl), by repeat (first | (with_reducible first | exact HB.out | apply below_alloc | apply pw_below_drewN | apply below_drew1 | refine below_set ?_ GE320.out) | exact HB.out)⟩

end Go.Proofs.Ytohjpgcmhihdhaa.Q
