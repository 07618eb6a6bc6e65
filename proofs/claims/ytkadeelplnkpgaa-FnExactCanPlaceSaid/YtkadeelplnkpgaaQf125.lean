/- Walks of the Go functions that the laws call: each returns what a plain Lean function says. Written by a program for these claims. -/
import Derived.Test.YtkadeelplnkpgaaQ0
import Derived.Test.YtkadeelplnkpgaaQf83
namespace Go.Proofs.Ytkadeelplnkpgaa.Q
open Go.RowKit Go.Proofs.YtkadeelplnkpgaaW.PrintWords Go.Proofs.YtkadeelplnkpgaaW.PrintLast Go.Proofs.YtkadeelplnkpgaaW.PrintMore
attribute [local go_sem] max2_int min2_int max_two min_two max_three min_three max_four min_four   -- for this text's walks alone
set_option linter.unusedVariables false
set_option linter.unusedSimpArgs false

/-! ### spec_l06Above: function 125 -/
mutual
def spec_l06Above.l0 : Nat → Int → Int → Int → List (S50) → List (S108) → Option (Int)
  | 0, _, _, _, _, _ => none
  | k + 1, x1, x2, x7, x294000, x294001 => if x7 < (x294001.length : Int) then (if 0 ≤ x7 then ((spec_l00Has.f k ((rd_T108 x294001 x7).f2) x1).bind fun t296 => (if t296 = true then (if ((rd_T108 x294001 x7).f1) = x2 then (some ((rd_T108 x294001 x7).f0)) else ((spec_l06Above.f k x294000 x294001 ((rd_T108 x294001 x7).f0) x2).bind fun t297 => (some t297))) else (spec_l06Above.l0 k x1 x2 (wrap64 (x7 + 1)) x294000 x294001))) else (none)) else (some 0)
def spec_l06Above.f : Nat → List (S50) → List (S108) → Int → Int → Option (Int)
  | 0, _, _, _, _ => none
  | k + 1, l0_0, l0_1, a1, a2 => spec_l06Above.l0 k a1 a2 0 l0_0 l0_1
end
set_option maxHeartbeats 8000000 in
set_option maxRecDepth 100000 in
theorem spec_l06Above.calls (k : Nat) : ∀ (A0_0 : Option Addr) (c0_0 : Nat) (l0_0 : List (S50)) (A0_1 : Option Addr) (c0_1 : Nat) (l0_1 : List (S108)) (a1 : Int) (a2 : Int) (r : Int) (w : World) (hr0_0 : Kd.C k50 w A0_0 l0_0.length l0_0) (hc0_0 : l0_0.length ≤ c0_0) (hr0_1 : Kd.C k108 w A0_1 l0_1.length l0_1) (hc0_1 : l0_1.length ≤ c0_1) (h : spec_l06Above.f k l0_0 l0_1 a1 a2 = some r),
    Calls Try.prog 125 #[.agg #[.slice A0_0 l0_0.length c0_0, .slice A0_1 l0_1.length c0_1], .int .i64 a1, .int .i64 a2] w fun e w' => e = .returned (.int .i64 r) ∧ Below w.heap.size w w' := by
  induction k using Nat.strongRecOn with
  | _ k ih =>
  intro A0_0 c0_0 l0_0 A0_1 c0_1 l0_1 a1 a2 r w hr0_0 hc0_0 hr0_1 hc0_1 h
  cases k with
  | zero => exact absurd h (by simp [spec_l06Above.f])
  | succ k =>
  simp only [spec_l06Above.f] at h
  have hu31 := Try.underlying31
  have hu108 := Try.underlying108
  have HR0_0 := Aside0.mk hr0_0
  have HC0_0 := Aside0.mk hc0_0
  clear hr0_0 hc0_0
  have HR0_1 := Aside0.mk hr0_1
  have HC0_1 := Aside0.mk hc0_1
  clear hr0_1 hc0_1
  have HB := Aside0.mk (Below.refl w.heap.size w)
  have H : (spec_l06Above.l0 k a1 a2 0 l0_0 l0_1) = some r := h
  clear h
  have H' := Aside0.mk H
  clear H
  go_enter Try.func125, Try.ntmps125
  go_wp2_with (first | ((with_reducible refine gate_dst (N := 3) rfl ?_); refine box_event ?hg (N := 3) ?hd (cs := #[.slice A0_0 l0_0.length c0_0, .slice A0_1 l0_1.length c0_1]) (t := 31) ?hr ?_; (case hd => rfl); (case hg => rfl); (case hr => first | (go_simp; done) | (go_simp; rfl)); intro gb293 hg w4 hbox hb; have n0_ := Aside0.mk (below_step (by repeat first | exact HB.out | apply below_alloc | apply pw_below_drewN | apply below_drew1) hb); have n1_ := Aside0.mk (hbox); have n2_ := Aside0.mk ((by rw [hg]; exact (below_size (by repeat first | exact HB.out | apply below_alloc | apply pw_below_drewN | apply below_drew1)) : w.heap.size ≤ gb293)); have n3_ := Aside0.mk ((by rw [hg]; exact (below_size (by repeat first | exact HB.out | apply below_alloc | apply pw_below_drewN | apply below_drew1)) : w.heap.size ≤ gb293)); clear HB; have HB := n0_; have BK293 := n1_; have GW293 := n2_; have GE293 := n3_; clear n0_ n1_ n2_ n3_; clear hb hbox hg))
  go_loopg [7] k (fun kq v7 w' => ∃ (x7_1 : Int), v7 = .int .i64 x7_1 ∧ Aside0 (spec_l06Above.l0 kq a1 a2 x7_1 l0_0 l0_1 = some r) ∧ Aside0 (kq ≤ k) ∧ Aside0 (w'.heap[gb293]? = some (.cells #[(.slice A0_0 l0_0.length c0_0), (.slice A0_1 l0_1.length c0_1)] 31 (0, 0))) ∧ Aside0 (Below w.heap.size w w'))
  case atStart => exact ⟨(0), (by first | rfl | (simp; done) | (simp [*]; done)), H', ⟨Nat.le_refl _⟩, ⟨by (with_reducible repeat first | apply blk_drewN | apply blk_drew | apply blk_alloc); exact BK293.out⟩, ⟨by repeat (first | (with_reducible first | exact HB.out | apply below_alloc | apply pw_below_drewN | apply below_drew1 | refine below_set ?_ GE293.out) | exact HB.out)⟩⟩
  case round =>
    clear H'
    try clear c1
    try clear p2
    obtain ⟨x7_1, rfl, HA, HK1, BK293, HB⟩ := hrel
    cases gk with
    | zero => exact absurd HA.out (by simp [spec_l06Above.l0])
    | succ k1 =>
      have H := HA.out
      clear HA
      simp only [spec_l06Above.l0] at H
      by_cases c5 : x7_1 < (l0_1.length : Int)
      · rw [if_pos c5] at H
        have c5b0 : decide (x7_1 < (l0_1.length : Int)) = true := decide_eq_true c5
        clear c5
        by_cases c6 : 0 ≤ x7_1
        · rw [if_pos c6] at H
          have c6b0 : decide (0 ≤ x7_1) = true := decide_eq_true c6
          clear c6
          replace H := Option.bind_eq_some_iff.mp H
          obtain ⟨t296, A70, H⟩ := H
          replace H : (if t296 = true then (if ((rd_T108 l0_1 x7_1).f1) = a2 then (some ((rd_T108 l0_1 x7_1).f0)) else ((spec_l06Above.f k1 l0_0 l0_1 ((rd_T108 l0_1 x7_1).f0) a2).bind fun t297 => (some t297))) else (spec_l06Above.l0 k1 a1 a2 (wrap64 (x7_1 + 1)) l0_0 l0_1)) = some r := H
          have A7 := Aside0.mk A70
          clear A70
          by_cases c8 : t296 = true
          · subst c8
            have H1 : (if ((rd_T108 l0_1 x7_1).f1) = a2 then (some ((rd_T108 l0_1 x7_1).f0)) else ((spec_l06Above.f k1 l0_0 l0_1 ((rd_T108 l0_1 x7_1).f0) a2).bind fun t297 => (some t297))) = some r := by rw [if_pos rfl] at H; exact H
            clear H
            have H := H1
            clear H1
            by_cases c9 : ((rd_T108 l0_1 x7_1).f1) = a2
            · rw [if_pos c9] at H
              have c9b0 : (((rd_T108 l0_1 x7_1).f1) == a2) = true := beq_iff_eq.mpr c9
              have c9b1 : (((rd_T108 l0_1 x7_1).f1) != a2) = false := bne_eq_false_iff_eq.mpr c9
              clear c9
              obtain rfl := Option.some.inj H
              have hcz10_0 : wr.cell? ⟨gb293, 0, none⟩ = some (.slice A0_0 l0_0.length c0_0) := (blk_cell BK293.out 0).trans rfl
              have hcz10_1 : wr.cell? ⟨gb293, 1, none⟩ = some (.slice A0_1 l0_1.length c0_1) := (blk_cell BK293.out 1).trans rfl
              have hfz10_0 := blk_frozen BK293.out 0
              have hfz10_1 := blk_frozen BK293.out 1
              have p294 : 0 ≤ (x7_1 : Int) := of_decide_eq_true (by assumption)
              have q294 : x7_1 < (l0_1.length : Int) := of_decide_eq_true (by assumption)
              obtain ⟨ad294, A294_2, c294_2, e294, hx294_0, hx294_1, hx294_2, hl294_2, hi294_2⟩ := at_T108 HR0_1.out x7_1 p294 q294
              cases e294
              replace hx294_0 := (HB.out.cell (World.block_lt_of_cell? w _ hx294_0)).trans hx294_0
              replace hx294_1 := (HB.out.cell (World.block_lt_of_cell? w _ hx294_1)).trans hx294_1
              replace hx294_2 := (HB.out.cell (World.block_lt_of_cell? w _ hx294_2)).trans hx294_2
              have HR294_2 := Aside0.mk hi294_2
              have HC294_2 := Aside0.mk hl294_2
              clear hi294_2 hl294_2
              replace p294 := eq_true p294
              replace q294 := eq_true q294
              go_wp2_with (first | ((with_reducible refine gate_dst (N := 8) rfl ?_); refine box_event ?hg (N := 8) ?hd (cs := #[.int .i64 0, .int .i64 0, .slice none 0 0]) (t := 108) ?hr ?_; (case hd => rfl); (case hg => rfl); (case hr => first | (go_simp; done) | (go_simp; rfl)); intro gb295 hg w11 hbox hb; have n0_ := Aside0.mk (blk_below (g := gb293) (o := .cells #[.slice A0_0 l0_0.length c0_0, .slice (some ad294) l0_1.length c0_1] 31 (0, 0)) (by (with_reducible repeat first | apply blk_drewN | apply blk_drew | apply blk_alloc); exact BK293.out) hb); have n1_ := Aside0.mk (below_step (by repeat (first | (with_reducible first | exact HB.out | apply below_alloc | apply pw_below_drewN | apply below_drew1 | refine below_set ?_ GE293.out) | exact HB.out)) hb); have n2_ := Aside0.mk (hbox); have n3_ := Aside0.mk ((by rw [hg]; exact (below_size (by repeat (first | (with_reducible first | exact HB.out | apply below_alloc | apply pw_below_drewN | apply below_drew1 | refine below_set ?_ GE293.out) | exact HB.out))) : w.heap.size ≤ gb295)); have n4_ := Aside0.mk ((by rw [hg]; exact (below_size (by repeat (first | (with_reducible first | exact HB.out | apply below_alloc | apply pw_below_drewN | apply below_drew1 | refine below_set ?_ GE293.out) | exact HB.out))) : w.heap.size ≤ gb295)); have n5_ := Aside0.mk ((by rw [hg]; exact Nat.ne_of_lt (blk_lt (g := gb293) (o := .cells #[.slice A0_0 l0_0.length c0_0, .slice (some ad294) l0_1.length c0_1] 31 (0, 0)) (by (with_reducible repeat first | apply blk_drewN | apply blk_drew | apply blk_alloc); exact BK293.out)) : gb293 ≠ gb295)); have n6_ := Aside0.mk ((by rw [hg]; exact Nat.ne_of_gt (blk_lt (g := gb293) (o := .cells #[.slice A0_0 l0_0.length c0_0, .slice (some ad294) l0_1.length c0_1] 31 (0, 0)) (by (with_reducible repeat first | apply blk_drewN | apply blk_drew | apply blk_alloc); exact BK293.out)) : gb295 ≠ gb293)); clear BK293; clear HB; have BK293 := n0_; have HB := n1_; have BK295 := n2_; have GW295 := n3_; have GE295 := n4_; have NB293_295 := n5_; have NB295_293 := n6_; clear n0_ n1_ n2_ n3_ n4_ n5_ n6_; clear hb hbox hg; have hnb12 := NB295_293.out; have hnc12 := NB293_295.out; have hcz13_0 : w11.cell? ⟨gb295, 0, none⟩ = some (.int .i64 0) := (blk_cell BK295.out 0).trans rfl; have hcz13_1 : w11.cell? ⟨gb295, 1, none⟩ = some (.int .i64 0) := (blk_cell BK295.out 1).trans rfl; have hcz13_2 : w11.cell? ⟨gb295, 2, none⟩ = some (.slice none 0 0) := (blk_cell BK295.out 2).trans rfl; have hfz13_0 := blk_frozen BK295.out 0; have hfz13_1 := blk_frozen BK295.out 1; have hfz13_2 := blk_frozen BK295.out 2) | ((with_reducible refine gate_callee (f := 83) rfl ?_); refine goesL_ (some 24) rfl rfl Try.func83 (by kernel_rfl) rfl #[.slice A294_2 ((rd_T108 l0_1 x7_1).f2).length c294_2, .int .i64 a1] rfl (by (try simp only [List.map_toArray, List.map_cons, List.map_nil]); first | done | rfl | (simp only [List.length_drop, List.length_take]; rfl)) ?_; (with_reducible refine (spec_l00Has.calls k1 _ _ ((rd_T108 l0_1 x7_1).f2) a1 true _ ?side1 ?side2 A7.out).mono ?_); (case side1 => exact Kd.C_below HR294_2.out (by repeat (first | (with_reducible first | exact HB.out | apply below_alloc | apply pw_below_drewN | apply below_drew1 | refine below_set ?_ GE293.out | refine below_set ?_ GE295.out) | exact HB.out))); (case side2 => exact HC294_2.out); rintro e w' ⟨rfl, ⟨nd, rfl⟩⟩; refine ⟨_, rfl, ?_⟩))
              go_ret
              exact ⟨by first | rfl | (simp [*, errW_none, errW_some] <;> rfl), by repeat (first | (with_reducible first | exact HB.out | apply below_alloc | apply pw_below_drewN | apply below_drew1 | refine below_set ?_ GE293.out | refine below_set ?_ GE295.out) | exact HB.out)⟩
            · rw [if_neg c9] at H
              have c9b0 : (((rd_T108 l0_1 x7_1).f1) == a2) = false := beq_eq_false_iff_ne.mpr c9
              have c9b1 : (((rd_T108 l0_1 x7_1).f1) != a2) = true := bne_iff_ne.mpr c9
              replace H := Option.bind_eq_some_iff.mp H
              obtain ⟨t297, A140, H⟩ := H
              replace H : (some t297) = some r := H
              have A14 := Aside0.mk A140
              clear A140
              obtain rfl := Option.some.inj H
              have hcz15_0 : wr.cell? ⟨gb293, 0, none⟩ = some (.slice A0_0 l0_0.length c0_0) := (blk_cell BK293.out 0).trans rfl
              have hcz15_1 : wr.cell? ⟨gb293, 1, none⟩ = some (.slice A0_1 l0_1.length c0_1) := (blk_cell BK293.out 1).trans rfl
              have hfz15_0 := blk_frozen BK293.out 0
              have hfz15_1 := blk_frozen BK293.out 1
              have p294 : 0 ≤ (x7_1 : Int) := of_decide_eq_true (by assumption)
              have q294 : x7_1 < (l0_1.length : Int) := of_decide_eq_true (by assumption)
              obtain ⟨ad294, A294_2, c294_2, e294, hx294_0, hx294_1, hx294_2, hl294_2, hi294_2⟩ := at_T108 HR0_1.out x7_1 p294 q294
              cases e294
              replace hx294_0 := (HB.out.cell (World.block_lt_of_cell? w _ hx294_0)).trans hx294_0
              replace hx294_1 := (HB.out.cell (World.block_lt_of_cell? w _ hx294_1)).trans hx294_1
              replace hx294_2 := (HB.out.cell (World.block_lt_of_cell? w _ hx294_2)).trans hx294_2
              have HR294_2 := Aside0.mk hi294_2
              have HC294_2 := Aside0.mk hl294_2
              clear hi294_2 hl294_2
              replace p294 := eq_true p294
              replace q294 := eq_true q294
              go_wp2_with (first | ((with_reducible refine gate_dst (N := 8) rfl ?_); refine box_event ?hg (N := 8) ?hd (cs := #[.int .i64 0, .int .i64 0, .slice none 0 0]) (t := 108) ?hr ?_; (case hd => rfl); (case hg => rfl); (case hr => first | (go_simp; done) | (go_simp; rfl)); intro gb295 hg w16 hbox hb; have n0_ := Aside0.mk (blk_below (g := gb293) (o := .cells #[.slice A0_0 l0_0.length c0_0, .slice (some ad294) l0_1.length c0_1] 31 (0, 0)) (by (with_reducible repeat first | apply blk_drewN | apply blk_drew | apply blk_alloc); exact BK293.out) hb); have n1_ := Aside0.mk (below_step (by repeat (first | (with_reducible first | exact HB.out | apply below_alloc | apply pw_below_drewN | apply below_drew1 | refine below_set ?_ GE293.out) | exact HB.out)) hb); have n2_ := Aside0.mk (hbox); have n3_ := Aside0.mk ((by rw [hg]; exact (below_size (by repeat (first | (with_reducible first | exact HB.out | apply below_alloc | apply pw_below_drewN | apply below_drew1 | refine below_set ?_ GE293.out) | exact HB.out))) : w.heap.size ≤ gb295)); have n4_ := Aside0.mk ((by rw [hg]; exact (below_size (by repeat (first | (with_reducible first | exact HB.out | apply below_alloc | apply pw_below_drewN | apply below_drew1 | refine below_set ?_ GE293.out) | exact HB.out))) : w.heap.size ≤ gb295)); have n5_ := Aside0.mk ((by rw [hg]; exact Nat.ne_of_lt (blk_lt (g := gb293) (o := .cells #[.slice A0_0 l0_0.length c0_0, .slice (some ad294) l0_1.length c0_1] 31 (0, 0)) (by (with_reducible repeat first | apply blk_drewN | apply blk_drew | apply blk_alloc); exact BK293.out)) : gb293 ≠ gb295)); have n6_ := Aside0.mk ((by rw [hg]; exact Nat.ne_of_gt (blk_lt (g := gb293) (o := .cells #[.slice A0_0 l0_0.length c0_0, .slice (some ad294) l0_1.length c0_1] 31 (0, 0)) (by (with_reducible repeat first | apply blk_drewN | apply blk_drew | apply blk_alloc); exact BK293.out)) : gb295 ≠ gb293)); clear BK293; clear HB; have BK293 := n0_; have HB := n1_; have BK295 := n2_; have GW295 := n3_; have GE295 := n4_; have NB293_295 := n5_; have NB295_293 := n6_; clear n0_ n1_ n2_ n3_ n4_ n5_ n6_; clear hb hbox hg; have hnb17 := NB295_293.out; have hnc17 := NB293_295.out; have hcz18_0 : w16.cell? ⟨gb295, 0, none⟩ = some (.int .i64 0) := (blk_cell BK295.out 0).trans rfl; have hcz18_1 : w16.cell? ⟨gb295, 1, none⟩ = some (.int .i64 0) := (blk_cell BK295.out 1).trans rfl; have hcz18_2 : w16.cell? ⟨gb295, 2, none⟩ = some (.slice none 0 0) := (blk_cell BK295.out 2).trans rfl; have hfz18_0 := blk_frozen BK295.out 0; have hfz18_1 := blk_frozen BK295.out 1; have hfz18_2 := blk_frozen BK295.out 2) | ((with_reducible refine gate_callee (f := 83) rfl ?_); refine goesL_ (some 24) rfl rfl Try.func83 (by kernel_rfl) rfl #[.slice A294_2 ((rd_T108 l0_1 x7_1).f2).length c294_2, .int .i64 a1] rfl (by (try simp only [List.map_toArray, List.map_cons, List.map_nil]); first | done | rfl | (simp only [List.length_drop, List.length_take]; rfl)) ?_; (with_reducible refine (spec_l00Has.calls k1 _ _ ((rd_T108 l0_1 x7_1).f2) a1 true _ ?side1 ?side2 A7.out).mono ?_); (case side1 => exact Kd.C_below HR294_2.out (by repeat (first | (with_reducible first | exact HB.out | apply below_alloc | apply pw_below_drewN | apply below_drew1 | refine below_set ?_ GE293.out | refine below_set ?_ GE295.out) | exact HB.out))); (case side2 => exact HC294_2.out); rintro e w' ⟨rfl, ⟨nd, rfl⟩⟩; refine ⟨_, rfl, ?_⟩; have hcz19_0 : w16.cell? ⟨gb293, 0, none⟩ = some (.slice A0_0 l0_0.length c0_0) := (blk_cell BK293.out 0).trans rfl; have hcz19_1 : w16.cell? ⟨gb293, 1, none⟩ = some (.slice (some ad294) l0_1.length c0_1) := (blk_cell BK293.out 1).trans rfl; have hfz19_0 := blk_frozen BK293.out 0; have hfz19_1 := blk_frozen BK293.out 1) | ((with_reducible refine gate_callee (f := 125) rfl ?_); refine goesL_ (some 35) rfl rfl Try.func125 (by kernel_rfl) rfl #[.agg #[.slice A0_0 l0_0.length c0_0, .slice (some ad294) l0_1.length c0_1], .int .i64 ((rd_T108 l0_1 x7_1).f0), .int .i64 a2] rfl (by (try simp only [List.map_toArray, List.map_cons, List.map_nil]); first | done | rfl | (simp only [List.length_drop, List.length_take]; rfl)) ?_; (with_reducible refine (ih k1 (by have := HK1.out; omega) _ _ l0_0 _ _ l0_1 ((rd_T108 l0_1 x7_1).f0) a2 t297 _ ?side1 ?side2 ?side3 ?side4 A14.out).mono ?_); (case side1 => exact Kd.C_below HR0_0.out (by repeat (first | (with_reducible first | exact HB.out | apply below_alloc | apply pw_below_drewN | apply below_drew1 | refine below_set ?_ GE293.out | refine below_set ?_ GE295.out) | exact HB.out))); (case side2 => exact HC0_0.out); (case side3 => exact Kd.C_below HR0_1.out (by repeat (first | (with_reducible first | exact HB.out | apply below_alloc | apply pw_below_drewN | apply below_drew1 | refine below_set ?_ GE293.out | refine below_set ?_ GE295.out) | exact HB.out))); (case side4 => exact HC0_1.out); rintro e w20 ⟨rfl, hb⟩; refine ⟨_, rfl, ?_⟩; have n0_ := Aside0.mk (blk_below (g := gb293) (o := .cells #[.slice A0_0 l0_0.length c0_0, .slice (some ad294) l0_1.length c0_1] 31 (0, 0)) (by (with_reducible repeat first | apply blk_drewN | apply blk_drew | apply blk_alloc); refine blk_far ?_ NB293_295.out _; (with_reducible repeat first | apply blk_drewN | apply blk_drew | apply blk_alloc); refine blk_far ?_ NB293_295.out _; (with_reducible repeat first | apply blk_drewN | apply blk_drew | apply blk_alloc); refine blk_far ?_ NB293_295.out _; (with_reducible repeat first | apply blk_drewN | apply blk_drew | apply blk_alloc); exact BK293.out) hb); have n1_ := Aside0.mk (blk_below (g := gb295) (o := .cells #[.int .i64 ((rd_T108 l0_1 x7_1).f0), .int .i64 ((rd_T108 l0_1 x7_1).f1), .slice A294_2 ((rd_T108 l0_1 x7_1).f2).length c294_2] 108 (0, 0)) (by (with_reducible repeat first | apply blk_drewN | apply blk_drew | apply blk_alloc); refine blk_put (cs := #[.int .i64 ((rd_T108 l0_1 x7_1).f0), .int .i64 ((rd_T108 l0_1 x7_1).f1), .slice none 0 0]) ?_ 2 _ rfl; (with_reducible repeat first | apply blk_drewN | apply blk_drew | apply blk_alloc); refine blk_put (cs := #[.int .i64 ((rd_T108 l0_1 x7_1).f0), .int .i64 0, .slice none 0 0]) ?_ 1 _ rfl; (with_reducible repeat first | apply blk_drewN | apply blk_drew | apply blk_alloc); refine blk_put (cs := #[.int .i64 0, .int .i64 0, .slice none 0 0]) ?_ 0 _ rfl; (with_reducible repeat first | apply blk_drewN | apply blk_drew | apply blk_alloc); exact BK295.out) hb); have n2_ := Aside0.mk (below_step (by repeat (first | (with_reducible first | exact HB.out | apply below_alloc | apply pw_below_drewN | apply below_drew1 | refine below_set ?_ GE293.out | refine below_set ?_ GE295.out) | exact HB.out)) hb); clear BK293; clear BK295; clear HB; have BK293 := n0_; have BK295 := n1_; have HB := n2_; clear n0_ n1_ n2_; (try clear hb); (try clear hb2); (try clear hk); (try clear hi)))
              go_ret
              exact ⟨by first | rfl | (simp [*, errW_none, errW_some] <;> rfl), by repeat (first | (with_reducible first | exact HB.out | apply below_alloc | apply pw_below_drewN | apply below_drew1 | refine below_set ?_ GE293.out | refine below_set ?_ GE295.out) | exact HB.out)⟩
          · replace c8 := Bool.eq_false_iff.mpr c8
            subst c8
            have H1 : (spec_l06Above.l0 k1 a1 a2 (wrap64 (x7_1 + 1)) l0_0 l0_1) = some r := by rw [if_neg (show ¬ (false = true) by decide)] at H; exact H
            clear H
            have H := H1
            clear H1
            have H' := Aside0.mk H
            clear H
            have hcz21_0 : wr.cell? ⟨gb293, 0, none⟩ = some (.slice A0_0 l0_0.length c0_0) := (blk_cell BK293.out 0).trans rfl
            have hcz21_1 : wr.cell? ⟨gb293, 1, none⟩ = some (.slice A0_1 l0_1.length c0_1) := (blk_cell BK293.out 1).trans rfl
            have hfz21_0 := blk_frozen BK293.out 0
            have hfz21_1 := blk_frozen BK293.out 1
            have p294 : 0 ≤ (x7_1 : Int) := of_decide_eq_true (by assumption)
            have q294 : x7_1 < (l0_1.length : Int) := of_decide_eq_true (by assumption)
            obtain ⟨ad294, A294_2, c294_2, e294, hx294_0, hx294_1, hx294_2, hl294_2, hi294_2⟩ := at_T108 HR0_1.out x7_1 p294 q294
            cases e294
            replace hx294_0 := (HB.out.cell (World.block_lt_of_cell? w _ hx294_0)).trans hx294_0
            replace hx294_1 := (HB.out.cell (World.block_lt_of_cell? w _ hx294_1)).trans hx294_1
            replace hx294_2 := (HB.out.cell (World.block_lt_of_cell? w _ hx294_2)).trans hx294_2
            have HR294_2 := Aside0.mk hi294_2
            have HC294_2 := Aside0.mk hl294_2
            clear hi294_2 hl294_2
            replace p294 := eq_true p294
            replace q294 := eq_true q294
            go_wp2_with (first | ((with_reducible refine gate_dst (N := 8) rfl ?_); refine box_event ?hg (N := 8) ?hd (cs := #[.int .i64 0, .int .i64 0, .slice none 0 0]) (t := 108) ?hr ?_; (case hd => rfl); (case hg => rfl); (case hr => first | (go_simp; done) | (go_simp; rfl)); intro gb295 hg w22 hbox hb; have n0_ := Aside0.mk (blk_below (g := gb293) (o := .cells #[.slice A0_0 l0_0.length c0_0, .slice (some ad294) l0_1.length c0_1] 31 (0, 0)) (by (with_reducible repeat first | apply blk_drewN | apply blk_drew | apply blk_alloc); exact BK293.out) hb); have n1_ := Aside0.mk (below_step (by repeat (first | (with_reducible first | exact HB.out | apply below_alloc | apply pw_below_drewN | apply below_drew1 | refine below_set ?_ GE293.out) | exact HB.out)) hb); have n2_ := Aside0.mk (hbox); have n3_ := Aside0.mk ((by rw [hg]; exact (below_size (by repeat (first | (with_reducible first | exact HB.out | apply below_alloc | apply pw_below_drewN | apply below_drew1 | refine below_set ?_ GE293.out) | exact HB.out))) : w.heap.size ≤ gb295)); have n4_ := Aside0.mk ((by rw [hg]; exact (below_size (by repeat (first | (with_reducible first | exact HB.out | apply below_alloc | apply pw_below_drewN | apply below_drew1 | refine below_set ?_ GE293.out) | exact HB.out))) : w.heap.size ≤ gb295)); have n5_ := Aside0.mk ((by rw [hg]; exact Nat.ne_of_lt (blk_lt (g := gb293) (o := .cells #[.slice A0_0 l0_0.length c0_0, .slice (some ad294) l0_1.length c0_1] 31 (0, 0)) (by (with_reducible repeat first | apply blk_drewN | apply blk_drew | apply blk_alloc); exact BK293.out)) : gb293 ≠ gb295)); have n6_ := Aside0.mk ((by rw [hg]; exact Nat.ne_of_gt (blk_lt (g := gb293) (o := .cells #[.slice A0_0 l0_0.length c0_0, .slice (some ad294) l0_1.length c0_1] 31 (0, 0)) (by (with_reducible repeat first | apply blk_drewN | apply blk_drew | apply blk_alloc); exact BK293.out)) : gb295 ≠ gb293)); clear BK293; clear HB; have BK293 := n0_; have HB := n1_; have BK295 := n2_; have GW295 := n3_; have GE295 := n4_; have NB293_295 := n5_; have NB295_293 := n6_; clear n0_ n1_ n2_ n3_ n4_ n5_ n6_; clear hb hbox hg; have hnb23 := NB295_293.out; have hnc23 := NB293_295.out; have hcz24_0 : w22.cell? ⟨gb295, 0, none⟩ = some (.int .i64 0) := (blk_cell BK295.out 0).trans rfl; have hcz24_1 : w22.cell? ⟨gb295, 1, none⟩ = some (.int .i64 0) := (blk_cell BK295.out 1).trans rfl; have hcz24_2 : w22.cell? ⟨gb295, 2, none⟩ = some (.slice none 0 0) := (blk_cell BK295.out 2).trans rfl; have hfz24_0 := blk_frozen BK295.out 0; have hfz24_1 := blk_frozen BK295.out 1; have hfz24_2 := blk_frozen BK295.out 2) | ((with_reducible refine gate_callee (f := 83) rfl ?_); refine goesL_ (some 24) rfl rfl Try.func83 (by kernel_rfl) rfl #[.slice A294_2 ((rd_T108 l0_1 x7_1).f2).length c294_2, .int .i64 a1] rfl (by (try simp only [List.map_toArray, List.map_cons, List.map_nil]); first | done | rfl | (simp only [List.length_drop, List.length_take]; rfl)) ?_; (with_reducible refine (spec_l00Has.calls k1 _ _ ((rd_T108 l0_1 x7_1).f2) a1 false _ ?side1 ?side2 A7.out).mono ?_); (case side1 => exact Kd.C_below HR294_2.out (by repeat (first | (with_reducible first | exact HB.out | apply below_alloc | apply pw_below_drewN | apply below_drew1 | refine below_set ?_ GE293.out | refine below_set ?_ GE295.out) | exact HB.out))); (case side2 => exact HC294_2.out); rintro e w' ⟨rfl, ⟨nd, rfl⟩⟩; refine ⟨_, rfl, ?_⟩))
            go_roundg k1
            case measure => have := HK1.out; omega
            case rel => exact ⟨(wrap64 (x7_1 + 1)), (by first | rfl | (simp; done) | (simp [*]; done)), H', ⟨by have := HK1.out; omega⟩, ⟨by (with_reducible repeat first | apply blk_drewN | apply blk_drew | apply blk_alloc); refine blk_far ?_ NB293_295.out _; (with_reducible repeat first | apply blk_drewN | apply blk_drew | apply blk_alloc); refine blk_far ?_ NB293_295.out _; (with_reducible repeat first | apply blk_drewN | apply blk_drew | apply blk_alloc); refine blk_far ?_ NB293_295.out _; (with_reducible repeat first | apply blk_drewN | apply blk_drew | apply blk_alloc); exact BK293.out⟩, ⟨by repeat (first | (with_reducible first | exact HB.out | apply below_alloc | apply pw_below_drewN | apply below_drew1 | refine below_set ?_ GE293.out | refine below_set ?_ GE295.out) | exact HB.out)⟩⟩
        · rw [if_neg c6] at H
          exact absurd H (by simp)
      · rw [if_neg c5] at H
        have c5b0 : decide (x7_1 < (l0_1.length : Int)) = false := decide_eq_false c5
        clear c5
        obtain rfl := Option.some.inj H
        have hcz25_0 : wr.cell? ⟨gb293, 0, none⟩ = some (.slice A0_0 l0_0.length c0_0) := (blk_cell BK293.out 0).trans rfl
        have hcz25_1 : wr.cell? ⟨gb293, 1, none⟩ = some (.slice A0_1 l0_1.length c0_1) := (blk_cell BK293.out 1).trans rfl
        have hfz25_0 := blk_frozen BK293.out 0
        have hfz25_1 := blk_frozen BK293.out 1
        go_wp2
        go_ret
        exact ⟨by first | rfl | (simp [*, errW_none, errW_some] <;> rfl), by repeat (first | (with_reducible first | exact HB.out | apply below_alloc | apply pw_below_drewN | apply below_drew1 | refine below_set ?_ GE293.out) | exact HB.out)⟩

end Go.Proofs.Ytkadeelplnkpgaa.Q
