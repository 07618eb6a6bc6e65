/- Walks and plain laws of one claim, several texts in one. -/
import Derived.Test.YtlocignlkigojaaQ0
import Derived.Test.YtlocignlkigojaaQf135
import Derived.Test.YtlocignlkigojaaQf54
import Derived.Test.YtlocignlkigojaaQf92
import Derived.Test.YtlocignlkigojaaQf51
import Derived.Test.YtlocignlkigojaaQf53
import Derived.Test.YtlocignlkigojaaQf55
import Derived.Test.YtlocignlkigojaaQf71
import Derived.Test.YtlocignlkigojaaWMore
import Derived.Test.YtlocignlkigojaaQf96
import Derived.Test.YtlocignlkigojaaQf30
import Derived.Test.YtlocignlkigojaaQf113
import Derived.Test.YtlocignlkigojaaOTypes
-- text Qf72
namespace Go.Proofs.Ytlocignlkigojaa.Q
open Go.RowKit Go.Proofs.YtlocignlkigojaaW.PrintWords Go.Proofs.YtlocignlkigojaaW.PrintLast Go.Proofs.YtlocignlkigojaaW.PrintMore
attribute [local go_sem] max2_int min2_int max_two min_two max_three min_three max_four min_four   -- for this text's walks alone
set_option linter.unusedVariables false
set_option linter.unusedSimpArgs false

/-! ### impl_CellOf: function 72 -/
def impl_CellOf.f (a0_0 : Int) (a0_1 : Int) (a0_2 : Int) (a0_3 : Int) (l0_4 : List ByteArray) (a1 : Int) : Option (Int × Int × Int) := (impl_WideOk.f a0_0 a0_1 a0_2 a0_3 l0_4).bind fun t770 => (if t770 = true then ((impl_between.f a1 0 (wrap64 (a0_3 - 1))).bind fun t771 => (if t771 = true then ((impl_Wide_cell.f a0_0 a0_1 a0_2 a0_3 l0_4 a1).bind fun bt772 => (some (bt772.1, bt772.2, 0))) else (some (0, 0, 2)))) else (some (0, 0, 1)))
set_option maxHeartbeats 8000000 in
set_option maxRecDepth 100000 in
theorem impl_CellOf.calls (a0_0 : Int) (a0_1 : Int) (a0_2 : Int) (a0_3 : Int) (A0_4 : Option Addr) (c0_4 : Nat) (l0_4 : List ByteArray) (a1 : Int) (r1 : Int) (r2 : Int) (r3 : Int) (w : World) (hr0_4 : Kd.C Kd.string w A0_4 l0_4.length l0_4) (hc0_4 : l0_4.length ≤ c0_4) (h : impl_CellOf.f a0_0 a0_1 a0_2 a0_3 l0_4 a1 = some (r1, r2, r3)) :
    Calls Try.prog 72 #[.agg #[.int .i64 a0_0, .int .i64 a0_1, .int .i64 a0_2, .int .i64 a0_3, .slice A0_4 l0_4.length c0_4], .int .i64 a1] w fun e w' => e = .returned (.tuple #[.int .i64 r1, .int .i64 r2, .int .i64 r3]) ∧ Below w.heap.size w w' := by
  have hu83 := Try.underlying83
  have HR0_4 := Aside0.mk hr0_4
  have HC0_4 := Aside0.mk hc0_4
  clear hr0_4 hc0_4
  have HB := Aside0.mk (Below.refl w.heap.size w)
  have H : ((impl_WideOk.f a0_0 a0_1 a0_2 a0_3 l0_4).bind fun t770 => (if t770 = true then ((impl_between.f a1 0 (wrap64 (a0_3 - 1))).bind fun t771 => (if t771 = true then ((impl_Wide_cell.f a0_0 a0_1 a0_2 a0_3 l0_4 a1).bind fun bt772 => (some (bt772.1, bt772.2, 0))) else (some (0, 0, 2)))) else (some (0, 0, 1)))) = some (r1, r2, r3) := h
  clear h
  replace H := Option.bind_eq_some_iff.mp H
  obtain ⟨t770, A30, H⟩ := H
  replace H : (if t770 = true then ((impl_between.f a1 0 (wrap64 (a0_3 - 1))).bind fun t771 => (if t771 = true then ((impl_Wide_cell.f a0_0 a0_1 a0_2 a0_3 l0_4 a1).bind fun bt772 => (some (bt772.1, bt772.2, 0))) else (some (0, 0, 2)))) else (some (0, 0, 1))) = some (r1, r2, r3) := H
  have A3 := Aside0.mk A30
  clear A30
  by_cases c4 : t770 = true
  · subst c4
    have H1 : ((impl_between.f a1 0 (wrap64 (a0_3 - 1))).bind fun t771 => (if t771 = true then ((impl_Wide_cell.f a0_0 a0_1 a0_2 a0_3 l0_4 a1).bind fun bt772 => (some (bt772.1, bt772.2, 0))) else (some (0, 0, 2)))) = some (r1, r2, r3) := by rw [if_pos rfl] at H; exact H
    clear H
    have H := H1
    clear H1
    replace H := Option.bind_eq_some_iff.mp H
    obtain ⟨t771, A50, H⟩ := H
    replace H : (if t771 = true then ((impl_Wide_cell.f a0_0 a0_1 a0_2 a0_3 l0_4 a1).bind fun bt772 => (some (bt772.1, bt772.2, 0))) else (some (0, 0, 2))) = some (r1, r2, r3) := H
    have A5 := Aside0.mk A50
    clear A50
    by_cases c6 : t771 = true
    · subst c6
      have H1 : ((impl_Wide_cell.f a0_0 a0_1 a0_2 a0_3 l0_4 a1).bind fun bt772 => (some (bt772.1, bt772.2, 0))) = some (r1, r2, r3) := by rw [if_pos rfl] at H; exact H
      clear H
      have H := H1
      clear H1
      replace H := Option.bind_eq_some_iff.mp H
      obtain ⟨⟨t772, t773⟩, A70, H⟩ := H
      replace H : (some (t772, t773, 0)) = some (r1, r2, r3) := H
      have A7 := Aside0.mk A70
      clear A70
      simp only [Option.some.injEq, Prod.mk.injEq] at H
      obtain ⟨rfl, rfl, rfl⟩ := H
      go_enter Try.func72, Try.ntmps72
      go_wp2_with (first | ((with_reducible refine gate_dst (N := 2) rfl ?_); refine box_event ?hg (N := 2) ?hd (cs := #[.int .i64 a0_0, .int .i64 a0_1, .int .i64 a0_2, .int .i64 a0_3, .slice A0_4 l0_4.length c0_4]) (t := 83) ?hr ?_; (case hd => rfl); (case hg => rfl); (case hr => first | (go_simp; done) | (go_simp; rfl)); intro gb769 hg w8 hbox hb; have n0_ := Aside0.mk (below_step (by repeat (first | (with_reducible first | exact HB.out | apply below_alloc | apply pw_below_drewN | apply below_drew1) | exact HB.out)) hb); have n1_ := Aside0.mk (hbox); have n2_ := Aside0.mk ((by rw [hg]; exact (below_size (by repeat (first | (with_reducible first | exact HB.out | apply below_alloc | apply pw_below_drewN | apply below_drew1) | exact HB.out))) : w.heap.size ≤ gb769)); have n3_ := Aside0.mk ((by rw [hg]; exact (below_size (by repeat (first | (with_reducible first | exact HB.out | apply below_alloc | apply pw_below_drewN | apply below_drew1) | exact HB.out))) : w.heap.size ≤ gb769)); clear HB; have HB := n0_; have BK769 := n1_; have GW769 := n2_; have GE769 := n3_; clear n0_ n1_ n2_ n3_; clear hb hbox hg; have hcz9_0 : w8.cell? ⟨gb769, 0, none⟩ = some (.int .i64 a0_0) := (blk_cell BK769.out 0).trans rfl; have hcz9_1 : w8.cell? ⟨gb769, 1, none⟩ = some (.int .i64 a0_1) := (blk_cell BK769.out 1).trans rfl; have hcz9_2 : w8.cell? ⟨gb769, 2, none⟩ = some (.int .i64 a0_2) := (blk_cell BK769.out 2).trans rfl; have hcz9_3 : w8.cell? ⟨gb769, 3, none⟩ = some (.int .i64 a0_3) := (blk_cell BK769.out 3).trans rfl; have hcz9_4 : w8.cell? ⟨gb769, 4, none⟩ = some (.slice A0_4 l0_4.length c0_4) := (blk_cell BK769.out 4).trans rfl; have hfz9_0 := blk_frozen BK769.out 0; have hfz9_1 := blk_frozen BK769.out 1; have hfz9_2 := blk_frozen BK769.out 2; have hfz9_3 := blk_frozen BK769.out 3; have hfz9_4 := blk_frozen BK769.out 4) | ((with_reducible refine gate_callee (f := 54) rfl ?_); refine goesL_ (some 11) rfl rfl Try.func54 (by kernel_rfl) rfl #[.agg #[.int .i64 a0_0, .int .i64 a0_1, .int .i64 a0_2, .int .i64 a0_3, .slice A0_4 l0_4.length c0_4]] rfl (by (try simp only [List.map_toArray, List.map_cons, List.map_nil]); first | done | rfl | (simp only [List.length_drop, List.length_take]; rfl)) ?_; (with_reducible refine (impl_WideOk.calls a0_0 a0_1 a0_2 a0_3 _ _ l0_4 true _ ?side1 ?side2 A3.out).mono ?_); (case side1 => repeat (first | exact (Kd.C_below HR0_4.out HB.out) | (with_reducible refine Kd.C_alloc ?_ _) | (with_reducible refine Kd.C_drewN ?_ _) | (with_reducible refine Kd.C_drew ?_))); (case side2 => exact HC0_4.out); rintro e w10 ⟨rfl, hb⟩; refine ⟨_, rfl, ?_⟩; have n0_ := Aside0.mk (blk_below (g := gb769) (o := .cells #[.int .i64 a0_0, .int .i64 a0_1, .int .i64 a0_2, .int .i64 a0_3, .slice A0_4 l0_4.length c0_4] 83 (0, 0)) (by (with_reducible repeat (first | refine blk_drewN ?_ _ | refine blk_drew ?_ | refine blk_alloc ?_ _)); exact BK769.out) hb); have n1_ := Aside0.mk (below_step (by repeat (first | (with_reducible first | exact HB.out | apply below_alloc | apply pw_below_drewN | apply below_drew1 | refine below_set ?_ GE769.out) | exact HB.out)) hb); clear BK769; clear HB; have BK769 := n0_; have HB := n1_; clear n0_ n1_; (try clear hb); (try clear hb2); (try clear hk); (try clear hi); have hcz11_0 : w10.cell? ⟨gb769, 0, none⟩ = some (.int .i64 a0_0) := (blk_cell BK769.out 0).trans rfl; have hcz11_1 : w10.cell? ⟨gb769, 1, none⟩ = some (.int .i64 a0_1) := (blk_cell BK769.out 1).trans rfl; have hcz11_2 : w10.cell? ⟨gb769, 2, none⟩ = some (.int .i64 a0_2) := (blk_cell BK769.out 2).trans rfl; have hcz11_3 : w10.cell? ⟨gb769, 3, none⟩ = some (.int .i64 a0_3) := (blk_cell BK769.out 3).trans rfl; have hcz11_4 : w10.cell? ⟨gb769, 4, none⟩ = some (.slice A0_4 l0_4.length c0_4) := (blk_cell BK769.out 4).trans rfl; have hfz11_0 := blk_frozen BK769.out 0; have hfz11_1 := blk_frozen BK769.out 1; have hfz11_2 := blk_frozen BK769.out 2; have hfz11_3 := blk_frozen BK769.out 3; have hfz11_4 := blk_frozen BK769.out 4) | ((with_reducible refine gate_callee (f := 92) rfl ?_); refine goesL_ (some 18) rfl rfl Try.func92 (by kernel_rfl) rfl #[.int .i64 a1, .int .i64 0, .int .i64 (wrap64 (a0_3 - 1))] rfl (by (try simp only [List.map_toArray, List.map_cons, List.map_nil]); first | done | rfl | (simp only [List.length_drop, List.length_take]; rfl)) ?_; (with_reducible refine (impl_between.calls a1 0 (wrap64 (a0_3 - 1)) true _ A5.out).mono ?_); rintro e w' ⟨rfl, ⟨nd, rfl⟩⟩; refine ⟨_, rfl, ?_⟩) | ((with_reducible refine gate_callee (f := 135) rfl ?_); refine goesL_ (some 23) rfl rfl Try.func135 (by kernel_rfl) rfl #[.agg #[.int .i64 a0_0, .int .i64 a0_1, .int .i64 a0_2, .int .i64 a0_3, .slice A0_4 l0_4.length c0_4], .int .i64 a1] rfl (by (try simp only [List.map_toArray, List.map_cons, List.map_nil]); first | done | rfl | (simp only [List.length_drop, List.length_take]; rfl)) ?_; (with_reducible refine (impl_Wide_cell.calls a0_0 a0_1 a0_2 a0_3 _ _ l0_4 a1 t772 t773 _ ?side1 ?side2 A7.out).mono ?_); (case side1 => repeat (first | exact (Kd.C_below HR0_4.out (by repeat (first | (with_reducible first | exact HB.out | apply below_alloc | apply pw_below_drewN | apply below_drew1 | refine below_set ?_ GE769.out) | exact HB.out))) | (with_reducible refine Kd.C_alloc ?_ _) | (with_reducible refine Kd.C_drewN ?_ _) | (with_reducible refine Kd.C_drew ?_))); (case side2 => exact HC0_4.out); rintro e w12 ⟨rfl, hb⟩; refine ⟨_, rfl, ?_⟩; have n0_ := Aside0.mk (blk_below (g := gb769) (o := .cells #[.int .i64 a0_0, .int .i64 a0_1, .int .i64 a0_2, .int .i64 a0_3, .slice A0_4 l0_4.length c0_4] 83 (0, 0)) (by (with_reducible repeat (first | refine blk_drewN ?_ _ | refine blk_drew ?_ | refine blk_alloc ?_ _)); exact BK769.out) hb); have n1_ := Aside0.mk (below_step (by repeat (first | (with_reducible first | exact HB.out | apply below_alloc | apply pw_below_drewN | apply below_drew1 | refine below_set ?_ GE769.out) | exact HB.out)) hb); clear BK769; clear HB; have BK769 := n0_; have HB := n1_; clear n0_ n1_; (try clear hb); (try clear hb2); (try clear hk); (try clear hi)))
      go_ret3
      exact ⟨by first | rfl | (simp [errW_none, errW_some] <;> rfl) | (simp [*, errW_none, errW_some] <;> rfl), by repeat (first | (with_reducible first | exact HB.out | apply below_alloc | apply pw_below_drewN | apply below_drew1 | refine below_set ?_ GE769.out) | exact HB.out)⟩
    · replace c6 := Bool.eq_false_iff.mpr c6
      subst c6
      have H1 : (some (0, 0, 2)) = some (r1, r2, r3) := by rw [if_neg (show ¬ (false = true) by decide)] at H; exact H
      clear H
      have H := H1
      clear H1
      simp only [Option.some.injEq, Prod.mk.injEq] at H
      obtain ⟨rfl, rfl, rfl⟩ := H
      go_enter Try.func72, Try.ntmps72
      go_wp2_with (first | ((with_reducible refine gate_dst (N := 2) rfl ?_); refine box_event ?hg (N := 2) ?hd (cs := #[.int .i64 a0_0, .int .i64 a0_1, .int .i64 a0_2, .int .i64 a0_3, .slice A0_4 l0_4.length c0_4]) (t := 83) ?hr ?_; (case hd => rfl); (case hg => rfl); (case hr => first | (go_simp; done) | (go_simp; rfl)); intro gb769 hg w13 hbox hb; have n0_ := Aside0.mk (below_step (by repeat (first | (with_reducible first | exact HB.out | apply below_alloc | apply pw_below_drewN | apply below_drew1) | exact HB.out)) hb); have n1_ := Aside0.mk (hbox); have n2_ := Aside0.mk ((by rw [hg]; exact (below_size (by repeat (first | (with_reducible first | exact HB.out | apply below_alloc | apply pw_below_drewN | apply below_drew1) | exact HB.out))) : w.heap.size ≤ gb769)); have n3_ := Aside0.mk ((by rw [hg]; exact (below_size (by repeat (first | (with_reducible first | exact HB.out | apply below_alloc | apply pw_below_drewN | apply below_drew1) | exact HB.out))) : w.heap.size ≤ gb769)); clear HB; have HB := n0_; have BK769 := n1_; have GW769 := n2_; have GE769 := n3_; clear n0_ n1_ n2_ n3_; clear hb hbox hg; have hcz14_0 : w13.cell? ⟨gb769, 0, none⟩ = some (.int .i64 a0_0) := (blk_cell BK769.out 0).trans rfl; have hcz14_1 : w13.cell? ⟨gb769, 1, none⟩ = some (.int .i64 a0_1) := (blk_cell BK769.out 1).trans rfl; have hcz14_2 : w13.cell? ⟨gb769, 2, none⟩ = some (.int .i64 a0_2) := (blk_cell BK769.out 2).trans rfl; have hcz14_3 : w13.cell? ⟨gb769, 3, none⟩ = some (.int .i64 a0_3) := (blk_cell BK769.out 3).trans rfl; have hcz14_4 : w13.cell? ⟨gb769, 4, none⟩ = some (.slice A0_4 l0_4.length c0_4) := (blk_cell BK769.out 4).trans rfl; have hfz14_0 := blk_frozen BK769.out 0; have hfz14_1 := blk_frozen BK769.out 1; have hfz14_2 := blk_frozen BK769.out 2; have hfz14_3 := blk_frozen BK769.out 3; have hfz14_4 := blk_frozen BK769.out 4) | ((with_reducible refine gate_callee (f := 54) rfl ?_); refine goesL_ (some 11) rfl rfl Try.func54 (by kernel_rfl) rfl #[.agg #[.int .i64 a0_0, .int .i64 a0_1, .int .i64 a0_2, .int .i64 a0_3, .slice A0_4 l0_4.length c0_4]] rfl (by (try simp only [List.map_toArray, List.map_cons, List.map_nil]); first | done | rfl | (simp only [List.length_drop, List.length_take]; rfl)) ?_; (with_reducible refine (impl_WideOk.calls a0_0 a0_1 a0_2 a0_3 _ _ l0_4 true _ ?side1 ?side2 A3.out).mono ?_); (case side1 => repeat (first | exact (Kd.C_below HR0_4.out HB.out) | (with_reducible refine Kd.C_alloc ?_ _) | (with_reducible refine Kd.C_drewN ?_ _) | (with_reducible refine Kd.C_drew ?_))); (case side2 => exact HC0_4.out); rintro e w15 ⟨rfl, hb⟩; refine ⟨_, rfl, ?_⟩; have n0_ := Aside0.mk (blk_below (g := gb769) (o := .cells #[.int .i64 a0_0, .int .i64 a0_1, .int .i64 a0_2, .int .i64 a0_3, .slice A0_4 l0_4.length c0_4] 83 (0, 0)) (by (with_reducible repeat (first | refine blk_drewN ?_ _ | refine blk_drew ?_ | refine blk_alloc ?_ _)); exact BK769.out) hb); have n1_ := Aside0.mk (below_step (by repeat (first | (with_reducible first | exact HB.out | apply below_alloc | apply pw_below_drewN | apply below_drew1 | refine below_set ?_ GE769.out) | exact HB.out)) hb); clear BK769; clear HB; have BK769 := n0_; have HB := n1_; clear n0_ n1_; (try clear hb); (try clear hb2); (try clear hk); (try clear hi); have hcz16_0 : w15.cell? ⟨gb769, 0, none⟩ = some (.int .i64 a0_0) := (blk_cell BK769.out 0).trans rfl; have hcz16_1 : w15.cell? ⟨gb769, 1, none⟩ = some (.int .i64 a0_1) := (blk_cell BK769.out 1).trans rfl; have hcz16_2 : w15.cell? ⟨gb769, 2, none⟩ = some (.int .i64 a0_2) := (blk_cell BK769.out 2).trans rfl; have hcz16_3 : w15.cell? ⟨gb769, 3, none⟩ = some (.int .i64 a0_3) := (blk_cell BK769.out 3).trans rfl; have hcz16_4 : w15.cell? ⟨gb769, 4, none⟩ = some (.slice A0_4 l0_4.length c0_4) := (blk_cell BK769.out 4).trans rfl; have hfz16_0 := blk_frozen BK769.out 0; have hfz16_1 := blk_frozen BK769.out 1; have hfz16_2 := blk_frozen BK769.out 2; have hfz16_3 := blk_frozen BK769.out 3; have hfz16_4 := blk_frozen BK769.out 4) | ((with_reducible refine gate_callee (f := 92) rfl ?_); refine goesL_ (some 18) rfl rfl Try.func92 (by kernel_rfl) rfl #[.int .i64 a1, .int .i64 0, .int .i64 (wrap64 (a0_3 - 1))] rfl (by (try simp only [List.map_toArray, List.map_cons, List.map_nil]); first | done | rfl | (simp only [List.length_drop, List.length_take]; rfl)) ?_; (with_reducible refine (impl_between.calls a1 0 (wrap64 (a0_3 - 1)) false _ A5.out).mono ?_); rintro e w' ⟨rfl, ⟨nd, rfl⟩⟩; refine ⟨_, rfl, ?_⟩))
      go_ret3
      exact ⟨by first | rfl | (simp [errW_none, errW_some] <;> rfl) | (simp [*, errW_none, errW_some] <;> rfl), by repeat (first | (with_reducible first | exact HB.out | apply below_alloc | apply pw_below_drewN | apply below_drew1 | refine below_set ?_ GE769.out) | exact HB.out)⟩
  · replace c4 := Bool.eq_false_iff.mpr c4
    subst c4
    have H1 : (some (0, 0, 1)) = some (r1, r2, r3) := by rw [if_neg (show ¬ (false = true) by decide)] at H; exact H
    clear H
    have H := H1
    clear H1
    simp only [Option.some.injEq, Prod.mk.injEq] at H
    obtain ⟨rfl, rfl, rfl⟩ := H
    go_enter Try.func72, Try.ntmps72
    go_wp2_with (first | ((with_reducible refine gate_dst (N := 2) rfl ?_); refine box_event ?hg (N := 2) ?hd (cs := #[.int .i64 a0_0, .int .i64 a0_1, .int .i64 a0_2, .int .i64 a0_3, .slice A0_4 l0_4.length c0_4]) (t := 83) ?hr ?_; (case hd => rfl); (case hg => rfl); (case hr => first | (go_simp; done) | (go_simp; rfl)); intro gb769 hg w17 hbox hb; have n0_ := Aside0.mk (below_step (by repeat (first | (with_reducible first | exact HB.out | apply below_alloc | apply pw_below_drewN | apply below_drew1) | exact HB.out)) hb); have n1_ := Aside0.mk (hbox); have n2_ := Aside0.mk ((by rw [hg]; exact (below_size (by repeat (first | (with_reducible first | exact HB.out | apply below_alloc | apply pw_below_drewN | apply below_drew1) | exact HB.out))) : w.heap.size ≤ gb769)); have n3_ := Aside0.mk ((by rw [hg]; exact (below_size (by repeat (first | (with_reducible first | exact HB.out | apply below_alloc | apply pw_below_drewN | apply below_drew1) | exact HB.out))) : w.heap.size ≤ gb769)); clear HB; have HB := n0_; have BK769 := n1_; have GW769 := n2_; have GE769 := n3_; clear n0_ n1_ n2_ n3_; clear hb hbox hg; have hcz18_0 : w17.cell? ⟨gb769, 0, none⟩ = some (.int .i64 a0_0) := (blk_cell BK769.out 0).trans rfl; have hcz18_1 : w17.cell? ⟨gb769, 1, none⟩ = some (.int .i64 a0_1) := (blk_cell BK769.out 1).trans rfl; have hcz18_2 : w17.cell? ⟨gb769, 2, none⟩ = some (.int .i64 a0_2) := (blk_cell BK769.out 2).trans rfl; have hcz18_3 : w17.cell? ⟨gb769, 3, none⟩ = some (.int .i64 a0_3) := (blk_cell BK769.out 3).trans rfl; have hcz18_4 : w17.cell? ⟨gb769, 4, none⟩ = some (.slice A0_4 l0_4.length c0_4) := (blk_cell BK769.out 4).trans rfl; have hfz18_0 := blk_frozen BK769.out 0; have hfz18_1 := blk_frozen BK769.out 1; have hfz18_2 := blk_frozen BK769.out 2; have hfz18_3 := blk_frozen BK769.out 3; have hfz18_4 := blk_frozen BK769.out 4) | ((with_reducible refine gate_callee (f := 54) rfl ?_); refine goesL_ (some 11) rfl rfl Try.func54 (by kernel_rfl) rfl #[.agg #[.int .i64 a0_0, .int .i64 a0_1, .int .i64 a0_2, .int .i64 a0_3, .slice A0_4 l0_4.length c0_4]] rfl (by (try simp only [List.map_toArray, List.map_cons, List.map_nil]); first | done | rfl | (simp only [List.length_drop, List.length_take]; rfl)) ?_; (with_reducible refine (impl_WideOk.calls a0_0 a0_1 a0_2 a0_3 _ _ l0_4 false _ ?side1 ?side2 A3.out).mono ?_); (case side1 => repeat (first | exact (Kd.C_below HR0_4.out HB.out) | (with_reducible refine Kd.C_alloc ?_ _) | (with_reducible refine Kd.C_drewN ?_ _) | (with_reducible refine Kd.C_drew ?_))); (case side2 => exact HC0_4.out); rintro e w19 ⟨rfl, hb⟩; refine ⟨_, rfl, ?_⟩; have n0_ := Aside0.mk (blk_below (g := gb769) (o := .cells #[.int .i64 a0_0, .int .i64 a0_1, .int .i64 a0_2, .int .i64 a0_3, .slice A0_4 l0_4.length c0_4] 83 (0, 0)) (by (with_reducible repeat (first | refine blk_drewN ?_ _ | refine blk_drew ?_ | refine blk_alloc ?_ _)); exact BK769.out) hb); have n1_ := Aside0.mk (below_step (by repeat (first | (with_reducible first | exact HB.out | apply below_alloc | apply pw_below_drewN | apply below_drew1 | refine below_set ?_ GE769.out) | exact HB.out)) hb); clear BK769; clear HB; have BK769 := n0_; have HB := n1_; clear n0_ n1_; (try clear hb); (try clear hb2); (try clear hk); (try clear hi)))
    go_ret3
    exact ⟨by first | rfl | (simp [errW_none, errW_some] <;> rfl) | (simp [*, errW_none, errW_some] <;> rfl), by repeat (first | (with_reducible first | exact HB.out | apply below_alloc | apply pw_below_drewN | apply below_drew1 | refine below_set ?_ GE769.out) | exact HB.out)⟩

end Go.Proofs.Ytlocignlkigojaa.Q

-- text Qf15
namespace Go.Proofs.Ytlocignlkigojaa.Q
open Go.RowKit Go.Proofs.YtlocignlkigojaaW.PrintWords Go.Proofs.YtlocignlkigojaaW.PrintLast Go.Proofs.YtlocignlkigojaaW.PrintMore
attribute [local go_sem] max2_int min2_int max_two min_two max_three min_three max_four min_four   -- for this text's walks alone
set_option linter.unusedVariables false
set_option linter.unusedSimpArgs false

/-! ### laws_FnExactCellOf: function 15 -/
def laws_FnExactCellOf.j0 : Nat → Bool → Int → Int → Int → Int → List ByteArray → Int → Int → Int → Int → List ByteArray → Option (Bool)
  | 0, _, _, _, _, _, _, _, _, _, _, _ => none
  | k + 1, x47, x775000, x775001, x775002, x775003, x775004, x794000, x794001, x794002, x794003, x794004 => if x47 = true then (some false) else ((laws_toWide.f k x775000 x775001 x775002 x775003 x775004).bind fun bt797 => ((laws_eqWide.f k x794000 x794001 x794002 x794003 x794004 bt797.1 bt797.2.1 bt797.2.2.1 bt797.2.2.2.1 bt797.2.2.2.2).bind fun t804 => (if t804 = true then (some true) else (some false))))
def laws_FnExactCellOf.f (k : Nat) (a0_0 : Int) (a0_1 : Int) (a0_2 : Int) (a0_3 : Int) (l0_4 : List ByteArray) (a1 : Int) : Option (Bool) := (laws_szWide.f k a0_0 a0_1 a0_2 a0_3 l0_4 1048576).bind fun t775 => (if t775 < 0 then (some true) else ((laws_toWide.f k a0_0 a0_1 a0_2 a0_3 l0_4).bind fun bt776 => ((spec_CellOf.f k bt776.1 bt776.2.1 bt776.2.2.1 bt776.2.2.2.1 bt776.2.2.2.2 a1).bind fun bt783 => ((laws_toWide.f k a0_0 a0_1 a0_2 a0_3 l0_4).bind fun bt786 => ((impl_CellOf.f bt786.1 bt786.2.1 bt786.2.2.1 bt786.2.2.2.1 bt786.2.2.2.2 a1).bind fun bt794 => (if bt794.1 = bt783.1 then (if bt794.2.1 = bt783.2.1 then (laws_FnExactCellOf.j0 k (bt794.2.2 != bt783.2.2) a0_0 a0_1 a0_2 a0_3 l0_4 bt786.1 bt786.2.1 bt786.2.2.1 bt786.2.2.2.1 bt786.2.2.2.2) else (laws_FnExactCellOf.j0 k true a0_0 a0_1 a0_2 a0_3 l0_4 bt786.1 bt786.2.1 bt786.2.2.1 bt786.2.2.2.1 bt786.2.2.2.2)) else (laws_FnExactCellOf.j0 k true a0_0 a0_1 a0_2 a0_3 l0_4 bt786.1 bt786.2.1 bt786.2.2.1 bt786.2.2.2.1 bt786.2.2.2.2)))))))
theorem laws_FnExactCellOf.mono_l : ∀ k, (∀ y0 y1 y2 y3 y4 y5 y6 y7 y8 y9 y10, LeO (laws_FnExactCellOf.j0 k y0 y1 y2 y3 y4 y5 y6 y7 y8 y9 y10) (laws_FnExactCellOf.j0 (k + 1) y0 y1 y2 y3 y4 y5 y6 y7 y8 y9 y10))
  | 0 => fun _ _ _ _ _ _ _ _ _ _ _ r h => by simp [laws_FnExactCellOf.j0] at h
  | k + 1 => by
    have ih0 := laws_FnExactCellOf.mono_l k
    · intro y0 y1 y2 y3 y4 y5 y6 y7 y8 y9 y10
      unfold laws_FnExactCellOf.j0
      repeat' first
      | (with_reducible exact ih0 _ _ _ _ _ _ _ _ _ _ _)
      | (with_reducible exact laws_eqWide.mono _ _ _ _ _ _ _ _ _ _ _)
      | (with_reducible exact laws_szWide.mono _ _ _ _ _ _ _)
      | (with_reducible exact laws_toWide.mono _ _ _ _ _ _)
      | (with_reducible exact spec_CellOf.mono _ _ _ _ _ _ _)
      | (with_reducible exact LeO.refl _)
      | (with_reducible exact LeO.none _)
      | (with_reducible refine LeO.ite ?_ ?_)
      | (with_reducible refine LeO.bind ?_ (fun _ => ?_))
      | exact ih0 _ _ _ _ _ _ _ _ _ _ _
      | exact laws_eqWide.mono _ _ _ _ _ _ _ _ _ _ _
      | exact laws_szWide.mono _ _ _ _ _ _ _
      | exact laws_toWide.mono _ _ _ _ _ _
      | exact spec_CellOf.mono _ _ _ _ _ _ _
      | exact LeO.none _
      | refine LeO.ite ?_ ?_
      | refine LeO.bind ?_ (fun _ => ?_)
theorem laws_FnExactCellOf.mono : ∀ a0 a1 a2 a3 a4 a5 k, LeO (laws_FnExactCellOf.f k a0 a1 a2 a3 a4 a5) (laws_FnExactCellOf.f (k + 1) a0 a1 a2 a3 a4 a5) := by
  intro a0 a1 a2 a3 a4 a5 k
  have ih0 := laws_FnExactCellOf.mono_l k
  unfold laws_FnExactCellOf.f
  repeat' first
      | (with_reducible exact ih0 _ _ _ _ _ _ _ _ _ _ _)
      | (with_reducible exact laws_eqWide.mono _ _ _ _ _ _ _ _ _ _ _)
      | (with_reducible exact laws_szWide.mono _ _ _ _ _ _ _)
      | (with_reducible exact laws_toWide.mono _ _ _ _ _ _)
      | (with_reducible exact spec_CellOf.mono _ _ _ _ _ _ _)
      | (with_reducible exact LeO.refl _)
      | (with_reducible exact LeO.none _)
      | (with_reducible refine LeO.ite ?_ ?_)
      | (with_reducible refine LeO.bind ?_ (fun _ => ?_))
      | exact ih0 _ _ _ _ _ _ _ _ _ _ _
      | exact laws_eqWide.mono _ _ _ _ _ _ _ _ _ _ _
      | exact laws_szWide.mono _ _ _ _ _ _ _
      | exact laws_toWide.mono _ _ _ _ _ _
      | exact spec_CellOf.mono _ _ _ _ _ _ _
      | exact LeO.none _
      | refine LeO.ite ?_ ?_
      | refine LeO.bind ?_ (fun _ => ?_)
set_option maxHeartbeats 8000000 in
set_option maxRecDepth 100000 in
theorem laws_FnExactCellOf.calls (k : Nat) (a0_0 : Int) (a0_1 : Int) (a0_2 : Int) (a0_3 : Int) (A0_4 : Option Addr) (c0_4 : Nat) (l0_4 : List ByteArray) (a1 : Int) (r : Bool) (w : World) (hr0_4 : Kd.C Kd.string w A0_4 l0_4.length l0_4) (hc0_4 : l0_4.length ≤ c0_4) (h : laws_FnExactCellOf.f k a0_0 a0_1 a0_2 a0_3 l0_4 a1 = some r) :
    Calls Try.prog 15 #[.agg #[.int .i64 a0_0, .int .i64 a0_1, .int .i64 a0_2, .int .i64 a0_3, .slice A0_4 l0_4.length c0_4], .int .i64 a1] w fun e w' => e = .returned (.bool r) ∧ Below w.heap.size w w' := by
  have hu79 := Try.underlying79
  have hu83 := Try.underlying83
  have HR0_4 := Aside0.mk hr0_4
  have HC0_4 := Aside0.mk hc0_4
  clear hr0_4 hc0_4
  have HB := Aside0.mk (Below.refl w.heap.size w)
  have H : ((laws_szWide.f k a0_0 a0_1 a0_2 a0_3 l0_4 1048576).bind fun t775 => (if t775 < 0 then (some true) else ((laws_toWide.f k a0_0 a0_1 a0_2 a0_3 l0_4).bind fun bt776 => ((spec_CellOf.f k bt776.1 bt776.2.1 bt776.2.2.1 bt776.2.2.2.1 bt776.2.2.2.2 a1).bind fun bt783 => ((laws_toWide.f k a0_0 a0_1 a0_2 a0_3 l0_4).bind fun bt786 => ((impl_CellOf.f bt786.1 bt786.2.1 bt786.2.2.1 bt786.2.2.2.1 bt786.2.2.2.2 a1).bind fun bt794 => (if bt794.1 = bt783.1 then (if bt794.2.1 = bt783.2.1 then (laws_FnExactCellOf.j0 k (bt794.2.2 != bt783.2.2) a0_0 a0_1 a0_2 a0_3 l0_4 bt786.1 bt786.2.1 bt786.2.2.1 bt786.2.2.2.1 bt786.2.2.2.2) else (laws_FnExactCellOf.j0 k true a0_0 a0_1 a0_2 a0_3 l0_4 bt786.1 bt786.2.1 bt786.2.2.1 bt786.2.2.2.1 bt786.2.2.2.2)) else (laws_FnExactCellOf.j0 k true a0_0 a0_1 a0_2 a0_3 l0_4 bt786.1 bt786.2.1 bt786.2.2.1 bt786.2.2.2.1 bt786.2.2.2.2)))))))) = some r := h
  clear h
  replace H := Option.bind_eq_some_iff.mp H
  obtain ⟨t775, A30, H⟩ := H
  replace H : (if t775 < 0 then (some true) else ((laws_toWide.f k a0_0 a0_1 a0_2 a0_3 l0_4).bind fun bt776 => ((spec_CellOf.f k bt776.1 bt776.2.1 bt776.2.2.1 bt776.2.2.2.1 bt776.2.2.2.2 a1).bind fun bt783 => ((laws_toWide.f k a0_0 a0_1 a0_2 a0_3 l0_4).bind fun bt786 => ((impl_CellOf.f bt786.1 bt786.2.1 bt786.2.2.1 bt786.2.2.2.1 bt786.2.2.2.2 a1).bind fun bt794 => (if bt794.1 = bt783.1 then (if bt794.2.1 = bt783.2.1 then (laws_FnExactCellOf.j0 k (bt794.2.2 != bt783.2.2) a0_0 a0_1 a0_2 a0_3 l0_4 bt786.1 bt786.2.1 bt786.2.2.1 bt786.2.2.2.1 bt786.2.2.2.2) else (laws_FnExactCellOf.j0 k true a0_0 a0_1 a0_2 a0_3 l0_4 bt786.1 bt786.2.1 bt786.2.2.1 bt786.2.2.2.1 bt786.2.2.2.2)) else (laws_FnExactCellOf.j0 k true a0_0 a0_1 a0_2 a0_3 l0_4 bt786.1 bt786.2.1 bt786.2.2.1 bt786.2.2.2.1 bt786.2.2.2.2))))))) = some r := H
  have A3 := Aside0.mk A30
  clear A30
  by_cases c4 : t775 < 0
  · rw [if_pos c4] at H
    have c4b0 : decide (t775 < 0) = true := decide_eq_true c4
    clear c4
    obtain rfl := Option.some.inj H
    go_enter Try.func15, Try.ntmps15
    go_wp2_with (first | ((with_reducible refine gate_dst (N := 2) rfl ?_); refine box_event ?hg (N := 2) ?hd (cs := #[.int .i64 a0_0, .int .i64 a0_1, .int .i64 a0_2, .int .i64 a0_3, .slice A0_4 l0_4.length c0_4]) (t := 79) ?hr ?_; (case hd => rfl); (case hg => rfl); (case hr => first | (go_simp; done) | (go_simp; rfl)); intro gb774 hg w5 hbox hb; have n0_ := Aside0.mk (below_step (by repeat (first | (with_reducible first | exact HB.out | apply below_alloc | apply pw_below_drewN | apply below_drew1) | exact HB.out)) hb); have n1_ := Aside0.mk (hbox); have n2_ := Aside0.mk ((by rw [hg]; exact (below_size (by repeat (first | (with_reducible first | exact HB.out | apply below_alloc | apply pw_below_drewN | apply below_drew1) | exact HB.out))) : w.heap.size ≤ gb774)); have n3_ := Aside0.mk ((by rw [hg]; exact (below_size (by repeat (first | (with_reducible first | exact HB.out | apply below_alloc | apply pw_below_drewN | apply below_drew1) | exact HB.out))) : w.heap.size ≤ gb774)); clear HB; have HB := n0_; have BK774 := n1_; have GW774 := n2_; have GE774 := n3_; clear n0_ n1_ n2_ n3_; clear hb hbox hg; have hcz6_0 : w5.cell? ⟨gb774, 0, none⟩ = some (.int .i64 a0_0) := (blk_cell BK774.out 0).trans rfl; have hcz6_1 : w5.cell? ⟨gb774, 1, none⟩ = some (.int .i64 a0_1) := (blk_cell BK774.out 1).trans rfl; have hcz6_2 : w5.cell? ⟨gb774, 2, none⟩ = some (.int .i64 a0_2) := (blk_cell BK774.out 2).trans rfl; have hcz6_3 : w5.cell? ⟨gb774, 3, none⟩ = some (.int .i64 a0_3) := (blk_cell BK774.out 3).trans rfl; have hcz6_4 : w5.cell? ⟨gb774, 4, none⟩ = some (.slice A0_4 l0_4.length c0_4) := (blk_cell BK774.out 4).trans rfl; have hfz6_0 := blk_frozen BK774.out 0; have hfz6_1 := blk_frozen BK774.out 1; have hfz6_2 := blk_frozen BK774.out 2; have hfz6_3 := blk_frozen BK774.out 3; have hfz6_4 := blk_frozen BK774.out 4) | ((with_reducible refine gate_callee (f := 51) rfl ?_); refine goesL_ (some 15) rfl rfl Try.func51 (by kernel_rfl) rfl #[.agg #[.int .i64 a0_0, .int .i64 a0_1, .int .i64 a0_2, .int .i64 a0_3, .slice A0_4 l0_4.length c0_4], .int .i64 1048576] rfl (by (try simp only [List.map_toArray, List.map_cons, List.map_nil]); first | done | rfl | (simp only [List.length_drop, List.length_take]; rfl)) ?_; (with_reducible refine (laws_szWide.calls k a0_0 a0_1 a0_2 a0_3 _ _ l0_4 1048576 t775 _ ?side1 ?side2 A3.out).mono ?_); (case side1 => repeat (first | exact (Kd.C_below HR0_4.out HB.out) | (with_reducible refine Kd.C_alloc ?_ _) | (with_reducible refine Kd.C_drewN ?_ _) | (with_reducible refine Kd.C_drew ?_))); (case side2 => exact HC0_4.out); rintro e w7 ⟨rfl, hb⟩; refine ⟨_, rfl, ?_⟩; have n0_ := Aside0.mk (blk_below (g := gb774) (o := .cells #[.int .i64 a0_0, .int .i64 a0_1, .int .i64 a0_2, .int .i64 a0_3, .slice A0_4 l0_4.length c0_4] 79 (0, 0)) (by (with_reducible repeat (first | refine blk_drewN ?_ _ | refine blk_drew ?_ | refine blk_alloc ?_ _)); exact BK774.out) hb); have n1_ := Aside0.mk (below_step (by repeat (first | (with_reducible first | exact HB.out | apply below_alloc | apply pw_below_drewN | apply below_drew1 | refine below_set ?_ GE774.out) | exact HB.out)) hb); clear BK774; clear HB; have BK774 := n0_; have HB := n1_; clear n0_ n1_; (try clear hb); (try clear hb2); (try clear hk); (try clear hi)))
    go_ret
    exact ⟨by first | rfl | (simp [errW_none, errW_some] <;> rfl) | (simp [*, errW_none, errW_some] <;> rfl), by repeat (first | (with_reducible first | exact HB.out | apply below_alloc | apply pw_below_drewN | apply below_drew1 | refine below_set ?_ GE774.out) | exact HB.out)⟩
  · rw [if_neg c4] at H
    have c4b0 : decide (t775 < 0) = false := decide_eq_false c4
    clear c4
    replace H := Option.bind_eq_some_iff.mp H
    obtain ⟨⟨t776, t777, t778, t779, t780⟩, A80, H⟩ := H
    replace H : ((spec_CellOf.f k t776 t777 t778 t779 t780 a1).bind fun bt783 => ((laws_toWide.f k a0_0 a0_1 a0_2 a0_3 l0_4).bind fun bt786 => ((impl_CellOf.f bt786.1 bt786.2.1 bt786.2.2.1 bt786.2.2.2.1 bt786.2.2.2.2 a1).bind fun bt794 => (if bt794.1 = bt783.1 then (if bt794.2.1 = bt783.2.1 then (laws_FnExactCellOf.j0 k (bt794.2.2 != bt783.2.2) a0_0 a0_1 a0_2 a0_3 l0_4 bt786.1 bt786.2.1 bt786.2.2.1 bt786.2.2.2.1 bt786.2.2.2.2) else (laws_FnExactCellOf.j0 k true a0_0 a0_1 a0_2 a0_3 l0_4 bt786.1 bt786.2.1 bt786.2.2.1 bt786.2.2.2.1 bt786.2.2.2.2)) else (laws_FnExactCellOf.j0 k true a0_0 a0_1 a0_2 a0_3 l0_4 bt786.1 bt786.2.1 bt786.2.2.1 bt786.2.2.2.1 bt786.2.2.2.2))))) = some r := H
    have A8 := Aside0.mk A80
    clear A80
    replace H := Option.bind_eq_some_iff.mp H
    obtain ⟨⟨t783, t784, t785⟩, A90, H⟩ := H
    replace H : ((laws_toWide.f k a0_0 a0_1 a0_2 a0_3 l0_4).bind fun bt786 => ((impl_CellOf.f bt786.1 bt786.2.1 bt786.2.2.1 bt786.2.2.2.1 bt786.2.2.2.2 a1).bind fun bt794 => (if bt794.1 = t783 then (if bt794.2.1 = t784 then (laws_FnExactCellOf.j0 k (bt794.2.2 != t785) a0_0 a0_1 a0_2 a0_3 l0_4 bt786.1 bt786.2.1 bt786.2.2.1 bt786.2.2.2.1 bt786.2.2.2.2) else (laws_FnExactCellOf.j0 k true a0_0 a0_1 a0_2 a0_3 l0_4 bt786.1 bt786.2.1 bt786.2.2.1 bt786.2.2.2.1 bt786.2.2.2.2)) else (laws_FnExactCellOf.j0 k true a0_0 a0_1 a0_2 a0_3 l0_4 bt786.1 bt786.2.1 bt786.2.2.1 bt786.2.2.2.1 bt786.2.2.2.2)))) = some r := H
    have A9 := Aside0.mk A90
    clear A90
    replace H := Option.bind_eq_some_iff.mp H
    obtain ⟨⟨t786, t787, t788, t789, t790⟩, A100, H⟩ := H
    replace H : ((impl_CellOf.f t786 t787 t788 t789 t790 a1).bind fun bt794 => (if bt794.1 = t783 then (if bt794.2.1 = t784 then (laws_FnExactCellOf.j0 k (bt794.2.2 != t785) a0_0 a0_1 a0_2 a0_3 l0_4 t786 t787 t788 t789 t790) else (laws_FnExactCellOf.j0 k true a0_0 a0_1 a0_2 a0_3 l0_4 t786 t787 t788 t789 t790)) else (laws_FnExactCellOf.j0 k true a0_0 a0_1 a0_2 a0_3 l0_4 t786 t787 t788 t789 t790))) = some r := H
    have A10 := Aside0.mk A100
    clear A100
    replace H := Option.bind_eq_some_iff.mp H
    obtain ⟨⟨t794, t795, t796⟩, A110, H⟩ := H
    replace H : (if t794 = t783 then (if t795 = t784 then (laws_FnExactCellOf.j0 k (t796 != t785) a0_0 a0_1 a0_2 a0_3 l0_4 t786 t787 t788 t789 t790) else (laws_FnExactCellOf.j0 k true a0_0 a0_1 a0_2 a0_3 l0_4 t786 t787 t788 t789 t790)) else (laws_FnExactCellOf.j0 k true a0_0 a0_1 a0_2 a0_3 l0_4 t786 t787 t788 t789 t790)) = some r := H
    have A11 := Aside0.mk A110
    clear A110
    have HC12 := Aside0.mk H
    clear H
    go_enter Try.func15, Try.ntmps15
    go_upto_region 8 with (first | ((with_reducible refine gate_dst (N := 2) rfl ?_); refine box_event ?hg (N := 2) ?hd (cs := #[.int .i64 a0_0, .int .i64 a0_1, .int .i64 a0_2, .int .i64 a0_3, .slice A0_4 l0_4.length c0_4]) (t := 79) ?hr ?_; (case hd => rfl); (case hg => rfl); (case hr => first | (go_simp; done) | (go_simp; rfl)); intro gb774 hg w13 hbox hb; have n0_ := Aside0.mk (below_step (by repeat (first | (with_reducible first | exact HB.out | apply below_alloc | apply pw_below_drewN | apply below_drew1) | exact HB.out)) hb); have n1_ := Aside0.mk (hbox); have n2_ := Aside0.mk ((by rw [hg]; exact (below_size (by repeat (first | (with_reducible first | exact HB.out | apply below_alloc | apply pw_below_drewN | apply below_drew1) | exact HB.out))) : w.heap.size ≤ gb774)); have n3_ := Aside0.mk ((by rw [hg]; exact (below_size (by repeat (first | (with_reducible first | exact HB.out | apply below_alloc | apply pw_below_drewN | apply below_drew1) | exact HB.out))) : w.heap.size ≤ gb774)); clear HB; have HB := n0_; have BK774 := n1_; have GW774 := n2_; have GE774 := n3_; clear n0_ n1_ n2_ n3_; clear hb hbox hg; have hcz14_0 : w13.cell? ⟨gb774, 0, none⟩ = some (.int .i64 a0_0) := (blk_cell BK774.out 0).trans rfl; have hcz14_1 : w13.cell? ⟨gb774, 1, none⟩ = some (.int .i64 a0_1) := (blk_cell BK774.out 1).trans rfl; have hcz14_2 : w13.cell? ⟨gb774, 2, none⟩ = some (.int .i64 a0_2) := (blk_cell BK774.out 2).trans rfl; have hcz14_3 : w13.cell? ⟨gb774, 3, none⟩ = some (.int .i64 a0_3) := (blk_cell BK774.out 3).trans rfl; have hcz14_4 : w13.cell? ⟨gb774, 4, none⟩ = some (.slice A0_4 l0_4.length c0_4) := (blk_cell BK774.out 4).trans rfl; have hfz14_0 := blk_frozen BK774.out 0; have hfz14_1 := blk_frozen BK774.out 1; have hfz14_2 := blk_frozen BK774.out 2; have hfz14_3 := blk_frozen BK774.out 3; have hfz14_4 := blk_frozen BK774.out 4) | ((with_reducible refine gate_callee (f := 51) rfl ?_); refine goesL_ (some 15) rfl rfl Try.func51 (by kernel_rfl) rfl #[.agg #[.int .i64 a0_0, .int .i64 a0_1, .int .i64 a0_2, .int .i64 a0_3, .slice A0_4 l0_4.length c0_4], .int .i64 1048576] rfl (by (try simp only [List.map_toArray, List.map_cons, List.map_nil]); first | done | rfl | (simp only [List.length_drop, List.length_take]; rfl)) ?_; (with_reducible refine (laws_szWide.calls k a0_0 a0_1 a0_2 a0_3 _ _ l0_4 1048576 t775 _ ?side1 ?side2 A3.out).mono ?_); (case side1 => repeat (first | exact (Kd.C_below HR0_4.out HB.out) | (with_reducible refine Kd.C_alloc ?_ _) | (with_reducible refine Kd.C_drewN ?_ _) | (with_reducible refine Kd.C_drew ?_))); (case side2 => exact HC0_4.out); rintro e w15 ⟨rfl, hb⟩; refine ⟨_, rfl, ?_⟩; have n0_ := Aside0.mk (blk_below (g := gb774) (o := .cells #[.int .i64 a0_0, .int .i64 a0_1, .int .i64 a0_2, .int .i64 a0_3, .slice A0_4 l0_4.length c0_4] 79 (0, 0)) (by (with_reducible repeat (first | refine blk_drewN ?_ _ | refine blk_drew ?_ | refine blk_alloc ?_ _)); exact BK774.out) hb); have n1_ := Aside0.mk (below_step (by repeat (first | (with_reducible first | exact HB.out | apply below_alloc | apply pw_below_drewN | apply below_drew1 | refine below_set ?_ GE774.out) | exact HB.out)) hb); clear BK774; clear HB; have BK774 := n0_; have HB := n1_; clear n0_ n1_; (try clear hb); (try clear hb2); (try clear hk); (try clear hi); have hcz16_0 : w15.cell? ⟨gb774, 0, none⟩ = some (.int .i64 a0_0) := (blk_cell BK774.out 0).trans rfl; have hcz16_1 : w15.cell? ⟨gb774, 1, none⟩ = some (.int .i64 a0_1) := (blk_cell BK774.out 1).trans rfl; have hcz16_2 : w15.cell? ⟨gb774, 2, none⟩ = some (.int .i64 a0_2) := (blk_cell BK774.out 2).trans rfl; have hcz16_3 : w15.cell? ⟨gb774, 3, none⟩ = some (.int .i64 a0_3) := (blk_cell BK774.out 3).trans rfl; have hcz16_4 : w15.cell? ⟨gb774, 4, none⟩ = some (.slice A0_4 l0_4.length c0_4) := (blk_cell BK774.out 4).trans rfl; have hfz16_0 := blk_frozen BK774.out 0; have hfz16_1 := blk_frozen BK774.out 1; have hfz16_2 := blk_frozen BK774.out 2; have hfz16_3 := blk_frozen BK774.out 3; have hfz16_4 := blk_frozen BK774.out 4) | ((with_reducible refine gate_callee (f := 53) rfl ?_); refine goesL_ (some 20) rfl rfl Try.func53 (by kernel_rfl) rfl #[.agg #[.int .i64 a0_0, .int .i64 a0_1, .int .i64 a0_2, .int .i64 a0_3, .slice A0_4 l0_4.length c0_4]] rfl (by (try simp only [List.map_toArray, List.map_cons, List.map_nil]); first | done | rfl | (simp only [List.length_drop, List.length_take]; rfl)) ?_; (with_reducible refine (laws_toWide.calls k a0_0 a0_1 a0_2 a0_3 _ _ l0_4 t776 t777 t778 t779 t780 _ ?side1 ?side2 A8.out).mono ?_); (case side1 => repeat (first | exact (Kd.C_below HR0_4.out HB.out) | (with_reducible refine Kd.C_alloc ?_ _) | (with_reducible refine Kd.C_drewN ?_ _) | (with_reducible refine Kd.C_drew ?_))); (case side2 => exact HC0_4.out); rintro e w17 ⟨v781, rfl, ho0, hb⟩; refine ⟨_, rfl, ?_⟩; have n0_ := Aside0.mk (Kd.R_lower ho0 (below_size (by repeat (first | (with_reducible first | exact HB.out | apply below_alloc | apply pw_below_drewN | apply below_drew1 | refine below_set ?_ GE774.out) | exact HB.out)))); have n1_ := Aside0.mk (blk_below (g := gb774) (o := .cells #[.int .i64 a0_0, .int .i64 a0_1, .int .i64 a0_2, .int .i64 a0_3, .slice A0_4 l0_4.length c0_4] 79 (0, 0)) (by (with_reducible repeat (first | refine blk_drewN ?_ _ | refine blk_drew ?_ | refine blk_alloc ?_ _)); exact BK774.out) hb); have n2_ := Aside0.mk (below_step (by repeat (first | (with_reducible first | exact HB.out | apply below_alloc | apply pw_below_drewN | apply below_drew1 | refine below_set ?_ GE774.out) | exact HB.out)) hb); clear BK774; clear HB; have HO782 := n0_; have BK774 := n1_; have HB := n2_; clear n0_ n1_ n2_; (try clear hb); (try clear hb2); (try clear hk); (try clear hi); (try clear ho0); obtain ⟨Ao18, co18, eo18⟩ := Kd.R_slice HO782.out; subst eo18) | ((with_reducible refine gate_callee (f := 71) rfl ?_); refine goesL_ (some 22) rfl rfl Try.func71 (by kernel_rfl) rfl #[.agg #[.int .i64 t776, .int .i64 t777, .int .i64 t778, .int .i64 t779, .slice Ao18 t780.length co18], .int .i64 a1] rfl (by (try simp only [List.map_toArray, List.map_cons, List.map_nil]); first | done | rfl | (simp only [List.length_drop, List.length_take]; rfl)) ?_; (with_reducible refine (spec_CellOf.calls k t776 t777 t778 t779 _ _ t780 a1 t783 t784 t785 _ ?side1 ?side2 A9.out).mono ?_); (case side1 => repeat (first | exact (Kd.R_reads' HO782.out).2.2 | (with_reducible refine Kd.C_alloc ?_ _) | (with_reducible refine Kd.C_drewN ?_ _) | (with_reducible refine Kd.C_drew ?_))); (case side2 => exact (Kd.R_reads' HO782.out).2.1); rintro e w19 ⟨rfl, hb⟩; refine ⟨_, rfl, ?_⟩; have n0_ := Aside0.mk (Kd.R_below (by (with_reducible repeat (first | apply Kd.R_alloc | apply Kd.R_drewN | apply Kd.R_drew)); exact HO782.out) hb); have n1_ := Aside0.mk (blk_below (g := gb774) (o := .cells #[.int .i64 a0_0, .int .i64 a0_1, .int .i64 a0_2, .int .i64 a0_3, .slice A0_4 l0_4.length c0_4] 79 (0, 0)) (by (with_reducible repeat (first | refine blk_drewN ?_ _ | refine blk_drew ?_ | refine blk_alloc ?_ _)); exact BK774.out) hb); have n2_ := Aside0.mk (below_step (by repeat (first | (with_reducible first | exact HB.out | apply below_alloc | apply pw_below_drewN | apply below_drew1 | refine below_set ?_ GE774.out) | exact HB.out)) hb); clear HO782; clear BK774; clear HB; have HO782 := n0_; have BK774 := n1_; have HB := n2_; clear n0_ n1_ n2_; (try clear hb); (try clear hb2); (try clear hk); (try clear hi); have hcz20_0 : w19.cell? ⟨gb774, 0, none⟩ = some (.int .i64 a0_0) := (blk_cell BK774.out 0).trans rfl; have hcz20_1 : w19.cell? ⟨gb774, 1, none⟩ = some (.int .i64 a0_1) := (blk_cell BK774.out 1).trans rfl; have hcz20_2 : w19.cell? ⟨gb774, 2, none⟩ = some (.int .i64 a0_2) := (blk_cell BK774.out 2).trans rfl; have hcz20_3 : w19.cell? ⟨gb774, 3, none⟩ = some (.int .i64 a0_3) := (blk_cell BK774.out 3).trans rfl; have hcz20_4 : w19.cell? ⟨gb774, 4, none⟩ = some (.slice A0_4 l0_4.length c0_4) := (blk_cell BK774.out 4).trans rfl; have hfz20_0 := blk_frozen BK774.out 0; have hfz20_1 := blk_frozen BK774.out 1; have hfz20_2 := blk_frozen BK774.out 2; have hfz20_3 := blk_frozen BK774.out 3; have hfz20_4 := blk_frozen BK774.out 4) | ((with_reducible refine gate_callee (f := 53) rfl ?_); refine goesL_ (some 27) rfl rfl Try.func53 (by kernel_rfl) rfl #[.agg #[.int .i64 a0_0, .int .i64 a0_1, .int .i64 a0_2, .int .i64 a0_3, .slice A0_4 l0_4.length c0_4]] rfl (by (try simp only [List.map_toArray, List.map_cons, List.map_nil]); first | done | rfl | (simp only [List.length_drop, List.length_take]; rfl)) ?_; (with_reducible refine (laws_toWide.calls k a0_0 a0_1 a0_2 a0_3 _ _ l0_4 t786 t787 t788 t789 t790 _ ?side1 ?side2 A10.out).mono ?_); (case side1 => repeat (first | exact (Kd.C_below HR0_4.out HB.out) | (with_reducible refine Kd.C_alloc ?_ _) | (with_reducible refine Kd.C_drewN ?_ _) | (with_reducible refine Kd.C_drew ?_))); (case side2 => exact HC0_4.out); rintro e w21 ⟨v791, rfl, ho0, hb⟩; refine ⟨_, rfl, ?_⟩; have n0_ := Aside0.mk (Kd.R_elder' (by (with_reducible repeat (first | apply Kd.R_alloc | apply Kd.R_drewN | apply Kd.R_drew)); exact HO782.out) (Kd.R_base ho0) hb); have n1_ := Aside0.mk (Kd.R_lower (Kd.R_new' ho0 (Kd.R_lt (by (with_reducible repeat (first | apply Kd.R_alloc | apply Kd.R_drewN | apply Kd.R_drew)); exact HO782.out))) (below_size (by repeat (first | (with_reducible first | exact HB.out | apply below_alloc | apply pw_below_drewN | apply below_drew1 | refine below_set ?_ GE774.out) | exact HB.out)))); have n2_ := Aside0.mk (blk_below (g := gb774) (o := .cells #[.int .i64 a0_0, .int .i64 a0_1, .int .i64 a0_2, .int .i64 a0_3, .slice A0_4 l0_4.length c0_4] 79 (0, 0)) (by (with_reducible repeat (first | refine blk_drewN ?_ _ | refine blk_drew ?_ | refine blk_alloc ?_ _)); exact BK774.out) hb); have n3_ := Aside0.mk (below_step (by repeat (first | (with_reducible first | exact HB.out | apply below_alloc | apply pw_below_drewN | apply below_drew1 | refine below_set ?_ GE774.out) | exact HB.out)) hb); clear HO782; clear BK774; clear HB; have HO782 := n0_; have HO792 := n1_; have BK774 := n2_; have HB := n3_; clear n0_ n1_ n2_ n3_; (try clear hb); (try clear hb2); (try clear hk); (try clear hi); (try clear ho0)) | ((with_reducible refine gate_dst (N := 9) rfl ?_); refine box_event ?hg (N := 9) ?hd (cs := #[.int .i64 0, .int .i64 0, .int .i64 0, .int .i64 0, .slice none 0 0]) (t := 83) ?hr ?_; (case hd => rfl); (case hg => rfl); (case hr => first | (go_simp; done) | (go_simp; rfl)); intro gb793 hg w22 hbox hb; have n0_ := Aside0.mk (Kd.R_below (by (with_reducible repeat (first | apply Kd.R_alloc | apply Kd.R_drewN | apply Kd.R_drew)); exact HO782.out) hb); have n1_ := Aside0.mk (Kd.R_below (by (with_reducible repeat (first | apply Kd.R_alloc | apply Kd.R_drewN | apply Kd.R_drew)); exact HO792.out) hb); have n2_ := Aside0.mk (blk_below (g := gb774) (o := .cells #[.int .i64 a0_0, .int .i64 a0_1, .int .i64 a0_2, .int .i64 a0_3, .slice A0_4 l0_4.length c0_4] 79 (0, 0)) (by (with_reducible repeat (first | refine blk_drewN ?_ _ | refine blk_drew ?_ | refine blk_alloc ?_ _)); exact BK774.out) hb); have n3_ := Aside0.mk (below_step (by repeat (first | (with_reducible first | exact HB.out | apply below_alloc | apply pw_below_drewN | apply below_drew1 | refine below_set ?_ GE774.out) | exact HB.out)) hb); have n4_ := Aside0.mk (hbox); have n5_ := Aside0.mk ((by rw [hg]; exact (below_size (by repeat (first | (with_reducible first | exact HB.out | apply below_alloc | apply pw_below_drewN | apply below_drew1 | refine below_set ?_ GE774.out) | exact HB.out))) : w.heap.size ≤ gb793)); have n6_ := Aside0.mk ((by rw [hg]; exact (below_size (by repeat (first | (with_reducible first | exact HB.out | apply below_alloc | apply pw_below_drewN | apply below_drew1 | refine below_set ?_ GE774.out) | exact HB.out))) : w.heap.size ≤ gb793)); have n7_ := Aside0.mk ((by rw [hg]; exact Nat.ne_of_lt (blk_lt (g := gb774) (o := .cells #[.int .i64 a0_0, .int .i64 a0_1, .int .i64 a0_2, .int .i64 a0_3, .slice A0_4 l0_4.length c0_4] 79 (0, 0)) (by (with_reducible repeat (first | refine blk_drewN ?_ _ | refine blk_drew ?_ | refine blk_alloc ?_ _)); exact BK774.out)) : gb774 ≠ gb793)); have n8_ := Aside0.mk ((by rw [hg]; exact Nat.ne_of_gt (blk_lt (g := gb774) (o := .cells #[.int .i64 a0_0, .int .i64 a0_1, .int .i64 a0_2, .int .i64 a0_3, .slice A0_4 l0_4.length c0_4] 79 (0, 0)) (by (with_reducible repeat (first | refine blk_drewN ?_ _ | refine blk_drew ?_ | refine blk_alloc ?_ _)); exact BK774.out)) : gb793 ≠ gb774)); clear HO782; clear HO792; clear BK774; clear HB; have HO782 := n0_; have HO792 := n1_; have BK774 := n2_; have HB := n3_; have BK793 := n4_; have GW793 := n5_; have GE793 := n6_; have NB774_793 := n7_; have NB793_774 := n8_; clear n0_ n1_ n2_ n3_ n4_ n5_ n6_ n7_ n8_; clear hb hbox hg; have hnb23 := NB793_774.out; have hnc23 := NB774_793.out; have hcz24_0 : w22.cell? ⟨gb793, 0, none⟩ = some (.int .i64 0) := (blk_cell BK793.out 0).trans rfl; have hcz24_1 : w22.cell? ⟨gb793, 1, none⟩ = some (.int .i64 0) := (blk_cell BK793.out 1).trans rfl; have hcz24_2 : w22.cell? ⟨gb793, 2, none⟩ = some (.int .i64 0) := (blk_cell BK793.out 2).trans rfl; have hcz24_3 : w22.cell? ⟨gb793, 3, none⟩ = some (.int .i64 0) := (blk_cell BK793.out 3).trans rfl; have hcz24_4 : w22.cell? ⟨gb793, 4, none⟩ = some (.slice none 0 0) := (blk_cell BK793.out 4).trans rfl; have hfz24_0 := blk_frozen BK793.out 0; have hfz24_1 := blk_frozen BK793.out 1; have hfz24_2 := blk_frozen BK793.out 2; have hfz24_3 := blk_frozen BK793.out 3; have hfz24_4 := blk_frozen BK793.out 4; obtain ⟨Ao25, co25, eo25⟩ := Kd.R_slice HO792.out; subst eo25) | ((with_reducible refine gate_callee (f := 72) rfl ?_); refine goesL_ (some 31) rfl rfl Try.func72 (by kernel_rfl) rfl #[.agg #[.int .i64 t786, .int .i64 t787, .int .i64 t788, .int .i64 t789, .slice Ao25 t790.length co25], .int .i64 a1] rfl (by (try simp only [List.map_toArray, List.map_cons, List.map_nil]); first | done | rfl | (simp only [List.length_drop, List.length_take]; rfl)) ?_; (with_reducible refine (impl_CellOf.calls t786 t787 t788 t789 _ _ t790 a1 t794 t795 t796 _ ?side1 ?side2 A11.out).mono ?_); (case side1 => refine (Kd.R_reads' (e := 9) (base := w.heap.size) (ok := fun k_ => (True ∧ some k_ ≠ (.slice Ao18 t780.length co18 : Value).ownBlock)) (n := t790.length) (c := co25) ?_).2.2; exact (by (with_reducible repeat (first | apply Kd.R_alloc | apply Kd.R_drewN | apply Kd.R_drew)); exact (Kd.R_mono (Kd.R_far (p := ⟨gb793, 4, none⟩) (Kd.R_far (p := ⟨gb793, 3, none⟩) (Kd.R_far (p := ⟨gb793, 2, none⟩) (Kd.R_far (p := ⟨gb793, 1, none⟩) (Kd.R_far (p := ⟨gb793, 0, none⟩) (Kd.R_types HO792.out BK793.out (by decide)) (fun _ hk => hk.2) (.int .i64 t786)) (fun _ hk => hk.2) (.int .i64 t787)) (fun _ hk => hk.2) (.int .i64 t788)) (fun _ hk => hk.2) (.int .i64 t789)) (fun _ hk => hk.2) (.slice Ao25 t790.length co25)) (fun _ h_ => h_.1)))); (case side2 => exact (Kd.R_reads' HO792.out).2.1); rintro e w26 ⟨rfl, hb⟩; refine ⟨_, rfl, ?_⟩; have n0_ := Aside0.mk (Kd.R_below (by (with_reducible repeat (first | apply Kd.R_alloc | apply Kd.R_drewN | apply Kd.R_drew)); exact (Kd.R_mono (Kd.R_far (p := ⟨gb793, 4, none⟩) (Kd.R_far (p := ⟨gb793, 3, none⟩) (Kd.R_far (p := ⟨gb793, 2, none⟩) (Kd.R_far (p := ⟨gb793, 1, none⟩) (Kd.R_far (p := ⟨gb793, 0, none⟩) (Kd.R_types HO782.out BK793.out (by decide)) (fun _ hk => hk.2) (.int .i64 t786)) (fun _ hk => hk.2) (.int .i64 t787)) (fun _ hk => hk.2) (.int .i64 t788)) (fun _ hk => hk.2) (.int .i64 t789)) (fun _ hk => hk.2) (.slice Ao25 t790.length co25)) (fun _ h_ => h_.1))) hb); have n1_ := Aside0.mk (Kd.R_below (by (with_reducible repeat (first | apply Kd.R_alloc | apply Kd.R_drewN | apply Kd.R_drew)); exact (Kd.R_mono (Kd.R_far (p := ⟨gb793, 4, none⟩) (Kd.R_far (p := ⟨gb793, 3, none⟩) (Kd.R_far (p := ⟨gb793, 2, none⟩) (Kd.R_far (p := ⟨gb793, 1, none⟩) (Kd.R_far (p := ⟨gb793, 0, none⟩) (Kd.R_types HO792.out BK793.out (by decide)) (fun _ hk => hk.2) (.int .i64 t786)) (fun _ hk => hk.2) (.int .i64 t787)) (fun _ hk => hk.2) (.int .i64 t788)) (fun _ hk => hk.2) (.int .i64 t789)) (fun _ hk => hk.2) (.slice Ao25 t790.length co25)) (fun _ h_ => h_.1))) hb); have n2_ := Aside0.mk (blk_below (g := gb774) (o := .cells #[.int .i64 a0_0, .int .i64 a0_1, .int .i64 a0_2, .int .i64 a0_3, .slice A0_4 l0_4.length c0_4] 79 (0, 0)) (by (with_reducible repeat (first | refine blk_drewN ?_ _ | refine blk_drew ?_ | refine blk_alloc ?_ _)); refine blk_far ?_ NB774_793.out _; (with_reducible repeat (first | refine blk_drewN ?_ _ | refine blk_drew ?_ | refine blk_alloc ?_ _)); refine blk_far ?_ NB774_793.out _; (with_reducible repeat (first | refine blk_drewN ?_ _ | refine blk_drew ?_ | refine blk_alloc ?_ _)); refine blk_far ?_ NB774_793.out _; (with_reducible repeat (first | refine blk_drewN ?_ _ | refine blk_drew ?_ | refine blk_alloc ?_ _)); refine blk_far ?_ NB774_793.out _; (with_reducible repeat (first | refine blk_drewN ?_ _ | refine blk_drew ?_ | refine blk_alloc ?_ _)); refine blk_far ?_ NB774_793.out _; (with_reducible repeat (first | refine blk_drewN ?_ _ | refine blk_drew ?_ | refine blk_alloc ?_ _)); exact BK774.out) hb); have n3_ := Aside0.mk (blk_below (g := gb793) (o := .cells #[.int .i64 t786, .int .i64 t787, .int .i64 t788, .int .i64 t789, .slice Ao25 t790.length co25] 83 (0, 0)) (by (with_reducible repeat (first | refine blk_drewN ?_ _ | refine blk_drew ?_ | refine blk_alloc ?_ _)); refine blk_put (cs := #[.int .i64 t786, .int .i64 t787, .int .i64 t788, .int .i64 t789, .slice none 0 0]) ?_ 4 _ rfl; (with_reducible repeat (first | refine blk_drewN ?_ _ | refine blk_drew ?_ | refine blk_alloc ?_ _)); refine blk_put (cs := #[.int .i64 t786, .int .i64 t787, .int .i64 t788, .int .i64 0, .slice none 0 0]) ?_ 3 _ rfl; (with_reducible repeat (first | refine blk_drewN ?_ _ | refine blk_drew ?_ | refine blk_alloc ?_ _)); refine blk_put (cs := #[.int .i64 t786, .int .i64 t787, .int .i64 0, .int .i64 0, .slice none 0 0]) ?_ 2 _ rfl; (with_reducible repeat (first | refine blk_drewN ?_ _ | refine blk_drew ?_ | refine blk_alloc ?_ _)); refine blk_put (cs := #[.int .i64 t786, .int .i64 0, .int .i64 0, .int .i64 0, .slice none 0 0]) ?_ 1 _ rfl; (with_reducible repeat (first | refine blk_drewN ?_ _ | refine blk_drew ?_ | refine blk_alloc ?_ _)); refine blk_put (cs := #[.int .i64 0, .int .i64 0, .int .i64 0, .int .i64 0, .slice none 0 0]) ?_ 0 _ rfl; (with_reducible repeat (first | refine blk_drewN ?_ _ | refine blk_drew ?_ | refine blk_alloc ?_ _)); exact BK793.out) hb); have n4_ := Aside0.mk (below_step (by repeat (first | (with_reducible first | exact HB.out | apply below_alloc | apply pw_below_drewN | apply below_drew1 | refine below_set ?_ GE774.out | refine below_set ?_ GE793.out) | exact HB.out)) hb); clear HO782; clear HO792; clear BK774; clear BK793; clear HB; have HO782 := n0_; have HO792 := n1_; have BK774 := n2_; have BK793 := n3_; have HB := n4_; clear n0_ n1_ n2_ n3_ n4_; (try clear hb); (try clear hb2); (try clear hk); (try clear hi)))
    (try simp only [Act.put, List.setIfInBounds_toArray, List.set_cons_zero, List.set_cons_succ])
    go_cut [47] (fun v47 wc => ∃ (kq : Nat) (x47_11 : Bool), v47 = .bool x47_11 ∧ Aside0 (laws_FnExactCellOf.j0 kq x47_11 a0_0 a0_1 a0_2 a0_3 l0_4 t786 t787 t788 t789 t790 = some r) ∧ Aside0 (kq ≤ k) ∧ Aside0 (Kd.R Kd.string 9 wc w.heap.size (fun _ => True) (.slice Ao25 t790.length co25) t790) ∧ Aside0 (wc.heap[gb774]? = some (.cells #[.int .i64 a0_0, .int .i64 a0_1, .int .i64 a0_2, .int .i64 a0_3, (.slice A0_4 l0_4.length c0_4)] 79 (0, 0))) ∧ Aside0 (wc.heap[gb793]? = some (.cells #[.int .i64 t786, .int .i64 t787, .int .i64 t788, .int .i64 t789, (.slice Ao25 t790.length co25)] 83 (0, 0))) ∧ Aside0 (Below w.heap.size w wc))
    case first =>
      have H := HC12.out
      clear HC12
      by_cases c27 : t794 = t783
      · rw [if_pos c27] at H
        have c27b0 : (t794 == t783) = true := beq_iff_eq.mpr c27
        have c27b1 : (t794 != t783) = false := bne_eq_false_iff_eq.mpr c27
        clear c27
        (first | rw [c27b0] | (simp only [i64_w, i32_w]; rw [c27b0]) | skip)
        by_cases c28 : t795 = t784
        · rw [if_pos c28] at H
          have c28b0 : (t795 == t784) = true := beq_iff_eq.mpr c28
          have c28b1 : (t795 != t784) = false := bne_eq_false_iff_eq.mpr c28
          clear c28
          have H' := Aside0.mk H
          clear H
          go_wp2
          go_meet
          case rel => exact ⟨_, ((t796 != t785)), (by first | rfl | (simp; done) | (simp [*]; done)), H', ⟨by first | omega | exact Nat.le_refl _⟩, ⟨by (with_reducible repeat (first | apply Kd.R_alloc | apply Kd.R_drewN | apply Kd.R_drew)); exact Kd.R_mono HO792.out (fun _ hk => trivial)⟩, ⟨by (with_reducible repeat (first | refine blk_drewN ?_ _ | refine blk_drew ?_ | refine blk_alloc ?_ _)); exact BK774.out⟩, ⟨by (with_reducible repeat (first | refine blk_drewN ?_ _ | refine blk_drew ?_ | refine blk_alloc ?_ _)); exact BK793.out⟩, ⟨by repeat (first | (with_reducible first | exact HB.out | apply below_alloc | apply pw_below_drewN | apply below_drew1 | refine below_set ?_ GE774.out | refine below_set ?_ GE793.out) | exact HB.out)⟩⟩
        · rw [if_neg c28] at H
          have c28b0 : (t795 == t784) = false := beq_eq_false_iff_ne.mpr c28
          have c28b1 : (t795 != t784) = true := bne_iff_ne.mpr c28
          have H' := Aside0.mk H
          clear H
          go_wp2
          go_meet
          case rel => exact ⟨_, (true), (by first | rfl | (simp; done) | (simp [*]; done)), H', ⟨by first | omega | exact Nat.le_refl _⟩, ⟨by (with_reducible repeat (first | apply Kd.R_alloc | apply Kd.R_drewN | apply Kd.R_drew)); exact Kd.R_mono HO792.out (fun _ hk => trivial)⟩, ⟨by (with_reducible repeat (first | refine blk_drewN ?_ _ | refine blk_drew ?_ | refine blk_alloc ?_ _)); exact BK774.out⟩, ⟨by (with_reducible repeat (first | refine blk_drewN ?_ _ | refine blk_drew ?_ | refine blk_alloc ?_ _)); exact BK793.out⟩, ⟨by repeat (first | (with_reducible first | exact HB.out | apply below_alloc | apply pw_below_drewN | apply below_drew1 | refine below_set ?_ GE774.out | refine below_set ?_ GE793.out) | exact HB.out)⟩⟩
      · rw [if_neg c27] at H
        have c27b0 : (t794 == t783) = false := beq_eq_false_iff_ne.mpr c27
        have c27b1 : (t794 != t783) = true := bne_iff_ne.mpr c27
        (first | rw [c27b0] | (simp only [i64_w, i32_w]; rw [c27b0]) | skip)
        have H' := Aside0.mk H
        clear H
        go_wp2
        go_meet
        case rel => exact ⟨_, (true), (by first | rfl | (simp; done) | (simp [*]; done)), H', ⟨by first | omega | exact Nat.le_refl _⟩, ⟨by (with_reducible repeat (first | apply Kd.R_alloc | apply Kd.R_drewN | apply Kd.R_drew)); exact Kd.R_mono HO792.out (fun _ hk => trivial)⟩, ⟨by (with_reducible repeat (first | refine blk_drewN ?_ _ | refine blk_drew ?_ | refine blk_alloc ?_ _)); exact BK774.out⟩, ⟨by (with_reducible repeat (first | refine blk_drewN ?_ _ | refine blk_drew ?_ | refine blk_alloc ?_ _)); exact BK793.out⟩, ⟨by repeat (first | (with_reducible first | exact HB.out | apply below_alloc | apply pw_below_drewN | apply below_drew1 | refine below_set ?_ GE774.out | refine below_set ?_ GE793.out) | exact HB.out)⟩⟩
    case rest =>
      clear HC12
      try clear c1
      try clear c2
      try clear p2
      try clear c4
      try clear c4b0
      try clear c5
      try clear c7
      try clear c15
      try clear c23
      try clear c27
      try clear c27b0
      try clear c27b1
      try clear c28
      try clear c28b0
      try clear c28b1
      try clear hcz14_0
      try clear hcz14_1
      try clear hcz14_2
      try clear hcz14_3
      try clear hcz14_4
      try clear hcz16_0
      try clear hcz16_1
      try clear hcz16_2
      try clear hcz16_3
      try clear hcz16_4
      try clear hcz20_0
      try clear hcz20_1
      try clear hcz20_2
      try clear hcz20_3
      try clear hcz20_4
      try clear hcz24_0
      try clear hcz24_1
      try clear hcz24_2
      try clear hcz24_3
      try clear hcz24_4
      try clear hcz6_0
      try clear hcz6_1
      try clear hcz6_2
      try clear hcz6_3
      try clear hcz6_4
      try clear hfz14_0
      try clear hfz14_1
      try clear hfz14_2
      try clear hfz14_3
      try clear hfz14_4
      try clear hfz16_0
      try clear hfz16_1
      try clear hfz16_2
      try clear hfz16_3
      try clear hfz16_4
      try clear hfz20_0
      try clear hfz20_1
      try clear hfz20_2
      try clear hfz20_3
      try clear hfz20_4
      try clear hfz24_0
      try clear hfz24_1
      try clear hfz24_2
      try clear hfz24_3
      try clear hfz24_4
      try clear hfz6_0
      try clear hfz6_1
      try clear hfz6_2
      try clear hfz6_3
      try clear hfz6_4
      obtain ⟨kq, x47_11, rfl, HA, HJ11, HO_794004, BK774, BK793, HB⟩ := hcut
      cases kq with
      | zero => exact absurd HA.out (by simp [laws_FnExactCellOf.j0])
      | succ kj11 =>
        have H := HA.out
        clear HA
        simp only [laws_FnExactCellOf.j0] at H
        by_cases c29 : x47_11 = true
        · subst c29
          have H1 : (some false) = some r := by rw [if_pos rfl] at H; exact H
          clear H
          have H := H1
          clear H1
          obtain rfl := Option.some.inj H
          go_wp2
          go_ret
          exact ⟨by first | rfl | (simp [errW_none, errW_some] <;> rfl) | (simp [*, errW_none, errW_some] <;> rfl), by repeat (first | (with_reducible first | exact HB.out | apply below_alloc | apply pw_below_drewN | apply below_drew1 | refine below_set ?_ GE774.out | refine below_set ?_ GE793.out) | exact HB.out)⟩
        · replace c29 := Bool.eq_false_iff.mpr c29
          subst c29
          have H1 : ((laws_toWide.f kj11 a0_0 a0_1 a0_2 a0_3 l0_4).bind fun bt797 => ((laws_eqWide.f kj11 t786 t787 t788 t789 t790 bt797.1 bt797.2.1 bt797.2.2.1 bt797.2.2.2.1 bt797.2.2.2.2).bind fun t804 => (if t804 = true then (some true) else (some false)))) = some r := by rw [if_neg (show ¬ (false = true) by decide)] at H; exact H
          clear H
          have H := H1
          clear H1
          replace H := Option.bind_eq_some_iff.mp H
          obtain ⟨⟨t797, t798, t799, t800, t801⟩, A300, H⟩ := H
          replace H : ((laws_eqWide.f kj11 t786 t787 t788 t789 t790 t797 t798 t799 t800 t801).bind fun t804 => (if t804 = true then (some true) else (some false))) = some r := H
          have A30 := Aside0.mk A300
          clear A300
          replace H := Option.bind_eq_some_iff.mp H
          obtain ⟨t804, A310, H⟩ := H
          replace H : (if t804 = true then (some true) else (some false)) = some r := H
          have A31 := Aside0.mk A310
          clear A310
          by_cases c32 : t804 = true
          · subst c32
            have H1 : (some true) = some r := by rw [if_pos rfl] at H; exact H
            clear H
            have H := H1
            clear H1
            obtain rfl := Option.some.inj H
            try go_wp2
            have n0_ := Aside0.mk (Kd.R_drew HO_794004.out)
            have n1_ := Aside0.mk (blk_drew BK774.out)
            have n2_ := Aside0.mk (blk_drew BK793.out)
            have n3_ := Aside0.mk (below_drew1 HB.out)
            clear HO_794004
            clear BK774
            clear BK793
            clear HB
            have HO_794004 := n0_
            have BK774 := n1_
            have BK793 := n2_
            have HB := n3_
            clear n0_ n1_ n2_ n3_
            refine start_ (n := 5) (S := fun w' => w'.cell? ⟨gb793, 0, none⟩ = some (.int .i64 t786) ∧ w'.cell? ⟨gb793, 1, none⟩ = some (.int .i64 t787) ∧ w'.cell? ⟨gb793, 2, none⟩ = some (.int .i64 t788) ∧ w'.cell? ⟨gb793, 3, none⟩ = some (.int .i64 t789) ∧ w'.cell? ⟨gb793, 4, none⟩ = some (.slice Ao25 t790.length co25) ∧ w'.cell? ⟨gb774, 0, none⟩ = some (.int .i64 a0_0) ∧ w'.cell? ⟨gb774, 1, none⟩ = some (.int .i64 a0_1) ∧ w'.cell? ⟨gb774, 2, none⟩ = some (.int .i64 a0_2) ∧ w'.cell? ⟨gb774, 3, none⟩ = some (.int .i64 a0_3) ∧ w'.cell? ⟨gb774, 4, none⟩ = some (.slice A0_4 l0_4.length c0_4)) (ds := []) #[false, false, false, false, false] (by kernel_rfl) rfl rfl ⟨(blk_cell BK793.out 0).trans rfl, (blk_cell BK793.out 1).trans rfl, (blk_cell BK793.out 2).trans rfl, (blk_cell BK793.out 3).trans rfl, (blk_cell BK793.out 4).trans rfl, (blk_cell BK774.out 0).trans rfl, (blk_cell BK774.out 1).trans rfl, (blk_cell BK774.out 2).trans rfl, (blk_cell BK774.out 3).trans rfl, (blk_cell BK774.out 4).trans rfl⟩ (fun hHeld => ?_)
            generalize wc.drew = w33 at HO_794004 BK774 BK793 HB hHeld ⊢
            refine take_ (i := 0) (N := some 48) (v := ?_) (a' := ?_) #[true, false, false, false, false] rfl rfl (by kernel_rfl) (fun _ _ _ h => h) (Or.inl ⟨by rfl, ?_⟩) hHeld ?_ ?_
            rotate_left
            · rintro w' ⟨s0, s1, s2, s3, s4, s5, s6, s7, s8, s9⟩
              go_simp
              with_reducible rfl
            rotate_left
            · simp only [Act.put, List.setIfInBounds_toArray, List.set_cons_zero, List.set_cons_succ, i64_w, i32_w]
              rfl
            refine take_ (i := 1) (N := some 49) (v := ?_) (a' := ?_) #[true, true, false, false, false] rfl rfl (by kernel_rfl) (fun _ _ _ h => h) (Or.inl ⟨by rfl, ?_⟩) hHeld ?_ ?_
            rotate_left
            · rintro w' ⟨s0, s1, s2, s3, s4, s5, s6, s7, s8, s9⟩
              go_simp
              with_reducible rfl
            rotate_left
            · simp only [Act.put, List.setIfInBounds_toArray, List.set_cons_zero, List.set_cons_succ, i64_w, i32_w]
              rfl
            refine one_ (i := 2) (N := some 50) #[true, true, true, false, false] rfl rfl (by kernel_rfl) (by decide) (fun K hK => ?_)
            refine goes_ Try.func53 (by kernel_rfl) rfl #[.agg #[.int .i64 a0_0, .int .i64 a0_1, .int .i64 a0_2, .int .i64 a0_3, .slice A0_4 l0_4.length c0_4]] (by rfl) rfl rfl (by (try simp only [List.map_toArray, List.map_cons, List.map_nil]); first | done | rfl | (simp only [List.length_drop, List.length_take]; rfl)) ?_
            with_reducible refine (laws_toWide.calls kj11 a0_0 a0_1 a0_2 a0_3 _ _ l0_4 t797 t798 t799 t800 t801 _ ?side1 ?side2 A30.out).mono ?_
            (case side1 => repeat (first | exact (Kd.C_below HR0_4.out HB.out) | (with_reducible refine Kd.C_alloc ?_ _) | (with_reducible refine Kd.C_drewN ?_ _) | (with_reducible refine Kd.C_drew ?_)))
            (case side2 => exact HC0_4.out)
            rintro e w34 ⟨v802, rfl, ho0, hb⟩
            refine ⟨_, rfl, ?_⟩
            have n0_ := Aside0.mk (Kd.R_elder' (by (with_reducible repeat (first | apply Kd.R_alloc | apply Kd.R_drewN | apply Kd.R_drew)); exact HO_794004.out) (Kd.R_base ho0) hb)
            have n1_ := Aside0.mk (Kd.R_lower (Kd.R_new' ho0 (Kd.R_lt (by (with_reducible repeat (first | apply Kd.R_alloc | apply Kd.R_drewN | apply Kd.R_drew)); exact HO_794004.out))) (below_size (by repeat (first | (with_reducible first | exact HB.out | apply below_alloc | apply pw_below_drewN | apply below_drew1 | refine below_set ?_ GE774.out | refine below_set ?_ GE793.out) | exact HB.out))))
            have n2_ := Aside0.mk (blk_below (g := gb774) (o := .cells #[.int .i64 a0_0, .int .i64 a0_1, .int .i64 a0_2, .int .i64 a0_3, .slice A0_4 l0_4.length c0_4] 79 (0, 0)) (by (with_reducible repeat (first | refine blk_drewN ?_ _ | refine blk_drew ?_ | refine blk_alloc ?_ _)); exact BK774.out) hb)
            have n3_ := Aside0.mk (blk_below (g := gb793) (o := .cells #[.int .i64 t786, .int .i64 t787, .int .i64 t788, .int .i64 t789, .slice Ao25 t790.length co25] 83 (0, 0)) (by (with_reducible repeat (first | refine blk_drewN ?_ _ | refine blk_drew ?_ | refine blk_alloc ?_ _)); exact BK793.out) hb)
            have n4_ := Aside0.mk (below_step (by repeat (first | (with_reducible first | exact HB.out | apply below_alloc | apply pw_below_drewN | apply below_drew1 | refine below_set ?_ GE774.out | refine below_set ?_ GE793.out) | exact HB.out)) hb)
            clear HO_794004
            clear BK774
            clear BK793
            clear HB
            have HO_794004 := n0_
            have HO803 := n1_
            have BK774 := n2_
            have BK793 := n3_
            have HB := n4_
            clear n0_ n1_ n2_ n3_ n4_
            (try clear hb)
            (try clear hb2)
            (try clear hk)
            (try clear hi)
            (try clear ho0)
            obtain ⟨Ao35, co35, eo35⟩ := Kd.R_slice HO803.out
            (first | subst eo35 | (injection eo35 with f1_ f2_ f3_; have f4_ := f1_.symm; have f5_ := f3_.symm; clear f1_ f2_ f3_; subst f4_; subst f5_))
            refine hK.out _ _ ⟨(blk_cell BK793.out 0).trans rfl, (blk_cell BK793.out 1).trans rfl, (blk_cell BK793.out 2).trans rfl, (blk_cell BK793.out 3).trans rfl, (blk_cell BK793.out 4).trans rfl, (blk_cell BK774.out 0).trans rfl, (blk_cell BK774.out 1).trans rfl, (blk_cell BK774.out 2).trans rfl, (blk_cell BK774.out 3).trans rfl, (blk_cell BK774.out 4).trans rfl⟩ (fun hHeld => ?_)
            clear hK K
            refine norm_ (a' := ?_) ?_ ?_
            rotate_left
            · show Act.put _ (some 50) _ = _
              simp only [Act.put, List.setIfInBounds_toArray, List.set_cons_zero, List.set_cons_succ, i64_w, i32_w]
              rfl
            refine one_ (i := 3) (N := some 51) #[true, true, true, true, false] rfl rfl (by kernel_rfl) (by decide) (fun K hK => ?_)
            refine goes_ Try.func55 (by kernel_rfl) rfl #[.agg #[.int .i64 t786, .int .i64 t787, .int .i64 t788, .int .i64 t789, .slice Ao25 t790.length co25], .agg #[.int .i64 t797, .int .i64 t798, .int .i64 t799, .int .i64 t800, .slice Ao35 t801.length co35]] (by rfl) rfl rfl (by (try simp only [List.map_toArray, List.map_cons, List.map_nil]); first | done | rfl | (simp only [List.length_drop, List.length_take]; rfl)) ?_
            with_reducible refine (laws_eqWide.calls kj11 t786 t787 t788 t789 _ _ t790 t797 t798 t799 t800 _ _ t801 true _ ?side1 ?side2 ?side3 ?side4 A31.out).mono ?_
            (case side1 => repeat (first | exact (Kd.R_reads' HO_794004.out).2.2 | (with_reducible refine Kd.C_alloc ?_ _) | (with_reducible refine Kd.C_drewN ?_ _) | (with_reducible refine Kd.C_drew ?_)))
            (case side2 => exact (Kd.R_reads' HO_794004.out).2.1)
            (case side3 => repeat (first | exact (Kd.R_reads' HO803.out).2.2 | (with_reducible refine Kd.C_alloc ?_ _) | (with_reducible refine Kd.C_drewN ?_ _) | (with_reducible refine Kd.C_drew ?_)))
            (case side4 => exact (Kd.R_reads' HO803.out).2.1)
            rintro e w36 ⟨rfl, hb⟩
            refine ⟨_, rfl, ?_⟩
            have n0_ := Aside0.mk (Kd.R_below (by (with_reducible repeat (first | apply Kd.R_alloc | apply Kd.R_drewN | apply Kd.R_drew)); exact HO_794004.out) hb)
            have n1_ := Aside0.mk (Kd.R_below (by (with_reducible repeat (first | apply Kd.R_alloc | apply Kd.R_drewN | apply Kd.R_drew)); exact HO803.out) hb)
            have n2_ := Aside0.mk (blk_below (g := gb774) (o := .cells #[.int .i64 a0_0, .int .i64 a0_1, .int .i64 a0_2, .int .i64 a0_3, .slice A0_4 l0_4.length c0_4] 79 (0, 0)) (by (with_reducible repeat (first | refine blk_drewN ?_ _ | refine blk_drew ?_ | refine blk_alloc ?_ _)); exact BK774.out) hb)
            have n3_ := Aside0.mk (blk_below (g := gb793) (o := .cells #[.int .i64 t786, .int .i64 t787, .int .i64 t788, .int .i64 t789, .slice Ao25 t790.length co25] 83 (0, 0)) (by (with_reducible repeat (first | refine blk_drewN ?_ _ | refine blk_drew ?_ | refine blk_alloc ?_ _)); exact BK793.out) hb)
            have n4_ := Aside0.mk (below_step (by repeat (first | (with_reducible first | exact HB.out | apply below_alloc | apply pw_below_drewN | apply below_drew1 | refine below_set ?_ GE774.out | refine below_set ?_ GE793.out) | exact HB.out)) hb)
            clear HO_794004
            clear HO803
            clear BK774
            clear BK793
            clear HB
            have HO_794004 := n0_
            have HO803 := n1_
            have BK774 := n2_
            have BK793 := n3_
            have HB := n4_
            clear n0_ n1_ n2_ n3_ n4_
            (try clear hb)
            (try clear hb2)
            (try clear hk)
            (try clear hi)
            refine hK.out _ _ ⟨(blk_cell BK793.out 0).trans rfl, (blk_cell BK793.out 1).trans rfl, (blk_cell BK793.out 2).trans rfl, (blk_cell BK793.out 3).trans rfl, (blk_cell BK793.out 4).trans rfl, (blk_cell BK774.out 0).trans rfl, (blk_cell BK774.out 1).trans rfl, (blk_cell BK774.out 2).trans rfl, (blk_cell BK774.out 3).trans rfl, (blk_cell BK774.out 4).trans rfl⟩ (fun hHeld => ?_)
            clear hK K
            refine norm_ (a' := ?_) ?_ ?_
            rotate_left
            · show Act.put _ (some 51) _ = _
              simp only [Act.put, List.setIfInBounds_toArray, List.set_cons_zero, List.set_cons_succ, i64_w, i32_w]
              rfl
            refine pure_ (i := 4) (N := some 52) (v := ?_) (a' := ?_) #[true, true, true, true, true] rfl rfl (by kernel_rfl) (fun _ _ _ h => h) (Or.inl ⟨by rfl, ?_⟩) ?_ ?_
            rotate_left
            · intro w'
              go_simp
              with_reducible rfl
            rotate_left
            · simp only [Act.put, List.setIfInBounds_toArray, List.set_cons_zero, List.set_cons_succ, i64_w, i32_w]
              rfl
            refine done_ (by kernel_rfl) ?_
            try go_wp2
            go_ret
            exact ⟨by first | rfl | (simp [errW_none, errW_some] <;> rfl) | (simp [*, errW_none, errW_some] <;> rfl), by repeat (first | (with_reducible first | exact HB.out | apply below_alloc | apply pw_below_drewN | apply below_drew1 | refine below_set ?_ GE774.out | refine below_set ?_ GE793.out) | exact HB.out)⟩
          · replace c32 := Bool.eq_false_iff.mpr c32
            subst c32
            have H1 : (some false) = some r := by rw [if_neg (show ¬ (false = true) by decide)] at H; exact H
            clear H
            have H := H1
            clear H1
            obtain rfl := Option.some.inj H
            try go_wp2
            have n0_ := Aside0.mk (Kd.R_drew HO_794004.out)
            have n1_ := Aside0.mk (blk_drew BK774.out)
            have n2_ := Aside0.mk (blk_drew BK793.out)
            have n3_ := Aside0.mk (below_drew1 HB.out)
            clear HO_794004
            clear BK774
            clear BK793
            clear HB
            have HO_794004 := n0_
            have BK774 := n1_
            have BK793 := n2_
            have HB := n3_
            clear n0_ n1_ n2_ n3_
            refine start_ (n := 5) (S := fun w' => w'.cell? ⟨gb793, 0, none⟩ = some (.int .i64 t786) ∧ w'.cell? ⟨gb793, 1, none⟩ = some (.int .i64 t787) ∧ w'.cell? ⟨gb793, 2, none⟩ = some (.int .i64 t788) ∧ w'.cell? ⟨gb793, 3, none⟩ = some (.int .i64 t789) ∧ w'.cell? ⟨gb793, 4, none⟩ = some (.slice Ao25 t790.length co25) ∧ w'.cell? ⟨gb774, 0, none⟩ = some (.int .i64 a0_0) ∧ w'.cell? ⟨gb774, 1, none⟩ = some (.int .i64 a0_1) ∧ w'.cell? ⟨gb774, 2, none⟩ = some (.int .i64 a0_2) ∧ w'.cell? ⟨gb774, 3, none⟩ = some (.int .i64 a0_3) ∧ w'.cell? ⟨gb774, 4, none⟩ = some (.slice A0_4 l0_4.length c0_4)) (ds := []) #[false, false, false, false, false] (by kernel_rfl) rfl rfl ⟨(blk_cell BK793.out 0).trans rfl, (blk_cell BK793.out 1).trans rfl, (blk_cell BK793.out 2).trans rfl, (blk_cell BK793.out 3).trans rfl, (blk_cell BK793.out 4).trans rfl, (blk_cell BK774.out 0).trans rfl, (blk_cell BK774.out 1).trans rfl, (blk_cell BK774.out 2).trans rfl, (blk_cell BK774.out 3).trans rfl, (blk_cell BK774.out 4).trans rfl⟩ (fun hHeld => ?_)
            generalize wc.drew = w37 at HO_794004 BK774 BK793 HB hHeld ⊢
            refine take_ (i := 0) (N := some 48) (v := ?_) (a' := ?_) #[true, false, false, false, false] rfl rfl (by kernel_rfl) (fun _ _ _ h => h) (Or.inl ⟨by rfl, ?_⟩) hHeld ?_ ?_
            rotate_left
            · rintro w' ⟨s0, s1, s2, s3, s4, s5, s6, s7, s8, s9⟩
              go_simp
              with_reducible rfl
            rotate_left
            · simp only [Act.put, List.setIfInBounds_toArray, List.set_cons_zero, List.set_cons_succ, i64_w, i32_w]
              rfl
            refine take_ (i := 1) (N := some 49) (v := ?_) (a' := ?_) #[true, true, false, false, false] rfl rfl (by kernel_rfl) (fun _ _ _ h => h) (Or.inl ⟨by rfl, ?_⟩) hHeld ?_ ?_
            rotate_left
            · rintro w' ⟨s0, s1, s2, s3, s4, s5, s6, s7, s8, s9⟩
              go_simp
              with_reducible rfl
            rotate_left
            · simp only [Act.put, List.setIfInBounds_toArray, List.set_cons_zero, List.set_cons_succ, i64_w, i32_w]
              rfl
            refine one_ (i := 2) (N := some 50) #[true, true, true, false, false] rfl rfl (by kernel_rfl) (by decide) (fun K hK => ?_)
            refine goes_ Try.func53 (by kernel_rfl) rfl #[.agg #[.int .i64 a0_0, .int .i64 a0_1, .int .i64 a0_2, .int .i64 a0_3, .slice A0_4 l0_4.length c0_4]] (by rfl) rfl rfl (by (try simp only [List.map_toArray, List.map_cons, List.map_nil]); first | done | rfl | (simp only [List.length_drop, List.length_take]; rfl)) ?_
            with_reducible refine (laws_toWide.calls kj11 a0_0 a0_1 a0_2 a0_3 _ _ l0_4 t797 t798 t799 t800 t801 _ ?side1 ?side2 A30.out).mono ?_
            (case side1 => repeat (first | exact (Kd.C_below HR0_4.out HB.out) | (with_reducible refine Kd.C_alloc ?_ _) | (with_reducible refine Kd.C_drewN ?_ _) | (with_reducible refine Kd.C_drew ?_)))
            (case side2 => exact HC0_4.out)
            rintro e w38 ⟨v802, rfl, ho0, hb⟩
            refine ⟨_, rfl, ?_⟩
            have n0_ := Aside0.mk (Kd.R_elder' (by (with_reducible repeat (first | apply Kd.R_alloc | apply Kd.R_drewN | apply Kd.R_drew)); exact HO_794004.out) (Kd.R_base ho0) hb)
            have n1_ := Aside0.mk (Kd.R_lower (Kd.R_new' ho0 (Kd.R_lt (by (with_reducible repeat (first | apply Kd.R_alloc | apply Kd.R_drewN | apply Kd.R_drew)); exact HO_794004.out))) (below_size (by repeat (first | (with_reducible first | exact HB.out | apply below_alloc | apply pw_below_drewN | apply below_drew1 | refine below_set ?_ GE774.out | refine below_set ?_ GE793.out) | exact HB.out))))
            have n2_ := Aside0.mk (blk_below (g := gb774) (o := .cells #[.int .i64 a0_0, .int .i64 a0_1, .int .i64 a0_2, .int .i64 a0_3, .slice A0_4 l0_4.length c0_4] 79 (0, 0)) (by (with_reducible repeat (first | refine blk_drewN ?_ _ | refine blk_drew ?_ | refine blk_alloc ?_ _)); exact BK774.out) hb)
            have n3_ := Aside0.mk (blk_below (g := gb793) (o := .cells #[.int .i64 t786, .int .i64 t787, .int .i64 t788, .int .i64 t789, .slice Ao25 t790.length co25] 83 (0, 0)) (by (with_reducible repeat (first | refine blk_drewN ?_ _ | refine blk_drew ?_ | refine blk_alloc ?_ _)); exact BK793.out) hb)
            have n4_ := Aside0.mk (below_step (by repeat (first | (with_reducible first | exact HB.out | apply below_alloc | apply pw_below_drewN | apply below_drew1 | refine below_set ?_ GE774.out | refine below_set ?_ GE793.out) | exact HB.out)) hb)
            clear HO_794004
            clear BK774
            clear BK793
            clear HB
            have HO_794004 := n0_
            have HO803 := n1_
            have BK774 := n2_
            have BK793 := n3_
            have HB := n4_
            clear n0_ n1_ n2_ n3_ n4_
            (try clear hb)
            (try clear hb2)
            (try clear hk)
            (try clear hi)
            (try clear ho0)
            obtain ⟨Ao39, co39, eo39⟩ := Kd.R_slice HO803.out
            (first | subst eo39 | (injection eo39 with f1_ f2_ f3_; have f4_ := f1_.symm; have f5_ := f3_.symm; clear f1_ f2_ f3_; subst f4_; subst f5_))
            refine hK.out _ _ ⟨(blk_cell BK793.out 0).trans rfl, (blk_cell BK793.out 1).trans rfl, (blk_cell BK793.out 2).trans rfl, (blk_cell BK793.out 3).trans rfl, (blk_cell BK793.out 4).trans rfl, (blk_cell BK774.out 0).trans rfl, (blk_cell BK774.out 1).trans rfl, (blk_cell BK774.out 2).trans rfl, (blk_cell BK774.out 3).trans rfl, (blk_cell BK774.out 4).trans rfl⟩ (fun hHeld => ?_)
            clear hK K
            refine norm_ (a' := ?_) ?_ ?_
            rotate_left
            · show Act.put _ (some 50) _ = _
              simp only [Act.put, List.setIfInBounds_toArray, List.set_cons_zero, List.set_cons_succ, i64_w, i32_w]
              rfl
            refine one_ (i := 3) (N := some 51) #[true, true, true, true, false] rfl rfl (by kernel_rfl) (by decide) (fun K hK => ?_)
            refine goes_ Try.func55 (by kernel_rfl) rfl #[.agg #[.int .i64 t786, .int .i64 t787, .int .i64 t788, .int .i64 t789, .slice Ao25 t790.length co25], .agg #[.int .i64 t797, .int .i64 t798, .int .i64 t799, .int .i64 t800, .slice Ao39 t801.length co39]] (by rfl) rfl rfl (by (try simp only [List.map_toArray, List.map_cons, List.map_nil]); first | done | rfl | (simp only [List.length_drop, List.length_take]; rfl)) ?_
            with_reducible refine (laws_eqWide.calls kj11 t786 t787 t788 t789 _ _ t790 t797 t798 t799 t800 _ _ t801 false _ ?side1 ?side2 ?side3 ?side4 A31.out).mono ?_
            (case side1 => repeat (first | exact (Kd.R_reads' HO_794004.out).2.2 | (with_reducible refine Kd.C_alloc ?_ _) | (with_reducible refine Kd.C_drewN ?_ _) | (with_reducible refine Kd.C_drew ?_)))
            (case side2 => exact (Kd.R_reads' HO_794004.out).2.1)
            (case side3 => repeat (first | exact (Kd.R_reads' HO803.out).2.2 | (with_reducible refine Kd.C_alloc ?_ _) | (with_reducible refine Kd.C_drewN ?_ _) | (with_reducible refine Kd.C_drew ?_)))
            (case side4 => exact (Kd.R_reads' HO803.out).2.1)
            rintro e w40 ⟨rfl, hb⟩
            refine ⟨_, rfl, ?_⟩
            have n0_ := Aside0.mk (Kd.R_below (by (with_reducible repeat (first | apply Kd.R_alloc | apply Kd.R_drewN | apply Kd.R_drew)); exact HO_794004.out) hb)
            have n1_ := Aside0.mk (Kd.R_below (by (with_reducible repeat (first | apply Kd.R_alloc | apply Kd.R_drewN | apply Kd.R_drew)); exact HO803.out) hb)
            have n2_ := Aside0.mk (blk_below (g := gb774) (o := .cells #[.int .i64 a0_0, .int .i64 a0_1, .int .i64 a0_2, .int .i64 a0_3, .slice A0_4 l0_4.length c0_4] 79 (0, 0)) (by (with_reducible repeat (first | refine blk_drewN ?_ _ | refine blk_drew ?_ | refine blk_alloc ?_ _)); exact BK774.out) hb)
            have n3_ := Aside0.mk (blk_below (g := gb793) (o := .cells #[.int .i64 t786, .int .i64 t787, .int .i64 t788, .int .i64 t789, .slice Ao25 t790.length co25] 83 (0, 0)) (by (with_reducible repeat (first | refine blk_drewN ?_ _ | refine blk_drew ?_ | refine blk_alloc ?_ _)); exact BK793.out) hb)
            have n4_ := Aside0.mk (below_step (by repeat (first | (with_reducible first | exact HB.out | apply below_alloc | apply pw_below_drewN | apply below_drew1 | refine below_set ?_ GE774.out | refine below_set ?_ GE793.out) | exact HB.out)) hb)
            clear HO_794004
            clear HO803
            clear BK774
            clear BK793
            clear HB
            have HO_794004 := n0_
            have HO803 := n1_
            have BK774 := n2_
            have BK793 := n3_
            have HB := n4_
            clear n0_ n1_ n2_ n3_ n4_
            (try clear hb)
            (try clear hb2)
            (try clear hk)
            (try clear hi)
            refine hK.out _ _ ⟨(blk_cell BK793.out 0).trans rfl, (blk_cell BK793.out 1).trans rfl, (blk_cell BK793.out 2).trans rfl, (blk_cell BK793.out 3).trans rfl, (blk_cell BK793.out 4).trans rfl, (blk_cell BK774.out 0).trans rfl, (blk_cell BK774.out 1).trans rfl, (blk_cell BK774.out 2).trans rfl, (blk_cell BK774.out 3).trans rfl, (blk_cell BK774.out 4).trans rfl⟩ (fun hHeld => ?_)
            clear hK K
            refine norm_ (a' := ?_) ?_ ?_
            rotate_left
            · show Act.put _ (some 51) _ = _
              simp only [Act.put, List.setIfInBounds_toArray, List.set_cons_zero, List.set_cons_succ, i64_w, i32_w]
              rfl
            refine pure_ (i := 4) (N := some 52) (v := ?_) (a' := ?_) #[true, true, true, true, true] rfl rfl (by kernel_rfl) (fun _ _ _ h => h) (Or.inl ⟨by rfl, ?_⟩) ?_ ?_
            rotate_left
            · intro w'
              go_simp
              with_reducible rfl
            rotate_left
            · simp only [Act.put, List.setIfInBounds_toArray, List.set_cons_zero, List.set_cons_succ, i64_w, i32_w]
              rfl
            refine done_ (by kernel_rfl) ?_
            try go_wp2
            go_ret
            exact ⟨by first | rfl | (simp [errW_none, errW_some] <;> rfl) | (simp [*, errW_none, errW_some] <;> rfl), by repeat (first | (with_reducible first | exact HB.out | apply below_alloc | apply pw_below_drewN | apply below_drew1 | refine below_set ?_ GE774.out | refine below_set ?_ GE793.out) | exact HB.out)⟩

end Go.Proofs.Ytlocignlkigojaa.Q

-- text OLoop
namespace Go.Proofs.Ytlocignlkigojaa.Pure
open Go.RowKit Go.Proofs.YtlocignlkigojaaW.PrintWords Go.Proofs.YtlocignlkigojaaW.PrintLast Go.Proofs.YtlocignlkigojaaW.PrintMore
set_option linter.unusedVariables false
set_option linter.unusedSimpArgs false

theorem up64 (i n : Nat) (h : i < n) (hn : n ≤ 9223372036854775807) : wrap64 ((i : Int) + 1) = ((i + 1 : Nat) : Int) := by unfold wrap64; omega
/-- A loop over i from 0 to n: an invariant, and what is known of the answer. -/
theorem loop_from {σ ρ : Type} (n : Nat) (L : Nat → σ → Int → Option ρ) (I : Nat → σ → Prop) (Post : ρ → Prop)
    (hs : ∀ (i : Nat) s, i < n → I i s → (∃ r, Post r ∧ Ev (fun k => L k s (i : Int)) r) ∨ ∃ s', I (i + 1) s' ∧ ∀ r, Ev (fun k => L k s' ((i + 1 : Nat) : Int)) r → Ev (fun k => L k s (i : Int)) r)
    (he : ∀ s, I n s → ∃ r, Post r ∧ Ev (fun k => L k s (n : Int)) r) : ∀ (d i : Nat) s, i + d = n → I i s → ∃ r, Post r ∧ Ev (fun k => L k s (i : Int)) r
  | 0, i, s, hd, hI => by
    obtain rfl : i = n := by omega
    exact he s hI
  | d + 1, i, s, hd, hI => by
    rcases hs i s (by omega) hI with h | ⟨s', hI', h⟩
    · exact h
    · obtain ⟨r, hr, hE⟩ := loop_from n L I Post hs he d (i + 1) s' (by omega) hI'
      exact ⟨r, hr, h r hE⟩
theorem loop_up {σ ρ : Type} (n : Nat) (L : Nat → σ → Int → Option ρ) (I : Nat → σ → Prop) (Post : ρ → Prop)
    (hs : ∀ (i : Nat) s, i < n → I i s → (∃ r, Post r ∧ Ev (fun k => L k s (i : Int)) r) ∨ ∃ s', I (i + 1) s' ∧ ∀ r, Ev (fun k => L k s' ((i + 1 : Nat) : Int)) r → Ev (fun k => L k s (i : Int)) r)
    (he : ∀ s, I n s → ∃ r, Post r ∧ Ev (fun k => L k s (n : Int)) r) (s : σ) (h0 : I 0 s) : ∃ r, Post r ∧ Ev (fun k => L k s 0) r :=
  loop_from n L I Post hs he n 0 s (by omega) h0
/-- The same where one answer is told. -/
theorem loop_is {σ ρ : Type} (n : Nat) (L : Nat → σ → Int → Option ρ) (I : Nat → σ → Prop) (a : ρ)
    (hs : ∀ (i : Nat) s, i < n → I i s → Ev (fun k => L k s (i : Int)) a ∨ ∃ s', I (i + 1) s' ∧ ∀ r, Ev (fun k => L k s' ((i + 1 : Nat) : Int)) r → Ev (fun k => L k s (i : Int)) r)
    (he : ∀ s, I n s → Ev (fun k => L k s (n : Int)) a) (s : σ) (h0 : I 0 s) : Ev (fun k => L k s 0) a := by
  obtain ⟨r, hr, hE⟩ := loop_up n L I (· = a) (fun i s hi hI => (hs i s hi hI).imp (fun h => ⟨a, rfl, h⟩) id) (fun s hI => ⟨a, rfl, he s hI⟩) s h0
  exact hr ▸ hE
theorem ev_some {α : Type} {g : Nat → Option α} {r : α} (h : ∀ k, g k = some r) : Ev g r := ⟨0, fun k _ => h k⟩
theorem ev_next {α : Type} {g f : Nat → Option α} (h : ∀ k, g (k + 1) = f k) : ∀ r, Ev f r → Ev g r := fun _ k => Ev.step h k
theorem ev_end {α : Type} {g : Nat → Option α} {r : α} (h : ∀ k, g (k + 1) = some r) : Ev g r := Ev.step h (Ev.now r)
theorem ev_of {α : Type} {g : Nat → Option α} {r : α} {K : Nat} (h : ∀ k, K ≤ k → g k = some r) : Ev g r := ⟨K, h⟩
theorem ev_then1 {α : Type} {g : Nat → Option α} {r : α} (h : Ev g r) : Ev (fun k => (g k).bind fun t => some t) r := Ev.bind h (Ev.now r)
/-- what is bound comes to the same -/
theorem ev_bind_some {α β : Type} {a : α} {f : Nat → α → Option β} {r : β} (k : Ev (fun n => f n a) r) : Ev (fun n => (some a).bind (f n)) r := k

theorem take_set {α : Type} (l y : List α) (i : Nat) (v : α) (hl : y.length = l.length) (hi : i < l.length) (hv : v = l[i]) (h : y.take i = l.take i) : (y.set i v).take (i + 1) = l.take (i + 1) := by
  rw [List.take_succ_eq_append_getElem (by rw [List.length_set]; omega), List.take_succ_eq_append_getElem hi]
  congr 1
  · rw [List.take_set_of_le (by omega)]; exact h
  · simp [hv]
theorem take_all {α : Type} (l y : List α) (n : Nat) (hl : y.length = n) (hn : l.length = n) (h : y.take n = l.take n) : y = l := by
  rw [List.take_of_length_le (by omega), List.take_of_length_le (by omega)] at h
  exact h
theorem getD_get {α : Type} (l : List α) (i : Nat) (z : α) (h : i < l.length) : l.getD i z = l[i] := by
  rw [List.getD_eq_getElem?_getD, List.getElem?_eq_getElem h]; rfl
theorem map_loop {α β : Type} (L : Nat → List β → Int → Option (List β)) (l : List α) (c : α → β)
    (hs : ∀ (i : Nat) (h : i < l.length) y, y.length = l.length → ∀ r, Ev (fun k => L k (y.set i (c l[i])) ((i + 1 : Nat) : Int)) r → Ev (fun k => L k y (i : Int)) r)
    (he : ∀ k y, L (k + 1) y (l.length : Int) = some y) (y : List β) (hy : y.length = l.length) : Ev (fun k => L k y 0) (l.map c) := by
  refine loop_is l.length L (fun i y => y.length = l.length ∧ y.take i = (l.map c).take i) _ ?_ ?_ y ⟨hy, by simp⟩
  · intro i s hi ⟨h1, h2⟩
    exact .inr ⟨s.set i (c l[i]), ⟨by rw [List.length_set]; exact h1, take_set (l.map c) s i _ (by simpa using h1) (by simpa using hi) (by simp) h2⟩, hs i hi s h1⟩
  · intro s ⟨h1, h2⟩
    have e := take_all (l.map c) s l.length h1 (by simp) h2
    exact e ▸ ev_end (fun k => he k s)
theorem eq_loop (n : Nat) (L : Nat → Int → Option Bool) (hs : ∀ i : Nat, i < n → ∀ r, Ev (fun k => L k ((i + 1 : Nat) : Int)) r → Ev (fun k => L k (i : Int)) r) (he : ∀ k, L (k + 1) (n : Int) = some true) : Ev (fun k => L k 0) true :=
  loop_is n (fun k (_ : Unit) i => L k i) (fun _ _ => True) true (fun i _ hi _ => .inr ⟨(), trivial, hs i hi⟩) (fun _ _ => ev_end he) () trivial
theorem same_loop {α : Type} [DecidableEq α] (a b : List α) (hl : a.length = b.length) (L : Nat → Int → Option Bool)
    (hs : ∀ k (i : Nat) (h : i < a.length) (h' : i < b.length), L (k + 1) (i : Int) = if a[i] = b[i] then L k ((i + 1 : Nat) : Int) else some false) (he : ∀ k, L (k + 1) (a.length : Int) = some true) : Ev (fun k => L k 0) (decide (a = b)) := by
  refine loop_is a.length (fun k (_ : Unit) i => L k i) (fun i _ => a.take i = b.take i) _ ?_ ?_ () (by simp)
  · intro i _ hi hI
    have hi' : i < b.length := by omega
    by_cases c : a[i] = b[i]
    · refine .inr ⟨(), ?_, ev_next (fun k => ?_)⟩
      · rw [List.take_succ_eq_append_getElem hi, List.take_succ_eq_append_getElem hi', hI, c]
      · rw [hs k i hi hi', if_pos c]
    · left
      rw [decide_eq_false (fun e => c (by subst e; rfl))]
      exact ev_end (fun k => by rw [hs k i hi hi', if_neg c])
  · intro _ hI
    rw [List.take_length, hl, List.take_length] at hI
    rw [decide_eq_true hI]
    exact ev_end he
/-- numbers from c on -/
def cnt (c n : Nat) : List Int := (List.range n).map fun j => ((c + j : Nat) : Int)
theorem cnt_length (c n : Nat) : (cnt c n).length = n := by simp [cnt]
theorem cnt_get (c n i : Nat) (h : i < (cnt c n).length) : (cnt c n)[i] = ((c + i : Nat) : Int) := by simp [cnt]
theorem mark_loop (n c : Nat) (hc : c + n ≤ 4611686018427387904) (L : Nat → List Int × Int → Int → Option (Int × List Int))
    (hs : ∀ k (i : Nat) x (m : Nat), i < n → x.length = n → m ≤ 4611686018427387904 → L (k + 1) (x, (m : Int)) (i : Int) = L k (x.set i (m : Int), ((m + 1 : Nat) : Int)) ((i + 1 : Nat) : Int))
    (he : ∀ k x m, x.length = n → L (k + 1) (x, m) (n : Int) = some (m, x)) (x : List Int) (hx : x.length = n) : Ev (fun k => L k (x, (c : Int)) 0) (((c + n : Nat) : Int), cnt c n) := by
  refine loop_is n L (fun i s => s.1.length = n ∧ s.2 = ((c + i : Nat) : Int) ∧ s.1.take i = (cnt c n).take i) _ ?_ ?_ (x, (c : Int)) ⟨hx, by simp, by simp⟩
  · rintro i ⟨x, m⟩ hi ⟨h1, h2, h3⟩
    simp only at h1 h2 h3
    subst h2
    exact .inr ⟨(x.set i ((c + i : Nat) : Int), ((c + i + 1 : Nat) : Int)), ⟨by simpa using h1, rfl, take_set (cnt c n) x i _ (by rw [cnt_length]; exact h1) (by rw [cnt_length]; exact hi) (by rw [cnt_get]) h3⟩, ev_next (fun k => hs k i x (c + i) hi h1 (by omega))⟩
  · rintro ⟨x, m⟩ ⟨h1, h2, h3⟩
    simp only at h1 h2 h3
    have e := take_all (cnt c n) x n h1 (cnt_length c n) h3
    subst h2 e
    exact ev_end (fun k => he k _ _ h1)
theorem held_loop (n c : Nat) (hc : c + n ≤ 4611686018427387904) (L : Nat → Int → Int → Option Int)
    (hs : ∀ k (i : Nat), i < n → L (k + 1) ((c + i : Nat) : Int) (i : Int) = L k ((c + i + 1 : Nat) : Int) ((i + 1 : Nat) : Int))
    (he : ∀ k m, L (k + 1) m (n : Int) = some m) : Ev (fun k => L k (c : Int) 0) ((c + n : Nat) : Int) := by
  refine loop_is n L (fun i s => s = ((c + i : Nat) : Int)) _ ?_ ?_ (c : Int) (by simp)
  · rintro i _ hi rfl
    exact .inr ⟨((c + i + 1 : Nat) : Int), rfl, ev_next (fun k => hs k i hi)⟩
  · rintro _ rfl
    exact ev_end (fun k => he k _)
/-- marking rows of several numbers: how far it counts -/
theorem count_loop {α : Type} (n c w : Nat) (L : Nat → List α × Int → Int → Option (Int × List α))
    (hs : ∀ (i : Nat) x (m : Nat), i < n → x.length = n → m ≤ c + w * n → ∃ x' : List α, x'.length = n ∧ ∀ k, L (k + 1) (x, (m : Int)) (i : Int) = L k (x', ((m + w : Nat) : Int)) ((i + 1 : Nat) : Int))
    (he : ∀ k x m, x.length = n → L (k + 1) (x, m) (n : Int) = some (m, x)) (x : List α) (hx : x.length = n) : ∃ x', Ev (fun k => L k (x, (c : Int)) 0) (((c + w * n : Nat) : Int), x') := by
  obtain ⟨r, hr, hE⟩ := loop_up n L (fun i s => s.1.length = n ∧ s.2 = ((c + w * i : Nat) : Int)) (fun r : Int × List α => r.1 = ((c + w * n : Nat) : Int)) (by
    rintro i ⟨x, m⟩ hi ⟨h1, h2⟩
    simp only at h1 h2
    subst h2
    have hle : w * i ≤ w * n := Nat.mul_le_mul_left _ (by omega)
    obtain ⟨x', g1, g2⟩ := hs i x (c + w * i) hi h1 (by omega)
    exact .inr ⟨(x', ((c + w * i + w : Nat) : Int)), ⟨g1, by simp only [Nat.mul_add, Nat.mul_one, Nat.add_assoc]⟩, ev_next g2⟩) (by
    rintro ⟨x, m⟩ ⟨h1, h2⟩
    simp only at h1 h2
    subst h2
    exact ⟨_, rfl, ev_end (fun k => he k _ _ h1)⟩) (x, (c : Int)) ⟨hx, by simp⟩
  obtain ⟨a, b⟩ := r
  simp only at hr
  subst hr
  exact ⟨b, hE⟩

end Go.Proofs.Ytlocignlkigojaa.Pure

-- text OIn
namespace Go.Proofs.Ytlocignlkigojaa.Pure
open Go.RowKit Go.Proofs.Ytlocignlkigojaa.Q Go.Proofs.YtlocignlkigojaaW.PrintWords Go.Proofs.YtlocignlkigojaaW.PrintLast Go.Proofs.YtlocignlkigojaaW.PrintMore
set_option linter.unusedVariables false
set_option linter.unusedSimpArgs false
theorem in_inB (a b c : Int) : spec_l00In.f a b c = some (inB a b c) := between_inB a b c
end Go.Proofs.Ytlocignlkigojaa.Pure

-- text OWide
namespace Go.Proofs.Ytlocignlkigojaa.Pure
open Go.RowKit Go.Proofs.Ytlocignlkigojaa.Q Go.Proofs.YtlocignlkigojaaW.PrintWords Go.Proofs.YtlocignlkigojaaW.PrintLast Go.Proofs.YtlocignlkigojaaW.PrintMore
set_option linter.unusedVariables false
set_option linter.unusedSimpArgs false

theorem rd_str (l : List ByteArray) (i : Nat) (h : i < l.length) : rdOf ByteArray.empty l (i : Int) = l[i] := by
  unfold rdOf
  rw [Int.toNat_natCast, getD_get l i _ h]
theorem code_codeB (k m : Int) : spec_l04Code.f k m = some (codeB k m) := codeOk_codeB k m
theorem tall_is (k m u s : Int) (l : List ByteArray) : spec_l05Tall.f k m u s = impl_Wide_length.f k m u s l := by
  unfold spec_l05Tall.f impl_Wide_length.f impl_Wide_stripe.f
  simp only [Option.bind_some]
theorem head_facts (k m u s : Int) (l : List ByteArray) (h : wideHead k m u s l = true) : 1 ≤ k ∧ k ≤ 4 ∧ 0 ≤ m ∧ m ≤ 3 ∧ 1 ≤ u ∧ u ≤ 8 ∧ 0 ≤ s ∧ s ≤ 256 := by
  unfold wideHead codeB inB at h
  simp only [Bool.and_eq_true, decide_eq_true_eq] at h
  omega
theorem mul_in (k u : Int) (h1 : 1 ≤ k) (h2 : k ≤ 4) (h3 : 1 ≤ u) (h4 : u ≤ 8) : wrap64 (k * u) = k * u ∧ 1 ≤ k * u ∧ k * u ≤ 32 := by
  have a : 1 * 1 ≤ k * u := Int.mul_le_mul h1 h3 (by omega) (by omega)
  have b : k * u ≤ 4 * 8 := Int.mul_le_mul h2 h4 (by omega) (by omega)
  refine ⟨?_, by omega, by omega⟩
  generalize k * u = x at a b
  unfold wrap64
  omega
theorem length_some (k m u s : Int) (l : List ByteArray) (h : wideHead k m u s l = true) : ∃ t, impl_Wide_length.f k m u s l = some t := by
  obtain ⟨h1, h2, _, _, h3, h4, _, _⟩ := head_facts k m u s l h
  have hm := mul_in k u h1 h2 h3 h4
  unfold impl_Wide_length.f impl_Wide_stripe.f
  simp only [Option.bind_some]
  rw [if_neg (by omega)]
  exact ⟨_, rfl⟩
/-- is a striped object valid? -/
def wideB (k m u s : Int) (l : List ByteArray) : Bool := wideHead k m u s l && (match impl_Wide_length.f k m u s l with | some t => !(l.any fun c => (c.size : Int) != t) | none => false)
theorem impl_wide_is (k m u s : Int) (l : List ByteArray) : impl_WideOk.f k m u s l = some (wideB k m u s l) := by
  unfold impl_WideOk.f wideB
  by_cases h : wideHead k m u s l = true
  · obtain ⟨t, ht⟩ := length_some k m u s l h
    rw [if_pos h, ht, h]
    rfl
  · rw [if_neg h]
    have e : wideHead k m u s l = false := by simpa using h
    rw [e]
    rfl
theorem spec_cols_ev (k m u s : Int) (l : List ByteArray) (hl : l.length ≤ 9223372036854775807) (t : Int) (ht : impl_Wide_length.f k m u s l = some t) : Ev (fun r => spec_l05OK.l0 r 0 k m u s l) (!(l.any fun c => (c.size : Int) != t)) := by
  refine loop_is l.length (fun r (_ : Unit) i => spec_l05OK.l0 r i k m u s l) (fun i _ => (l.take i).any (fun c => (c.size : Int) != t) = false) _ ?_ ?_ () (by simp)
  · intro i _ hi hI
    have hu : ∀ r, spec_l05OK.l0 (r + 1) i k m u s l = if ((l[i].size : Int) = t) then spec_l05OK.l0 r ((i + 1 : Nat) : Int) k m u s l else some false := fun r => by
      simp only [spec_l05OK.l0]
      rw [if_pos (by omega), if_pos (by omega), tall_is k m u s l, ht, Option.bind_some, rd_str l i hi, up64 i l.length hi hl]
    by_cases c : (l[i].size : Int) = t
    · refine .inr ⟨(), ?_, ev_next (fun r => by rw [hu r, if_pos c])⟩
      rw [List.take_succ_eq_append_getElem hi, List.any_append, hI]
      simp [c]
    · left
      have e : l.any (fun c => (c.size : Int) != t) = true := by
        rw [List.any_eq_true]
        exact ⟨l[i], List.getElem_mem hi, by simpa using c⟩
      rw [e]
      exact ev_end (fun r => by rw [hu r, if_neg c]; rfl)
  · intro _ hI
    rw [List.take_length] at hI
    rw [hI]
    refine ev_end (fun r => ?_)
    simp only [spec_l05OK.l0]
    rw [if_neg (by omega)]
    rfl
theorem spec_wide_ev (k m u s : Int) (l : List ByteArray) (hl : l.length ≤ 9223372036854775807) : Ev (fun r => spec_l05OK.f r k m u s l) (wideB k m u s l) := by
  have hj : Ev (fun r => spec_l05OK.j0 r true k m u s l) false := ev_end (fun r => by simp only [spec_l05OK.j0, if_true])
  have hw : wideHead k m u s l = (codeB k m && inB u 1 8 && inB s 0 256 && decide ((l.length : Int) = wrap64 (k + m))) := rfl
  unfold spec_l05OK.f wideB
  simp only [in_inB, code_codeB, Option.bind_some]
  by_cases h : wideHead k m u s l = true
  · obtain ⟨t, ht⟩ := length_some k m u s l h
    rw [ht, h]
    rw [hw] at h
    simp only [Bool.and_eq_true, decide_eq_true_eq] at h
    obtain ⟨⟨⟨h1, h2⟩, h3⟩, h4⟩ := h
    have e : ((l.length : Int) != wrap64 (k + m)) = false := by simp [h4]
    simp only [h1, h2, h3, if_true, e, Bool.true_and]
    refine Ev.step (f := fun r => spec_l05OK.l0 r 0 k m u s l) (fun r => by simp only [spec_l05OK.j0, Bool.false_eq_true, if_false]) ?_
    exact spec_cols_ev k m u s l hl t ht
  · have e : wideHead k m u s l = false := by simpa using h
    rw [e, Bool.false_and]
    rw [hw] at e
    cases h1 : codeB k m with
    | false => simpa [h1] using hj
    | true =>
      cases h2 : inB u 1 8 with
      | false => simpa [h1, h2] using hj
      | true =>
        cases h3 : inB s 0 256 with
        | false => simpa [h1, h2, h3] using hj
        | true =>
          rw [h1, h2, h3] at e
          simp only [Bool.true_and] at e
          have e4 : ((l.length : Int) != wrap64 (k + m)) = true := by
            have := of_decide_eq_false e
            simp [this]
          simp only [if_true, e4]
          exact hj
theorem szStringS_ev (l : List ByteArray) (hl : l.length ≤ 9223372036854775807) (hb : ∀ x ∈ l, x.size ≤ 9223372036854775807) : ∃ t, (0 ≤ t → l.length ≤ 1048576) ∧ Ev (fun k => laws_szStringS.f k l 1048576) t := by
  have e : wrap64 (1048576 - (l.length : Int)) = 1048576 - (l.length : Int) := by unfold wrap64; omega
  unfold laws_szStringS.f
  simp only [e]
  by_cases h : (1048576 - (l.length : Int)) < 0
  · simp only [if_pos h]
    exact ⟨-1, by omega, Ev.now _⟩
  · simp only [if_neg h]
    refine loop_up l.length (fun k s i => laws_szStringS.l0 k l s i) (fun _ s => 0 ≤ s ∧ s ≤ 1048576) _ ?_ ?_ _ ⟨by omega, by omega⟩
    · intro i s hi ⟨h0, h1⟩
      have hsz := hb l[i] (List.getElem_mem hi)
      have ew : wrap64 (s - (l[i].size : Int)) = s - (l[i].size : Int) := by unfold wrap64; omega
      by_cases c : s - (l[i].size : Int) < 0
      · refine .inl ⟨-1, by omega, ev_end (fun k => ?_)⟩
        simp only [laws_szStringS.l0]
        rw [if_pos (by omega), if_pos (by omega), rd_str l i hi, ew, if_pos c]
      · refine .inr ⟨s - (l[i].size : Int), ⟨by omega, by omega⟩, ev_next (fun k => ?_)⟩
        simp only [laws_szStringS.l0]
        rw [if_pos (by omega), if_pos (by omega), rd_str l i hi, ew, if_neg c, up64 i l.length hi hl]
    · intro s _
      refine ⟨s, fun _ => by omega, ev_end (fun k => ?_)⟩
      simp only [laws_szStringS.l0]
      rw [if_neg (by omega)]
theorem szWide_ev (k m u s : Int) (l : List ByteArray) (hl : l.length ≤ 9223372036854775807) (hb : ∀ x ∈ l, x.size ≤ 9223372036854775807) : ∃ t, (0 ≤ t → l.length ≤ 1048576) ∧ Ev (fun r => laws_szWide.f r k m u s l 1048576) t := by
  obtain ⟨t, h1, h2⟩ := szStringS_ev l hl hb
  unfold laws_szWide.f
  by_cases c : t < 0
  · exact ⟨-1, by omega, Ev.bind h2 (ev_some fun r => if_pos c)⟩
  · exact ⟨t, h1, Ev.bind h2 (ev_some fun r => if_neg c)⟩
theorem toStringS_ev (l : List ByteArray) (hl : l.length ≤ 1048576) : Ev (fun k => laws_toStringS.f k l) l := by
  have h := map_loop (fun k y i => laws_toStringS.l0 k l y i) l id (fun i hi y hy => ev_next (fun k => by
    simp only [laws_toStringS.l0]
    rw [if_pos (by omega), if_pos (by omega), if_pos (by omega), up64 i l.length hi (by omega), Int.toNat_natCast, rd_str l i hi]
    rfl)) (fun k y => by simp only [laws_toStringS.l0]; rw [if_neg (by omega)]) (List.replicate ((l.length : Int) : Int).toNat (⟨#[]⟩ : ByteArray)) (by simp)
  rw [List.map_id] at h
  refine Ev.congr (fun k => ?_) h
  unfold laws_toStringS.f
  rw [if_pos (by omega), if_pos (by omega)]
theorem eqStringS_ev (l : List ByteArray) (hl : l.length ≤ 9223372036854775807) : Ev (fun k => laws_eqStringS.f k l l) true := by
  refine Ev.congr (fun k => ?_) (eq_loop l.length (fun k i => laws_eqStringS.l0 k l l i) (fun i hi => ev_next (fun k => by
    simp only [laws_eqStringS.l0, if_true]
    rw [if_pos (by omega), if_pos (by omega), if_pos (by omega), up64 i l.length hi hl])) (fun k => by simp only [laws_eqStringS.l0]; rw [if_neg (by omega)]))
  unfold laws_eqStringS.f
  rw [if_pos rfl]
theorem toWide_ev (k m u s : Int) (l : List ByteArray) (hl : l.length ≤ 1048576) : Ev (fun r => laws_toWide.f r k m u s l) (k, m, u, s, l) := by
  unfold laws_toWide.f laws_toCode.f
  simp only [Option.bind_some]
  exact Ev.bind (toStringS_ev l hl) (Ev.now _)
theorem eqWide_ev (k m u s : Int) (l : List ByteArray) (hl : l.length ≤ 1048576) : Ev (fun r => laws_eqWide.f r k m u s l k m u s l) true := by
  unfold laws_eqWide.f laws_eqCode.f
  simp only [if_true, Option.bind_some]
  exact Ev.bind (eqStringS_ev l (by omega)) (ev_some fun k => if_pos rfl)

end Go.Proofs.Ytlocignlkigojaa.Pure

-- text PureFnExactCellOf
namespace Go.Proofs.Ytlocignlkigojaa.Pure
open Go.RowKit Go.Proofs.Ytlocignlkigojaa.Q Go.Proofs.Ytlocignlkigojaa.Opens Go.Proofs.YtlocignlkigojaaW.PrintWords Go.Proofs.YtlocignlkigojaaW.PrintLast Go.Proofs.YtlocignlkigojaaW.PrintMore
set_option linter.unusedVariables false
set_option linter.unusedSimpArgs false

theorem cell_same (k m u s : Int) (l : List ByteArray) (p : Int) (hw : wideB k m u s l = true) (hp : inB p 0 (wrap64 (s - 1)) = true) : ∃ c, spec_l05Cell.f k m u s l p = some c ∧ impl_Wide_cell.f k m u s l p = some c := by
  unfold wideB at hw
  rw [Bool.and_eq_true] at hw
  obtain ⟨h1, h2, _, _, h3, h4, _, _⟩ := head_facts k m u s l hw.1
  have hm := mul_in k u h1 h2 h3 h4
  unfold inB at hp
  simp only [Bool.and_eq_true, decide_eq_true_eq] at hp
  unfold spec_l05Cell.f impl_Wide_cell.f impl_Wide_stripe.f
  simp only [Option.bind_some]
  rw [hm.1, if_neg (by omega), if_neg (by omega), if_neg (by omega), if_neg (by omega), if_neg (by omega)]
  refine ⟨_, rfl, ?_⟩
  have e : Int.tmod (Int.tmod p (k * u)) u = Int.tmod p u := by
    rw [Int.tmod_eq_emod_of_nonneg hp.1, Int.tmod_eq_emod_of_nonneg hp.1, Int.tmod_eq_emod_of_nonneg (Int.emod_nonneg _ (by omega)), Int.emod_emod_of_dvd _ (Int.dvd_mul_left _ _)]
  rw [e]
theorem CellOf_both (k m u s : Int) (l : List ByteArray) (p : Int) (hl : l.length ≤ 9223372036854775807) : ∃ r, Ev (fun q => spec_CellOf.f q k m u s l p) r ∧ impl_CellOf.f k m u s l p = some r := by
  unfold spec_CellOf.f impl_CellOf.f
  simp only [impl_wide_is, Option.bind_some, in_inB, between_inB]
  by_cases h : wideB k m u s l = true
  · by_cases hp : inB p 0 (wrap64 (s - 1)) = true
    · obtain ⟨c, e1, e2⟩ := cell_same k m u s l p h hp
      simp only [if_pos h, if_pos hp, e2, Option.bind_some]
      refine ⟨_, Ev.bind (spec_wide_ev k m u s l hl) ?_, rfl⟩
      simp only [if_pos h, if_pos hp, e1]
      exact Ev.now _
    · simp only [if_pos h, if_neg hp]
      refine ⟨_, Ev.bind (spec_wide_ev k m u s l hl) ?_, rfl⟩
      simp only [if_pos h, if_neg hp]
      exact Ev.now _
  · simp only [if_neg h]
    refine ⟨_, Ev.bind (spec_wide_ev k m u s l hl) ?_, rfl⟩
    simp only [if_neg h]
    exact Ev.now _
theorem FnExactCellOf (a0_0 : Int) (a0_1 : Int) (a0_2 : Int) (a0_3 : Int) (l0_4 : List ByteArray) (a1 : Int) (_ : (Lit.int .i64 a0_0).wf = true) (_ : (Lit.int .i64 a0_1).wf = true) (_ : (Lit.int .i64 a0_2).wf = true) (_ : (Lit.int .i64 a0_3).wf = true) (hg : good_t77 l0_4) (_ : (Lit.int .i64 a1).wf = true) : ∃ k, laws_FnExactCellOf.f k a0_0 a0_1 a0_2 a0_3 l0_4 a1 = some true := by
  obtain ⟨t, h1, h2⟩ := szWide_ev a0_0 a0_1 a0_2 a0_3 l0_4 hg.1 hg.2
  obtain ⟨r, g1, g2⟩ := CellOf_both a0_0 a0_1 a0_2 a0_3 l0_4 a1 hg.1
  refine Ev.rounds (r := true) ?_
  unfold laws_FnExactCellOf.f
  refine Ev.bind h2 ?_
  by_cases c : t < 0
  · simp only [if_pos c]
    exact Ev.now _
  · have hl := h1 (by omega)
    have hto := toWide_ev a0_0 a0_1 a0_2 a0_3 l0_4 hl
    have heq := eqWide_ev a0_0 a0_1 a0_2 a0_3 l0_4 hl
    simp only [if_neg c]
    refine Ev.bind hto (Ev.bind g1 (Ev.bind hto ?_))
    simp only [g2, Option.bind_some, if_true, bne_self_eq_false]
    refine Ev.step (f := ?f) (fun k => ?_) ?_
    rotate_left
    · simp only [laws_FnExactCellOf.j0, Bool.false_eq_true, if_false]
      all_goals exact rfl
    · exact Ev.bind hto (Ev.bind heq (ev_some fun k => if_pos rfl))

end Go.Proofs.Ytlocignlkigojaa.Pure
